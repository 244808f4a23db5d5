/-Lemmas for the law. No condition.-/
import Derived.Test.YtjlbgiaeggfcaabGreatDoorWK4
import Derived.Test.YtjlbgiaeggfcaabGreatDoorRows
import Derived.KernelRfl
import Derived.LaidMore
import Derived.Stop.Joined
import Derived.Lib.SlicesCompact
import Derived.Shelf.Sort.Plain
import Derived.Shelf.Slices.CompactI
import Derived.Shelf.Slices.In.SortNone
set_option linter.unusedSimpArgs false
set_option linter.unusedVariables false
open Nat renaming reduceEqDiff->γ,reduceAdd->δ,reduceSub->ε,reduceMul->ζ,reduceLT->η,reduceLeDiff->θ,reduceBEq->τ
open Int renaming reduceLT->ι,reduceLE->κ,reduceEq->μ,reduceToNat->ν,reduceAdd->ξ,reduceNeg->ο,reduceBEq->ρ,reduceBNe->σ
open List renaming reduceReplicate->υ
open List renaming length_map->bhO,range->bhP,getElem_mem->bhS,replicate->bhU,length_append->bhW,getD_eq_getElem?_getD->bhX,all_eq_true->biB,length_singleton->biC,getElem?_eq_getElem->biD,mem_cons->biG,length_take->biI,mem_map->biJ,take_of_length_le->biK,getElem?_map->biL,mem_range->biM,not_mem_nil->biO,take_length->biS,map_cons->biU,map_append->biV,append_assoc->biY,getElem?_eq_some_iff->biZ,mem_append->bjB,getElem_of_mem->bjD,take_succ_eq_append_getElem->bjF,mem_singleton->bjH,append_nil->bjI,getElem?_eq_none->bjJ,getElem_map->bjK,length_cons->bjL,length_set->bjO,map_nil->bjP,drop_eq_getElem_cons->bjS,length_drop->bjZ,range'->bkB,Sublist->bkD,getElem?_append_left->bkE,getElem?_append_right->bkF,length_nil->bkK,map_congr_left->bkP,take_append_drop->bkQ,map_map->bkT,nodup_append->bkV,set_append_right->blC,take_zero->blF,all_cons->blJ,countP_cons->blK,nil_append->blM,countP_append->blO,set_cons_zero->blP,getElem?_range->blX,getElem?_set->blY,mem_or_eq_of_mem_set->blZ,getElem_append_right->bmA,getElem_append_left->bmC
open Bool renaming and_eq_true->bhQ,false_and->bhY,not_true->bhZ,true_and->biA,not_false->biF,and_false->bjE,and_true->bjY,and_self->bkO,and_assoc->blE,or_eq_true->blI
open Nat renaming gcd->bhR,zero_le->bhT,le_refl->bhV,zero_add->biN,le_trans->biQ,lt_or_ge->biR,mod_lt->bjR,pow_succ->bjU,add_zero->bkA,add_assoc->bkL,eq_zero_or_pos->bkM,pos_of_ne_zero->bkN,sub_self->bkR,div_le_self->bkZ,mul_le_mul->blA,mul_one->blB,pow_le_pow_right->blS
open Option renaming map_some->biP,some->bjV,getD_some->bkC
open Int renaming toNat->bjA,toNat_natCast->bjN
open List renaming length->Z'
set_option maxRecDepth 100000
set_option maxHeartbeats 800000
open Go.IntKind renaming i64->i_,u64->u_
open Go.PM.PF renaming nil->n_,args->g_
open Go.PM.PH renaming nil->h_
noncomputable section
namespace Go.Proofs.YtjlbgiaeggfcaabGreatDoor
open Go Go.PM Go.RowKit Go.ChangeShapes Go.WideShapes
noncomputable def C:Ctx:=⟨Tryz.prog,num⟩
def iy:Code->Option (Code × Code)
 | .rangeFunc _ _ a b=>some (a,b)
 | .seq a b=>match iy a with|some x=>some x|none=>iy b
 | .block _ c=>iy c
 |_=>none
def a0A(c:Option Code):Code:=match c with|some c=>((iy c).getD (.skip,.skip)).1|none=>.skip
def a0B(c:Option Code):Code:=match c with|some c=>((iy c).getD (.skip,.skip)).2|none=>.skip
theorem bU(T:Tbl){k:Nat}{fn:Func}{pf:bD}(l:C.P.funcs[C.num k]?=some fn)(e:C.P=T.P:=by rfl)(d:C.num=T.num:=by rfl)(u:(fn.name=="runtime.NumGoroutine")=false:=by kernel_rfl)(i:T.func fn=some pf:=by kernel_rfl):bR C k pf:=λ_ _ _ p h=>Pu e d l u i p h
theorem a0D(T:Tbl){k:Nat}{fn:Func}{pf:IV}(l:C.P.funcs[C.num k]?=some fn)(i:T.aGG fn=some pf)(e:C.P=T.P:=by rfl)(d:C.num=T.num:=by rfl)(u:(fn.name=="runtime.NumGoroutine")=false:=by kernel_rfl):Ag C k pf:=λ_ _ _ p h=>aFV e d l u i p h
theorem Tryz.own:ownKnob Tryz.prog.godebug=none:=by kernel_rfl
theorem Tryz.laidOut:laidOutB Tryz.prog=true:=by kernel_rfl
theorem itoa:IT C:=λn p=>by
 refine⟨⟨Tryz.f90,Tryz.func90,by kernel_rfl,by kernel_rfl⟩,λE w vs u hW d=>?_⟩;obtain⟨x⟩:=vs;cases d with
 |cons i e2=>
 cases e2;cases i;refine(Any.strconv_Itoa_small Tryz.a2N n p w).mono λe y l=>?_;obtain⟨rfl,rfl⟩:=l;exact⟨_,.str (cP n),E,.nil,rfl,hW,.str ⟨(Lib.decDigits n).toArray⟩,.refl _ _ _,rfl,rfl⟩
theorem aLN{pv:PV}(h:PV.Ty (.sl [.int .u8]) pv):∃l:List Nat,pv=.sl 1 (mE l)/\(∀x∈l,x<256)/\Z' l<=9223372036854775807:=by
 obtain⟨xs,rfl,w,e⟩:=Ty.aUW h;refine⟨xs.map bjA,?_,?_,?_⟩
 ·unfold aHH mE;rw[bkT];congr 1;refine bkP λx i=>?_;have:=(e x i).1;simp only[Function.comp];rw[Int.toNat_of_nonneg this]
 ·intro y p;obtain⟨x,d,rfl⟩:=biJ.1 p;have:=(e x d).2;have u:=(e x d).1;have d:IntKind.u8.max=255:=by decide
  rw[d]at this;omega
 ·rw[bhO];have:maxLen<=9223372036854775807:=by decide
  omega
end Go.Proofs.YtjlbgiaeggfcaabGreatDoor
namespace Go.PM
open Go Go.Na
theorem aEO{f:aD}(h:VF f){d:Nat}(e:d<Z' f.bgD){lev:Int}(i:0<=lev)(l:lev<=4):dM f d lev<Z' f.bgG/\lvl f (dM f d lev)=lev:=by
 unfold dM;obtain⟨a,b⟩:=KZ h e (k:=4-lev.toNat) Om;refine⟨a,?_⟩;rw[b];omega
theorem qD{f:aD}(h:VF f){i:Nat}(hi:i<Z' f.bgG):0<=lvl f i/\lvl f i<=4:=by
 rcases bkM i with e|e
 ·rw[e,h.root.2.1];omega
 ·have:=h.dom i e hi;omega


theorem axJ(a b:Nat):mkT (a:Int) (b:Int)=⟨false,aL (a/bhR a b),aL (b/bhR a b)⟩:=by
 have d:decide ((a:Int)<0)=false:=bG Om;have e:decide ((b:Int)<0)=false:=bG Om;unfold mkT pF FV.rf;rw[d,e,Int.natAbs_natCast,Int.natAbs_natCast];rfl
structure SmF(x:RF)(p q:Nat):Prop where
 eq:x=⟨false,aL (p/bhR p q),aL (q/bhR p q)⟩
 a:p<=64
 b:q<=64
 pos:0<q
theorem SmF.mk'{a b:Nat}(d:a<=64)(hb:b<=64)(h:0<b):SmF (mkT (a:Int) (b:Int)) a b:=⟨axJ a b,d,hb,h⟩
theorem SmF.num{x:RF}{a b:Nat}(h:SmF x a b):val x.num=a/bhR a b:=by rw[h.eq,aV]
theorem SmF.den{x:RF}{a b:Nat}(h:SmF x a b):val x.den=b/bhR a b:=by rw[h.eq,aV]
theorem SmF.v{x:RF}{a b:Nat}(h:SmF x a b):x.v=(false,a/bhR a b,b/bhR a b):=by
 unfold RF.v;rw[h.num,h.den,h.eq]
theorem SmF.aiY{x:RF}{a b:Nat}(_:SmF x a b):a/bhR a b<=a:=bkZ ..
theorem SmF.Zw{x:RF}{a b:Nat}(_:SmF x a b):b/bhR a b<=b:=bkZ ..
theorem SmF.den_pos{x:RF}{a b:Nat}(h:SmF x a b):0<b/bhR a b:=Nat.div_pos (Nat.le_of_dvd h.pos (Nat.gcd_dvd_right a b)) (Nat.gcd_pos_of_pos_right a h.pos)
theorem HW{n:Nat}(h:n<=4096):cX n<=32:=(rF n 32).2 Om
theorem aqZ{n:Nat}(h:0<n):0<cX n:=by
 rcases bkM (cX n)with e|e
 ·rw[oP]at e;omega
 ·exact e
theorem CE{a b:Nat}(e:a<=4096)(hb:b<=4096)(h:0<b):cC a b=true:=by
 have i:=HW e;have l:=HW hb;have d:=aqZ h;unfold cC;rw[bA d,bA (Om:cX b<=4096),bA (Om:cX a<=4096)];rfl
theorem axD{n:Bool}{a b:Nat}(d:a<=4096)(hb:b<=4096):jP n a b=.ok (n&&decide (a/bhR a b≠0),a/bhR a b,b/bhR a b):=by
 have e:=HW (biQ (bkZ a (bhR a b)) d);have i:=HW (biQ (bkZ b (bhR a b)) hb);unfold jP;rw[aE Om]
theorem SmF.lim{x:RF}{a b:Nat}(h:SmF x a b):dT x=true:=by
 have l:=h.aiY;have p:=h.Zw;have d:=h.den_pos;have:=h.a;have:=h.b;have e:x.neg=false:=by rw[h.eq]
 unfold dT oZ;rw[h.num,h.den,e,CE Om Om d,aG rfl,axD Om Om];have i:=bkZ (a/bhR a b) (bhR (a/bhR a b) (b/bhR a b));have e2:=bkZ (b/bhR a b) (bhR (a/bhR a b) (b/bhR a b));simp only[bhY,biF,biA,bhQ,dT_];exact⟨HW Om,HW Om⟩
theorem SmF.wL{x:RF}{a b:Nat}(h:SmF x a b)(d:0<a):bZ x=true:=by
 unfold bZ;rw[h.num];exact bA (Nat.ne_of_gt (Nat.div_pos (Nat.le_of_dvd d (Nat.gcd_dvd_left a b)) (Nat.gcd_pos_of_pos_right a h.pos)))
theorem SmF.zero{x:RF}{b:Nat}(h:SmF x 0 b):bZ x=false:=by
 unfold bZ;rw[h.num,Nat.zero_div];rfl
theorem SmF.one{x:RF}{a b:Nat}(h:SmF x a b)(d:a<=b):FO x=true:=by
 have l:=h.aiY;have p:=h.Zw;have e:=h.den_pos;have:=h.a;have:=h.b;have i:x.neg=false:=by rw[h.eq]
 unfold FO;rw[h.num,h.den,i,CE Om Om e];have:a/bhR a b<=b/bhR a b:=Nat.div_le_div_right d;show(true&&decide (eI (a/bhR a b*1) (1*(b/bhR a b))<=0))=true;rw[blB,Nat.one_mul,biA];refine bA ?_;unfold eI;split
 ·decide
 ·split
  ·omega
  ·decide
theorem SmF.ok{x:RF}{a b:Nat}(h:SmF x a b):x.Ok:=by
 have d:=h.aiY;have e:=h.Zw;have:=h.a;have:=h.b;have k1:nl (a/bhR a b)<=1:=(mO _ _).2 Om;have k2:nl (b/bhR a b)<=1:=(mO _ _).2 Om;rw[h.eq];refine⟨aX _,aX _,?_,?_⟩
 ·show(aL _).length<=_;rw[bF];omega
 ·show(aL _).length<=_;rw[bF];omega
theorem a1F:∀c:Fin 9,∀k:Fin 9,c.val+k.val<=8 ->
  (c.val/bhR c.val 8*(8/bhR k.val 8)+k.val/bhR k.val 8*(8/bhR c.val 8))/bhR (c.val/bhR c.val 8*(8/bhR k.val 8)+k.val/bhR k.val 8*(8/bhR c.val 8)) (8/bhR c.val 8*(8/bhR k.val 8))=(c.val+k.val)/bhR (c.val+k.val) 8 /\
  8/bhR c.val 8*(8/bhR k.val 8)/bhR (c.val/bhR c.val 8*(8/bhR k.val 8)+k.val/bhR k.val 8*(8/bhR c.val 8)) (8/bhR c.val 8*(8/bhR k.val 8))=8/bhR (c.val+k.val) 8:=by decide +kernel
abbrev eV(c:Nat):FV:=(false,c/bhR c 8,8/bhR c 8)
theorem pu(c:Nat):0<8/bhR c 8:=Nat.div_pos (Nat.le_of_dvd aS (Nat.gcd_dvd_right c 8)) (Nat.gcd_pos_of_pos_right c aS)
theorem X3{c k:Nat}(h:c+k<=8):gY (eV c) (eV k)=.ok (eV (c+k)):=by
 obtain⟨d,e2⟩:=a1F ⟨c,by omega⟩ ⟨k,by omega⟩ h;simp only at d e2;have a1:=bkZ c (bhR c 8);have a2:=bkZ k (bhR k 8);have a3:=bkZ 8 (bhR c 8);have a4:=bkZ 8 (bhR k 8);have e:=pu c;have i:=pu k;simp only[gY];rw[CE Om Om e,CE Om Om i,bkO,aG rfl,aG trivial];have b1:c/bhR c 8*(8/bhR k 8)<=8*8:=blA Om a4;have b2:k/bhR k 8*(8/bhR c 8)<=8*8:=blA Om a3;have l:8/bhR c 8*(8/bhR k 8)<=8*8:=blA a3 a4;rw[axD Om Om,d,e2];rfl
theorem jl:∀(l:List Nat)(c:Nat),c+l.sum<=8->(l.map eV).foldlM gY (eV c)=.ok (eV (c+l.sum))
 |[],c,_=>rfl
 |k::l,c,h=>by rw[List.sum_cons]at h;rw[biU,List.foldlM_cons,X3 Om,List.sum_cons,<-bkL];exact jl l (c+k) Om
theorem a1E:eV 0=(false,0,1):=by decide +kernel
theorem aTL:eV 8=(false,1,1):=by decide +kernel
theorem a4R(l:List Nat)(h:l.sum=8):(match tA (l.map eV)with
  | .ok (n,a,b)=>decide (sU n a b false 1 1=0)
  | .error _=>false)=true:=by
 unfold tA;rw[<-a1E,jl l 0 Om,biN,h,aTL];rfl
def dig(k:Nat):List UInt8:=if k<10 then[UInt8.ofNat (48+k)]else[UInt8.ofNat (48+k/10),UInt8.ofNat (48+k%10)]
def nt:List UInt8->Nat
 |[a]=>a.toNat-48
 |[a,b]=>(a.toNat-48)*10+(b.toNat-48)
 |_=>0
theorem fk{k:Nat}(h:k<100):cP k=dig k:=by
 unfold cP dig;by_cases d:k<10
 ·rw[aG d];exact Lib.decDigits_one d
 ·rw[aE d];exact Lib.decDigits_two d h
theorem Zy:∀k:Fin 100,nt (dig k.val)=k.val/\(dig k.val).length<=2/\((dig k.val).all λc=>jQ c.toNat)=true:=by decide +kernel
theorem Ls{p:List UInt8}{c:UInt8}{t:List UInt8}(e:p=c::t)(i:gV c.toNat=true)(w:(t.all λc=>jQ c.toNat)=true)(x:Z' p<=8){k:Nat}(l:k<100):isName (p++cP k)=true:=by
 obtain⟨-,u,d⟩:=Zy ⟨k,l⟩;simp only at u d;subst e;rw[fk l];show(decide ((c::t++dig k).length<=16)&&gV c.toNat&&(c::t++dig k).all λc=>jQ c.toNat)=true;have hi:jQ c.toNat=true:=by unfold jQ;rw[i];rfl
 rw[bA (by rw[bhW];omega),i,List.all_append,d,blJ,w,hi];rfl
theorem pt{l:List (List UInt8)}(d:∀x∈l,isName x=true)(p:l.Nodup):distinct l=true:=by
 unfold distinct;rw[biB];intro i hi;rw[biM]at hi;have e:l.getD i []=l[i]:=by simp[bhX,hi]
 rw[e,d _ (bhS hi),biA];have:¬l[i]∈l.take i:=by intro w;obtain⟨j,u,e⟩:=bjD w;rw[biI]at u;rw[List.getElem_take]at e;have:=(List.nodup_iff_pairwise_ne.1 p);rw[List.pairwise_iff_getElem]at this;exact this j i Om hi Om e
 simp[this]
theorem gr{l:List (List UInt8)}{g:List UInt8->Nat}(h:∀i (hi:i<Z' l),g l[i]=i):l.Nodup:=by
 rw[List.nodup_iff_pairwise_ne,List.pairwise_iff_getElem];intro i j hi p hlt e;have d:=h i hi;have u:=h j p;rw[e]at d;omega
theorem AY{l:List (List UInt8)}{p:List UInt8}{c:UInt8}{t:List UInt8}(e:p=c::t)(d:gV c.toNat=true)(w:(t.all λc=>jQ c.toNat)=true)(u:Z' p<=8)(A:Z' l<=100)(h:∀i (hi:i<Z' l),l[i]=p++cP i):distinct l=true:=by
 refine pt ?_ (gr (g:=λs=>nt (s.drop p.length)) ?_)
 ·intro x y;obtain⟨i,hi,rfl⟩:=bjD y;rw[h i hi];exact Ls e d w u Om
 ·intro i hi;rw[h i hi];simp only[List.drop_left];rw[fk Om];exact(Zy ⟨i,by omega⟩).1
structure AL(x:RF):Prop where
 lim:dT x=true
 ok:x.Ok
theorem SmF.o{x:RF}{a b:Nat}(h:SmF x a b):AL x:=⟨h.lim,h.ok⟩
theorem wH:SmF nY 0 1:=SmF.mk' (a:=0) (b:=1) aS aS aS
theorem yW(l:List Nat)(a:Nat):AL (jG l a).1/\bZ (jG l a).1=true:=by
 have d:=cG l (show 0<6 by decide) a;have e:=cG l (show 0<8 by decide) (aF l 6 a).2;have:=SmF.mk' (a:=1+(aF l 6 a).1) (b:=1+(aF l 8 (aF l 6 a).2).1) Om Om Om;exact⟨this.o,this.wL Om⟩
theorem aSP(l:List Nat)(i j a:Nat):AL (mN l i j a).1/\(j=i->bZ (mN l i j a).1=false)/\(j=i+1->bZ (mN l i j a).1=true):=by
 unfold mN;by_cases d:j=i+1
 ·rw[aG d];exact⟨(yW l a).1,λh=>by omega,λ_=>(yW l a).2⟩
 ·rw[aE d];by_cases e:j=i
  ·rw[aG e];exact⟨wH.o,λ_=>wH.zero,λh=>absurd h d⟩
  ·rw[aE e];simp only;split
   ·exact⟨(yW l _).1,λh=>absurd h e,λh=>absurd h d⟩
   ·exact⟨wH.o,λh=>absurd h e,λh=>absurd h d⟩
theorem azZ(l:List Nat)(i a:Nat):∀n,(fD l i a n).1.length=n/\∀j (d:j<(fD l i a n).1.length),AL (fD l i a n).1[j]/\(j=i->bZ (fD l i a n).1[j]=false)/\(j=i+1->bZ (fD l i a n).1[j]=true)
 |0=>⟨rfl,λj d=>absurd d (by simp[fD])⟩
 |n+1=>by
  obtain⟨p,u⟩:=azZ l i a n;have e:(fD l i a (n+1)).1=(fD l i a n).1++[(mN l i n (fD l i a n).2).1]:=rfl;rw[e];refine⟨by simp[p],λj d=>?_⟩;by_cases hlt:j<(fD l i a n).1.length
  ·rw[bmC hlt];exact u j hlt
  ·rw[bhW,biC]at d;have:j=n:=Om;subst this;rw[bmA Om];simp only[List.getElem_singleton];exact aSP l i j _
theorem azY(l:List Nat)(a:Nat):∀n,(pA l a n).1.length=n/\∀x∈(pA l a n).1,AL x/\bZ x=true
 |0=>⟨rfl,λx d=>by cases d⟩
 |n+1=>by
  obtain⟨i,p⟩:=azY l a n;have e:(pA l a (n+1)).1=(pA l a n).1++[(jG l (pA l a n).2).1]:=rfl;rw[e];refine⟨by simp[i],λx d=>?_⟩;rw[bjB,bjH]at d;rcases d with d|rfl
  ·exact p x d
  ·exact yW l _
theorem aTP(l:List Nat)(n i a:Nat):AL (gZ l n i a).1/\(i+1=n->bZ (gZ l n i a).1=true):=by
 unfold gZ;by_cases h:i+1<n
 ·simp only[aG h];refine⟨?_,λd=>by omega⟩;split
  ·exact wH.o
  ·exact(yW l a).1
 ·simp only[aE h];exact⟨(yW l a).1,λ_=>(yW l a).2⟩
def a5U(n:Nat)(bgI:List (List RF)):Prop:=∀i (hi:i<Z' bgI),bgI[i].length=n/\∀j (d:j<bgI[i].length),AL bgI[i][j]/\(j=i->bZ bgI[i][j]=false)/\(j=i+1->bZ bgI[i][j]=true)
def a5R(n:Nat)(exit:List RF):Prop:=∀i (hi:i<Z' exit),AL exit[i]/\(i+1=n->bZ exit[i]=true)
structure bcQ(n i:Nat)(s:NR)(cs:List Nat):Prop where
 start:s.start=cs.map λc=>mkT ((c:Nat):Int) ((8:Nat):Int)
 lens:Z' s.exit=i/\Z' s.bgI=i/\Z' cs=i
 left:cs.sum+s.left=8/\(i=n->0<n->s.left=0)
 exit:a5R n s.exit
 bgI:a5U n s.bgI
theorem zG{α:Type}{P:Nat->α->Prop}{xs:List α}{x:α}(h:∀i (hi:i<Z' xs),P i xs[i])(d:P xs.length x):∀i (hi:i<(xs++[x]).length),P i (xs++[x])[i]:=by
 intro i hi;by_cases hlt:i<Z' xs
 ·rw[bmC hlt];exact h i hlt
 ·rw[bhW,biC]at hi;have:i=Z' xs:=Om;subst this;rw[bmA Om];simpa using d
theorem Qm(l:List Nat)(n a:Nat):∀i,i<=n->∃cs,bcQ n i (kA l n a i) cs
 |0,_=>⟨[],rfl,⟨rfl,rfl,rfl⟩,⟨rfl,λh d=>by omega⟩,λi hi=>absurd hi (by simp[kA]),λi hi=>absurd hi (by simp[kA])⟩
 |i+1,hi=>by
  obtain⟨cs,u,⟨d,p,w⟩,⟨h5,-⟩,y,h7⟩:=Qm l n a i Om;generalize B:kA l n a i=s at *
  have e:kA l n a (i+1)=⟨s.start++[mkT ((fB l n i s).1:Nat) 8],s.exit++[(gZ l n i (fB l n i s).2).1],s.bgI++[(fD l i (gZ l n i (fB l n i s).2).2 n).1],s.left-(fB l n i s).1,(fD l i (gZ l n i (fB l n i s).2).2 n).2⟩:=by simp only[kA,B]
  rw[e];have A:(fB l n i s).1<=s.left/\(i+1=n->(fB l n i s).1=s.left):=by
   unfold fB;split
   ·exact⟨by have:=cG l (Om:0<s.left+1) s.a;omega,λh=>by omega⟩
   ·exact⟨bhV _,λ_=>rfl⟩
  refine⟨cs++[(fB l n i s).1],?_,⟨by simp[d],by simp[p],by simp[w]⟩,⟨?_,λh _=>?_⟩,?_,?_⟩
  ·simp only[u,biV,biU,bjP];rfl
  ·simp only[List.sum_append,List.sum_cons,List.sum_nil];omega
  ·have:=A.2 h;simp only;omega
  ·refine zG (P:=λi x=>AL x/\(i+1=n->bZ x=true)) y ?_;rw[d];exact aTP l n i _
  ·refine zG (P:=λi (r:List RF)=>Z' r=n/\∀j (E:j<Z' r),AL r[j]/\(j=i->bZ r[j]=false)/\(j=i+1->bZ r[j]=true)) h7 ?_;rw[p];exact azZ l i _ n
theorem aTN{x:cW}{e r:RF}(d:x.exit=[e])(i:x.bgI=[[r]])(l:bZ e=true):uS x=true:=by
 unfold uS;rw[d];show((eC x 2).all id)=true;simp only[eC,dY,pI,dD,d,i,bjL,bkK,List.getD_cons_zero,biU,bjP,l];cases bZ r<;>rfl
theorem it{x:cW}{u w d e i l:RF}(y:x.exit=[u,w])(A:x.bgI=[[d,e],[i,l]])(B:bZ w=true)(E:bZ e=true)(a b:Bool) :
  ∃c,dY x [a,b] 2=[c,true]/\(b=true->c=true)/\(a=true->c=true):=by
 have F:pI x [a,b] 0=[((a||bZ u)||bZ d&&(a||bZ u))||b,b]:=by unfold pI;rw[y,A];simp only[List.getD_cons_zero,biU,blP];generalize(a||bZ u)=c;show dD [c,b] 0 [d,e] 2=_;have:dD [c,b] 0 [d,e] 1=[c||bZ d&&c,b]:=rfl;show(let p:=dD [c,b] 0 [d,e] 1;p.set 0 (p.getD 0 false||([d,e].map bZ).getD 1 false&&p.getD 1 false))=_;rw[this];show[(c||bZ d&&c)||(bZ e&&b),b]=_;rw[E,biA]
 have H:∀c,pI x [c,b] 1=[c,true]:=by intro c;unfold pI;rw[y,A];have:dD [c,true] 1 [i,l] 1=[c,true||bZ i&&c]:=rfl;show dD [c,b||bZ w] 1 [i,l] 2=_;rw[B,Bool.or_true];show(let p:=dD [c,true] 1 [i,l] 1;p.set 1 (p.getD 1 false||([i,l].map bZ).getD 1 false&&p.getD 1 false))=_;rw[this,Bool.true_or];show[c,true||bZ l&&true]=_;rw[Bool.true_or]
 refine⟨_,by rw[show dY x [a,b] 2=pI x (pI x [a,b] 0) 1 from rfl,F,H],?_,?_⟩
 ·rintro rfl;rw[Bool.or_true]
 ·rintro rfl;simp
theorem aTO{x:cW}{l E y i A B:RF}(d:x.exit=[l,E])(p:x.bgI=[[y,i],[A,B]])(u:bZ E=true)(w:bZ i=true):uS x=true:=by
 unfold uS;rw[d];show((eC x 3).all id)=true;have e:∀r,eC x (r+1)=dY x (eC x r) 2:=λr=>by rw[eC,d];rfl
 have l:eC x 0=[false,false]:=by rw[eC,d];rfl
 obtain⟨F,k1,-,-⟩:=it d p u w false false;obtain⟨H,k2,N,-⟩:=it d p u w F true;obtain⟨M,J,K,-⟩:=it d p u w H true;rw[e,e,e,l,k1,k2,J,K rfl];rfl
theorem aeJ{c:Nat}:∀{cs:List Nat},c∈cs->c<=cs.sum
 |k::t,h=>by
  rw[List.sum_cons];rcases biG.1 h with rfl|h
  ·omega
  ·have:=aeJ h;omega
theorem mh{α:Type}{l:List α}(h:Z' l=2):∃a b,l=[a,b]:=by
 match l,h with
 |[a,b],_=>exact⟨a,b,rfl⟩
theorem a7W(cs:List Nat)(h:cs.sum=8):(match tA ((cs.map λc=>mkT ((c:Nat):Int) ((8:Nat):Int)).map RF.v)with
  | .ok (n,a,b)=>decide (sU n a b false 1 1=0)
  | .error _=>false)=true:=by
 have i:∀c∈cs,c<=8:=λc d=>by have:=aeJ d;omega
 have e:((cs.map λc=>mkT ((c:Nat):Int) ((8:Nat):Int)).map RF.v)=cs.map eV:=by rw[bkT];refine bkP λc d=>?_;have:=i c d;exact(SmF.mk' (a:=c) (b:=8) Om aS aS).v
 rw[e];exact a4R cs h
theorem HV{α:Type}{p:α->Bool}{l:List α}(h:∀i (hi:i<Z' l),p l[i]=true):l.all p=true:=by
 rw[biB];intro x d;obtain⟨i,hi,rfl⟩:=bjD d;exact h i hi
theorem aHK(l:List Nat)(a:Nat)(K:List UInt8):oV { (xN l 2 a).1 with name:=K }=true/\({ (xN l 2 a).1 with name:=K }:cW).Ok:=by
 obtain⟨n,hn⟩:∃n,n=1+(aF l 2 a).1:=⟨_,rfl⟩;have W:n=1\/n=2:=by have:=cG l (show 0<2 by decide) a;omega
 obtain⟨cs,O,⟨Z,h3,h4⟩,⟨h5,R⟩,M,h7⟩:=Qm l n (aF l 2 a).2 n (bhV _);generalize hs:kA l n (aF l 2 a).2 n=s at *
 have e:({ (xN l 2 a).1 with name:=K }:cW)=⟨K,s.start,s.bgI,s.exit⟩:=by simp only[xN,<-hn,hs]
 rw[e];have J:cs.sum=8:=by have:=R rfl Om;omega
 have V:∀c∈cs,c<=8:=λc S=>by have:=aeJ S;omega
 have p:∀x∈s.start,AL x:=by intro x d;rw[O]at d;obtain⟨c,S,rfl⟩:=biJ.1 d;have:=V c S;exact(SmF.mk' (a:=c) (b:=8) Om aS aS).o
 have β:Z' s.start=n:=by rw[O,bhO,h4]
 have w:uS ⟨K,s.start,s.bgI,s.exit⟩=true:=by
  rcases W with rfl|rfl
  ·obtain⟨e,A⟩:=List.length_eq_one_iff.1 Z;obtain⟨η,u⟩:=List.length_eq_one_iff.1 h3;have X:=(h7 0 Om).1;obtain⟨r,H⟩:=List.length_eq_one_iff.1 X;have d:=(M 0 Om).2 rfl;simp only[u,List.getElem_cons_zero]at H;simp only[A,List.getElem_cons_zero]at d;exact aTN A (by rw[u,H]) d
  ·obtain⟨e0,e1,A⟩:=mh Z;obtain⟨r0,r1,u⟩:=mh h3;have E:=(h7 0 Om).1;have F:=(h7 1 Om).1;have d:=(M 1 Om).2 rfl;have Y:=((h7 0 Om).2 1 Om).2.2 rfl;simp only[A,List.getElem_cons_succ,List.getElem_cons_zero]at d;simp only[u,List.getElem_cons_succ,List.getElem_cons_zero]at E F Y;obtain⟨γ,δ,y⟩:=mh E;obtain⟨ε,ζ,Q⟩:=mh F;simp only[y,List.getElem_cons_succ,List.getElem_cons_zero]at Y;exact aTO A (by rw[u,y,Q]) d Y
 constructor
 ·unfold oV;simp only[bhQ];refine⟨⟨⟨⟨⟨⟨⟨?_,?_⟩,?_⟩,?_⟩,?_⟩,?_⟩,?_⟩,w⟩
  ·rw[within_iff];omega
  ·exact bA Om
  ·exact bA Om
  ·exact biB.2 λx d=>(p x d).lim
  ·exact HV λi hi=>(M i hi).1.lim
  ·rw[biB];intro i hi;rw[biM]at hi;obtain⟨k1,k2⟩:=h7 i hi;have eg:s.bgI.getD i []=s.bgI[i]:=by simp[bhX,hi]
   rw[eg,bhQ,bhQ];refine⟨⟨bA Om,HV λj U=>(k2 j U).1.lim⟩,?_⟩;have B:i<s.bgI[i].length:=Om;rw[getD_at B,(k2 i B).2.1 rfl];rfl
  ·rw[O];exact a7W cs J
 ·have N:∀m:Nat,m<=2->m<=9223372036854775807:=λm hm=>by omega
  have α:n<=2:=Om;refine⟨⟨?_,λx d=>(p x d).ok⟩,⟨?_,λx d=>?_⟩,?_,λr u=>⟨?_,λx d=>?_⟩⟩
  ·exact N s.start.length Om
  ·exact N s.exit.length Om
  ·obtain⟨i,hi,rfl⟩:=bjD d;exact(M i hi).1.ok
  ·exact N s.bgI.length Om
  ·obtain⟨i,hi,rfl⟩:=bjD u;have:=(h7 i hi).1;exact N (s.bgI[i]'hi).length Om
  ·obtain⟨i,hi,rfl⟩:=bjD u;obtain⟨j,U,rfl⟩:=bjD d;exact((h7 i hi).2 j U).1.ok
theorem qc(l:List Nat)(a:Nat):∀n,(kV l a n).1.length=n/\∀i (hi:i<(kV l a n).1.length),(kV l a n).1[i].name=[108,97,119]++cP i/\oV (kV l a n).1[i]=true/\(kV l a n).1[i].Ok
 |0=>⟨rfl,λi hi=>absurd hi (by simp[kV])⟩
 |n+1=>by obtain⟨d,p⟩:=qc l a n;have e:(kV l a (n+1)).1=(kV l a n).1++[{ (xN l 2 (kV l a n).2).1 with name:=[108,97,119]++cP n }]:=rfl;rw[e];refine⟨by simp[d],zG (P:=λi (x:cW)=>x.name=[108,97,119]++cP i/\oV x=true/\x.Ok) p ?_⟩;rw[d];exact⟨rfl,aHK l _ _⟩
theorem bi(l:List Nat)(bgK:Nat)(u:0<bgK)(a:Nat):∀n,(fT l bgK a n).1.length=n/\∀i (hi:i<(fT l bgK a n).1.length),(fT l bgK a n).1[i].name=[109]++cP i/\∃e p w:Nat,(fT l bgK a n).1[i].bgT=e/\1<=e/\e<=4/\(fT l bgK a n).1[i].port=p/\1<=p/\p<=8/\(fT l bgK a n).1[i].law=w/\w<bgK
 |0=>⟨rfl,λi hi=>absurd hi (by simp[fT])⟩
 |n+1=>by
  obtain⟨d,y⟩:=bi l bgK u a n;obtain⟨s,A⟩:∃s,s=fT l bgK a n:=⟨_,rfl⟩;have e:(fT l bgK a (n+1)).1=(fT l bgK a n).1++[⟨[109]++cP n,(1+(aF l 4 s.2).1:Nat),(1+(aF l 8 (aF l 4 s.2).2).1:Nat),((aF l bgK (aF l 8 (aF l 4 s.2).2).2).1:Nat)⟩]:=by rw[A];rfl
  rw[e];refine⟨by simp[d],zG (P:=λi (x:dS)=>x.name=[109]++cP i/\∃e p w:Nat,x.bgT=e/\1<=e/\e<=4/\x.port=p/\1<=p/\p<=8/\x.law=w/\w<bgK) y ?_⟩;rw[d];have k1:=cG l (show 0<4 by decide) s.2;have k2:=cG l (show 0<8 by decide) (aF l 4 s.2).2;have B:=cG l u (aF l 8 (aF l 4 s.2).2).2;exact⟨rfl,_,_,_,rfl,by omega,by omega,rfl,by omega,by omega,rfl,B⟩
theorem HG(l:List Nat)(a:Nat):∃n:Nat,(kX l a).1=n/\n<=3:=by
 have h:=cG l (show 0<3 by decide) (aF l 3 a).2;unfold kX;simp only;split
 ·exact⟨1+(aF l 3 (aF l 3 a).2).1,rfl,by omega⟩
 ·exact⟨0,rfl,by omega⟩
theorem fX{n lo hi:Int}(d:lo<=n)(e:n<=hi):within n lo hi=true:=within_iff.2 ⟨d,e⟩
theorem a7E{y:List UInt8}{k m q s1 s2 s3 s4 g h:Nat}{ms:List Int}{u:List RF}{mc:Nat}(B:1<=k)(E:k<=2)(S:m<=2)(H:k<=q)(J:q<=k+m)(K:s1<=3)(A:s2<=3)(M:s3<=3)(N:s4<=3)(Q:g<=8)(R:h<=4)
  (p:Z' u=max m 1) (l:∀x∈u,AL x/\bZ x=true)
  (F:mc<=2) (d:∃f:Nat,f<mc/\(ms=[(f:Int)]\/mc=2/\ms=[(f:Int),1-(f:Int)])) :
  mW mc ⟨y,(k:Nat),(m:Nat),(q:Nat),0,(s1:Nat),(s2:Nat),(s3:Nat),(s4:Nat),ms,u,mkT (g:Nat) ((8:Nat):Int),mkT (h:Nat) ((1:Nat):Int)⟩=true /\
  (⟨y,(k:Nat),(m:Nat),(q:Nat),0,(s1:Nat),(s2:Nat),(s3:Nat),(s4:Nat),ms,u,mkT (g:Nat) ((8:Nat):Int),mkT (h:Nat) ((1:Nat):Int)⟩:cE).Ok:=by
 have G:=SmF.mk' (a:=g) (b:=8) Om aS aS;have Z:=SmF.mk' (a:=h) (b:=1) Om aS aS;obtain⟨f,O,d⟩:=d;constructor
 ·unfold mW XC MY;simp only[bhQ,blJ,List.all_nil,bjY];refine⟨⟨⟨⟨⟨⟨⟨⟨fX Om Om,fX Om Om⟩,bA Om⟩,fX Om Om⟩,rfl⟩,fX Om Om,fX Om Om,fX Om Om,fX Om Om,fX Om Om⟩,?_⟩,⟨⟨⟨⟨bA (by rw[p];omega),?_⟩,G.lim⟩,G.one Om⟩,Z.lim⟩⟩,?_⟩
  ·rcases d with e|⟨-,e⟩<;>rw[e]<;>rfl
  ·rw[biB];intro x i;rw[(l x i).1.lim,(l x i).2];rfl
  ·rw[biB];rcases d with rfl|⟨rfl,rfl⟩
   ·intro j w;simp only[bjL,bkK,biM]at w;have:j=0:=Om;subst this;rw[bhQ];exact⟨fX bH (by simp;omega),by simp⟩
   ·intro j w;simp only[bjL,bkK,biM]at w;have:j=0\/j=1:=Om;rcases this with rfl|rfl
    ·rw[bhQ];exact⟨fX bH (by simp;omega),by simp⟩
    ·rw[bhQ];refine⟨fX (by simp;omega) (by simp;omega),?_⟩;have:¬(1-(f:Int)=f):=Om;simp[this]
 ·refine⟨by unfold dL;constructor<;>simp only<;>omega,by unfold dL;constructor<;>simp only<;>omega,by unfold dL;constructor<;>simp only<;>omega,?_,?_,⟨?_,λx i=>(l x i).1.ok⟩,G.ok,Z.ok⟩
  ·show ms.length<=_;rcases d with e|⟨-,e⟩<;>rw[e]<;>simp
  ·show ∀x∈ms,dL x;unfold dL;rcases d with e|⟨A,e⟩<;>rw[e]<;>intro x i<;>simp only[biG,biO,or_false]at i
   ·subst i;omega
   ·rcases i with rfl|rfl<;>omega
  ·show u.length<=_;rw[p];omega
theorem Wd(l:List Nat){mc:Nat}(x:0<mc)(y:mc<=2)(i a:Nat):(rG l mc i a).1.name=[112]++cP i/\mW mc (rG l mc i a).1=true/\(rG l mc i a).1.Ok:=by
 refine⟨rfl,?_⟩;have H:=cG l (show 0<2 by decide) a;have J:=cG l (show 0<3 by decide) (aF l 2 a).2;have F:=cG l (show 0<4 by decide) (aF l 3 (aF l 2 a).2).2;unfold rG;simp only;generalize aF l 2 a=k at *
 generalize aF l 3 k.2=m at *
 generalize aF l 4 m.2=h at *
 have K:=cG l (Om:0<m.1+1) h.2;generalize aF l (m.1+1) h.2=q at *
 obtain⟨r1,r2⟩:=azY l q.2 (max m.1 1);generalize pA l q.2 (max m.1 1)=r at *
 have E:=cG l (show 0<9 by decide) r.2;generalize aF l 9 r.2=g at *
 obtain⟨M,p,b1⟩:=HG l g.2;generalize kX l g.2=s1 at *
 obtain⟨N,e2,b2⟩:=HG l s1.2;generalize kX l s1.2=s2 at *
 obtain⟨O,u,d⟩:=HG l s2.2;generalize kX l s2.2=s3 at *
 obtain⟨Q,w,e⟩:=HG l s3.2;generalize kX l s3.2=s4 at *
 have A:=cG l x s4.2;generalize aF l mc s4.2=f at *
 generalize aF l 2 f.2=b at *
 rw[p,e2,u,w];refine a7E Om Om Om Om Om b1 b2 d e Om Om r1 r2 y ⟨f.1,A,?_⟩;split
 ·rename_i B;split
  ·exact .inr ⟨by omega,rfl⟩
  ·exact .inl rfl
 ·exact .inl rfl
theorem MX(l:List Nat){mc:Nat}(d:0<mc)(p:mc<=2)(a:Nat):∀n,(fF l mc a n).1.length=n/\∀i (hi:i<(fF l mc a n).1.length),(fF l mc a n).1[i].name=[112]++cP i/\mW mc (fF l mc a n).1[i]=true/\(fF l mc a n).1[i].Ok
 |0=>⟨rfl,λi hi=>absurd hi (by simp[fF])⟩
 |n+1=>by obtain⟨k1,k2⟩:=MX l d p a n;have e:(fF l mc a (n+1)).1=(fF l mc a n).1++[(rG l mc n (fF l mc a n).2).1]:=rfl;rw[e];refine⟨by simp[k1],zG (P:=λi (x:cE)=>x.name=[112]++cP i/\mW mc x=true/\x.Ok) k2 ?_⟩;rw[k1];exact Wd l d p n _
theorem SV(l:List Nat){pc:Nat}(d:0<pc)(a:Nat):∀n,(fV l pc a n).1.length=n/\∀i (hi:i<(fV l pc a n).1.length),(fV l pc a n).1[i].name=[118]++cP i/\∃p:Nat,(fV l pc a n).1[i].bgP=p/\p<pc
 |0=>⟨rfl,λi hi=>absurd hi (by simp[fV])⟩
 |n+1=>by obtain⟨k1,k2⟩:=SV l d a n;have e:(fV l pc a (n+1)).1=(fV l pc a n).1++[⟨[118]++cP n,((aF l pc (fV l pc a n).2).1:Nat)⟩]:=rfl;rw[e];refine⟨by simp[k1],zG (P:=λi (x:eG)=>x.name=[118]++cP i/\∃p:Nat,x.bgP=p/\p<pc) k2 ?_⟩;rw[k1];exact⟨rfl,_,rfl,cG l d _⟩
abbrev lvs(ds:List cS):List Int:=ds.map cS.level
def bcO(ds:List cS)(i:Nat)(d:cS):Prop:=∃lev p u:Nat,d.name=[qK lev]++cP (i+1)/\d.level=lev/\1<=lev/\lev<=4/\d.parent=p/\p<=i/\(lvs ds)[p]?=some ((lev:Int)-1)/\d.bgX=u/\1<=u/\u<=16/\AL d.bgS
def a5Q(ds:List cS)(mc i:Nat)(d:eJ):Prop:=∃m c:Nat,d.name=[100]++cP i/\d.model=m/\m<mc/\d.machine=c/\(lvs ds)[c]?=some 4
structure GV(mc bgD:Nat)(s:GS):Prop where
 len:Z' s.bgM<=35
 bgW:Z' s.bgW<=bgD
 root:s.bgM[0]?=some rC
 dom:∀i (hi:i+1<Z' s.bgM),bcO s.bgM i s.bgM[i+1]
 drv:∀i (hi:i<Z' s.bgW),a5Q s.bgM mc i s.bgW[i]
theorem GV.a{mc bgD:Nat}{s:GS}(h:GV mc bgD s)(x:Nat):GV mc bgD { s with a:=x }:=⟨h.len,h.bgW,h.root,h.dom,h.drv⟩
theorem acW(l:List Nat){mc bgD dom:Nat}(p:0<mc){s:GS}(h:GV mc bgD s)(w:(lvs s.bgM)[dom]?=some 4):∀n,GV mc bgD (nT l mc bgD dom s n)/\(nT l mc bgD dom s n).bgM=s.bgM
 |0=>⟨h,rfl⟩
 |n+1=>by
  obtain⟨e,u⟩:=acW l p h w n;simp only[nT];generalize nT l mc bgD dom s n=t at *
  split
  ·rename_i hlt;refine⟨⟨e.len,by simp only[bhW,biC];omega,e.root,e.dom,?_⟩,u⟩;refine zG (P:=λi d=>a5Q t.bgM mc i d) e.drv ?_;exact⟨_,dom,rfl,rfl,cG l p _,rfl,by rw[u];exact w⟩
  ·exact⟨e,u⟩
theorem II{ds:List cS}{p:Nat}{x:Int}{t:List cS}(h:(lvs ds)[p]?=some x):(lvs (ds++t))[p]?=some x:=by
 unfold lvs at *
 rw[biV,bkE]
 ·exact h
 ·exact(biZ.1 h).1
theorem a1D(l:List Nat){mc bgD dom level:Nat}{s:GS}(h:GV mc bgD s)(y:1<=level)(J:level<=4)(B:(lvs s.bgM)[dom]?=some ((level:Int)-1))(E:wS bgD s=false) :
  GV mc bgD (sR l level dom s)/\(∃t,(sR l level dom s).bgM=s.bgM++t)/\(sR l level dom s).bgM.length=Z' s.bgM+1/\(lvs (sR l level dom s).bgM)[Z' s.bgM]?=some (level:Int):=by
 unfold wS at E;simp only[Bool.or_eq_false_iff,decide_eq_false_iff_not]at E;have H:dom<Z' s.bgM:=by
  have:=(biZ.1 B).1
  rwa[bhO]at this
 have M:=cG l (show 0<16 by decide) s.a;have K:=cG l (show 0<6 by decide) (aF l 3 (aF l 16 s.a).2).2;unfold sR;simp only;generalize aF l 16 s.a=u at *
 generalize aF l 3 u.2=t at *
 generalize aF l 6 t.2=k at *
 have A:AL (if t.1=0 then(mkT 1 ((2+k.1:Nat):Int),k.2)else(nY,t.2)).1:=by
  split
  ·exact(SmF.mk' (a:=1) (b:=2+k.1) Om Om Om).o
  ·exact wH.o
 generalize(if t.1=0 then(mkT 1 ((2+k.1:Nat):Int),k.2)else(nY,t.2))=sh at *
 refine⟨⟨by simp only[bhW,biC];omega,h.bgW,?_,?_,λi hi=>?_⟩,⟨_,rfl⟩,by simp,?_⟩
 ·rw[bkE Om];exact h.root
 ·intro i hi;simp only[bhW,biC]at hi;by_cases hlt:i+1<Z' s.bgM
  ·rw[bmC hlt];obtain⟨lev,p,v,d,e,w,x,h5,F,h7,h8⟩:=h.dom i hlt;exact⟨lev,p,v,d,e,w,x,h5,F,II h7,h8⟩
  ·have:i+1=Z' s.bgM:=Om;rw[bmA Om];simp only[List.getElem_singleton];exact⟨level,dom,1+u.1,by rw[this],rfl,y,J,rfl,by omega,II B,rfl,by omega,by omega,A⟩
 ·obtain⟨m,c,d,e,w,x,h5⟩:=h.drv i hi;exact⟨m,c,d,e,w,x,II h5⟩
 ·unfold lvs;rw[biV,bkF (by rw[bhO];exact bhV _),bhO,bkR];rfl
theorem acX(l:List Nat){mc bgD dom level:Nat}(i:1<=level)(B:level<=4){rec:Nat->GS->GS}
  (e:∀d t,GV mc bgD t->(lvs t.bgM)[d]?=some (level:Int)->GV mc bgD (rec d t)/\∃u,(rec d t).bgM=t.bgM++u) {s:GS} (h:GV mc bgD s) (A:(lvs s.bgM)[dom]?=some ((level:Int)-1)) :
  ∀n,GV mc bgD (kM l level bgD dom rec s n)/\∃u,(kM l level bgD dom rec s n).bgM=s.bgM++u
 |0=>⟨h,[],by simp[kM]⟩
 |n+1=>by
  obtain⟨y,u,p⟩:=acX l i B e h A n;simp only[kM];generalize kM l level bgD dom rec s n=t at *
  split
  ·exact⟨y,u,p⟩
  ·rename_i E;have x:(lvs t.bgM)[dom]?=some ((level:Int)-1):=by rw[p];exact II A
   obtain⟨k1,⟨v,k2⟩,F,H⟩:=a1D l y i B x (by simpa using E);obtain⟨J,w,K⟩:=e ((sR l level dom t).bgM.length-1) (sR l level dom t) k1 (by rw[F,Nat.add_sub_cancel];exact H);exact⟨J,u++(v++w),by rw[K,k2,p];simp⟩
theorem acY(l:List Nat){mc bgD:Nat}(e:0<mc):∀(k:Nat),k<=4->∀(dom:Nat){s:GS},GV mc bgD s->(lvs s.bgM)[dom]?=some (4-(k:Int))->GV mc bgD (gT l mc bgD k dom s)/\∃u,(gT l mc bgD k dom s).bgM=s.bgM++u
 |0,_,dom,s,h,i=>by simp only[gT];obtain⟨w,x⟩:=acW l e (h.a (aF l 2 s.a).2) i (1+(aF l 2 s.a).1);exact⟨w,[],by rw[x];simp⟩
 |k+1,A,dom,s,h,i=>by
  simp only[gT];refine acX l Om Om (λd t y p=>acY l e k Om d y ?_) (h.a (aF l 2 s.a).2) ?_ _
  ·rw[p];congr 1;omega
  ·rw[i];congr 1;omega
theorem Qo(lev:Nat)(d:1<=lev)(e:lev<=4):gV (qK lev).toNat=true/\qK lev≠100:=by
 have:lev=1\/lev=2\/lev=3\/lev=4:=Om;rcases this with rfl|rfl|rfl|rfl<;>decide
theorem Hr(c:UInt8){k:Nat}(d:k<100):nt (([c]++cP k).drop 1)=k:=by
 show nt (cP k)=k;rw[fk d];exact(Zy ⟨k,d⟩).1
theorem arM{mc bgD:Nat}{s:GS}(h:GV mc bgD s)(K:bgD<=60):distinct ((s.bgM.drop 1).map cS.name++s.bgW.map eJ.name)=true:=by
 have w:∀i (hi:i<((s.bgM.drop 1).map cS.name).length),∃lev:Nat,1<=lev/\lev<=4/\((s.bgM.drop 1).map cS.name)[i]=[qK lev]++cP (i+1):=by intro i hi;rw[bhO,bjZ]at hi;obtain⟨lev,p,u,d,-,F,l,-⟩:=h.dom i Om;refine⟨lev,F,l,?_⟩;rw[bjK,List.getElem_drop];simp only[Nat.add_comm 1 i];exact d
 have hB:∀i (hi:i<(s.bgW.map eJ.name).length),(s.bgW.map eJ.name)[i]=[100]++cP i:=by intro i hi;rw[bhO]at hi;obtain⟨m,c,d,-⟩:=h.drv i hi;rw[bjK];exact d
 have M:((s.bgM.drop 1).map cS.name).length<=40:=by rw[bhO,bjZ];have:=h.len;omega
 have N:(s.bgW.map eJ.name).length<=60:=by rw[bhO];have:=h.bgW;omega
 generalize(s.bgM.drop 1).map cS.name=A at *
 generalize s.bgW.map eJ.name=B at *
 refine pt ?_ ?_
 ·intro x hx;rcases bjB.1 hx with hx|hx
  ·obtain⟨i,hi,rfl⟩:=bjD hx;obtain⟨lev,d,l,e⟩:=w i hi;rw[e];exact Ls rfl (Qo lev d l).1 rfl bH Om
  ·obtain⟨i,hi,rfl⟩:=bjD hx;rw[hB i hi];exact Ls rfl aS rfl bH Om
 ·rw[bkV];refine⟨?_,?_,?_⟩
  ·refine gr (g:=λs=>nt (s.drop 1)-1) λi hi=>?_;obtain⟨lev,-,-,e⟩:=w i hi;rw[e,Hr _ Om];omega
  ·refine gr (g:=λs=>nt (s.drop 1)) λi hi=>?_;rw[hB i hi];exact Hr _ Om
  ·intro x hx y J e;obtain⟨i,hi,rfl⟩:=bjD hx;obtain⟨j,H,rfl⟩:=bjD J;obtain⟨lev,d,l,E⟩:=w i hi;rw[E,hB j H]at e;exact(Qo lev d l).2 (List.cons.inj e).1
theorem aXC{mc bgD a:Nat}:GV mc bgD ⟨[rC],[],a⟩:=
 ⟨by simp,bhT _,rfl,λi hi=>absurd hi bH,λi hi=>absurd hi bH⟩
theorem a1Z{mc bgD:Nat}{s:GS}(h:GV mc bgD s)(f:aD)(A:f.bgG=s.bgM):tL f=true:=by
 have x:=h.root;have w:=h.dom;unfold tL;rw[A];cases d:s.bgM with
 |nil=>rw[d]at x;cases x
 |cons r t=>
  rw[d]at x;have:r=rC:=by simpa using x
  subst this;show MD f rC t=true;unfold MD;simp only[bhQ];refine⟨⟨⟨⟨⟨⟨rfl,rfl⟩,rfl⟩,rfl⟩,wH.lim⟩,by rw[show rC.bgS=nY from rfl,wH.zero];rfl⟩,?_⟩;rw[biB];intro i hi;rw[biM]at hi;rw[biD hi];obtain⟨lev,p,u,B,y,F,H,h5,J,h7,h8,K,E,l⟩:=w i (by rw[d];simp;omega);have e:s.bgM[i+1]'(by rw[d];simp;omega)=t[i]:=by simp[d]
  rw[e]at B y h5 h8 l;show UH f i t[i]=true;unfold UH;simp only[bhQ];refine⟨⟨⟨⟨?_,?_⟩,?_⟩,?_⟩,l.lim⟩
  ·rw[h5];exact fX Om Om
  ·rw[h5,y,A,bjN,bhX,h7,I4 Om Om];exact bA rfl
  ·rw[y];exact fX Om Om
  ·rw[h8];exact fX Om Om
theorem d3(l:List Nat)(bgD bgF a:Nat)(hd:bgD<=24)(hv:bgF<=12) :
  dC (kO l bgD bgF a).1=true/\(kO l bgD bgF a).1.Ok:=by
 unfold kO;simp only;have he:=cG l (show 0<2 by decide) a;generalize aF l 2 a=e at *
 have γ:=cG l (show 0<2 by decide) e.2;generalize aF l 2 e.2=F at *
 obtain⟨w1,U⟩:=qc l F.2 (1+F.1);generalize kV l F.2 (1+F.1)=bgK at *
 have δ:=cG l (show 0<2 by decide) bgK.2;generalize aF l 2 bgK.2=B at *
 obtain⟨X,Y⟩:=bi l (1+F.1) Om B.2 (1+B.1);generalize fT l (1+F.1) B.2 (1+B.1)=bgE at *
 obtain⟨G,-⟩:=acY l (mc:=1+B.1) (bgD:=bgD) Om 4 aS 0 (s:=⟨[rC],[],bgE.2⟩) aXC rfl;generalize gT l (1+B.1) bgD 4 0 ⟨[rC],[],bgE.2⟩=g at *
 have ε:=cG l (show 0<2 by decide) g.a;generalize aF l 2 g.a=pl at *
 obtain⟨p1,R⟩:=MX l (mc:=1+B.1) Om Om pl.2 (1+pl.1);generalize fF l (1+B.1) pl.2 (1+pl.1)=pols at *
 have ζ:=cG l (Om:0<bgF+1) pols.2;generalize aF l (bgF+1) pols.2=J at *
 obtain⟨v1,S⟩:=SV l (pc:=1+pl.1) Om J.2 J.1;generalize fV l (1+pl.1) J.2 J.1=vols at *
 have g1:=G.len;have g2:=G.bgW;have Q:∀f:aD,f.bgG=g.bgM->tL f=true:=λf hf=>a1Z G f hf;have d:∀n:Nat,n<=1000->n<=9223372036854775807:=λn h=>by omega
 have E:∀x∈g.bgW,∃m c:Nat,x.model=m/\m<1+B.1/\x.machine=c/\c<Z' g.bgM/\(lvs g.bgM)[c]?=some 4:=by
  intro x w;obtain⟨i,hi,rfl⟩:=bjD w;obtain⟨m,c,-,O,V,W,h5⟩:=G.drv i hi;refine⟨m,c,O,V,W,?_,h5⟩;have:=(biZ.1 h5).1
  rwa[bhO]at this
 constructor
 ·unfold dC;rw[Q _ rfl];simp only[bhQ,bjY];refine⟨⟨?_,⟨⟨⟨⟨?_,?_⟩,?_⟩,?_⟩,?_⟩⟩,⟨⟨⟨?_,?_⟩,arM G Om⟩,?_⟩,?_⟩
  ·unfold sY;simp only[bhQ];exact⟨⟨⟨⟨⟨⟨fX Om Om,bA Om⟩,bA Om⟩,bA Om⟩,bA Om⟩,bA Om⟩,bA Om⟩
  ·exact HV λi hi=>(U i hi).2.1
  ·refine HV λi hi=>?_;obtain⟨-,x,y,z,A,e2,H,K,M,e6,Z,e8⟩:=Y i hi;unfold oY;simp only[bhQ];rw[A,K,Z,w1];exact⟨⟨fX Om Om,fX Om Om⟩,fX Om Om⟩
  ·rw[biB];intro x w;obtain⟨m,c,A,e2,H,K,M⟩:=E x w;unfold mH;simp only[bhQ];rw[A,H,X,bjN,bhX,M];exact⟨⟨fX Om Om,fX Om Om⟩,rfl⟩
  ·refine HV λi hi=>?_;rw[X];exact(R i hi).2.1
  ·refine HV λi hi=>?_;obtain⟨-,p,A,e2⟩:=S i hi;unfold tY;rw[A,p1];exact fX Om Om
  ·refine AY (p:=[108,97,119]) rfl aS aS aS (by rw[bhO];omega) λi hi=>?_;rw[bjK];exact(U i (by simpa using hi)).1
  ·refine AY (p:=[109]) rfl aS aS aS (by rw[bhO];omega) λi hi=>?_;rw[bjK];exact(Y i (by simpa using hi)).1
  ·refine AY (p:=[112]) rfl aS aS aS (by rw[bhO];omega) λi hi=>?_;rw[bjK];exact(R i (by simpa using hi)).1
  ·refine AY (p:=[118]) rfl aS aS aS (by rw[bhO];omega) λi hi=>?_;rw[bjK];exact(S i (by simpa using hi)).1
 ·refine⟨d bgK.1.length Om,d bgE.1.length Om,d g.bgM.length Om,d g.bgW.length Om,d pols.1.length Om,d vols.1.length Om,?_,?_,?_,?_,?_⟩
  ·intro x w;obtain⟨i,hi,rfl⟩:=bjD w;exact(U i hi).2.2
  ·intro x w;obtain⟨i,hi,rfl⟩:=bjD w;rcases bkM i with rfl|hp
   ·have:g.bgM[0]=rC:=by have:=G.root;rw[biD hi]at this;exact bjV.inj this
    rw[this];exact⟨wH.ok,by unfold dL;decide,by unfold dL;decide⟩
   ·obtain⟨k,rfl⟩:∃k,i=k+1:=⟨i-1,by omega⟩;obtain⟨lev,p,u,h1,O,V,W,h5,h6,h7,h8,h9,α,N⟩:=G.dom k hi;have β:k+1<Z' g.bgM:=hi;rw[O,h5];exact⟨N.ok,by unfold dL;omega,by unfold dL;omega⟩
  ·intro x w;obtain⟨m,c,A,e2,H,K,M⟩:=E x w;rw[A,H];unfold dL;omega
  ·intro x w;obtain⟨i,hi,rfl⟩:=bjD w;exact(R i hi).2.2
  ·intro x w;obtain⟨i,hi,rfl⟩:=bjD w;obtain⟨-,p,A,e2⟩:=S i hi;rw[A];unfold dL;omega



def mB:=bT [2,44] Proofs.Tryz.f67
def alB:=aA mB 0
def alC:=aA mB 1
def alD:=aA mB 2
def alE:=aA mB 3
def alF:=aA mB 4
def alG:=aA mB 5
def alH:=cV mB 0
def yg:=aA mB 6
def alI:=aA mB 7
def yh:=aA mB 8
def jg:=aA mB 9
def Tw:aC:=(dK alG 15 0 jg (dq alH (jB yg 34 (.region alI) (.region yh))))
def jh:=aA mB 10
def HH:aC:=(sq alB (dP alC 10 alD (sq alE (.seq (cH alF 0 Tw) (sq jh .ret)))))
def W9:bD:=⟨2,47,HH,[.tmp 4]⟩
def yG:=bT [3] Proofs.Tryz.f142
def S5:=aA yG 0
def S6:=aA yG 1
def S7:=aA yG 2
def S8:=aA yG 3
def S4:aC:=(.seq (sq S7 (.cond (Tm 21) .skip (.exit 0))) (.block 1 (.region S8)))
def S9:=aA yG 4
def PY:aC:=(sq S5 (sq S6 (.seq (.block 0 (.loop S4)) (sq S9 .ret))))
def akJ:bD:=⟨3,29,PY,[.tmp 6]⟩
def kC:=bT [2] Proofs.Tryz.f68
def Tk:=aA kC 0
def Tl:=aA kC 1
def Tn:=aA kC 2
def To:=aA kC 3
def Tq:=aA kC 4
def Tr:=aA kC 5
def Ts:=aA kC 6
def Tt:=aA kC 7
def NG:=aA kC 8
def Tu:=aA kC 9
def HF:=aA kC 10
def YE:aC:=(dK Tt 27 2 HF (sq NG (.cond (Tm 49) (.region Tu) .skip)))
def G5:=aA kC 11
def G4:aC:=(dK Tr 18 0 G5 (cH Ts 2 YE))
def G6:=aA kC 12
def QD:aC:=(sq Tk (dP Tl 10 Tn (sq To (.seq (cH Tq 0 G4) (sq G6 .ret)))))
def akW:bD:=⟨2,63,QD,[.tmp 4]⟩
def wA:=bT [2] Proofs.Tryz.f108
def aAF:=aA wA 0
def aAG:=aA wA 1
def aAH:=aA wA 2
def m8:=cV wA 0
def Mo:=aA wA 3
def aAI:=aA wA 4
def aAE:aC:=(dK aAH 9 0 aAI (dq m8 (.cond (Tm 26) (sq Mo .ret) .skip)))
def aAJ:=aA wA 5
def i8:aC:=(sq aAF (.seq (cH aAG 0 aAE) (sq aAJ .ret)))
def aXI:bD:=⟨2,28,i8,[.tmp 4]⟩
def pK:=bT [3,4] Proofs.Tryz.f109
def sd:=aA pK 0
def se:=aA pK 1
def sf:=aA pK 2
def PZ:=cV pK 0
def sg:=aA pK 3
def sj:=aA pK 4
def sb:aC:=(dK sf 12 0 sj (dq PZ (.cond (Tm 26) (sq sg .ret) .skip)))
def sk:=aA pK 5
def FS:aC:=(sq sd (.seq (cH se 0 sb) (sq sk .ret)))
def yc:bD:=⟨3,27,FS,[.tmp 6]⟩
def qG:=bT [3] Proofs.Tryz.f110
def Tb:=aA qG 0
def Tc:=aA qG 1
def Td:=aA qG 2
def Te:=aA qG 3
def i9:=cV qG 0
def Tf:=aA qG 4
def ND:=aA qG 5
def Ta:aC:=(dK Te 12 0 ND (dq i9 (.cond (Tm 35) (.region Tf) .skip)))
def ja:=aA qG 6
def QA:aC:=(sq Tb (sq Tc (.seq (cH Td 0 Ta) (sq ja .ret))))
def akL:bD:=⟨3,39,QA,[.tmp 6]⟩
def dO:=bT [3,27,36,52,81,118,150] Proofs.Tryz.f66
def aAM:=aA dO 0
def aAN:=aA dO 1
def aAO:=aA dO 2
def aAP:=aA dO 3
def Mt:=aA dO 4
def aAQ:=aA dO 5
def aAR:=aA dO 6
def aAS:=aA dO 7
def aAT:=aA dO 8
def Mu:=aA dO 9
def alJ:=aA dO 10
def yn:=aA dO 11
def yi:aC:=(dK aAT 40 0 yn (sq Mu (.cond (Tm 47) (.region alJ) .skip)))
def alK:=aA dO 12
def alL:=aA dO 13
def alM:=aA dO 14
def alN:=aA dO 15
def alO:=aA dO 16
def yo:=aA dO 17
def alP:=aA dO 18
def yq:=aA dO 19
def yj:aC:=(dK alO 64 4 yq (sq yo (.cond (Tm 72) (.region alP) .skip)))
def yr:=aA dO 20
def alQ:=aA dO 21
def yu:=aA dO 22
def yk:aC:=(dK alL 58 2 yu (sq alM (.seq (cH alN 4 yj) (sq yr (.cond (Tm 76) (.region alQ) .skip)))))
def alR:=cV dO 0
def alS:=aA dO 23
def alT:=aA dO 24
def yv:=cV dO 1
def alU:=aA dO 25
def YG:=aA dO 26
def yl:aC:=(dK alT 96 6 YG (dq yv (.cond (Tm 113) (.region alU) .skip)))
def alV:=aA dO 27
def alW:=aA dO 28
def alX:=aA dO 29
def YH:=aA dO 30
def yw:=aA dO 31
def KU:=aA dO 32
def ym:aC:=(dK alW 124 8 KU (sq alX (sq YH (.cond (Tm 145) (.region yw) .skip))))
def alY:=aA dO 33
def ji:aC:=(sq aAM (dP aAN 22 aAO (.seq (sq aAP (sq Mt (.cond (Tm 32) (sq aAQ .ret) .skip))) (sq aAR (.seq (cH aAS 0 yi) (.seq (cH alK 2 yk) (dq alR (.seq (cH alS 6 yl) (.seq (cH alV 8 ym) (sq alY .ret))))))))))
def aXQ:bD:=⟨3,153,ji,[.tmp 6]⟩
def iJ:=bT [3,24,64] Proofs.Tryz.f27
def amH:=aA iJ 0
def amI:=aA iJ 1
def amJ:=aA iJ 2
def y7:=aA iJ 3
def amK:=aA iJ 4
def amL:=aA iJ 5
def amM:=aA iJ 6
def amN:=aA iJ 7
def amO:=cV iJ 0
def amP:=aA iJ 8
def Tx:aC:=(dK amN 28 0 amP (.draw amO))
def Tz:=cV iJ 1
def T0:=aA iJ 9
def T1:=aA iJ 10
def jo:=cV iJ 2
def T2:=aA iJ 11
def jp:=aA iJ 12
def jn:aC:=(dK T1 49 2 jp (dq jo (.cond (Tm 60) (.region T2) .skip)))
def T3:=aA iJ 13
def YK:aC:=(sq amH (dP amI 14 amJ (dP y7 20 amK (sq amL (.seq (cH amM 0 Tx) (dq Tz (.seq (cH T0 2 jn) (sq T3 .ret))))))))
def aJO:bD:=⟨3,67,YK,[.tmp 6]⟩
def so:=bT [3] Proofs.Tryz.f8
def Tg:=aA so 0
def Th:=aA so 1
def QB:aC:=(sq Tg (sq Th .ret))
def akU:bD:=⟨3,17,QB,[.tmp 6]⟩
variable{C:Ctx}
theorem aPS(f:aD)(l:VF f)(d:Nat)(h:d<Z' f.bgD)(level:Int)(x:0<=level)(y:level<=4) :
  PY.wp C (aZ akJ.res (aI (.int .i64 (dM f d level:Nat)))) (g_ [.agg f.cells,.int .i64 d,.int .i64 level]) .nil:=by
 simp only[go_sem,PY,S5,S6,akJ,rL h,l.Lf h];refine wp_loop (α:=Nat) (λk=>(((n_.set 2 (.int .i64 level)).set 3 (.bK f.cells)).set 7 (.int .i64 (upN f k (eM f d))))) (λ_=>.nil) (λk=>k<=4-level.toNat) (λk=>4-level.toNat-k) 0 (bhT _) (by(repeat' (first|exact c_|refine d_ ?_ ?_))<;>first|(simp only[go_sem,upN]<;>rfl)|rfl) a_ ?_;intro k A;obtain⟨i,w⟩:=KZ l h (k:=k) Om;simp only[go_sem,S4,S7,kE i,KE i];by_cases hlt:k<4-level.toNat
 ·have p:lvl f (upN f k (eM f d))>level:=by rw[w];omega
  have u:0<upN f k (eM f d):=by
   rcases bkM (upN f k (eM f d))with e|e
   ·rw[e,l.root.2.1]at w;omega
   ·exact e
  simp only[go_sem,p,S8,kE i,Gn i,l.Mb u i];exact aJ (k+1) hlt Om (by(repeat' (first|exact c_|refine d_ ?_ ?_))<;>first|(simp only[go_sem,upN]<;>rfl)|rfl) a_
 ·have p:¬lvl f (upN f k (eM f d))>level:=by rw[w];omega
  have:k=4-level.toNat:=Om;subst this;simp only[go_sem,p,S9];refine aT (.inr rfl) Ev ?_;rfl
structure aLF(C:Ctx):Prop where
 valid:∀f:aD,f.Ok->aH C 67 [.agg f.cells] .nil (aI (.bool (dC f)))
 wL:∀(f:aD)(d:Nat)(level:Int),VF f->d<Z' f.bgD->0<=level->level<=4->aH C 88 [.agg f.cells,.int .i64 d,.int .i64 level] .nil (aI (.int .i64 (dM f d level:Nat)))
structure b9(C:Ctx):Prop extends aLF C where
 aTX:∀(f:aD)(v:Nat),VF f->v<Z' f.bgF->aH C 82 [.agg f.cells,.int .i64 v] .nil (aI (.int .i64 (kF f v)))
def soS(f:aD):Spec:=λname vs=>match name,vs with
 |88,[_,.int _ d,.int _ l]=>some ([],λ_=>aI (.int .i64 (dM f d.toNat l:Nat)))
 |82,[_,.int _ v]=>some ([],λ_=>aI (.int .i64 (kF f v.toNat)))
 |_,_=>none
theorem aQF(f:aD)(d:Nat)(l:Int):soS f 88 [.agg f.cells,.int .i64 d,.int .i64 l]=some ([],λ_=>aI (.int .i64 (dM f d l:Nat))):=rfl
theorem a6M{f:aD}(hV:VF f){n:Nat}(d:n<Z' f.bgG):0<=lvl f n/\lvl f n<=4:=by
 rcases bkM n with e|e
 ·rw[e,hV.root.2.1];decide
 ·have:=hV.dom n e d;omega
def ui(f:aD)(row:List Int):Int:=match lG (uO f) row 0 with
 |some i=>i
 |none=>-1
theorem a4G(f:aD)(row:List Int)(w:Z' row<=16777216):i8.wp C (aZ aXI.res (aI (.int .i64 (ui f row)))) (g_ [.agg f.cells,ints row]) .nil:=by
 unfold ui;simp only[go_sem,i8,aAF,aAG,aXI];refine wp_loop (α:=Nat) (λk=>(((n_.set 1 (ints row)).set 2 (.bK f.cells)).set 5 (.int .i64 k))) (λ_=>.nil) (λk=>k<=Z' row/\lG (uO f) row 0=lG (uO f) (row.drop k) k) (λk=>Z' row-k) 0 ⟨bhT _,rfl⟩ Lq a_ ?_;rintro k ⟨u,e⟩;simp only[go_sem,aAE,aAH,bhO];by_cases hlt:k<Z' row
 ·have d:(k:Int)<(Z' row:Nat):=Om;have i:(row.map λx=>[PV.int .i64 x])[k]?=some [.int .i64 row[k]]:=by simp[hlt]
  rw[bjS hlt,lG]at e;generalize row[k]=x at *
  simp only[go_sem,d];refine bV .nil eW a_ ?_;by_cases l:x < -1
  ·rw[show uO f x=true from by unfold uO;rw[bA l];rfl,aG rfl]at e;simp only[go_sem,m8,i,l,Mo];refine aT (.inr rfl) Ev ?_;rw[bN,e]
  ·by_cases p:x>=(Z' f.bgD:Nat)
   ·rw[show uO f x=true from by unfold uO;rw[bA p,Bool.or_true],aG rfl]at e;simp only[go_sem,m8,i,l,bhO,p,Mo];refine aT (.inr rfl) Ev ?_;rw[bN,e]
   ·rw[show uO f x=false from by unfold uO;rw[bG l,bG p];rfl,aE aS]at e;simp only[go_sem,m8,i,l,bhO,p,aAI,wZz k];exact aJ (k+1) ⟨hlt,e⟩ Om Lq b_
 ·have d:¬(k:Int)<(Z' row:Nat):=Om;have:k=Z' row:=Om;subst this;rw[List.drop_length,lG]at e;simp only[go_sem,d,aAJ];refine aT (.inr rfl) Ev ?_;rw[bN,e]
theorem a2R{r e:Int}(h:0<=e):max 0 (min r e)=min (max r 0) e:=Om
theorem aJB(f:aD)(room:List Int){k:Nat}(h:k<Z' f.bgD):(fZ f room).take (k+1)=(fZ f room).take k++[pQ f room k]:=by
 have d:k<(fZ f room).length:=by rw[mK];exact h
 rw[bjF d,akD]
theorem aQH(valid:∀f:aD,f.Ok->aH C 67 [.agg f.cells] .nil (aI (.bool (dC f))))(f:aD)(M:f.Ok)(room:List Int) :
  HH.wp C (aZ W9.res (cM (ints (kW f room)))) (g_ [.agg f.cells,ints room]) .nil:=by
 simp only[go_sem,HH,alB,alC,W9];refine aB (valid f M) Sq ?_;unfold kW;cases O:dC f with
 |false =>simp only[go_sem,biF,alD];exact ix Ev
 |true=>
  have hV:=VF.of O;have B:=hV.small.bgD;have w:=mK f room;simp only[go_sem,bhZ,alE,alF];refine wp_loop (α:=Nat × PV × PH) (λt=>((((n_.set 1 (ints room)).set 2 (.bK f.cells)).set 5 (t.2.1)).set 6 (.int .i64 t.1))) (λt=>t.2.2) (λt=>t.1<=Z' f.bgD/\cA t.2.2 1 t.2.1 (bJ ((fZ f room).take t.1))) (λt=>Z' f.bgD-t.1) (0,.aK,.nil) ⟨bhT _,.nil⟩ Lq a_ ?_;rintro⟨k,v,J⟩ ⟨N,p⟩;simp only at N p ⊢;simp only[go_sem,Tw,alG,bhO];by_cases hlt:k<Z' f.bgD
  ·have d:(k:Int)<(Z' f.bgD:Nat):=Om;obtain⟨H,E⟩:=hV.Dg hlt;have y:=hV.model _ (bhS H);rw[E]at y;have u:(1:Nat)*1<=16777216:=by decide
   have e:=aJB f room hlt;have rest:∀(x:Int)(F:PF),x=pQ f room k->((((((n_.set 1 (ints room)).set 2 (.bK f.cells)).set 5 (v)).set 6 (.int .i64 k)).set 7 (.int .i64 x)):PF).le F ->
     aC.wp C (.region yh) (fS 1 (kB C (aC.wp C (.region jg)) (gG (λt:Nat × PV × PH=>((((n_.set 1 (ints room)).set 2 (.bK f.cells)).set 5 (t.2.1)).set 6 (.int .i64 t.1))) (λt=>t.2.2) (λt=>t.1<=Z' f.bgD/\cA t.2.2 1 t.2.1 (bJ ((fZ f room).take t.1))) (λt=>Z' f.bgD-t.1) (Z' f.bgD-k) (fS 0 (kB C (aC.wp C (.seq (.region jh) .ret)) (aZ [.tmp 4] (cM (ints (fZ f room))))))))) F J:=by
    intro x F Q K;refine uY _ (λ_ _ _ _ a b=>Up.up a b) K ?_;simp only[go_sem,yh,u];refine fL (src:=[[.int .i64 x]]) p Sq (by unfold roomFor;rw[dN,biI];simp only[biC,maxLen];omega) λv' H' i _=>?_;rw[aHI,Q,<-e]at i;simp only[go_sem,jg,wZz k];exact aJ (k+1,v',H') ⟨hlt,i⟩ (by simp only;omega) Lq b_
   simp only[aC.wp,go_sem]at rest;simp only[go_sem,d];refine bV .nil eW a_ ?_;simp only[go_sem,alH,rL hlt,hV.SG hlt,Rt H,E];by_cases c:Z' room=Z' f.bgD
   ·have l:k<Z' room:=Om;have A:(room.map λn=>[PV.int .i64 n])[k]?=some [.int .i64 room[k]]:=by simp[l]
    simp only[go_sem,yg,bhO,bY (Om:(Z' room:Int)=(Z' f.bgD:Nat)),alI,A,max_eq,axI];refine rest _ _ ?_ Lq;rw[pQ,aG c,a2R Om,bhX,biD l,bkC]
   ·simp only[go_sem,yg,bhO,bL (Om:(Z' room:Int)≠(Z' f.bgD:Nat))];refine rest _ _ ?_ Lq;rw[pQ,aE c]
  ·have d:¬(k:Int)<(Z' f.bgD:Nat):=Om;have:k=Z' f.bgD:=Om;subst this;rw[<-w,biS]at p;simp only[go_sem,d,jh];exact Mj p Sq
theorem aXP(L:b9 C)(f:aD)(d:f.Ok)(room:List Int) :
  HH.wp C (aZ W9.res (cM (ints (kW f room)))) (g_ [.agg f.cells,ints room]) .nil:=aQH L.valid f d room
theorem asB(f:aD)(hV:VF f)(p:cE)(hp:Fits p.bgE)(d:Nat)(w:d<Z' f.bgD) :
  FS.wp C (aZ yc.res (aI (.bool (p.bgE.contains ((mdl f d:Nat):Int))))) (g_ [.agg p.cells,.agg f.cells,.int .i64 d]) .nil:=by
 have y:Z' p.bgE<=9223372036854775807:=hp;simp only[go_sem,FS,sd,se,yc];refine wp_loop (α:=Nat) (λk=>((((n_.set 2 (.int .i64 d)).set 3 (.bK p.cells)).set 4 (.bK f.cells)).set 7 (.int .i64 k))) (λ_=>.nil) (λk=>k<=Z' p.bgE/\p.bgE.contains ((mdl f d:Nat):Int)=(p.bgE.drop k).contains ((mdl f d:Nat):Int)) (λk=>Z' p.bgE-k) 0 ⟨bhT _,rfl⟩ Lq a_ ?_;rintro k ⟨A,l⟩;simp only[go_sem,sb,sf,bhO];by_cases hlt:k<Z' p.bgE
 ·have i:(k:Int)<(Z' p.bgE:Nat):=Om;have u:(p.bgE.map λx=>[PV.int .i64 x])[k]?=some [.int .i64 p.bgE[k]]:=by simp[hlt]
  rw[bjS hlt,List.contains_cons]at l;have e:(p.bgE[k]==((mdl f d:Nat):Int))=(((mdl f d:Nat):Int)==p.bgE[k]):=BEq.comm;simp only[go_sem,i];refine bV .nil eW a_ ?_;cases c:((mdl f d:Nat):Int)==p.bgE[k]with
  |true =>rw[c]at e;rw[c,Bool.true_or]at l;simp only[go_sem,PZ,u,rL w,hV.SG w,e,sg];refine aT (.inr rfl) Ev ?_;rw[bN,l]
  |false =>rw[c]at e;rw[c,Bool.false_or]at l;simp only[go_sem,PZ,u,rL w,hV.SG w,e,sj,wZz k];exact aJ (k+1) ⟨hlt,l⟩ Om Lq b_
 ·have i:¬(k:Int)<(Z' p.bgE:Nat):=Om;have:k=Z' p.bgE:=Om;subst this;rw[List.drop_length]at l;simp only[go_sem,i,sk];refine aT (.inr rfl) Ev ?_;rw[bN,l];rfl
theorem oo{p:Int->Bool}{xs:List Int}{k:Nat}(h:k<Z' xs):(xs.take (k+1)).countP p=(xs.take k).countP p+if p xs[k]then 1 else 0:=by
 rw[bjF h,blO];by_cases hp:p xs[k]<;>simp[blK,hp]
theorem aPT(L:aLF C)(f:aD)(hV:VF f)(row:List Int)(K:SY f row)(n:Nat)(F:n<Z' f.bgG) :
  QA.wp C (aZ akL.res (aI (.int .i64 (row.countP (lJ f n):Nat)))) (g_ [.agg f.cells,ints row,.int .i64 n]) .nil:=by
 have J:=K.len;have w:=a6M hV F;simp only[go_sem,QA,Tb,Tc,Td,akL];refine wp_loop (α:=Nat) (λk=>(((((n_.set 1 (ints row)).set 2 (.int .i64 n)).set 3 (.bK f.cells)).set 7 (.int .i64 ((row.take k).countP (lJ f n):Nat))).set 8 (.int .i64 k))) (λ_=>.nil) (λk=>k<=Z' row) (λk=>Z' row-k) 0 (bhT _) Lq a_ ?_;intro k O;simp only[go_sem,Ta,Te,bhO];by_cases hlt:k<Z' row
 ·have i:(k:Int)<(Z' row:Nat):=Om;have A:(row.map λx=>[PV.int .i64 x])[k]?=some [.int .i64 row[k]]:=by simp[hlt]
  have Q:=K.at_ _ (bhS hlt);have y:=oo (p:=lJ f n) hlt;have N:(row.take k).countP (lJ f n)<=16777216:=by have:=List.countP_le_length (p:=lJ f n) (l:=row.take k);rw[biI]at this;omega
  have u:lJ f n row[k]=(decide (0<=row[k])&&decide (dM f row[k].toNat (lvl f n)=n)):=rfl;have fin:∀(c:Nat)(B:PF),(row.take (k+1)).countP (lJ f n)=c->((((((n_.set 1 (ints row)).set 2 (.int .i64 n)).set 3 (.bK f.cells)).set 7 (.int .i64 c)).set 8 (.int .i64 (k+1:Nat))):PF).le B->gG (λk:Nat=>(((((n_.set 1 (ints row)).set 2 (.int .i64 n)).set 3 (.bK f.cells)).set 7 (.int .i64 ((row.take k).countP (lJ f n):Nat))).set 8 (.int .i64 k))) (λ_=>.nil) (λk=>k<=Z' row) (λk=>Z' row-k) (Z' row-k) (fS 0 (kB C (aC.wp C (.seq (.region ja) .ret)) (aZ [.tmp 6] (aI (.int .i64 (row.countP (lJ f n):Nat)))))) .normal B .nil:=
   λc B e h=>aJ (k+1) hlt Om (by rw[e];exact h) b_
  generalize(row.take k).countP (lJ f n)=c at *
  generalize row[k]=x at *
  simp only[go_sem,i];refine bV .nil (soS f) a_ ?_;by_cases E:x>=0
  ·obtain⟨d,rfl⟩:∃d:Nat,x=d:=⟨x.toNat,by omega⟩;have M:d<Z' f.bgD:=Om;rw[bA (Om:(0:Int)<=d),biA,bjN]at u;rw[u]at y;simp only[go_sem,i9,A,E,kE F,KE F];refine bX (aQF f d (lvl f n)) (L.wL f d (lvl f n) hV M w.1 w.2) Sq a_ ?_;by_cases H:dM f d (lvl f n)=n
   ·rw[bA H,aG rfl]at y;simp only[go_sem,bY (show((dM f d (lvl f n):Nat):Int)=(n:Int) by omega),Tf,wZz c,ND,wZz k];exact fin (c+1) _ y Lq
   ·rw[bG H,aE aS,bkA]at y;simp only[go_sem,bL (show((dM f d (lvl f n):Nat):Int)≠(n:Int) by omega),ND,wZz k];exact fin c _ y Lq
  ·rw[bG (show ¬0<=x from E),bhY]at u;rw[u,aE aS,bkA]at y;simp only[go_sem,i9,A,E,ND,wZz k];exact fin c _ y Lq
 ·have i:¬(k:Int)<(Z' row:Nat):=Om;have:k=Z' row:=Om;subst this;simp only[go_sem,i,ja,biS];refine aT (.inr rfl) Ev ?_;rfl

theorem akQ(f:aD)(e:VF f)(v:Nat)(h:v<Z' f.bgF) :
  YA.wp C (aZ aJK.res (cM (.int .i64 (kF f v)))) (g_ [.agg f.cells,.int .i64 v]) .nil:=by
 obtain⟨hp,i⟩:=vY e h;have d:=e.bgP _ (bhS hp);rw[i]at d;have l:i_.wrap ((kI f v).k+(kI f v).m)=(kI f v).k+(kI f v).m:=wrap_i64 Om Om;simp only[go_sem,YA,akR,aJK];refine bV .nil eW a_ ?_;simp only[go_sem,akS,Ii h,e.aPA h,PT hp,i];refine aQ λo p=>?_;simp only[go_sem,akT,l];refine⟨a_,?_⟩;exact tW (n:=(kI f v).k+(kI f v).m) Ev rfl
abbrev iiv(l:List Int):P2_:=l.map λx=>[PV.int .i64 x]
def aZM(l:List Nat)(v:PV)(o a:Nat)(f:aD)(r:PV)(H:PH):Prop:=Co r (ints (uX l f a).1)/\H=h_.set o (bB v (uX l f a).2)
theorem i0(l:List Nat){a:Nat}(h:a<=Z' l):∀k,(rX l a k).2<=Z' l/\(rX l a k).1.length=k
 |0=>⟨h,rfl⟩
 |k+1=>by obtain⟨d,e⟩:=i0 l h k;exact⟨bP l 7 d,by simp only[rX,bhW,biC,e]⟩
def agS(f:aD)(o:Nat)(w:PV)(i:Nat):PF:=((((n_.set 0 (.ptr o 2 0 0)).set 3 (.bK f.cells)).set 5 (w)).set 6 (.int .i64 i))
theorem aVY(K:AM C){l:List Nat}{v:PV}(T:Tp l v)(o a:Nat)(f:aD)(W:Z' f.bgD<=1000)(N:a<=Z' l):WQ.wp C (aZ aIA.res (aZM l v o a f)) (g_ [.ptr o 2 0 0,.agg f.cells]) (h_.set o (bB v a)):=by
 have M:aR (h_.set o (bB v a)) [(o,bB v a)] []:=aR.nil.new (H:=h_) rfl (bB v a);simp only[go_sem,WQ,agU,aIA,agV];refine dR K T (o:=o) (n:=4) (a:=a) aS N (by simp only[go_sem];rfl) (M.at 0 rfl) ?_;have u:=M.set 0 rfl (bB v (aF l 4 a).2);rw[PH.set_set]at u;have F:=bP l 4 N;have p:uX l f a=if(aF l 4 a).1=0 then([],(aF l 4 a).2)else rX l (aF l 4 a).2 f.bgD.length:=rfl
 have E:∀r H,aZM l v o a f r H↔Co r (ints (uX l f a).1)/\H=h_.set o (bB v (uX l f a).2):=λ_ _=>Iff.rfl;generalize aF l 4 a=t at *
 by_cases O:t.1=0
 ·rw[aG O]at p;simp only[go_sem,bY (Om:(t.1:Int)=0),agW];refine bE (vs:=[.aK]) (.inr rfl) (h_.set o (bB v t.2)) Sq (e_ a_ (u.at 0 rfl)) ?_;rw[bN,E,p];exact⟨.nil 1,rfl⟩
 rw[aE O]at p;have R:=u.qU 1;simp only[go_sem,bL (Om:(t.1:Int)≠0),agX,agY];refine wp_loop (α:=Nat × PV × PH) (λs=>agS f o s.2.1 s.1) (λs=>s.2.2) (λs=>s.1<=Z' f.bgD/\aR s.2.2 [(o,bB v (rX l t.2 s.1).2)] [(s.2.1,1,iiv (rX l t.2 s.1).1)]) (λs=>Z' f.bgD-s.1) (0,.aK,_) ⟨bhT _,R⟩ ?_ b_ ?_
 ·unfold agS;exact Lq
 rintro⟨k,w,V⟩ ⟨S,e⟩;simp only at S e ⊢;obtain⟨k1,k2⟩:=i0 l F k;simp only[go_sem,agT,agZ,agS,bhO];by_cases hlt:k<Z' f.bgD
 ·have d:(k:Int)<(Z' f.bgD:Nat):=Om;have i:rX l t.2 (k+1)=((rX l t.2 k).1++[((aF l 7 (rX l t.2 k).2).1:Int)-1],(aF l 7 (rX l t.2 k).2).2):=rfl;have Y:=cG l (show 0<7 by decide) (rX l t.2 k).2;generalize X:rX l t.2 k=s at *
  have J:i_.wrap (((aF l 7 s.2).1:Int)-1)=((aF l 7 s.2).1:Int)-1:=wrap_i64 Om Om;have A:(1:Nat)*1<=16777216:=by decide
  simp only[go_sem,d,ahA];refine dR K T (o:=o) (n:=7) (a:=s.2) aS k1 (by simp only[go_sem];rfl) (e.at 0 rfl) ?_;have B:=e.set 0 rfl (bB v (aF l 7 s.2).2);simp only[go_sem,J,A];refine B.append 0 (src:=[[PV.int .i64 (((aF l 7 s.2).1:Int)-1)]]) rfl Sq (by unfold roomFor;rw[bhO,k2];simp only[biC,maxLen];omega) λU H' Q _=>?_;simp only[go_sem,ahB,wZz k];refine aJ (k+1,U,H') ⟨hlt,?_⟩ (by simp only;omega) ?_ b_
  ·simp only;rw[i];have:iiv (s.1++[((aF l 7 s.2).1:Int)-1])=iiv s.1++[[PV.int .i64 (((aF l 7 s.2).1:Int)-1)]]:=by simp[iiv]
   rw[this];exact Q
  ·exact Lq
 ·have d:¬(k:Int)<(Z' f.bgD:Nat):=Om;have:k=Z' f.bgD:=Om;subst this;rw[<-p]at e;simp only[go_sem,d,ahC];rcases e.own 0 rfl with⟨y,rfl⟩|⟨q,rs,rfl,_⟩
  ·refine bE (vs:=[.aK]) (.inr rfl) (h_.set o (bB v (uX l f a).2)) Sq (e_ a_ (e.at 0 rfl)) ?_;rw[bN,E];refine⟨?_,rfl⟩;unfold ints;rw[show(uX l f a).1.map (λx=>[PV.int .i64 x])=[]from y];exact .nil 1
  ·obtain⟨rs,g1,g2,g3,-,g4⟩:=e.frz 0 rfl;refine AA (vs:=[.osl q 1 0 (iiv (uX l f a).1).length]) (.inr rfl) Sq (.step g1 (.done (H2:=h_.set o (bB v (uX l f a).2)) ?_ (e_ a_ ?_)))
   ·rw[bN,g3,E];exact⟨.refl _,rfl⟩
   ·have:=g4.at 0 rfl;rw[this];simp only[aY.frz,biU,bjP,T.frz];rfl
abbrev rV(l:L2_):P2_:=l.map λr=>[ints r]
theorem a2Q(l:L2_):Flat (rV l):=tR λr e c d=>by
 obtain⟨x,_,rfl⟩:=biJ.1 e;rw[bjH]at d;subst d;rfl
theorem aUR(l:List Nat)(bgD at_ i:Nat){a:Nat}(h:a<=Z' l):(uU l bgD at_ i a).2<=Z' l:=by
 unfold uU;split
 ·exact h
 ·have:=bP l 6 h;simp only;split
  ·exact bP l bgD this
  ·split
   ·exact bP l (bgD+1) this
   ·exact this
theorem KD(l:List Nat)(bgD at_:Nat){a:Nat}(h:a<=Z' l):∀k,(pC l bgD at_ a k).2<=Z' l/\(pC l bgD at_ a k).1.length=k
 |0=>⟨h,rfl⟩
 |k+1=>by obtain⟨d,e⟩:=KD l bgD at_ h k;exact⟨aUR l bgD at_ k d,by simp only[pC,bhW,biC,e]⟩
theorem VO(l:List Nat)(f:aD){a:Nat}(h:a<=Z' l):∀k,(eF l f a k).2<=Z' l/\(eF l f a k).1.length=k
 |0=>⟨h,rfl⟩
 |k+1=>by obtain⟨d,e⟩:=VO l f h k;exact⟨(KD l _ _ (bP l _ d) _).1,by simp only[eF,bhW,biC,e]⟩
def aVR(f:aD)(o:Nat)(w:PV)(i:Nat):PF:=((((n_.set 0 (.ptr o 2 0 0)).set 3 (.bK f.cells)).set 5 (w)).set 6 (.int .i64 i))
def mP(f:aD)(o:Nat)(w:PV)(i:Nat)(d:PV)(at_ k:Nat):PF:=(((((((n_.set 0 (.ptr o 2 0 0)).set 3 (.bK f.cells)).set 5 (w)).set 6 (.int .i64 i)).set 7 (d)).set 8 (.int .i64 at_)).set 9 (.int .i64 k))
def aVS:aC:=(.seq (.region WM) (.seq (.seq (.region WN) (.cond (.tmp 34) (.seq (.region OU) (.seq (.region OV) (.block 4 (.seq (.region OW) (.cond (.tmp 44) (.region OX) (.seq (.region DW) (.cond (.tmp 51) (.region OY) .skip))))))) .skip)) (.region DX)))
theorem a2W:OT=.seq (.seq (.region WL) (.cond (.tmp 28) .skip (.exit 2))) (.seq (.block 3 aVS) (.region OZ)):=rfl
theorem aVT(O:AM C){l:List Nat}{v:PV}(T:Tp l v)(o:Nat)(f:aD)(hd:Z' f.bgD<=1000)(w K:PV)(i at_ k a:Nat)(α:at_<=2000)(hk:k<=2000)(W:a<=Z' l)(L:List LI)(R:cF)(F:PF)(H:PH)
  (y:(mP f o w i K at_ k).le F) (Q:aR H [(o,bB v a)] L)
  (N:∀e H',(mP f o w i K at_ k).le e->e 10=some (.int .i64 (uU l f.bgD.length at_ k a).1)->aR H' [(o,bB v (uU l f.bgD.length at_ k a).2)] L->aC.wp C (.region DX) R e H') :
  aC.wp C aVS R F H:=by
 unfold aVS;have f0:F 0=some (.ptr o 2 0 0):=y 0 _ (by unfold mP;simp only[go_sem]);have u:F 3=some (.bK f.cells):=y 3 _ (by unfold mP;simp only[go_sem]);have M:F 5=some w:=y 5 _ (by unfold mP;simp only[go_sem]);have f6:F 6=some (.int .i64 i):=y 6 _ (by unfold mP;simp only[go_sem]);have f7:F 7=some K:=y 7 _ (by unfold mP;simp only[go_sem]);have A:F 8=some (.int .i64 at_):=y 8 _ (by unfold mP;simp only[go_sem]);have B:F 9=some (.int .i64 k):=y 9 _ (by unfold mP;simp only[go_sem]);have p:∀e:PF,e 0=some (.ptr o 2 0 0)->e 3=some (.bK f.cells)->e 5=some w->e 6=some (.int .i64 i)->e 7=some K->e 8=some (.int .i64 at_)->e 9=some (.int .i64 k)->(mP f o w i K at_ k).le e:=λe Y a3 a5 a6 a7 a8 Z=>by
  unfold mP
  (repeat' (first|exact c_|refine d_ ?_ ?_))<;>first|(simp only[go_sem,Y,a3,a5,a6,a7,a8,Z]<;>rfl)|rfl
 have d:uU l f.bgD.length at_ k a=if f.bgD.length=0 then(-1,a)else if(aF l 6 a).1=0 then(((aF l f.bgD.length (aF l 6 a).2).1:Int),(aF l f.bgD.length (aF l 6 a).2).2)else if(aF l 6 a).1=1 then(((aF l (Z' f.bgD+1) (aF l 6 a).2).1:Int)-1,(aF l (Z' f.bgD+1) (aF l 6 a).2).2)else((((at_+k)%f.bgD.length:Nat):Int),(aF l 6 a).2):=rfl
 simp only[go_sem,WM,WN,u,bhO];by_cases V:Z' f.bgD=0
 ·rw[aG V]at d;have x:¬(Z' f.bgD:Int)>0:=Om;simp only[go_sem,x];refine N _ _ (p _ (by simp only[go_sem,f0]) (by simp only[go_sem,u]) (by simp only[go_sem,M]) (by simp only[go_sem,f6]) (by simp only[go_sem,f7]) (by simp only[go_sem,A]) (by simp only[go_sem,B])) ?_ ?_
  ·rw[d];simp only[go_sem]
  ·rw[d];exact Q
 rw[aE V]at d;have x:(Z' f.bgD:Int)>0:=Om;have e1:i_.wrap ((at_:Int)+(k:Int))=((at_+k:Nat):Int):=by rw[wrap_i64 Om Om];omega
 have X:=bP l 6 W;have β:=cG l (show 0<6 by decide) a;have hz:¬(Z' f.bgD:Int)=0:=Om;have em:Int.tmod ((at_+k:Nat):Int) (Z' f.bgD:Nat)=(((at_+k)%f.bgD.length:Nat):Int):=Int.ofNat_tmod _ _;have e2:i_.wrap ((Z' f.bgD:Int)+1)=((Z' f.bgD+1:Nat):Int):=dZ Om;simp only[go_sem,x,OU,A,B,u,bhO,e1,hz,em,OV,f0];refine dR O T (o:=o) (n:=6) (a:=a) aS W (by simp only[go_sem,f0];rfl) (Q.at 0 rfl) ?_;have E:=Q.set 0 rfl (bB v (aF l 6 a).2);generalize aF l 6 a=t at *
 simp only[go_sem,OW];by_cases S:t.1=0
 ·rw[aG S]at d;simp only[go_sem,bY (Om:(t.1:Int)=0),OX,f0,u,bhO];refine dR O T (o:=o) (n:=Z' f.bgD) (a:=t.2) Om X (by simp only[go_sem,f0]) (E.at 0 rfl) ?_;have J:=E.set 0 rfl (bB v (aF l f.bgD.length t.2).2);rw[PH.set_set]at J;simp only[go_sem];refine N _ _ (p _ (by simp only[go_sem,f0]) (by simp only[go_sem,u]) (by simp only[go_sem,M]) (by simp only[go_sem,f6]) (by simp only[go_sem,f7]) (by simp only[go_sem,A]) (by simp only[go_sem,B])) ?_ ?_
  ·rw[d];simp only[go_sem]
  ·rw[d];exact J
 rw[aE S]at d;by_cases U:t.1=1
 ·rw[aG U]at d;have nd:=cG l (Om:0<Z' f.bgD+1) t.2;have e3:i_.wrap (((aF l (Z' f.bgD+1) t.2).1:Int)-1)=((aF l (Z' f.bgD+1) t.2).1:Int)-1:=wrap_i64 Om Om;simp only[go_sem,bL (Om:(t.1:Int)≠0),DW,bY (Om:(t.1:Int)=1),OY,f0,u,bhO,e2];refine dR O T (o:=o) (n:=Z' f.bgD+1) (a:=t.2) Om X (by simp only[go_sem,f0]) (E.at 0 rfl) ?_;have J:=E.set 0 rfl (bB v (aF l (Z' f.bgD+1) t.2).2);rw[PH.set_set]at J;simp only[go_sem,e3];refine N _ _ (p _ (by simp only[go_sem,f0]) (by simp only[go_sem,u]) (by simp only[go_sem,M]) (by simp only[go_sem,f6]) (by simp only[go_sem,f7]) (by simp only[go_sem,A]) (by simp only[go_sem,B])) ?_ ?_
  ·rw[d];simp only[go_sem]
  ·rw[d];exact J
 ·rw[aE U]at d;simp only[go_sem,bL (Om:(t.1:Int)≠0),DW,bL (Om:(t.1:Int)≠1)];refine N _ _ (p _ (by simp only[go_sem,f0]) (by simp only[go_sem,u]) (by simp only[go_sem,M]) (by simp only[go_sem,f6]) (by simp only[go_sem,f7]) (by simp only[go_sem,A]) (by simp only[go_sem,B])) ?_ ?_
  ·rw[d];simp only[go_sem]
  ·rw[d];exact E
theorem a2X(M:AM C){l:List Nat}{v:PV}(T:Tp l v)(o:Nat)(f:aD)(hd:Z' f.bgD<=1000)(i n:Nat)(hn:n<=1000)(E:aH C 82 [.agg f.cells,.int .i64 i] .nil (aI (.int .i64 n)))(w:PV)(R:P2_)(at_ a:Nat)(Z:at_<=1000)(Y:a<=Z' l)(K:cF)(F:PF)(H:PH)
  (W:(mP f o w i .aK at_ 0).le F) (y:aR H [(o,bB v a)] [(w,1,R),(.aK,1,iiv [])])
  (X:∀x J H',(mP f o w i x at_ n).le J->aR H' [(o,bB v (pC l f.bgD.length at_ a n).2)] [(w,1,R),(x,1,iiv (pC l f.bgD.length at_ a n).1)]->K (.exit 2) J H') :
  aC.wp C (.loop OT) K F H:=by
 refine wp_loop (α:=Nat × PV × PH) (λs=>mP f o w i s.2.1 at_ s.1) (λs=>s.2.2) (λs=>s.1<=n/\aR s.2.2 [(o,bB v (pC l f.bgD.length at_ a s.1).2)] [(w,1,R),(s.2.1,1,iiv (pC l f.bgD.length at_ a s.1).1)]) (λs=>n-s.1) (0,.aK,H) ⟨bhT _,y⟩ W b_ ?_;rintro⟨k,x,H0⟩ ⟨hk,y⟩;simp only at hk y ⊢;obtain⟨k1,k2⟩:=KD l f.bgD.length at_ Y k;have u:pC l f.bgD.length at_ a (k+1)=((pC l f.bgD.length at_ a k).1++[(uU l f.bgD.length at_ k (pC l f.bgD.length at_ a k).2).1],(uU l f.bgD.length at_ k (pC l f.bgD.length at_ a k).2).2):=rfl;generalize hs:pC l f.bgD.length at_ a k=s at *
 rw[a2W];simp only[go_sem,WL,mP];refine aB E Sq ?_;by_cases hlt:k<n
 ·have e:(k:Int)<(n:Nat):=Om;have B:(1:Nat)*1<=16777216:=by decide
  simp only[go_sem,e];refine aVT (C:=C) M T o f hd w x i at_ k s.2 Om Om k1 _ _ _ _ (by unfold mP;exact Lq) y ?_;intro p H1 d A V;have f0:p 0=some (.ptr o 2 0 0):=d 0 _ (by unfold mP;simp only[go_sem]);have N:p 3=some (.bK f.cells):=d 3 _ (by unfold mP;simp only[go_sem]);have O:p 5=some w:=d 5 _ (by unfold mP;simp only[go_sem]);have f6:p 6=some (.int .i64 i):=d 6 _ (by unfold mP;simp only[go_sem]);have f7:p 7=some x:=d 7 _ (by unfold mP;simp only[go_sem]);have Q:p 8=some (.int .i64 at_):=d 8 _ (by unfold mP;simp only[go_sem]);have S:p 9=some (.int .i64 k):=d 9 _ (by unfold mP;simp only[go_sem]);simp only[go_sem,DX,f7,A,B];refine V.append 1 (src:=[[PV.int .i64 (uU l f.bgD.length at_ k s.2).1]]) rfl Sq (by unfold roomFor;rw[bhO,k2];simp only[biC,maxLen];omega) λw' H' U _=>?_;simp only[go_sem,OZ,S,wZz k];refine aJ (k+1,w',H') ⟨hlt,?_⟩ (by simp only;omega) ?_ b_
  ·simp only;rw[u];have:iiv (s.1++[(uU l f.bgD.length at_ k s.2).1])=iiv s.1++[[PV.int .i64 (uU l f.bgD.length at_ k s.2).1]]:=by simp[iiv]
   rw[this];exact U
  ·(repeat' (first|exact c_|refine d_ ?_ ?_))<;>first|(simp only[go_sem,f0,N,O,f6,Q]<;>rfl)|rfl
 ·have e:¬(k:Int)<(n:Nat):=Om;have:k=n:=Om;subst this;simp only[go_sem,e];refine X x _ _ ?_ (by rw[hs];exact y);unfold mP;exact Lq
def asV(l:List Nat)(v:PV)(o a:Nat)(f:aD)(r:PV)(H:PH):Prop:=Co r (lay (eF l f a f.bgF.length).1)/\H=h_.set o (bB v (eF l f a f.bgF.length).2)
theorem aHX(N:AM C){l:List Nat}{v:PV}(T:Tp l v)(o a:Nat)(f:aD)(hV:VF f)(J:∀i,i<Z' f.bgF->aH C 82 [.agg f.cells,.int .i64 i] .nil (aI (.int .i64 (kF f i))))(ha:a<=Z' l) :
  KG.wp C (aZ Lk.res (asV l v o a f)) (g_ [.ptr o 2 0 0,.agg f.cells]) (h_.set o (bB v a)):=by
 have hd:=hV.small.bgD;have γ:=hV.small.bgF;have h0:aR (h_.set o (bB v a)) [(o,bB v a)] [(.aK,1,rV [])]:=(aR.nil.new (H:=h_) rfl (bB v a)).qU 1;have Q:∀r H,asV l v o a f r H↔Co r (lay (eF l f a f.bgF.length).1)/\H=h_.set o (bB v (eF l f a f.bgF.length).2):=λ_ _=>Iff.rfl;simp only[go_sem,KG,Fj,Lk,Fk,Fl];refine wp_loop (α:=Nat × PV × PH) (λs=>aVR f o s.2.1 s.1) (λs=>s.2.2) (λs=>s.1<=Z' f.bgF/\aR s.2.2 [(o,bB v (eF l f a s.1).2)] [(s.2.1,1,rV (eF l f a s.1).1)]) (λs=>Z' f.bgF-s.1) (0,.aK,_) ⟨bhT _,h0⟩ ?_ b_ ?_
 ·unfold aVR;exact Lq
 rintro⟨i,w,H0⟩ ⟨hi,u⟩;simp only at hi u ⊢;obtain⟨k1,k2⟩:=VO l f ha i;simp only[go_sem,qk,Fm,aVR,bhO];by_cases hlt:i<Z' f.bgF
 ·have e:(i:Int)<(Z' f.bgF:Nat):=Om;obtain⟨hp,he⟩:=vY hV hlt;have A:=hV.bgP _ (bhS hp);rw[he]at A;obtain⟨n,K⟩:∃n:Nat,kF f i=n:=⟨(kF f i).toNat,by unfold kF;omega⟩;have β:1<=n/\n<=8:=by unfold kF at K;omega
  have y:=J i hlt;rw[K]at y;have p:eF l f a (i+1)=((eF l f a i).1++[(pC l f.bgD.length (aF l (Z' f.bgD+1) (eF l f a i).2).1 (aF l (Z' f.bgD+1) (eF l f a i).2).2 (kF f i).toNat).1],(pC l f.bgD.length (aF l (Z' f.bgD+1) (eF l f a i).2).1 (aF l (Z' f.bgD+1) (eF l f a i).2).2 (kF f i).toNat).2):=rfl;rw[K,bjN]at p;generalize hs:eF l f a i=s at *
  have e2:i_.wrap ((Z' f.bgD:Int)+1)=((Z' f.bgD+1:Nat):Int):=dZ Om;have δ:=cG l (Om:0<Z' f.bgD+1) s.2;have B:=bP l (Z' f.bgD+1) k1;simp only[go_sem,e,Fo,Fp,bhO,e2];refine dR N T (o:=o) (n:=Z' f.bgD+1) (a:=s.2) Om k1 Sq (u.at 0 rfl) ?_;have h1:=(u.set 0 rfl (bB v (aF l (Z' f.bgD+1) s.2).2)).qU 1;generalize aF l (Z' f.bgD+1) s.2=t at *
  obtain⟨r1,r2⟩:=KD l f.bgD.length t.1 B n;simp only[go_sem,Fq];refine a2X (C:=C) N T o f Om i n Om y w (rV s.1) t.1 t.2 Om B _ _ _ (by unfold mP;exact Lq) h1 ?_;intro w7 x H1 d O;generalize R:pC l f.bgD.length t.1 t.2 n=row at *
  obtain⟨q,rfl⟩:=(O.own 1 rfl).one (by rw[bhO];omega);have f0:x 0=some (.ptr o 2 0 0):=d 0 _ (by unfold mP;simp only[go_sem]);have Y:x 3=some (.bK f.cells):=d 3 _ (by unfold mP;simp only[go_sem]);have Z:x 5=some w:=d 5 _ (by unfold mP;simp only[go_sem]);have f6:x 6=some (.int .i64 i):=d 6 _ (by unfold mP;simp only[go_sem]);have f7:x 7=some (.osl q 1 0 (iiv row.1).length):=d 7 _ (by unfold mP;simp only[go_sem]);have F:(1:Nat)*1<=16777216:=by decide
  simp only[go_sem,ql,Z,f7,F];refine O.append 0 (src:=[[.osl q 1 0 (iiv row.1).length]]) rfl Sq (by unfold roomFor;rw[bhO,k2];simp only[biC,maxLen];omega) λw' H' h3 hw=>?_;obtain⟨M,rfl⟩:=hw bH;obtain⟨rs,z1,z2,z3,z4,z5⟩:=h3.frz 1 rfl;have S:=z4 0 _ aS rfl;simp only at S;have y0:=T.frz q 1 rs;have U:PV.frz q 1 rs (PV.osl M 1 0 (rV s.1++[[PV.osl q 1 0 (iiv row.1).length]]).length)=PV.osl M 1 0 (rV s.1++[[PV.osl q 1 0 (iiv row.1).length]]).length:=S;simp only[go_sem,qn,f6,wZz i];refine fp (i+1,PV.osl M 1 0 (rV s.1++[[PV.osl q 1 0 (iiv row.1).length]]).length,H'.frz q 1 rs) z1 ⟨hlt,?_⟩ (by simp only;omega) ?_ b_
  ·simp only;rw[p];have X:([(o,bB v row.2)]:List BX).map (λb=>(b.1,b.2.frz q 1 rs))=[(o,bB v row.2)]:=by show[(o,aY.rows 2 [[PV.dV q 1 rs v,.int .i64 row.2]])]=_;rw[y0]
   have V:(rV s.1++[[PV.osl q 1 0 (iiv row.1).length]]).map (λr=>r.map (PV.dV q 1 rs))=rV (s.1++[row.1]):=by rw[biV,a2Q];show rV s.1++[[PV.dV q 1 rs (.osl q 1 0 (iiv row.1).length)]]=_;rw[z2];simp[rV]
   rw[<-X,<-V];exact z5
  ·have W:(rV s.1++[[PV.osl q 1 0 (iiv row.1).length]]).length=(rV s.1++[[PV.osl q 1 0 row.1.length]]).length:=by simp
   rw[W]at U ⊢
   (repeat' (first|exact c_|refine d_ ?_ ?_))<;>first|(simp only[go_sem,f0,Y,U]<;>rfl)|rfl
 ·have e:¬(i:Int)<(Z' f.bgF:Nat):=Om;have:i=Z' f.bgF:=Om;subst this;simp only[go_sem,e,qp];rcases u.own 0 rfl with⟨E,rfl⟩|⟨q,rs,rfl,_⟩
  ·refine bE (vs:=[.aK]) (.inr rfl) (h_.set o (bB v (eF l f a f.bgF.length).2)) Sq (e_ a_ (u.at 0 rfl)) ?_;rw[bN,Q];refine⟨?_,rfl⟩;unfold lay;rw[show(eF l f a f.bgF.length).1.map (λr=>[ints r])=[]from E];exact .nil 1
  ·obtain⟨rs,g1,g2,g3,-,g4⟩:=u.frz 0 rfl;refine AA (vs:=[.osl q 1 0 (rV (eF l f a f.bgF.length).1).length]) (.inr rfl) Sq (.step g1 (.done (H2:=h_.set o (bB v (eF l f a f.bgF.length).2)) ?_ (e_ a_ ?_)))
   ·rw[bN,g3,Q];exact⟨.refl _,rfl⟩
   ·have:=g4.at 0 rfl;rw[this];simp only[aY.frz,biU,bjP,T.frz];rfl
theorem exactly{name:Nat}{args:List PV}{H H2:PH}{v:PV}(h:aH C name args H (λr H'=>Co r v/\H'=H2)):aH C name args H (λr H'=>r=v/\H'=H2):=
 h.post λr H' d=>⟨_,d.1,rfl,d.2⟩
theorem aMS(l:List Nat)(bgD bgF:Nat){a:Nat}(h:a<=Z' l):(kO l bgD bgF a).2<=Z' l:=by
 have u:=bP l 2 h;have i:=bP l 2 u;obtain⟨e,-⟩:=VN l i (1+(aF l 2 (aF l 2 a).2).1);have p:=bP l 2 e;obtain⟨d,-⟩:=GZ l (1+(aF l 2 (aF l 2 a).2).1) p (1+(aF l 2 (kV l (aF l 2 (aF l 2 a).2).2 (1+(aF l 2 (aF l 2 a).2).1)).2).1);obtain⟨w,-⟩:=VA (mc:=1+(aF l 2 (kV l (aF l 2 (aF l 2 a).2).2 (1+(aF l 2 (aF l 2 a).2).1)).2).1) 4 0 (⟨by simp,bhT _,d⟩:GOk l bgD ⟨[rC],[],_⟩);exact(QW l _ (bP l (bgF+1) (BQ l _ (bP l 2 w.a) _).1) _).1
theorem aUQ(l:List Nat)(bgD at_ i a:Nat):-1<=(uU l bgD at_ i a).1/\(uU l bgD at_ i a).1<bgD:=by
 unfold uU;split
 ·simp only;omega
 ·rename_i h;have d:=cG l (Om:0<bgD) (aF l 6 a).2;have e:=cG l (Om:0<bgD+1) (aF l 6 a).2;have p:=bjR (at_+i) (Om:0<bgD);simp only;split
  ·simp only;omega
  ·split
   ·simp only;omega
   ·simp only;omega
theorem aeW(l:List Nat)(bgD at_ a:Nat):∀k,∀x∈(pC l bgD at_ a k).1,-1<=x/\x<bgD
 |0,x,h=>by cases h
 |k+1,x,h=>by
  rcases bjB.1 h with h|h
  ·exact aeW l bgD at_ a k x h
  ·rw[bjH]at h;subst h;exact aUQ l bgD at_ k _
structure CO(f:aD)(L:L2_):Prop where
 len:Z' L=Z' f.bgF
 row:∀v (h:v<Z' L),((L[v].length:Nat):Int)=kF f v
 home:∀r∈L,∀x∈r,-1<=x/\x<Z' f.bgD
theorem Qn(l:List Nat){f:aD}(hV:VF f){a:Nat}(w:a<=Z' l):∀k,k<=Z' f.bgF->(eF l f a k).1.length=k/\(∀v (h:v<(eF l f a k).1.length),(((eF l f a k).1[v].length:Nat):Int)=kF f v)/\∀r∈(eF l f a k).1,∀x∈r,-1<=x/\x<Z' f.bgD
 |0,_=>⟨rfl,λv h=>absurd h (by simp[eF]),λr h=>by cases h⟩
 |k+1,J=>by
  obtain⟨u,A,B⟩:=Qn l hV w k Om;obtain⟨hp,E⟩:=vY hV (Om:k<Z' f.bgF);have e:=hV.bgP _ (bhS hp);rw[E]at e;have F:((kF f k).toNat:Int)=kF f k:=by unfold kF;omega
  have i:=(VO l f w k).1;have H:=(KD l f.bgD.length (aF l (Z' f.bgD+1) (eF l f a k).2).1 (bP l (Z' f.bgD+1) i) (kF f k).toNat).2;have hi:=aeW l f.bgD.length (aF l (Z' f.bgD+1) (eF l f a k).2).1 (aF l (Z' f.bgD+1) (eF l f a k).2).2 (kF f k).toNat;have d:(eF l f a (k+1)).1=(eF l f a k).1++[(pC l f.bgD.length (aF l (Z' f.bgD+1) (eF l f a k).2).1 (aF l (Z' f.bgD+1) (eF l f a k).2).2 (kF f k).toNat).1]:=rfl;rw[d];generalize(pC l f.bgD.length (aF l (Z' f.bgD+1) (eF l f a k).2).1 (aF l (Z' f.bgD+1) (eF l f a k).2).2 (kF f k).toNat).1=row at *
  generalize(eF l f a k).1=L at *
  refine⟨by simp[u],λv h=>?_,λr h=>?_⟩
  ·by_cases y:v<Z' L
   ·rw[bmC y];exact A v y
   ·have p:v=k:=by simp at h;omega
    subst p;rw[bmA Om];simp only[u,bkR,List.getElem_cons_zero];rw[H,F]
  ·rcases bjB.1 h with h|h
   ·exact B r h
   ·rw[bjH]at h;subst h;exact hi
theorem CO.baH{f:aD}{L:L2_}(h:CO f L)(hV:VF f):∀k,k<=Z' L->(L.take k).flatten.length<=k*8:=by
 have w:=h.len;intro k
 induction k with
 |zero=>intro _;simp
 |succ k p =>intro e;rw[MH L e,bhW];have u:=p Om;have i:=h.row k e;obtain⟨hp,l⟩:=vY hV (Om:k<Z' f.bgF);have d:=hV.bgP _ (bhS hp);rw[l]at d;unfold kF at i;omega
theorem CO.ok{f:aD}(hV:VF f){L:L2_}(h:CO f L):AK L:=by
 have e:=hV.small.bgF;have d:=h.len;have:=h.baH hV L.length (bhV _);rw[biS]at this;exact⟨by omega,by omega⟩
section
variable {H:PH} {B:List BX} {L:List LI}
end
def aJI(f:aD)(d lev x:Int):Bool:=decide (0<=x)&&(atP f x lev==atP f d lev)
theorem oN{k v:Int}{n:Nat}{p:Nat->Bool}:eN k v n p=[]↔∀i,i<n->p i=false:=by
 unfold eN;rw[List.map_eq_nil_iff,List.filter_eq_nil_iff];constructor
 ·intro h i hi;have:=h i (biM.2 hi);simpa using this
 ·intro h i hi;rw[h i (biM.1 hi)];decide
theorem aND{f:aD}{l:L2_}{room:List Int}(i:dC f=true)(e:Z' l=Z' f.bgF) :
  BC f l room=true↔wR f l l.length=[]/\∀d,d<Z' f.bgD->over f l room d=false:=by
 unfold BC NN a0E;rw[i,aG rfl,aG e,biA,dT_,List.length_eq_zero_iff,List.append_eq_nil_iff,oN]
theorem p6{p:Int->Bool}:∀{l:List Int}{i:Nat},(∀x∈l,p x=false)->lG p l i=none
 |[],_,_=>rfl
 |y::t,i,h=>by rw[lG,h y bH,aE aS];exact p6 λx d=>h x (by simp[d])
theorem CO.shape{f:aD}{L:L2_}(h:CO f L){v:Nat}(d:v<Z' L):SR f L v=none:=by
 have e:L.getD v []=L[v]:=by simp[bhX,d]
 unfold SR;rw[e,aG (h.row v d),p6]
 ·rfl
 ·intro x i;have:=h.home _ (bhS d) x i;simp[uO];omega
def aHQ(f:aD)(p:cE)(row:List Int)(d:Int)(j:Nat):Bool:=decide (j=0)||(decide (p.spread j=0)||decide (((row.countP (aJI f d j):Nat):Int)<=p.spread j))
def aHD(f:aD)(p:cE)(row:List Int)(i:Nat):Bool:=
 decide (0<=row.getD i 0)&&((bhP 5).all (aHQ f p row (row.getD i 0))&&(p.bgE.contains ((mdl f (row.getD i 0).toNat:Nat):Int)&&(row.take i).all λx=>x != row.getD i 0))
def i5(f:aD)(p:cE)(row:List Int):Bool:=(bhP row.length).all (aHD f p row)
theorem aLK{f:aD}(e:dC f=true){x:Int}(d:0<=x)(i:x<Z' f.bgD){j:Nat}(l:j<5):atP f x j=(dM f x.toNat j:Nat):=by
 unfold atP;rw[aG ⟨e,d,by omega,by omega,by omega⟩]
theorem aAC{f:aD}(w:dC f=true){d:Int}(l:0<=d)(p:d<Z' f.bgD){row:List Int}(A:∀x∈row,x<Z' f.bgD){j:Nat}(u:j<5){i:Nat}(hi:dM f d.toNat j=i)(y:lvl f i=j) :
  row.countP (aJI f d j)=row.countP (lJ f i):=by
 refine List.countP_congr λx B=>?_;unfold aJI lJ;by_cases e:0<=x
 ·rw[aLK w e (A x B) u,aLK w l p u,y,hi];simp only[e,decide_true,biA,beq_iff_eq,dT_];omega
 ·simp[e]
theorem Wc{row:List Int}(h:∀i (hi:i<Z' row),row[i] ∉ row.take i):row.Nodup:=by
 refine List.pairwise_iff_getElem.2 λi j hi l d e=>h j l ?_;rw[<-e];exact List.mem_take_iff_getElem.2 ⟨i,by omega,rfl⟩
theorem aAA{f:aD}(Q:dC f=true){p:cE}(hp:∀l,0<=p.spread l)(v:Nat){row:List Int}(B:∀x∈row,-1<=x/\x<Z' f.bgD):LD f p v row=[]↔i5 f p row=true:=by
 have hV:=VF.of Q;have y:∀i (h:i<Z' row),row.getD i 0=row[i]:=λi h=>by simp[bhX,h]
 have S:∀d,d<Z' f.bgD->(jK f.bgD.length row).getD d 0=(row.count (d:Int):Nat):=λd h=>by simp[jK,bhX,h]
 have U:∀i,i<Z' f.bgG->(lH f row).getD i 0=fY f row i:=λi h=>by simp[lH,bhX,h]
 unfold LD i5;rw[List.append_eq_nil_iff,List.append_eq_nil_iff,List.append_eq_nil_iff,oN,oN,oN,oN,biB];constructor
 ·rintro⟨⟨⟨X,Y⟩,Z⟩,h5⟩ i hi;have hi:=biM.1 hi;have a2:=X i hi;have a4:=Z i hi;have M:=bhS hi;unfold home at a2;unfold gI at a4;unfold aHD;rw[y i hi]at a2 a4 ⊢;have E:=B _ M;generalize H:row[i]=d at *
  have F:0<=d:=by simpa using a2
  simp only[F,decide_true,biA,Bool.not_eq_false']at a4 ⊢;rw[a4,biA,bhQ];refine⟨biB.2 λj w=>?_,biB.2 λx R=>?_⟩
  ·have w:=biM.1 w;unfold aHQ;by_cases j0:j=0
   ·simp[j0]
   by_cases s0:p.spread j=0
   ·simp[s0]
   obtain⟨k1,k2⟩:=aEO hV (d:=d.toNat) Om (lev:=(j:Int)) Om Om;have a5:=h5 _ k1;have N:dM f d.toNat j≠0:=by intro e;rw[e,hV.root.2.1]at k2;omega
   have O:=aAC Q F E.2 (λx h=>(B x h).2) w rfl k2;unfold sI eS at a5;rw[U _ k1,k2,fY,aE N,bjN]at a5;have:=hp j;rw[O];simp only[Bool.and_eq_false_iff,decide_eq_false_iff_not]at a5;simp only[blI,dT_];omega
  ·have a3:=Y d.toNat Om;unfold sN at a3;rw[S _ Om,Int.toNat_of_nonneg F]at a3;have e:row=row.take i++d::row.drop (i+1):=by rw[<-H,<-bjS hi,bkQ]
   have V:row.count d=(row.take i).count d+((row.drop (i+1)).count d+1):=by
    conv=>lhs;rw[e]
    rw[List.count_append,List.count_cons_self]
   simp only[bne_iff_ne];rintro rfl;have:=List.count_pos_iff.2 R;rw[decide_eq_false_iff_not]at a3;omega
 ·intro h;have A:∀i (hi:i<Z' row),0<=row[i]/\(∀j,j<5->aHQ f p row row[i] j=true)/\p.bgE.contains ((mdl f row[i].toNat:Nat):Int)=true/\row[i] ∉ row.take i:=by intro i hi;have:=h i (biM.2 hi);unfold aHD at this;rw[y i hi]at this;simp only[bhQ,dT_,biB,biM,bne_iff_ne]at this;exact⟨this.1,this.2.1,this.2.2.1,λM=>this.2.2.2 _ M rfl⟩
  refine⟨⟨⟨λi hi=>?_,λd H=>?_⟩,λi hi=>?_⟩,λi hi=>?_⟩
  ·unfold home;rw[y i hi,decide_eq_false_iff_not];have:=(A i hi).1;omega
  ·unfold sN;rw[S d H,decide_eq_false_iff_not];have:=List.nodup_iff_count.1 (Wc λi hi=>(A i hi).2.2.2) (d:Int);omega
  ·unfold gI;rw[y i hi,(A i hi).2.2.1];simp
  ·unfold sI;rw[U i hi];unfold fY;by_cases W:i=0
   ·rw[aG W];have:=hp (lvl f i).toNat;unfold eS;simp;omega
   rw[aE W];by_cases V:row.countP (lJ f i)=0
   ·rw[V];have:=hp (lvl f i).toNat;unfold eS;simp;omega
   obtain⟨x,E,u⟩:=List.countP_pos_iff.1 (Om:0<row.countP (lJ f i));obtain⟨k,J,rfl⟩:=bjD E;obtain⟨g1,g2,g3,g4,g5⟩:=hV.dom i Om hi;have w:((lvl f i).toNat:Int)=lvl f i:=Om;unfold lJ at u;simp only[bhQ,dT_]at u;have K:=(A k J).2.1 (lvl f i).toNat Om;have O:=aAC Q u.1 (B _ E).2 (λx h=>(B x h).2) (j:=(lvl f i).toNat) Om (i:=i) (by rw[w];exact u.2) w.symm;unfold aHQ at K;rw[O]at K;unfold eS;simp only[blI,dT_]at K;simp only[Bool.and_eq_false_iff,decide_eq_false_iff_not];omega
def amC(R xs:List Int):List Int:=(bhP R.length).map λd=>R.getD d 0-((xs.count (d:Int):Nat):Int)
def Kj(f:aD)(l:L2_)(R:List Int):Bool:=(bhP R.length).all (λd=>decide (0<=(amC R l.flatten).getD d 0))&&(bhP l.length).all λv=>i5 f (kI f v) (l.getD v [])
theorem aFL{f:aD}(y:dC f=true){l:L2_}(u:CO f l)(room:List Int):BC f l room=Kj f l (fZ f room):=by
 have hV:=VF.of y;refine Bool.eq_iff_iff.2 ?_;rw[aND y u.len];unfold Kj;rw[bhQ,biB,biB,mK];have B:wR f l l.length=[]↔∀x∈bhP l.length,i5 f (kI f x) (l.getD x [])=true:=by
  unfold wR;rw[List.flatMap_eq_nil_iff];refine forall_congr' λv=>forall_congr' λJ=>?_;have i:=biM.1 J;unfold KJ;rw[u.shape i];simp only;have e:l.getD v []=l[v]:=by simp[bhX,i]
  obtain⟨hp,H⟩:=vY hV (show v<f.bgF.length by rw[<-u.len];exact i);have p:=hV.bgP _ (bhS hp);rw[H]at p;rw[e];exact aAA y (λl=>(p.2.2.2.2.2.2.1 l).1) v (u.home _ (bhS i))
 rw[B,and_comm];refine and_congr ?_ Iff.rfl;refine forall_congr' λd=>?_;rw[biM];refine forall_congr' λA=>?_;have E:(mV f l).getD d 0=(l.flatten.count (d:Int):Nat):=by simp[mV,jK,bhX,A]
 have w:d<(fZ f room).length:=by rw[mK];exact A
 have F:(amC (fZ f room) l.flatten).getD d 0=(fZ f room).getD d 0-(l.flatten.count (d:Int):Nat):=by simp[amC,bhX,w]
 unfold over;rw[E,F,decide_eq_false_iff_not,dT_];omega
section
variable {H:PH} {B:List BX} {L:List LI} {s:Nat} {rows:P2_}
theorem tH.some(s:Nat)(rows:P2_)(G:PH):∃r H',tH s rows r H'/\qW G .nil H':=by
 obtain⟨o,i⟩:=G.fresh;refine⟨.osl o s 0 rows.length,h_.set o (.rows s rows),.inr ⟨o,rows,rfl,rfl,bhV _,biS⟩,λq x d _=>?_⟩;rw[bC]at d;split at d
 ·rename_i e;rw[e];exact i
 ·cases d
end

section
variable {C:Ctx} {F:PF} {H Hs:PH} {tn a a2:Nat} {raw:List Int} {R:Nat->PV->PH->Prop} {st:Bool} {args:List aP} {d:Option Nat} {K:PF->PH->Prop}
end
section
variable {C:Ctx} {F:PF} {H:PH} {B:List BX} {L:List LI} {args:List aP} {d:Option Nat} {K:PF->PH->Prop}
theorem aR.jt(h:aR H B L)(i:Nat){o name:Nat}{x y:aY}{r:PV}{vs:List PV}(hi:B[i]?=some (o,x))(l:aH C name vs (h_.set o x) (λr' H'=>r'=r/\H'=h_.set o y))(e:aP.evs F args=some vs)
  (p:∀H',aR H' (B.set i (o,y)) L->K (F.put d r) H'):lD C name args [] d K F H:=qI l (h.at i hi) e (p _ (h.set i hi y))
theorem aR.ci(h:aR H B L){x:aY}{e:Nat->PV}(i:∀o H',aR H' (B++[(o,x)]) L->K (F.put d (e o)) H'):qA (some (e,x)) d K F H:=aQ λo l=>i o _ (h.new l x)
end


theorem CO.move{f:aD}{L:L2_}(h:CO f L){x k d:Nat}(u:x<Z' L)(w:d<Z' f.bgD):CO f (L.set x (L[x].set k d)):=by
 refine⟨by rw[bjO];exact h.len,λv p=>?_,λr i=>?_⟩
 ·rw[bjO]at p;have:=h.row v p;rw[List.getElem_set];split
  ·rename_i e;subst e;rw[bjO];exact this
  ·exact this
 ·rcases blZ i with i|rfl
  ·exact h.home r i
  ·intro y l;rcases blZ l with l|rfl
   ·exact h.home _ (bhS u) y l
   ·omega


structure Wt(C:Ctx):Prop extends Ac C where
 int:∀n:Int,dL n->aH C 47 [.int .i64 n] .nil (aI (.agg (mkT n 1).cells))
 mul:∀a b,Lim a->Lim b->Z' a<=35184372087808->Z' b<=35184372087808->aH C 36 [aN a,aN b] .nil (aI (opV (fJ (val a) (val b)) (val a*val b)))
 add:∀a b,Lim a->Lim b->Z' a<=35184372087808->Z' b<=35184372087808->aH C 30 [aN a,aN b] .nil (aI (opV (fJ (val a) (val b)) (val a+val b)))
 sub:∀a b,Lim a->Lim b->Z' a<=35184372087808->Z' b<=35184372087808->aH C 37 [aN a,aN b] .nil (aI (zH (val a) (val b)))
theorem Uw(a b:Nat):cC a b=(decide (nl b>0)&&(decide (nl b<=128)&&decide (nl a<=128))):=by
 have:=@lZ b;refine Bool.eq_iff_iff.2 ?_;rw[eY];simp only[bhQ,dT_];omega
theorem aRL(L:Wt C)(neg:Bool)(a b:List Nat)(u:Lim a)(hb:Lim b)(w:Z' a<=35184372087808)(p:Z' b<=35184372087808) :
  RA.wp C (aZ aqB.res (aI (.bool (cC (val a) (val b))))) (g_ [.agg (eZ neg a b)]) .nil:=by
 rw[Uw];simp only[go_sem,RA,Ve,Vf,aqB];refine aB (L.trim b hb p) rfl ?_;simp only[go_sem,bhO,bF];by_cases i:nl (val b)>0
 ·have d:((nl (val b):Nat):Int)>0:=Om;simp only[go_sem,d];refine aB (L.trim b hb p) rfl ?_;simp only[go_sem,bhO,bF];by_cases l:nl (val b)<=128
  ·have e:((nl (val b):Nat):Int)<=128:=Om;simp only[go_sem,e];refine aB (L.trim a u w) rfl ?_;simp only[go_sem,bhO,bF];refine aT (.inr rfl) rfl ?_;have:decide (((nl (val a):Nat):Int)<=128)=decide (nl (val a)<=128):=by refine decide_eq_decide.2 ?_;omega
   rw[bN,this,bA i,bA l];rfl
  ·have e:¬((nl (val b):Nat):Int)<=128:=Om;simp only[go_sem,e];refine aT (.inr rfl) rfl ?_;rw[bN,bG l,bhY,bjE]
 ·have d:¬((nl (val b):Nat):Int)>0:=Om;simp only[go_sem,d];refine aT (.inr rfl) rfl ?_;rw[bN,bG i,bhY]
theorem we{neg:Bool}{a b:Nat}(h:cC a b=true):jP neg a b=.ok (pF neg a b):=by
 obtain⟨l,d,e⟩:=eY.1 h;have i:=(jT (a/bhR a b) 128).2 (yC _ e);have e2:=(jT (b/bhR a b) 128).2 (yC _ d);unfold jP pF;rw[aE Om]
def aEX(a b:Nat):Bool:=decide (nl a>128)||decide (nl b>128)
theorem aRI(neg:Bool)(a b:List Nat) :
  QV.wp C (aZ apG.res (aI (.bool (decide (Z' a>128)||decide (Z' b>128))))) (g_ [.agg (eZ neg a b)]) .nil:=by
 simp only[go_sem,QV,Uy,Uz,apG,bhO];by_cases c:Z' a>128
 ·have d:(Z' a:Int)>128:=Om;simp only[go_sem,d];refine aT (.inr rfl) rfl ?_;rw[bN,bA c,Bool.true_or]
 ·have d:¬(Z' a:Int)>128:=Om;simp only[go_sem,d,bhO];refine aT (.inr rfl) rfl ?_;have:decide ((Z' b:Int)>128)=decide (Z' b>128):=by refine decide_eq_decide.2 ?_;omega
  rw[bN,this,bG c,Bool.false_or]
def aaG(x:FV):FR:=if aEX x.2.1 x.2.2 then .error 2 else .ok x
theorem a1K(neg:Bool)(a b:Nat):aaG (pF neg a b)=jP neg a b:=by
 have d:=jT (a/bhR a b) 128;have e2:=jT (b/bhR a b) 128;unfold aaG pF jP aEX;simp only[blI,dT_];by_cases c:nl (a/bhR a b)>128\/nl (b/bhR a b)>128
 ·rw[aG c,aG Om]
 ·rw[aE c,aE Om]
structure Ae(C:Ctx):Prop extends Wt C where
 valid:∀x:RF,x.Ok->aH C 56 [.agg x.cells] .nil (aI (.bool (cC (val x.num) (val x.den))))
 big:∀x:FV,aH C 48 [.agg x.rf.cells] .nil (aI (.bool (aEX x.2.1 x.2.2)))
theorem aYQ(L:Ae C)(x:FV):ZE.wp C (aZ aKJ.res (cM (frV (aaG x)))) (g_ [.agg x.rf.cells]) .nil:=by
 simp only[go_sem,ZE,apB,aKJ];refine aQ λo d=>?_;simp only[go_sem,apC];refine aB (L.big x) rfl ?_;unfold aaG;cases aEX x.2.1 x.2.2 with
 |true =>simp only[go_sem,apD];refine jV ?_;simp only[go_sem]
 |false =>obtain⟨n,a,b⟩:=x;simp only[go_sem,apE];exact bE (.inr rfl) .nil (vs:=[.agg (FV.rf (n,a,b)).cells,.int .i64 0]) Sq a_ ⟨.refl _,rfl⟩
theorem aKN(L:Ae C)(x:RF)(d:x.Ok):LG.wp C (aZ M6.res (cM (frV (oZ x)))) (g_ [.agg x.cells]) .nil:=by
 simp only[go_sem,LG,Ij,M6];refine aQ λo p=>?_;simp only[go_sem,Ik];refine aB (L.valid x d) rfl ?_;unfold oZ;cases i:cC (val x.num) (val x.den)with
 |false =>simp only[go_sem,biF,Il];refine jV ?_;simp only[go_sem]
 |true =>obtain⟨l,u,w⟩:=eY.1 i;have e:=we (neg:=x.neg) i;rw[aG rfl,e];simp only[go_sem,bhZ,Im];refine aB (L.lowest x.neg x.num x.den d.1 d.2.1 d.2.2.1 d.2.2.2 Om Om l) rfl ?_;simp only[go_sem];exact bE (.inr rfl) .nil (vs:=[.agg (pF x.neg (val x.num) (val x.den)).rf.cells,.int .i64 0]) Sq a_ ⟨.refl _,rfl⟩
theorem aRK(L:Wt C)(a b:List Nat)(d:Lim a)(hb:Lim b)(e:Z' a<=35184372087808)(i:Z' b<=35184372087808)(l:nl (val a)<=256)(p:nl (val b)<=256) :
  QY.wp C (aZ aqA.res (aI (aN (aL (val a*val b))))) (g_ [aN a,aN b]) .nil:=by
 simp only[go_sem,QY,Vb,Vc,aqA];refine aB (L.mul a b d hb e i) rfl ?_;have:=mJ l p;rw[lY Om Om,opV,KX Om];simp only[go_sem,Vd];refine aT (.inr rfl) rfl ?_;rfl
structure Xy(C:Ctx):Prop extends Ae C where
 fits:∀x:FV,aH C 57 [.agg x.rf.cells] .nil (aI (frV (aaG x)))
 red:∀x:RF,x.Ok->aH C 52 [.agg x.cells] .nil (aI (frV (oZ x)))
 prod:∀a b,Lim a->Lim b->Z' a<=35184372087808->Z' b<=35184372087808->nl (val a)<=256->nl (val b)<=256->aH C 60 [aN a,aN b] .nil (aI (aN (aL (val a*val b))))
def RF.valid(x:RF):Prop:=cC (val x.num) (val x.den)=true
def sV(x y:RF):Int:=sU x.neg (val x.num) (val x.den) y.neg (val y.num) (val y.den)
def voS:Spec:=λname vs=>match name,vs with
 |60,[x,y]=>some ([],λ_=>aI (aN (aL (val (lE x)*val (lE y)))))
 |_,_=>none
theorem FD(a b:List Nat):voS 60 [aN a,aN b]=some ([],λ_=>aI (aN (aL (val a*val b)))):=by
 show some _=_;rw[fA,fA]
theorem cx(a b:Nat):eI b a=- eI a b:=by
 unfold eI;rcases Nat.lt_trichotomy a b with h|h|h
 ·rw[aE Om,aG h,aG h];rfl
 ·subst h;rw[aE Om,aE Om];rfl
 ·rw[aG h,aE Om,aG h]
set_option maxHeartbeats 1000000 in
theorem aRJ {C : Ctx} (L : Xy C) (x y : RF) (hx : x.Ok) (hy : y.Ok) (vx : x.valid) (vy : y.valid) : QX.wp C (aZ apQ.res (aI (.int .i64 (sV x y)))) (g_ [.agg x.cells, .agg y.cells]) .nil := by
  obtain ⟨n1, a1, b1⟩ := x;obtain ⟨n2, a2, b2⟩ := y;obtain ⟨ha1, hb1, la1, lb1⟩ := hx;obtain ⟨ha2, hb2, la2, lb2⟩ := hy;obtain ⟨v1, v2, v3⟩ := eY.1 vx;obtain ⟨w1, w2, w3⟩ := eY.1 vy;simp only at ha1 hb1 la1 lb1 ha2 hb2 la2 lb2 v1 v2 v3 w1 w2 w3;have m1 := mJ v3 w2;have m2 := mJ w3 v2;have hA : decide (val a1 ≠ 0) = decide (nl (val a1 * val b2) > 0) := by refine decide_eq_decide.2 ?_;have := @lZ (val a1 * val b2);rw [Nat.mul_eq_zero] at this;omega
  have hB : decide (val a2 ≠ 0) = decide (nl (val a2 * val b1) > 0) := by refine decide_eq_decide.2 ?_;have := @lZ (val a2 * val b1);rw [Nat.mul_eq_zero] at this;omega
  unfold sV sU;simp only [hA, hB];simp only[go_sem,QX,U1,apQ];refine bV .nil voS a_ ?_;simp only[go_sem,U2];refine bX (FD a1 b2) (L.prod a1 b2 ha1 hb2 la1 lb2 Om Om) rfl a_ ?_;simp only[go_sem];refine bX (FD a2 b1) (L.prod a2 b1 ha2 hb1 la2 lb1 Om Om) rfl a_ ?_;have hc := L.cmp (aL (val a1 * val b2)) (aL (val a2 * val b1)) (aX _) (aX _) (by rw [bF]; omega) (by rw [bF]; omega);have hd := L.cmp (aL (val a2 * val b1)) (aL (val a1 * val b2)) (aX _) (aX _) (by rw [bF]; omega) (by rw [bF]; omega);rw [aV, aV] at hc hd;rw [cx (val a1 * val b2)] at hd;generalize val a1 * val b2 = A at *
  generalize val a2 * val b1 = B at *
  have gA : decide (((nl A : Nat) : Int) > 0) = decide (nl A > 0) := decide_eq_decide.2 Om;have gB : decide (((nl B : Nat) : Int) > 0) = decide (nl B > 0) := decide_eq_decide.2 Om;generalize decide (nl A > 0) = p at *
  generalize decide (nl B > 0) = q at *
  cases n1 <;> cases n2 <;> cases p <;> cases q
  all_goals
    simp only[go_sem,U3,bhO,bF,gA,gB,U4,U5,U6,U7,U8,U9,Va]
    first
    | (refine aT (.inr rfl) rfl ?_; rfl)
    | (refine aB hc rfl ?_
       simp only[go_sem];refine aT (.inr rfl) rfl ?_;rfl)
    | (refine aB hd rfl ?_
       simp only[go_sem];refine aT (.inr rfl) rfl ?_;rfl)
structure IW(C:Ctx):Prop extends Xy C where
 order:∀x y:RF,x.Ok->y.Ok->x.valid->y.valid->aH C 51 [.agg x.cells,.agg y.cells] .nil (aI (.int .i64 (sV x y)))
theorem aYT(L:IW C)(x y:RF)(d:x.Ok)(e:y.Ok)(i:x.valid)(l:y.valid):ZF.wp C (aZ aKL.res (aI (.bool (decide (sV x y<0))))) (g_ [.agg x.cells,.agg y.cells]) .nil:=by
 simp only[go_sem,ZF,apH,apI,aKL];refine aB (L.order x y d e i l) rfl ?_;simp only[go_sem];refine aT (.inr rfl) rfl ?_;rfl
theorem aYU(L:IW C)(x y:RF)(d:x.Ok)(e:y.Ok)(i:x.valid)(l:y.valid):ZJ.wp C (aZ aKO.res (aI (.bool (sV x y==0)))) (g_ [.agg x.cells,.agg y.cells]) .nil:=by
 simp only[go_sem,ZJ,apR,apS,aKO];refine aB (L.order x y d e i l) rfl ?_;simp only[go_sem];refine aT (.inr rfl) rfl ?_;rfl
theorem IK(n:Int):mkT n 1=⟨decide (n<0),aL n.natAbs,aL 1⟩:=by
 unfold mkT pF FV.rf;rw[show(1:Int).natAbs=1 from rfl,Nat.gcd_one_right,Nat.div_one,Nat.div_one,show decide ((1:Int)<0)=false from rfl];congr 1;by_cases h:n<0
 ·have:n.natAbs≠0:=Om;simp[h,this]
 ·simp[h]
theorem SH(n:Int)(h:dL n):(mkT n 1).Ok/\(mkT n 1).valid:=by
 have d:nl n.natAbs<=2:=jM (by unfold dL at h;omega);rw[IK];refine⟨⟨aX _,aX _,?_,?_⟩,?_⟩
 ·simp only[bF];omega
 ·simp only[oW];decide
 ·unfold RF.valid;simp only[aV];rw[Uw];have:nl 1=1:=by rw[nl,oW];rfl
  simp[this];omega
def yP(x:RF):Int:=if val x.num=0 then 0 else if x.neg then -1 else 1
theorem aWR(x:RF):sV x (mkT 0 1)=yP x:=by
 rw[IK];unfold sV yP sU;simp only[aV,show(0:Int).natAbs=0 from rfl,blB,Nat.zero_mul];by_cases h:val x.num=0
 ·simp[h,eI]
 ·cases x.neg<;>simp[h,eI]
def viS(r:Int):Spec:=λname _=>if name=47 then some ([],λ_=>aI (.agg (mkT 0 1).cells))else some ([],λ_=>aI (.int .i64 r))
theorem aYV(L:IW C)(x:RF)(i:x.Ok)(l:x.valid):ZK.wp C (aZ aKP.res (aI (.int .i64 (yP x)))) (g_ [.agg x.cells]) .nil:=by
 have d:dL 0:=by unfold dL;omega
 have e:=L.order x (mkT 0 1) i (SH 0 d).1 l (SH 0 d).2;rw[aWR]at e;simp only[go_sem,ZK,apT,aKP];refine bV .nil (viS (yP x)) a_ ?_;simp only[go_sem,apU];refine bX rfl (L.int 0 d) rfl a_ ?_;simp only[go_sem];refine bX rfl e rfl a_ ?_;simp only[go_sem];refine aT (.inr rfl) rfl ?_;rfl
theorem aRG(L:IW C)(i l:Bool)(a1 b1 a2 b2:List Nat)(O:Lim a1)(J:Lim b1)(Q:Lim a2)(K:Lim b2)
  (R:Z' a1<=35184372087808) (M:Z' b1<=35184372087808) (S:Z' a2<=35184372087808) (N:Z' b2<=35184372087808) :
  NM.wp C (aZ aKG.res (cM (frV (gY (i,val a1,val b1) (l,val a2,val b2))))) (g_ [.agg (eZ i a1 b1),.agg (eZ l a2 b2)]) .nil:=by
 have vx:aH C 56 [.agg (eZ i a1 b1)] .nil (aI (.bool (cC (val a1) (val b1)))):=L.valid ⟨i,a1,b1⟩ ⟨O,J,R,M⟩;have vy:aH C 56 [.agg (eZ l a2 b2)] .nil (aI (.bool (cC (val a2) (val b2)))):=L.valid ⟨l,a2,b2⟩ ⟨Q,K,S,N⟩;simp only[go_sem,NM,aCS,aKG];refine aQ λo ho=>?_;simp only[go_sem,aCT];refine aB vx rfl ?_;simp only[gY];cases hv:cC (val a1) (val b1)with
 |false =>simp only[go_sem,biF,M1,bhY];refine jV ?_;simp only[go_sem]
 |true=>
  obtain⟨v1,v2,v3⟩:=eY.1 hv;simp only[go_sem,bhZ];refine aB vy rfl ?_;cases hw:cC (val a2) (val b2)with
  |false =>simp only[go_sem,biF,M1,bjE];refine jV ?_;simp only[go_sem]
  |true=>
   obtain⟨w1,w2,w3⟩:=eY.1 hw;simp only[go_sem,bhZ,bjY];refine bV .nil voS a_ ?_;simp only[go_sem,aCU];refine bX (FD a1 b2) (L.prod a1 b2 O K R N Om Om) rfl a_ ?_;simp only[go_sem];refine bX (FD a2 b1) (L.prod a2 b1 Q J S M Om Om) rfl a_ ?_;simp only[go_sem];refine bX (FD b1 b2) (L.prod b1 b2 J K M N Om Om) rfl a_ ?_;simp only[go_sem];have m1:=mJ v3 w2;have m2:=mJ w3 v2;have m3:=mJ v2 w2;have d0:val b1*val b2≠0:=Nat.mul_ne_zero v1 w1;generalize hA:val a1*val b2=A at *
   generalize hB:val a2*val b1=B at *
   generalize hD:val b1*val b2=D at *
   have fin:∀(F:PF)(H:PH)(r:FR),(∃d x y e,frV r=.tup [.agg (eZ d x y),.int .i64 e]/\F 4=some (.ptr o 3 0 0)/\F 5=some (.int .i64 e)/\H o=some (.rows 3 [eZ d x y]))->aZ [.cell 4 (some 3),.tmp 5] (cM (frV r)) .ret F H:=by rintro F H r ⟨d,x,y,e,he,f4,f5,hH⟩;rw[he];exact bE (.inr rfl) .nil (vs:=[.agg (eZ d x y),.int .i64 e]) (by simp only[go_sem,f4,f5,hH]) a_ ⟨.refl _,rfl⟩
   have W:(i==l)=decide (i=l):=by cases i<;>cases l<;>rfl
   have low:∀neg x,nl x<=257->aH C 58 [.bool neg,aN (aL x),aN (aL D)] .nil (aI (.agg (pF neg x D).rf.cells)):=by
    intro neg x hx;have Z:(aL x).length<=35184372087808:=by rw[bF];omega
    have h2:(aL D).length<=35184372087808:=by rw[bF];omega
    have:=L.lowest neg (aL x) (aL D) (aX _) (aX _) Z h2;rw[aV,aV]at this;exact this Om Om d0
   have E:∀neg x,aH C 57 [.agg (pF neg x D).rf.cells] .nil (aI (frV (jP neg x D))):=λneg x=>by
    have:=L.fits (pF neg x D)
    rwa[a1K]at this
   have lA:(aL A).length<=35184372087808:=by rw[bF];omega
   have lB:(aL B).length<=35184372087808:=by rw[bF];omega
   simp only[go_sem,aCV];by_cases c:i=l
   ·rw[aG c];have U:(i==l)=true:=by rw[W,bA c]
    simp only[go_sem,U,aCW];have u:=L.add (aL A) (aL B) (aX _) (aX _) lA lB;have α:=Ge m1 m2;rw[aV,aV,lY Om Om,opV,KX Om]at u;refine aB u rfl ?_;simp only[go_sem,aCX];refine aB (low i _ Om) rfl ?_;simp only[go_sem];refine aB (E i _) rfl ?_;obtain⟨d,x,y,e,p⟩:=CV (jP i (A+B) D);rw[p];simp only[go_sem];rw[<-p];exact fin _ _ _ ⟨d,x,y,e,p,s_,s_,s_⟩
   ·rw[aE c];have U:(i==l)=false:=by rw[W,bG c]
    simp only[go_sem,U,aCY];have hc:=L.cmp (aL A) (aL B) (aX _) (aX _) lA lB;rw[aV,aV]at hc;refine aB hc rfl ?_;have w:∀X Y:Nat,nl X<=256->nl Y<=256->Y<=X->aH C 37 [aN (aL X),aN (aL Y)] .nil (aI (.tup [aN (aL (X-Y)),.int .i64 0])):=by intro X Y Z h2 h;have:=L.sub (aL X) (aL Y) (aX _) (aX _) (by rw[bF];omega) (by rw[bF];omega);have h3:=jL (Om:X-Y<=X);rw[aV,aV,zH,lY Om Om,aE aS,aE Om,KX Om]at this;exact this
    by_cases g:B<=A
    ·have V:eI A B>=0:=(ll A B).2 g;rw[aG g];simp only[go_sem,V,aCZ];refine aB (w A B Om Om g) rfl ?_;simp only[go_sem,aDA];have h3:=jL (Om:A-B<=A);refine aB (low i (A-B) Om) rfl ?_;simp only[go_sem];refine aB (E i _) rfl ?_;obtain⟨d,x,y,e,p⟩:=CV (jP i (A-B) D);rw[p];simp only[go_sem];rw[<-p];exact fin _ _ _ ⟨d,x,y,e,p,s_,s_,s_⟩
    ·have V:¬eI A B>=0:=λh=>g ((ll A B).1 h);rw[aE g];simp only[go_sem,V,aoX];refine aB (w B A Om Om Om) rfl ?_;simp only[go_sem,aoY];have h3:=jL (Om:B-A<=B);refine aB (low l (B-A) Om) rfl ?_;simp only[go_sem];refine aB (E l _) rfl ?_;obtain⟨d,x,y,e,p⟩:=CV (jP l (B-A) D);rw[p];simp only[go_sem];rw[<-p];exact fin _ _ _ ⟨d,x,y,e,p,s_,s_,s_⟩
theorem a5B(L:IW C)(x y:RF)(d:x.Ok)(e:y.Ok):NM.wp C (aZ aKG.res (cM (frV (gY x.v y.v)))) (g_ [.agg x.cells,.agg y.cells]) .nil:=
 aRG L x.neg y.neg x.num x.den y.num y.den d.1 d.2.1 e.1 e.2.1 d.2.2.1 d.2.2.2 e.2.2.1 e.2.2.2
structure aEN(C:Ctx):Prop extends IW C where
 less:∀x y:RF,x.Ok->y.Ok->x.valid->y.valid->aH C 49 [.agg x.cells,.agg y.cells] .nil (aI (.bool (decide (sV x y<0))))
 same:∀x y:RF,x.Ok->y.Ok->x.valid->y.valid->aH C 53 [.agg x.cells,.agg y.cells] .nil (aI (.bool (sV x y==0)))
 sign:∀x:RF,x.Ok->x.valid->aH C 54 [.agg x.cells] .nil (aI (.int .i64 (yP x)))
 plus:∀x y:RF,x.Ok->y.Ok->aH C 46 [.agg x.cells,.agg y.cells] .nil (aI (frV (gY x.v y.v)))
def vsF(l:List RF)(o2 o4 k:Nat):PF:=((((n_.set 0 (frs l)).set 2 (.ptr o2 3 0 0)).set 4 (.ptr o4 3 0 0)).set 5 (.int .i64 k))
theorem a5D(L:aEN C)(l:List RF)(hl:∀x∈l,x.Ok)(V:Z' l<=9223372036854775807) :
  kg.wp C (aZ aYX.res (cM (frV (tA (l.map RF.v))))) (g_ [frs l]) .nil:=by
 have Y:dL 0:=by unfold dL;omega
 have hi:(mkT 0 1).cells=(FV.rf (false,0,1)).cells:=by rw[IK];rfl
 have y:=L.int 0 Y;rw[hi]at y;simp only[go_sem,kg,aDF,aYX];refine aQ λo2 β=>?_;have Z:aR (h_.set o2 (.rows 3 [[.bool false,.aK,.aK]])) [(o2,.rows 3 [[.bool false,.aK,.aK]])] []:=aR.nil.new (H:=h_) rfl _;generalize(h_.set o2 _)=H1 at *
 simp only[go_sem,aDG];refine aB y rfl ?_;simp only[go_sem];refine aQ λo4 S=>?_;have h2:=Z.new S (.rows 3 [(FV.rf (false,0,1)).cells]);simp only[go_sem,aDH];refine wp_loop (α:=Nat × FV × PH) (λt=>vsF l o2 o4 t.1) (λt=>t.2.2) (λt=>t.1<=Z' l/\((l.map RF.v).take t.1).foldlM gY (false,0,1)=.ok t.2.1/\aR t.2.2 [(o2,.rows 3 [[.bool false,.aK,.aK]]),(o4,.rows 3 [(FV.rf t.2.1).cells])] []/\(FV.rf t.2.1).Ok) (λt=>Z' l-t.1)
  (0,(false,0,1),_) ⟨bhT _,rfl,h2,⟨aX _,aX _,?_,?_⟩⟩ ?_ b_ ?_
 ·show(aL 0).length<=_;rw[fG];simp
 ·show(aL 1).length<=_;rw[oW];simp
 ·unfold vsF;exact Lq
 rintro⟨k,i,U⟩ ⟨hk,M,B,u⟩;simp only at hk M B u ⊢;simp only[go_sem,aDE,aDI,vsF,bhO];by_cases hlt:k<Z' l
 ·have p:(k:Int)<(Z' l:Nat):=Om;have hr:(l.map RF.cells)[k]?=some (l[k]).cells:=by simp[hlt]
  have w:=L.plus (FV.rf i) l[k] u (hl _ (bhS hlt));rw[FV.PW]at w;have d:=p8 (f:=gY) (l.map RF.v) (false,0,1) (k:=k) (by simpa using hlt);rw[M]at d;simp only[Except.bind,bjK]at d;have N:=B.at 1 rfl;simp only[go_sem,p];refine bV .nil (λ_ _=>some ([],λ_=>aI (frV (gY i (l[k]).v)))) a_ ?_;simp only[go_sem,aDJ,N,hr];refine bX rfl w rfl a_ ?_;cases K:gY i (l[k]).v with
  |error e=>
   have R:e≠0:=by
    revert K;obtain⟨n1,a1,b1⟩:=i;obtain⟨n2,a2,b2⟩:=(l[k]).v;simp only[gY,jP]
    repeat' split
    all_goals (intro h;first|(injection h with h;subst h;decide)|cases h)
   rw[K]at d;simp only[go_sem,frV];refine aQ λo6 A=>?_;simp only[go_sem];refine⟨a_,?_⟩;have E:=B.new A (.rows 3 [[.bool false,aN [],aN []]]);have e2:=E.at 0 rfl;simp only[go_sem,M7,dX R,aDK,e2];rw[tA,Dp _ _ d];refine jV ?_;simp only[go_sem]
  |ok r=>
   rw[K]at d;obtain⟨rn,F,J⟩:=r;simp only[go_sem,frV];refine aQ λo6 A=>?_;simp only[go_sem];refine⟨a_,?_⟩;have E:=B.new A (.rows 3 [(FV.rf (rn,F,J)).cells]);have X:=E.at 2 rfl;have O:=E.at 1 rfl;generalize hG:U.set o6 (.rows 3 [(FV.rf (rn,F,J)).cells])=W at *
   have Q:U.set o6 (.rows 3 [[.bool rn,aN (aL F),aN (aL J)]])=W:=hG;simp only[go_sem,M7,aDL,Q,X,O,aDM,wZz k];have h7:=(E.set 1 rfl (.rows 3 [(FV.rf (rn,F,J)).cells])).tM 2;refine aJ (k+1,(rn,F,J),_) ⟨hlt,d,h7,lg K⟩ (by simp only;omega) ?_ b_;exact Lq
 ·have p:¬(k:Int)<(Z' l:Nat):=Om;have:k=Z' l:=Om;subst this;rw[biK bH]at M;rw[tA,M];have e2:=B.at 0 rfl;have N:=B.at 1 rfl;obtain⟨n,a,b⟩:=i;simp only[go_sem,p,apZ,N,e2];exact bE (.inr rfl) .nil (vs:=[.agg (FV.rf (n,a,b)).cells,.int .i64 0]) Sq a_ ⟨.refl _,rfl⟩
theorem dge{n:Nat}(k:Nat):decide ((n:Int)>=(k:Int))=decide (k<=n):=decide_eq_decide.2 Om
theorem dle{n:Nat}(k:Nat):decide ((n:Int)<=(k:Int))=decide (n<=k):=decide_eq_decide.2 Om
theorem aKT(n:Nat):LK.wp C (aZ Nc.res (aI (.bool (gV n)))) (g_ [.int .u8 n]) .nil:=by
 have e:=dge (n:=n) 97;have i:=dle (n:=n) 122;have l:=dge (n:=n) 65;have p:=dle (n:=n) 90;simp only[Int.cast_ofNat_Int]at e i l p;unfold gV;generalize decide (97<=n)=a at *
 generalize decide (n<=122)=b at *
 generalize decide (65<=n)=c at *
 generalize decide (n<=90)=d at *
 cases a<;>cases b<;>cases c<;>cases d
 all_goals
  simp only[go_sem,LK,I1,I2,Nc,e,i,l,p];refine aT (.inr rfl) rfl ?_;rfl
theorem aRM(n:Nat):RC.wp C (aZ aqC.res (aI (.bool (rK n)))) (g_ [.int .u8 n]) .nil:=by
 have d:=dge (n:=n) 48;have e:=dle (n:=n) 57;simp only[Int.cast_ofNat_Int]at d e;unfold rK;generalize decide (48<=n)=a at *
 generalize decide (n<=57)=b at *
 cases a<;>cases b
 all_goals
  simp only[go_sem,RC,Vh,Vi,aqC,d,e];refine aT (.inr rfl) rfl ?_;rfl
theorem aKR(d:∀n:Nat,aH C 65 [.int .u8 n] .nil (aI (.bool (gV n))))(e:∀n:Nat,aH C 63 [.int .u8 n] .nil (aI (.bool (rK n))))(n:Nat) :
  LH.wp C (aZ M9.res (aI (.bool (jQ n)))) (g_ [.int .u8 n]) .nil:=by
 have g1:((n:Int)==45)=decide (n=45):=by by_cases h:n=45<;>simp[h];omega
 have g2:((n:Int)==46)=decide (n=46):=by by_cases h:n=46<;>simp[h];omega
 have k1:=d n;have k2:=e n;unfold jQ;generalize decide (n=45)=a at *
 generalize decide (n=46)=b at *
 simp only[go_sem,LH,Iq,Ir,M9];refine aB k1 rfl ?_;cases gV n with
 |true =>simp only[go_sem];refine aT (.inr rfl) rfl ?_;rfl
 |false=>
  simp only[go_sem];refine aB k2 rfl ?_;cases rK n<;>cases a<;>cases b
  all_goals
   simp only[go_sem,g1,g2];refine aT (.inr rfl) rfl ?_;rfl
theorem aKS(A:∀n:Nat,aH C 65 [.int .u8 n] .nil (aI (.bool (gV n))))(B:∀n:Nat,aH C 64 [.int .u8 n] .nil (aI (.bool (jQ n))))(s:List UInt8) :
  LJ.wp C (aZ Nb.res (aI (.bool (isName s)))) (g_ [.str s]) .nil:=by
 simp only[go_sem,LJ,It,Iu,Nb];cases s with
 |nil =>have y:decide (((0:Nat):Int)<1)=true:=rfl;simp only[go_sem,HP,bkK,y];refine aT (.inr rfl) rfl ?_;rfl
 |cons c t=>
  have E:(c::t)[0]?=some c:=rfl;have i:isName (c::t)=(decide ((c::t).length<=16)&&gV c.toNat&&(c::t).all λc=>jQ c.toNat):=rfl;have e:¬(((c::t).length:Nat):Int)<1:=by simp only[bjL];omega
  generalize c::t=s at *
  by_cases x:Z' s<=16
  ·have l:¬(Z' s:Int)>16:=Om;rw[bA x,biA]at i;have k1:=A c.toNat;simp only[go_sem,e,l,E,biP];refine aB k1 rfl ?_;cases w:gV c.toNat with
   |false =>simp only[go_sem,biF,HP];refine aT (.inr rfl) rfl ?_;rw[bN,i,w,bhY]
   |true=>
    rw[w,biA]at i;simp only[go_sem,bhZ,Iv];refine wp_loop (α:=Nat) (λk=>((n_.set 0 (.str s)).set 3 (.int .i64 k))) (λ_=>.nil) (λk=>k<=Z' s/\(s.take k).all (λc=>jQ c.toNat)=true) (λk=>Z' s-k) 0 ⟨bhT _,rfl⟩ Lq a_ ?_;rintro k ⟨F,p⟩;simp only[go_sem,Is,Iw];by_cases hlt:k<Z' s
    ·have d:(k:Int)<(Z' s:Nat):=Om;have u:s[k]?=some s[k]:=biD hlt;have k2:=B (s[k]).toNat;simp only[go_sem,d,Ix,u,biP];refine aB k2 rfl ?_;cases hi:jQ (s[k]).toNat with
     |false =>simp only[go_sem,biF,Iy];refine aT (.inr rfl) rfl ?_;rw[bN,i,vF hlt hi]
     |true =>simp only[go_sem,bhZ,Iz,wZz k];exact aJ (k+1) ⟨hlt,by simpa using vE hlt p hi⟩ Om Lq b_
    ·have d:¬(k:Int)<(Z' s:Nat):=Om;have:k=Z' s:=Om;subst this;rw[biS]at p;simp only[go_sem,d,I0];refine aT (.inr rfl) rfl ?_;rw[bN,i,p]
  ·have l:(Z' s:Int)>16:=Om;rw[bG x,bhY,bhY]at i;simp only[go_sem,e,l,HP];refine aT (.inr rfl) rfl ?_;rw[bN,i]
def TL(k m:Int):Bool:=within k 1 6&&(within m 0 4&&decide (k+m<=8))
theorem aXK(k m:Int):tX.wp C (aZ XW.res (aI (.bool (TL k m)))) (g_ [.int .i64 k,.int .i64 m]) .nil:=by
 unfold TL within;by_cases d:1<=k
 ·by_cases e:k<=6
  ·by_cases i:0<=m
   ·by_cases l:m<=4
    ·have p:i_.wrap (k+m)=k+m:=wrap_i64 Om Om;simp only[go_sem,tX,DL,DM,XW,ge_iff_le,d,e,i,l,p];refine aT (.inr rfl) rfl ?_;simp[bN,d,e,i,l]
    ·simp only[go_sem,tX,DL,DM,XW,ge_iff_le,d,e,i,l];refine aT (.inr rfl) rfl ?_;simp[bN,d,e,i,l]
   ·simp only[go_sem,tX,DL,DM,XW,ge_iff_le,d,e,i];refine aT (.inr rfl) rfl ?_;simp[bN,d,e,i]
  ·simp only[go_sem,tX,DL,DM,XW,ge_iff_le,d,e];refine aT (.inr rfl) rfl ?_;simp[bN,d,e]
 ·simp only[go_sem,tX,DL,DM,XW,ge_iff_le,d];refine aT (.inr rfl) rfl ?_;simp[bN,d]
def RK:=bT [1] Proofs.Tryz.f63
def Vz:=aA RK 0
def V0:=aA RK 1
def NP:=aA RK 2
def RJ:aC:=(sq Vz (sq V0 (sq NP .ret)))
def aqW:bD:=⟨1,29,RJ,[.tmp 2]⟩
def nF:=bT [] Proofs.Tryz.f103
def I7:=aA nF 0
def I8:=aA nF 1
def I9:=aA nF 2
def Ja:=aA nF 3
def Jb:=aA nF 4
def Jc:=aA nF 5
def Jd:=aA nF 6
def Je:=aA nF 7
def I6:aC:=(dK Jb 12 0 Je (sq Jc (.cond (Tm 20) (sq Jd .ret) .skip)))
def Jf:=aA nF 8
def LM:aC:=(sq I7 (dP I8 9 I9 (.seq (cH Ja 0 I6) (sq Jf .ret))))
def Nk:bD:=⟨2,21,LM,[.tmp 4]⟩
def eH:=bT [1] Proofs.Tryz.f61
def aDS:=aA eH 0
def aDT:=aA eH 1
def aDU:=aA eH 2
def IS:=aA eH 3
def aDV:=aA eH 4
def aDW:=aA eH 5
def aDX:=aA eH 6
def Nj:=aA eH 7
def aDY:=aA eH 8
def aDR:aC:=(dK aDW 44 0 aDY (sq aDX (.cond (Tm 66) (sq Nj .ret) .skip)))
def aqJ:=aA eH 9
def zk:=cV eH 0
def zl:=aA eH 10
def aqK:=aA eH 11
def aqL:=aA eH 12
def aqM:=aA eH 13
def aqN:=aA eH 14
def aqO:=aA eH 15
def zm:=aA eH 16
def zn:=aA eH 17
def aqP:=aA eH 18
def zo:=aA eH 19
def ZQ:=aA eH 20
def ZP:aC:=(dK aqP 111 6 ZQ (.region zo))
def zp:=aA eH 21
def zh:aC:=(dK aqO 90 4 zp (sq zm (cH zn 6 ZP)))
def aqQ:=aA eH 22
def zi:aC:=(dK aqM 85 2 aqQ (cH aqN 4 zh))
def aqR:=aA eH 23
def aqS:=aA eH 24
def zq:=aA eH 25
def aqT:=aA eH 26
def aqU:=aA eH 27
def zj:aC:=(dK aqS 141 8 aqU (sq zq (.cond (Tm 148) (sq aqT .ret) .skip)))
def zr:=aA eH 28
def ku:aC:=(sq aDS (sq aDT (dP aDU 41 IS (.seq (cH aDV 0 aDR) (.seq (sq aqJ (dq zk (.cond (Tm 80) (sq zl .ret) .skip))) (sq aqK (.seq (cH aqL 2 zi) (.seq (cH aqR 8 zj) (sq zr .ret)))))))))
def aZG:bD:=⟨1,149,ku,[.tmp 2]⟩
def rZ:=bT [] Proofs.Tryz.f107
def aEA:=aA rZ 0
def aEB:=aA rZ 1
def aEC:=aA rZ 2
def aED:=aA rZ 3
def aEE:=aA rZ 4
def aEF:=aA rZ 5
def aEG:=aA rZ 6
def aEH:=aA rZ 7
def aDZ:aC:=(dK aEE 14 0 aEH (sq aEF (.cond (Tm 22) (sq aEG .ret) .skip)))
def aEI:=aA rZ 8
def kw:aC:=(sq aEA (dP aEB 10 aEC (.seq (cH aED 0 aDZ) (sq aEI .ret))))
def aZI:bD:=⟨2,23,kw,[.tmp 4]⟩
def kz:=bT [] Proofs.Tryz.f58
def ba:=aA kz 0
def bb:=aA kz 1
def CN:aC:=(sq ba (sq bb .ret))
def nu:bD:=⟨3,15,CN,[.tmp 6]⟩
def ue:=bT [] Proofs.Tryz.f59
def Vx:=aA ue 0
def Vy:=aA ue 1
def RI:aC:=(sq Vx (sq Vy .ret))
def aqV:bD:=⟨6,35,RI,[.tmp 12]⟩
def mF:=bT [7] Proofs.Tryz.f64
def tx:=aA mF 0
def tz:=aA mF 1
def EG:=aA mF 2
def t6:=aA mF 3
def t7:=aA mF 4
def RH:=aA mF 5
def t8:=aA mF 6
def uc:=aA mF 7
def tw:aC:=(dK t7 29 0 uc (sq RH (.cond (Tm 36) (sq t8 .ret) .skip)))
def ud:=aA mF 8
def FT:aC:=(sq tx (dP tz 27 EG (.seq (cH t6 0 tw) (sq ud .ret))))
def zt:bD:=⟨4,37,FT,[.tmp 8]⟩
def Vm:=bT [6,7] Proofs.Tryz.f65
def aDP:=aA Vm 0
def aDQ:=cV Vm 0
def kp:aC:=(sq aDP (dq aDQ .ret))
def aZC:bD:=⟨4,26,kp,[.tmp 8]⟩
def sH:=bT [] Proofs.Tryz.f102
def Vq:=aA sH 0
def Vs:=aA sH 1
def Vt:=aA sH 2
def kr:=aA sH 3
def Vu:=aA sH 4
def Vv:=aA sH 5
def Vp:aC:=(dK Vt 9 0 Vv (sq kr (.cond (Tm 17) (sq Vu .ret) .skip)))
def Vw:=aA sH 6
def RG:aC:=(sq Vq (.seq (cH Vs 0 Vp) (sq Vw .ret)))
def aqI:bD:=⟨2,19,RG,[.tmp 4]⟩
def bW:=bT [1] Proofs.Tryz.f26
def V1:=aA bW 0
def V2:=aA bW 1
def NQ:=aA bW 2
def V3:=aA bW 3
def V4:=aA bW 4
def V5:=aA bW 5
def V6:=aA bW 6
def V7:=aA bW 7
def kx:=aA bW 8
def ky:=aA bW 9
def ZR:aC:=(dK V6 61 0 ky (sq V7 (.region kx)))
def Jg:=aA bW 10
def Jh:=aA bW 11
def Ji:=aA bW 12
def Jj:=aA bW 13
def ZU:=aA bW 14
def CK:=aA bW 15
def ZS:aC:=(dK Jh 91 2 CK (sq Ji (sq Jj (.region ZU))))
def Jk:=aA bW 16
def ZV:=aA bW 17
def ZW:=aA bW 18
def Jl:=aA bW 19
def Jm:=aA bW 20
def Jn:=aA bW 21
def ZX:=cV bW 0
def tZ:=aA bW 22
def HQ:aC:=(dK Jl 169 4 tZ (sq Jm (sq Jn (.draw ZX))))
def ZY:=aA bW 23
def Jo:=aA bW 24
def Jp:=aA bW 25
def Jq:=aA bW 26
def ZZ:=aA bW 27
def CL:=aA bW 28
def HR:aC:=(dK Jo 227 6 CL (sq Jp (sq Jq (.region ZZ))))
def aa:=aA bW 29
def Jr:=aA bW 30
def Js:=aA bW 31
def Jt:=aA bW 32
def ai:=aA bW 33
def CM:=aA bW 34
def Ju:=aA bW 35
def Jv:=cV bW 1
def Jw:=aA bW 36
def Jx:=aA bW 37
def aj:=cV bW 2
def an:=aA bW 38
def ZT:aC:=(dK Jx 344 12 an (.draw aj))
def Jy:=aA bW 39
def HS:aC:=(dK Ju 329 10 Jy (dq Jv (cH Jw 12 ZT)))
def ao:=aA bW 40
def HT:aC:=(dK Jr 278 8 ao (sq Js (sq Jt (sq ai (cH CM 10 HS)))))
def au:=aA bW 41
def Jz:=aA bW 42
def J0:=aA bW 43
def av:=cV bW 3
def aw:=aA bW 44
def HU:aC:=(dK Jz 368 14 aw (sq J0 (.draw av)))
def ay:=aA bW 45
def RL:aC:=(sq V1 (dP V2 53 NQ (sq V3 (sq V4 (.seq (cH V5 0 ZR) (.seq (cH Jg 2 ZS) (sq Jk (sq ZV (.seq (cH ZW 4 HQ) (.seq (cH ZY 6 HR) (.seq (cH aa 8 HT) (.seq (cH au 14 HU) (sq ay .ret)))))))))))))
def aqX:bD:=⟨1,397,RL,[.tmp 2]⟩
def tv:=bT [8] Proofs.Tryz.f60
def Vn:=aA tv 0
def Vo:=aA tv 1
def RE:aC:=(sq Vn (sq Vo .ret))
def aqH:bD:=⟨2,18,RE,[.tmp 4,.tmp 5]⟩
theorem aKY(n lo hi:Int):CN.wp C (aZ nu.res (aI (.bool (within n lo hi)))) (g_ [.int .i64 n,.int .i64 lo,.int .i64 hi]) .nil:=by
 unfold within;by_cases h:lo<=n
 ·simp only[go_sem,CN,ba,bb,nu,ge_iff_le,h];refine aT (.inr rfl) rfl ?_;simp[bN,h]
 ·simp only[go_sem,CN,ba,bb,nu,ge_iff_le,h];refine aT (.inr rfl) rfl ?_;simp[bN,h]
def wB(a b c d e f:Nat):Bool:=decide (a<=4)&&(decide (b<=4)&&(decide (c<=40)&&(decide (d<=24)&&(decide (e<=4)&&decide (f<=12)))))
theorem aRV(a b c d e f:Nat):RI.wp C (aZ aqV.res (aI (.bool (wB a b c d e f)))) (g_ [.int .i64 a,.int .i64 b,.int .i64 c,.int .i64 d,.int .i64 e,.int .i64 f]) .nil:=by
 have g:∀x k:Nat,decide ((x:Int)<=(k:Int))=decide (x<=k):=λx k=>decide_eq_decide.2 Om;have i:=g a 4;have l:=g b 4;have p:=g c 40;have u:=g d 24;have h5:=g e 4;have w:=g f 12;simp only[Int.cast_ofNat_Int]at i l p u h5 w;unfold wB;simp only[go_sem,RI,Vx,Vy,aqV,i];cases decide (a<=4)with
 |false =>simp only[go_sem];refine aT (.inr rfl) rfl ?_;rfl
 |true=>
  simp only[go_sem,l];cases decide (b<=4)with
  |false =>simp only[go_sem];refine aT (.inr rfl) rfl ?_;rfl
  |true=>
   simp only[go_sem,p];cases decide (c<=40)with
   |false =>simp only[go_sem];refine aT (.inr rfl) rfl ?_;rfl
   |true=>
    simp only[go_sem,u];cases decide (d<=24)with
    |false =>simp only[go_sem];refine aT (.inr rfl) rfl ?_;rfl
    |true=>
     simp only[go_sem,h5];cases decide (e<=4)with
     |false =>simp only[go_sem];refine aT (.inr rfl) rfl ?_;rfl
     |true =>simp only[go_sem,w];refine aT (.inr rfl) rfl ?_;rfl
structure Aa(C:Ctx):Prop extends aEN C where
 sum:∀l:List RF,(∀x∈l,x.Ok)->Z' l<=9223372036854775807->aH C 55 [frs l] .nil (aI (frV (tA (l.map RF.v))))
 inn:∀n lo hi:Int,aH C 76 [.int .i64 n,.int .i64 lo,.int .i64 hi] .nil (aI (.bool (within n lo hi)))
 code:∀k m:Int,aH C 61 [.int .i64 k,.int .i64 m] .nil (aI (.bool (TL k m)))
def XD(k m q s0 s1 s2 s3 s4:Int):Bool:=TL k m&&(within q k (k+m)&&(decide (s0=0)&&(within s1 0 8&&(within s2 0 8&&(within s3 0 8&&within s4 0 8)))))
theorem a3N(p:cE):XC p=XD p.k p.m p.bhB p.s0 p.s1 p.s2 p.s3 p.s4:=by
 unfold XC XD TL;have:within p.s0 0 8=true\/p.s0≠0:=by
  by_cases h:p.s0=0
  ·rw[h];exact .inl rfl
  ·exact .inr h
 simp only[blJ,List.all_nil,bjY];rcases this with h|h
 ·rw[h];simp only[biA,blE]
 ·simp only[h,decide_false,bhY,bjE]
def spR(s1 s2 s3 s4:Int)(k:Nat):Int:=match k with
 |1=>s1
 |2=>s2
 |3=>s3
 |_=>s4
theorem asT(L:Aa C)(k m q s0 s1 s2 s3 s4:Int) :
  FT.wp C (aZ zt.res (aI (.bool (XD k m q s0 s1 s2 s3 s4)))) (g_ [.int .i64 k,.int .i64 m,.int .i64 q,.agg [.int .i64 s0,.int .i64 s1,.int .i64 s2,.int .i64 s3,.int .i64 s4]]) .nil:=by
 obtain⟨X,p⟩:∃X,XD k m q s0 s1 s2 s3 s4=X:=⟨_,rfl⟩;rw[p];unfold XD at p;simp only[go_sem,FT,tx,tz,zt];refine aB (L.code k m) rfl ?_;cases E:TL k m with
 |false =>rw[E,bhY]at p;simp only[go_sem,biF,EG];refine aT (.inr rfl) rfl ?_;rw[bN,p]
 |true=>
  rw[E,biA]at p;have hb:1<=k/\k<=6/\0<=m/\m<=4:=by simp only[TL,bhQ,within_iff]at E;omega
  have O:i_.wrap (k+m)=k+m:=wrap_i64 Om Om;simp only[go_sem,bhZ,O];refine aB (L.inn q k (k+m)) rfl ?_;cases H:within q k (k+m)with
  |false =>rw[H,bhY]at p;simp only[go_sem,biF,EG];refine aT (.inr rfl) rfl ?_;rw[bN,p]
  |true=>
   rw[H,biA]at p;have B:(0:Int)<((5:Nat):Int):=by decide
   by_cases F:s0=0
   ·rw[bA F,biA]at p;simp only[go_sem,bhZ,B,cN F,t6];refine wp_loop (α:=Nat) (λj=>((n_.set 7 (.bK [.int .i64 s0,.int .i64 s1,.int .i64 s2,.int .i64 s3,.int .i64 s4])).set 9 (.int .i64 j))) (λ_=>.nil) (λj=>1<=j/\j<=5/\∀i,1<=i->i<j->within (spR s1 s2 s3 s4 i) 0 8=true) (λj=>5-j) 1 ⟨by decide,by decide,λi E H=>by omega⟩ Lq a_ ?_;rintro j ⟨K,M,d⟩;simp only[go_sem,tw,t7];by_cases hlt:j<5
    ·have l:(j:Int)<5:=Om;have x:((j:Nat):Int)<((5:Nat):Int):=Om;have w:=L.inn (spR s1 s2 s3 s4 j) 0 8;obtain⟨c,u⟩:∃c,within (spR s1 s2 s3 s4 j) 0 8=c:=⟨_,rfl⟩;rw[u]at w;have y:c=true->∀i,1<=i->i<j+1->within (spR s1 s2 s3 s4 i) 0 8=true:=λA i a b=>by
      by_cases e:i=j
      ·rw[e,u,A]
      ·exact d i a Om
     have bad:c=false->X=false:=by intro h;rw[h]at u;have A:j=1\/j=2\/j=3\/j=4:=Om;rw[<-p];rcases A with rfl|rfl|rfl|rfl<;>(simp only[spR]at u;rw[u];simp)
     have A:j=1\/j=2\/j=3\/j=4:=Om;cases c with
     |false=>
      have J:=bad rfl;rcases A with rfl|rfl|rfl|rfl
      all_goals
       simp only[spR]at w;simp only[go_sem,l,RH,x];refine aB w rfl ?_;simp only[go_sem,biF,t8];refine aT (.inr rfl) rfl ?_;rw[bN,J]
     |true=>
      have N:=y rfl;rcases A with rfl|rfl|rfl|rfl
      all_goals
       simp only[spR]at w;simp only[go_sem,l,RH,x];refine aB w rfl ?_;simp only[go_sem,bhZ,uc];refine aJ (_+1) ⟨by omega,hlt,N⟩ Om Lq b_
    ·have l:¬(j:Int)<5:=Om;have:j=5:=Om;subst this;simp only[go_sem,l,ud];refine aT (.inr rfl) rfl ?_;have a1:=d 1 aS aS;have a2:=d 2 aS aS;have a3:=d 3 aS aS;have a4:=d 4 aS aS;simp only[spR]at a1 a2 a3 a4;rw[bN,<-p,a1,a2,a3,a4];rfl
   ·rw[bG F,bhY]at p;simp only[go_sem,bhZ,B,dX F,EG];refine aT (.inr rfl) rfl ?_;rw[bN,p]
theorem wV{x:RF}(h:dT x=true):x.valid:=by
 unfold dT oZ at h;unfold RF.valid;cases d:cC (val x.num) (val x.den)with
 |true=>rfl
 |false =>rw[d]at h;simp at h
theorem aRW(L:Aa C)(x:RF)(y:x.Ok):RJ.wp C (aZ aqW.res (aI (.bool (dT x)))) (g_ [.agg x.cells]) .nil:=by
 have w:=L.red x y;unfold dT;simp only[go_sem,RJ,Vz,V0,aqW];refine aB w rfl ?_;cases p:oZ x with
 |error e =>have l:=XP p;simp only[go_sem,frV];refine aQ λo u=>?_;simp only[go_sem,NP,bL l];refine aT (.inr rfl) rfl ?_;rfl
 |ok r=>
  obtain⟨n,a,b⟩:=r;have A:=jT a 1;have B:=jT b 1;have d:decide (((nl a:Nat):Int)<=1)=decide (cX a<=32):=decide_eq_decide.2 Om;have i:decide (((nl b:Nat):Int)<=1)=decide (cX b<=32):=decide_eq_decide.2 Om;simp only[go_sem,frV];refine aQ λo u=>?_;cases n with
  |true =>simp only[go_sem,NP,bhZ];refine aT (.inr rfl) rfl ?_;rfl
  |false=>
   simp only[go_sem,NP,biF,bhO,bF,d];cases decide (cX a<=32)with
   |false =>simp only[go_sem];refine aT (.inr rfl) rfl ?_;rfl
   |true =>simp only[go_sem,bhO,bF,i];refine aT (.inr rfl) rfl ?_;rfl
structure J2(C:Ctx):Prop extends Aa C where
 small:∀x:RF,x.Ok->aH C 74 [.agg x.cells] .nil (aI (.bool (dT x)))
 nums:∀k m q s0 s1 s2 s3 s4:Int,aH C 72 [.int .i64 k,.int .i64 m,.int .i64 q,.agg [.int .i64 s0,.int .i64 s1,.int .i64 s2,.int .i64 s3,.int .i64 s4]] .nil (aI (.bool (XD k m q s0 s1 s2 s3 s4)))
 sizes:∀a b c d e f:Nat,aH C 73 [.int .i64 a,.int .i64 b,.int .i64 c,.int .i64 d,.int .i64 e,.int .i64 f] .nil (aI (.bool (wB a b c d e f)))
theorem Dr{l:List RF}{k:Nat}(h:k<Z' l):(l.map RF.cells)[k]?=some (l[k]).cells:=by simp[h]
theorem aKX(L:J2 C)(l:List RF)(p:oC l)(n:Int):LM.wp C (aZ Nk.res (aI (.bool (decide ((Z' l:Int)=n)&&l.all dT)))) (g_ [frs l,.int .i64 n]) .nil:=by
 have u:=p.fits;unfold Fits at u;simp only[go_sem,LM,I7,I8,Nk,bhO];by_cases h:(Z' l:Int)=n
 ·rw[bA h,biA];subst h;simp only[go_sem,cN (show(Z' l:Int)=(Z' l:Nat)from rfl),Ja];refine wp_loop (α:=Nat) (λk=>(((n_.set 0 (frs l)).set 1 (.int .i64 (Z' l:Nat))).set 5 (.int .i64 k))) (λ_=>.nil) (λk=>k<=Z' l/\(l.take k).all dT=true) (λk=>Z' l-k) 0 ⟨bhT _,rfl⟩ Lq a_ ?_;rintro k ⟨x,e⟩;simp only[go_sem,I6,Jb];by_cases hlt:k<Z' l
  ·have d:(k:Int)<(Z' l:Nat):=Om;have w:=L.small l[k] (p.all _ (bhS hlt));simp only[go_sem,d,Jc,Dr hlt];refine aB w rfl ?_;cases hi:dT l[k]with
   |false =>simp only[go_sem,biF,Jd];refine aT (.inr rfl) rfl ?_;rw[bN,vF hlt hi]
   |true =>have i:=biB.1 (vE hlt e hi);simp only[go_sem,bhZ,Je,wZz k];exact aJ (k+1) ⟨hlt,i⟩ Om Lq b_
  ·have d:¬(k:Int)<(Z' l:Nat):=Om;have:k=Z' l:=Om;subst this;rw[biS]at e;simp only[go_sem,d,Jf];refine aT (.inr rfl) rfl ?_;rw[bN,e]
 ·rw[bG h,bhY];simp only[go_sem,dX h,I9];refine aT (.inr rfl) rfl ?_;rfl
structure J3(C:Ctx):Prop extends J2 C where
 smalls:∀l:List RF,oC l->∀n:Int,aH C 75 [frs l,.int .i64 n] .nil (aI (.bool (decide ((Z' l:Int)=n)&&l.all dT)))
theorem YD(x:RF):(yP x==0)=!bZ x:=by
 unfold yP bZ;by_cases h:val x.num=0
 ·simp[h]
 ·cases x.neg<;>simp[h]
def x9(l:List RF)(m:Int):Bool:=decide ((Z' l:Int)=max m 1)&&l.all dT&&l.all bZ
theorem a5H(L:J3 C)(l:List RF)(w:oC l)(m:Int):kw.wp C (aZ aZI.res (aI (.bool (x9 l m)))) (g_ [frs l,.int .i64 m]) .nil:=by
 have y:=w.fits;unfold Fits at y;have B:=L.smalls l w (max m 1);unfold x9;simp only[go_sem,kw,aEA,aEB,aZI,max_eq];refine aB B rfl ?_;cases h:(decide ((Z' l:Int)=max m 1)&&l.all dT)with
 |false =>simp only[go_sem,biF,aEC];refine aT (.inr rfl) rfl ?_;rfl
 |true=>
  rw[bhQ]at h;have e:=biB.1 h.2;simp only[go_sem,bhZ,aED];refine wp_loop (α:=Nat) (λk=>((n_.set 0 (frs l)).set 5 (.int .i64 k))) (λ_=>.nil) (λk=>k<=Z' l/\(l.take k).all bZ=true) (λk=>Z' l-k) 0 ⟨bhT _,rfl⟩ Lq a_ ?_;rintro k ⟨E,p⟩;simp only[go_sem,aDZ,aEE,bhO];by_cases hlt:k<Z' l
  ·have d:(k:Int)<(Z' l:Nat):=Om;have x:=bhS hlt;have A:=L.sign l[k] (w.all _ x) (wV (e _ x));have i:=YD l[k];simp only[go_sem,d,aEF,Dr hlt];refine aB A rfl ?_;cases hi:bZ l[k]with
   |false =>rw[hi]at i;simp only[go_sem,i,biF,aEG];refine aT (.inr rfl) rfl ?_;rw[bN,vF hlt hi]
   |true =>rw[hi]at i;have u:=biB.1 (vE hlt p hi);simp only[go_sem,i,bhZ,aEH,wZz k];exact aJ (k+1) ⟨hlt,u⟩ Om Lq b_
  ·have d:¬(k:Int)<(Z' l:Nat):=Om;have:k=Z' l:=Om;subst this;rw[biS]at p;simp only[go_sem,d,aEI];refine aT (.inr rfl) rfl ?_;rw[bN,p]
structure J4(C:Ctx):Prop extends J3 C where
 reps:∀l:List RF,oC l->∀m:Int,aH C 66 [frs l,.int .i64 m] .nil (aI (.bool (x9 l m)))
def frD:List PV->RF
 |[.bool n,a,b]=>⟨n,lE a,lE b⟩
 |_=>⟨false,[],[]⟩
theorem P1(x:RF):frD x.cells=x:=by
 show(⟨x.neg,lE (aN x.num),lE (aN x.den)⟩:RF)=x;rw[fA,fA]
def zdS(r s:Bool):Spec:=λname vs=>match name,vs with
 |66,_=>some ([],λ_=>aI (.bool r))
 |74,[.agg cs]=>some ([],λ_=>aI (.bool (dT (frD cs))))
 |47,_=>some ([],λ_=>aI (.agg (mkT 1 1).cells))
 |49,_=>some ([],λ_=>aI (.bool s))
 |_,_=>none
theorem Vl(r s:Bool)(x:RF):zdS r s 74 [.agg x.cells]=some ([],λ_=>aI (.bool (dT x))):=by
 show some ([],λ_=>aI (.bool (dT (frD x.cells))))=_;rw[P1]
theorem aOW(x y:RF):sV y x=- sV x y:=by
 unfold sV sU;have e:=cx (val x.num*val y.den) (val y.num*val x.den);cases x.neg&&decide (val x.num≠0)<;>cases y.neg&&decide (val y.num≠0)<;>simp only[e,Int.neg_neg]<;>rfl
theorem aWP{x:RF}(d:x.valid):decide (sV (mkT 1 1) x<0)=!FO x:=by
 rw[aOW x];unfold FO;rw[show cC (val x.num) (val x.den)=true from d,biA,IK];unfold sV;simp only[aV,show(1:Int).natAbs=1 from rfl,show decide ((1:Int)<0)=false from rfl];by_cases h:sU x.neg (val x.num) (val x.den) false 1 1<=0
 ·rw[bA h,bG Om];rfl
 ·rw[bG h,bA Om];rfl
def dl(m:Int)(rep:List RF)(t h:RF):Bool:=x9 rep m&&(dT t&&(FO t&&dT h))
theorem a5F(L:J4 C)(m:Int)(rep:List RF)(u:oC rep)(t h:RF)(l:t.Ok)(p:h.Ok) :
  kp.wp C (aZ aZC.res (aI (.bool (dl m rep t h)))) (g_ [.int .i64 m,frs rep,.agg t.cells,.agg h.cells]) .nil:=by
 have e:dL 1:=by unfold dL;omega
 unfold dl;simp only[go_sem,kp,aDP,aZC];refine bV .nil (zdS (x9 rep m) (!FO t)) a_ ?_;simp only[go_sem,aDQ];refine bX rfl (L.reps rep u m) rfl a_ ?_;cases x9 rep m with
 |false =>simp only[go_sem];refine aT (.inr rfl) rfl ?_;rfl
 |true=>
  simp only[go_sem];refine bX (Vl _ _ t) (L.small t l) rfl a_ ?_;cases i:dT t with
  |false =>simp only[go_sem];refine aT (.inr rfl) rfl ?_;rfl
  |true=>
   have d:=L.less (mkT 1 1) t (SH 1 e).1 l (SH 1 e).2 (wV i);rw[aWP (wV i)]at d;simp only[go_sem];refine bX rfl (L.int 1 e) rfl a_ ?_;simp only[go_sem];refine bX rfl d rfl a_ ?_;cases FO t with
   |false =>simp only[go_sem,biF,bhZ];refine aT (.inr rfl) rfl ?_;rfl
   |true =>simp only[go_sem,bhZ,biF];refine bX (Vl _ _ h) (L.small h p) rfl a_ ?_;simp only[go_sem];refine aT (.inr rfl) rfl ?_;rfl
theorem a6D(p:cE):MY p=dl p.m p.repair p.target p.bgN:=by
 unfold MY dl x9;have:(p.repair.all λx=>dT x&&bZ x)=(p.repair.all dT&&p.repair.all bZ):=by
  induction p.repair with
  |nil=>rfl
  |cons a t d =>simp only[blJ,d];cases dT a<;>cases bZ a<;>simp
 rw[this];simp only[blE]
section
variable {H:PH} {B:List BX} {L:List LI}
theorem aR.aES(h:aR H B L)(i:Nat){s b:Nat}{v y:PV}{rows src:P2_}{K:PV->PH->Prop}(hi:L[i]?=some (v,s,rows))(A:eA H s y=some src)(x:roomFor rows.length src.length b)
  (l:∀v' H',cA H' s v rows->aR H' B (L.set i (v',s,rows++src))->K v' H'):sG H s b v y K:=by
 rcases h.own i hi with⟨rfl,rfl⟩|⟨q,rs,rfl,h1,h2,h3⟩
 ·exact h.append i hi A x λv' H' E _=>l v' H' (.inl ⟨rfl,rfl⟩) E
 ·have d:(rows++src).length=Z' rows+Z' src:=bhW;refine⟨src,A,rfl,rfl,x,rs,h1,h2,?_,λo e=>?_⟩
  ·rw[h3];refine l _ _ (.inr ⟨q,rows++src,rfl,by rw[cZ],by rw[d];omega,List.take_left' rfl⟩) (h.YN i hi (.inr ⟨q,rows++src,by rw[d],by simp only[bC,if_true],bhV _,biS⟩) (λp hp=>by cases hp;exact .inl rfl) λp _ hp=>?_);rw[bC,aE (hp q rfl)]
  ·rw[h3];have w:q≠o:=by rintro rfl;rw[h1]at e;cases e
   refine l _ _ (.inr ⟨q,rs,rfl,by rw[bC,aE w];exact h1,h2,h3⟩) (h.YN i hi (.inr ⟨o,rows++src,by rw[d],by simp only[bC,if_true],bhV _,biS⟩) (λp hp=>by cases hp;exact .inr e) λp u hp=>?_);obtain⟨f1,f2⟩:=h.fresh e;have F:p≠o:=by rintro rfl;exact u.elim f1 f2
   rw[bC,aE F]
end
abbrev rY(l:List (List UInt8)):P2_:=l.map λs=>[PV.str s]
def JX:List (List UInt8)->List UInt8->Nat->Int
 |[],_,_=>-1
 |x::t,s,i=>if x==s then(i:Int)else JX t s (i+1)
theorem aeC(s:List UInt8):∀(l:List (List UInt8)) (i:Nat),decide (JX l s i<0)=!l.contains s
 |[],i=>rfl
 |x::t,i=>by
  rw[JX,List.contains_cons,BEq.comm (a:=s)];by_cases h:(x==s)=true
  ·rw[aG h,h,Bool.true_or,bG Om];rfl
  ·rw[aE h,aeC s t (i+1)];simp only[Bool.not_eq_true]at h;rw[h,Bool.false_or]
theorem aRT(l:List (List UInt8))(w:Z' l<=1000000)(s:List UInt8):RG.wp C (aZ aqI.res (aI (.int .i64 (JX l s 0)))) (g_ [.sl 1 (rY l),.str s]) .nil:=by
 simp only[go_sem,RG,Vq,Vs,aqI];refine wp_loop (α:=Nat) (λk=>(((n_.set 0 (.sl 1 (rY l))).set 1 (.str s)).set 5 (.int .i64 k))) (λ_=>.nil) (λk=>k<=Z' l/\JX l s 0=JX (l.drop k) s k) (λk=>Z' l-k) 0 ⟨bhT _,rfl⟩ Lq a_ ?_;rintro k ⟨u,e⟩;simp only[go_sem,Vp,Vt,bhO];by_cases hlt:k<Z' l
 ·have d:(k:Int)<(Z' l:Nat):=Om;have i:(rY l)[k]?=some [.str l[k]]:=by simp[hlt]
  rw[bjS hlt,JX]at e;cases p:l[k]==s with
  |true =>rw[p,aG rfl]at e;simp only[go_sem,d,kr,i,p,Vu];refine aT (.inr rfl) rfl ?_;rw[bN,e]
  |false =>rw[p,aE aS]at e;simp only[go_sem,d,kr,i,p,Vv,wZz k];exact aJ (k+1) ⟨hlt,e⟩ Om Lq b_
 ·have d:¬(k:Int)<(Z' l:Nat):=Om;have:k=Z' l:=Om;subst this;rw[List.drop_length,JX]at e;simp only[go_sem,d,Vw];refine aT (.inr rfl) rfl ?_;rw[bN,e]
structure J5(C:Ctx):Prop extends J4 C where
 name:∀s:List UInt8,aH C 62 [.str s] .nil (aI (.bool (isName s)))
 index:∀(l:List (List UInt8)),Z' l<=1000000->∀s:List UInt8,aH C 71 [.sl 1 (rY l),.str s] .nil (aI (.int .i64 (JX l s 0)))
def mT(l:List (List UInt8))(s:List UInt8):Bool:=isName s&&!l.contains s
def zx(l:List (List UInt8))(s:List UInt8)(r:PV)(B:List BX)(L:List LI):Prop:=∃d,r=.tup [d,.bool (mT l s)]/\B=[]/\L=[(d,1,rY (l++[s]))]
theorem aRS(L:J5 C)(l:List (List UInt8))(R:Z' l<=1000000)(s:List UInt8)(w:PV)(H:PH)(O:aR H [] [(w,1,rY l)]) :
  RE.wp C (aZ aqH.res (λr H'=>∃B' L',zx l s r B' L'/\aR H' B' L')) (g_ [w,.str s]) H:=by
 have u:=L.index l R s;have J:=L.name s;have i:=aeC s l 0;have E:(1:Nat)*1<=16777216:=by decide
 have fin:∀(F:PF)(H':PH)(d:PV)(b:Bool),F 4=some d->F 5=some (.bool b)->b=mT l s->aR H' [] [(d,1,rY (l++[s]))]->aZ [.tmp 4,.tmp 5] (λr H'=>∃B' L',zx l s r B' L'/\aR H' B' L') .ret F H':=λF H' d b M N e A=>
  bE (vs:=[d,.bool b]) (.inr rfl) H' (by simp only[go_sem,M,N]) b_ ⟨[],_,⟨d,by rw[e];rfl,rfl,rfl⟩,A⟩
 simp only[go_sem,RE,Vn,Vo,aqH,E];refine O.aES 0 (src:=[[.str s]]) rfl rfl (by unfold roomFor;rw[bhO];simp only[biC,maxLen];omega) λd H' Q A=>?_;have p:aR H' [] [(d,1,rY (l++[s]))]:=by
  have e:rY (l++[s])=rY l++[[.str s]]:=by simp[rY]
  rw[e];exact A
 refine aB J rfl ?_;cases K:isName s with
 |false =>simp only[go_sem];exact fin _ _ d false rfl rfl (by unfold mT;rw[K,bhY]) p
 |true=>
  have x:mT l s=!l.contains s:=by unfold mT;rw[K,biA]
  rcases Q with⟨S,rfl⟩|⟨q,rs,rfl,q1,q2,q3⟩
  ·simp only[go_sem];rw[S]at u;have y:aH C 71 [.aK,.str s] .nil (aI (.int .i64 (JX l s 0))):=u.args (.cons (.nil 1) (.cons (.refl _) .nil));refine aB y rfl ?_;simp only[go_sem,i];exact fin _ _ d _ rfl rfl x.symm p
  ·simp only[go_sem];refine asN (vs:=[.osl q 1 0 (rY l).length,.str s]) (.int .i64 (JX l s 0)) ?_ q1 Sq ?_
   ·rw[biU,biU,bjP,zQ q2,q3];exact u
   simp only[go_sem,i];exact fin _ _ d _ rfl rfl x.symm p
theorem aQC{x:RF}(h:dT x=true):decide (yP x>0)=bZ x:=by
 have e:=wV h;unfold dT oZ at h;rw[show cC (val x.num) (val x.den)=true from e,aG rfl,we e]at h;unfold yP bZ;by_cases d:val x.num=0
 ·simp[d]
 ·have l:val x.num/bhR (val x.num) (val x.den)≠0:=by have:=Nat.div_pos (Nat.gcd_le_left (val x.den) (bkN d)) (Nat.gcd_pos_of_pos_left _ (bkN d));omega
  have i:x.neg=false:=by unfold pF at h;simp only[l,ne_eq,not_false_eq_true,decide_true,bjY,bhQ]at h;simpa using h.1
  rw[aE d,i];simp[d]
structure Xq(l:cW):Prop where
 exit:∀x∈l.exit,dT x=true
 row:∀r∈l.bgI,∀x∈r,dT x=true
structure wJ(C:Ctx):Prop extends J5 C where
 fresh:∀(l:List (List UInt8)),Z' l<=1000000->∀(s:List UInt8)(w:PV)(H:PH),aR H [] [(w,1,rY l)]->aH C 70 [w,.str s] H (λr H'=>∃B' L',zx l s r B' L'/\aR H' B' L')
theorem wJ.pos(L:wJ C){x:RF}(d:x.Ok)(h:dT x=true):∃n:Int,aH C 54 [.agg x.cells] .nil (aI (.int .i64 n))/\decide (n>0)=bZ x:=⟨_,L.sign x d (wV h),aQC h⟩
def zlF(l:cW)(o r i:Nat):PF:=(((((n_.set 1 (.bK l.cells)).set 3 (.int .i64 (Z' l.exit:Nat))).set 7 (.osl o 1 0 l.exit.length)).set 8 (.int .i64 r)).set 9 (.int .i64 i))
theorem aZD(L:wJ C)(l:cW)(o r i:Nat)(row:List RF)(S:(l.bgI.map λr=>[frs r])[i]?=some [frs row])(M:oC row)(J:∀x∈row,dT x=true)(X:Z' row=Z' l.exit)(hi:i<Z' l.exit)(hn:Z' l.exit<=4)(e:List Bool)(Z:Z' e=Z' l.exit)(K:cF)[Up K](F:PF)(H:PH)
  (O:((zlF l o r i).set 10 (.int .i64 0)).le F) (N:(lS o e).le H)
  (W:K (.exit 6) (zlF l o r i) (lS o (dD e i row row.length))):aC.wp C (.loop ZP) K F H:=by
 refine wp_loop (α:=Nat) (λk=>(zlF l o r i).set 10 (.int .i64 k)) (λk=>lS o (dD e i row k)) (λk=>k<=Z' row) (λk=>Z' row-k) 0 (bhT _) O N ?_;intro k hk;have V:=BS e i row k;have y:∀h:k<Z' row,dD e i row (k+1)=(dD e i row k).set i ((dD e i row k).getD i false||bZ row[k]&&(dD e i row k).getD k false):=λh=>by simp only[dD,bhX,biL,biD h,biP,bkC]
 have fin:∀(b:Bool)(F:PF)(H:PH),k<Z' row->eK (dD e i row (k+1))=(eK (dD e i row k)).set i [.bool b]->((zlF l o r i).set 10 (.int .i64 (k+1:Nat))).le F->H o=some (.rows 1 ((eK (dD e i row k)).set i [.bool b])) ->
   gG (λk:Nat=>(zlF l o r i).set 10 (.int .i64 k)) (λk=>lS o (dD e i row k)) (λk=>k<=Z' row) (λk=>Z' row-k) (Z' row-k) K .normal F H:=by
  intro b F H hlt hb O N;refine aJ (k+1) hlt Om O ?_;rw[<-hb]at N;exact e_ a_ N
 unfold zlF lS at fin;simp only[go_sem,ZP,aqP,zlF,lS];by_cases hlt:k<Z' row
 ·have d:(k:Int)<(Z' l.exit:Nat):=Om;have w:(i:Int)<(Z' l.exit:Nat):=Om;have u:=yT (R:=dD e i row k) (i:=i) Om;have B:=yT (R:=dD e i row k) (i:=k) Om;have p:=y hlt;obtain⟨n,U,E⟩:=L.pos (M.all _ (bhS hlt)) (J _ (bhS hlt));have Q:=Dr hlt;generalize hb:(dD e i row k).getD i false=b at *
  generalize hc:(dD e i row k).getD k false=c at *
  generalize Y:bZ row[k]=A at *
  cases b with
  |true =>simp only[go_sem,d,zo,w,biN,u,ZQ,wZz k];exact fin true _ _ hlt (by rw[p,oQ,Bool.true_or]) Lq Sq
  |false=>
   simp only[go_sem,d,zo,w,biN,u,S,Q];refine aB U rfl ?_;cases A with
   |false =>simp only[go_sem,E,w,d,biN,u,B,ZQ,wZz k];exact fin false _ _ hlt (by rw[p,oQ,Bool.false_or,bhY]) Lq Sq
   |true =>simp only[go_sem,E,w,d,biN,u,B,ZQ,wZz k];exact fin c _ _ hlt (by rw[p,oQ,Bool.false_or,biA]) Lq Sq
 ·have d:¬(k:Int)<(Z' l.exit:Nat):=Om;have:k=Z' row:=Om;subst this;simp only[go_sem,d];refine Up.up ?_ W
  (repeat' (first|exact c_|refine d_ ?_ ?_))<;>first|(simp only[go_sem,zlF]<;>rfl)|rfl
theorem aZF(L:wJ C)(l:cW)(S:l.Ok)(N:LN l)(V:Xq l)(o r:Nat)(R:List Bool)(hR:Z' R=Z' l.exit)(K:cF)[Up K](F:PF)(H:PH)
  (J:(zlF l o r 0).le F) (M:(lS o R).le H)
  (X:K (.exit 4) (zlF l o r l.exit.length) (lS o (dY l R l.exit.length))):aC.wp C (.loop zh) K F H:=by
 refine wp_loop (α:=Nat) (λi=>zlF l o r i) (λi=>lS o (dY l R i)) (λi=>i<=Z' l.exit) (λi=>Z' l.exit-i) 0 (bhT _) J M ?_;intro i hi;have U:=xF l R i;have Y:=N.n;simp only[go_sem,zh,aqO,zlF,lS];by_cases hlt:i<Z' l.exit
 ·have d:(i:Int)<(Z' l.exit:Nat):=Om;have p:i<Z' l.bgI:=by rw[N.bgI];exact hlt
  have w:=yT (R:=dY l R i) (i:=i) Om;have Z:=Dr hlt;have B:(l.bgI.map λr=>[frs r])[i]?=some [frs l.bgI[i]]:=by simp[p]
  have O:(l.bgI[i]).length=Z' l.exit:=N.row _ (bhS p);generalize u:(dY l R i).set i ((dY l R i).getD i false||bZ l.exit[i])=E;have y:Z' E=Z' l.exit:=by rw[<-u,bjO];omega
  have x:dY l R (i+1)=dD E i l.bgI[i] (l.bgI[i]).length:=by
   simp only[dY,pI];have W:(l.exit.map bZ).getD i false=bZ l.exit[i]:=by simp[bhX,hlt]
   have e2:l.bgI.getD i []=l.bgI[i]:=by simp[bhX,p]
   rw[W,e2,u]
  obtain⟨n,Q,A⟩:=L.pos (S.exit.all _ (bhS hlt)) (V.exit _ (bhS hlt));have rest:∀(F:PF)(H:PH),(zlF l o r i).le F->H o=some (.rows 1 (eK E)) ->
    aC.wp C (.seq (.region zn) (.block 6 (.loop ZP))) (fS 5 (kB C (aC.wp C (.region zp)) (gG (λi:Nat=>zlF l o r i) (λi=>lS o (dY l R i)) (λi=>i<=Z' l.exit) (λi=>Z' l.exit-i) (Z' l.exit-i) K))) F H:=by
   intro F H J M;refine uY _ (λ_ _ _ _ a b=>Up.up a b) J ?_;simp only[go_sem,zn];refine aZD L l o r i l.bgI[i] B (S.row _ (bhS p)) (V.row _ (bhS p)) O hlt Y E y _ _ _ (by(repeat' (first|exact c_|refine d_ ?_ ?_))<;>first|(simp only[go_sem,zlF]<;>rfl)|rfl) (e_ a_ M) ?_;simp only[go_sem,zlF,zp,wZz i];exact aJ (i+1) hlt Om Lq (by rw[x];exact b_)
  simp only[zlF,lS]at rest;have e:=rest;simp only[aC.wp,go_sem]at e;generalize hb:(dY l R i).getD i false=b at *
  cases b with
  |true =>simp only[go_sem,d,zm,d,biN,w];refine e _ _ Lq ?_;rw[<-u];simp only[go_sem,oQ,Bool.true_or]
  |false =>simp only[go_sem,d,zm,d,biN,w,Z];refine aB Q rfl ?_;simp only[go_sem,d,biN,w,A];refine e _ _ Lq ?_;rw[<-u];simp only[go_sem,oQ,Bool.false_or]
 ·have d:¬(i:Int)<(Z' l.exit:Nat):=Om;have:i=Z' l.exit:=Om;subst this;simp only[go_sem,d];exact Up.up (by(repeat' (first|exact c_|refine d_ ?_ ?_))<;>first|(simp only[go_sem,zlF]<;>rfl)|rfl) X
theorem aZE(L:wJ C)(l:cW)(x:l.Ok)(i:LN l)(y:Xq l)(o:Nat)(K:cF)[Up K](F:PF)(H:PH)
  (p:(((((n_.set 1 (.bK l.cells)).set 3 (.int .i64 (Z' l.exit:Nat))).set 7 (.osl o 1 0 l.exit.length)).set 8 (.int .i64 0)):PF).le F) (u:(lS o (eC l 0)).le H)
  (w:K (.exit 2) (((n_.set 3 (.int .i64 (Z' l.exit:Nat))).set 7 (.osl o 1 0 l.exit.length))) (lS o (eC l l.exit.length))):aC.wp C (.loop zi) K F H:=by
 have A:=i.n;refine wp_loop (α:=Nat) (λr=>((((n_.set 1 (.bK l.cells)).set 3 (.int .i64 (Z' l.exit:Nat))).set 7 (.osl o 1 0 l.exit.length)).set 8 (.int .i64 r))) (λr=>lS o (eC l r)) (λr=>r<=Z' l.exit) (λr=>Z' l.exit-r) 0 (bhT _) p u ?_;intro r B;have e:=xE l r;simp only[go_sem,zi,aqM];by_cases hlt:r<Z' l.exit
 ·have d:(r:Int)<(Z' l.exit:Nat):=Om;simp only[go_sem,d,aqN];refine aZF L l x i y o r (eC l r) e _ _ _ (by(repeat' (first|exact c_|refine d_ ?_ ?_))<;>first|(simp only[go_sem,zlF]<;>rfl)|rfl) b_ ?_;simp only[go_sem,zlF,aqQ,wZz r];exact aJ (r+1) hlt Om Lq b_
 ·have d:¬(r:Int)<(Z' l.exit:Nat):=Om;have:r=Z' l.exit:=Om;subst this;simp only[go_sem,d];exact Up.up Lq w
theorem a8G(R:List Bool)(J:Z' R<=4)(o:Nat)(X:Bool)(B:X=R.all id)(Q:PV->PH->Prop)(A:Q=aI (.bool X))(F:PF)(H:PH)
  (x:((((n_.set 3 (.int .i64 (Z' R:Nat))).set 7 (.osl o 1 0 R.length)).set 11 (.int .i64 0)):PF).le F) (y:(lS o R).le H):aC.wp C (.loop zj) (fS 8 (kB C (aC.wp C (.seq (.region zr) .ret)) (aZ [.tmp 2] Q))) F H:=by
 subst B A;refine wp_loop (α:=Nat) (λk=>(((n_.set 3 (.int .i64 (Z' R:Nat))).set 7 (.osl o 1 0 R.length)).set 11 (.int .i64 k))) (λ_=>lS o R) (λk=>k<=Z' R/\(R.take k).all id=true) (λk=>Z' R-k) 0 ⟨bhT _,rfl⟩ x y ?_;rintro k ⟨K,u⟩;simp only[go_sem,zj,aqS,lS];by_cases hlt:k<Z' R
 ·have d:(k:Int)<(Z' R:Nat):=Om;have e:=yT (R:=R) (i:=k) hlt;have E:R.getD k false=R[k]:=by simp[bhX,hlt]
  rw[E]at e;cases l:R[k]with
  |false =>rw[l]at e;simp only[go_sem,d,zq,biN,e,biF,aqT];refine aT (.inr rfl) rfl ?_;rw[bN,vF hlt (p:=id) l]
  |true =>rw[l]at e;have w:=vE hlt u (p:=id) l;simp only[go_sem,d,zq,biN,e,bhZ,aqU,wZz k];exact aJ (k+1) ⟨hlt,by simpa using biB.1 w⟩ Om Lq b_
 ·have d:¬(k:Int)<(Z' R:Nat):=Om;have:k=Z' R:=Om;subst this;rw[biS]at u;simp only[go_sem,d,zr];refine aT (.inr rfl) rfl ?_;rw[bN,u]
def Marks(R S:List Bool):Prop:=Z' R=Z' S/\∀j:Nat,R[j]?=some true->S[j]?=some true
theorem Marks.a7K(R:List Bool):Marks R R:=⟨rfl,λ_ h=>h⟩
theorem Marks.trans{R S T:List Bool}(h:Marks R S)(k:Marks S T):Marks R T:=⟨h.1.trans k.1,λj a=>k.2 j (h.2 j a)⟩
theorem afK(R:List Bool)(i:Nat)(b:Bool):Marks R (R.set i (R.getD i false||b)):=by
 refine⟨by rw[bjO],λj h=>?_⟩;rw[blY];obtain⟨d,l⟩:=biZ.1 h;split
 ·rename_i e;subst e;rw[aG d,bhX,h];rfl
 ·exact h
theorem Rc(R:List Bool)(i:Nat)(row:List RF):∀k,Marks R (dD R i row k)
 |0=>Marks.a7K R
 |k+1=>(Rc R i row k).trans (afK _ _ _)
theorem OR(l:cW)(R:List Bool):∀i,Marks R (dY l R i)
 |0=>Marks.a7K R
 |i+1=>(OR l R i).trans ((afK _ _ _).trans (Rc _ _ _ _))
theorem afL:∀{R S:List Bool},Marks R S->R≠S->R.count true<S.count true
 |[],[],_,h=>absurd rfl h
 |[],_::_,h,_=>by have:=h.1;simp at this
 |_::_,[],h,_=>by have:=h.1;simp at this
 |a::R,b::S,h,d=>by
  have i:a=true->b=true:=λe=>by have:=h.2 0 (by rw[e];rfl);simpa using this
  have p:Marks R S:=⟨by have:=h.1;simpa using this,λj l=>by have:=h.2 (j+1) (by simpa using l);simpa using this⟩;by_cases e:R=S
  ·subst e;have:a≠b:=λe=>d (by rw[e]);cases a<;>cases b<;>simp at this i ⊢
  ·have:=afL p e;cases a<;>cases b<;>simp at i ⊢<;>omega
theorem Bk:∀{R:List Bool},Z' R<=R.count true->R.all id=true
 |[],_=>rfl
 |a::R,h=>by
  have d:=List.count_le_length (a:=true) (l:=R);cases a with
  |true =>simp only[List.count_cons_self,bjL]at h;simp only[blJ,id,biA];exact Bk Om
  |false =>simp at h;omega
theorem XO(l:cW){s:Nat}(h:eC l (s+1)=eC l s):∀d,eC l (s+d)=eC l s
 |0=>rfl
 |d+1=>by show dY l (eC l (s+d)) l.exit.length=_;rw[XO l h d];exact h
theorem Gt(l:cW):∀r,(∃s,s<r/\eC l (s+1)=eC l s)\/r<=(eC l r).count true
 |0=>.inr (bhT _)
 |r+1=>by
  rcases Gt l r with⟨s,i,d⟩|h
  ·exact .inl ⟨s,by omega,d⟩
  ·by_cases e:eC l (r+1)=eC l r
   ·exact .inl ⟨r,by omega,e⟩
   ·have:=afL (OR l (eC l r) l.exit.length) (λh=>e h.symm);exact .inr (by show r+1<=(dY l (eC l r) l.exit.length).count true;omega)
theorem a1G(l:cW):uS l=(eC l l.exit.length).all id:=by
 unfold uS;rcases Gt l l.exit.length with⟨s,B,i⟩|h
 ·obtain⟨d,y⟩:∃d,Z' l.exit=s+d:=⟨Z' l.exit-s,by omega⟩;rw[show l.exit.length+1=s+(d+1) by omega,y,XO l i,XO l i]
 ·have p:(eC l l.exit.length).all id=true:=Bk (by rw[xE];exact h);have w:Marks (eC l l.exit.length) (eC l (Z' l.exit+1)):=OR l (eC l l.exit.length) l.exit.length;rw[p,biB];intro x A;obtain⟨j,u,rfl⟩:=bjD A;have e:j<(eC l l.exit.length).length:=by rw[w.1];exact u
  have:=w.2 j (by rw[biD e];have:=biB.1 p _ (bhS e);simpa using this);rw[biD u]at this;simpa using this
def zsS(s:Bool):Spec:=λname vs=>match name,vs with
 |47,_=>some ([],λ_=>aI (.agg (mkT 1 1).cells))
 |53,_=>some ([],λ_=>aI (.bool s))
 |_,_=>none
theorem aUZ(l:cW):oV l=(within l.start.length 1 4&&((decide ((Z' l.start:Int)=Z' l.start)&&l.start.all dT)&&((decide ((Z' l.exit:Int)=Z' l.start)&&l.exit.all dT)&&(decide (Z' l.bgI=Z' l.start)&&((bhP l.bgI.length).all (zE l)&&(DN l&&uS l)))))):=by
 rw[awZ,bA (rfl:(Z' l.start:Int)=Z' l.start),biA];have:decide (Z' l.exit=Z' l.start)=decide ((Z' l.exit:Int)=Z' l.start):=decide_eq_decide.2 Om;rw[this];cases within l.start.length 1 4<;>cases decide ((Z' l.exit:Int)=Z' l.start)<;>cases decide (Z' l.bgI=Z' l.start)<;>cases l.start.all dT<;>cases l.exit.all dT<;>simp[blE]
theorem akE(l:cW){i:Nat}(h:i<Z' l.bgI):zE l i=((decide (((l.bgI[i]).length:Int)=Z' l.start)&&(l.bgI[i]).all dT)&&!((l.bgI[i]).map bZ).getD i false):=by
 unfold zE;have:l.bgI.getD i []=l.bgI[i]:=by simp[bhX,h]
 rw[this];have:decide ((l.bgI[i]).length=Z' l.start)=decide (((l.bgI[i]).length:Int)=Z' l.start):=decide_eq_decide.2 Om;rw[this]
theorem a5G(L:wJ C)(l:cW)(O:l.Ok):ku.wp C (aZ aZG.res (aI (.bool (oV l)))) (g_ [.agg l.cells]) .nil:=by
 have d:=aUZ l;have fail:∀(F:PF)(H:PH),oV l=false->F 2=some (.bool false)->aZ [.tmp 2] (aI (.bool (oV l))) .ret F H:=λF H e h=>by rw[e];exact bE (vs:=[.bool false]) (.inr rfl) .nil (by simp only[go_sem,h]) a_ ⟨rfl,rfl⟩
 have e1:=L.smalls l.start O.start l.start.length;have e2:=L.smalls l.exit O.exit l.start.length;simp only[go_sem,ku,aDS,aDT,aZG,bhO,aDU];by_cases c1:(Z' l.start:Int)<1
 ·simp only[go_sem,c1,IS];exact fail _ _ (by rw[d,show within l.start.length 1 4=false from by unfold within;rw[bG Om,bhY],bhY]) rfl
 by_cases c2:(Z' l.start:Int)>4
 ·simp only[go_sem,c1,c2,IS];exact fail _ _ (by rw[d,show within l.start.length 1 4=false from by unfold within;rw[bG (Om:¬(Z' l.start:Int)<=4),bjE],bhY]) rfl
 rw[show within l.start.length 1 4=true from by unfold within;rw[bA (Om:(1:Int)<=(Z' l.start:Nat)),bA (Om:(Z' l.start:Int)<=4)];rfl,biA]at d;simp only[go_sem,c1,c2];refine aB e1 rfl ?_;cases k1:(decide ((Z' l.start:Int)=Z' l.start)&&l.start.all dT)with
 |false =>rw[k1,bhY]at d;simp only[go_sem,biF,IS];exact fail _ _ d rfl
 |true=>
 rw[k1,biA]at d;simp only[go_sem,bhZ];refine aB e2 rfl ?_;cases k2:(decide ((Z' l.exit:Int)=Z' l.start)&&l.exit.all dT)with
 |false =>rw[k2,bhY]at d;simp only[go_sem,biF,IS];exact fail _ _ d rfl
 |true=>
 rw[k2,biA]at d;rw[bhQ,dT_]at k2;have A:Z' l.exit=Z' l.start:=Om;have N:=biB.1 k2.2;by_cases c3:Z' l.bgI=Z' l.start
 case neg =>rw[bG c3,bhY]at d;simp only[go_sem,bhZ,bhO,dX (Om:(Z' l.bgI:Int)≠(Z' l.start:Nat)),IS];exact fail _ _ d rfl
 rw[bA c3,biA]at d;simp only[go_sem,bhZ,bhO,cN (Om:(Z' l.bgI:Int)=(Z' l.start:Nat)),aDV];refine wp_loop (α:=Nat) (λi=>(((n_.set 1 (.bK l.cells)).set 3 (.int .i64 (Z' l.start:Nat))).set 4 (.int .i64 i))) (λ_=>.nil) (λi=>i<=Z' l.start/\∀j,j<i->zE l j=true) (λi=>Z' l.start-i) 0 ⟨bhT _,λj h=>by omega⟩ Lq a_ ?_;rintro i ⟨hi,u⟩;simp only[go_sem,aDR,aDW];by_cases hlt:i<Z' l.start
 ·have w:(i:Int)<(Z' l.start:Nat):=Om;have y:i<Z' l.bgI:=Om;have E:(l.bgI.map λr=>[frs r])[i]?=some [frs l.bgI[i]]:=by simp[y]
  have V:=O.row _ (bhS y);have e3:=L.smalls l.bgI[i] V l.start.length;have p:=akE l y;have bad:zE l i=false->oV l=false:=λh=>by rw[d,show(bhP l.bgI.length).all (zE l)=false from List.all_eq_false.2 ⟨i,biM.2 y,by simp[h]⟩,bhY]
  simp only[go_sem,w,aDX,E];refine aB e3 rfl ?_;cases k3:(decide (((l.bgI[i]).length:Int)=Z' l.start)&&(l.bgI[i]).all dT)with
  |false =>rw[k3,bhY]at p;simp only[go_sem,biF,Nj];exact fail _ _ (bad p) rfl
  |true=>
   rw[k3,biA]at p;rw[bhQ,dT_]at k3;have θ:(l.bgI[i]).length=Z' l.start:=Om;have J:i<(l.bgI[i]).length:=Om;have hm:=bhS J;have hs:=L.sign _ (V.all _ hm) (wV (biB.1 k3.2 _ hm));have hz:=YD (l.bgI[i])[i];have hg:((l.bgI[i]).map bZ).getD i false=bZ (l.bgI[i])[i]:=by simp[bhX,J]
   rw[hg]at p;have B:(yP (l.bgI[i])[i] != 0)=bZ (l.bgI[i])[i]:=by rw[bne,hz,Bool.not_not]
   simp only[go_sem,bhZ,E,Dr J];refine aB hs rfl ?_;cases k4:bZ (l.bgI[i])[i]with
   |true =>rw[k4]at p B;simp only[go_sem,B,Nj];exact fail _ _ (bad p) rfl
   |false=>
    rw[k4]at p B;simp only[go_sem,B,aDY,wZz i];exact aJ (i+1) ⟨hlt,λj Z=>by
     by_cases e:j=i
     ·rw[e];exact p
     ·exact u j Om⟩ Om Lq b_
 ·have w:¬(i:Int)<(Z' l.start:Nat):=Om;have:i=Z' l.start:=Om;subst this;have K:(bhP l.bgI.length).all (zE l)=true:=biB.2 λj Z=>u j (by rw[<-c3];exact biM.1 Z);rw[K,biA]at d;have X:∀r∈l.bgI,Z' r=Z' l.start/\∀x∈r,dT x=true:=λr U=>by obtain⟨j,Z,rfl⟩:=bjD U;have h:=u j Om;rw[akE l Z,bhQ,bhQ,dT_]at h;exact⟨by omega,biB.1 h.1.2⟩
  have S:Xq l:=⟨N,λr U=>(X r U).2⟩;have R:LN l:=⟨by omega,by omega,λr U=>by rw[(X r U).1,A]⟩;have Y:=L.sum l.start O.start.all O.start.fits;simp only[go_sem,w,aqJ];refine aB Y rfl ?_;cases Q:tA (l.start.map RF.v)with
  |error e=>
   have δ:=amF Q;have:DN l=false:=by unfold DN;rw[Q]
   rw[this,bhY]at d;simp only[go_sem,frV];refine aQ λo ho=>?_;simp only[go_sem];refine bV .nil eW a_ ?_;simp only[go_sem,zk,dX δ,zl];exact fail _ _ d rfl
  |ok r=>
   have W:=aAV Q;have ζ:=Hb Q;obtain⟨n,a,b⟩:=r;have h1:dL 1:=by unfold dL;omega
   have M:=L.same (FV.rf (n,a,b)) (mkT 1 1) W (SH 1 h1).1 (by unfold RF.valid FV.rf;simp only[aV];exact ζ) (SH 1 h1).2;have hP:DN l=(sV (FV.rf (n,a,b)) (mkT 1 1)==0):=by unfold DN;rw[Q,IK];unfold sV FV.rf;simp only[aV,show(1:Int).natAbs=1 from rfl,show decide ((1:Int)<0)=false from rfl];by_cases h:sU n a b false 1 1=0<;>simp[h]
   simp only[go_sem,frV];refine aQ λo ho=>?_;have hH:aR (h_.set o (.rows 3 [(FV.rf (n,a,b)).cells])) [(o,.rows 3 [(FV.rf (n,a,b)).cells])] []:=aR.nil.new (H:=h_) rfl _;simp only[go_sem];refine bV (h_.set o (.rows 3 [(FV.rf (n,a,b)).cells])) (zsS (sV (FV.rf (n,a,b)) (mkT 1 1)==0)) b_ ?_;simp only[go_sem,zk,cN (show(0:Int)=0 from rfl)];refine bX rfl (L.int 1 h1) rfl b_ ?_;simp only[go_sem];refine bX rfl M rfl b_ ?_;rw[<-hP];cases hp:DN l with
   |false =>rw[hp,bhY]at d;simp only[go_sem,biF,zl];exact fail _ _ d rfl
   |true=>
    rw[hp,biA,a1G]at d;have β:(Z' l.start:Int)*((1:Nat):Int)<=140737488355328:=Om;have γ:(Z' l.start:Int)<=9223372036854775807:=Om;simp only[go_sem,bhZ,aqK,β,γ];refine aQ λq hq=>?_;simp only[go_sem,aqL];have η:bhU l.start.length [PV.bool false]=eK (eC l 0):=by rw[<-A];simp[eC,eK]
    rw[<-A];refine aZE L l O R S q _ _ _ Lq ?_ ?_
    ·refine e_ a_ ?_;rw[cZ,A,η]
    simp only[go_sem,aqR];have ε:(eC l l.exit.length).length<=4:=by rw[xE];omega
    refine a8G (eC l l.exit.length) ε q (oV l) d _ rfl _ _ ?_ b_;rw[xE];exact Lq
structure zM(C:Ctx):Prop extends wJ C where
 law:∀l:cW,l.Ok->aH C 68 [.agg l.cells] .nil (aI (.bool (oV l)))
def okL(base ns:List (List UInt8))(P:Nat->Bool)(i:Nat):Bool:=mT (base++ns.take i) (ns.getD i [])&&P i
theorem yS{p:Nat->Bool}(k:Nat)(b:Bool):(b&&(bhP (k+1)).all p)=((b&&(bhP k).all p)&&p k):=by
 rw[List.range_succ,List.all_append];cases(bhP k).all p<;>cases b<;>simp
theorem yR{p:Nat->Bool}{b:Bool}{i n:Nat}(hi:i<=n)(h:(b&&(bhP i).all p)=false):(b&&(bhP n).all p)=false:=by
 cases b with
 |false=>rfl
 |true =>rw[biA]at h ⊢;obtain⟨x,e,hp⟩:=List.all_eq_false.1 h;exact List.all_eq_false.2 ⟨x,biM.2 (by have:=biM.1 e;omega),hp⟩
structure lP(H:PH)(w:PV)(base ns:List (List UInt8))(c:Bool)(i:Nat):Prop where
 ex:∃names,aR H [] [(w,1,rY names)]/\(c=true->names=base++ns.take i)
section
variable {C:Ctx} {F:PF} {H:PH} {d:Option Nat} {K:PF->PH->Prop}
theorem lP.call(L:wJ C){w:PV}{base ns:List (List UInt8)}{i:Nat}{B:List BX}{e:List (List UInt8)}(h:aR H B [(w,1,rY e)])(N:Z' base<=1000)(hi:i<=1000)(y:e=base++ns.take i)(p:i<Z' ns){a b:Nat}(l:aP.evs F [.tmp a,.tmp b]=some [w,.str ns[i]])
  (E:∀u H',aR H' B [(u,1,rY (e++[ns[i]]))]->lP H' u base ns true (i+1)->K (F.put d (.tup [u,.bool (mT (base++ns.take i) (ns.getD i []))])) H'):lD C 70 [.tmp a,.tmp b] [] d K F H:=by
 refine RD (B1:=[]) (B2:=B) (L1:=[(w,1,rY e)]) (L2:=[]) (Q:=zx e ns[i]) h (λJ M=>L.fresh e (by rw[y,bhW,biI];omega) ns[i] w J M) l ?_;rintro r B' L' H' ⟨u,rfl,rfl,rfl⟩ A;have x:ns.getD i []=ns[i]:=by simp[bhX,p]
 rw[x,<-y]at E;refine E u H' A ⟨e++[ns[i]],A.sub (List.nil_sublist _) (bkD.refl _),λ_=>?_⟩;rw[bjF p,<-biY,y]
end
theorem lP.M8{H:PH}{w:PV}{base ns:List (List UInt8)}{c:Bool}{i:Nat}(h:lP H w base ns true i):lP H w base ns c i:=by
 obtain⟨e,l,p⟩:=h.ex;exact⟨e,l,λ_=>p rfl⟩
def VM(f:aD):Bool:=(bhP f.bgK.length).all (okL [] (f.bgK.map cW.name) λi=>(f.bgK.map oV).getD i false)
theorem a5J(L:zM C)(f:aD)(Z:f.Ok)(hs:Z' f.bgK<=4)(K:cF)[Up K](F:PF)(H:PH)
  (X:(((((((((n_.set 1 (.bK f.cells)).set 3 (.aK)).set 4 (.aK)).set 5 (.aK)).set 6 (.aK)).set 7 (.aK)).set 8 (.bool true)).set 9 (.int .i64 0)):PF).le F)
  (R:∀H',K (.exit 0) (((((((n_.set 1 (.bK f.cells)).set 4 (.aK)).set 5 (.aK)).set 6 (.aK)).set 7 (.aK)).set 8 (.bool (VM f)))) H'):aC.wp C (.loop ZR) K F H:=by
 obtain⟨ok,J⟩:∃ok,okL [] (f.bgK.map cW.name) (λi=>(f.bgK.map oV).getD i false)=ok:=⟨_,rfl⟩;unfold VM at R;rw[J]at R;refine wp_loop (α:=Nat × PV × PH) (λs=>((((((((n_.set 1 (.bK f.cells)).set 3 (s.2.1)).set 4 (.aK)).set 5 (.aK)).set 6 (.aK)).set 7 (.aK)).set 8 (.bool (true&&(bhP s.1).all ok))).set 9 (.int .i64 s.1))) (λs=>s.2.2) (λs=>s.1<=Z' f.bgK/\lP s.2.2 s.2.1 [] (f.bgK.map cW.name) (true&&(bhP s.1).all ok) s.1) (λs=>Z' f.bgK-s.1)
  (0,.aK,H) ⟨bhT _,⟨[],aR.nil.qU 1,λ_=>rfl⟩⟩ X b_ ?_
 rintro⟨i,w,V⟩ ⟨hi,W⟩;simp only at hi W ⊢;have fin:∀(b:Bool)(y:PV)(N:PF)(H':PH),i<Z' f.bgK->(true&&(bhP (i+1)).all ok)=b->lP H' y [] (f.bgK.map cW.name) true (i+1) ->
   (((((((((n_.set 1 (.bK f.cells)).set 3 (y)).set 4 (.aK)).set 5 (.aK)).set 6 (.aK)).set 7 (.aK)).set 8 (.bool b)).set 9 (.int .i64 (i+1:Nat))):PF).le N ->
   gG (λs:Nat × PV × PH=>((((((((n_.set 1 (.bK f.cells)).set 3 (s.2.1)).set 4 (.aK)).set 5 (.aK)).set 6 (.aK)).set 7 (.aK)).set 8 (.bool (true&&(bhP s.1).all ok))).set 9 (.int .i64 s.1))) (λs=>s.2.2) (λs=>s.1<=Z' f.bgK/\lP s.2.2 s.2.1 [] (f.bgK.map cW.name) (true&&(bhP s.1).all ok) s.1) (λs=>Z' f.bgK-s.1) (Z' f.bgK-i) K .normal N H':=
  λb y N H' hlt hb Q O=>aJ (i+1,y,H') ⟨hlt,Q.M8⟩ (by simp only;omega) (by simp only;rw[hb];exact O) b_
 have l:=yS (p:=ok) i true;have x:(true&&(bhP i).all ok)=(true&&(bhP f.bgK.length).all ok)->K (.exit 0) (((((((n_.set 1 (.bK f.cells)).set 4 (.aK)).set 5 (.aK)).set 6 (.aK)).set 7 (.aK)).set 8 (.bool (true&&(bhP i).all ok)))) V:=λe=>by rw[e,biA];exact R V
 have B:=λh=>yR (p:=ok) (b:=true) hi h;generalize Y:(true&&(bhP i).all ok)=c at *
 simp only[go_sem,ZR,V6,bhO];by_cases hlt:i<Z' f.bgK
 ·have u:(i:Int)<(Z' f.bgK:Nat):=Om;cases c with
  |false =>simp only[go_sem,u];exact Up.up Lq (x (B rfl).symm)
  |true=>
   obtain⟨U,g1,g3⟩:=W.ex;have E:(f.bgK.map cW.cells)[i]?=some (f.bgK[i]).cells:=by simp[hlt]
   have S:i<(f.bgK.map cW.name).length:=by rw[bhO];exact hlt
   have M:ok i=(mT ([]++(f.bgK.map cW.name).take i) ((f.bgK.map cW.name).getD i [])&&oV f.bgK[i]):=by rw[<-J];unfold okL;simp[bhX,hlt]
   have hl:=L.law _ (Z.law _ (bhS hlt));rw[M]at l;simp only[go_sem,u,V7,E];refine lP.call L.towJ (ns:=f.bgK.map cW.name) g1 (bhT _) Om (g3 rfl) S (by simp only[go_sem,bjK]) λy H1 h1 A=>?_;generalize mT ([]++(f.bgK.map cW.name).take i) ((f.bgK.map cW.name).getD i [])=fb at *
   cases fb with
   |false =>simp only[go_sem,kx,ky,wZz i];exact fin false y _ _ hlt (l.trans rfl) A Lq
   |true =>simp only[go_sem,kx,E];refine aB hl rfl ?_;simp only[go_sem,ky,wZz i];exact fin _ y _ _ hlt (l.trans rfl) A Lq
 ·have u:¬(i:Int)<(Z' f.bgK:Nat):=Om;have:i=Z' f.bgK:=Om;subst this;simp only[go_sem,u];exact Up.up Lq (x Y.symm)
theorem jc{a b c d e f:Nat}(h:wB a b c d e f=true):a<=4/\b<=4/\c<=40/\d<=24/\e<=4/\f<=12:=by
 simp only[wB,bhQ,dT_]at h;omega
theorem I3{n:Nat}(h:n<=1000):i_.wrap ((n:Int)-1)=(n:Int)-1:=wrap_i64 Om Om
def inS:Spec:=λname vs=>match name,vs with
 |76,[.int _ n,.int _ lo,.int _ hi]=>some ([],λ_=>aI (.bool (within n lo hi)))
 |_,_=>none
def Lm(bgK:Nat)(m:dS):Bool:=within m.bgT 1 16&&(within m.port 1 64&&within m.law 0 ((bgK:Int)-1))
def apP(pols:Nat)(v:eG):Bool:=within v.bgP 0 ((pols:Int)-1)
def IL(f:aD):Bool:=(bhP f.bgE.length).all (okL [] (f.bgE.map dS.name) λi=>(f.bgE.map (Lm f.bgK.length)).getD i false)
theorem aRY(L:zM C)(f:aD)(hf:f.Ok)(hz:wB f.bgK.length f.bgE.length f.bgG.length f.bgD.length f.bgH.length f.bgF.length=true)(b:Bool)(K:cF)[Up K](F:PF)(H:PH)
  (hF:((((((((n_.set 1 (.bK f.cells)).set 4 (.aK)).set 5 (.aK)).set 6 (.aK)).set 7 (.aK)).set 8 (.bool b)).set 10 (.int .i64 0)):PF).le F)
  (S:∀H',K (.exit 2) ((((((n_.set 1 (.bK f.cells)).set 5 (.aK)).set 6 (.aK)).set 7 (.aK)).set 8 (.bool (b&&IL f)))) H'):aC.wp C (.loop ZS) K F H:=by
 obtain⟨β,γ,δ,ε,ζ,η⟩:=jc hz;obtain⟨ok,E⟩:∃ok,okL [] (f.bgE.map dS.name) (λi=>(f.bgE.map (Lm f.bgK.length)).getD i false)=ok:=⟨_,rfl⟩;unfold IL at S;rw[E]at S;refine wp_loop (α:=Nat × PV × PH) (λs=>(((((((n_.set 1 (.bK f.cells)).set 4 (s.2.1)).set 5 (.aK)).set 6 (.aK)).set 7 (.aK)).set 8 (.bool (b&&(bhP s.1).all ok))).set 10 (.int .i64 s.1))) (λs=>s.2.2) (λs=>s.1<=Z' f.bgE/\lP s.2.2 s.2.1 [] (f.bgE.map dS.name) (b&&(bhP s.1).all ok) s.1) (λs=>Z' f.bgE-s.1)
  (0,.aK,H) ⟨bhT _,⟨[],aR.nil.qU 1,λ_=>rfl⟩⟩ (by
   have e:(b&&(bhP 0).all ok)=b:=by cases b<;>rfl
   simp only[e];exact hF) b_ ?_
 rintro⟨i,w,N⟩ ⟨hi,Y⟩;simp only at hi Y ⊢;have fin:∀(c:Bool)(x:PV)(M:PF)(H':PH),i<Z' f.bgE->(b&&(bhP (i+1)).all ok)=c->lP H' x [] (f.bgE.map dS.name) true (i+1) ->
   ((((((((n_.set 1 (.bK f.cells)).set 4 (x)).set 5 (.aK)).set 6 (.aK)).set 7 (.aK)).set 8 (.bool c)).set 10 (.int .i64 (i+1:Nat))):PF).le M ->
   gG (λs:Nat × PV × PH=>(((((((n_.set 1 (.bK f.cells)).set 4 (s.2.1)).set 5 (.aK)).set 6 (.aK)).set 7 (.aK)).set 8 (.bool (b&&(bhP s.1).all ok))).set 10 (.int .i64 s.1))) (λs=>s.2.2) (λs=>s.1<=Z' f.bgE/\lP s.2.2 s.2.1 [] (f.bgE.map dS.name) (b&&(bhP s.1).all ok) s.1) (λs=>Z' f.bgE-s.1) (Z' f.bgE-i) K .normal M H':=
  λc x M H' hlt hb R Q=>aJ (i+1,x,H') ⟨hlt,R.M8⟩ (by simp only;omega) (by simp only;rw[hb];exact Q) b_
 have d:=yS (p:=ok) i b;have y:(b&&(bhP i).all ok)=(b&&(bhP f.bgE.length).all ok)->K (.exit 2) ((((((n_.set 1 (.bK f.cells)).set 5 (.aK)).set 6 (.aK)).set 7 (.aK)).set 8 (.bool (b&&(bhP i).all ok)))) N:=λe=>by rw[e];exact S N
 have B:=λh=>yR (p:=ok) (b:=b) hi h;generalize hc:(b&&(bhP i).all ok)=c at *
 simp only[go_sem,ZS,Jh,bhO];by_cases hlt:i<Z' f.bgE
 ·have l:(i:Int)<(Z' f.bgE:Nat):=Om;cases c with
  |false =>simp only[go_sem,l];exact Up.up Lq (y (B rfl).symm)
  |true=>
   obtain⟨X,g1,g3⟩:=Y.ex;have U:(f.bgE.map dS.cells)[i]?=some (f.bgE[i]).cells:=by simp[hlt]
   have V:i<(f.bgE.map dS.name).length:=by rw[bhO];exact hlt
   have J:ok i=(mT ([]++(f.bgE.map dS.name).take i) ((f.bgE.map dS.name).getD i [])&&(Lm f.bgK.length) f.bgE[i]):=by rw[<-E];unfold okL;simp[bhX,hlt]
   rw[J]at d;have A:Lm f.bgK.length f.bgE[i]=(within (f.bgE[i]).bgT 1 16&&(within (f.bgE[i]).port 1 64&&within (f.bgE[i]).law 0 ((Z' f.bgK:Int)-1))):=rfl;rw[A]at d;simp only[go_sem,l,Ji,U];refine aQ λo ho=>?_;have g4:=g1.new ho (.rows 4 [(f.bgE[i]).cells]);have Z:=g4.at 0 rfl;simp only[go_sem];generalize N.set o (.rows 4 [(f.bgE[i]).cells])=H2 at *
   simp only[go_sem,Jj,Z];refine lP.call L.towJ (ns:=(f.bgE.map dS.name)) g4 (bhT _) Om (g3 rfl) V (by simp only[go_sem,bjK]) λx H1 h1 u=>?_;have O:=h1.at 0 rfl;generalize mT ([]++(f.bgE.map dS.name).take i) ((f.bgE.map dS.name).getD i [])=fb at *
   cases fb with
   |false =>simp only[go_sem,ZU,CK,wZz i];exact fin false x _ _ hlt (d.trans rfl) u Lq
   |true=>
    simp only[go_sem,ZU,O];refine aB (L.inn (f.bgE[i]).bgT 1 16) rfl ?_;cases W:within (f.bgE[i]).bgT 1 16 with
    |false =>simp only[go_sem,CK,wZz i];exact fin false x _ _ hlt (by rw[d,W]<;>simp) u Lq
    |true=>
     simp only[go_sem,O];refine aB (L.inn (f.bgE[i]).port 1 64) rfl ?_;cases k1:within (f.bgE[i]).port 1 64 with
     |false =>simp only[go_sem,CK,wZz i];exact fin false x _ _ hlt (by rw[d,W,k1]<;>simp) u Lq
     |true =>simp only[go_sem,O,bhO,I3 (Om:Z' f.bgK<=1000)];refine aB (L.inn (f.bgE[i]).law 0 ((Z' f.bgK:Int)-1)) rfl ?_;simp only[go_sem,CK,wZz i];exact fin _ x _ _ hlt (by rw[d,W,k1]<;>simp) u Lq
 ·have l:¬(i:Int)<(Z' f.bgE:Nat):=Om;have:i=Z' f.bgE:=Om;subst this;simp only[go_sem,l];exact Up.up Lq (y hc.symm)
def Xg(f:aD):Bool:=(bhP f.bgF.length).all (okL [] (f.bgF.map eG.name) λi=>(f.bgF.map (apP f.bgH.length)).getD i false)
theorem a5L(L:zM C)(f:aD)(hf:f.Ok)(Z:wB f.bgK.length f.bgE.length f.bgG.length f.bgD.length f.bgH.length f.bgF.length=true)(b:Bool)(K:cF)[Up K](F:PF)(H:PH)
  (X:(((((n_.set 1 (.bK f.cells)).set 7 (.aK)).set 8 (.bool b)).set 21 (.int .i64 0)):PF).le F)
  (R:∀H',K (.exit 14) (((n_.set 1 (.bK f.cells)).set 8 (.bool (b&&Xg f)))) H'):aC.wp C (.loop HU) K F H:=by
 obtain⟨β,γ,δ,ε,ζ,η⟩:=jc Z;obtain⟨ok,J⟩:∃ok,okL [] (f.bgF.map eG.name) (λi=>(f.bgF.map (apP f.bgH.length)).getD i false)=ok:=⟨_,rfl⟩;unfold Xg at R;rw[J]at R;refine wp_loop (α:=Nat × PV × PH) (λs=>((((n_.set 1 (.bK f.cells)).set 7 (s.2.1)).set 8 (.bool (b&&(bhP s.1).all ok))).set 21 (.int .i64 s.1))) (λs=>s.2.2) (λs=>s.1<=Z' f.bgF/\lP s.2.2 s.2.1 [] (f.bgF.map eG.name) (b&&(bhP s.1).all ok) s.1) (λs=>Z' f.bgF-s.1)
  (0,.aK,H) ⟨bhT _,⟨[],aR.nil.qU 1,λ_=>rfl⟩⟩ (by
   have e:(b&&(bhP 0).all ok)=b:=by cases b<;>rfl
   simp only[e];exact X) b_ ?_
 rintro⟨i,w,V⟩ ⟨hi,W⟩;simp only at hi W ⊢;have fin:∀(c:Bool)(y:PV)(N:PF)(H':PH),i<Z' f.bgF->(b&&(bhP (i+1)).all ok)=c->lP H' y [] (f.bgF.map eG.name) true (i+1) ->
   (((((n_.set 1 (.bK f.cells)).set 7 (y)).set 8 (.bool c)).set 21 (.int .i64 (i+1:Nat))):PF).le N ->
   gG (λs:Nat × PV × PH=>((((n_.set 1 (.bK f.cells)).set 7 (s.2.1)).set 8 (.bool (b&&(bhP s.1).all ok))).set 21 (.int .i64 s.1))) (λs=>s.2.2) (λs=>s.1<=Z' f.bgF/\lP s.2.2 s.2.1 [] (f.bgF.map eG.name) (b&&(bhP s.1).all ok) s.1) (λs=>Z' f.bgF-s.1) (Z' f.bgF-i) K .normal N H':=
  λc y N H' hlt hb Q O=>aJ (i+1,y,H') ⟨hlt,Q.M8⟩ (by simp only;omega) (by simp only;rw[hb];exact O) b_
 have d:=yS (p:=ok) i b;have u:(b&&(bhP i).all ok)=(b&&(bhP f.bgF.length).all ok)->K (.exit 14) (((n_.set 1 (.bK f.cells)).set 8 (.bool (b&&(bhP i).all ok)))) V:=λe=>by rw[e];exact R V
 have B:=λh=>yR (p:=ok) (b:=b) hi h;generalize Y:(b&&(bhP i).all ok)=c at *
 simp only[go_sem,HU,Jz,bhO];by_cases hlt:i<Z' f.bgF
 ·have l:(i:Int)<(Z' f.bgF:Nat):=Om;cases c with
  |false =>simp only[go_sem,l];exact Up.up Lq (u (B rfl).symm)
  |true=>
   obtain⟨U,g1,g3⟩:=W.ex;have E:(f.bgF.map eG.cells)[i]?=some (f.bgF[i]).cells:=by simp[hlt]
   have S:i<(f.bgF.map eG.name).length:=by rw[bhO];exact hlt
   have M:ok i=(mT ([]++(f.bgF.map eG.name).take i) ((f.bgF.map eG.name).getD i [])&&(apP f.bgH.length) f.bgF[i]):=by rw[<-J];unfold okL;simp[bhX,hlt]
   rw[M]at d;have x:apP f.bgH.length f.bgF[i]=within (f.bgF[i]).bgP 0 ((Z' f.bgH:Int)-1):=rfl;rw[x]at d;simp only[go_sem,l,J0,E];refine lP.call L.towJ (ns:=(f.bgF.map eG.name)) g1 (bhT _) Om (g3 rfl) S (by simp only[go_sem,bjK]) λy H1 h1 A=>?_;generalize mT ([]++(f.bgF.map eG.name).take i) ((f.bgF.map eG.name).getD i [])=fb at *
   cases fb with
   |false =>simp only[go_sem];refine bV .nil (inS) a_ ?_;simp only[go_sem,av,aw,wZz i];exact fin false y _ _ hlt (d.trans rfl) A Lq
   |true =>simp only[go_sem];refine bV .nil (inS) a_ ?_;simp only[go_sem,av,E,bhO,I3 (Om:Z' f.bgH<=1000)];refine bX rfl (L.inn (f.bgF[i]).bgP 0 ((Z' f.bgH:Int)-1)) rfl a_ ?_;simp only[go_sem,aw,wZz i];exact fin _ y _ _ hlt (d.trans rfl) A Lq
 ·have l:¬(i:Int)<(Z' f.bgF:Nat):=Om;have:i=Z' f.bgF:=Om;subst this;simp only[go_sem,l];exact Up.up Lq (u Y.symm)
def aHF:Spec:=λname vs=>match name,vs with
 |76,[.int _ n,.int _ lo,.int _ hi]=>some ([],λ_=>aI (.bool (within n lo hi)))
 |74,[.agg cs]=>some ([],λ_=>aI (.bool (dT (frD cs))))
 |_,_=>none
theorem aHG(x:RF):aHF 74 [.agg x.cells]=some ([],λ_=>aI (.bool (dT x))):=by
 show some ([],λ_=>aI (.bool (dT (frD x.cells))))=_;rw[P1]
def Z4(f:aD)(i:Nat)(d:cS):Bool:=
 within d.level 1 4&&(within d.parent 0 i&&(((f.bgG.map cS.level).getD d.parent.toNat 0==i_.wrap (d.level-1))&&(within d.bgX 1 64&&dT d.bgS)))
theorem a1C(f:aD)(i:Nat)(d:cS):UH f i d=Z4 f i d:=by
 unfold UH Z4;have:decide ((f.bgG.map cS.level).getD d.parent.toNat 0=i_.wrap (d.level-1))=((f.bgG.map cS.level).getD d.parent.toNat 0==i_.wrap (d.level-1)):=by generalize(f.bgG.map cS.level).getD d.parent.toNat 0=u;by_cases h:u=i_.wrap (d.level-1)<;>simp[h]
 rw[this];cases within d.parent 0 i<;>cases within d.level 1 4<;>cases within d.bgX 1 64<;>simp
def lF(f:aD):List (List UInt8):=(f.bgG.drop 1).map cS.name
def GH(f:aD)(i:Nat):Bool:=match f.bgG[i+1]? with
 |some d=>Z4 f i d
 |none=>false
def GI(f:aD):Bool:=(bhP (Z' f.bgG-1)).all (okL [] (lF f) (GH f))
theorem Z3(f:aD):(lF f).length=Z' f.bgG-1:=by simp[lF]
theorem a5I(L:zM C)(f:aD)(hf:f.Ok)(μ:Z' f.bgG<=40)(h0:0<Z' f.bgG)(b:Bool)(K:cF)[Up K](F:PF)(H:PH)
  (hF:(((((((n_.set 1 (.bK f.cells)).set 5 (.aK)).set 6 (.aK)).set 7 (.aK)).set 8 (.bool b)).set 13 (.int .i64 1)):PF).le F)
  (W:∀w H',lP H' w [] (lF f) (b&&GI f) (Z' f.bgG-1)->K (.exit 4) ((((((n_.set 1 (.bK f.cells)).set 5 (w)).set 6 (.aK)).set 7 (.aK)).set 8 (.bool (b&&GI f)))) H'):aC.wp C (.loop HQ) K F H:=by
 obtain⟨ok,Q⟩:∃ok,okL [] (lF f) (GH f)=ok:=⟨_,rfl⟩;unfold GI at W;rw[Q]at W;obtain⟨n,hn⟩:∃n,Z' f.bgG=n+1:=⟨Z' f.bgG-1,by omega⟩;have η:=Z3 f;have ζ:Z' f.bgG-1=n:=Om;rw[ζ]at W η;refine wp_loop (α:=Nat × PV × PH) (λs=>((((((n_.set 1 (.bK f.cells)).set 5 (s.2.1)).set 6 (.aK)).set 7 (.aK)).set 8 (.bool (b&&(bhP s.1).all ok))).set 13 (.int .i64 (s.1+1:Nat)))) (λs=>s.2.2) (λs=>s.1<=n/\lP s.2.2 s.2.1 [] (lF f) (b&&(bhP s.1).all ok) s.1) (λs=>n-s.1)
  (0,.aK,H) ⟨bhT _,⟨[],aR.nil.qU 1,λ_=>rfl⟩⟩ (by
   have e:(b&&(bhP 0).all ok)=b:=by cases b<;>rfl
   simp only[e];exact hF) b_ ?_
 rintro⟨i,w,Y⟩ ⟨hi,hG⟩;simp only at hi hG ⊢;have fin:∀(c:Bool)(A:PV)(X:PF)(H':PH),i<n->(b&&(bhP (i+1)).all ok)=c->lP H' A [] (lF f) true (i+1) ->
   (((((((n_.set 1 (.bK f.cells)).set 5 (A)).set 6 (.aK)).set 7 (.aK)).set 8 (.bool c)).set 13 (.int .i64 (i+1+1:Nat))):PF).le X ->
   gG (λs:Nat × PV × PH=>((((((n_.set 1 (.bK f.cells)).set 5 (s.2.1)).set 6 (.aK)).set 7 (.aK)).set 8 (.bool (b&&(bhP s.1).all ok))).set 13 (.int .i64 (s.1+1:Nat)))) (λs=>s.2.2) (λs=>s.1<=n/\lP s.2.2 s.2.1 [] (lF f) (b&&(bhP s.1).all ok) s.1) (λs=>n-s.1) (n-i) K .normal X H':=
  λc A X H' hlt hb β Z=>aJ (i+1,A,H') ⟨hlt,β.M8⟩ (by simp only;omega) (by simp only;rw[hb];exact Z) b_
 have d:=yS (p:=ok) i b;have N:=λh=>yR (p:=ok) (b:=b) hi h;have E:(b&&(bhP i).all ok)=(b&&(bhP n).all ok)->((b&&(bhP i).all ok)=true->i=n)->K (.exit 4) ((((((n_.set 1 (.bK f.cells)).set 5 (w)).set 6 (.aK)).set 7 (.aK)).set 8 (.bool (b&&(bhP i).all ok)))) Y:=λe e2=>by
  obtain⟨y,g1,g3⟩:=hG.ex;have:=W w Y ⟨y,g1,λh=>by have h':=e.trans h;rw[g3 h',e2 h']⟩
  rwa[<-e]at this
 generalize hc:(b&&(bhP i).all ok)=c at *
 simp only[go_sem,HQ,Jl,bhO];by_cases hlt:i<n
 ·have u:((i+1:Nat):Int)<(Z' f.bgG:Nat):=Om;cases c with
  |false =>simp only[go_sem,u];exact Up.up Lq (E (N rfl).symm (λh=>by cases h))
  |true=>
   obtain⟨y,g1,g3⟩:=hG.ex;have J:i+1<Z' f.bgG:=Om;have γ:=kE J;have ε:i<(lF f).length:=Om;have θ:(lF f)[i]=(f.bgG[i+1]).name:=by simp[lF,Nat.add_comm]
   have R:ok i=(mT ([]++(lF f).take i) ((lF f).getD i [])&&Z4 f i f.bgG[i+1]):=by rw[<-Q];unfold okL GH;rw[biD J]
   have δ:=hf.dom _ (bhS J);rw[R]at d;unfold Z4 at d;have e1:i_.wrap (((i+1:Nat):Int)-1)=(i:Nat):=by rw[wrap_i64 Om Om];omega
   have l:i_.wrap (((i+1:Nat):Int)+1)=((i+1+1:Nat):Int):=dZ Om;have κ:=L.small _ δ.1;simp only[go_sem,u,Jm,γ];refine aQ λo ho=>?_;have g4:=g1.new ho (.rows 7 [(f.bgG[i+1]).cells]);have g5:=g4.at 0 rfl;simp only[go_sem];generalize Y.set o (.rows 7 [(f.bgG[i+1]).cells])=H2 at *
   simp only[go_sem,Jn,g5];refine lP.call L.towJ (ns:=lF f) g4 (bhT _) Om (g3 rfl) ε (by simp only[go_sem,θ]) λA H1 h1 x=>?_;have M:=h1.at 0 rfl;generalize mT ([]++(lF f).take i) ((lF f).getD i [])=fb at *
   generalize hd:f.bgG[i+1]=B at *
   cases fb with
   |false =>simp only[go_sem];refine bV .nil aHF a_ ?_;simp only[go_sem,ZX,tZ,l];exact fin false A _ _ hlt (d.trans rfl) x Lq
   |true=>
    simp only[go_sem];refine bV .nil aHF a_ ?_;simp only[go_sem,ZX,M];refine bX rfl (L.inn B.level 1 4) rfl a_ ?_;cases V:within B.level 1 4 with
    |false =>simp only[go_sem,tZ,l];exact fin false A _ _ hlt (by rw[d,V]<;>simp) x Lq
    |true=>
     simp only[go_sem,M,e1];refine bX rfl (L.inn B.parent 0 (i:Nat)) rfl a_ ?_;cases k1:within B.parent 0 (i:Nat)with
     |false =>simp only[go_sem,tZ,l];exact fin false A _ _ hlt (by rw[d,V,k1]<;>simp) x Lq
     |true=>
      obtain⟨p0,p1⟩:=within_iff.1 k1;obtain⟨p,hp⟩:∃p:Nat,B.parent=p:=⟨B.parent.toNat,by omega⟩;have U:p<Z' f.bgG:=Om;obtain⟨lv,O⟩:∃lv,(f.bgG.map cS.level).getD B.parent.toNat 0=lv:=⟨_,rfl⟩;have ι:(f.bgG[p]).level=lv:=by rw[<-O,hp,bjN,getD_at U]
      rw[O]at d;have S:=kE U;simp only[go_sem,M,hp,S,ι];cases k2:lv==i_.wrap (B.level-1)with
      |false =>simp only[go_sem,tZ,l];exact fin false A _ _ hlt (by rw[d,V,k1,k2]<;>simp) x Lq
      |true=>
       simp only[go_sem,M];refine bX rfl (L.inn B.bgX 1 64) rfl a_ ?_;cases k3:within B.bgX 1 64 with
       |false =>simp only[go_sem,tZ,l];exact fin false A _ _ hlt (by rw[d,V,k1,k2,k3]<;>simp) x Lq
       |true =>simp only[go_sem,M];refine bX (aHG _) κ rfl a_ ?_;simp only[go_sem,tZ,l];exact fin _ A _ _ hlt (by rw[d,V,k1,k2,k3]<;>simp) x Lq
 ·have u:¬((i+1:Nat):Int)<(Z' f.bgG:Nat):=Om;have:i=n:=Om;subst this;simp only[go_sem,u];exact Up.up Lq (E hc.symm (λ_=>rfl))
def aaA(f:aD)(d:eJ):Bool:=within d.model 0 ((Z' f.bgE:Int)-1)&&(within d.machine 0 ((Z' f.bgG:Int)-1)&&((f.bgG.map cS.level).getD d.machine.toNat 0==4))
def rE(f:aD):List (List UInt8):=f.bgD.map eJ.name
def DQ(f:aD)(i:Nat):Bool:=match f.bgD[i]? with
 |some d=>aaA f d
 |none=>false
def HY(f:aD):Bool:=(bhP f.bgD.length).all (okL (lF f) (rE f) (DQ f))
theorem aRX(L:zM C)(f:aD)(hf:f.Ok)(κ:Z' f.bgG<=40)(h0:0<Z' f.bgG)(μ:Z' f.bgD<=24)(ι:Z' f.bgE<=4)(b:Bool)(w0:PV)(K:cF)[Up K](F:PF)(H:PH)
  (β:lP H w0 [] (lF f) b (Z' f.bgG-1)) (hF:(((((((n_.set 1 (.bK f.cells)).set 5 (w0)).set 6 (.aK)).set 7 (.aK)).set 8 (.bool b)).set 15 (.int .i64 0)):PF).le F)
  (U:∀H',K (.exit 6) (((((n_.set 1 (.bK f.cells)).set 6 (.aK)).set 7 (.aK)).set 8 (.bool (b&&HY f)))) H'):aC.wp C (.loop HR) K F H:=by
 obtain⟨ok,O⟩:∃ok,okL (lF f) (rE f) (DQ f)=ok:=⟨_,rfl⟩;unfold HY at U;rw[O]at U;obtain⟨n,hn⟩:∃n,Z' f.bgD=n:=⟨_,rfl⟩;have η:=Z3 f;have θ:(rE f).length=n:=by simp[rE,hn]
 rw[hn]at U;refine wp_loop (α:=Nat × PV × PH) (λs=>((((((n_.set 1 (.bK f.cells)).set 5 (s.2.1)).set 6 (.aK)).set 7 (.aK)).set 8 (.bool (b&&(bhP s.1).all ok))).set 15 (.int .i64 s.1))) (λs=>s.2.2) (λs=>s.1<=n/\lP s.2.2 s.2.1 (lF f) (rE f) (b&&(bhP s.1).all ok) s.1) (λs=>n-s.1)
  (0,w0,H) ⟨bhT _,by
   obtain⟨x,q1,q2⟩:=β.ex;have e:(b&&(bhP 0).all ok)=b:=by cases b<;>rfl
   refine⟨x,q1,λh=>?_⟩;simp only[e]at h;rw[q2 h,blM,biK Om];simp⟩ (by
   have e:(b&&(bhP 0).all ok)=b:=by cases b<;>rfl
   simp only[e];exact hF) b_ ?_
 rintro⟨i,w,W⟩ ⟨hi,hG⟩;simp only at hi hG ⊢;have fin:∀(c:Bool)(A:PV)(V:PF)(H':PH),i<n->(b&&(bhP (i+1)).all ok)=c->lP H' A (lF f) (rE f) true (i+1) ->
   (((((((n_.set 1 (.bK f.cells)).set 5 (A)).set 6 (.aK)).set 7 (.aK)).set 8 (.bool c)).set 15 (.int .i64 (i+1:Nat))):PF).le V ->
   gG (λs:Nat × PV × PH=>((((((n_.set 1 (.bK f.cells)).set 5 (s.2.1)).set 6 (.aK)).set 7 (.aK)).set 8 (.bool (b&&(bhP s.1).all ok))).set 15 (.int .i64 s.1))) (λs=>s.2.2) (λs=>s.1<=n/\lP s.2.2 s.2.1 (lF f) (rE f) (b&&(bhP s.1).all ok) s.1) (λs=>n-s.1) (n-i) K .normal V H':=
  λc A V H' hlt hb Z Y=>aJ (i+1,A,H') ⟨hlt,Z.M8⟩ (by simp only;omega) (by simp only;rw[hb];exact Y) b_
 have d:=yS (p:=ok) i b;have J:=λh=>yR (p:=ok) (b:=b) hi h;have B:(b&&(bhP i).all ok)=(b&&(bhP n).all ok)->K (.exit 6) (((((n_.set 1 (.bK f.cells)).set 6 (.aK)).set 7 (.aK)).set 8 (.bool (b&&(bhP i).all ok)))) W:=λe=>by rw[e];exact U W
 generalize hc:(b&&(bhP i).all ok)=c at *
 simp only[go_sem,HR,Jo,bhO];by_cases hlt:i<n
 ·have l:((i:Nat):Int)<(Z' f.bgD:Nat):=Om;cases c with
  |false =>simp only[go_sem,l];exact Up.up Lq (B (J rfl).symm)
  |true=>
   obtain⟨x,g1,g3⟩:=hG.ex;have M:i<Z' f.bgD:=Om;have γ:=rL M;have δ:i<(rE f).length:=Om;have ε:(rE f)[i]=(f.bgD[i]).name:=by simp[rE]
   have Q:ok i=(mT (lF f++(rE f).take i) ((rE f).getD i [])&&aaA f f.bgD[i]):=by rw[<-O];unfold okL DQ;rw[biD M]
   rw[Q]at d;unfold aaA at d;have u:i_.wrap ((i:Int)+1)=((i+1:Nat):Int):=dZ Om;have e1:=I3 (Om:Z' f.bgE<=1000);have e2:=I3 (Om:Z' f.bgG<=1000);simp only[go_sem,l,Jp,γ];refine aQ λo ho=>?_;have g4:=g1.new ho (.rows 3 [(f.bgD[i]).cells]);have g5:=g4.at 0 rfl;simp only[go_sem];generalize W.set o (.rows 3 [(f.bgD[i]).cells])=H2 at *
   simp only[go_sem,Jq,g5];refine lP.call L.towJ (base:=lF f) (ns:=rE f) g4 Om Om (g3 rfl) δ (by simp only[go_sem,ε]) λA H1 h1 y=>?_;have X:=h1.at 0 rfl;generalize mT (lF f++(rE f).take i) ((rE f).getD i [])=fb at *
   generalize hd:f.bgD[i]=E at *
   cases fb with
   |false =>simp only[go_sem,ZZ,CL,u];exact fin false A _ _ hlt (d.trans rfl) y Lq
   |true=>
    simp only[go_sem,ZZ,X,bhO,e1];refine aB (L.inn E.model 0 ((Z' f.bgE:Int)-1)) rfl ?_;cases k0:within E.model 0 ((Z' f.bgE:Int)-1)with
    |false =>simp only[go_sem,CL,u];exact fin false A _ _ hlt (by rw[d,k0]<;>simp) y Lq
    |true=>
     simp only[go_sem,X,bhO,e2];refine aB (L.inn E.machine 0 ((Z' f.bgG:Int)-1)) rfl ?_;cases k1:within E.machine 0 ((Z' f.bgG:Int)-1)with
     |false =>simp only[go_sem,CL,u];exact fin false A _ _ hlt (by rw[d,k0,k1]<;>simp) y Lq
     |true=>
      obtain⟨p0,p1⟩:=within_iff.1 k1;obtain⟨p,hp⟩:∃p:Nat,E.machine=p:=⟨E.machine.toNat,by omega⟩;have S:p<Z' f.bgG:=Om;obtain⟨lv,N⟩:∃lv,(f.bgG.map cS.level).getD E.machine.toNat 0=lv:=⟨_,rfl⟩;have ζ:(f.bgG[p]).level=lv:=by rw[<-N,hp,bjN,getD_at S]
      rw[N]at d;have R:=kE S;simp only[go_sem,X,hp,R,ζ,CL,u];exact fin _ A _ _ hlt (by rw[d,k0,k1]<;>simp) y Lq
 ·have l:¬((i:Nat):Int)<(Z' f.bgD:Nat):=Om;have:i=n:=Om;subst this;simp only[go_sem,l];exact Up.up Lq (B hc.symm)
theorem wa{xs:List Int}{k:Nat}(h:k<Z' xs):(xs.map λx=>[PV.int .i64 x])[k]?=some [.int .i64 xs[k]]:=by simp[h]
def zpF(f:aD)(w:PV)(o i:Nat)(c:Bool)(j:Nat):PF:=(((((((n_.set 1 (.bK f.cells)).set 6 (w)).set 7 (.aK)).set 8 (.bool c)).set 17 (.int .i64 i)).set 18 (.ptr o 17 0 0)).set 19 (.int .i64 j))
theorem aZH(f:aD)(w:PV)(o i:Nat)(p:cE)(N:Z' p.bgE<=9223372036854775807)(j:Nat)(E:j<Z' p.bgE)(b:Bool)(K:cF)[Up K](F:PF)(H:PH)(J:H o=some (.rows 17 [p.cells]))(A:((zpF f w o i b j).set 20 (.int .i64 0)).le F)
  (B:K (.exit 12) (zpF f w o i (b&&(p.bgE.take j).all λx=>x != p.bgE[j]) j) H):aC.wp C (.loop ZT) K F H:=by
 refine wp_loop (α:=Nat) (λk=>(zpF f w o i (b&&(p.bgE.take k).all λx=>x != p.bgE[j]) j).set 20 (.int .i64 k)) (λ_=>H) (λk=>k<=j) (λk=>j-k) 0 (bhT _) (by
   have e:(b&&(p.bgE.take 0).all λx=>x != p.bgE[j])=b:=by cases b<;>rfl
   simp only[e];exact A) b_ ?_
 intro k M;have u:∀h:k<Z' p.bgE,(b&&(p.bgE.take (k+1)).all λx=>x != p.bgE[j])=((b&&(p.bgE.take k).all λx=>x != p.bgE[j])&&(p.bgE[k] != p.bgE[j])):=λh=>by rw[bjF h,List.all_append];simp[blE]
 have fin:∀(c:Bool)(y:PF),k<j->(b&&(p.bgE.take (k+1)).all λx=>x != p.bgE[j])=c->((zpF f w o i c j).set 20 (.int .i64 (k+1:Nat))).le y->gG (λk:Nat=>(zpF f w o i (b&&(p.bgE.take k).all λx=>x != p.bgE[j]) j).set 20 (.int .i64 k)) (λ_=>H) (λk=>k<=j) (λk=>j-k) (j-k) K .normal y H:=
  λc y hlt e h=>aJ (k+1) hlt Om (by rw[e];exact h) b_
 unfold zpF at fin;simp only[go_sem,ZT,Jx,zpF];by_cases hlt:k<j
 ·have d:(k:Int)<(j:Nat):=Om;have l:k<Z' p.bgE:=Om;have u:=u l;generalize(b&&(p.bgE.take k).all λx=>x != p.bgE[j])=c at *
  simp only[go_sem,d];refine bV .nil eW a_ ?_;cases c with
  |false =>simp only[go_sem,aj,an,wZz k];exact fin false _ hlt (u.trans rfl) Lq
  |true =>simp only[go_sem,aj,J,wa l,wa E,an,wZz k];exact fin _ _ hlt (u.trans rfl) Lq
 ·have d:¬(k:Int)<(j:Nat):=Om;have:k=j:=Om;subst this;simp only[go_sem,d];exact Up.up (by(repeat' (first|exact c_|refine d_ ?_ ?_))<;>first|(simp only[go_sem,zpF]<;>rfl)|rfl) B
def XN(bgE:Nat)(ms:List Int)(j:Nat):Bool:=within (ms.getD j 0) 0 ((bgE:Int)-1)&&(ms.take j).all λx=>x != ms.getD j 0
theorem aRU(L:zM C)(f:aD)(V:Z' f.bgE<=4)(w:PV)(o i:Nat)(p:cE)(U:Z' p.bgE<=9223372036854775807)(b:Bool)(K:cF)[Up K](F:PF)(H:PH)(E:H o=some (.rows 17 [p.cells]))(O:(zpF f w o i b 0).le F)
  (M:K (.exit 10) ((((((n_.set 1 (.bK f.cells)).set 6 (w)).set 7 (.aK)).set 8 (.bool (b&&(bhP p.bgE.length).all (XN f.bgE.length p.bgE)))).set 17 (.int .i64 i))) H):aC.wp C (.loop HS) K F H:=by
 obtain⟨ok,A⟩:∃ok,XN f.bgE.length p.bgE=ok:=⟨_,rfl⟩;rw[A]at M;refine wp_loop (α:=Nat) (λj=>zpF f w o i (b&&(bhP j).all ok) j) (λ_=>H) (λj=>j<=Z' p.bgE) (λj=>Z' p.bgE-j) 0 (bhT _) (by
   have e:(b&&(bhP 0).all ok)=b:=by cases b<;>rfl
   simp only[e];exact O) b_ ?_
 intro j S;have l:=yS (p:=ok) j b;have y:=λh=>yR (p:=ok) (b:=b) S h;have fin:∀(c:Bool)(B:PF),j<Z' p.bgE->(b&&(bhP (j+1)).all ok)=c->(zpF f w o i c (j+1)).le B->gG (λj:Nat=>zpF f w o i (b&&(bhP j).all ok) j) (λ_=>H) (λj=>j<=Z' p.bgE) (λj=>Z' p.bgE-j) (Z' p.bgE-j) K .normal B H:=
  λc B hlt e h=>aJ (j+1) hlt Om (by rw[e];exact h) b_
 unfold zpF at fin;have u:(b&&(bhP j).all ok)=(b&&(bhP p.bgE.length).all ok)->K (.exit 10) ((((((n_.set 1 (.bK f.cells)).set 6 (w)).set 7 (.aK)).set 8 (.bool (b&&(bhP j).all ok))).set 17 (.int .i64 i))) H:=λe=>by rw[e];exact M
 generalize Q:(b&&(bhP j).all ok)=c at *
 simp only[go_sem,HS,Ju,zpF,E,bhO];by_cases hlt:j<Z' p.bgE
 ·have d:(j:Int)<(Z' p.bgE:Nat):=Om;cases c with
  |false =>simp only[go_sem,d];exact Up.up Lq (u (y rfl).symm)
  |true=>
   have N:=I3 (Om:Z' f.bgE<=1000);have R:p.bgE.getD j 0=p.bgE[j]:=by simp[bhX,hlt]
   have J:ok j=(within p.bgE[j] 0 ((Z' f.bgE:Int)-1)&&(p.bgE.take j).all λx=>x != p.bgE[j]):=by rw[<-A];unfold XN;rw[R]
   rw[J]at l;simp only[go_sem,d];refine bV .nil aHF a_ ?_;simp only[go_sem,Jv,E,wa hlt,bhO,N];refine bX rfl (L.inn p.bgE[j] 0 ((Z' f.bgE:Int)-1)) Sq a_ ?_;simp only[go_sem,Jw];refine aZH f w o i p U j hlt (within p.bgE[j] 0 ((Z' f.bgE:Int)-1)) _ _ _ E (by(repeat' (first|exact c_|refine d_ ?_ ?_))<;>first|(simp only[go_sem,zpF]<;>rfl)|rfl) ?_;simp only[go_sem,zpF,Jy,wZz j];exact fin _ _ hlt (l.trans rfl) Lq
 ·have d:¬(j:Int)<(Z' p.bgE:Nat):=Om;have:j=Z' p.bgE:=Om;subst this;simp only[go_sem,d];exact Up.up Lq (u Q.symm)
def ajP(bgE:Nat)(p:cE):Bool:=XD p.k p.m p.bhB p.s0 p.s1 p.s2 p.s3 p.s4&&(dl p.m p.repair p.target p.bgN&&(decide (Z' p.bgE>0)&&(bhP p.bgE.length).all (XN bgE p.bgE)))
theorem a4A(bgE:Nat)(p:cE):mW bgE p=ajP bgE p:=by
 unfold mW ajP;rw[a3N,a6D];have d:decide (Z' p.bgE≠0)=decide (Z' p.bgE>0):=decide_eq_decide.2 Om;have e:(bhP p.bgE.length).all (λj=>within (p.bgE.getD j 0) 0 ((bgE:Int)-1)&&!(p.bgE.take j).contains (p.bgE.getD j 0))=(bhP p.bgE.length).all (XN bgE p.bgE):=by
  congr 1;funext j;unfold XN;congr 1;generalize p.bgE.getD j 0=x
  induction p.bgE.take j with
  |nil=>rfl
  |cons a t i =>rw[List.contains_cons,blJ,<-i,Bool.not_or,bne,BEq.comm]
 rw[d,e];cases XD p.k p.m p.bhB p.s0 p.s1 p.s2 p.s3 p.s4<;>cases dl p.m p.repair p.target p.bgN<;>cases decide (Z' p.bgE>0)<;>simp
structure J6(C:Ctx):Prop extends zM C where
 dur:∀(m:Int)(rep:List RF),oC rep->∀t h:RF,t.Ok->h.Ok->aH C 69 [.int .i64 m,frs rep,.agg t.cells,.agg h.cells] .nil (aI (.bool (dl m rep t h)))
def pZ(f:aD):List (List UInt8):=f.bgH.map cE.name
def XM(f:aD)(i:Nat):Bool:=match f.bgH[i]? with
 |some p=>ajP f.bgE.length p
 |none=>false
def Gq(f:aD):Bool:=(bhP f.bgH.length).all (okL [] (pZ f) (XM f))
theorem a5K(L:J6 C)(f:aD)(hf:f.Ok)(ε:Z' f.bgH<=4)(β:Z' f.bgE<=4)(b:Bool)(K:cF)[Up K](F:PF)(H:PH)
  (hF:((((((n_.set 1 (.bK f.cells)).set 6 (.aK)).set 7 (.aK)).set 8 (.bool b)).set 17 (.int .i64 0)):PF).le F)
  (U:∀H',K (.exit 8) ((((n_.set 1 (.bK f.cells)).set 7 (.aK)).set 8 (.bool (b&&Gq f)))) H'):aC.wp C (.loop HT) K F H:=by
 obtain⟨ok,J⟩:∃ok,okL [] (pZ f) (XM f)=ok:=⟨_,rfl⟩;unfold Gq at U;rw[J]at U;have δ:(pZ f).length=Z' f.bgH:=by simp[pZ]
 refine wp_loop (α:=Nat × PV × PH) (λs=>(((((n_.set 1 (.bK f.cells)).set 6 (s.2.1)).set 7 (.aK)).set 8 (.bool (b&&(bhP s.1).all ok))).set 17 (.int .i64 s.1))) (λs=>s.2.2) (λs=>s.1<=Z' f.bgH/\lP s.2.2 s.2.1 [] (pZ f) (b&&(bhP s.1).all ok) s.1) (λs=>Z' f.bgH-s.1)
  (0,.aK,H) ⟨bhT _,⟨[],aR.nil.qU 1,λ_=>rfl⟩⟩ (by
   have e:(b&&(bhP 0).all ok)=b:=by cases b<;>rfl
   simp only[e];exact hF) b_ ?_
 rintro⟨i,w,Q⟩ ⟨hi,hG⟩;simp only at hi hG ⊢;have fin:∀(c:Bool)(y:PV)(A:PF)(H':PH),i<Z' f.bgH->(b&&(bhP (i+1)).all ok)=c->lP H' y [] (pZ f) true (i+1) ->
   ((((((n_.set 1 (.bK f.cells)).set 6 (y)).set 7 (.aK)).set 8 (.bool c)).set 17 (.int .i64 (i+1:Nat))):PF).le A ->
   gG (λs:Nat × PV × PH=>(((((n_.set 1 (.bK f.cells)).set 6 (s.2.1)).set 7 (.aK)).set 8 (.bool (b&&(bhP s.1).all ok))).set 17 (.int .i64 s.1))) (λs=>s.2.2) (λs=>s.1<=Z' f.bgH/\lP s.2.2 s.2.1 [] (pZ f) (b&&(bhP s.1).all ok) s.1) (λs=>Z' f.bgH-s.1) (Z' f.bgH-i) K .normal A H':=
  λc y A H' hlt hb R B=>aJ (i+1,y,H') ⟨hlt,R.M8⟩ (by simp only;omega) (by simp only;rw[hb];exact B) b_
 have d:=yS (p:=ok) i b;have E:=λh=>yR (p:=ok) (b:=b) hi h;have x:(b&&(bhP i).all ok)=(b&&(bhP f.bgH.length).all ok)->K (.exit 8) ((((n_.set 1 (.bK f.cells)).set 7 (.aK)).set 8 (.bool (b&&(bhP i).all ok)))) Q:=λe=>by rw[e];exact U Q
 generalize hc:(b&&(bhP i).all ok)=c at *
 simp only[go_sem,HT,Jr,bhO];by_cases hlt:i<Z' f.bgH
 ·have l:(i:Int)<(Z' f.bgH:Nat):=Om;cases c with
  |false =>simp only[go_sem,l];exact Up.up Lq (x (E rfl).symm)
  |true=>
   obtain⟨γ,g1,g3⟩:=hG.ex;have V:=PT hlt;have Y:i<(pZ f).length:=Om;have Z:(pZ f)[i]=(f.bgH[i]).name:=by simp[pZ]
   have M:ok i=(mT ([]++(pZ f).take i) ((pZ f).getD i [])&&ajP f.bgE.length f.bgH[i]):=by rw[<-J];unfold okL XM;rw[biD hlt]
   have u:=hf.bgP _ (bhS hlt);rw[M]at d;unfold ajP at d;have N:i_.wrap ((i:Int)+1)=((i+1:Nat):Int):=dZ Om;simp only[go_sem,l,Js,V];refine aQ λo ho=>?_;have g4:=g1.new ho (.rows 17 [(f.bgH[i]).cells]);have g5:=g4.at 0 rfl;simp only[go_sem];generalize Q.set o (.rows 17 [(f.bgH[i]).cells])=H2 at *
   simp only[go_sem,Jt,g5];refine lP.call L.towJ (ns:=pZ f) g4 (bhT _) Om (g3 rfl) Y (by simp only[go_sem,Z]) λy H1 h1 S=>?_;have O:=h1.at 0 rfl;generalize mT ([]++(pZ f).take i) ((pZ f).getD i [])=fb at *
   generalize hd:f.bgH[i]=p at *
   have rest:∀(c:Bool)(A:PF),(zpF f y o i c 0).le A->(c&&(bhP p.bgE.length).all (XN f.bgE.length p.bgE))=(b&&(bhP (i+1)).all ok) ->
     aC.wp C (.loop HS) (fS 10 (fS 9 (kB C (aC.wp C (.region ao)) (gG (λs:Nat × PV × PH=>(((((n_.set 1 (.bK f.cells)).set 6 (s.2.1)).set 7 (.aK)).set 8 (.bool (b&&(bhP s.1).all ok))).set 17 (.int .i64 s.1))) (λs=>s.2.2) (λs=>s.1<=Z' f.bgH/\lP s.2.2 s.2.1 [] (pZ f) (b&&(bhP s.1).all ok) s.1) (λs=>Z' f.bgH-s.1) (Z' f.bgH-i) K)))) A H1:=by
    intro c A B W;refine aRU L.tozM f β y o i p u.bgE c _ _ _ O B ?_;rw[W];simp only[go_sem,ao,N];exact fin _ y _ _ hlt rfl S Lq
   cases fb with
   |false =>simp only[go_sem,ai,CM];exact rest false _ (by(repeat' (first|exact c_|refine d_ ?_ ?_))<;>first|(simp only[go_sem,zpF]<;>rfl)|rfl) (by rw[d];rfl)
   |true=>
    simp only[go_sem,ai,O];refine aB (L.nums p.k p.m p.bhB p.s0 p.s1 p.s2 p.s3 p.s4) Sq ?_;cases k0:XD p.k p.m p.bhB p.s0 p.s1 p.s2 p.s3 p.s4 with
    |false =>simp only[go_sem,CM];exact rest false _ (by(repeat' (first|exact c_|refine d_ ?_ ?_))<;>first|(simp only[go_sem,zpF]<;>rfl)|rfl) (by rw[d,k0];rfl)
    |true=>
     simp only[go_sem,O];refine aB (L.dur p.m p.repair u.repair p.target p.bgN u.target u.bgN) Sq ?_;cases k1:dl p.m p.repair p.target p.bgN with
     |false =>simp only[go_sem,CM];exact rest false _ (by(repeat' (first|exact c_|refine d_ ?_ ?_))<;>first|(simp only[go_sem,zpF]<;>rfl)|rfl) (by rw[d,k0,k1];rfl)
     |true =>have X:decide ((Z' p.bgE:Int)>0)=decide (Z' p.bgE>0):=decide_eq_decide.2 Om;simp only[go_sem,O,bhO,X,CM];exact rest _ _ (by(repeat' (first|exact c_|refine d_ ?_ ?_))<;>first|(simp only[go_sem,zpF]<;>rfl)|rfl) (by rw[d,k0,k1];rfl)
 ·have l:¬(i:Int)<(Z' f.bgH:Nat):=Om;have:i=Z' f.bgH:=Om;subst this;simp only[go_sem,l];exact Up.up Lq (x hc.symm)
def xG(r:cS):Bool:=(r.name==[])&&((r.level==0)&&((r.parent==-1)&&((r.bgX==0)&&(cC (val r.bgS.num) (val r.bgS.den)&&(yP r.bgS==0)))))
def aJC(f:aD):Bool:=match f.bgG with
 |[]=>false
 |r::_=>xG r
def aWY(f:aD):Bool:=within f.bhH 1 4&&(wB f.bgK.length f.bgE.length f.bgG.length f.bgD.length f.bgH.length f.bgF.length&&(decide (0<Z' f.bgG)&&((((((VM f&&IL f)&&aJC f)&&GI f)&&HY f)&&Gq f)&&Xg f)))
theorem asX(n:Nat)(p q:Nat->Bool):(bhP n).all (λi=>p i&&q i)=((bhP n).all p&&(bhP n).all q):=by
 induction n with
 |zero=>rfl
 |succ n d =>simp only[List.range_succ,List.all_append,d,blJ,List.all_nil,bjY];cases(bhP n).all p<;>cases(bhP n).all q<;>cases p n<;>simp
theorem IY{α:Type}(l:List α)(p:α->Bool):(bhP l.length).all (λi=>(l.map p).getD i false)=l.all p:=by
 refine Bool.eq_iff_iff.2 ?_;rw[biB,biB];constructor
 ·intro h x d;obtain⟨i,hi,rfl⟩:=bjD d;have:=h i (biM.2 hi);simpa[bhX,hi]using this
 ·intro h i hi;have hi:=biM.1 hi;simp[bhX,hi,h _ (bhS hi)]
theorem SJ(ns:List (List UInt8))(n:Nat)(d:Z' ns=n)(P:Nat->Bool):(bhP n).all (okL [] ns P)=(distinct ns&&(bhP n).all P):=by
 subst d;have:okL [] ns P=λi=>(isName (ns.getD i [])&&!(ns.take i).contains (ns.getD i []))&&P i:=by funext i;rfl
 rw[this,asX];rfl
theorem a3P(base ns:List (List UInt8))(P Q:Nat->Bool):((bhP base.length).all (okL [] base P)&&(bhP ns.length).all (okL base ns Q))=(distinct (base++ns)&&((bhP base.length).all P&&(bhP ns.length).all Q)):=by
 have d:okL base ns Q=λi=>(isName (ns.getD i [])&&!(base++ns.take i).contains (ns.getD i []))&&Q i:=by funext i;rfl
 have e2:distinct (base++ns)=(distinct base&&(bhP ns.length).all λi=>isName (ns.getD i [])&&!(base++ns.take i).contains (ns.getD i [])):=by
  unfold distinct;rw[bhW,List.range_add,List.all_append,List.all_map];congr 1
  ·refine Bool.eq_iff_iff.2 ?_;rw[biB,biB];refine forall_congr' λi=>forall_congr' λhi=>?_;have hi:=biM.1 hi;have a1:(base++ns).getD i []=base.getD i []:=by simp only[bhX];rw[bkE hi]
   have a2:(base++ns).take i=base.take i:=by rw[List.take_append_of_le_length Om]
   rw[a1,a2]
  ·refine Bool.eq_iff_iff.2 ?_;rw[biB,biB];refine forall_congr' λi=>forall_congr' λ_=>?_;have a1:(base++ns).getD (Z' base+i) []=ns.getD i []:=by simp only[bhX];rw[bkF Om];congr 2;omega
   have a2:(base++ns).take (Z' base+i)=base++ns.take i:=by rw[List.take_append,biK Om];congr 2;omega
   simp only[Function.comp,a1,a2]
 rw[SJ base base.length rfl P,d,asX,e2];cases distinct base<;>cases(bhP base.length).all P<;>simp
theorem aXB(r:cS):(decide (r.name=[])&&decide (r.level=0)&&decide (r.parent=-1)&&decide (r.bgX=0)&&dT r.bgS&&!bZ r.bgS)=xG r:=by
 have l:decide (r.name=[])=(r.name==[]):=by cases r.name<;>rfl
 have p:decide (r.level=0)=(r.level==0):=by generalize r.level=x;by_cases h:x=0<;>simp[h]
 have u:decide (r.parent=-1)=(r.parent==-1):=by generalize r.parent=x;by_cases h:x=-1<;>simp[h]
 have w:decide (r.bgX=0)=(r.bgX==0):=by generalize r.bgX=x;by_cases h:x=0<;>simp[h]
 have h5:(dT r.bgS&&!bZ r.bgS)=(cC (val r.bgS.num) (val r.bgS.den)&&(yP r.bgS==0)):=by
  rw[YD];by_cases h:val r.bgS.num=0
  ·have e:bZ r.bgS=false:=by unfold bZ;simp[h]
   rw[e];simp only[biF,bjY];cases d:cC (val r.bgS.num) (val r.bgS.den)with
   |false =>unfold dT oZ;rw[d];rfl
   |true=>
    obtain⟨y,-,-⟩:=eY.1 d;unfold dT oZ;rw[d,aG rfl,we d,h];unfold pF;have hb:val r.bgS.den/bhR 0 (val r.bgS.den)=1:=by rw[Nat.gcd_zero_left,Nat.div_self (bkN y)]
    have i:cX (0/bhR 0 (val r.bgS.den))=0:=by rw[Nat.zero_div];exact nK
    have b1:cX 1=1:=by rw[vH aS,nK]
    simp only[hb,i,b1];simp
  ·have e:bZ r.bgS=true:=by unfold bZ;simp[h]
   rw[e];simp
 unfold xG;rw[l,p,u,w];simp only[blE]at h5 ⊢;rw[h5]
theorem aTJ(f:aD){r:cS}{t:List cS}(h:f.bgG=r::t):MD f r t=(xG r&&(bhP t.length).all (GH f)):=by
 unfold MD;rw[aXB];congr 2;funext i;unfold GH;rw[h,List.getElem?_cons_succ];cases t[i]? with
 |none=>rfl
 |some d=>exact a1C f i d
theorem aMK(f:aD):f.bgD.all (mH f)=(bhP f.bgD.length).all (DQ f):=by
 have:DQ f=λi=>(f.bgD.map (mH f)).getD i false:=by
  funext i;unfold DQ;rw[bhX,biL];cases f.bgD[i]? with
  |none=>rfl
  |some d=>
   show aaA f d=mH f d;unfold aaA mH;have:decide ((f.bgG.map cS.level).getD d.machine.toNat 0=4)=((f.bgG.map cS.level).getD d.machine.toNat 0==4):=by generalize(f.bgG.map cS.level).getD d.machine.toNat 0=u;by_cases h:u=4<;>simp[h]
   rw[this,blE]
 rw[this,IY]
theorem aOY(f:aD):f.bgH.all (mW f.bgE.length)=(bhP f.bgH.length).all (XM f):=by
 have:XM f=λi=>(f.bgH.map (mW f.bgE.length)).getD i false:=by
  funext i;unfold XM;rw[bhX,biL];cases f.bgH[i]? with
  |none=>rfl
  |some d=>exact(a4A _ d).symm
 rw[this,IY]
theorem a4B(f:aD):aWY f=dC f:=by
 have M:Lm f.bgK.length=oY f:=by funext m;unfold Lm oY;rw[blE]
 have A:apP f.bgH.length=tY f:=rfl;have N:(within f.bhH 1 4&&wB f.bgK.length f.bgE.length f.bgG.length f.bgD.length f.bgH.length f.bgF.length)=sY f:=by unfold sY wB;simp only[blE]
 unfold aWY dC VM IL Gq Xg;rw[SJ _ _ (by rw[bhO]),SJ _ _ (by rw[bhO]),SJ _ _ (by rw[pZ,bhO]),SJ _ _ (by rw[bhO]),IY,IY,IY,M,A,aOY,aMK,<-blE,N];unfold tL aJC;cases l:f.bgG with
 |nil=>simp
 |cons r t=>
  have i:decide (0<Z' f.bgG)=true:=by rw[l];simp
  rw[l]at i;rw[i,biA];simp only;rw[aTJ f l];have y:lF f=(f.bgG.drop 1).map cS.name:=rfl;rw[l]at y;have K:(lF f).length=Z' t:=by rw[y];simp
  have two:=a3P (lF f) (rE f) (GH f) (DQ f);rw[K,show(rE f).length=f.bgD.length by simp[rE]]at two;have J:GI f=(bhP t.length).all (okL [] (lF f) (GH f)):=by unfold GI;rw[l];rfl
  have e2:HY f=(bhP f.bgD.length).all (okL (lF f) (rE f) (DQ f)):=rfl;rw[J,e2,<-y];rw[show f.bgD.map eJ.name=rE f from rfl,show f.bgH.map cE.name=pZ f from rfl];generalize(bhP t.length).all (okL [] (lF f) (GH f))=a at *
  generalize(bhP f.bgD.length).all (okL (lF f) (rE f) (DQ f))=b at *
  generalize distinct (lF f++rE f)=c at *
  generalize(bhP t.length).all (GH f)=d at *
  generalize(bhP f.bgD.length).all (DQ f)=e at *
  generalize sY f=s;generalize xG r=ro;generalize distinct (f.bgK.map cW.name)=p;generalize f.bgK.all oV=u;generalize distinct (f.bgE.map dS.name)=w;generalize f.bgE.all (oY f)=x;generalize distinct (pZ f)=B;generalize(bhP f.bgH.length).all (XM f)=E;generalize distinct (f.bgF.map eG.name)=F;generalize f.bgF.all (tY f)=H;have:(s&&(((((((p&&u)&&(w&&x))&&ro)&&a)&&b)&&(B&&E))&&(F&&H)))=(s&&(ro&&((p&&u)&&((w&&x)&&((a&&b)&&((B&&E)&&(F&&H))))))):=by cases s<;>cases ro<;>cases p<;>cases u<;>cases w<;>cases x<;>simp[blE]
  rw[this,two];cases s<;>cases ro<;>cases p<;>cases u<;>cases w<;>cases x<;>cases c<;>cases d<;>cases e<;>simp;cases B<;>cases E<;>cases F<;>cases H<;>rfl
theorem aXA(f:aD)(h:0<Z' f.bgG):aJC f=xG f.bgG[0]:=by
 obtain⟨a,b,c,d,e,g,i⟩:=f;cases d with
 |nil=>simp at h
 |cons r t=>rfl
theorem aRZ(L:J6 C)(f:aD)(l:f.Ok):RL.wp C (aZ aqX.res (aI (.bool (dC f)))) (g_ [.agg f.cells]) .nil:=by
 have i:=a4B f;unfold aWY at i;have fail:∀(F:PF)(H:PH),dC f=false->F 2=some (.bool false)->aZ [.tmp 2] (aI (.bool (dC f))) .ret F H:=λF H e h=>by rw[e];exact bE (vs:=[.bool false]) (.inr rfl) .nil (by simp only[go_sem,h]) a_ ⟨rfl,rfl⟩
 simp only[go_sem,RL,V1,V2,aqX];refine aB (L.inn f.bhH 1 4) rfl ?_;cases R:within f.bhH 1 4 with
 |false =>rw[R,bhY]at i;simp only[go_sem,biF,NQ];exact fail _ _ i.symm rfl
 |true=>
 rw[R,biA]at i;simp only[go_sem,bhZ,bhO];refine aB (L.sizes f.bgK.length f.bgE.length f.bgG.length f.bgD.length f.bgH.length f.bgF.length) rfl ?_;cases k1:wB f.bgK.length f.bgE.length f.bgG.length f.bgD.length f.bgH.length f.bgF.length with
 |false =>rw[k1,bhY]at i;simp only[go_sem,biF,NQ];exact fail _ _ i.symm rfl
 |true=>
 rw[k1,biA]at i;obtain⟨K,x,y,M,N,X⟩:=jc k1;by_cases h0:Z' f.bgG=0
 ·rw[bG Om,bhY]at i;simp only[go_sem,bhZ,bhO,bY (Om:(Z' f.bgG:Int)=0),NQ];exact fail _ _ i.symm rfl
 have d:0<Z' f.bgG:=Om;rw[bA d,biA]at i;simp only[go_sem,bhZ,bhO,bL (Om:(Z' f.bgG:Int)≠0),V3,V4,V5];refine a5J L.tozM f l K _ _ _ Lq λY=>?_;simp only[go_sem,Jg];refine aRY L.tozM f l k1 (VM f) _ _ _ Lq λH2=>?_;have E:=kE d;have u:=(l.dom _ (bhS d)).1;have J:=aXA f d;rw[J]at i;generalize f.bgG[0]=r at *
 have rest:∀(c:Bool)(F:PF)(H:PH),((((((n_.set 1 (.bK f.cells)).set 5 (.aK)).set 6 (.aK)).set 7 (.aK)).set 8 (.bool c)):PF).le F->c=((VM f&&IL f)&&xG r) ->
   aC.wp C (.seq (.seq (.region ZW) (.block 4 (.loop HQ))) (.seq (.seq (.region ZY) (.block 6 (.loop HR))) (.seq (.seq (.region aa) (.block 8 (.loop HT))) (.seq (.seq (.region au) (.block 14 (.loop HU))) (.seq (.region ay) .ret))))) (aZ [.tmp 2] (aI (.bool (dC f)))) F H:=by
  intro c F H U W;refine uY _ (λ_ _ _ _ a b=>Up.up a b) U ?_;simp only[go_sem,ZW];refine a5I L.tozM f l y d c _ _ _ Lq λw S V=>?_;simp only[go_sem,ZY];refine aRX L.tozM f l y d M x (c&&GI f) w _ _ _ V Lq λZ=>?_;simp only[go_sem,aa];refine a5K L f l N x ((c&&GI f)&&HY f) _ _ _ Lq λH5=>?_;simp only[go_sem,au];refine a5L L.tozM f l k1 (((c&&GI f)&&HY f)&&Gq f) _ _ _ Lq λH6=>?_;simp only[go_sem,ay];refine bE (vs:=[.bool (dC f)]) (.inr rfl) .nil ?_ a_ ⟨rfl,rfl⟩;rw[<-i,W];simp only[go_sem]
 simp only[aC.wp,go_sem]at rest;simp only[go_sem,Jk,E];refine aQ λo ho=>?_;have g0:(H2.set o (.rows 7 [r.cells])) o=some (.rows 7 [r.cells]):=cZ ..;simp only[go_sem];generalize H2.set o (.rows 7 [r.cells])=S at *
 cases k2:(VM f&&IL f)with
 |false =>simp only[go_sem,ZV];exact rest false _ _ Lq (by rw[k2];rfl)
 |true=>
  simp only[go_sem,ZV,g0];cases p:r.name==[]with
  |false =>simp only[go_sem];exact rest false _ _ Lq (by rw[k2];unfold xG;rw[p];rfl)
  |true=>
   simp only[go_sem,g0];cases A:r.level==0 with
   |false =>simp only[go_sem];exact rest false _ _ Lq (by rw[k2];unfold xG;rw[p,A];rfl)
   |true=>
    simp only[go_sem,g0];cases B:r.parent==-1 with
    |false =>simp only[go_sem];exact rest false _ _ Lq (by rw[k2];unfold xG;rw[p,A,B];rfl)
    |true=>
     simp only[go_sem,g0];cases O:r.bgX==0 with
     |false =>simp only[go_sem];exact rest false _ _ Lq (by rw[k2];unfold xG;rw[p,A,B,O];rfl)
     |true=>
      simp only[go_sem,g0];refine aB (L.valid _ u) rfl ?_;cases Q:cC (val r.bgS.num) (val r.bgS.den)with
      |false =>simp only[go_sem];exact rest false _ _ Lq (by rw[k2];unfold xG;rw[p,A,B,O,Q];rfl)
      |true =>simp only[go_sem,g0];refine aB (L.sign _ u Q) rfl ?_;simp only[go_sem];exact rest _ _ _ Lq (by rw[k2];unfold xG;rw[p,A,B,O,Q];rfl)
theorem aQD(f:aD)(l:L2_)(Y:AK l)(o i:Nat)(hlt:i<Z' l)(K:cF)[Up K](F:PF)(H:PH)
  (Q:((((((n_.set 1 (lay l)).set 2 (.bK f.cells)).set 5 (.osl o 1 0 f.bgD.length)).set 6 (.int .i64 i)).set 7 (.int .i64 0)):PF).le F) (R:(h_.set o (.rows 1 (bJ (jK f.bgD.length (l.take i).flatten)))).le H)
  (V:K (.exit 2) (((((n_.set 1 (lay l)).set 2 (.bK f.cells)).set 5 (.osl o 1 0 f.bgD.length)).set 6 (.int .i64 i))) (h_.set o (.rows 1 (bJ (jK f.bgD.length (l.take (i+1)).flatten))))):aC.wp C (.loop YE) K F H:=by
 obtain⟨Z,β⟩:=Y;have N:(l.map λr=>[ints r])[i]?=some [ints l[i]]:=by simp[hlt]
 have S:=MH l hlt;have J:=u6 l (i+1);rw[S]at J V;rw[bhW]at J;generalize W:l[i]=row at *
 generalize hn:Z' f.bgD=n at *
 generalize hA:(l.take i).flatten=A at *
 refine wp_loop (α:=Nat) (λk=>(((((n_.set 1 (lay l)).set 2 (.bK f.cells)).set 5 (.osl o 1 0 n)).set 6 (.int .i64 i)).set 7 (.int .i64 k))) (λk=>h_.set o (.rows 1 (bJ (jK n (A++row.take k))))) (λk=>k<=Z' row) (λk=>Z' row-k) 0 (bhT _) Q (by rw[blF,bjI];exact R) ?_;intro k hk;simp only[go_sem,YE,Tt,N,bhO];by_cases w:k<Z' row
 ·have e:(k:Int)<(Z' row:Nat):=Om;have y:(row.map λn=>[PV.int .i64 n])[k]?=some [.int .i64 row[k]]:=by simp[w]
  have B:A++row.take (k+1)=(A++row.take k)++[row[k]]:=by rw[bjF w,biY]
  have fin:∀(F:PF),((((((n_.set 1 (lay l)).set 2 (.bK f.cells)).set 5 (.osl o 1 0 n)).set 6 (.int .i64 i)).set 7 (.int .i64 (k+1:Nat))):PF).le F->∀H:PH,H o=some (.rows 1 (bJ (jK n (A++row.take (k+1))))) ->
    gG (λk:Nat=>(((((n_.set 1 (lay l)).set 2 (.bK f.cells)).set 5 (.osl o 1 0 n)).set 6 (.int .i64 i)).set 7 (.int .i64 k))) (λk=>h_.set o (.rows 1 (bJ (jK n (A++row.take k))))) (λk=>k<=Z' row) (λk=>Z' row-k) (Z' row-k) K .normal F H:=by
   intro F Q H R;exact aJ (k+1) w Om Q (e_ a_ R)
  generalize hx:row[k]=x at *
  by_cases O:x>=0
  ·by_cases U:x<(n:Nat)
   ·obtain⟨d,rfl⟩:∃d:Nat,x=d:=⟨x.toNat,by omega⟩;have u:d<n:=Om;have E:=wb (l:=jK n (A++row.take k)) (i:=d) (by rw[oE];exact u);rw[Kh _ u]at E;have X:(A++row.take k).count (d:Int)<=16777216:=by refine biQ (List.count_le_length ..) ?_;rw[bhW,biI];omega
    have M:=atV (A++row.take k) u;rw[<-B]at M;have hw:i_.wrap ((((A++row.take k).count (d:Int):Nat):Int)+1)=(((A++row.take k).count (d:Int):Nat):Int)+1:=wrap_i64 Om Om;simp only[go_sem,e,NG,y,O,U,Tu,biN,E,hw,HF,vL,M,wZz k,N];exact fin _ Lq _ Sq
   ·have p:=Yy (n:=n) (A++row.take k) (x:=x) Om;simp only[go_sem,e,NG,y,O,U,HF,wZz k,N];exact fin _ Lq _ (by rw[B,p];simp only[go_sem])
  ·have p:=Yy (n:=n) (A++row.take k) (x:=x) Om;simp only[go_sem,e,NG,y,O,HF,wZz k,N];exact fin _ Lq _ (by rw[B,p];simp only[go_sem])
 ·have e:¬(k:Int)<(Z' row:Nat):=Om;have:k=Z' row:=Om;subst this;simp only[go_sem,e,biS];exact Up.up Lq V
theorem aQE(L:b9 C)(f:aD)(x:f.Ok)(l:L2_)(w:AK l) :
  QD.wp C (aZ akW.res (cM (ints (KB f l)))) (g_ [.agg f.cells,lay l]) .nil:=by
 simp only[go_sem,QD,Tk,Tl,akW];refine aB (L.valid f x) rfl ?_;unfold KB;cases A:dC f with
 |false =>simp only[go_sem,biF,Tn];exact ix rfl
 |true=>
  have B:=(VF.of A).small.bgD;have p:(Z' f.bgD:Int)*((8:Nat):Int)<=140737488355328:=Om;have u:(Z' f.bgD:Int)<=9223372036854775807:=Om;simp only[go_sem,bhZ,To,bhO,p,u];refine aQ λo E=>?_;simp only[go_sem,Tq];refine wp_loop (α:=Nat) (λi=>((((n_.set 1 (lay l)).set 2 (.bK f.cells)).set 5 (.osl o 1 0 f.bgD.length)).set 6 (.int .i64 i))) (λi=>h_.set o (.rows 1 (bJ (jK f.bgD.length (l.take i).flatten)))) (λi=>i<=Z' l) (λi=>Z' l-i) 0 (bhT _) Lq (e_ a_ (by rw[blF,List.flatten_nil,Yx,xZ];simp only[go_sem])) ?_;intro i hi;simp only[go_sem,G4,Tr,bhO];have y:=w.rows;by_cases hlt:i<Z' l
  ·have d:(i:Int)<(Z' l:Nat):=Om;simp only[go_sem,d,Ts];have e:=aQD (C:=C) f l w o i hlt;simp only[aC.wp,go_sem]at e;refine e _ _ _ Lq b_ ?_;simp only[go_sem,G5,wZz i];exact aJ (i+1) hlt Om Lq b_
  ·have d:¬(i:Int)<(Z' l:Nat):=Om;have:i=Z' l:=Om;subst this;simp only[go_sem,d,G6,biS];refine ya (.inr rfl) (o:=o) (s:=1) (k:=Z' f.bgD) (rs:=bJ (jK f.bgD.length l.flatten)) rfl Sq (by rw[dN,oE];omega) ⟨?_,rfl⟩;rw[Eb,biK (by rw[dN,oE];omega),mV];exact .refl _
structure asW(C:Ctx):Prop extends b9 C where
 bad:∀(f:aD)(row:List Int),Z' row<=16777216->aH C 89 [.agg f.cells,ints row] .nil (aI (.int .i64 (ui f row)))
def akF(f:aD)(v:Nat)(row:List Int):List oO:=
 if(Z' row:Int)=kF f v then(match lG (uO f) row 0 with|some i=>[⟨1,v,(i:Nat)⟩]|none=>LD f (kI f v) v row)else[⟨1,v,(Z' row:Nat)⟩]
theorem aWO(f:aD)(l:L2_)(v:Nat):KJ f l v=akF f v (l.getD v []):=by
 unfold KJ SR akF;split<;>rename_i h
 ·split at h
  ·rename_i c;rw[aG c];cases hb:lG (uO f) (l.getD v []) 0 with
   |none=>rw[hb]at h;cases h
   |some i=>rw[hb]at h;cases h;rfl
  ·rename_i c;rw[aE c];cases h;rfl
 ·split at h
  ·rename_i c;rw[aG c];cases hb:lG (uO f) (l.getD v []) 0 with
   |none=>rfl
   |some i=>rw[hb]at h;cases h
  ·cases h
structure lf(C:Ctx):Prop extends asW C where
 allowed:∀(f:aD)(p:cE)(d:Nat),VF f->Fits p.bgE->d<Z' f.bgD->aH C 77 [.agg p.cells,.agg f.cells,.int .i64 d] .nil (aI (.bool (p.bgE.contains ((mdl f d:Nat):Int))))
 count:∀(f:aD)(row:List Int)(n:Nat),VF f->SY f row->n<Z' f.bgG->aH C 80 [.agg f.cells,ints row,.int .i64 n] .nil (aI (.int .i64 (row.countP (lJ f n):Nat)))
theorem a4F(f:aD)(v:Nat)(row:List Int)(J:SY f row)(K:cF)[Up K](F:PF)(H:PH)
  (A:((((((n_.set 1 (.int .i64 v)).set 2 (ints row)).set 3 (.bK f.cells)).set 8 (.aK)).set 9 (.int .i64 0)):PF).le F)
  (B:∀w H',cA H' 3 w (kZ (eN 2 v row.length (home row)))->K (.exit 0) (((((n_.set 1 (.int .i64 v)).set 2 (ints row)).set 3 (.bK f.cells)).set 8 (w))) H'):aC.wp C (.loop yi) K F H:=by
 obtain⟨M,p⟩:=J;refine wp_loop (α:=Nat × PV × PH) (λt=>(((((n_.set 1 (.int .i64 v)).set 2 (ints row)).set 3 (.bK f.cells)).set 8 (t.2.1)).set 9 (.int .i64 t.1))) (λt=>t.2.2) (λt=>t.1<=Z' row/\cA t.2.2 3 t.2.1 (kZ (eN 2 v t.1 (home row)))) (λt=>Z' row-t.1) (0,.aK,H) ⟨bhT _,.nil⟩ A b_ ?_;rintro⟨k,w,u⟩ ⟨E,e⟩;simp only at E e ⊢;simp only[go_sem,yi,aAT,bhO];by_cases hlt:k<Z' row
 ·have d:(k:Int)<(Z' row:Nat):=Om;have i:(row.map λn=>[PV.int .i64 n])[k]?=some [.int .i64 row[k]]:=by simp[hlt]
  have N:=p row[k] (bhS hlt);have y:home row k=decide (row[k]<0):=by simp[home,bhX,hlt]
  have e2:=tC 2 v k (home row);have O:=kT 2 v k (home row);generalize row[k]=x at *
  by_cases c:x=-1
  ·rw[aG (by rw[y];simp;omega)]at e2;have l:(1:Nat)*3<=16777216:=by decide
   simp only[go_sem,d,Mu,i,bY c,alJ,l];refine fL (src:=[(⟨2,v,k⟩:oO).cells]) e rfl (by unfold roomFor;rw[wF];simp only[biC,maxLen];omega) λv' H' g1 _=>?_;rw[CH,<-e2]at g1;simp only[go_sem,yn,wZz k];exact aJ (k+1,v',H') ⟨hlt,g1⟩ (by simp only;omega) Lq b_
  ·rw[aE (by rw[y];simp;omega)]at e2;rw[<-e2]at e;simp only[go_sem,d,Mu,i,bL c,yn,wZz k];exact aJ (k+1,w,u) ⟨hlt,e⟩ (by simp only;omega) Lq b_
 ·have d:¬(k:Int)<(Z' row:Nat):=Om;have:k=Z' row:=Om;subst this;simp only[go_sem,d];exact Up.up Lq (B w u e)
theorem a7M(f:aD)(v:Nat)(row:List Int)(M:Z' row<=16777216)(w:PV)(d:Nat)(K:cF)[Up K](F:PF)(H:PH)
  (B:((((((((n_.set 1 (.int .i64 v)).set 2 (ints row)).set 3 (.bK f.cells)).set 8 (w)).set 10 (.int .i64 d)).set 11 (.int .i64 0)).set 12 (.int .i64 0)):PF).le F)
  (E:K (.exit 4) (((((((n_.set 1 (.int .i64 v)).set 2 (ints row)).set 3 (.bK f.cells)).set 8 (w)).set 10 (.int .i64 d)).set 11 (.int .i64 (row.count (d:Int):Nat)))) H):aC.wp C (.loop yj) K F H:=by
 refine wp_loop (α:=Nat) (λk=>(((((((n_.set 1 (.int .i64 v)).set 2 (ints row)).set 3 (.bK f.cells)).set 8 (w)).set 10 (.int .i64 d)).set 11 (.int .i64 ((row.take k).count (d:Int):Nat))).set 12 (.int .i64 k))) (λ_=>H) (λk=>k<=Z' row) (λk=>Z' row-k) 0 (bhT _) B b_ ?_;intro k N;simp only[go_sem,yj,alO,bhO];by_cases hlt:k<Z' row
 ·have i:(k:Int)<(Z' row:Nat):=Om;have l:(row.map λn=>[PV.int .i64 n])[k]?=some [.int .i64 row[k]]:=by simp[hlt]
  have u:=oo (p:=(·==(d:Int))) hlt;have J:(row.take k).count (d:Int)<=16777216:=biQ (List.count_le_length ..) (by rw[biI];omega);simp only[<-List.count_eq_countP]at u;have fin:∀(c:Nat)(A:PF),(row.take (k+1)).count (d:Int)=c->((((((((n_.set 1 (.int .i64 v)).set 2 (ints row)).set 3 (.bK f.cells)).set 8 (w)).set 10 (.int .i64 d)).set 11 (.int .i64 c)).set 12 (.int .i64 (k+1:Nat))):PF).le A ->
    gG (λk:Nat=>(((((((n_.set 1 (.int .i64 v)).set 2 (ints row)).set 3 (.bK f.cells)).set 8 (w)).set 10 (.int .i64 d)).set 11 (.int .i64 ((row.take k).count (d:Int):Nat))).set 12 (.int .i64 k))) (λ_=>H) (λk=>k<=Z' row) (λk=>Z' row-k) (Z' row-k) K .normal A H:=
   λc A e h=>aJ (k+1) hlt Om (by rw[e];exact h) b_
  generalize(row.take k).count (d:Int)=c at *
  generalize row[k]=x at *
  by_cases y:x=d
  ·rw[aG (by simp[y])]at u;simp only[go_sem,i,yo,l,bY y,alP,wZz c,yq,wZz k];exact fin (c+1) _ u Lq
  ·rw[aE (by simp[y]),bkA]at u;simp only[go_sem,i,yo,l,bL y,yq,wZz k];exact fin c _ u Lq
 ·have i:¬(k:Int)<(Z' row:Nat):=Om;have:k=Z' row:=Om;subst this;simp only[go_sem,i,biS];exact Up.up Lq E
theorem aXW(f:aD)(row:List Int){k:Nat}(h:k<Z' f.bgD):sN f row k=decide ((row.count (k:Int):Nat)>1):=by
 have:(jK f.bgD.length row)[k]?=some ((row.count (k:Int):Nat):Int):=by rw[biD (by rw[oE];exact h),Kh _ h]
 rw[sN,bhX,this,bkC];exact decide_eq_decide.2 Om
theorem aXF(f:aD)(hV:VF f)(v:Nat)(row:List Int)(x:Z' row<=16777216)(p:List oO)(N:Z' p<=16777216)(y:PV)(K:cF)[Up K](F:PF)(H:PH)
  (B:((((((n_.set 1 (.int .i64 v)).set 2 (ints row)).set 3 (.bK f.cells)).set 8 (y)).set 10 (.int .i64 0)):PF).le F) (E:cA H 3 y (kZ p))
  (J:∀w H',cA H' 3 w (kZ (p++eN 3 v f.bgD.length (sN f row)))->K (.exit 2) (((((n_.set 1 (.int .i64 v)).set 2 (ints row)).set 3 (.bK f.cells)).set 8 (w))) H'):aC.wp C (.loop yk) K F H:=by
 have O:=hV.small.bgD;refine wp_loop (α:=Nat × PV × PH) (λt=>(((((n_.set 1 (.int .i64 v)).set 2 (ints row)).set 3 (.bK f.cells)).set 8 (t.2.1)).set 10 (.int .i64 t.1))) (λt=>t.2.2) (λt=>t.1<=Z' f.bgD/\cA t.2.2 3 t.2.1 (kZ (p++eN 3 v t.1 (sN f row)))) (λt=>Z' f.bgD-t.1) (0,y,H)
  ⟨bhT _,by rw[show eN 3 v 0 (sN f row)=[]from rfl,bjI];exact E⟩ B b_ ?_
 rintro⟨k,w,A⟩ ⟨M,i⟩;simp only at M i ⊢;simp only[go_sem,yk,alL,bhO];by_cases hlt:k<Z' f.bgD
 ·have d:(k:Int)<(Z' f.bgD:Nat):=Om;have e:=tC 3 v k (sN f row);have Q:=kT 3 v k (sN f row);rw[aXW f row hlt]at e;simp only[go_sem,d,alM,alN];have cnt:=a7M (C:=C) f v row x w k;simp only[aC.wp,go_sem]at cnt;refine cnt _ _ _ Lq ?_;by_cases c:row.count (k:Int)>1
  ·have u:((row.count (k:Int):Nat):Int)>1:=Om;rw[aG (by simp;omega)]at e;have l:(1:Nat)*3<=16777216:=by decide
   simp only[go_sem,yr,u,alQ,l];refine fL (src:=[(⟨3,v,k⟩:oO).cells]) i rfl (by unfold roomFor;rw[wF,bhW];simp only[biC,maxLen];omega) λv' H' g1 _=>?_;rw[CH,biY,<-e]at g1;simp only[go_sem,yu,wZz k];exact aJ (k+1,v',H') ⟨hlt,g1⟩ (by simp only;omega) Lq b_
  ·have u:¬((row.count (k:Int):Nat):Int)>1:=Om;rw[aE (by simp;omega)]at e;rw[<-e]at i;simp only[go_sem,yr,u,yu,wZz k];exact aJ (k+1,w,A) ⟨hlt,i⟩ (by simp only;omega) Lq b_
 ·have d:¬(k:Int)<(Z' f.bgD:Nat):=Om;have:k=Z' f.bgD:=Om;subst this;simp only[go_sem,d];exact Up.up Lq (J w A i)
def raS(f:aD)(p:cE):Spec:=λname vs=>match name,vs with
 |77,[_,_,.int _ d]=>some ([],λ_=>aI (.bool (p.bgE.contains ((mdl f d.toNat:Nat):Int))))
 |_,_=>none
theorem a7H(f:aD)(p:cE)(d:Nat):raS f p 77 [.agg p.cells,.agg f.cells,.int .i64 d]=some ([],λ_=>aI (.bool (p.bgE.contains ((mdl f d:Nat):Int)))):=rfl
theorem aXD(L:lf C)(f:aD)(hV:VF f)(p:cE)(hp:Fits p.bgE)(o v:Nat)(row:List Int)(hr:SY f row)(J:List oO)(Z:Z' J<=100000000)(Q:PV)(K:cF)[Up K](F:PF)(H:PH)
  (R:(((((((n_.set 1 (.int .i64 v)).set 2 (ints row)).set 3 (.bK f.cells)).set 8 (Q)).set 13 (.ptr o 17 0 0)).set 14 (.int .i64 0)):PF).le F) (S:cA H 3 Q (kZ J)) (ho:H o=some (.rows 17 [p.cells]))
  (U:∀w H',cA H' 3 w (kZ (J++eN 4 v row.length (gI f p row)))->H' o=some (.rows 17 [p.cells])->K (.exit 6) ((((((n_.set 1 (.int .i64 v)).set 2 (ints row)).set 3 (.bK f.cells)).set 8 (w)).set 13 (.ptr o 17 0 0))) H'):aC.wp C (.loop yl) K F H:=by
 obtain⟨β,O⟩:=hr;refine wp_loop (α:=Nat × PV × PH) (λt=>((((((n_.set 1 (.int .i64 v)).set 2 (ints row)).set 3 (.bK f.cells)).set 8 (t.2.1)).set 13 (.ptr o 17 0 0)).set 14 (.int .i64 t.1))) (λt=>t.2.2) (λt=>t.1<=Z' row/\cA t.2.2 3 t.2.1 (kZ (J++eN 4 v t.1 (gI f p row)))/\t.2.2 o=some (.rows 17 [p.cells])) (λt=>Z' row-t.1) (0,Q,H)
  ⟨bhT _,by rw[show eN 4 v 0 (gI f p row)=[]from rfl,bjI];exact S,ho⟩ R b_ ?_
 rintro⟨k,w,N⟩ ⟨Y,y,i⟩;simp only at Y y i ⊢;have B:=e_ a_ i;simp only[go_sem,yl,alT,bhO];by_cases hlt:k<Z' row
 ·have l:(k:Int)<(Z' row:Nat):=Om;have A:(row.map λn=>[PV.int .i64 n])[k]?=some [.int .i64 row[k]]:=by simp[hlt]
  have hx:=O row[k] (bhS hlt);have X:row.getD k 0=row[k]:=by simp[bhX,hlt]
  have V:gI f p row k=(decide (0<=row[k])&&!p.bgE.contains ((mdl f (row[k]).toNat:Nat):Int)):=by rw[gI,X]
  have u:=tC 4 v k (gI f p row);have l4:=kT 4 v k (gI f p row);rw[V]at u;generalize row[k]=x at *
  have skip:∀M,eN 4 v (k+1) (gI f p row)=eN 4 v k (gI f p row)->(((((((n_.set 1 (.int .i64 v)).set 2 (ints row)).set 3 (.bK f.cells)).set 8 (w)).set 13 (.ptr o 17 0 0)).set 14 (.int .i64 (k+1:Nat))):PF).le M ->
    gG (λt:Nat × PV × PH=>((((((n_.set 1 (.int .i64 v)).set 2 (ints row)).set 3 (.bK f.cells)).set 8 (t.2.1)).set 13 (.ptr o 17 0 0)).set 14 (.int .i64 t.1))) (λt=>t.2.2) (λt=>t.1<=Z' row/\cA t.2.2 3 t.2.1 (kZ (J++eN 4 v t.1 (gI f p row)))/\t.2.2 o=some (.rows 17 [p.cells])) (λt=>Z' row-t.1) (Z' row-k) K .normal M N:=
   λM e h=>aJ (k+1,w,N) ⟨hlt,by simp only;rw[e];exact y,i⟩ (by simp only;omega) h b_
  simp only[go_sem,l];refine bV (h_.set o (.rows 17 [p.cells])) (raS f p) B ?_;by_cases c:x>=0
  ·obtain⟨d,rfl⟩:∃d:Nat,x=d:=⟨x.toNat,by omega⟩;have W:d<Z' f.bgD:=Om;rw[bA (Om:(0:Int)<=d),biA,bjN]at u;simp only[go_sem,yv,A,c,i];refine bX (a7H f p d) (L.allowed f p d hV hp W) rfl B ?_;cases hb:p.bgE.contains ((mdl f d:Nat):Int)with
   |true =>rw[hb,aE aS]at u;simp only[go_sem,bhZ,YG,wZz k];exact skip _ u Lq
   |false=>
    rw[hb,aG aS]at u;have E:(1:Nat)*3<=16777216:=by decide
    simp only[go_sem,biF,alU,E];refine fL (src:=[(⟨4,v,k⟩:oO).cells]) y rfl (by unfold roomFor;rw[wF,bhW];simp only[biC,maxLen];omega) λv' H' g1 g2=>?_;rw[CH,biY,<-u]at g1;have go:=g2 o _ i (y.ne i aS);simp only[go_sem,YG,wZz k];exact aJ (k+1,v',H') ⟨hlt,g1,go⟩ (by simp only;omega) Lq b_
  ·rw[bG (show ¬0<=x from c),bhY,aE aS]at u;simp only[go_sem,yv,A,c,YG,wZz k];exact skip _ u Lq
 ·have l:¬(k:Int)<(Z' row:Nat):=Om;have:k=Z' row:=Om;subst this;simp only[go_sem,l];exact Up.up Lq (U w N y i)
theorem aSZ(f:aD)(p:cE)(row:List Int){k:Nat}(d:k≠0)(h:k<Z' f.bgG):sI f p row k=(decide (eS f p k>0)&&decide (((row.countP (lJ f k):Nat):Int)>eS f p k)):=by
 have:(lH f row)[k]?=some ((row.countP (lJ f k):Nat):Int):=by simp only[lH,biL,blX h,biP,fY,aE d]
 rw[sI,bhX,this,bkC]
theorem aLY(f:aD)(hV:VF f)(p:cE)(v:Int)(row:List Int):eN 5 v 1 (sI f p row)=[]:=by
 have h:=hV.root.1;have d:(lH f row)[0]?=some 0:=by simp only[lH,biL,blX h,biP,fY,if_true]
 have:sI f p row 0=false:=by
  rw[sI,bhX,d,bkC];by_cases c:eS f p 0>0
  ·rw[bG (Om:¬(0:Int)>eS f p 0),bjE]
  ·rw[bG c,bhY]
 rw[tC,this];rfl
theorem aXE(L:lf C)(f:aD)(hV:VF f)(p:cE)(o v:Nat)(row:List Int)(O:SY f row)(x:List oO)(X:Z' x<=200000000)(N:PV)(K:cF)[Up K](F:PF)(H:PH)
  (R:(((((((n_.set 1 (.int .i64 v)).set 2 (ints row)).set 3 (.bK f.cells)).set 8 (N)).set 13 (.ptr o 17 0 0)).set 15 (.int .i64 1)):PF).le F) (S:cA H 3 N (kZ x)) (Z:H o=some (.rows 17 [p.cells]))
  (U:∀w H',cA H' 3 w (kZ (x++eN 5 v f.bgG.length (sI f p row)))->K (.exit 8) ((n_.set 8 (w))) H'):aC.wp C (.loop ym) K F H:=by
 have hs:=hV.small.bgG;refine wp_loop (α:=Nat × PV × PH) (λt=>((((((n_.set 1 (.int .i64 v)).set 2 (ints row)).set 3 (.bK f.cells)).set 8 (t.2.1)).set 13 (.ptr o 17 0 0)).set 15 (.int .i64 t.1))) (λt=>t.2.2) (λt=>1<=t.1/\t.1<=Z' f.bgG/\cA t.2.2 3 t.2.1 (kZ (x++eN 5 v t.1 (sI f p row)))/\t.2.2 o=some (.rows 17 [p.cells])) (λt=>Z' f.bgG-t.1) (1,N,H)
  ⟨bhV _,hV.root.1,by rw[aLY f hV,bjI];exact S,Z⟩ R b_ ?_
 rintro⟨k,w,y⟩ ⟨M,W,l,d⟩;simp only at M W l d ⊢;simp only[go_sem,ym,alW,bhO];by_cases hlt:k<Z' f.bgG
 ·have e:(k:Int)<(Z' f.bgG:Nat):=Om;have i:=tC 5 v k (sI f p row);have l5:=kT 5 v k (sI f p row);rw[aSZ f p row Om hlt]at i;obtain⟨q0,q4,-⟩:=hV.qD hlt;have h5:((lvl f k)<((5:Nat):Int)):=Om;have fin:∀(E:PF),((((((((n_.set 1 (.int .i64 v)).set 2 (ints row)).set 3 (.bK f.cells)).set 8 (w)).set 13 (.ptr o 17 0 0)).set 15 (.int .i64 k)).set 16 (.int .i64 (eS f p k))):PF).le E ->
    aC.wp C (.seq (.region YH) (.cond (.tmp 145) (.region yw) .skip)) (fS 9 (kB C (aC.wp C (.region KU)) (gG (λt:Nat × PV × PH=>((((((n_.set 1 (.int .i64 v)).set 2 (ints row)).set 3 (.bK f.cells)).set 8 (t.2.1)).set 13 (.ptr o 17 0 0)).set 15 (.int .i64 t.1))) (λt=>t.2.2) (λt=>1<=t.1/\t.1<=Z' f.bgG/\cA t.2.2 3 t.2.1 (kZ (x++eN 5 v t.1 (sI f p row)))/\t.2.2 o=some (.rows 17 [p.cells])) (λt=>Z' f.bgG-t.1) (Z' f.bgG-k) K))) E y:=by
   intro E J;refine uY _ (λ_ _ _ _ a b=>Up.up a b) J ?_;have Y:row.countP (lJ f k)<=16777216:=biQ List.countP_le_length O.len;generalize eS f p k=Q at *
   by_cases A:Q>0
   ·rw[bA A,biA]at i;simp only[go_sem,YH,A];refine aB (L.count f row k hV O hlt) rfl ?_;by_cases B:((row.countP (lJ f k):Nat):Int)>Q
    ·rw[bA B,aG rfl]at i;have u:(1:Nat)*3<=16777216:=by decide
     simp only[go_sem,B,yw,u];refine fL (src:=[(⟨5,v,k⟩:oO).cells]) l rfl (by unfold roomFor;rw[wF,bhW];simp only[biC,maxLen];omega) λv' H' g1 g2=>?_;rw[CH,biY,<-i]at g1;have go:=g2 o _ d (l.ne d aS);simp only[go_sem,KU,wZz k];exact aJ (k+1,v',H') ⟨by omega,hlt,g1,go⟩ (by simp only;omega) Lq b_
    ·rw[bG B,aE aS]at i;rw[<-i]at l;simp only[go_sem,B,KU,wZz k];exact aJ (k+1,w,y) ⟨by omega,hlt,l,d⟩ (by simp only;omega) Lq b_
   ·rw[bG A,bhY,aE aS]at i;rw[<-i]at l;simp only[go_sem,YH,A,KU,wZz k];exact aJ (k+1,w,y) ⟨by omega,hlt,l,d⟩ (by simp only;omega) Lq b_
  simp only[aC.wp,go_sem,eS]at fin;simp only[go_sem,e,alX,kE hlt,KE hlt,q0,h5,blB];have V:lvl f k=0\/lvl f k=1\/lvl f k=2\/lvl f k=3\/lvl f k=4:=Om;rcases V with h|h|h|h|h
  all_goals
   rw[h]at fin ⊢;simp only[go_sem,d];exact fin _ (by(repeat' (first|exact c_|refine d_ ?_ ?_))<;>first|(simp only[go_sem,cE.spread]<;>rfl)|rfl)
 ·have e:¬(k:Int)<(Z' f.bgG:Nat):=Om;have:k=Z' f.bgG:=Om;subst this;simp only[go_sem,e];exact Up.up Lq (U w y l)
theorem a0M{f:aD}{row:List Int}(d:Z' row<=16777216)(h:lG (uO f) row 0=none):SY f row:=⟨d,λx e=>by
 have:=FK h x e;simp[uO]at this;omega⟩
theorem a4P(L:lf C)(f:aD)(hV:VF f)(w:∀p∈f.bgH,Fits p.bgE)(v:Nat)(d:v<Z' f.bgF)(row:List Int)(l:Z' row<=16777216) :
  ji.wp C (aZ aXQ.res (cM (M4 (akF f v row)))) (g_ [.agg f.cells,.int .i64 v,ints row]) .nil:=by
 have u:(1:Nat)*3<=16777216:=by decide
 simp only[go_sem,ji,aAM,aAN,aXQ,bhO];refine aB (L.aTX f v hV d) rfl ?_;unfold akF;by_cases c:(Z' row:Int)=kF f v
 ·rw[aG c];simp only[go_sem,cN c,aAP];refine aB (L.bad f row l) rfl ?_;cases hb:lG (uO f) row 0 with
  |some i=>
   have e:ui f row=(i:Int):=by rw[ui,hb]
   simp only[go_sem,Mt,e,show(i:Int)>=0 by omega,aAQ,u];exact bE (.inr rfl) .nil rfl a_ ⟨.refl _,rfl⟩
  |none=>
   have e:ui f row=-1:=by rw[ui,hb]
   have y:=a0M l hb;obtain⟨hp,A⟩:=vY hV d;have x:=w _ (bhS hp);rw[A]at x;have B:=hV.small;have s1:=B.bgD;have s2:=B.bgG;have V:=kT 2 v row.length (home row);have W:=kT 3 v f.bgD.length (sN f row);have X:=kT 4 v row.length (gI f (kI f v) row);simp only[go_sem,Mt,e,show ¬(-1:Int)>=0 by omega,aAR,aAS];have E:=a4F (C:=C) f v row y;simp only[aC.wp,go_sem]at E;refine E _ _ _ Lq λN R g1=>?_;simp only[go_sem,alK];have F:=aXF (C:=C) f hV v row l (eN 2 v row.length (home row)) Om N;simp only[aC.wp,go_sem]at F;refine F _ _ _ Lq g1 λO H2 g2=>?_;simp only[go_sem];refine bV .nil eW a_ ?_;simp only[go_sem,alR,Ii d,hV.aPA d,PT hp,A];refine aQ λo K=>?_;simp only[go_sem,alS];have H:=aXD L f hV (kI f v) x o v row y (eN 2 v row.length (home row)++eN 3 v f.bgD.length (sN f row)) (by rw[bhW];omega) O;simp only[aC.wp,go_sem]at H;refine⟨a_,?_⟩;refine H _ _ _ Lq (g2.fresh K _).1 Sq λQ S g3 M=>?_;simp only[go_sem,alV];have J:=aXE L f hV (kI f v) o v row y (eN 2 v row.length (home row)++eN 3 v f.bgD.length (sN f row)++eN 4 v row.length (gI f (kI f v) row)) (by simp only[bhW];omega) Q;simp only[aC.wp,go_sem]at J;refine J _ _ _ Lq g3 M λY U g4=>?_;simp only[go_sem,alY];exact tV (.inr rfl) g4 rfl
 ·rw[aE c];simp only[go_sem,dX c,aAO,u,bhO];exact bE (.inr rfl) .nil rfl a_ ⟨.refl _,rfl⟩
structure J7(C:Ctx):Prop extends b9 C where
 room:∀(f:aD)(room:List Int),f.Ok->aH C 85 [.agg f.cells,ints room] .nil (aI (ints (kW f room)))
 loads:∀(f:aD)(l:L2_),f.Ok->AK l->aH C 84 [.agg f.cells,lay l] .nil (aI (ints (KB f l)))
 row:∀(f:aD)(v:Nat)(row:List Int),VF f->(∀p∈f.bgH,Fits p.bgE)->v<Z' f.bgF->Z' row<=16777216->aH C 90 [.agg f.cells,.int .i64 v,ints row] .nil (aI (M4 (akF f v row)))
def svS(f:aD)(l:L2_)(room:List Int):Spec:=λname vs=>match name,vs with
 |90,[_,.int _ v,_]=>some ([],λ_=>aI (M4 (KJ f l v.toNat)))
 |85,_=>some ([],λ_=>aI (ints (kW f room)))
 |84,_=>some ([],λ_=>aI (ints (KB f l)))
 |_,_=>none
theorem a4S(f:aD)(hV:VF f)(l:L2_)(room:List Int)(B:List oO)(S:Z' B<=2000000000)(J:PV)(K:cF)[Up K](F:PF)(H:PH)
  (N:(((((n_.set 7 (J)).set 9 (ints (fZ f room))).set 10 (ints (mV f l))).set 11 (.int .i64 0)):PF).le F) (Q:cA H 3 J (kZ B))
  (O:∀w H',cA H' 3 w (kZ (B++eN 6 (-1) f.bgD.length (over f l room)))->K (.exit 2) ((n_.set 7 (w))) H'):aC.wp C (.loop jn) K F H:=by
 have V:=hV.small.bgD;have E:=mK f room;refine wp_loop (α:=Nat × PV × PH) (λt=>((((n_.set 7 (t.2.1)).set 9 (ints (fZ f room))).set 10 (ints (mV f l))).set 11 (.int .i64 t.1))) (λt=>t.2.2) (λt=>t.1<=Z' f.bgD/\cA t.2.2 3 t.2.1 (kZ (B++eN 6 (-1) t.1 (over f l room)))) (λt=>Z' f.bgD-t.1) (0,J,H)
  ⟨bhT _,by rw[show eN 6 (-1) 0 (over f l room)=[]from rfl,bjI];exact Q⟩ N b_ ?_
 rintro⟨k,w,M⟩ ⟨R,i⟩;simp only at R i ⊢;simp only[go_sem,jn,T1,bhO,E];by_cases hlt:k<Z' f.bgD
 ·have d:(k:Int)<(Z' f.bgD:Nat):=Om;have p:k<(mV f l).length:=by rw[mV,oE];exact hlt
  have u:k<(fZ f room).length:=by rw[mK];exact hlt
  have a1:((mV f l).map λn=>[PV.int .i64 n])[k]?=some [.int .i64 (mV f l)[k]]:=by simp[p]
  have a2:((fZ f room).map λn=>[PV.int .i64 n])[k]?=some [.int .i64 (fZ f room)[k]]:=by simp[u]
  have U:over f l room k=decide ((mV f l)[k]>(fZ f room)[k]):=by simp only[over,bhX,biD p,biD u,bkC]
  have e:=tC 6 (-1) k (over f l room);have W:=kT 6 (-1) k (over f l room);rw[U]at e;generalize(mV f l)[k]=x at *
  generalize(fZ f room)[k]=y at *
  simp only[go_sem,d];refine bV .nil eW a_ ?_;by_cases c:x>y
  ·rw[aG (bA c)]at e;have A:(1:Nat)*3<=16777216:=by decide
   simp only[go_sem,jo,a1,a2,c,T2,A];refine fL (src:=[(⟨6,-1,k⟩:oO).cells]) i rfl (by unfold roomFor;rw[wF,bhW];simp only[biC,maxLen];omega) λv' H' k1 _=>?_;rw[CH,biY,<-e]at k1;simp only[go_sem,jp,wZz k];exact aJ (k+1,v',H') ⟨hlt,k1⟩ (by simp only;omega) Lq b_
  ·rw[aE (by rw[bG c];decide)]at e;rw[<-e]at i;simp only[go_sem,jo,a1,a2,c,jp,wZz k];exact aJ (k+1,w,M) ⟨hlt,i⟩ (by simp only;omega) Lq b_
 ·have d:¬(k:Int)<(Z' f.bgD:Nat):=Om;have:k=Z' f.bgD:=Om;subst this;simp only[go_sem,d];exact Up.up Lq (O w M i)
theorem aXS(L:J7 C)(f:aD)(B:f.Ok)(l:L2_)(y:AK l)(room:List Int) :
  YK.wp C (aZ aJO.res (cM (M4 (NN f l room)))) (g_ [.agg f.cells,lay l,ints room]) .nil:=by
 simp only[go_sem,YK,amH,amI,aJO];refine aB (L.valid f B) rfl ?_;unfold NN;have Z:=y.rows;have A:∀p∈f.bgH,Fits p.bgE:=λp hp=>(B.bgP p hp).bgE;cases O:dC f with
 |false =>simp only[go_sem,biF,amJ];exact tV (rows:=[]) (.inr rfl) .nil rfl
 |true=>
  have hV:=VF.of O;by_cases c:Z' l=Z' f.bgF
  ·have E:((Z' l:Int) != (Z' f.bgF:Int))=false:=cN Om;rw[aG c];have S:=hV.small.bgF;simp only[go_sem,bhZ,y7,bhO,E,amL,amM];refine wp_loop (α:=Nat × PV × PH) (λt=>(((((n_.set 1 (lay l)).set 2 (ints room)).set 3 (.bK f.cells)).set 7 (t.2.1)).set 8 (.int .i64 t.1))) (λt=>t.2.2) (λt=>t.1<=Z' l/\cA t.2.2 3 t.2.1 (kZ (wR f l t.1))) (λt=>Z' l-t.1) (0,.aK,.nil) ⟨bhT _,.nil⟩ Lq a_ ?_;rintro⟨k,w,V⟩ ⟨Y,H⟩;simp only at Y H ⊢;simp only[go_sem,Tx,amN,bhO];by_cases hlt:k<Z' l
   ·have d:(k:Int)<(Z' l:Nat):=Om;have M:=dz hV.small y (n:=k) Om;have x:=Dj f l k;have R:=ajC hV.small y hlt;have N:(l[k]).length<=16777216:=by have X:=u6 l (k+1);have:=y.all;rw[MH l hlt,bhW]at X;omega
    have K:(l.map λr=>[ints r])[k]?=some [ints l[k]]:=by simp[hlt]
    have e:=L.row f k l[k] hV A Om N;rw[<-show l.getD k []=l[k] by simp[bhX,hlt],<-aWO]at e;rw[show l.getD k []=l[k] by simp[bhX,hlt]]at e;simp only[go_sem,d];refine bV .nil (svS f l room) a_ ?_;simp only[go_sem,amO,K];refine bX (show svS f l room 90 [.agg f.cells,.int .i64 k,ints l[k]]=some ([],λ_=>aI (M4 (KJ f l k)))from rfl) e rfl a_ ?_;simp only[go_sem];refine fL (src:=kZ (KJ f l k)) H rfl (by unfold roomFor;rw[wF,wF];simp only[maxLen];omega) λv' H' k1 _=>?_;have Q:kZ (wR f l k)++kZ (KJ f l k)=kZ (wR f l (k+1)):=by rw[x];simp only[kZ,biV]
    rw[Q]at k1;refine⟨a_,?_⟩;simp only[go_sem,amP,wZz k];exact aJ (k+1,v',H') ⟨hlt,k1⟩ (by simp only;omega) Lq b_
   ·have d:¬(k:Int)<(Z' l:Nat):=Om;have:k=Z' l:=Om;subst this;have M:=dz hV.small y (n:=Z' l) (bhV _);have u:=L.room f room B;have i:=L.loads f l B y;have W:kW f room=fZ f room:=by rw[kW,O];rfl
    have e2:KB f l=mV f l:=by rw[KB,O];rfl
    simp only[go_sem,d];refine bV .nil (svS f l room) a_ ?_;simp only[go_sem,Tz];refine bX (show svS f l room 85 [.agg f.cells,ints room]=some ([],λ_=>aI (ints (kW f room)))from rfl) u rfl a_ ?_;simp only[go_sem];refine bX (show svS f l room 84 [.agg f.cells,lay l]=some ([],λ_=>aI (ints (KB f l)))from rfl) i rfl a_ ?_;rw[W,e2];simp only[go_sem,T0];have U:=a4S (C:=C) f hV l room (wR f l l.length) Om w;simp only[aC.wp,go_sem]at U;refine U _ _ V Lq H λw' H' J=>?_;simp only[go_sem,T3];exact tV (.inr rfl) J rfl
  ·have E:((Z' l:Int) != (Z' f.bgF:Int))=true:=dX Om;have F:(1:Nat)*3<=16777216:=by decide
   rw[aE c];simp only[go_sem,bhZ,y7,bhO,E,amK,F];exact bE (.inr rfl) .nil rfl a_ ⟨.refl _,rfl⟩
structure aLE(C:Ctx):Prop extends J7 C where
 viol:∀(f:aD)(l:L2_) (room:List Int),f.Ok->AK l->aH C 87 [.agg f.cells,lay l,ints room] .nil (aI (M4 (NN f l room)))
theorem aQB(L:aLE C)(f:aD)(d:f.Ok)(l:L2_)(e:AK l)(room:List Int) :
  QB.wp C (aZ akU.res (aI (.bool (BC f l room)))) (g_ [.agg f.cells,lay l,ints room]) .nil:=by
 simp only[go_sem,QB,Tg,Th,akU];refine aB (L.valid f d) rfl ?_;unfold BC;cases i:dC f with
 |false =>simp only[go_sem];refine aT (.inr rfl) rfl ?_;rfl
 |true=>
  simp only[go_sem];refine aB (L.viol f l room d e) rfl ?_;by_cases c:(NN f l room).length=0
  ·simp only[go_sem,bhO,bY (show(((NN f l room).length:Nat):Int)=0 by omega)];refine aT (.inr rfl) rfl ?_;simp[bN,c]
  ·simp only[go_sem,bhO,bL (show(((NN f l room).length:Nat):Int)≠0 by omega)];refine aT (.inr rfl) rfl ?_;rw[bN,bG c]



def fR:=bT [3,4] Proofs.Tryz.f86
def atC:=aA fR 0
def atD:=aA fR 1
def atE:=aA fR 2
def atF:=aA fR 3
def atG:=aA fR 4
def atH:=aA fR 5
def atI:=aA fR 6
def atB:aC:=(fI atF 23 0 atI (sq atG (.region atH)))
def atJ:=aA fR 7
def atK:=aA fR 8
def TE:=aA fR 9
def um:=aA fR 10
def uo:=aA fR 11
def Yc:=aA fR 12
def Yd:=aA fR 13
def Ye:=aA fR 14
def Yf:=aA fR 15
def Yg:=aA fR 16
def TF:=aA fR 17
def Yh:=aA fR 18
def uq:=aA fR 19
def ul:aC:=(dK Ye 57 4 uq (sq Yf (sq Yg (sq TF (.cond (Tm 88) (sq Yh .ret) .skip)))))
def Yi:=aA fR 20
def JD:aC:=(fI TE 37 2 Yi (sq um (dP uo 49 Yc (cH Yd 4 ul))))
def Yj:=aA fR 21
def cl:aC:=(sq atC (sq atD (.seq (cH atE 0 atB) (sq atJ (.seq (cH atK 2 JD) (sq Yj .ret))))))
def aSK:bD:=⟨3,90,cl,[.tmp 6]⟩
def tD:=bT [] Proofs.Tryz.f85
def atM:=aA tD 0
def atO:=aA tD 1
def Kd:=aA tD 2
def atQ:=aA tD 3
def HX:=aA tD 4
def lk:=aA tD 5
def Ke:=aA tD 6
def Kc:aC:=(fI Kd 12 0 Ke (sq atQ (sq HX (.cond (Tm 35) (sq lk .ret) .skip))))
def atS:=aA tD 7
def cq:aC:=(sq atM (.seq (cH atO 0 Kc) (sq atS .ret)))
def aSN:bD:=⟨3,41,cq,[.tmp 6]⟩
def oi:=bT [2] Proofs.Tryz.f84
def N8:=aA oi 0
def N9:=aA oi 1
def NY:aC:=(sq N8 (sq N9 .ret))
def Yo:bD:=⟨2,19,NY,[.tmp 4]⟩
def xV:=bT [3] Proofs.Tryz.f36
def Np:=aA xV 0
def Nq:=aA xV 1
def Nr:=aA xV 2
def Ns:=aA xV 3
def Nt:=aA xV 4
def NV:aC:=(sq Np (dP Nq 11 Nr (sq Ns (sq Nt .ret))))
def Yk:bD:=⟨3,33,NV,[.tmp 6]⟩
def uG:=bT [2] Proofs.Tryz.f111
def Nu:=aA uG 0
def Nv:=aA uG 1
def Nw:=aA uG 2
def cn:=aA uG 3
def Nx:=aA uG 4
def Ny:=cV uG 0
def NW:aC:=(sq Nu (.seq (.block 0 (sq Nv (.cond (Tm 6) (sq Nw .ret) (sq cn (.cond (Tm 11) (sq Nx .ret) .skip))))) (dq Ny .ret)))
def call17:bD:=⟨2,23,NW,[.tmp 4,.tmp 5]⟩
def dU:=bT [2,23,24,50,90] Proofs.Tryz.f46
def Pc:=aA dU 0
def Pd:=aA dU 1
def Pe:=aA dU 2
def Pf:=aA dU 3
def Pg:=aA dU 4
def Ph:=aA dU 5
def Pi:=aA dU 6
def Pj:=aA dU 7
def Pb:aC:=(fI Pg 19 0 Pj (sq Ph (.region Pi)))
def Pk:=aA dU 8
def Cx:=aA dU 9
def Cy:=aA dU 10
def Cz:=aA dU 11
def C0:=aA dU 12
def C1:=aA dU 13
def C2:=aA dU 14
def C3:=aA dU 15
def TX:=aA dU 16
def Cv:aC:=(fI Cz 36 2 TX (sq C0 (sq C1 (.cond (Tm 43) (sq C2 (.region C3)) .skip))))
def C4:=aA dU 17
def C5:=aA dU 18
def C6:=aA dU 19
def C7:=aA dU 20
def TY:=aA dU 21
def C8:=aA dU 22
def GA:aC:=(.seq (sq TY (.cond (Tm 70) .skip (.exit 6))) (.block 7 (.region C8)))
def C9:=cV dU 0
def Da:=cV dU 1
def Db:=aA dU 23
def Cw:aC:=(fI C5 57 4 Db (sq C6 (sq C7 (.seq (.block 6 (.loop GA)) (dq C9 (.draw Da))))))
def Dc:=aA dU 24
def OD:aC:=(sq Pc (sq Pd (jB Pe 14 (.seq (cH Pf 0 Pb) (sq Pk .ret)) (sq Cx (.seq (cH Cy 2 Cv) (.seq (cH C4 4 Cw) (sq Dc .ret)))))))
def Zu:bD:=⟨2,95,OD,[.tmp 4]⟩
def qN:=bT [] Proofs.Tryz.f47
def Aw:=aA qN 0
def Ax:=aA qN 1
def Ay:=aA qN 2
def Az:=aA qN 3
def A0:=aA qN 4
def A1:=aA qN 5
def Av:aC:=(dK Az 9 0 A1 (.region A0))
def A2:=aA qN 6
def JE:aC:=(sq Aw (sq Ax (.seq (cH Ay 0 Av) (sq A2 .ret))))
def Kf:bD:=⟨2,22,JE,[.tmp 4]⟩
def gE:=bT [] Proofs.Tryz.f37
def Yp:=aA gE 0
def Yq:=aA gE 1
def Yr:=aA gE 2
def uu:=aA gE 3
def Ys:=aA gE 4
def Yt:=aA gE 5
def Yu:=aA gE 6
def uv:=aA gE 7
def Yv:=aA gE 8
def TI:=aA gE 9
def Oa:=aA gE 10
def EM:aC:=(.seq (sq TI (.cond (Tm 37) .skip (.exit 4))) (.block 5 (.region Oa)))
def LY:=aA gE 11
def Ob:=aA gE 12
def LZ:=aA gE 13
def LX:aC:=(fI uv 23 2 LZ (sq Yv (.seq (.block 4 (.loop EM)) (sq LY (.cond (Tm 51) (.region Ob) .skip)))))
def cv:=aA gE 14
def Oc:=aA gE 15
def cw:=aA gE 16
def cu:aC:=(fI uu 17 0 cw (sq Ys (sq Yt (.seq (cH Yu 2 LX) (sq cv (.cond (Tm 57) (.region Oc) .skip))))))
def Od:=aA gE 17
def TH:aC:=(sq Yp (sq Yq (.seq (cH Yr 0 cu) (sq Od .ret))))
def aFF:bD:=⟨3,62,TH,[.tmp 6]⟩
def qO:=bT [4,7] Proofs.Tryz.f11
def A8:=aA qO 0
def A9:=aA qO 1
def TJ:=aA qO 2
def Ba:=aA qO 3
def Bb:=aA qO 4
def Bc:=aA qO 5
def Be:=aA qO 6
def JF:aC:=(sq A8 (sq A9 (.seq (.block 0 (sq TJ (.cond (Tm 18) (sq Ba .ret) (sq Bb (.cond (Tm 22) (sq Bc .ret) .skip))))) (sq Be .ret))))
def Kg:bD:=⟨4,37,JF,[.tmp 8,.tmp 9]⟩
def Cu:=bT [] Proofs.Tryz.f48
def Zs:=aA Cu 0
def Zt:=aA Cu 1
def TW:aC:=(sq Zs (sq Zt .ret))
def aFS:bD:=⟨2,6,TW,[.tmp 4]⟩
def fW:=bT [] Proofs.Tryz.f93
def Pl:=aA fW 0
def Pm:=aA fW 1
def Pn:=aA fW 2
def Po:=aA fW 3
def Pp:=aA fW 4
def Pq:=aA fW 5
def Ps:=aA fW 6
def dh:aC:=(fI Po 16 0 Ps (sq Pp (.region Pq)))
def di:=aA fW 7
def dj:=aA fW 8
def AW:=cV fW 0
def TZ:=aA fW 9
def GB:aC:=(.seq (dq AW (.cond (Tm 42) .skip (.exit 4))) (.block 5 (.region TZ)))
def GD:=aA fW 10
def UA:=aA fW 11
def UB:=aA fW 12
def GF:=aA fW 13
def UC:=aA fW 14
def UD:=aA fW 15
def GC:aC:=(dK GF 57 6 UD (.region UC))
def Dd:aC:=(.seq (sq di (.cond (Tm 26) .skip (.exit 2))) (.block 3 (sq dj (.seq (.block 4 (.loop GB)) (jB GD 46 .ret (sq UA (cH UB 6 GC)))))))
def OE:aC:=(jB Pl 10 .ret (sq Pm (.seq (cH Pn 0 dh) (.block 2 (.loop Dd)))))
def Zv:bD:=⟨1,69,OE,[]⟩
def eT(n:Nat):Nat->Nat->List (List Nat)
 |0,_=>[[]]
 |k+1,a=>(bkB a (n-k-a)).flatMap λi=>(eT n k (i+1)).map (i::·)
def sL(n:Nat):List Nat->Option (List Nat)
 |[]=>none
 |x::t=>match sL n t with
  |some u=>some (x::u)
  |none=>if x+1+Z' t=n then none else some (bkB (x+1) (Z' t+1))
theorem Ry{n:Nat}:∀{s u:List Nat},sL n s=some u->Z' u=Z' s
 |[],_,h=>by cases h
 |x::t,u,h=>by
  rw[sL]at h;split at h
  ·rename_i v d;cases h;simp[Ry d]
  ·split at h
   ·cases h
   ·cases h;simp
inductive tI (n:Nat):List Nat->List (List Nat)->Prop
 |last {s:List Nat} (h:sL n s=none):tI n s [s]
 |step {s t:List Nat} {l:List (List Nat)} (h:sL n s=some t) (w:tI n t l):tI n s (s::l)
theorem tI.map{n x k:Nat}{rest:List (List Nat)}(i:(x+1+k=n/\rest=[])\/(x+1+k≠n/\tI n (bkB (x+1) (k+1)) rest)){t:List Nat}{l:List (List Nat)}(w:tI n t l)(d:Z' t=k):tI n (x::t) (l.map (x::·)++rest):=by
 induction w with
 |@last s h=>
  rcases i with⟨e,rfl⟩|⟨e,h2⟩
  ·exact .last (by rw[sL,h];simp only;rw[aG (by rw[d];exact e)])
  ·exact .step (by rw[sL,h];simp only;rw[aE (by rw[d];exact e),d]) h2
 |@step s t l h _ p=>exact .step (by rw[sL,h]) (p (by rw[Ry h,d]))
theorem kh(n:Nat):∀(k a:Nat),a+k<=n->tI n (bkB a k) (eT n k a)
 |0,a,_=>.last rfl
 |k+1,a,h=>by
  rw[eT];obtain⟨m,e⟩:∃m,n-k-a=m+1:=⟨n-k-a-1,by omega⟩;rw[e];clear h
  induction m generalizing a with
  |zero =>have:=tI.map (n:=n) (x:=a) (k:=k) (rest:=[]) (.inl ⟨by omega,rfl⟩) (kh n k (a+1) Om) List.length_range';rw[List.range'_succ (n:=0),List.flatMap_cons];exact this
  |succ m i =>rw[List.range'_succ (n:=m+1),List.flatMap_cons];have d:=i (a+1) Om;exact tI.map (.inr ⟨by omega,d⟩) (kh n k (a+1) Om) List.length_range'
theorem WT{n:Nat}:∀{s:List Nat},(∀i (h:i<Z' s),s[i]+Z' s=n+i)->sL n s=none
 |[],_=>rfl
 |x::t,h=>by rw[sL,WT (s:=t) λi hi=>by have:=h (i+1) (by simpa using hi);simp only[List.getElem_cons_succ,bjL]at this;omega];have d:=h 0 bH;simp only[List.getElem_cons_zero,bjL]at d;simp only;rw[aG Om]
theorem aiB{n:Nat}:∀{s:List Nat}(i:Nat)(hi:i<Z' s),(∀j (h:j<Z' s),i<j->s[j]+Z' s=n+j)->s[i]+Z' s≠n+i->sL n s=some (s.take i++bkB (s[i]+1) (Z' s-i))
 |[],i,hi,_,_=>by cases hi
 |x::t,0,_,h,d=>by rw[sL,WT (s:=t) λi hi=>by have:=h (i+1) (by simpa using hi) Om;simp only[List.getElem_cons_succ,bjL]at this;omega];simp only[List.getElem_cons_zero,bjL]at d ⊢;rw[aE Om];rfl
 |x::t,i+1,hi,h,d=>by
  have e:i<Z' t:=by simpa using hi
  simp only[List.getElem_cons_succ,bjL]at d;rw[sL,aiB (s:=t) i e (λj p l=>by have:=h (j+1) (by simpa using p) Om;simp only[List.getElem_cons_succ,bjL]at this;omega) Om];simp only[List.getElem_cons_succ,bjL,List.take_succ_cons,List.cons_append];rw[show t.length+1-(i+1)=Z' t-i by omega]
theorem zJ(n:Nat):∀(k a:Nat),∀s∈eT n k a,Z' s=k/\(∀x∈s,a<=x/\x<n)/\s.Pairwise (· < ·)
 |0,a,s,h=>by rw[eT,bjH]at h;subst h;exact⟨rfl,(λx hx=>by cases hx),.nil⟩
 |k+1,a,s,h=>by
  rw[eT,List.mem_flatMap]at h;obtain⟨i,hi,h⟩:=h;rw[biJ]at h;obtain⟨t,p,rfl⟩:=h;rw[List.mem_range'_1]at hi;obtain⟨e,d,l⟩:=zJ n k (i+1) t p;refine⟨by simp[e],λx hx=>?_,List.pairwise_cons.2 ⟨λy u=>by have:=(d y u).1;omega,l⟩⟩;rcases biG.1 hx with rfl|hx
  ·omega
  ·have:=d x hx;omega
theorem KW(n:Nat):∀(k a:Nat),(eT n k a).length<=2^(n-a)
 |0,a=>by rw[eT];exact Nat.one_le_two_pow
 |k+1,a=>by
  rw[eT];have d:∀(m a:Nat),m+a<=n->((bkB a m).flatMap λi=>(eT n k (i+1)).map (i::·)).length+2^(n-a-m)<=2^(n-a):=by
   intro m
   induction m with
   |zero=>intro a _;simp
   |succ m e=>
    intro a h;rw[List.range'_succ,List.flatMap_cons,bhW,bhO];have l:=KW n k (a+1);have p:=e (a+1) Om;rw[show n-a-(m+1)=n-(a+1)-m by omega];have u:2^(n-a)=2^(n-(a+1))+2^(n-(a+1)):=by rw[show n-a=(n-(a+1))+1 by omega,bjU];omega
    omega
  rcases biR n a with h|h
  ·rw[show n-k-a=0 by omega];simp
  ·exact biQ (Nat.le_add_right _ _) (d (n-k-a) a Om)
def oF(f:aD)(p:cE)(set:List Int):Bool:=(bhP f.bgG.length).all λi=>!(decide (eS f p i>0)&&decide (fY f set i>eS f p i))
def xT(f:aD)(p:cE)(d:Int):Bool:=p.bgE.contains ((mdl f d.toNat:Nat):Int)
def sA(f:aD)(p:cE)(set:List Int):Bool:=set.all (xT f p)&&oF f p set
def qX(set:List Int)(top:Int)(i:Nat):Bool:=(decide (0<=set.getD i 0)&&decide (set.getD i 0<top))&&(decide (i=0)||decide (set.getD (i-1) 0<set.getD i 0))
def qL(set:List Int)(n top:Int):Bool:=decide ((Z' set:Int)=n)&&(bhP set.length).all (qX set top)
def dW(f:aD)(bgP:Int):cE:=f.bgH.getD bgP.toNat aZU
def mY(p:cE):Int:=p.k+p.m
def lC(f:aD)(bgP:Int):Bool:=dC f&&(decide (0<=bgP)&&decide (bgP<Z' f.bgH))
def sB(f:aD)(bgP:Int)(set:List Int):Bool:=lC f bgP&&(qL set (mY (dW f bgP)) f.bgD.length&&sA f (dW f bgP) set)
def cT(s:List Nat):List Int:=s.map λ(x:Nat)=>(x:Int)
def jZ(f:aD)(p:cE):L2_:=((eT f.bgD.length (mY p).toNat 0).map cT).filter (sA f p)
def kJ(f:aD)(level:Int):L2_:=
 if level=5 then(bhP f.bgD.length).map λ(d:Nat)=>[(d:Int)]
 else((bhP f.bgG.length).filter λi=>decide (lvl f i=level)).map λi=>cT ((bhP f.bgD.length).filter λd=>decide (dM f d level=i))
def gU(m:Int):Nat->Int
 |0=>1
 |i+1=>Int.tdiv (gU m i*(m-i)) (i+1)
def wP(u:L2_)(s:List Nat)(d:Nat):Bool:=s.any λi=>(u.getD i []).contains (d:Int)
def xH(f:aD)(u:L2_)(count:Nat):L2_:=(eT u.length count 0).map λs=>cT ((bhP f.bgD.length).filter (wP u s))
def qY(s set:List Int):Nat:=set.countP λd=>s.contains d
def oK(sc:L2_)(set:List Int)(m:Int):Nat:=sc.countP λs=>decide (((qY s set:Nat):Int)>m)
theorem No:∀{s t:List Int},s.Nodup->t.Nodup->qY s t=qY t s
 |[],t,_,_=>by simp[qY]
 |d::s,t,u,w=>by
  obtain⟨B,E⟩:=List.nodup_cons.1 u;have l:=No E w;unfold qY at l ⊢;rw[blK,<-l];clear l u
  induction t with
  |nil=>simp
  |cons x t p=>
   obtain⟨k1,k2⟩:=List.nodup_cons.1 w;have:=p k2;rw[blK,blK,this];by_cases e:x=d
   ·subst e;have i:(x::s).contains x=true:=by simp
    have e2:s.contains x=false:=by simpa using B
    have y:t.contains x=false:=by simpa using k1
    have A:(x::t).contains x=true:=by simp
    simp only[i,e2,y,A]
   ·have i:(d::s).contains x=s.contains x:=by simp[e]
    have e2:(x::t).contains d=t.contains d:=by have:¬d=x:=λh=>e h.symm;simp[this]
    rw[i,e2];omega
def fN(set:List Int)(d:Int):Nat:=(set.takeWhile λx=>decide (x<d)).length
theorem Mp(set:List Int)(d:Int):fN set d<=Z' set:=(List.takeWhile_prefix _).length_le
theorem XY(set:List Int)(d:Int){i:Nat}(h:i<fN set d):set[i]'(Nat.lt_of_lt_of_le h (Mp set d))<d:=by
 have hp:=List.takeWhile_prefix (p:=λx=>decide (x<d)) (l:=set);have u:(set.takeWhile λx=>decide (x<d))[i]∈set.takeWhile λx=>decide (x<d):=bhS h;have w:=List.all_takeWhile (p:=λx=>decide (x<d)) (l:=set);have e:=biB.1 w _ u;rw[hp.getElem h]at e;exact of_decide_eq_true e
theorem aAK(set:List Int)(d:Int)(h:fN set d<Z' set):¬set[fN set d]<d:=by
 induction set with
 |nil=>simp at h
 |cons x t i=>
  by_cases c:x<d
  ·have e:fN (x::t) d=fN t d+1:=by simp[fN,List.takeWhile_cons,c]
   simp only[e,List.getElem_cons_succ];exact i (by rw[e]at h;simpa using h)
  ·have e:fN (x::t) d=0:=by simp[fN,List.takeWhile_cons,c]
   simp only[e,List.getElem_cons_zero];exact c
theorem aXL{set:List Int}(u:set.Pairwise (· < ·))(d:Int):set.contains d=(decide (fN set d<Z' set)&&decide (set.getD (fN set d) 0=d)):=by
 by_cases h:fN set d<Z' set
 ·have w:=aAK set d h;rw[bA h,biA,bhX,biD h,bkC];by_cases e:set[fN set d]=d
  ·rw[bA e];simp only[List.contains_iff_mem];exact e ▸ bhS h
  ·rw[bG e];simp only[Bool.eq_false_iff,ne_eq,List.contains_iff_mem];intro p;obtain⟨i,hi,l⟩:=bjD p;rcases Nat.lt_trichotomy i (fN set d)with c|c|c
   ·have:=XY set d c;omega
   ·subst c;exact e l
   ·have:=List.pairwise_iff_getElem.1 u _ _ h hi c;omega
 ·rw[bG h,bhY];simp only[Bool.eq_false_iff,ne_eq,List.contains_iff_mem];intro p;obtain⟨i,hi,l⟩:=bjD p;have:=XY set d (i:=i) Om;omega
theorem aPU(set:List Int){d e:Int}(h:d<=e):fN set d<=fN set e:=by
 induction set with
 |nil=>simp[fN]
 |cons x t l=>
  by_cases c:x<d
  ·have i:x<e:=Om;simp only[fN,List.takeWhile_cons,c,i,decide_true,if_true,bjL]at l ⊢;omega
  ·simp[fN,List.takeWhile_cons,c]
theorem aWA(a b:List Nat):cT (a++b)=cT a++cT b:=biV
theorem jY(a:List Nat):(cT a).length=Z' a:=bhO _
theorem IM{a:List Nat}{i:Nat}(h:i<Z' a):(bJ (cT a))[i]?=some [PV.int .i64 (a[i]:Nat)]:=by
 unfold bJ cT;rw[biL,biL,biD h];rfl
theorem xj(a:List Nat)(i x:Nat):(bJ (cT a)).set i [PV.int .i64 (x:Nat)]=bJ (cT (a.set i x)):=by
 unfold bJ cT;rw[List.map_set,List.map_set]
theorem aQI{top n:Nat}(h:top<n):eT top n 0=[]:=by
 cases n with
 |zero=>omega
 |succ n =>rw[eT,show top-n-0=0 by omega];rfl
theorem tI.head{n:Nat}{s:List Nat}{l:List (List Nat)}(h:tI n s l):∃r,l=s::r:=by
 cases h with
 |last=>exact⟨_,rfl⟩
 |step=>exact⟨_,rfl⟩
def uT(n i:Nat):List Nat:=bkB 0 i++bhU (n-i) 0
theorem aGC(n:Nat):uT n 0=bhU n 0:=by unfold uT;simp
theorem aMP{n i:Nat}(h:i<=n):(uT n i).length=n:=by unfold uT;simp;omega
theorem aGB(n:Nat):uT n n=bkB 0 n:=by unfold uT;simp
theorem aMQ{n i:Nat}(h:i<n):(uT n i).set i i=uT n (i+1):=by
 unfold uT;obtain⟨m,d⟩:∃m,n-i=m+1:=⟨n-i-1,by omega⟩;rw[d,List.replicate_succ,blC _ _ bH,List.length_range',bkR,blP,show n-(i+1)=m by omega,List.range'_concat];simp
def onU(s:List Nat)(j y m:Nat):List Nat:=s.take j++bkB y (m-j)++s.drop m
theorem azU{s:List Nat}{j y m:Nat}(d:j<=m)(e:m<=Z' s):(onU s j y m).length=Z' s:=by
 unfold onU;simp;omega
theorem a3Q{s:List Nat}{j y:Nat}(h:j<Z' s):s.set j y=onU s j y (j+1):=by
 unfold onU;rw[List.set_eq_take_append_cons_drop,aG h,show j+1-j=1 by omega];simp
theorem aWN{s:List Nat}{j y m:Nat}(i:j<m)(e:m<=Z' s):∃h,(onU s j y m)[m-1]'h=y+(m-1-j):=by
 refine⟨by rw[azU Om e];omega,?_⟩;unfold onU;have d:(s.take j).length=j:=by rw[biI];omega
 rw[bmC (by simp;omega),bmA Om];simp[d]
theorem a3R{s:List Nat}{j y m:Nat}(i:j<=m)(e:m<Z' s):(onU s j y m).set m (y+(m-j))=onU s j y (m+1):=by
 unfold onU;have d:(s.take j++bkB y (m-j)).length=m:=by simp;omega
 rw[blC _ _ Om,d,bkR,bjS e,blP,show m+1-j=(m-j)+1 by omega,List.range'_concat];simp
theorem aWM{s:List Nat}{j y:Nat}:onU s j y s.length=s.take j++bkB y (Z' s-j):=by
 unfold onU;simp
theorem a0W{K:cF}[Up K]{n o1 o2 q:Nat}{y:PV}{F:PF}{H:PH}(J:n<=1000)(A:H q=some (.rows 1 (bJ (cT (uT n 0)))))(w:(((((((n_.set 0 (y)).set 1 (.ptr o1 1 0 0)).set 2 (.ptr o2 1 0 0)).set 4 (.osl q 1 0 n)).set 14 (.int .i64 n)).set 15 (.int .i64 0))).le F)
  (x:K (.exit 0) (((((n_.set 0 (y)).set 1 (.ptr o1 1 0 0)).set 2 (.ptr o2 1 0 0)).set 4 (.osl q 1 0 n))) (H.set q (.rows 1 (bJ (cT (bkB 0 n)))))):aC.wp C (.loop dh) K F H:=by
 refine wp_loop (α:=Nat × PH) (λs=>((((((n_.set 0 (y)).set 1 (.ptr o1 1 0 0)).set 2 (.ptr o2 1 0 0)).set 4 (.osl q 1 0 n)).set 14 (.int .i64 n)).set 15 (.int .i64 s.1))) (λs=>s.2) (λs=>s.1<=n/\s.2=H.set q (.rows 1 (bJ (cT (uT n s.1))))) (λs=>n-s.1) (0,H) ⟨bhT _,?_⟩ w b_ ?_
 ·refine PH.ext λo=>?_;show H o=(H.set q _) o;rw[bC];split
  ·rename_i e;rw[e,A]
  ·rfl
 rintro⟨i,B⟩ ⟨hi,u⟩;simp only at hi u;subst u;simp only[go_sem,dh,Po];by_cases hlt:i<n
 ·have d:(i:Int)<(n:Nat):=Om;have E:=aMP hi;have l:=IM (a:=uT n i) (i:=i) Om;have p:i<(bJ (cT (uT n i))).length:=by rw[dN,jY];omega
  simp only[go_sem,d,Pp,Pq,l,p,biN,xj,aMQ hlt,Ps,wZz i];exact aJ (i+1,_) ⟨hlt,rfl⟩ (by simp only;omega) Lq b_
 ·have d:¬(i:Int)<(n:Nat):=Om;have:i=n:=Om;subst this;rw[aGB];simp only[go_sem,d];exact Up.up Lq x
def cyF(y:PV)(o1 o2 q n:Nat):PF:=((((n_.set 0 (y)).set 1 (.ptr o1 1 0 0)).set 2 (.ptr o2 1 0 0)).set 4 (.osl q 1 0 n))
theorem aME{K:cF}[Up K]{n top o1 o2 q:Nat}{y:PV}{s:List Nat}(V:Z' s=n)(U:n<=1000)(W:top<=1000)(Q:n<=top){F:PF}{H:PH}(b1:H o1=some (.rows 1 [[.int .i64 n]]))(b2:H o2=some (.rows 1 [[.int .i64 top]]))(E:H q=some (.rows 1 (bJ (cT s))))
  (O:((cyF y o1 o2 q n).set 6 (.int .i64 ((n:Int)-1))).le F)
  (A:∀m,m<=n->(∀i (h:i<Z' s),m<=i->s[i]+n=top+i)->(0<m->∀(h:m-1<Z' s),s[m-1]+n≠top+(m-1))->K (.exit 4) ((cyF y o1 o2 q n).set 6 (.int .i64 ((m:Int)-1))) H):aC.wp C (.loop GB) K F H:=by
 refine wp_loop (α:=Nat) (λm=>(cyF y o1 o2 q n).set 6 (.int .i64 ((m:Int)-1))) (λ_=>H) (λm=>m<=n/\∀i (h:i<Z' s),m<=i->s[i]+n=top+i) (λm=>m) n ⟨bhV _,λi h S=>by omega⟩ O b_ ?_;rintro m ⟨B,d⟩;rw[show GB=(.seq (.seq (.draw AW) (.cond (.tmp 42) .skip (.exit 4))) (.block 5 (.region TZ)))from rfl];simp only[go_sem];refine bV .nil eW a_ ?_;by_cases N:m=0
 ·subst N;simp only[go_sem,AW,cyF,show ¬((0:Nat):Int)-1>=0 by omega];refine Up.up ?_ (A 0 B d (λh=>by omega));unfold cyF;exact Lq
 ·obtain⟨k,rfl⟩:∃k,m=k+1:=⟨m-1,by omega⟩;have w:(((k+1:Nat):Int)-1)=(k:Int):=Om;have x:k<Z' s:=Om;have p:=IM x;have u:k<(bJ (cT s)).length:=by rw[dN,jY];omega
  have J:i_.wrap ((top:Int)-(n:Int))=(top:Int)-n:=wrap_i64 Om Om;have M:i_.wrap ((top:Int)-(n:Int)+(k:Int))=(top:Int)-n+k:=wrap_i64 Om Om;have l:(k:Int)<(n:Nat):=Om;by_cases c:s[k]+n=top+k
  ·simp only[go_sem,AW,cyF,w,show(k:Int)>=0 by omega,E,p,u,l,b1,b2,biN,J,M,bY (Om:((s[k]:Nat):Int)=(top:Int)-n+k),TZ];have R:i_.wrap ((k:Int)-1)=(k:Int)-1:=wrap_i64 Om Om;refine aJ k ⟨by omega,λi h hi=>?_⟩ Om (by(repeat' (first|exact c_|refine d_ ?_ ?_))<;>first|(simp only[go_sem,R]<;>rfl)|rfl) b_;by_cases e:i=k
   ·subst e;exact c
   ·exact d i h Om
  ·simp only[go_sem,AW,cyF,w,show(k:Int)>=0 by omega,E,p,u,l,b1,b2,biN,J,M,bL (Om:((s[k]:Nat):Int)≠(top:Int)-n+k)];refine Up.up ?_ (A (k+1) B d (λ_ h=>c));unfold cyF
   (repeat' (first|exact c_|refine d_ ?_ ?_))<;>first|(simp only[go_sem,w]<;>rfl)|rfl
theorem a0X{K:cF}[Up K]{n o1 o2 q j x:Nat}{y:PV}{s:List Nat}(V:Z' s=n)(hn:n<=1000)(hx:x<=1000000)(S:j<n){F:PF}{H:PH}(b1:H o1=some (.rows 1 [[.int .i64 n]]))(M:¬o1=q)(U:H q=some (.rows 1 (bJ (cT (onU s j x (j+1))))))
  (O:((cyF y o1 o2 q n).set 7 (.int .i64 (j+1:Nat))).le F)
  (Q:K (.exit 6) (cyF y o1 o2 q n) (H.set q (.rows 1 (bJ (cT (s.take j++bkB x (n-j))))))):aC.wp C (.loop GC) K F H:=by
 refine wp_loop (α:=Nat × PH) (λm=>(cyF y o1 o2 q n).set 7 (.int .i64 m.1)) (λm=>m.2) (λm=>j+1<=m.1/\m.1<=n/\m.2=H.set q (.rows 1 (bJ (cT (onU s j x m.1))))) (λm=>n-m.1) (j+1,H) ⟨bhV _,S,?_⟩ O b_ ?_
 ·refine PH.ext λo=>?_;show H o=(H.set q _) o;rw[bC];split
  ·rename_i e;rw[e,U]
  ·rfl
 rintro⟨m,Y⟩ ⟨B,E,N⟩;simp only at B E N;subst N;have w:¬q=o1:=λe=>M e.symm;rw[show GC=(.seq (.seq (.region GF) (.cond (.tmp 57) .skip (.exit 6))) (.seq (.block 7 (.region UC)) (.region UD)))from rfl];by_cases hlt:m<n
 ·have d:(m:Int)<(n:Nat):=Om;obtain⟨hp,R⟩:=aWN (s:=s) (j:=j) (y:=x) (m:=m) Om Om;have i:=IM hp;rw[R]at i;have Z:=azU (s:=s) (j:=j) (y:=x) (m:=m) Om Om;have A:m-1<(bJ (cT (onU s j x m))).length:=by rw[dN,jY];omega
  have p:m<(bJ (cT (onU s j x m))).length:=by rw[dN,jY];omega
  have l:(bJ (cT (onU s j x m)))[m]?=some [PV.int .i64 ((onU s j x m)[m]'Om:Nat)]:=IM Om;have W:i_.wrap ((m:Int)-1)=((m-1:Nat):Int):=by rw[wrap_i64 Om Om];omega
  have X:i_.wrap (((x+(m-1-j):Nat):Int)+1)=((x+(m-j):Nat):Int):=by rw[wrap_i64 Om Om];omega
  have u:((m-1:Nat):Int)<(n:Nat):=Om;have J:=a3R (s:=s) (j:=j) (y:=x) (m:=m) Om Om;simp only[go_sem,GF,cyF,b1,M,w,d,UC,W,u,i,A,biN,X,l,p,xj,J,UD,wZz m];refine aJ (m+1,_) ⟨by simp only;omega,hlt,rfl⟩ (by simp only;omega) Lq b_
 ·have d:¬(m:Int)<(n:Nat):=Om;have:m=n:=Om;subst this;have e:=aWM (s:=s) (j:=j) (y:=x);rw[V]at e;rw[e];simp only[go_sem,GF,cyF,b1,M,w,d];refine Up.up ?_ Q;unfold cyF;exact Lq
theorem tI.done{n:Nat}{s:List Nat}{l:List (List Nat)}(h:tI n s l)(e:sL n s=none):l=[s]:=by
 cases h with
 |last=>rfl
 |step d=>rw[e]at d;cases d
theorem tI.next{n:Nat}{s t:List Nat}{l:List (List Nat)}(h:tI n s l)(e:sL n s=some t):∃r,l=s::r/\tI n t r:=by
 cases h with
 |last d=>rw[e]at d;cases d
 |step d w=>rw[e]at d;cases d;exact⟨_,rfl,w⟩
structure aSA(J:Nat->PH->Prop)(ss:List (List Nat))(top n o1 o2 q k:Nat)(s:List Nat)(G H:PH):Prop where
 lt:k<Z' ss
 walk:tI top s (ss.drop k)
 len:Z' s=n
 rng:∀x∈s,x<top
 j:J k G
 le:G.le H
 g1:G o1=none
 g2:G o2=none
 gq:G q=none
 b1:H o1=some (.rows 1 [[.int .i64 n]])
 b2:H o2=some (.rows 1 [[.int .i64 top]])
 bq:H q=some (.rows 1 (bJ (cT s)))
theorem aSQ{l o1 o2 n top:Nat}(J:Nat->PH->Prop)(d:List (List Nat))(R:d=eT top n 0)(h1:1<=n)(hn:n<=1000)(ht:top<=1000)
  (hY:∀k (hk:k<Z' d) G c,J k G->G c=none->RP C l [.osl c 1 0 n] (G.set c (.rows 1 (bJ (cT d[k])))) (λr H'=>r=.bool true/\J (k+1) H'))
  {M H:PH} (V:J 0 M) (p:M.le H) (b1:H o1=some (.rows 1 [[.int .i64 n]])) (b2:H o2=some (.rows 1 [[.int .i64 top]])) (g1:M o1=none) (g2:M o2=none) :
  OE.wp C (aZ Zv.res (λ_ H'=>∃G,J d.length G/\G.le H')) (g_ [FH l,.ptr o1 1 0 0,.ptr o2 1 0 0]) H:=by
 simp only[go_sem,OE,Pl,Zv,b1,b2];by_cases c:n>top
 ·have:d=[]:=by rw[R];exact aQI c
  subst this;simp only[go_sem,show(n:Int)>(top:Nat) by omega];exact bE (vs:=[]) (.inr rfl) M rfl p ⟨M,V,b_⟩
 simp only[go_sem,show ¬(n:Int)>(top:Nat) by omega,Pm,b1,show(0:Int)<=n by omega,Int.le_refl,show(n:Int)*((8:Nat):Int)<=140737488355328 by omega,show(n:Int)<=9223372036854775807 by omega,bjN];refine aQ λq Q=>?_;obtain⟨a1,τ⟩:¬o1=q/\¬q=o1:=⟨(λe=>by rw[e,Q]at b1;cases b1),λe=>by rw[<-e,Q]at b1;cases b1⟩;obtain⟨a2,υ⟩:¬o2=q/\¬q=o2:=⟨(λe=>by rw[e,Q]at b2;cases b2),λe=>by rw[<-e,Q]at b2;cases b2⟩;have ez:bhU n [PV.int .i64 0]=bJ (cT (uT n 0)):=by rw[aGC];unfold bJ cT;rw[List.map_replicate,List.map_replicate];rfl
 rw[ez];simp only[go_sem,Pn];refine a0W (n:=n) (o1:=o1) (o2:=o2) (q:=q) (y:=FH l) hn (by rw[cZ]) Lq ?_;rw[PH.set_set];have Y:M q=none:=by
  cases h:M q with
  |none=>rfl
  |some x=>rw[p q x h]at Q;cases Q
 have hw:=kh top n 0 Om;rw[<-R]at hw;obtain⟨r0,δ⟩:=hw.head;have N:=zJ top n 0;rw[<-R]at N;simp only[go_sem];refine wp_loop (α:=Nat × List Nat × PH × PH) (λ_=>cyF (FH l) o1 o2 q n) (λx=>x.2.2.2) (λx=>aSA J d top n o1 o2 q x.1 x.2.1 x.2.2.1 x.2.2.2) (λx=>Z' d-x.1) (0,bkB 0 n,M,H.set q (.rows 1 (bJ (cT (bkB 0 n))))) ?_ (by unfold cyF;exact Lq) b_ ?_
 ·exact⟨(by simp only;rw[δ];simp),hw,List.length_range',(λx hx=>by rw[List.mem_range'_1]at hx;omega),V,PH.le_trans p (PH.fl _ Q),g1,g2,Y,(by simp only;rw[bC,aE a1];exact b1),(by simp only;rw[bC,aE a2];exact b2),(by simp only;rw[cZ])⟩
 clear b1 b2 g1 g2 Y Q p V hw δ ez;rintro⟨k,s,G,H⟩ A;have A:aSA J d top n o1 o2 q k s G H:=A;obtain⟨hlt,U,w,ε,V,p,g1,g2,gq,b1,b2,bq⟩:=A;have B:d.drop k=d[k]::d.drop (k+1):=bjS hlt;have ρ:d[k]=s:=by obtain⟨r,F⟩:=U.head;rw[B]at F;injection F
 have S:eA H 1 (.osl q 1 0 n)=some (bJ (cT s)):=by
  have:=(show cA H 1 (.osl q 1 0 (bJ (cT s)).length) (bJ (cT s))from .inr ⟨q,_,rfl,bq,bhV _,biS⟩).view
  rwa[dN,jY,w]at this
 rw[show Dd=(.seq (.seq (.region di) (.cond (.tmp 26) .skip (.exit 2))) (.block 3 (.seq (.region dj) (.seq (.block 4 (.loop GB)) (.seq (.seq (.region GD) (.cond (.tmp 46) .ret .skip)) (.seq (.region UA) (.seq (.region UB) (.block 6 (.loop GC)))))))))from rfl];simp only[go_sem,di,cyF];refine CI S (by unfold roomFor;rw[dN,jY];simp only[maxLen];omega) (λh=>?_) λ_ c hc=>?_
 ·have:=congrArg List.length h;rw[dN,jY,w]at this;simp at this;omega
 rw[dN,jY,w];have η:G c=none:=by
  cases h:G c with
  |none=>rfl
  |some x=>rw[p c x h]at hc;cases hc
 have hy:=hY k hlt G c V η;rw[ρ]at hy;have ne:∀{b:Nat}{x:aY},H b=some x->¬b=c:=λhb e=>by rw[e,hc]at hb;cases hb
 refine⟨l,rfl,.inl ⟨_,G.set c (.rows 1 (bJ (cT s))),_,Ev,?_,hy,?_⟩⟩
 ·intro o x K;rw[bC]at K ⊢;split at K
  ·rename_i e;rw[aG e];exact K
  ·rename_i e;rw[aE e];exact p o x K
 rintro _ H' ⟨rfl,W⟩ θ;have keep:∀{b:Nat}{x:aY},H b=some x->G b=none->H' b=none/\((H.set c (.rows 1 (bJ (cT s)))).over (G.set c (.rows 1 (bJ (cT s)))) H') b=some x:=λ{b}{x} hb hg=>by
  have e:=ne hb;have h':H' b=none:=by
   cases h:H' b with
   |none=>rfl
   |some y =>have:=θ b y h (by rw[bC,aE e];exact hg);rw[bC,aE e,hb]at this;cases this
  refine⟨h',?_⟩;rw[lO,h'];simp only[bC,aE e,hg,hb]
 obtain⟨k1,d1⟩:=keep b1 g1;obtain⟨k2,d2⟩:=keep b2 g2;obtain⟨kq,dq⟩:=keep bq gq;have O:H'.le ((H.set c (.rows 1 (bJ (cT s)))).over (G.set c (.rows 1 (bJ (cT s)))) H'):=λo x K=>by rw[lO,K]
 generalize(H.set c (.rows 1 (bJ (cT s)))).over (G.set c (.rows 1 (bJ (cT s)))) H'=H2 at *
 have w1:i_.wrap ((n:Int)-1)=(n:Int)-1:=wrap_i64 Om Om;simp only[go_sem,dj,d1,w1];refine aME (n:=n) (top:=top) (o1:=o1) (o2:=o2) (q:=q) (y:=FH l) (s:=s) w hn ht Om d1 d2 dq (by unfold cyF;exact Lq) λm hm E Z=>?_;by_cases m0:m=0
 ·subst m0;have ξ:sL top s=none:=WT λi hi=>by have:=E i hi (bhT _);omega
  have X:k+1=Z' d:=by have:=congrArg List.length (U.done ξ);rw[bjZ,biC]at this;omega
  simp only[go_sem,cyF,GD,show((0:Nat):Int)-1<0 by omega];exact bE (vs:=[]) (.inr rfl) H' rfl O ⟨H',by rw[<-X];exact W,b_⟩
 ·obtain⟨j,rfl⟩:∃j,m=j+1:=⟨m-1,by omega⟩;have u:j<Z' s:=Om;have ν:(j:Int)<(n:Nat):=Om;have e0:(((j+1:Nat):Int)-1)=(j:Int):=Om;have β:=aiB (n:=top) (s:=s) j u (λi hi μ=>by have:=E i hi μ;omega) (by have:=Z (Nat.succ_pos _) u;simp only[Nat.add_sub_cancel]at this;omega);rw[w]at β;have φ:=ε s[j] (bhS u);have ι:=IM u;have κ:j<(bJ (cT s)).length:=by rw[dN,jY];exact u
  have w2:i_.wrap (((s[j]:Nat):Int)+1)=((s[j]+1:Nat):Int):=dZ Om;have γ:=a3Q (s:=s) (j:=j) (y:=s[j]+1) u;simp only[go_sem,cyF,GD,e0,show ¬(j:Int)<0 by omega,UA,dq,ι,κ,ν,biN,w2,xj,γ,UB,wZz j];refine a0X (n:=n) (o1:=o1) (o2:=o2) (q:=q) (j:=j) (x:=s[j]+1) (y:=FH l) (s:=s) w hn Om Om (by rw[bC,aE a1];exact d1) a1 (by rw[cZ]) (by unfold cyF;exact Lq) ?_;rw[PH.set_set];have bgZ:k+1<Z' d/\tI top (s.take j++bkB (s[j]+1) (n-j)) (d.drop (k+1)):=by
   obtain⟨r,F,ζ⟩:=U.next β;rw[B]at F;injection F with _ F
   rw[F];refine⟨?_,ζ⟩;obtain⟨r2,ο⟩:=ζ.head;have:=congrArg List.length F;rw[ο,bjZ,bjL]at this;omega
  have σ:aSA J d top n o1 o2 q (k+1) (s.take j++bkB (s[j]+1) (n-j)) H' (H2.set q (.rows 1 (bJ (cT (s.take j++bkB (s[j]+1) (n-j)))))):={
      lt:=bgZ.1
      walk:=bgZ.2
      len:=by simp;omega
      rng:=λx hx=>by
       have h2:=N (d[k+1]'bgZ.1) (bhS _);have h3:d[k+1]'bgZ.1=s.take j++bkB (s[j]+1) (n-j):=by obtain⟨r,F⟩:=bgZ.2.head;rw[bjS bgZ.1]at F;injection F
       rw[h3]at h2;exact(h2.2.1 x hx).2
      j:=W
      le:=λo x K=>by
       have:¬o=q:=λe=>by rw[e,kq]at K;cases K
       rw[bC,aE this];exact O o x K
      g1:=k1,g2:=k2,gq:=kq
      b1:=by rw[bC,aE a1];exact d1
      b2:=by rw[bC,aE a2];exact d2
      bq:=by rw[cZ] }
  simp only[go_sem,cyF];exact aJ (k+1,s.take j++bkB (s[j]+1) (n-j),H',H2.set q (.rows 1 (bJ (cT (s.take j++bkB (s[j]+1) (n-j)))))) σ (by simp only;omega) Lq b_
def xO(f:aD)(p:cE)(xs:List Int)(i:Nat):Bool:=!(decide (eS f p i>0)&&decide (fY f xs i>eS f p i))
theorem BZ(f:aD)(p:cE)(xs:List Int):oF f p xs=(bhP f.bgG.length).all (xO f p xs):=rfl
theorem aMG(f:aD)(xs ys:List Int)(i:Nat):fY f xs i<=fY f (xs++ys) i:=by
 unfold fY;rw[blO];split<;>omega
theorem aOO{f:aD}{p:cE}{xs ys:List Int}{i:Nat}(h:xO f p xs i=false):xO f p (xs++ys) i=false:=by
 have:=aMG f xs ys i;unfold xO at h ⊢;simp only[Bool.not_eq_false',bhQ,dT_]at h ⊢;omega
theorem G7{f:aD}{p:cE}{xs:List Int}{i:Nat}(hi:i<Z' f.bgG)(h:xO f p xs i=false):oF f p xs=false:=by
 rw[BZ];simp only[List.all_eq_false,biM];exact⟨i,hi,by rw[h];simp⟩
theorem alA{f:aD}{p:cE}{xs ys:List Int}(h:oF f p xs=false):oF f p (xs++ys)=false:=by
 rw[BZ]at h;simp only[List.all_eq_false,biM]at h;obtain⟨i,hi,h⟩:=h;exact G7 hi (aOO (by simpa using h))
theorem asE(f:aD)(p:cE):oF f p []=true:=by
 rw[BZ];simp only[biB,biM];intro i _;unfold xO fY;simp;omega
theorem aJN{f:aD}(hV:VF f){p:cE}{xs:List Int}(h:∀i,i<Z' f.bgG->0<lvl f i->xO f p xs i=true):oF f p xs=true:=by
 rw[BZ];simp only[biB,biM];intro i hi;have d:=hV.qD hi;by_cases e:i=0
 ·unfold xO fY;rw[aG e];simp;omega
 ·exact h i hi Om
theorem a3O{f:aD}{p:cE}{xs:List Int}(h:oF f p xs=true){i:Nat}(hi:i<Z' f.bgG):xO f p xs i=true:=by
 rw[BZ]at h;exact biB.1 h i (biM.2 hi)
theorem aQG(p:cE)(t:List PV){n:Nat}(h:n<5):(if 1<=(List.drop n (PV.int .i64 p.s0::PV.int .i64 p.s1::PV.int .i64 p.s2::PV.int .i64 p.s3::PV.int .i64 p.s4::t)).length then some (List.take 1 (List.drop n (PV.int .i64 p.s0::PV.int .i64 p.s1::PV.int .i64 p.s2::PV.int .i64 p.s3::PV.int .i64 p.s4::t)))else none)=some [PV.int .i64 (p.spread n)]:=by
 have:n=0\/n=1\/n=2\/n=3\/n=4:=Om;rcases this with rfl|rfl|rfl|rfl|rfl<;>simp[cE.spread]
def TD(f:aD)(p:cE)(d oD:Nat)(set:List Int)(k:Nat):PF:=(((((((n_.set 3 (.bK f.cells)).set 4 (.bK p.cells)).set 7 (.osl d 1 0 f.bgE.length)).set 10 (.osl oD 1 0 f.bgG.length)).set 34 (ints set)).set 35 (.int .i64 (Z' set:Nat))).set 36 (.int .i64 k))
def aFA(f:aD)(p:cE)(d oD:Nat)(set:List Int)(k:Nat)(at_:Nat):PF:=((((((((n_.set 3 (.bK f.cells)).set 4 (.bK p.cells)).set 7 (.osl d 1 0 f.bgE.length)).set 10 (.osl oD 1 0 f.bgG.length)).set 34 (ints set)).set 35 (.int .i64 (Z' set:Nat))).set 36 (.int .i64 k)).set 13 (.int .i64 at_))
theorem a0R{K:cF}[Up K](f:aD)(hV:VF f)(p:cE)(oA oD:Nat)(set:List Int)(k:Nat)(xs:List Int)(η:Z' xs<=16777216)(γ:oF f p xs=true)(d:Nat)(hd:d<Z' f.bgD){F:PF}{H:PH}
  (hF:(aFA f p oA oD set k (eM f d)).le F) (hD:H oD=some (.rows 1 (bJ (lH f xs))))
  (hR:∀F' H',F' 6=some (.bool false)->oF f p (xs++[(d:Int)])=false->K .ret F' H')
  (hK:oF f p (xs++[(d:Int)])=true->K (.exit 4) (TD f p oA oD set k) (H.set oD (.rows 1 (bJ (lH f (xs++[(d:Int)])))))) :
  aC.wp C (.loop ul) K F H:=by
 refine wp_loop (α:=Nat × PH) (λt=>aFA f p oA oD set k (upN f t.1 (eM f d))) (λt=>t.2) (λt=>t.1<=4/\t.2=H.set oD (.rows 1 (bJ (sE f xs d t.1)))/\∀i,i<Z' f.bgG->4-(t.1:Int)<lvl f i->xO f p (xs++[(d:Int)]) i=true) (λt=>4-t.1) (0,H) ⟨bhT _,?_,?_⟩ (by rw[upN];exact hF) b_ ?_
 ·rw[aMI hV];refine PH.ext λo=>?_;show H o=(H.set oD _) o;rw[bC];split
  ·rename_i e;rw[e,hD]
  ·rfl
 ·intro i hi hl;have:=(hV.qD hi).2.1;simp only at hl;omega
 rintro⟨j,H0⟩ ⟨hj,hH,w⟩;simp only at hj hH w;subst hH;obtain⟨x,V⟩:=KZ hV hd (k:=j) hj;simp only[go_sem,ul,Ye,aFA];by_cases hlt:j<4
 ·have β:0<upN f j (eM f d):=by
   rcases bkM (upN f j (eM f d))with e|e
   ·rw[e,hV.root.2.1]at V;omega
   ·exact e
  have W:((upN f j (eM f d):Nat):Int)>0:=Om;obtain⟨b1,b2⟩:=a1B hV xs hd hlt;have N:(bJ (sE f xs d j))[upN f j (eM f d)]?=some [.int .i64 (fY f xs (upN f j (eM f d)))]:=by unfold bJ;rw[biL,b1];rfl
  have ε:=a1A f xs (upN f j (eM f d));have hw:i_.wrap (fY f xs (upN f j (eM f d))+1)=fY f xs (upN f j (eM f d))+1:=wrap_i64 Om Om;have y:((upN f j (eM f d):Nat):Int)<(Z' f.bgG:Nat):=Om;have Y:upN f j (eM f d)<(bJ (sE f xs d j)).length:=by rw[dN,aTH];exact x
  have R:fY f (xs++[(d:Int)]) (upN f j (eM f d))=fY f xs (upN f j (eM f d))+1:=by rw[MB f xs d Om,dM,V,show 4-(4-(j:Int)).toNat=j by omega,aG rfl]
  have l:xO f p (xs++[(d:Int)]) (upN f j (eM f d))=!(decide (eS f p (upN f j (eM f d))>0)&&decide (fY f xs (upN f j (eM f d))+1>eS f p (upN f j (eM f d)))):=by rw[xO,R]
  have bgZ:xO f p (xs++[(d:Int)]) (upN f j (eM f d))=true->∀i,i<Z' f.bgG->4-((j+1:Nat):Int)<lvl f i->xO f p (xs++[(d:Int)]) i=true:=by
   intro h i hi hl;by_cases e:i=upN f j (eM f d)
   ·rw[e];exact h
   ·by_cases c:4-(j:Int)<lvl f i
    ·exact w i hi c
    ·have Q:lvl f i=4-(j:Int):=Om;have X:i≠0:=by intro e;subst e;rw[hV.root.2.1]at Q;omega
     have J:fY f (xs++[(d:Int)]) i=fY f xs i:=by rw[MB f xs d X,dM,Q,show 4-(4-(j:Int)).toNat=j by omega,aE (λh=>e h.symm)];simp
     have:=a3O γ hi;unfold xO at this ⊢;rw[J];exact this
  have O:xO f p (xs++[(d:Int)]) (upN f j (eM f d))=false->oF f p (xs++[(d:Int)])=false:=G7 x;have Z:eS f p (upN f j (eM f d))=p.spread (4-(j:Int)).toNat:=by rw[eS,V]
  rw[Z]at l;have δ:=N;have E:(bJ (sE f xs d j)).set (upN f j (eM f d)) [.int .i64 (fY f xs (upN f j (eM f d))+1)]=bJ (sE f xs d (j+1)):=by rw[vL,b2]
  have A:(bJ (sE f xs d (j+1)))[upN f j (eM f d)]?=some [.int .i64 (fY f xs (upN f j (eM f d))+1)]:=by rw[<-E,List.getElem?_set_self Y]
  have S:upN f (j+1) (eM f d)=XJ f (upN f j (eM f d)):=rfl;have B:=hV.Mb β x;generalize ζ:upN f j (eM f d)=u at *
  generalize fY f xs u=dc at *
  have l0:(0:Int)<=4-(j:Int):=Om;have h5:4-(j:Int)<((5:Nat):Int):=Om;simp only[go_sem,W,Yf,y,biN,N,hw,E,Yg,kE x,KE x,V,l0,h5,blB];rw[aQG p _ (Om:(4-(j:Int)).toNat<5)];by_cases M:p.spread (4-(j:Int)).toNat>0
  ·by_cases U:dc+1>p.spread (4-(j:Int)).toNat
   ·simp only[go_sem,TF,M,U,y,A,biN,Yh];exact hR _ _ Sq (O (by rw[l,bA M,bA U];rfl))
   ·simp only[go_sem,TF,M,U,y,A,biN,uq,kE x,Gn x,B];exact aJ (j+1,_) ⟨hlt,rfl,bgZ (by rw[l,bG U,bjE];rfl)⟩ (by simp only;omega) (by(repeat' (first|exact c_|refine d_ ?_ ?_))<;>first|(simp only[go_sem,S]<;>rfl)|rfl) b_
  ·simp only[go_sem,TF,M,uq,y,biN,kE x,Gn x,B];exact aJ (j+1,_) ⟨hlt,rfl,bgZ (by rw[l,bG M];rfl)⟩ (by simp only;omega) (by(repeat' (first|exact c_|refine d_ ?_ ?_))<;>first|(simp only[go_sem,S]<;>rfl)|rfl) b_
 ·have:j=4:=Om;subst this;have h0:upN f 4 (eM f d)=0:=by have:=hV.qD x;omega
  have W:¬((upN f 4 (eM f d):Nat):Int)>0:=Om;simp only[go_sem,W];rw[aMH hV];refine Up.up ?_ (hK (aJN hV λi hi h=>w i hi (by simpa using h)));unfold TD;exact Lq
theorem aSF{f:aD}{p:cE}{set:List Int}{d:Int}(e:d∈set)(h:xT f p d=false):sA f p set=false:=by
 unfold sA;have:set.all (xT f p)=false:=by simp only[List.all_eq_false];exact⟨d,e,by rw[h];simp⟩
 rw[this];rfl
theorem aSE{f:aD}{p:cE}{set:List Int}{k:Nat}(h:oF f p (set.take k)=false):sA f p set=false:=by
 have:=alA (ys:=set.drop k) h;rw[bkQ]at this;unfold sA;rw[this,bjE]
def aEK(f:aD)(set:List Int):Prop:=Z' set<=16777216/\∀x∈set,0<=x/\x<(Z' f.bgD:Nat)
theorem aLO{K:cF}[Up K](f:aD)(hV:VF f)(p:cE)(O oD:Nat)(hn:O≠oD)(set:List Int)(hs:aEK f set){F:PF}{H:PH}
  (Z:(TD f p O oD set 0).le F) (N:H O=some (.rows 1 (eK (marks f.bgE.length p.bgE)))) (hD:H oD=some (.rows 1 (bJ (lH f []))))
  (W:∀Q H',Q 6=some (.bool false)->sA f p set=false->K .ret Q H')
  (hK:∀Q H',sA f p set=true->K (.exit 2) Q H') :
  aC.wp C (.loop JD) K F H:=by
 obtain⟨β,V⟩:=hs;refine wp_loop (α:=Nat × PH) (λt=>TD f p O oD set t.1) (λt=>t.2) (λt=>t.1<=Z' set/\t.2 O=some (.rows 1 (eK (marks f.bgE.length p.bgE)))/\t.2 oD=some (.rows 1 (bJ (lH f (set.take t.1))))/\(set.take t.1).all (xT f p)=true/\oF f p (set.take t.1)=true) (λt=>Z' set-t.1) (0,H) ⟨bhT _,N,hD,rfl,asE f p⟩ Z b_ ?_;rintro⟨k,X⟩ ⟨hk,N,hD,i,B⟩;simp only at hk N hD i B;by_cases hlt:k<Z' set
 ·have u:(k:Int)<(Z' set:Nat):=Om;have U:(set.map λn=>[PV.int .i64 n])[k]?=some [.int .i64 set[k]]:=by simp[hlt]
  have E:set.take (k+1)=set.take k++[set[k]]:=bjF hlt;have hx:=V set[k] (bhS hlt);have hm:=bhS hlt;generalize γ:set[k]=x at *
  obtain⟨d,rfl⟩:∃d:Nat,x=d:=⟨x.toNat,by omega⟩;have e:d<Z' f.bgD:=Om;have J:(d:Int)<(Z' f.bgD:Nat):=Om;obtain⟨w1,w2,w3,w4,w5⟩:=hV.drive d e;have M:((mdl f d:Nat):Int)<(Z' f.bgE:Nat):=Om;have A:(eK (marks f.bgE.length p.bgE))[mdl f d]?=some [.bool (p.bgE.contains ((mdl f d:Nat):Int))]:=by have:=KF (n:=Z' f.bgE) (l:=p.bgE) (m:=((mdl f d:Nat):Int)) Om M;rw[bjN]at this;unfold eK;rw[biL,this];rfl
  have w:xT f p (d:Int)=p.bgE.contains ((mdl f d:Nat):Int):=by rw[xT,bjN]
  cases hb:p.bgE.contains ((mdl f d:Nat):Int)with
  |false =>rw[hb]at A w;simp only[go_sem,JD,TE,TD,u,um,U,uo,rL e,J,hV.SG e,M,biN,N,A,biF,Yc];exact W _ _ Sq (aSF hm w)
  |true=>
   rw[hb]at A w;simp only[go_sem,JD,TE,TD,u,um,U,uo,rL e,J,hV.SG e,M,biN,N,A,bhZ,Yd,hV.Lf e];have up:=λ{K:cF} [Up K] {F:PF} {H:PH}=>a0R (C:=C) (K:=K) f hV p O oD set k (set.take k) (by rw[biI];omega) B d e (F:=F) (H:=H);refine up (by unfold aFA;exact Lq) hD ?_ ?_
   ·intro Q H' Y R;simp only[go_sem];exact W _ _ Y (aSE (k:=k+1) (by rw[E];exact R))
   ·intro S;simp only[go_sem,TD,Yi,wZz k];refine aJ (k+1,X.set oD (.rows 1 (bJ (lH f (set.take k++[(d:Int)]))))) ⟨hlt,?_,?_,?_,by rw[E];exact S⟩ (by simp only;omega) Lq b_
    ·simp only[bC,aE hn];exact N
    ·simp only[cZ,E]
    ·rw[E];intro y hy;rcases bjB.1 hy with h|h
     ·exact biB.1 i y h
     ·rw[bjH.1 h];exact w
 ·have u:¬(k:Int)<(Z' set:Nat):=Om;have:k=Z' set:=Om;subst this;rw[biS]at i B;simp only[go_sem,JD,TE,TD,u];exact hK _ _ (by rw[sA,i,B];rfl)

def baE(down:List Int)(d:Int):Bool:=decide (0<=d)&&down.contains d
def baF(down:List Int)(d:Int):Bool:=decide (0<=d)&&!down.contains d
def bdL(down row:List Int):Bool:=row.any (baE down)
def a3U(down row:List Int):Nat:=row.countP (baF down)
def a7R(f:aD)(d:Int)(down:List Int)(v:Nat)(row:List Int):Bool:=bdL down row&&decide (((a3U down row:Nat):Int)<(kI f v).k+d)
def baG(f:aD)(e:L2_)(d:Int)(down:List Int)(n:Nat):Bool:=(bhP n).all λv=>!a7R f d down v (e.getD v [])
def Wy(f:aD)(e:L2_)(d:Int)(down:List Int):Bool:=baG f e d down e.length


theorem fM{t:Nat}{b d:Bool}{F:PF}{H:PH}(h:F t=some (.bool b))(e:b=d):aZ [.tmp t] (aI (.bool d)) .ret F H:=by
 subst e;exact bE (.inr rfl) .nil (vs:=[.bool b]) (by rw[pJ,sW,h,uL]) a_ ⟨rfl,rfl⟩
theorem a0Q(f:aD)(hV:VF f)(p:cE)(hp:∀m∈p.bgE,0<=m/\m<Z' f.bgE)(l:Fits p.bgE)(set:List Int)(U:aEK f set) :
  cl.wp C (aZ aSK.res (aI (.bool (sA f p set)))) (g_ [.agg f.cells,.agg p.cells,ints set]) .nil:=by
 have e:=hV.small;have w:(Z' f.bgE:Int)*((1:Nat):Int)<=140737488355328:=by have:=e.bgE;omega
 have x:(Z' f.bgE:Int)<=9223372036854775807:=by have:=e.bgE;omega
 have y:(0:Int)<=(Z' f.bgE:Int):=Om;have E:(Z' f.bgG:Int)*((8:Nat):Int)<=140737488355328:=by have:=e.bgG;omega
 have F:(Z' f.bgG:Int)<=9223372036854775807:=by have:=e.bgG;omega
 have H:(0:Int)<=(Z' f.bgG:Int):=Om;simp only[go_sem,cl,atC,atD,aSK,bhO,w,x,y,Int.le_refl,bjN];refine aQ λu V=>?_;rw[cj];simp only[go_sem,atE,bhO];refine wp_loop (α:=Nat) (λk=>(((((((n_.set 2 (ints set)).set 3 (.bK f.cells)).set 4 (.bK p.cells)).set 7 (.osl u 1 0 f.bgE.length)).set 20 (ints p.bgE)).set 21 (.int .i64 (Z' p.bgE:Nat))).set 22 (.int .i64 k))) (λk=>h_.set u (.rows 1 (eK (marks f.bgE.length (p.bgE.take k))))) (λk=>k<=Z' p.bgE) (λk=>Z' p.bgE-k) 0 (bhT _) Lq (by rw[blF];exact b_) ?_;intro k W;simp only[go_sem,atB,atF];by_cases hlt:k<Z' p.bgE
 ·have d:(k:Int)<(Z' p.bgE:Nat):=Om;have J:(p.bgE.map λn=>[PV.int .i64 n])[k]?=some [.int .i64 p.bgE[k]]:=by simp[hlt]
  obtain⟨M,N⟩:=hp _ (bhS hlt);have A:(p.bgE[k]).toNat<(eK (marks f.bgE.length (p.bgE.take k))).length:=by rw[LS,fw];omega
  have B:(eK (marks f.bgE.length (p.bgE.take k)))[(p.bgE[k]).toNat]?=some [.bool ((p.bgE.take k).contains p.bgE[k])]:=by unfold eK;rw[biL,KF M N];rfl
  have O:Z' p.bgE<=9223372036854775807:=by have:=l;omega
  simp only[go_sem,d,atG,J,atH,M,N,biN,B,A,oQ,fx M N,atI,wZz k];refine aJ (k+1) hlt Om Lq ?_;rw[bjF hlt];exact b_
 ·have d:¬(k:Int)<(Z' p.bgE:Nat):=Om;have:k=Z' p.bgE:=Om;subst this;rw[biS];simp only[go_sem,d,atJ,bhO,E,F,H,Int.le_refl,bjN];refine aQ λoD hD=>?_;have Q:u≠oD:=by rintro rfl;simp only[cZ]at hD;cases hD
  rw[aRR];simp only[go_sem,atK,bhO];refine aLO (C:=C) f hV p u oD Q set U (by unfold TD;(repeat' (first|exact c_|refine d_ ?_ ?_))<;>first|(simp only[go_sem,bhO]<;>rfl)|rfl) (by simp only[bC,aE Q,if_true]) (by rw[cZ]) ?_ ?_
  ·intro R H' S i;simp only[go_sem];exact fM S i.symm
  ·intro R H' K;simp only[go_sem,Yj];exact fM Sq K.symm
theorem aLJ(set:List Int)(top:Int){k:Nat}:(bhP (k+1)).all (qX set top)=((bhP k).all (qX set top)&&qX set top k):=by
 rw[List.range_succ,List.all_append];simp
theorem a0T(set:List Int)(Q:Z' set<=1000000000000000)(n top:Int) :
  cq.wp C (aZ aSN.res (aI (.bool (qL set n top)))) (g_ [ints set,.int .i64 n,.int .i64 top]) .nil:=by
 have B:qL set n top=(decide ((Z' set:Int)=n)&&(bhP set.length).all (qX set top)):=rfl;simp only[go_sem,cq,atM,atO,aSN,bhO];refine wp_loop (α:=Nat) (λk=>((((((n_.set 0 (ints set)).set 1 (.int .i64 n)).set 2 (.int .i64 top)).set 9 (ints set)).set 10 (.int .i64 (Z' set:Nat))).set 11 (.int .i64 k))) (λ_=>.nil) (λk=>k<=Z' set/\(bhP k).all (qX set top)=true) (λk=>Z' set-k) 0 ⟨bhT _,rfl⟩ Lq a_ ?_;rintro k ⟨O,e⟩;have bad:k<Z' set->qX set top k=false->qL set n top=false:=by
  intro h M;rw[B];have:(bhP set.length).all (qX set top)=false:=by simp only[List.all_eq_false,biM];exact⟨k,h,by rw[M];simp⟩
  rw[this,bjE]
 by_cases hlt:k<Z' set
 ·have d:(k:Int)<(Z' set:Nat):=Om;have E:(set.map λn=>[PV.int .i64 n])[k]?=some [.int .i64 set[k]]:=by simp[hlt]
  have N:set.getD k 0=set[k]:=by simp[bhX,hlt]
  have l:qX set top k=((decide (0<=set[k])&&decide (set[k]<top))&&(decide (k=0)||decide (set.getD (k-1) 0<set[k]))):=by rw[qX,N]
  have bgZ:qX set top k=true->(bhP (k+1)).all (qX set top)=true:=λh=>by rw[aLJ,e,h];rfl
  generalize set[k]=x at *
  simp only[go_sem,Kc,Kd,d,atQ,E];by_cases p:x<0
  ·simp only[go_sem,HX,p,lk];exact fM Sq (bad hlt (by rw[l,bG (Om:¬0<=x)];rfl)).symm
  by_cases A:x>=top
  ·simp only[go_sem,HX,p,A,lk];exact fM Sq (bad hlt (by rw[l,bG (Om:¬x<top),bjE];rfl)).symm
  rw[bA (Om:0<=x),bA (Om:x<top),bjY,biA]at l;by_cases H:k=0
  ·subst H;simp only[go_sem,HX,p,A,show ¬((0:Nat):Int)>0 by omega,Ke,wZz 0];exact aJ 1 ⟨hlt,biB.1 (bgZ (by rw[l];rfl))⟩ Om Lq a_
  obtain⟨j,rfl⟩:∃j,k=j+1:=⟨k-1,by omega⟩;have K:i_.wrap (((j+1:Nat):Int)-1)=(j:Int):=by rw[wrap_i64 Om Om];omega
  have u:j<Z' set:=Om;have i:(j:Int)<(Z' set:Nat):=Om;have w:(set.map λn=>[PV.int .i64 n])[j]?=some [.int .i64 set[j]]:=by simp[u]
  have F:set.getD (j+1-1) 0=set[j]:=by simp[bhX,u]
  rw[F,bG H,Bool.false_or]at l;generalize set[j]=y at *
  by_cases J:y>=x
  ·simp only[go_sem,HX,p,A,show((j+1:Nat):Int)>0 by omega,K,w,i,J,lk];exact fM Sq (bad hlt (by rw[l,bG (Om:¬y<x)])).symm
  ·simp only[go_sem,HX,p,A,show((j+1:Nat):Int)>0 by omega,K,w,i,J,Ke,dZ (Om:j+1<9223372036854775807)];exact aJ (j+1+1) ⟨hlt,biB.1 (bgZ (by rw[l,bA (Om:y<x)]))⟩ Om Lq a_
 ·have d:¬(k:Int)<(Z' set:Nat):=Om;have:k=Z' set:=Om;subst this;rw[e,bjY]at B;simp only[go_sem,Kc,Kd,d,atS,bhO];exact fM (b:=decide ((Z' set:Int)=n)) (by simp only[go_sem];rfl) B.symm
theorem vM{f:aD}{bgP:Int}(h:lC f bgP=true):VF f/\0<=bgP/\bgP.toNat<Z' f.bgH/\bgP=(bgP.toNat:Nat):=by
 unfold lC at h;simp only[bhQ,dT_]at h;exact⟨VF.of h.1,h.2.1,by omega,by omega⟩
theorem EU{f:aD}{bgP:Int}(h:lC f bgP=true):dW f bgP∈f.bgH/\f.bgH[bgP.toNat]?=some (dW f bgP):=by
 obtain⟨_,_,d,_⟩:=vM h;have e:dW f bgP=f.bgH[bgP.toNat]:=by simp[dW,bhX,d]
 rw[e];exact⟨bhS d,biD d⟩
theorem aLT(val:∀f:aD,f.Ok->aH C 96 [.agg f.cells] .nil (aI (.int .i64 (uR f))))(f:aD)(i:f.Ok)(bgP:Int) :
  NY.wp C (aZ Yo.res (aI (.bool (lC f bgP)))) (g_ [.agg f.cells,.int .i64 bgP]) .nil:=by
 have e:=val f i;unfold uR at e;simp only[go_sem,NY,N8,N9,Yo];refine aB e Ev ?_;have d:lC f bgP=(dC f&&(decide (0<=bgP)&&decide (bgP<Z' f.bgH))):=rfl;cases hp:dC f with
 |false =>rw[hp,bhY]at d;simp only[go_sem,bL (show(1:Int)≠0 by decide)];exact fM Sq d.symm
 |true=>
  rw[hp,biA]at d;by_cases c:bgP>=0
  ·rw[bA (Om:0<=bgP),biA]at d;simp only[go_sem,bY (show(0:Int)=0 from rfl),c,bhO];exact fM (b:=decide (bgP<Z' f.bgH)) Sq d.symm
  ·rw[bG (Om:¬0<=bgP),bhY]at d;simp only[go_sem,bY (show(0:Int)=0 from rfl),c,bhO];exact fM Sq d.symm
structure aLA(C:Ctx):Prop where
 adm:∀(f:aD)(p:cE)(set:List Int),VF f->(∀m∈p.bgE,0<=m/\m<Z' f.bgE)->Fits p.bgE->aEK f set->aH C 201 [.agg f.cells,.agg p.cells,ints set] .nil (aI (.bool (sA f p set)))
 known:∀(f:aD)(bgP:Int),f.Ok->aH C 203 [.agg f.cells,.int .i64 bgP] .nil (aI (.bool (lC f bgP)))
structure aZJ(C:Ctx):Prop extends aLA C where
 asc:∀(set:List Int)(n top:Int),Z' set<=1000000000000000->aH C 202 [ints set,.int .i64 n,.int .i64 top] .nil (aI (.bool (qL set n top)))
theorem aSI{set:List Int}{n top:Int}(h:qL set n top=true):(Z' set:Int)=n:=by
 unfold qL at h;simp only[bhQ,dT_]at h;exact h.1
theorem a0K{set:List Int}{n top:Int}(h:qL set n top=true):∀x∈set,0<=x/\x<top:=by
 unfold qL at h;simp only[bhQ,dT_,biB,biM]at h;intro x e;obtain⟨i,hi,rfl⟩:=bjD e;have:=h.2 i hi;unfold qX at this;simp only[bhQ,dT_]at this;have d:set.getD i 0=set[i]:=by simp[bhX,hi]
 rw[d]at this;exact this.1
theorem aLP(y:aZJ C)(f:aD)(E:f.Ok)(bgP:Int)(set:List Int)(J:Z' set<=1000000000000000) :
  NV.wp C (aZ Yk.res (aI (.bool (sB f bgP set)))) (g_ [.agg f.cells,.int .i64 bgP,ints set]) .nil:=by
 have d:sB f bgP set=(lC f bgP&&(qL set (mY (dW f bgP)) f.bgD.length&&sA f (dW f bgP) set)):=rfl;simp only[go_sem,NV,Np,Nq,Yk];refine aB (y.known f bgP E) Ev ?_;cases x:lC f bgP with
 |false =>rw[x,bhY]at d;simp only[go_sem,Nr];exact fM Sq d.symm
 |true=>
  rw[x,biA]at d;obtain⟨hV,F,N,M⟩:=vM x;obtain⟨l,A⟩:=EU x;have u:=hV.bgP _ l;have i:=(E.bgP _ l).bgE;have e:(f.bgH.map cE.cells)[bgP.toNat]?=some (dW f bgP).cells:=by rw[biL,A];rfl
  generalize dW f bgP=p at *
  have hlt:bgP<(Z' f.bgH:Nat):=Om;have K:i_.wrap (p.k+p.m)=p.k+p.m:=wrap_i64 Om Om;simp only[go_sem,bhZ,Ns,F,hlt,bhO,e];refine aQ λq O=>?_;simp only[go_sem,Nt,bhO,K];refine aB (y.asc set (p.k+p.m) f.bgD.length J) Ev ?_;have B:mY p=p.k+p.m:=rfl;rw[B]at d;cases w:qL set (p.k+p.m) f.bgD.length with
  |false =>rw[w,bhY]at d;simp only[go_sem];exact fM Sq d.symm
  |true =>rw[w,biA]at d;have H:=aSI w;simp only[go_sem];refine aB (y.adm f p set hV u.2.2.2.2.2.2.2 i ⟨by omega,a0K w⟩) Ev ?_;simp only[go_sem];exact fM Sq d.symm
theorem TG{m:Nat}(d:m<=1000):∀i,i<=1000->(gU m i).natAbs<=1000^i
 |0,_=>bhV _
 |i+1,h=>by have e:=TG d i Om;have hb:((m:Int)-(i:Int)).natAbs<=1000:=Om;rw[gU,Int.natAbs_tdiv,Int.natAbs_mul,bjU];exact biQ (bkZ _ _) (blA e hb)
theorem A4{m:Nat}(d:m<=1000){i:Nat}(hi:i<=3):-1000000000<=gU m i/\gU m i<=1000000000:=by
 have h:=TG d i Om;have:1000^i<=1000^3:=blS Om hi;have e:(1000:Nat)^3=1000000000:=by decide
 omega
theorem aFE(m n:Nat)(p:m<=1000)(M:n<=3) :
  JE.wp C (aZ Kf.res (aI (.int .i64 (max (gU m n) 0)))) (g_ [.int .i64 m,.int .i64 n]) .nil:=by
 simp only[go_sem,JE,Aw,Ax,Ay,Kf];refine wp_loop (α:=Nat) (λk=>((((n_.set 0 (.int .i64 m)).set 1 (.int .i64 n)).set 5 (.int .i64 (gU m k))).set 6 (.int .i64 k))) (λ_=>.nil) (λk=>k<=n) (λk=>n-k) 0 (bhT _) (by(repeat' (first|exact c_|refine d_ ?_ ?_))<;>first|(simp only[go_sem,gU]<;>rfl)|rfl) a_ ?_;intro k K;simp only[go_sem,Av,Az];by_cases hlt:k<n
 ·have d:(k:Int)<(n:Nat):=Om;obtain⟨b1,b2⟩:=A4 p (i:=k) Om;have B:=TG p k Om;have hb:((m:Int)-(k:Int)).natAbs<=1000:=Om;have l:=blA (biQ B (blS Om (Om:k<=2))) hb;rw[<-Int.natAbs_mul]at l;have e:(1000:Nat)^2*1000=1000000000:=by decide
  have E:i_.wrap ((m:Int)-(k:Int))=(m:Int)-k:=wrap_i64 Om Om;have F:i_.wrap (gU m k*((m:Int)-(k:Int)))=gU m k*((m:Int)-k):=wrap_i64 Om Om;have H:i_.wrap ((k:Int)+1)=(k:Int)+1:=wrap_i64 Om Om;have w:¬((k:Int)+1)=0:=Om;obtain⟨y,A⟩:=A4 p (i:=k+1) Om;have x:gU m (k+1)=Int.tdiv (gU m k*((m:Int)-k)) ((k:Int)+1):=by rw[gU]
  rw[x]at y A;have J:i_.wrap (Int.tdiv (gU m k*((m:Int)-k)) ((k:Int)+1))=Int.tdiv (gU m k*((m:Int)-k)) ((k:Int)+1):=wrap_i64 Om Om;simp only[go_sem,d,A0,E,F,H,w,J];simp only[go_sem,A1,wZz k];exact aJ (k+1) hlt Om (by(repeat' (first|exact c_|refine d_ ?_ ?_))<;>first|(simp only[go_sem,x]<;>rfl)|rfl) a_
 ·have d:¬(k:Int)<(n:Nat):=Om;have:k=n:=Om;subst this;simp only[go_sem,d,A2];have u:(if gU m k<0 then 0 else gU m k)=max (gU m k) 0:=by split<;>omega
  rw[u];refine aT (.inr rfl) Ev ?_;rfl
def VK(k:Nat)(b:Bool):Nat:=if b then k+1 else k
theorem oj{α:Type}(q:α->Bool)(l:List α){i:Nat}(h:i<Z' l):(l.take (i+1)).countP q=VK ((l.take i).countP q) (q l[i]):=by
 rw[bjF h,blO];unfold VK;cases d:q l[i]<;>simp[d]
def MR(sc:L2_)(set:List Int)(m:Int)(n i:Nat):PF:=((((((n_.set 1 (ints set)).set 2 (.int .i64 m)).set 7 (.int .i64 n)).set 14 (lay sc)).set 15 (.int .i64 (Z' sc:Nat))).set 16 (.int .i64 i))
def rT(sc:L2_)(set:List Int)(m:Int)(n i:Nat)(b:Nat)(s:List Int)(j:Nat):PF:=((((((((((n_.set 1 (ints set)).set 2 (.int .i64 m)).set 7 (.int .i64 n)).set 14 (lay sc)).set 15 (.int .i64 (Z' sc:Nat))).set 16 (.int .i64 i)).set 10 (.int .i64 b)).set 20 (ints s)).set 21 (.int .i64 (Z' s:Nat))).set 22 (.int .i64 j))
theorem aFG{K:cF}[Up K](sc:L2_)(set:List Int)(A:Z' set<=1000000000000000)(m:Int)(n i b:Nat)(s:List Int)(j:Nat)(d:Int)(k:Nat)(w:k<=fN set d){F:PF}{H:PH}
  (x:(((rT sc set m n i b s j).set 13 (.int .i64 d)).set 11 (.int .i64 k)).le F)
  (u:K (.exit 4) (((rT sc set m n i b s j).set 13 (.int .i64 d)).set 11 (.int .i64 (fN set d:Nat))) H) :
  aC.wp C (.loop EM) K F H:=by
 refine wp_loop (α:=Nat) (λk=>((rT sc set m n i b s j).set 13 (.int .i64 d)).set 11 (.int .i64 k)) (λ_=>H) (λk=>k<=fN set d) (λk=>fN set d-k) k w x b_ ?_;intro k w;have y:=Mp set d;by_cases hlt:k<Z' set
 ·have l:(k:Int)<(Z' set:Nat):=Om;have p:(set.map λn=>[PV.int .i64 n])[k]?=some [.int .i64 set[k]]:=by simp[hlt]
  by_cases c:k<fN set d
  ·have hb:set[k]<d:=XY set d c;simp only[go_sem,EM,TI,rT,bhO,l,p,hb,Oa,wZz k];exact aJ (k+1) c Om Lq b_
  ·have e:k=fN set d:=Om;subst e;have hb:¬set[fN set d]<d:=aAK set d hlt;simp only[go_sem,EM,TI,rT,bhO,l,p,hb];refine Up.up ?_ u;unfold rT;exact Lq
 ·have l:¬(k:Int)<(Z' set:Nat):=Om;have e:k=fN set d:=Om;subst e;simp only[go_sem,EM,TI,rT,bhO,l];refine Up.up ?_ u;unfold rT;exact Lq
theorem aLU{K:cF}[Up K](sc:L2_)(set:List Int)(U:Z' set<=1000000000000000)(W:set.Pairwise (· < ·))(m:Int)(n i:Nat)(s:List Int)(X:Z' s<=1000000000000000)(E:s.Pairwise (· < ·)){F:PF}{H:PH}
  (M:((rT sc set m n i 0 s 0).set 11 (.int .i64 0)).le F)
  (N:K (.exit 2) ((MR sc set m n i).set 10 (.int .i64 (qY set s:Nat))) H) :
  aC.wp C (.loop LX) K F H:=by
 refine wp_loop (α:=Nat × Nat) (λt=>(rT sc set m n i ((s.take t.1).countP λd=>set.contains d) s t.1).set 11 (.int .i64 t.2)) (λ_=>H) (λt=>t.1<=Z' s/\∀d∈s.drop t.1,t.2<=fN set d) (λt=>Z' s-t.1) (0,0) ⟨bhT _,λd _=>bhT _⟩ (by simpa using M) b_ ?_;rintro⟨j,k⟩ ⟨S,J⟩;simp only at S J;by_cases hlt:j<Z' s
 ·have u:(j:Int)<(Z' s:Nat):=Om;have A:(s.map λn=>[PV.int .i64 n])[j]?=some [.int .i64 s[j]]:=by simp[hlt]
  have l:=oj (λd=>set.contains d) s hlt;have p:s.drop j=s[j]::s.drop (j+1):=bjS hlt;have B:k<=fN set s[j]:=J _ (by rw[p];exact List.mem_cons_self ..);have bgZ:∀d∈s.drop (j+1),fN set s[j]<=fN set d:=by intro d Q;have:=E.sublist (List.drop_sublist j s);rw[p,List.pairwise_cons]at this;exact aPU set (Int.le_of_lt (this.1 d Q))
  have e:=aXL W s[j];have O:(s.take j).countP (λd=>set.contains d)<=j:=biQ List.countP_le_length (by rw[biI];omega);generalize(s.take j).countP (λd=>set.contains d)=b at *
  generalize s[j]=d at *
  simp only[go_sem,LX,uv,rT,u,Yv,A];have Y:=λ{K:cF} [Up K] {F:PF}=>aFG (C:=C) (K:=K) sc set U m n i b s j d k B (F:=F) (H:=H);refine Y (by unfold rT;exact Lq) ?_;have V:=Mp set d;by_cases c:fN set d<Z' set
  ·have x:((fN set d:Nat):Int)<(Z' set:Nat):=Om;have w:(set.map λn=>[PV.int .i64 n])[fN set d]?=some [.int .i64 set[fN set d]]:=by simp[c]
   have R:set.getD (fN set d) 0=set[fN set d]:=by simp[bhX,c]
   rw[bA c,biA,R]at e;by_cases y:set[fN set d]=d
   ·rw[bA y]at e;rw[e]at l;simp only[go_sem,rT,LY,bhO,x,w,bY y,Ob,wZz b,LZ,wZz j];exact aJ (j+1,fN set d) ⟨hlt,bgZ⟩ (by simp only;omega) (by(repeat' (first|exact c_|refine d_ ?_ ?_))<;>first|(simp only[go_sem,l,VK]<;>rfl)|rfl) b_
   ·rw[bG y]at e;rw[e]at l;simp only[go_sem,rT,LY,bhO,x,w,bL y,LZ,wZz j];exact aJ (j+1,fN set d) ⟨hlt,bgZ⟩ (by simp only;omega) (by(repeat' (first|exact c_|refine d_ ?_ ?_))<;>first|(simp only[go_sem,l,VK]<;>rfl)|rfl) b_
  ·have x:¬((fN set d:Nat):Int)<(Z' set:Nat):=Om;rw[bG c,bhY]at e;rw[e]at l;simp only[go_sem,rT,LY,bhO,x,LZ,wZz j];exact aJ (j+1,fN set d) ⟨hlt,bgZ⟩ (by simp only;omega) (by(repeat' (first|exact c_|refine d_ ?_ ?_))<;>first|(simp only[go_sem,l,VK]<;>rfl)|rfl) b_
 ·have u:¬(j:Int)<(Z' s:Nat):=Om;have:j=Z' s:=Om;subst this;simp only[go_sem,LX,uv,rT,u,biS];refine Up.up ?_ N;unfold MR qY;exact Lq
theorem aSR(sc:L2_)(A:Z' sc<=1000000000000000)(u:∀s∈sc,Z' s<=1000000000000000/\s.Pairwise (· < ·))(set:List Int)(y:Z' set<=1000000000000000)(w:set.Pairwise (· < ·))(m:Int) :
  TH.wp C (aZ aFF.res (aI (.int .i64 (oK sc set m:Nat)))) (g_ [lay sc,ints set,.int .i64 m]) .nil:=by
 simp only[go_sem,TH,Yp,Yq,Yr,aFF,bhO];refine wp_loop (α:=Nat) (λi=>MR sc set m ((sc.take i).countP λs=>decide (((qY s set:Nat):Int)>m)) i) (λ_=>.nil) (λi=>i<=Z' sc) (λi=>Z' sc-i) 0 (bhT _) (by unfold MR;exact Lq) a_ ?_;intro i hi;by_cases hlt:i<Z' sc
 ·have e:(i:Int)<(Z' sc:Nat):=Om;have p:(sc.map λr=>[ints r])[i]?=some [ints sc[i]]:=by simp[hlt]
  have d:=oj (λs=>decide (((qY s set:Nat):Int)>m)) sc hlt;obtain⟨k1,k2⟩:=u sc[i] (bhS hlt);have x:(sc.take i).countP (λs=>decide (((qY s set:Nat):Int)>m))<=i:=biQ List.countP_le_length (by rw[biI];omega);generalize(sc.take i).countP (λs=>decide (((qY s set:Nat):Int)>m))=n at *
  generalize sc[i]=s at *
  have l:qY set s=qY s set:=No (w.imp (λh=>by omega)) (k2.imp (λh=>by omega));simp only[go_sem,cu,uu,MR,e,Ys,p,Yt,Yu,bhO];have one:=λ{K:cF} [Up K] {F:PF} {H:PH}=>aLU (C:=C) (K:=K) sc set y w m n i s k1 k2 (F:=F) (H:=H);refine one (by unfold rT;exact Lq) ?_;rw[l];by_cases c:((qY s set:Nat):Int)>m
  ·rw[bA c]at d;simp only[go_sem,MR,cv,c,Oc,wZz n,cw,wZz i];exact aJ (i+1) hlt Om (by(repeat' (first|exact c_|refine d_ ?_ ?_))<;>first|(simp only[go_sem,d,VK]<;>rfl)|rfl) a_
  ·rw[bG c]at d;simp only[go_sem,MR,cv,c,cw,wZz i];exact aJ (i+1) hlt Om (by(repeat' (first|exact c_|refine d_ ?_ ?_))<;>first|(simp only[go_sem,d,VK]<;>rfl)|rfl) a_
 ·have e:¬(i:Int)<(Z' sc:Nat):=Om;have:i=Z' sc:=Om;subst this;rw[biS];simp only[go_sem,cu,uu,MR,e,Od];refine aT (.inr rfl) Ev ?_;rfl
def Kept(f:aD)(p:cE)(xs:List Int):Prop:=∀i,i<Z' f.bgG->eS f p i>0->fY f xs i<=eS f p i
theorem Kept.nil(f:aD)(p:cE):Kept f p []:=λi _ h=>by
 have:fY f [] i=0:=by unfold fY;split<;>simp
 omega
def IU(f:aD)(p:cE)(xs:List Int)(d:Nat)(k:Nat):Prop:=∀i,i<Z' f.bgG->4-(k:Int)<lvl f i->eS f p i>0->fY f (xs++[(d:Int)]) i<=eS f p i
theorem IU.zero{f:aD}(hV:VF f){p:cE}(xs:List Int)(d:Nat):IU f p xs d 0:=λi hi h _=>by
 have:=hV.qD hi;omega
theorem IU.done{f:aD}(hV:VF f){p:cE}(u:eS f p 0<=0){xs:List Int}{d:Nat}(h:IU f p xs d 4):Kept f p (xs++[(d:Int)]):=λi hi l=>by
 have:=hV.qD hi;by_cases e:i=0
 ·subst e;omega
 ·exact h i hi Om l
theorem IU.next{f:aD}(hV:VF f){p:cE}{xs:List Int}{d k:Nat}(y:d<Z' f.bgD)(A:k<4)(w:Kept f p xs)(h:IU f p xs d k)(x:eS f p (upN f k (eM f d))>0->fY f (xs++[(d:Int)]) (upN f k (eM f d))<=eS f p (upN f k (eM f d))):IU f p xs d (k+1):=λi hi B u=>by
 by_cases e:4-(k:Int)<lvl f i
 ·exact h i hi e u
 have l:lvl f i=4-(k:Int):=Om;by_cases c:i=upN f k (eM f d)
 ·subst c;exact x u
 have:fY f (xs++[(d:Int)]) i=fY f xs i:=by
  unfold fY;split
  ·rfl
  ·rw[blO,blK,List.countP_nil];have:lJ f i (d:Int)=false:=by unfold lJ dM;rw[l,show(4-(4-(k:Int)).toNat)=k by omega,bjN];simp[show ¬upN f k (eM f d)=i from λh=>c h.symm]
   rw[this];simp
 rw[this];exact w i hi u
theorem aMR{q:Nat->Bool}{n:Nat}:∀{i:Nat},i<n->q i=true->((bhP n).filter q)[(bhP i).countP q]?=some i:=by
 intro i hi d;have e:bhP n=bhP i++(i::bkB (i+1) (n-i-1)):=by rw[List.range_eq_range',List.range_eq_range',show i::bkB (i+1) (n-i-1)=bkB i (n-i-1+1)from rfl];have:=List.range'_append (s:=0) (m:=i) (n:=n-i-1+1) (step:=1);rw[Nat.one_mul,biN]at this;rw[this];congr 1;omega
 rw[e,List.filter_append,List.filter_cons_of_pos d,List.countP_eq_length_filter,bkF (bhV _),bkR];rfl
def InR(l:List Int)(n:Nat):Prop:=∀x∈l,0<=x/\x<(n:Int)
def kj(f:aD)(d:L2_)(r:Int)(l:List Int):Bool:=!l.isEmpty&&Wy f d r l
def aWU(f:aD)(p:L2_)(r:Int)(e:L2_)(d:Nat):L2_:=match e.findIdx? (λl=>Wy f p r (l++[(d:Int)]))with
 |some i=>e.set i (e.getD i []++[(d:Int)])
 |none=>e++[[(d:Int)]]
def Ip(f:aD)(e:L2_)(r:Int):Nat->L2_
 |0=>[]
 |d+1=>aWU f e r (Ip f e r d) d
def aLI(f:aD)(e:L2_)(r:Int):Bool:=(bhP f.bgD.length).all λd=>Wy f e r [(d:Int)]
theorem set_perm:∀(d:L2_) (i:Nat) (x:Int),i<Z' d->((d.set i (d.getD i []++[x])).flatten).Perm (d.flatten++[x])
 |[],i,x,h=>by cases h
 |l::d,0,x,_=>by simp only[blP,List.getD_cons_zero,List.flatten_cons,biY];exact List.Perm.append_left _ List.perm_append_comm
 |l::d,i+1,x,h=>by have:=set_perm d i x (by simpa using h);simp only[List.set_cons_succ,List.getD_cons_succ,List.flatten_cons,biY];exact List.Perm.append_left _ this
structure X2(f:aD)(now:L2_)(r:Int)(n:Nat)(w:L2_):Prop where
 ok:∀l∈w,kj f now r l=true
 len:Z' w.flatten=n
 nd:w.flatten.Nodup
 rng:InR w.flatten n
theorem X2.put{f:aD}{d:L2_}{r:Int}{n:Nat}{w:L2_}(h:X2 f d r n w)(y:Wy f d r [(n:Int)]=true):X2 f d r (n+1) (aWU f d r w n):=by
 have p:∀u:L2_,u.flatten.Perm (w.flatten++[(n:Int)])->(∀l∈u,kj f d r l=true)->X2 f d r (n+1) u:=λu hp A=>by
  refine⟨A,by rw[hp.length_eq,bhW,h.len];rfl,hp.nodup_iff.2 ?_,λx B=>?_⟩
  ·rw[bkV];refine⟨h.nd,by simp,λa y b hb=>?_⟩;rw[bjH]at hb;subst hb;have:=h.rng a y;omega
  ·have:=hp.mem_iff.1 B;rw[bjB,bjH]at this;rcases this with B|rfl
   ·have:=h.rng x B;omega
   ·omega
 unfold aWU;split
 ·rename_i i hi;obtain⟨hlt,hp,-⟩:=List.findIdx?_eq_some_iff_getElem.1 hi;refine p _ (set_perm w i n hlt) λl e=>?_;rcases blZ e with e|rfl
  ·exact h.ok l e
  ·unfold kj;rw[bhX,biD hlt,bkC,hp];simp
 ·refine p _ (by rw[List.flatten_append];simp) λl e=>?_;rw[bjB,bjH]at e;rcases e with e|rfl
  ·exact h.ok l e
  ·unfold kj;rw[y];rfl
theorem Vg{f:aD}{e:L2_}{r:Int}(i:aLI f e r=true):∀d,d<=Z' f.bgD->X2 f e r d (Ip f e r d)
 |0,_=>⟨(λl h=>by cases h),rfl,.nil,λx h=>by cases h⟩
 |d+1,p=>(Vg i d Om).put (biB.1 i d (biM.2 Om))
end Go.PM
namespace Go.RO
open Go
def ins(x:Int):List Int->List Int
 |[]=>[x]
 |y::ys=>if y<x then y::ins x ys else if y=x then y::ys else x::y::ys
end Go.RO
namespace Go.PM
open Go Go.Na






def aZT(c:UInt8)(n:Nat):List UInt8:=[c,UInt8.ofNat (97+n/26%26),UInt8.ofNat (97+n%26)]
def Z2(ds:List cS)(level parent bgX:Nat):List cS:=ds++[⟨aZT 110 ds.length,(level:Nat),(parent:Nat),(bgX:Nat),nY⟩]
theorem aVO(a b:Nat)(i:a<4294967296)(hb:b<4294967296):(mkT (a:Int) (b:Int)).Ok:=by
 rw[axJ];have d:=bkZ a (bhR a b);have e:=bkZ b (bhR a b);have k1:nl (a/bhR a b)<=1:=(mO _ _).2 Om;have k2:nl (b/bhR a b)<=1:=(mO _ _).2 Om;refine⟨aX _,aX _,?_,?_⟩
 ·show(aL _).length<=_;rw[bF];omega
 ·show(aL _).length<=_;rw[bF];omega
theorem aeE{n:Nat}(h:n<=1000000):dL (n:Int):=by unfold dL;omega
def Xm(ds:List cS):Prop:=∀x∈ds,x.bgS.Ok/\dL x.level/\dL x.parent
theorem Xm.dom{ds:List cS}(h:Xm ds){level parent bgX:Nat}(e:level<=1000)(i:parent<=1000):Xm (Z2 ds level parent bgX):=λx d=>by
 unfold Z2 at d;rw[bjB,bjH]at d;rcases d with d|rfl
 ·exact h x d
 ·exact⟨aVO 0 1 aS aS,aeE Om,aeE Om⟩
structure FM(f:aD):Prop where
 ok:f.Ok
 km:∀p∈f.bgH,1<=p.k/\p.k<=2/\0<=p.m/\p.m<=2
 bgD:Z' f.bgD<=9
 pols:1<=Z' f.bgH/\Z' f.bgH<=2
 vols:∀x∈f.bgF,0<=x.bgP/\x.bgP<Z' f.bgH
theorem FM.pol{f:aD}(h:FM f){v:Nat}(e:v<Z' f.bgF):zD f v<Z' f.bgH/\kI f v∈f.bgH:=by
 have i:=h.vols _ (bhS e);have l:zD f v=(f.bgF[v]).bgP.toNat:=by rw[zD,getD_at e]
 have d:zD f v<Z' f.bgH:=Om;refine⟨d,?_⟩;unfold kI;rw[bhX,biD d,bkC];exact bhS d
theorem FM.aTX{f:aD}(h:FM f){v:Nat}(d:v<Z' f.bgF):1<=kF f v/\kF f v<=4:=by
 have:=h.km _ (h.pol d).2;unfold kF;omega
abbrev baP(l:List Int)(a:Nat):aY:=.rows 2 [[ints l,.int .i64 (a:Nat)]]
section
variable {C:Ctx} {F:PF} {H Hs:PH} {l:List Int} {o a:Nat}
end
structure ME where
 o:Nat
 o4:Nat
 o5:Nat
 vols:Nat
abbrev ME.boxes(E:ME)(l:List Int)(ext d e i p wp wv:PV)(a:Nat):List BX:=[(E.o5,flB ext d e i p wp wv),(E.o,baP l a),(E.o4,flZ)]





def bcP(ds:List cS)(i:Nat)(d:cS):Prop:=∃lev p u:Nat,d.name=aZT 110 (i+1)/\d.level=lev/\1<=lev/\lev<=4/\d.parent=p/\p<=i/\(lvs ds)[p]?=some ((lev:Int)-1)/\d.bgX=u/\1<=u/\u<=64/\d.bgS=nY
structure DV(ds:List cS):Prop where
 root:ds[0]?=some rC
 dom:∀i (hi:i+1<Z' ds),bcP ds i ds[i+1]
theorem DV.new{ds:List cS}(h:DV ds){level parent up:Nat}(w:1<=level)(x:level<=4)(hp:(lvs ds)[parent]?=some ((level:Int)-1))(A:1<=up)(B:up<=64) :
  DV (Z2 ds level parent up)/\(lvs (Z2 ds level parent up))[Z' ds]?=some (level:Int):=by
 have y:parent<Z' ds:=by
  have:=(biZ.1 hp).1
  rwa[bhO]at this
 unfold Z2;refine⟨⟨by rw[bkE Om];exact h.root,λi hi=>?_⟩,?_⟩
 ·simp only[bhW,biC]at hi;by_cases hlt:i+1<Z' ds
  ·rw[bmC hlt];obtain⟨lev,p,v,g1,g2,g3,g4,d,e,l,u⟩:=h.dom i hlt;exact⟨lev,p,v,g1,g2,g3,g4,d,e,II l,u⟩
  ·have:i+1=Z' ds:=Om;rw[bmA Om];simp only[List.getElem_singleton];exact⟨level,parent,up,by rw[this],rfl,w,x,rfl,by omega,II hp,rfl,A,B,rfl⟩
 ·unfold lvs;rw[biV,bkF (by rw[bhO];exact bhV _),bhO,bkR];rfl




theorem aR.store{H:PH}{B:List BX}{L:List LI}(h:aR H B L)(i:Nat){q s n:Nat}{rows:P2_}(hi:L[i]?=some (.osl q s 0 n,s,rows))(k:Nat)(c:List PV) :
  ∃rs,H q=some (.rows s rs)/\n<=Z' rs/\rs.take n=rows/\aR (H.set q (.rows s (rs.set k c))) B (L.set i (.osl q s 0 n,s,rows.set k c)):=by
 obtain⟨rs,l,u,d,e⟩:=(h.own i hi).id rfl;injection u with _ _ _ w
 subst w;refine⟨rs,l,d,e,h.YN i hi (.inr ⟨q,rs.set k c,by rw[bjO],by rw[cZ],by rw[bjO,bjO];exact d,by rw[bjO,List.take_set,e]⟩) (λp hp=>.inl hp) λp _ hp=>?_⟩;have:p≠q:=hp q rfl;rw[bC,aE this]

open Go Go.RowKit Go.Sort Go.Shelf Go.Proofs
section
variable {E:Env} {H:PH} {w:World}
end
section
variable {C:Ctx} {ρ:Ren} {name:Nat}
end
open Go Go.RowKit Go.Sort Go.Shelf Go.Proofs
section
variable {C:Ctx} {ρ:Ren} {name:Nat}
end
abbrev lists(d:L2_):PV:=.sl 1 (d.map λw=>[ints w])
abbrev WPs:=List (PV × List Int)
def fE(ps:WPs):P2_:=ps.map λp=>[p.1]
def vK(ps:WPs):List LI:=ps.map λp=>(p.1,1,bJ p.2)
def wls(ps:WPs):L2_:=ps.map (·.2)
def jI(d:PV)(ps:WPs):List LI:=(d,1,fE ps)::vK ps
section
variable {H:PH} {B:List BX}
theorem tF(ps:WPs):(fE ps).length=Z' ps:=bhO _
theorem K8{ps:WPs}{i:Nat}{v:PV}{w:List Int}(hi:ps[i]?=some (v,w)):(vK ps)[i]?=some (v,1,bJ w):=by
 unfold vK;rw[biL,hi];rfl
theorem ajI{ps:WPs}{i:Nat}{v:PV}{w:List Int}(hi:ps[i]?=some (v,w)):(fE ps)[i]?=some [v]:=by
 unfold fE;rw[biL,hi];rfl
theorem aR.mq(h:aR H B []):aR H B (jI .aK []):=h.qU 1
theorem aR.inner{d:PV}{ps:WPs}(h:aR H B (jI d ps)){i:Nat}{v:PV}{w:List Int}(hi:ps[i]?=some (v,w)):cA H 1 v (bJ w):=h.own (i+1) (K8 hi)
theorem aR.outer{d:PV}{ps:WPs}(h:aR H B (jI d ps)):cA H 1 d (fE ps):=h.own 0 rfl
theorem JY(a b:List Int):bJ (a++b)=bJ a++bJ b:=biV
theorem aR.baO{u:PV}{ps:WPs}(h:aR H B (jI u ps)){i b:Nat}{v y:PV}{w src:List Int}{K:PV->PH->Prop}(hi:ps[i]?=some (v,w))(F:eA H 1 y=some (bJ src))(A:roomFor w.length src.length b)(l:src≠[])
  (x:∀q H',aR H' B ((u,1,fE ps)::(vK ps).set i (.osl q 1 0 (w++src).length,1,bJ (w++src)))->K (.osl q 1 0 (w++src).length) H'):sG H 1 b v y K:=by
 have d:bJ src≠[]:=λe=>l (List.map_eq_nil_iff.1 e);refine h.append (i+1) (K8 hi) F (by rw[dN,dN];exact A) λv' H' p E=>?_;obtain⟨q,rfl⟩:=E d;rw[<-JY,dN]at p ⊢;exact x q H' p
theorem aR.a7S{d n i:Nat}{ps:WPs}{v':PV}{l:List Int}(h:aR H B ((.osl d 1 0 n,1,fE ps)::(vK ps).set i (v',1,bJ l))) :
  ∃rs,H d=some (.rows 1 rs)/\n<=Z' rs/\rs.take n=fE ps/\aR (H.set d (.rows 1 (rs.set i [v']))) B (jI (.osl d 1 0 n) (ps.set i (v',l))):=by
 obtain⟨rs,p,u,w,x⟩:=h.store 0 rfl i [v'];refine⟨rs,p,u,w,?_⟩;have e:jI (.osl d 1 0 n) (ps.set i (v',l))=((.osl d 1 0 n,1,fE ps)::(vK ps).set i (v',1,bJ l)).set 0 (.osl d 1 0 n,1,(fE ps).set i [v']):=by unfold jI fE vK;rw[List.map_set,List.map_set];rfl
 rw[e];exact x
theorem aR.a2Z{d:PV}{ps:WPs}{b:Nat}{y:PV}{K:PV->PH->Prop}(h:aR H B (jI d ps))(x:eA H 1 y=some [[.aK]])(u:roomFor ps.length 1 b)
  (p:∀q H',aR H' B (jI (.osl q 1 0 (Z' ps+1)) (ps++[(.aK,[])]))->K (.osl q 1 0 (Z' ps+1)) H'):sG H 1 b d y K:=by
 refine h.append 0 (src:=[[.aK]]) rfl x (by rw[tF];exact u) λv' H' l w=>?_;obtain⟨q,rfl⟩:=w bH;have i:=l.qU 1;rw[bhW,tF]at i ⊢;refine p q H' ?_;have e:jI (.osl q 1 0 (Z' ps+1)) (ps++[(.aK,[])])=(((d,1,fE ps)::vK ps).set 0 (.osl q 1 0 (Z' ps+1),1,fE ps++[[.aK]]))++[(.aK,1,[])]:=by unfold jI fE vK;rw[biV,biV];rfl
 rw[e];exact i
def xS(d:P2_)(e:L2_):Prop:=Z' d=Z' e/\∀(i:Nat) r w,d[i]?=some r->e[i]?=some w->r=[ints w]\/(r=[.aK]/\w=[])
theorem xS.nil:xS [] []:=⟨rfl,λi r w h=>by cases h⟩
theorem xS.snoc{l:P2_}{p:L2_}{u:PV}{w:List Int}(h:xS l p)(y:u=ints w\/(u=.aK/\w=[])):xS (l++[[u]]) (p++[w]):=by
 refine⟨by simp[h.1],λi r x d e=>?_⟩;rcases Nat.lt_trichotomy i l.length with c|c|c
 ·rw[bkE c]at d;rw[bkE (by rw[<-h.1];exact c)]at e;exact h.2 i r x d e
 ·subst c;rw[bkF (bhV _),bkR]at d;rw[h.1,bkF (bhV _),bkR]at e;cases d;cases e;rcases y with rfl|⟨rfl,rfl⟩
  ·exact .inl rfl
  ·exact .inr ⟨rfl,rfl⟩
 ·rw[bkF Om,bjJ (by simp;omega)]at d;cases d
theorem xS.flat{e:P2_}{u:L2_}(h:xS e u):Flat e:=Flat.of λr p c d q s rs=>by
 obtain⟨i,hi⟩:=List.mem_iff_getElem?.1 p;have l:=(biZ.1 hi).1;rcases h.2 i r _ hi (biD (by rw[<-h.1];exact l))with rfl|⟨rfl,-⟩
 ·rw[bjH]at d;subst d;rfl
 ·rw[bjH]at d;subst d;rfl
theorem xS.co{y:P2_}{x:L2_}(h:xS y x):Co (.sl 1 y) (lists x):=by
 have u:∀(i:Nat) r t,y[i]?=some r->(x.map λw=>[ints w])[i]?=some t->∃w,t=[ints w]/\(r=[ints w]\/(r=[.aK]/\w=[])):=λi r t e d=>by
  rw[biL]at d;cases E:x[i]? with
  |none=>rw[E]at d;cases d
  |some w =>rw[E]at d;cases d;exact⟨w,rfl,h.2 i r w e E⟩
 refine .sl (by rw[bhO,h.1]) (λi r t e d=>?_) (λi j p q hp l=>?_)
 ·obtain⟨w,rfl,A|⟨A,-⟩⟩:=u i r t e d<;>subst A<;>rfl
 ·unfold at2 at hp l;cases e:y[i]? with
  |none=>rw[e]at hp;cases hp
  |some r=>
   cases d:(x.map λw=>[ints w])[i]? with
   |none=>rw[d]at l;cases l
   |some t=>
    rw[e]at hp;rw[d]at l;obtain⟨w,rfl,A⟩:=u i r t e d;rcases A with rfl|⟨rfl,rfl⟩
    ·have:some p=some q:=hp.symm.trans l;cases this;exact .refl _
    ·cases j with
     |zero=>cases hp;cases l;exact .nil 1
     |succ j=>cases hp
end
end Go.PM
