/-Lemmas for the law. No condition.-/
import Derived.Test.YtjlbgiaeggfcaaaGreatDoorCP4
import Derived.Test.YtjlbgiaeggfcaaaGreatDoorRows
import Derived.KernelRfl
import Derived.LaidMore
import Derived.Stop.Joined
import Derived.Lib.SlicesCompact
import Derived.Shelf.Sort.Plain
import Derived.Shelf.Slices.CompactI
import Derived.Shelf.Slices.In.SortNone
set_option linter.unusedSimpArgs false
set_option linter.unusedVariables false
open Nat renaming reduceEqDiff->γ,reduceAdd->δ,reduceSub->ε,reduceMul->ζ,reduceLT->η,reduceLeDiff->θ,reduceBEq->τ
open Int renaming reduceLT->ι,reduceLE->κ,reduceEq->μ,reduceToNat->ν,reduceAdd->ξ,reduceNeg->ο,reduceBEq->ρ,reduceBNe->σ
open List renaming reduceReplicate->υ
open List renaming length_map->bkG,range->bkH,getElem_mem->bkK,replicate->bkM,length_append->bkQ,all_eq_true->bkS,getElem?_eq_getElem->bkT,length_singleton->bkV,mem_cons->bkX,length_take->bkY,take_of_length_le->bkZ,getD_eq_getElem?_getD->blB,getElem?_map->blC,not_mem_nil->blD,take_length->blE,mem_map->blF,map_append->blK,map_cons->blM,mem_range->blN,take_succ_eq_append_getElem->blO,getElem?_eq_some_iff->blQ,mem_append->blV,append_assoc->blW,getElem_map->blX,getElem_of_mem->blZ,getElem?_eq_none->bmA,length_cons->bmB,length_set->bmD,map_nil->bmE,mem_singleton->bmF,append_nil->bmJ,drop_eq_getElem_cons->bmP,length_drop->bmQ,range'->bmR,getElem?_append_left->bmU,Sublist->bmW,getElem?_append_right->bmY,length_nil->bnB,map_congr_left->bnH,nodup_append->bnI,set_append_right->bnJ,ext_getElem->bnM,map_map->bnN,take_append_drop->bnP,all_append->bnX,all_cons->bnY,nil_append->boD,range_succ->boE,set_cons_zero->boF,getElem?_set->boM,mem_or_eq_of_mem_set->boN,countP_le_length->boO,length_filter_le->boP,getElem_append_right->boQ
open Bool renaming and_eq_true->bkI,not_true->bkO,false_and->bkP,true_and->bkR,not_false->bkW,and_false->blR,and_true->bmO,and_self->bmV,and_assoc->bnT
open Nat renaming gcd->bkJ,zero_le->bkL,le_refl->bkN,zero_add->blG,le_trans->blH,lt_or_ge->blI,pow_succ->bmM,add_zero->bmS,eq_zero_or_pos->bmZ,add_assoc->bnC,pos_of_ne_zero->bnE,sub_self->bnF,div_le_self->bnQ,pow_le_pow_right->bnR,mul_le_mul->bnV
open Option renaming map_some->blJ,some->bmH,getD_some->bnG
open Int renaming toNat->blS,toNat_natCast->bmI,tdiv->bmX
open List renaming length->Z'
set_option maxRecDepth 100000
set_option maxHeartbeats 800000
open Go.IntKind renaming i64->i_,u64->u_
open Go.PM.PF renaming nil->n_,args->g_
open Go.PM.PH renaming nil->h_
noncomputable section
namespace Go.Proofs.YtjlbgiaeggfcaaaGreatDoor
open Go Go.PM Go.RowKit Go.ChangeShapes Go.WideShapes
noncomputable def C:Ctx:=⟨Tryz.prog,num⟩
def iw:Code->Option (Code × Code)
 | .rangeFunc _ _ a b=>some (a,b)
 | .seq a b=>match iw a with|some x=>some x|none=>iw b
 | .block _ c=>iw c
 |_=>none
def a2X(c:Option Code):Code:=match c with|some c=>((iw c).getD (.skip,.skip)).1|none=>.skip
def a2Y(c:Option Code):Code:=match c with|some c=>((iw c).getD (.skip,.skip)).2|none=>.skip
theorem bS(T:Tbl){k:Nat}{fn:Func}{pf:bB}(l:C.P.funcs[C.num k]?=some fn)(e:C.P=T.P:=by rfl)(d:C.num=T.num:=by rfl)(u:(fn.name=="runtime.NumGoroutine")=false:=by kernel_rfl)(i:T.func fn=some pf:=by kernel_rfl):bQ C k pf:=λ_ _ _ p h=>Rm e d l u i p h
theorem a3A(T:Tbl){k:Nat}{fn:Func}{pf:JD}(l:C.P.funcs[C.num k]?=some fn)(i:T.aJP fn=some pf)(e:C.P=T.P:=by rfl)(d:C.num=T.num:=by rfl)(u:(fn.name=="runtime.NumGoroutine")=false:=by kernel_rfl):A0 C k pf:=λ_ _ _ p h=>aJC e d l u i p h
theorem Tryz.own:ownKnob Tryz.prog.godebug=none:=by kernel_rfl
theorem Tryz.laidOut:laidOutB Tryz.prog=true:=by kernel_rfl
theorem itoa:JB C:=λn p=>by
 refine⟨⟨Tryz.f88,Tryz.func88,by kernel_rfl,by kernel_rfl⟩,λE w vs u hW d=>?_⟩;obtain⟨x⟩:=vs;cases d with
 |cons i e2=>
 cases e2;cases i;refine(Any.strconv_Itoa_small Tryz.a5H n p w).mono λe y l=>?_;obtain⟨rfl,rfl⟩:=l;exact⟨_,.str (cU n),E,.nil,rfl,hW,.str ⟨(Lib.decDigits n).toArray⟩,.refl _ _ _,rfl,rfl⟩
theorem aOX{pv:PV}(h:PV.Ty (.sl [.int .u8]) pv):∃l:List Nat,pv=.sl 1 (mG l)/\(∀x∈l,x<256)/\Z' l<=9223372036854775807:=by
 obtain⟨xs,rfl,w,e⟩:=Ty.aYD h;refine⟨xs.map blS,?_,?_,?_⟩
 ·unfold aKO mG;rw[bnN];congr 1;refine bnH λx i=>?_;have:=(e x i).1;simp only[Function.comp];rw[Int.toNat_of_nonneg this]
 ·intro y p;obtain⟨x,d,rfl⟩:=blF.1 p;have:=(e x d).2;have u:=(e x d).1;have d:IntKind.u8.max=255:=by decide
  rw[d]at this;omega
 ·rw[bkG];have:maxLen<=9223372036854775807:=by decide
  omega
end Go.Proofs.YtjlbgiaeggfcaaaGreatDoor
namespace Go.PM
open Go Go.Na
theorem oV{f:aE}(h:VF f){i:Nat}(hi:i<Z' f.biY):0<=lvl f i/\lvl f i<=4:=by
 rcases bmZ i with e|e
 ·rw[e,h.root.2.1];omega
 ·have:=h.dom i e hi;omega


theorem aAD(a b:Nat):mkT (a:Int) (b:Int)=⟨false,aM (a/bkJ a b),aM (b/bkJ a b)⟩:=by
 have d:decide ((a:Int)<0)=false:=bC Om;have e:decide ((b:Int)<0)=false:=bC Om;unfold mkT pD FV.rf;rw[d,e,Int.natAbs_natCast,Int.natAbs_natCast];rfl
structure SmF(x:RF)(p q:Nat):Prop where
 eq:x=⟨false,aM (p/bkJ p q),aM (q/bkJ p q)⟩
 a:p<=64
 b:q<=64
 pos:0<q
theorem SmF.mk'{a b:Nat}(d:a<=64)(hb:b<=64)(h:0<b):SmF (mkT (a:Int) (b:Int)) a b:=⟨aAD a b,d,hb,h⟩
theorem SmF.num{x:RF}{a b:Nat}(h:SmF x a b):val x.num=a/bkJ a b:=by rw[h.eq,aW]
theorem SmF.den{x:RF}{a b:Nat}(h:SmF x a b):val x.den=b/bkJ a b:=by rw[h.eq,aW]
theorem SmF.v{x:RF}{a b:Nat}(h:SmF x a b):x.v=(false,a/bkJ a b,b/bkJ a b):=by
 unfold RF.v;rw[h.num,h.den,h.eq]
theorem SmF.alO{x:RF}{a b:Nat}(_:SmF x a b):a/bkJ a b<=a:=bnQ ..
theorem SmF.acM{x:RF}{a b:Nat}(_:SmF x a b):b/bkJ a b<=b:=bnQ ..
theorem SmF.den_pos{x:RF}{a b:Nat}(h:SmF x a b):0<b/bkJ a b:=Nat.div_pos (Nat.le_of_dvd h.pos (Nat.gcd_dvd_right a b)) (Nat.gcd_pos_of_pos_right a h.pos)
theorem ID{n:Nat}(h:n<=4096):dC n<=32:=(rC n 32).2 Om
theorem atK{n:Nat}(h:0<n):0<dC n:=by
 rcases bmZ (dC n)with e|e
 ·rw[oN]at e;omega
 ·exact e
theorem BT{a b:Nat}(e:a<=4096)(hb:b<=4096)(h:0<b):cB a b=true:=by
 have i:=ID e;have l:=ID hb;have d:=atK h;unfold cB;rw[aV d,aV (Om:dC b<=4096),aV (Om:dC a<=4096)];rfl
theorem azY{n:Bool}{a b:Nat}(d:a<=4096)(hb:b<=4096):kB n a b=.ok (n&&decide (a/bkJ a b≠0),a/bkJ a b,b/bkJ a b):=by
 have e:=ID (blH (bnQ a (bkJ a b)) d);have i:=ID (blH (bnQ b (bkJ a b)) hb);unfold kB;rw[aD Om]
theorem SmF.lim{x:RF}{a b:Nat}(h:SmF x a b):dX x=true:=by
 have l:=h.alO;have p:=h.acM;have d:=h.den_pos;have:=h.a;have:=h.b;have e:x.neg=false:=by rw[h.eq]
 unfold dX mY;rw[h.num,h.den,e,BT Om Om d,aI rfl,azY Om Om];have i:=bnQ (a/bkJ a b) (bkJ (a/bkJ a b) (b/bkJ a b));have e2:=bnQ (b/bkJ a b) (bkJ (a/bkJ a b) (b/bkJ a b));simp only[bkP,bkW,bkR,bkI,dT_];exact⟨ID Om,ID Om⟩
theorem SmF.uR{x:RF}{a b:Nat}(h:SmF x a b)(d:0<a):bZ x=true:=by
 unfold bZ;rw[h.num];exact aV (Nat.ne_of_gt (Nat.div_pos (Nat.le_of_dvd d (Nat.gcd_dvd_left a b)) (Nat.gcd_pos_of_pos_right a h.pos)))
theorem SmF.zero{x:RF}{b:Nat}(h:SmF x 0 b):bZ x=false:=by
 unfold bZ;rw[h.num,Nat.zero_div];rfl
theorem SmF.one{x:RF}{a b:Nat}(h:SmF x a b)(d:a<=b):FO x=true:=by
 have l:=h.alO;have p:=h.acM;have e:=h.den_pos;have:=h.a;have:=h.b;have i:x.neg=false:=by rw[h.eq]
 unfold FO;rw[h.num,h.den,i,BT Om Om e];have:a/bkJ a b<=b/bkJ a b:=Nat.div_le_div_right d;show(true&&decide (eR (a/bkJ a b*1) (1*(b/bkJ a b))<=0))=true;rw[Nat.mul_one,Nat.one_mul,bkR];refine aV ?_;unfold eR;split
 ·decide
 ·split
  ·omega
  ·decide
theorem SmF.ok{x:RF}{a b:Nat}(h:SmF x a b):x.Ok:=by
 have d:=h.alO;have e:=h.acM;have:=h.a;have:=h.b;have k1:nl (a/bkJ a b)<=1:=(mQ _ _).2 Om;have k2:nl (b/bkJ a b)<=1:=(mQ _ _).2 Om;rw[h.eq];refine⟨aY _,aY _,?_,?_⟩
 ·show(aM _).length<=_;rw[bE];omega
 ·show(aM _).length<=_;rw[bE];omega
theorem a3X:∀c:Fin 9,∀k:Fin 9,c.val+k.val<=8 ->
  (c.val/bkJ c.val 8*(8/bkJ k.val 8)+k.val/bkJ k.val 8*(8/bkJ c.val 8))/bkJ (c.val/bkJ c.val 8*(8/bkJ k.val 8)+k.val/bkJ k.val 8*(8/bkJ c.val 8)) (8/bkJ c.val 8*(8/bkJ k.val 8))=(c.val+k.val)/bkJ (c.val+k.val) 8 /\
  8/bkJ c.val 8*(8/bkJ k.val 8)/bkJ (c.val/bkJ c.val 8*(8/bkJ k.val 8)+k.val/bkJ k.val 8*(8/bkJ c.val 8)) (8/bkJ c.val 8*(8/bkJ k.val 8))=8/bkJ (c.val+k.val) 8:=by decide +kernel
abbrev eV(c:Nat):FV:=(false,c/bkJ c 8,8/bkJ c 8)
theorem pw(c:Nat):0<8/bkJ c 8:=Nat.div_pos (Nat.le_of_dvd aU (Nat.gcd_dvd_right c 8)) (Nat.gcd_pos_of_pos_right c aU)
theorem aaC{c k:Nat}(h:c+k<=8):gJ (eV c) (eV k)=.ok (eV (c+k)):=by
 obtain⟨d,e2⟩:=a3X ⟨c,by omega⟩ ⟨k,by omega⟩ h;simp only at d e2;have a1:=bnQ c (bkJ c 8);have a2:=bnQ k (bkJ k 8);have a3:=bnQ 8 (bkJ c 8);have a4:=bnQ 8 (bkJ k 8);have e:=pw c;have i:=pw k;simp only[gJ];rw[BT Om Om e,BT Om Om i,bmV,aI rfl,aI trivial];have b1:c/bkJ c 8*(8/bkJ k 8)<=8*8:=bnV Om a4;have b2:k/bkJ k 8*(8/bkJ c 8)<=8*8:=bnV Om a3;have l:8/bkJ c 8*(8/bkJ k 8)<=8*8:=bnV a3 a4;rw[azY Om Om,d,e2];rfl
theorem jw:∀(l:List Nat)(c:Nat),c+l.sum<=8->(l.map eV).foldlM gJ (eV c)=.ok (eV (c+l.sum))
 |[],c,_=>rfl
 |k::l,c,h=>by rw[List.sum_cons]at h;rw[blM,List.foldlM_cons,aaC Om,List.sum_cons,<-bnC];exact jw l (c+k) Om
theorem a3W:eV 0=(false,0,1):=by decide +kernel
theorem aWR:eV 8=(false,1,1):=by decide +kernel
theorem a7I(l:List Nat)(h:l.sum=8):(match tD (l.map eV)with
  | .ok (n,a,b)=>decide (sW n a b false 1 1=0)
  | .error _=>false)=true:=by
 unfold tD;rw[<-a3W,jw l 0 Om,blG,h,aWR];rfl
def dig(k:Nat):List UInt8:=if k<10 then[UInt8.ofNat (48+k)]else[UInt8.ofNat (48+k/10),UInt8.ofNat (48+k%10)]
def nv:List UInt8->Nat
 |[a]=>a.toNat-48
 |[a,b]=>(a.toNat-48)*10+(b.toNat-48)
 |_=>0
theorem fi{k:Nat}(h:k<100):cU k=dig k:=by
 unfold cU dig;by_cases d:k<10
 ·rw[aI d];exact Lib.decDigits_one d
 ·rw[aD d];exact Lib.decDigits_two d h
theorem acO:∀k:Fin 100,nv (dig k.val)=k.val/\(dig k.val).length<=2/\((dig k.val).all λc=>jV c.toNat)=true:=by decide +kernel
theorem Nm{p:List UInt8}{c:UInt8}{t:List UInt8}(e:p=c::t)(i:gX c.toNat=true)(w:(t.all λc=>jV c.toNat)=true)(x:Z' p<=8){k:Nat}(l:k<100):isName (p++cU k)=true:=by
 obtain⟨-,u,d⟩:=acO ⟨k,l⟩;simp only at u d;subst e;rw[fi l];show(decide ((c::t++dig k).length<=16)&&gX c.toNat&&(c::t++dig k).all λc=>jV c.toNat)=true;have hi:jV c.toNat=true:=by unfold jV;rw[i];rfl
 rw[aV (by rw[bkQ];omega),i,bnX,d,bnY,w,hi];rfl
theorem pu{l:List (List UInt8)}(d:∀x∈l,isName x=true)(p:l.Nodup):distinct l=true:=by
 unfold distinct;rw[bkS];intro i hi;rw[blN]at hi;have e:l.getD i []=l[i]:=by simp[blB,hi]
 rw[e,d _ (bkK hi),bkR];have:¬l[i]∈l.take i:=by intro w;obtain⟨j,u,e⟩:=blZ w;rw[bkY]at u;rw[List.getElem_take]at e;have:=(List.nodup_iff_pairwise_ne.1 p);rw[List.pairwise_iff_getElem]at this;exact this j i Om hi Om e
 simp[this]
theorem gk{l:List (List UInt8)}{g:List UInt8->Nat}(h:∀i (hi:i<Z' l),g l[i]=i):l.Nodup:=by
 rw[List.nodup_iff_pairwise_ne,List.pairwise_iff_getElem];intro i j hi p hlt e;have d:=h i hi;have u:=h j p;rw[e]at d;omega
theorem AJ{l:List (List UInt8)}{p:List UInt8}{c:UInt8}{t:List UInt8}(e:p=c::t)(d:gX c.toNat=true)(w:(t.all λc=>jV c.toNat)=true)(u:Z' p<=8)(A:Z' l<=100)(h:∀i (hi:i<Z' l),l[i]=p++cU i):distinct l=true:=by
 refine pu ?_ (gk (g:=λs=>nv (s.drop p.length)) ?_)
 ·intro x y;obtain⟨i,hi,rfl⟩:=blZ y;rw[h i hi];exact Nm e d w u Om
 ·intro i hi;rw[h i hi];simp only[List.drop_left];rw[fi Om];exact(acO ⟨i,by omega⟩).1
structure zX(x:RF):Prop where
 lim:dX x=true
 ok:x.Ok
theorem SmF.o{x:RF}{a b:Nat}(h:SmF x a b):zX x:=⟨h.lim,h.ok⟩
theorem wD:SmF oE 0 1:=SmF.mk' (a:=0) (b:=1) aU aU aU
theorem yL(l:List Nat)(a:Nat):zX (jK l a).1/\bZ (jK l a).1=true:=by
 have d:=cR l (show 0<6 by decide) a;have e:=cR l (show 0<8 by decide) (aJ l 6 a).2;have:=SmF.mk' (a:=1+(aJ l 6 a).1) (b:=1+(aJ l 8 (aJ l 6 a).2).1) Om Om Om;exact⟨this.o,this.uR Om⟩
theorem aVS(l:List Nat)(i j a:Nat):zX (mP l i j a).1/\(j=i->bZ (mP l i j a).1=false)/\(j=i+1->bZ (mP l i j a).1=true):=by
 unfold mP;by_cases d:j=i+1
 ·rw[aI d];exact⟨(yL l a).1,λh=>by omega,λ_=>(yL l a).2⟩
 ·rw[aD d];by_cases e:j=i
  ·rw[aI e];exact⟨wD.o,λ_=>wD.zero,λh=>absurd h d⟩
  ·rw[aD e];simp only;split
   ·exact⟨(yL l _).1,λh=>absurd h e,λh=>absurd h d⟩
   ·exact⟨wD.o,λh=>absurd h e,λh=>absurd h d⟩
theorem aDO(l:List Nat)(i a:Nat):∀n,(fL l i a n).1.length=n/\∀j (d:j<(fL l i a n).1.length),zX (fL l i a n).1[j]/\(j=i->bZ (fL l i a n).1[j]=false)/\(j=i+1->bZ (fL l i a n).1[j]=true)
 |0=>⟨rfl,λj d=>absurd d (by simp[fL])⟩
 |n+1=>by
  obtain⟨p,u⟩:=aDO l i a n;have e:(fL l i a (n+1)).1=(fL l i a n).1++[(mP l i n (fL l i a n).2).1]:=rfl;rw[e];refine⟨by simp[p],λj d=>?_⟩;by_cases hlt:j<(fL l i a n).1.length
  ·rw[List.getElem_append_left hlt];exact u j hlt
  ·rw[bkQ,bkV]at d;have:j=n:=Om;subst this;rw[boQ Om];simp only[List.getElem_singleton];exact aVS l i j _
theorem aDG(l:List Nat)(a:Nat):∀n,(oY l a n).1.length=n/\∀x∈(oY l a n).1,zX x/\bZ x=true
 |0=>⟨rfl,λx d=>by cases d⟩
 |n+1=>by
  obtain⟨i,p⟩:=aDG l a n;have e:(oY l a (n+1)).1=(oY l a n).1++[(jK l (oY l a n).2).1]:=rfl;rw[e];refine⟨by simp[i],λx d=>?_⟩;rw[blV,bmF]at d;rcases d with d|rfl
  ·exact p x d
  ·exact yL l _
theorem aWX(l:List Nat)(n i a:Nat):zX (hZ l n i a).1/\(i+1=n->bZ (hZ l n i a).1=true):=by
 unfold hZ;by_cases h:i+1<n
 ·simp only[aI h];refine⟨?_,λd=>by omega⟩;split
  ·exact wD.o
  ·exact(yL l a).1
 ·simp only[aD h];exact⟨(yL l a).1,λ_=>(yL l a).2⟩
def a8P(n:Nat)(bjA:List (List RF)):Prop:=∀i (hi:i<Z' bjA),bjA[i].length=n/\∀j (d:j<bjA[i].length),zX bjA[i][j]/\(j=i->bZ bjA[i][j]=false)/\(j=i+1->bZ bjA[i][j]=true)
def a8M(n:Nat)(exit:List RF):Prop:=∀i (hi:i<Z' exit),zX exit[i]/\(i+1=n->bZ exit[i]=true)
structure bfI(n i:Nat)(s:NW)(cs:List Nat):Prop where
 start:s.start=cs.map λc=>mkT ((c:Nat):Int) ((8:Nat):Int)
 lens:Z' s.exit=i/\Z' s.bjA=i/\Z' cs=i
 left:cs.sum+s.left=8/\(i=n->0<n->s.left=0)
 exit:a8M n s.exit
 bjA:a8P n s.bjA
theorem yT{α:Type}{P:Nat->α->Prop}{xs:List α}{x:α}(h:∀i (hi:i<Z' xs),P i xs[i])(d:P xs.length x):∀i (hi:i<(xs++[x]).length),P i (xs++[x])[i]:=by
 intro i hi;by_cases hlt:i<Z' xs
 ·rw[List.getElem_append_left hlt];exact h i hlt
 ·rw[bkQ,bkV]at hi;have:i=Z' xs:=Om;subst this;rw[boQ Om];simpa using d
theorem Sg(l:List Nat)(n a:Nat):∀i,i<=n->∃cs,bfI n i (kA l n a i) cs
 |0,_=>⟨[],rfl,⟨rfl,rfl,rfl⟩,⟨rfl,λh d=>by omega⟩,λi hi=>absurd hi (by simp[kA]),λi hi=>absurd hi (by simp[kA])⟩
 |i+1,hi=>by
  obtain⟨cs,u,⟨d,p,w⟩,⟨h5,-⟩,y,h7⟩:=Sg l n a i Om;generalize B:kA l n a i=s at *
  have e:kA l n a (i+1)=⟨s.start++[mkT ((fI l n i s).1:Nat) 8],s.exit++[(hZ l n i (fI l n i s).2).1],s.bjA++[(fL l i (hZ l n i (fI l n i s).2).2 n).1],s.left-(fI l n i s).1,(fL l i (hZ l n i (fI l n i s).2).2 n).2⟩:=by simp only[kA,B]
  rw[e];have A:(fI l n i s).1<=s.left/\(i+1=n->(fI l n i s).1=s.left):=by
   unfold fI;split
   ·exact⟨by have:=cR l (Om:0<s.left+1) s.a;omega,λh=>by omega⟩
   ·exact⟨bkN _,λ_=>rfl⟩
  refine⟨cs++[(fI l n i s).1],?_,⟨by simp[d],by simp[p],by simp[w]⟩,⟨?_,λh _=>?_⟩,?_,?_⟩
  ·simp only[u,blK,blM,bmE];rfl
  ·simp only[List.sum_append,List.sum_cons,List.sum_nil];omega
  ·have:=A.2 h;simp only;omega
  ·refine yT (P:=λi x=>zX x/\(i+1=n->bZ x=true)) y ?_;rw[d];exact aWX l n i _
  ·refine yT (P:=λi (r:List RF)=>Z' r=n/\∀j (E:j<Z' r),zX r[j]/\(j=i->bZ r[j]=false)/\(j=i+1->bZ r[j]=true)) h7 ?_;rw[p];exact aDO l i _ n
theorem aWV{x:dB}{e r:RF}(d:x.exit=[e])(i:x.bjA=[[r]])(l:bZ e=true):uS x=true:=by
 unfold uS;rw[d];show((eE x 2).all id)=true;simp only[eE,eA,pF,dL,d,i,bmB,bnB,List.getD_cons_zero,blM,bmE,l];cases bZ r<;>rfl
theorem ir{x:dB}{u w d e i l:RF}(y:x.exit=[u,w])(A:x.bjA=[[d,e],[i,l]])(B:bZ w=true)(E:bZ e=true)(a b:Bool) :
  ∃c,eA x [a,b] 2=[c,true]/\(b=true->c=true)/\(a=true->c=true):=by
 have F:pF x [a,b] 0=[((a||bZ u)||bZ d&&(a||bZ u))||b,b]:=by unfold pF;rw[y,A];simp only[List.getD_cons_zero,blM,boF];generalize(a||bZ u)=c;show dL [c,b] 0 [d,e] 2=_;have:dL [c,b] 0 [d,e] 1=[c||bZ d&&c,b]:=rfl;show(let p:=dL [c,b] 0 [d,e] 1;p.set 0 (p.getD 0 false||([d,e].map bZ).getD 1 false&&p.getD 1 false))=_;rw[this];show[(c||bZ d&&c)||(bZ e&&b),b]=_;rw[E,bkR]
 have H:∀c,pF x [c,b] 1=[c,true]:=by intro c;unfold pF;rw[y,A];have:dL [c,true] 1 [i,l] 1=[c,true||bZ i&&c]:=rfl;show dL [c,b||bZ w] 1 [i,l] 2=_;rw[B,Bool.or_true];show(let p:=dL [c,true] 1 [i,l] 1;p.set 1 (p.getD 1 false||([i,l].map bZ).getD 1 false&&p.getD 1 false))=_;rw[this,Bool.true_or];show[c,true||bZ l&&true]=_;rw[Bool.true_or]
 refine⟨_,by rw[show eA x [a,b] 2=pF x (pF x [a,b] 0) 1 from rfl,F,H],?_,?_⟩
 ·rintro rfl;rw[Bool.or_true]
 ·rintro rfl;simp
theorem aWW{x:dB}{l E y i A B:RF}(d:x.exit=[l,E])(p:x.bjA=[[y,i],[A,B]])(u:bZ E=true)(w:bZ i=true):uS x=true:=by
 unfold uS;rw[d];show((eE x 3).all id)=true;have e:∀r,eE x (r+1)=eA x (eE x r) 2:=λr=>by rw[eE,d];rfl
 have l:eE x 0=[false,false]:=by rw[eE,d];rfl
 obtain⟨F,k1,-,-⟩:=ir d p u w false false;obtain⟨H,k2,N,-⟩:=ir d p u w F true;obtain⟨M,J,K,-⟩:=ir d p u w H true;rw[e,e,e,l,k1,k2,J,K rfl];rfl
theorem ahH{c:Nat}:∀{cs:List Nat},c∈cs->c<=cs.sum
 |k::t,h=>by
  rw[List.sum_cons];rcases bkX.1 h with rfl|h
  ·omega
  ·have:=ahH h;omega
theorem ml{α:Type}{l:List α}(h:Z' l=2):∃a b,l=[a,b]:=by
 match l,h with
 |[a,b],_=>exact⟨a,b,rfl⟩
theorem baL(cs:List Nat)(h:cs.sum=8):(match tD ((cs.map λc=>mkT ((c:Nat):Int) ((8:Nat):Int)).map RF.v)with
  | .ok (n,a,b)=>decide (sW n a b false 1 1=0)
  | .error _=>false)=true:=by
 have i:∀c∈cs,c<=8:=λc d=>by have:=ahH d;omega
 have e:((cs.map λc=>mkT ((c:Nat):Int) ((8:Nat):Int)).map RF.v)=cs.map eV:=by rw[bnN];refine bnH λc d=>?_;have:=i c d;exact(SmF.mk' (a:=c) (b:=8) Om aU aU).v
 rw[e];exact a7I cs h
theorem IC{α:Type}{p:α->Bool}{l:List α}(h:∀i (hi:i<Z' l),p l[i]=true):l.all p=true:=by
 rw[bkS];intro x d;obtain⟨i,hi,rfl⟩:=blZ d;exact h i hi
theorem aKR(l:List Nat)(a:Nat)(K:List UInt8):oT { (xF l 2 a).1 with name:=K }=true/\({ (xF l 2 a).1 with name:=K }:dB).Ok:=by
 obtain⟨n,hn⟩:∃n,n=1+(aJ l 2 a).1:=⟨_,rfl⟩;have W:n=1\/n=2:=by have:=cR l (show 0<2 by decide) a;omega
 obtain⟨cs,O,⟨Z,h3,h4⟩,⟨h5,R⟩,M,h7⟩:=Sg l n (aJ l 2 a).2 n (bkN _);generalize hs:kA l n (aJ l 2 a).2 n=s at *
 have e:({ (xF l 2 a).1 with name:=K }:dB)=⟨K,s.start,s.bjA,s.exit⟩:=by simp only[xF,<-hn,hs]
 rw[e];have J:cs.sum=8:=by have:=R rfl Om;omega
 have V:∀c∈cs,c<=8:=λc S=>by have:=ahH S;omega
 have p:∀x∈s.start,zX x:=by intro x d;rw[O]at d;obtain⟨c,S,rfl⟩:=blF.1 d;have:=V c S;exact(SmF.mk' (a:=c) (b:=8) Om aU aU).o
 have β:Z' s.start=n:=by rw[O,bkG,h4]
 have w:uS ⟨K,s.start,s.bjA,s.exit⟩=true:=by
  rcases W with rfl|rfl
  ·obtain⟨e,A⟩:=List.length_eq_one_iff.1 Z;obtain⟨η,u⟩:=List.length_eq_one_iff.1 h3;have X:=(h7 0 Om).1;obtain⟨r,H⟩:=List.length_eq_one_iff.1 X;have d:=(M 0 Om).2 rfl;simp only[u,List.getElem_cons_zero]at H;simp only[A,List.getElem_cons_zero]at d;exact aWV A (by rw[u,H]) d
  ·obtain⟨e0,e1,A⟩:=ml Z;obtain⟨r0,r1,u⟩:=ml h3;have E:=(h7 0 Om).1;have F:=(h7 1 Om).1;have d:=(M 1 Om).2 rfl;have Y:=((h7 0 Om).2 1 Om).2.2 rfl;simp only[A,List.getElem_cons_succ,List.getElem_cons_zero]at d;simp only[u,List.getElem_cons_succ,List.getElem_cons_zero]at E F Y;obtain⟨γ,δ,y⟩:=ml E;obtain⟨ε,ζ,Q⟩:=ml F;simp only[y,List.getElem_cons_succ,List.getElem_cons_zero]at Y;exact aWW A (by rw[u,y,Q]) d Y
 constructor
 ·unfold oT;simp only[bkI];refine⟨⟨⟨⟨⟨⟨⟨?_,?_⟩,?_⟩,?_⟩,?_⟩,?_⟩,?_⟩,w⟩
  ·rw[within_iff];omega
  ·exact aV Om
  ·exact aV Om
  ·exact bkS.2 λx d=>(p x d).lim
  ·exact IC λi hi=>(M i hi).1.lim
  ·rw[bkS];intro i hi;rw[blN]at hi;obtain⟨k1,k2⟩:=h7 i hi;have eg:s.bjA.getD i []=s.bjA[i]:=by simp[blB,hi]
   rw[eg,bkI,bkI];refine⟨⟨aV Om,IC λj U=>(k2 j U).1.lim⟩,?_⟩;have B:i<s.bjA[i].length:=Om;rw[getD_at B,(k2 i B).2.1 rfl];rfl
  ·rw[O];exact baL cs J
 ·have N:∀m:Nat,m<=2->m<=9223372036854775807:=λm hm=>by omega
  have α:n<=2:=Om;refine⟨⟨?_,λx d=>(p x d).ok⟩,⟨?_,λx d=>?_⟩,?_,λr u=>⟨?_,λx d=>?_⟩⟩
  ·exact N s.start.length Om
  ·exact N s.exit.length Om
  ·obtain⟨i,hi,rfl⟩:=blZ d;exact(M i hi).1.ok
  ·exact N s.bjA.length Om
  ·obtain⟨i,hi,rfl⟩:=blZ u;have:=(h7 i hi).1;exact N (s.bjA[i]'hi).length Om
  ·obtain⟨i,hi,rfl⟩:=blZ u;obtain⟨j,U,rfl⟩:=blZ d;exact((h7 i hi).2 j U).1.ok
theorem qb(l:List Nat)(a:Nat):∀n,(kU l a n).1.length=n/\∀i (hi:i<(kU l a n).1.length),(kU l a n).1[i].name=[108,97,119]++cU i/\oT (kU l a n).1[i]=true/\(kU l a n).1[i].Ok
 |0=>⟨rfl,λi hi=>absurd hi (by simp[kU])⟩
 |n+1=>by obtain⟨d,p⟩:=qb l a n;have e:(kU l a (n+1)).1=(kU l a n).1++[{ (xF l 2 (kU l a n).2).1 with name:=[108,97,119]++cU n }]:=rfl;rw[e];refine⟨by simp[d],yT (P:=λi (x:dB)=>x.name=[108,97,119]++cU i/\oT x=true/\x.Ok) p ?_⟩;rw[d];exact⟨rfl,aKR l _ _⟩
theorem bj(l:List Nat)(bjC:Nat)(u:0<bjC)(a:Nat):∀n,(fX l bjC a n).1.length=n/\∀i (hi:i<(fX l bjC a n).1.length),(fX l bjC a n).1[i].name=[109]++cU i/\∃e p w:Nat,(fX l bjC a n).1[i].bjL=e/\1<=e/\e<=4/\(fX l bjC a n).1[i].port=p/\1<=p/\p<=8/\(fX l bjC a n).1[i].law=w/\w<bjC
 |0=>⟨rfl,λi hi=>absurd hi (by simp[fX])⟩
 |n+1=>by
  obtain⟨d,y⟩:=bj l bjC u a n;obtain⟨s,A⟩:∃s,s=fX l bjC a n:=⟨_,rfl⟩;have e:(fX l bjC a (n+1)).1=(fX l bjC a n).1++[⟨[109]++cU n,(1+(aJ l 4 s.2).1:Nat),(1+(aJ l 8 (aJ l 4 s.2).2).1:Nat),((aJ l bjC (aJ l 8 (aJ l 4 s.2).2).2).1:Nat)⟩]:=by rw[A];rfl
  rw[e];refine⟨by simp[d],yT (P:=λi (x:dW)=>x.name=[109]++cU i/\∃e p w:Nat,x.bjL=e/\1<=e/\e<=4/\x.port=p/\1<=p/\p<=8/\x.law=w/\w<bjC) y ?_⟩;rw[d];have k1:=cR l (show 0<4 by decide) s.2;have k2:=cR l (show 0<8 by decide) (aJ l 4 s.2).2;have B:=cR l u (aJ l 8 (aJ l 4 s.2).2).2;exact⟨rfl,_,_,_,rfl,by omega,by omega,rfl,by omega,by omega,rfl,B⟩
theorem HP(l:List Nat)(a:Nat):∃n:Nat,(kW l a).1=n/\n<=3:=by
 have h:=cR l (show 0<3 by decide) (aJ l 3 a).2;unfold kW;simp only;split
 ·exact⟨1+(aJ l 3 (aJ l 3 a).2).1,rfl,by omega⟩
 ·exact⟨0,rfl,by omega⟩
theorem gI{n lo hi:Int}(d:lo<=n)(e:n<=hi):within n lo hi=true:=within_iff.2 ⟨d,e⟩
theorem a9X{y:List UInt8}{k m q s1 s2 s3 s4 g h:Nat}{ms:List Int}{u:List RF}{mc:Nat}(B:1<=k)(E:k<=2)(S:m<=2)(H:k<=q)(J:q<=k+m)(K:s1<=3)(A:s2<=3)(M:s3<=3)(N:s4<=3)(Q:g<=8)(R:h<=4)
  (p:Z' u=max m 1) (l:∀x∈u,zX x/\bZ x=true)
  (F:mc<=2) (d:∃f:Nat,f<mc/\(ms=[(f:Int)]\/mc=2/\ms=[(f:Int),1-(f:Int)])) :
  mX mc ⟨y,(k:Nat),(m:Nat),(q:Nat),0,(s1:Nat),(s2:Nat),(s3:Nat),(s4:Nat),ms,u,mkT (g:Nat) ((8:Nat):Int),mkT (h:Nat) ((1:Nat):Int)⟩=true /\
  (⟨y,(k:Nat),(m:Nat),(q:Nat),0,(s1:Nat),(s2:Nat),(s3:Nat),(s4:Nat),ms,u,mkT (g:Nat) ((8:Nat):Int),mkT (h:Nat) ((1:Nat):Int)⟩:cJ).Ok:=by
 have G:=SmF.mk' (a:=g) (b:=8) Om aU aU;have Z:=SmF.mk' (a:=h) (b:=1) Om aU aU;obtain⟨f,O,d⟩:=d;constructor
 ·unfold mX WU ND;simp only[bkI,bnY,List.all_nil,bmO];refine⟨⟨⟨⟨⟨⟨⟨⟨gI Om Om,gI Om Om⟩,aV Om⟩,gI Om Om⟩,rfl⟩,gI Om Om,gI Om Om,gI Om Om,gI Om Om,gI Om Om⟩,?_⟩,⟨⟨⟨⟨aV (by rw[p];omega),?_⟩,G.lim⟩,G.one Om⟩,Z.lim⟩⟩,?_⟩
  ·rcases d with e|⟨-,e⟩<;>rw[e]<;>rfl
  ·rw[bkS];intro x i;rw[(l x i).1.lim,(l x i).2];rfl
  ·rw[bkS];rcases d with rfl|⟨rfl,rfl⟩
   ·intro j w;simp only[bmB,bnB,blN]at w;have:j=0:=Om;subst this;rw[bkI];exact⟨gI bH (by simp;omega),by simp⟩
   ·intro j w;simp only[bmB,bnB,blN]at w;have:j=0\/j=1:=Om;rcases this with rfl|rfl
    ·rw[bkI];exact⟨gI bH (by simp;omega),by simp⟩
    ·rw[bkI];refine⟨gI (by simp;omega) (by simp;omega),?_⟩;have:¬(1-(f:Int)=f):=Om;simp[this]
 ·refine⟨by unfold dJ;constructor<;>simp only<;>omega,by unfold dJ;constructor<;>simp only<;>omega,by unfold dJ;constructor<;>simp only<;>omega,?_,?_,⟨?_,λx i=>(l x i).1.ok⟩,G.ok,Z.ok⟩
  ·show ms.length<=_;rcases d with e|⟨-,e⟩<;>rw[e]<;>simp
  ·show ∀x∈ms,dJ x;unfold dJ;rcases d with e|⟨A,e⟩<;>rw[e]<;>intro x i<;>simp only[bkX,blD,or_false]at i
   ·subst i;omega
   ·rcases i with rfl|rfl<;>omega
  ·show u.length<=_;rw[p];omega
theorem Yp(l:List Nat){mc:Nat}(x:0<mc)(y:mc<=2)(i a:Nat):(rD l mc i a).1.name=[112]++cU i/\mX mc (rD l mc i a).1=true/\(rD l mc i a).1.Ok:=by
 refine⟨rfl,?_⟩;have H:=cR l (show 0<2 by decide) a;have J:=cR l (show 0<3 by decide) (aJ l 2 a).2;have F:=cR l (show 0<4 by decide) (aJ l 3 (aJ l 2 a).2).2;unfold rD;simp only;generalize aJ l 2 a=k at *
 generalize aJ l 3 k.2=m at *
 generalize aJ l 4 m.2=h at *
 have K:=cR l (Om:0<m.1+1) h.2;generalize aJ l (m.1+1) h.2=q at *
 obtain⟨r1,r2⟩:=aDG l q.2 (max m.1 1);generalize oY l q.2 (max m.1 1)=r at *
 have E:=cR l (show 0<9 by decide) r.2;generalize aJ l 9 r.2=g at *
 obtain⟨M,p,b1⟩:=HP l g.2;generalize kW l g.2=s1 at *
 obtain⟨N,e2,b2⟩:=HP l s1.2;generalize kW l s1.2=s2 at *
 obtain⟨O,u,d⟩:=HP l s2.2;generalize kW l s2.2=s3 at *
 obtain⟨Q,w,e⟩:=HP l s3.2;generalize kW l s3.2=s4 at *
 have A:=cR l x s4.2;generalize aJ l mc s4.2=f at *
 generalize aJ l 2 f.2=b at *
 rw[p,e2,u,w];refine a9X Om Om Om Om Om b1 b2 d e Om Om r1 r2 y ⟨f.1,A,?_⟩;split
 ·rename_i B;split
  ·exact .inr ⟨by omega,rfl⟩
  ·exact .inl rfl
 ·exact .inl rfl
theorem NC(l:List Nat){mc:Nat}(d:0<mc)(p:mc<=2)(a:Nat):∀n,(fM l mc a n).1.length=n/\∀i (hi:i<(fM l mc a n).1.length),(fM l mc a n).1[i].name=[112]++cU i/\mX mc (fM l mc a n).1[i]=true/\(fM l mc a n).1[i].Ok
 |0=>⟨rfl,λi hi=>absurd hi (by simp[fM])⟩
 |n+1=>by obtain⟨k1,k2⟩:=NC l d p a n;have e:(fM l mc a (n+1)).1=(fM l mc a n).1++[(rD l mc n (fM l mc a n).2).1]:=rfl;rw[e];refine⟨by simp[k1],yT (P:=λi (x:cJ)=>x.name=[112]++cU i/\mX mc x=true/\x.Ok) k2 ?_⟩;rw[k1];exact Yp l d p n _
theorem SR(l:List Nat){pc:Nat}(d:0<pc)(a:Nat):∀n,(gD l pc a n).1.length=n/\∀i (hi:i<(gD l pc a n).1.length),(gD l pc a n).1[i].name=[118]++cU i/\∃p:Nat,(gD l pc a n).1[i].bjH=p/\p<pc
 |0=>⟨rfl,λi hi=>absurd hi (by simp[gD])⟩
 |n+1=>by obtain⟨k1,k2⟩:=SR l d a n;have e:(gD l pc a (n+1)).1=(gD l pc a n).1++[⟨[118]++cU n,((aJ l pc (gD l pc a n).2).1:Nat)⟩]:=rfl;rw[e];refine⟨by simp[k1],yT (P:=λi (x:eI)=>x.name=[118]++cU i/\∃p:Nat,x.bjH=p/\p<pc) k2 ?_⟩;rw[k1];exact⟨rfl,_,rfl,cR l d _⟩
abbrev lvs(ds:List cY):List Int:=ds.map cY.level
def bfG(ds:List cY)(i:Nat)(d:cY):Prop:=∃e p u:Nat,d.name=[qC e]++cU (i+1)/\d.level=e/\1<=e/\e<=4/\d.parent=p/\p<=i/\(lvs ds)[p]?=some ((e:Int)-1)/\d.bjP=u/\1<=u/\u<=16/\zX d.bjK
def a8L(ds:List cY)(mc i:Nat)(d:eS):Prop:=∃m c:Nat,d.name=[100]++cU i/\d.model=m/\m<mc/\d.machine=c/\(lvs ds)[c]?=some 4
structure GV(mc biV:Nat)(s:GS):Prop where
 len:Z' s.bjE<=35
 bjO:Z' s.bjO<=biV
 root:s.bjE[0]?=some qX
 dom:∀i (hi:i+1<Z' s.bjE),bfG s.bjE i s.bjE[i+1]
 drv:∀i (hi:i<Z' s.bjO),a8L s.bjE mc i s.bjO[i]
theorem GV.a{mc biV:Nat}{s:GS}(h:GV mc biV s)(x:Nat):GV mc biV { s with a:=x }:=⟨h.len,h.bjO,h.root,h.dom,h.drv⟩
theorem afV(l:List Nat){mc biV dom:Nat}(p:0<mc){s:GS}(h:GV mc biV s)(w:(lvs s.bjE)[dom]?=some 4):∀n,GV mc biV (nZ l mc biV dom s n)/\(nZ l mc biV dom s n).bjE=s.bjE
 |0=>⟨h,rfl⟩
 |n+1=>by
  obtain⟨e,u⟩:=afV l p h w n;simp only[nZ];generalize nZ l mc biV dom s n=t at *
  split
  ·rename_i hlt;refine⟨⟨e.len,by simp only[bkQ,bkV];omega,e.root,e.dom,?_⟩,u⟩;refine yT (P:=λi d=>a8L t.bjE mc i d) e.drv ?_;exact⟨_,dom,rfl,rfl,cR l p _,rfl,by rw[u];exact w⟩
  ·exact⟨e,u⟩
theorem IQ{ds:List cY}{p:Nat}{x:Int}{t:List cY}(h:(lvs ds)[p]?=some x):(lvs (ds++t))[p]?=some x:=by
 unfold lvs at *
 rw[blK,bmU]
 ·exact h
 ·exact(blQ.1 h).1
theorem a3V(l:List Nat){mc biV dom level:Nat}{s:GS}(h:GV mc biV s)(y:1<=level)(K:level<=4)(E:(lvs s.bjE)[dom]?=some ((level:Int)-1))(F:wK biV s=false) :
  GV mc biV (sS l level dom s)/\(∃t,(sS l level dom s).bjE=s.bjE++t)/\(sS l level dom s).bjE.length=Z' s.bjE+1/\(lvs (sS l level dom s).bjE)[Z' s.bjE]?=some (level:Int):=by
 unfold wK at F;simp only[Bool.or_eq_false_iff,decide_eq_false_iff_not]at F;have J:dom<Z' s.bjE:=by
  have:=(blQ.1 E).1
  rwa[bkG]at this
 have N:=cR l (show 0<16 by decide) s.a;have M:=cR l (show 0<6 by decide) (aJ l 3 (aJ l 16 s.a).2).2;unfold sS;simp only;generalize aJ l 16 s.a=u at *
 generalize aJ l 3 u.2=t at *
 generalize aJ l 6 t.2=k at *
 have A:zX (if t.1=0 then(mkT 1 ((2+k.1:Nat):Int),k.2)else(oE,t.2)).1:=by
  split
  ·exact(SmF.mk' (a:=1) (b:=2+k.1) Om Om Om).o
  ·exact wD.o
 generalize(if t.1=0 then(mkT 1 ((2+k.1:Nat):Int),k.2)else(oE,t.2))=sh at *
 refine⟨⟨by simp only[bkQ,bkV];omega,h.bjO,?_,?_,λi hi=>?_⟩,⟨_,rfl⟩,by simp,?_⟩
 ·rw[bmU Om];exact h.root
 ·intro i hi;simp only[bkQ,bkV]at hi;by_cases hlt:i+1<Z' s.bjE
  ·rw[List.getElem_append_left hlt];obtain⟨B,p,v,d,e,w,x,h5,H,h7,h8⟩:=h.dom i hlt;exact⟨B,p,v,d,e,w,x,h5,H,IQ h7,h8⟩
  ·have:i+1=Z' s.bjE:=Om;rw[boQ Om];simp only[List.getElem_singleton];exact⟨level,dom,1+u.1,by rw[this],rfl,y,K,rfl,by omega,IQ E,rfl,by omega,by omega,A⟩
 ·obtain⟨m,c,d,e,w,x,h5⟩:=h.drv i hi;exact⟨m,c,d,e,w,x,IQ h5⟩
 ·unfold lvs;rw[blK,bmY (by rw[bkG];exact bkN _),bkG,bnF];rfl
theorem afW(l:List Nat){mc biV dom level:Nat}(i:1<=level)(B:level<=4){rec:Nat->GS->GS}
  (e:∀d t,GV mc biV t->(lvs t.bjE)[d]?=some (level:Int)->GV mc biV (rec d t)/\∃u,(rec d t).bjE=t.bjE++u) {s:GS} (h:GV mc biV s) (A:(lvs s.bjE)[dom]?=some ((level:Int)-1)) :
  ∀n,GV mc biV (kL l level biV dom rec s n)/\∃u,(kL l level biV dom rec s n).bjE=s.bjE++u
 |0=>⟨h,[],by simp[kL]⟩
 |n+1=>by
  obtain⟨y,u,p⟩:=afW l i B e h A n;simp only[kL];generalize kL l level biV dom rec s n=t at *
  split
  ·exact⟨y,u,p⟩
  ·rename_i E;have x:(lvs t.bjE)[dom]?=some ((level:Int)-1):=by rw[p];exact IQ A
   obtain⟨k1,⟨v,k2⟩,F,H⟩:=a3V l y i B x (by simpa using E);obtain⟨J,w,K⟩:=e ((sS l level dom t).bjE.length-1) (sS l level dom t) k1 (by rw[F,Nat.add_sub_cancel];exact H);exact⟨J,u++(v++w),by rw[K,k2,p];simp⟩
theorem afX(l:List Nat){mc biV:Nat}(e:0<mc):∀(k:Nat),k<=4->∀(dom:Nat){s:GS},GV mc biV s->(lvs s.bjE)[dom]?=some (4-(k:Int))->GV mc biV (gW l mc biV k dom s)/\∃u,(gW l mc biV k dom s).bjE=s.bjE++u
 |0,_,dom,s,h,i=>by simp only[gW];obtain⟨w,x⟩:=afV l e (h.a (aJ l 2 s.a).2) i (1+(aJ l 2 s.a).1);exact⟨w,[],by rw[x];simp⟩
 |k+1,A,dom,s,h,i=>by
  simp only[gW];refine afW l Om Om (λd t y p=>afX l e k Om d y ?_) (h.a (aJ l 2 s.a).2) ?_ _
  ·rw[p];congr 1;omega
  ·rw[i];congr 1;omega
theorem Sh(d:Nat)(e:1<=d)(i:d<=4):gX (qC d).toNat=true/\qC d≠100:=by
 have:d=1\/d=2\/d=3\/d=4:=Om;rcases this with rfl|rfl|rfl|rfl<;>decide
theorem J1(c:UInt8){k:Nat}(d:k<100):nv (([c]++cU k).drop 1)=k:=by
 show nv (cU k)=k;rw[fi d];exact(acO ⟨k,d⟩).1
theorem auB{mc biV:Nat}{s:GS}(h:GV mc biV s)(M:biV<=60):distinct ((s.bjE.drop 1).map cY.name++s.bjO.map eS.name)=true:=by
 have E:∀i (hi:i<((s.bjE.drop 1).map cY.name).length),∃d:Nat,1<=d/\d<=4/\((s.bjE.drop 1).map cY.name)[i]=[qC d]++cU (i+1):=by intro i hi;rw[bkG,bmQ]at hi;obtain⟨d,p,u,l,-,H,w,-⟩:=h.dom i Om;refine⟨d,H,w,?_⟩;rw[blX,List.getElem_drop];simp only[Nat.add_comm 1 i];exact l
 have hB:∀i (hi:i<(s.bjO.map eS.name).length),(s.bjO.map eS.name)[i]=[100]++cU i:=by intro i hi;rw[bkG]at hi;obtain⟨m,c,l,-⟩:=h.drv i hi;rw[blX];exact l
 have N:((s.bjE.drop 1).map cY.name).length<=40:=by rw[bkG,bmQ];have:=h.len;omega
 have O:(s.bjO.map eS.name).length<=60:=by rw[bkG];have:=h.bjO;omega
 generalize(s.bjE.drop 1).map cY.name=A at *
 generalize s.bjO.map eS.name=B at *
 refine pu ?_ ?_
 ·intro x hx;rcases blV.1 hx with hx|hx
  ·obtain⟨i,hi,rfl⟩:=blZ hx;obtain⟨d,l,w,e⟩:=E i hi;rw[e];exact Nm rfl (Sh d l w).1 rfl bH Om
  ·obtain⟨i,hi,rfl⟩:=blZ hx;rw[hB i hi];exact Nm rfl aU rfl bH Om
 ·rw[bnI];refine⟨?_,?_,?_⟩
  ·refine gk (g:=λs=>nv (s.drop 1)-1) λi hi=>?_;obtain⟨d,-,-,e⟩:=E i hi;rw[e,J1 _ Om];omega
  ·refine gk (g:=λs=>nv (s.drop 1)) λi hi=>?_;rw[hB i hi];exact J1 _ Om
  ·intro x hx y K e;obtain⟨i,hi,rfl⟩:=blZ hx;obtain⟨j,J,rfl⟩:=blZ K;obtain⟨d,l,w,F⟩:=E i hi;rw[F,hB j J]at e;exact(Sh d l w).2 (List.cons.inj e).1
theorem a0E{mc biV a:Nat}:GV mc biV ⟨[qX],[],a⟩:=
 ⟨by simp,bkL _,rfl,λi hi=>absurd hi bH,λi hi=>absurd hi bH⟩
theorem a4T{mc biV:Nat}{s:GS}(h:GV mc biV s)(f:aE)(A:f.biY=s.bjE):tM f=true:=by
 have x:=h.root;have w:=h.dom;unfold tM;rw[A];cases d:s.bjE with
 |nil=>rw[d]at x;cases x
 |cons r t=>
  rw[d]at x;have:r=qX:=by simpa using x
  subst this;show MI f qX t=true;unfold MI;simp only[bkI];refine⟨⟨⟨⟨⟨⟨rfl,rfl⟩,rfl⟩,rfl⟩,wD.lim⟩,by rw[show qX.bjK=oE from rfl,wD.zero];rfl⟩,?_⟩;rw[bkS];intro i hi;rw[blN]at hi;rw[bkT hi];obtain⟨F,p,u,B,y,H,J,h5,K,h7,h8,M,E,l⟩:=w i (by rw[d];simp;omega);have e:s.bjE[i+1]'(by rw[d];simp;omega)=t[i]:=by simp[d]
  rw[e]at B y h5 h8 l;show UB f i t[i]=true;unfold UB;simp only[bkI];refine⟨⟨⟨⟨?_,?_⟩,?_⟩,?_⟩,l.lim⟩
  ·rw[h5];exact gI Om Om
  ·rw[h5,y,A,bmI,blB,h7,K5 Om Om];exact aV rfl
  ·rw[y];exact gI Om Om
  ·rw[h8];exact gI Om Om
theorem dz(l:List Nat)(biV biX a:Nat)(hd:biV<=24)(hv:biX<=12) :
  cQ (kO l biV biX a).1=true/\(kO l biV biX a).1.Ok:=by
 unfold kO;simp only;have he:=cR l (show 0<2 by decide) a;generalize aJ l 2 a=e at *
 have γ:=cR l (show 0<2 by decide) e.2;generalize aJ l 2 e.2=F at *
 obtain⟨w1,U⟩:=qb l F.2 (1+F.1);generalize kU l F.2 (1+F.1)=bjC at *
 have δ:=cR l (show 0<2 by decide) bjC.2;generalize aJ l 2 bjC.2=B at *
 obtain⟨X,Y⟩:=bj l (1+F.1) Om B.2 (1+B.1);generalize fX l (1+F.1) B.2 (1+B.1)=biW at *
 obtain⟨G,-⟩:=afX l (mc:=1+B.1) (biV:=biV) Om 4 aU 0 (s:=⟨[qX],[],biW.2⟩) a0E rfl;generalize gW l (1+B.1) biV 4 0 ⟨[qX],[],biW.2⟩=g at *
 have ε:=cR l (show 0<2 by decide) g.a;generalize aJ l 2 g.a=pl at *
 obtain⟨p1,R⟩:=NC l (mc:=1+B.1) Om Om pl.2 (1+pl.1);generalize fM l (1+B.1) pl.2 (1+pl.1)=pols at *
 have ζ:=cR l (Om:0<biX+1) pols.2;generalize aJ l (biX+1) pols.2=J at *
 obtain⟨v1,S⟩:=SR l (pc:=1+pl.1) Om J.2 J.1;generalize gD l (1+pl.1) J.2 J.1=vols at *
 have g1:=G.len;have g2:=G.bjO;have Q:∀f:aE,f.biY=g.bjE->tM f=true:=λf hf=>a4T G f hf;have d:∀n:Nat,n<=1000->n<=9223372036854775807:=λn h=>by omega
 have E:∀x∈g.bjO,∃m c:Nat,x.model=m/\m<1+B.1/\x.machine=c/\c<Z' g.bjE/\(lvs g.bjE)[c]?=some 4:=by
  intro x w;obtain⟨i,hi,rfl⟩:=blZ w;obtain⟨m,c,-,O,V,W,h5⟩:=G.drv i hi;refine⟨m,c,O,V,W,?_,h5⟩;have:=(blQ.1 h5).1
  rwa[bkG]at this
 constructor
 ·unfold cQ;rw[Q _ rfl];simp only[bkI,bmO];refine⟨⟨?_,⟨⟨⟨⟨?_,?_⟩,?_⟩,?_⟩,?_⟩⟩,⟨⟨⟨?_,?_⟩,auB G Om⟩,?_⟩,?_⟩
  ·unfold tB;simp only[bkI];exact⟨⟨⟨⟨⟨⟨gI Om Om,aV Om⟩,aV Om⟩,aV Om⟩,aV Om⟩,aV Om⟩,aV Om⟩
  ·exact IC λi hi=>(U i hi).2.1
  ·refine IC λi hi=>?_;obtain⟨-,x,y,z,A,e2,H,K,M,e6,Z,e8⟩:=Y i hi;unfold oW;simp only[bkI];rw[A,K,Z,w1];exact⟨⟨gI Om Om,gI Om Om⟩,gI Om Om⟩
  ·rw[bkS];intro x w;obtain⟨m,c,A,e2,H,K,M⟩:=E x w;unfold mJ;simp only[bkI];rw[A,H,X,bmI,blB,M];exact⟨⟨gI Om Om,gI Om Om⟩,rfl⟩
  ·refine IC λi hi=>?_;rw[X];exact(R i hi).2.1
  ·refine IC λi hi=>?_;obtain⟨-,p,A,e2⟩:=S i hi;unfold tX;rw[A,p1];exact gI Om Om
  ·refine AJ (p:=[108,97,119]) rfl aU aU aU (by rw[bkG];omega) λi hi=>?_;rw[blX];exact(U i (by simpa using hi)).1
  ·refine AJ (p:=[109]) rfl aU aU aU (by rw[bkG];omega) λi hi=>?_;rw[blX];exact(Y i (by simpa using hi)).1
  ·refine AJ (p:=[112]) rfl aU aU aU (by rw[bkG];omega) λi hi=>?_;rw[blX];exact(R i (by simpa using hi)).1
  ·refine AJ (p:=[118]) rfl aU aU aU (by rw[bkG];omega) λi hi=>?_;rw[blX];exact(S i (by simpa using hi)).1
 ·refine⟨d bjC.1.length Om,d biW.1.length Om,d g.bjE.length Om,d g.bjO.length Om,d pols.1.length Om,d vols.1.length Om,?_,?_,?_,?_,?_⟩
  ·intro x w;obtain⟨i,hi,rfl⟩:=blZ w;exact(U i hi).2.2
  ·intro x w;obtain⟨i,hi,rfl⟩:=blZ w;rcases bmZ i with rfl|hp
   ·have:g.bjE[0]=qX:=by have:=G.root;rw[bkT hi]at this;exact bmH.inj this
    rw[this];exact⟨wD.ok,by unfold dJ;decide,by unfold dJ;decide⟩
   ·obtain⟨k,rfl⟩:∃k,i=k+1:=⟨i-1,by omega⟩;obtain⟨η,p,u,h1,O,V,W,h5,h6,h7,h8,h9,α,N⟩:=G.dom k hi;have β:k+1<Z' g.bjE:=hi;rw[O,h5];exact⟨N.ok,by unfold dJ;omega,by unfold dJ;omega⟩
  ·intro x w;obtain⟨m,c,A,e2,H,K,M⟩:=E x w;rw[A,H];unfold dJ;omega
  ·intro x w;obtain⟨i,hi,rfl⟩:=blZ w;exact(R i hi).2.2
  ·intro x w;obtain⟨i,hi,rfl⟩:=blZ w;obtain⟨-,p,A,e2⟩:=S i hi;rw[A];unfold dJ;omega


def kS:=bR [3,4] Proofs.Tryz.f124
def aCT:=aA kS 0
def aCU:=aA kS 1
def aCV:=aA kS 2
def aCW:=aA kS 3
def N6:=aA kS 4
def IW:=cN kS 0
def IX:=aA kS 5
def N7:=aA kS 6
def N5:aC:=(cT N6 21 0 N7 (dq IW (.cond (Tm 64) (sq IX .ret) .skip)))
def aCX:=aA kS 7
def amN:=aA kS 8
def amO:=aA kS 9
def y7:=aA kS 10
def amP:=aA kS 11
def y8:=aA kS 12
def y6:aC:=(cT amN 69 2 y8 (sq amO (sq y7 (.cond (Tm 90) (sq amP .ret) .skip))))
def amQ:=aA kS 13
def ip:aC:=(sq aCT (dA aCU 17 aCV (.seq (cD aCW 0 N5) (.seq (cD aCX 2 y6) (sq amQ .ret)))))
def aZW:bB:=⟨3,91,ip,[.tmp 6]⟩
def jP:=bR [13,42] Proofs.Tryz.f74
def XH:=aA jP 0
def XI:=aA jP 1
def Hc:=aA jP 2
def Hd:=aA jP 3
def He:=aA jP 4
def Hf:=aA jP 5
def Hg:=aA jP 6
def Hh:=aA jP 7
def Hi:=aA jP 8
def Hj:=aA jP 9
def so:=aA jP 10
def sm:aC:=(cT Hi 31 2 so (.region Hj))
def sr:=aA jP 11
def sn:aC:=(cT Hf 19 0 sr (sq Hg (cD Hh 2 sm)))
def su:=aA jP 12
def BE:aC:=(sq XH (dA XI 12 Hc (sq Hd (.seq (cD He 0 sn) (sq su .ret)))))
def na:bB:=⟨3,45,BE,[.tmp 6]⟩
def lI:=bR [2,60] Proofs.Tryz.f77
def aCY:=aA lI 0
def aCZ:=aA lI 1
def m8:=aA lI 2
def N8:=aA lI 3
def aDA:=aA lI 4
def aDB:=aA lI 5
def aDC:=aA lI 6
def aDD:=aA lI 7
def aDE:=aA lI 8
def aDF:=aA lI 9
def amS:=cN lI 0
def amT:=aA lI 10
def y9:=aA lI 11
def amR:aC:=(cT aDF 45 0 y9 (dq amS (.cond (Tm 54) (.region amT) .skip)))
def amU:=aA lI 12
def iq:aC:=(sq aCY (dA aCZ 23 m8 (dA N8 27 aDA (sq aDB (sq aDC (sq aDD (.seq (cD aDE 0 amR) (sq amU .ret))))))))
def aZX:bB:=⟨2,63,iq,[.tmp 4,.tmp 5]⟩
def jS:=bR [2,19,20,42] Proofs.Tryz.f73
def Vn:=aA jS 0
def Vo:=aA jS 1
def Vp:=aA jS 2
def Vq:=aA jS 3
def Vs:=aA jS 4
def Vt:=aA jS 5
def Vu:=aA jS 6
def Vm:aC:=(cT Vs 14 0 Vu (.region Vt))
def Vv:=aA jS 7
def Vw:=aA jS 8
def I4:=aA jS 9
def I5:=aA jS 10
def I6:=aA jS 11
def YB:=aA jS 12
def I3:aC:=(cT I4 27 2 YB (sq I5 (.cond (Tm 37) (.region I6) .skip)))
def I7:=aA jS 13
def PW:aC:=(sq Vn (sq Vo (hL Vp 9 (.seq (cD Vq 0 Vm) (sq Vv .ret)) (.seq (cD Vw 2 I3) (sq I7 .ret)))))
def aoA:bB:=⟨2,45,PW,[.tmp 4]⟩
def vT:=bR [] Proofs.Tryz.f75
def aDI:=aA vT 0
def aDJ:=aA vT 1
def aDK:=aA vT 2
def Og:=aA vT 3
def aDL:=aA vT 4
def aDM:=aA vT 5
def aDH:aC:=(cT aDK 9 0 aDM (sq Og (.cond (Tm 17) (sq aDL .ret) .skip)))
def aDN:=aA vT 6
def iy:aC:=(sq aDI (.seq (cD aDJ 0 aDH) (sq aDN .ret)))
def aZZ:bB:=⟨2,18,iy,[.tmp 4]⟩
def dV:=bR [2,3,109,113] Proofs.Tryz.f32
def anQ:=aA dV 0
def anR:=aA dV 1
def DD:=aA dV 2
def ze:=aA dV 3
def anS:=aA dV 4
def anT:=aA dV 5
def anU:=aA dV 6
def anV:=aA dV 7
def anW:=aA dV 8
def anX:=aA dV 9
def U8:=aA dV 10
def U7:aC:=(cT anW 50 0 U8 (.region anX))
def jd:=aA dV 11
def U9:=aA dV 12
def Va:=aA dV 13
def Vb:=aA dV 14
def Vc:=aA dV 15
def Vd:=aA dV 16
def Ve:=aA dV 17
def Vf:=aA dV 18
def Vg:=aA dV 19
def Vh:=aA dV 20
def Vi:=aA dV 21
def Vj:=aA dV 22
def je:=aA dV 23
def jf:=aA dV 24
def ja:aC:=(cT Vj 88 6 jf (.region je))
def jg:=aA dV 25
def Vk:=aA dV 26
def jh:=aA dV 27
def jb:aC:=(cT Vg 79 4 jh (sq Vh (.seq (cD Vi 6 ja) (sq jg (.cond (Tm 106) (.region Vk) .skip)))))
def ji:=aA dV 28
def jj:=aA dV 29
def jc:aC:=(cT Vd 72 2 jj (sq Ve (.seq (cD Vf 4 jb) (.region ji))))
def Vl:=aA dV 30
def XZ:aC:=(sq anQ (dA anR 38 DD (dA ze 42 anS (sq anT (sq anU (.seq (cD anV 0 U7) (dA jd 63 U9 (sq Va (sq Vb (.seq (cD Vc 2 jc) (sq Vl .ret)))))))))))
def aMU:bB:=⟨2,116,XZ,[.tmp 4,.tmp 5]⟩
def kF:=bR [] Proofs.Tryz.f78
def anA:=aA kF 0
def anB:=aA kF 1
def anC:=aA kF 2
def anD:=aA kF 3
def anE:=aA kF 4
def anF:=aA kF 5
def anG:=aA kF 6
def anH:=cN kF 0
def anI:=aA kF 7
def zc:=aA kF 8
def Uo:aC:=(cT anG 20 2 zc (dq anH (.cond (Tm 31) (.region anI) .skip)))
def iz:=aA kF 9
def Ur:=aA kF 10
def i0:=aA kF 11
def Uq:aC:=(cT anD 14 0 i0 (sq anE (.seq (cD anF 2 Uo) (sq iz (.cond (Tm 36) (.region Ur) .skip)))))
def Us:=aA kF 12
def XQ:aC:=(sq anA (sq anB (.seq (cD anC 0 Uq) (sq Us .ret))))
def aMM:bB:=⟨3,40,XQ,[.tmp 6]⟩
def mD:=bR [2,44] Proofs.Tryz.f26
def aoN:=aA mD 0
def aoO:=aA mD 1
def aoP:=aA mD 2
def aoQ:=aA mD 3
def aoR:=aA mD 4
def aoS:=aA mD 5
def aoT:=cN mD 0
def zj:=aA mD 6
def aoU:=aA mD 7
def zk:=aA mD 8
def jt:=aA mD 9
def Wf:aC:=(cT aoS 15 0 jt (dq aoT (hL zj 34 (.region aoU) (.region zk))))
def ju:=aA mD 10
def YJ:aC:=(sq aoN (dA aoO 10 aoP (sq aoQ (.seq (cD aoR 0 Wf) (sq ju .ret)))))
def aNC:bB:=⟨2,47,YJ,[.tmp 4]⟩
def xT:=bR [3] Proofs.Tryz.f162
def Vy:=aA xT 0
def Vz:=aA xT 1
def V0:=aA xT 2
def V1:=aA xT 3
def Vx:aC:=(.seq (sq V0 (.cond (Tm 21) .skip (.exit 0))) (.block 1 (.region V1)))
def V2:=aA xT 4
def PX:aC:=(sq Vy (sq Vz (.seq (.block 0 (.loop Vx)) (sq V2 .ret))))
def aoC:bB:=⟨3,29,PX,[.tmp 6]⟩
def lY:=bR [2,41] Proofs.Tryz.f123
def Jb:=aA lY 0
def Jc:=aA lY 1
def Jd:=aA lY 2
def HN:=aA lY 3
def Je:=aA lY 4
def Jf:=aA lY 5
def Jg:=cN lY 0
def Jh:=aA lY 6
def YD:=aA lY 7
def Ja:aC:=(cT Jf 25 0 YD (dq Jg (.cond (Tm 38) (.region Jh) .skip)))
def tu:=aA lY 8
def KZ:aC:=(sq Jb (sq Jc (dA Jd 20 HN (.seq (cD Je 0 Ja) (sq tu .ret)))))
def On:bB:=⟨2,44,KZ,[.tmp 4]⟩
def pH:=bR [3,4] Proofs.Tryz.f163
def ti:=aA pH 0
def tj:=aA pH 1
def tk:=aA pH 2
def PY:=cN pH 0
def tp:=aA pH 3
def tq:=aA pH 4
def th:aC:=(cT tk 12 0 tq (dq PY (.cond (Tm 26) (sq tp .ret) .skip)))
def tr:=aA pH 5
def FS:aC:=(sq ti (.seq (cD tj 0 th) (sq tr .ret)))
def zf:bB:=⟨3,27,FS,[.tmp 6]⟩
def pY:=bR [3] Proofs.Tryz.f164
def V4:=aA pY 0
def V5:=aA pY 1
def V6:=aA pY 2
def V7:=aA pY 3
def jl:=cN pY 0
def V8:=aA pY 4
def NI:=aA pY 5
def V3:aC:=(cT V7 12 0 NI (dq jl (.cond (Tm 35) (.region V8) .skip)))
def jm:=aA pY 6
def QA:aC:=(sq V4 (sq V5 (.seq (cD V6 0 V3) (sq jm .ret))))
def aoE:bB:=⟨3,39,QA,[.tmp 6]⟩
variable{C:Ctx}
theorem aTB(f:aE)(l:VF f)(d:Nat)(h:d<Z' f.biV)(level:Int)(x:0<=level)(y:level<=4) :
  PX.wp C (aX aoC.res (aF (.int .i64 (dQ f d level:Nat)))) (g_ [.agg f.cells,.int .i64 d,.int .i64 level]) .nil:=by
 simp only[go_sem,PX,Vy,Vz,aoC,rK h,l.M9 h];refine wp_loop (α:=Nat) (λk=>(((n_.set 2 (.int .i64 level)).set 3 (.bO f.cells)).set 7 (.int .i64 (upN f k (eU f d))))) (λ_=>.nil) (λk=>k<=4-level.toNat) (λk=>4-level.toNat-k) 0 (bkL _) (by(repeat' (first|exact c_|refine d_ ?_ ?_))<;>first|(simp only[go_sem,upN]<;>rfl)|rfl) a_ ?_;intro k A;obtain⟨i,w⟩:=SP l h (k:=k) Om;simp only[go_sem,Vx,V0,jJ i,AP i];by_cases hlt:k<4-level.toNat
 ·have p:lvl f (upN f k (eU f d))>level:=by rw[w];omega
  have u:0<upN f k (eU f d):=by
   rcases bmZ (upN f k (eU f d))with e|e
   ·rw[e,l.root.2.1]at w;omega
   ·exact e
  simp only[go_sem,p,V1,jJ i,Gy i,l.N2 u i];exact aG (k+1) hlt Om (by(repeat' (first|exact c_|refine d_ ?_ ?_))<;>first|(simp only[go_sem,upN]<;>rfl)|rfl) a_
 ·have p:¬lvl f (upN f k (eU f d))>level:=by rw[w];omega
  have:k=4-level.toNat:=Om;subst this;simp only[go_sem,p,V2];refine aT (.inr rfl) Ev ?_;rfl
structure Z4(C:Ctx):Prop where
 valid:∀f:aE,f.Ok->aH C 67 [.agg f.cells] .nil (aF (.bool (cQ f)))
 uR:∀(f:aE)(d:Nat)(level:Int),VF f->d<Z' f.biV->0<=level->level<=4->aH C 88 [.agg f.cells,.int .i64 d,.int .i64 level] .nil (aF (.int .i64 (dQ f d level:Nat)))
def soS(f:aE):Spec:=λname vs=>match name,vs with
 |88,[_,.int _ d,.int _ l]=>some ([],λ_=>aF (.int .i64 (dQ f d.toNat l:Nat)))
 |82,[_,.int _ v]=>some ([],λ_=>aF (.int .i64 (aJM f v.toNat)))
 |_,_=>none
theorem Wc(f:aE)(d:Nat)(l:Int):soS f 88 [.agg f.cells,.int .i64 d,.int .i64 l]=some ([],λ_=>aF (.int .i64 (dQ f d l:Nat))):=rfl
theorem aQU{f:aE}(hV:VF f){n:Nat}(d:n<Z' f.biY):0<=lvl f n/\lvl f n<=4:=by
 rcases bmZ n with e|e
 ·rw[e,hV.root.2.1];decide
 ·have:=hV.dom n e d;omega
theorem aMY(L:Z4 C)(f:aE)(J:f.Ok)(dom:Int) :
  KZ.wp C (aX On.res (cI (ints (RT f dom)))) (g_ [.agg f.cells,.int .i64 dom]) .nil:=by
 simp only[go_sem,KZ,Jb,Jc,Jd,On];refine aB (L.valid f J) Sq ?_;unfold RT;cases M:cQ f with
 |false =>simp only[go_sem,bkW,HN];rw[aD bH];exact BI Ev
 |true=>
  have hV:=VF.of M;by_cases y:dom<0
  ·simp only[go_sem,bkO,y,HN];rw[aD Om];exact BI Ev
  ·by_cases E:dom>=(Z' f.biY:Nat)
   ·simp only[go_sem,bkO,y,bkG,E,HN];rw[aD Om];exact BI Ev
   ·obtain⟨n,rfl⟩:∃n:Nat,dom=n:=⟨dom.toNat,by omega⟩;have B:n<Z' f.biY:=Om;have F:=hV.small.biV;have l:=aQU hV B;simp only[go_sem,bkO,y,bkG,E,Je];rw[aI Om];generalize hp:(λd=>decide ((dQ f d (lvl f n):Nat)=n))=p;refine wp_loop (α:=Nat × PV × PH) (λt=>((((n_.set 1 (.int .i64 n)).set 2 (.bO f.cells)).set 5 (t.2.1)).set 6 (.int .i64 t.1))) (λt=>t.2.2) (λt=>t.1<=Z' f.biV/\cG t.2.2 1 t.2.1 (bF (pick t.1 p))) (λt=>Z' f.biV-t.1) (0,.aK,.nil) ⟨bkL _,.nil⟩ Lq a_ ?_;rintro⟨k,v,H⟩ ⟨K,u⟩;simp only at K u ⊢;simp only[go_sem,Ja,Jf,bkG];by_cases hlt:k<Z' f.biV
    ·have i:(k:Int)<(Z' f.biV:Nat):=Om;simp only[go_sem,i];refine bP .nil (soS f) a_ ?_;simp only[go_sem,Jg,jJ B,AP B];refine bK (Wc f k (lvl f n)) (L.uR f k (lvl f n) hV hlt l.1 l.2) Sq a_ ?_;have x:p k=decide ((dQ f k (lvl f n):Nat)=n):=by rw[<-hp]
     have e:=aSF k p;have A:(1:Nat)*1<=16777216:=by decide
     by_cases c:dQ f k (lvl f n)=n
     ·rw[aI (by rw[x];simp[c])]at e;simp only[go_sem,bW (show((dQ f k (lvl f n):Nat):Int)=(n:Int) by omega),Jh,A];refine gZ (src:=[[.int .i64 k]]) u Sq (by unfold roomFor;have:=aZP k p;rw[dK];simp only[bkV,maxLen];omega) λv' H' w _=>?_;rw[El,<-e]at w;simp only[go_sem,YD,wZz k];exact aG (k+1,v',H') ⟨hlt,w⟩ (by simp only;omega) Lq b_
     ·rw[aD (by rw[x];simp[c])]at e;simp only[go_sem,bL (show((dQ f k (lvl f n):Nat):Int)≠(n:Int) by omega),YD,wZz k];rw[<-e]at u;exact aG (k+1,v,H) ⟨hlt,u⟩ (by simp only;omega) Lq b_
    ·have i:¬(k:Int)<(Z' f.biV:Nat):=Om;have:k=Z' f.biV:=Om;subst this;simp only[go_sem,i,tu];exact SK u Sq
theorem a5K{r e:Int}(h:0<=e):max 0 (min r e)=min (max r 0) e:=Om
theorem aMN(f:aE)(room:List Int){k:Nat}(h:k<Z' f.biV):(sK f room).take (k+1)=(sK f room).take k++[BJ f room k]:=by
 have d:k<(sK f room).length:=by rw[NF];exact h
 rw[blO d,anJ]
theorem aTJ(valid:∀f:aE,f.Ok->aH C 67 [.agg f.cells] .nil (aF (.bool (cQ f))))(f:aE)(M:f.Ok)(room:List Int) :
  YJ.wp C (aX aNC.res (cI (ints (rW f room)))) (g_ [.agg f.cells,ints room]) .nil:=by
 simp only[go_sem,YJ,aoN,aoO,aNC];refine aB (valid f M) Sq ?_;unfold rW;cases O:cQ f with
 |false =>simp only[go_sem,bkW,aoP];exact BI Ev
 |true=>
  have hV:=VF.of O;have B:=hV.small.biV;have w:=NF f room;simp only[go_sem,bkO,aoQ,aoR];refine wp_loop (α:=Nat × PV × PH) (λt=>((((n_.set 1 (ints room)).set 2 (.bO f.cells)).set 5 (t.2.1)).set 6 (.int .i64 t.1))) (λt=>t.2.2) (λt=>t.1<=Z' f.biV/\cG t.2.2 1 t.2.1 (bF ((sK f room).take t.1))) (λt=>Z' f.biV-t.1) (0,.aK,.nil) ⟨bkL _,.nil⟩ Lq a_ ?_;rintro⟨k,v,J⟩ ⟨N,p⟩;simp only at N p ⊢;simp only[go_sem,Wf,aoS,bkG];by_cases hlt:k<Z' f.biV
  ·have d:(k:Int)<(Z' f.biV:Nat):=Om;obtain⟨H,E⟩:=hV.adB hlt;have y:=hV.model _ (bkK H);rw[E]at y;have u:(1:Nat)*1<=16777216:=by decide
   have e:=aMN f room hlt;have rest:∀(x:Int)(F:PF),x=BJ f room k->((((((n_.set 1 (ints room)).set 2 (.bO f.cells)).set 5 (v)).set 6 (.int .i64 k)).set 7 (.int .i64 x)):PF).le F ->
     aC.wp C (.region zk) (gE 1 (kD C (aC.wp C (.region jt)) (jM (λt:Nat × PV × PH=>((((n_.set 1 (ints room)).set 2 (.bO f.cells)).set 5 (t.2.1)).set 6 (.int .i64 t.1))) (λt=>t.2.2) (λt=>t.1<=Z' f.biV/\cG t.2.2 1 t.2.1 (bF ((sK f room).take t.1))) (λt=>Z' f.biV-t.1) (Z' f.biV-k) (gE 0 (kD C (aC.wp C (.seq (.region ju) .ret)) (aX [.tmp 4] (cI (ints (sK f room))))))))) F J:=by
    intro x F Q K;refine yD _ (λ_ _ _ _ a b=>Up.up a b) K ?_;simp only[go_sem,zk,u];refine gZ (src:=[[.int .i64 x]]) p Sq (by unfold roomFor;rw[dK,bkY];simp only[bkV,maxLen];omega) λv' H' i _=>?_;rw[El,Q,<-e]at i;simp only[go_sem,jt,wZz k];exact aG (k+1,v',H') ⟨hlt,i⟩ (by simp only;omega) Lq b_
   simp only[aC.wp,go_sem]at rest;simp only[go_sem,d];refine bP .nil eJ a_ ?_;simp only[go_sem,aoT,rK hlt,hV.SC hlt,S7 H,E];by_cases c:Z' room=Z' f.biV
   ·have l:k<Z' room:=Om;have A:(room.map λn=>[PV.int .i64 n])[k]?=some [.int .i64 room[k]]:=by simp[l]
    simp only[go_sem,zj,bkG,bW (Om:(Z' room:Int)=(Z' f.biV:Nat)),aoU,A,max_eq,aAC];refine rest _ _ ?_ Lq;rw[BJ,aI c,a5K Om,blB,bkT l,bnG]
   ·simp only[go_sem,zj,bkG,bL (Om:(Z' room:Int)≠(Z' f.biV:Nat))];refine rest _ _ ?_ Lq;rw[BJ,aD c]
  ·have d:¬(k:Int)<(Z' f.biV:Nat):=Om;have:k=Z' f.biV:=Om;subst this;rw[<-w,blE]at p;simp only[go_sem,d,ju];exact SK p Sq
theorem auU(f:aE)(hV:VF f)(p:cJ)(hp:Fits p.biW)(d:Nat)(w:d<Z' f.biV) :
  FS.wp C (aX zf.res (aF (.bool (p.biW.contains ((mdl f d:Nat):Int))))) (g_ [.agg p.cells,.agg f.cells,.int .i64 d]) .nil:=by
 have y:Z' p.biW<=9223372036854775807:=hp;simp only[go_sem,FS,ti,tj,zf];refine wp_loop (α:=Nat) (λk=>((((n_.set 2 (.int .i64 d)).set 3 (.bO p.cells)).set 4 (.bO f.cells)).set 7 (.int .i64 k))) (λ_=>.nil) (λk=>k<=Z' p.biW/\p.biW.contains ((mdl f d:Nat):Int)=(p.biW.drop k).contains ((mdl f d:Nat):Int)) (λk=>Z' p.biW-k) 0 ⟨bkL _,rfl⟩ Lq a_ ?_;rintro k ⟨A,l⟩;simp only[go_sem,th,tk,bkG];by_cases hlt:k<Z' p.biW
 ·have i:(k:Int)<(Z' p.biW:Nat):=Om;have u:(p.biW.map λx=>[PV.int .i64 x])[k]?=some [.int .i64 p.biW[k]]:=by simp[hlt]
  rw[bmP hlt,List.contains_cons]at l;have e:(p.biW[k]==((mdl f d:Nat):Int))=(((mdl f d:Nat):Int)==p.biW[k]):=BEq.comm;simp only[go_sem,i];refine bP .nil eJ a_ ?_;cases c:((mdl f d:Nat):Int)==p.biW[k]with
  |true =>rw[c]at e;rw[c,Bool.true_or]at l;simp only[go_sem,PY,u,rK w,hV.SC w,e,tp];refine aT (.inr rfl) Ev ?_;rw[bN,l]
  |false =>rw[c]at e;rw[c,Bool.false_or]at l;simp only[go_sem,PY,u,rK w,hV.SC w,e,tq,wZz k];exact aG (k+1) ⟨hlt,l⟩ Om Lq b_
 ·have i:¬(k:Int)<(Z' p.biW:Nat):=Om;have:k=Z' p.biW:=Om;subst this;rw[List.drop_length]at l;simp only[go_sem,i,tr];refine aT (.inr rfl) Ev ?_;rw[bN,l];rfl
theorem atQ{p:Int->Bool}{xs:List Int}{k:Nat}(h:k<Z' xs):(xs.take (k+1)).countP p=(xs.take k).countP p+if p xs[k]then 1 else 0:=by
 rw[blO h,List.countP_append];by_cases hp:p xs[k]<;>simp[List.countP_cons,hp]
theorem aTC(L:Z4 C)(f:aE)(hV:VF f)(row:List Int)(K:Y6 f row)(n:Nat)(F:n<Z' f.biY) :
  QA.wp C (aX aoE.res (aF (.int .i64 (row.countP (qT f n):Nat)))) (g_ [.agg f.cells,ints row,.int .i64 n]) .nil:=by
 have J:=K.len;have w:=aQU hV F;simp only[go_sem,QA,V4,V5,V6,aoE];refine wp_loop (α:=Nat) (λk=>(((((n_.set 1 (ints row)).set 2 (.int .i64 n)).set 3 (.bO f.cells)).set 7 (.int .i64 ((row.take k).countP (qT f n):Nat))).set 8 (.int .i64 k))) (λ_=>.nil) (λk=>k<=Z' row) (λk=>Z' row-k) 0 (bkL _) Lq a_ ?_;intro k O;simp only[go_sem,V3,V7,bkG];by_cases hlt:k<Z' row
 ·have i:(k:Int)<(Z' row:Nat):=Om;have A:(row.map λx=>[PV.int .i64 x])[k]?=some [.int .i64 row[k]]:=by simp[hlt]
  have Q:=K.at_ _ (bkK hlt);have y:=atQ (p:=qT f n) hlt;have N:(row.take k).countP (qT f n)<=16777216:=by have:=boO (p:=qT f n) (l:=row.take k);rw[bkY]at this;omega
  have u:qT f n row[k]=(decide (0<=row[k])&&decide (dQ f row[k].toNat (lvl f n)=n)):=rfl;have fin:∀(c:Nat)(B:PF),(row.take (k+1)).countP (qT f n)=c->((((((n_.set 1 (ints row)).set 2 (.int .i64 n)).set 3 (.bO f.cells)).set 7 (.int .i64 c)).set 8 (.int .i64 (k+1:Nat))):PF).le B->jM (λk:Nat=>(((((n_.set 1 (ints row)).set 2 (.int .i64 n)).set 3 (.bO f.cells)).set 7 (.int .i64 ((row.take k).countP (qT f n):Nat))).set 8 (.int .i64 k))) (λ_=>.nil) (λk=>k<=Z' row) (λk=>Z' row-k) (Z' row-k) (gE 0 (kD C (aC.wp C (.seq (.region jm) .ret)) (aX [.tmp 6] (aF (.int .i64 (row.countP (qT f n):Nat)))))) .normal B .nil:=
   λc B e h=>aG (k+1) hlt Om (by rw[e];exact h) b_
  generalize(row.take k).countP (qT f n)=c at *
  generalize row[k]=x at *
  simp only[go_sem,i];refine bP .nil (soS f) a_ ?_;by_cases E:x>=0
  ·obtain⟨d,rfl⟩:∃d:Nat,x=d:=⟨x.toNat,by omega⟩;have M:d<Z' f.biV:=Om;rw[aV (Om:(0:Int)<=d),bkR,bmI]at u;rw[u]at y;simp only[go_sem,jl,A,E,jJ F,AP F];refine bK (Wc f d (lvl f n)) (L.uR f d (lvl f n) hV M w.1 w.2) Sq a_ ?_;by_cases H:dQ f d (lvl f n)=n
   ·rw[aV H,aI rfl]at y;simp only[go_sem,bW (show((dQ f d (lvl f n):Nat):Int)=(n:Int) by omega),V8,wZz c,NI,wZz k];exact fin (c+1) _ y Lq
   ·rw[bC H,aD aU,bmS]at y;simp only[go_sem,bL (show((dQ f d (lvl f n):Nat):Int)≠(n:Int) by omega),NI,wZz k];exact fin c _ y Lq
  ·rw[bC (show ¬0<=x from E),bkP]at u;rw[u,aD aU,bmS]at y;simp only[go_sem,jl,A,E,NI,wZz k];exact fin c _ y Lq
 ·have i:¬(k:Int)<(Z' row:Nat):=Om;have:k=Z' row:=Om;subst this;simp only[go_sem,i,jm,blE];refine aT (.inr rfl) Ev ?_;rfl
theorem aXY{xs:List Int}{k:Nat}{d:Int}(h:k<Z' xs):(xs.take (k+1)).contains d=((xs.take k).contains d||decide (xs[k]=d)):=by
 rw[Bool.eq_iff_iff];rw[List.contains_iff_mem,blO h,blV,bmF,Bool.or_eq_true,List.contains_iff_mem,dT_];exact⟨λh=>h.imp id Eq.symm,λh=>h.imp id Eq.symm⟩
theorem a6Y(l:List Int)(y:Z' l<=1000000000000000)(x:Int):iy.wp C (aX aZZ.res (aF (.bool (l.contains x)))) (g_ [ints l,.int .i64 x]) .nil:=by
 simp only[go_sem,iy,aDI,aDJ,aZZ];refine wp_loop (α:=Nat) (λk=>(((n_.set 0 (ints l)).set 1 (.int .i64 x)).set 5 (.int .i64 k))) (λ_=>.nil) (λk=>k<=Z' l/\(l.take k).contains x=false) (λk=>Z' l-k) 0 ⟨bkL _,by simp⟩ Lq a_ ?_;rintro k ⟨w,p⟩;simp only[go_sem,aDH,aDK,bkG];by_cases hlt:k<Z' l
 ·have e:(k:Int)<(Z' l:Nat):=Om;have i:(l.map λn=>[PV.int .i64 n])[k]?=some [.int .i64 l[k]]:=by simp[hlt]
  have u:=aXY (d:=x) hlt;by_cases c:l[k]=x
  ·simp only[go_sem,e,Og,i,bW c,aDL];refine aT (.inr rfl) rfl ?_;rw[bN];exact congrArg PV.bool (List.contains_iff_mem.2 (c ▸ bkK hlt)).symm
  ·simp only[go_sem,e,Og,i,bL c,aDM,wZz k];exact aG (k+1) ⟨hlt,by rw[u,p];simp[c]⟩ Om Lq b_
 ·have e:¬(k:Int)<(Z' l:Nat):=Om;have:k=Z' l:=Om;subst this;rw[blE]at p;simp only[go_sem,e,aDN];refine aT (.inr rfl) rfl ?_;rw[bN,p]
abbrev iiv(l:List Int):List (List PV):=l.map λx=>[PV.int .i64 x]
def a2J(l:List Nat)(v:PV)(o a:Nat)(f:aE)(r:PV)(H:PH):Prop:=Co r (ints (uW l f a).1)/\H=h_.set o (bJ v (uW l f a).2)
theorem i5(l:List Nat){a:Nat}(h:a<=Z' l):∀k,(rX l a k).2<=Z' l/\(rX l a k).1.length=k
 |0=>⟨h,rfl⟩
 |k+1=>by obtain⟨d,e⟩:=i5 l h k;exact⟨bY l 7 d,by simp only[rX,bkQ,bkV,e]⟩
def ajG(f:aE)(o:Nat)(w:PV)(i:Nat):PF:=((((n_.set 0 (.ptr o 2 0 0)).set 3 (.bO f.cells)).set 5 (w)).set 6 (.int .i64 i))
theorem aYZ(K:LY C){l:List Nat}{v:PV}(T:Tp l v)(o a:Nat)(f:aE)(W:Z' f.biV<=1000)(N:a<=Z' l):WI.wp C (aX aLI.res (a2J l v o a f)) (g_ [.ptr o 2 0 0,.agg f.cells]) (h_.set o (bJ v a)):=by
 have M:aR (h_.set o (bJ v a)) [(o,bJ v a)] []:=aR.nil.new (H:=h_) rfl (bJ v a);simp only[go_sem,WI,ajI,aLI,ajJ];refine eP K T (o:=o) (n:=4) (a:=a) aU N (by simp only[go_sem];rfl) (M.at 0 rfl) ?_;have u:=M.set 0 rfl (bJ v (aJ l 4 a).2);rw[PH.set_set]at u;have F:=bY l 4 N;have p:uW l f a=if(aJ l 4 a).1=0 then([],(aJ l 4 a).2)else rX l (aJ l 4 a).2 f.biV.length:=rfl
 have E:∀r H,a2J l v o a f r H↔Co r (ints (uW l f a).1)/\H=h_.set o (bJ v (uW l f a).2):=λ_ _=>Iff.rfl;generalize aJ l 4 a=t at *
 by_cases O:t.1=0
 ·rw[aI O]at p;simp only[go_sem,bW (Om:(t.1:Int)=0),ajK];refine bG (vs:=[.aK]) (.inr rfl) (h_.set o (bJ v t.2)) Sq (e_ a_ (u.at 0 rfl)) ?_;rw[bN,E,p];exact⟨.nil 1,rfl⟩
 rw[aD O]at p;have R:=u.rA 1;simp only[go_sem,bL (Om:(t.1:Int)≠0),ajL,ajM];refine wp_loop (α:=Nat × PV × PH) (λs=>ajG f o s.2.1 s.1) (λs=>s.2.2) (λs=>s.1<=Z' f.biV/\aR s.2.2 [(o,bJ v (rX l t.2 s.1).2)] [(s.2.1,1,iiv (rX l t.2 s.1).1)]) (λs=>Z' f.biV-s.1) (0,.aK,_) ⟨bkL _,R⟩ ?_ b_ ?_
 ·unfold ajG;exact Lq
 rintro⟨k,w,V⟩ ⟨S,e⟩;simp only at S e ⊢;obtain⟨k1,k2⟩:=i5 l F k;simp only[go_sem,ajH,ajN,ajG,bkG];by_cases hlt:k<Z' f.biV
 ·have d:(k:Int)<(Z' f.biV:Nat):=Om;have i:rX l t.2 (k+1)=((rX l t.2 k).1++[((aJ l 7 (rX l t.2 k).2).1:Int)-1],(aJ l 7 (rX l t.2 k).2).2):=rfl;have Y:=cR l (show 0<7 by decide) (rX l t.2 k).2;generalize X:rX l t.2 k=s at *
  have J:i_.wrap (((aJ l 7 s.2).1:Int)-1)=((aJ l 7 s.2).1:Int)-1:=wrap_i64 Om Om;have A:(1:Nat)*1<=16777216:=by decide
  simp only[go_sem,d,ajO];refine eP K T (o:=o) (n:=7) (a:=s.2) aU k1 (by simp only[go_sem];rfl) (e.at 0 rfl) ?_;have B:=e.set 0 rfl (bJ v (aJ l 7 s.2).2);simp only[go_sem,J,A];refine B.append 0 (src:=[[PV.int .i64 (((aJ l 7 s.2).1:Int)-1)]]) rfl Sq (by unfold roomFor;rw[bkG,k2];simp only[bkV,maxLen];omega) λU H' Q _=>?_;simp only[go_sem,ajP,wZz k];refine aG (k+1,U,H') ⟨hlt,?_⟩ (by simp only;omega) ?_ b_
  ·simp only;rw[i];have:iiv (s.1++[((aJ l 7 s.2).1:Int)-1])=iiv s.1++[[PV.int .i64 (((aJ l 7 s.2).1:Int)-1)]]:=by simp[iiv]
   rw[this];exact Q
  ·exact Lq
 ·have d:¬(k:Int)<(Z' f.biV:Nat):=Om;have:k=Z' f.biV:=Om;subst this;rw[<-p]at e;simp only[go_sem,d,ajQ];rcases e.own 0 rfl with⟨y,rfl⟩|⟨q,rs,rfl,_⟩
  ·refine bG (vs:=[.aK]) (.inr rfl) (h_.set o (bJ v (uW l f a).2)) Sq (e_ a_ (e.at 0 rfl)) ?_;rw[bN,E];refine⟨?_,rfl⟩;unfold ints;rw[show(uW l f a).1.map (λx=>[PV.int .i64 x])=[]from y];exact .nil 1
  ·obtain⟨rs,g1,g2,g3,-,g4⟩:=e.frz 0 rfl;refine zN (vs:=[.osl q 1 0 (iiv (uW l f a).1).length]) (.inr rfl) Sq (.step g1 (.done (H2:=h_.set o (bJ v (uW l f a).2)) ?_ (e_ a_ ?_)))
   ·rw[bN,g3,E];exact⟨.refl _,rfl⟩
   ·have:=g4.at 0 rfl;rw[this];simp only[bA.frz,blM,bmE,T.frz];rfl

theorem exactly{name:Nat}{args:List PV}{H H2:PH}{v:PV}(h:aH C name args H (λr H'=>Co r v/\H'=H2)):aH C name args H (λr H'=>r=v/\H'=H2):=
 h.post λr H' d=>⟨_,d.1,rfl,d.2⟩
theorem aQA(l:List Nat)(biV biX:Nat){a:Nat}(h:a<=Z' l):(kO l biV biX a).2<=Z' l:=by
 have u:=bY l 2 h;have i:=bY l 2 u;obtain⟨e,-⟩:=VI l i (1+(aJ l 2 (aJ l 2 a).2).1);have p:=bY l 2 e;obtain⟨d,-⟩:=HD l (1+(aJ l 2 (aJ l 2 a).2).1) p (1+(aJ l 2 (kU l (aJ l 2 (aJ l 2 a).2).2 (1+(aJ l 2 (aJ l 2 a).2).1)).2).1);obtain⟨w,-⟩:=UV (mc:=1+(aJ l 2 (kU l (aJ l 2 (aJ l 2 a).2).2 (1+(aJ l 2 (aJ l 2 a).2).1)).2).1) 4 0 (⟨by simp,bkL _,d⟩:GOk l biV ⟨[qX],[],_⟩);exact(QT l _ (bY l (biX+1) (BC l _ (bY l 2 w.a) _).1) _).1
structure vf(f:aE)(L:List (List Int)):Prop where
 len:Z' L=Z' f.biX
 row:∀v (h:v<Z' L),((L[v].length:Nat):Int)=aJM f v
 home:∀r∈L,∀x∈r,-1<=x/\x<Z' f.biV
theorem vf.bcZ{f:aE}{L:List (List Int)}(h:vf f L)(hV:VF f):∀k,k<=Z' L->(L.take k).flatten.length<=k*8:=by
 have w:=h.len;intro k
 induction k with
 |zero=>intro _;simp
 |succ k p =>intro e;rw[aPZ L e,bkQ];have u:=p Om;have i:=h.row k e;obtain⟨hp,l⟩:=aZR hV (Om:k<Z' f.biX);have d:=hV.bjH _ (bkK hp);rw[l]at d;unfold aJM at i;omega
theorem vf.ok{f:aE}(hV:VF f){L:List (List Int)}(h:vf f L):bbU L:=by
 have e:=hV.small.biX;have d:=h.len;have:=h.bcZ hV L.length (bkN _);rw[blE]at this;exact⟨by omega,by omega⟩
section
variable {H:PH} {B:List BX} {L:List LI}
end

section
variable {H:PH} {B:List BX} {L:List LI} {s:Nat} {rows:List (List PV)}
theorem tI.some(s:Nat)(rows:List (List PV))(G:PH):∃r H',tI s rows r H'/\qQ G .nil H':=by
 obtain⟨o,i⟩:=G.fresh;refine⟨.osl o s 0 rows.length,h_.set o (.rows s rows),.inr ⟨o,rows,rfl,rfl,bkN _,blE⟩,λq x d _=>?_⟩;rw[bD]at d;split at d
 ·rename_i e;rw[e];exact i
 ·cases d
end

section
variable {C:Ctx} {F:PF} {H Hs:PH} {tn a a2:Nat} {raw:List Int} {R:Nat->PV->PH->Prop} {st:Bool} {args:List aS} {d:Option Nat} {K:PF->PH->Prop}
end
section
variable {C:Ctx} {F:PF} {H:PH} {B:List BX} {L:List LI} {args:List aS} {d:Option Nat} {K:PF->PH->Prop}
theorem aR.zp(h:aR H B L)(i:Nat){o name:Nat}{x y:bA}{r:PV}{vs:List PV}(hi:B[i]?=some (o,x))(l:aH C name vs (h_.set o x) (λr' H'=>r'=r/\H'=h_.set o y))(e:aS.evs F args=some vs)
  (p:∀H',aR H' (B.set i (o,y)) L->K (F.put d r) H'):lC C name args [] d K F H:=qA l (h.at i hi) e (p _ (h.set i hi y))
theorem aR.SY(h:aR H B L){x:bA}{e:Nat->PV}(i:∀o H',aR H' (B++[(o,x)]) L->K (F.put d (e o)) H'):pS (some (e,x)) d K F H:=aP λo l=>i o _ (h.new l x)
end


theorem vf.move{f:aE}{L:List (List Int)}(h:vf f L){x k d:Nat}(u:x<Z' L)(w:d<Z' f.biV):vf f (L.set x (L[x].set k d)):=by
 refine⟨by rw[bmD];exact h.len,λv p=>?_,λr i=>?_⟩
 ·rw[bmD]at p;have:=h.row v p;rw[List.getElem_set];split
  ·rename_i e;subst e;rw[bmD];exact this
  ·exact this
 ·rcases boN i with i|rfl
  ·exact h.home r i
  ·intro y l;rcases boN l with l|rfl
   ·exact h.home _ (bkK u) y l
   ·omega


structure Y4(C:Ctx):Prop extends Av C where
 int:∀n:Int,dJ n->aH C 47 [.int .i64 n] .nil (aF (.agg (mkT n 1).cells))
 mul:∀a b,Lim a->Lim b->Z' a<=35184372087808->Z' b<=35184372087808->aH C 36 [aN a,aN b] .nil (aF (opV (fO (val a) (val b)) (val a*val b)))
 add:∀a b,Lim a->Lim b->Z' a<=35184372087808->Z' b<=35184372087808->aH C 30 [aN a,aN b] .nil (aF (opV (fO (val a) (val b)) (val a+val b)))
 sub:∀a b,Lim a->Lim b->Z' a<=35184372087808->Z' b<=35184372087808->aH C 37 [aN a,aN b] .nil (aF (yU (val a) (val b)))
theorem W9(a b:Nat):cB a b=(decide (nl b>0)&&(decide (nl b<=128)&&decide (nl a<=128))):=by
 have:=@kV b;refine Bool.eq_iff_iff.2 ?_;rw[eK];simp only[bkI,dT_];omega
theorem aUM(L:Y4 C)(neg:Bool)(a b:List Nat)(u:Lim a)(hb:Lim b)(w:Z' a<=35184372087808)(p:Z' b<=35184372087808) :
  QX.wp C (aX asK.res (aF (.bool (cB (val a) (val b))))) (g_ [.agg (fC neg a b)]) .nil:=by
 rw[W9];simp only[go_sem,QX,Xq,Xr,asK];refine aB (L.trim b hb p) rfl ?_;simp only[go_sem,bkG,bE];by_cases i:nl (val b)>0
 ·have d:((nl (val b):Nat):Int)>0:=Om;simp only[go_sem,d];refine aB (L.trim b hb p) rfl ?_;simp only[go_sem,bkG,bE];by_cases l:nl (val b)<=128
  ·have e:((nl (val b):Nat):Int)<=128:=Om;simp only[go_sem,e];refine aB (L.trim a u w) rfl ?_;simp only[go_sem,bkG,bE];refine aT (.inr rfl) rfl ?_;have:decide (((nl (val a):Nat):Int)<=128)=decide (nl (val a)<=128):=by refine decide_eq_decide.2 ?_;omega
   rw[bN,this,aV i,aV l];rfl
  ·have e:¬((nl (val b):Nat):Int)<=128:=Om;simp only[go_sem,e];refine aT (.inr rfl) rfl ?_;rw[bN,bC l,bkP,blR]
 ·have d:¬((nl (val b):Nat):Int)>0:=Om;simp only[go_sem,d];refine aT (.inr rfl) rfl ?_;rw[bN,bC i,bkP]
theorem xg{neg:Bool}{a b:Nat}(h:cB a b=true):kB neg a b=.ok (pD neg a b):=by
 obtain⟨l,d,e⟩:=eK.1 h;have i:=(kJ (a/bkJ a b) 128).2 (xQ _ e);have e2:=(kJ (b/bkJ a b) 128).2 (xQ _ d);unfold kB pD;rw[aD Om]
def aIF(a b:Nat):Bool:=decide (nl a>128)||decide (nl b>128)
theorem aUJ(neg:Bool)(a b:List Nat) :
  QS.wp C (aX arQ.res (aF (.bool (decide (Z' a>128)||decide (Z' b>128))))) (g_ [.agg (fC neg a b)]) .nil:=by
 simp only[go_sem,QS,Xb,Xc,arQ,bkG];by_cases c:Z' a>128
 ·have d:(Z' a:Int)>128:=Om;simp only[go_sem,d];refine aT (.inr rfl) rfl ?_;rw[bN,aV c,Bool.true_or]
 ·have d:¬(Z' a:Int)>128:=Om;simp only[go_sem,d,bkG];refine aT (.inr rfl) rfl ?_;have:decide ((Z' b:Int)>128)=decide (Z' b>128):=by refine decide_eq_decide.2 ?_;omega
  rw[bN,this,bC c,Bool.false_or]
def adF(x:FV):FR:=if aIF x.2.1 x.2.2 then .error 2 else .ok x
theorem axQ(neg:Bool)(a b:Nat):adF (pD neg a b)=kB neg a b:=by
 have d:=kJ (a/bkJ a b) 128;have e2:=kJ (b/bkJ a b) 128;unfold adF pD kB aIF;simp only[Bool.or_eq_true,dT_];by_cases c:nl (a/bkJ a b)>128\/nl (b/bkJ a b)>128
 ·rw[aI c,aI Om]
 ·rw[aD c,aD Om]
structure Ax(C:Ctx):Prop extends Y4 C where
 valid:∀x:RF,x.Ok->aH C 56 [.agg x.cells] .nil (aF (.bool (cB (val x.num) (val x.den))))
 big:∀x:FV,aH C 48 [.agg x.rf.cells] .nil (aF (.bool (aIF x.2.1 x.2.2)))
theorem a1M(L:Ax C)(x:FV):ZE.wp C (aX aNX.res (cI (frV (adF x)))) (g_ [.agg x.rf.cells]) .nil:=by
 simp only[go_sem,ZE,arL,aNX];refine aP λo d=>?_;simp only[go_sem,arM];refine aB (L.big x) rfl ?_;unfold adF;cases aIF x.2.1 x.2.2 with
 |true =>simp only[go_sem,arN];refine gS ?_;simp only[go_sem]
 |false =>obtain⟨n,a,b⟩:=x;simp only[go_sem,arO];exact bG (.inr rfl) .nil (vs:=[.agg (FV.rf (n,a,b)).cells,.int .i64 0]) Sq a_ ⟨.refl _,rfl⟩
theorem aOA(L:Ax C)(x:RF)(d:x.Ok):LK.wp C (aX O6.res (cI (frV (mY x)))) (g_ [.agg x.cells]) .nil:=by
 simp only[go_sem,LK,Kg,O6];refine aP λo p=>?_;simp only[go_sem,Kh];refine aB (L.valid x d) rfl ?_;unfold mY;cases i:cB (val x.num) (val x.den)with
 |false =>simp only[go_sem,bkW,Ki];refine gS ?_;simp only[go_sem]
 |true =>obtain⟨l,u,w⟩:=eK.1 i;have e:=xg (neg:=x.neg) i;rw[aI rfl,e];simp only[go_sem,bkO,Kj];refine aB (L.lowest x.neg x.num x.den d.1 d.2.1 d.2.2.1 d.2.2.2 Om Om l) rfl ?_;simp only[go_sem];exact bG (.inr rfl) .nil (vs:=[.agg (pD x.neg (val x.num) (val x.den)).rf.cells,.int .i64 0]) Sq a_ ⟨.refl _,rfl⟩
theorem aUL(L:Y4 C)(a b:List Nat)(d:Lim a)(hb:Lim b)(e:Z' a<=35184372087808)(i:Z' b<=35184372087808)(l:nl (val a)<=256)(p:nl (val b)<=256) :
  QV.wp C (aX asJ.res (aF (aN (aM (val a*val b))))) (g_ [aN a,aN b]) .nil:=by
 simp only[go_sem,QV,Xn,Xo,asJ];refine aB (L.mul a b d hb e i) rfl ?_;have:=kZ l p;rw[lZ Om Om,opV,LD Om];simp only[go_sem,Xp];refine aT (.inr rfl) rfl ?_;rfl
structure Ay(C:Ctx):Prop extends Ax C where
 fits:∀x:FV,aH C 57 [.agg x.rf.cells] .nil (aF (frV (adF x)))
 red:∀x:RF,x.Ok->aH C 52 [.agg x.cells] .nil (aF (frV (mY x)))
 prod:∀a b,Lim a->Lim b->Z' a<=35184372087808->Z' b<=35184372087808->nl (val a)<=256->nl (val b)<=256->aH C 60 [aN a,aN b] .nil (aF (aN (aM (val a*val b))))
def RF.valid(x:RF):Prop:=cB (val x.num) (val x.den)=true
def qM(x y:RF):Int:=sW x.neg (val x.num) (val x.den) y.neg (val y.num) (val y.den)
def voS:Spec:=λname vs=>match name,vs with
 |60,[x,y]=>some ([],λ_=>aF (aN (aM (val (kN x)*val (kN y)))))
 |_,_=>none
theorem FC(a b:List Nat):voS 60 [aN a,aN b]=some ([],λ_=>aF (aN (aM (val a*val b)))):=by
 show some _=_;rw[eX,eX]
theorem cu(a b:Nat):eR b a=- eR a b:=by
 unfold eR;rcases Nat.lt_trichotomy a b with h|h|h
 ·rw[aD Om,aI h,aI h];rfl
 ·subst h;rw[aD Om,aD Om];rfl
 ·rw[aI h,aD Om,aI h]
set_option maxHeartbeats 1000000 in
theorem aUK {C : Ctx} (L : Ay C) (x y : RF) (hx : x.Ok) (hy : y.Ok) (vx : x.valid) (vy : y.valid) : QU.wp C (aX arZ.res (aF (.int .i64 (qM x y)))) (g_ [.agg x.cells, .agg y.cells]) .nil := by
  obtain ⟨n1, a1, b1⟩ := x;obtain ⟨n2, a2, b2⟩ := y;obtain ⟨ha1, hb1, la1, lb1⟩ := hx;obtain ⟨ha2, hb2, la2, lb2⟩ := hy;obtain ⟨v1, v2, v3⟩ := eK.1 vx;obtain ⟨w1, w2, w3⟩ := eK.1 vy;simp only at ha1 hb1 la1 lb1 ha2 hb2 la2 lb2 v1 v2 v3 w1 w2 w3;have m1 := kZ v3 w2;have m2 := kZ w3 v2;have hA : decide (val a1 ≠ 0) = decide (nl (val a1 * val b2) > 0) := by refine decide_eq_decide.2 ?_;have := @kV (val a1 * val b2);rw [Nat.mul_eq_zero] at this;omega
  have hB : decide (val a2 ≠ 0) = decide (nl (val a2 * val b1) > 0) := by refine decide_eq_decide.2 ?_;have := @kV (val a2 * val b1);rw [Nat.mul_eq_zero] at this;omega
  unfold qM sW;simp only [hA, hB];simp only[go_sem,QU,Xd,arZ];refine bP .nil voS a_ ?_;simp only[go_sem,Xe];refine bK (FC a1 b2) (L.prod a1 b2 ha1 hb2 la1 lb2 Om Om) rfl a_ ?_;simp only[go_sem];refine bK (FC a2 b1) (L.prod a2 b1 ha2 hb1 la2 lb1 Om Om) rfl a_ ?_;have hc := L.cmp (aM (val a1 * val b2)) (aM (val a2 * val b1)) (aY _) (aY _) (by rw [bE]; omega) (by rw [bE]; omega);have hd := L.cmp (aM (val a2 * val b1)) (aM (val a1 * val b2)) (aY _) (aY _) (by rw [bE]; omega) (by rw [bE]; omega);rw [aW, aW] at hc hd;rw [cu (val a1 * val b2)] at hd;generalize val a1 * val b2 = A at *
  generalize val a2 * val b1 = B at *
  have gA : decide (((nl A : Nat) : Int) > 0) = decide (nl A > 0) := decide_eq_decide.2 Om;have gB : decide (((nl B : Nat) : Int) > 0) = decide (nl B > 0) := decide_eq_decide.2 Om;generalize decide (nl A > 0) = p at *
  generalize decide (nl B > 0) = q at *
  cases n1 <;> cases n2 <;> cases p <;> cases q
  all_goals
    simp only[go_sem,Xf,bkG,bE,gA,gB,Xg,Xh,Xi,Xj,Xk,Xl,Xm]
    first
    | (refine aT (.inr rfl) rfl ?_; rfl)
    | (refine aB hc rfl ?_
       simp only[go_sem];refine aT (.inr rfl) rfl ?_;rfl)
    | (refine aB hd rfl ?_
       simp only[go_sem];refine aT (.inr rfl) rfl ?_;rfl)
structure EG(C:Ctx):Prop extends Ay C where
 order:∀x y:RF,x.Ok->y.Ok->x.valid->y.valid->aH C 51 [.agg x.cells,.agg y.cells] .nil (aF (.int .i64 (qM x y)))
theorem a1P(L:EG C)(x y:RF)(d:x.Ok)(e:y.Ok)(i:x.valid)(l:y.valid):ZF.wp C (aX aNY.res (aF (.bool (decide (qM x y<0))))) (g_ [.agg x.cells,.agg y.cells]) .nil:=by
 simp only[go_sem,ZF,arR,arS,aNY];refine aB (L.order x y d e i l) rfl ?_;simp only[go_sem];refine aT (.inr rfl) rfl ?_;rfl
theorem a1S(L:EG C)(x y:RF)(d:x.Ok)(e:y.Ok)(i:x.valid)(l:y.valid):ZJ.wp C (aX aOB.res (aF (.bool (qM x y==0)))) (g_ [.agg x.cells,.agg y.cells]) .nil:=by
 simp only[go_sem,ZJ,asA,asB,aOB];refine aB (L.order x y d e i l) rfl ?_;simp only[go_sem];refine aT (.inr rfl) rfl ?_;rfl
theorem IR(n:Int):mkT n 1=⟨decide (n<0),aM n.natAbs,aM 1⟩:=by
 unfold mkT pD FV.rf;rw[show(1:Int).natAbs=1 from rfl,Nat.gcd_one_right,Nat.div_one,Nat.div_one,show decide ((1:Int)<0)=false from rfl];congr 1;by_cases h:n<0
 ·have:n.natAbs≠0:=Om;simp[h,this]
 ·simp[h]
theorem SE(n:Int)(h:dJ n):(mkT n 1).Ok/\(mkT n 1).valid:=by
 have d:nl n.natAbs<=2:=lE (by unfold dJ at h;omega);rw[IR];refine⟨⟨aY _,aY _,?_,?_⟩,?_⟩
 ·simp only[bE];omega
 ·simp only[nS];decide
 ·unfold RF.valid;simp only[aW];rw[W9];have:nl 1=1:=by rw[nl,nS];rfl
  simp[this];omega
def sM(x:RF):Int:=if val x.num=0 then 0 else if x.neg then -1 else 1
theorem alX(x:RF):qM x (mkT 0 1)=sM x:=by
 rw[IR];unfold qM sM sW;simp only[aW,show(0:Int).natAbs=0 from rfl,Nat.mul_one,Nat.zero_mul];by_cases h:val x.num=0
 ·simp[h,eR]
 ·cases x.neg<;>simp[h,eR]
def viS(r:Int):Spec:=λname _=>if name=47 then some ([],λ_=>aF (.agg (mkT 0 1).cells))else some ([],λ_=>aF (.int .i64 r))
theorem a1T(L:EG C)(x:RF)(i:x.Ok)(l:x.valid):ZK.wp C (aX aOC.res (aF (.int .i64 (sM x)))) (g_ [.agg x.cells]) .nil:=by
 have d:dJ 0:=by unfold dJ;omega
 have e:=L.order x (mkT 0 1) i (SE 0 d).1 l (SE 0 d).2;rw[alX]at e;simp only[go_sem,ZK,asC,aOC];refine bP .nil (viS (sM x)) a_ ?_;simp only[go_sem,asD];refine bK rfl (L.int 0 d) rfl a_ ?_;simp only[go_sem];refine bK rfl e rfl a_ ?_;simp only[go_sem];refine aT (.inr rfl) rfl ?_;rfl
theorem aUH(L:EG C)(i l:Bool)(a1 b1 a2 b2:List Nat)(O:Lim a1)(J:Lim b1)(Q:Lim a2)(K:Lim b2)
  (R:Z' a1<=35184372087808) (M:Z' b1<=35184372087808) (S:Z' a2<=35184372087808) (N:Z' b2<=35184372087808) :
  NQ.wp C (aX aNU.res (cI (frV (gJ (i,val a1,val b1) (l,val a2,val b2))))) (g_ [.agg (fC i a1 b1),.agg (fC l a2 b2)]) .nil:=by
 have vx:aH C 56 [.agg (fC i a1 b1)] .nil (aF (.bool (cB (val a1) (val b1)))):=L.valid ⟨i,a1,b1⟩ ⟨O,J,R,M⟩;have vy:aH C 56 [.agg (fC l a2 b2)] .nil (aF (.bool (cB (val a2) (val b2)))):=L.valid ⟨l,a2,b2⟩ ⟨Q,K,S,N⟩;simp only[go_sem,NQ,aFO,aNU];refine aP λo ho=>?_;simp only[go_sem,aFP];refine aB vx rfl ?_;simp only[gJ];cases hv:cB (val a1) (val b1)with
 |false =>simp only[go_sem,bkW,O1,bkP];refine gS ?_;simp only[go_sem]
 |true=>
  obtain⟨v1,v2,v3⟩:=eK.1 hv;simp only[go_sem,bkO];refine aB vy rfl ?_;cases hw:cB (val a2) (val b2)with
  |false =>simp only[go_sem,bkW,O1,blR];refine gS ?_;simp only[go_sem]
  |true=>
   obtain⟨w1,w2,w3⟩:=eK.1 hw;simp only[go_sem,bkO,bmO];refine bP .nil voS a_ ?_;simp only[go_sem,aFQ];refine bK (FC a1 b2) (L.prod a1 b2 O K R N Om Om) rfl a_ ?_;simp only[go_sem];refine bK (FC a2 b1) (L.prod a2 b1 Q J S M Om Om) rfl a_ ?_;simp only[go_sem];refine bK (FC b1 b2) (L.prod b1 b2 J K M N Om Om) rfl a_ ?_;simp only[go_sem];have m1:=kZ v3 w2;have m2:=kZ w3 v2;have m3:=kZ v2 w2;have d0:val b1*val b2≠0:=Nat.mul_ne_zero v1 w1;generalize hA:val a1*val b2=A at *
   generalize hB:val a2*val b1=B at *
   generalize hD:val b1*val b2=D at *
   have fin:∀(F:PF)(H:PH)(r:FR),(∃d x y e,frV r=.tup [.agg (fC d x y),.int .i64 e]/\F 4=some (.ptr o 3 0 0)/\F 5=some (.int .i64 e)/\H o=some (.rows 3 [fC d x y]))->aX [.cell 4 (some 3),.tmp 5] (cI (frV r)) .ret F H:=by rintro F H r ⟨d,x,y,e,he,f4,f5,hH⟩;rw[he];exact bG (.inr rfl) .nil (vs:=[.agg (fC d x y),.int .i64 e]) (by simp only[go_sem,f4,f5,hH]) a_ ⟨.refl _,rfl⟩
   have W:(i==l)=decide (i=l):=by cases i<;>cases l<;>rfl
   have low:∀neg x,nl x<=257->aH C 58 [.bool neg,aN (aM x),aN (aM D)] .nil (aF (.agg (pD neg x D).rf.cells)):=by
    intro neg x hx;have Z:(aM x).length<=35184372087808:=by rw[bE];omega
    have h2:(aM D).length<=35184372087808:=by rw[bE];omega
    have:=L.lowest neg (aM x) (aM D) (aY _) (aY _) Z h2;rw[aW,aW]at this;exact this Om Om d0
   have E:∀neg x,aH C 57 [.agg (pD neg x D).rf.cells] .nil (aF (frV (kB neg x D))):=λneg x=>by
    have:=L.fits (pD neg x D)
    rwa[axQ]at this
   have lA:(aM A).length<=35184372087808:=by rw[bE];omega
   have lB:(aM B).length<=35184372087808:=by rw[bE];omega
   simp only[go_sem,aFR];by_cases c:i=l
   ·rw[aI c];have U:(i==l)=true:=by rw[W,aV c]
    simp only[go_sem,U,aFS];have u:=L.add (aM A) (aM B) (aY _) (aY _) lA lB;have α:=Gr m1 m2;rw[aW,aW,lZ Om Om,opV,LD Om]at u;refine aB u rfl ?_;simp only[go_sem,aFT];refine aB (low i _ Om) rfl ?_;simp only[go_sem];refine aB (E i _) rfl ?_;obtain⟨d,x,y,e,p⟩:=zC (kB i (A+B) D);rw[p];simp only[go_sem];rw[<-p];exact fin _ _ _ ⟨d,x,y,e,p,s_,s_,s_⟩
   ·rw[aD c];have U:(i==l)=false:=by rw[W,bC c]
    simp only[go_sem,U,aFU];have hc:=L.cmp (aM A) (aM B) (aY _) (aY _) lA lB;rw[aW,aW]at hc;refine aB hc rfl ?_;have w:∀X Y:Nat,nl X<=256->nl Y<=256->Y<=X->aH C 37 [aN (aM X),aN (aM Y)] .nil (aF (.tup [aN (aM (X-Y)),.int .i64 0])):=by intro X Y Z h2 h;have:=L.sub (aM X) (aM Y) (aY _) (aY _) (by rw[bE];omega) (by rw[bE];omega);have h3:=jO (Om:X-Y<=X);rw[aW,aW,yU,lZ Om Om,aD aU,aD Om,LD Om]at this;exact this
    by_cases g:B<=A
    ·have V:eR A B>=0:=(l6 A B).2 g;rw[aI g];simp only[go_sem,V,aFV];refine aB (w A B Om Om g) rfl ?_;simp only[go_sem,aFW];have h3:=jO (Om:A-B<=A);refine aB (low i (A-B) Om) rfl ?_;simp only[go_sem];refine aB (E i _) rfl ?_;obtain⟨d,x,y,e,p⟩:=zC (kB i (A-B) D);rw[p];simp only[go_sem];rw[<-p];exact fin _ _ _ ⟨d,x,y,e,p,s_,s_,s_⟩
    ·have V:¬eR A B>=0:=λh=>g ((l6 A B).1 h);rw[aD g];simp only[go_sem,V,arH];refine aB (w B A Om Om Om) rfl ?_;simp only[go_sem,arI];have h3:=jO (Om:B-A<=B);refine aB (low l (B-A) Om) rfl ?_;simp only[go_sem];refine aB (E l _) rfl ?_;obtain⟨d,x,y,e,p⟩:=zC (kB l (B-A) D);rw[p];simp only[go_sem];rw[<-p];exact fin _ _ _ ⟨d,x,y,e,p,s_,s_,s_⟩
theorem a7R(L:EG C)(x y:RF)(d:x.Ok)(e:y.Ok):NQ.wp C (aX aNU.res (cI (frV (gJ x.v y.v)))) (g_ [.agg x.cells,.agg y.cells]) .nil:=
 aUH L x.neg y.neg x.num x.den y.num y.den d.1 d.2.1 e.1 e.2.1 d.2.2.1 d.2.2.2 e.2.2.1 e.2.2.2
structure aHX(C:Ctx):Prop extends EG C where
 less:∀x y:RF,x.Ok->y.Ok->x.valid->y.valid->aH C 49 [.agg x.cells,.agg y.cells] .nil (aF (.bool (decide (qM x y<0))))
 same:∀x y:RF,x.Ok->y.Ok->x.valid->y.valid->aH C 53 [.agg x.cells,.agg y.cells] .nil (aF (.bool (qM x y==0)))
 sign:∀x:RF,x.Ok->x.valid->aH C 54 [.agg x.cells] .nil (aF (.int .i64 (sM x)))
 plus:∀x y:RF,x.Ok->y.Ok->aH C 46 [.agg x.cells,.agg y.cells] .nil (aF (frV (gJ x.v y.v)))
def vsF(l:List RF)(o2 o4 k:Nat):PF:=((((n_.set 0 (frs l)).set 2 (.ptr o2 3 0 0)).set 4 (.ptr o4 3 0 0)).set 5 (.int .i64 k))
theorem a7W(L:aHX C)(l:List RF)(hl:∀x∈l,x.Ok)(V:Z' l<=9223372036854775807) :
  kr.wp C (aX a1V.res (cI (frV (tD (l.map RF.v))))) (g_ [frs l]) .nil:=by
 have Y:dJ 0:=by unfold dJ;omega
 have hi:(mkT 0 1).cells=(FV.rf (false,0,1)).cells:=by rw[IR];rfl
 have y:=L.int 0 Y;rw[hi]at y;simp only[go_sem,kr,aGM,a1V];refine aP λo2 β=>?_;have Z:aR (h_.set o2 (.rows 3 [[.bool false,.aK,.aK]])) [(o2,.rows 3 [[.bool false,.aK,.aK]])] []:=aR.nil.new (H:=h_) rfl _;generalize(h_.set o2 _)=H1 at *
 simp only[go_sem,aGN];refine aB y rfl ?_;simp only[go_sem];refine aP λo4 S=>?_;have h2:=Z.new S (.rows 3 [(FV.rf (false,0,1)).cells]);simp only[go_sem,aGO];refine wp_loop (α:=Nat × FV × PH) (λt=>vsF l o2 o4 t.1) (λt=>t.2.2) (λt=>t.1<=Z' l/\((l.map RF.v).take t.1).foldlM gJ (false,0,1)=.ok t.2.1/\aR t.2.2 [(o2,.rows 3 [[.bool false,.aK,.aK]]),(o4,.rows 3 [(FV.rf t.2.1).cells])] []/\(FV.rf t.2.1).Ok) (λt=>Z' l-t.1)
  (0,(false,0,1),_) ⟨bkL _,rfl,h2,⟨aY _,aY _,?_,?_⟩⟩ ?_ b_ ?_
 ·show(aM 0).length<=_;rw[fJ];simp
 ·show(aM 1).length<=_;rw[nS];simp
 ·unfold vsF;exact Lq
 rintro⟨k,i,U⟩ ⟨hk,M,B,u⟩;simp only at hk M B u ⊢;simp only[go_sem,aGL,aGP,vsF,bkG];by_cases hlt:k<Z' l
 ·have p:(k:Int)<(Z' l:Nat):=Om;have hr:(l.map RF.cells)[k]?=some (l[k]).cells:=by simp[hlt]
  have w:=L.plus (FV.rf i) l[k] u (hl _ (bkK hlt));rw[FV.xH]at w;have d:=p7 (f:=gJ) (l.map RF.v) (false,0,1) (k:=k) (by simpa using hlt);rw[M]at d;simp only[Except.bind,blX]at d;have N:=B.at 1 rfl;simp only[go_sem,p];refine bP .nil (λ_ _=>some ([],λ_=>aF (frV (gJ i (l[k]).v)))) a_ ?_;simp only[go_sem,aGQ,N,hr];refine bK rfl w rfl a_ ?_;cases K:gJ i (l[k]).v with
  |error e=>
   have R:e≠0:=by
    revert K;obtain⟨n1,a1,b1⟩:=i;obtain⟨n2,a2,b2⟩:=(l[k]).v;simp only[gJ,kB]
    repeat' split
    all_goals (intro h;first|(injection h with h;subst h;decide)|cases h)
   rw[K]at d;simp only[go_sem,frV];refine aP λo6 A=>?_;simp only[go_sem];refine⟨a_,?_⟩;have E:=B.new A (.rows 3 [[.bool false,aN [],aN []]]);have e2:=E.at 0 rfl;simp only[go_sem,O8,dP R,aGR,e2];rw[tD,Dz _ _ d];refine gS ?_;simp only[go_sem]
  |ok r=>
   rw[K]at d;obtain⟨rn,F,J⟩:=r;simp only[go_sem,frV];refine aP λo6 A=>?_;simp only[go_sem];refine⟨a_,?_⟩;have E:=B.new A (.rows 3 [(FV.rf (rn,F,J)).cells]);have X:=E.at 2 rfl;have O:=E.at 1 rfl;generalize hG:U.set o6 (.rows 3 [(FV.rf (rn,F,J)).cells])=W at *
   have Q:U.set o6 (.rows 3 [[.bool rn,aN (aM F),aN (aM J)]])=W:=hG;simp only[go_sem,O8,aGS,Q,X,O,aGT,wZz k];have h7:=(E.set 1 rfl (.rows 3 [(FV.rf (rn,F,J)).cells])).qR 2;refine aG (k+1,(rn,F,J),_) ⟨hlt,d,h7,ln K⟩ (by simp only;omega) ?_ b_;exact Lq
 ·have p:¬(k:Int)<(Z' l:Nat):=Om;have:k=Z' l:=Om;subst this;rw[bkZ bH]at M;rw[tD,M];have e2:=B.at 0 rfl;have N:=B.at 1 rfl;obtain⟨n,a,b⟩:=i;simp only[go_sem,p,asI,N,e2];exact bG (.inr rfl) .nil (vs:=[.agg (FV.rf (n,a,b)).cells,.int .i64 0]) Sq a_ ⟨.refl _,rfl⟩
theorem dge{n:Nat}(k:Nat):decide ((n:Int)>=(k:Int))=decide (k<=n):=decide_eq_decide.2 Om
theorem dle{n:Nat}(k:Nat):decide ((n:Int)<=(k:Int))=decide (n<=k):=decide_eq_decide.2 Om
theorem aOG(n:Nat):LN.wp C (aX Pc.res (aF (.bool (gX n)))) (g_ [.int .u8 n]) .nil:=by
 have e:=dge (n:=n) 97;have i:=dle (n:=n) 122;have l:=dge (n:=n) 65;have p:=dle (n:=n) 90;simp only[Int.cast_ofNat_Int]at e i l p;unfold gX;generalize decide (97<=n)=a at *
 generalize decide (n<=122)=b at *
 generalize decide (65<=n)=c at *
 generalize decide (n<=90)=d at *
 cases a<;>cases b<;>cases c<;>cases d
 all_goals
  simp only[go_sem,LN,K0,K3,Pc,e,i,l,p];refine aT (.inr rfl) rfl ?_;rfl
theorem aUN(n:Nat):QZ.wp C (aX asL.res (aF (.bool (rI n)))) (g_ [.int .u8 n]) .nil:=by
 have d:=dge (n:=n) 48;have e:=dle (n:=n) 57;simp only[Int.cast_ofNat_Int]at d e;unfold rI;generalize decide (48<=n)=a at *
 generalize decide (n<=57)=b at *
 cases a<;>cases b
 all_goals
  simp only[go_sem,QZ,Xt,Xu,asL,d,e];refine aT (.inr rfl) rfl ?_;rfl
theorem aOE(d:∀n:Nat,aH C 65 [.int .u8 n] .nil (aF (.bool (gX n))))(e:∀n:Nat,aH C 63 [.int .u8 n] .nil (aF (.bool (rI n))))(n:Nat) :
  LL.wp C (aX Pa.res (aF (.bool (jV n)))) (g_ [.int .u8 n]) .nil:=by
 have g1:((n:Int)==45)=decide (n=45):=by by_cases h:n=45<;>simp[h];omega
 have g2:((n:Int)==46)=decide (n=46):=by by_cases h:n=46<;>simp[h];omega
 have k1:=d n;have k2:=e n;unfold jV;generalize decide (n=45)=a at *
 generalize decide (n=46)=b at *
 simp only[go_sem,LL,Kp,Kq,Pa];refine aB k1 rfl ?_;cases gX n with
 |true =>simp only[go_sem];refine aT (.inr rfl) rfl ?_;rfl
 |false=>
  simp only[go_sem];refine aB k2 rfl ?_;cases rI n<;>cases a<;>cases b
  all_goals
   simp only[go_sem,g1,g2];refine aT (.inr rfl) rfl ?_;rfl
theorem aOF(A:∀n:Nat,aH C 65 [.int .u8 n] .nil (aF (.bool (gX n))))(B:∀n:Nat,aH C 64 [.int .u8 n] .nil (aF (.bool (jV n))))(s:List UInt8) :
  LM.wp C (aX Pb.res (aF (.bool (isName s)))) (g_ [.str s]) .nil:=by
 simp only[go_sem,LM,Ks,Kt,Pb];cases s with
 |nil =>have y:decide (((0:Nat):Int)<1)=true:=rfl;simp only[go_sem,HW,bnB,y];refine aT (.inr rfl) rfl ?_;rfl
 |cons c t=>
  have E:(c::t)[0]?=some c:=rfl;have i:isName (c::t)=(decide ((c::t).length<=16)&&gX c.toNat&&(c::t).all λc=>jV c.toNat):=rfl;have e:¬(((c::t).length:Nat):Int)<1:=by simp only[bmB];omega
  generalize c::t=s at *
  by_cases x:Z' s<=16
  ·have l:¬(Z' s:Int)>16:=Om;rw[aV x,bkR]at i;have k1:=A c.toNat;simp only[go_sem,e,l,E,blJ];refine aB k1 rfl ?_;cases w:gX c.toNat with
   |false =>simp only[go_sem,bkW,HW];refine aT (.inr rfl) rfl ?_;rw[bN,i,w,bkP]
   |true=>
    rw[w,bkR]at i;simp only[go_sem,bkO,Ku];refine wp_loop (α:=Nat) (λk=>((n_.set 0 (.str s)).set 3 (.int .i64 k))) (λ_=>.nil) (λk=>k<=Z' s/\(s.take k).all (λc=>jV c.toNat)=true) (λk=>Z' s-k) 0 ⟨bkL _,rfl⟩ Lq a_ ?_;rintro k ⟨F,p⟩;simp only[go_sem,Kr,Kv];by_cases hlt:k<Z' s
    ·have d:(k:Int)<(Z' s:Nat):=Om;have u:s[k]?=some s[k]:=bkT hlt;have k2:=B (s[k]).toNat;simp only[go_sem,d,Kw,u,blJ];refine aB k2 rfl ?_;cases hi:jV (s[k]).toNat with
     |false =>simp only[go_sem,bkW,Kx];refine aT (.inr rfl) rfl ?_;rw[bN,i,vE hlt hi]
     |true =>simp only[go_sem,bkO,Ky,wZz k];exact aG (k+1) ⟨hlt,by simpa using vD hlt p hi⟩ Om Lq b_
    ·have d:¬(k:Int)<(Z' s:Nat):=Om;have:k=Z' s:=Om;subst this;rw[blE]at p;simp only[go_sem,d,Kz];refine aT (.inr rfl) rfl ?_;rw[bN,i,p]
  ·have l:(Z' s:Int)>16:=Om;rw[bC x,bkP,bkP]at i;simp only[go_sem,e,l,HW];refine aT (.inr rfl) rfl ?_;rw[bN,i]
def TF(k m:Int):Bool:=within k 1 6&&(within m 0 4&&decide (k+m<=8))
theorem a0L(k m:Int):tW.wp C (aX YC.res (aF (.bool (TF k m)))) (g_ [.int .i64 k,.int .i64 m]) .nil:=by
 unfold TF within;by_cases d:1<=k
 ·by_cases e:k<=6
  ·by_cases i:0<=m
   ·by_cases l:m<=4
    ·have p:i_.wrap (k+m)=k+m:=wrap_i64 Om Om;simp only[go_sem,tW,DF,DG,YC,ge_iff_le,d,e,i,l,p];refine aT (.inr rfl) rfl ?_;simp[bN,d,e,i,l]
    ·simp only[go_sem,tW,DF,DG,YC,ge_iff_le,d,e,i,l];refine aT (.inr rfl) rfl ?_;simp[bN,d,e,i,l]
   ·simp only[go_sem,tW,DF,DG,YC,ge_iff_le,d,e,i];refine aT (.inr rfl) rfl ?_;simp[bN,d,e,i]
  ·simp only[go_sem,tW,DF,DG,YC,ge_iff_le,d,e];refine aT (.inr rfl) rfl ?_;simp[bN,d,e]
 ·simp only[go_sem,tW,DF,DG,YC,ge_iff_le,d];refine aT (.inr rfl) rfl ?_;simp[bN,d]
def RH:=bR [1] Proofs.Tryz.f109
def Yb:=aA RH 0
def Yc:=aA RH 1
def NT:=aA RH 2
def RG:aC:=(sq Yb (sq Yc (sq NT .ret)))
def atG:bB:=⟨1,29,RG,[.tmp 2]⟩
def nF:=bR [] Proofs.Tryz.f154
def K8:=aA nF 0
def K9:=aA nF 1
def La:=aA nF 2
def Lc:=aA nF 3
def Ld:=aA nF 4
def Le:=aA nF 5
def Lf:=aA nF 6
def Lg:=aA nF 7
def K7:aC:=(cT Ld 12 0 Lg (sq Le (.cond (Tm 20) (sq Lf .ret) .skip)))
def Lh:=aA nF 8
def LP:aC:=(sq K8 (dA K9 9 La (.seq (cD Lc 0 K7) (sq Lh .ret))))
def Pi:bB:=⟨2,21,LP,[.tmp 4]⟩
def eN:=bR [1] Proofs.Tryz.f108
def aHB:=aA eN 0
def aHC:=aA eN 1
def aHD:=aA eN 2
def JA:=aA eN 3
def aHE:=aA eN 4
def aHF:=aA eN 5
def aHG:=aA eN 6
def Ph:=aA eN 7
def aHH:=aA eN 8
def aHA:aC:=(cT aHF 44 0 aHH (sq aHG (.cond (Tm 66) (sq Ph .ret) .skip)))
def asT:=aA eN 9
def Ac:=cN eN 0
def Ad:=aA eN 10
def asU:=aA eN 11
def asV:=aA eN 12
def asW:=aA eN 13
def asX:=aA eN 14
def asY:=aA eN 15
def Ae:=aA eN 16
def Af:=aA eN 17
def asZ:=aA eN 18
def Ag:=aA eN 19
def ZR:=aA eN 20
def ZQ:aC:=(cT asZ 111 6 ZR (.region Ag))
def Ah:=aA eN 21
def z8:aC:=(cT asY 90 4 Ah (sq Ae (cD Af 6 ZQ)))
def atA:=aA eN 22
def Aa:aC:=(cT asW 85 2 atA (cD asX 4 z8))
def atB:=aA eN 23
def atC:=aA eN 24
def Ai:=aA eN 25
def atD:=aA eN 26
def atE:=aA eN 27
def Ab:aC:=(cT atC 141 8 atE (sq Ai (.cond (Tm 148) (sq atD .ret) .skip)))
def Aj:=aA eN 28
def lg:aC:=(sq aHB (sq aHC (dA aHD 41 JA (.seq (cD aHE 0 aHA) (.seq (sq asT (dq Ac (.cond (Tm 80) (sq Ad .ret) .skip))) (sq asU (.seq (cD asV 2 Aa) (.seq (cD atB 8 Ab) (sq Aj .ret)))))))))
def a2D:bB:=⟨1,149,lg,[.tmp 2]⟩
def rZ:=bR [] Proofs.Tryz.f157
def aHJ:=aA rZ 0
def aHK:=aA rZ 1
def aHL:=aA rZ 2
def aHM:=aA rZ 3
def aHN:=aA rZ 4
def aHO:=aA rZ 5
def aHP:=aA rZ 6
def aHQ:=aA rZ 7
def aHI:aC:=(cT aHN 14 0 aHQ (sq aHO (.cond (Tm 22) (sq aHP .ret) .skip)))
def aHR:=aA rZ 8
def lh:aC:=(sq aHJ (dA aHK 10 aHL (.seq (cD aHM 0 aHI) (sq aHR .ret))))
def a2F:bB:=⟨2,23,lh,[.tmp 4]⟩
def ll:=bR [] Proofs.Tryz.f105
def bb:=aA ll 0
def bc:=aA ll 1
def CC:aC:=(sq bb (sq bc .ret))
def ny:bB:=⟨3,15,CC,[.tmp 6]⟩
def ve:=bR [] Proofs.Tryz.f106
def X9:=aA ve 0
def Ya:=aA ve 1
def RE:aC:=(sq X9 (sq Ya .ret))
def atF:bB:=⟨6,35,RE,[.tmp 12]⟩
def mH:=bR [7] Proofs.Tryz.f110
def uz:=aA mH 0
def u0:=aA mH 1
def EE:=aA mH 2
def u5:=aA mH 3
def u6:=aA mH 4
def RD:=aA mH 5
def u7:=aA mH 6
def u9:=aA mH 7
def uy:aC:=(cT u6 29 0 u9 (sq RD (.cond (Tm 36) (sq u7 .ret) .skip)))
def vd:=aA mH 8
def FU:aC:=(sq uz (dA u0 27 EE (.seq (cD u5 0 uy) (sq vd .ret))))
def Ak:bB:=⟨4,37,FU,[.tmp 8]⟩
def Xz:=bR [6,7] Proofs.Tryz.f111
def aGY:=aA Xz 0
def aGZ:=cN Xz 0
def k7:aC:=(sq aGY (dq aGZ .ret))
def a1Z:bB:=⟨4,26,k7,[.tmp 8]⟩
def sG:=bR [] Proofs.Tryz.f153
def X3:=aA sG 0
def X4:=aA sG 1
def X5:=aA sG 2
def lf:=aA sG 3
def X6:=aA sG 4
def X7:=aA sG 5
def X2:aC:=(cT X5 9 0 X7 (sq lf (.cond (Tm 17) (sq X6 .ret) .skip)))
def X8:=aA sG 6
def RC:aC:=(sq X3 (.seq (cD X4 0 X2) (sq X8 .ret)))
def asS:bB:=⟨2,19,RC,[.tmp 4]⟩
def bX:=bR [1] Proofs.Tryz.f58
def Yd:=aA bX 0
def Ye:=aA bX 1
def NU:=aA bX 2
def Yf:=aA bX 3
def Yg:=aA bX 4
def Yh:=aA bX 5
def Yi:=aA bX 6
def Yj:=aA bX 7
def lj:=aA bX 8
def lk:=aA bX 9
def ZS:aC:=(cT Yi 61 0 lk (sq Yj (.region lj)))
def Li:=aA bX 10
def Lj:=aA bX 11
def Lk:=aA bX 12
def Ll:=aA bX 13
def ZV:=aA bX 14
def BZ:=aA bX 15
def ZT:aC:=(cT Lj 91 2 BZ (sq Lk (sq Ll (.region ZV))))
def Lm:=aA bX 16
def ZW:=aA bX 17
def ZX:=aA bX 18
def Ln:=aA bX 19
def Lo:=aA bX 20
def Lp:=aA bX 21
def ZY:=cN bX 0
def tY:=aA bX 22
def HX:aC:=(cT Ln 169 4 tY (sq Lo (sq Lp (.draw ZY))))
def ZZ:=aA bX 23
def Lr:=aA bX 24
def Lt:=aA bX 25
def Lu:=aA bX 26
def aa:=aA bX 27
def CA:=aA bX 28
def HY:aC:=(cT Lr 227 6 CA (sq Lt (sq Lu (.region aa))))
def ai:=aA bX 29
def Lw:=aA bX 30
def Lx:=aA bX 31
def Ly:=aA bX 32
def aj:=aA bX 33
def CB:=aA bX 34
def Lz:=aA bX 35
def L0:=cN bX 1
def L3:=aA bX 36
def L4:=aA bX 37
def an:=cN bX 2
def ao:=aA bX 38
def ZU:aC:=(cT L4 344 12 ao (.draw an))
def L5:=aA bX 39
def HZ:aC:=(cT Lz 329 10 L5 (dq L0 (cD L3 12 ZU)))
def au:=aA bX 40
def IA:aC:=(cT Lw 278 8 au (sq Lx (sq Ly (sq aj (cD CB 10 HZ)))))
def av:=aA bX 41
def L6:=aA bX 42
def L7:=aA bX 43
def aw:=cN bX 3
def ay:=aA bX 44
def IB:aC:=(cT L6 368 14 ay (sq L7 (.draw aw)))
def ba:=aA bX 45
def RI:aC:=(sq Yd (dA Ye 53 NU (sq Yf (sq Yg (.seq (cD Yh 0 ZS) (.seq (cD Li 2 ZT) (sq Lm (sq ZW (.seq (cD ZX 4 HX) (.seq (cD ZZ 6 HY) (.seq (cD ai 8 IA) (.seq (cD av 14 IB) (sq ba .ret)))))))))))))
def atH:bB:=⟨1,397,RI,[.tmp 2]⟩
def ux:=bR [8] Proofs.Tryz.f107
def X0:=aA ux 0
def X1:=aA ux 1
def RB:aC:=(sq X0 (sq X1 .ret))
def asR:bB:=⟨2,18,RB,[.tmp 4,.tmp 5]⟩
theorem aOL(n lo hi:Int):CC.wp C (aX ny.res (aF (.bool (within n lo hi)))) (g_ [.int .i64 n,.int .i64 lo,.int .i64 hi]) .nil:=by
 unfold within;by_cases h:lo<=n
 ·simp only[go_sem,CC,bb,bc,ny,ge_iff_le,h];refine aT (.inr rfl) rfl ?_;simp[bN,h]
 ·simp only[go_sem,CC,bb,bc,ny,ge_iff_le,h];refine aT (.inr rfl) rfl ?_;simp[bN,h]
def vW(a b c d e f:Nat):Bool:=decide (a<=4)&&(decide (b<=4)&&(decide (c<=40)&&(decide (d<=24)&&(decide (e<=4)&&decide (f<=12)))))
theorem aUX(a b c d e f:Nat):RE.wp C (aX atF.res (aF (.bool (vW a b c d e f)))) (g_ [.int .i64 a,.int .i64 b,.int .i64 c,.int .i64 d,.int .i64 e,.int .i64 f]) .nil:=by
 have g:∀x k:Nat,decide ((x:Int)<=(k:Int))=decide (x<=k):=λx k=>decide_eq_decide.2 Om;have i:=g a 4;have l:=g b 4;have p:=g c 40;have u:=g d 24;have h5:=g e 4;have w:=g f 12;simp only[Int.cast_ofNat_Int]at i l p u h5 w;unfold vW;simp only[go_sem,RE,X9,Ya,atF,i];cases decide (a<=4)with
 |false =>simp only[go_sem];refine aT (.inr rfl) rfl ?_;rfl
 |true=>
  simp only[go_sem,l];cases decide (b<=4)with
  |false =>simp only[go_sem];refine aT (.inr rfl) rfl ?_;rfl
  |true=>
   simp only[go_sem,p];cases decide (c<=40)with
   |false =>simp only[go_sem];refine aT (.inr rfl) rfl ?_;rfl
   |true=>
    simp only[go_sem,u];cases decide (d<=24)with
    |false =>simp only[go_sem];refine aT (.inr rfl) rfl ?_;rfl
    |true=>
     simp only[go_sem,h5];cases decide (e<=4)with
     |false =>simp only[go_sem];refine aT (.inr rfl) rfl ?_;rfl
     |true =>simp only[go_sem,w];refine aT (.inr rfl) rfl ?_;rfl
structure As(C:Ctx):Prop extends aHX C where
 sum:∀l:List RF,(∀x∈l,x.Ok)->Z' l<=9223372036854775807->aH C 55 [frs l] .nil (aF (frV (tD (l.map RF.v))))
 inn:∀n lo hi:Int,aH C 76 [.int .i64 n,.int .i64 lo,.int .i64 hi] .nil (aF (.bool (within n lo hi)))
 code:∀k m:Int,aH C 61 [.int .i64 k,.int .i64 m] .nil (aF (.bool (TF k m)))
def WV(k m q s0 s1 s2 s3 s4:Int):Bool:=TF k m&&(within q k (k+m)&&(decide (s0=0)&&(within s1 0 8&&(within s2 0 8&&(within s3 0 8&&within s4 0 8)))))
theorem a6E(p:cJ):WU p=WV p.k p.m p.bjT p.s0 p.s1 p.s2 p.s3 p.s4:=by
 unfold WU WV TF;have:within p.s0 0 8=true\/p.s0≠0:=by
  by_cases h:p.s0=0
  ·rw[h];exact .inl rfl
  ·exact .inr h
 simp only[bnY,List.all_nil,bmO];rcases this with h|h
 ·rw[h];simp only[bkR,bnT]
 ·simp only[h,decide_false,bkP,blR]
def spR(s1 s2 s3 s4:Int)(k:Nat):Int:=match k with
 |1=>s1
 |2=>s2
 |3=>s3
 |_=>s4
theorem avM(L:As C)(k m q s0 s1 s2 s3 s4:Int) :
  FU.wp C (aX Ak.res (aF (.bool (WV k m q s0 s1 s2 s3 s4)))) (g_ [.int .i64 k,.int .i64 m,.int .i64 q,.agg [.int .i64 s0,.int .i64 s1,.int .i64 s2,.int .i64 s3,.int .i64 s4]]) .nil:=by
 obtain⟨X,p⟩:∃X,WV k m q s0 s1 s2 s3 s4=X:=⟨_,rfl⟩;rw[p];unfold WV at p;simp only[go_sem,FU,uz,u0,Ak];refine aB (L.code k m) rfl ?_;cases E:TF k m with
 |false =>rw[E,bkP]at p;simp only[go_sem,bkW,EE];refine aT (.inr rfl) rfl ?_;rw[bN,p]
 |true=>
  rw[E,bkR]at p;have hb:1<=k/\k<=6/\0<=m/\m<=4:=by simp only[TF,bkI,within_iff]at E;omega
  have Q:i_.wrap (k+m)=k+m:=wrap_i64 Om Om;simp only[go_sem,bkO,Q];refine aB (L.inn q k (k+m)) rfl ?_;cases J:within q k (k+m)with
  |false =>rw[J,bkP]at p;simp only[go_sem,bkW,EE];refine aT (.inr rfl) rfl ?_;rw[bN,p]
  |true=>
   rw[J,bkR]at p;have B:(0:Int)<((5:Nat):Int):=by decide
   by_cases F:s0=0
   ·rw[aV F,bkR]at p;simp only[go_sem,bkO,B,cF F,u5];refine wp_loop (α:=Nat) (λj=>((n_.set 7 (.bO [.int .i64 s0,.int .i64 s1,.int .i64 s2,.int .i64 s3,.int .i64 s4])).set 9 (.int .i64 j))) (λ_=>.nil) (λj=>1<=j/\j<=5/\∀i,1<=i->i<j->within (spR s1 s2 s3 s4 i) 0 8=true) (λj=>5-j) 1 ⟨by decide,by decide,λi E J=>by omega⟩ Lq a_ ?_;rintro j ⟨M,N,d⟩;simp only[go_sem,uy,u6];by_cases hlt:j<5
    ·have l:(j:Int)<5:=Om;have x:((j:Nat):Int)<((5:Nat):Int):=Om;have w:=L.inn (spR s1 s2 s3 s4 j) 0 8;obtain⟨c,u⟩:∃c,within (spR s1 s2 s3 s4 j) 0 8=c:=⟨_,rfl⟩;rw[u]at w;have y:c=true->∀i,1<=i->i<j+1->within (spR s1 s2 s3 s4 i) 0 8=true:=λA i a b=>by
      by_cases e:i=j
      ·rw[e,u,A]
      ·exact d i a Om
     have H:c=false->X=false:=by intro h;rw[h]at u;have A:j=1\/j=2\/j=3\/j=4:=Om;rw[<-p];rcases A with rfl|rfl|rfl|rfl<;>(simp only[spR]at u;rw[u];simp)
     have A:j=1\/j=2\/j=3\/j=4:=Om;cases c with
     |false=>
      have K:=H rfl;rcases A with rfl|rfl|rfl|rfl
      all_goals
       simp only[spR]at w;simp only[go_sem,l,RD,x];refine aB w rfl ?_;simp only[go_sem,bkW,u7];refine aT (.inr rfl) rfl ?_;rw[bN,K]
     |true=>
      have O:=y rfl;rcases A with rfl|rfl|rfl|rfl
      all_goals
       simp only[spR]at w;simp only[go_sem,l,RD,x];refine aB w rfl ?_;simp only[go_sem,bkO,u9];refine aG (_+1) ⟨by omega,hlt,O⟩ Om Lq b_
    ·have l:¬(j:Int)<5:=Om;have:j=5:=Om;subst this;simp only[go_sem,l,vd];refine aT (.inr rfl) rfl ?_;have a1:=d 1 aU aU;have a2:=d 2 aU aU;have a3:=d 3 aU aU;have a4:=d 4 aU aU;simp only[spR]at a1 a2 a3 a4;rw[bN,<-p,a1,a2,a3,a4];rfl
   ·rw[bC F,bkP]at p;simp only[go_sem,bkO,B,dP F,EE];refine aT (.inr rfl) rfl ?_;rw[bN,p]
theorem wN{x:RF}(h:dX x=true):x.valid:=by
 unfold dX mY at h;unfold RF.valid;cases d:cB (val x.num) (val x.den)with
 |true=>rfl
 |false =>rw[d]at h;simp at h
theorem aUY(L:As C)(x:RF)(y:x.Ok):RG.wp C (aX atG.res (aF (.bool (dX x)))) (g_ [.agg x.cells]) .nil:=by
 have w:=L.red x y;unfold dX;simp only[go_sem,RG,Yb,Yc,atG];refine aB w rfl ?_;cases p:mY x with
 |error e =>have l:=KR p;simp only[go_sem,frV];refine aP λo u=>?_;simp only[go_sem,NT,bL l];refine aT (.inr rfl) rfl ?_;rfl
 |ok r=>
  obtain⟨n,a,b⟩:=r;have A:=kJ a 1;have B:=kJ b 1;have d:decide (((nl a:Nat):Int)<=1)=decide (dC a<=32):=decide_eq_decide.2 Om;have i:decide (((nl b:Nat):Int)<=1)=decide (dC b<=32):=decide_eq_decide.2 Om;simp only[go_sem,frV];refine aP λo u=>?_;cases n with
  |true =>simp only[go_sem,NT,bkO];refine aT (.inr rfl) rfl ?_;rfl
  |false=>
   simp only[go_sem,NT,bkW,bkG,bE,d];cases decide (dC a<=32)with
   |false =>simp only[go_sem];refine aT (.inr rfl) rfl ?_;rfl
   |true =>simp only[go_sem,bkG,bE,i];refine aT (.inr rfl) rfl ?_;rfl
structure L9(C:Ctx):Prop extends As C where
 small:∀x:RF,x.Ok->aH C 74 [.agg x.cells] .nil (aF (.bool (dX x)))
 nums:∀k m q s0 s1 s2 s3 s4:Int,aH C 72 [.int .i64 k,.int .i64 m,.int .i64 q,.agg [.int .i64 s0,.int .i64 s1,.int .i64 s2,.int .i64 s3,.int .i64 s4]] .nil (aF (.bool (WV k m q s0 s1 s2 s3 s4)))
 sizes:∀a b c d e f:Nat,aH C 73 [.int .i64 a,.int .i64 b,.int .i64 c,.int .i64 d,.int .i64 e,.int .i64 f] .nil (aF (.bool (vW a b c d e f)))
theorem D0{l:List RF}{k:Nat}(h:k<Z' l):(l.map RF.cells)[k]?=some (l[k]).cells:=by simp[h]
theorem aOK(L:L9 C)(l:List RF)(p:nI l)(n:Int):LP.wp C (aX Pi.res (aF (.bool (decide ((Z' l:Int)=n)&&l.all dX)))) (g_ [frs l,.int .i64 n]) .nil:=by
 have u:=p.fits;unfold Fits at u;simp only[go_sem,LP,K8,K9,Pi,bkG];by_cases h:(Z' l:Int)=n
 ·rw[aV h,bkR];subst h;simp only[go_sem,cF (show(Z' l:Int)=(Z' l:Nat)from rfl),Lc];refine wp_loop (α:=Nat) (λk=>(((n_.set 0 (frs l)).set 1 (.int .i64 (Z' l:Nat))).set 5 (.int .i64 k))) (λ_=>.nil) (λk=>k<=Z' l/\(l.take k).all dX=true) (λk=>Z' l-k) 0 ⟨bkL _,rfl⟩ Lq a_ ?_;rintro k ⟨x,e⟩;simp only[go_sem,K7,Ld];by_cases hlt:k<Z' l
  ·have d:(k:Int)<(Z' l:Nat):=Om;have w:=L.small l[k] (p.all _ (bkK hlt));simp only[go_sem,d,Le,D0 hlt];refine aB w rfl ?_;cases hi:dX l[k]with
   |false =>simp only[go_sem,bkW,Lf];refine aT (.inr rfl) rfl ?_;rw[bN,vE hlt hi]
   |true =>have i:=bkS.1 (vD hlt e hi);simp only[go_sem,bkO,Lg,wZz k];exact aG (k+1) ⟨hlt,i⟩ Om Lq b_
  ·have d:¬(k:Int)<(Z' l:Nat):=Om;have:k=Z' l:=Om;subst this;rw[blE]at e;simp only[go_sem,d,Lh];refine aT (.inr rfl) rfl ?_;rw[bN,e]
 ·rw[bC h,bkP];simp only[go_sem,dP h,La];refine aT (.inr rfl) rfl ?_;rfl
structure Ma(C:Ctx):Prop extends L9 C where
 smalls:∀l:List RF,nI l->∀n:Int,aH C 75 [frs l,.int .i64 n] .nil (aF (.bool (decide ((Z' l:Int)=n)&&l.all dX)))
theorem YH(x:RF):(sM x==0)=!bZ x:=by
 unfold sM bZ;by_cases h:val x.num=0
 ·simp[h]
 ·cases x.neg<;>simp[h]
def za(l:List RF)(m:Int):Bool:=decide ((Z' l:Int)=max m 1)&&l.all dX&&l.all bZ
theorem a8C(L:Ma C)(l:List RF)(w:nI l)(m:Int):lh.wp C (aX a2F.res (aF (.bool (za l m)))) (g_ [frs l,.int .i64 m]) .nil:=by
 have y:=w.fits;unfold Fits at y;have B:=L.smalls l w (max m 1);unfold za;simp only[go_sem,lh,aHJ,aHK,a2F,max_eq];refine aB B rfl ?_;cases h:(decide ((Z' l:Int)=max m 1)&&l.all dX)with
 |false =>simp only[go_sem,bkW,aHL];refine aT (.inr rfl) rfl ?_;rfl
 |true=>
  rw[bkI]at h;have e:=bkS.1 h.2;simp only[go_sem,bkO,aHM];refine wp_loop (α:=Nat) (λk=>((n_.set 0 (frs l)).set 5 (.int .i64 k))) (λ_=>.nil) (λk=>k<=Z' l/\(l.take k).all bZ=true) (λk=>Z' l-k) 0 ⟨bkL _,rfl⟩ Lq a_ ?_;rintro k ⟨E,p⟩;simp only[go_sem,aHI,aHN,bkG];by_cases hlt:k<Z' l
  ·have d:(k:Int)<(Z' l:Nat):=Om;have x:=bkK hlt;have A:=L.sign l[k] (w.all _ x) (wN (e _ x));have i:=YH l[k];simp only[go_sem,d,aHO,D0 hlt];refine aB A rfl ?_;cases hi:bZ l[k]with
   |false =>rw[hi]at i;simp only[go_sem,i,bkW,aHP];refine aT (.inr rfl) rfl ?_;rw[bN,vE hlt hi]
   |true =>rw[hi]at i;have u:=bkS.1 (vD hlt p hi);simp only[go_sem,i,bkO,aHQ,wZz k];exact aG (k+1) ⟨hlt,u⟩ Om Lq b_
  ·have d:¬(k:Int)<(Z' l:Nat):=Om;have:k=Z' l:=Om;subst this;rw[blE]at p;simp only[go_sem,d,aHR];refine aT (.inr rfl) rfl ?_;rw[bN,p]
structure Mb(C:Ctx):Prop extends Ma C where
 reps:∀l:List RF,nI l->∀m:Int,aH C 66 [frs l,.int .i64 m] .nil (aF (.bool (za l m)))
def frD:List PV->RF
 |[.bool n,a,b]=>⟨n,kN a,kN b⟩
 |_=>⟨false,[],[]⟩
theorem Rt(x:RF):frD x.cells=x:=by
 show(⟨x.neg,kN (aN x.num),kN (aN x.den)⟩:RF)=x;rw[eX,eX]
def zdS(r s:Bool):Spec:=λname vs=>match name,vs with
 |66,_=>some ([],λ_=>aF (.bool r))
 |74,[.agg cs]=>some ([],λ_=>aF (.bool (dX (frD cs))))
 |47,_=>some ([],λ_=>aF (.agg (mkT 1 1).cells))
 |49,_=>some ([],λ_=>aF (.bool s))
 |_,_=>none
theorem Xy(r s:Bool)(x:RF):zdS r s 74 [.agg x.cells]=some ([],λ_=>aF (.bool (dX x))):=by
 show some ([],λ_=>aF (.bool (dX (frD x.cells))))=_;rw[Rt]
theorem aSD(x y:RF):qM y x=- qM x y:=by
 unfold qM sW;have e:=cu (val x.num*val y.den) (val y.num*val x.den);cases x.neg&&decide (val x.num≠0)<;>cases y.neg&&decide (val y.num≠0)<;>simp only[e,Int.neg_neg]<;>rfl
theorem aZN{x:RF}(d:x.valid):decide (qM (mkT 1 1) x<0)=!FO x:=by
 rw[aSD x];unfold FO;rw[show cB (val x.num) (val x.den)=true from d,bkR,IR];unfold qM;simp only[aW,show(1:Int).natAbs=1 from rfl,show decide ((1:Int)<0)=false from rfl];by_cases h:sW x.neg (val x.num) (val x.den) false 1 1<=0
 ·rw[aV h,bC Om];rfl
 ·rw[bC h,aV Om];rfl
def dk(m:Int)(rep:List RF)(t h:RF):Bool:=za rep m&&(dX t&&(FO t&&dX h))
theorem a8A(L:Mb C)(m:Int)(rep:List RF)(u:nI rep)(t h:RF)(l:t.Ok)(p:h.Ok) :
  k7.wp C (aX a1Z.res (aF (.bool (dk m rep t h)))) (g_ [.int .i64 m,frs rep,.agg t.cells,.agg h.cells]) .nil:=by
 have e:dJ 1:=by unfold dJ;omega
 unfold dk;simp only[go_sem,k7,aGY,a1Z];refine bP .nil (zdS (za rep m) (!FO t)) a_ ?_;simp only[go_sem,aGZ];refine bK rfl (L.reps rep u m) rfl a_ ?_;cases za rep m with
 |false =>simp only[go_sem];refine aT (.inr rfl) rfl ?_;rfl
 |true=>
  simp only[go_sem];refine bK (Xy _ _ t) (L.small t l) rfl a_ ?_;cases i:dX t with
  |false =>simp only[go_sem];refine aT (.inr rfl) rfl ?_;rfl
  |true=>
   have d:=L.less (mkT 1 1) t (SE 1 e).1 l (SE 1 e).2 (wN i);rw[aZN (wN i)]at d;simp only[go_sem];refine bK rfl (L.int 1 e) rfl a_ ?_;simp only[go_sem];refine bK rfl d rfl a_ ?_;cases FO t with
   |false =>simp only[go_sem,bkW,bkO];refine aT (.inr rfl) rfl ?_;rfl
   |true =>simp only[go_sem,bkO,bkW];refine bK (Xy _ _ h) (L.small h p) rfl a_ ?_;simp only[go_sem];refine aT (.inr rfl) rfl ?_;rfl
theorem a8Y(p:cJ):ND p=dk p.m p.repair p.target p.bjF:=by
 unfold ND dk za;have:(p.repair.all λx=>dX x&&bZ x)=(p.repair.all dX&&p.repair.all bZ):=by
  induction p.repair with
  |nil=>rfl
  |cons a t d =>simp only[bnY,d];cases dX a<;>cases bZ a<;>simp
 rw[this];simp only[bnT]
section
variable {H:PH} {B:List BX} {L:List LI}
theorem aR.aIB(h:aR H B L)(i:Nat){s b:Nat}{v y:PV}{rows src:List (List PV)}{K:PV->PH->Prop}(hi:L[i]?=some (v,s,rows))(A:eD H s y=some src)(x:roomFor rows.length src.length b)
  (l:∀v' H',cG H' s v rows->aR H' B (L.set i (v',s,rows++src))->K v' H'):sF H s b v y K:=by
 rcases h.own i hi with⟨rfl,rfl⟩|⟨q,rs,rfl,h1,h2,h3⟩
 ·exact h.append i hi A x λv' H' E _=>l v' H' (.inl ⟨rfl,rfl⟩) E
 ·have d:(rows++src).length=Z' rows+Z' src:=bkQ;refine⟨src,A,rfl,rfl,x,rs,h1,h2,?_,λo e=>?_⟩
  ·rw[h3];refine l _ _ (.inr ⟨q,rows++src,rfl,by rw[cW],by rw[d];omega,List.take_left' rfl⟩) (h.YO i hi (.inr ⟨q,rows++src,by rw[d],by simp only[bD,if_true],bkN _,blE⟩) (λp hp=>by cases hp;exact .inl rfl) λp _ hp=>?_);rw[bD,aD (hp q rfl)]
  ·rw[h3];have w:q≠o:=by rintro rfl;rw[h1]at e;cases e
   refine l _ _ (.inr ⟨q,rs,rfl,by rw[bD,aD w];exact h1,h2,h3⟩) (h.YO i hi (.inr ⟨o,rows++src,by rw[d],by simp only[bD,if_true],bkN _,blE⟩) (λp hp=>by cases hp;exact .inr e) λp u hp=>?_);obtain⟨f1,f2⟩:=h.fresh e;have F:p≠o:=by rintro rfl;exact u.elim f1 f2
   rw[bD,aD F]
end
abbrev rY(l:List (List UInt8)):List (List PV):=l.map λs=>[PV.str s]
def KE:List (List UInt8)->List UInt8->Nat->Int
 |[],_,_=>-1
 |x::t,s,i=>if x==s then(i:Int)else KE t s (i+1)
theorem ahA(s:List UInt8):∀(l:List (List UInt8)) (i:Nat),decide (KE l s i<0)=!l.contains s
 |[],i=>rfl
 |x::t,i=>by
  rw[KE,List.contains_cons,BEq.comm (a:=s)];by_cases h:(x==s)=true
  ·rw[aI h,h,Bool.true_or,bC Om];rfl
  ·rw[aD h,ahA s t (i+1)];simp only[Bool.not_eq_true]at h;rw[h,Bool.false_or]
theorem aUV(l:List (List UInt8))(w:Z' l<=1000000)(s:List UInt8):RC.wp C (aX asS.res (aF (.int .i64 (KE l s 0)))) (g_ [.sl 1 (rY l),.str s]) .nil:=by
 simp only[go_sem,RC,X3,X4,asS];refine wp_loop (α:=Nat) (λk=>(((n_.set 0 (.sl 1 (rY l))).set 1 (.str s)).set 5 (.int .i64 k))) (λ_=>.nil) (λk=>k<=Z' l/\KE l s 0=KE (l.drop k) s k) (λk=>Z' l-k) 0 ⟨bkL _,rfl⟩ Lq a_ ?_;rintro k ⟨u,e⟩;simp only[go_sem,X2,X5,bkG];by_cases hlt:k<Z' l
 ·have d:(k:Int)<(Z' l:Nat):=Om;have i:(rY l)[k]?=some [.str l[k]]:=by simp[hlt]
  rw[bmP hlt,KE]at e;cases p:l[k]==s with
  |true =>rw[p,aI rfl]at e;simp only[go_sem,d,lf,i,p,X6];refine aT (.inr rfl) rfl ?_;rw[bN,e]
  |false =>rw[p,aD aU]at e;simp only[go_sem,d,lf,i,p,X7,wZz k];exact aG (k+1) ⟨hlt,e⟩ Om Lq b_
 ·have d:¬(k:Int)<(Z' l:Nat):=Om;have:k=Z' l:=Om;subst this;rw[List.drop_length,KE]at e;simp only[go_sem,d,X8];refine aT (.inr rfl) rfl ?_;rw[bN,e]
structure Mc(C:Ctx):Prop extends Mb C where
 name:∀s:List UInt8,aH C 62 [.str s] .nil (aF (.bool (isName s)))
 index:∀(l:List (List UInt8)),Z' l<=1000000->∀s:List UInt8,aH C 71 [.sl 1 (rY l),.str s] .nil (aF (.int .i64 (KE l s 0)))
def mV(l:List (List UInt8))(s:List UInt8):Bool:=isName s&&!l.contains s
def Ao(l:List (List UInt8))(s:List UInt8)(r:PV)(B:List BX)(L:List LI):Prop:=∃d,r=.tup [d,.bool (mV l s)]/\B=[]/\L=[(d,1,rY (l++[s]))]
theorem aUU(L:Mc C)(l:List (List UInt8))(R:Z' l<=1000000)(s:List UInt8)(w:PV)(H:PH)(O:aR H [] [(w,1,rY l)]) :
  RB.wp C (aX asR.res (λr H'=>∃B' L',Ao l s r B' L'/\aR H' B' L')) (g_ [w,.str s]) H:=by
 have u:=L.index l R s;have J:=L.name s;have i:=ahA s l 0;have E:(1:Nat)*1<=16777216:=by decide
 have fin:∀(F:PF)(H':PH)(d:PV)(b:Bool),F 4=some d->F 5=some (.bool b)->b=mV l s->aR H' [] [(d,1,rY (l++[s]))]->aX [.tmp 4,.tmp 5] (λr H'=>∃B' L',Ao l s r B' L'/\aR H' B' L') .ret F H':=λF H' d b M N e A=>
  bG (vs:=[d,.bool b]) (.inr rfl) H' (by simp only[go_sem,M,N]) b_ ⟨[],_,⟨d,by rw[e];rfl,rfl,rfl⟩,A⟩
 simp only[go_sem,RB,X0,X1,asR,E];refine O.aIB 0 (src:=[[.str s]]) rfl rfl (by unfold roomFor;rw[bkG];simp only[bkV,maxLen];omega) λd H' Q A=>?_;have p:aR H' [] [(d,1,rY (l++[s]))]:=by
  have e:rY (l++[s])=rY l++[[.str s]]:=by simp[rY]
  rw[e];exact A
 refine aB J rfl ?_;cases K:isName s with
 |false =>simp only[go_sem];exact fin _ _ d false rfl rfl (by unfold mV;rw[K,bkP]) p
 |true=>
  have x:mV l s=!l.contains s:=by unfold mV;rw[K,bkR]
  rcases Q with⟨S,rfl⟩|⟨q,rs,rfl,q1,q2,q3⟩
  ·simp only[go_sem];rw[S]at u;have y:aH C 71 [.aK,.str s] .nil (aF (.int .i64 (KE l s 0))):=u.args (.cons (.nil 1) (.cons (.refl _) .nil));refine aB y rfl ?_;simp only[go_sem,i];exact fin _ _ d _ rfl rfl x.symm p
  ·simp only[go_sem];refine avG (vs:=[.osl q 1 0 (rY l).length,.str s]) (.int .i64 (KE l s 0)) ?_ q1 Sq ?_
   ·rw[blM,blM,bmE,CK q2,q3];exact u
   simp only[go_sem,i];exact fin _ _ d _ rfl rfl x.symm p
theorem aTI{x:RF}(h:dX x=true):decide (sM x>0)=bZ x:=by
 have e:=wN h;unfold dX mY at h;rw[show cB (val x.num) (val x.den)=true from e,aI rfl,xg e]at h;unfold sM bZ;by_cases d:val x.num=0
 ·simp[d]
 ·have l:val x.num/bkJ (val x.num) (val x.den)≠0:=by have:=Nat.div_pos (Nat.gcd_le_left (val x.den) (bnE d)) (Nat.gcd_pos_of_pos_left _ (bnE d));omega
  have i:x.neg=false:=by unfold pD at h;simp only[l,ne_eq,not_false_eq_true,decide_true,bmO,bkI]at h;simpa using h.1
  rw[aD d,i];simp[d]
structure Zz(l:dB):Prop where
 exit:∀x∈l.exit,dX x=true
 row:∀r∈l.bjA,∀x∈r,dX x=true
structure wF(C:Ctx):Prop extends Mc C where
 fresh:∀(l:List (List UInt8)),Z' l<=1000000->∀(s:List UInt8)(w:PV)(H:PH),aR H [] [(w,1,rY l)]->aH C 70 [w,.str s] H (λr H'=>∃B' L',Ao l s r B' L'/\aR H' B' L')
theorem wF.pos(L:wF C){x:RF}(d:x.Ok)(h:dX x=true):∃n:Int,aH C 54 [.agg x.cells] .nil (aF (.int .i64 n))/\decide (n>0)=bZ x:=⟨_,L.sign x d (wN h),aTI h⟩
def zlF(l:dB)(o r i:Nat):PF:=(((((n_.set 1 (.bO l.cells)).set 3 (.int .i64 (Z' l.exit:Nat))).set 7 (.osl o 1 0 l.exit.length)).set 8 (.int .i64 r)).set 9 (.int .i64 i))
theorem a2A(L:wF C)(l:dB)(o r i:Nat)(row:List RF)(S:(l.bjA.map λr=>[frs r])[i]?=some [frs row])(M:nI row)(J:∀x∈row,dX x=true)(X:Z' row=Z' l.exit)(hi:i<Z' l.exit)(hn:Z' l.exit<=4)(e:List Bool)(Z:Z' e=Z' l.exit)(K:cH)[Up K](F:PF)(H:PH)
  (O:((zlF l o r i).set 10 (.int .i64 0)).le F) (N:(lP o e).le H)
  (W:K (.exit 6) (zlF l o r i) (lP o (dL e i row row.length))):aC.wp C (.loop ZQ) K F H:=by
 refine wp_loop (α:=Nat) (λk=>(zlF l o r i).set 10 (.int .i64 k)) (λk=>lP o (dL e i row k)) (λk=>k<=Z' row) (λk=>Z' row-k) 0 (bkL _) O N ?_;intro k hk;have V:=BF e i row k;have y:∀h:k<Z' row,dL e i row (k+1)=(dL e i row k).set i ((dL e i row k).getD i false||bZ row[k]&&(dL e i row k).getD k false):=λh=>by simp only[dL,blB,blC,bkT h,blJ,bnG]
 have fin:∀(b:Bool)(F:PF)(H:PH),k<Z' row->eT (dL e i row (k+1))=(eT (dL e i row k)).set i [.bool b]->((zlF l o r i).set 10 (.int .i64 (k+1:Nat))).le F->H o=some (.rows 1 ((eT (dL e i row k)).set i [.bool b])) ->
   jM (λk:Nat=>(zlF l o r i).set 10 (.int .i64 k)) (λk=>lP o (dL e i row k)) (λk=>k<=Z' row) (λk=>Z' row-k) (Z' row-k) K .normal F H:=by
  intro b F H hlt hb O N;refine aG (k+1) hlt Om O ?_;rw[<-hb]at N;exact e_ a_ N
 unfold zlF lP at fin;simp only[go_sem,ZQ,asZ,zlF,lP];by_cases hlt:k<Z' row
 ·have d:(k:Int)<(Z' l.exit:Nat):=Om;have w:(i:Int)<(Z' l.exit:Nat):=Om;have u:=yI (R:=dL e i row k) (i:=i) Om;have B:=yI (R:=dL e i row k) (i:=k) Om;have p:=y hlt;obtain⟨n,U,E⟩:=L.pos (M.all _ (bkK hlt)) (J _ (bkK hlt));have Q:=D0 hlt;generalize hb:(dL e i row k).getD i false=b at *
  generalize hc:(dL e i row k).getD k false=c at *
  generalize Y:bZ row[k]=A at *
  cases b with
  |true =>simp only[go_sem,d,Ag,w,blG,u,ZR,wZz k];exact fin true _ _ hlt (by rw[p,oO,Bool.true_or]) Lq Sq
  |false=>
   simp only[go_sem,d,Ag,w,blG,u,S,Q];refine aB U rfl ?_;cases A with
   |false =>simp only[go_sem,E,w,d,blG,u,B,ZR,wZz k];exact fin false _ _ hlt (by rw[p,oO,Bool.false_or,bkP]) Lq Sq
   |true =>simp only[go_sem,E,w,d,blG,u,B,ZR,wZz k];exact fin c _ _ hlt (by rw[p,oO,Bool.false_or,bkR]) Lq Sq
 ·have d:¬(k:Int)<(Z' l.exit:Nat):=Om;have:k=Z' row:=Om;subst this;simp only[go_sem,d];refine Up.up ?_ W
  (repeat' (first|exact c_|refine d_ ?_ ?_))<;>first|(simp only[go_sem,zlF]<;>rfl)|rfl
theorem a2C(L:wF C)(l:dB)(S:l.Ok)(N:LQ l)(V:Zz l)(o r:Nat)(R:List Bool)(hR:Z' R=Z' l.exit)(K:cH)[Up K](F:PF)(H:PH)
  (J:(zlF l o r 0).le F) (M:(lP o R).le H)
  (X:K (.exit 4) (zlF l o r l.exit.length) (lP o (eA l R l.exit.length))):aC.wp C (.loop z8) K F H:=by
 refine wp_loop (α:=Nat) (λi=>zlF l o r i) (λi=>lP o (eA l R i)) (λi=>i<=Z' l.exit) (λi=>Z' l.exit-i) 0 (bkL _) J M ?_;intro i hi;have U:=wX l R i;have Y:=N.n;simp only[go_sem,z8,asY,zlF,lP];by_cases hlt:i<Z' l.exit
 ·have d:(i:Int)<(Z' l.exit:Nat):=Om;have p:i<Z' l.bjA:=by rw[N.bjA];exact hlt
  have w:=yI (R:=eA l R i) (i:=i) Om;have Z:=D0 hlt;have B:(l.bjA.map λr=>[frs r])[i]?=some [frs l.bjA[i]]:=by simp[p]
  have O:(l.bjA[i]).length=Z' l.exit:=N.row _ (bkK p);generalize u:(eA l R i).set i ((eA l R i).getD i false||bZ l.exit[i])=E;have y:Z' E=Z' l.exit:=by rw[<-u,bmD];omega
  have x:eA l R (i+1)=dL E i l.bjA[i] (l.bjA[i]).length:=by
   simp only[eA,pF];have W:(l.exit.map bZ).getD i false=bZ l.exit[i]:=by simp[blB,hlt]
   have e2:l.bjA.getD i []=l.bjA[i]:=by simp[blB,p]
   rw[W,e2,u]
  obtain⟨n,Q,A⟩:=L.pos (S.exit.all _ (bkK hlt)) (V.exit _ (bkK hlt));have rest:∀(F:PF)(H:PH),(zlF l o r i).le F->H o=some (.rows 1 (eT E)) ->
    aC.wp C (.seq (.region Af) (.block 6 (.loop ZQ))) (gE 5 (kD C (aC.wp C (.region Ah)) (jM (λi:Nat=>zlF l o r i) (λi=>lP o (eA l R i)) (λi=>i<=Z' l.exit) (λi=>Z' l.exit-i) (Z' l.exit-i) K))) F H:=by
   intro F H J M;refine yD _ (λ_ _ _ _ a b=>Up.up a b) J ?_;simp only[go_sem,Af];refine a2A L l o r i l.bjA[i] B (S.row _ (bkK p)) (V.row _ (bkK p)) O hlt Y E y _ _ _ (by(repeat' (first|exact c_|refine d_ ?_ ?_))<;>first|(simp only[go_sem,zlF]<;>rfl)|rfl) (e_ a_ M) ?_;simp only[go_sem,zlF,Ah,wZz i];exact aG (i+1) hlt Om Lq (by rw[x];exact b_)
  simp only[zlF,lP]at rest;have e:=rest;simp only[aC.wp,go_sem]at e;generalize hb:(eA l R i).getD i false=b at *
  cases b with
  |true =>simp only[go_sem,d,Ae,d,blG,w];refine e _ _ Lq ?_;rw[<-u];simp only[go_sem,oO,Bool.true_or]
  |false =>simp only[go_sem,d,Ae,d,blG,w,Z];refine aB Q rfl ?_;simp only[go_sem,d,blG,w,A];refine e _ _ Lq ?_;rw[<-u];simp only[go_sem,oO,Bool.false_or]
 ·have d:¬(i:Int)<(Z' l.exit:Nat):=Om;have:i=Z' l.exit:=Om;subst this;simp only[go_sem,d];exact Up.up (by(repeat' (first|exact c_|refine d_ ?_ ?_))<;>first|(simp only[go_sem,zlF]<;>rfl)|rfl) X
theorem a2B(L:wF C)(l:dB)(x:l.Ok)(i:LQ l)(y:Zz l)(o:Nat)(K:cH)[Up K](F:PF)(H:PH)
  (p:(((((n_.set 1 (.bO l.cells)).set 3 (.int .i64 (Z' l.exit:Nat))).set 7 (.osl o 1 0 l.exit.length)).set 8 (.int .i64 0)):PF).le F) (u:(lP o (eE l 0)).le H)
  (w:K (.exit 2) (((n_.set 3 (.int .i64 (Z' l.exit:Nat))).set 7 (.osl o 1 0 l.exit.length))) (lP o (eE l l.exit.length))):aC.wp C (.loop Aa) K F H:=by
 have A:=i.n;refine wp_loop (α:=Nat) (λr=>((((n_.set 1 (.bO l.cells)).set 3 (.int .i64 (Z' l.exit:Nat))).set 7 (.osl o 1 0 l.exit.length)).set 8 (.int .i64 r))) (λr=>lP o (eE l r)) (λr=>r<=Z' l.exit) (λr=>Z' l.exit-r) 0 (bkL _) p u ?_;intro r B;have e:=wW l r;simp only[go_sem,Aa,asW];by_cases hlt:r<Z' l.exit
 ·have d:(r:Int)<(Z' l.exit:Nat):=Om;simp only[go_sem,d,asX];refine a2C L l x i y o r (eE l r) e _ _ _ (by(repeat' (first|exact c_|refine d_ ?_ ?_))<;>first|(simp only[go_sem,zlF]<;>rfl)|rfl) b_ ?_;simp only[go_sem,zlF,atA,wZz r];exact aG (r+1) hlt Om Lq b_
 ·have d:¬(r:Int)<(Z' l.exit:Nat):=Om;have:r=Z' l.exit:=Om;subst this;simp only[go_sem,d];exact Up.up Lq w
theorem baX(R:List Bool)(J:Z' R<=4)(o:Nat)(X:Bool)(B:X=R.all id)(Q:PV->PH->Prop)(A:Q=aF (.bool X))(F:PF)(H:PH)
  (x:((((n_.set 3 (.int .i64 (Z' R:Nat))).set 7 (.osl o 1 0 R.length)).set 11 (.int .i64 0)):PF).le F) (y:(lP o R).le H):aC.wp C (.loop Ab) (gE 8 (kD C (aC.wp C (.seq (.region Aj) .ret)) (aX [.tmp 2] Q))) F H:=by
 subst B A;refine wp_loop (α:=Nat) (λk=>(((n_.set 3 (.int .i64 (Z' R:Nat))).set 7 (.osl o 1 0 R.length)).set 11 (.int .i64 k))) (λ_=>lP o R) (λk=>k<=Z' R/\(R.take k).all id=true) (λk=>Z' R-k) 0 ⟨bkL _,rfl⟩ x y ?_;rintro k ⟨K,u⟩;simp only[go_sem,Ab,atC,lP];by_cases hlt:k<Z' R
 ·have d:(k:Int)<(Z' R:Nat):=Om;have e:=yI (R:=R) (i:=k) hlt;have E:R.getD k false=R[k]:=by simp[blB,hlt]
  rw[E]at e;cases l:R[k]with
  |false =>rw[l]at e;simp only[go_sem,d,Ai,blG,e,bkW,atD];refine aT (.inr rfl) rfl ?_;rw[bN,vE hlt (p:=id) l]
  |true =>rw[l]at e;have w:=vD hlt u (p:=id) l;simp only[go_sem,d,Ai,blG,e,bkO,atE,wZz k];exact aG (k+1) ⟨hlt,by simpa using bkS.1 w⟩ Om Lq b_
 ·have d:¬(k:Int)<(Z' R:Nat):=Om;have:k=Z' R:=Om;subst this;rw[blE]at u;simp only[go_sem,d,Aj];refine aT (.inr rfl) rfl ?_;rw[bN,u]
def Marks(R S:List Bool):Prop:=Z' R=Z' S/\∀j:Nat,R[j]?=some true->S[j]?=some true
theorem Marks.baC(R:List Bool):Marks R R:=⟨rfl,λ_ h=>h⟩
theorem Marks.trans{R S T:List Bool}(h:Marks R S)(k:Marks S T):Marks R T:=⟨h.1.trans k.1,λj a=>k.2 j (h.2 j a)⟩
theorem ahY(R:List Bool)(i:Nat)(b:Bool):Marks R (R.set i (R.getD i false||b)):=by
 refine⟨by rw[bmD],λj h=>?_⟩;rw[boM];obtain⟨d,l⟩:=blQ.1 h;split
 ·rename_i e;subst e;rw[aI d,blB,h];rfl
 ·exact h
theorem Ss(R:List Bool)(i:Nat)(row:List RF):∀k,Marks R (dL R i row k)
 |0=>Marks.baC R
 |k+1=>(Ss R i row k).trans (ahY _ _ _)
theorem OW(l:dB)(R:List Bool):∀i,Marks R (eA l R i)
 |0=>Marks.baC R
 |i+1=>(OW l R i).trans ((ahY _ _ _).trans (Ss _ _ _ _))
theorem ahZ:∀{R S:List Bool},Marks R S->R≠S->R.count true<S.count true
 |[],[],_,h=>absurd rfl h
 |[],_::_,h,_=>by have:=h.1;simp at this
 |_::_,[],h,_=>by have:=h.1;simp at this
 |a::R,b::S,h,d=>by
  have i:a=true->b=true:=λe=>by have:=h.2 0 (by rw[e];rfl);simpa using this
  have p:Marks R S:=⟨by have:=h.1;simpa using this,λj l=>by have:=h.2 (j+1) (by simpa using l);simpa using this⟩;by_cases e:R=S
  ·subst e;have:a≠b:=λe=>d (by rw[e]);cases a<;>cases b<;>simp at this i ⊢
  ·have:=ahZ p e;cases a<;>cases b<;>simp at i ⊢<;>omega
theorem Bv:∀{R:List Bool},Z' R<=R.count true->R.all id=true
 |[],_=>rfl
 |a::R,h=>by
  have d:=List.count_le_length (a:=true) (l:=R);cases a with
  |true =>simp only[List.count_cons_self,bmB]at h;simp only[bnY,id,bkR];exact Bv Om
  |false =>simp at h;omega
theorem XJ(l:dB){s:Nat}(h:eE l (s+1)=eE l s):∀d,eE l (s+d)=eE l s
 |0=>rfl
 |d+1=>by show eA l (eE l (s+d)) l.exit.length=_;rw[XJ l h d];exact h
theorem Hu(l:dB):∀r,(∃s,s<r/\eE l (s+1)=eE l s)\/r<=(eE l r).count true
 |0=>.inr (bkL _)
 |r+1=>by
  rcases Hu l r with⟨s,i,d⟩|h
  ·exact .inl ⟨s,by omega,d⟩
  ·by_cases e:eE l (r+1)=eE l r
   ·exact .inl ⟨r,by omega,e⟩
   ·have:=ahZ (OW l (eE l r) l.exit.length) (λh=>e h.symm);exact .inr (by show r+1<=(eA l (eE l r) l.exit.length).count true;omega)
theorem a3Z(l:dB):uS l=(eE l l.exit.length).all id:=by
 unfold uS;rcases Hu l l.exit.length with⟨s,B,i⟩|h
 ·obtain⟨d,y⟩:∃d,Z' l.exit=s+d:=⟨Z' l.exit-s,by omega⟩;rw[show l.exit.length+1=s+(d+1) by omega,y,XJ l i,XJ l i]
 ·have p:(eE l l.exit.length).all id=true:=Bv (by rw[wW];exact h);have w:Marks (eE l l.exit.length) (eE l (Z' l.exit+1)):=OW l (eE l l.exit.length) l.exit.length;rw[p,bkS];intro x A;obtain⟨j,u,rfl⟩:=blZ A;have e:j<(eE l l.exit.length).length:=by rw[w.1];exact u
  have:=w.2 j (by rw[bkT e];have:=bkS.1 p _ (bkK e);simpa using this);rw[bkT u]at this;simpa using this
def zsS(s:Bool):Spec:=λname vs=>match name,vs with
 |47,_=>some ([],λ_=>aF (.agg (mkT 1 1).cells))
 |53,_=>some ([],λ_=>aF (.bool s))
 |_,_=>none
theorem aYF(l:dB):oT l=(within l.start.length 1 4&&((decide ((Z' l.start:Int)=Z' l.start)&&l.start.all dX)&&((decide ((Z' l.exit:Int)=Z' l.start)&&l.exit.all dX)&&(decide (Z' l.bjA=Z' l.start)&&((bkH l.bjA.length).all (yR l)&&(DH l&&uS l)))))):=by
 rw[azU,aV (rfl:(Z' l.start:Int)=Z' l.start),bkR];have:decide (Z' l.exit=Z' l.start)=decide ((Z' l.exit:Int)=Z' l.start):=decide_eq_decide.2 Om;rw[this];cases within l.start.length 1 4<;>cases decide ((Z' l.exit:Int)=Z' l.start)<;>cases decide (Z' l.bjA=Z' l.start)<;>cases l.start.all dX<;>cases l.exit.all dX<;>simp[bnT]
theorem anK(l:dB){i:Nat}(h:i<Z' l.bjA):yR l i=((decide (((l.bjA[i]).length:Int)=Z' l.start)&&(l.bjA[i]).all dX)&&!((l.bjA[i]).map bZ).getD i false):=by
 unfold yR;have:l.bjA.getD i []=l.bjA[i]:=by simp[blB,h]
 rw[this];have:decide ((l.bjA[i]).length=Z' l.start)=decide (((l.bjA[i]).length:Int)=Z' l.start):=decide_eq_decide.2 Om;rw[this]
theorem a8B(L:wF C)(l:dB)(O:l.Ok):lg.wp C (aX a2D.res (aF (.bool (oT l)))) (g_ [.agg l.cells]) .nil:=by
 have d:=aYF l;have fail:∀(F:PF)(H:PH),oT l=false->F 2=some (.bool false)->aX [.tmp 2] (aF (.bool (oT l))) .ret F H:=λF H e h=>by rw[e];exact bG (vs:=[.bool false]) (.inr rfl) .nil (by simp only[go_sem,h]) a_ ⟨rfl,rfl⟩
 have e1:=L.smalls l.start O.start l.start.length;have e2:=L.smalls l.exit O.exit l.start.length;simp only[go_sem,lg,aHB,aHC,a2D,bkG,aHD];by_cases c1:(Z' l.start:Int)<1
 ·simp only[go_sem,c1,JA];exact fail _ _ (by rw[d,show within l.start.length 1 4=false from by unfold within;rw[bC Om,bkP],bkP]) rfl
 by_cases c2:(Z' l.start:Int)>4
 ·simp only[go_sem,c1,c2,JA];exact fail _ _ (by rw[d,show within l.start.length 1 4=false from by unfold within;rw[bC (Om:¬(Z' l.start:Int)<=4),blR],bkP]) rfl
 rw[show within l.start.length 1 4=true from by unfold within;rw[aV (Om:(1:Int)<=(Z' l.start:Nat)),aV (Om:(Z' l.start:Int)<=4)];rfl,bkR]at d;simp only[go_sem,c1,c2];refine aB e1 rfl ?_;cases k1:(decide ((Z' l.start:Int)=Z' l.start)&&l.start.all dX)with
 |false =>rw[k1,bkP]at d;simp only[go_sem,bkW,JA];exact fail _ _ d rfl
 |true=>
 rw[k1,bkR]at d;simp only[go_sem,bkO];refine aB e2 rfl ?_;cases k2:(decide ((Z' l.exit:Int)=Z' l.start)&&l.exit.all dX)with
 |false =>rw[k2,bkP]at d;simp only[go_sem,bkW,JA];exact fail _ _ d rfl
 |true=>
 rw[k2,bkR]at d;rw[bkI,dT_]at k2;have A:Z' l.exit=Z' l.start:=Om;have N:=bkS.1 k2.2;by_cases c3:Z' l.bjA=Z' l.start
 case neg =>rw[bC c3,bkP]at d;simp only[go_sem,bkO,bkG,dP (Om:(Z' l.bjA:Int)≠(Z' l.start:Nat)),JA];exact fail _ _ d rfl
 rw[aV c3,bkR]at d;simp only[go_sem,bkO,bkG,cF (Om:(Z' l.bjA:Int)=(Z' l.start:Nat)),aHE];refine wp_loop (α:=Nat) (λi=>(((n_.set 1 (.bO l.cells)).set 3 (.int .i64 (Z' l.start:Nat))).set 4 (.int .i64 i))) (λ_=>.nil) (λi=>i<=Z' l.start/\∀j,j<i->yR l j=true) (λi=>Z' l.start-i) 0 ⟨bkL _,λj h=>by omega⟩ Lq a_ ?_;rintro i ⟨hi,u⟩;simp only[go_sem,aHA,aHF];by_cases hlt:i<Z' l.start
 ·have w:(i:Int)<(Z' l.start:Nat):=Om;have y:i<Z' l.bjA:=Om;have E:(l.bjA.map λr=>[frs r])[i]?=some [frs l.bjA[i]]:=by simp[y]
  have W:=O.row _ (bkK y);have e3:=L.smalls l.bjA[i] W l.start.length;have p:=anK l y;have Q:yR l i=false->oT l=false:=λh=>by rw[d,show(bkH l.bjA.length).all (yR l)=false from List.all_eq_false.2 ⟨i,blN.2 y,by simp[h]⟩,bkP]
  simp only[go_sem,w,aHG,E];refine aB e3 rfl ?_;cases k3:(decide (((l.bjA[i]).length:Int)=Z' l.start)&&(l.bjA[i]).all dX)with
  |false =>rw[k3,bkP]at p;simp only[go_sem,bkW,Ph];exact fail _ _ (Q p) rfl
  |true=>
   rw[k3,bkR]at p;rw[bkI,dT_]at k3;have θ:(l.bjA[i]).length=Z' l.start:=Om;have J:i<(l.bjA[i]).length:=Om;have hm:=bkK J;have hs:=L.sign _ (W.all _ hm) (wN (bkS.1 k3.2 _ hm));have hz:=YH (l.bjA[i])[i];have hg:((l.bjA[i]).map bZ).getD i false=bZ (l.bjA[i])[i]:=by simp[blB,J]
   rw[hg]at p;have B:(sM (l.bjA[i])[i] != 0)=bZ (l.bjA[i])[i]:=by rw[bne,hz,Bool.not_not]
   simp only[go_sem,bkO,E,D0 J];refine aB hs rfl ?_;cases k4:bZ (l.bjA[i])[i]with
   |true =>rw[k4]at p B;simp only[go_sem,B,Ph];exact fail _ _ (Q p) rfl
   |false=>
    rw[k4]at p B;simp only[go_sem,B,aHH,wZz i];exact aG (i+1) ⟨hlt,λj hj=>by
     by_cases e:j=i
     ·rw[e];exact p
     ·exact u j Om⟩ Om Lq b_
 ·have w:¬(i:Int)<(Z' l.start:Nat):=Om;have:i=Z' l.start:=Om;subst this;have K:(bkH l.bjA.length).all (yR l)=true:=bkS.2 λj hj=>u j (by rw[<-c3];exact blN.1 hj);rw[K,bkR]at d;have Y:∀r∈l.bjA,Z' r=Z' l.start/\∀x∈r,dX x=true:=λr V=>by obtain⟨j,hj,rfl⟩:=blZ V;have h:=u j Om;rw[anK l hj,bkI,bkI,dT_]at h;exact⟨by omega,bkS.1 h.1.2⟩
  have U:Zz l:=⟨N,λr V=>(Y r V).2⟩;have S:LQ l:=⟨by omega,by omega,λr V=>by rw[(Y r V).1,A]⟩;have Z:=L.sum l.start O.start.all O.start.fits;simp only[go_sem,w,asT];refine aB Z rfl ?_;cases R:tD (l.start.map RF.v)with
  |error e=>
   have δ:=aoZ R;have:DH l=false:=by unfold DH;rw[R]
   rw[this,bkP]at d;simp only[go_sem,frV];refine aP λo ho=>?_;simp only[go_sem];refine bP .nil eJ a_ ?_;simp only[go_sem,Ac,dP δ,Ad];exact fail _ _ d rfl
  |ok r=>
   have X:=aDR R;have ζ:=Jo R;obtain⟨n,a,b⟩:=r;have h1:dJ 1:=by unfold dJ;omega
   have M:=L.same (FV.rf (n,a,b)) (mkT 1 1) X (SE 1 h1).1 (by unfold RF.valid FV.rf;simp only[aW];exact ζ) (SE 1 h1).2;have hP:DH l=(qM (FV.rf (n,a,b)) (mkT 1 1)==0):=by unfold DH;rw[R,IR];unfold qM FV.rf;simp only[aW,show(1:Int).natAbs=1 from rfl,show decide ((1:Int)<0)=false from rfl];by_cases h:sW n a b false 1 1=0<;>simp[h]
   simp only[go_sem,frV];refine aP λo ho=>?_;have hH:aR (h_.set o (.rows 3 [(FV.rf (n,a,b)).cells])) [(o,.rows 3 [(FV.rf (n,a,b)).cells])] []:=aR.nil.new (H:=h_) rfl _;simp only[go_sem];refine bP (h_.set o (.rows 3 [(FV.rf (n,a,b)).cells])) (zsS (qM (FV.rf (n,a,b)) (mkT 1 1)==0)) b_ ?_;simp only[go_sem,Ac,cF (show(0:Int)=0 from rfl)];refine bK rfl (L.int 1 h1) rfl b_ ?_;simp only[go_sem];refine bK rfl M rfl b_ ?_;rw[<-hP];cases hp:DH l with
   |false =>rw[hp,bkP]at d;simp only[go_sem,bkW,Ad];exact fail _ _ d rfl
   |true=>
    rw[hp,bkR,a3Z]at d;have β:(Z' l.start:Int)*((1:Nat):Int)<=140737488355328:=Om;have γ:(Z' l.start:Int)<=9223372036854775807:=Om;simp only[go_sem,bkO,asU,β,γ];refine aP λq hq=>?_;simp only[go_sem,asV];have η:bkM l.start.length [PV.bool false]=eT (eE l 0):=by rw[<-A];simp[eE,eT]
    rw[<-A];refine a2B L l O S U q _ _ _ Lq ?_ ?_
    ·refine e_ a_ ?_;rw[cW,A,η]
    simp only[go_sem,atB];have ε:(eE l l.exit.length).length<=4:=by rw[wW];omega
    refine baX (eE l l.exit.length) ε q (oT l) d _ rfl _ _ ?_ b_;rw[wW];exact Lq
structure yX(C:Ctx):Prop extends wF C where
 law:∀l:dB,l.Ok->aH C 68 [.agg l.cells] .nil (aF (.bool (oT l)))
def okL(base ns:List (List UInt8))(P:Nat->Bool)(i:Nat):Bool:=mV (base++ns.take i) (ns.getD i [])&&P i
theorem yF{p:Nat->Bool}(k:Nat)(b:Bool):(b&&(bkH (k+1)).all p)=((b&&(bkH k).all p)&&p k):=by
 rw[boE,bnX];cases(bkH k).all p<;>cases b<;>simp
theorem yE{p:Nat->Bool}{b:Bool}{i n:Nat}(hi:i<=n)(h:(b&&(bkH i).all p)=false):(b&&(bkH n).all p)=false:=by
 cases b with
 |false=>rfl
 |true =>rw[bkR]at h ⊢;obtain⟨x,e,hp⟩:=List.all_eq_false.1 h;exact List.all_eq_false.2 ⟨x,blN.2 (by have:=blN.1 e;omega),hp⟩
structure lO(H:PH)(w:PV)(base ns:List (List UInt8))(c:Bool)(i:Nat):Prop where
 ex:∃names,aR H [] [(w,1,rY names)]/\(c=true->names=base++ns.take i)
section
variable {C:Ctx} {F:PF} {H:PH} {d:Option Nat} {K:PF->PH->Prop}
theorem lO.call(L:wF C){w:PV}{base ns:List (List UInt8)}{i:Nat}{B:List BX}{e:List (List UInt8)}(h:aR H B [(w,1,rY e)])(N:Z' base<=1000)(hi:i<=1000)(y:e=base++ns.take i)(p:i<Z' ns){a b:Nat}(l:aS.evs F [.tmp a,.tmp b]=some [w,.str ns[i]])
  (E:∀u H',aR H' B [(u,1,rY (e++[ns[i]]))]->lO H' u base ns true (i+1)->K (F.put d (.tup [u,.bool (mV (base++ns.take i) (ns.getD i []))])) H'):lC C 70 [.tmp a,.tmp b] [] d K F H:=by
 refine RA (B1:=[]) (B2:=B) (L1:=[(w,1,rY e)]) (L2:=[]) (Q:=Ao e ns[i]) h (λJ M=>L.fresh e (by rw[y,bkQ,bkY];omega) ns[i] w J M) l ?_;rintro r B' L' H' ⟨u,rfl,rfl,rfl⟩ A;have x:ns.getD i []=ns[i]:=by simp[blB,p]
 rw[x,<-y]at E;refine E u H' A ⟨e++[ns[i]],A.sub (List.nil_sublist _) (bmW.refl _),λ_=>?_⟩;rw[blO p,<-blW,y]
end
theorem lO.O9{H:PH}{w:PV}{base ns:List (List UInt8)}{c:Bool}{i:Nat}(h:lO H w base ns true i):lO H w base ns c i:=by
 obtain⟨e,l,p⟩:=h.ex;exact⟨e,l,λ_=>p rfl⟩
def VH(f:aE):Bool:=(bkH f.bjC.length).all (okL [] (f.bjC.map dB.name) λi=>(f.bjC.map oT).getD i false)
theorem a8E(L:yX C)(f:aE)(Z:f.Ok)(hs:Z' f.bjC<=4)(K:cH)[Up K](F:PF)(H:PH)
  (X:(((((((((n_.set 1 (.bO f.cells)).set 3 (.aK)).set 4 (.aK)).set 5 (.aK)).set 6 (.aK)).set 7 (.aK)).set 8 (.bool true)).set 9 (.int .i64 0)):PF).le F)
  (R:∀H',K (.exit 0) (((((((n_.set 1 (.bO f.cells)).set 4 (.aK)).set 5 (.aK)).set 6 (.aK)).set 7 (.aK)).set 8 (.bool (VH f)))) H'):aC.wp C (.loop ZS) K F H:=by
 obtain⟨ok,J⟩:∃ok,okL [] (f.bjC.map dB.name) (λi=>(f.bjC.map oT).getD i false)=ok:=⟨_,rfl⟩;unfold VH at R;rw[J]at R;refine wp_loop (α:=Nat × PV × PH) (λs=>((((((((n_.set 1 (.bO f.cells)).set 3 (s.2.1)).set 4 (.aK)).set 5 (.aK)).set 6 (.aK)).set 7 (.aK)).set 8 (.bool (true&&(bkH s.1).all ok))).set 9 (.int .i64 s.1))) (λs=>s.2.2) (λs=>s.1<=Z' f.bjC/\lO s.2.2 s.2.1 [] (f.bjC.map dB.name) (true&&(bkH s.1).all ok) s.1) (λs=>Z' f.bjC-s.1)
  (0,.aK,H) ⟨bkL _,⟨[],aR.nil.rA 1,λ_=>rfl⟩⟩ X b_ ?_
 rintro⟨i,w,V⟩ ⟨hi,W⟩;simp only at hi W ⊢;have fin:∀(b:Bool)(y:PV)(N:PF)(H':PH),i<Z' f.bjC->(true&&(bkH (i+1)).all ok)=b->lO H' y [] (f.bjC.map dB.name) true (i+1) ->
   (((((((((n_.set 1 (.bO f.cells)).set 3 (y)).set 4 (.aK)).set 5 (.aK)).set 6 (.aK)).set 7 (.aK)).set 8 (.bool b)).set 9 (.int .i64 (i+1:Nat))):PF).le N ->
   jM (λs:Nat × PV × PH=>((((((((n_.set 1 (.bO f.cells)).set 3 (s.2.1)).set 4 (.aK)).set 5 (.aK)).set 6 (.aK)).set 7 (.aK)).set 8 (.bool (true&&(bkH s.1).all ok))).set 9 (.int .i64 s.1))) (λs=>s.2.2) (λs=>s.1<=Z' f.bjC/\lO s.2.2 s.2.1 [] (f.bjC.map dB.name) (true&&(bkH s.1).all ok) s.1) (λs=>Z' f.bjC-s.1) (Z' f.bjC-i) K .normal N H':=
  λb y N H' hlt hb Q O=>aG (i+1,y,H') ⟨hlt,Q.O9⟩ (by simp only;omega) (by simp only;rw[hb];exact O) b_
 have l:=yF (p:=ok) i true;have x:(true&&(bkH i).all ok)=(true&&(bkH f.bjC.length).all ok)->K (.exit 0) (((((((n_.set 1 (.bO f.cells)).set 4 (.aK)).set 5 (.aK)).set 6 (.aK)).set 7 (.aK)).set 8 (.bool (true&&(bkH i).all ok)))) V:=λe=>by rw[e,bkR];exact R V
 have B:=λh=>yE (p:=ok) (b:=true) hi h;generalize Y:(true&&(bkH i).all ok)=c at *
 simp only[go_sem,ZS,Yi,bkG];by_cases hlt:i<Z' f.bjC
 ·have u:(i:Int)<(Z' f.bjC:Nat):=Om;cases c with
  |false =>simp only[go_sem,u];exact Up.up Lq (x (B rfl).symm)
  |true=>
   obtain⟨U,g1,g3⟩:=W.ex;have E:(f.bjC.map dB.cells)[i]?=some (f.bjC[i]).cells:=by simp[hlt]
   have S:i<(f.bjC.map dB.name).length:=by rw[bkG];exact hlt
   have M:ok i=(mV ([]++(f.bjC.map dB.name).take i) ((f.bjC.map dB.name).getD i [])&&oT f.bjC[i]):=by rw[<-J];unfold okL;simp[blB,hlt]
   have hl:=L.law _ (Z.law _ (bkK hlt));rw[M]at l;simp only[go_sem,u,Yj,E];refine lO.call L.towF (ns:=f.bjC.map dB.name) g1 (bkL _) Om (g3 rfl) S (by simp only[go_sem,blX]) λy H1 h1 A=>?_;generalize mV ([]++(f.bjC.map dB.name).take i) ((f.bjC.map dB.name).getD i [])=fb at *
   cases fb with
   |false =>simp only[go_sem,lj,lk,wZz i];exact fin false y _ _ hlt (l.trans rfl) A Lq
   |true =>simp only[go_sem,lj,E];refine aB hl rfl ?_;simp only[go_sem,lk,wZz i];exact fin _ y _ _ hlt (l.trans rfl) A Lq
 ·have u:¬(i:Int)<(Z' f.bjC:Nat):=Om;have:i=Z' f.bjC:=Om;subst this;simp only[go_sem,u];exact Up.up Lq (x Y.symm)
theorem jo{a b c d e f:Nat}(h:vW a b c d e f=true):a<=4/\b<=4/\c<=40/\d<=24/\e<=4/\f<=12:=by
 simp only[vW,bkI,dT_]at h;omega
theorem K4{n:Nat}(h:n<=1000):i_.wrap ((n:Int)-1)=(n:Int)-1:=wrap_i64 Om Om
def inS:Spec:=λname vs=>match name,vs with
 |76,[.int _ n,.int _ lo,.int _ hi]=>some ([],λ_=>aF (.bool (within n lo hi)))
 |_,_=>none
def Nh(bjC:Nat)(m:dW):Bool:=within m.bjL 1 16&&(within m.port 1 64&&within m.law 0 ((bjC:Int)-1))
def arY(pols:Nat)(v:eI):Bool:=within v.bjH 0 ((pols:Int)-1)
def IS(f:aE):Bool:=(bkH f.biW.length).all (okL [] (f.biW.map dW.name) λi=>(f.biW.map (Nh f.bjC.length)).getD i false)
theorem aVA(L:yX C)(f:aE)(hf:f.Ok)(hz:vW f.bjC.length f.biW.length f.biY.length f.biV.length f.biZ.length f.biX.length=true)(b:Bool)(K:cH)[Up K](F:PF)(H:PH)
  (hF:((((((((n_.set 1 (.bO f.cells)).set 4 (.aK)).set 5 (.aK)).set 6 (.aK)).set 7 (.aK)).set 8 (.bool b)).set 10 (.int .i64 0)):PF).le F)
  (S:∀H',K (.exit 2) ((((((n_.set 1 (.bO f.cells)).set 5 (.aK)).set 6 (.aK)).set 7 (.aK)).set 8 (.bool (b&&IS f)))) H'):aC.wp C (.loop ZT) K F H:=by
 obtain⟨β,γ,δ,ε,ζ,η⟩:=jo hz;obtain⟨ok,E⟩:∃ok,okL [] (f.biW.map dW.name) (λi=>(f.biW.map (Nh f.bjC.length)).getD i false)=ok:=⟨_,rfl⟩;unfold IS at S;rw[E]at S;refine wp_loop (α:=Nat × PV × PH) (λs=>(((((((n_.set 1 (.bO f.cells)).set 4 (s.2.1)).set 5 (.aK)).set 6 (.aK)).set 7 (.aK)).set 8 (.bool (b&&(bkH s.1).all ok))).set 10 (.int .i64 s.1))) (λs=>s.2.2) (λs=>s.1<=Z' f.biW/\lO s.2.2 s.2.1 [] (f.biW.map dW.name) (b&&(bkH s.1).all ok) s.1) (λs=>Z' f.biW-s.1)
  (0,.aK,H) ⟨bkL _,⟨[],aR.nil.rA 1,λ_=>rfl⟩⟩ (by
   have e:(b&&(bkH 0).all ok)=b:=by cases b<;>rfl
   simp only[e];exact hF) b_ ?_
 rintro⟨i,w,N⟩ ⟨hi,Y⟩;simp only at hi Y ⊢;have fin:∀(c:Bool)(x:PV)(M:PF)(H':PH),i<Z' f.biW->(b&&(bkH (i+1)).all ok)=c->lO H' x [] (f.biW.map dW.name) true (i+1) ->
   ((((((((n_.set 1 (.bO f.cells)).set 4 (x)).set 5 (.aK)).set 6 (.aK)).set 7 (.aK)).set 8 (.bool c)).set 10 (.int .i64 (i+1:Nat))):PF).le M ->
   jM (λs:Nat × PV × PH=>(((((((n_.set 1 (.bO f.cells)).set 4 (s.2.1)).set 5 (.aK)).set 6 (.aK)).set 7 (.aK)).set 8 (.bool (b&&(bkH s.1).all ok))).set 10 (.int .i64 s.1))) (λs=>s.2.2) (λs=>s.1<=Z' f.biW/\lO s.2.2 s.2.1 [] (f.biW.map dW.name) (b&&(bkH s.1).all ok) s.1) (λs=>Z' f.biW-s.1) (Z' f.biW-i) K .normal M H':=
  λc x M H' hlt hb R Q=>aG (i+1,x,H') ⟨hlt,R.O9⟩ (by simp only;omega) (by simp only;rw[hb];exact Q) b_
 have d:=yF (p:=ok) i b;have y:(b&&(bkH i).all ok)=(b&&(bkH f.biW.length).all ok)->K (.exit 2) ((((((n_.set 1 (.bO f.cells)).set 5 (.aK)).set 6 (.aK)).set 7 (.aK)).set 8 (.bool (b&&(bkH i).all ok)))) N:=λe=>by rw[e];exact S N
 have B:=λh=>yE (p:=ok) (b:=b) hi h;generalize hc:(b&&(bkH i).all ok)=c at *
 simp only[go_sem,ZT,Lj,bkG];by_cases hlt:i<Z' f.biW
 ·have l:(i:Int)<(Z' f.biW:Nat):=Om;cases c with
  |false =>simp only[go_sem,l];exact Up.up Lq (y (B rfl).symm)
  |true=>
   obtain⟨X,g1,g3⟩:=Y.ex;have U:(f.biW.map dW.cells)[i]?=some (f.biW[i]).cells:=by simp[hlt]
   have V:i<(f.biW.map dW.name).length:=by rw[bkG];exact hlt
   have J:ok i=(mV ([]++(f.biW.map dW.name).take i) ((f.biW.map dW.name).getD i [])&&(Nh f.bjC.length) f.biW[i]):=by rw[<-E];unfold okL;simp[blB,hlt]
   rw[J]at d;have A:Nh f.bjC.length f.biW[i]=(within (f.biW[i]).bjL 1 16&&(within (f.biW[i]).port 1 64&&within (f.biW[i]).law 0 ((Z' f.bjC:Int)-1))):=rfl;rw[A]at d;simp only[go_sem,l,Lk,U];refine aP λo ho=>?_;have g4:=g1.new ho (.rows 4 [(f.biW[i]).cells]);have Z:=g4.at 0 rfl;simp only[go_sem];generalize N.set o (.rows 4 [(f.biW[i]).cells])=H2 at *
   simp only[go_sem,Ll,Z];refine lO.call L.towF (ns:=(f.biW.map dW.name)) g4 (bkL _) Om (g3 rfl) V (by simp only[go_sem,blX]) λx H1 h1 u=>?_;have O:=h1.at 0 rfl;generalize mV ([]++(f.biW.map dW.name).take i) ((f.biW.map dW.name).getD i [])=fb at *
   cases fb with
   |false =>simp only[go_sem,ZV,BZ,wZz i];exact fin false x _ _ hlt (d.trans rfl) u Lq
   |true=>
    simp only[go_sem,ZV,O];refine aB (L.inn (f.biW[i]).bjL 1 16) rfl ?_;cases W:within (f.biW[i]).bjL 1 16 with
    |false =>simp only[go_sem,BZ,wZz i];exact fin false x _ _ hlt (by rw[d,W]<;>simp) u Lq
    |true=>
     simp only[go_sem,O];refine aB (L.inn (f.biW[i]).port 1 64) rfl ?_;cases k1:within (f.biW[i]).port 1 64 with
     |false =>simp only[go_sem,BZ,wZz i];exact fin false x _ _ hlt (by rw[d,W,k1]<;>simp) u Lq
     |true =>simp only[go_sem,O,bkG,K4 (Om:Z' f.bjC<=1000)];refine aB (L.inn (f.biW[i]).law 0 ((Z' f.bjC:Int)-1)) rfl ?_;simp only[go_sem,BZ,wZz i];exact fin _ x _ _ hlt (by rw[d,W,k1]<;>simp) u Lq
 ·have l:¬(i:Int)<(Z' f.biW:Nat):=Om;have:i=Z' f.biW:=Om;subst this;simp only[go_sem,l];exact Up.up Lq (y hc.symm)
def Zp(f:aE):Bool:=(bkH f.biX.length).all (okL [] (f.biX.map eI.name) λi=>(f.biX.map (arY f.biZ.length)).getD i false)
theorem a8G(L:yX C)(f:aE)(hf:f.Ok)(Z:vW f.bjC.length f.biW.length f.biY.length f.biV.length f.biZ.length f.biX.length=true)(b:Bool)(K:cH)[Up K](F:PF)(H:PH)
  (X:(((((n_.set 1 (.bO f.cells)).set 7 (.aK)).set 8 (.bool b)).set 21 (.int .i64 0)):PF).le F)
  (R:∀H',K (.exit 14) (((n_.set 1 (.bO f.cells)).set 8 (.bool (b&&Zp f)))) H'):aC.wp C (.loop IB) K F H:=by
 obtain⟨β,γ,δ,ε,ζ,η⟩:=jo Z;obtain⟨ok,J⟩:∃ok,okL [] (f.biX.map eI.name) (λi=>(f.biX.map (arY f.biZ.length)).getD i false)=ok:=⟨_,rfl⟩;unfold Zp at R;rw[J]at R;refine wp_loop (α:=Nat × PV × PH) (λs=>((((n_.set 1 (.bO f.cells)).set 7 (s.2.1)).set 8 (.bool (b&&(bkH s.1).all ok))).set 21 (.int .i64 s.1))) (λs=>s.2.2) (λs=>s.1<=Z' f.biX/\lO s.2.2 s.2.1 [] (f.biX.map eI.name) (b&&(bkH s.1).all ok) s.1) (λs=>Z' f.biX-s.1)
  (0,.aK,H) ⟨bkL _,⟨[],aR.nil.rA 1,λ_=>rfl⟩⟩ (by
   have e:(b&&(bkH 0).all ok)=b:=by cases b<;>rfl
   simp only[e];exact X) b_ ?_
 rintro⟨i,w,V⟩ ⟨hi,W⟩;simp only at hi W ⊢;have fin:∀(c:Bool)(y:PV)(N:PF)(H':PH),i<Z' f.biX->(b&&(bkH (i+1)).all ok)=c->lO H' y [] (f.biX.map eI.name) true (i+1) ->
   (((((n_.set 1 (.bO f.cells)).set 7 (y)).set 8 (.bool c)).set 21 (.int .i64 (i+1:Nat))):PF).le N ->
   jM (λs:Nat × PV × PH=>((((n_.set 1 (.bO f.cells)).set 7 (s.2.1)).set 8 (.bool (b&&(bkH s.1).all ok))).set 21 (.int .i64 s.1))) (λs=>s.2.2) (λs=>s.1<=Z' f.biX/\lO s.2.2 s.2.1 [] (f.biX.map eI.name) (b&&(bkH s.1).all ok) s.1) (λs=>Z' f.biX-s.1) (Z' f.biX-i) K .normal N H':=
  λc y N H' hlt hb Q O=>aG (i+1,y,H') ⟨hlt,Q.O9⟩ (by simp only;omega) (by simp only;rw[hb];exact O) b_
 have d:=yF (p:=ok) i b;have u:(b&&(bkH i).all ok)=(b&&(bkH f.biX.length).all ok)->K (.exit 14) (((n_.set 1 (.bO f.cells)).set 8 (.bool (b&&(bkH i).all ok)))) V:=λe=>by rw[e];exact R V
 have B:=λh=>yE (p:=ok) (b:=b) hi h;generalize Y:(b&&(bkH i).all ok)=c at *
 simp only[go_sem,IB,L6,bkG];by_cases hlt:i<Z' f.biX
 ·have l:(i:Int)<(Z' f.biX:Nat):=Om;cases c with
  |false =>simp only[go_sem,l];exact Up.up Lq (u (B rfl).symm)
  |true=>
   obtain⟨U,g1,g3⟩:=W.ex;have E:(f.biX.map eI.cells)[i]?=some (f.biX[i]).cells:=by simp[hlt]
   have S:i<(f.biX.map eI.name).length:=by rw[bkG];exact hlt
   have M:ok i=(mV ([]++(f.biX.map eI.name).take i) ((f.biX.map eI.name).getD i [])&&(arY f.biZ.length) f.biX[i]):=by rw[<-J];unfold okL;simp[blB,hlt]
   rw[M]at d;have x:arY f.biZ.length f.biX[i]=within (f.biX[i]).bjH 0 ((Z' f.biZ:Int)-1):=rfl;rw[x]at d;simp only[go_sem,l,L7,E];refine lO.call L.towF (ns:=(f.biX.map eI.name)) g1 (bkL _) Om (g3 rfl) S (by simp only[go_sem,blX]) λy H1 h1 A=>?_;generalize mV ([]++(f.biX.map eI.name).take i) ((f.biX.map eI.name).getD i [])=fb at *
   cases fb with
   |false =>simp only[go_sem];refine bP .nil (inS) a_ ?_;simp only[go_sem,aw,ay,wZz i];exact fin false y _ _ hlt (d.trans rfl) A Lq
   |true =>simp only[go_sem];refine bP .nil (inS) a_ ?_;simp only[go_sem,aw,E,bkG,K4 (Om:Z' f.biZ<=1000)];refine bK rfl (L.inn (f.biX[i]).bjH 0 ((Z' f.biZ:Int)-1)) rfl a_ ?_;simp only[go_sem,ay,wZz i];exact fin _ y _ _ hlt (d.trans rfl) A Lq
 ·have l:¬(i:Int)<(Z' f.biX:Nat):=Om;have:i=Z' f.biX:=Om;subst this;simp only[go_sem,l];exact Up.up Lq (u Y.symm)
def aKM:Spec:=λname vs=>match name,vs with
 |76,[.int _ n,.int _ lo,.int _ hi]=>some ([],λ_=>aF (.bool (within n lo hi)))
 |74,[.agg cs]=>some ([],λ_=>aF (.bool (dX (frD cs))))
 |_,_=>none
theorem aKN(x:RF):aKM 74 [.agg x.cells]=some ([],λ_=>aF (.bool (dX x))):=by
 show some ([],λ_=>aF (.bool (dX (frD x.cells))))=_;rw[Rt]
def acT(f:aE)(i:Nat)(d:cY):Bool:=
 within d.level 1 4&&(within d.parent 0 i&&(((f.biY.map cY.level).getD d.parent.toNat 0==i_.wrap (d.level-1))&&(within d.bjP 1 64&&dX d.bjK)))
theorem a3U(f:aE)(i:Nat)(d:cY):UB f i d=acT f i d:=by
 unfold UB acT;have:decide ((f.biY.map cY.level).getD d.parent.toNat 0=i_.wrap (d.level-1))=((f.biY.map cY.level).getD d.parent.toNat 0==i_.wrap (d.level-1)):=by generalize(f.biY.map cY.level).getD d.parent.toNat 0=u;by_cases h:u=i_.wrap (d.level-1)<;>simp[h]
 rw[this];cases within d.parent 0 i<;>cases within d.level 1 4<;>cases within d.bjP 1 64<;>simp
def lD(f:aE):List (List UInt8):=(f.biY.drop 1).map cY.name
def GL(f:aE)(i:Nat):Bool:=match f.biY[i+1]? with
 |some d=>acT f i d
 |none=>false
def GM(f:aE):Bool:=(bkH (Z' f.biY-1)).all (okL [] (lD f) (GL f))
theorem acS(f:aE):(lD f).length=Z' f.biY-1:=by simp[lD]
theorem a8D(L:yX C)(f:aE)(hf:f.Ok)(μ:Z' f.biY<=40)(h0:0<Z' f.biY)(b:Bool)(K:cH)[Up K](F:PF)(H:PH)
  (hF:(((((((n_.set 1 (.bO f.cells)).set 5 (.aK)).set 6 (.aK)).set 7 (.aK)).set 8 (.bool b)).set 13 (.int .i64 1)):PF).le F)
  (W:∀w H',lO H' w [] (lD f) (b&&GM f) (Z' f.biY-1)->K (.exit 4) ((((((n_.set 1 (.bO f.cells)).set 5 (w)).set 6 (.aK)).set 7 (.aK)).set 8 (.bool (b&&GM f)))) H'):aC.wp C (.loop HX) K F H:=by
 obtain⟨ok,Q⟩:∃ok,okL [] (lD f) (GL f)=ok:=⟨_,rfl⟩;unfold GM at W;rw[Q]at W;obtain⟨n,hn⟩:∃n,Z' f.biY=n+1:=⟨Z' f.biY-1,by omega⟩;have η:=acS f;have ζ:Z' f.biY-1=n:=Om;rw[ζ]at W η;refine wp_loop (α:=Nat × PV × PH) (λs=>((((((n_.set 1 (.bO f.cells)).set 5 (s.2.1)).set 6 (.aK)).set 7 (.aK)).set 8 (.bool (b&&(bkH s.1).all ok))).set 13 (.int .i64 (s.1+1:Nat)))) (λs=>s.2.2) (λs=>s.1<=n/\lO s.2.2 s.2.1 [] (lD f) (b&&(bkH s.1).all ok) s.1) (λs=>n-s.1)
  (0,.aK,H) ⟨bkL _,⟨[],aR.nil.rA 1,λ_=>rfl⟩⟩ (by
   have e:(b&&(bkH 0).all ok)=b:=by cases b<;>rfl
   simp only[e];exact hF) b_ ?_
 rintro⟨i,w,Y⟩ ⟨hi,hG⟩;simp only at hi hG ⊢;have fin:∀(c:Bool)(A:PV)(X:PF)(H':PH),i<n->(b&&(bkH (i+1)).all ok)=c->lO H' A [] (lD f) true (i+1) ->
   (((((((n_.set 1 (.bO f.cells)).set 5 (A)).set 6 (.aK)).set 7 (.aK)).set 8 (.bool c)).set 13 (.int .i64 (i+1+1:Nat))):PF).le X ->
   jM (λs:Nat × PV × PH=>((((((n_.set 1 (.bO f.cells)).set 5 (s.2.1)).set 6 (.aK)).set 7 (.aK)).set 8 (.bool (b&&(bkH s.1).all ok))).set 13 (.int .i64 (s.1+1:Nat)))) (λs=>s.2.2) (λs=>s.1<=n/\lO s.2.2 s.2.1 [] (lD f) (b&&(bkH s.1).all ok) s.1) (λs=>n-s.1) (n-i) K .normal X H':=
  λc A X H' hlt hb β Z=>aG (i+1,A,H') ⟨hlt,β.O9⟩ (by simp only;omega) (by simp only;rw[hb];exact Z) b_
 have d:=yF (p:=ok) i b;have N:=λh=>yE (p:=ok) (b:=b) hi h;have E:(b&&(bkH i).all ok)=(b&&(bkH n).all ok)->((b&&(bkH i).all ok)=true->i=n)->K (.exit 4) ((((((n_.set 1 (.bO f.cells)).set 5 (w)).set 6 (.aK)).set 7 (.aK)).set 8 (.bool (b&&(bkH i).all ok)))) Y:=λe e2=>by
  obtain⟨y,g1,g3⟩:=hG.ex;have:=W w Y ⟨y,g1,λh=>by have h':=e.trans h;rw[g3 h',e2 h']⟩
  rwa[<-e]at this
 generalize hc:(b&&(bkH i).all ok)=c at *
 simp only[go_sem,HX,Ln,bkG];by_cases hlt:i<n
 ·have u:((i+1:Nat):Int)<(Z' f.biY:Nat):=Om;cases c with
  |false =>simp only[go_sem,u];exact Up.up Lq (E (N rfl).symm (λh=>by cases h))
  |true=>
   obtain⟨y,g1,g3⟩:=hG.ex;have J:i+1<Z' f.biY:=Om;have γ:=jJ J;have ε:i<(lD f).length:=Om;have θ:(lD f)[i]=(f.biY[i+1]).name:=by simp[lD,Nat.add_comm]
   have R:ok i=(mV ([]++(lD f).take i) ((lD f).getD i [])&&acT f i f.biY[i+1]):=by rw[<-Q];unfold okL GL;rw[bkT J]
   have δ:=hf.dom _ (bkK J);rw[R]at d;unfold acT at d;have e1:i_.wrap (((i+1:Nat):Int)-1)=(i:Nat):=by rw[wrap_i64 Om Om];omega
   have l:i_.wrap (((i+1:Nat):Int)+1)=((i+1+1:Nat):Int):=eM Om;have κ:=L.small _ δ.1;simp only[go_sem,u,Lo,γ];refine aP λo ho=>?_;have g4:=g1.new ho (.rows 7 [(f.biY[i+1]).cells]);have g5:=g4.at 0 rfl;simp only[go_sem];generalize Y.set o (.rows 7 [(f.biY[i+1]).cells])=H2 at *
   simp only[go_sem,Lp,g5];refine lO.call L.towF (ns:=lD f) g4 (bkL _) Om (g3 rfl) ε (by simp only[go_sem,θ]) λA H1 h1 x=>?_;have M:=h1.at 0 rfl;generalize mV ([]++(lD f).take i) ((lD f).getD i [])=fb at *
   generalize hd:f.biY[i+1]=B at *
   cases fb with
   |false =>simp only[go_sem];refine bP .nil aKM a_ ?_;simp only[go_sem,ZY,tY,l];exact fin false A _ _ hlt (d.trans rfl) x Lq
   |true=>
    simp only[go_sem];refine bP .nil aKM a_ ?_;simp only[go_sem,ZY,M];refine bK rfl (L.inn B.level 1 4) rfl a_ ?_;cases V:within B.level 1 4 with
    |false =>simp only[go_sem,tY,l];exact fin false A _ _ hlt (by rw[d,V]<;>simp) x Lq
    |true=>
     simp only[go_sem,M,e1];refine bK rfl (L.inn B.parent 0 (i:Nat)) rfl a_ ?_;cases k1:within B.parent 0 (i:Nat)with
     |false =>simp only[go_sem,tY,l];exact fin false A _ _ hlt (by rw[d,V,k1]<;>simp) x Lq
     |true=>
      obtain⟨p0,p1⟩:=within_iff.1 k1;obtain⟨p,hp⟩:∃p:Nat,B.parent=p:=⟨B.parent.toNat,by omega⟩;have U:p<Z' f.biY:=Om;obtain⟨lv,O⟩:∃lv,(f.biY.map cY.level).getD B.parent.toNat 0=lv:=⟨_,rfl⟩;have ι:(f.biY[p]).level=lv:=by rw[<-O,hp,bmI,getD_at U]
      rw[O]at d;have S:=jJ U;simp only[go_sem,M,hp,S,ι];cases k2:lv==i_.wrap (B.level-1)with
      |false =>simp only[go_sem,tY,l];exact fin false A _ _ hlt (by rw[d,V,k1,k2]<;>simp) x Lq
      |true=>
       simp only[go_sem,M];refine bK rfl (L.inn B.bjP 1 64) rfl a_ ?_;cases k3:within B.bjP 1 64 with
       |false =>simp only[go_sem,tY,l];exact fin false A _ _ hlt (by rw[d,V,k1,k2,k3]<;>simp) x Lq
       |true =>simp only[go_sem,M];refine bK (aKN _) κ rfl a_ ?_;simp only[go_sem,tY,l];exact fin _ A _ _ hlt (by rw[d,V,k1,k2,k3]<;>simp) x Lq
 ·have u:¬((i+1:Nat):Int)<(Z' f.biY:Nat):=Om;have:i=n:=Om;subst this;simp only[go_sem,u];exact Up.up Lq (E hc.symm (λ_=>rfl))
def acW(f:aE)(d:eS):Bool:=within d.model 0 ((Z' f.biW:Int)-1)&&(within d.machine 0 ((Z' f.biY:Int)-1)&&((f.biY.map cY.level).getD d.machine.toNat 0==4))
def qY(f:aE):List (List UInt8):=f.biV.map eS.name
def DQ(f:aE)(i:Nat):Bool:=match f.biV[i]? with
 |some d=>acW f d
 |none=>false
def IE(f:aE):Bool:=(bkH f.biV.length).all (okL (lD f) (qY f) (DQ f))
theorem aUZ(L:yX C)(f:aE)(hf:f.Ok)(κ:Z' f.biY<=40)(h0:0<Z' f.biY)(μ:Z' f.biV<=24)(ι:Z' f.biW<=4)(b:Bool)(w0:PV)(K:cH)[Up K](F:PF)(H:PH)
  (β:lO H w0 [] (lD f) b (Z' f.biY-1)) (hF:(((((((n_.set 1 (.bO f.cells)).set 5 (w0)).set 6 (.aK)).set 7 (.aK)).set 8 (.bool b)).set 15 (.int .i64 0)):PF).le F)
  (U:∀H',K (.exit 6) (((((n_.set 1 (.bO f.cells)).set 6 (.aK)).set 7 (.aK)).set 8 (.bool (b&&IE f)))) H'):aC.wp C (.loop HY) K F H:=by
 obtain⟨ok,O⟩:∃ok,okL (lD f) (qY f) (DQ f)=ok:=⟨_,rfl⟩;unfold IE at U;rw[O]at U;obtain⟨n,hn⟩:∃n,Z' f.biV=n:=⟨_,rfl⟩;have η:=acS f;have θ:(qY f).length=n:=by simp[qY,hn]
 rw[hn]at U;refine wp_loop (α:=Nat × PV × PH) (λs=>((((((n_.set 1 (.bO f.cells)).set 5 (s.2.1)).set 6 (.aK)).set 7 (.aK)).set 8 (.bool (b&&(bkH s.1).all ok))).set 15 (.int .i64 s.1))) (λs=>s.2.2) (λs=>s.1<=n/\lO s.2.2 s.2.1 (lD f) (qY f) (b&&(bkH s.1).all ok) s.1) (λs=>n-s.1)
  (0,w0,H) ⟨bkL _,by
   obtain⟨x,q1,q2⟩:=β.ex;have e:(b&&(bkH 0).all ok)=b:=by cases b<;>rfl
   refine⟨x,q1,λh=>?_⟩;simp only[e]at h;rw[q2 h,boD,bkZ Om];simp⟩ (by
   have e:(b&&(bkH 0).all ok)=b:=by cases b<;>rfl
   simp only[e];exact hF) b_ ?_
 rintro⟨i,w,W⟩ ⟨hi,hG⟩;simp only at hi hG ⊢;have fin:∀(c:Bool)(A:PV)(V:PF)(H':PH),i<n->(b&&(bkH (i+1)).all ok)=c->lO H' A (lD f) (qY f) true (i+1) ->
   (((((((n_.set 1 (.bO f.cells)).set 5 (A)).set 6 (.aK)).set 7 (.aK)).set 8 (.bool c)).set 15 (.int .i64 (i+1:Nat))):PF).le V ->
   jM (λs:Nat × PV × PH=>((((((n_.set 1 (.bO f.cells)).set 5 (s.2.1)).set 6 (.aK)).set 7 (.aK)).set 8 (.bool (b&&(bkH s.1).all ok))).set 15 (.int .i64 s.1))) (λs=>s.2.2) (λs=>s.1<=n/\lO s.2.2 s.2.1 (lD f) (qY f) (b&&(bkH s.1).all ok) s.1) (λs=>n-s.1) (n-i) K .normal V H':=
  λc A V H' hlt hb Z Y=>aG (i+1,A,H') ⟨hlt,Z.O9⟩ (by simp only;omega) (by simp only;rw[hb];exact Y) b_
 have d:=yF (p:=ok) i b;have J:=λh=>yE (p:=ok) (b:=b) hi h;have B:(b&&(bkH i).all ok)=(b&&(bkH n).all ok)->K (.exit 6) (((((n_.set 1 (.bO f.cells)).set 6 (.aK)).set 7 (.aK)).set 8 (.bool (b&&(bkH i).all ok)))) W:=λe=>by rw[e];exact U W
 generalize hc:(b&&(bkH i).all ok)=c at *
 simp only[go_sem,HY,Lr,bkG];by_cases hlt:i<n
 ·have l:((i:Nat):Int)<(Z' f.biV:Nat):=Om;cases c with
  |false =>simp only[go_sem,l];exact Up.up Lq (B (J rfl).symm)
  |true=>
   obtain⟨x,g1,g3⟩:=hG.ex;have M:i<Z' f.biV:=Om;have γ:=rK M;have δ:i<(qY f).length:=Om;have ε:(qY f)[i]=(f.biV[i]).name:=by simp[qY]
   have Q:ok i=(mV (lD f++(qY f).take i) ((qY f).getD i [])&&acW f f.biV[i]):=by rw[<-O];unfold okL DQ;rw[bkT M]
   rw[Q]at d;unfold acW at d;have u:i_.wrap ((i:Int)+1)=((i+1:Nat):Int):=eM Om;have e1:=K4 (Om:Z' f.biW<=1000);have e2:=K4 (Om:Z' f.biY<=1000);simp only[go_sem,l,Lt,γ];refine aP λo ho=>?_;have g4:=g1.new ho (.rows 3 [(f.biV[i]).cells]);have g5:=g4.at 0 rfl;simp only[go_sem];generalize W.set o (.rows 3 [(f.biV[i]).cells])=H2 at *
   simp only[go_sem,Lu,g5];refine lO.call L.towF (base:=lD f) (ns:=qY f) g4 Om Om (g3 rfl) δ (by simp only[go_sem,ε]) λA H1 h1 y=>?_;have X:=h1.at 0 rfl;generalize mV (lD f++(qY f).take i) ((qY f).getD i [])=fb at *
   generalize hd:f.biV[i]=E at *
   cases fb with
   |false =>simp only[go_sem,aa,CA,u];exact fin false A _ _ hlt (d.trans rfl) y Lq
   |true=>
    simp only[go_sem,aa,X,bkG,e1];refine aB (L.inn E.model 0 ((Z' f.biW:Int)-1)) rfl ?_;cases k0:within E.model 0 ((Z' f.biW:Int)-1)with
    |false =>simp only[go_sem,CA,u];exact fin false A _ _ hlt (by rw[d,k0]<;>simp) y Lq
    |true=>
     simp only[go_sem,X,bkG,e2];refine aB (L.inn E.machine 0 ((Z' f.biY:Int)-1)) rfl ?_;cases k1:within E.machine 0 ((Z' f.biY:Int)-1)with
     |false =>simp only[go_sem,CA,u];exact fin false A _ _ hlt (by rw[d,k0,k1]<;>simp) y Lq
     |true=>
      obtain⟨p0,p1⟩:=within_iff.1 k1;obtain⟨p,hp⟩:∃p:Nat,E.machine=p:=⟨E.machine.toNat,by omega⟩;have S:p<Z' f.biY:=Om;obtain⟨lv,N⟩:∃lv,(f.biY.map cY.level).getD E.machine.toNat 0=lv:=⟨_,rfl⟩;have ζ:(f.biY[p]).level=lv:=by rw[<-N,hp,bmI,getD_at S]
      rw[N]at d;have R:=jJ S;simp only[go_sem,X,hp,R,ζ,CA,u];exact fin _ A _ _ hlt (by rw[d,k0,k1]<;>simp) y Lq
 ·have l:¬((i:Nat):Int)<(Z' f.biV:Nat):=Om;have:i=n:=Om;subst this;simp only[go_sem,l];exact Up.up Lq (B hc.symm)
theorem xc{xs:List Int}{k:Nat}(h:k<Z' xs):(xs.map λx=>[PV.int .i64 x])[k]?=some [.int .i64 xs[k]]:=by simp[h]
def zpF(f:aE)(w:PV)(o i:Nat)(c:Bool)(j:Nat):PF:=(((((((n_.set 1 (.bO f.cells)).set 6 (w)).set 7 (.aK)).set 8 (.bool c)).set 17 (.int .i64 i)).set 18 (.ptr o 17 0 0)).set 19 (.int .i64 j))
theorem a2E(f:aE)(w:PV)(o i:Nat)(p:cJ)(N:Z' p.biW<=9223372036854775807)(j:Nat)(E:j<Z' p.biW)(b:Bool)(K:cH)[Up K](F:PF)(H:PH)(J:H o=some (.rows 17 [p.cells]))(A:((zpF f w o i b j).set 20 (.int .i64 0)).le F)
  (B:K (.exit 12) (zpF f w o i (b&&(p.biW.take j).all λx=>x != p.biW[j]) j) H):aC.wp C (.loop ZU) K F H:=by
 refine wp_loop (α:=Nat) (λk=>(zpF f w o i (b&&(p.biW.take k).all λx=>x != p.biW[j]) j).set 20 (.int .i64 k)) (λ_=>H) (λk=>k<=j) (λk=>j-k) 0 (bkL _) (by
   have e:(b&&(p.biW.take 0).all λx=>x != p.biW[j])=b:=by cases b<;>rfl
   simp only[e];exact A) b_ ?_
 intro k M;have u:∀h:k<Z' p.biW,(b&&(p.biW.take (k+1)).all λx=>x != p.biW[j])=((b&&(p.biW.take k).all λx=>x != p.biW[j])&&(p.biW[k] != p.biW[j])):=λh=>by rw[blO h,bnX];simp[bnT]
 have fin:∀(c:Bool)(y:PF),k<j->(b&&(p.biW.take (k+1)).all λx=>x != p.biW[j])=c->((zpF f w o i c j).set 20 (.int .i64 (k+1:Nat))).le y->jM (λk:Nat=>(zpF f w o i (b&&(p.biW.take k).all λx=>x != p.biW[j]) j).set 20 (.int .i64 k)) (λ_=>H) (λk=>k<=j) (λk=>j-k) (j-k) K .normal y H:=
  λc y hlt e h=>aG (k+1) hlt Om (by rw[e];exact h) b_
 unfold zpF at fin;simp only[go_sem,ZU,L4,zpF];by_cases hlt:k<j
 ·have d:(k:Int)<(j:Nat):=Om;have l:k<Z' p.biW:=Om;have u:=u l;generalize(b&&(p.biW.take k).all λx=>x != p.biW[j])=c at *
  simp only[go_sem,d];refine bP .nil eJ a_ ?_;cases c with
  |false =>simp only[go_sem,an,ao,wZz k];exact fin false _ hlt (u.trans rfl) Lq
  |true =>simp only[go_sem,an,J,xc l,xc E,ao,wZz k];exact fin _ _ hlt (u.trans rfl) Lq
 ·have d:¬(k:Int)<(j:Nat):=Om;have:k=j:=Om;subst this;simp only[go_sem,d];exact Up.up (by(repeat' (first|exact c_|refine d_ ?_ ?_))<;>first|(simp only[go_sem,zpF]<;>rfl)|rfl) B
def XE(biW:Nat)(ms:List Int)(j:Nat):Bool:=within (ms.getD j 0) 0 ((biW:Int)-1)&&(ms.take j).all λx=>x != ms.getD j 0
theorem aUW(L:yX C)(f:aE)(V:Z' f.biW<=4)(w:PV)(o i:Nat)(p:cJ)(U:Z' p.biW<=9223372036854775807)(b:Bool)(K:cH)[Up K](F:PF)(H:PH)(E:H o=some (.rows 17 [p.cells]))(O:(zpF f w o i b 0).le F)
  (M:K (.exit 10) ((((((n_.set 1 (.bO f.cells)).set 6 (w)).set 7 (.aK)).set 8 (.bool (b&&(bkH p.biW.length).all (XE f.biW.length p.biW)))).set 17 (.int .i64 i))) H):aC.wp C (.loop HZ) K F H:=by
 obtain⟨ok,A⟩:∃ok,XE f.biW.length p.biW=ok:=⟨_,rfl⟩;rw[A]at M;refine wp_loop (α:=Nat) (λj=>zpF f w o i (b&&(bkH j).all ok) j) (λ_=>H) (λj=>j<=Z' p.biW) (λj=>Z' p.biW-j) 0 (bkL _) (by
   have e:(b&&(bkH 0).all ok)=b:=by cases b<;>rfl
   simp only[e];exact O) b_ ?_
 intro j S;have l:=yF (p:=ok) j b;have y:=λh=>yE (p:=ok) (b:=b) S h;have fin:∀(c:Bool)(B:PF),j<Z' p.biW->(b&&(bkH (j+1)).all ok)=c->(zpF f w o i c (j+1)).le B->jM (λj:Nat=>zpF f w o i (b&&(bkH j).all ok) j) (λ_=>H) (λj=>j<=Z' p.biW) (λj=>Z' p.biW-j) (Z' p.biW-j) K .normal B H:=
  λc B hlt e h=>aG (j+1) hlt Om (by rw[e];exact h) b_
 unfold zpF at fin;have u:(b&&(bkH j).all ok)=(b&&(bkH p.biW.length).all ok)->K (.exit 10) ((((((n_.set 1 (.bO f.cells)).set 6 (w)).set 7 (.aK)).set 8 (.bool (b&&(bkH j).all ok))).set 17 (.int .i64 i))) H:=λe=>by rw[e];exact M
 generalize Q:(b&&(bkH j).all ok)=c at *
 simp only[go_sem,HZ,Lz,zpF,E,bkG];by_cases hlt:j<Z' p.biW
 ·have d:(j:Int)<(Z' p.biW:Nat):=Om;cases c with
  |false =>simp only[go_sem,d];exact Up.up Lq (u (y rfl).symm)
  |true=>
   have N:=K4 (Om:Z' f.biW<=1000);have R:p.biW.getD j 0=p.biW[j]:=by simp[blB,hlt]
   have J:ok j=(within p.biW[j] 0 ((Z' f.biW:Int)-1)&&(p.biW.take j).all λx=>x != p.biW[j]):=by rw[<-A];unfold XE;rw[R]
   rw[J]at l;simp only[go_sem,d];refine bP .nil aKM a_ ?_;simp only[go_sem,L0,E,xc hlt,bkG,N];refine bK rfl (L.inn p.biW[j] 0 ((Z' f.biW:Int)-1)) Sq a_ ?_;simp only[go_sem,L3];refine a2E f w o i p U j hlt (within p.biW[j] 0 ((Z' f.biW:Int)-1)) _ _ _ E (by(repeat' (first|exact c_|refine d_ ?_ ?_))<;>first|(simp only[go_sem,zpF]<;>rfl)|rfl) ?_;simp only[go_sem,zpF,L5,wZz j];exact fin _ _ hlt (l.trans rfl) Lq
 ·have d:¬(j:Int)<(Z' p.biW:Nat):=Om;have:j=Z' p.biW:=Om;subst this;simp only[go_sem,d];exact Up.up Lq (u Q.symm)
def amF(biW:Nat)(p:cJ):Bool:=WV p.k p.m p.bjT p.s0 p.s1 p.s2 p.s3 p.s4&&(dk p.m p.repair p.target p.bjF&&(decide (Z' p.biW>0)&&(bkH p.biW.length).all (XE biW p.biW)))
theorem a6Q(biW:Nat)(p:cJ):mX biW p=amF biW p:=by
 unfold mX amF;rw[a6E,a8Y];have d:decide (Z' p.biW≠0)=decide (Z' p.biW>0):=decide_eq_decide.2 Om;have e:(bkH p.biW.length).all (λj=>within (p.biW.getD j 0) 0 ((biW:Int)-1)&&!(p.biW.take j).contains (p.biW.getD j 0))=(bkH p.biW.length).all (XE biW p.biW):=by
  congr 1;funext j;unfold XE;congr 1;generalize p.biW.getD j 0=x
  induction p.biW.take j with
  |nil=>rfl
  |cons a t i =>rw[List.contains_cons,bnY,<-i,Bool.not_or,bne,BEq.comm]
 rw[d,e];cases WV p.k p.m p.bjT p.s0 p.s1 p.s2 p.s3 p.s4<;>cases dk p.m p.repair p.target p.bjF<;>cases decide (Z' p.biW>0)<;>simp
structure Md(C:Ctx):Prop extends yX C where
 dur:∀(m:Int)(rep:List RF),nI rep->∀t h:RF,t.Ok->h.Ok->aH C 69 [.int .i64 m,frs rep,.agg t.cells,.agg h.cells] .nil (aF (.bool (dk m rep t h)))
def pR(f:aE):List (List UInt8):=f.biZ.map cJ.name
def XD(f:aE)(i:Nat):Bool:=match f.biZ[i]? with
 |some p=>amF f.biW.length p
 |none=>false
def G1(f:aE):Bool:=(bkH f.biZ.length).all (okL [] (pR f) (XD f))
theorem a8F(L:Md C)(f:aE)(hf:f.Ok)(ε:Z' f.biZ<=4)(β:Z' f.biW<=4)(b:Bool)(K:cH)[Up K](F:PF)(H:PH)
  (hF:((((((n_.set 1 (.bO f.cells)).set 6 (.aK)).set 7 (.aK)).set 8 (.bool b)).set 17 (.int .i64 0)):PF).le F)
  (U:∀H',K (.exit 8) ((((n_.set 1 (.bO f.cells)).set 7 (.aK)).set 8 (.bool (b&&G1 f)))) H'):aC.wp C (.loop IA) K F H:=by
 obtain⟨ok,J⟩:∃ok,okL [] (pR f) (XD f)=ok:=⟨_,rfl⟩;unfold G1 at U;rw[J]at U;have δ:(pR f).length=Z' f.biZ:=by simp[pR]
 refine wp_loop (α:=Nat × PV × PH) (λs=>(((((n_.set 1 (.bO f.cells)).set 6 (s.2.1)).set 7 (.aK)).set 8 (.bool (b&&(bkH s.1).all ok))).set 17 (.int .i64 s.1))) (λs=>s.2.2) (λs=>s.1<=Z' f.biZ/\lO s.2.2 s.2.1 [] (pR f) (b&&(bkH s.1).all ok) s.1) (λs=>Z' f.biZ-s.1)
  (0,.aK,H) ⟨bkL _,⟨[],aR.nil.rA 1,λ_=>rfl⟩⟩ (by
   have e:(b&&(bkH 0).all ok)=b:=by cases b<;>rfl
   simp only[e];exact hF) b_ ?_
 rintro⟨i,w,Q⟩ ⟨hi,hG⟩;simp only at hi hG ⊢;have fin:∀(c:Bool)(y:PV)(A:PF)(H':PH),i<Z' f.biZ->(b&&(bkH (i+1)).all ok)=c->lO H' y [] (pR f) true (i+1) ->
   ((((((n_.set 1 (.bO f.cells)).set 6 (y)).set 7 (.aK)).set 8 (.bool c)).set 17 (.int .i64 (i+1:Nat))):PF).le A ->
   jM (λs:Nat × PV × PH=>(((((n_.set 1 (.bO f.cells)).set 6 (s.2.1)).set 7 (.aK)).set 8 (.bool (b&&(bkH s.1).all ok))).set 17 (.int .i64 s.1))) (λs=>s.2.2) (λs=>s.1<=Z' f.biZ/\lO s.2.2 s.2.1 [] (pR f) (b&&(bkH s.1).all ok) s.1) (λs=>Z' f.biZ-s.1) (Z' f.biZ-i) K .normal A H':=
  λc y A H' hlt hb R B=>aG (i+1,y,H') ⟨hlt,R.O9⟩ (by simp only;omega) (by simp only;rw[hb];exact B) b_
 have d:=yF (p:=ok) i b;have E:=λh=>yE (p:=ok) (b:=b) hi h;have x:(b&&(bkH i).all ok)=(b&&(bkH f.biZ.length).all ok)->K (.exit 8) ((((n_.set 1 (.bO f.cells)).set 7 (.aK)).set 8 (.bool (b&&(bkH i).all ok)))) Q:=λe=>by rw[e];exact U Q
 generalize hc:(b&&(bkH i).all ok)=c at *
 simp only[go_sem,IA,Lw,bkG];by_cases hlt:i<Z' f.biZ
 ·have l:(i:Int)<(Z' f.biZ:Nat):=Om;cases c with
  |false =>simp only[go_sem,l];exact Up.up Lq (x (E rfl).symm)
  |true=>
   obtain⟨γ,g1,g3⟩:=hG.ex;have V:=auN hlt;have Y:i<(pR f).length:=Om;have Z:(pR f)[i]=(f.biZ[i]).name:=by simp[pR]
   have M:ok i=(mV ([]++(pR f).take i) ((pR f).getD i [])&&amF f.biW.length f.biZ[i]):=by rw[<-J];unfold okL XD;rw[bkT hlt]
   have u:=hf.bjH _ (bkK hlt);rw[M]at d;unfold amF at d;have N:i_.wrap ((i:Int)+1)=((i+1:Nat):Int):=eM Om;simp only[go_sem,l,Lx,V];refine aP λo ho=>?_;have g4:=g1.new ho (.rows 17 [(f.biZ[i]).cells]);have g5:=g4.at 0 rfl;simp only[go_sem];generalize Q.set o (.rows 17 [(f.biZ[i]).cells])=H2 at *
   simp only[go_sem,Ly,g5];refine lO.call L.towF (ns:=pR f) g4 (bkL _) Om (g3 rfl) Y (by simp only[go_sem,Z]) λy H1 h1 S=>?_;have O:=h1.at 0 rfl;generalize mV ([]++(pR f).take i) ((pR f).getD i [])=fb at *
   generalize hd:f.biZ[i]=p at *
   have rest:∀(c:Bool)(A:PF),(zpF f y o i c 0).le A->(c&&(bkH p.biW.length).all (XE f.biW.length p.biW))=(b&&(bkH (i+1)).all ok) ->
     aC.wp C (.loop HZ) (gE 10 (gE 9 (kD C (aC.wp C (.region au)) (jM (λs:Nat × PV × PH=>(((((n_.set 1 (.bO f.cells)).set 6 (s.2.1)).set 7 (.aK)).set 8 (.bool (b&&(bkH s.1).all ok))).set 17 (.int .i64 s.1))) (λs=>s.2.2) (λs=>s.1<=Z' f.biZ/\lO s.2.2 s.2.1 [] (pR f) (b&&(bkH s.1).all ok) s.1) (λs=>Z' f.biZ-s.1) (Z' f.biZ-i) K)))) A H1:=by
    intro c A B W;refine aUW L.toyX f β y o i p u.biW c _ _ _ O B ?_;rw[W];simp only[go_sem,au,N];exact fin _ y _ _ hlt rfl S Lq
   cases fb with
   |false =>simp only[go_sem,aj,CB];exact rest false _ (by(repeat' (first|exact c_|refine d_ ?_ ?_))<;>first|(simp only[go_sem,zpF]<;>rfl)|rfl) (by rw[d];rfl)
   |true=>
    simp only[go_sem,aj,O];refine aB (L.nums p.k p.m p.bjT p.s0 p.s1 p.s2 p.s3 p.s4) Sq ?_;cases k0:WV p.k p.m p.bjT p.s0 p.s1 p.s2 p.s3 p.s4 with
    |false =>simp only[go_sem,CB];exact rest false _ (by(repeat' (first|exact c_|refine d_ ?_ ?_))<;>first|(simp only[go_sem,zpF]<;>rfl)|rfl) (by rw[d,k0];rfl)
    |true=>
     simp only[go_sem,O];refine aB (L.dur p.m p.repair u.repair p.target p.bjF u.target u.bjF) Sq ?_;cases k1:dk p.m p.repair p.target p.bjF with
     |false =>simp only[go_sem,CB];exact rest false _ (by(repeat' (first|exact c_|refine d_ ?_ ?_))<;>first|(simp only[go_sem,zpF]<;>rfl)|rfl) (by rw[d,k0,k1];rfl)
     |true =>have X:decide ((Z' p.biW:Int)>0)=decide (Z' p.biW>0):=decide_eq_decide.2 Om;simp only[go_sem,O,bkG,X,CB];exact rest _ _ (by(repeat' (first|exact c_|refine d_ ?_ ?_))<;>first|(simp only[go_sem,zpF]<;>rfl)|rfl) (by rw[d,k0,k1];rfl)
 ·have l:¬(i:Int)<(Z' f.biZ:Nat):=Om;have:i=Z' f.biZ:=Om;subst this;simp only[go_sem,l];exact Up.up Lq (x hc.symm)
def wZ(r:cY):Bool:=(r.name==[])&&((r.level==0)&&((r.parent==-1)&&((r.bjP==0)&&(cB (val r.bjK.num) (val r.bjK.den)&&(sM r.bjK==0)))))
def aMO(f:aE):Bool:=match f.biY with
 |[]=>false
 |r::_=>wZ r
def aZY(f:aE):Bool:=within f.bjZ 1 4&&(vW f.bjC.length f.biW.length f.biY.length f.biV.length f.biZ.length f.biX.length&&(decide (0<Z' f.biY)&&((((((VH f&&IS f)&&aMO f)&&GM f)&&IE f)&&G1 f)&&Zp f)))
theorem avO(n:Nat)(p q:Nat->Bool):(bkH n).all (λi=>p i&&q i)=((bkH n).all p&&(bkH n).all q):=by
 induction n with
 |zero=>rfl
 |succ n d =>simp only[boE,bnX,d,bnY,List.all_nil,bmO];cases(bkH n).all p<;>cases(bkH n).all q<;>cases p n<;>simp
theorem JF{α:Type}(l:List α)(p:α->Bool):(bkH l.length).all (λi=>(l.map p).getD i false)=l.all p:=by
 refine Bool.eq_iff_iff.2 ?_;rw[bkS,bkS];constructor
 ·intro h x d;obtain⟨i,hi,rfl⟩:=blZ d;have:=h i (blN.2 hi);simpa[blB,hi]using this
 ·intro h i hi;have hi:=blN.1 hi;simp[blB,hi,h _ (bkK hi)]
theorem SG(ns:List (List UInt8))(n:Nat)(d:Z' ns=n)(P:Nat->Bool):(bkH n).all (okL [] ns P)=(distinct ns&&(bkH n).all P):=by
 subst d;have:okL [] ns P=λi=>(isName (ns.getD i [])&&!(ns.take i).contains (ns.getD i []))&&P i:=by funext i;rfl
 rw[this,avO];rfl
theorem a6G(base ns:List (List UInt8))(P Q:Nat->Bool):((bkH base.length).all (okL [] base P)&&(bkH ns.length).all (okL base ns Q))=(distinct (base++ns)&&((bkH base.length).all P&&(bkH ns.length).all Q)):=by
 have d:okL base ns Q=λi=>(isName (ns.getD i [])&&!(base++ns.take i).contains (ns.getD i []))&&Q i:=by funext i;rfl
 have e2:distinct (base++ns)=(distinct base&&(bkH ns.length).all λi=>isName (ns.getD i [])&&!(base++ns.take i).contains (ns.getD i [])):=by
  unfold distinct;rw[bkQ,List.range_add,bnX,List.all_map];congr 1
  ·refine Bool.eq_iff_iff.2 ?_;rw[bkS,bkS];refine forall_congr' λi=>forall_congr' λhi=>?_;have hi:=blN.1 hi;have a1:(base++ns).getD i []=base.getD i []:=by simp only[blB];rw[bmU hi]
   have a2:(base++ns).take i=base.take i:=by rw[List.take_append_of_le_length Om]
   rw[a1,a2]
  ·refine Bool.eq_iff_iff.2 ?_;rw[bkS,bkS];refine forall_congr' λi=>forall_congr' λ_=>?_;have a1:(base++ns).getD (Z' base+i) []=ns.getD i []:=by simp only[blB];rw[bmY Om];congr 2;omega
   have a2:(base++ns).take (Z' base+i)=base++ns.take i:=by rw[List.take_append,bkZ Om];congr 2;omega
   simp only[Function.comp,a1,a2]
 rw[SG base base.length rfl P,d,avO,e2];cases distinct base<;>cases(bkH base.length).all P<;>simp
theorem a0D(r:cY):(decide (r.name=[])&&decide (r.level=0)&&decide (r.parent=-1)&&decide (r.bjP=0)&&dX r.bjK&&!bZ r.bjK)=wZ r:=by
 have l:decide (r.name=[])=(r.name==[]):=by cases r.name<;>rfl
 have p:decide (r.level=0)=(r.level==0):=by generalize r.level=x;by_cases h:x=0<;>simp[h]
 have u:decide (r.parent=-1)=(r.parent==-1):=by generalize r.parent=x;by_cases h:x=-1<;>simp[h]
 have w:decide (r.bjP=0)=(r.bjP==0):=by generalize r.bjP=x;by_cases h:x=0<;>simp[h]
 have h5:(dX r.bjK&&!bZ r.bjK)=(cB (val r.bjK.num) (val r.bjK.den)&&(sM r.bjK==0)):=by
  rw[YH];by_cases h:val r.bjK.num=0
  ·have e:bZ r.bjK=false:=by unfold bZ;simp[h]
   rw[e];simp only[bkW,bmO];cases d:cB (val r.bjK.num) (val r.bjK.den)with
   |false =>unfold dX mY;rw[d];rfl
   |true=>
    obtain⟨y,-,-⟩:=eK.1 d;unfold dX mY;rw[d,aI rfl,xg d,h];unfold pD;have hb:val r.bjK.den/bkJ 0 (val r.bjK.den)=1:=by rw[Nat.gcd_zero_left,Nat.div_self (bnE y)]
    have i:dC (0/bkJ 0 (val r.bjK.den))=0:=by rw[Nat.zero_div];exact nL
    have b1:dC 1=1:=by rw[vG aU,nL]
    simp only[hb,i,b1];simp
  ·have e:bZ r.bjK=true:=by unfold bZ;simp[h]
   rw[e];simp
 unfold wZ;rw[l,p,u,w];simp only[bnT]at h5 ⊢;rw[h5]
theorem aWP(f:aE){r:cY}{t:List cY}(h:f.biY=r::t):MI f r t=(wZ r&&(bkH t.length).all (GL f)):=by
 unfold MI;rw[a0D];congr 2;funext i;unfold GL;rw[h,List.getElem?_cons_succ];cases t[i]? with
 |none=>rfl
 |some d=>exact a3U f i d
theorem aPR(f:aE):f.biV.all (mJ f)=(bkH f.biV.length).all (DQ f):=by
 have:DQ f=λi=>(f.biV.map (mJ f)).getD i false:=by
  funext i;unfold DQ;rw[blB,blC];cases f.biV[i]? with
  |none=>rfl
  |some d=>
   show acW f d=mJ f d;unfold acW mJ;have:decide ((f.biY.map cY.level).getD d.machine.toNat 0=4)=((f.biY.map cY.level).getD d.machine.toNat 0==4):=by generalize(f.biY.map cY.level).getD d.machine.toNat 0=u;by_cases h:u=4<;>simp[h]
   rw[this,bnT]
 rw[this,JF]
theorem aSG(f:aE):f.biZ.all (mX f.biW.length)=(bkH f.biZ.length).all (XD f):=by
 have:XD f=λi=>(f.biZ.map (mX f.biW.length)).getD i false:=by
  funext i;unfold XD;rw[blB,blC];cases f.biZ[i]? with
  |none=>rfl
  |some d=>exact(a6Q _ d).symm
 rw[this,JF]
theorem a6U(f:aE):aZY f=cQ f:=by
 have M:Nh f.bjC.length=oW f:=by funext m;unfold Nh oW;rw[bnT]
 have A:arY f.biZ.length=tX f:=rfl;have N:(within f.bjZ 1 4&&vW f.bjC.length f.biW.length f.biY.length f.biV.length f.biZ.length f.biX.length)=tB f:=by unfold tB vW;simp only[bnT]
 unfold aZY cQ VH IS G1 Zp;rw[SG _ _ (by rw[bkG]),SG _ _ (by rw[bkG]),SG _ _ (by rw[pR,bkG]),SG _ _ (by rw[bkG]),JF,JF,JF,M,A,aSG,aPR,<-bnT,N];unfold tM aMO;cases l:f.biY with
 |nil=>simp
 |cons r t=>
  have i:decide (0<Z' f.biY)=true:=by rw[l];simp
  rw[l]at i;rw[i,bkR];simp only;rw[aWP f l];have y:lD f=(f.biY.drop 1).map cY.name:=rfl;rw[l]at y;have K:(lD f).length=Z' t:=by rw[y];simp
  have two:=a6G (lD f) (qY f) (GL f) (DQ f);rw[K,show(qY f).length=f.biV.length by simp[qY]]at two;have J:GM f=(bkH t.length).all (okL [] (lD f) (GL f)):=by unfold GM;rw[l];rfl
  have e2:IE f=(bkH f.biV.length).all (okL (lD f) (qY f) (DQ f)):=rfl;rw[J,e2,<-y];rw[show f.biV.map eS.name=qY f from rfl,show f.biZ.map cJ.name=pR f from rfl];generalize(bkH t.length).all (okL [] (lD f) (GL f))=a at *
  generalize(bkH f.biV.length).all (okL (lD f) (qY f) (DQ f))=b at *
  generalize distinct (lD f++qY f)=c at *
  generalize(bkH t.length).all (GL f)=d at *
  generalize(bkH f.biV.length).all (DQ f)=e at *
  generalize tB f=s;generalize wZ r=ro;generalize distinct (f.bjC.map dB.name)=p;generalize f.bjC.all oT=u;generalize distinct (f.biW.map dW.name)=w;generalize f.biW.all (oW f)=x;generalize distinct (pR f)=B;generalize(bkH f.biZ.length).all (XD f)=E;generalize distinct (f.biX.map eI.name)=F;generalize f.biX.all (tX f)=H;have:(s&&(((((((p&&u)&&(w&&x))&&ro)&&a)&&b)&&(B&&E))&&(F&&H)))=(s&&(ro&&((p&&u)&&((w&&x)&&((a&&b)&&((B&&E)&&(F&&H))))))):=by cases s<;>cases ro<;>cases p<;>cases u<;>cases w<;>cases x<;>simp[bnT]
  rw[this,two];cases s<;>cases ro<;>cases p<;>cases u<;>cases w<;>cases x<;>cases c<;>cases d<;>cases e<;>simp;cases B<;>cases E<;>cases F<;>cases H<;>rfl
theorem a0C(f:aE)(h:0<Z' f.biY):aMO f=wZ f.biY[0]:=by
 obtain⟨a,b,c,d,e,g,i⟩:=f;cases d with
 |nil=>simp at h
 |cons r t=>rfl
theorem aVB(L:Md C)(f:aE)(l:f.Ok):RI.wp C (aX atH.res (aF (.bool (cQ f)))) (g_ [.agg f.cells]) .nil:=by
 have i:=a6U f;unfold aZY at i;have fail:∀(F:PF)(H:PH),cQ f=false->F 2=some (.bool false)->aX [.tmp 2] (aF (.bool (cQ f))) .ret F H:=λF H e h=>by rw[e];exact bG (vs:=[.bool false]) (.inr rfl) .nil (by simp only[go_sem,h]) a_ ⟨rfl,rfl⟩
 simp only[go_sem,RI,Yd,Ye,atH];refine aB (L.inn f.bjZ 1 4) rfl ?_;cases R:within f.bjZ 1 4 with
 |false =>rw[R,bkP]at i;simp only[go_sem,bkW,NU];exact fail _ _ i.symm rfl
 |true=>
 rw[R,bkR]at i;simp only[go_sem,bkO,bkG];refine aB (L.sizes f.bjC.length f.biW.length f.biY.length f.biV.length f.biZ.length f.biX.length) rfl ?_;cases k1:vW f.bjC.length f.biW.length f.biY.length f.biV.length f.biZ.length f.biX.length with
 |false =>rw[k1,bkP]at i;simp only[go_sem,bkW,NU];exact fail _ _ i.symm rfl
 |true=>
 rw[k1,bkR]at i;obtain⟨K,x,y,M,N,X⟩:=jo k1;by_cases h0:Z' f.biY=0
 ·rw[bC Om,bkP]at i;simp only[go_sem,bkO,bkG,bW (Om:(Z' f.biY:Int)=0),NU];exact fail _ _ i.symm rfl
 have d:0<Z' f.biY:=Om;rw[aV d,bkR]at i;simp only[go_sem,bkO,bkG,bL (Om:(Z' f.biY:Int)≠0),Yf,Yg,Yh];refine a8E L.toyX f l K _ _ _ Lq λY=>?_;simp only[go_sem,Li];refine aVA L.toyX f l k1 (VH f) _ _ _ Lq λH2=>?_;have E:=jJ d;have u:=(l.dom _ (bkK d)).1;have J:=a0C f d;rw[J]at i;generalize f.biY[0]=r at *
 have rest:∀(c:Bool)(F:PF)(H:PH),((((((n_.set 1 (.bO f.cells)).set 5 (.aK)).set 6 (.aK)).set 7 (.aK)).set 8 (.bool c)):PF).le F->c=((VH f&&IS f)&&wZ r) ->
   aC.wp C (.seq (.seq (.region ZX) (.block 4 (.loop HX))) (.seq (.seq (.region ZZ) (.block 6 (.loop HY))) (.seq (.seq (.region ai) (.block 8 (.loop IA))) (.seq (.seq (.region av) (.block 14 (.loop IB))) (.seq (.region ba) .ret))))) (aX [.tmp 2] (aF (.bool (cQ f)))) F H:=by
  intro c F H U W;refine yD _ (λ_ _ _ _ a b=>Up.up a b) U ?_;simp only[go_sem,ZX];refine a8D L.toyX f l y d c _ _ _ Lq λw S V=>?_;simp only[go_sem,ZZ];refine aUZ L.toyX f l y d M x (c&&GM f) w _ _ _ V Lq λZ=>?_;simp only[go_sem,ai];refine a8F L f l N x ((c&&GM f)&&IE f) _ _ _ Lq λH5=>?_;simp only[go_sem,av];refine a8G L.toyX f l k1 (((c&&GM f)&&IE f)&&G1 f) _ _ _ Lq λH6=>?_;simp only[go_sem,ba];refine bG (vs:=[.bool (cQ f)]) (.inr rfl) .nil ?_ a_ ⟨rfl,rfl⟩;rw[<-i,W];simp only[go_sem]
 simp only[aC.wp,go_sem]at rest;simp only[go_sem,Lm,E];refine aP λo ho=>?_;have g0:(H2.set o (.rows 7 [r.cells])) o=some (.rows 7 [r.cells]):=cW ..;simp only[go_sem];generalize H2.set o (.rows 7 [r.cells])=S at *
 cases k2:(VH f&&IS f)with
 |false =>simp only[go_sem,ZW];exact rest false _ _ Lq (by rw[k2];rfl)
 |true=>
  simp only[go_sem,ZW,g0];cases p:r.name==[]with
  |false =>simp only[go_sem];exact rest false _ _ Lq (by rw[k2];unfold wZ;rw[p];rfl)
  |true=>
   simp only[go_sem,g0];cases A:r.level==0 with
   |false =>simp only[go_sem];exact rest false _ _ Lq (by rw[k2];unfold wZ;rw[p,A];rfl)
   |true=>
    simp only[go_sem,g0];cases B:r.parent==-1 with
    |false =>simp only[go_sem];exact rest false _ _ Lq (by rw[k2];unfold wZ;rw[p,A,B];rfl)
    |true=>
     simp only[go_sem,g0];cases O:r.bjP==0 with
     |false =>simp only[go_sem];exact rest false _ _ Lq (by rw[k2];unfold wZ;rw[p,A,B,O];rfl)
     |true=>
      simp only[go_sem,g0];refine aB (L.valid _ u) rfl ?_;cases Q:cB (val r.bjK.num) (val r.bjK.den)with
      |false =>simp only[go_sem];exact rest false _ _ Lq (by rw[k2];unfold wZ;rw[p,A,B,O,Q];rfl)
      |true =>simp only[go_sem,g0];refine aB (L.sign _ u Q) rfl ?_;simp only[go_sem];exact rest _ _ _ Lq (by rw[k2];unfold wZ;rw[p,A,B,O,Q];rfl)







def fW:=bR [3,4] Proofs.Tryz.f121
def avS:=aA fW 0
def avT:=aA fW 1
def avU:=aA fW 2
def avV:=aA fW 3
def avW:=aA fW 4
def avX:=aA fW 5
def avY:=aA fW 6
def avR:aC:=(fP avV 23 0 avY (sq avW (.region avX)))
def avZ:=aA fW 7
def awA:=aA fW 8
def TA:=aA fW 9
def vk:=aA fW 10
def vm:=aA fW 11
def aaM:=aA fW 12
def aaN:=aA fW 13
def aaO:=aA fW 14
def aaP:=aA fW 15
def aaQ:=aA fW 16
def TB:=aA fW 17
def aaR:=aA fW 18
def vn:=aA fW 19
def vj:aC:=(cT aaO 57 4 vn (sq aaP (sq aaQ (sq TB (.cond (Tm 88) (sq aaR .ret) .skip)))))
def aaS:=aA fW 20
def JK:aC:=(fP TA 37 2 aaS (sq vk (dA vm 49 aaM (cD aaN 4 vj))))
def aaT:=aA fW 21
def cj:aC:=(sq avS (sq avT (.seq (cD avU 0 avR) (sq avZ (.seq (cD awA 2 JK) (sq aaT .ret))))))
def aVO:bB:=⟨3,90,cj,[.tmp 6]⟩
def oq:=bR [2] Proofs.Tryz.f165
def P2:=aA oq 0
def P3:=aA oq 1
def OB:aC:=(sq P2 (sq P3 .ret))
def aaW:bB:=⟨2,19,OB,[.tmp 4]⟩
def uG:=bR [2] Proofs.Tryz.f126
def Pn:=aA uG 0
def Po:=aA uG 1
def Pp:=aA uG 2
def ck:=aA uG 3
def Pq:=aA uG 4
def Ps:=cN uG 0
def NZ:aC:=(sq Pn (.seq (.block 0 (sq Po (.cond (Tm 6) (sq Pp .ret) (sq ck (.cond (Tm 11) (sq Pq .ret) .skip))))) (dq Ps .ret)))
def call17:bB:=⟨2,23,NZ,[.tmp 4,.tmp 5]⟩
def dY:=bR [2,23,24,50,90] Proofs.Tryz.f62
def Q2:=aA dY 0
def Q3:=aA dY 1
def Q4:=aA dY 2
def Q5:=aA dY 3
def Q6:=aA dY 4
def Q7:=aA dY 5
def Q8:=aA dY 6
def Q9:=aA dY 7
def Q1:aC:=(fP Q6 19 0 Q9 (sq Q7 (.region Q8)))
def Ra:=aA dY 8
def C8:=aA dY 9
def C9:=aA dY 10
def Da:=aA dY 11
def Db:=aA dY 12
def Dc:=aA dY 13
def Dd:=aA dY 14
def De:=aA dY 15
def TR:=aA dY 16
def C6:aC:=(fP Da 36 2 TR (sq Db (sq Dc (.cond (Tm 43) (sq Dd (.region De)) .skip))))
def Df:=aA dY 17
def Dg:=aA dY 18
def Dh:=aA dY 19
def Di:=aA dY 20
def TS:=aA dY 21
def Dj:=aA dY 22
def GF:aC:=(.seq (sq TS (.cond (Tm 70) .skip (.exit 6))) (.block 7 (.region Dj)))
def Dk:=cN dY 0
def Dl:=cN dY 1
def Dm:=aA dY 23
def C7:aC:=(fP Dg 57 4 Dm (sq Dh (sq Di (.seq (.block 6 (.loop GF)) (dq Dk (.draw Dl))))))
def Dn:=aA dY 24
def OG:aC:=(sq Q2 (sq Q3 (hL Q4 14 (.seq (cD Q5 0 Q1) (sq Ra .ret)) (sq C8 (.seq (cD C9 2 C6) (.seq (cD Df 4 C7) (sq Dn .ret)))))))
def acK:bB:=⟨2,95,OG,[.tmp 4]⟩
def qE:=bR [] Proofs.Tryz.f63
def Bf:=aA qE 0
def Bg:=aA qE 1
def Bh:=aA qE 2
def Bi:=aA qE 3
def Bj:=aA qE 4
def Bk:=aA qE 5
def Be:aC:=(cT Bi 9 0 Bk (.region Bj))
def Bl:=aA qE 6
def JL:aC:=(sq Bf (sq Bg (.seq (cD Bh 0 Be) (sq Bl .ret))))
def Mh:bB:=⟨2,22,JL,[.tmp 4]⟩
def gR:=bR [] Proofs.Tryz.f71
def aaX:=aA gR 0
def aaY:=aA gR 1
def aaZ:=aA gR 2
def vq:=aA gR 3
def abA:=aA gR 4
def abB:=aA gR 5
def abC:=aA gR 6
def vr:=aA gR 7
def abD:=aA gR 8
def TD:=aA gR 9
def P4:=aA gR 10
def EM:aC:=(.seq (sq TD (.cond (Tm 37) .skip (.exit 4))) (.block 5 (.region P4)))
def MC:=aA gR 11
def P5:=aA gR 12
def MD:=aA gR 13
def MB:aC:=(fP vr 23 2 MD (sq abD (.seq (.block 4 (.loop EM)) (sq MC (.cond (Tm 51) (.region P5) .skip)))))
def cq:=aA gR 14
def P6:=aA gR 15
def cr:=aA gR 16
def cp:aC:=(fP vq 17 0 cr (sq abA (sq abB (.seq (cD abC 2 MB) (sq cq (.cond (Tm 57) (.region P6) .skip))))))
def P7:=aA gR 17
def TC:aC:=(sq aaX (sq aaY (.seq (cD aaZ 0 cp) (sq P7 .ret))))
def aIN:bB:=⟨3,62,TC,[.tmp 6]⟩
def C5:=bR [] Proofs.Tryz.f64
def acI:=aA C5 0
def acJ:=aA C5 1
def TQ:aC:=(sq acI (sq acJ .ret))
def aIY:bB:=⟨2,6,TQ,[.tmp 4]⟩
def gG:=bR [] Proofs.Tryz.f118
def Rb:=aA gG 0
def Rc:=aA gG 1
def Re:=aA gG 2
def Rf:=aA gG 3
def Rh:=aA gG 4
def Ri:=aA gG 5
def Rj:=aA gG 6
def dg:aC:=(fP Rf 16 0 Rj (sq Rh (.region Ri)))
def dh:=aA gG 7
def di:=aA gG 8
def AH:=cN gG 0
def TT:=aA gG 9
def GG:aC:=(.seq (dq AH (.cond (Tm 42) .skip (.exit 4))) (.block 5 (.region TT)))
def GI:=aA gG 10
def TU:=aA gG 11
def TV:=aA gG 12
def GJ:=aA gG 13
def TW:=aA gG 14
def TX:=aA gG 15
def GH:aC:=(cT GJ 57 6 TX (.region TW))
def Do:aC:=(.seq (sq dh (.cond (Tm 26) .skip (.exit 2))) (.block 3 (sq di (.seq (.block 4 (.loop GG)) (hL GI 46 .ret (sq TU (cD TV 6 GH)))))))
def OH:aC:=(hL Rb 10 .ret (sq Rc (.seq (cD Re 0 dg) (.block 2 (.loop Do)))))
def acL:bB:=⟨1,69,OH,[]⟩
def dT(n:Nat):Nat->Nat->List (List Nat)
 |0,_=>[[]]
 |k+1,a=>(bmR a (n-k-a)).flatMap λi=>(dT n k (i+1)).map (i::·)
def sI(n:Nat):List Nat->Option (List Nat)
 |[]=>none
 |x::t=>match sI n t with
  |some u=>some (x::u)
  |none=>if x+1+Z' t=n then none else some (bmR (x+1) (Z' t+1))
theorem Tc{n:Nat}:∀{s u:List Nat},sI n s=some u->Z' u=Z' s
 |[],_,h=>by cases h
 |x::t,u,h=>by
  rw[sI]at h;split at h
  ·rename_i v d;cases h;simp[Tc d]
  ·split at h
   ·cases h
   ·cases h;simp
inductive tJ (n:Nat):List Nat->List (List Nat)->Prop
 |last {s:List Nat} (h:sI n s=none):tJ n s [s]
 |step {s t:List Nat} {l:List (List Nat)} (h:sI n s=some t) (w:tJ n t l):tJ n s (s::l)
theorem tJ.map{n x k:Nat}{rest:List (List Nat)}(i:(x+1+k=n/\rest=[])\/(x+1+k≠n/\tJ n (bmR (x+1) (k+1)) rest)){t:List Nat}{l:List (List Nat)}(w:tJ n t l)(d:Z' t=k):tJ n (x::t) (l.map (x::·)++rest):=by
 induction w with
 |@last s h=>
  rcases i with⟨e,rfl⟩|⟨e,h2⟩
  ·exact .last (by rw[sI,h];simp only;rw[aI (by rw[d];exact e)])
  ·exact .step (by rw[sI,h];simp only;rw[aD (by rw[d];exact e),d]) h2
 |@step s t l h _ p=>exact .step (by rw[sI,h]) (p (by rw[Tc h,d]))
theorem ku(n:Nat):∀(k a:Nat),a+k<=n->tJ n (bmR a k) (dT n k a)
 |0,a,_=>.last rfl
 |k+1,a,h=>by
  rw[dT];obtain⟨m,e⟩:∃m,n-k-a=m+1:=⟨n-k-a-1,by omega⟩;rw[e];clear h
  induction m generalizing a with
  |zero =>have:=tJ.map (n:=n) (x:=a) (k:=k) (rest:=[]) (.inl ⟨by omega,rfl⟩) (ku n k (a+1) Om) List.length_range';rw[List.range'_succ (n:=0),List.flatMap_cons];exact this
  |succ m i =>rw[List.range'_succ (n:=m+1),List.flatMap_cons];have d:=i (a+1) Om;exact tJ.map (.inr ⟨by omega,d⟩) (ku n k (a+1) Om) List.length_range'
theorem WL{n:Nat}:∀{s:List Nat},(∀i (h:i<Z' s),s[i]+Z' s=n+i)->sI n s=none
 |[],_=>rfl
 |x::t,h=>by rw[sI,WL (s:=t) λi hi=>by have:=h (i+1) (by simpa using hi);simp only[List.getElem_cons_succ,bmB]at this;omega];have d:=h 0 bH;simp only[List.getElem_cons_zero,bmB]at d;simp only;rw[aI Om]
theorem akR{n:Nat}:∀{s:List Nat}(i:Nat)(hi:i<Z' s),(∀j (h:j<Z' s),i<j->s[j]+Z' s=n+j)->s[i]+Z' s≠n+i->sI n s=some (s.take i++bmR (s[i]+1) (Z' s-i))
 |[],i,hi,_,_=>by cases hi
 |x::t,0,_,h,d=>by rw[sI,WL (s:=t) λi hi=>by have:=h (i+1) (by simpa using hi) Om;simp only[List.getElem_cons_succ,bmB]at this;omega];simp only[List.getElem_cons_zero,bmB]at d ⊢;rw[aD Om];rfl
 |x::t,i+1,hi,h,d=>by
  have e:i<Z' t:=by simpa using hi
  simp only[List.getElem_cons_succ,bmB]at d;rw[sI,akR (s:=t) i e (λj p l=>by have:=h (j+1) (by simpa using p) Om;simp only[List.getElem_cons_succ,bmB]at this;omega) Om];simp only[List.getElem_cons_succ,bmB,List.take_succ_cons,List.cons_append];rw[show t.length+1-(i+1)=Z' t-i by omega]
theorem qP(n:Nat):∀(k a:Nat),∀s∈dT n k a,Z' s=k/\(∀x∈s,a<=x/\x<n)/\s.Pairwise (· < ·)
 |0,a,s,h=>by rw[dT,bmF]at h;subst h;exact⟨rfl,(λx hx=>by cases hx),.nil⟩
 |k+1,a,s,h=>by
  rw[dT,List.mem_flatMap]at h;obtain⟨i,hi,h⟩:=h;rw[blF]at h;obtain⟨t,p,rfl⟩:=h;rw[List.mem_range'_1]at hi;obtain⟨e,d,l⟩:=qP n k (i+1) t p;refine⟨by simp[e],λx hx=>?_,List.pairwise_cons.2 ⟨λy u=>by have:=(d y u).1;omega,l⟩⟩;rcases bkX.1 hx with rfl|hx
  ·omega
  ·have:=d x hx;omega
theorem vY(n:Nat):∀(k a:Nat),(dT n k a).length<=2^(n-a)
 |0,a=>by rw[dT];exact Nat.one_le_two_pow
 |k+1,a=>by
  rw[dT];have d:∀(m a:Nat),m+a<=n->((bmR a m).flatMap λi=>(dT n k (i+1)).map (i::·)).length+2^(n-a-m)<=2^(n-a):=by
   intro m
   induction m with
   |zero=>intro a _;simp
   |succ m e=>
    intro a h;rw[List.range'_succ,List.flatMap_cons,bkQ,bkG];have l:=vY n k (a+1);have p:=e (a+1) Om;rw[show n-a-(m+1)=n-(a+1)-m by omega];have u:2^(n-a)=2^(n-(a+1))+2^(n-(a+1)):=by rw[show n-a=(n-(a+1))+1 by omega,bmM];omega
    omega
  rcases blI n a with h|h
  ·rw[show n-k-a=0 by omega];simp
  ·exact blH (Nat.le_add_right _ _) (d (n-k-a) a Om)
def lN(f:aE)(p:cJ)(set:List Int):Bool:=(bkH f.biY.length).all λi=>!(decide (fS f p i>0)&&decide (jB f set i>fS f p i))
def rH(f:aE)(p:cJ)(d:Int):Bool:=p.biW.contains ((mdl f d.toNat:Nat):Int)
def sA(f:aE)(p:cJ)(set:List Int):Bool:=set.all (rH f p)&&lN f p set
def lz(set:List Int)(top:Int)(i:Nat):Bool:=(decide (0<=set.getD i 0)&&decide (set.getD i 0<top))&&(decide (i=0)||decide (set.getD (i-1) 0<set.getD i 0))
def cd(set:List Int)(n top:Int):Bool:=decide ((Z' set:Int)=n)&&(bkH set.length).all (lz set top)
def dS(f:aE)(bjH:Int):cJ:=f.biZ.getD bjH.toNat a2Q
def jE(p:cJ):Int:=p.k+p.m
def kY(f:aE)(bjH:Int):Bool:=cQ f&&(decide (0<=bjH)&&decide (bjH<Z' f.biZ))
def aVJ(f:aE)(bjH:Int)(set:List Int):Bool:=kY f bjH&&(cd set (jE (dS f bjH)) f.biV.length&&sA f (dS f bjH) set)
def cA(s:List Nat):List Int:=s.map λ(x:Nat)=>(x:Int)
def gP(f:aE)(p:cJ):List (List Int):=((dT f.biV.length (jE p).toNat 0).map cA).filter (sA f p)
def iV(f:aE)(level:Int):List (List Int):=
 if level=5 then(bkH f.biV.length).map λ(d:Nat)=>[(d:Int)]
 else((bkH f.biY.length).filter λi=>decide (lvl f i=level)).map λi=>cA ((bkH f.biV.length).filter λd=>decide (dQ f d level=i))
def eQ(m:Int):Nat->Int
 |0=>1
 |i+1=>bmX (eQ m i*(m-i)) (i+1)
def mU(u:List (List Int))(s:List Nat)(d:Nat):Bool:=s.any λi=>(u.getD i []).contains (d:Int)
def tV(f:aE)(u:List (List Int))(count:Nat):List (List Int):=(dT u.length count 0).map λs=>cA ((bkH f.biV.length).filter (mU u s))
def mO(s set:List Int):Nat:=set.countP λd=>s.contains d
def lG(sc:List (List Int))(set:List Int)(m:Int):Nat:=sc.countP λs=>decide (((mO s set:Nat):Int)>m)
theorem Pm:∀{s t:List Int},s.Nodup->t.Nodup->mO s t=mO t s
 |[],t,_,_=>by simp[mO]
 |d::s,t,u,w=>by
  obtain⟨B,E⟩:=List.nodup_cons.1 u;have l:=Pm E w;unfold mO at l ⊢;rw[List.countP_cons,<-l];clear l u
  induction t with
  |nil=>simp
  |cons x t p=>
   obtain⟨k1,k2⟩:=List.nodup_cons.1 w;have:=p k2;rw[List.countP_cons,List.countP_cons,this];by_cases e:x=d
   ·subst e;have i:(x::s).contains x=true:=by simp
    have e2:s.contains x=false:=by simpa using B
    have y:t.contains x=false:=by simpa using k1
    have A:(x::t).contains x=true:=by simp
    simp only[i,e2,y,A]
   ·have i:(d::s).contains x=s.contains x:=by simp[e]
    have e2:(x::t).contains d=t.contains d:=by have:¬d=x:=λh=>e h.symm;simp[this]
    rw[i,e2];omega
def fR(set:List Int)(d:Int):Nat:=(set.takeWhile λx=>decide (x<d)).length
theorem Oo(set:List Int)(d:Int):fR set d<=Z' set:=(List.takeWhile_prefix _).length_le
theorem YE(set:List Int)(d:Int){i:Nat}(h:i<fR set d):set[i]'(Nat.lt_of_lt_of_le h (Oo set d))<d:=by
 have hp:=List.takeWhile_prefix (p:=λx=>decide (x<d)) (l:=set);have u:(set.takeWhile λx=>decide (x<d))[i]∈set.takeWhile λx=>decide (x<d):=bkK h;have w:=List.all_takeWhile (p:=λx=>decide (x<d)) (l:=set);have e:=bkS.1 w _ u;rw[hp.getElem h]at e;exact of_decide_eq_true e
theorem aDQ(set:List Int)(d:Int)(h:fR set d<Z' set):¬set[fR set d]<d:=by
 induction set with
 |nil=>simp at h
 |cons x t i=>
  by_cases c:x<d
  ·have e:fR (x::t) d=fR t d+1:=by simp[fR,List.takeWhile_cons,c]
   simp only[e,List.getElem_cons_succ];exact i (by rw[e]at h;simpa using h)
  ·have e:fR (x::t) d=0:=by simp[fR,List.takeWhile_cons,c]
   simp only[e,List.getElem_cons_zero];exact c
theorem a0M{set:List Int}(u:set.Pairwise (· < ·))(d:Int):set.contains d=(decide (fR set d<Z' set)&&decide (set.getD (fR set d) 0=d)):=by
 by_cases h:fR set d<Z' set
 ·have w:=aDQ set d h;rw[aV h,bkR,blB,bkT h,bnG];by_cases e:set[fR set d]=d
  ·rw[aV e];simp only[List.contains_iff_mem];exact e ▸ bkK h
  ·rw[bC e];simp only[Bool.eq_false_iff,ne_eq,List.contains_iff_mem];intro p;obtain⟨i,hi,l⟩:=blZ p;rcases Nat.lt_trichotomy i (fR set d)with c|c|c
   ·have:=YE set d c;omega
   ·subst c;exact e l
   ·have:=List.pairwise_iff_getElem.1 u _ _ h hi c;omega
 ·rw[bC h,bkP];simp only[Bool.eq_false_iff,ne_eq,List.contains_iff_mem];intro p;obtain⟨i,hi,l⟩:=blZ p;have:=YE set d (i:=i) Om;omega
theorem aTD(set:List Int){d e:Int}(h:d<=e):fR set d<=fR set e:=by
 induction set with
 |nil=>simp[fR]
 |cons x t l=>
  by_cases c:x<d
  ·have i:x<e:=Om;simp only[fR,List.takeWhile_cons,c,i,decide_true,if_true,bmB]at l ⊢;omega
  ·simp[fR,List.takeWhile_cons,c]
theorem ajV(a b:List Nat):cA (a++b)=cA a++cA b:=blK
theorem fZ(a:List Nat):(cA a).length=Z' a:=bkG _
theorem CU{a:List Nat}{i:Nat}(h:i<Z' a):(bF (cA a))[i]?=some [PV.int .i64 (a[i]:Nat)]:=by
 unfold bF cA;rw[blC,blC,bkT h];rfl
theorem yb(a:List Nat)(i x:Nat):(bF (cA a)).set i [PV.int .i64 (x:Nat)]=bF (cA (a.set i x)):=by
 unfold bF cA;rw[List.map_set,List.map_set]
theorem aTK{top n:Nat}(h:top<n):dT top n 0=[]:=by
 cases n with
 |zero=>omega
 |succ n =>rw[dT,show top-n-0=0 by omega];rfl
theorem tJ.head{n:Nat}{s:List Nat}{l:List (List Nat)}(h:tJ n s l):∃r,l=s::r:=by
 cases h with
 |last=>exact⟨_,rfl⟩
 |step=>exact⟨_,rfl⟩
def uT(n i:Nat):List Nat:=bmR 0 i++bkM (n-i) 0
theorem aJK(n:Nat):uT n 0=bkM n 0:=by unfold uT;simp
theorem aPW{n i:Nat}(h:i<=n):(uT n i).length=n:=by unfold uT;simp;omega
theorem aJJ(n:Nat):uT n n=bmR 0 n:=by unfold uT;simp
theorem aPX{n i:Nat}(h:i<n):(uT n i).set i i=uT n (i+1):=by
 unfold uT;obtain⟨m,d⟩:∃m,n-i=m+1:=⟨n-i-1,by omega⟩;rw[d,List.replicate_succ,bnJ _ _ bH,List.length_range',bnF,boF,show n-(i+1)=m by omega,List.range'_concat];simp
def onU(s:List Nat)(j y m:Nat):List Nat:=s.take j++bmR y (m-j)++s.drop m
theorem aCP{s:List Nat}{j y m:Nat}(d:j<=m)(e:m<=Z' s):(onU s j y m).length=Z' s:=by
 unfold onU;simp;omega
theorem a6H{s:List Nat}{j y:Nat}(h:j<Z' s):s.set j y=onU s j y (j+1):=by
 unfold onU;rw[List.set_eq_take_append_cons_drop,aI h,show j+1-j=1 by omega];simp
theorem aZM{s:List Nat}{j y m:Nat}(i:j<m)(e:m<=Z' s):∃h,(onU s j y m)[m-1]'h=y+(m-1-j):=by
 refine⟨by rw[aCP Om e];omega,?_⟩;unfold onU;have d:(s.take j).length=j:=by rw[bkY];omega
 rw[List.getElem_append_left (by simp;omega),boQ Om];simp[d]
theorem a6I{s:List Nat}{j y m:Nat}(i:j<=m)(e:m<Z' s):(onU s j y m).set m (y+(m-j))=onU s j y (m+1):=by
 unfold onU;have d:(s.take j++bmR y (m-j)).length=m:=by simp;omega
 rw[bnJ _ _ Om,d,bnF,bmP e,boF,show m+1-j=(m-j)+1 by omega,List.range'_concat];simp
theorem aZL{s:List Nat}{j y:Nat}:onU s j y s.length=s.take j++bmR y (Z' s-j):=by
 unfold onU;simp
theorem a3N{K:cH}[Up K]{n o1 o2 q:Nat}{y:PV}{F:PF}{H:PH}(J:n<=1000)(A:H q=some (.rows 1 (bF (cA (uT n 0)))))(w:(((((((n_.set 0 (y)).set 1 (.ptr o1 1 0 0)).set 2 (.ptr o2 1 0 0)).set 4 (.osl q 1 0 n)).set 14 (.int .i64 n)).set 15 (.int .i64 0))).le F)
  (x:K (.exit 0) (((((n_.set 0 (y)).set 1 (.ptr o1 1 0 0)).set 2 (.ptr o2 1 0 0)).set 4 (.osl q 1 0 n))) (H.set q (.rows 1 (bF (cA (bmR 0 n)))))):aC.wp C (.loop dg) K F H:=by
 refine wp_loop (α:=Nat × PH) (λs=>((((((n_.set 0 (y)).set 1 (.ptr o1 1 0 0)).set 2 (.ptr o2 1 0 0)).set 4 (.osl q 1 0 n)).set 14 (.int .i64 n)).set 15 (.int .i64 s.1))) (λs=>s.2) (λs=>s.1<=n/\s.2=H.set q (.rows 1 (bF (cA (uT n s.1))))) (λs=>n-s.1) (0,H) ⟨bkL _,?_⟩ w b_ ?_
 ·refine PH.ext λo=>?_;show H o=(H.set q _) o;rw[bD];split
  ·rename_i e;rw[e,A]
  ·rfl
 rintro⟨i,B⟩ ⟨hi,u⟩;simp only at hi u;subst u;simp only[go_sem,dg,Rf];by_cases hlt:i<n
 ·have d:(i:Int)<(n:Nat):=Om;have E:=aPW hi;have l:=CU (a:=uT n i) (i:=i) Om;have p:i<(bF (cA (uT n i))).length:=by rw[dK,fZ];omega
  simp only[go_sem,d,Rh,Ri,l,p,blG,yb,aPX hlt,Rj,wZz i];exact aG (i+1,_) ⟨hlt,rfl⟩ (by simp only;omega) Lq b_
 ·have d:¬(i:Int)<(n:Nat):=Om;have:i=n:=Om;subst this;rw[aJJ];simp only[go_sem,d];exact Up.up Lq x
def cyF(y:PV)(o1 o2 q n:Nat):PF:=((((n_.set 0 (y)).set 1 (.ptr o1 1 0 0)).set 2 (.ptr o2 1 0 0)).set 4 (.osl q 1 0 n))
theorem aPM{K:cH}[Up K]{n top o1 o2 q:Nat}{y:PV}{s:List Nat}(V:Z' s=n)(U:n<=1000)(W:top<=1000)(Q:n<=top){F:PF}{H:PH}(b1:H o1=some (.rows 1 [[.int .i64 n]]))(b2:H o2=some (.rows 1 [[.int .i64 top]]))(E:H q=some (.rows 1 (bF (cA s))))
  (O:((cyF y o1 o2 q n).set 6 (.int .i64 ((n:Int)-1))).le F)
  (A:∀m,m<=n->(∀i (h:i<Z' s),m<=i->s[i]+n=top+i)->(0<m->∀(h:m-1<Z' s),s[m-1]+n≠top+(m-1))->K (.exit 4) ((cyF y o1 o2 q n).set 6 (.int .i64 ((m:Int)-1))) H):aC.wp C (.loop GG) K F H:=by
 refine wp_loop (α:=Nat) (λm=>(cyF y o1 o2 q n).set 6 (.int .i64 ((m:Int)-1))) (λ_=>H) (λm=>m<=n/\∀i (h:i<Z' s),m<=i->s[i]+n=top+i) (λm=>m) n ⟨bkN _,λi h S=>by omega⟩ O b_ ?_;rintro m ⟨B,d⟩;rw[show GG=(.seq (.seq (.draw AH) (.cond (.tmp 42) .skip (.exit 4))) (.block 5 (.region TT)))from rfl];simp only[go_sem];refine bP .nil eJ a_ ?_;by_cases N:m=0
 ·subst N;simp only[go_sem,AH,cyF,show ¬((0:Nat):Int)-1>=0 by omega];refine Up.up ?_ (A 0 B d (λh=>by omega));unfold cyF;exact Lq
 ·obtain⟨k,rfl⟩:∃k,m=k+1:=⟨m-1,by omega⟩;have w:(((k+1:Nat):Int)-1)=(k:Int):=Om;have x:k<Z' s:=Om;have p:=CU x;have u:k<(bF (cA s)).length:=by rw[dK,fZ];omega
  have J:i_.wrap ((top:Int)-(n:Int))=(top:Int)-n:=wrap_i64 Om Om;have M:i_.wrap ((top:Int)-(n:Int)+(k:Int))=(top:Int)-n+k:=wrap_i64 Om Om;have l:(k:Int)<(n:Nat):=Om;by_cases c:s[k]+n=top+k
  ·simp only[go_sem,AH,cyF,w,show(k:Int)>=0 by omega,E,p,u,l,b1,b2,blG,J,M,bW (Om:((s[k]:Nat):Int)=(top:Int)-n+k),TT];have R:i_.wrap ((k:Int)-1)=(k:Int)-1:=wrap_i64 Om Om;refine aG k ⟨by omega,λi h hi=>?_⟩ Om (by(repeat' (first|exact c_|refine d_ ?_ ?_))<;>first|(simp only[go_sem,R]<;>rfl)|rfl) b_;by_cases e:i=k
   ·subst e;exact c
   ·exact d i h Om
  ·simp only[go_sem,AH,cyF,w,show(k:Int)>=0 by omega,E,p,u,l,b1,b2,blG,J,M,bL (Om:((s[k]:Nat):Int)≠(top:Int)-n+k)];refine Up.up ?_ (A (k+1) B d (λ_ h=>c));unfold cyF
   (repeat' (first|exact c_|refine d_ ?_ ?_))<;>first|(simp only[go_sem,w]<;>rfl)|rfl
theorem a3O{K:cH}[Up K]{n o1 o2 q j x:Nat}{y:PV}{s:List Nat}(V:Z' s=n)(hn:n<=1000)(hx:x<=1000000)(S:j<n){F:PF}{H:PH}(b1:H o1=some (.rows 1 [[.int .i64 n]]))(M:¬o1=q)(U:H q=some (.rows 1 (bF (cA (onU s j x (j+1))))))
  (O:((cyF y o1 o2 q n).set 7 (.int .i64 (j+1:Nat))).le F)
  (Q:K (.exit 6) (cyF y o1 o2 q n) (H.set q (.rows 1 (bF (cA (s.take j++bmR x (n-j))))))):aC.wp C (.loop GH) K F H:=by
 refine wp_loop (α:=Nat × PH) (λm=>(cyF y o1 o2 q n).set 7 (.int .i64 m.1)) (λm=>m.2) (λm=>j+1<=m.1/\m.1<=n/\m.2=H.set q (.rows 1 (bF (cA (onU s j x m.1))))) (λm=>n-m.1) (j+1,H) ⟨bkN _,S,?_⟩ O b_ ?_
 ·refine PH.ext λo=>?_;show H o=(H.set q _) o;rw[bD];split
  ·rename_i e;rw[e,U]
  ·rfl
 rintro⟨m,Y⟩ ⟨B,E,N⟩;simp only at B E N;subst N;have w:¬q=o1:=λe=>M e.symm;rw[show GH=(.seq (.seq (.region GJ) (.cond (.tmp 57) .skip (.exit 6))) (.seq (.block 7 (.region TW)) (.region TX)))from rfl];by_cases hlt:m<n
 ·have d:(m:Int)<(n:Nat):=Om;obtain⟨hp,R⟩:=aZM (s:=s) (j:=j) (y:=x) (m:=m) Om Om;have i:=CU hp;rw[R]at i;have Z:=aCP (s:=s) (j:=j) (y:=x) (m:=m) Om Om;have A:m-1<(bF (cA (onU s j x m))).length:=by rw[dK,fZ];omega
  have p:m<(bF (cA (onU s j x m))).length:=by rw[dK,fZ];omega
  have l:(bF (cA (onU s j x m)))[m]?=some [PV.int .i64 ((onU s j x m)[m]'Om:Nat)]:=CU Om;have W:i_.wrap ((m:Int)-1)=((m-1:Nat):Int):=by rw[wrap_i64 Om Om];omega
  have X:i_.wrap (((x+(m-1-j):Nat):Int)+1)=((x+(m-j):Nat):Int):=by rw[wrap_i64 Om Om];omega
  have u:((m-1:Nat):Int)<(n:Nat):=Om;have J:=a6I (s:=s) (j:=j) (y:=x) (m:=m) Om Om;simp only[go_sem,GJ,cyF,b1,M,w,d,TW,W,u,i,A,blG,X,l,p,yb,J,TX,wZz m];refine aG (m+1,_) ⟨by simp only;omega,hlt,rfl⟩ (by simp only;omega) Lq b_
 ·have d:¬(m:Int)<(n:Nat):=Om;have:m=n:=Om;subst this;have e:=aZL (s:=s) (j:=j) (y:=x);rw[V]at e;rw[e];simp only[go_sem,GJ,cyF,b1,M,w,d];refine Up.up ?_ Q;unfold cyF;exact Lq
theorem tJ.done{n:Nat}{s:List Nat}{l:List (List Nat)}(h:tJ n s l)(e:sI n s=none):l=[s]:=by
 cases h with
 |last=>rfl
 |step d=>rw[e]at d;cases d
theorem tJ.next{n:Nat}{s t:List Nat}{l:List (List Nat)}(h:tJ n s l)(e:sI n s=some t):∃r,l=s::r/\tJ n t r:=by
 cases h with
 |last d=>rw[e]at d;cases d
 |step d w=>rw[e]at d;cases d;exact⟨_,rfl,w⟩
structure aVC(J:Nat->PH->Prop)(ss:List (List Nat))(top n o1 o2 q k:Nat)(s:List Nat)(G H:PH):Prop where
 lt:k<Z' ss
 walk:tJ top s (ss.drop k)
 len:Z' s=n
 rng:∀x∈s,x<top
 j:J k G
 le:G.le H
 g1:G o1=none
 g2:G o2=none
 gq:G q=none
 b1:H o1=some (.rows 1 [[.int .i64 n]])
 b2:H o2=some (.rows 1 [[.int .i64 top]])
 bq:H q=some (.rows 1 (bF (cA s)))
theorem aVW{l o1 o2 n top:Nat}(J:Nat->PH->Prop)(d:List (List Nat))(R:d=dT top n 0)(h1:1<=n)(hn:n<=1000)(ht:top<=1000)
  (hY:∀k (hk:k<Z' d) G c,J k G->G c=none->RL C l [.osl c 1 0 n] (G.set c (.rows 1 (bF (cA d[k])))) (λr H'=>r=.bool true/\J (k+1) H'))
  {M H:PH} (V:J 0 M) (p:M.le H) (b1:H o1=some (.rows 1 [[.int .i64 n]])) (b2:H o2=some (.rows 1 [[.int .i64 top]])) (g1:M o1=none) (g2:M o2=none) :
  OH.wp C (aX acL.res (λ_ H'=>∃G,J d.length G/\G.le H')) (g_ [FG l,.ptr o1 1 0 0,.ptr o2 1 0 0]) H:=by
 simp only[go_sem,OH,Rb,acL,b1,b2];by_cases c:n>top
 ·have:d=[]:=by rw[R];exact aTK c
  subst this;simp only[go_sem,show(n:Int)>(top:Nat) by omega];exact bG (vs:=[]) (.inr rfl) M rfl p ⟨M,V,b_⟩
 simp only[go_sem,show ¬(n:Int)>(top:Nat) by omega,Rc,b1,show(0:Int)<=n by omega,Int.le_refl,show(n:Int)*((8:Nat):Int)<=140737488355328 by omega,show(n:Int)<=9223372036854775807 by omega,bmI];refine aP λq Q=>?_;obtain⟨a1,τ⟩:¬o1=q/\¬q=o1:=⟨(λe=>by rw[e,Q]at b1;cases b1),λe=>by rw[<-e,Q]at b1;cases b1⟩;obtain⟨a2,υ⟩:¬o2=q/\¬q=o2:=⟨(λe=>by rw[e,Q]at b2;cases b2),λe=>by rw[<-e,Q]at b2;cases b2⟩;have ez:bkM n [PV.int .i64 0]=bF (cA (uT n 0)):=by rw[aJK];unfold bF cA;rw[List.map_replicate,List.map_replicate];rfl
 rw[ez];simp only[go_sem,Re];refine a3N (n:=n) (o1:=o1) (o2:=o2) (q:=q) (y:=FG l) hn (by rw[cW]) Lq ?_;rw[PH.set_set];have Y:M q=none:=by
  cases h:M q with
  |none=>rfl
  |some x=>rw[p q x h]at Q;cases Q
 have hw:=ku top n 0 Om;rw[<-R]at hw;obtain⟨r0,δ⟩:=hw.head;have N:=qP top n 0;rw[<-R]at N;simp only[go_sem];refine wp_loop (α:=Nat × List Nat × PH × PH) (λ_=>cyF (FG l) o1 o2 q n) (λx=>x.2.2.2) (λx=>aVC J d top n o1 o2 q x.1 x.2.1 x.2.2.1 x.2.2.2) (λx=>Z' d-x.1) (0,bmR 0 n,M,H.set q (.rows 1 (bF (cA (bmR 0 n))))) ?_ (by unfold cyF;exact Lq) b_ ?_
 ·exact⟨(by simp only;rw[δ];simp),hw,List.length_range',(λx hx=>by rw[List.mem_range'_1]at hx;omega),V,PH.le_trans p (PH.fj _ Q),g1,g2,Y,(by simp only;rw[bD,aD a1];exact b1),(by simp only;rw[bD,aD a2];exact b2),(by simp only;rw[cW])⟩
 clear b1 b2 g1 g2 Y Q p V hw δ ez;rintro⟨k,s,G,H⟩ A;have A:aVC J d top n o1 o2 q k s G H:=A;obtain⟨hlt,U,w,ε,V,p,g1,g2,gq,b1,b2,bq⟩:=A;have B:d.drop k=d[k]::d.drop (k+1):=bmP hlt;have ρ:d[k]=s:=by obtain⟨r,F⟩:=U.head;rw[B]at F;injection F
 have S:eD H 1 (.osl q 1 0 n)=some (bF (cA s)):=by
  have:=(show cG H 1 (.osl q 1 0 (bF (cA s)).length) (bF (cA s))from .inr ⟨q,_,rfl,bq,bkN _,blE⟩).view
  rwa[dK,fZ,w]at this
 rw[show Do=(.seq (.seq (.region dh) (.cond (.tmp 26) .skip (.exit 2))) (.block 3 (.seq (.region di) (.seq (.block 4 (.loop GG)) (.seq (.seq (.region GI) (.cond (.tmp 46) .ret .skip)) (.seq (.region TU) (.seq (.region TV) (.block 6 (.loop GH)))))))))from rfl];simp only[go_sem,dh,cyF];refine BW S (by unfold roomFor;rw[dK,fZ];simp only[maxLen];omega) (λh=>?_) λ_ c hc=>?_
 ·have:=congrArg List.length h;rw[dK,fZ,w]at this;simp at this;omega
 rw[dK,fZ,w];have η:G c=none:=by
  cases h:G c with
  |none=>rfl
  |some x=>rw[p c x h]at hc;cases hc
 have hy:=hY k hlt G c V η;rw[ρ]at hy;have ne:∀{b:Nat}{x:bA},H b=some x->¬b=c:=λhb e=>by rw[e,hc]at hb;cases hb
 refine⟨l,rfl,.inl ⟨_,G.set c (.rows 1 (bF (cA s))),_,Ev,?_,hy,?_⟩⟩
 ·intro o x K;rw[bD]at K ⊢;split at K
  ·rename_i e;rw[aI e];exact K
  ·rename_i e;rw[aD e];exact p o x K
 rintro _ H' ⟨rfl,W⟩ θ;have keep:∀{b:Nat}{x:bA},H b=some x->G b=none->H' b=none/\((H.set c (.rows 1 (bF (cA s)))).over (G.set c (.rows 1 (bF (cA s)))) H') b=some x:=λ{b}{x} hb hg=>by
  have e:=ne hb;have h':H' b=none:=by
   cases h:H' b with
   |none=>rfl
   |some y =>have:=θ b y h (by rw[bD,aD e];exact hg);rw[bD,aD e,hb]at this;cases this
  refine⟨h',?_⟩;rw[lM,h'];simp only[bD,aD e,hg,hb]
 obtain⟨k1,d1⟩:=keep b1 g1;obtain⟨k2,d2⟩:=keep b2 g2;obtain⟨kq,dq⟩:=keep bq gq;have O:H'.le ((H.set c (.rows 1 (bF (cA s)))).over (G.set c (.rows 1 (bF (cA s)))) H'):=λo x K=>by rw[lM,K]
 generalize(H.set c (.rows 1 (bF (cA s)))).over (G.set c (.rows 1 (bF (cA s)))) H'=H2 at *
 have w1:i_.wrap ((n:Int)-1)=(n:Int)-1:=wrap_i64 Om Om;simp only[go_sem,di,d1,w1];refine aPM (n:=n) (top:=top) (o1:=o1) (o2:=o2) (q:=q) (y:=FG l) (s:=s) w hn ht Om d1 d2 dq (by unfold cyF;exact Lq) λm hm E Z=>?_;by_cases m0:m=0
 ·subst m0;have ξ:sI top s=none:=WL λi hi=>by have:=E i hi (bkL _);omega
  have X:k+1=Z' d:=by have:=congrArg List.length (U.done ξ);rw[bmQ,bkV]at this;omega
  simp only[go_sem,cyF,GI,show((0:Nat):Int)-1<0 by omega];exact bG (vs:=[]) (.inr rfl) H' rfl O ⟨H',by rw[<-X];exact W,b_⟩
 ·obtain⟨j,rfl⟩:∃j,m=j+1:=⟨m-1,by omega⟩;have u:j<Z' s:=Om;have ν:(j:Int)<(n:Nat):=Om;have e0:(((j+1:Nat):Int)-1)=(j:Int):=Om;have β:=akR (n:=top) (s:=s) j u (λi hi μ=>by have:=E i hi μ;omega) (by have:=Z (Nat.succ_pos _) u;simp only[Nat.add_sub_cancel]at this;omega);rw[w]at β;have φ:=ε s[j] (bkK u);have ι:=CU u;have κ:j<(bF (cA s)).length:=by rw[dK,fZ];exact u
  have w2:i_.wrap (((s[j]:Nat):Int)+1)=((s[j]+1:Nat):Int):=eM Om;have γ:=a6H (s:=s) (j:=j) (y:=s[j]+1) u;simp only[go_sem,cyF,GI,e0,show ¬(j:Int)<0 by omega,TU,dq,ι,κ,ν,blG,w2,yb,γ,TV,wZz j];refine a3O (n:=n) (o1:=o1) (o2:=o2) (q:=q) (j:=j) (x:=s[j]+1) (y:=FG l) (s:=s) w hn Om Om (by rw[bD,aD a1];exact d1) a1 (by rw[cW]) (by unfold cyF;exact Lq) ?_;rw[PH.set_set];have bjR:k+1<Z' d/\tJ top (s.take j++bmR (s[j]+1) (n-j)) (d.drop (k+1)):=by
   obtain⟨r,F,ζ⟩:=U.next β;rw[B]at F;injection F with _ F
   rw[F];refine⟨?_,ζ⟩;obtain⟨r2,ο⟩:=ζ.head;have:=congrArg List.length F;rw[ο,bmQ,bmB]at this;omega
  have σ:aVC J d top n o1 o2 q (k+1) (s.take j++bmR (s[j]+1) (n-j)) H' (H2.set q (.rows 1 (bF (cA (s.take j++bmR (s[j]+1) (n-j)))))):={
      lt:=bjR.1
      walk:=bjR.2
      len:=by simp;omega
      rng:=λx hx=>by
       have h2:=N (d[k+1]'bjR.1) (bkK _);have h3:d[k+1]'bjR.1=s.take j++bmR (s[j]+1) (n-j):=by obtain⟨r,F⟩:=bjR.2.head;rw[bmP bjR.1]at F;injection F
       rw[h3]at h2;exact(h2.2.1 x hx).2
      j:=W
      le:=λo x K=>by
       have:¬o=q:=λe=>by rw[e,kq]at K;cases K
       rw[bD,aD this];exact O o x K
      g1:=k1,g2:=k2,gq:=kq
      b1:=by rw[bD,aD a1];exact d1
      b2:=by rw[bD,aD a2];exact d2
      bq:=by rw[cW] }
  simp only[go_sem,cyF];exact aG (k+1,s.take j++bmR (s[j]+1) (n-j),H',H2.set q (.rows 1 (bF (cA (s.take j++bmR (s[j]+1) (n-j)))))) σ (by simp only;omega) Lq b_
def rB(f:aE)(p:cJ)(xs:List Int)(i:Nat):Bool:=!(decide (fS f p i>0)&&decide (jB f xs i>fS f p i))
theorem BO(f:aE)(p:cJ)(xs:List Int):lN f p xs=(bkH f.biY.length).all (rB f p xs):=rfl
theorem aPN(f:aE)(xs ys:List Int)(i:Nat):jB f xs i<=jB f (xs++ys) i:=by
 unfold jB;rw[List.countP_append];split<;>omega
theorem aRU{f:aE}{p:cJ}{xs ys:List Int}{i:Nat}(h:rB f p xs i=false):rB f p (xs++ys) i=false:=by
 have:=aPN f xs ys i;unfold rB at h ⊢;simp only[Bool.not_eq_false',bkI,dT_]at h ⊢;omega
theorem YI{f:aE}{p:cJ}{xs:List Int}{i:Nat}(hi:i<Z' f.biY)(h:rB f p xs i=false):lN f p xs=false:=by
 rw[BO];simp only[List.all_eq_false,blN];exact⟨i,hi,by rw[h];simp⟩
theorem aoM{f:aE}{p:cJ}{xs ys:List Int}(h:lN f p xs=false):lN f p (xs++ys)=false:=by
 rw[BO]at h;simp only[List.all_eq_false,blN]at h;obtain⟨i,hi,h⟩:=h;exact YI hi (aRU (by simpa using h))
theorem auX(f:aE)(p:cJ):lN f p []=true:=by
 rw[BO];simp only[bkS,blN];intro i _;unfold rB jB;simp;omega
theorem Jk{f:aE}(hV:VF f){p:cJ}{xs:List Int}(h:∀i,i<Z' f.biY->0<lvl f i->rB f p xs i=true):lN f p xs=true:=by
 rw[BO];simp only[bkS,blN];intro i hi;have d:=hV.oV hi;by_cases e:i=0
 ·unfold rB jB;rw[aI e];simp;omega
 ·exact h i hi Om
theorem a6F{f:aE}{p:cJ}{xs:List Int}(h:lN f p xs=true){i:Nat}(hi:i<Z' f.biY):rB f p xs i=true:=by
 rw[BO]at h;exact bkS.1 h i (blN.2 hi)
theorem Wd(p:cJ)(t:List PV){n:Nat}(h:n<5):(if 1<=(List.drop n (PV.int .i64 p.s0::PV.int .i64 p.s1::PV.int .i64 p.s2::PV.int .i64 p.s3::PV.int .i64 p.s4::t)).length then some (List.take 1 (List.drop n (PV.int .i64 p.s0::PV.int .i64 p.s1::PV.int .i64 p.s2::PV.int .i64 p.s3::PV.int .i64 p.s4::t)))else none)=some [PV.int .i64 (p.spread n)]:=by
 have:n=0\/n=1\/n=2\/n=3\/n=4:=Om;rcases this with rfl|rfl|rfl|rfl|rfl<;>simp[cJ.spread]
def SZ(f:aE)(p:cJ)(d oD:Nat)(set:List Int)(k:Nat):PF:=(((((((n_.set 3 (.bO f.cells)).set 4 (.bO p.cells)).set 7 (.osl d 1 0 f.biW.length)).set 10 (.osl oD 1 0 f.biY.length)).set 34 (ints set)).set 35 (.int .i64 (Z' set:Nat))).set 36 (.int .i64 k))
def aII(f:aE)(p:cJ)(d oD:Nat)(set:List Int)(k:Nat)(at_:Nat):PF:=((((((((n_.set 3 (.bO f.cells)).set 4 (.bO p.cells)).set 7 (.osl d 1 0 f.biW.length)).set 10 (.osl oD 1 0 f.biY.length)).set 34 (ints set)).set 35 (.int .i64 (Z' set:Nat))).set 36 (.int .i64 k)).set 13 (.int .i64 at_))
theorem a3L{K:cH}[Up K](f:aE)(hV:VF f)(p:cJ)(oA oD:Nat)(set:List Int)(k:Nat)(xs:List Int)(η:Z' xs<=16777216)(γ:lN f p xs=true)(d:Nat)(hd:d<Z' f.biV){F:PF}{H:PH}
  (hF:(aII f p oA oD set k (eU f d)).le F) (hD:H oD=some (.rows 1 (bF (rJ f xs))))
  (hR:∀F' H',F' 6=some (.bool false)->lN f p (xs++[(d:Int)])=false->K .ret F' H')
  (hK:lN f p (xs++[(d:Int)])=true->K (.exit 4) (SZ f p oA oD set k) (H.set oD (.rows 1 (bF (rJ f (xs++[(d:Int)])))))) :
  aC.wp C (.loop vj) K F H:=by
 refine wp_loop (α:=Nat × PH) (λt=>aII f p oA oD set k (upN f t.1 (eU f d))) (λt=>t.2) (λt=>t.1<=4/\t.2=H.set oD (.rows 1 (bF (sD f xs d t.1)))/\∀i,i<Z' f.biY->4-(t.1:Int)<lvl f i->rB f p (xs++[(d:Int)]) i=true) (λt=>4-t.1) (0,H) ⟨bkL _,?_,?_⟩ (by rw[upN];exact hF) b_ ?_
 ·rw[aPP hV];refine PH.ext λo=>?_;show H o=(H.set oD _) o;rw[bD];split
  ·rename_i e;rw[e,hD]
  ·rfl
 ·intro i hi hl;have:=(hV.oV hi).2.1;simp only at hl;omega
 rintro⟨j,H0⟩ ⟨hj,hH,w⟩;simp only at hj hH w;subst hH;obtain⟨x,V⟩:=SP hV hd (k:=j) hj;simp only[go_sem,vj,aaO,aII];by_cases hlt:j<4
 ·have β:0<upN f j (eU f d):=by
   rcases bmZ (upN f j (eU f d))with e|e
   ·rw[e,hV.root.2.1]at V;omega
   ·exact e
  have W:((upN f j (eU f d):Nat):Int)>0:=Om;obtain⟨b1,b2⟩:=a3T hV xs hd hlt;have N:(bF (sD f xs d j))[upN f j (eU f d)]?=some [.int .i64 (jB f xs (upN f j (eU f d)))]:=by unfold bF;rw[blC,b1];rfl
  have ε:=a3S f xs (upN f j (eU f d));have hw:i_.wrap (jB f xs (upN f j (eU f d))+1)=jB f xs (upN f j (eU f d))+1:=wrap_i64 Om Om;have y:((upN f j (eU f d):Nat):Int)<(Z' f.biY:Nat):=Om;have Y:upN f j (eU f d)<(bF (sD f xs d j)).length:=by rw[dK,aWN];exact x
  have R:jB f (xs++[(d:Int)]) (upN f j (eU f d))=jB f xs (upN f j (eU f d))+1:=by rw[MG f xs d Om,dQ,V,show 4-(4-(j:Int)).toNat=j by omega,aI rfl]
  have l:rB f p (xs++[(d:Int)]) (upN f j (eU f d))=!(decide (fS f p (upN f j (eU f d))>0)&&decide (jB f xs (upN f j (eU f d))+1>fS f p (upN f j (eU f d)))):=by rw[rB,R]
  have bjR:rB f p (xs++[(d:Int)]) (upN f j (eU f d))=true->∀i,i<Z' f.biY->4-((j+1:Nat):Int)<lvl f i->rB f p (xs++[(d:Int)]) i=true:=by
   intro h i hi hl;by_cases e:i=upN f j (eU f d)
   ·rw[e];exact h
   ·by_cases c:4-(j:Int)<lvl f i
    ·exact w i hi c
    ·have Q:lvl f i=4-(j:Int):=Om;have X:i≠0:=by intro e;subst e;rw[hV.root.2.1]at Q;omega
     have J:jB f (xs++[(d:Int)]) i=jB f xs i:=by rw[MG f xs d X,dQ,Q,show 4-(4-(j:Int)).toNat=j by omega,aD (λh=>e h.symm)];simp
     have:=a6F γ hi;unfold rB at this ⊢;rw[J];exact this
  have O:rB f p (xs++[(d:Int)]) (upN f j (eU f d))=false->lN f p (xs++[(d:Int)])=false:=YI x;have Z:fS f p (upN f j (eU f d))=p.spread (4-(j:Int)).toNat:=by rw[fS,V]
  rw[Z]at l;have δ:=N;have E:(bF (sD f xs d j)).set (upN f j (eU f d)) [.int .i64 (jB f xs (upN f j (eU f d))+1)]=bF (sD f xs d (j+1)):=by rw[vI,b2]
  have A:(bF (sD f xs d (j+1)))[upN f j (eU f d)]?=some [.int .i64 (jB f xs (upN f j (eU f d))+1)]:=by rw[<-E,List.getElem?_set_self Y]
  have S:upN f (j+1) (eU f d)=XA f (upN f j (eU f d)):=rfl;have B:=hV.N2 β x;generalize ζ:upN f j (eU f d)=u at *
  generalize jB f xs u=dc at *
  have l0:(0:Int)<=4-(j:Int):=Om;have h5:4-(j:Int)<((5:Nat):Int):=Om;simp only[go_sem,W,aaP,y,blG,N,hw,E,aaQ,jJ x,AP x,V,l0,h5,Nat.mul_one];rw[Wd p _ (Om:(4-(j:Int)).toNat<5)];by_cases M:p.spread (4-(j:Int)).toNat>0
  ·by_cases U:dc+1>p.spread (4-(j:Int)).toNat
   ·simp only[go_sem,TB,M,U,y,A,blG,aaR];exact hR _ _ Sq (O (by rw[l,aV M,aV U];rfl))
   ·simp only[go_sem,TB,M,U,y,A,blG,vn,jJ x,Gy x,B];exact aG (j+1,_) ⟨hlt,rfl,bjR (by rw[l,bC U,blR];rfl)⟩ (by simp only;omega) (by(repeat' (first|exact c_|refine d_ ?_ ?_))<;>first|(simp only[go_sem,S]<;>rfl)|rfl) b_
  ·simp only[go_sem,TB,M,vn,y,blG,jJ x,Gy x,B];exact aG (j+1,_) ⟨hlt,rfl,bjR (by rw[l,bC M];rfl)⟩ (by simp only;omega) (by(repeat' (first|exact c_|refine d_ ?_ ?_))<;>first|(simp only[go_sem,S]<;>rfl)|rfl) b_
 ·have:j=4:=Om;subst this;have h0:upN f 4 (eU f d)=0:=by have:=hV.oV x;omega
  have W:¬((upN f 4 (eU f d):Nat):Int)>0:=Om;simp only[go_sem,W];rw[aPO hV];refine Up.up ?_ (hK (Jk hV λi hi h=>w i hi (by simpa using h)));unfold SZ;exact Lq
theorem aVI{f:aE}{p:cJ}{set:List Int}{d:Int}(e:d∈set)(h:rH f p d=false):sA f p set=false:=by
 unfold sA;have:set.all (rH f p)=false:=by simp only[List.all_eq_false];exact⟨d,e,by rw[h];simp⟩
 rw[this];rfl
theorem aVH{f:aE}{p:cJ}{set:List Int}{k:Nat}(h:lN f p (set.take k)=false):sA f p set=false:=by
 have:=aoM (ys:=set.drop k) h;rw[bnP]at this;unfold sA;rw[this,blR]
def aHU(f:aE)(set:List Int):Prop:=Z' set<=16777216/\∀x∈set,0<=x/\x<(Z' f.biV:Nat)
theorem aOY{K:cH}[Up K](f:aE)(hV:VF f)(p:cJ)(O oD:Nat)(hn:O≠oD)(set:List Int)(hs:aHU f set){F:PF}{H:PH}
  (Z:(SZ f p O oD set 0).le F) (N:H O=some (.rows 1 (eT (marks f.biW.length p.biW)))) (hD:H oD=some (.rows 1 (bF (rJ f []))))
  (W:∀Q H',Q 6=some (.bool false)->sA f p set=false->K .ret Q H')
  (hK:∀Q H',sA f p set=true->K (.exit 2) Q H') :
  aC.wp C (.loop JK) K F H:=by
 obtain⟨β,V⟩:=hs;refine wp_loop (α:=Nat × PH) (λt=>SZ f p O oD set t.1) (λt=>t.2) (λt=>t.1<=Z' set/\t.2 O=some (.rows 1 (eT (marks f.biW.length p.biW)))/\t.2 oD=some (.rows 1 (bF (rJ f (set.take t.1))))/\(set.take t.1).all (rH f p)=true/\lN f p (set.take t.1)=true) (λt=>Z' set-t.1) (0,H) ⟨bkL _,N,hD,rfl,auX f p⟩ Z b_ ?_;rintro⟨k,X⟩ ⟨hk,N,hD,i,B⟩;simp only at hk N hD i B;by_cases hlt:k<Z' set
 ·have u:(k:Int)<(Z' set:Nat):=Om;have U:(set.map λn=>[PV.int .i64 n])[k]?=some [.int .i64 set[k]]:=by simp[hlt]
  have E:set.take (k+1)=set.take k++[set[k]]:=blO hlt;have hx:=V set[k] (bkK hlt);have hm:=bkK hlt;generalize γ:set[k]=x at *
  obtain⟨d,rfl⟩:∃d:Nat,x=d:=⟨x.toNat,by omega⟩;have e:d<Z' f.biV:=Om;have J:(d:Int)<(Z' f.biV:Nat):=Om;obtain⟨w1,w2,w3,w4,w5⟩:=hV.drive d e;have M:((mdl f d:Nat):Int)<(Z' f.biW:Nat):=Om;have A:(eT (marks f.biW.length p.biW))[mdl f d]?=some [.bool (p.biW.contains ((mdl f d:Nat):Int))]:=by have:=KK (n:=Z' f.biW) (l:=p.biW) (m:=((mdl f d:Nat):Int)) Om M;rw[bmI]at this;unfold eT;rw[blC,this];rfl
  have w:rH f p (d:Int)=p.biW.contains ((mdl f d:Nat):Int):=by rw[rH,bmI]
  cases hb:p.biW.contains ((mdl f d:Nat):Int)with
  |false =>rw[hb]at A w;simp only[go_sem,JK,TA,SZ,u,vk,U,vm,rK e,J,hV.SC e,M,blG,N,A,bkW,aaM];exact W _ _ Sq (aVI hm w)
  |true=>
   rw[hb]at A w;simp only[go_sem,JK,TA,SZ,u,vk,U,vm,rK e,J,hV.SC e,M,blG,N,A,bkO,aaN,hV.M9 e];have up:=λ{K:cH} [Up K] {F:PF} {H:PH}=>a3L (C:=C) (K:=K) f hV p O oD set k (set.take k) (by rw[bkY];omega) B d e (F:=F) (H:=H);refine up (by unfold aII;exact Lq) hD ?_ ?_
   ·intro Q H' Y R;simp only[go_sem];exact W _ _ Y (aVH (k:=k+1) (by rw[E];exact R))
   ·intro S;simp only[go_sem,SZ,aaS,wZz k];refine aG (k+1,X.set oD (.rows 1 (bF (rJ f (set.take k++[(d:Int)]))))) ⟨hlt,?_,?_,?_,by rw[E];exact S⟩ (by simp only;omega) Lq b_
    ·simp only[bD,aD hn];exact N
    ·simp only[cW,E]
    ·rw[E];intro y hy;rcases blV.1 hy with h|h
     ·exact bkS.1 i y h
     ·rw[bmF.1 h];exact w
 ·have u:¬(k:Int)<(Z' set:Nat):=Om;have:k=Z' set:=Om;subst this;rw[blE]at i B;simp only[go_sem,JK,TA,SZ,u];exact hK _ _ (by rw[sA,i,B];rfl)

def bcW(down:List Int)(d:Int):Bool:=decide (0<=d)&&down.contains d
def bcX(down:List Int)(d:Int):Bool:=decide (0<=d)&&!down.contains d
def bgD(down row:List Int):Bool:=row.any (bcW down)
def a6L(down row:List Int):Nat:=row.countP (bcX down)
def baI(f:aE)(d:Int)(down:List Int)(v:Nat)(row:List Int):Bool:=bgD down row&&decide (((a6L down row:Nat):Int)<(XF f v).k+d)
def bcY(f:aE)(e:List (List Int))(d:Int)(down:List Int)(n:Nat):Bool:=(bkH n).all λv=>!baI f d down v (e.getD v [])
def Y8(f:aE)(e:List (List Int))(d:Int)(down:List Int):Bool:=bcY f e d down e.length


theorem dR{t:Nat}{b d:Bool}{F:PF}{H:PH}(h:F t=some (.bool b))(e:b=d):aX [.tmp t] (aF (.bool d)) .ret F H:=by
 subst e;exact bG (.inr rfl) .nil (vs:=[.bool b]) (by rw[pG,sZ,h,uK]) a_ ⟨rfl,rfl⟩
theorem a3K(f:aE)(hV:VF f)(p:cJ)(hp:∀m∈p.biW,0<=m/\m<Z' f.biW)(l:Fits p.biW)(set:List Int)(U:aHU f set) :
  cj.wp C (aX aVO.res (aF (.bool (sA f p set)))) (g_ [.agg f.cells,.agg p.cells,ints set]) .nil:=by
 have e:=hV.small;have w:(Z' f.biW:Int)*((1:Nat):Int)<=140737488355328:=by have:=e.biW;omega
 have x:(Z' f.biW:Int)<=9223372036854775807:=by have:=e.biW;omega
 have y:(0:Int)<=(Z' f.biW:Int):=Om;have E:(Z' f.biY:Int)*((8:Nat):Int)<=140737488355328:=by have:=e.biY;omega
 have F:(Z' f.biY:Int)<=9223372036854775807:=by have:=e.biY;omega
 have H:(0:Int)<=(Z' f.biY:Int):=Om;simp only[go_sem,cj,avS,avT,aVO,bkG,w,x,y,Int.le_refl,bmI];refine aP λu V=>?_;rw[ch];simp only[go_sem,avU,bkG];refine wp_loop (α:=Nat) (λk=>(((((((n_.set 2 (ints set)).set 3 (.bO f.cells)).set 4 (.bO p.cells)).set 7 (.osl u 1 0 f.biW.length)).set 20 (ints p.biW)).set 21 (.int .i64 (Z' p.biW:Nat))).set 22 (.int .i64 k))) (λk=>h_.set u (.rows 1 (eT (marks f.biW.length (p.biW.take k))))) (λk=>k<=Z' p.biW) (λk=>Z' p.biW-k) 0 (bkL _) Lq (by rw[List.take_zero];exact b_) ?_;intro k W;simp only[go_sem,avR,avV];by_cases hlt:k<Z' p.biW
 ·have d:(k:Int)<(Z' p.biW:Nat):=Om;have J:(p.biW.map λn=>[PV.int .i64 n])[k]?=some [.int .i64 p.biW[k]]:=by simp[hlt]
  obtain⟨M,N⟩:=hp _ (bkK hlt);have A:(p.biW[k]).toNat<(eT (marks f.biW.length (p.biW.take k))).length:=by rw[LZ,fl];omega
  have B:(eT (marks f.biW.length (p.biW.take k)))[(p.biW[k]).toNat]?=some [.bool ((p.biW.take k).contains p.biW[k])]:=by unfold eT;rw[blC,KK M N];rfl
  have O:Z' p.biW<=9223372036854775807:=by have:=l;omega
  simp only[go_sem,d,avW,J,avX,M,N,blG,B,A,oO,fm M N,avY,wZz k];refine aG (k+1) hlt Om Lq ?_;rw[blO hlt];exact b_
 ·have d:¬(k:Int)<(Z' p.biW:Nat):=Om;have:k=Z' p.biW:=Om;subst this;rw[blE];simp only[go_sem,d,avZ,bkG,E,F,H,Int.le_refl,bmI];refine aP λoD hD=>?_;have Q:u≠oD:=by rintro rfl;simp only[cW]at hD;cases hD
  rw[aUT];simp only[go_sem,awA,bkG];refine aOY (C:=C) f hV p u oD Q set U (by unfold SZ;(repeat' (first|exact c_|refine d_ ?_ ?_))<;>first|(simp only[go_sem,bkG]<;>rfl)|rfl) (by simp only[bD,aD Q,if_true]) (by rw[cW]) ?_ ?_
  ·intro R H' S i;simp only[go_sem];exact dR S i.symm
  ·intro R H' K;simp only[go_sem,aaT];exact dR Sq K.symm
theorem CQ{f:aE}{bjH:Int}(h:kY f bjH=true):VF f/\0<=bjH/\bjH.toNat<Z' f.biZ/\bjH=(bjH.toNat:Nat):=by
 unfold kY at h;simp only[bkI,dT_]at h;exact⟨VF.of h.1,h.2.1,by omega,by omega⟩
theorem zE{f:aE}{bjH:Int}(h:kY f bjH=true):dS f bjH∈f.biZ/\f.biZ[bjH.toNat]?=some (dS f bjH):=by
 obtain⟨_,_,d,_⟩:=CQ h;have e:dS f bjH=f.biZ[bjH.toNat]:=by simp[dS,blB,d]
 rw[e];exact⟨bkK d,bkT d⟩
theorem aPC(val:∀f:aE,f.Ok->aH C 96 [.agg f.cells] .nil (aF (.int .i64 (uP f))))(f:aE)(i:f.Ok)(bjH:Int) :
  OB.wp C (aX aaW.res (aF (.bool (kY f bjH)))) (g_ [.agg f.cells,.int .i64 bjH]) .nil:=by
 have e:=val f i;unfold uP at e;simp only[go_sem,OB,P2,P3,aaW];refine aB e Ev ?_;have d:kY f bjH=(cQ f&&(decide (0<=bjH)&&decide (bjH<Z' f.biZ))):=rfl;cases hp:cQ f with
 |false =>rw[hp,bkP]at d;simp only[go_sem,bL (show(1:Int)≠0 by decide)];exact dR Sq d.symm
 |true=>
  rw[hp,bkR]at d;by_cases c:bjH>=0
  ·rw[aV (Om:0<=bjH),bkR]at d;simp only[go_sem,bW (show(0:Int)=0 from rfl),c,bkG];exact dR (b:=decide (bjH<Z' f.biZ)) Sq d.symm
  ·rw[bC (Om:¬0<=bjH),bkP]at d;simp only[go_sem,bW (show(0:Int)=0 from rfl),c,bkG];exact dR Sq d.symm
structure aOO(C:Ctx):Prop where
 adm:∀(f:aE)(p:cJ)(set:List Int),VF f->(∀m∈p.biW,0<=m/\m<Z' f.biW)->Fits p.biW->aHU f set->aH C 201 [.agg f.cells,.agg p.cells,ints set] .nil (aF (.bool (sA f p set)))
 known:∀(f:aE)(bjH:Int),f.Ok->aH C 203 [.agg f.cells,.int .i64 bjH] .nil (aF (.bool (kY f bjH)))
theorem FX{m:Nat}(d:m<=1000):∀i,i<=1000->(eQ m i).natAbs<=1000^i
 |0,_=>bkN _
 |i+1,h=>by have e:=FX d i Om;have hb:((m:Int)-(i:Int)).natAbs<=1000:=Om;rw[eQ,Int.natAbs_tdiv,Int.natAbs_mul,bmM];exact blH (bnQ _ _) (bnV e hb)
theorem FY{m:Nat}(d:m<=1000){i:Nat}(hi:i<=3):-1000000000<=eQ m i/\eQ m i<=1000000000:=by
 have h:=FX d i Om;have:1000^i<=1000^3:=bnR Om hi;have e:(1000:Nat)^3=1000000000:=by decide
 omega
theorem aIM(m n:Nat)(p:m<=1000)(M:n<=3) :
  JL.wp C (aX Mh.res (aF (.int .i64 (max (eQ m n) 0)))) (g_ [.int .i64 m,.int .i64 n]) .nil:=by
 simp only[go_sem,JL,Bf,Bg,Bh,Mh];refine wp_loop (α:=Nat) (λk=>((((n_.set 0 (.int .i64 m)).set 1 (.int .i64 n)).set 5 (.int .i64 (eQ m k))).set 6 (.int .i64 k))) (λ_=>.nil) (λk=>k<=n) (λk=>n-k) 0 (bkL _) (by(repeat' (first|exact c_|refine d_ ?_ ?_))<;>first|(simp only[go_sem,eQ]<;>rfl)|rfl) a_ ?_;intro k K;simp only[go_sem,Be,Bi];by_cases hlt:k<n
 ·have d:(k:Int)<(n:Nat):=Om;obtain⟨b1,b2⟩:=FY p (i:=k) Om;have B:=FX p k Om;have hb:((m:Int)-(k:Int)).natAbs<=1000:=Om;have l:=bnV (blH B (bnR Om (Om:k<=2))) hb;rw[<-Int.natAbs_mul]at l;have e:(1000:Nat)^2*1000=1000000000:=by decide
  have E:i_.wrap ((m:Int)-(k:Int))=(m:Int)-k:=wrap_i64 Om Om;have F:i_.wrap (eQ m k*((m:Int)-(k:Int)))=eQ m k*((m:Int)-k):=wrap_i64 Om Om;have H:i_.wrap ((k:Int)+1)=(k:Int)+1:=wrap_i64 Om Om;have w:¬((k:Int)+1)=0:=Om;obtain⟨y,A⟩:=FY p (i:=k+1) Om;have x:eQ m (k+1)=bmX (eQ m k*((m:Int)-k)) ((k:Int)+1):=by rw[eQ]
  rw[x]at y A;have J:i_.wrap (bmX (eQ m k*((m:Int)-k)) ((k:Int)+1))=bmX (eQ m k*((m:Int)-k)) ((k:Int)+1):=wrap_i64 Om Om;simp only[go_sem,d,Bj,E,F,H,w,J];simp only[go_sem,Bk,wZz k];exact aG (k+1) hlt Om (by(repeat' (first|exact c_|refine d_ ?_ ?_))<;>first|(simp only[go_sem,x]<;>rfl)|rfl) a_
 ·have d:¬(k:Int)<(n:Nat):=Om;have:k=n:=Om;subst this;simp only[go_sem,d,Bl];have u:(if eQ m k<0 then 0 else eQ m k)=max (eQ m k) 0:=by split<;>omega
  rw[u];refine aT (.inr rfl) Ev ?_;rfl
def AM(k:Nat)(b:Bool):Nat:=if b then k+1 else k
theorem DO{α:Type}(q:α->Bool)(l:List α){i:Nat}(h:i<Z' l):(l.take (i+1)).countP q=AM ((l.take i).countP q) (q l[i]):=by
 rw[blO h,List.countP_append];unfold AM;cases d:q l[i]<;>simp[d]
def MU(sc:List (List Int))(set:List Int)(m:Int)(n i:Nat):PF:=((((((n_.set 1 (ints set)).set 2 (.int .i64 m)).set 7 (.int .i64 n)).set 14 (lay sc)).set 15 (.int .i64 (Z' sc:Nat))).set 16 (.int .i64 i))
def rU(sc:List (List Int))(set:List Int)(m:Int)(n i:Nat)(b:Nat)(s:List Int)(j:Nat):PF:=((((((((((n_.set 1 (ints set)).set 2 (.int .i64 m)).set 7 (.int .i64 n)).set 14 (lay sc)).set 15 (.int .i64 (Z' sc:Nat))).set 16 (.int .i64 i)).set 10 (.int .i64 b)).set 20 (ints s)).set 21 (.int .i64 (Z' s:Nat))).set 22 (.int .i64 j))
theorem aIO{K:cH}[Up K](sc:List (List Int))(set:List Int)(A:Z' set<=1000000000000000)(m:Int)(n i b:Nat)(s:List Int)(j:Nat)(d:Int)(k:Nat)(w:k<=fR set d){F:PF}{H:PH}
  (x:(((rU sc set m n i b s j).set 13 (.int .i64 d)).set 11 (.int .i64 k)).le F)
  (u:K (.exit 4) (((rU sc set m n i b s j).set 13 (.int .i64 d)).set 11 (.int .i64 (fR set d:Nat))) H) :
  aC.wp C (.loop EM) K F H:=by
 refine wp_loop (α:=Nat) (λk=>((rU sc set m n i b s j).set 13 (.int .i64 d)).set 11 (.int .i64 k)) (λ_=>H) (λk=>k<=fR set d) (λk=>fR set d-k) k w x b_ ?_;intro k w;have y:=Oo set d;by_cases hlt:k<Z' set
 ·have l:(k:Int)<(Z' set:Nat):=Om;have p:(set.map λn=>[PV.int .i64 n])[k]?=some [.int .i64 set[k]]:=by simp[hlt]
  by_cases c:k<fR set d
  ·have hb:set[k]<d:=YE set d c;simp only[go_sem,EM,TD,rU,bkG,l,p,hb,P4,wZz k];exact aG (k+1) c Om Lq b_
  ·have e:k=fR set d:=Om;subst e;have hb:¬set[fR set d]<d:=aDQ set d hlt;simp only[go_sem,EM,TD,rU,bkG,l,p,hb];refine Up.up ?_ u;unfold rU;exact Lq
 ·have l:¬(k:Int)<(Z' set:Nat):=Om;have e:k=fR set d:=Om;subst e;simp only[go_sem,EM,TD,rU,bkG,l];refine Up.up ?_ u;unfold rU;exact Lq
theorem aPD{K:cH}[Up K](sc:List (List Int))(set:List Int)(U:Z' set<=1000000000000000)(W:set.Pairwise (· < ·))(m:Int)(n i:Nat)(s:List Int)(X:Z' s<=1000000000000000)(E:s.Pairwise (· < ·)){F:PF}{H:PH}
  (M:((rU sc set m n i 0 s 0).set 11 (.int .i64 0)).le F)
  (N:K (.exit 2) ((MU sc set m n i).set 10 (.int .i64 (mO set s:Nat))) H) :
  aC.wp C (.loop MB) K F H:=by
 refine wp_loop (α:=Nat × Nat) (λt=>(rU sc set m n i ((s.take t.1).countP λd=>set.contains d) s t.1).set 11 (.int .i64 t.2)) (λ_=>H) (λt=>t.1<=Z' s/\∀d∈s.drop t.1,t.2<=fR set d) (λt=>Z' s-t.1) (0,0) ⟨bkL _,λd _=>bkL _⟩ (by simpa using M) b_ ?_;rintro⟨j,k⟩ ⟨S,J⟩;simp only at S J;by_cases hlt:j<Z' s
 ·have u:(j:Int)<(Z' s:Nat):=Om;have A:(s.map λn=>[PV.int .i64 n])[j]?=some [.int .i64 s[j]]:=by simp[hlt]
  have l:=DO (λd=>set.contains d) s hlt;have p:s.drop j=s[j]::s.drop (j+1):=bmP hlt;have B:k<=fR set s[j]:=J _ (by rw[p];exact List.mem_cons_self ..);have bjR:∀d∈s.drop (j+1),fR set s[j]<=fR set d:=by intro d Q;have:=E.sublist (List.drop_sublist j s);rw[p,List.pairwise_cons]at this;exact aTD set (Int.le_of_lt (this.1 d Q))
  have e:=a0M W s[j];have O:(s.take j).countP (λd=>set.contains d)<=j:=blH boO (by rw[bkY];omega);generalize(s.take j).countP (λd=>set.contains d)=b at *
  generalize s[j]=d at *
  simp only[go_sem,MB,vr,rU,u,abD,A];have Y:=λ{K:cH} [Up K] {F:PF}=>aIO (C:=C) (K:=K) sc set U m n i b s j d k B (F:=F) (H:=H);refine Y (by unfold rU;exact Lq) ?_;have V:=Oo set d;by_cases c:fR set d<Z' set
  ·have x:((fR set d:Nat):Int)<(Z' set:Nat):=Om;have w:(set.map λn=>[PV.int .i64 n])[fR set d]?=some [.int .i64 set[fR set d]]:=by simp[c]
   have R:set.getD (fR set d) 0=set[fR set d]:=by simp[blB,c]
   rw[aV c,bkR,R]at e;by_cases y:set[fR set d]=d
   ·rw[aV y]at e;rw[e]at l;simp only[go_sem,rU,MC,bkG,x,w,bW y,P5,wZz b,MD,wZz j];exact aG (j+1,fR set d) ⟨hlt,bjR⟩ (by simp only;omega) (by(repeat' (first|exact c_|refine d_ ?_ ?_))<;>first|(simp only[go_sem,l,AM]<;>rfl)|rfl) b_
   ·rw[bC y]at e;rw[e]at l;simp only[go_sem,rU,MC,bkG,x,w,bL y,MD,wZz j];exact aG (j+1,fR set d) ⟨hlt,bjR⟩ (by simp only;omega) (by(repeat' (first|exact c_|refine d_ ?_ ?_))<;>first|(simp only[go_sem,l,AM]<;>rfl)|rfl) b_
  ·have x:¬((fR set d:Nat):Int)<(Z' set:Nat):=Om;rw[bC c,bkP]at e;rw[e]at l;simp only[go_sem,rU,MC,bkG,x,MD,wZz j];exact aG (j+1,fR set d) ⟨hlt,bjR⟩ (by simp only;omega) (by(repeat' (first|exact c_|refine d_ ?_ ?_))<;>first|(simp only[go_sem,l,AM]<;>rfl)|rfl) b_
 ·have u:¬(j:Int)<(Z' s:Nat):=Om;have:j=Z' s:=Om;subst this;simp only[go_sem,MB,vr,rU,u,blE];refine Up.up ?_ N;unfold MU mO;exact Lq
theorem aVX(sc:List (List Int))(A:Z' sc<=1000000000000000)(u:∀s∈sc,Z' s<=1000000000000000/\s.Pairwise (· < ·))(set:List Int)(y:Z' set<=1000000000000000)(w:set.Pairwise (· < ·))(m:Int) :
  TC.wp C (aX aIN.res (aF (.int .i64 (lG sc set m:Nat)))) (g_ [lay sc,ints set,.int .i64 m]) .nil:=by
 simp only[go_sem,TC,aaX,aaY,aaZ,aIN,bkG];refine wp_loop (α:=Nat) (λi=>MU sc set m ((sc.take i).countP λs=>decide (((mO s set:Nat):Int)>m)) i) (λ_=>.nil) (λi=>i<=Z' sc) (λi=>Z' sc-i) 0 (bkL _) (by unfold MU;exact Lq) a_ ?_;intro i hi;by_cases hlt:i<Z' sc
 ·have e:(i:Int)<(Z' sc:Nat):=Om;have p:(sc.map λr=>[ints r])[i]?=some [ints sc[i]]:=by simp[hlt]
  have d:=DO (λs=>decide (((mO s set:Nat):Int)>m)) sc hlt;obtain⟨k1,k2⟩:=u sc[i] (bkK hlt);have x:(sc.take i).countP (λs=>decide (((mO s set:Nat):Int)>m))<=i:=blH boO (by rw[bkY];omega);generalize(sc.take i).countP (λs=>decide (((mO s set:Nat):Int)>m))=n at *
  generalize sc[i]=s at *
  have l:mO set s=mO s set:=Pm (w.imp (λh=>by omega)) (k2.imp (λh=>by omega));simp only[go_sem,cp,vq,MU,e,abA,p,abB,abC,bkG];have one:=λ{K:cH} [Up K] {F:PF} {H:PH}=>aPD (C:=C) (K:=K) sc set y w m n i s k1 k2 (F:=F) (H:=H);refine one (by unfold rU;exact Lq) ?_;rw[l];by_cases c:((mO s set:Nat):Int)>m
  ·rw[aV c]at d;simp only[go_sem,MU,cq,c,P6,wZz n,cr,wZz i];exact aG (i+1) hlt Om (by(repeat' (first|exact c_|refine d_ ?_ ?_))<;>first|(simp only[go_sem,d,AM]<;>rfl)|rfl) a_
  ·rw[bC c]at d;simp only[go_sem,MU,cq,c,cr,wZz i];exact aG (i+1) hlt Om (by(repeat' (first|exact c_|refine d_ ?_ ?_))<;>first|(simp only[go_sem,d,AM]<;>rfl)|rfl) a_
 ·have e:¬(i:Int)<(Z' sc:Nat):=Om;have:i=Z' sc:=Om;subst this;rw[blE];simp only[go_sem,cp,vq,MU,e,P7];refine aT (.inr rfl) Ev ?_;rfl
def Kept(f:aE)(p:cJ)(xs:List Int):Prop:=∀i,i<Z' f.biY->fS f p i>0->jB f xs i<=fS f p i
theorem Kept.nil(f:aE)(p:cJ):Kept f p []:=λi _ h=>by
 have:jB f [] i=0:=by unfold jB;split<;>simp
 omega
def JC(f:aE)(p:cJ)(xs:List Int)(d:Nat)(k:Nat):Prop:=∀i,i<Z' f.biY->4-(k:Int)<lvl f i->fS f p i>0->jB f (xs++[(d:Int)]) i<=fS f p i
theorem JC.zero{f:aE}(hV:VF f){p:cJ}(xs:List Int)(d:Nat):JC f p xs d 0:=λi hi h _=>by
 have:=hV.oV hi;omega
theorem JC.done{f:aE}(hV:VF f){p:cJ}(u:fS f p 0<=0){xs:List Int}{d:Nat}(h:JC f p xs d 4):Kept f p (xs++[(d:Int)]):=λi hi l=>by
 have:=hV.oV hi;by_cases e:i=0
 ·subst e;omega
 ·exact h i hi Om l
theorem JC.next{f:aE}(hV:VF f){p:cJ}{xs:List Int}{d k:Nat}(y:d<Z' f.biV)(A:k<4)(w:Kept f p xs)(h:JC f p xs d k)(x:fS f p (upN f k (eU f d))>0->jB f (xs++[(d:Int)]) (upN f k (eU f d))<=fS f p (upN f k (eU f d))):JC f p xs d (k+1):=λi hi B u=>by
 by_cases e:4-(k:Int)<lvl f i
 ·exact h i hi e u
 have l:lvl f i=4-(k:Int):=Om;by_cases c:i=upN f k (eU f d)
 ·subst c;exact x u
 have:jB f (xs++[(d:Int)]) i=jB f xs i:=by
  unfold jB;split
  ·rfl
  ·rw[List.countP_append,List.countP_cons,List.countP_nil];have:qT f i (d:Int)=false:=by unfold qT dQ;rw[l,show(4-(4-(k:Int)).toNat)=k by omega,bmI];simp[show ¬upN f k (eU f d)=i from λh=>c h.symm]
   rw[this];simp
 rw[this];exact w i hi u
theorem aPY{q:Nat->Bool}{n:Nat}:∀{i:Nat},i<n->q i=true->((bkH n).filter q)[(bkH i).countP q]?=some i:=by
 intro i hi d;have e:bkH n=bkH i++(i::bmR (i+1) (n-i-1)):=by rw[List.range_eq_range',List.range_eq_range',show i::bmR (i+1) (n-i-1)=bmR i (n-i-1+1)from rfl];have:=List.range'_append (s:=0) (m:=i) (n:=n-i-1+1) (step:=1);rw[Nat.one_mul,blG]at this;rw[this];congr 1;omega
 rw[e,List.filter_append,List.filter_cons_of_pos d,List.countP_eq_length_filter,bmY (bkN _),bnF];rfl
def InR(l:List Int)(n:Nat):Prop:=∀x∈l,0<=x/\x<(n:Int)
def kw(f:aE)(d:List (List Int))(r:Int)(l:List Int):Bool:=!l.isEmpty&&Y8 f d r l
def aZT(f:aE)(p:List (List Int))(r:Int)(e:List (List Int))(d:Nat):List (List Int):=match e.findIdx? (λl=>Y8 f p r (l++[(d:Int)]))with
 |some i=>e.set i (e.getD i []++[(d:Int)])
 |none=>e++[[(d:Int)]]
def Ko(f:aE)(e:List (List Int))(r:Int):Nat->List (List Int)
 |0=>[]
 |d+1=>aZT f e r (Ko f e r d) d
def aOT(f:aE)(e:List (List Int))(r:Int):Bool:=(bkH f.biV.length).all λd=>Y8 f e r [(d:Int)]
theorem set_perm:∀(d:List (List Int)) (i:Nat) (x:Int),i<Z' d->((d.set i (d.getD i []++[x])).flatten).Perm (d.flatten++[x])
 |[],i,x,h=>by cases h
 |l::d,0,x,_=>by simp only[boF,List.getD_cons_zero,List.flatten_cons,blW];exact List.Perm.append_left _ List.perm_append_comm
 |l::d,i+1,x,h=>by have:=set_perm d i x (by simpa using h);simp only[List.set_cons_succ,List.getD_cons_succ,List.flatten_cons,blW];exact List.Perm.append_left _ this
structure aaB(f:aE)(now:List (List Int))(r:Int)(n:Nat)(w:List (List Int)):Prop where
 ok:∀l∈w,kw f now r l=true
 len:Z' w.flatten=n
 nd:w.flatten.Nodup
 rng:InR w.flatten n
theorem aaB.put{f:aE}{d:List (List Int)}{r:Int}{n:Nat}{w:List (List Int)}(h:aaB f d r n w)(y:Y8 f d r [(n:Int)]=true):aaB f d r (n+1) (aZT f d r w n):=by
 have p:∀u:List (List Int),u.flatten.Perm (w.flatten++[(n:Int)])->(∀l∈u,kw f d r l=true)->aaB f d r (n+1) u:=λu hp A=>by
  refine⟨A,by rw[hp.length_eq,bkQ,h.len];rfl,hp.nodup_iff.2 ?_,λx B=>?_⟩
  ·rw[bnI];refine⟨h.nd,by simp,λa y b hb=>?_⟩;rw[bmF]at hb;subst hb;have:=h.rng a y;omega
  ·have:=hp.mem_iff.1 B;rw[blV,bmF]at this;rcases this with B|rfl
   ·have:=h.rng x B;omega
   ·omega
 unfold aZT;split
 ·rename_i i hi;obtain⟨hlt,hp,-⟩:=List.findIdx?_eq_some_iff_getElem.1 hi;refine p _ (set_perm w i n hlt) λl e=>?_;rcases boN e with e|rfl
  ·exact h.ok l e
  ·unfold kw;rw[blB,bkT hlt,bnG,hp];simp
 ·refine p _ (by rw[List.flatten_append];simp) λl e=>?_;rw[blV,bmF]at e;rcases e with e|rfl
  ·exact h.ok l e
  ·unfold kw;rw[y];rfl
theorem Xs{f:aE}{e:List (List Int)}{r:Int}(i:aOT f e r=true):∀d,d<=Z' f.biV->aaB f e r d (Ko f e r d)
 |0,_=>⟨(λl h=>by cases h),rfl,.nil,λx h=>by cases h⟩
 |d+1,p=>(Xs i d Om).put (bkS.1 i d (blN.2 Om))
end Go.PM
namespace Go.RO
open Go
def ins(x:Int):List Int->List Int
 |[]=>[x]
 |y::ys=>if y<x then y::ins x ys else if y=x then y::ys else x::y::ys
end Go.RO
namespace Go.PM
open Go Go.Na






def a2P(c:UInt8)(n:Nat):List UInt8:=[c,UInt8.ofNat (97+n/26%26),UInt8.ofNat (97+n%26)]
def acR(ds:List cY)(level parent bjP:Nat):List cY:=ds++[⟨a2P 110 ds.length,(level:Nat),(parent:Nat),(bjP:Nat),oE⟩]
theorem aYS(a b:Nat)(i:a<4294967296)(hb:b<4294967296):(mkT (a:Int) (b:Int)).Ok:=by
 rw[aAD];have d:=bnQ a (bkJ a b);have e:=bnQ b (bkJ a b);have k1:nl (a/bkJ a b)<=1:=(mQ _ _).2 Om;have k2:nl (b/bkJ a b)<=1:=(mQ _ _).2 Om;refine⟨aY _,aY _,?_,?_⟩
 ·show(aM _).length<=_;rw[bE];omega
 ·show(aM _).length<=_;rw[bE];omega
theorem ahC{n:Nat}(h:n<=1000000):dJ (n:Int):=by unfold dJ;omega
def Zv(ds:List cY):Prop:=∀x∈ds,x.bjK.Ok/\dJ x.level/\dJ x.parent
theorem Zv.dom{ds:List cY}(h:Zv ds){level parent bjP:Nat}(e:level<=1000)(i:parent<=1000):Zv (acR ds level parent bjP):=λx d=>by
 unfold acR at d;rw[blV,bmF]at d;rcases d with d|rfl
 ·exact h x d
 ·exact⟨aYS 0 1 aU aU,ahC Om,ahC Om⟩
structure FM(f:aE):Prop where
 ok:f.Ok
 km:∀p∈f.biZ,1<=p.k/\p.k<=2/\0<=p.m/\p.m<=2
 biV:Z' f.biV<=9
 pols:1<=Z' f.biZ/\Z' f.biZ<=2
 vols:∀x∈f.biX,0<=x.bjH/\x.bjH<Z' f.biZ
theorem FM.pol{f:aE}(h:FM f){v:Nat}(e:v<Z' f.biX):BB f v<Z' f.biZ/\XF f v∈f.biZ:=by
 have i:=h.vols _ (bkK e);have l:BB f v=(f.biX[v]).bjH.toNat:=by rw[BB,getD_at e]
 have d:BB f v<Z' f.biZ:=Om;refine⟨d,?_⟩;unfold XF;rw[blB,bkT d,bnG];exact bkK d
abbrev bdH(l:List Int)(a:Nat):bA:=.rows 2 [[ints l,.int .i64 (a:Nat)]]
section
variable {C:Ctx} {F:PF} {H Hs:PH} {l:List Int} {o a:Nat}
end
structure ME where
 o:Nat
 o4:Nat
 o5:Nat
 vols:Nat
abbrev ME.boxes(E:ME)(l:List Int)(ext d e i p wp wv:PV)(a:Nat):List BX:=[(E.o5,flB ext d e i p wp wv),(E.o,bdH l a),(E.o4,flZ)]





def bfH(ds:List cY)(i:Nat)(d:cY):Prop:=∃e p u:Nat,d.name=a2P 110 (i+1)/\d.level=e/\1<=e/\e<=4/\d.parent=p/\p<=i/\(lvs ds)[p]?=some ((e:Int)-1)/\d.bjP=u/\1<=u/\u<=64/\d.bjK=oE
structure DV(ds:List cY):Prop where
 root:ds[0]?=some qX
 dom:∀i (hi:i+1<Z' ds),bfH ds i ds[i+1]
theorem DV.new{ds:List cY}(h:DV ds){level parent up:Nat}(x:1<=level)(y:level<=4)(hp:(lvs ds)[parent]?=some ((level:Int)-1))(B:1<=up)(E:up<=64) :
  DV (acR ds level parent up)/\(lvs (acR ds level parent up))[Z' ds]?=some (level:Int):=by
 have A:parent<Z' ds:=by
  have:=(blQ.1 hp).1
  rwa[bkG]at this
 unfold acR;refine⟨⟨by rw[bmU Om];exact h.root,λi hi=>?_⟩,?_⟩
 ·simp only[bkQ,bkV]at hi;by_cases hlt:i+1<Z' ds
  ·rw[List.getElem_append_left hlt];obtain⟨d,p,v,g1,g2,g3,g4,e,l,u,w⟩:=h.dom i hlt;exact⟨d,p,v,g1,g2,g3,g4,e,l,IQ u,w⟩
  ·have:i+1=Z' ds:=Om;rw[boQ Om];simp only[List.getElem_singleton];exact⟨level,parent,up,by rw[this],rfl,x,y,rfl,by omega,IQ hp,rfl,B,E,rfl⟩
 ·unfold lvs;rw[blK,bmY (by rw[bkG];exact bkN _),bkG,bnF];rfl




theorem aR.store{H:PH}{B:List BX}{L:List LI}(h:aR H B L)(i:Nat){q s n:Nat}{rows:List (List PV)}(hi:L[i]?=some (.osl q s 0 n,s,rows))(k:Nat)(c:List PV) :
  ∃rs,H q=some (.rows s rs)/\n<=Z' rs/\rs.take n=rows/\aR (H.set q (.rows s (rs.set k c))) B (L.set i (.osl q s 0 n,s,rows.set k c)):=by
 obtain⟨rs,l,u,d,e⟩:=(h.own i hi).id rfl;injection u with _ _ _ w
 subst w;refine⟨rs,l,d,e,h.YO i hi (.inr ⟨q,rs.set k c,by rw[bmD],by rw[cW],by rw[bmD,bmD];exact d,by rw[bmD,List.take_set,e]⟩) (λp hp=>.inl hp) λp _ hp=>?_⟩;have:p≠q:=hp q rfl;rw[bD,aD this]

open Go Go.RowKit Go.Sort Go.Shelf Go.Proofs
section
variable {E:Env} {H:PH} {w:World}
end
section
variable {C:Ctx} {ρ:Ren} {name:Nat}
end
abbrev lists(d:List (List Int)):PV:=.sl 1 (d.map λw=>[ints w])
abbrev WPs:=List (PV × List Int)
def eH(ps:WPs):List (List PV):=ps.map λp=>[p.1]
def sE(ps:WPs):List LI:=ps.map λp=>(p.1,1,bF p.2)
def wls(ps:WPs):List (List Int):=ps.map (·.2)
def fG(d:PV)(ps:WPs):List LI:=(d,1,eH ps)::sE ps
section
variable {H:PH} {B:List BX}
theorem pV(ps:WPs):(eH ps).length=Z' ps:=bkG _
theorem M3{ps:WPs}{i:Nat}{v:PV}{w:List Int}(hi:ps[i]?=some (v,w)):(sE ps)[i]?=some (v,1,bF w):=by
 unfold sE;rw[blC,hi];rfl
theorem alY{ps:WPs}{i:Nat}{v:PV}{w:List Int}(hi:ps[i]?=some (v,w)):(eH ps)[i]?=some [v]:=by
 unfold eH;rw[blC,hi];rfl
theorem aR.AV(h:aR H B []):aR H B (fG .aK []):=h.rA 1
theorem aR.inner{d:PV}{ps:WPs}(h:aR H B (fG d ps)){i:Nat}{v:PV}{w:List Int}(hi:ps[i]?=some (v,w)):cG H 1 v (bF w):=h.own (i+1) (M3 hi)
theorem aR.outer{d:PV}{ps:WPs}(h:aR H B (fG d ps)):cG H 1 d (eH ps):=h.own 0 rfl
theorem KF(a b:List Int):bF (a++b)=bF a++bF b:=blK
theorem aR.bdG{u:PV}{ps:WPs}(h:aR H B (fG u ps)){i b:Nat}{v y:PV}{w src:List Int}{K:PV->PH->Prop}(hi:ps[i]?=some (v,w))(F:eD H 1 y=some (bF src))(A:roomFor w.length src.length b)(l:src≠[])
  (x:∀q H',aR H' B ((u,1,eH ps)::(sE ps).set i (.osl q 1 0 (w++src).length,1,bF (w++src)))->K (.osl q 1 0 (w++src).length) H'):sF H 1 b v y K:=by
 have d:bF src≠[]:=λe=>l (List.map_eq_nil_iff.1 e);refine h.append (i+1) (M3 hi) F (by rw[dK,dK];exact A) λv' H' p E=>?_;obtain⟨q,rfl⟩:=E d;rw[<-KF,dK]at p ⊢;exact x q H' p
theorem aR.baJ{d n i:Nat}{ps:WPs}{v':PV}{l:List Int}(h:aR H B ((.osl d 1 0 n,1,eH ps)::(sE ps).set i (v',1,bF l))) :
  ∃rs,H d=some (.rows 1 rs)/\n<=Z' rs/\rs.take n=eH ps/\aR (H.set d (.rows 1 (rs.set i [v']))) B (fG (.osl d 1 0 n) (ps.set i (v',l))):=by
 obtain⟨rs,p,u,w,x⟩:=h.store 0 rfl i [v'];refine⟨rs,p,u,w,?_⟩;have e:fG (.osl d 1 0 n) (ps.set i (v',l))=((.osl d 1 0 n,1,eH ps)::(sE ps).set i (v',1,bF l)).set 0 (.osl d 1 0 n,1,(eH ps).set i [v']):=by unfold fG eH sE;rw[List.map_set,List.map_set];rfl
 rw[e];exact x
theorem aR.a5Q{d:PV}{ps:WPs}{b:Nat}{y:PV}{K:PV->PH->Prop}(h:aR H B (fG d ps))(x:eD H 1 y=some [[.aK]])(u:roomFor ps.length 1 b)
  (p:∀q H',aR H' B (fG (.osl q 1 0 (Z' ps+1)) (ps++[(.aK,[])]))->K (.osl q 1 0 (Z' ps+1)) H'):sF H 1 b d y K:=by
 refine h.append 0 (src:=[[.aK]]) rfl x (by rw[pV];exact u) λv' H' l w=>?_;obtain⟨q,rfl⟩:=w bH;have i:=l.rA 1;rw[bkQ,pV]at i ⊢;refine p q H' ?_;have e:fG (.osl q 1 0 (Z' ps+1)) (ps++[(.aK,[])])=(((d,1,eH ps)::sE ps).set 0 (.osl q 1 0 (Z' ps+1),1,eH ps++[[.aK]]))++[(.aK,1,[])]:=by unfold fG eH sE;rw[blK,blK];rfl
 rw[e];exact i
def tZ(d:List (List PV))(e:List (List Int)):Prop:=Z' d=Z' e/\∀(i:Nat) r w,d[i]?=some r->e[i]?=some w->r=[ints w]\/(r=[.aK]/\w=[])
theorem tZ.nil:tZ [] []:=⟨rfl,λi r w h=>by cases h⟩
theorem tZ.snoc{l:List (List PV)}{p:List (List Int)}{u:PV}{w:List Int}(h:tZ l p)(y:u=ints w\/(u=.aK/\w=[])):tZ (l++[[u]]) (p++[w]):=by
 refine⟨by simp[h.1],λi r x d e=>?_⟩;rcases Nat.lt_trichotomy i l.length with c|c|c
 ·rw[bmU c]at d;rw[bmU (by rw[<-h.1];exact c)]at e;exact h.2 i r x d e
 ·subst c;rw[bmY (bkN _),bnF]at d;rw[h.1,bmY (bkN _),bnF]at e;cases d;cases e;rcases y with rfl|⟨rfl,rfl⟩
  ·exact .inl rfl
  ·exact .inr ⟨rfl,rfl⟩
 ·rw[bmY Om,bmA (by simp;omega)]at d;cases d
theorem tZ.flat{e:List (List PV)}{u:List (List Int)}(h:tZ e u):Flat e:=Flat.of λr p c d q s rs=>by
 obtain⟨i,hi⟩:=List.mem_iff_getElem?.1 p;have l:=(blQ.1 hi).1;rcases h.2 i r _ hi (bkT (by rw[<-h.1];exact l))with rfl|⟨rfl,-⟩
 ·rw[bmF]at d;subst d;rfl
 ·rw[bmF]at d;subst d;rfl
theorem tZ.co{y:List (List PV)}{x:List (List Int)}(h:tZ y x):Co (.sl 1 y) (lists x):=by
 have u:∀(i:Nat) r t,y[i]?=some r->(x.map λw=>[ints w])[i]?=some t->∃w,t=[ints w]/\(r=[ints w]\/(r=[.aK]/\w=[])):=λi r t e d=>by
  rw[blC]at d;cases E:x[i]? with
  |none=>rw[E]at d;cases d
  |some w =>rw[E]at d;cases d;exact⟨w,rfl,h.2 i r w e E⟩
 refine .sl (by rw[bkG,h.1]) (λi r t e d=>?_) (λi j p q hp l=>?_)
 ·obtain⟨w,rfl,A|⟨A,-⟩⟩:=u i r t e d<;>subst A<;>rfl
 ·unfold at2 at hp l;cases e:y[i]? with
  |none=>rw[e]at hp;cases hp
  |some r=>
   cases d:(x.map λw=>[ints w])[i]? with
   |none=>rw[d]at l;cases l
   |some t=>
    rw[e]at hp;rw[d]at l;obtain⟨w,rfl,A⟩:=u i r t e d;rcases A with rfl|⟨rfl,rfl⟩
    ·have:some p=some q:=hp.symm.trans l;cases this;exact .refl _
    ·cases j with
     |zero=>cases hp;cases l;exact .nil 1
     |succ j=>cases hp
end
def Fx(u:PV):Prop:=∀q s rs,PV.frz q s rs u=u
theorem Fx.int(k:IntKind)(n:Int):Fx (.int k n):=λ_ _ _=>rfl
theorem Fx.bool(b:Bool):Fx (.bool b):=λ_ _ _=>rfl
theorem Fx.sl(n:Nat)(r:List (List PV)):Fx (.sl n r):=λ_ _ _=>rfl
theorem Fx.aK:Fx .aK:=λ_ _ _=>rfl
theorem Fx.ptr(q z i c:Nat):Fx (.ptr q z i c):=λ_ _ _=>rfl
theorem Fx.bO(c:List PV):Fx (.bO c):=λ_ _ _=>rfl
theorem cG.eF{H:PH}{s:Nat}{v:PV}{rows:List (List PV)}(h:cG H s v rows)(q z:Nat)(rs:List (List PV)):PV.frz q z rs v=PV.eF q z rs v:=by
 rcases h with⟨-,rfl⟩|⟨p,rs',rfl,-⟩<;>rfl
def arP(φ:PV->PV)(F:PF):PF:=λi=>(F i).map φ
theorem IZ(φ:PV->PV)(F:PF)(i:Nat):arP φ F i=(F i).map φ:=rfl
theorem KM:∀(ps:WPs){H:PH}{B:List BX}{y:PV}(l:List (List PV)) (d:List (List Int)),tZ l d->aR H B ((y,1,l++eH ps)::sE ps)->(∀b∈B,∀q s rs,bA.frz q s rs b.2=b.2) ->
  ∃(φ:PV->PV)(A:PH),Co (φ y) (lists (d++wls ps))/\(∀u,Fx u->φ u=u)/\(∀e:Int,φ (.tup [y,.int .i64 e])=.tup [φ y,.int .i64 e])/\aR A B []/\(∀F:PF,kM F H (arP φ F) A)/\∀o,(H o=none\/y.oid=some o\/∃p∈ps,p.1.oid=some o)->A o=none
 |[],H,B,y,l,d,J,h,hB=>by
  have M:l++eH []=l:=bmJ l;have e1:d++wls []=d:=bmJ d;rw[M]at h;rw[e1];rcases h.own 0 rfl with⟨Q,rfl⟩|⟨q,rs,rfl,_⟩
  ·refine⟨id,H,?_,λ_ _=>rfl,λ_=>rfl,h.aJB 0,λF=>?_,λo ho=>?_⟩
   ·subst Q;have:d=[]:=List.length_eq_zero_iff.1 J.1.symm;subst this;exact .nil 1
   ·have:arP id F=F:=funext λi=>by rw[IZ];simp
    rw[this];exact .refl _ _
   ·rcases ho with ho|ho|⟨p,hp,-⟩
    ·exact ho
    ·cases ho
    ·cases hp
  ·obtain⟨rs,W,X,Y,Z,K⟩:=h.frz 0 rfl;refine⟨PV.frz q 1 rs,H.frz q 1 rs,?_,λu N=>N _ _ _,λe=>?_,?_,λF=>.step q W (.refl _ _),λo ho=>?_⟩
   ·rw[Y];exact J.co
   ·show PV.tup [PV.eF q 1 rs (.osl q 1 0 l.length),.int .i64 e]=_;rw[X,Y]
   ·have O:(B.map λb=>(b.1,b.2.frz q 1 rs))=B:=by
     conv=>rhs;rw[<-List.map_id B]
     refine bnH λb hb=>?_;rw[hB b hb q 1 rs];rfl
    rw[O]at K;exact K
   ·rw[IM];rcases ho with ho|ho|⟨p,hp,-⟩
    ·rw[ho];split<;>rfl
    ·have:q=o:=by injection ho
     rw[aI this.symm]
    ·cases hp
 |(v,w)::ps,H,B,y,l,d,J,h,hB=>by
  have eo:∀u:PV,l++[[u]]++eH ps=l++[u]::eH ps:=λu=>by rw[blW];rfl
  have ew:d++[w]++wls ps=d++wls ((v,w)::ps):=by rw[blW];rfl
  have ho:cG H 1 v (bF w):=h.own 1 rfl;rcases ho with⟨Q,rfl⟩|⟨q,rs,rfl,_⟩
  ·have hw:w=[]:=List.map_eq_nil_iff.1 Q;have h2:=h.aJB 1;obtain⟨φ,A,k1,k2,R,S,U,V⟩:=KM ps (l++[[.aK]]) (d++[w]) (J.snoc (.inr ⟨rfl,hw⟩)) (by rw[eo];exact h2) hB;rw[ew]at k1;refine⟨φ,A,k1,k2,R,S,U,λo ho=>V o ?_⟩;rcases ho with ho|ho|⟨p,hp,ho⟩
   ·exact .inl ho
   ·exact .inr (.inl ho)
   ·rcases bkX.1 hp with rfl|hp
    ·cases ho
    ·exact .inr (.inr ⟨p,hp,ho⟩)
  ·obtain⟨rs,W,X,Y,Z,K⟩:=h.frz 1 rfl;have O:(B.map λb=>(b.1,b.2.frz q 1 rs))=B:=by
    conv=>rhs;rw[<-List.map_id B]
    refine bnH λb hb=>?_;rw[hB b hb q 1 rs];rfl
   have y0:PV.eF q 1 rs y=y:=Z 0 _ aU rfl;have E:PV.frz q 1 rs y=y:=((h.own 0 rfl).eF q 1 rs).trans y0;have yp:∀p∈ps,PV.eF q 1 rs p.1=p.1:=λp hp=>by obtain⟨j,hj⟩:=List.mem_iff_getElem?.1 hp;exact Z (j+2) (p.1,1,bF p.2) Om (M3 hj)
   have er:(l++eH ((.osl q 1 0 (bF w).length,w)::ps)).map (λr=>r.map (PV.eF q 1 rs))=l++[[ints w]]++eH ps:=by
    rw[blK,J.flat,blW];congr 1;show[PV.eF q 1 rs (.osl q 1 0 (bF w).length)]::(eH ps).map _=_;rw[X];have:(eH ps).map (λr=>r.map (PV.eF q 1 rs))=eH ps:=by unfold eH;rw[bnN];refine bnH λp hp=>?_;show[PV.eF q 1 rs p.1]=_;rw[yp p hp]
    rw[this];rfl
   have ei:(sE ps).map (λx=>(x.1,x.2.1,x.2.2.map λr=>r.map (PV.eF q 1 rs)))=sE ps:=by unfold sE;rw[bnN];refine bnH λp _=>?_;show(p.1,1,(bF p.2).map λr=>r.map (PV.eF q 1 rs))=_;rw[show(bF p.2).map (λr=>r.map (PV.eF q 1 rs))=bF p.2 from Flat.map p.2 (λx c hc q s rs=>by rw[bmF]at hc;subst hc;rfl) q 1 rs]
   have z6:aR (H.frz q 1 rs) B ((y,1,l++[[ints w]]++eH ps)::sE ps):=by rw[O]at K;have z7:aR (H.frz q 1 rs) B ((y,1,(l++eH ((.osl q 1 0 (bF w).length,w)::ps)).map (λr=>r.map (PV.eF q 1 rs)))::(sE ps).map (λx=>(x.1,x.2.1,x.2.2.map λr=>r.map (PV.eF q 1 rs)))):=K;rw[er,ei]at z7;exact z7
   obtain⟨φ,A,k1,k2,R,S,U,V⟩:=KM ps (l++[[ints w]]) (d++[w]) (J.snoc (.inl rfl)) z6 hB;rw[ew]at k1;refine⟨λu=>φ (PV.frz q 1 rs u),A,?_,λu N=>?_,λe=>?_,S,λF=>.step q W ?_,λo ho=>V o ?_⟩
   ·simp only;rw[E];exact k1
   ·simp only;rw[N,k2 u N]
   ·simp only;rw[E];have yt:PV.frz q 1 rs (.tup [y,.int .i64 e])=.tup [PV.frz q 1 rs y,.int .i64 e]:=by rcases h.own 0 rfl with⟨-,M⟩|⟨p,rs',M,-⟩<;>(subst M;rfl)
    rw[yt,E,R]
   ·have:arP (λu=>φ (PV.frz q 1 rs u)) F=arP φ (F.frz q 1 rs):=funext λi=>by rw[IZ,IZ,xM,Option.map_map];rfl
    rw[this];exact U _
   ·rw[IM];rcases ho with ho|ho|⟨p,hp,ho⟩
    ·left;rw[ho];split<;>rfl
    ·exact .inr (.inl ho)
    ·rcases bkX.1 hp with rfl|hp
     ·have:q=o:=by injection ho
      left;rw[aI this.symm]
     ·exact .inr (.inr ⟨p,hp,ho⟩)
theorem tG{res:List eC}{F:PF}{H:PH}{d:PV}{ps:WPs}{c:Int}{e:nY}(u:e=.normal\/e=.ret)(h:eC.evs F H res=some [d,.int .i64 c])(l:aR H [] (fG d ps)):aX res (cI (.tup [lists (wls ps),.int .i64 c])) e F H:=by
 obtain⟨φ,y,k1,-,w,-,x,-⟩:=KM ps [] [] .nil l (λb hb=>by cases hb);refine zN u h ⟨_,_,.nil,x _,a_,φ (bN [d,.int .i64 c]),?_,?_⟩
 ·rw[IZ,oZ,aI rfl];rfl
 ·show cI _ (φ (.tup [d,.int .i64 c])) .nil;rw[w];refine⟨.tup rfl λj p q hp i=>?_,rfl⟩
  match j with
  |0=>cases hp;cases i;exact k1
  |1=>cases hp;cases i;exact .refl _
  |j+2=>cases hp
theorem cG.lenOf{H:PH}{v:PV}{rows:List (List PV)}{s:Nat}(h:cG H s v rows):PV.uN v=some (.int .i64 (Z' rows:Nat)):=by
 rcases h with⟨rfl,rfl⟩|⟨q,rs,rfl,-⟩<;>rfl
theorem aR.a9K{H:PH}{B:List BX}{l:PV}{ps:WPs}(h:aR H B (fG l ps)){i:Nat}(hi:i<Z' ps) :
  ∃e rs,l=.osl e 1 0 ps.length/\H e=some (.rows 1 rs)/\rs[i]?=some [ps[i].1]/\i<Z' rs:=by
 rcases h.outer with⟨d,-⟩|⟨q,rs,rfl,d,h2,h3⟩
 ·have:(eH ps).length=0:=by rw[d];rfl
  rw[pV]at this;omega
 ·rw[pV]at h2 h3;refine⟨q,rs,by rw[pV],d,?_,by omega⟩;have:=alY (ps:=ps) (i:=i) (v:=ps[i].1) (w:=ps[i].2) (by rw[bkT hi]);rw[<-h3,List.getElem?_take_of_lt hi]at this;exact this
theorem aR.a6A{H:PH}{B:List BX}{d:PV}{ps:WPs}(h:aR H B (fG d ps)):PV.uN d=some (.int .i64 (Z' ps:Nat)):=by
 have:=h.outer.lenOf
 rwa[pV]at this
theorem DL(ps:WPs):(wls ps).length=Z' ps:=bkG _
theorem XO{res:List eC}{F:PF}{H:PH}{d:PV}{ps:WPs}{e:nY}(l:e=.normal\/e=.ret)(h:eC.evs F H res=some [d])(i:aR H [] (fG d ps)):aX res (cI (lists (wls ps))) e F H:=by
 obtain⟨φ,u,k1,-,-,-,p,-⟩:=KM ps [] [] .nil i (λb hb=>by cases hb);refine zN l h ⟨_,_,.nil,p _,a_,φ (bN [d]),?_,?_⟩
 ·rw[IZ,oZ,aI rfl];rfl
 ·exact⟨k1,rfl⟩
def VG(f:aE)(lv:Int)(i:Nat):Bool:=decide (lvl f i=lv)
def MH(f:aE)(lv:Int):List Nat:=(bkH f.biY.length).filter (VG f lv)
def fU(f:aE)(lv:Int)(i:Nat):Nat:=(bkH i).countP (VG f lv)
def jG(f:aE)(lv:Int)(k:Nat):List Int:=(bkH f.biY.length).map λi=>if i<k/\lvl f i=lv then((fU f lv i:Nat):Int)else 0
def sV(f:aE)(lv:Int)(d i:Nat):List Nat:=(bkH d).filter λe=>decide (dQ f e lv=i)
def uE(f:aE)(lv:Int)(d:Nat):List (List Int):=(MH f lv).map λi=>cA (sV f lv d i)
theorem zr(f:aE){lv:Int}(h:lv≠5):iV f lv=uE f lv f.biV.length:=by
 unfold iV;rw[aD h];rfl
theorem Wz(f:aE):iV f 5=(bkH f.biV.length).map λ(d:Nat)=>[(d:Int)]:=by
 unfold iV;rw[aI rfl]
theorem aMG(f:aE)(lv:Int)(k:Nat):(jG f lv k).length=Z' f.biY:=by unfold jG;simp
theorem auM(f:aE)(lv:Int):jG f lv 0=bkM f.biY.length 0:=by
 unfold jG;refine bnM bH λi d e=>?_;simp
theorem T4{f:aE}{lv:Int}{k i:Nat}(hi:i<Z' f.biY):(jG f lv k)[i]?=some (if i<k/\lvl f i=lv then((fU f lv i:Nat):Int)else 0):=by
 unfold jG;rw[blC,List.getElem?_range hi];rfl
theorem aMF{f:aE}{lv:Int}{k:Nat}(h:lvl f k=lv):(jG f lv k).set k ((fU f lv k:Nat):Int)=jG f lv (k+1):=by
 refine bnM (by simp[jG]) λi d l=>?_;simp only[jG,List.getElem_set,blX,List.getElem_range];by_cases e:k=i
 ·subst e;rw[aI rfl,aI ⟨by omega,h⟩]
 ·rw[aD e];have:i<k↔i<k+1:=Om;simp only[this]
theorem auL{f:aE}{lv:Int}{k:Nat}(h:lvl f k≠lv):jG f lv k=jG f lv (k+1):=by
 refine bnM (by simp[jG]) λi d l=>?_;simp only[jG,blX,List.getElem_range];by_cases e:k=i
 ·subst e;rw[aD Om,aD (λx=>h x.2)]
 ·have:i<k↔i<k+1:=Om;simp only[this]
theorem aNQ{f:aE}{lv:Int}{k:Nat}(h:lvl f k=lv):fU f lv (k+1)=fU f lv k+1:=by
 unfold fU VG;rw[boE,List.countP_append];simp[h]
theorem avD{f:aE}{lv:Int}{k:Nat}(h:lvl f k≠lv):fU f lv (k+1)=fU f lv k:=by
 unfold fU VG;rw[boE,List.countP_append];simp[h]
theorem aTU(f:aE)(lv:Int)(k:Nat):fU f lv k<=k:=blH boO bH
theorem aFE{f:aE}{lv:Int}{a:Nat}(d:a<Z' f.biY)(h:lvl f a=lv):(MH f lv)[fU f lv a]?=some a:=aPY (q:=VG f lv) d (by rw[VG,aV h])
theorem auC(f:aE)(lv:Int)(d i:Nat):sV f lv (d+1) i=if dQ f d lv=i then sV f lv d i++[d]else sV f lv d i:=by
 unfold sV;rw[boE,List.filter_append];by_cases h:dQ f d lv=i<;>simp[h]
theorem Ej(f:aE)(lv:Int)(d i:Nat):(sV f lv d i).length<=d:=blH (boP ..) bH
theorem aWO(f:aE)(lv:Int):(MH f lv).Nodup:=List.nodup_range.filter _
theorem a1D{f:aE}{lv:Int}{d:Nat}(B:dQ f d lv<Z' f.biY)(h:lvl f (dQ f d lv)=lv){ps:WPs}(hp:wls ps=uE f lv d){v:PV}{w:List Int}(hi:ps[fU f lv (dQ f d lv)]?=some (v,w))(v':PV) :
  w.length<=d/\wls (ps.set (fU f lv (dQ f d lv)) (v',w++[(d:Int)]))=uE f lv (d+1):=by
 have p:=aFE B h;have x:w=cA (sV f lv d (dQ f d lv)):=by
  have l:(wls ps)[fU f lv (dQ f d lv)]?=some w:=by unfold wls;rw[blC,hi];rfl
  rw[hp,uE,blC,p]at l;injection l with l
  exact l.symm
 refine⟨by rw[x];unfold cA;rw[bkG];exact Ej ..,?_⟩;have u:wls (ps.set (fU f lv (dQ f d lv)) (v',w++[(d:Int)]))=(uE f lv d).set (fU f lv (dQ f d lv)) (w++[(d:Int)]):=by rw[<-hp];unfold wls;rw[List.map_set]
 rw[u,x];unfold uE;refine bnM bH λi l u=>?_;have il:i<(MH f lv).length:=by simpa using u
 rw[List.getElem_set];simp only[blX];rw[auC];obtain⟨E,y⟩:=blQ.1 p;by_cases e:fU f lv (dQ f d lv)=i
 ·subst e;rw[aI rfl,y,aI rfl];unfold cA;rw[blK];rfl
 ·rw[aD e,aD];intro e2;have A:(MH f lv)[fU f lv (dQ f d lv)]=(MH f lv)[i]:=y.trans e2;exact e ((List.getElem_inj (aWO f lv)).1 A)
def HI(n:Nat):List (List PV):=(bkH n).map λ(d:Nat)=>[ints [(d:Int)]]
theorem Uv(n:Nat):(HI n).length=n:=by unfold HI;simp
theorem Ih(n:Nat):HI (n+1)=HI n++[[ints [(n:Int)]]]:=by unfold HI;rw[boE,blK];rfl
theorem Wy(f:aE):lay (iV f 5)=.sl 1 (HI f.biV.length):=by
 rw[Wz];unfold HI;show PV.sl 1 (List.map _ (List.map _ _))=_;rw[bnN];rfl
theorem avC(f:aE)(lv:Int):uE f lv 0=bkM (fU f lv f.biY.length) []:=by
 unfold uE fU;rw[List.countP_eq_length_filter];refine bnM (by simp[MH]) λi d e=>?_;simp[sV,cA]
theorem J2(f:aE)(lv:Int)(d:Nat):(uE f lv d).length=(MH f lv).length:=by unfold uE;simp
def unB(f:aE)(lv:Int)(d:Nat)(e:PV)(k:Nat):PF:=(((((((n_.set 1 (.int .i64 lv)).set 2 (.bO f.cells)).set 5 (e)).set 7 (.osl d 1 0 f.biY.length)).set 33 (.sl 7 (f.biY.map cY.cells))).set 34 (.int .i64 (Z' f.biY:Nat))).set 35 (.int .i64 k))
def unC(f:aE)(lv:Int)(e:Nat)(i:PV)(d:Nat):PF:=(((((((n_.set 1 (.int .i64 lv)).set 2 (.bO f.cells)).set 5 (i)).set 7 (.osl e 1 0 f.biY.length)).set 54 (.sl 3 (f.biV.map eS.cells))).set 55 (.int .i64 (Z' f.biV:Nat))).set 56 (.int .i64 d))
def unE(f:aE)(lv:Int)(e:Nat)(i:PV)(d at_:Nat):PF:=(((((((((n_.set 1 (.int .i64 lv)).set 2 (.bO f.cells)).set 5 (i)).set 7 (.osl e 1 0 f.biY.length)).set 54 (.sl 3 (f.biV.map eS.cells))).set 55 (.int .i64 (Z' f.biV:Nat))).set 56 (.int .i64 d)).set 10 (.int .i64 d)).set 12 (.int .i64 at_))
variable{C:Ctx}
theorem aPL{K:cH}[Up K](f:aE)(hV:VF f)(lv:Int)(N:1<=lv)(O:lv<=4)(y:Nat)(B:PV)(d:Nat)(M:d<Z' f.biV){F:PF}{H:PH}
  (J:(unE f lv y B d (eU f d)).le F) (E:K (.exit 6) (unE f lv y B d (dQ f d lv)) H):aC.wp C (.loop GF) K F H:=by
 refine wp_loop (α:=Nat) (λj=>unE f lv y B d (upN f j (eU f d))) (λ_=>H) (λj=>(j:Int)<=4-lv) (λj=>4-j) 0 Om (by rw[upN];exact J) b_ ?_;intro j Q;obtain⟨l,A⟩:=SP hV M (k:=j) Om;have p:((upN f j (eU f d):Nat):Int)<(Z' f.biY:Nat):=Om;by_cases c:(j:Int)<4-lv
 ·have i:4-(j:Int)>lv:=Om;have w:0<upN f j (eU f d):=by
   rcases bmZ (upN f j (eU f d))with e|e
   ·rw[e,hV.root.2.1]at A;omega
   ·exact e
  have x:upN f (j+1) (eU f d)=XA f (upN f j (eU f d)):=rfl;have u:=hV.N2 w l;simp only[go_sem,GF,TS,unE,p,jJ l,AP l,A,i,Dj,Gy l,u];exact aG (j+1) Om Om (by(repeat' (first|exact c_|refine d_ ?_ ?_))<;>first|(simp only[go_sem,x]<;>rfl)|rfl) b_
 ·have i:¬4-(j:Int)>lv:=Om;have e:dQ f d lv=upN f j (eU f d):=by rw[dQ,show 4-lv.toNat=j by omega]
  rw[e]at E;simp only[go_sem,GF,TS,unE,p,jJ l,AP l,A,i];refine Up.up ?_ E;unfold unE;exact Lq
theorem aPK(f:aE)(hV:VF f)(lv:Int)(h1:1<=lv)(h5:lv<=5) :
  OG.wp C (aX acK.res (cI (lay (iV f lv)))) (g_ [.agg f.cells,.int .i64 lv]) .nil:=by
 have Z:=hV.small;have hd:=Z.biV;have μ:=Z.biY;simp only[go_sem,OG,Q2,Q3,Q4,acK];by_cases c5:lv=5
 ·subst c5;rw[Wy];simp only[go_sem,bW (show(5:Int)=5 from rfl),Q5,bkG];refine wp_loop (α:=Nat × PV × PH) (λs=>(((n_.set 5 (s.2.1)).set 17 (.int .i64 (Z' f.biV:Nat))).set 18 (.int .i64 s.1))) (λs=>s.2.2) (λs=>s.1<=Z' f.biV/\cG s.2.2 1 s.2.1 (HI s.1)) (λs=>Z' f.biV-s.1) (0,.aK,.nil) ⟨bkL _,.nil⟩ Lq b_ ?_;rintro⟨k,v,H⟩ ⟨hk,hO⟩;simp only at hk hO;simp only[go_sem,Q1,Q6];by_cases hlt:k<Z' f.biV
  ·have e:(k:Int)<(Z' f.biV:Nat):=Om;simp only[go_sem,e,Q7,Q8];refine gZ (src:=[[ints [(k:Int)]]]) hO (by simp only[go_sem];rfl) (by unfold roomFor;rw[Uv];simp only[bkV,maxLen];omega) λv' H' V _=>?_;rw[<-Ih]at V;simp only[go_sem,Q9,wZz k];exact aG (k+1,v',H') ⟨hlt,V⟩ (by simp only;omega) Lq b_
  ·have e:¬(k:Int)<(Z' f.biV:Nat):=Om;have:k=Z' f.biV:=Om;subst this;simp only[go_sem,e,Ra];exact wY (.inr rfl) hO Sq
 have h4:lv<=4:=Om;rw[zr f c5];have δ:(Z' f.biY:Int)*((8:Nat):Int)<=140737488355328:=Om;have ε:(Z' f.biY:Int)<=9223372036854775807:=Om;have ζ:(0:Int)<=(Z' f.biY:Int):=Om;simp only[go_sem,bL c5,C8,bkG,δ,ε,ζ,Int.le_refl,bmI];refine aP λA hP=>?_;have ez:bkM f.biY.length [PV.int .i64 0]=bF (jG f lv 0):=by rw[auM,xO]
 rw[ez];have U:aR (h_.set A (.rows 1 (bF (jG f lv 0)))) [(A,.rows 1 (bF (jG f lv 0)))] (fG .aK []):=((aR.nil (H:=h_)).new hP _).AV;simp only[go_sem,C9,bkG];refine wp_loop (α:=Nat × PV × WPs × PH) (λs=>unB f lv A s.2.1 s.1) (λs=>s.2.2.2) (λs=>s.1<=Z' f.biY/\wls s.2.2.1=bkM (fU f lv s.1) []/\aR s.2.2.2 [(A,.rows 1 (bF (jG f lv s.1)))] (fG s.2.1 s.2.2.1)) (λs=>Z' f.biY-s.1) (0,.aK,[],_) ⟨bkL _,rfl,U⟩ (by unfold unB;exact Lq) b_ ?_;clear U ez hP;rintro⟨i,vo,ps,H⟩ ⟨hi,l,p⟩;simp only at hi l p;simp only[go_sem,C6,Da,unB];by_cases hlt:i<Z' f.biY
 ·have e:(i:Int)<(Z' f.biY:Nat):=Om;have ι:Z' ps=fU f lv i:=by have:=congrArg List.length l;rw[DL,List.length_replicate]at this;exact this
  have Q:=aTU f lv i;simp only[go_sem,e,Db,jJ hlt];refine aP λq R=>?_;have E:=p.at 0 rfl;have n1:¬A=q:=by rintro rfl;rw[E]at R;cases R
  have M:=λx=>p.new R x;simp only[go_sem,Dc,AP hlt];by_cases c:lvl f i=lv
  ·have X:=p.a6A;have B:=T4 (f:=f) (lv:=lv) (k:=i) hlt;have y:(bF (jG f lv i))[i]?=some [.int .i64 (if i<i/\lvl f i=lv then((fU f lv i:Nat):Int)else 0)]:=by unfold bF;rw[blC,B];rfl
   have θ:i<(bF (jG f lv i)).length:=by rw[dK,aMG];exact hlt
   have S:(bF (jG f lv i)).set i [.int .i64 (Z' ps:Nat)]=bF (jG f lv (i+1)):=by rw[vI,ι,aMF c]
   have h3:=λx=>(M x).set 0 rfl (.rows 1 (bF (jG f lv (i+1))));simp only[go_sem,bW c,Dd,X,e,n1,E,y,θ,blG,S,De];refine(h3 _).a5Q Sq (by unfold roomFor;simp only[maxLen];omega) λq2 H2 h4=>?_;simp only[go_sem,TR,wZz i];refine aG (i+1,PV.osl q2 1 0 (Z' ps+1),ps++[(PV.aK,[])],H2) ⟨hlt,?_,h4.qR 1⟩ (by simp only;omega) Lq b_;simp only;rw[aNQ c,List.replicate_succ'];unfold wls at l ⊢;rw[blK,l];rfl
  ·have S:jG f lv i=jG f lv (i+1):=auL c;simp only[go_sem,bL c,TR,wZz i];refine aG (i+1,vo,ps,_) ⟨hlt,?_,?_⟩ (by simp only;omega) Lq b_
   ·simp only;rw[avD c];exact l
   ·simp only;rw[<-S];exact(M _).qR 1
 have e:¬(i:Int)<(Z' f.biY:Nat):=Om;have:i=Z' f.biY:=Om;subst this;rw[<-avC]at l;simp only[go_sem,e,Df,bkG];refine wp_loop (α:=Nat × PV × WPs × PH) (λs=>unC f lv A s.2.1 s.1) (λs=>s.2.2.2) (λs=>s.1<=Z' f.biV/\wls s.2.2.1=uE f lv s.1/\aR s.2.2.2 [(A,.rows 1 (bF (jG f lv f.biY.length)))] (fG s.2.1 s.2.2.1)) (λs=>Z' f.biV-s.1) (0,vo,ps,H) ⟨bkL _,l,p⟩ (by unfold unC;exact Lq) b_ ?_;clear l p hi hlt e;rintro⟨d,vo,ps,H⟩ ⟨η,l,p⟩;simp only at η l p;simp only[go_sem,C7,Dg,unC];by_cases hlt:d<Z' f.biV
 ·have e:(d:Int)<(Z' f.biV:Nat):=Om;simp only[go_sem,e,Dh,rK hlt];refine aP λq R=>?_;have E:=p.at 0 rfl;have n1:¬A=q:=by rintro rfl;rw[E]at R;cases R
  have M:=λx=>(p.new R x).qR 1;simp only[go_sem,Di,hV.M9 hlt];generalize hx:bA.rows 3 _=x;have M:=M x;have N:=M.at 0 rfl;generalize H.set q x=H1 at *
  have up:=λ{K:cH} [Up K] {F:PF} {H:PH}=>aPL (C:=C) (K:=K) f hV lv h1 h4 A vo d hlt (F:=F) (H:=H);refine up (by unfold unE;exact Lq) ?_;obtain⟨a1,a2⟩:=SP hV hlt (k:=4-lv.toNat) Om;have a3:lvl f (dQ f d lv)=lv:=by rw[dQ,a2];omega
  have a1:dQ f d lv<Z' f.biY:=a1;have γ:((dQ f d lv:Nat):Int)<(Z' f.biY:Nat):=Om;have B:=T4 (f:=f) (lv:=lv) (k:=Z' f.biY) a1;rw[aI ⟨a1,a3⟩]at B;have y:(bF (jG f lv f.biY.length))[dQ f d lv]?=some [.int .i64 (fU f lv (dQ f d lv):Nat)]:=by unfold bF;rw[blC,B];rfl
  have J:fU f lv (dQ f d lv)<Z' ps:=by have:=(blQ.1 (aFE a1 a3)).1;rw[<-DL,l,J2];exact this
  have O:=λv'=>a1D (ps:=ps) a1 a3 l (bkT J) v';have Q:ps[fU f lv (dQ f d lv)]?=some (ps[fU f lv (dQ f d lv)].1,ps[fU f lv (dQ f d lv)].2):=by rw[bkT J]
  have ν:ps[fU f lv (dQ f d lv)]=(ps[fU f lv (dQ f d lv)].1,ps[fU f lv (dQ f d lv)].2):=rfl;obtain⟨qo,rs,rfl,b1,b2,b3⟩:=M.a9K J;generalize ps[fU f lv (dQ f d lv)].2=w at *
  generalize ps[fU f lv (dQ f d lv)].1=v at *
  generalize fU f lv (dQ f d lv)=u at *
  have β:(u:Int)<(Z' ps:Nat):=Om;have ξ:=(O .aK).1;simp only[go_sem,unE];refine bP (h_.set A (.rows 1 (bF (jG f lv f.biY.length)))) eJ (e_ a_ N) ?_;simp only[go_sem,Dk,γ,N,y,blG,β,b1,b2,b3];refine M.bdG (src:=[(d:Int)]) Q (by simp only[go_sem];rfl) (by unfold roomFor;simp only[bkV,maxLen];omega) bH λq2 H2 h5=>?_;have Y:=h5.at 0 rfl;refine⟨e_ a_ Y,?_⟩;obtain⟨rs2,e1,e2,e3,h6⟩:=h5.baJ;have κ:u<Z' rs2:=Om;have W:rs2[u]?=some [v]:=by have:=alY Q;rw[<-e3,List.getElem?_take_of_lt J]at this;exact this
  refine bP .nil eJ a_ ?_;simp only[go_sem,Dl,e1,κ,W,Dm,wZz d];refine⟨a_,?_⟩;refine aG (d+1,PV.osl qo 1 0 ps.length,ps.set u (PV.osl q2 1 0 (w++[(d:Int)]).length,w++[(d:Int)]),H2.set qo (.rows 1 (rs2.set u [.osl q2 1 0 (w++[(d:Int)]).length]))) ⟨hlt,(O _).2,h6⟩ (by simp only;omega) Lq (by simp only;exact b_)
 ·have e:¬(d:Int)<(Z' f.biV:Nat):=Om;have:d=Z' f.biV:=Om;subst this;simp only[go_sem,e,Dn];rw[<-l];exact XO (.inr rfl) Sq (p.qR 0)
def acA:List aZ:=[
 ⟨(some 2),.box true (.tmp 0),none⟩,
 ⟨(some 3),.box true (.tmp 1),none⟩,
 ⟨(some 4),.mv (.const .aK),none⟩]
def acB:List aZ:=[
 ⟨(some 5),.alloc [.aK],none⟩]
def acC:List aZ:=[
 ⟨(some 7),.bjY 1 (.tmp 3),none⟩,
 ⟨(some 8),.load none (.tmp 7),none⟩,
 ⟨(some 9),.bjY 2 (.tmp 3),none⟩,
 ⟨(some 10),.load none (.tmp 9),none⟩,
 ⟨(some 11),.bin .add (.tmp 8) (.tmp 10),none⟩,
 ⟨(some 12),.bjY 4 (.tmp 2),none⟩,
 ⟨(some 13),.load none (.tmp 12),none⟩,
 ⟨(some 14),.len (.tmp 13),none⟩,
 ⟨(some 15),.call 210 [(.tmp 11),(.tmp 14)],none⟩]
def acD:List aZ:=[
 ⟨(some 6),.mv (.tmp 16),none⟩]
def acE:List aZ:=[
 ⟨(some 17),.load (some 7) (.tmp 2),none⟩,
 ⟨(some 18),.load (some 17) (.tmp 3),none⟩,
 ⟨(some 19),.mv (.tmp 6),none⟩,
 ⟨(some 20),.call 201 [(.tmp 17),(.tmp 18),(.tmp 19)],none⟩]
def acF:List aZ:=[
 ⟨(some 21),.load none (.tmp 5),none⟩,
 ⟨(some 22),.mv (.tmp 6),none⟩,
 ⟨(some 23),.bjB true 1 1 [.aK] [(0,(.tmp 22))],none⟩,
 ⟨(some 24),.append 1 24 (.tmp 21) (.tmp 23),none⟩,
 ⟨none,.store 1 (.tmp 5) (.tmp 24),none⟩]
def acG:List aZ:=[
 ⟨(some 25),.load none (.tmp 5),none⟩,
 ⟨(some 4),.mv (.tmp 25),none⟩]
def Qu:aC:=(.region acD)
def Qv:aC:=(.block 1 (.seq (.region acE) (.cond (.tmp 20) (.region acF) .skip)))
def C4:aC:=(.seq (.region acG) .ret)
def TP(d e:Code):wE:=(.seq (.region acA) (.seq (.region acB) (.seq (.region acC) (.range (.tmp 15) 26 16 d e Qu Qv C4))))
def aWH:List Nat:=[2,3,23]
def aIX(d e:Code):JD:=⟨2,26,TP d e,[.tmp 4]⟩
def abS:List aZ:=[
 ⟨(some 2),.box true (.tmp 0),none⟩,
 ⟨(some 3),.box true (.tmp 1),none⟩,
 ⟨(some 4),.mv (.const .aK),none⟩,
 ⟨(some 5),.mv (.const (.int .i64 0)),none⟩]
def abT:List aZ:=[
 ⟨(some 17),.load (some 7) (.tmp 2),none⟩,
 ⟨(some 18),.call 96 [(.tmp 17)],none⟩,
 ⟨(some 19),.bin .neq (.tmp 18) (.const (.int .i64 0)),none⟩,
 ⟨(some 20),.mv (.tmp 19),none⟩,
 ⟨(some 21),.bjY 0 (.tmp 3),(some (20,false))⟩,
 ⟨(some 22),.load none (.tmp 21),(some (20,false))⟩,
 ⟨(some 23),.bin .lss (.tmp 22) (.const (.int .i64 1)),(some (20,false))⟩,
 ⟨(some 24),.pick (.tmp 20) (.const (.bool true)) (.tmp 23),none⟩,
 ⟨(some 25),.mv (.tmp 24),none⟩,
 ⟨(some 26),.bjY 0 (.tmp 3),(some (25,false))⟩,
 ⟨(some 27),.load none (.tmp 26),(some (25,false))⟩,
 ⟨(some 28),.bin .gtr (.tmp 27) (.const (.int .i64 5)),(some (25,false))⟩,
 ⟨(some 29),.pick (.tmp 25) (.const (.bool true)) (.tmp 28),none⟩,
 ⟨(some 30),.mv (.tmp 29),none⟩,
 ⟨(some 31),.bjY 1 (.tmp 3),(some (30,false))⟩,
 ⟨(some 32),.load none (.tmp 31),(some (30,false))⟩,
 ⟨(some 33),.bin .lss (.tmp 32) (.const (.int .i64 1)),(some (30,false))⟩,
 ⟨(some 34),.pick (.tmp 30) (.const (.bool true)) (.tmp 33),none⟩,
 ⟨(some 35),.mv (.tmp 34),none⟩,
 ⟨(some 36),.bjY 1 (.tmp 3),(some (35,false))⟩,
 ⟨(some 37),.load none (.tmp 36),(some (35,false))⟩,
 ⟨(some 38),.bin .gtr (.tmp 37) (.const (.int .i64 3)),(some (35,false))⟩,
 ⟨(some 39),.pick (.tmp 35) (.const (.bool true)) (.tmp 38),none⟩]
def CG:List aZ:=[
 ⟨(some 4),.mv (.const .aK),none⟩,
 ⟨(some 5),.mv (.const (.int .i64 1)),none⟩]
def abU:List aZ:=[
 ⟨(some 40),.load (some 7) (.tmp 2),none⟩,
 ⟨(some 41),.bjY 0 (.tmp 3),none⟩,
 ⟨(some 42),.load none (.tmp 41),none⟩,
 ⟨(some 43),.call 206 [(.tmp 40),(.tmp 42)],none⟩,
 ⟨(some 6),.alloc [.aK],none⟩,
 ⟨none,.store 1 (.tmp 6) (.tmp 43),none⟩]
def abV:List aZ:=[
 ⟨(some 44),.bjY 4 (.tmp 2),none⟩,
 ⟨(some 45),.load none (.tmp 44),none⟩,
 ⟨(some 46),.len (.tmp 45),none⟩,
 ⟨(some 47),.bin .gtr (.tmp 46) (.const (.int .i64 12)),none⟩,
 ⟨(some 48),.mv (.tmp 47),none⟩,
 ⟨(some 49),.load none (.tmp 6),(some (48,false))⟩,
 ⟨(some 50),.len (.tmp 49),(some (48,false))⟩,
 ⟨(some 51),.bjY 1 (.tmp 3),(some (48,false))⟩,
 ⟨(some 52),.load none (.tmp 51),(some (48,false))⟩,
 ⟨(some 53),.call 207 [(.tmp 50),(.tmp 52)],(some (48,false))⟩,
 ⟨(some 54),.bin .gtr (.tmp 53) (.const (.int .i64 512)),(some (48,false))⟩,
 ⟨(some 55),.pick (.tmp 48) (.const (.bool true)) (.tmp 54),none⟩]
def vt:List aZ:=[
 ⟨(some 4),.mv (.const .aK),none⟩,
 ⟨(some 5),.mv (.const (.int .i64 2)),none⟩]
def abW:List aZ:=[
 ⟨(some 7),.alloc [.aK],none⟩]
def abX:List aZ:=[
 ⟨(some 56),.bjY 1 (.tmp 3),none⟩,
 ⟨(some 57),.load none (.tmp 56),none⟩,
 ⟨(some 58),.load none (.tmp 6),none⟩,
 ⟨(some 59),.len (.tmp 58),none⟩,
 ⟨(some 60),.call 210 [(.tmp 57),(.tmp 59)],none⟩]
def abY:List aZ:=[
 ⟨(some 8),.mv (.tmp 61),none⟩]
def abZ:List aZ:=[
 ⟨(some 62),.bjY 4 (.tmp 2),none⟩,
 ⟨(some 63),.load none (.tmp 62),none⟩,
 ⟨(some 64),.len (.tmp 63),none⟩,
 ⟨(some 65),.bjD 1 1 [(.bool false)] (.tmp 64) (.tmp 64),none⟩,
 ⟨(some 9),.mv (.tmp 65),none⟩]
def Qg:List aZ:=[
 ⟨(some 66),.mv (.tmp 8),none⟩,
 ⟨(some 67),.len (.tmp 66),none⟩,
 ⟨(some 68),.mv (.const (.int .i64 0)),none⟩]
def Qh:List aZ:=[
 ⟨(some 69),.bin .lss (.tmp 68) (.tmp 67),none⟩]
def Qi:List aZ:=[
 ⟨(some 70),.bjM 1 (.tmp 66) (.tmp 68),none⟩,
 ⟨(some 71),.load none (.tmp 70),none⟩,
 ⟨(some 11),.mv (.tmp 71),none⟩]
def Qj:List aZ:=[
 ⟨(some 72),.load none (.tmp 6),none⟩,
 ⟨(some 73),.mv (.tmp 11),none⟩,
 ⟨(some 74),.bjM 1 (.tmp 72) (.tmp 73),none⟩,
 ⟨(some 75),.load none (.tmp 74),none⟩,
 ⟨(some 76),.len (.tmp 75),none⟩,
 ⟨(some 77),.mv (.const (.int .i64 0)),none⟩]
def Qk:List aZ:=[
 ⟨(some 78),.bin .lss (.tmp 77) (.tmp 76),none⟩]
def Ql:List aZ:=[
 ⟨(some 79),.bjM 1 (.tmp 75) (.tmp 77),none⟩,
 ⟨(some 80),.load none (.tmp 79),none⟩,
 ⟨(some 13),.mv (.tmp 80),none⟩]
def Qm:List aZ:=[
 ⟨(some 81),.mv (.tmp 9),none⟩,
 ⟨(some 82),.mv (.tmp 13),none⟩,
 ⟨(some 83),.bjM 1 (.tmp 81) (.tmp 82),none⟩,
 ⟨none,.store 1 (.tmp 83) (.const (.bool true)),none⟩]
def Qn:List aZ:=[
 ⟨(some 84),.bin .add (.tmp 77) (.const (.int .i64 1)),none⟩,
 ⟨(some 77),.mv (.tmp 84),none⟩]
def cz:aC:=(.seq (.region Qk) (.seq (.cond (.tmp 78) .skip (.exit 4)) (.seq (.block 5 (.seq (.region Ql) (.region Qm))) (.region Qn))))
def Qo:List aZ:=[
 ⟨(some 85),.bin .add (.tmp 68) (.const (.int .i64 1)),none⟩,
 ⟨(some 68),.mv (.tmp 85),none⟩]
def c7:aC:=(.seq (.region Qh) (.seq (.cond (.tmp 69) .skip (.exit 2)) (.seq (.block 3 (.seq (.region Qi) (.seq (.region Qj) (.block 4 (.loop cz))))) (.region Qo))))
def Qp:List aZ:=[
 ⟨(some 14),.mv (.const .aK),none⟩]
def Qq:List aZ:=[
 ⟨(some 86),.mv (.tmp 9),none⟩,
 ⟨(some 87),.len (.tmp 86),none⟩,
 ⟨(some 88),.mv (.const (.int .i64 0)),none⟩]
def Qr:List aZ:=[
 ⟨(some 89),.bin .lss (.tmp 88) (.tmp 87),none⟩]
def c9:List aZ:=[
 ⟨(some 90),.mv (.tmp 88),none⟩,
 ⟨(some 91),.bjM 1 (.tmp 86) (.tmp 88),none⟩,
 ⟨(some 92),.load none (.tmp 91),none⟩,
 ⟨(some 15),.mv (.tmp 90),none⟩,
 ⟨(some 16),.mv (.tmp 92),none⟩]
def da:List aZ:=[
 ⟨(some 93),.mv (.tmp 16),none⟩]
def Qs:List aZ:=[
 ⟨(some 94),.mv (.tmp 14),none⟩,
 ⟨(some 95),.mv (.tmp 15),none⟩,
 ⟨(some 96),.bjB true 1 1 [(.int .i64 0)] [(0,(.tmp 95))],none⟩,
 ⟨(some 97),.append 1 8 (.tmp 94) (.tmp 96),none⟩,
 ⟨(some 14),.mv (.tmp 97),none⟩]
def db:List aZ:=[
 ⟨(some 98),.bin .add (.tmp 88) (.const (.int .i64 1)),none⟩,
 ⟨(some 88),.mv (.tmp 98),none⟩]
def c8:aC:=(.seq (.region Qr) (.seq (.cond (.tmp 89) .skip (.exit 6)) (.seq (.block 7 (.seq (.region c9) (.seq (.region da) (.cond (.tmp 93) (.region Qs) .skip)))) (.region db))))
def dd:List aZ:=[
 ⟨(some 99),.load none (.tmp 7),none⟩,
 ⟨(some 100),.mv (.tmp 14),none⟩,
 ⟨(some 101),.bjB true 1 1 [.aK] [(0,(.tmp 100))],none⟩,
 ⟨(some 102),.append 1 24 (.tmp 99) (.tmp 101),none⟩,
 ⟨none,.store 1 (.tmp 7) (.tmp 102),none⟩]
def Qt:List aZ:=[
 ⟨(some 103),.load none (.tmp 7),none⟩,
 ⟨(some 4),.mv (.tmp 103),none⟩,
 ⟨(some 5),.mv (.const (.int .i64 0)),none⟩]
def cx:aC:=(.region abY)
def cy:aC:=(.block 1 (.seq (.region abZ) (.seq (.seq (.region Qg) (.block 2 (.loop c7))) (.seq (.region Qp) (.seq (.seq (.region Qq) (.block 6 (.loop c8))) (.region dd))))))
def C3:aC:=(.seq (.region Qt) .ret)
def TO(d e:Code):wE:=(.seq (.region abS) (.seq (.seq (.region abT) (.cond (.tmp 39) (.seq (.region CG) .ret) .skip)) (.seq (.region abU) (.seq (.seq (.region abV) (.cond (.tmp 55) (.seq (.region vt) .ret) .skip)) (.seq (.region abW) (.seq (.region abX) (.range (.tmp 60) 104 61 d e cx cy C3)))))))
def aWF:List Nat:=[2,3,96,101]
def aIW(d e:Code):JD:=⟨2,104,TO d e,[.tmp 4,.tmp 5]⟩
theorem aQO{H:PH}{name:Nat}{pre:List PV}{v u:PV}{l:List Int}(w:Plain u)(hp:∀x∈pre,Fx x)(p:cG H 1 v (bF l))(d:l≠[])(h:aH C name (pre++[ints l]) .nil (aF u)) :
  ∃q,v=.osl q 1 0 l.length/\(∃x,H q=some x)/\aH C name (pre++[v]) (H.only [q]) (λr H'=>r=u/\H'=H.only [q]):=by
 rcases p with⟨i,-⟩|⟨q,rs,rfl,h1,h2,h3⟩
 ·exact absurd (List.map_eq_nil_iff.1 i) d
 ·rw[dK]at h2 h3 ⊢;refine⟨q,rfl,⟨_,h1⟩,?_⟩;rw[yr h1];refine aH.aYH w ?_;have e:pre.map (PV.frz q 1 rs)=pre:=by
   conv=>rhs;rw[<-List.map_id pre]
   exact bnH λx y=>hp x y q 1 rs
  rw[blK,e,blM,bmE,CK h2,h3];exact h
theorem IP{α:Type}(L:List α)(x:α)(n:Nat)(h:Z' L=n):(L++[x])[n]?=some x:=by
 subst h;simp
theorem MZ(d:PV)(ps:WPs):(fG d ps).length=Z' ps+1:=by unfold fG sE;simp
structure a8S(f:aE)(now:List (List Int))(r:Int)(d:Nat)(ps:WPs):Prop where
 eq:wls ps=Ko f now r d
 num:Z' ps<=d
 len:∀i (h:i<Z' ps),1<=(ps[i].2).length/\(ps[i].2).length<=d
theorem a8S.of{f:aE}{e:List (List Int)}{r:Int}(y:aOT f e r=true){d:Nat}(A:d<=Z' f.biV){ps:WPs}(h:wls ps=Ko f e r d):a8S f e r d ps:=by
 have k:=Xs y d A;rw[<-h]at k;have p:∀i (h:i<Z' ps),ps[i].2∈wls ps:=λi hi=>blF.2 ⟨ps[i],bkK hi,rfl⟩;have ne:∀l∈wls ps,1<=Z' l:=λl B=>by
  have:=k.ok l B;unfold kw at this;cases l with
  |nil=>cases this
  |cons x xs=>rw[bmB];omega
 refine⟨h,?_,λi hi=>⟨ne _ (p i hi),?_⟩⟩
 ·have u:(wls ps).length<=(wls ps).flatten.length:=by
   generalize wls ps=w at ne
   induction w with
   |nil=>exact bkN _
   |cons l w F =>have:=F λx E=>ne x (List.mem_cons_of_mem _ E);have:=ne l bH;rw[List.flatten_cons,bkQ,bmB];omega
  rw[DL,k.len]at u;exact u
 ·have:=(List.sublist_flatten_of_mem (p i hi)).length_le;rw[k.len]at this;exact this
def a8Q(n top:Int)(r:PV)(H':PH):Prop:=∃o1 o2,o1≠o2/\r=.fn 211 [.ptr o1 1 0 0,.ptr o2 1 0 0]/\H'=(h_.set o1 (.rows 1 [[.int .i64 n]])).set o2 (.rows 1 [[.int .i64 top]])
theorem aWI(n top:Int):TQ.wp C (aX aIY.res (a8Q n top)) (g_ [.int .i64 n,.int .i64 top]) .nil:=by
 simp only[go_sem,TQ,acI,aIY];refine aP λo1 i=>?_;simp only[go_sem];refine aP λo2 d=>?_;have e:o1≠o2:=by rintro rfl;simp only[cW]at d;cases d
 simp only[go_sem,acJ];exact bG (.inr rfl) _ (vs:=[.fn 211 [.ptr o1 1 0 0,.ptr o2 1 0 0]]) Sq b_ ⟨o1,o2,e,rfl,rfl⟩
structure Al(C:Ctx):Prop extends aOO C where
 subs:∀n top:Int,aH C 210 [.int .i64 n,.int .i64 top] .nil (a8Q n top)
 iter:∀(l o1 o2 n top:Nat)(J:Nat->PH->Prop)(ss:List (List Nat)),ss=dT top n 0->1<=n->n<=1000->top<=1000 ->
  (∀k (hk:k<Z' ss) G c,J k G->G c=none->RL C l [.osl c 1 0 n] (G.set c (.rows 1 (bF (cA ss[k])))) (λr H'=>r=.bool true/\J (k+1) H')) ->
  ∀G0 H:PH,J 0 G0->G0.le H->H o1=some (.rows 1 [[.int .i64 n]])->H o2=some (.rows 1 [[.int .i64 top]])->G0 o1=none->G0 o2=none->aH C 211 [FG l,.ptr o1 1 0 0,.ptr o2 1 0 0] H (λ_ H'=>∃G,J ss.length G/\G.le H')
theorem Em(Lb:Al C){F:PF}{H:PH}{n m t o1 o2 top:Nat}{d i:Code}{Q R:aC}{B:List (List Nat)}(Y:B=dT top n 0)(h1:1<=n)(hn:n<=1000)(ht:top<=1000)(α:o1≠o2)
  (I:Nat->PH->Prop) (w:PH) (hI:I 0 w) (O:w.le H) (b1:H o1=some (.rows 1 [[.int .i64 n]])) (b2:H o2=some (.rows 1 [[.int .i64 top]])) (g1:w o1=none) (g2:w o2=none)
  (hY:∀(l:Nat)(x:PV)(J:PH)(Z:PH->Prop),J l=none->Q.wp C (kD C (R.wp C) (MJ Z)) (F.set t x) J->RL C l [x] (J.set l (.loop F m t d i)) (λr H'=>r=.bool true/\∃H2,Z H2/\H2 l=none/\H'=H2.set l (.loop F m t d i)))
  (hb:∀k (hk:k<Z' B) G c,I k G->G c=none->Q.wp C (kD C (R.wp C) (MJ (I (k+1)))) (F.set t (.osl c 1 0 n)) (G.set c (.rows 1 (bF (cA B[k]))))) :
  Zy C 211 [.ptr o1 1 0 0,.ptr o2 1 0 0] F H m t d i (I B.length):=by
 intro l S;have K:w l=none:=by
  cases h:w l with
  |none=>rfl
  |some x=>rw[O l x h]at S;cases S
 have n1:¬o1=l:=λe=>by rw[e,S]at b1;cases b1
 have n2:¬o2=l:=λe=>by rw[e,S]at b2;cases b2
 refine(Lb.iter l o1 o2 n top (λk G=>∃p,I k p/\p l=none/\G=p.set l (.loop F m t d i)) B Y h1 hn ht ?_ (w.set l (.loop F m t d i)) (H.set l (.loop F m t d i)) ⟨w,hI,K,rfl⟩ ?_ ?_ ?_ ?_ ?_).post ?_
 ·rintro k hk G c ⟨p,E,u,rfl⟩ V;have M:¬c=l:=λe=>by rw[e,cW]at V;cases V
  have N:¬l=c:=λe=>M e.symm;have W:p c=none:=by rwa[bD,aD M]at V
  have:=hY l (.osl c 1 0 n) (p.set c (.rows 1 (bF (cA B[k])))) (I (k+1)) (by rw[bD,aD N];exact u) (hb k hk p c E W);have e:(p.set c (.rows 1 (bF (cA B[k])))).set l (.loop F m t d i)=(p.set l (.loop F m t d i)).set c (.rows 1 (bF (cA B[k]))):=by
   refine PH.ext λo=>?_;simp only[bD];by_cases U:o=l
   ·subst U;rw[aI rfl,aD N,aI rfl]
   ·rw[aD U,aD U]
  rw[e]at this;exact this
 ·intro o x A;rw[bD]at A ⊢;split at A
  ·rename_i e;rw[aI e];exact A
  ·rename_i e;rw[aD e];exact O o x A
 ·rw[bD,aD n1];exact b1
 ·rw[bD,aD n2];exact b2
 ·rw[bD,aD n1];exact g1
 ·rw[bD,aD n2];exact g2
 ·rintro r H' ⟨G,⟨p,E,u,rfl⟩,y⟩;have X:H' l=some (.loop F m t d i):=y l _ (by rw[cW]);exact⟨r,.refl _,p,E,(λo x A=>y o x (by
   have:¬o=l:=λe=>by rw[e,u]at A;cases A
   rw[bD,aD this];exact A)),u,X⟩
def a2I(e:Nat)(i:List (List Int))(G:PH):Prop:=∃d ps,aR G [(e,.rows 1 [[d]])] (fG d ps)/\wls ps=i
theorem aWG(Lb:Al C)(J K:Code)(f:aE)(hV:VF f)(hd:Z' f.biV<=12)(p:cJ)(hp:∀m∈p.biW,0<=m/\m<Z' f.biW)(S:Fits p.biW)(hk:1<=p.k)(ν:p.k<=6)(hm:0<=p.m)(ξ:p.m<=4) :
  (TP J K).wp C (aX (aIX J K).res (cI (lay (gP f p)))) (g_ [.agg f.cells,.agg p.cells]) .nil:=by
 obtain⟨n,hn⟩:∃n:Nat,(n:Int)=jE p:=⟨(p.k+p.m).toNat,by unfold jE;omega⟩;have β:1<=n/\n<=10:=by unfold jE at hn;omega
 have hw:i_.wrap (p.k+p.m)=(n:Int):=by rw[hn];exact wrap_i64 Om Om
 simp only[go_sem,TP,wE.wp,acA,acB,aIX];refine aP λB γ=>?_;simp only[go_sem,acC,hw,bkG];refine nE (Lb.subs n f.biV.length) Sq a_ ?_;rintro r H' ⟨o1,o2,l,rfl,rfl⟩ R;have W:¬B=o1:=λe=>by have:=R o1 _ (by rw[bD,aD l,cW]) rfl;rw[<-e,cW]at this;cases this
 have X:¬B=o2:=λe=>by have:=R o2 _ (by rw[cW]) rfl;rw[<-e,cW]at this;cases this
 have κ:¬o2=o1:=λe=>l e.symm;simp only[go_sem];generalize N:PF.set _ 15 _=F;have f2:F 2=some (.bO f.cells):=by rw[<-N];simp only[go_sem]
 have f3:F 3=some (.bO p.cells):=by rw[<-N];simp only[go_sem]
 have f5:F 5=some (.ptr B 1 0 0):=by rw[<-N];simp only[go_sem]
 have μ:F 15=some (.fn 211 [.ptr o1 1 0 0,.ptr o2 1 0 0]):=by rw[<-N];simp only[go_sem]
 clear N;have ε:dT f.biV.length n 0=dT f.biV.length (jE p).toNat 0:=by rw[<-hn];rfl
 have Q:=qP f.biV.length n 0;have hE:gP f p=((dT f.biV.length n 0).map cA).filter (sA f p):=by rw[ε];rfl
 refine⟨211,[.ptr o1 1 0 0,.ptr o2 1 0 0],a2I B (((((dT f.biV.length n 0).take (dT f.biV.length n 0).length)).map cA).filter (sA f p)),rfl,λhY=>?_,λH2 O=>?_⟩
 ·refine Em (m:=26) (t:=16) Lb rfl β.1 Om Om l (λk=>a2I B ((((dT f.biV.length n 0).take k).map cA).filter (sA f p))) (h_.set B (.rows 1 [[.aK]])) ⟨.aK,[],((aR.nil (H:=h_)).new γ _).AV,rfl⟩ ?_ ?_ ?_ ?_ ?_ hY ?_
  ·intro o x Z;rw[bD]at Z;split at Z
   ·rename_i e;rw[lM];simp only[bD,e,aD W,aD X,mi,if_true];exact Z
   ·cases Z
  ·rw[lM];simp only[bD,aD l,if_true]
  ·rw[lM];simp only[bD,if_true]
  ·rw[bD,aD (λe=>W e.symm)];rfl
  ·rw[bD,aD (λe=>X e.symm)];rfl
  rintro k hk G c ⟨vo,ps,E,w⟩ hc;have δ:=Q _ (bkK hk);have ζ:(dT f.biV.length n 0).take (k+1)=(dT f.biV.length n 0).take k++[(dT f.biV.length n 0)[k]]:=blO hk;generalize(dT f.biV.length n 0)[k]=s at *
  obtain⟨sl,Y,-⟩:=δ;have i:((((dT f.biV.length n 0).take (k+1)).map cA).filter (sA f p))=wls ps++if sA f p (cA s)then[cA s]else[]:=by rw[ζ,blK,List.filter_append,w];congr 1;by_cases c:sA f p (cA s)<;>simp[c]
  have U:(bF (cA s)).length=n:=by rw[dK,fZ,sl]
  have M:=E.aLQ (s:=1) (rows:=bF (cA s)) hc;have hO:cG (G.set c (.rows 1 (bF (cA s)))) 1 (.osl c 1 0 n) (bF (cA s)):=by
   have:=M.own ((fG vo ps).length) (IP _ _ _ rfl)
   rwa[U]at this
  have ο:Z' ps<=4096:=by
   rw[<-DL,w];refine blH (boP ..) ?_;rw[bkG,bkY];have h1:=vY f.biV.length n 0;have M:2^(Z' f.biV-0)<=2^12:=bnR Om Om;have e:(2:Nat)^12=4096:=by decide
   omega
  have d:=Lb.adm f p (cA s) hV hp S ⟨by rw[fZ];omega,λx V=>by obtain⟨y,hy,rfl⟩:=blF.1 V;have:=Y y hy;omega⟩;obtain⟨q,e1,V,d⟩:=aQO (C:=C) (name:=201) (pre:=[.agg f.cells,.agg p.cells]) (u:=.bool (sA f p (cA s))) (.bool _) (λx V=>by
   simp only[bkX,blD,or_false]at V;rcases V with rfl|rfl
   ·exact λ_ _ _=>rfl
   ·exact λ_ _ _=>rfl) hO (λe=>by have:=congrArg List.length e;rw[fZ,sl]at this;simp at this;omega) d
  have eq:c=q:=by injection e1
  subst eq;have ι:=M.at 0 rfl;have θ:¬B=c:=λe=>by have:=E.at 0 rfl;rw[e,hc]at this;cases this
  simp only[go_sem,Qu,acD,Qv,acE,f2,f3];refine aOH (cs:=[]) (vs:=[.agg f.cells,.agg p.cells,.osl c 1 0 n]) (by rw[bmJ];exact d) Sq (my _ _) ?_;cases A:sA f p (cA s)with
  |true=>
   rw[A,aI rfl]at i;simp only[go_sem,acF,f5,θ,E.at 0 rfl];refine M.append 0 (rows:=eH ps) (src:=[[.osl c 1 0 n]]) rfl Sq (by unfold roomFor;rw[pV];simp only[bkV,maxLen];omega) λv' H' h3 η=>?_;obtain⟨q2,rfl⟩:=η bH;have α:=h3.at 0 rfl;have h4:=h3.set 0 rfl (bA.rows 1 [[PV.osl q2 1 0 (eH ps++[[PV.osl c 1 0 n]]).length]]);simp only[go_sem,α,f5,bkX,blD,or_false,forall_eq];refine⟨PV.osl q2 1 0 (eH ps++[[PV.osl c 1 0 n]]).length,ps++[(.osl c 1 0 n,cA s)],?_,?_⟩
   ·have e:fG (.osl q2 1 0 (eH ps++[[PV.osl c 1 0 n]]).length) (ps++[(PV.osl c 1 0 n,cA s)])=((fG vo ps)++[(PV.osl c 1 0 (bF (cA s)).length,1,bF (cA s))]).set 0 (.osl q2 1 0 (eH ps++[[PV.osl c 1 0 n]]).length,1,eH ps++[[PV.osl c 1 0 n]]):=by rw[U];unfold fG eH sE;rw[blK,blK];rfl
    rw[e];exact h4
   ·rw[i];unfold wls;rw[blK];rfl
  |false =>rw[A,aD aU,bmJ]at i;simp only[go_sem];exact⟨vo,ps,M.sub (bmW.refl _) (List.sublist_append_left ..),i.symm⟩
 ·rw[blE,<-hE]at O;obtain⟨vo,ps,E,w⟩:=O;have hb:=E.at 0 rfl;simp only[go_sem,C4,acG,f5,hb];rw[<-w];exact XO (.inr rfl) Sq (E.qR 0)
def vC(f:aE)(bjH:Int):Int:=if kY f bjH then(if f.biV.length>12 then 2 else 0)else 1
def FI(f:aE)(bjH:Int):List (List Int):=if vC f bjH=0 then gP f (dS f bjH)else[]
structure Zt(C:Ctx):Prop extends Al C where
 sets:∀(f:aE)(p:cJ),VF f->Z' f.biV<=12->(∀m∈p.biW,0<=m/\m<Z' f.biW)->Fits p.biW->1<=p.k->p.k<=6->0<=p.m->p.m<=4->aH C 229 [.agg f.cells,.agg p.cells] .nil (aF (lay (gP f p)))
def cyS(r:PV):Spec:=λ_ _=>some ([],λ_=>aF r)
theorem aOZ(x:Zt C)(f:aE)(y:f.Ok)(bjH:Int) :
  NZ.wp C (aX call17.res (cI (.tup [lay (FI f bjH),.int .i64 (vC f bjH)]))) (g_ [.agg f.cells,.int .i64 bjH]) .nil:=by
 have hB:FI f bjH=if vC f bjH=0 then gP f (dS f bjH)else[]:=rfl
 have e:vC f bjH=if kY f bjH then(if f.biV.length>12 then 2 else 0)else 1:=rfl
 simp only[go_sem,NZ,Pn,Po,call17];refine aB (x.known f bjH y) Ev ?_;cases u:kY f bjH with
 |false =>rw[u,aD aU]at e;rw[e,aD aU]at hB;rw[hB,e];simp only[go_sem,bkW,Pp];exact tG (.inr rfl) Sq (aR.AV aR.nil)
 |true=>
  rw[u,aI rfl]at e;obtain⟨hV,A,E,B⟩:=CQ u;obtain⟨p,w⟩:=zE u;have d:=hV.bjH _ p;have l:=(y.bjH _ p).biW;have i:(f.biZ.map cJ.cells)[bjH.toNat]?=some (dS f bjH).cells:=by rw[blC,w];rfl
  have hlt:bjH<(Z' f.biZ:Nat):=Om;by_cases c:Z' f.biV>12
  ·rw[aI c]at e;rw[e,aD aU]at hB;rw[hB,e];simp only[go_sem,bkO,ck,bkG,show(Z' f.biV:Int)>12 by omega,Pq];exact tG (.inr rfl) Sq (aR.AV aR.nil)
  ·rw[aD c]at e;rw[e,aI rfl]at hB;rw[hB,e];simp only[go_sem,bkO,ck,bkG,show ¬(Z' f.biV:Int)>12 by omega];refine bP .nil (cyS (lay (gP f (dS f bjH)))) a_ ?_;simp only[go_sem,Ps,A,hlt,bkG,i];refine bK rfl (x.sets f (dS f bjH) hV Om d.2.2.2.2.2.2.2 l d.1 d.2.1 d.2.2.1 d.2.2.2.1) Sq a_ ?_;simp only[go_sem];exact bG (.inr rfl) .nil (vs:=[lay (gP f (dS f bjH)),.int .i64 0]) Sq a_ (aF.baF ⟨rfl,rfl⟩)
structure UOk(n:Nat)(U:List (List Int)):Prop where
 len:Z' U<=1000
 at_:∀u∈U,Z' u<=1000/\∀d∈u,0<=d/\d<n
def tE(U:List (List Int))(s:List Nat):List Int:=s.flatMap λi=>U.getD i []
theorem aqS(U:List (List Int))(s:List Nat){i:Nat}(h:i<Z' s):tE U (s.take (i+1))=tE U (s.take i)++U.getD s[i] []:=by
 unfold tE;rw[blO h,List.flatMap_append];simp
theorem avE(U:List (List Int))(s:List Nat)(d:Nat):(tE U s).contains (d:Int)=mU U s d:=by
 unfold tE mU
 induction s with
 |nil=>rfl
 |cons i s e=>rw[List.flatMap_cons,List.contains_append,e,List.any_cons]
theorem aPI{K:cH}[Up K](X W w c nd n i:Nat)(J:PV)(u:List Int)(β:Z' u<=1000)(hu:∀d∈u,0<=d/\d<nd)(l:List Int){F:PF}{H:PH}{B:List BX}{L:List LI}
  (x:aR H B L) (b:Nat) (hb:B[b]?=some (w,.rows 1 (eT (marks nd l))))
  (Z:(((((((((((n_.set 2 (J)).set 6 (.ptr X 1 0 0)).set 7 (.ptr W 1 0 0)).set 9 (.osl w 1 0 nd)).set 66 (.osl c 1 0 n)).set 67 (.int .i64 n)).set 68 (.int .i64 i)).set 75 (ints u)).set 76 (.int .i64 (Z' u:Nat))).set 77 (.int .i64 0))).le F)
  (hK:∀H',aR H' (B.set b (w,.rows 1 (eT (marks nd (l++u))))) L->K (.exit 4) ((((((((n_.set 2 (J)).set 6 (.ptr X 1 0 0)).set 7 (.ptr W 1 0 0)).set 9 (.osl w 1 0 nd)).set 66 (.osl c 1 0 n)).set 67 (.int .i64 n)).set 68 (.int .i64 i))) H') :
  aC.wp C (.loop cz) K F H:=by
 refine wp_loop (α:=Nat × PH) (λs=>((((((((((n_.set 2 (J)).set 6 (.ptr X 1 0 0)).set 7 (.ptr W 1 0 0)).set 9 (.osl w 1 0 nd)).set 66 (.osl c 1 0 n)).set 67 (.int .i64 n)).set 68 (.int .i64 i)).set 75 (ints u)).set 76 (.int .i64 (Z' u:Nat))).set 77 (.int .i64 s.1))) (λs=>s.2) (λs=>s.1<=Z' u/\aR s.2 (B.set b (w,.rows 1 (eT (marks nd (l++u.take s.1))))) L) (λs=>Z' u-s.1) (0,H) ⟨bkL _,?_⟩ Z b_ ?_
 ·rw[List.take_zero,bmJ];have e:B.set b (w,.rows 1 (eT (marks nd l)))=B:=by obtain⟨h1,E⟩:=blQ.1 hb;rw[<-E,List.set_getElem_self]
  rw[e];exact x
 rintro⟨j,Y⟩ ⟨hj,x⟩;simp only at hj x;have M:b<Z' B:=(blQ.1 hb).1;have y:(B.set b (w,bA.rows 1 (eT (marks nd (l++u.take j)))))[b]?=some (w,.rows 1 (eT (marks nd (l++u.take j)))):=List.getElem?_set_self M;simp only[go_sem,cz,Qk];by_cases hlt:j<Z' u
 ·have p:(j:Int)<(Z' u:Nat):=Om;have R:(u.map λn=>[PV.int .i64 n])[j]?=some [.int .i64 u[j]]:=by simp[hlt]
  obtain⟨U,V⟩:=hu _ (bkK hlt);have S:u.take (j+1)=u.take j++[u[j]]:=blO hlt;have O:(u[j]).toNat<(eT (marks nd (l++u.take j))).length:=by rw[LZ,fl];omega
  have N:(eT (marks nd (l++u.take j)))[(u[j]).toNat]?=some [.bool ((l++u.take j).contains u[j])]:=by unfold eT;rw[blC,KK U V];rfl
  have Q:=x.at b y;have E:=x.set b y (.rows 1 (eT (marks nd (l++u.take (j+1)))));rw[List.set_set]at E;have A:=fm (l:=l++u.take j) U V;rw[blW,<-S]at A;simp only[go_sem,p,Ql,R,Qm,U,V,blG,Q,N,O,oO,A,Qn,wZz j];exact aG (j+1,Y.set w (.rows 1 (eT (marks nd (l++u.take (j+1)))))) ⟨hlt,E⟩ (by simp only;omega) Lq b_
 ·have p:¬(j:Int)<(Z' u:Nat):=Om;have:j=Z' u:=Om;subst this;rw[blE]at x;simp only[go_sem,p];exact Up.up Lq (hK Y x)
def scB(d i c e:Nat)(p:PV)(U:List (List Int))(s:List Nat)(nd:Nat)(l:List Int):List BX:=[(d,.rows 1 [[p]]),(i,.rows 1 [[lay U]]),(c,.rows 1 (bF (cA s))),(e,.rows 1 (eT (marks nd l)))]
theorem atT{K:cH}[Up K](y p w c nd n:Nat)(B V:PV)(U:List (List Int))(hU:UOk nd U)(s:List Nat)(hs:Z' s=n)(Q:∀x∈s,x<Z' U)(hn:n<=1000){F:PF}{H:PH}{L:List LI}
  (l:aR H (scB p y c w V U s nd []) L)
  (Y:((((((((n_.set 2 (B)).set 6 (.ptr y 1 0 0)).set 7 (.ptr p 1 0 0)).set 9 (.osl w 1 0 nd)).set 66 (.osl c 1 0 n)).set 67 (.int .i64 n)).set 68 (.int .i64 0))).le F)
  (Z:∀H',aR H' (scB p y c w V U s nd (tE U s)) L->K (.exit 2) (((((n_.set 2 (B)).set 6 (.ptr y 1 0 0)).set 7 (.ptr p 1 0 0)).set 9 (.osl w 1 0 nd))) H') :
  aC.wp C (.loop c7) K F H:=by
 refine wp_loop (α:=Nat × PH) (λt=>(((((((n_.set 2 (B)).set 6 (.ptr y 1 0 0)).set 7 (.ptr p 1 0 0)).set 9 (.osl w 1 0 nd)).set 66 (.osl c 1 0 n)).set 67 (.int .i64 n)).set 68 (.int .i64 t.1))) (λt=>t.2) (λt=>t.1<=Z' s/\aR t.2 (scB p y c w V U s nd (tE U (s.take t.1))) L) (λt=>Z' s-t.1) (0,H) ⟨bkL _,l⟩ Y b_ ?_;rintro⟨i,X⟩ ⟨hi,l⟩;simp only at hi l;simp only[go_sem,c7,Qh];by_cases hlt:i<Z' s
 ·have d:(i:Int)<(n:Nat):=Om;have hc:=l.at 2 rfl;have O:=l.at 1 rfl;have M:=CU hlt;have N:i<(bF (cA s)).length:=by rw[dK,fZ];exact hlt
  have R:=Q s[i] (bkK hlt);have S:((s[i]:Nat):Int)<(Z' U:Nat):=Om;have e:=aqS U s hlt;have A:=hU.at_ U[s[i]] (bkK R);have J:U.getD s[i] []=U[s[i]]:=by simp[blB,R]
  have E:(U.map λr=>[ints r])[s[i]]?=some [ints U[s[i]]]:=by simp[R]
  rw[J]at e;generalize U[s[i]]=u at *
  generalize s[i]=x at *
  simp only[go_sem,d,Qi,hc,M,N,blG,Qj,O,S,bkG,E];have one:=λ{K:cH} [Up K] {F:PF}=>aPI (C:=C) (K:=K) y p w c nd n i B u A.1 A.2 (tE U (s.take i)) (F:=F) l 3 rfl;refine one (by(repeat' (first|exact c_|refine d_ ?_ ?_))<;>first|(simp only[go_sem,bkG]<;>rfl)|rfl) λH' W=>?_;rw[<-e]at W;simp only[go_sem,Qo,wZz i];exact aG (i+1,H') ⟨hlt,W⟩ (by simp only;omega) Lq b_
 ·have d:¬(i:Int)<(n:Nat):=Om;have:i=Z' s:=Om;subst this;rw[blE]at l;simp only[go_sem,d];exact Up.up Lq (Z X l)
def scD(l:List Int)(k:Nat):List Int:=cA ((bkH k).filter λd=>l.contains (d:Int))
theorem a0K(l:List Int)(k:Nat):scD l (k+1)=if l.contains (k:Int)then scD l k++[(k:Int)]else scD l k:=by
 unfold scD;rw[boE,List.filter_append,ajV];by_cases h:l.contains (k:Int)
 ·rw[aI h];simp[cA]at h ⊢;simp[h]
 ·rw[aD h];simp[cA]at h ⊢;simp[h]
theorem a6Z(l:List Int)(k:Nat):(scD l k).length<=k:=by
 unfold scD;rw[fZ];exact blH (boP ..) bH
theorem abQ{K:cH}[Up K](w u B c nd:Nat)(W:nd<=1000)(E J:PV)(U:List (List Int))(s:List Nat)(l:List Int){F:PF}{H:PH}{L:List LI}
  (i:aR H (scB u w c B J U s nd l) L)
  (R:((((((((n_.set 2 (E)).set 6 (.ptr w 1 0 0)).set 7 (.ptr u 1 0 0)).set 14 (.aK)).set 86 (.osl B 1 0 nd)).set 87 (.int .i64 nd)).set 88 (.int .i64 0))).le F)
  (S:∀v H',aR H' (scB u w c B J U s nd l) (L++[(v,1,bF (scD l nd))])->K (.exit 6) (((((n_.set 2 (E)).set 6 (.ptr w 1 0 0)).set 7 (.ptr u 1 0 0)).set 14 (v))) H') :
  aC.wp C (.loop c8) K F H:=by
 refine wp_loop (α:=Nat × PV × PH) (λt=>(((((((n_.set 2 (E)).set 6 (.ptr w 1 0 0)).set 7 (.ptr u 1 0 0)).set 14 (t.2.1)).set 86 (.osl B 1 0 nd)).set 87 (.int .i64 nd)).set 88 (.int .i64 t.1))) (λt=>t.2.2) (λt=>t.1<=nd/\aR t.2.2 (scB u w c B J U s nd l) (L++[(t.2.1,1,bF (scD l t.1))])) (λt=>nd-t.1) (0,.aK,H) ⟨bkL _,i.rA 1⟩ R b_ ?_;clear i;rintro⟨k,v,M⟩ ⟨V,i⟩;simp only at V i;simp only[go_sem,c8,Qr];by_cases hlt:k<nd
 ·have e:(k:Int)<(nd:Nat):=Om;have y:=i.at 3 rfl;have d:=a0K l k;have Q:=a6Z l k;have x:k<(eT (marks nd l)).length:=by rw[LZ,fl];exact hlt
  have p:(eT (marks nd l))[k]?=some [.bool (l.contains (k:Int))]:=by have:=KK (n:=nd) (l:=l) (m:=(k:Int)) Om e;rw[bmI]at this;unfold eT;rw[blC,this];rfl
  cases O:l.contains (k:Int)with
  |true=>
   rw[O]at p d;rw[aI rfl]at d;simp only[go_sem,e,c9,y,p,x,blG,da,Qs];refine i.append L.length (rows:=bF (scD l k)) (src:=[[.int .i64 k]]) (IP _ _ _ rfl) Sq (by unfold roomFor;rw[dK];simp only[bkV,maxLen];omega) λv' H' N _=>?_;have A:bF (scD l k)++[[.int .i64 k]]=bF (scD l (k+1)):=by rw[d,KF];rfl
   rw[A,bnJ _ _ (bkN _),bnF]at N;simp only[go_sem,db,wZz k];exact aG (k+1,v',H') ⟨hlt,N⟩ (by simp only;omega) Lq b_
  |false =>rw[O]at p d;rw[aD aU]at d;rw[<-d]at i;simp only[go_sem,e,c9,y,p,x,blG,da,db,wZz k];exact aG (k+1,v,M) ⟨hlt,i⟩ (by simp only;omega) Lq b_
 ·have e:¬(k:Int)<(nd:Nat):=Om;have:k=nd:=Om;subst this;simp only[go_sem,e];exact Up.up Lq (S v M i)
def eZ(f:aE)(lv cnt:Int):Int:=if cQ f&&(decide (1<=lv)&&decide (lv<=5)&&decide (1<=cnt)&&decide (cnt<=3))then(if 12<Z' f.biV\/512<eQ ((iV f lv).length:Nat) cnt.toNat then 2 else 0)else 1
def fH(f:aE)(lv cnt:Int):List (List Int):=if eZ f lv cnt=0 then tV f (iV f lv) cnt.toNat else[]
structure Zu(C:Ctx):Prop extends Zt C where
 val:∀f:aE,f.Ok->aH C 96 [.agg f.cells] .nil (aF (.int .i64 (uP f)))
 units:∀(f:aE)(lv:Int),VF f->1<=lv->lv<=5->aH C 206 [.agg f.cells,.int .i64 lv] .nil (aF (lay (iV f lv)))
 choose:∀m n:Nat,m<=1000->n<=3->aH C 207 [.int .i64 m,.int .i64 n] .nil (aF (.int .i64 (max (eQ m n) 0)))
theorem LG{f:aE}(hV:VF f)(lv:Int):UOk f.biV.length (iV f lv)/\(iV f lv).length<=40:=by
 have E:=hV.small.biV;have w:=hV.small.biY;by_cases c:lv=5
 ·subst c;rw[Wz];refine⟨⟨by simp;omega,λu l=>?_⟩,by simp;omega⟩;obtain⟨d,e,rfl⟩:=blF.1 l;rw[blN]at e;refine⟨by simp,λx p=>?_⟩;rw[bmF]at p;omega
 ·rw[zr f c];have A:(uE f lv f.biV.length).length<=40:=by rw[J2];exact blH (boP ..) (by simp;omega)
  refine⟨⟨by omega,λu l=>?_⟩,A⟩;obtain⟨i,-,rfl⟩:=blF.1 l;refine⟨by rw[fZ];have:=Ej f lv f.biV.length i;omega,λx p=>?_⟩;obtain⟨y,B,rfl⟩:=blF.1 p;have:=blN.1 (List.mem_filter.1 B).1;omega
theorem baE(U:List (List Int))(s:List Nat)(nd:Nat):scD (tE U s) nd=cA ((bkH nd).filter (mU U s)):=by
 unfold scD;congr 2;funext d;exact avE U s d
instance upDone{R:PH->Prop}:Up (MJ R):=⟨λ{e F d H} _ h=>by cases e<;>exact h⟩
def Z8(e i:Nat)(U:List (List Int))(l:List (List Int))(G:PH):Prop:=∃d ps,aR G [(e,.rows 1 [[d]]),(i,.rows 1 [[lay U]])] (fG d ps)/\wls ps=l
theorem atU(f:aE)(hV:VF f)(U:List (List Int))(hU:UOk f.biV.length U)(W:Z' U<=40)(n:Nat)(α:1<=n)(hn:n<=3)(A l:Nat)(F:PF)(f2:F 2=some (.bO f.cells))(f6:F 6=some (.ptr A 1 0 0))(f7:F 7=some (.ptr l 1 0 0))(k:Nat)(X:k<(dT U.length n 0).length)(G:PH)(c:Nat)
  (hI:Z8 l A U (((dT U.length n 0).take k).map λs=>cA ((bkH f.biV.length).filter (mU U s))) G) (hc:G c=none) :
  cx.wp C (kD C (cy.wp C) (MJ (Z8 l A U (((dT U.length n 0).take (k+1)).map λs=>cA ((bkH f.biV.length).filter (mU U s)))))) (F.set 61 (.osl c 1 0 n)) (G.set c (.rows 1 (bF (cA (dT U.length n 0)[k])))):=by
 obtain⟨p,ps,hH,Y⟩:=hI;have w:=hV.small;have J:(Z' f.biV:Int)*((1:Nat):Int)<=140737488355328:=by have:=w.biV;omega
 have M:(Z' f.biV:Int)<=9223372036854775807:=by have:=w.biV;omega
 have d:(0:Int)<=(Z' f.biV:Int):=Om;have O:=qP U.length n 0 _ (bkK X);have Q:(dT U.length n 0).take (k+1)=(dT U.length n 0).take k++[(dT U.length n 0)[k]]:=blO X;have β:Z' ps<=1099511627776:=by
  rw[<-DL,Y,bkG,bkY];have h1:=vY U.length n 0;have S:2^(Z' U-0)<=2^40:=bnR Om Om;have e:(2:Nat)^40=1099511627776:=by decide
  omega
 generalize(dT U.length n 0)[k]=s at *
 obtain⟨sl,E,-⟩:=O;rw[Q,blK,<-Y];have S:=hH.new hc (.rows 1 (bF (cA s)));simp only[go_sem,cx,abY,cy,abZ,f2,bkG,J,M,d,Int.le_refl,bmI];refine aP λR N=>?_;rw[ch];have h3:=S.new N (.rows 1 (eT (marks f.biV.length [])));simp only[go_sem,Qg];have mk:=λ{K:cH} [Up K] {F:PF} {H:PH}=>atT (C:=C) (K:=K) A l R c f.biV.length n (.bO f.cells) p U hU s sl (λx hx=>(E x hx).2) Om (F:=F) (H:=H) (L:=fG p ps);refine mk h3 (by(repeat' (first|exact c_|refine d_ ?_ ?_))<;>first|(simp only[go_sem,f2,f6,f7]<;>rfl)|rfl) λH1 h4=>?_;simp only[go_sem,Qp,Qq];have Z:=λ{K:cH} [Up K] {F:PF} {H:PH}=>abQ (C:=C) (K:=K) A l R c f.biV.length (by have:=w.biV;omega) (.bO f.cells) p U s (tE U s) (F:=F) (H:=H) (L:=fG p ps);refine Z h4 Lq λv H2 h5=>?_;have V:=h5.own (fG p ps).length (IP _ _ _ rfl);have B:=h5.at 0 rfl;rw[baE]at h5 V;generalize hD:cA ((bkH f.biV.length).filter (mU U s))=D at *
 have fin:∀(i:Nat)(H':PH),aR H' (scB l A c R p U s f.biV.length (tE U s)) ((fG p ps++[(v,1,bF D)]).set 0 (PV.osl i 1 0 (eH ps++[[v]]).length,1,eH ps++[[v]]))->Z8 l A U (wls ps++[D]) (H'.set l (.rows 1 [[PV.osl i 1 0 (eH ps++[[v]]).length]])):=by
  intro i H' u;have h7:=u.set 0 rfl (bA.rows 1 [[PV.osl i 1 0 (eH ps++[[v]]).length]]);refine⟨PV.osl i 1 0 (eH ps++[[v]]).length,ps++[(v,D)],?_,?_⟩
  ·have e:fG (PV.osl i 1 0 (eH ps++[[v]]).length) (ps++[(v,D)])=(fG p ps++[(v,1,bF D)]).set 0 (PV.osl i 1 0 (eH ps++[[v]]).length,1,eH ps++[[v]]):=by unfold fG eH sE;rw[blK,blK];rfl
   rw[e];exact(h7.qR 3).qR 2
  ·unfold wls;rw[blK];rfl
 have room:roomFor (eH ps).length 1 24:=by unfold roomFor;rw[pV];simp only[maxLen];omega
 rcases V with⟨-,rfl⟩|⟨q,rs,rfl,-,-,-⟩
 ·simp only[go_sem,dd,B,bkX,blD,or_false,forall_eq];refine h5.append 0 (rows:=eH ps) (src:=[[PV.aK]]) rfl Sq room λv' H' u y=>?_;obtain⟨i,rfl⟩:=y bH;have d:=u.at 0 rfl;simp only[go_sem,d,bkX,blD,or_false,forall_eq];exact fin i H' u
 ·simp only[go_sem,dd,B,bkX,blD,or_false,forall_eq];refine h5.append 0 (rows:=eH ps) (src:=[[PV.osl q 1 0 (bF D).length]]) rfl Sq room λv' H' u y=>?_;obtain⟨i,rfl⟩:=y bH;have d:=u.at 0 rfl;simp only[go_sem,d,bkX,blD,or_false,forall_eq];exact fin i H' u
abbrev oI(lv cnt:Int):PV:=.agg [.int .i64 lv,.int .i64 cnt]
theorem abR(J:Zu C)(K M:Code)(f:aE)(hf:f.Ok)(lv cnt:Int) :
  (TO K M).wp C (aX (aIW K M).res (cI (.tup [lay (fH f lv cnt),.int .i64 (eZ f lv cnt)]))) (g_ [.agg f.cells,oI lv cnt]) .nil:=by
 have hB:fH f lv cnt=if eZ f lv cnt=0 then tV f (iV f lv) cnt.toNat else[]:=rfl
 have O:eZ f lv cnt=if cQ f&&(decide (1<=lv)&&decide (lv<=5)&&decide (1<=cnt)&&decide (cnt<=3))then(if 12<Z' f.biV\/512<eQ ((iV f lv).length:Nat) cnt.toNat then 2 else 0)else 1:=rfl
 have hv:=J.val f hf;unfold uP at hv;have i:∀(e:Int)(F:PF)(H:PH),e≠0->eZ f lv cnt=e->F 4=some .aK->F 5=some (.int .i64 e)->aX [.tmp 4,.tmp 5] (cI (.tup [lay (fH f lv cnt),.int .i64 (eZ f lv cnt)])) .ret F H:=by intro e F H he d h2 h3;rw[d,aD he]at hB;rw[hB,d];exact tG (H:=H) (.inr rfl) (by simp only[go_sem,h2,h3]) (show aR H [] (fG .aK [])from aR.AV aR.nil)
 have X:(cQ f&&(decide (1<=lv)&&decide (lv<=5)&&decide (1<=cnt)&&decide (cnt<=3)))=false->eZ f lv cnt=1:=λh=>by rw[O,h];rfl
 simp only[go_sem,TO,wE.wp,abS,abT,aIW];refine aB hv Ev ?_;cases hp:cQ f with
 |false =>have d:=X (by rw[hp];rfl);simp only[go_sem,dP (show(1:Int)≠0 by decide),CG];exact i 1 _ _ aU d Sq Sq
 |true=>
  have hV:=VF.of hp;by_cases N:lv<1
  ·have d:=X (by rw[bC (Om:¬1<=lv)];simp);simp only[go_sem,cF (show(0:Int)=0 from rfl),N,CG];exact i 1 _ _ aU d Sq Sq
  by_cases c2:lv>5
  ·have d:=X (by rw[bC (Om:¬lv<=5)];simp);simp only[go_sem,cF (show(0:Int)=0 from rfl),N,c2,CG];exact i 1 _ _ aU d Sq Sq
  by_cases c3:cnt<1
  ·have d:=X (by rw[bC (Om:¬1<=cnt)];simp);simp only[go_sem,cF (show(0:Int)=0 from rfl),N,c2,c3,CG];exact i 1 _ _ aU d Sq Sq
  by_cases c4:cnt>3
  ·have d:=X (by rw[bC (Om:¬cnt<=3)];simp);simp only[go_sem,cF (show(0:Int)=0 from rfl),N,c2,c3,c4,CG];exact i 1 _ _ aU d Sq Sq
  obtain⟨n,rfl⟩:∃n:Nat,cnt=n:=⟨cnt.toNat,by omega⟩;rw[hp,aV (Om:1<=lv),aV (Om:lv<=5),aV (Om:(1:Int)<=(n:Int)),aV (Om:(n:Int)<=3),bmV,bmV,bmV,bmV,aI rfl,bmI]at O;rw[bmI]at hB;obtain⟨hU,R⟩:=LG hV lv;have w:=J.units f lv hV Om Om;generalize iV f lv=U at *
  simp only[go_sem,cF (show(0:Int)=0 from rfl),N,c2,c3,c4,abU];refine aB w Ev ?_;simp only[go_sem];refine aP λp δ=>?_;simp only[go_sem,abV,bkG];by_cases c5:12<Z' f.biV
  ·have d:eZ f lv n=2:=by rw[O,aI (.inl c5)]
   simp only[go_sem,show(Z' f.biV:Int)>12 by omega,vt];exact i 2 _ _ aU d Sq Sq
  simp only[go_sem,show ¬(Z' f.biV:Int)>12 by omega];refine aB (J.choose U.length n Om Om) Ev ?_;by_cases c6:512<eQ (Z' U:Nat) n
  ·have d:eZ f lv n=2:=by rw[O,aI (.inr c6)]
   simp only[go_sem,show max (eQ (Z' U:Nat) n) 0>512 by omega,vt];exact i 2 _ _ aU d Sq Sq
  have d:eZ f lv n=0:=by rw[O,aD (λh=>h.elim c5 c6)]
  rw[d,aI rfl]at hB;rw[hB,d];simp only[go_sem,show ¬max (eQ (Z' U:Nat) n) 0>512 by omega,abW];refine aP λl E=>?_;have ζ:¬l=p:=by rintro rfl;rw[cW]at E;cases E
  have y:¬p=l:=λe=>ζ e.symm;simp only[go_sem,abX,y,bkG];refine nE (J.subs n U.length) Sq a_ ?_;rintro r H' ⟨o1,o2,B,rfl,rfl⟩ γ;have α:∀o x,(((h_.set o1 (.rows 1 [[.int .i64 n]])).set o2 (.rows 1 [[.int .i64 (Z' U:Nat)]])):PH) o=some x->¬l=o/\¬p=o:=λo x h=>by
   have:=γ o x h rfl;refine⟨λe=>?_,λe=>?_⟩
   ·rw[<-e,cW]at this;cases this
   ·rw[<-e,bD,aD y,cW]at this;cases this
  obtain⟨V,Y⟩:=α o1 _ (by rw[bD,aD B,cW]);obtain⟨W,Z⟩:=α o2 _ (by rw[cW]);simp only[go_sem];generalize Q:PF.set _ 60 _=F;have f2:F 2=some (.bO f.cells):=by rw[<-Q];simp only[go_sem]
  have f6:F 6=some (.ptr p 1 0 0):=by rw[<-Q];simp only[go_sem]
  have f7:F 7=some (.ptr l 1 0 0):=by rw[<-Q];simp only[go_sem]
  have η:F 60=some (.fn 211 [.ptr o1 1 0 0,.ptr o2 1 0 0]):=by rw[<-Q];simp only[go_sem]
  clear Q;have A:tV f U n=((dT U.length n 0).take (dT U.length n 0).length).map λs=>cA ((bkH f.biV.length).filter (mU U s)):=by rw[blE];rfl
  have u:aR ((h_.set p (.rows 1 [[lay U]])).set l (.rows 1 [[.aK]])) [(l,.rows 1 [[.aK]]),(p,.rows 1 [[lay U]])] (fG .aK []):=((((aR.nil (H:=h_)).new δ _).new E _).perm (List.Perm.swap _ _ _) (List.Perm.refl _)).AV;refine⟨211,[.ptr o1 1 0 0,.ptr o2 1 0 0],Z8 l p U (tV f U n),rfl,λhY=>?_,λH2 β=>?_⟩
  ·rw[A];refine Em (m:=104) (t:=61) J.toAl rfl Om Om Om B (λk=>Z8 l p U (((dT U.length n 0).take k).map λs=>cA ((bkH f.biV.length).filter (mU U s)))) ((h_.set p (.rows 1 [[lay U]])).set l (.rows 1 [[.aK]])) ⟨.aK,[],u,rfl⟩ ?_ ?_ ?_ ?_ ?_ hY λk hk G c hI hc=>atU f hV U hU R n Om Om p l F f2 f6 f7 k hk G c hI hc
   ·intro o x S;rw[lM];have e1:¬o=o1:=λe=>by rw[e,bD,aD (λh=>V h.symm),bD,aD (λh=>Y h.symm)]at S;cases S
    have e2:¬o=o2:=λe=>by rw[e,bD,aD (λh=>W h.symm),bD,aD (λh=>Z h.symm)]at S;cases S
    have:((h_.set o1 (.rows 1 [[.int .i64 n]])).set o2 (.rows 1 [[.int .i64 (Z' U:Nat)]]):PH) o=none:=by rw[bD,aD e2,bD,aD e1];rfl
    rw[this];exact S
   ·rw[lM];simp only[bD,aD B,if_true]
   ·rw[lM];simp only[bD,if_true]
   ·rw[bD,aD (λe=>V e.symm),bD,aD (λe=>Y e.symm)];rfl
   ·rw[bD,aD (λe=>W e.symm),bD,aD (λe=>Z e.symm)];rfl
  ·obtain⟨vo,ps,hH,ε⟩:=β;have hb:=hH.at 0 rfl;simp only[go_sem,C3,Qt,f7,hb];rw[<-ε];exact tG (.inr rfl) Sq ((hH.qR 0).qR 0)
end Go.PM
