/-
  Texts of ours, joined. No condition.
-/
import Derived.Test.YtkknafmijabgaaaGreatDoorFD1
import Derived.Test.YtkknafmijabgaaaGreatDoorFD2
import Derived.Test.YtkknafmijabgaaaGreatDoorFD3
import Derived.Test.YtkknafmijabgaaaGreatDoorFD4
import Derived.Test.YtkknafmijabgaaaGreatDoorRows
import Derived.Test.YtkknafmijabgaaaGreatDoorProg
import Derived.KernelRfl
import Derived.ProofKit
import Derived.WalkKit
import Derived.LaidMore
import Derived.OpenShut
import Derived.Stop.Joined
set_option linter.unusedSimpArgs false
set_option linter.unusedVariables false
open Nat renaming reduceEqDiff→γ,reduceAdd→δ,reduceSub→ε,reduceMul→ζ,reduceLT→η,reduceLeDiff→θ
open Int renaming reduceLT→ι,reduceLE→κ,reduceEq→μ
open List renaming length_map→bfY,range→bfZ,replicate→bgA,length_append→bgB,getElem_mem→bgD,getD_eq_getElem?_getD→bgF,getElem?_eq_getElem→bgH,length_singleton→bgI,mem_cons→bgN,length_take→bgP,take_of_length_le→bgR,getElem?_map→bgT,mem_range→bgW,append_assoc→bgX,all_eq_true→bgY,not_mem_nil→bgZ,take_length→bhA,mem_map→bhC,getElem?_eq_some_iff→bhG,append_nil→bhH,mem_singleton→bhI,map_cons→bhJ,mem_append→bhK,map_append→bhM,drop_zero→bhP,length_drop→bhR,length_cons→bhT,length_set→bhU,getElem_of_mem→bhV,take_succ_eq_append_getElem→bhW,mem_of_getElem?→bhX,getElem_map→bhY,getElem?_append_left→biA,getElem?_append_right→biB,getElem?_range→biH,map_congr_left→biI,Sublist→biK,drop_eq_getElem_cons→biL,length_nil→biM,range_succ→biO,map_nil→biS,length_range→biU,take_append_drop→biZ,nodup_append→bjA,map_map→bjF,mem_cons_of_mem→bjG,nil_append→bjH,cons_append→bjR,mem_filter→bjS,getElem?_set→bjT,contains_iff_mem→bjZ,flatMap_append→bkB,sublist_append_left→bkD
open Nat renaming gcd→bgC,zero_le→bgE,le_refl→bgG,zero_add→bgL,mul_add→bgQ,mul_comm→bhE,mul_le_mul_right→bhF,add_zero→bhL,eq_zero_or_pos→biC,le_trans→biJ,succ_mul→biN,min_eq_left→biP,add_assoc→biV,pos_of_ne_zero→biX,mul_one→bjB,div_eq_of_lt→bjI,div_le_self→bjJ,mul_le_mul→bjL
open Bool renaming not_true→bgJ,false_and→bgK,true_and→bgO,not_false→bgS,and_eq_true→bgU,and_false→bhO,and_true→biG,false_eq_true→bjE,and_assoc→bjM
open Option renaming map_some→bhD,getD_some→biE,some→biQ
open Int renaming toNat_natCast→biR
open List renaming length→Z'
set_option maxRecDepth 100000
set_option maxHeartbeats 800000
noncomputable section
namespace Go.Proofs.YtkknafmijabgaaaGreatDoor
open Go Go.PM Go.RowKit Go.ChangeShapes Go.WideShapes
noncomputable def C:Ctx:=⟨Tryz.prog,num⟩
theorem bP(T:Tbl){k:Nat}{fn:Func}{e:aX}(w:C.P.funcs[C.num k]?=some fn)(l:C.P=T.P:=by rfl)(j:C.num=T.num:=by rfl)(y:(fn.name=="runtime.NumGoroutine")=false:=by kernel_rfl)(u:T.func fn=some e:=by kernel_rfl):bL C k e:=λ_ _ _ x h=>aMI l j w y u x h
theorem Tryz.own:ownKnob Tryz.prog.godebug=none:=by kernel_rfl
theorem Tryz.laidOut:laidOutB Tryz.prog=true:=by kernel_rfl
theorem itoa:EY C:=λn x=>by
 refine⟨⟨Tryz.f79,Tryz.func79,by kernel_rfl,by kernel_rfl⟩,λE w vs y hW j=>?_⟩;obtain⟨A⟩:=vs;cases j with
 |cons l u=>
 cases u;cases l;refine(Any.strconv_Itoa_small Tryz.a1R n x w).mono λe B he=>?_;obtain⟨rfl,rfl⟩:=he;exact⟨_,.str (dH n),E,.nil,rfl,hW,.str ⟨(Lib.decDigits n).toArray⟩,.refl _ _ _,rfl,rfl⟩
theorem aLW{pv:PV}(h:PV.Ty (.sl [.int .u8]) pv):∃l:List Nat,pv=.sl 1 (pA l)∧(∀x∈l,x<256)∧Z' l≤9223372036854775807:=by
 obtain⟨xs,rfl,B,j⟩:=Ty.aUI h;refine⟨xs.map Int.toNat,?_,?_,?_⟩
 ·unfold aHT pA;rw[bjF];congr 1;refine biI λx u=>?_;have:=(j x u).1;simp only[Function.comp];rw[Int.toNat_of_nonneg this]
 ·intro y w;obtain⟨x,e,rfl⟩:=bhC.1 w;have:=(j x e).2;have A:=(j x e).1;have e:IntKind.u8.max=255:=by decide
  rw[e]at this;omega
 ·rw[bfY];have:maxLen≤9223372036854775807:=by decide
  omega
end Go.Proofs.YtkknafmijabgaaaGreatDoor
namespace Go.PM
open Go Go.Na
theorem yq{f:aD}(h:VF f){d:Nat}(e:d<Z' f.beK){lev:Int}(j:0≤lev)(l:lev≤4):jE f d lev<Z' f.beN∧lvl f (jE f d lev)=lev:=by
 unfold jE;obtain⟨a,b⟩:=JX h e (k:=4-lev.toNat) Om;refine⟨a,?_⟩;rw[b];omega
theorem uD{f:aD}(h:VF f){i:Nat}(hi:i<Z' f.beN):0≤lvl f i∧lvl f i≤4:=by
 rcases biC i with e|e
 ·rw[e,h.root.2.1];omega
 ·have:=h.dom i e hi;omega


theorem awR(a b:Nat):mkT (a:Int) (b:Int)=⟨false,aM (a/bgC a b),aM (b/bgC a b)⟩:=by
 have e:decide ((a:Int)<0)=false:=bV Om;have j:decide ((b:Int)<0)=false:=bV Om;unfold mkT tB FV.rf;rw[e,j,Int.natAbs_natCast,Int.natAbs_natCast];rfl
structure SmF(x:RF)(p q:Nat):Prop where
 eq:x=⟨false,aM (p/bgC p q),aM (q/bgC p q)⟩
 a:p≤64
 b:q≤64
 pos:0<q
theorem SmF.mk'{a b:Nat}(e:a≤64)(hb:b≤64)(h:0<b):SmF (mkT (a:Int) (b:Int)) a b:=⟨awR a b,e,hb,h⟩
theorem SmF.num{x:RF}{a b:Nat}(h:SmF x a b):val x.num=a/bgC a b:=by rw[h.eq,aZ]
theorem SmF.den{x:RF}{a b:Nat}(h:SmF x a b):val x.den=b/bgC a b:=by rw[h.eq,aZ]
theorem SmF.v{x:RF}{a b:Nat}(h:SmF x a b):x.v=(false,a/bgC a b,b/bgC a b):=by
 unfold RF.v;rw[h.num,h.den,h.eq]
theorem SmF.afW{x:RF}{a b:Nat}(_:SmF x a b):a/bgC a b≤a:=bjJ ..
theorem SmF.V4{x:RF}{a b:Nat}(_:SmF x a b):b/bgC a b≤b:=bjJ ..
theorem SmF.den_pos{x:RF}{a b:Nat}(h:SmF x a b):0<b/bgC a b:=Nat.div_pos (Nat.le_of_dvd h.pos (Nat.gcd_dvd_right a b)) (Nat.gcd_pos_of_pos_right a h.pos)
theorem HR{n:Nat}(h:n≤4096):dZ n≤32:=(sE n 32).2 Om
theorem apZ{n:Nat}(h:0<n):0<dZ n:=by
 rcases biC (dZ n)with e|e
 ·rw[pJ]at e;omega
 ·exact e
theorem BU{a b:Nat}(j:a≤4096)(hb:b≤4096)(h:0<b):eJ a b=true:=by
 have l:=HR j;have u:=HR hb;have e:=apZ h;unfold eJ;rw[bX e,bX (Om:dZ b≤4096),bX (Om:dZ a≤4096)];rfl
theorem avY{n:Bool}{a b:Nat}(e:a≤4096)(hb:b≤4096):nB n a b=.ok (n&&decide (a/bgC a b≠0),a/bgC a b,b/bgC a b):=by
 have j:=HR (biJ (bjJ a (bgC a b)) e);have l:=HR (biJ (bjJ b (bgC a b)) hb);unfold nB;rw[aE Om]
theorem SmF.lim{x:RF}{a b:Nat}(h:SmF x a b):eG x=true:=by
 have w:=h.afW;have y:=h.V4;have e:=h.den_pos;have:=h.a;have:=h.b;have j:x.neg=false:=by rw[h.eq]
 unfold eG vN;rw[h.num,h.den,j,BU Om Om e,aL rfl,avY Om Om];have l:=bjJ (a/bgC a b) (bgC (a/bgC a b) (b/bgC a b));have u:=bjJ (b/bgC a b) (bgC (a/bgC a b) (b/bgC a b));simp only[bgK,bgS,bgO,bgU,decide_eq_true_eq];exact⟨HR Om,HR Om⟩
theorem SmF.wY{x:RF}{a b:Nat}(h:SmF x a b)(e:0<a):cC x=true:=by
 unfold cC;rw[h.num];exact bX (Nat.ne_of_gt (Nat.div_pos (Nat.le_of_dvd e (Nat.gcd_dvd_left a b)) (Nat.gcd_pos_of_pos_right a h.pos)))
theorem SmF.zero{x:RF}{b:Nat}(h:SmF x 0 b):cC x=false:=by
 unfold cC;rw[h.num,Nat.zero_div];rfl
theorem SmF.one{x:RF}{a b:Nat}(h:SmF x a b)(e:a≤b):FF x=true:=by
 have u:=h.afW;have w:=h.V4;have j:=h.den_pos;have:=h.a;have:=h.b;have l:x.neg=false:=by rw[h.eq]
 unfold FF;rw[h.num,h.den,l,BU Om Om j];have:a/bgC a b≤b/bgC a b:=Nat.div_le_div_right e;show(true&&decide (fJ (a/bgC a b*1) (1*(b/bgC a b))≤0))=true;rw[bjB,Nat.one_mul,bgO];refine bX ?_;unfold fJ;split
 ·decide
 ·split
  ·omega
  ·decide
theorem SmF.ok{x:RF}{a b:Nat}(h:SmF x a b):x.Ok:=by
 have e:=h.afW;have j:=h.V4;have:=h.a;have:=h.b;have k1:nl (a/bgC a b)≤1:=(nJ _ _).2 Om;have k2:nl (b/bgC a b)≤1:=(nJ _ _).2 Om;rw[h.eq];refine⟨bC _,bC _,?_,?_⟩
 ·show(aM _).length≤_;rw[bJ];omega
 ·show(aM _).length≤_;rw[bJ];omega
theorem a0K:∀c:Fin 9,∀k:Fin 9,c.val+k.val≤8 →
  (c.val/bgC c.val 8*(8/bgC k.val 8)+k.val/bgC k.val 8*(8/bgC c.val 8))/bgC (c.val/bgC c.val 8*(8/bgC k.val 8)+k.val/bgC k.val 8*(8/bgC c.val 8)) (8/bgC c.val 8*(8/bgC k.val 8))=(c.val+k.val)/bgC (c.val+k.val) 8 ∧
  8/bgC c.val 8*(8/bgC k.val 8)/bgC (c.val/bgC c.val 8*(8/bgC k.val 8)+k.val/bgC k.val 8*(8/bgC c.val 8)) (8/bgC c.val 8*(8/bgC k.val 8))=8/bgC (c.val+k.val) 8:=by decide +kernel
abbrev eV(c:Nat):FV:=(false,c/bgC c 8,8/bgC c 8)
theorem ku(c:Nat):0<8/bgC c 8:=Nat.div_pos (Nat.le_of_dvd aV (Nat.gcd_dvd_right c 8)) (Nat.gcd_pos_of_pos_right c aV)
theorem Vq{c k:Nat}(h:c+k≤8):mE (eV c) (eV k)=.ok (eV (c+k)):=by
 obtain⟨e,j⟩:=a0K ⟨c,by omega⟩ ⟨k,by omega⟩ h;simp only at e j;have a1:=bjJ c (bgC c 8);have a2:=bjJ k (bgC k 8);have a3:=bjJ 8 (bgC c 8);have a4:=bjJ 8 (bgC k 8);have l:=ku c;have u:=ku k;simp only[mE];rw[BU Om Om l,BU Om Om u,Bool.and_self,aL rfl,aL trivial];have w:c/bgC c 8*(8/bgC k 8)≤8*8:=bjL Om a4;have x:k/bgC k 8*(8/bgC c 8)≤8*8:=bjL Om a3;have y:8/bgC c 8*(8/bgC k 8)≤8*8:=bjL a3 a4;rw[avY Om Om,e,j];rfl
theorem fl:∀(l:List Nat)(c:Nat),c+l.sum≤8→(l.map eV).foldlM mE (eV c)=.ok (eV (c+l.sum))
 |[],c,_=>rfl
 |k::l,c,h=>by rw[List.sum_cons]at h;rw[bhJ,List.foldlM_cons,Vq Om,List.sum_cons,←biV];exact fl l (c+k) Om
theorem a0J:eV 0=(false,0,1):=by decide +kernel
theorem aSY:eV 8=(false,1,1):=by decide +kernel
theorem a3P(l:List Nat)(h:l.sum=8):(match tZ (l.map eV)with
  | .ok (n,a,b)=>decide (wJ n a b false 1 1=0)
  | .error _=>false)=true:=by
 unfold tZ;rw[←a0J,fl l 0 Om,bgL,h,aSY];rfl
def dig(k:Nat):List UInt8:=if k<10 then[UInt8.ofNat (48+k)]else[UInt8.ofNat (48+k/10),UInt8.ofNat (48+k%10)]
def kf:List UInt8→Nat
 |[a]=>a.toNat-48
 |[a,b]=>(a.toNat-48)*10+(b.toNat-48)
 |_=>0
theorem bk{k:Nat}(h:k<100):dH k=dig k:=by
 unfold dH dig;by_cases e:k<10
 ·rw[aL e];exact Lib.decDigits_one e
 ·rw[aE e];exact Lib.decDigits_two e h
theorem V6:∀k:Fin 100,kf (dig k.val)=k.val∧(dig k.val).length≤2∧((dig k.val).all λc=>kK c.toNat)=true:=by decide +kernel
theorem Hv{p:List UInt8}{c:UInt8}{t:List UInt8}(e:p=c::t)(l:jK c.toNat=true)(x:(t.all λc=>kK c.toNat)=true)(y:Z' p≤8){k:Nat}(u:k<100):isName (p++dH k)=true:=by
 obtain⟨-,w,j⟩:=V6 ⟨k,u⟩;simp only at w j;subst e;rw[bk u];show(decide ((c::t++dig k).length≤16)&&jK c.toNat&&(c::t++dig k).all λc=>kK c.toNat)=true;have hi:kK c.toNat=true:=by unfold kK;rw[l];rfl
 rw[bX (by rw[bgB];omega),l,List.all_append,j,List.all_cons,x,hi];rfl
theorem kr{l:List (List UInt8)}(u:∀x∈l,isName x=true)(w:l.Nodup):distinct l=true:=by
 unfold distinct;rw[bgY];intro i hi;rw[bgW]at hi;have e:l.getD i []=l[i]:=by simp[bgF,hi]
 rw[e,u _ (bgD hi),bgO];have:¬l[i]∈l.take i:=by intro A;obtain⟨j,y,e⟩:=bhV A;rw[bgP]at y;rw[List.getElem_take]at e;have:=(List.nodup_iff_pairwise_ne.1 w);rw[List.pairwise_iff_getElem]at this;exact this j i Om hi Om e
 simp[this]
theorem cq{l:List (List UInt8)}{g:List UInt8→Nat}(h:∀i (hi:i<Z' l),g l[i]=i):l.Nodup:=by
 rw[List.nodup_iff_pairwise_ne,List.pairwise_iff_getElem];intro i j hi w hlt e;have u:=h i hi;have x:=h j w;rw[e]at u;omega
theorem AR{l:List (List UInt8)}{p:List UInt8}{c:UInt8}{t:List UInt8}(e:p=c::t)(j:jK c.toNat=true)(w:(t.all λc=>kK c.toNat)=true)(u:Z' p≤8)(A:Z' l≤100)(h:∀i (hi:i<Z' l),l[i]=p++dH i):distinct l=true:=by
 refine kr ?_ (cq (g:=λs=>kf (s.drop p.length)) ?_)
 ·intro x y;obtain⟨i,hi,rfl⟩:=bhV y;rw[h i hi];exact Hv e j w u Om
 ·intro i hi;rw[h i hi];simp only[List.drop_left];rw[bk Om];exact(V6 ⟨i,by omega⟩).1
structure AK(x:RF):Prop where
 lim:eG x=true
 ok:x.Ok
theorem SmF.o{x:RF}{a b:Nat}(h:SmF x a b):AK x:=⟨h.lim,h.ok⟩
theorem wU:SmF pB 0 1:=SmF.mk' (a:=0) (b:=1) aV aV aV
theorem zA(l:List Nat)(a:Nat):AK (kB l a).1∧cC (kB l a).1=true:=by
 have e:=dT l (show 0<6 by decide) a;have j:=dT l (show 0<8 by decide) (aJ l 6 a).2;have:=SmF.mk' (a:=1+(aJ l 6 a).1) (b:=1+(aJ l 8 (aJ l 6 a).2).1) Om Om Om;exact⟨this.o,this.wY Om⟩
theorem aSL(l:List Nat)(i j a:Nat):AK (nH l i j a).1∧(j=i→cC (nH l i j a).1=false)∧(j=i+1→cC (nH l i j a).1=true):=by
 unfold nH;by_cases e:j=i+1
 ·rw[aL e];exact⟨(zA l a).1,λh=>by omega,λ_=>(zA l a).2⟩
 ·rw[aE e];by_cases u:j=i
  ·rw[aL u];exact⟨wU.o,λ_=>wU.zero,λh=>absurd h e⟩
  ·rw[aE u];simp only;split
   ·exact⟨(zA l _).1,λh=>absurd h u,λh=>absurd h e⟩
   ·exact⟨wU.o,λh=>absurd h u,λh=>absurd h e⟩
theorem aBI(l:List Nat)(i a:Nat):∀n,(fQ l i a n).1.length=n∧∀j (u:j<(fQ l i a n).1.length),AK (fQ l i a n).1[j]∧(j=i→cC (fQ l i a n).1[j]=false)∧(j=i+1→cC (fQ l i a n).1[j]=true)
 |0=>⟨rfl,λj u=>absurd u (by simp[fQ])⟩
 |n+1=>by
  obtain⟨w,x⟩:=aBI l i a n;have e:(fQ l i a (n+1)).1=(fQ l i a n).1++[(nH l i n (fQ l i a n).2).1]:=rfl;rw[e];refine⟨by simp[w],λj u=>?_⟩;by_cases hlt:j<(fQ l i a n).1.length
  ·rw[List.getElem_append_left hlt];exact x j hlt
  ·rw[bgB,bgI]at u;have:j=n:=Om;subst this;rw[List.getElem_append_right Om];simp only[List.getElem_singleton];exact aSL l i j _
theorem aBH(l:List Nat)(a:Nat):∀n,(pR l a n).1.length=n∧∀x∈(pR l a n).1,AK x∧cC x=true
 |0=>⟨rfl,λx j=>by cases j⟩
 |n+1=>by
  obtain⟨u,w⟩:=aBH l a n;have e:(pR l a (n+1)).1=(pR l a n).1++[(kB l (pR l a n).2).1]:=rfl;rw[e];refine⟨by simp[u],λx j=>?_⟩;rw[bhK,bhI]at j;rcases j with j|rfl
  ·exact w x j
  ·exact zA l _
theorem aTC(l:List Nat)(n i a:Nat):AK (jN l n i a).1∧(i+1=n→cC (jN l n i a).1=true):=by
 unfold jN;by_cases h:i+1<n
 ·simp only[aL h];refine⟨?_,λe=>by omega⟩;split
  ·exact wU.o
  ·exact(zA l a).1
 ·simp only[aE h];exact⟨(zA l a).1,λ_=>(zA l a).2⟩
def a4W(n:Nat)(beP:List (List RF)):Prop:=∀i (hi:i<Z' beP),beP[i].length=n∧∀j (e:j<beP[i].length),AK beP[i][j]∧(j=i→cC beP[i][j]=false)∧(j=i+1→cC beP[i][j]=true)
def a4S(n:Nat)(exit:List RF):Prop:=∀i (hi:i<Z' exit),AK exit[i]∧(i+1=n→cC exit[i]=true)
structure baY(n i:Nat)(s:MU)(cs:List Nat):Prop where
 start:s.start=cs.map λc=>mkT ((c:Nat):Int) ((8:Nat):Int)
 lens:Z' s.exit=i∧Z' s.beP=i∧Z' cs=i
 left:cs.sum+s.left=8∧(i=n→0<n→s.left=0)
 exit:a4S n s.exit
 beP:a4W n s.beP
theorem zM{α:Type}{P:Nat→α→Prop}{xs:List α}{x:α}(h:∀i (hi:i<Z' xs),P i xs[i])(e:P xs.length x):∀i (hi:i<(xs++[x]).length),P i (xs++[x])[i]:=by
 intro i hi;by_cases hlt:i<Z' xs
 ·rw[List.getElem_append_left hlt];exact h i hlt
 ·rw[bgB,bgI]at hi;have:i=Z' xs:=Om;subst this;rw[List.getElem_append_right Om];simpa using e
theorem K4(l:List Nat)(n a:Nat):∀i,i≤n→∃cs,baY n i (kS l n a i) cs
 |0,_=>⟨[],rfl,⟨rfl,rfl,rfl⟩,⟨rfl,λh u=>by omega⟩,λi hi=>absurd hi (by simp[kS]),λi hi=>absurd hi (by simp[kS])⟩
 |i+1,hi=>by
  obtain⟨cs,y,⟨u,w,A⟩,⟨h5,-⟩,B,h7⟩:=K4 l n a i Om;generalize F:kS l n a i=s at *
  have e:kS l n a (i+1)=⟨s.start++[mkT ((fO l n i s).1:Nat) 8],s.exit++[(jN l n i (fO l n i s).2).1],s.beP++[(fQ l i (jN l n i (fO l n i s).2).2 n).1],s.left-(fO l n i s).1,(fQ l i (jN l n i (fO l n i s).2).2 n).2⟩:=by simp only[kS,F]
  rw[e];have E:(fO l n i s).1≤s.left∧(i+1=n→(fO l n i s).1=s.left):=by
   unfold fO;split
   ·exact⟨by have:=dT l (Om:0<s.left+1) s.a;omega,λh=>by omega⟩
   ·exact⟨bgG _,λ_=>rfl⟩
  refine⟨cs++[(fO l n i s).1],?_,⟨by simp[u],by simp[w],by simp[A]⟩,⟨?_,λh _=>?_⟩,?_,?_⟩
  ·simp only[y,bhM,bhJ,biS];rfl
  ·simp only[List.sum_append,List.sum_cons,List.sum_nil];omega
  ·have:=E.2 h;simp only;omega
  ·refine zM (P:=λi x=>AK x∧(i+1=n→cC x=true)) B ?_;rw[u];exact aTC l n i _
  ·refine zM (P:=λi (r:List RF)=>Z' r=n∧∀j (I:j<Z' r),AK r[j]∧(j=i→cC r[j]=false)∧(j=i+1→cC r[j]=true)) h7 ?_;rw[w];exact aBI l i _ n
theorem aTA{x:dN}{e r:RF}(j:x.exit=[e])(l:x.beP=[[r]])(u:cC e=true):vO x=true:=by
 unfold vO;rw[j];show((eP x 2).all id)=true;simp only[eP,eN,qD,dX,j,l,bhT,biM,List.getD_cons_zero,bhJ,biS,u];cases cC r<;>rfl
theorem d6{x:dN}{y A e j l u:RF}(B:x.exit=[y,A])(E:x.beP=[[e,j],[l,u]])(F:cC A=true)(I:cC j=true)(a b:Bool) :
  ∃c,eN x [a,b] 2=[c,true]∧(b=true→c=true)∧(a=true→c=true):=by
 have J:qD x [a,b] 0=[((a||cC y)||cC e&&(a||cC y))||b,b]:=by unfold qD;rw[B,E];simp only[List.getD_cons_zero,bhJ,List.set_cons_zero];generalize(a||cC y)=c;show dX [c,b] 0 [e,j] 2=_;have:dX [c,b] 0 [e,j] 1=[c||cC e&&c,b]:=rfl;show(let w:=dX [c,b] 0 [e,j] 1;w.set 0 (w.getD 0 false||([e,j].map cC).getD 1 false&&w.getD 1 false))=_;rw[this];show[(c||cC e&&c)||(cC j&&b),b]=_;rw[I,bgO]
 have K:∀c,qD x [c,b] 1=[c,true]:=by intro c;unfold qD;rw[B,E];have:dX [c,true] 1 [l,u] 1=[c,true||cC l&&c]:=rfl;show dX [c,b||cC A] 1 [l,u] 2=_;rw[F,Bool.or_true];show(let w:=dX [c,true] 1 [l,u] 1;w.set 1 (w.getD 1 false||([l,u].map cC).getD 1 false&&w.getD 1 false))=_;rw[this,Bool.true_or];show[c,true||cC u&&true]=_;rw[Bool.true_or]
 refine⟨_,by rw[show eN x [a,b] 2=qD x (qD x [a,b] 0) 1 from rfl,J,K],?_,?_⟩
 ·rintro rfl;rw[Bool.or_true]
 ·rintro rfl;simp
theorem aTB{x:dN}{u I B l E F:RF}(j:x.exit=[u,I])(w:x.beP=[[B,l],[E,F]])(y:cC I=true)(A:cC l=true):vO x=true:=by
 unfold vO;rw[j];show((eP x 3).all id)=true;have e:∀r,eP x (r+1)=eN x (eP x r) 2:=λr=>by rw[eP,j];rfl
 have u:eP x 0=[false,false]:=by rw[eP,j];rfl
 obtain⟨J,k1,-,-⟩:=d6 j w y A false false;obtain⟨K,k2,R,-⟩:=d6 j w y A J true;obtain⟨O,M,N,-⟩:=d6 j w y A K true;rw[e,e,e,u,k1,k2,M,N rfl];rfl
theorem aaX{c:Nat}:∀{cs:List Nat},c∈cs→c≤cs.sum
 |k::t,h=>by
  rw[List.sum_cons];rcases bgN.1 h with rfl|h
  ·omega
  ·have:=aaX h;omega
theorem jm{α:Type}{l:List α}(h:Z' l=2):∃a b,l=[a,b]:=by
 match l,h with
 |[a,b],_=>exact⟨a,b,rfl⟩
theorem a6J(cs:List Nat)(h:cs.sum=8):(match tZ ((cs.map λc=>mkT ((c:Nat):Int) ((8:Nat):Int)).map RF.v)with
  | .ok (n,a,b)=>decide (wJ n a b false 1 1=0)
  | .error _=>false)=true:=by
 have l:∀c∈cs,c≤8:=λc j=>by have:=aaX j;omega
 have e:((cs.map λc=>mkT ((c:Nat):Int) ((8:Nat):Int)).map RF.v)=cs.map eV:=by rw[bjF];refine biI λc j=>?_;have:=l c j;exact(SmF.mk' (a:=c) (b:=8) Om aV aV).v
 rw[e];exact a3P cs h
theorem HQ{α:Type}{p:α→Bool}{l:List α}(h:∀i (hi:i<Z' l),p l[i]=true):l.all p=true:=by
 rw[bgY];intro x e;obtain⟨i,hi,rfl⟩:=bhV e;exact h i hi
theorem aHV(l:List Nat)(a:Nat)(M:List UInt8):pN { (xY l 2 a).1 with name:=M }=true∧({ (xY l 2 a).1 with name:=M }:dN).Ok:=by
 obtain⟨n,hn⟩:∃n,n=1+(aJ l 2 a).1:=⟨_,rfl⟩;have Y:n=1∨n=2:=by have:=dT l (show 0<2 by decide) a;omega
 obtain⟨cs,R,⟨h2,h3,h4⟩,⟨h5,U⟩,N,h7⟩:=K4 l n (aJ l 2 a).2 n (bgG _);generalize hs:kS l n (aJ l 2 a).2 n=s at *
 have e:({ (xY l 2 a).1 with name:=M }:dN)=⟨M,s.start,s.beP,s.exit⟩:=by simp only[xY,←hn,hs]
 rw[e];have K:cs.sum=8:=by have:=U rfl Om;omega
 have X:∀c∈cs,c≤8:=λc V=>by have:=aaX V;omega
 have w:∀x∈s.start,AK x:=by intro x u;rw[R]at u;obtain⟨c,V,rfl⟩:=bhC.1 u;have:=X c V;exact(SmF.mk' (a:=c) (b:=8) Om aV aV).o
 have β:Z' s.start=n:=by rw[R,bfY,h4]
 have A:vO ⟨M,s.start,s.beP,s.exit⟩=true:=by
  rcases Y with rfl|rfl
  ·obtain⟨e,he⟩:=List.length_eq_one_iff.1 h2;obtain⟨η,y⟩:=List.length_eq_one_iff.1 h3;have Z:=(h7 0 Om).1;obtain⟨r,J⟩:=List.length_eq_one_iff.1 Z;have u:=(N 0 Om).2 rfl;simp only[y,List.getElem_cons_zero]at J;simp only[he,List.getElem_cons_zero]at u;exact aTA he (by rw[y,J]) u
  ·obtain⟨e0,e1,he⟩:=jm h2;obtain⟨r0,r1,y⟩:=jm h3;have F:=(h7 0 Om).1;have I:=(h7 1 Om).1;have u:=(N 1 Om).2 rfl;have hy:=((h7 0 Om).2 1 Om).2.2 rfl;simp only[he,List.getElem_cons_succ,List.getElem_cons_zero]at u;simp only[y,List.getElem_cons_succ,List.getElem_cons_zero]at F I hy;obtain⟨γ,δ,B⟩:=jm F;obtain⟨ε,ζ,S⟩:=jm I;simp only[B,List.getElem_cons_succ,List.getElem_cons_zero]at hy;exact aTB he (by rw[y,B,S]) u hy
 constructor
 ·unfold pN;simp only[bgU];refine⟨⟨⟨⟨⟨⟨⟨?_,?_⟩,?_⟩,?_⟩,?_⟩,?_⟩,?_⟩,A⟩
  ·rw[within_iff];omega
  ·exact bX Om
  ·exact bX Om
  ·exact bgY.2 λx u=>(w x u).lim
  ·exact HQ λi hi=>(N i hi).1.lim
  ·rw[bgY];intro i hi;rw[bgW]at hi;obtain⟨k1,k2⟩:=h7 i hi;have eg:s.beP.getD i []=s.beP[i]:=by simp[bgF,hi]
   rw[eg,bgU,bgU];refine⟨⟨bX Om,HQ λj W=>(k2 j W).1.lim⟩,?_⟩;have E:i<s.beP[i].length:=Om;rw[getD_at E,(k2 i E).2.1 rfl];rfl
  ·rw[R];exact a6J cs K
 ·have O:∀m:Nat,m≤2→m≤9223372036854775807:=λm hm=>by omega
  have α:n≤2:=Om;refine⟨⟨?_,λx u=>(w x u).ok⟩,⟨?_,λx u=>?_⟩,?_,λr y=>⟨?_,λx u=>?_⟩⟩
  ·exact O s.start.length Om
  ·exact O s.exit.length Om
  ·obtain⟨i,hi,rfl⟩:=bhV u;exact(N i hi).1.ok
  ·exact O s.beP.length Om
  ·obtain⟨i,hi,rfl⟩:=bhV y;have:=(h7 i hi).1;exact O (s.beP[i]'hi).length Om
  ·obtain⟨i,hi,rfl⟩:=bhV y;obtain⟨j,W,rfl⟩:=bhV u;exact((h7 i hi).2 j W).1.ok
theorem lm(l:List Nat)(a:Nat):∀n,(mB l a n).1.length=n∧∀i (hi:i<(mB l a n).1.length),(mB l a n).1[i].name=[108,97,119]++dH i∧pN (mB l a n).1[i]=true∧(mB l a n).1[i].Ok
 |0=>⟨rfl,λi hi=>absurd hi (by simp[mB])⟩
 |n+1=>by obtain⟨j,u⟩:=lm l a n;have e:(mB l a (n+1)).1=(mB l a n).1++[{ (xY l 2 (mB l a n).2).1 with name:=[108,97,119]++dH n }]:=rfl;rw[e];refine⟨by simp[j],zM (P:=λi (x:dN)=>x.name=[108,97,119]++dH i∧pN x=true∧x.Ok) u ?_⟩;rw[j];exact⟨rfl,aHV l _ _⟩
theorem YZ(l:List Nat)(beS:Nat)(u:0<beS)(a:Nat):∀n,(iD l beS a n).1.length=n∧∀i (hi:i<(iD l beS a n).1.length),(iD l beS a n).1[i].name=[109]++dH i∧∃e p w:Nat,(iD l beS a n).1[i].bfB=e∧1≤e∧e≤4∧(iD l beS a n).1[i].port=p∧1≤p∧p≤8∧(iD l beS a n).1[i].law=w∧w<beS
 |0=>⟨rfl,λi hi=>absurd hi (by simp[iD])⟩
 |n+1=>by
  obtain⟨j,y⟩:=YZ l beS u a n;obtain⟨s,A⟩:∃s,s=iD l beS a n:=⟨_,rfl⟩;have e:(iD l beS a (n+1)).1=(iD l beS a n).1++[⟨[109]++dH n,(1+(aJ l 4 s.2).1:Nat),(1+(aJ l 8 (aJ l 4 s.2).2).1:Nat),((aJ l beS (aJ l 8 (aJ l 4 s.2).2).2).1:Nat)⟩]:=by rw[A];rfl
  rw[e];refine⟨by simp[j],zM (P:=λi (x:eE)=>x.name=[109]++dH i∧∃e p w:Nat,x.bfB=e∧1≤e∧e≤4∧x.port=p∧1≤p∧p≤8∧x.law=w∧w<beS) y ?_⟩;rw[j];have k1:=dT l (show 0<4 by decide) s.2;have k2:=dT l (show 0<8 by decide) (aJ l 4 s.2).2;have B:=dT l u (aJ l 8 (aJ l 4 s.2).2).2;exact⟨rfl,_,_,_,rfl,by omega,by omega,rfl,by omega,by omega,rfl,B⟩
theorem GZ(l:List Nat)(a:Nat):∃n:Nat,(mC l a).1=n∧n≤3:=by
 have h:=dT l (show 0<3 by decide) (aJ l 3 a).2;unfold mC;simp only;split
 ·exact⟨1+(aJ l 3 (aJ l 3 a).2).1,rfl,by omega⟩
 ·exact⟨0,rfl,by omega⟩
theorem iV{n lo hi:Int}(e:lo≤n)(j:n≤hi):within n lo hi=true:=within_iff.2 ⟨e,j⟩
theorem a5W{E:List UInt8}{k m q s1 s2 s3 s4 g h:Nat}{ms:List Int}{A:List RF}{mc:Nat}(I:1≤k)(J:k≤2)(X:m≤2)(M:k≤q)(N:q≤k+m)(O:s1≤3)(F:s2≤3)(R:s3≤3)(S:s4≤3)(V:g≤8)(W:h≤4)
  (y:Z' A=max m 1) (w:∀x∈A,AK x∧cC x=true)
  (K:mc≤2) (l:∃f:Nat,f<mc∧(ms=[(f:Int)]∨mc=2∧ms=[(f:Int),1-(f:Int)])) :
  oA mc ⟨E,(k:Nat),(m:Nat),(q:Nat),0,(s1:Nat),(s2:Nat),(s3:Nat),(s4:Nat),ms,A,mkT (g:Nat) ((8:Nat):Int),mkT (h:Nat) ((1:Nat):Int)⟩=true ∧
  (⟨E,(k:Nat),(m:Nat),(q:Nat),0,(s1:Nat),(s2:Nat),(s3:Nat),(s4:Nat),ms,A,mkT (g:Nat) ((8:Nat):Int),mkT (h:Nat) ((1:Nat):Int)⟩:dV).Ok:=by
 have G:=SmF.mk' (a:=g) (b:=8) Om aV aV;have Z:=SmF.mk' (a:=h) (b:=1) Om aV aV;obtain⟨f,U,l⟩:=l;constructor
 ·unfold oA VA LO;simp only[bgU,List.all_cons,List.all_nil,biG];refine⟨⟨⟨⟨⟨⟨⟨⟨iV Om Om,iV Om Om⟩,bX Om⟩,iV Om Om⟩,rfl⟩,iV Om Om,iV Om Om,iV Om Om,iV Om Om,iV Om Om⟩,?_⟩,⟨⟨⟨⟨bX (by rw[y];omega),?_⟩,G.lim⟩,G.one Om⟩,Z.lim⟩⟩,?_⟩
  ·rcases l with e|⟨-,e⟩<;>rw[e]<;>rfl
  ·rw[bgY];intro x u;rw[(w x u).1.lim,(w x u).2];rfl
  ·rw[bgY];rcases l with rfl|⟨rfl,rfl⟩
   ·intro j B;simp only[bhT,biM,bgW]at B;have:j=0:=Om;subst this;rw[bgU];exact⟨iV aY (by simp;omega),by simp⟩
   ·intro j B;simp only[bhT,biM,bgW]at B;have:j=0∨j=1:=Om;rcases this with rfl|rfl
    ·rw[bgU];exact⟨iV aY (by simp;omega),by simp⟩
    ·rw[bgU];refine⟨iV (by simp;omega) (by simp;omega),?_⟩;have:¬(1-(f:Int)=f):=Om;simp[this]
 ·refine⟨by unfold eX;constructor<;>simp only<;>omega,by unfold eX;constructor<;>simp only<;>omega,by unfold eX;constructor<;>simp only<;>omega,?_,?_,⟨?_,λx u=>(w x u).1.ok⟩,G.ok,Z.ok⟩
  ·show ms.length≤_;rcases l with e|⟨-,e⟩<;>rw[e]<;>simp
  ·show ∀x∈ms,eX x;unfold eX;rcases l with e|⟨F,e⟩<;>rw[e]<;>intro x u<;>simp only[bgN,bgZ,or_false]at u
   ·subst u;omega
   ·rcases u with rfl|rfl<;>omega
  ·show A.length≤_;rw[y];omega
theorem Ud(l:List Nat){mc:Nat}(E:0<mc)(F:mc≤2)(i a:Nat):(sI l mc i a).1.name=[112]++dH i∧oA mc (sI l mc i a).1=true∧(sI l mc i a).1.Ok:=by
 refine⟨rfl,?_⟩;have N:=dT l (show 0<2 by decide) a;have O:=dT l (show 0<3 by decide) (aJ l 2 a).2;have M:=dT l (show 0<4 by decide) (aJ l 3 (aJ l 2 a).2).2;unfold sI;simp only;generalize aJ l 2 a=k at *
 generalize aJ l 3 k.2=m at *
 generalize aJ l 4 m.2=h at *
 have hq:=dT l (Om:0<m.1+1) h.2;generalize aJ l (m.1+1) h.2=q at *
 obtain⟨r1,r2⟩:=aBH l q.2 (max m.1 1);generalize pR l q.2 (max m.1 1)=r at *
 have K:=dT l (show 0<9 by decide) r.2;generalize aJ l 9 r.2=g at *
 obtain⟨R,x,e⟩:=GZ l g.2;generalize mC l g.2=s1 at *
 obtain⟨S,y,j⟩:=GZ l s1.2;generalize mC l s1.2=s2 at *
 obtain⟨U,A,u⟩:=GZ l s2.2;generalize mC l s2.2=s3 at *
 obtain⟨V,B,w⟩:=GZ l s3.2;generalize mC l s3.2=s4 at *
 have I:=dT l E s4.2;generalize aJ l mc s4.2=f at *
 generalize aJ l 2 f.2=b at *
 rw[x,y,A,B];refine a5W Om Om Om Om Om e j u w Om Om r1 r2 F ⟨f.1,I,?_⟩;split
 ·rename_i J;split
  ·exact .inr ⟨by omega,rfl⟩
  ·exact .inl rfl
 ·exact .inl rfl
theorem LM(l:List Nat){mc:Nat}(j:0<mc)(u:mc≤2)(a:Nat):∀n,(fR l mc a n).1.length=n∧∀i (hi:i<(fR l mc a n).1.length),(fR l mc a n).1[i].name=[112]++dH i∧oA mc (fR l mc a n).1[i]=true∧(fR l mc a n).1[i].Ok
 |0=>⟨rfl,λi hi=>absurd hi (by simp[fR])⟩
 |n+1=>by obtain⟨k1,k2⟩:=LM l j u a n;have e:(fR l mc a (n+1)).1=(fR l mc a n).1++[(sI l mc n (fR l mc a n).2).1]:=rfl;rw[e];refine⟨by simp[k1],zM (P:=λi (x:dV)=>x.name=[112]++dH i∧oA mc x=true∧x.Ok) k2 ?_⟩;rw[k1];exact Ud l j u n _
theorem RP(l:List Nat){pc:Nat}(j:0<pc)(a:Nat):∀n,(iJ l pc a n).1.length=n∧∀i (hi:i<(iJ l pc a n).1.length),(iJ l pc a n).1[i].name=[118]++dH i∧∃p:Nat,(iJ l pc a n).1[i].beX=p∧p<pc
 |0=>⟨rfl,λi hi=>absurd hi (by simp[iJ])⟩
 |n+1=>by obtain⟨k1,k2⟩:=RP l j a n;have e:(iJ l pc a (n+1)).1=(iJ l pc a n).1++[⟨[118]++dH n,((aJ l pc (iJ l pc a n).2).1:Nat)⟩]:=rfl;rw[e];refine⟨by simp[k1],zM (P:=λi (x:iY)=>x.name=[118]++dH i∧∃p:Nat,x.beX=p∧p<pc) k2 ?_⟩;rw[k1];exact⟨rfl,_,rfl,dT l j _⟩
abbrev lvs(ds:List dQ):List Int:=ds.map dQ.level
def baW(ds:List dQ)(i:Nat)(d:dQ):Prop:=∃lev p u:Nat,d.name=[rJ lev]++dH (i+1)∧d.level=lev∧1≤lev∧lev≤4∧d.parent=p∧p≤i∧(lvs ds)[p]?=some ((lev:Int)-1)∧d.bfF=u∧1≤u∧u≤16∧AK d.bfA
def a4R(ds:List dQ)(mc i:Nat)(d:fC):Prop:=∃m c:Nat,d.name=[100]++dH i∧d.model=m∧m<mc∧d.machine=c∧(lvs ds)[c]?=some 4
structure GV(mc beK:Nat)(s:GS):Prop where
 len:Z' s.beU≤35
 bfE:Z' s.bfE≤beK
 root:s.beU[0]?=some sC
 dom:∀i (hi:i+1<Z' s.beU),baW s.beU i s.beU[i+1]
 drv:∀i (hi:i<Z' s.bfE),a4R s.beU mc i s.bfE[i]
theorem GV.a{mc beK:Nat}{s:GS}(h:GV mc beK s)(x:Nat):GV mc beK { s with a:=x }:=⟨h.len,h.bfE,h.root,h.dom,h.drv⟩
theorem Zt(l:List Nat){mc beK dom:Nat}(j:0<mc){s:GS}(h:GV mc beK s)(w:(lvs s.beU)[dom]?=some 4):∀n,GV mc beK (oY l mc beK dom s n)∧(oY l mc beK dom s n).beU=s.beU
 |0=>⟨h,rfl⟩
 |n+1=>by
  obtain⟨e,u⟩:=Zt l j h w n;simp only[oY];generalize oY l mc beK dom s n=t at *
  split
  ·rename_i hlt;refine⟨⟨e.len,by simp only[bgB,bgI];omega,e.root,e.dom,?_⟩,u⟩;refine zM (P:=λi d=>a4R t.beU mc i d) e.drv ?_;exact⟨_,dom,rfl,rfl,dT l j _,rfl,by rw[u];exact w⟩
  ·exact⟨e,u⟩
theorem ID{ds:List dQ}{p:Nat}{x:Int}{t:List dQ}(h:(lvs ds)[p]?=some x):(lvs (ds++t))[p]?=some x:=by
 unfold lvs at *
 rw[bhM,biA]
 ·exact h
 ·exact(bhG.1 h).1
theorem a0I(l:List Nat){mc beK dom level:Nat}{s:GS}(h:GV mc beK s)(y:1≤level)(J:level≤4)(B:(lvs s.beU)[dom]?=some ((level:Int)-1))(E:xB beK s=false) :
  GV mc beK (tQ l level dom s)∧(∃t,(tQ l level dom s).beU=s.beU++t)∧(tQ l level dom s).beU.length=Z' s.beU+1∧(lvs (tQ l level dom s).beU)[Z' s.beU]?=some (level:Int):=by
 unfold xB at E;simp only[Bool.or_eq_false_iff,decide_eq_false_iff_not]at E;have I:dom<Z' s.beU:=by
  have:=(bhG.1 B).1
  rwa[bfY]at this
 have M:=dT l (show 0<16 by decide) s.a;have K:=dT l (show 0<6 by decide) (aJ l 3 (aJ l 16 s.a).2).2;unfold tQ;simp only;generalize aJ l 16 s.a=u at *
 generalize aJ l 3 u.2=t at *
 generalize aJ l 6 t.2=k at *
 have A:AK (if t.1=0 then(mkT 1 ((2+k.1:Nat):Int),k.2)else(pB,t.2)).1:=by
  split
  ·exact(SmF.mk' (a:=1) (b:=2+k.1) Om Om Om).o
  ·exact wU.o
 generalize(if t.1=0 then(mkT 1 ((2+k.1:Nat):Int),k.2)else(pB,t.2))=sh at *
 refine⟨⟨by simp only[bgB,bgI];omega,h.bfE,?_,?_,λi hi=>?_⟩,⟨_,rfl⟩,by simp,?_⟩
 ·rw[biA Om];exact h.root
 ·intro i hi;simp only[bgB,bgI]at hi;by_cases hlt:i+1<Z' s.beU
  ·rw[List.getElem_append_left hlt];obtain⟨lev,p,v,e,j,w,x,h5,F,h7,h8⟩:=h.dom i hlt;exact⟨lev,p,v,e,j,w,x,h5,F,ID h7,h8⟩
  ·have:i+1=Z' s.beU:=Om;rw[List.getElem_append_right Om];simp only[List.getElem_singleton];exact⟨level,dom,1+u.1,by rw[this],rfl,y,J,rfl,by omega,ID B,rfl,by omega,by omega,A⟩
 ·obtain⟨m,c,e,j,w,x,h5⟩:=h.drv i hi;exact⟨m,c,e,j,w,x,ID h5⟩
 ·unfold lvs;rw[bhM,biB (by rw[bfY];exact bgG _),bfY,Nat.sub_self];rfl
theorem Zu(l:List Nat){mc beK dom level:Nat}(j:1≤level)(E:level≤4){rec:Nat→GS→GS}
  (e:∀d t,GV mc beK t→(lvs t.beU)[d]?=some (level:Int)→GV mc beK (rec d t)∧∃u,(rec d t).beU=t.beU++u) {s:GS} (h:GV mc beK s) (B:(lvs s.beU)[dom]?=some ((level:Int)-1)) :
  ∀n,GV mc beK (lM l level beK dom rec s n)∧∃u,(lM l level beK dom rec s n).beU=s.beU++u
 |0=>⟨h,[],by simp[lM]⟩
 |n+1=>by
  obtain⟨A,u,x⟩:=Zu l j E e h B n;simp only[lM];generalize lM l level beK dom rec s n=t at *
  split
  ·exact⟨A,u,x⟩
  ·rename_i F;have y:(lvs t.beU)[dom]?=some ((level:Int)-1):=by rw[x];exact ID B
   obtain⟨k1,⟨v,k2⟩,I,J⟩:=a0I l A j E y (by simpa using F);obtain⟨K,w,M⟩:=e ((tQ l level dom t).beU.length-1) (tQ l level dom t) k1 (by rw[I,Nat.add_sub_cancel];exact J);exact⟨K,u++(v++w),by rw[M,k2,x];simp⟩
theorem Zv(l:List Nat){mc beK:Nat}(e:0<mc):∀(k:Nat),k≤4→∀(dom:Nat){s:GS},GV mc beK s→(lvs s.beU)[dom]?=some (4-(k:Int))→GV mc beK (jF l mc beK k dom s)∧∃u,(jF l mc beK k dom s).beU=s.beU++u
 |0,_,dom,s,h,j=>by simp only[jF];obtain⟨x,y⟩:=Zt l e (h.a (aJ l 2 s.a).2) j (1+(aJ l 2 s.a).1);exact⟨x,[],by rw[y];simp⟩
 |k+1,B,dom,s,h,j=>by
  simp only[jF];refine Zu l Om Om (λd t A w=>Zv l e k Om d A ?_) (h.a (aJ l 2 s.a).2) ?_ _
  ·rw[w];congr 1;omega
  ·rw[j];congr 1;omega
theorem K7(lev:Nat)(e:1≤lev)(j:lev≤4):jK (rJ lev).toNat=true∧rJ lev≠100:=by
 have:lev=1∨lev=2∨lev=3∨lev=4:=Om;rcases this with rfl|rfl|rfl|rfl<;>decide
theorem D5(c:UInt8){k:Nat}(e:k<100):kf (([c]++dH k).drop 1)=k:=by
 show kf (dH k)=k;rw[bk e];exact(V6 ⟨k,e⟩).1
theorem aqJ{mc beK:Nat}{s:GS}(h:GV mc beK s)(M:beK≤60):distinct ((s.beU.drop 1).map dQ.name++s.bfE.map fC.name)=true:=by
 have E:∀i (hi:i<((s.beU.drop 1).map dQ.name).length),∃lev:Nat,1≤lev∧lev≤4∧((s.beU.drop 1).map dQ.name)[i]=[rJ lev]++dH (i+1):=by intro i hi;rw[bfY,bhR]at hi;obtain⟨lev,p,u,l,-,I,w,-⟩:=h.dom i Om;refine⟨lev,I,w,?_⟩;rw[bhY,List.getElem_drop];simp only[Nat.add_comm 1 i];exact l
 have hB:∀i (hi:i<(s.bfE.map fC.name).length),(s.bfE.map fC.name)[i]=[100]++dH i:=by intro i hi;rw[bfY]at hi;obtain⟨m,c,l,-⟩:=h.drv i hi;rw[bhY];exact l
 have N:((s.beU.drop 1).map dQ.name).length≤40:=by rw[bfY,bhR];have:=h.len;omega
 have O:(s.bfE.map fC.name).length≤60:=by rw[bfY];have:=h.bfE;omega
 generalize(s.beU.drop 1).map dQ.name=A at *
 generalize s.bfE.map fC.name=B at *
 refine kr ?_ ?_
 ·intro x hx;rcases bhK.1 hx with hx|hx
  ·obtain⟨i,hi,rfl⟩:=bhV hx;obtain⟨lev,l,w,e⟩:=E i hi;rw[e];exact Hv rfl (K7 lev l w).1 rfl aY Om
  ·obtain⟨i,hi,rfl⟩:=bhV hx;rw[hB i hi];exact Hv rfl aV rfl aY Om
 ·rw[bjA];refine⟨?_,?_,?_⟩
  ·refine cq (g:=λs=>kf (s.drop 1)-1) λi hi=>?_;obtain⟨lev,-,-,e⟩:=E i hi;rw[e,D5 _ Om];omega
  ·refine cq (g:=λs=>kf (s.drop 1)) λi hi=>?_;rw[hB i hi];exact D5 _ Om
  ·intro x hx y K e;obtain⟨i,hi,rfl⟩:=bhV hx;obtain⟨j,J,rfl⟩:=bhV K;obtain⟨lev,l,w,F⟩:=E i hi;rw[F,hB j J]at e;exact(K7 lev l w).2 (List.cons.inj e).1
theorem aWS{mc beK a:Nat}:GV mc beK ⟨[sC],[],a⟩:=
 ⟨by simp,bgE _,rfl,λi hi=>absurd hi aY,λi hi=>absurd hi aY⟩
theorem a1E{mc beK:Nat}{s:GS}(h:GV mc beK s)(f:aD)(A:f.beN=s.beU):uJ f=true:=by
 have x:=h.root;have w:=h.dom;unfold uJ;rw[A];cases j:s.beU with
 |nil=>rw[j]at x;cases x
 |cons r t=>
  rw[j]at x;have:r=sC:=by simpa using x
  subst this;show KN f sC t=true;unfold KN;simp only[bgU];refine⟨⟨⟨⟨⟨⟨rfl,rfl⟩,rfl⟩,rfl⟩,wU.lim⟩,by rw[show sC.bfA=pB from rfl,wU.zero];rfl⟩,?_⟩;rw[bgY];intro i hi;rw[bgW]at hi;rw[bgH hi];obtain⟨lev,p,u,B,y,F,I,h5,J,h7,h8,K,E,l⟩:=w i (by rw[j];simp;omega);have e:s.beU[i+1]'(by rw[j];simp;omega)=t[i]:=by simp[j]
  rw[e]at B y h5 h8 l;show SC f i t[i]=true;unfold SC;simp only[bgU];refine⟨⟨⟨⟨?_,?_⟩,?_⟩,?_⟩,l.lim⟩
  ·rw[h5];exact iV Om Om
  ·rw[h5,y,A,biR,bgF,h7,E9 Om Om];exact bX rfl
  ·rw[y];exact iV Om Om
  ·rw[h8];exact iV Om Om
theorem Ww(l:List Nat)(beK beM a:Nat)(hd:beK≤24)(hv:beM≤12) :
  dU (lO l beK beM a).1=true∧(lO l beK beM a).1.Ok:=by
 unfold lO;simp only;have he:=dT l (show 0<2 by decide) a;generalize aJ l 2 a=e at *
 have γ:=dT l (show 0<2 by decide) e.2;generalize aJ l 2 e.2=F at *
 obtain⟨w1,W⟩:=lm l F.2 (1+F.1);generalize mB l F.2 (1+F.1)=beS at *
 have δ:=dT l (show 0<2 by decide) beS.2;generalize aJ l 2 beS.2=B at *
 obtain⟨Z,m2⟩:=YZ l (1+F.1) Om B.2 (1+B.1);generalize iD l (1+F.1) B.2 (1+B.1)=beL at *
 obtain⟨G,-⟩:=Zv l (mc:=1+B.1) (beK:=beK) Om 4 aV 0 (s:=⟨[sC],[],beL.2⟩) aWS rfl;generalize jF l (1+B.1) beK 4 0 ⟨[sC],[],beL.2⟩=g at *
 have ε:=dT l (show 0<2 by decide) g.a;generalize aJ l 2 g.a=pl at *
 obtain⟨p1,U⟩:=LM l (mc:=1+B.1) Om Om pl.2 (1+pl.1);generalize fR l (1+B.1) pl.2 (1+pl.1)=pols at *
 have ζ:=dT l (Om:0<beM+1) pols.2;generalize aJ l (beM+1) pols.2=K at *
 obtain⟨v1,V⟩:=RP l (pc:=1+pl.1) Om K.2 K.1;generalize iJ l (1+pl.1) K.2 K.1=vols at *
 have g1:=G.len;have g2:=G.bfE;have S:∀f:aD,f.beN=g.beU→uJ f=true:=λf hf=>a1E G f hf;have j:∀n:Nat,n≤1000→n≤9223372036854775807:=λn h=>by omega
 have E:∀x∈g.bfE,∃m c:Nat,x.model=m∧m<1+B.1∧x.machine=c∧c<Z' g.beU∧(lvs g.beU)[c]?=some 4:=by
  intro x w;obtain⟨i,hi,rfl⟩:=bhV w;obtain⟨m,c,-,R,X,Y,h5⟩:=G.drv i hi;refine⟨m,c,R,X,Y,?_,h5⟩;have:=(bhG.1 h5).1
  rwa[bfY]at this
 constructor
 ·unfold dU;rw[S _ rfl];simp only[bgU,biG];refine⟨⟨?_,⟨⟨⟨⟨?_,?_⟩,?_⟩,?_⟩,?_⟩⟩,⟨⟨⟨?_,?_⟩,aqJ G Om⟩,?_⟩,?_⟩
  ·unfold tX;simp only[bgU];exact⟨⟨⟨⟨⟨⟨iV Om Om,bX Om⟩,bX Om⟩,bX Om⟩,bX Om⟩,bX Om⟩,bX Om⟩
  ·exact HQ λi hi=>(W i hi).2.1
  ·refine HQ λi hi=>?_;obtain⟨-,x,y,z,A,I,J,M,N,e6,e7,e8⟩:=m2 i hi;unfold pQ;simp only[bgU];rw[A,M,e7,w1];exact⟨⟨iV Om Om,iV Om Om⟩,iV Om Om⟩
  ·rw[bgY];intro x w;obtain⟨m,c,A,I,J,M,N⟩:=E x w;unfold nC;simp only[bgU];rw[A,J,Z,biR,bgF,N];exact⟨⟨iV Om Om,iV Om Om⟩,rfl⟩
  ·refine HQ λi hi=>?_;rw[Z];exact(U i hi).2.1
  ·refine HQ λi hi=>?_;obtain⟨-,p,A,I⟩:=V i hi;unfold uU;rw[A,p1];exact iV Om Om
  ·refine AR (p:=[108,97,119]) rfl aV aV aV (by rw[bfY];omega) λi hi=>?_;rw[bhY];exact(W i (by simpa using hi)).1
  ·refine AR (p:=[109]) rfl aV aV aV (by rw[bfY];omega) λi hi=>?_;rw[bhY];exact(m2 i (by simpa using hi)).1
  ·refine AR (p:=[112]) rfl aV aV aV (by rw[bfY];omega) λi hi=>?_;rw[bhY];exact(U i (by simpa using hi)).1
  ·refine AR (p:=[118]) rfl aV aV aV (by rw[bfY];omega) λi hi=>?_;rw[bhY];exact(V i (by simpa using hi)).1
 ·refine⟨j beS.1.length Om,j beL.1.length Om,j g.beU.length Om,j g.bfE.length Om,j pols.1.length Om,j vols.1.length Om,?_,?_,?_,?_,?_⟩
  ·intro x w;obtain⟨i,hi,rfl⟩:=bhV w;exact(W i hi).2.2
  ·intro x w;obtain⟨i,hi,rfl⟩:=bhV w;rcases biC i with rfl|hp
   ·have:g.beU[0]=sC:=by have:=G.root;rw[bgH hi]at this;exact biQ.inj this
    rw[this];exact⟨wU.ok,by unfold eX;decide,by unfold eX;decide⟩
   ·obtain⟨k,rfl⟩:∃k,i=k+1:=⟨i-1,by omega⟩;obtain⟨lev,p,u,h1,R,X,Y,h5,h6,h7,h8,h9,α,O⟩:=G.dom k hi;have β:k+1<Z' g.beU:=hi;rw[R,h5];exact⟨O.ok,by unfold eX;omega,by unfold eX;omega⟩
  ·intro x w;obtain⟨m,c,A,I,J,M,N⟩:=E x w;rw[A,J];unfold eX;omega
  ·intro x w;obtain⟨i,hi,rfl⟩:=bhV w;exact(U i hi).2.2
  ·intro x w;obtain⟨i,hi,rfl⟩:=bhV w;obtain⟨-,p,A,I⟩:=V i hi;rw[A];unfold eX;omega


theorem aXB{C:Ctx}(f:aD)(j:VF f)(v:Nat)(h:v<Z' f.beM) :
  WA.wp C (aW aJS.res (cT (.int .i64 (nI f v)))) (PF.args [.agg f.cells,.int .i64 v]) .nil:=by
 obtain⟨l,he⟩:=qB j h;have e:=j.beX _ (bgD l);rw[he]at e;have u:IntKind.i64.wrap ((cL f v).k+(cL f v).m)=(cL f v).k+(cL f v).m:=wrap_i64 Om Om;simp only[go_sem,WA,aiV,aJS];refine bA .nil cK a_ ?_;simp only[go_sem,aiW,uV h,j.JL h,rD l,he];refine aQ λo w=>?_;simp only[go_sem,aiX,u];refine⟨a_,?_⟩;exact tE (n:=(cL f v).k+(cL f v).m) Ev rfl
abbrev iiv(l:List Int):List (List PV):=l.map λx=>[PV.int .i64 x]
def aZC(l:List Nat)(v:PV)(o a:Nat)(f:aD)(r:PV)(H:PH):Prop:=Co r (ints (qX l f a).1)∧H=PH.nil.set o (bU v (qX l f a).2)
theorem Ph(l:List Nat){a:Nat}(h:a≤Z' l):∀k,(sV l a k).2≤Z' l∧(sV l a k).1.length=k
 |0=>⟨h,rfl⟩
 |k+1=>by obtain⟨e,j⟩:=Ph l h k;exact⟨cG l 7 e,by simp only[sV,bgB,bgI,j]⟩
def adL(f:aD)(o:Nat)(w:PV)(i:Nat):PF:=((((PF.nil.set 0 (.ptr o 2 0 0)).set 3 (.bE f.cells)).set 5 (w)).set 6 (.int .i64 i))
theorem aVH{C:Ctx}(M:KL C){l:List Nat}{v:PV}(T:Tp l v)(o a:Nat)(f:aD)(X:Z' f.beK≤1000)(O:a≤Z' l):UM.wp C (aW aIH.res (aZC l v o a f)) (PF.args [.ptr o 2 0 0,.agg f.cells]) (PH.nil.set o (bU v a)):=by
 have N:aO (PH.nil.set o (bU v a)) [(o,bU v a)] []:=aO.nil.new (H:=PH.nil) rfl (bU v a);simp only[go_sem,UM,adN,aIH,adO];refine eY M T (o:=o) (n:=4) (a:=a) aV O (by simp only[go_sem];rfl) (N.at 0 rfl) ?_;have A:=N.set 0 rfl (bU v (aJ l 4 a).2);rw[PH.set_set]at A;have J:=cG l 4 O;have y:qX l f a=if(aJ l 4 a).1=0 then([],(aJ l 4 a).2)else sV l (aJ l 4 a).2 f.beK.length:=rfl
 have I:∀r H,aZC l v o a f r H↔Co r (ints (qX l f a).1)∧H=PH.nil.set o (bU v (qX l f a).2):=λ_ _=>Iff.rfl;generalize aJ l 4 a=t at *
 by_cases R:t.1=0
 ·rw[aL R]at y;simp only[go_sem,bT (Om:(t.1:Int)=0),adP];refine bB (vs:=[.aH]) (.inr rfl) (PH.nil.set o (bU v t.2)) Sq (e_ a_ (A.at 0 rfl)) ?_;rw[cF,I,y];exact⟨.nil 1,rfl⟩
 rw[aE R]at y;have U:=A.oV 1;simp only[go_sem,bD (Om:(t.1:Int)≠0),adQ,adR];refine wp_loop (α:=Nat × PV × PH) (λs=>adL f o s.2.1 s.1) (λs=>s.2.2) (λs=>s.1≤Z' f.beK∧aO s.2.2 [(o,bU v (sV l t.2 s.1).2)] [(s.2.1,1,iiv (sV l t.2 s.1).1)]) (λs=>Z' f.beK-s.1) (0,.aH,_) ⟨bgE _,U⟩ ?_ b_ ?_
 ·unfold adL;exact Lq
 rintro⟨k,w,H0⟩ ⟨V,j⟩;simp only at V j ⊢;obtain⟨k1,k2⟩:=Ph l J k;simp only[go_sem,adM,adS,adL,bfY];by_cases hlt:k<Z' f.beK
 ·have e:(k:Int)<(Z' f.beK:Nat):=Om;have u:sV l t.2 (k+1)=((sV l t.2 k).1++[((aJ l 7 (sV l t.2 k).2).1:Int)-1],(aJ l 7 (sV l t.2 k).2).2):=rfl;have Z:=dT l (show 0<7 by decide) (sV l t.2 k).2;generalize Y:sV l t.2 k=s at *
  have K:IntKind.i64.wrap (((aJ l 7 s.2).1:Int)-1)=((aJ l 7 s.2).1:Int)-1:=wrap_i64 Om Om;have E:(1:Nat)*1≤16777216:=by decide
  simp only[go_sem,e,adT];refine eY M T (o:=o) (n:=7) (a:=s.2) aV k1 (by simp only[go_sem];rfl) (j.at 0 rfl) ?_;have F:=j.set 0 rfl (bU v (aJ l 7 s.2).2);simp only[go_sem,K,E];refine F.append 0 (src:=[[PV.int .i64 (((aJ l 7 s.2).1:Int)-1)]]) rfl Sq (by unfold roomFor;rw[bfY,k2];simp only[bgI,maxLen];omega) λW H' S _=>?_;simp only[go_sem,adU,wZz k];refine aG (k+1,W,H') ⟨hlt,?_⟩ (by simp only;omega) ?_ b_
  ·simp only;rw[u];have:iiv (s.1++[((aJ l 7 s.2).1:Int)-1])=iiv s.1++[[PV.int .i64 (((aJ l 7 s.2).1:Int)-1)]]:=by simp[iiv]
   rw[this];exact S
  ·exact Lq
 ·have e:¬(k:Int)<(Z' f.beK:Nat):=Om;have:k=Z' f.beK:=Om;subst this;rw[←y]at j;simp only[go_sem,e,adV];rcases j.own 0 rfl with⟨B,rfl⟩|⟨q,rs,rfl,_⟩
  ·refine bB (vs:=[.aH]) (.inr rfl) (PH.nil.set o (bU v (qX l f a).2)) Sq (e_ a_ (j.at 0 rfl)) ?_;rw[cF,I];refine⟨?_,rfl⟩;unfold ints;rw[show(qX l f a).1.map (λx=>[PV.int .i64 x])=[]from B];exact .nil 1
  ·obtain⟨rs,g1,g2,g3,-,g4⟩:=j.frz 0 rfl;refine pU (vs:=[.osl q 1 0 (iiv (qX l f a).1).length]) (.inr rfl) Sq (.step g1 (.done (H2:=PH.nil.set o (bU v (qX l f a).2)) ?_ (e_ a_ ?_)))
   ·rw[cF,g3,I];exact⟨.refl _,rfl⟩
   ·have:=g4.at 0 rfl;rw[this];simp only[cI.frz,bhJ,biS,T.frz];rfl

theorem exactly{C:Ctx}{name:Nat}{args:List PV}{H H2:PH}{v:PV}(h:aI C name args H (λr H'=>Co r v∧H'=H2)):aI C name args H (λr H'=>r=v∧H'=H2):=
 h.post λr H' e=>⟨_,e.1,rfl,e.2⟩
def fT(l:List Nat)(d v:Nat):aD:=(lO (l.take 400) d v 0).1
def faT(l:List Nat)(d v:Nat):Nat:=(lO (l.take 400) d v 0).2
theorem aMN(l:List Nat)(beK beM:Nat){a:Nat}(h:a≤Z' l):(lO l beK beM a).2≤Z' l:=by
 have x:=cG l 2 h;have u:=cG l 2 x;obtain⟨j,-⟩:=TM l u (1+(aJ l 2 (aJ l 2 a).2).1);have w:=cG l 2 j;obtain⟨e,-⟩:=GL l (1+(aJ l 2 (aJ l 2 a).2).1) w (1+(aJ l 2 (mB l (aJ l 2 (aJ l 2 a).2).2 (1+(aJ l 2 (aJ l 2 a).2).1)).2).1);obtain⟨y,-⟩:=TB (mc:=1+(aJ l 2 (mB l (aJ l 2 (aJ l 2 a).2).2 (1+(aJ l 2 (aJ l 2 a).2).1)).2).1) 4 0 (⟨by simp,bgE _,e⟩:GOk l beK ⟨[sC],[],_⟩);exact(PQ l _ (cG l (beM+1) (BK l _ (cG l 2 y.a) _).1) _).1
structure yS(f:aD)(L:List (List Int)):Prop where
 len:Z' L=Z' f.beM
 row:∀v (h:v<Z' L),((L[v].length:Nat):Int)=nI f v
 home:∀r∈L,∀x∈r,-1≤x∧x<Z' f.beK
theorem yS.a8S{f:aD}{L:List (List Int)}(h:yS f L)(hV:VF f):∀k,k≤Z' L→(L.take k).flatten.length≤k*8:=by
 have y:=h.len;intro k
 induction k with
 |zero=>intro _;simp
 |succ k w =>intro j;rw[zT L j,bgB];have x:=w Om;have l:=h.row k j;obtain⟨u,he⟩:=qB hV (Om:k<Z' f.beM);have e:=hV.beX _ (bgD u);rw[he]at e;unfold nI at l;omega
theorem yS.ok{f:aD}(hV:VF f){L:List (List Int)}(h:yS f L):qO L:=by
 have j:=hV.small.beM;have e:=h.len;have:=h.a8S hV L.length (bgG _);rw[bhA]at this;exact⟨by omega,by omega⟩
section
variable {H:PH} {B:List BX} {L:List LI}
end
theorem yK{k v:Int}{n:Nat}{p:Nat→Bool}:cM k v n p=[]↔∀i,i<n→p i=false:=by
 unfold cM;rw[List.map_eq_nil_iff,List.filter_eq_nil_iff];constructor
 ·intro h i hi;have:=h i (bgW.2 hi);simpa using this
 ·intro h i hi;rw[h i (bgW.1 hi)];decide
theorem aNA{f:aD}{l:List (List Int)}{room:List Int}(j:dU f=true)(e:Z' l=Z' f.beM) :
  sS f l room=true↔tI f l l.length=[]∧∀d,d<Z' f.beK→over f l room d=false:=by
 unfold sS uT aZQ;rw[j,aL rfl,aL e,bgO,decide_eq_true_eq,List.length_eq_zero_iff,List.append_eq_nil_iff,yK]
theorem kz{p:Int→Bool}:∀{l:List Int}{i:Nat},(∀x∈l,p x=false)→jI p l i=none
 |[],_,_=>rfl
 |y::t,i,h=>by rw[jI,h y aY,aE aV];exact kz λx e=>h x (by simp[e])
theorem yS.shape{f:aD}{L:List (List Int)}(h:yS f L){v:Nat}(j:v<Z' L):yJ f L v=none:=by
 have e:L.getD v []=L[v]:=by simp[bgF,j]
 unfold yJ;rw[e,aL (h.row v j),kz]
 ·rfl
 ·intro x l;have:=h.home _ (bgD j) x l;simp[nP];omega
section
variable {H:PH} {B:List BX} {L:List LI} {s:Nat} {rows:List (List PV)}
theorem tH.some(s:Nat)(rows:List (List PV))(G:PH):∃r H',tH s rows r H'∧qM G .nil H':=by
 obtain⟨o,l⟩:=G.fresh;refine⟨.osl o s 0 rows.length,PH.nil.set o (.rows s rows),.inr ⟨o,rows,rfl,rfl,bgG _,bhA⟩,λq x j _=>?_⟩;rw[aR]at j;split at j
 ·rename_i e;rw[e];exact l
 ·cases j
end

section
variable {C:Ctx} {F:PF} {H Hs:PH} {tn a a2:Nat} {raw:List Int} {R:Nat→PV→PH→Prop} {st:Bool} {args:List aS} {d:Option Nat} {K:PF→PH→Prop}
end
section
variable {C:Ctx} {F:PF} {H:PH} {B:List BX} {L:List LI} {args:List aS} {d:Option Nat} {K:PF→PH→Prop}
theorem aO.a6K(h:aO H B L)(i:Nat){o name:Nat}{x y:cI}{r:PV}{vs:List PV}(hi:B[i]?=some (o,x))(j:aI C name vs (PH.nil.set o x) (λu H'=>u=r∧H'=PH.nil.set o y))(e:aS.evs F args=some vs)
  (l:∀H',aO H' (B.set i (o,y)) L→K (F.put d r) H'):kF C name args [] d K F H:=rI j (h.at i hi) e (l _ (h.set i hi y))
theorem aO.yW(h:aO H B L){x:cI}{e:Nat→PV}(j:∀o H',aO H' (B++[(o,x)]) L→K (F.put d (e o)) H'):sX (some (e,x)) d K F H:=aQ λo l=>j o _ (h.new l x)
end
theorem aPR{f:aD}(hV:VF f)(room:List Int){d:Nat}(e:d<Z' f.beK):0≤rZ f room d∧rZ f room d≤ext f d∧1≤ext f d∧ext f d≤16:=by
 obtain⟨j,he⟩:=hV.Wg e;have:=hV.model _ (bgD j);rw[he]at this;unfold rZ;split
 ·omega
 ·omega
theorem aTD(l:List Nat){d v:Nat}(e:d≤24)(j:v≤12):dU (fT l d v)=true∧(fT l d v).Ok:=Ww (l.take 400) d v 0 e j

theorem yS.move{f:aD}{L:List (List Int)}(h:yS f L){x k d:Nat}(w:x<Z' L)(A:d<Z' f.beK):yS f (L.set x (L[x].set k d)):=by
 refine⟨by rw[bhU];exact h.len,λv u=>?_,λr j=>?_⟩
 ·rw[bhU]at u;have:=h.row v u;rw[List.getElem_set];split
  ·rename_i e;subst e;rw[bhU];exact this
  ·exact this
 ·rcases List.mem_or_eq_of_mem_set j with j|rfl
  ·exact h.home r j
  ·intro y l;rcases List.mem_or_eq_of_mem_set l with l|rfl
   ·exact h.home _ (bgD w) y l
   ·omega


structure Ur(C:Ctx):Prop extends yj C where
 int:∀n:Int,eX n→aI C 47 [.int .i64 n] .nil (aK (.agg (mkT n 1).cells))
 mul:∀a b,Lim a→Lim b→Z' a≤35184372087808→Z' b≤35184372087808→aI C 36 [aN a,aN b] .nil (aK (opV (gJ (val a) (val b)) (val a*val b)))
 add:∀a b,Lim a→Lim b→Z' a≤35184372087808→Z' b≤35184372087808→aI C 30 [aN a,aN b] .nil (aK (opV (gJ (val a) (val b)) (val a+val b)))
 sub:∀a b,Lim a→Lim b→Z' a≤35184372087808→Z' b≤35184372087808→aI C 37 [aN a,aN b] .nil (aK (zN (val a) (val b)))
theorem Sp(a b:Nat):eJ a b=(decide (nl b>0)&&(decide (nl b≤128)&&decide (nl a≤128))):=by
 have:=@mV b;refine Bool.eq_iff_iff.2 ?_;rw[kR];simp only[bgU,decide_eq_true_eq];omega
theorem aRO{C:Ctx}(L:Ur C)(neg:Bool)(a b:List Nat)(x:Lim a)(hb:Lim b)(y:Z' a≤35184372087808)(w:Z' b≤35184372087808) :
  PU.wp C (aW aoZ.res (aK (.bool (eJ (val a) (val b))))) (PF.args [.agg (hZ neg a b)]) .nil:=by
 rw[Sp];simp only[go_sem,PU,S8,S9,aoZ];refine aB (L.trim b hb w) rfl ?_;simp only[go_sem,bfY,bJ];by_cases l:nl (val b)>0
 ·have e:((nl (val b):Nat):Int)>0:=Om;simp only[go_sem,e];refine aB (L.trim b hb w) rfl ?_;simp only[go_sem,bfY,bJ];by_cases u:nl (val b)≤128
  ·have j:((nl (val b):Nat):Int)≤128:=Om;simp only[go_sem,j];refine aB (L.trim a x y) rfl ?_;simp only[go_sem,bfY,bJ];refine aU (.inr rfl) rfl ?_;have:decide (((nl (val a):Nat):Int)≤128)=decide (nl (val a)≤128):=by refine decide_eq_decide.2 ?_;omega
   rw[cF,this,bX l,bX u];rfl
  ·have j:¬((nl (val b):Nat):Int)≤128:=Om;simp only[go_sem,j];refine aU (.inr rfl) rfl ?_;rw[cF,bV u,bgK,bhO]
 ·have e:¬((nl (val b):Nat):Int)>0:=Om;simp only[go_sem,e];refine aU (.inr rfl) rfl ?_;rw[cF,bV l,bgK]
theorem tb{neg:Bool}{a b:Nat}(h:eJ a b=true):nB neg a b=.ok (tB neg a b):=by
 obtain⟨w,e,j⟩:=kR.1 h;have l:=(sF (a/bgC a b) 128).2 (Cb _ j);have u:=(sF (b/bgC a b) 128).2 (Cb _ e);unfold nB tB;rw[aE Om]
def aFY(a b:Nat):Bool:=decide (nl a>128)||decide (nl b>128)
theorem aRL{C:Ctx}(neg:Bool)(a b:List Nat) :
  PP.wp C (aW aoF.res (aK (.bool (decide (Z' a>128)||decide (Z' b>128))))) (PF.args [.agg (hZ neg a b)]) .nil:=by
 simp only[go_sem,PP,Ss,St,aoF,bfY];by_cases c:Z' a>128
 ·have e:(Z' a:Int)>128:=Om;simp only[go_sem,e];refine aU (.inr rfl) rfl ?_;rw[cF,bX c,Bool.true_or]
 ·have e:¬(Z' a:Int)>128:=Om;simp only[go_sem,e,bfY];refine aU (.inr rfl) rfl ?_;have:decide ((Z' b:Int)>128)=decide (Z' b>128):=by refine decide_eq_decide.2 ?_;omega
  rw[cF,this,bV c,Bool.false_or]
def Wp(x:FV):FR:=if aFY x.2.1 x.2.2 then .error 2 else .ok x
theorem a0R(neg:Bool)(a b:Nat):Wp (tB neg a b)=nB neg a b:=by
 have e:=sF (a/bgC a b) 128;have j:=sF (b/bgC a b) 128;unfold Wp tB nB aFY;simp only[Bool.or_eq_true,decide_eq_true_eq];by_cases c:nl (a/bgC a b)>128∨nl (b/bgC a b)>128
 ·rw[aL c,aL Om]
 ·rw[aE c,aE Om]
structure yl(C:Ctx):Prop extends Ur C where
 valid:∀x:RF,x.Ok→aI C 56 [.agg x.cells] .nil (aK (.bool (eJ (val x.num) (val x.den))))
 big:∀x:FV,aI C 48 [.agg x.rf.cells] .nil (aK (.bool (aFY x.2.1 x.2.2)))
theorem aYI{C:Ctx}(L:yl C)(x:FV):XM.wp C (aW aKR.res (cT (frV (Wp x)))) (PF.args [.agg x.rf.cells]) .nil:=by
 simp only[go_sem,XM,aoA,aKR];refine aQ λo e=>?_;simp only[go_sem,aoB];refine aB (L.big x) rfl ?_;unfold Wp;cases aFY x.2.1 x.2.2 with
 |true =>simp only[go_sem,aoC];refine mU ?_;simp only[go_sem]
 |false =>obtain⟨n,a,b⟩:=x;simp only[go_sem,aoD];exact bB (.inr rfl) .nil (vs:=[.agg (FV.rf (n,a,b)).cells,.int .i64 0]) Sq a_ ⟨.refl _,rfl⟩
theorem aKW{C:Ctx}(L:yl C)(x:RF)(j:x.Ok):KB.wp C (aW Jf.res (cT (frV (vN x)))) (PF.args [.agg x.cells]) .nil:=by
 simp only[go_sem,KB,Ek,Jf];refine aQ λo w=>?_;simp only[go_sem,El];refine aB (L.valid x j) rfl ?_;unfold vN;cases l:eJ (val x.num) (val x.den)with
 |false =>simp only[go_sem,bgS,Em];refine mU ?_;simp only[go_sem]
 |true =>obtain⟨u,y,A⟩:=kR.1 l;have e:=tb (neg:=x.neg) l;rw[aL rfl,e];simp only[go_sem,bgJ,En];refine aB (L.lowest x.neg x.num x.den j.1 j.2.1 j.2.2.1 j.2.2.2 Om Om u) rfl ?_;simp only[go_sem];exact bB (.inr rfl) .nil (vs:=[.agg (tB x.neg (val x.num) (val x.den)).rf.cells,.int .i64 0]) Sq a_ ⟨.refl _,rfl⟩
theorem aRN{C:Ctx}(L:Ur C)(a b:List Nat)(e:Lim a)(hb:Lim b)(j:Z' a≤35184372087808)(l:Z' b≤35184372087808)(u:nl (val a)≤256)(w:nl (val b)≤256) :
  PS.wp C (aW aoY.res (aK (aN (aM (val a*val b))))) (PF.args [aN a,aN b]) .nil:=by
 simp only[go_sem,PS,S5,S6,aoY];refine aB (L.mul a b e hb j l) rfl ?_;have:=rY u w;rw[mT Om Om,opV,JV Om];simp only[go_sem,S7];refine aU (.inr rfl) rfl ?_;rfl
structure Vk(C:Ctx):Prop extends yl C where
 fits:∀x:FV,aI C 57 [.agg x.rf.cells] .nil (aK (frV (Wp x)))
 red:∀x:RF,x.Ok→aI C 52 [.agg x.cells] .nil (aK (frV (vN x)))
 prod:∀a b,Lim a→Lim b→Z' a≤35184372087808→Z' b≤35184372087808→nl (val a)≤256→nl (val b)≤256→aI C 60 [aN a,aN b] .nil (aK (aN (aM (val a*val b))))
def RF.valid(x:RF):Prop:=eJ (val x.num) (val x.den)=true
def wK(x y:RF):Int:=wJ x.neg (val x.num) (val x.den) y.neg (val y.num) (val y.den)
def voS:Spec:=λname vs=>match name,vs with
 |60,[x,y]=>some ([],λ_=>aK (aN (aM (val (nS x)*val (nS y)))))
 |_,_=>none
theorem EU(a b:List Nat):voS 60 [aN a,aN b]=some ([],λ_=>aK (aN (aM (val a*val b)))):=by
 show some _=_;rw[hJ,hJ]
theorem Jt(a b:Nat):fJ b a=- fJ a b:=by
 unfold fJ;rcases Nat.lt_trichotomy a b with h|h|h
 ·rw[aE Om,aL h,aL h];rfl
 ·subst h;rw[aE Om,aE Om];rfl
 ·rw[aL h,aE Om,aL h]
set_option maxHeartbeats 1000000 in
theorem aRM {C : Ctx} (L : Vk C) (x y : RF) (hx : x.Ok) (hy : y.Ok) (vx : x.valid) (vy : y.valid) : PR.wp C (aW aoO.res (aK (.int .i64 (wK x y)))) (PF.args [.agg x.cells, .agg y.cells]) .nil := by
  obtain ⟨n1, a1, b1⟩ := x;obtain ⟨n2, a2, b2⟩ := y;obtain ⟨ha1, hb1, la1, lb1⟩ := hx;obtain ⟨ha2, hb2, la2, lb2⟩ := hy;obtain ⟨v1, v2, v3⟩ := kR.1 vx;obtain ⟨w1, w2, w3⟩ := kR.1 vy;simp only at ha1 hb1 la1 lb1 ha2 hb2 la2 lb2 v1 v2 v3 w1 w2 w3;have m1 := rY v3 w2;have m2 := rY w3 v2;have hA : decide (val a1 ≠ 0) = decide (nl (val a1 * val b2) > 0) := by refine decide_eq_decide.2 ?_;have := @mV (val a1 * val b2);rw [Nat.mul_eq_zero] at this;omega
  have hB : decide (val a2 ≠ 0) = decide (nl (val a2 * val b1) > 0) := by refine decide_eq_decide.2 ?_;have := @mV (val a2 * val b1);rw [Nat.mul_eq_zero] at this;omega
  unfold wK wJ;simp only [hA, hB];simp only[go_sem,PR,Su,aoO];refine bA .nil voS a_ ?_;simp only[go_sem,Sv];refine cO (EU a1 b2) (L.prod a1 b2 ha1 hb2 la1 lb2 Om Om) rfl a_ ?_;simp only[go_sem];refine cO (EU a2 b1) (L.prod a2 b1 ha2 hb1 la2 lb1 Om Om) rfl a_ ?_;have hc := L.cmp (aM (val a1 * val b2)) (aM (val a2 * val b1)) (bC _) (bC _) (by rw [bJ]; omega) (by rw [bJ]; omega);have hd := L.cmp (aM (val a2 * val b1)) (aM (val a1 * val b2)) (bC _) (bC _) (by rw [bJ]; omega) (by rw [bJ]; omega);rw [aZ, aZ] at hc hd;rw [Jt (val a1 * val b2)] at hd;generalize val a1 * val b2 = A at *
  generalize val a2 * val b1 = B at *
  have gA : decide (((nl A : Nat) : Int) > 0) = decide (nl A > 0) := decide_eq_decide.2 Om;have gB : decide (((nl B : Nat) : Int) > 0) = decide (nl B > 0) := decide_eq_decide.2 Om;generalize decide (nl A > 0) = p at *
  generalize decide (nl B > 0) = q at *
  cases n1 <;> cases n2 <;> cases p <;> cases q
  all_goals
    simp only[go_sem,Sw,bfY,bJ,gA,gB,Sx,Sy,Sz,S0,S1,S3,S4]
    first
    | (refine aU (.inr rfl) rfl ?_; rfl)
    | (refine aB hc rfl ?_
       simp only[go_sem];refine aU (.inr rfl) rfl ?_;rfl)
    | (refine aB hd rfl ?_
       simp only[go_sem];refine aU (.inr rfl) rfl ?_;rfl)
structure IM(C:Ctx):Prop extends Vk C where
 order:∀x y:RF,x.Ok→y.Ok→x.valid→y.valid→aI C 51 [.agg x.cells,.agg y.cells] .nil (aK (.int .i64 (wK x y)))
theorem aYL{C:Ctx}(L:IM C)(x y:RF)(e:x.Ok)(j:y.Ok)(l:x.valid)(u:y.valid):XO.wp C (aW aKU.res (aK (.bool (decide (wK x y<0))))) (PF.args [.agg x.cells,.agg y.cells]) .nil:=by
 simp only[go_sem,XO,aoG,aoH,aKU];refine aB (L.order x y e j l u) rfl ?_;simp only[go_sem];refine aU (.inr rfl) rfl ?_;rfl
theorem aYN{C:Ctx}(L:IM C)(x y:RF)(e:x.Ok)(j:y.Ok)(l:x.valid)(u:y.valid):XS.wp C (aW aKX.res (aK (.bool (wK x y==0)))) (PF.args [.agg x.cells,.agg y.cells]) .nil:=by
 simp only[go_sem,XS,aoP,aoQ,aKX];refine aB (L.order x y e j l u) rfl ?_;simp only[go_sem];refine aU (.inr rfl) rfl ?_;rfl
theorem RA(n:Int):mkT n 1=⟨decide (n<0),aM n.natAbs,aM 1⟩:=by
 unfold mkT tB FV.rf;rw[show(1:Int).natAbs=1 from rfl,Nat.gcd_one_right,Nat.div_one,Nat.div_one,show decide ((1:Int)<0)=false from rfl];congr 1;by_cases h:n<0
 ·have:n.natAbs≠0:=Om;simp[h,this]
 ·simp[h]
theorem QZ(n:Int)(h:eX n):(mkT n 1).Ok∧(mkT n 1).valid:=by
 have e:nl n.natAbs≤2:=uQ (by unfold eX at h;omega);rw[RA];refine⟨⟨bC _,bC _,?_,?_⟩,?_⟩
 ·simp only[bJ];omega
 ·simp only[EI];decide
 ·unfold RF.valid;simp only[aZ];rw[Sp];have:nl 1=1:=by rw[nl,EI];rfl
  simp[this];omega
def yR(x:RF):Int:=if val x.num=0 then 0 else if x.neg then -1 else 1
theorem aWD(x:RF):wK x (mkT 0 1)=yR x:=by
 rw[RA];unfold wK yR wJ;simp only[aZ,show(0:Int).natAbs=0 from rfl,bjB,Nat.zero_mul];by_cases h:val x.num=0
 ·simp[h,fJ]
 ·cases x.neg<;>simp[h,fJ]
def viS(r:Int):Spec:=λname _=>if name=47 then some ([],λ_=>aK (.agg (mkT 0 1).cells))else some ([],λ_=>aK (.int .i64 r))
theorem aYO{C:Ctx}(L:IM C)(x:RF)(l:x.Ok)(u:x.valid):XT.wp C (aW aKY.res (aK (.int .i64 (yR x)))) (PF.args [.agg x.cells]) .nil:=by
 have e:eX 0:=by unfold eX;omega
 have j:=L.order x (mkT 0 1) l (QZ 0 e).1 u (QZ 0 e).2;rw[aWD]at j;simp only[go_sem,XT,aoR,aKY];refine bA .nil (viS (yR x)) a_ ?_;simp only[go_sem,aoS];refine cO rfl (L.int 0 e) rfl a_ ?_;simp only[go_sem];refine cO rfl j rfl a_ ?_;simp only[go_sem];refine aU (.inr rfl) rfl ?_;rfl
theorem aRI{C:Ctx}(L:IM C)(l E:Bool)(a1 u a2 w:List Nat)(U:Lim a1)(N:Lim u)(V:Lim a2)(O:Lim w)
  (W:Z' a1≤35184372087808) (R:Z' u≤35184372087808) (Z:Z' a2≤35184372087808) (S:Z' w≤35184372087808) :
  MQ.wp C (aW aKO.res (cT (frV (mE (l,val a1,val u) (E,val a2,val w))))) (PF.args [.agg (hZ l a1 u),.agg (hZ E a2 w)]) .nil:=by
 have vx:aI C 56 [.agg (hZ l a1 u)] .nil (aK (.bool (eJ (val a1) (val u)))):=L.valid ⟨l,a1,u⟩ ⟨U,N,W,R⟩;have vy:aI C 56 [.agg (hZ E a2 w)] .nil (aK (.bool (eJ (val a2) (val w)))):=L.valid ⟨E,a2,w⟩ ⟨V,O,Z,S⟩;simp only[go_sem,MQ,aDU,aKO];refine aQ λo ho=>?_;simp only[go_sem,aDV];refine aB vx rfl ?_;simp only[mE];cases hv:eJ (val a1) (val u)with
 |false =>simp only[go_sem,bgS,Jc,bgK];refine mU ?_;simp only[go_sem]
 |true=>
  obtain⟨v1,v2,v3⟩:=kR.1 hv;simp only[go_sem,bgJ];refine aB vy rfl ?_;cases hw:eJ (val a2) (val w)with
  |false =>simp only[go_sem,bgS,Jc,bhO];refine mU ?_;simp only[go_sem]
  |true=>
   obtain⟨w1,w2,w3⟩:=kR.1 hw;simp only[go_sem,bgJ,biG];refine bA .nil voS a_ ?_;simp only[go_sem,aDW];refine cO (EU a1 w) (L.prod a1 w U O W S Om Om) rfl a_ ?_;simp only[go_sem];refine cO (EU a2 u) (L.prod a2 u V N Z R Om Om) rfl a_ ?_;simp only[go_sem];refine cO (EU u w) (L.prod u w N O R S Om Om) rfl a_ ?_;simp only[go_sem];have m1:=rY v3 w2;have m2:=rY w3 v2;have m3:=rY v2 w2;have d0:val u*val w≠0:=Nat.mul_ne_zero v1 w1;generalize hA:val a1*val w=A at *
   generalize hB:val a2*val u=B at *
   generalize hD:val u*val w=D at *
   have fin:∀(F:PF)(H:PH)(r:FR),(∃j x y e,frV r=.tup [.agg (hZ j x y),.int .i64 e]∧F 4=some (.ptr o 3 0 0)∧F 5=some (.int .i64 e)∧H o=some (.rows 3 [hZ j x y]))→aW [.cell 4 (some 3),.tmp 5] (cT (frV r)) .ret F H:=by rintro F H r ⟨j,x,y,e,he,f4,f5,hH⟩;rw[he];exact bB (.inr rfl) .nil (vs:=[.agg (hZ j x y),.int .i64 e]) (by simp only[go_sem,f4,f5,hH]) a_ ⟨.refl _,rfl⟩
   have eb:(l==E)=decide (l=E):=by cases l<;>cases E<;>rfl
   have low:∀neg x,nl x≤257→aI C 58 [.bool neg,aN (aM x),aN (aM D)] .nil (aK (.agg (tB neg x D).rf.cells)):=by
    intro neg x hx;have h1:(aM x).length≤35184372087808:=by rw[bJ];omega
    have h2:(aM D).length≤35184372087808:=by rw[bJ];omega
    have:=L.lowest neg (aM x) (aM D) (bC _) (bC _) h1 h2;rw[aZ,aZ]at this;exact this Om Om d0
   have M:∀neg x,aI C 57 [.agg (tB neg x D).rf.cells] .nil (aK (frV (nB neg x D))):=λneg x=>by
    have:=L.fits (tB neg x D)
    rwa[a0R]at this
   have lA:(aM A).length≤35184372087808:=by rw[bJ];omega
   have lB:(aM B).length≤35184372087808:=by rw[bJ];omega
   simp only[go_sem,aDX];by_cases c:l=E
   ·rw[aL c];have c':(l==E)=true:=by rw[eb,bX c]
    simp only[go_sem,c',aDY];have J:=L.add (aM A) (aM B) (bC _) (bC _) lA lB;have α:=aeY m1 m2;rw[aZ,aZ,mT Om Om,opV,JV Om]at J;refine aB J rfl ?_;simp only[go_sem,aDZ];refine aB (low l _ Om) rfl ?_;simp only[go_sem];refine aB (M l _) rfl ?_;obtain⟨j,x,y,e,I⟩:=CI (nB l (A+B) D);rw[I];simp only[go_sem];rw[←I];exact fin _ _ _ ⟨j,x,y,e,I,by simp only[go_sem],by simp only[go_sem],by simp only[go_sem]⟩
   ·rw[aE c];have c':(l==E)=false:=by rw[eb,bV c]
    simp only[go_sem,c',aEA];have hc:=L.cmp (aM A) (aM B) (bC _) (bC _) lA lB;rw[aZ,aZ]at hc;refine aB hc rfl ?_;have K:∀X Y:Nat,nl X≤256→nl Y≤256→Y≤X→aI C 37 [aN (aM X),aN (aM Y)] .nil (aK (.tup [aN (aM (X-Y)),.int .i64 0])):=by intro X Y h1 h2 h;have:=L.sub (aM X) (aM Y) (bC _) (bC _) (by rw[bJ];omega) (by rw[bJ];omega);have h3:=kW (Om:X-Y≤X);rw[aZ,aZ,zN,mT Om Om,aE aV,aE Om,JV Om]at this;exact this
    by_cases g:B≤A
    ·have g':fJ A B≥0:=(i9 A B).2 g;rw[aL g];simp only[go_sem,g',aEB];refine aB (K A B Om Om g) rfl ?_;simp only[go_sem,aEC];have h3:=kW (Om:A-B≤A);refine aB (low l (A-B) Om) rfl ?_;simp only[go_sem];refine aB (M l _) rfl ?_;obtain⟨j,x,y,e,I⟩:=CI (nB l (A-B) D);rw[I];simp only[go_sem];rw[←I];exact fin _ _ _ ⟨j,x,y,e,I,by simp only[go_sem],by simp only[go_sem],by simp only[go_sem]⟩
    ·have g':¬fJ A B≥0:=λh=>g ((i9 A B).1 h);rw[aE g];simp only[go_sem,g',anW];refine aB (K B A Om Om Om) rfl ?_;simp only[go_sem,anX];have h3:=kW (Om:B-A≤B);refine aB (low E (B-A) Om) rfl ?_;simp only[go_sem];refine aB (M E _) rfl ?_;obtain⟨j,x,y,e,I⟩:=CI (nB E (B-A) D);rw[I];simp only[go_sem];rw[←I];exact fin _ _ _ ⟨j,x,y,e,I,by simp only[go_sem],by simp only[go_sem],by simp only[go_sem]⟩
theorem a4A{C:Ctx}(L:IM C)(x y:RF)(e:x.Ok)(j:y.Ok):MQ.wp C (aW aKO.res (cT (frV (mE x.v y.v)))) (PF.args [.agg x.cells,.agg y.cells]) .nil:=
 aRI L x.neg y.neg x.num x.den y.num y.den e.1 e.2.1 j.1 j.2.1 e.2.2.1 e.2.2.2 j.2.2.1 j.2.2.2
structure aFN(C:Ctx):Prop extends IM C where
 less:∀x y:RF,x.Ok→y.Ok→x.valid→y.valid→aI C 49 [.agg x.cells,.agg y.cells] .nil (aK (.bool (decide (wK x y<0))))
 same:∀x y:RF,x.Ok→y.Ok→x.valid→y.valid→aI C 53 [.agg x.cells,.agg y.cells] .nil (aK (.bool (wK x y==0)))
 sign:∀x:RF,x.Ok→x.valid→aI C 54 [.agg x.cells] .nil (aK (.int .i64 (yR x)))
 plus:∀x y:RF,x.Ok→y.Ok→aI C 46 [.agg x.cells,.agg y.cells] .nil (aK (frV (mE x.v y.v)))
def vsF(l:List RF)(o2 o4 k:Nat):PF:=((((PF.nil.set 0 (frs l)).set 2 (.ptr o2 3 0 0)).set 4 (.ptr o4 3 0 0)).set 5 (.int .i64 k))
theorem a4C{C:Ctx}(L:aFN C)(l:List RF)(hl:∀x∈l,x.Ok)(X:Z' l≤9223372036854775807) :
  ii.wp C (aW aYQ.res (cT (frV (tZ (l.map RF.v))))) (PF.args [frs l]) .nil:=by
 have h0:eX 0:=by unfold eX;omega
 have hi:(mkT 0 1).cells=(FV.rf (false,0,1)).cells:=by rw[RA];rfl
 have B:=L.int 0 h0;rw[hi]at B;simp only[go_sem,ii,aEI,aYQ];refine aQ λo2 β=>?_;have h1:aO (PH.nil.set o2 (.rows 3 [[.bool false,.aH,.aH]])) [(o2,.rows 3 [[.bool false,.aH,.aH]])] []:=aO.nil.new (H:=PH.nil) rfl _;generalize(PH.nil.set o2 _)=H1 at *
 simp only[go_sem,aEJ];refine aB B rfl ?_;simp only[go_sem];refine aQ λo4 W=>?_;have h2:=h1.new W (.rows 3 [(FV.rf (false,0,1)).cells]);simp only[go_sem,aEK];refine wp_loop (α:=Nat × FV × PH) (λt=>vsF l o2 o4 t.1) (λt=>t.2.2) (λt=>t.1≤Z' l∧((l.map RF.v).take t.1).foldlM mE (false,0,1)=.ok t.2.1∧aO t.2.2 [(o2,.rows 3 [[.bool false,.aH,.aH]]),(o4,.rows 3 [(FV.rf t.2.1).cells])] []∧(FV.rf t.2.1).Ok) (λt=>Z' l-t.1)
  (0,(false,0,1),_) ⟨bgE _,rfl,h2,⟨bC _,bC _,?_,?_⟩⟩ ?_ b_ ?_
 ·show(aM 0).length≤_;rw[kO];simp
 ·show(aM 1).length≤_;rw[EI];simp
 ·unfold vsF;exact Lq
 rintro⟨k,u,H0⟩ ⟨hk,N,F,y⟩;simp only at hk N F y ⊢;simp only[go_sem,aEH,aEL,vsF,bfY];by_cases hlt:k<Z' l
 ·have w:(k:Int)<(Z' l:Nat):=Om;have hr:(l.map RF.cells)[k]?=some (l[k]).cells:=by simp[hlt]
  have A:=L.plus (FV.rf u) l[k] y (hl _ (bgD hlt));rw[FV.a6C]at A;have j:=lh (f:=mE) (l.map RF.v) (false,0,1) (k:=k) (by simpa using hlt);rw[N]at j;simp only[Except.bind,bhY]at j;have R:=F.at 1 rfl;simp only[go_sem,w];refine bA .nil (λ_ _=>some ([],λ_=>aK (frV (mE u (l[k]).v)))) a_ ?_;simp only[go_sem,aEM,R,hr];refine cO rfl A rfl a_ ?_;cases he:mE u (l[k]).v with
  |error e=>
   have V:e≠0:=by
    revert he;obtain⟨n1,a1,b1⟩:=u;obtain⟨n2,a2,b2⟩:=(l[k]).v;simp only[mE,nB]
    repeat' split
    all_goals (intro h;first|(injection h with h;subst h;decide)|cases h)
   rw[he]at j;simp only[go_sem,frV];refine aQ λo6 E=>?_;simp only[go_sem];refine⟨a_,?_⟩;have I:=F.new E (.rows 3 [[.bool false,aN [],aN []]]);have O:=I.at 0 rfl;simp only[go_sem,Jg,cP V,aEN,O];rw[tZ,zl _ _ j];refine mU ?_;simp only[go_sem]
  |ok r=>
   rw[he]at j;obtain⟨M,J,K⟩:=r;simp only[go_sem,frV];refine aQ λo6 E=>?_;simp only[go_sem];refine⟨a_,?_⟩;have I:=F.new E (.rows 3 [(FV.rf (M,J,K)).cells]);have Z:=I.at 2 rfl;have S:=I.at 1 rfl;generalize hG:H0.set o6 (.rows 3 [(FV.rf (M,J,K)).cells])=Y at *
   have U:H0.set o6 (.rows 3 [[.bool M,aN (aM J),aN (aM K)]])=Y:=hG;simp only[go_sem,Jg,aEO,U,Z,S,aEP,wZz k];have h7:=(I.set 1 rfl (.rows 3 [(FV.rf (M,J,K)).cells])).yN 2;refine aG (k+1,(M,J,K),_) ⟨hlt,j,h7,Gp he⟩ (by simp only;omega) ?_ b_;exact Lq
 ·have w:¬(k:Int)<(Z' l:Nat):=Om;have:k=Z' l:=Om;subst this;rw[bgR aY]at N;rw[tZ,N];have O:=F.at 0 rfl;have R:=F.at 1 rfl;obtain⟨n,a,b⟩:=u;simp only[go_sem,w,aoX,R,O];exact bB (.inr rfl) .nil (vs:=[.agg (FV.rf (n,a,b)).cells,.int .i64 0]) Sq a_ ⟨.refl _,rfl⟩
theorem dge{n:Nat}(k:Nat):decide ((n:Int)≥(k:Int))=decide (k≤n):=decide_eq_decide.2 Om
theorem dle{n:Nat}(k:Nat):decide ((n:Int)≤(k:Int))=decide (n≤k):=decide_eq_decide.2 Om
theorem aLC{C:Ctx}(n:Nat):KF.wp C (aW Jl.res (aK (.bool (jK n)))) (PF.args [.int .u8 n]) .nil:=by
 have e:=dge (n:=n) 97;have j:=dle (n:=n) 122;have l:=dge (n:=n) 65;have u:=dle (n:=n) 90;simp only[Int.cast_ofNat_Int]at e j l u;unfold jK;generalize decide (97≤n)=a at *
 generalize decide (n≤122)=b at *
 generalize decide (65≤n)=c at *
 generalize decide (n≤90)=d at *
 cases a<;>cases b<;>cases c<;>cases d
 all_goals
  simp only[go_sem,KF,E6,E7,Jl,e,j,l,u];refine aU (.inr rfl) rfl ?_;rfl
theorem aRP{C:Ctx}(n:Nat):PX.wp C (aW apA.res (aK (.bool (sM n)))) (PF.args [.int .u8 n]) .nil:=by
 have e:=dge (n:=n) 48;have j:=dle (n:=n) 57;simp only[Int.cast_ofNat_Int]at e j;unfold sM;generalize decide (48≤n)=a at *
 generalize decide (n≤57)=b at *
 cases a<;>cases b
 all_goals
  simp only[go_sem,PX,Ta,Tb,apA,e,j];refine aU (.inr rfl) rfl ?_;rfl
theorem aLA{C:Ctx}(e:∀n:Nat,aI C 65 [.int .u8 n] .nil (aK (.bool (jK n))))(j:∀n:Nat,aI C 63 [.int .u8 n] .nil (aK (.bool (sM n))))(n:Nat) :
  KD.wp C (aW Jj.res (aK (.bool (kK n)))) (PF.args [.int .u8 n]) .nil:=by
 have g1:((n:Int)==45)=decide (n=45):=by by_cases h:n=45<;>simp[h];omega
 have g2:((n:Int)==46)=decide (n=46):=by by_cases h:n=46<;>simp[h];omega
 have k1:=e n;have k2:=j n;unfold kK;generalize decide (n=45)=a at *
 generalize decide (n=46)=b at *
 simp only[go_sem,KD,Er,Es,Jj];refine aB k1 rfl ?_;cases jK n with
 |true =>simp only[go_sem];refine aU (.inr rfl) rfl ?_;rfl
 |false=>
  simp only[go_sem];refine aB k2 rfl ?_;cases sM n<;>cases a<;>cases b
  all_goals
   simp only[go_sem,g1,g2];refine aU (.inr rfl) rfl ?_;rfl
theorem aLB{C:Ctx}(E:∀n:Nat,aI C 65 [.int .u8 n] .nil (aK (.bool (jK n))))(F:∀n:Nat,aI C 64 [.int .u8 n] .nil (aK (.bool (kK n))))(s:List UInt8) :
  KE.wp C (aW Jk.res (aK (.bool (isName s)))) (PF.args [.str s]) .nil:=by
 simp only[go_sem,KE,Eu,Ew,Jk];cases s with
 |nil =>have B:decide (((0:Nat):Int)<1)=true:=rfl;simp only[go_sem,HJ,biM,B];refine aU (.inr rfl) rfl ?_;rfl
 |cons c t=>
  have I:(c::t)[0]?=some c:=rfl;have l:isName (c::t)=(decide ((c::t).length≤16)&&jK c.toNat&&(c::t).all λc=>kK c.toNat):=rfl;have j:¬(((c::t).length:Nat):Int)<1:=by simp only[bhT];omega
  generalize c::t=s at *
  by_cases A:Z' s≤16
  ·have u:¬(Z' s:Int)>16:=Om;rw[bX A,bgO]at l;have k1:=E c.toNat;simp only[go_sem,j,u,I,bhD];refine aB k1 rfl ?_;cases y:jK c.toNat with
   |false =>simp only[go_sem,bgS,HJ];refine aU (.inr rfl) rfl ?_;rw[cF,l,y,bgK]
   |true=>
    rw[y,bgO]at l;simp only[go_sem,bgJ,Ex];refine wp_loop (α:=Nat) (λk=>((PF.nil.set 0 (.str s)).set 3 (.int .i64 k))) (λ_=>.nil) (λk=>k≤Z' s∧(s.take k).all (λc=>kK c.toNat)=true) (λk=>Z' s-k) 0 ⟨bgE _,rfl⟩ Lq a_ ?_;rintro k ⟨J,w⟩;simp only[go_sem,Et,Ey];by_cases hlt:k<Z' s
    ·have e:(k:Int)<(Z' s:Nat):=Om;have x:s[k]?=some s[k]:=bgH hlt;have k2:=F (s[k]).toNat;simp only[go_sem,e,Ez,x,bhD];refine aB k2 rfl ?_;cases hi:kK (s[k]).toNat with
     |false =>simp only[go_sem,bgS,E0];refine aU (.inr rfl) rfl ?_;rw[cF,l,vX hlt hi]
     |true =>simp only[go_sem,bgJ,E4,wZz k];exact aG (k+1) ⟨hlt,by simpa using vW hlt w hi⟩ Om Lq b_
    ·have e:¬(k:Int)<(Z' s:Nat):=Om;have:k=Z' s:=Om;subst this;rw[bhA]at w;simp only[go_sem,e,E5];refine aU (.inr rfl) rfl ?_;rw[cF,l,w]
  ·have u:(Z' s:Int)>16:=Om;rw[bV A,bgK,bgK]at l;simp only[go_sem,j,u,HJ];refine aU (.inr rfl) rfl ?_;rw[cF,l]
def RX(k m:Int):Bool:=within k 1 6&&(within m 0 4&&decide (k+m≤8))
theorem aWZ{C:Ctx}(k m:Int):uS.wp C (aW VY.res (aK (.bool (RX k m)))) (PF.args [.int .i64 k,.int .i64 m]) .nil:=by
 unfold RX within;by_cases e:1≤k
 ·by_cases j:k≤6
  ·by_cases l:0≤m
   ·by_cases u:m≤4
    ·have w:IntKind.i64.wrap (k+m)=k+m:=wrap_i64 Om Om;simp only[go_sem,uS,CX,CY,VY,ge_iff_le,e,j,l,u,w];refine aU (.inr rfl) rfl ?_;simp[cF,e,j,l,u]
    ·simp only[go_sem,uS,CX,CY,VY,ge_iff_le,e,j,l,u];refine aU (.inr rfl) rfl ?_;simp[cF,e,j,l,u]
   ·simp only[go_sem,uS,CX,CY,VY,ge_iff_le,e,j,l];refine aU (.inr rfl) rfl ?_;simp[cF,e,j,l]
  ·simp only[go_sem,uS,CX,CY,VY,ge_iff_le,e,j];refine aU (.inr rfl) rfl ?_;simp[cF,e,j]
 ·simp only[go_sem,uS,CX,CY,VY,ge_iff_le,e];refine aU (.inr rfl) rfl ?_;simp[cF,e]
def QH:=bO [1] Proofs.Tryz.f69
def T0:=aA QH 0
def T1:=aA QH 1
def MS:=aA QH 2
def QG:aC:=(sq T0 (sq T1 (sq MS .ret)))
def apX:aX:=⟨1,29,QG,[.tmp 2]⟩
def oL:=bO [] Proofs.Tryz.f100
def Fc:=aA oL 0
def Fe:=aA oL 1
def Ff:=aA oL 2
def Fg:=aA oL 3
def Fh:=aA oL 4
def Fi:=aA oL 5
def Fj:=aA oL 6
def Fk:=aA oL 7
def Fb:aC:=(dD Fh 12 0 Fk (sq Fi (.cond (Tm 20) (sq Fj .ret) .skip)))
def Fl:=aA oL 8
def KJ:aC:=(sq Fc (dA Fe 9 Ff (.seq (cE Fg 0 Fb) (sq Fl .ret))))
def Jo:aX:=⟨2,21,KJ,[.tmp 4]⟩
def eW:=bO [1] Proofs.Tryz.f66
def aEU:=aA eW 0
def aEV:=aA eW 1
def aEW:=aA eW 2
def IK:=aA eW 3
def aEX:=aA eW 4
def aEY:=aA eW 5
def aEZ:=aA eW 6
def Jn:=aA eW 7
def aFA:=aA eW 8
def aET:aC:=(dD aEY 44 0 aFA (sq aEZ (.cond (Tm 66) (sq Jn .ret) .skip)))
def apK:=aA eW 9
def xz:=cA eW 0
def x2:=aA eW 10
def apL:=aA eW 11
def apM:=aA eW 12
def apN:=aA eW 13
def apO:=aA eW 14
def apP:=aA eW 15
def x3:=aA eW 16
def x4:=aA eW 17
def apQ:=aA eW 18
def x5:=aA eW 19
def YB:=aA eW 20
def YA:aC:=(dD apQ 111 6 YB (.region x5))
def x6:=aA eW 21
def xw:aC:=(dD apP 90 4 x6 (sq x3 (cE x4 6 YA)))
def apR:=aA eW 22
def xx:aC:=(dD apN 85 2 apR (cE apO 4 xw))
def apS:=aA eW 23
def apT:=aA eW 24
def x7:=aA eW 25
def apU:=aA eW 26
def apV:=aA eW 27
def xy:aC:=(dD apT 141 8 apV (sq x7 (.cond (Tm 148) (sq apU .ret) .skip)))
def x8:=aA eW 28
def iw:aC:=(sq aEU (sq aEV (dA aEW 41 IK (.seq (cE aEX 0 aET) (.seq (sq apK (dq xz (.cond (Tm 80) (sq x2 .ret) .skip))) (sq apL (.seq (cE apM 2 xx) (.seq (cE apS 8 xy) (sq x8 .ret)))))))))
def aYY:aX:=⟨1,149,iw,[.tmp 2]⟩
def sY:=bO [] Proofs.Tryz.f107
def aFC:=aA sY 0
def aFD:=aA sY 1
def aFE:=aA sY 2
def aFF:=aA sY 3
def aFG:=aA sY 4
def aFH:=aA sY 5
def aFI:=aA sY 6
def aFJ:=aA sY 7
def aFB:aC:=(dD aFG 14 0 aFJ (sq aFH (.cond (Tm 22) (sq aFI .ret) .skip)))
def aFK:=aA sY 8
def ix:aC:=(sq aFC (dA aFD 10 aFE (.seq (cE aFF 0 aFB) (sq aFK .ret))))
def aZA:aX:=⟨2,23,ix,[.tmp 4]⟩
def i0:=bO [] Proofs.Tryz.f63
def YU:=aA i0 0
def YV:=aA i0 1
def CC:aC:=(sq YU (sq YV .ret))
def kj:aX:=⟨3,15,CC,[.tmp 6]⟩
def qg:=bO [] Proofs.Tryz.f64
def Tx:=aA qg 0
def Tz:=aA qg 1
def QF:aC:=(sq Tx (sq Tz .ret))
def apW:aX:=⟨6,35,QF,[.tmp 12]⟩
def nA:=bO [7] Proofs.Tryz.f70
def p9:=aA nA 0
def qa:=aA nA 1
def DW:=aA nA 2
def qb:=aA nA 3
def qc:=aA nA 4
def QE:=aA nA 5
def qd:=aA nA 6
def qe:=aA nA 7
def p8:aC:=(dD qc 29 0 qe (sq QE (.cond (Tm 36) (sq qd .ret) .skip)))
def qf:=aA nA 8
def FL:aC:=(sq p9 (dA qa 27 DW (.seq (cE qb 0 p8) (sq qf .ret))))
def x9:aX:=⟨4,37,FL,[.tmp 8]⟩
def Tl:=bO [6,7] Proofs.Tryz.f71
def aER:=aA Tl 0
def aES:=cA Tl 0
def iu:aC:=(sq aER (dq aES .ret))
def aYU:aX:=⟨4,26,iu,[.tmp 8]⟩
def tG:=bO [] Proofs.Tryz.f99
def Tr:=aA tG 0
def Ts:=aA tG 1
def Tt:=aA tG 2
def iv:=aA tG 3
def Tu:=aA tG 4
def Tv:=aA tG 5
def Tq:aC:=(dD Tt 9 0 Tv (sq iv (.cond (Tm 17) (sq Tu .ret) .skip)))
def Tw:=aA tG 6
def QD:aC:=(sq Tr (.seq (cE Ts 0 Tq) (sq Tw .ret)))
def apJ:aX:=⟨2,19,QD,[.tmp 4]⟩
def bZ:=bO [1] Proofs.Tryz.f36
def T2:=aA bZ 0
def T3:=aA bZ 1
def MT:=aA bZ 2
def T4:=aA bZ 3
def T5:=aA bZ 4
def T6:=aA bZ 5
def T7:=aA bZ 6
def T8:=aA bZ 7
def iy:=aA bZ 8
def iz:=aA bZ 9
def YC:aC:=(dD T7 61 0 iz (sq T8 (.region iy)))
def Fm:=aA bZ 10
def Fo:=aA bZ 11
def Fp:=aA bZ 12
def Fq:=aA bZ 13
def YF:=aA bZ 14
def BZ:=aA bZ 15
def YD:aC:=(dD Fo 91 2 BZ (sq Fp (sq Fq (.region YF))))
def Fr:=aA bZ 16
def YG:=aA bZ 17
def YH:=aA bZ 18
def Ft:=aA bZ 19
def Fu:=aA bZ 20
def Fv:=aA bZ 21
def YI:=cA bZ 0
def uX:=aA bZ 22
def HL:aC:=(dD Ft 169 4 uX (sq Fu (sq Fv (.draw YI))))
def YJ:=aA bZ 23
def Fw:=aA bZ 24
def Fy:=aA bZ 25
def F0:=aA bZ 26
def YK:=aA bZ 27
def CA:=aA bZ 28
def HM:aC:=(dD Fw 227 6 CA (sq Fy (sq F0 (.region YK))))
def YL:=aA bZ 29
def F6:=aA bZ 30
def F7:=aA bZ 31
def F8:=aA bZ 32
def YM:=aA bZ 33
def CB:=aA bZ 34
def F9:=aA bZ 35
def Ga:=cA bZ 1
def Gb:=aA bZ 36
def Gc:=aA bZ 37
def YN:=cA bZ 2
def YO:=aA bZ 38
def YE:aC:=(dD Gc 344 12 YO (.draw YN))
def Gd:=aA bZ 39
def HN:aC:=(dD F9 329 10 Gd (dq Ga (cE Gb 12 YE)))
def YP:=aA bZ 40
def HO:aC:=(dD F6 278 8 YP (sq F7 (sq F8 (sq YM (cE CB 10 HN)))))
def YQ:=aA bZ 41
def Ge:=aA bZ 42
def Gf:=aA bZ 43
def YR:=cA bZ 3
def YS:=aA bZ 44
def HP:aC:=(dD Ge 368 14 YS (sq Gf (.draw YR)))
def YT:=aA bZ 45
def QI:aC:=(sq T2 (dA T3 53 MT (sq T4 (sq T5 (.seq (cE T6 0 YC) (.seq (cE Fm 2 YD) (sq Fr (sq YG (.seq (cE YH 4 HL) (.seq (cE YJ 6 HM) (.seq (cE YL 8 HO) (.seq (cE YQ 14 HP) (sq YT .ret)))))))))))))
def apY:aX:=⟨1,397,QI,[.tmp 2]⟩
def p7:=bO [8] Proofs.Tryz.f65
def Tn:=aA p7 0
def To:=aA p7 1
def QC:aC:=(sq Tn (sq To .ret))
def apI:aX:=⟨2,18,QC,[.tmp 4,.tmp 5]⟩
theorem aLI{C:Ctx}(n lo hi:Int):CC.wp C (aW kj.res (aK (.bool (within n lo hi)))) (PF.args [.int .i64 n,.int .i64 lo,.int .i64 hi]) .nil:=by
 unfold within;by_cases h:lo≤n
 ·simp only[go_sem,CC,YU,YV,kj,ge_iff_le,h];refine aU (.inr rfl) rfl ?_;simp[cF,h]
 ·simp only[go_sem,CC,YU,YV,kj,ge_iff_le,h];refine aU (.inr rfl) rfl ?_;simp[cF,h]
def wP(a b c d e f:Nat):Bool:=decide (a≤4)&&(decide (b≤4)&&(decide (c≤40)&&(decide (d≤24)&&(decide (e≤4)&&decide (f≤12)))))
theorem aRY{C:Ctx}(a b c d e f:Nat):QF.wp C (aW apW.res (aK (.bool (wP a b c d e f)))) (PF.args [.int .i64 a,.int .i64 b,.int .i64 c,.int .i64 d,.int .i64 e,.int .i64 f]) .nil:=by
 have g:∀x k:Nat,decide ((x:Int)≤(k:Int))=decide (x≤k):=λx k=>decide_eq_decide.2 Om;have j:=g a 4;have l:=g b 4;have u:=g c 40;have w:=g d 24;have h5:=g e 4;have y:=g f 12;simp only[Int.cast_ofNat_Int]at j l u w h5 y;unfold wP;simp only[go_sem,QF,Tx,Tz,apW,j];cases decide (a≤4)with
 |false =>simp only[go_sem];refine aU (.inr rfl) rfl ?_;rfl
 |true=>
  simp only[go_sem,l];cases decide (b≤4)with
  |false =>simp only[go_sem];refine aU (.inr rfl) rfl ?_;rfl
  |true=>
   simp only[go_sem,u];cases decide (c≤40)with
   |false =>simp only[go_sem];refine aU (.inr rfl) rfl ?_;rfl
   |true=>
    simp only[go_sem,w];cases decide (d≤24)with
    |false =>simp only[go_sem];refine aU (.inr rfl) rfl ?_;rfl
    |true=>
     simp only[go_sem,h5];cases decide (e≤4)with
     |false =>simp only[go_sem];refine aU (.inr rfl) rfl ?_;rfl
     |true =>simp only[go_sem,y];refine aU (.inr rfl) rfl ?_;rfl
structure yh(C:Ctx):Prop extends aFN C where
 sum:∀l:List RF,(∀x∈l,x.Ok)→Z' l≤9223372036854775807→aI C 55 [frs l] .nil (aK (frV (tZ (l.map RF.v))))
 inn:∀n lo hi:Int,aI C 76 [.int .i64 n,.int .i64 lo,.int .i64 hi] .nil (aK (.bool (within n lo hi)))
 code:∀k m:Int,aI C 61 [.int .i64 k,.int .i64 m] .nil (aK (.bool (RX k m)))
def VB(k m q s0 s1 s2 s3 s4:Int):Bool:=RX k m&&(within q k (k+m)&&(decide (s0=0)&&(within s1 0 8&&(within s2 0 8&&(within s3 0 8&&within s4 0 8)))))
theorem a2N(p:dV):VA p=VB p.k p.m p.bfJ p.s0 p.s1 p.s2 p.s3 p.s4:=by
 unfold VA VB RX;have:within p.s0 0 8=true∨p.s0≠0:=by
  by_cases h:p.s0=0
  ·rw[h];exact .inl rfl
  ·exact .inr h
 simp only[List.all_cons,List.all_nil,biG];rcases this with h|h
 ·rw[h];simp only[bgO,bjM]
 ·simp only[h,decide_false,bgK,bhO]
def spR(s1 s2 s3 s4:Int)(k:Nat):Int:=match k with
 |1=>s1
 |2=>s2
 |3=>s3
 |_=>s4
theorem arG{C:Ctx}(L:yh C)(k m q s0 s1 s2 s3 s4:Int) :
  FL.wp C (aW x9.res (aK (.bool (VB k m q s0 s1 s2 s3 s4)))) (PF.args [.int .i64 k,.int .i64 m,.int .i64 q,.agg [.int .i64 s0,.int .i64 s1,.int .i64 s2,.int .i64 s3,.int .i64 s4]]) .nil:=by
 obtain⟨X,w⟩:∃X,VB k m q s0 s1 s2 s3 s4=X:=⟨_,rfl⟩;rw[w];unfold VB at w;simp only[go_sem,FL,p9,qa,x9];refine aB (L.code k m) rfl ?_;cases I:RX k m with
 |false =>rw[I,bgK]at w;simp only[go_sem,bgS,DW];refine aU (.inr rfl) rfl ?_;rw[cF,w]
 |true=>
  rw[I,bgO]at w;have hb:1≤k∧k≤6∧0≤m∧m≤4:=by simp only[RX,bgU,within_iff]at I;omega
  have S:IntKind.i64.wrap (k+m)=k+m:=wrap_i64 Om Om;simp only[go_sem,bgJ,S];refine aB (L.inn q k (k+m)) rfl ?_;cases K:within q k (k+m)with
  |false =>rw[K,bgK]at w;simp only[go_sem,bgS,DW];refine aU (.inr rfl) rfl ?_;rw[cF,w]
  |true=>
   rw[K,bgO]at w;have F:(0:Int)<((5:Nat):Int):=by decide
   by_cases J:s0=0
   ·rw[bX J,bgO]at w;simp only[go_sem,bgJ,F,bR J,qb];refine wp_loop (α:=Nat) (λj=>((PF.nil.set 7 (.bE [.int .i64 s0,.int .i64 s1,.int .i64 s2,.int .i64 s3,.int .i64 s4])).set 9 (.int .i64 j))) (λ_=>.nil) (λj=>1≤j∧j≤5∧∀i,1≤i→i<j→within (spR s1 s2 s3 s4 i) 0 8=true) (λj=>5-j) 1 ⟨by decide,by decide,λi I K=>by omega⟩ Lq a_ ?_;rintro j ⟨N,O,l⟩;simp only[go_sem,p8,qc];by_cases hlt:j<5
    ·have u:(j:Int)<5:=Om;have A:((j:Nat):Int)<((5:Nat):Int):=Om;have y:=L.inn (spR s1 s2 s3 s4 j) 0 8;obtain⟨c,x⟩:∃c,within (spR s1 s2 s3 s4 j) 0 8=c:=⟨_,rfl⟩;rw[x]at y;have B:c=true→∀i,1≤i→i<j+1→within (spR s1 s2 s3 s4 i) 0 8=true:=λE i a b=>by
      by_cases e:i=j
      ·rw[e,x,E]
      ·exact l i a Om
     have bad:c=false→X=false:=by intro h;rw[h]at x;have E:j=1∨j=2∨j=3∨j=4:=Om;rw[←w];rcases E with rfl|rfl|rfl|rfl<;>(simp only[spR]at x;rw[x];simp)
     have E:j=1∨j=2∨j=3∨j=4:=Om;cases c with
     |false=>
      have M:=bad rfl;rcases E with rfl|rfl|rfl|rfl
      all_goals
       simp only[spR]at y;simp only[go_sem,u,QE,A];refine aB y rfl ?_;simp only[go_sem,bgS,qd];refine aU (.inr rfl) rfl ?_;rw[cF,M]
     |true=>
      have R:=B rfl;rcases E with rfl|rfl|rfl|rfl
      all_goals
       simp only[spR]at y;simp only[go_sem,u,QE,A];refine aB y rfl ?_;simp only[go_sem,bgJ,qe];refine aG (_+1) ⟨by omega,hlt,R⟩ Om Lq b_
    ·have u:¬(j:Int)<5:=Om;have:j=5:=Om;subst this;simp only[go_sem,u,qf];refine aU (.inr rfl) rfl ?_;have a1:=l 1 aV aV;have a2:=l 2 aV aV;have a3:=l 3 aV aV;have a4:=l 4 aV aV;simp only[spR]at a1 a2 a3 a4;rw[cF,←w,a1,a2,a3,a4];rfl
   ·rw[bV J,bgK]at w;simp only[go_sem,bgJ,F,cP J,DW];refine aU (.inr rfl) rfl ?_;rw[cF,w]
theorem xD{x:RF}(h:eG x=true):x.valid:=by
 unfold eG vN at h;unfold RF.valid;cases e:eJ (val x.num) (val x.den)with
 |true=>rfl
 |false =>rw[e]at h;simp at h
theorem aRZ{C:Ctx}(L:yh C)(x:RF)(A:x.Ok):QG.wp C (aW apX.res (aK (.bool (eG x)))) (PF.args [.agg x.cells]) .nil:=by
 have y:=L.red x A;unfold eG;simp only[go_sem,QG,T0,T1,apX];refine aB y rfl ?_;cases he:vN x with
 |error e =>have u:=aiE he;simp only[go_sem,frV];refine aQ λo w=>?_;simp only[go_sem,MS,bD u];refine aU (.inr rfl) rfl ?_;rfl
 |ok r=>
  obtain⟨n,a,b⟩:=r;have B:=sF a 1;have E:=sF b 1;have j:decide (((nl a:Nat):Int)≤1)=decide (dZ a≤32):=decide_eq_decide.2 Om;have l:decide (((nl b:Nat):Int)≤1)=decide (dZ b≤32):=decide_eq_decide.2 Om;simp only[go_sem,frV];refine aQ λo w=>?_;cases n with
  |true =>simp only[go_sem,MS,bgJ];refine aU (.inr rfl) rfl ?_;rfl
  |false=>
   simp only[go_sem,MS,bgS,bfY,bJ,j];cases decide (dZ a≤32)with
   |false =>simp only[go_sem];refine aU (.inr rfl) rfl ?_;rfl
   |true =>simp only[go_sem,bfY,bJ,l];refine aU (.inr rfl) rfl ?_;rfl
structure Gi(C:Ctx):Prop extends yh C where
 small:∀x:RF,x.Ok→aI C 74 [.agg x.cells] .nil (aK (.bool (eG x)))
 nums:∀k m q s0 s1 s2 s3 s4:Int,aI C 72 [.int .i64 k,.int .i64 m,.int .i64 q,.agg [.int .i64 s0,.int .i64 s1,.int .i64 s2,.int .i64 s3,.int .i64 s4]] .nil (aK (.bool (VB k m q s0 s1 s2 s3 s4)))
 sizes:∀a b c d e f:Nat,aI C 73 [.int .i64 a,.int .i64 b,.int .i64 c,.int .i64 d,.int .i64 e,.int .i64 f] .nil (aK (.bool (wP a b c d e f)))
theorem zt{l:List RF}{k:Nat}(h:k<Z' l):(l.map RF.cells)[k]?=some (l[k]).cells:=by simp[h]
theorem aLH{C:Ctx}(L:Gi C)(l:List RF)(w:pD l)(n:Int):KJ.wp C (aW Jo.res (aK (.bool (decide ((Z' l:Int)=n)&&l.all eG)))) (PF.args [frs l,.int .i64 n]) .nil:=by
 have x:=w.fits;unfold Fits at x;simp only[go_sem,KJ,Fc,Fe,Jo,bfY];by_cases h:(Z' l:Int)=n
 ·rw[bX h,bgO];subst h;simp only[go_sem,bR (show(Z' l:Int)=(Z' l:Nat)from rfl),Fg];refine wp_loop (α:=Nat) (λk=>(((PF.nil.set 0 (frs l)).set 1 (.int .i64 (Z' l:Nat))).set 5 (.int .i64 k))) (λ_=>.nil) (λk=>k≤Z' l∧(l.take k).all eG=true) (λk=>Z' l-k) 0 ⟨bgE _,rfl⟩ Lq a_ ?_;rintro k ⟨A,j⟩;simp only[go_sem,Fb,Fh];by_cases hlt:k<Z' l
  ·have e:(k:Int)<(Z' l:Nat):=Om;have y:=L.small l[k] (w.all _ (bgD hlt));simp only[go_sem,e,Fi,zt hlt];refine aB y rfl ?_;cases hi:eG l[k]with
   |false =>simp only[go_sem,bgS,Fj];refine aU (.inr rfl) rfl ?_;rw[cF,vX hlt hi]
   |true =>have u:=bgY.1 (vW hlt j hi);simp only[go_sem,bgJ,Fk,wZz k];exact aG (k+1) ⟨hlt,u⟩ Om Lq b_
  ·have e:¬(k:Int)<(Z' l:Nat):=Om;have:k=Z' l:=Om;subst this;rw[bhA]at j;simp only[go_sem,e,Fl];refine aU (.inr rfl) rfl ?_;rw[cF,j]
 ·rw[bV h,bgK];simp only[go_sem,cP h,Ff];refine aU (.inr rfl) rfl ?_;rfl
structure Gj(C:Ctx):Prop extends Gi C where
 smalls:∀l:List RF,pD l→∀n:Int,aI C 75 [frs l,.int .i64 n] .nil (aK (.bool (decide ((Z' l:Int)=n)&&l.all eG)))
theorem WD(x:RF):(yR x==0)=!cC x:=by
 unfold yR cC;by_cases h:val x.num=0
 ·simp[h]
 ·cases x.neg<;>simp[h]
def wj(l:List RF)(m:Int):Bool:=decide ((Z' l:Int)=max m 1)&&l.all eG&&l.all cC
theorem a4H{C:Ctx}(L:Gj C)(l:List RF)(y:pD l)(m:Int):ix.wp C (aW aZA.res (aK (.bool (wj l m)))) (PF.args [frs l,.int .i64 m]) .nil:=by
 have B:=y.fits;unfold Fits at B;have F:=L.smalls l y (max m 1);unfold wj;simp only[go_sem,ix,aFC,aFD,aZA,max_eq];refine aB F rfl ?_;cases h:(decide ((Z' l:Int)=max m 1)&&l.all eG)with
 |false =>simp only[go_sem,bgS,aFE];refine aU (.inr rfl) rfl ?_;rfl
 |true=>
  rw[bgU]at h;have j:=bgY.1 h.2;simp only[go_sem,bgJ,aFF];refine wp_loop (α:=Nat) (λk=>((PF.nil.set 0 (frs l)).set 5 (.int .i64 k))) (λ_=>.nil) (λk=>k≤Z' l∧(l.take k).all cC=true) (λk=>Z' l-k) 0 ⟨bgE _,rfl⟩ Lq a_ ?_;rintro k ⟨I,w⟩;simp only[go_sem,aFB,aFG,bfY];by_cases hlt:k<Z' l
  ·have e:(k:Int)<(Z' l:Nat):=Om;have A:=bgD hlt;have E:=L.sign l[k] (y.all _ A) (xD (j _ A));have u:=WD l[k];simp only[go_sem,e,aFH,zt hlt];refine aB E rfl ?_;cases hi:cC l[k]with
   |false =>rw[hi]at u;simp only[go_sem,u,bgS,aFI];refine aU (.inr rfl) rfl ?_;rw[cF,vX hlt hi]
   |true =>rw[hi]at u;have x:=bgY.1 (vW hlt w hi);simp only[go_sem,u,bgJ,aFJ,wZz k];exact aG (k+1) ⟨hlt,x⟩ Om Lq b_
  ·have e:¬(k:Int)<(Z' l:Nat):=Om;have:k=Z' l:=Om;subst this;rw[bhA]at w;simp only[go_sem,e,aFK];refine aU (.inr rfl) rfl ?_;rw[cF,w]
structure Gk(C:Ctx):Prop extends Gj C where
 reps:∀l:List RF,pD l→∀m:Int,aI C 66 [frs l,.int .i64 m] .nil (aK (.bool (wj l m)))
def frD:List PV→RF
 |[.bool n,a,b]=>⟨n,nS a,nS b⟩
 |_=>⟨false,[],[]⟩
theorem Kd(x:RF):frD x.cells=x:=by
 show(⟨x.neg,nS (aN x.num),nS (aN x.den)⟩:RF)=x;rw[hJ,hJ]
def zdS(r s:Bool):Spec:=λname vs=>match name,vs with
 |66,_=>some ([],λ_=>aK (.bool r))
 |74,[.agg cs]=>some ([],λ_=>aK (.bool (eG (frD cs))))
 |47,_=>some ([],λ_=>aK (.agg (mkT 1 1).cells))
 |49,_=>some ([],λ_=>aK (.bool s))
 |_,_=>none
theorem Tk(r s:Bool)(x:RF):zdS r s 74 [.agg x.cells]=some ([],λ_=>aK (.bool (eG x))):=by
 show some ([],λ_=>aK (.bool (eG (frD x.cells))))=_;rw[Kd]
theorem aOO(x y:RF):wK y x=- wK x y:=by
 unfold wK wJ;have e:=Jt (val x.num*val y.den) (val y.num*val x.den);cases x.neg&&decide (val x.num≠0)<;>cases y.neg&&decide (val y.num≠0)<;>simp only[e,Int.neg_neg]<;>rfl
theorem aWB{x:RF}(e:x.valid):decide (wK (mkT 1 1) x<0)=!FF x:=by
 rw[aOO x];unfold FF;rw[show eJ (val x.num) (val x.den)=true from e,bgO,RA];unfold wK;simp only[aZ,show(1:Int).natAbs=1 from rfl,show decide ((1:Int)<0)=false from rfl];by_cases h:wJ x.neg (val x.num) (val x.den) false 1 1≤0
 ·rw[bX h,bV Om];rfl
 ·rw[bV h,bX Om];rfl
def ZX(m:Int)(rep:List RF)(t h:RF):Bool:=wj rep m&&(eG t&&(FF t&&eG h))
theorem a4F{C:Ctx}(L:Gk C)(m:Int)(rep:List RF)(x:pD rep)(t h:RF)(u:t.Ok)(w:h.Ok) :
  iu.wp C (aW aYU.res (aK (.bool (ZX m rep t h)))) (PF.args [.int .i64 m,frs rep,.agg t.cells,.agg h.cells]) .nil:=by
 have j:eX 1:=by unfold eX;omega
 unfold ZX;simp only[go_sem,iu,aER,aYU];refine bA .nil (zdS (wj rep m) (!FF t)) a_ ?_;simp only[go_sem,aES];refine cO rfl (L.reps rep x m) rfl a_ ?_;cases wj rep m with
 |false =>simp only[go_sem];refine aU (.inr rfl) rfl ?_;rfl
 |true=>
  simp only[go_sem];refine cO (Tk _ _ t) (L.small t u) rfl a_ ?_;cases l:eG t with
  |false =>simp only[go_sem];refine aU (.inr rfl) rfl ?_;rfl
  |true=>
   have e:=L.less (mkT 1 1) t (QZ 1 j).1 u (QZ 1 j).2 (xD l);rw[aWB (xD l)]at e;simp only[go_sem];refine cO rfl (L.int 1 j) rfl a_ ?_;simp only[go_sem];refine cO rfl e rfl a_ ?_;cases FF t with
   |false =>simp only[go_sem,bgS,bgJ];refine aU (.inr rfl) rfl ?_;rfl
   |true =>simp only[go_sem,bgJ,bgS];refine cO (Tk _ _ h) (L.small h w) rfl a_ ?_;simp only[go_sem];refine aU (.inr rfl) rfl ?_;rfl
theorem a5I(p:dV):LO p=ZX p.m p.repair p.target p.beV:=by
 unfold LO ZX wj;have:(p.repair.all λx=>eG x&&cC x)=(p.repair.all eG&&p.repair.all cC):=by
  induction p.repair with
  |nil=>rfl
  |cons a t e =>simp only[List.all_cons,e];cases eG a<;>cases cC a<;>simp
 rw[this];simp only[bjM]
section
variable {H:PH} {B:List BX} {L:List LI}
theorem aO.aFT(h:aO H B L)(i:Nat){s b:Nat}{v y:PV}{rows src:List (List PV)}{K:PV→PH→Prop}(hi:L[i]?=some (v,s,rows))(E:fA H s y=some src)(A:roomFor rows.length src.length b)
  (u:∀v' H',bH H' s v rows→aO H' B (L.set i (v',s,rows++src))→K v' H'):pF H s b v y K:=by
 rcases h.own i hi with⟨rfl,rfl⟩|⟨q,rs,rfl,h1,h2,h3⟩
 ·exact h.append i hi E A λv' H' F _=>u v' H' (.inl ⟨rfl,rfl⟩) F
 ·have e:(rows++src).length=Z' rows+Z' src:=bgB;refine⟨src,E,rfl,rfl,A,rs,h1,h2,?_,λo l=>?_⟩
  ·rw[h3];refine u _ _ (.inr ⟨q,rows++src,rfl,by rw[cB],by rw[e];omega,List.take_left' rfl⟩) (h.WU i hi (.inr ⟨q,rows++src,by rw[e],by simp only[aR,if_true],bgG _,bhA⟩) (λp j=>by cases j;exact .inl rfl) λp _ j=>?_);rw[aR,aE (j q rfl)]
  ·rw[h3];have x:q≠o:=by rintro rfl;rw[h1]at l;cases l
   refine u _ _ (.inr ⟨q,rs,rfl,by rw[aR,aE x];exact h1,h2,h3⟩) (h.WU i hi (.inr ⟨o,rows++src,by rw[e],by simp only[aR,if_true],bgG _,bhA⟩) (λp j=>by cases j;exact .inr l) λp w j=>?_);obtain⟨f1,f2⟩:=h.fresh l;have I:p≠o:=by rintro rfl;exact w.elim f1 f2
   rw[aR,aE I]
end
abbrev sW(l:List (List UInt8)):List (List PV):=l.map λs=>[PV.str s]
def JE:List (List UInt8)→List UInt8→Nat→Int
 |[],_,_=>-1
 |x::t,s,i=>if x==s then(i:Int)else JE t s (i+1)
theorem aaO(s:List UInt8):∀(l:List (List UInt8)) (i:Nat),decide (JE l s i<0)=!l.contains s
 |[],i=>rfl
 |x::t,i=>by
  rw[JE,List.contains_cons,BEq.comm (a:=s)];by_cases h:(x==s)=true
  ·rw[aL h,h,Bool.true_or,bV Om];rfl
  ·rw[aE h,aaO s t (i+1)];simp only[Bool.not_eq_true]at h;rw[h,Bool.false_or]
theorem aRW{C:Ctx}(l:List (List UInt8))(y:Z' l≤1000000)(s:List UInt8):QD.wp C (aW apJ.res (aK (.int .i64 (JE l s 0)))) (PF.args [.sl 1 (sW l),.str s]) .nil:=by
 simp only[go_sem,QD,Tr,Ts,apJ];refine wp_loop (α:=Nat) (λk=>(((PF.nil.set 0 (.sl 1 (sW l))).set 1 (.str s)).set 5 (.int .i64 k))) (λ_=>.nil) (λk=>k≤Z' l∧JE l s 0=JE (l.drop k) s k) (λk=>Z' l-k) 0 ⟨bgE _,rfl⟩ Lq a_ ?_;rintro k ⟨x,j⟩;simp only[go_sem,Tq,Tt,bfY];by_cases hlt:k<Z' l
 ·have e:(k:Int)<(Z' l:Nat):=Om;have u:(sW l)[k]?=some [.str l[k]]:=by simp[hlt]
  rw[biL hlt,JE]at j;cases w:l[k]==s with
  |true =>rw[w,aL rfl]at j;simp only[go_sem,e,iv,u,w,Tu];refine aU (.inr rfl) rfl ?_;rw[cF,j]
  |false =>rw[w,aE aV]at j;simp only[go_sem,e,iv,u,w,Tv,wZz k];exact aG (k+1) ⟨hlt,j⟩ Om Lq b_
 ·have e:¬(k:Int)<(Z' l:Nat):=Om;have:k=Z' l:=Om;subst this;rw[List.drop_length,JE]at j;simp only[go_sem,e,Tw];refine aU (.inr rfl) rfl ?_;rw[cF,j]
structure Gl(C:Ctx):Prop extends Gk C where
 name:∀s:List UInt8,aI C 62 [.str s] .nil (aK (.bool (isName s)))
 index:∀(l:List (List UInt8)),Z' l≤1000000→∀s:List UInt8,aI C 71 [.sl 1 (sW l),.str s] .nil (aK (.int .i64 (JE l s 0)))
def nT(l:List (List UInt8))(s:List UInt8):Bool:=isName s&&!l.contains s
def yb(l:List (List UInt8))(s:List UInt8)(r:PV)(B:List BX)(L:List LI):Prop:=∃e,r=.tup [e,.bool (nT l s)]∧B=[]∧L=[(e,1,sW (l++[s]))]
theorem aRV{C:Ctx}(L:Gl C)(l:List (List UInt8))(U:Z' l≤1000000)(s:List UInt8)(w:PV)(H:PH)(R:aO H [] [(w,1,sW l)]) :
  QC.wp C (aW apI.res (λr H'=>∃B' L',yb l s r B' L'∧aO H' B' L')) (PF.args [w,.str s]) H:=by
 have y:=L.index l U s;have K:=L.name s;have u:=aaO s l 0;have J:(1:Nat)*1≤16777216:=by decide
 have fin:∀(F:PF)(H':PH)(j:PV)(b:Bool),F 4=some j→F 5=some (.bool b)→b=nT l s→aO H' [] [(j,1,sW (l++[s]))]→aW [.tmp 4,.tmp 5] (λr H'=>∃B' L',yb l s r B' L'∧aO H' B' L') .ret F H':=λF H' j b N O e I=>
  bB (vs:=[j,.bool b]) (.inr rfl) H' (by simp only[go_sem,N,O]) b_ ⟨[],_,⟨j,by rw[e];rfl,rfl,rfl⟩,I⟩
 simp only[go_sem,QC,Tn,To,apI,J];refine R.aFT 0 (src:=[[.str s]]) rfl rfl (by unfold roomFor;rw[bfY];simp only[bgI,maxLen];omega) λj H' S I=>?_;have x:aO H' [] [(j,1,sW (l++[s]))]:=by
  have e:sW (l++[s])=sW l++[[.str s]]:=by simp[sW]
  rw[e];exact I
 refine aB K rfl ?_;cases M:isName s with
 |false =>simp only[go_sem];exact fin _ _ j false rfl rfl (by unfold nT;rw[M,bgK]) x
 |true=>
  have A:nT l s=!l.contains s:=by unfold nT;rw[M,bgO]
  rcases S with⟨V,rfl⟩|⟨q,rs,rfl,q1,q2,q3⟩
  ·simp only[go_sem];rw[V]at y;have E:aI C 71 [.aH,.str s] .nil (aK (.int .i64 (JE l s 0))):=y.args (.cons (.nil 1) (.cons (.refl _) .nil));refine aB E rfl ?_;simp only[go_sem,u];exact fin _ _ j _ rfl rfl A.symm x
  ·simp only[go_sem];refine aqY (vs:=[.osl q 1 0 (sW l).length,.str s]) (.int .i64 (JE l s 0)) ?_ q1 Sq ?_
   ·rw[bhJ,bhJ,biS,zV q2,q3];exact y
   simp only[go_sem,u];exact fin _ _ j _ rfl rfl A.symm x
theorem aQG{x:RF}(h:eG x=true):decide (yR x>0)=cC x:=by
 have j:=xD h;unfold eG vN at h;rw[show eJ (val x.num) (val x.den)=true from j,aL rfl,tb j]at h;unfold yR cC;by_cases e:val x.num=0
 ·simp[e]
 ·have hq:val x.num/bgC (val x.num) (val x.den)≠0:=by have:=Nat.div_pos (Nat.gcd_le_left (val x.den) (biX e)) (Nat.gcd_pos_of_pos_left _ (biX e));omega
  have l:x.neg=false:=by unfold tB at h;simp only[hq,ne_eq,not_false_eq_true,decide_true,biG,bgU]at h;simpa using h.1
  rw[aE e,l];simp[e]
structure Vd(l:dN):Prop where
 exit:∀x∈l.exit,eG x=true
 row:∀r∈l.beP,∀x∈r,eG x=true
structure wW(C:Ctx):Prop extends Gl C where
 fresh:∀(l:List (List UInt8)),Z' l≤1000000→∀(s:List UInt8)(w:PV)(H:PH),aO H [] [(w,1,sW l)]→aI C 70 [w,.str s] H (λr H'=>∃B' L',yb l s r B' L'∧aO H' B' L')
theorem wW.pos{C:Ctx}(L:wW C){x:RF}(e:x.Ok)(h:eG x=true):∃n:Int,aI C 54 [.agg x.cells] .nil (aK (.int .i64 n))∧decide (n>0)=cC x:=⟨_,L.sign x e (xD h),aQG h⟩
def zlF(l:dN)(o r i:Nat):PF:=(((((PF.nil.set 1 (.bE l.cells)).set 3 (.int .i64 (Z' l.exit:Nat))).set 7 (.osl o 1 0 l.exit.length)).set 8 (.int .i64 r)).set 9 (.int .i64 i))
theorem aYV{C:Ctx}(L:wW C)(l:dN)(o r i:Nat)(row:List RF)(U:(l.beP.map λr=>[frs r])[i]?=some [frs row])(M:pD row)(J:∀x∈row,eG x=true)(Y:Z' row=Z' l.exit)(hi:i<Z' l.exit)(hn:Z' l.exit≤4)(j:List Bool)(hR:Z' j=Z' l.exit)(K:cQ)[Up K](F:PF)(H:PH)
  (O:((zlF l o r i).set 10 (.int .i64 0)).le F) (N:(mQ o j).le H)
  (X:K (.exit 6) (zlF l o r i) (mQ o (dX j i row row.length))):aC.wp C (.loop YA) K F H:=by
 refine wp_loop (α:=Nat) (λk=>(zlF l o r i).set 10 (.int .i64 k)) (λk=>mQ o (dX j i row k)) (λk=>k≤Z' row) (λk=>Z' row-k) 0 (bgE _) O N ?_;intro k hk;have W:=BN j i row k;have B:∀h:k<Z' row,dX j i row (k+1)=(dX j i row k).set i ((dX j i row k).getD i false||cC row[k]&&(dX j i row k).getD k false):=λh=>by simp only[dX,bgF,bgT,bgH h,bhD,biE]
 have fin:∀(b:Bool)(F:PF)(H:PH),k<Z' row→bK (dX j i row (k+1))=(bK (dX j i row k)).set i [.bool b]→((zlF l o r i).set 10 (.int .i64 (k+1:Nat))).le F→H o=some (.rows 1 ((bK (dX j i row k)).set i [.bool b])) →
   fZ (λk:Nat=>(zlF l o r i).set 10 (.int .i64 k)) (λk=>mQ o (dX j i row k)) (λk=>k≤Z' row) (λk=>Z' row-k) (Z' row-k) K .normal F H:=by
  intro b F H hlt hb O N;refine aG (k+1) hlt Om O ?_;rw[←hb]at N;exact e_ a_ N
 unfold zlF mQ at fin;simp only[go_sem,YA,apQ,zlF,mQ];by_cases hlt:k<Z' row
 ·have e:(k:Int)<(Z' l.exit:Nat):=Om;have y:(i:Int)<(Z' l.exit:Nat):=Om;have w:=fI (R:=dX j i row k) (i:=i) Om;have E:=fI (R:=dX j i row k) (i:=k) Om;have u:=B hlt;obtain⟨n,V,I⟩:=L.pos (M.all _ (bgD hlt)) (J _ (bgD hlt));have S:=zt hlt;generalize hb:(dX j i row k).getD i false=b at *
  generalize hc:(dX j i row k).getD k false=c at *
  generalize Z:cC row[k]=A at *
  cases b with
  |true =>simp only[go_sem,e,x5,y,bgL,w,YB,wZz k];exact fin true _ _ hlt (by rw[u,jM,Bool.true_or]) Lq Sq
  |false=>
   simp only[go_sem,e,x5,y,bgL,w,U,S];refine aB V rfl ?_;cases A with
   |false =>simp only[go_sem,I,y,e,bgL,w,E,YB,wZz k];exact fin false _ _ hlt (by rw[u,jM,Bool.false_or,bgK]) Lq Sq
   |true =>simp only[go_sem,I,y,e,bgL,w,E,YB,wZz k];exact fin c _ _ hlt (by rw[u,jM,Bool.false_or,bgO]) Lq Sq
 ·have e:¬(k:Int)<(Z' l.exit:Nat):=Om;have:k=Z' row:=Om;subst this;simp only[go_sem,e];refine Up.up ?_ X
  (repeat' (first|exact c_|refine d_ ?_ ?_))<;>first|(simp only[go_sem,zlF]<;>rfl)|rfl
theorem aYX{C:Ctx}(L:wW C)(l:dN)(U:l.Ok)(he:KK l)(W:Vd l)(o r:Nat)(R:List Bool)(hR:Z' R=Z' l.exit)(K:cQ)[Up K](F:PF)(H:PH)
  (M:(zlF l o r 0).le F) (N:(mQ o R).le H)
  (Z:K (.exit 4) (zlF l o r l.exit.length) (mQ o (eN l R l.exit.length))):aC.wp C (.loop xw) K F H:=by
 refine wp_loop (α:=Nat) (λi=>zlF l o r i) (λi=>mQ o (eN l R i)) (λi=>i≤Z' l.exit) (λi=>Z' l.exit-i) 0 (bgE _) M N ?_;intro i hi;have V:=xO l R i;have hn:=he.n;simp only[go_sem,xw,apP,zlF,mQ];by_cases hlt:i<Z' l.exit
 ·have e:(i:Int)<(Z' l.exit:Nat):=Om;have u:i<Z' l.beP:=by rw[he.beP];exact hlt
  have y:=fI (R:=eN l R i) (i:=i) Om;have hx:=zt hlt;have I:(l.beP.map λr=>[frs r])[i]?=some [frs l.beP[i]]:=by simp[u]
  have O:(l.beP[i]).length=Z' l.exit:=he.row _ (bgD u);generalize w:(eN l R i).set i ((eN l R i).getD i false||cC l.exit[i])=J;have B:Z' J=Z' l.exit:=by rw[←w,bhU];omega
  have A:eN l R (i+1)=dX J i l.beP[i] (l.beP[i]).length:=by
   simp only[eN,qD];have X:(l.exit.map cC).getD i false=cC l.exit[i]:=by simp[bgF,hlt]
   have Y:l.beP.getD i []=l.beP[i]:=by simp[bgF,u]
   rw[X,Y,w]
  obtain⟨n,S,E⟩:=L.pos (U.exit.all _ (bgD hlt)) (W.exit _ (bgD hlt));have x:∀(F:PF)(H:PH),(zlF l o r i).le F→H o=some (.rows 1 (bK J)) →
    aC.wp C (.seq (.region x4) (.block 6 (.loop YA))) (fN 5 (kJ C (aC.wp C (.region x6)) (fZ (λi:Nat=>zlF l o r i) (λi=>mQ o (eN l R i)) (λi=>i≤Z' l.exit) (λi=>Z' l.exit-i) (Z' l.exit-i) K))) F H:=by
   intro F H M N;refine uW _ (λ_ _ _ _ a b=>Up.up a b) M ?_;simp only[go_sem,x4];refine aYV L l o r i l.beP[i] I (U.row _ (bgD u)) (W.row _ (bgD u)) O hlt hn J B _ _ _ (by(repeat' (first|exact c_|refine d_ ?_ ?_))<;>first|(simp only[go_sem,zlF]<;>rfl)|rfl) (e_ a_ N) ?_;simp only[go_sem,zlF,x6,wZz i];exact aG (i+1) hlt Om Lq (by rw[A];exact b_)
  simp only[zlF,mQ]at x;have j:=x;simp only[aC.wp,go_sem]at j;generalize hb:(eN l R i).getD i false=b at *
  cases b with
  |true =>simp only[go_sem,e,x3,e,bgL,y];refine j _ _ Lq ?_;rw[←w];simp only[go_sem,jM,Bool.true_or]
  |false =>simp only[go_sem,e,x3,e,bgL,y,hx];refine aB S rfl ?_;simp only[go_sem,e,bgL,y,E];refine j _ _ Lq ?_;rw[←w];simp only[go_sem,jM,Bool.false_or]
 ·have e:¬(i:Int)<(Z' l.exit:Nat):=Om;have:i=Z' l.exit:=Om;subst this;simp only[go_sem,e];exact Up.up (by(repeat' (first|exact c_|refine d_ ?_ ?_))<;>first|(simp only[go_sem,zlF]<;>rfl)|rfl) Z
theorem aYW{C:Ctx}(L:wW C)(l:dN)(y:l.Ok)(he:KK l)(A:Vd l)(o:Nat)(K:cQ)[Up K](F:PF)(H:PH)
  (u:(((((PF.nil.set 1 (.bE l.cells)).set 3 (.int .i64 (Z' l.exit:Nat))).set 7 (.osl o 1 0 l.exit.length)).set 8 (.int .i64 0)):PF).le F) (w:(mQ o (eP l 0)).le H)
  (x:K (.exit 2) (((PF.nil.set 3 (.int .i64 (Z' l.exit:Nat))).set 7 (.osl o 1 0 l.exit.length))) (mQ o (eP l l.exit.length))):aC.wp C (.loop xx) K F H:=by
 have B:=he.n;refine wp_loop (α:=Nat) (λr=>((((PF.nil.set 1 (.bE l.cells)).set 3 (.int .i64 (Z' l.exit:Nat))).set 7 (.osl o 1 0 l.exit.length)).set 8 (.int .i64 r))) (λr=>mQ o (eP l r)) (λr=>r≤Z' l.exit) (λr=>Z' l.exit-r) 0 (bgE _) u w ?_;intro r E;have j:=xN l r;simp only[go_sem,xx,apN];by_cases hlt:r<Z' l.exit
 ·have e:(r:Int)<(Z' l.exit:Nat):=Om;simp only[go_sem,e,apO];refine aYX L l y he A o r (eP l r) j _ _ _ (by(repeat' (first|exact c_|refine d_ ?_ ?_))<;>first|(simp only[go_sem,zlF]<;>rfl)|rfl) b_ ?_;simp only[go_sem,zlF,apR,wZz r];exact aG (r+1) hlt Om Lq b_
 ·have e:¬(r:Int)<(Z' l.exit:Nat):=Om;have:r=Z' l.exit:=Om;subst this;simp only[go_sem,e];exact Up.up Lq x
theorem a6S{C:Ctx}(R:List Bool)(I:Z' R≤4)(o:Nat)(X:Bool)(B:X=R.all id)(Q:PV→PH→Prop)(A:Q=aK (.bool X))(F:PF)(H:PH)
  (x:((((PF.nil.set 3 (.int .i64 (Z' R:Nat))).set 7 (.osl o 1 0 R.length)).set 11 (.int .i64 0)):PF).le F) (y:(mQ o R).le H):aC.wp C (.loop xy) (fN 8 (kJ C (aC.wp C (.seq (.region x8) .ret)) (aW [.tmp 2] Q))) F H:=by
 subst B A;refine wp_loop (α:=Nat) (λk=>(((PF.nil.set 3 (.int .i64 (Z' R:Nat))).set 7 (.osl o 1 0 R.length)).set 11 (.int .i64 k))) (λ_=>mQ o R) (λk=>k≤Z' R∧(R.take k).all id=true) (λk=>Z' R-k) 0 ⟨bgE _,rfl⟩ x y ?_;rintro k ⟨J,u⟩;simp only[go_sem,xy,apT,mQ];by_cases hlt:k<Z' R
 ·have e:(k:Int)<(Z' R:Nat):=Om;have j:=fI (R:=R) (i:=k) hlt;have E:R.getD k false=R[k]:=by simp[bgF,hlt]
  rw[E]at j;cases l:R[k]with
  |false =>rw[l]at j;simp only[go_sem,e,x7,bgL,j,bgS,apU];refine aU (.inr rfl) rfl ?_;rw[cF,vX hlt (p:=id) l]
  |true =>rw[l]at j;have w:=vW hlt u (p:=id) l;simp only[go_sem,e,x7,bgL,j,bgJ,apV,wZz k];exact aG (k+1) ⟨hlt,by simpa using bgY.1 w⟩ Om Lq b_
 ·have e:¬(k:Int)<(Z' R:Nat):=Om;have:k=Z' R:=Om;subst this;rw[bhA]at u;simp only[go_sem,e,x8];refine aU (.inr rfl) rfl ?_;rw[cF,u]
def Marks(R S:List Bool):Prop:=Z' R=Z' S∧∀j:Nat,R[j]?=some true→S[j]?=some true
theorem Marks.a6D(R:List Bool):Marks R R:=⟨rfl,λ_ h=>h⟩
theorem Marks.trans{R S T:List Bool}(h:Marks R S)(k:Marks S T):Marks R T:=⟨h.1.trans k.1,λj a=>k.2 j (h.2 j a)⟩
theorem abP(R:List Bool)(i:Nat)(b:Bool):Marks R (R.set i (R.getD i false||b)):=by
 refine⟨by rw[bhU],λj h=>?_⟩;rw[bjT];obtain⟨l,he⟩:=bhG.1 h;split
 ·rename_i e;subst e;rw[aL l,bgF,h];rfl
 ·exact h
theorem Lh(R:List Bool)(i:Nat)(row:List RF):∀k,Marks R (dX R i row k)
 |0=>Marks.a6D R
 |k+1=>(Lh R i row k).trans (abP _ _ _)
theorem NJ(l:dN)(R:List Bool):∀i,Marks R (eN l R i)
 |0=>Marks.a6D R
 |i+1=>(NJ l R i).trans ((abP _ _ _).trans (Lh _ _ _ _))
theorem abQ:∀{R S:List Bool},Marks R S→R≠S→R.count true<S.count true
 |[],[],_,h=>absurd rfl h
 |[],_::_,h,_=>by have:=h.1;simp at this
 |_::_,[],h,_=>by have:=h.1;simp at this
 |a::R,b::S,h,l=>by
  have u:a=true→b=true:=λe=>by have:=h.2 0 (by rw[e];rfl);simpa using this
  have x:Marks R S:=⟨by have:=h.1;simpa using this,λj w=>by have:=h.2 (j+1) (by simpa using w);simpa using this⟩;by_cases e:R=S
  ·subst e;have:a≠b:=λe=>l (by rw[e]);cases a<;>cases b<;>simp at this u ⊢
  ·have:=abQ x e;cases a<;>cases b<;>simp at u ⊢<;>omega
theorem y9:∀{R:List Bool},Z' R≤R.count true→R.all id=true
 |[],_=>rfl
 |a::R,h=>by
  have e:=List.count_le_length (a:=true) (l:=R);cases a with
  |true =>simp only[List.count_cons_self,bhT]at h;simp only[List.all_cons,id,bgO];exact y9 Om
  |false =>simp at h;omega
theorem VQ(l:dN){s:Nat}(h:eP l (s+1)=eP l s):∀d,eP l (s+d)=eP l s
 |0=>rfl
 |d+1=>by show eN l (eP l (s+d)) l.exit.length=_;rw[VQ l h d];exact h
theorem Db(l:dN):∀r,(∃s,s<r∧eP l (s+1)=eP l s)∨r≤(eP l r).count true
 |0=>.inr (bgE _)
 |r+1=>by
  rcases Db l r with⟨s,u,j⟩|h
  ·exact .inl ⟨s,by omega,j⟩
  ·by_cases e:eP l (r+1)=eP l r
   ·exact .inl ⟨r,by omega,e⟩
   ·have:=abQ (NJ l (eP l r) l.exit.length) (λh=>e h.symm);exact .inr (by show r+1≤(eN l (eP l r) l.exit.length).count true;omega)
theorem a0L(l:dN):vO l=(eP l l.exit.length).all id:=by
 unfold vO;rcases Db l l.exit.length with⟨s,F,u⟩|h
 ·obtain⟨d,B⟩:∃d,Z' l.exit=s+d:=⟨Z' l.exit-s,by omega⟩;rw[show l.exit.length+1=s+(d+1) by omega,B,VQ l u,VQ l u]
 ·have w:(eP l l.exit.length).all id=true:=y9 (by rw[xN];exact h);have A:Marks (eP l l.exit.length) (eP l (Z' l.exit+1)):=NJ l (eP l l.exit.length) l.exit.length;rw[w,bgY];intro x E;obtain⟨j,y,rfl⟩:=bhV E;have e:j<(eP l l.exit.length).length:=by rw[A.1];exact y
  have:=A.2 j (by rw[bgH e];have:=bgY.1 w _ (bgD e);simpa using this);rw[bgH y]at this;simpa using this
def zsS(s:Bool):Spec:=λname vs=>match name,vs with
 |47,_=>some ([],λ_=>aK (.agg (mkT 1 1).cells))
 |53,_=>some ([],λ_=>aK (.bool s))
 |_,_=>none
theorem aUK(l:dN):pN l=(within l.start.length 1 4&&((decide ((Z' l.start:Int)=Z' l.start)&&l.start.all eG)&&((decide ((Z' l.exit:Int)=Z' l.start)&&l.exit.all eG)&&(decide (Z' l.beP=Z' l.start)&&((bfZ l.beP.length).all (zJ l)&&(DC l&&vO l)))))):=by
 rw[avV,bX (rfl:(Z' l.start:Int)=Z' l.start),bgO];have:decide (Z' l.exit=Z' l.start)=decide ((Z' l.exit:Int)=Z' l.start):=decide_eq_decide.2 Om;rw[this];cases within l.start.length 1 4<;>cases decide ((Z' l.exit:Int)=Z' l.start)<;>cases decide (Z' l.beP=Z' l.start)<;>cases l.start.all eG<;>cases l.exit.all eG<;>simp[bjM]
theorem aiI(l:dN){i:Nat}(h:i<Z' l.beP):zJ l i=((decide (((l.beP[i]).length:Int)=Z' l.start)&&(l.beP[i]).all eG)&&!((l.beP[i]).map cC).getD i false):=by
 unfold zJ;have:l.beP.getD i []=l.beP[i]:=by simp[bgF,h]
 rw[this];have:decide ((l.beP[i]).length=Z' l.start)=decide (((l.beP[i]).length:Int)=Z' l.start):=decide_eq_decide.2 Om;rw[this]
theorem a4G{C:Ctx}(L:wW C)(l:dN)(R:l.Ok):iw.wp C (aW aYY.res (aK (.bool (pN l)))) (PF.args [.agg l.cells]) .nil:=by
 have u:=aUK l;have fail:∀(F:PF)(H:PH),pN l=false→F 2=some (.bool false)→aW [.tmp 2] (aK (.bool (pN l))) .ret F H:=λF H e h=>by rw[e];exact bB (vs:=[.bool false]) (.inr rfl) .nil (by simp only[go_sem,h]) a_ ⟨rfl,rfl⟩
 have e1:=L.smalls l.start R.start l.start.length;have e2:=L.smalls l.exit R.exit l.start.length;simp only[go_sem,iw,aEU,aEV,aYY,bfY,aEW];by_cases c1:(Z' l.start:Int)<1
 ·simp only[go_sem,c1,IK];exact fail _ _ (by rw[u,show within l.start.length 1 4=false from by unfold within;rw[bV Om,bgK],bgK]) rfl
 by_cases c2:(Z' l.start:Int)>4
 ·simp only[go_sem,c1,c2,IK];exact fail _ _ (by rw[u,show within l.start.length 1 4=false from by unfold within;rw[bV (Om:¬(Z' l.start:Int)≤4),bhO],bgK]) rfl
 rw[show within l.start.length 1 4=true from by unfold within;rw[bX (Om:(1:Int)≤(Z' l.start:Nat)),bX (Om:(Z' l.start:Int)≤4)];rfl,bgO]at u;simp only[go_sem,c1,c2];refine aB e1 rfl ?_;cases k1:(decide ((Z' l.start:Int)=Z' l.start)&&l.start.all eG)with
 |false =>rw[k1,bgK]at u;simp only[go_sem,bgS,IK];exact fail _ _ u rfl
 |true=>
 rw[k1,bgO]at u;simp only[go_sem,bgJ];refine aB e2 rfl ?_;cases k2:(decide ((Z' l.exit:Int)=Z' l.start)&&l.exit.all eG)with
 |false =>rw[k2,bgK]at u;simp only[go_sem,bgS,IK];exact fail _ _ u rfl
 |true=>
 rw[k2,bgO]at u;rw[bgU,decide_eq_true_eq]at k2;have E:Z' l.exit=Z' l.start:=Om;have O:=bgY.1 k2.2;by_cases c3:Z' l.beP=Z' l.start
 case neg =>rw[bV c3,bgK]at u;simp only[go_sem,bgJ,bfY,cP (Om:(Z' l.beP:Int)≠(Z' l.start:Nat)),IK];exact fail _ _ u rfl
 rw[bX c3,bgO]at u;simp only[go_sem,bgJ,bfY,bR (Om:(Z' l.beP:Int)=(Z' l.start:Nat)),aEX];refine wp_loop (α:=Nat) (λi=>(((PF.nil.set 1 (.bE l.cells)).set 3 (.int .i64 (Z' l.start:Nat))).set 4 (.int .i64 i))) (λ_=>.nil) (λi=>i≤Z' l.start∧∀j,j<i→zJ l j=true) (λi=>Z' l.start-i) 0 ⟨bgE _,λj h=>by omega⟩ Lq a_ ?_;rintro i ⟨hi,y⟩;simp only[go_sem,aET,aEY];by_cases hlt:i<Z' l.start
 ·have A:(i:Int)<(Z' l.start:Nat):=Om;have B:i<Z' l.beP:=Om;have J:(l.beP.map λr=>[frs r])[i]?=some [frs l.beP[i]]:=by simp[B]
  have X:=R.row _ (bgD B);have e3:=L.smalls l.beP[i] X l.start.length;have w:=aiI l B;have bad:zJ l i=false→pN l=false:=λh=>by rw[u,show(bfZ l.beP.length).all (zJ l)=false from List.all_eq_false.2 ⟨i,bgW.2 B,by simp[h]⟩,bgK]
  simp only[go_sem,A,aEZ,J];refine aB e3 rfl ?_;cases k3:(decide (((l.beP[i]).length:Int)=Z' l.start)&&(l.beP[i]).all eG)with
  |false =>rw[k3,bgK]at w;simp only[go_sem,bgS,Jn];exact fail _ _ (bad w) rfl
  |true=>
   rw[k3,bgO]at w;rw[bgU,decide_eq_true_eq]at k3;have ι:(l.beP[i]).length=Z' l.start:=Om;have K:i<(l.beP[i]).length:=Om;have hm:=bgD K;have hs:=L.sign _ (X.all _ hm) (xD (bgY.1 k3.2 _ hm));have hz:=WD (l.beP[i])[i];have hg:((l.beP[i]).map cC).getD i false=cC (l.beP[i])[i]:=by simp[bgF,K]
   rw[hg]at w;have I:(yR (l.beP[i])[i] != 0)=cC (l.beP[i])[i]:=by rw[bne,hz,Bool.not_not]
   simp only[go_sem,bgJ,J,zt K];refine aB hs rfl ?_;cases k4:cC (l.beP[i])[i]with
   |true =>rw[k4]at w I;simp only[go_sem,I,Jn];exact fail _ _ (bad w) rfl
   |false=>
    rw[k4]at w I;simp only[go_sem,I,aFA,wZz i];exact aG (i+1) ⟨hlt,λj hj=>by
     by_cases e:j=i
     ·rw[e];exact w
     ·exact y j Om⟩ Om Lq b_
 ·have A:¬(i:Int)<(Z' l.start:Nat):=Om;have:i=Z' l.start:=Om;subst this;have M:(bfZ l.beP.length).all (zJ l)=true:=bgY.2 λj hj=>y j (by rw[←c3];exact bgW.1 hj);rw[M,bgO]at u;have Z:∀r∈l.beP,Z' r=Z' l.start∧∀x∈r,eG x=true:=λr W=>by obtain⟨j,hj,rfl⟩:=bhV W;have h:=y j Om;rw[aiI l hj,bgU,bgU,decide_eq_true_eq]at h;exact⟨by omega,bgY.1 h.1.2⟩
  have V:Vd l:=⟨O,λr W=>(Z r W).2⟩;have U:KK l:=⟨by omega,by omega,λr W=>by rw[(Z r W).1,E]⟩;have β:=L.sum l.start R.start.all R.start.fits;simp only[go_sem,A,apK];refine aB β rfl ?_;cases S:tZ (l.start.map RF.v)with
  |error e=>
   have ε:=akF S;have:DC l=false:=by unfold DC;rw[S]
   rw[this,bgK]at u;simp only[go_sem,frV];refine aQ λo ho=>?_;simp only[go_sem];refine bA .nil cK a_ ?_;simp only[go_sem,xz,cP ε,x2];exact fail _ _ u rfl
  |ok r=>
   have Y:=aBX S;have η:=Do S;obtain⟨n,a,b⟩:=r;have h1:eX 1:=by unfold eX;omega
   have N:=L.same (FV.rf (n,a,b)) (mkT 1 1) Y (QZ 1 h1).1 (by unfold RF.valid FV.rf;simp only[aZ];exact η) (QZ 1 h1).2;have hP:DC l=(wK (FV.rf (n,a,b)) (mkT 1 1)==0):=by unfold DC;rw[S,RA];unfold wK FV.rf;simp only[aZ,show(1:Int).natAbs=1 from rfl,show decide ((1:Int)<0)=false from rfl];by_cases h:wJ n a b false 1 1=0<;>simp[h]
   simp only[go_sem,frV];refine aQ λo ho=>?_;have hH:aO (PH.nil.set o (.rows 3 [(FV.rf (n,a,b)).cells])) [(o,.rows 3 [(FV.rf (n,a,b)).cells])] []:=aO.nil.new (H:=PH.nil) rfl _;simp only[go_sem];refine bA (PH.nil.set o (.rows 3 [(FV.rf (n,a,b)).cells])) (zsS (wK (FV.rf (n,a,b)) (mkT 1 1)==0)) b_ ?_;simp only[go_sem,xz,bR (show(0:Int)=0 from rfl)];refine cO rfl (L.int 1 h1) rfl b_ ?_;simp only[go_sem];refine cO rfl N rfl b_ ?_;rw[←hP];cases hp:DC l with
   |false =>rw[hp,bgK]at u;simp only[go_sem,bgS,x2];exact fail _ _ u rfl
   |true=>
    rw[hp,bgO,a0L]at u;have γ:(Z' l.start:Int)*((1:Nat):Int)≤140737488355328:=Om;have δ:(Z' l.start:Int)≤9223372036854775807:=Om;simp only[go_sem,bgJ,apL,γ,δ];refine aQ λq hq=>?_;simp only[go_sem,apM];have θ:bgA l.start.length [PV.bool false]=bK (eP l 0):=by rw[←E];simp[eP,bK]
    rw[←E];refine aYW L l R U V q _ _ _ Lq ?_ ?_
    ·refine e_ a_ ?_;rw[cB,E,θ]
    simp only[go_sem,apS];have ζ:(eP l l.exit.length).length≤4:=by rw[xN];omega
    refine a6S (eP l l.exit.length) ζ q (pN l) u _ rfl _ _ ?_ b_;rw[xN];exact Lq
structure zR(C:Ctx):Prop extends wW C where
 law:∀l:dN,l.Ok→aI C 68 [.agg l.cells] .nil (aK (.bool (pN l)))
def okL(base ns:List (List UInt8))(P:Nat→Bool)(i:Nat):Bool:=nT (base++ns.take i) (ns.getD i [])&&P i
theorem yU{p:Nat→Bool}(k:Nat)(b:Bool):(b&&(bfZ (k+1)).all p)=((b&&(bfZ k).all p)&&p k):=by
 rw[biO,List.all_append];cases(bfZ k).all p<;>cases b<;>simp
theorem yT{p:Nat→Bool}{b:Bool}{i n:Nat}(hi:i≤n)(h:(b&&(bfZ i).all p)=false):(b&&(bfZ n).all p)=false:=by
 cases b with
 |false=>rfl
 |true =>rw[bgO]at h ⊢;obtain⟨x,j,e⟩:=List.all_eq_false.1 h;exact List.all_eq_false.2 ⟨x,bgW.2 (by have:=bgW.1 j;omega),e⟩
structure mO(H:PH)(w:PV)(base ns:List (List UInt8))(c:Bool)(i:Nat):Prop where
 ex:∃names,aO H [] [(w,1,sW names)]∧(c=true→names=base++ns.take i)
section
variable {C:Ctx} {F:PF} {H:PH} {d:Option Nat} {K:PF→PH→Prop}
theorem mO.call(L:wW C){w:PV}{base ns:List (List UInt8)}{i:Nat}{B:List BX}{e:List (List UInt8)}(h:aO H B [(w,1,sW e)])(J:Z' base≤1000)(hi:i≤1000)(y:e=base++ns.take i)(l:i<Z' ns){a b:Nat}(j:aS.evs F [.tmp a,.tmp b]=some [w,.str ns[i]])
  (E:∀u H',aO H' B [(u,1,sW (e++[ns[i]]))]→mO H' u base ns true (i+1)→K (F.put d (.tup [u,.bool (nT (base++ns.take i) (ns.getD i []))])) H'):kF C 70 [.tmp a,.tmp b] [] d K F H:=by
 refine PY (B1:=[]) (B2:=B) (L1:=[(w,1,sW e)]) (L2:=[]) (Q:=yb e ns[i]) h (λH0 I=>L.fresh e (by rw[y,bgB,bgP];omega) ns[i] w H0 I) j ?_;rintro r B' L' H' ⟨u,rfl,rfl,rfl⟩ A;have x:ns.getD i []=ns[i]:=by simp[bgF,l]
 rw[x,←y]at E;refine E u H' A ⟨e++[ns[i]],A.sub (List.nil_sublist _) (biK.refl _),λ_=>?_⟩;rw[bhW l,←bgX,y]
end
theorem mO.Jh{H:PH}{w:PV}{base ns:List (List UInt8)}{c:Bool}{i:Nat}(h:mO H w base ns true i):mO H w base ns c i:=by
 obtain⟨e,j,l⟩:=h.ex;exact⟨e,j,λ_=>l rfl⟩
def TL(f:aD):Bool:=(bfZ f.beS.length).all (okL [] (f.beS.map dN.name) λi=>(f.beS.map pN).getD i false)
theorem a4J{C:Ctx}(L:zR C)(f:aD)(Y:f.Ok)(hs:Z' f.beS≤4)(K:cQ)[Up K](F:PF)(H:PH)
  (W:(((((((((PF.nil.set 1 (.bE f.cells)).set 3 (.aH)).set 4 (.aH)).set 5 (.aH)).set 6 (.aH)).set 7 (.aH)).set 8 (.bool true)).set 9 (.int .i64 0)):PF).le F)
  (O:∀H',K (.exit 0) (((((((PF.nil.set 1 (.bE f.cells)).set 4 (.aH)).set 5 (.aH)).set 6 (.aH)).set 7 (.aH)).set 8 (.bool (TL f)))) H'):aC.wp C (.loop YC) K F H:=by
 obtain⟨ok,E⟩:∃ok,okL [] (f.beS.map dN.name) (λi=>(f.beS.map pN).getD i false)=ok:=⟨_,rfl⟩;unfold TL at O;rw[E]at O;refine wp_loop (α:=Nat × PV × PH) (λs=>((((((((PF.nil.set 1 (.bE f.cells)).set 3 (s.2.1)).set 4 (.aH)).set 5 (.aH)).set 6 (.aH)).set 7 (.aH)).set 8 (.bool (true&&(bfZ s.1).all ok))).set 9 (.int .i64 s.1))) (λs=>s.2.2) (λs=>s.1≤Z' f.beS∧mO s.2.2 s.2.1 [] (f.beS.map dN.name) (true&&(bfZ s.1).all ok) s.1) (λs=>Z' f.beS-s.1)
  (0,.aH,H) ⟨bgE _,⟨[],aO.nil.oV 1,λ_=>rfl⟩⟩ W b_ ?_
 rintro⟨i,w,H0⟩ ⟨hi,U⟩;simp only at hi U ⊢;have fin:∀(b:Bool)(x:PV)(J:PF)(H':PH),i<Z' f.beS→(true&&(bfZ (i+1)).all ok)=b→mO H' x [] (f.beS.map dN.name) true (i+1) →
   (((((((((PF.nil.set 1 (.bE f.cells)).set 3 (x)).set 4 (.aH)).set 5 (.aH)).set 6 (.aH)).set 7 (.aH)).set 8 (.bool b)).set 9 (.int .i64 (i+1:Nat))):PF).le J →
   fZ (λs:Nat × PV × PH=>((((((((PF.nil.set 1 (.bE f.cells)).set 3 (s.2.1)).set 4 (.aH)).set 5 (.aH)).set 6 (.aH)).set 7 (.aH)).set 8 (.bool (true&&(bfZ s.1).all ok))).set 9 (.int .i64 s.1))) (λs=>s.2.2) (λs=>s.1≤Z' f.beS∧mO s.2.2 s.2.1 [] (f.beS.map dN.name) (true&&(bfZ s.1).all ok) s.1) (λs=>Z' f.beS-s.1) (Z' f.beS-i) K .normal J H':=
  λb x J H' hlt hb N M=>aG (i+1,x,H') ⟨hlt,N.Jh⟩ (by simp only;omega) (by simp only;rw[hb];exact M) b_
 have j:=yU (p:=ok) i true;have u:(true&&(bfZ i).all ok)=(true&&(bfZ f.beS.length).all ok)→K (.exit 0) (((((((PF.nil.set 1 (.bE f.cells)).set 4 (.aH)).set 5 (.aH)).set 6 (.aH)).set 7 (.aH)).set 8 (.bool (true&&(bfZ i).all ok)))) H0:=λe=>by rw[e,bgO];exact O H0
 have A:=λh=>yT (p:=ok) (b:=true) hi h;generalize X:(true&&(bfZ i).all ok)=c at *
 simp only[go_sem,YC,T7,bfY];by_cases hlt:i<Z' f.beS
 ·have l:(i:Int)<(Z' f.beS:Nat):=Om;cases c with
  |false =>simp only[go_sem,l];exact Up.up Lq (u (A rfl).symm)
  |true=>
   obtain⟨S,g1,g3⟩:=U.ex;have B:(f.beS.map dN.cells)[i]?=some (f.beS[i]).cells:=by simp[hlt]
   have R:i<(f.beS.map dN.name).length:=by rw[bfY];exact hlt
   have I:ok i=(nT ([]++(f.beS.map dN.name).take i) ((f.beS.map dN.name).getD i [])&&pN f.beS[i]):=by rw[←E];unfold okL;simp[bgF,hlt]
   have Z:=L.law _ (Y.law _ (bgD hlt));rw[I]at j;simp only[go_sem,l,T8,B];refine mO.call L.towW (ns:=f.beS.map dN.name) g1 (bgE _) Om (g3 rfl) R (by simp only[go_sem,bhY]) λx H1 h1 y=>?_;generalize nT ([]++(f.beS.map dN.name).take i) ((f.beS.map dN.name).getD i [])=V at *
   cases V with
   |false =>simp only[go_sem,iy,iz,wZz i];exact fin false x _ _ hlt (j.trans rfl) y Lq
   |true =>simp only[go_sem,iy,B];refine aB Z rfl ?_;simp only[go_sem,iz,wZz i];exact fin _ x _ _ hlt (j.trans rfl) y Lq
 ·have l:¬(i:Int)<(Z' f.beS:Nat):=Om;have:i=Z' f.beS:=Om;subst this;simp only[go_sem,l];exact Up.up Lq (u X.symm)
theorem fe{a b c d e f:Nat}(h:wP a b c d e f=true):a≤4∧b≤4∧c≤40∧d≤24∧e≤4∧f≤12:=by
 simp only[wP,bgU,decide_eq_true_eq]at h;omega
theorem E8{n:Nat}(h:n≤1000):IntKind.i64.wrap ((n:Int)-1)=(n:Int)-1:=wrap_i64 Om Om
def inS:Spec:=λname vs=>match name,vs with
 |76,[.int _ n,.int _ lo,.int _ hi]=>some ([],λ_=>aK (.bool (within n lo hi)))
 |_,_=>none
def Hp(beS:Nat)(m:eE):Bool:=within m.bfB 1 16&&(within m.port 1 64&&within m.law 0 ((beS:Int)-1))
def aoN(pols:Nat)(v:iY):Bool:=within v.beX 0 ((pols:Int)-1)
def IE(f:aD):Bool:=(bfZ f.beL.length).all (okL [] (f.beL.map eE.name) λi=>(f.beL.map (Hp f.beS.length)).getD i false)
theorem aSB{C:Ctx}(L:zR C)(f:aD)(hf:f.Ok)(hz:wP f.beS.length f.beL.length f.beN.length f.beK.length f.beO.length f.beM.length=true)(b:Bool)(K:cQ)[Up K](F:PF)(H:PH)
  (hF:((((((((PF.nil.set 1 (.bE f.cells)).set 4 (.aH)).set 5 (.aH)).set 6 (.aH)).set 7 (.aH)).set 8 (.bool b)).set 10 (.int .i64 0)):PF).le F)
  (R:∀H',K (.exit 2) ((((((PF.nil.set 1 (.bE f.cells)).set 5 (.aH)).set 6 (.aH)).set 7 (.aH)).set 8 (.bool (b&&IE f)))) H'):aC.wp C (.loop YD) K F H:=by
 obtain⟨β,γ,δ,ε,ζ,η⟩:=fe hz;obtain⟨ok,E⟩:∃ok,okL [] (f.beL.map eE.name) (λi=>(f.beL.map (Hp f.beS.length)).getD i false)=ok:=⟨_,rfl⟩;unfold IE at R;rw[E]at R;refine wp_loop (α:=Nat × PV × PH) (λs=>(((((((PF.nil.set 1 (.bE f.cells)).set 4 (s.2.1)).set 5 (.aH)).set 6 (.aH)).set 7 (.aH)).set 8 (.bool (b&&(bfZ s.1).all ok))).set 10 (.int .i64 s.1))) (λs=>s.2.2) (λs=>s.1≤Z' f.beL∧mO s.2.2 s.2.1 [] (f.beL.map eE.name) (b&&(bfZ s.1).all ok) s.1) (λs=>Z' f.beL-s.1)
  (0,.aH,H) ⟨bgE _,⟨[],aO.nil.oV 1,λ_=>rfl⟩⟩ (by
   have e:(b&&(bfZ 0).all ok)=b:=by cases b<;>rfl
   simp only[e];exact hF) b_ ?_
 rintro⟨i,w,H0⟩ ⟨hi,X⟩;simp only at hi X ⊢;have fin:∀(c:Bool)(x:PV)(J:PF)(H':PH),i<Z' f.beL→(b&&(bfZ (i+1)).all ok)=c→mO H' x [] (f.beL.map eE.name) true (i+1) →
   ((((((((PF.nil.set 1 (.bE f.cells)).set 4 (x)).set 5 (.aH)).set 6 (.aH)).set 7 (.aH)).set 8 (.bool c)).set 10 (.int .i64 (i+1:Nat))):PF).le J →
   fZ (λs:Nat × PV × PH=>(((((((PF.nil.set 1 (.bE f.cells)).set 4 (s.2.1)).set 5 (.aH)).set 6 (.aH)).set 7 (.aH)).set 8 (.bool (b&&(bfZ s.1).all ok))).set 10 (.int .i64 s.1))) (λs=>s.2.2) (λs=>s.1≤Z' f.beL∧mO s.2.2 s.2.1 [] (f.beL.map eE.name) (b&&(bfZ s.1).all ok) s.1) (λs=>Z' f.beL-s.1) (Z' f.beL-i) K .normal J H':=
  λc x J H' hlt hb O N=>aG (i+1,x,H') ⟨hlt,O.Jh⟩ (by simp only;omega) (by simp only;rw[hb];exact N) b_
 have j:=yU (p:=ok) i b;have y:(b&&(bfZ i).all ok)=(b&&(bfZ f.beL.length).all ok)→K (.exit 2) ((((((PF.nil.set 1 (.bE f.cells)).set 5 (.aH)).set 6 (.aH)).set 7 (.aH)).set 8 (.bool (b&&(bfZ i).all ok)))) H0:=λe=>by rw[e];exact R H0
 have B:=λh=>yT (p:=ok) (b:=b) hi h;generalize hc:(b&&(bfZ i).all ok)=c at *
 simp only[go_sem,YD,Fo,bfY];by_cases hlt:i<Z' f.beL
 ·have l:(i:Int)<(Z' f.beL:Nat):=Om;cases c with
  |false =>simp only[go_sem,l];exact Up.up Lq (y (B rfl).symm)
  |true=>
   obtain⟨W,g1,g3⟩:=X.ex;have S:(f.beL.map eE.cells)[i]?=some (f.beL[i]).cells:=by simp[hlt]
   have U:i<(f.beL.map eE.name).length:=by rw[bfY];exact hlt
   have I:ok i=(nT ([]++(f.beL.map eE.name).take i) ((f.beL.map eE.name).getD i [])&&(Hp f.beS.length) f.beL[i]):=by rw[←E];unfold okL;simp[bgF,hlt]
   rw[I]at j;have A:Hp f.beS.length f.beL[i]=(within (f.beL[i]).bfB 1 16&&(within (f.beL[i]).port 1 64&&within (f.beL[i]).law 0 ((Z' f.beS:Int)-1))):=rfl;rw[A]at j;simp only[go_sem,l,Fp,S];refine aQ λo ho=>?_;have g4:=g1.new ho (.rows 4 [(f.beL[i]).cells]);have Z:=g4.at 0 rfl;simp only[go_sem];generalize H0.set o (.rows 4 [(f.beL[i]).cells])=H2 at *
   simp only[go_sem,Fq,Z];refine mO.call L.towW (ns:=(f.beL.map eE.name)) g4 (bgE _) Om (g3 rfl) U (by simp only[go_sem,bhY]) λx H1 h1 u=>?_;have M:=h1.at 0 rfl;generalize nT ([]++(f.beL.map eE.name).take i) ((f.beL.map eE.name).getD i [])=Y at *
   cases Y with
   |false =>simp only[go_sem,YF,BZ,wZz i];exact fin false x _ _ hlt (j.trans rfl) u Lq
   |true=>
    simp only[go_sem,YF,M];refine aB (L.inn (f.beL[i]).bfB 1 16) rfl ?_;cases V:within (f.beL[i]).bfB 1 16 with
    |false =>simp only[go_sem,BZ,wZz i];exact fin false x _ _ hlt (by rw[j,V]<;>simp) u Lq
    |true=>
     simp only[go_sem,M];refine aB (L.inn (f.beL[i]).port 1 64) rfl ?_;cases k1:within (f.beL[i]).port 1 64 with
     |false =>simp only[go_sem,BZ,wZz i];exact fin false x _ _ hlt (by rw[j,V,k1]<;>simp) u Lq
     |true =>simp only[go_sem,M,bfY,E8 (Om:Z' f.beS≤1000)];refine aB (L.inn (f.beL[i]).law 0 ((Z' f.beS:Int)-1)) rfl ?_;simp only[go_sem,BZ,wZz i];exact fin _ x _ _ hlt (by rw[j,V,k1]<;>simp) u Lq
 ·have l:¬(i:Int)<(Z' f.beL:Nat):=Om;have:i=Z' f.beL:=Om;subst this;simp only[go_sem,l];exact Up.up Lq (y hc.symm)
def U8(f:aD):Bool:=(bfZ f.beM.length).all (okL [] (f.beM.map iY.name) λi=>(f.beM.map (aoN f.beO.length)).getD i false)
theorem a4L{C:Ctx}(L:zR C)(f:aD)(hf:f.Ok)(Z:wP f.beS.length f.beL.length f.beN.length f.beK.length f.beO.length f.beM.length=true)(b:Bool)(K:cQ)[Up K](F:PF)(H:PH)
  (X:(((((PF.nil.set 1 (.bE f.cells)).set 7 (.aH)).set 8 (.bool b)).set 21 (.int .i64 0)):PF).le F)
  (R:∀H',K (.exit 14) (((PF.nil.set 1 (.bE f.cells)).set 8 (.bool (b&&U8 f)))) H'):aC.wp C (.loop HP) K F H:=by
 obtain⟨β,γ,δ,ε,ζ,η⟩:=fe Z;obtain⟨ok,I⟩:∃ok,okL [] (f.beM.map iY.name) (λi=>(f.beM.map (aoN f.beO.length)).getD i false)=ok:=⟨_,rfl⟩;unfold U8 at R;rw[I]at R;refine wp_loop (α:=Nat × PV × PH) (λs=>((((PF.nil.set 1 (.bE f.cells)).set 7 (s.2.1)).set 8 (.bool (b&&(bfZ s.1).all ok))).set 21 (.int .i64 s.1))) (λs=>s.2.2) (λs=>s.1≤Z' f.beM∧mO s.2.2 s.2.1 [] (f.beM.map iY.name) (b&&(bfZ s.1).all ok) s.1) (λs=>Z' f.beM-s.1)
  (0,.aH,H) ⟨bgE _,⟨[],aO.nil.oV 1,λ_=>rfl⟩⟩ (by
   have e:(b&&(bfZ 0).all ok)=b:=by cases b<;>rfl
   simp only[e];exact X) b_ ?_
 rintro⟨i,w,H0⟩ ⟨hi,V⟩;simp only at hi V ⊢;have fin:∀(c:Bool)(y:PV)(M:PF)(H':PH),i<Z' f.beM→(b&&(bfZ (i+1)).all ok)=c→mO H' y [] (f.beM.map iY.name) true (i+1) →
   (((((PF.nil.set 1 (.bE f.cells)).set 7 (y)).set 8 (.bool c)).set 21 (.int .i64 (i+1:Nat))):PF).le M →
   fZ (λs:Nat × PV × PH=>((((PF.nil.set 1 (.bE f.cells)).set 7 (s.2.1)).set 8 (.bool (b&&(bfZ s.1).all ok))).set 21 (.int .i64 s.1))) (λs=>s.2.2) (λs=>s.1≤Z' f.beM∧mO s.2.2 s.2.1 [] (f.beM.map iY.name) (b&&(bfZ s.1).all ok) s.1) (λs=>Z' f.beM-s.1) (Z' f.beM-i) K .normal M H':=
  λc y M H' hlt hb O N=>aG (i+1,y,H') ⟨hlt,O.Jh⟩ (by simp only;omega) (by simp only;rw[hb];exact N) b_
 have j:=yU (p:=ok) i b;have u:(b&&(bfZ i).all ok)=(b&&(bfZ f.beM.length).all ok)→K (.exit 14) (((PF.nil.set 1 (.bE f.cells)).set 8 (.bool (b&&(bfZ i).all ok)))) H0:=λe=>by rw[e];exact R H0
 have B:=λh=>yT (p:=ok) (b:=b) hi h;generalize Y:(b&&(bfZ i).all ok)=c at *
 simp only[go_sem,HP,Ge,bfY];by_cases hlt:i<Z' f.beM
 ·have l:(i:Int)<(Z' f.beM:Nat):=Om;cases c with
  |false =>simp only[go_sem,l];exact Up.up Lq (u (B rfl).symm)
  |true=>
   obtain⟨U,g1,g3⟩:=V.ex;have E:(f.beM.map iY.cells)[i]?=some (f.beM[i]).cells:=by simp[hlt]
   have S:i<(f.beM.map iY.name).length:=by rw[bfY];exact hlt
   have J:ok i=(nT ([]++(f.beM.map iY.name).take i) ((f.beM.map iY.name).getD i [])&&(aoN f.beO.length) f.beM[i]):=by rw[←I];unfold okL;simp[bgF,hlt]
   rw[J]at j;have x:aoN f.beO.length f.beM[i]=within (f.beM[i]).beX 0 ((Z' f.beO:Int)-1):=rfl;rw[x]at j;simp only[go_sem,l,Gf,E];refine mO.call L.towW (ns:=(f.beM.map iY.name)) g1 (bgE _) Om (g3 rfl) S (by simp only[go_sem,bhY]) λy H1 h1 A=>?_;generalize nT ([]++(f.beM.map iY.name).take i) ((f.beM.map iY.name).getD i [])=W at *
   cases W with
   |false =>simp only[go_sem];refine bA .nil (inS) a_ ?_;simp only[go_sem,YR,YS,wZz i];exact fin false y _ _ hlt (j.trans rfl) A Lq
   |true =>simp only[go_sem];refine bA .nil (inS) a_ ?_;simp only[go_sem,YR,E,bfY,E8 (Om:Z' f.beO≤1000)];refine cO rfl (L.inn (f.beM[i]).beX 0 ((Z' f.beO:Int)-1)) rfl a_ ?_;simp only[go_sem,YS,wZz i];exact fin _ y _ _ hlt (j.trans rfl) A Lq
 ·have l:¬(i:Int)<(Z' f.beM:Nat):=Om;have:i=Z' f.beM:=Om;subst this;simp only[go_sem,l];exact Up.up Lq (u Y.symm)
def aHR:Spec:=λname vs=>match name,vs with
 |76,[.int _ n,.int _ lo,.int _ hi]=>some ([],λ_=>aK (.bool (within n lo hi)))
 |74,[.agg cs]=>some ([],λ_=>aK (.bool (eG (frD cs))))
 |_,_=>none
theorem aHS(x:RF):aHR 74 [.agg x.cells]=some ([],λ_=>aK (.bool (eG x))):=by
 show some ([],λ_=>aK (.bool (eG (frD x.cells))))=_;rw[Kd]
def Wb(f:aD)(i:Nat)(d:dQ):Bool:=
 within d.level 1 4&&(within d.parent 0 i&&(((f.beN.map dQ.level).getD d.parent.toNat 0==IntKind.i64.wrap (d.level-1))&&(within d.bfF 1 64&&eG d.bfA)))
theorem a0H(f:aD)(i:Nat)(d:dQ):SC f i d=Wb f i d:=by
 unfold SC Wb;have:decide ((f.beN.map dQ.level).getD d.parent.toNat 0=IntKind.i64.wrap (d.level-1))=((f.beN.map dQ.level).getD d.parent.toNat 0==IntKind.i64.wrap (d.level-1)):=by generalize(f.beN.map dQ.level).getD d.parent.toNat 0=u;by_cases h:u=IntKind.i64.wrap (d.level-1)<;>simp[h]
 rw[this];cases within d.parent 0 i<;>cases within d.level 1 4<;>cases within d.bfF 1 64<;>simp
def mG(f:aD):List (List UInt8):=(f.beN.drop 1).map dQ.name
def FP(f:aD)(i:Nat):Bool:=match f.beN[i+1]? with
 |some d=>Wb f i d
 |none=>false
def FQ(f:aD):Bool:=(bfZ (Z' f.beN-1)).all (okL [] (mG f) (FP f))
theorem Wa(f:aD):(mG f).length=Z' f.beN-1:=by simp[mG]
theorem a4I{C:Ctx}(L:zR C)(f:aD)(hf:f.Ok)(μ:Z' f.beN≤40)(h0:0<Z' f.beN)(b:Bool)(K:cQ)[Up K](F:PF)(H:PH)
  (hF:(((((((PF.nil.set 1 (.bE f.cells)).set 5 (.aH)).set 6 (.aH)).set 7 (.aH)).set 8 (.bool b)).set 13 (.int .i64 1)):PF).le F)
  (W:∀w H',mO H' w [] (mG f) (b&&FQ f) (Z' f.beN-1)→K (.exit 4) ((((((PF.nil.set 1 (.bE f.cells)).set 5 (w)).set 6 (.aH)).set 7 (.aH)).set 8 (.bool (b&&FQ f)))) H'):aC.wp C (.loop HL) K F H:=by
 obtain⟨ok,O⟩:∃ok,okL [] (mG f) (FP f)=ok:=⟨_,rfl⟩;unfold FQ at W;rw[O]at W;obtain⟨n,hn⟩:∃n,Z' f.beN=n+1:=⟨Z' f.beN-1,by omega⟩;have η:=Wa f;have ζ:Z' f.beN-1=n:=Om;rw[ζ]at W η;refine wp_loop (α:=Nat × PV × PH) (λs=>((((((PF.nil.set 1 (.bE f.cells)).set 5 (s.2.1)).set 6 (.aH)).set 7 (.aH)).set 8 (.bool (b&&(bfZ s.1).all ok))).set 13 (.int .i64 (s.1+1:Nat)))) (λs=>s.2.2) (λs=>s.1≤n∧mO s.2.2 s.2.1 [] (mG f) (b&&(bfZ s.1).all ok) s.1) (λs=>n-s.1)
  (0,.aH,H) ⟨bgE _,⟨[],aO.nil.oV 1,λ_=>rfl⟩⟩ (by
   have e:(b&&(bfZ 0).all ok)=b:=by cases b<;>rfl
   simp only[e];exact hF) b_ ?_
 rintro⟨i,w,H0⟩ ⟨hi,hG⟩;simp only at hi hG ⊢;have fin:∀(c:Bool)(A:PV)(Y:PF)(H':PH),i<n→(b&&(bfZ (i+1)).all ok)=c→mO H' A [] (mG f) true (i+1) →
   (((((((PF.nil.set 1 (.bE f.cells)).set 5 (A)).set 6 (.aH)).set 7 (.aH)).set 8 (.bool c)).set 13 (.int .i64 (i+1+1:Nat))):PF).le Y →
   fZ (λs:Nat × PV × PH=>((((((PF.nil.set 1 (.bE f.cells)).set 5 (s.2.1)).set 6 (.aH)).set 7 (.aH)).set 8 (.bool (b&&(bfZ s.1).all ok))).set 13 (.int .i64 (s.1+1:Nat)))) (λs=>s.2.2) (λs=>s.1≤n∧mO s.2.2 s.2.1 [] (mG f) (b&&(bfZ s.1).all ok) s.1) (λs=>n-s.1) (n-i) K .normal Y H':=
  λc A Y H' hlt hb β Z=>aG (i+1,A,H') ⟨hlt,β.Jh⟩ (by simp only;omega) (by simp only;rw[hb];exact Z) b_
 have j:=yU (p:=ok) i b;have M:=λh=>yT (p:=ok) (b:=b) hi h;have E:(b&&(bfZ i).all ok)=(b&&(bfZ n).all ok)→((b&&(bfZ i).all ok)=true→i=n)→K (.exit 4) ((((((PF.nil.set 1 (.bE f.cells)).set 5 (w)).set 6 (.aH)).set 7 (.aH)).set 8 (.bool (b&&(bfZ i).all ok)))) H0:=λe e2=>by
  obtain⟨y,g1,g3⟩:=hG.ex;have:=W w H0 ⟨y,g1,λh=>by have h':=e.trans h;rw[g3 h',e2 h']⟩
  rwa[←e]at this
 generalize hc:(b&&(bfZ i).all ok)=c at *
 simp only[go_sem,HL,Ft,bfY];by_cases hlt:i<n
 ·have u:((i+1:Nat):Int)<(Z' f.beN:Nat):=Om;cases c with
  |false =>simp only[go_sem,u];exact Up.up Lq (E (M rfl).symm (λh=>by cases h))
  |true=>
   obtain⟨y,g1,g3⟩:=hG.ex;have I:i+1<Z' f.beN:=Om;have γ:=lZ I;have ε:i<(mG f).length:=Om;have θ:(mG f)[i]=(f.beN[i+1]).name:=by simp[mG,Nat.add_comm]
   have R:ok i=(nT ([]++(mG f).take i) ((mG f).getD i [])&&Wb f i f.beN[i+1]):=by rw[←O];unfold okL FP;rw[bgH I]
   have δ:=hf.dom _ (bgD I);rw[R]at j;unfold Wb at j;have e1:IntKind.i64.wrap (((i+1:Nat):Int)-1)=(i:Nat):=by rw[wrap_i64 Om Om];omega
   have l:IntKind.i64.wrap (((i+1:Nat):Int)+1)=((i+1+1:Nat):Int):=eT Om;have κ:=L.small _ δ.1;simp only[go_sem,u,Fu,γ];refine aQ λo ho=>?_;have g4:=g1.new ho (.rows 7 [(f.beN[i+1]).cells]);have g5:=g4.at 0 rfl;simp only[go_sem];generalize H0.set o (.rows 7 [(f.beN[i+1]).cells])=H2 at *
   simp only[go_sem,Fv,g5];refine mO.call L.towW (ns:=mG f) g4 (bgE _) Om (g3 rfl) ε (by simp only[go_sem,θ]) λA H1 h1 x=>?_;have J:=h1.at 0 rfl;generalize nT ([]++(mG f).take i) ((mG f).getD i [])=fb at *
   generalize hd:f.beN[i+1]=B at *
   cases fb with
   |false =>simp only[go_sem];refine bA .nil aHR a_ ?_;simp only[go_sem,YI,uX,l];exact fin false A _ _ hlt (j.trans rfl) x Lq
   |true=>
    simp only[go_sem];refine bA .nil aHR a_ ?_;simp only[go_sem,YI,J];refine cO rfl (L.inn B.level 1 4) rfl a_ ?_;cases V:within B.level 1 4 with
    |false =>simp only[go_sem,uX,l];exact fin false A _ _ hlt (by rw[j,V]<;>simp) x Lq
    |true=>
     simp only[go_sem,J,e1];refine cO rfl (L.inn B.parent 0 (i:Nat)) rfl a_ ?_;cases k1:within B.parent 0 (i:Nat)with
     |false =>simp only[go_sem,uX,l];exact fin false A _ _ hlt (by rw[j,V,k1]<;>simp) x Lq
     |true=>
      obtain⟨p0,p1⟩:=within_iff.1 k1;obtain⟨p,hp⟩:∃p:Nat,B.parent=p:=⟨B.parent.toNat,by omega⟩;have U:p<Z' f.beN:=Om;obtain⟨X,N⟩:∃X,(f.beN.map dQ.level).getD B.parent.toNat 0=X:=⟨_,rfl⟩;have ι:(f.beN[p]).level=X:=by rw[←N,hp,biR,getD_at U]
      rw[N]at j;have S:=lZ U;simp only[go_sem,J,hp,S,ι];cases k2:X==IntKind.i64.wrap (B.level-1)with
      |false =>simp only[go_sem,uX,l];exact fin false A _ _ hlt (by rw[j,V,k1,k2]<;>simp) x Lq
      |true=>
       simp only[go_sem,J];refine cO rfl (L.inn B.bfF 1 64) rfl a_ ?_;cases k3:within B.bfF 1 64 with
       |false =>simp only[go_sem,uX,l];exact fin false A _ _ hlt (by rw[j,V,k1,k2,k3]<;>simp) x Lq
       |true =>simp only[go_sem,J];refine cO (aHS _) κ rfl a_ ?_;simp only[go_sem,uX,l];exact fin _ A _ _ hlt (by rw[j,V,k1,k2,k3]<;>simp) x Lq
 ·have u:¬((i+1:Nat):Int)<(Z' f.beN:Nat):=Om;have:i=n:=Om;subst this;simp only[go_sem,u];exact Up.up Lq (E hc.symm (λ_=>rfl))
def We(f:aD)(d:fC):Bool:=within d.model 0 ((Z' f.beL:Int)-1)&&(within d.machine 0 ((Z' f.beN:Int)-1)&&((f.beN.map dQ.level).getD d.machine.toNat 0==4))
def sD(f:aD):List (List UInt8):=f.beK.map fC.name
def DI(f:aD)(i:Nat):Bool:=match f.beK[i]? with
 |some d=>We f d
 |none=>false
def HS(f:aD):Bool:=(bfZ f.beK.length).all (okL (mG f) (sD f) (DI f))
theorem aSA{C:Ctx}(L:zR C)(f:aD)(hf:f.Ok)(ι:Z' f.beN≤40)(h0:0<Z' f.beN)(κ:Z' f.beK≤24)(θ:Z' f.beL≤4)(b:Bool)(w0:PV)(K:cQ)[Up K](F:PF)(H:PH)
  (Z:mO H w0 [] (mG f) b (Z' f.beN-1)) (hF:(((((((PF.nil.set 1 (.bE f.cells)).set 5 (w0)).set 6 (.aH)).set 7 (.aH)).set 8 (.bool b)).set 15 (.int .i64 0)):PF).le F)
  (U:∀H',K (.exit 6) (((((PF.nil.set 1 (.bE f.cells)).set 6 (.aH)).set 7 (.aH)).set 8 (.bool (b&&HS f)))) H'):aC.wp C (.loop HM) K F H:=by
 obtain⟨ok,N⟩:∃ok,okL (mG f) (sD f) (DI f)=ok:=⟨_,rfl⟩;unfold HS at U;rw[N]at U;obtain⟨n,hn⟩:∃n,Z' f.beK=n:=⟨_,rfl⟩;have ζ:=Wa f;have η:(sD f).length=n:=by simp[sD,hn]
 rw[hn]at U;refine wp_loop (α:=Nat × PV × PH) (λs=>((((((PF.nil.set 1 (.bE f.cells)).set 5 (s.2.1)).set 6 (.aH)).set 7 (.aH)).set 8 (.bool (b&&(bfZ s.1).all ok))).set 15 (.int .i64 s.1))) (λs=>s.2.2) (λs=>s.1≤n∧mO s.2.2 s.2.1 (mG f) (sD f) (b&&(bfZ s.1).all ok) s.1) (λs=>n-s.1)
  (0,w0,H) ⟨bgE _,by
   obtain⟨x,q1,q2⟩:=Z.ex;have e:(b&&(bfZ 0).all ok)=b:=by cases b<;>rfl
   refine⟨x,q1,λh=>?_⟩;simp only[e]at h;rw[q2 h,bjH,bgR Om];simp⟩ (by
   have e:(b&&(bfZ 0).all ok)=b:=by cases b<;>rfl
   simp only[e];exact hF) b_ ?_
 rintro⟨i,w,H0⟩ ⟨hi,hG⟩;simp only at hi hG ⊢;have fin:∀(c:Bool)(A:PV)(V:PF)(H':PH),i<n→(b&&(bfZ (i+1)).all ok)=c→mO H' A (mG f) (sD f) true (i+1) →
   (((((((PF.nil.set 1 (.bE f.cells)).set 5 (A)).set 6 (.aH)).set 7 (.aH)).set 8 (.bool c)).set 15 (.int .i64 (i+1:Nat))):PF).le V →
   fZ (λs:Nat × PV × PH=>((((((PF.nil.set 1 (.bE f.cells)).set 5 (s.2.1)).set 6 (.aH)).set 7 (.aH)).set 8 (.bool (b&&(bfZ s.1).all ok))).set 15 (.int .i64 s.1))) (λs=>s.2.2) (λs=>s.1≤n∧mO s.2.2 s.2.1 (mG f) (sD f) (b&&(bfZ s.1).all ok) s.1) (λs=>n-s.1) (n-i) K .normal V H':=
  λc A V H' hlt hb Y X=>aG (i+1,A,H') ⟨hlt,Y.Jh⟩ (by simp only;omega) (by simp only;rw[hb];exact X) b_
 have j:=yU (p:=ok) i b;have I:=λh=>yT (p:=ok) (b:=b) hi h;have B:(b&&(bfZ i).all ok)=(b&&(bfZ n).all ok)→K (.exit 6) (((((PF.nil.set 1 (.bE f.cells)).set 6 (.aH)).set 7 (.aH)).set 8 (.bool (b&&(bfZ i).all ok)))) H0:=λe=>by rw[e];exact U H0
 generalize hc:(b&&(bfZ i).all ok)=c at *
 simp only[go_sem,HM,Fw,bfY];by_cases hlt:i<n
 ·have l:((i:Nat):Int)<(Z' f.beK:Nat):=Om;cases c with
  |false =>simp only[go_sem,l];exact Up.up Lq (B (I rfl).symm)
  |true=>
   obtain⟨x,g1,g3⟩:=hG.ex;have J:i<Z' f.beK:=Om;have β:=oO J;have γ:i<(sD f).length:=Om;have δ:(sD f)[i]=(f.beK[i]).name:=by simp[sD]
   have O:ok i=(nT (mG f++(sD f).take i) ((sD f).getD i [])&&We f f.beK[i]):=by rw[←N];unfold okL DI;rw[bgH J]
   rw[O]at j;unfold We at j;have u:IntKind.i64.wrap ((i:Int)+1)=((i+1:Nat):Int):=eT Om;have e1:=E8 (Om:Z' f.beL≤1000);have e2:=E8 (Om:Z' f.beN≤1000);simp only[go_sem,l,Fy,β];refine aQ λo ho=>?_;have g4:=g1.new ho (.rows 3 [(f.beK[i]).cells]);have g5:=g4.at 0 rfl;simp only[go_sem];generalize H0.set o (.rows 3 [(f.beK[i]).cells])=H2 at *
   simp only[go_sem,F0,g5];refine mO.call L.towW (base:=mG f) (ns:=sD f) g4 Om Om (g3 rfl) γ (by simp only[go_sem,δ]) λA H1 h1 y=>?_;have W:=h1.at 0 rfl;generalize nT (mG f++(sD f).take i) ((sD f).getD i [])=fb at *
   generalize hd:f.beK[i]=E at *
   cases fb with
   |false =>simp only[go_sem,YK,CA,u];exact fin false A _ _ hlt (j.trans rfl) y Lq
   |true=>
    simp only[go_sem,YK,W,bfY,e1];refine aB (L.inn E.model 0 ((Z' f.beL:Int)-1)) rfl ?_;cases k0:within E.model 0 ((Z' f.beL:Int)-1)with
    |false =>simp only[go_sem,CA,u];exact fin false A _ _ hlt (by rw[j,k0]<;>simp) y Lq
    |true=>
     simp only[go_sem,W,bfY,e2];refine aB (L.inn E.machine 0 ((Z' f.beN:Int)-1)) rfl ?_;cases k1:within E.machine 0 ((Z' f.beN:Int)-1)with
     |false =>simp only[go_sem,CA,u];exact fin false A _ _ hlt (by rw[j,k0,k1]<;>simp) y Lq
     |true=>
      obtain⟨p0,p1⟩:=within_iff.1 k1;obtain⟨p,hp⟩:∃p:Nat,E.machine=p:=⟨E.machine.toNat,by omega⟩;have S:p<Z' f.beN:=Om;obtain⟨lv,M⟩:∃lv,(f.beN.map dQ.level).getD E.machine.toNat 0=lv:=⟨_,rfl⟩;have ε:(f.beN[p]).level=lv:=by rw[←M,hp,biR,getD_at S]
      rw[M]at j;have R:=lZ S;simp only[go_sem,W,hp,R,ε,CA,u];exact fin _ A _ _ hlt (by rw[j,k0,k1]<;>simp) y Lq
 ·have l:¬((i:Nat):Int)<(Z' f.beK:Nat):=Om;have:i=n:=Om;subst this;simp only[go_sem,l];exact Up.up Lq (B hc.symm)
theorem s7{xs:List Int}{k:Nat}(h:k<Z' xs):(xs.map λx=>[PV.int .i64 x])[k]?=some [.int .i64 xs[k]]:=by simp[h]
def zpF(f:aD)(w:PV)(o i:Nat)(c:Bool)(j:Nat):PF:=(((((((PF.nil.set 1 (.bE f.cells)).set 6 (w)).set 7 (.aH)).set 8 (.bool c)).set 17 (.int .i64 i)).set 18 (.ptr o 17 0 0)).set 19 (.int .i64 j))
theorem aYZ{C:Ctx}(f:aD)(w:PV)(o i:Nat)(p:dV)(N:Z' p.beL≤9223372036854775807)(j:Nat)(I:j<Z' p.beL)(b:Bool)(K:cQ)[Up K](F:PF)(H:PH)(J:H o=some (.rows 17 [p.cells]))(B:((zpF f w o i b j).set 20 (.int .i64 0)).le F)
  (E:K (.exit 12) (zpF f w o i (b&&(p.beL.take j).all λx=>x != p.beL[j]) j) H):aC.wp C (.loop YE) K F H:=by
 refine wp_loop (α:=Nat) (λk=>(zpF f w o i (b&&(p.beL.take k).all λx=>x != p.beL[j]) j).set 20 (.int .i64 k)) (λ_=>H) (λk=>k≤j) (λk=>j-k) 0 (bgE _) (by
   have e:(b&&(p.beL.take 0).all λx=>x != p.beL[j])=b:=by cases b<;>rfl
   simp only[e];exact B) b_ ?_
 intro k M;have y:∀h:k<Z' p.beL,(b&&(p.beL.take (k+1)).all λx=>x != p.beL[j])=((b&&(p.beL.take k).all λx=>x != p.beL[j])&&(p.beL[k] != p.beL[j])):=λh=>by rw[bhW h,List.all_append];simp[bjM]
 have fin:∀(c:Bool)(A:PF),k<j→(b&&(p.beL.take (k+1)).all λx=>x != p.beL[j])=c→((zpF f w o i c j).set 20 (.int .i64 (k+1:Nat))).le A→fZ (λk:Nat=>(zpF f w o i (b&&(p.beL.take k).all λx=>x != p.beL[j]) j).set 20 (.int .i64 k)) (λ_=>H) (λk=>k≤j) (λk=>j-k) (j-k) K .normal A H:=
  λc A hlt e h=>aG (k+1) hlt Om (by rw[e];exact h) b_
 unfold zpF at fin;simp only[go_sem,YE,Gc,zpF];by_cases hlt:k<j
 ·have l:(k:Int)<(j:Nat):=Om;have u:k<Z' p.beL:=Om;have y:=y u;generalize(b&&(p.beL.take k).all λx=>x != p.beL[j])=c at *
  simp only[go_sem,l];refine bA .nil cK a_ ?_;cases c with
  |false =>simp only[go_sem,YN,YO,wZz k];exact fin false _ hlt (y.trans rfl) Lq
  |true =>simp only[go_sem,YN,J,s7 u,s7 I,YO,wZz k];exact fin _ _ hlt (y.trans rfl) Lq
 ·have l:¬(k:Int)<(j:Nat):=Om;have:k=j:=Om;subst this;simp only[go_sem,l];exact Up.up (by(repeat' (first|exact c_|refine d_ ?_ ?_))<;>first|(simp only[go_sem,zpF]<;>rfl)|rfl) E
def VN(beL:Nat)(ms:List Int)(j:Nat):Bool:=within (ms.getD j 0) 0 ((beL:Int)-1)&&(ms.take j).all λx=>x != ms.getD j 0
theorem aRX{C:Ctx}(L:zR C)(f:aD)(W:Z' f.beL≤4)(w:PV)(o i:Nat)(p:dV)(V:Z' p.beL≤9223372036854775807)(b:Bool)(K:cQ)[Up K](F:PF)(H:PH)(I:H o=some (.rows 17 [p.cells]))(O:(zpF f w o i b 0).le F)
  (M:K (.exit 10) ((((((PF.nil.set 1 (.bE f.cells)).set 6 (w)).set 7 (.aH)).set 8 (.bool (b&&(bfZ p.beL.length).all (VN f.beL.length p.beL)))).set 17 (.int .i64 i))) H):aC.wp C (.loop HN) K F H:=by
 obtain⟨ok,B⟩:∃ok,VN f.beL.length p.beL=ok:=⟨_,rfl⟩;rw[B]at M;refine wp_loop (α:=Nat) (λj=>zpF f w o i (b&&(bfZ j).all ok) j) (λ_=>H) (λj=>j≤Z' p.beL) (λj=>Z' p.beL-j) 0 (bgE _) (by
   have e:(b&&(bfZ 0).all ok)=b:=by cases b<;>rfl
   simp only[e];exact O) b_ ?_
 intro j U;have u:=yU (p:=ok) j b;have A:=λh=>yT (p:=ok) (b:=b) U h;have fin:∀(c:Bool)(E:PF),j<Z' p.beL→(b&&(bfZ (j+1)).all ok)=c→(zpF f w o i c (j+1)).le E→fZ (λj:Nat=>zpF f w o i (b&&(bfZ j).all ok) j) (λ_=>H) (λj=>j≤Z' p.beL) (λj=>Z' p.beL-j) (Z' p.beL-j) K .normal E H:=
  λc E hlt e h=>aG (j+1) hlt Om (by rw[e];exact h) b_
 unfold zpF at fin;have y:(b&&(bfZ j).all ok)=(b&&(bfZ p.beL.length).all ok)→K (.exit 10) ((((((PF.nil.set 1 (.bE f.cells)).set 6 (w)).set 7 (.aH)).set 8 (.bool (b&&(bfZ j).all ok))).set 17 (.int .i64 i))) H:=λe=>by rw[e];exact M
 generalize R:(b&&(bfZ j).all ok)=c at *
 simp only[go_sem,HN,F9,zpF,I,bfY];by_cases hlt:j<Z' p.beL
 ·have l:(j:Int)<(Z' p.beL:Nat):=Om;cases c with
  |false =>simp only[go_sem,l];exact Up.up Lq (y (A rfl).symm)
  |true=>
   have N:=E8 (Om:Z' f.beL≤1000);have S:p.beL.getD j 0=p.beL[j]:=by simp[bgF,hlt]
   have J:ok j=(within p.beL[j] 0 ((Z' f.beL:Int)-1)&&(p.beL.take j).all λx=>x != p.beL[j]):=by rw[←B];unfold VN;rw[S]
   rw[J]at u;simp only[go_sem,l];refine bA .nil aHR a_ ?_;simp only[go_sem,Ga,I,s7 hlt,bfY,N];refine cO rfl (L.inn p.beL[j] 0 ((Z' f.beL:Int)-1)) Sq a_ ?_;simp only[go_sem,Gb];refine aYZ f w o i p V j hlt (within p.beL[j] 0 ((Z' f.beL:Int)-1)) _ _ _ I (by(repeat' (first|exact c_|refine d_ ?_ ?_))<;>first|(simp only[go_sem,zpF]<;>rfl)|rfl) ?_;simp only[go_sem,zpF,Gd,wZz j];exact fin _ _ hlt (u.trans rfl) Lq
 ·have l:¬(j:Int)<(Z' p.beL:Nat):=Om;have:j=Z' p.beL:=Om;subst this;simp only[go_sem,l];exact Up.up Lq (y R.symm)
def agM(beL:Nat)(p:dV):Bool:=VB p.k p.m p.bfJ p.s0 p.s1 p.s2 p.s3 p.s4&&(ZX p.m p.repair p.target p.beV&&(decide (Z' p.beL>0)&&(bfZ p.beL.length).all (VN beL p.beL)))
theorem a2U(beL:Nat)(p:dV):oA beL p=agM beL p:=by
 unfold oA agM;rw[a2N,a5I];have e:decide (Z' p.beL≠0)=decide (Z' p.beL>0):=decide_eq_decide.2 Om;have l:(bfZ p.beL.length).all (λj=>within (p.beL.getD j 0) 0 ((beL:Int)-1)&&!(p.beL.take j).contains (p.beL.getD j 0))=(bfZ p.beL.length).all (VN beL p.beL):=by
  congr 1;funext j;unfold VN;congr 1;generalize p.beL.getD j 0=x
  induction p.beL.take j with
  |nil=>rfl
  |cons a t u =>rw[List.contains_cons,List.all_cons,←u,Bool.not_or,bne,BEq.comm]
 rw[e,l];cases VB p.k p.m p.bfJ p.s0 p.s1 p.s2 p.s3 p.s4<;>cases ZX p.m p.repair p.target p.beV<;>cases decide (Z' p.beL>0)<;>simp
structure Gm(C:Ctx):Prop extends zR C where
 dur:∀(m:Int)(rep:List RF),pD rep→∀t h:RF,t.Ok→h.Ok→aI C 69 [.int .i64 m,frs rep,.agg t.cells,.agg h.cells] .nil (aK (.bool (ZX m rep t h)))
def qV(f:aD):List (List UInt8):=f.beO.map dV.name
def VM(f:aD)(i:Nat):Bool:=match f.beO[i]? with
 |some p=>agM f.beL.length p
 |none=>false
def Da(f:aD):Bool:=(bfZ f.beO.length).all (okL [] (qV f) (VM f))
theorem a4K{C:Ctx}(L:Gm C)(f:aD)(hf:f.Ok)(ε:Z' f.beO≤4)(β:Z' f.beL≤4)(b:Bool)(K:cQ)[Up K](F:PF)(H:PH)
  (hF:((((((PF.nil.set 1 (.bE f.cells)).set 6 (.aH)).set 7 (.aH)).set 8 (.bool b)).set 17 (.int .i64 0)):PF).le F)
  (U:∀H',K (.exit 8) ((((PF.nil.set 1 (.bE f.cells)).set 7 (.aH)).set 8 (.bool (b&&Da f)))) H'):aC.wp C (.loop HO) K F H:=by
 obtain⟨ok,J⟩:∃ok,okL [] (qV f) (VM f)=ok:=⟨_,rfl⟩;unfold Da at U;rw[J]at U;have δ:(qV f).length=Z' f.beO:=by simp[qV]
 refine wp_loop (α:=Nat × PV × PH) (λs=>(((((PF.nil.set 1 (.bE f.cells)).set 6 (s.2.1)).set 7 (.aH)).set 8 (.bool (b&&(bfZ s.1).all ok))).set 17 (.int .i64 s.1))) (λs=>s.2.2) (λs=>s.1≤Z' f.beO∧mO s.2.2 s.2.1 [] (qV f) (b&&(bfZ s.1).all ok) s.1) (λs=>Z' f.beO-s.1)
  (0,.aH,H) ⟨bgE _,⟨[],aO.nil.oV 1,λ_=>rfl⟩⟩ (by
   have e:(b&&(bfZ 0).all ok)=b:=by cases b<;>rfl
   simp only[e];exact hF) b_ ?_
 rintro⟨i,w,H0⟩ ⟨hi,hG⟩;simp only at hi hG ⊢;have fin:∀(c:Bool)(A:PV)(B:PF)(H':PH),i<Z' f.beO→(b&&(bfZ (i+1)).all ok)=c→mO H' A [] (qV f) true (i+1) →
   ((((((PF.nil.set 1 (.bE f.cells)).set 6 (A)).set 7 (.aH)).set 8 (.bool c)).set 17 (.int .i64 (i+1:Nat))):PF).le B →
   fZ (λs:Nat × PV × PH=>(((((PF.nil.set 1 (.bE f.cells)).set 6 (s.2.1)).set 7 (.aH)).set 8 (.bool (b&&(bfZ s.1).all ok))).set 17 (.int .i64 s.1))) (λs=>s.2.2) (λs=>s.1≤Z' f.beO∧mO s.2.2 s.2.1 [] (qV f) (b&&(bfZ s.1).all ok) s.1) (λs=>Z' f.beO-s.1) (Z' f.beO-i) K .normal B H':=
  λc A B H' hlt hb R E=>aG (i+1,A,H') ⟨hlt,R.Jh⟩ (by simp only;omega) (by simp only;rw[hb];exact E) b_
 have j:=yU (p:=ok) i b;have I:=λh=>yT (p:=ok) (b:=b) hi h;have y:(b&&(bfZ i).all ok)=(b&&(bfZ f.beO.length).all ok)→K (.exit 8) ((((PF.nil.set 1 (.bE f.cells)).set 7 (.aH)).set 8 (.bool (b&&(bfZ i).all ok)))) H0:=λe=>by rw[e];exact U H0
 generalize hc:(b&&(bfZ i).all ok)=c at *
 simp only[go_sem,HO,F6,bfY];by_cases hlt:i<Z' f.beO
 ·have l:(i:Int)<(Z' f.beO:Nat):=Om;cases c with
  |false =>simp only[go_sem,l];exact Up.up Lq (y (I rfl).symm)
  |true=>
   obtain⟨γ,g1,g3⟩:=hG.ex;have V:=rD hlt;have Y:i<(qV f).length:=Om;have Z:(qV f)[i]=(f.beO[i]).name:=by simp[qV]
   have M:ok i=(nT ([]++(qV f).take i) ((qV f).getD i [])&&agM f.beL.length f.beO[i]):=by rw[←J];unfold okL VM;rw[bgH hlt]
   have x:=hf.beX _ (bgD hlt);rw[M]at j;unfold agM at j;have N:IntKind.i64.wrap ((i:Int)+1)=((i+1:Nat):Int):=eT Om;simp only[go_sem,l,F7,V];refine aQ λo ho=>?_;have g4:=g1.new ho (.rows 17 [(f.beO[i]).cells]);have g5:=g4.at 0 rfl;simp only[go_sem];generalize H0.set o (.rows 17 [(f.beO[i]).cells])=H2 at *
   simp only[go_sem,F8,g5];refine mO.call L.towW (ns:=qV f) g4 (bgE _) Om (g3 rfl) Y (by simp only[go_sem,Z]) λA H1 h1 S=>?_;have O:=h1.at 0 rfl;generalize nT ([]++(qV f).take i) ((qV f).getD i [])=fb at *
   generalize hd:f.beO[i]=p at *
   have u:∀(c:Bool)(B:PF),(zpF f A o i c 0).le B→(c&&(bfZ p.beL.length).all (VN f.beL.length p.beL))=(b&&(bfZ (i+1)).all ok) →
     aC.wp C (.loop HN) (fN 10 (fN 9 (kJ C (aC.wp C (.region YP)) (fZ (λs:Nat × PV × PH=>(((((PF.nil.set 1 (.bE f.cells)).set 6 (s.2.1)).set 7 (.aH)).set 8 (.bool (b&&(bfZ s.1).all ok))).set 17 (.int .i64 s.1))) (λs=>s.2.2) (λs=>s.1≤Z' f.beO∧mO s.2.2 s.2.1 [] (qV f) (b&&(bfZ s.1).all ok) s.1) (λs=>Z' f.beO-s.1) (Z' f.beO-i) K)))) B H1:=by
    intro c B E W;refine aRX L.tozR f β A o i p x.beL c _ _ _ O E ?_;rw[W];simp only[go_sem,YP,N];exact fin _ A _ _ hlt rfl S Lq
   cases fb with
   |false =>simp only[go_sem,YM,CB];exact u false _ (by(repeat' (first|exact c_|refine d_ ?_ ?_))<;>first|(simp only[go_sem,zpF]<;>rfl)|rfl) (by rw[j];rfl)
   |true=>
    simp only[go_sem,YM,O];refine aB (L.nums p.k p.m p.bfJ p.s0 p.s1 p.s2 p.s3 p.s4) Sq ?_;cases k0:VB p.k p.m p.bfJ p.s0 p.s1 p.s2 p.s3 p.s4 with
    |false =>simp only[go_sem,CB];exact u false _ (by(repeat' (first|exact c_|refine d_ ?_ ?_))<;>first|(simp only[go_sem,zpF]<;>rfl)|rfl) (by rw[j,k0];rfl)
    |true=>
     simp only[go_sem,O];refine aB (L.dur p.m p.repair x.repair p.target p.beV x.target x.beV) Sq ?_;cases k1:ZX p.m p.repair p.target p.beV with
     |false =>simp only[go_sem,CB];exact u false _ (by(repeat' (first|exact c_|refine d_ ?_ ?_))<;>first|(simp only[go_sem,zpF]<;>rfl)|rfl) (by rw[j,k0,k1];rfl)
     |true =>have X:decide ((Z' p.beL:Int)>0)=decide (Z' p.beL>0):=decide_eq_decide.2 Om;simp only[go_sem,O,bfY,X,CB];exact u _ _ (by(repeat' (first|exact c_|refine d_ ?_ ?_))<;>first|(simp only[go_sem,zpF]<;>rfl)|rfl) (by rw[j,k0,k1];rfl)
 ·have l:¬(i:Int)<(Z' f.beO:Nat):=Om;have:i=Z' f.beO:=Om;subst this;simp only[go_sem,l];exact Up.up Lq (y hc.symm)
def xP(r:dQ):Bool:=(r.name==[])&&((r.level==0)&&((r.parent==-1)&&((r.bfF==0)&&(eJ (val r.bfA.num) (val r.bfA.den)&&(yR r.bfA==0)))))
def aJL(f:aD):Bool:=match f.beN with
 |[]=>false
 |r::_=>xP r
def aWP(f:aD):Bool:=within f.bfQ 1 4&&(wP f.beS.length f.beL.length f.beN.length f.beK.length f.beO.length f.beM.length&&(decide (0<Z' f.beN)&&((((((TL f&&IE f)&&aJL f)&&FQ f)&&HS f)&&Da f)&&U8 f)))
theorem arJ(n:Nat)(p q:Nat→Bool):(bfZ n).all (λi=>p i&&q i)=((bfZ n).all p&&(bfZ n).all q):=by
 induction n with
 |zero=>rfl
 |succ n e =>simp only[biO,List.all_append,e,List.all_cons,List.all_nil,biG];cases(bfZ n).all p<;>cases(bfZ n).all q<;>cases p n<;>simp
theorem IN{α:Type}(l:List α)(p:α→Bool):(bfZ l.length).all (λi=>(l.map p).getD i false)=l.all p:=by
 refine Bool.eq_iff_iff.2 ?_;rw[bgY,bgY];constructor
 ·intro h x e;obtain⟨i,hi,rfl⟩:=bhV e;have:=h i (bgW.2 hi);simpa[bgF,hi]using this
 ·intro h i hi;have hi:=bgW.1 hi;simp[bgF,hi,h _ (bgD hi)]
theorem RC(ns:List (List UInt8))(n:Nat)(e:Z' ns=n)(P:Nat→Bool):(bfZ n).all (okL [] ns P)=(distinct ns&&(bfZ n).all P):=by
 subst e;have:okL [] ns P=λi=>(isName (ns.getD i [])&&!(ns.take i).contains (ns.getD i []))&&P i:=by funext i;rfl
 rw[this,arJ];rfl
theorem a2R(base ns:List (List UInt8))(P Q:Nat→Bool):((bfZ base.length).all (okL [] base P)&&(bfZ ns.length).all (okL base ns Q))=(distinct (base++ns)&&((bfZ base.length).all P&&(bfZ ns.length).all Q)):=by
 have e:okL base ns Q=λi=>(isName (ns.getD i [])&&!(base++ns.take i).contains (ns.getD i []))&&Q i:=by funext i;rfl
 have j:distinct (base++ns)=(distinct base&&(bfZ ns.length).all λi=>isName (ns.getD i [])&&!(base++ns.take i).contains (ns.getD i [])):=by
  unfold distinct;rw[bgB,List.range_add,List.all_append,List.all_map];congr 1
  ·refine Bool.eq_iff_iff.2 ?_;rw[bgY,bgY];refine forall_congr' λi=>forall_congr' λhi=>?_;have hi:=bgW.1 hi;have a1:(base++ns).getD i []=base.getD i []:=by simp only[bgF];rw[biA hi]
   have a2:(base++ns).take i=base.take i:=by rw[List.take_append_of_le_length Om]
   rw[a1,a2]
  ·refine Bool.eq_iff_iff.2 ?_;rw[bgY,bgY];refine forall_congr' λi=>forall_congr' λ_=>?_;have a1:(base++ns).getD (Z' base+i) []=ns.getD i []:=by simp only[bgF];rw[biB Om];congr 2;omega
   have a2:(base++ns).take (Z' base+i)=base++ns.take i:=by rw[List.take_append,bgR Om];congr 2;omega
   simp only[Function.comp,a1,a2]
 rw[RC base base.length rfl P,e,arJ,j];cases distinct base<;>cases(bfZ base.length).all P<;>simp
theorem aWR(r:dQ):(decide (r.name=[])&&decide (r.level=0)&&decide (r.parent=-1)&&decide (r.bfF=0)&&eG r.bfA&&!cC r.bfA)=xP r:=by
 have w:decide (r.name=[])=(r.name==[]):=by cases r.name<;>rfl
 have y:decide (r.level=0)=(r.level==0):=by generalize r.level=x;by_cases h:x=0<;>simp[h]
 have A:decide (r.parent=-1)=(r.parent==-1):=by generalize r.parent=x;by_cases h:x=-1<;>simp[h]
 have B:decide (r.bfF=0)=(r.bfF==0):=by generalize r.bfF=x;by_cases h:x=0<;>simp[h]
 have h5:(eG r.bfA&&!cC r.bfA)=(eJ (val r.bfA.num) (val r.bfA.den)&&(yR r.bfA==0)):=by
  rw[WD];by_cases h:val r.bfA.num=0
  ·have j:cC r.bfA=false:=by unfold cC;simp[h]
   rw[j];simp only[bgS,biG];cases e:eJ (val r.bfA.num) (val r.bfA.den)with
   |false =>unfold eG vN;rw[e];rfl
   |true=>
    obtain⟨E,-,-⟩:=kR.1 e;unfold eG vN;rw[e,aL rfl,tb e,h];unfold tB;have hb:val r.bfA.den/bgC 0 (val r.bfA.den)=1:=by rw[Nat.gcd_zero_left,Nat.div_self (biX E)]
    have l:dZ (0/bgC 0 (val r.bfA.den))=0:=by rw[Nat.zero_div];exact oN
    have u:dZ 1=1:=by rw[vY aV,oN]
    simp only[hb,l,u];simp
  ·have j:cC r.bfA=true:=by unfold cC;simp[h]
   rw[j];simp
 unfold xP;rw[w,y,A,B];simp only[bjM]at h5 ⊢;rw[h5]
theorem aSX(f:aD){r:dQ}{t:List dQ}(h:f.beN=r::t):KN f r t=(xP r&&(bfZ t.length).all (FP f)):=by
 unfold KN;rw[aWR];congr 2;funext i;unfold FP;rw[h,List.getElem?_cons_succ];cases t[i]? with
 |none=>rfl
 |some d=>exact a0H f i d
theorem aMH(f:aD):f.beK.all (nC f)=(bfZ f.beK.length).all (DI f):=by
 have:DI f=λi=>(f.beK.map (nC f)).getD i false:=by
  funext i;unfold DI;rw[bgF,bgT];cases f.beK[i]? with
  |none=>rfl
  |some d=>
   show We f d=nC f d;unfold We nC;have:decide ((f.beN.map dQ.level).getD d.machine.toNat 0=4)=((f.beN.map dQ.level).getD d.machine.toNat 0==4):=by generalize(f.beN.map dQ.level).getD d.machine.toNat 0=u;by_cases h:u=4<;>simp[h]
   rw[this,bjM]
 rw[this,IN]
theorem aPA(f:aD):f.beO.all (oA f.beL.length)=(bfZ f.beO.length).all (VM f):=by
 have:VM f=λi=>(f.beO.map (oA f.beL.length)).getD i false:=by
  funext i;unfold VM;rw[bgF,bgT];cases f.beO[i]? with
  |none=>rfl
  |some d=>exact(a2U _ d).symm
 rw[this,IN]
theorem a3D(f:aD):aWP f=dU f:=by
 have O:Hp f.beS.length=pQ f:=by funext m;unfold Hp pQ;rw[bjM]
 have B:aoN f.beO.length=uU f:=rfl;have R:(within f.bfQ 1 4&&wP f.beS.length f.beL.length f.beN.length f.beK.length f.beO.length f.beM.length)=tX f:=by unfold tX wP;simp only[bjM]
 unfold aWP dU TL IE Da U8;rw[RC _ _ (by rw[bfY]),RC _ _ (by rw[bfY]),RC _ _ (by rw[qV,bfY]),RC _ _ (by rw[bfY]),IN,IN,IN,O,B,aPA,aMH,←bjM,R];unfold uJ aJL;cases l:f.beN with
 |nil=>simp
 |cons r t=>
  have j:decide (0<Z' f.beN)=true:=by rw[l];simp
  rw[l]at j;rw[j,bgO];simp only;rw[aSX f l];have A:mG f=(f.beN.drop 1).map dQ.name:=rfl;rw[l]at A;have N:(mG f).length=Z' t:=by rw[A];simp
  have two:=a2R (mG f) (sD f) (FP f) (DI f);rw[N,show(sD f).length=f.beK.length by simp[sD]]at two;have K:FQ f=(bfZ t.length).all (okL [] (mG f) (FP f)):=by unfold FQ;rw[l];rfl
  have M:HS f=(bfZ f.beK.length).all (okL (mG f) (sD f) (DI f)):=rfl;rw[K,M,←A];rw[show f.beK.map fC.name=sD f from rfl,show f.beO.map dV.name=qV f from rfl];generalize(bfZ t.length).all (okL [] (mG f) (FP f))=a at *
  generalize(bfZ f.beK.length).all (okL (mG f) (sD f) (DI f))=b at *
  generalize distinct (mG f++sD f)=c at *
  generalize(bfZ t.length).all (FP f)=d at *
  generalize(bfZ f.beK.length).all (DI f)=e at *
  generalize tX f=s;generalize xP r=ro;generalize distinct (f.beS.map dN.name)=u;generalize f.beS.all pN=w;generalize distinct (f.beL.map eE.name)=x;generalize f.beL.all (pQ f)=y;generalize distinct (qV f)=E;generalize(bfZ f.beO.length).all (VM f)=F;generalize distinct (f.beM.map iY.name)=I;generalize f.beM.all (uU f)=J;have:(s&&(((((((u&&w)&&(x&&y))&&ro)&&a)&&b)&&(E&&F))&&(I&&J)))=(s&&(ro&&((u&&w)&&((x&&y)&&((a&&b)&&((E&&F)&&(I&&J))))))):=by cases s<;>cases ro<;>cases u<;>cases w<;>cases x<;>cases y<;>simp[bjM]
  rw[this,two];cases s<;>cases ro<;>cases u<;>cases w<;>cases x<;>cases y<;>cases c<;>cases d<;>cases e<;>simp;cases E<;>cases F<;>cases I<;>cases J<;>rfl
theorem aWQ(f:aD)(h:0<Z' f.beN):aJL f=xP f.beN[0]:=by
 obtain⟨a,b,c,d,e,g,i⟩:=f;cases d with
 |nil=>simp at h
 |cons r t=>rfl
theorem aSC{C:Ctx}(L:Gm C)(f:aD)(x:f.Ok):QI.wp C (aW apY.res (aK (.bool (dU f)))) (PF.args [.agg f.cells]) .nil:=by
 have u:=a3D f;unfold aWP at u;have fail:∀(F:PF)(H:PH),dU f=false→F 2=some (.bool false)→aW [.tmp 2] (aK (.bool (dU f))) .ret F H:=λF H e h=>by rw[e];exact bB (vs:=[.bool false]) (.inr rfl) .nil (by simp only[go_sem,h]) a_ ⟨rfl,rfl⟩
 simp only[go_sem,QI,T2,T3,apY];refine aB (L.inn f.bfQ 1 4) rfl ?_;cases V:within f.bfQ 1 4 with
 |false =>rw[V,bgK]at u;simp only[go_sem,bgS,MT];exact fail _ _ u.symm rfl
 |true=>
 rw[V,bgO]at u;simp only[go_sem,bgJ,bfY];refine aB (L.sizes f.beS.length f.beL.length f.beN.length f.beK.length f.beO.length f.beM.length) rfl ?_;cases k1:wP f.beS.length f.beL.length f.beN.length f.beK.length f.beO.length f.beM.length with
 |false =>rw[k1,bgK]at u;simp only[go_sem,bgS,MT];exact fail _ _ u.symm rfl
 |true=>
 rw[k1,bgO]at u;obtain⟨N,B,E,O,R,α⟩:=fe k1;by_cases h0:Z' f.beN=0
 ·rw[bV Om,bgK]at u;simp only[go_sem,bgJ,bfY,bT (Om:(Z' f.beN:Int)=0),MT];exact fail _ _ u.symm rfl
 have l:0<Z' f.beN:=Om;rw[bX l,bgO]at u;simp only[go_sem,bgJ,bfY,bD (Om:(Z' f.beN:Int)≠0),T4,T5,T6];refine a4J L.tozR f x N _ _ _ Lq λH1=>?_;simp only[go_sem,Fm];refine aSB L.tozR f x k1 (TL f) _ _ _ Lq λH2=>?_;have K:=lZ l;have A:=(x.dom _ (bgD l)).1;have M:=aWQ f l;rw[M]at u;generalize f.beN[0]=r at *
 have j:∀(c:Bool)(F:PF)(H:PH),((((((PF.nil.set 1 (.bE f.cells)).set 5 (.aH)).set 6 (.aH)).set 7 (.aH)).set 8 (.bool c)):PF).le F→c=((TL f&&IE f)&&xP r) →
   aC.wp C (.seq (.seq (.region YH) (.block 4 (.loop HL))) (.seq (.seq (.region YJ) (.block 6 (.loop HM))) (.seq (.seq (.region YL) (.block 8 (.loop HO))) (.seq (.seq (.region YQ) (.block 14 (.loop HP))) (.seq (.region YT) .ret))))) (aW [.tmp 2] (aK (.bool (dU f)))) F H:=by
  intro c F H X Z;refine uW _ (λ_ _ _ _ a b=>Up.up a b) X ?_;simp only[go_sem,YH];refine a4I L.tozR f x E l c _ _ _ Lq λw W Y=>?_;simp only[go_sem,YJ];refine aSA L.tozR f x E l O B (c&&FQ f) w _ _ _ Y Lq λH4=>?_;simp only[go_sem,YL];refine a4K L f x R B ((c&&FQ f)&&HS f) _ _ _ Lq λH5=>?_;simp only[go_sem,YQ];refine a4L L.tozR f x k1 (((c&&FQ f)&&HS f)&&Da f) _ _ _ Lq λH6=>?_;simp only[go_sem,YT];refine bB (vs:=[.bool (dU f)]) (.inr rfl) .nil ?_ a_ ⟨rfl,rfl⟩;rw[←u,Z];simp only[go_sem]
 simp only[aC.wp,go_sem]at j;simp only[go_sem,Fr,K];refine aQ λo ho=>?_;have g0:(H2.set o (.rows 7 [r.cells])) o=some (.rows 7 [r.cells]):=cB ..;simp only[go_sem];generalize H2.set o (.rows 7 [r.cells])=W at *
 cases k2:(TL f&&IE f)with
 |false =>simp only[go_sem,YG];exact j false _ _ Lq (by rw[k2];rfl)
 |true=>
  simp only[go_sem,YG,g0];cases y:r.name==[]with
  |false =>simp only[go_sem];exact j false _ _ Lq (by rw[k2];unfold xP;rw[y];rfl)
  |true=>
   simp only[go_sem,g0];cases I:r.level==0 with
   |false =>simp only[go_sem];exact j false _ _ Lq (by rw[k2];unfold xP;rw[y,I];rfl)
   |true=>
    simp only[go_sem,g0];cases J:r.parent==-1 with
    |false =>simp only[go_sem];exact j false _ _ Lq (by rw[k2];unfold xP;rw[y,I,J];rfl)
    |true=>
     simp only[go_sem,g0];cases S:r.bfF==0 with
     |false =>simp only[go_sem];exact j false _ _ Lq (by rw[k2];unfold xP;rw[y,I,J,S];rfl)
     |true=>
      simp only[go_sem,g0];refine aB (L.valid _ A) rfl ?_;cases U:eJ (val r.bfA.num) (val r.bfA.den)with
      |false =>simp only[go_sem];exact j false _ _ Lq (by rw[k2];unfold xP;rw[y,I,J,S,U];rfl)
      |true =>simp only[go_sem,g0];refine aB (L.sign _ A U) rfl ?_;simp only[go_sem];exact j _ _ _ Lq (by rw[k2];unfold xP;rw[y,I,J,S,U];rfl)
def mX:=bO [2,44] Proofs.Tryz.f40
def ajG:=aA mX 0
def ajH:=aA mX 1
def ajI:=aA mX 2
def ajJ:=aA mX 3
def ajK:=aA mX 4
def ajL:=aA mX 5
def ajM:=cA mX 0
def wu:=aA mX 6
def ajN:=aA mX 7
def ww:=aA mX 8
def fh:=aA mX 9
def Qb:aC:=(dD ajL 15 0 fh (dq ajM (jA wu 34 (.region ajN) (.region ww))))
def fi:=aA mX 10
def WG:aC:=(sq ajG (dA ajH 10 ajI (sq ajJ (.seq (cE ajK 0 Qb) (sq fi .ret)))))
def aJY:aX:=⟨2,47,WG,[.tmp 4]⟩
def yI:=bO [3] Proofs.Tryz.f145
def Pl:=aA yI 0
def Pm:=aA yI 1
def Pn:=aA yI 2
def Po:=aA yI 3
def Pk:aC:=(.seq (sq Pn (.cond (Tm 21) .skip (.exit 0))) (.block 1 (.region Po)))
def Pp:=aA yI 4
def OK:aC:=(sq Pl (sq Pm (.seq (.block 0 (.loop Pk)) (sq Pp .ret))))
def aiO:aX:=⟨3,29,OK,[.tmp 6]⟩
def kX:=bO [2] Proofs.Tryz.f87
def P1:=aA kX 0
def P2:=aA kX 1
def P3:=aA kX 2
def P4:=aA kX 3
def P5:=aA kX 4
def P6:=aA kX 5
def P7:=aA kX 6
def P8:=aA kX 7
def LY:=aA kX 8
def P9:=aA kX 9
def GY:=aA kX 10
def WE:aC:=(dD P8 27 2 GY (sq LY (.cond (Tm 49) (.region P9) .skip)))
def Dj:=aA kX 11
def Di:aC:=(dD P6 18 0 Dj (cE P7 2 WE))
def Dk:=aA kX 12
def OP:aC:=(sq P1 (dA P2 10 P3 (sq P4 (.seq (cE P5 0 Di) (sq Dk .ret)))))
def ajC:aX:=⟨2,63,OP,[.tmp 4]⟩
def wO:=bO [2] Proofs.Tryz.f117
def aBK:=aA wO 0
def aBL:=aA wO 1
def aBM:=aA wO 2
def kb:=cA wO 0
def Iy:=aA wO 3
def aBN:=aA wO 4
def aBJ:aC:=(dD aBM 9 0 aBN (dq kb (.cond (Tm 26) (sq Iy .ret) .skip)))
def aBO:=aA wO 5
def el:aC:=(sq aBK (.seq (cE aBL 0 aBJ) (sq aBO .ret)))
def aWY:aX:=⟨2,28,el,[.tmp 4]⟩
def qF:=bO [3,4] Proofs.Tryz.f39
def ni:=aA qF 0
def nj:=aA qF 1
def np:=aA qF 2
def OL:=cA qF 0
def nr:=aA qF 3
def nt:=aA qF 4
def nb:aC:=(dD np 12 0 nt (dq OL (.cond (Tm 26) (sq nr .ret) .skip)))
def nu:=aA qF 5
def FI:aC:=(sq ni (.seq (cE nj 0 nb) (sq nu .ret)))
def wq:aX:=⟨3,27,FI,[.tmp 6]⟩
def rF:=bO [3] Proofs.Tryz.f118
def Ps:=aA rF 0
def Pt:=aA rF 1
def Pu:=aA rF 2
def Pv:=aA rF 3
def ep:=cA rF 0
def Pw:=aA rF 4
def LS:=aA rF 5
def Pq:aC:=(dD Pv 12 0 LS (dq ep (.cond (Tm 35) (.region Pw) .skip)))
def fa:=aA rF 6
def OM:aC:=(sq Ps (sq Pt (.seq (cE Pu 0 Pq) (sq fa .ret))))
def aiQ:aX:=⟨3,39,OM,[.tmp 6]⟩
def eA:=bO [3,27,36,52,81,118,150] Proofs.Tryz.f86
def aBP:=aA eA 0
def aBQ:=aA eA 1
def aBR:=aA eA 2
def aBS:=aA eA 3
def I3:=aA eA 4
def aBT:=aA eA 5
def aBU:=aA eA 6
def aBV:=aA eA 7
def aBW:=aA eA 8
def I4:=aA eA 9
def ajO:=aA eA 10
def xb:=aA eA 11
def wx:aC:=(dD aBW 40 0 xb (sq I4 (.cond (Tm 47) (.region ajO) .skip)))
def ajP:=aA eA 12
def ajQ:=aA eA 13
def ajR:=aA eA 14
def ajS:=aA eA 15
def ajT:=aA eA 16
def xc:=aA eA 17
def ajU:=aA eA 18
def xd:=aA eA 19
def wy:aC:=(dD ajT 64 4 xd (sq xc (.cond (Tm 72) (.region ajU) .skip)))
def xe:=aA eA 20
def ajV:=aA eA 21
def xf:=aA eA 22
def wz:aC:=(dD ajQ 58 2 xf (sq ajR (.seq (cE ajS 4 wy) (sq xe (.cond (Tm 76) (.region ajV) .skip)))))
def ajW:=cA eA 0
def ajX:=aA eA 23
def ajY:=aA eA 24
def xg:=cA eA 1
def ajZ:=aA eA 25
def WH:=aA eA 26
def w9:aC:=(dD ajY 96 6 WH (dq xg (.cond (Tm 113) (.region ajZ) .skip)))
def akA:=aA eA 27
def akB:=aA eA 28
def akC:=aA eA 29
def WI:=aA eA 30
def xh:=aA eA 31
def JS:=aA eA 32
def xa:aC:=(dD akB 124 8 JS (sq akC (sq WI (.cond (Tm 145) (.region xh) .skip))))
def akD:=aA eA 33
def fj:aC:=(sq aBP (dA aBQ 22 aBR (.seq (sq aBS (sq I3 (.cond (Tm 32) (sq aBT .ret) .skip))) (sq aBU (.seq (cE aBV 0 wx) (.seq (cE ajP 2 wz) (dq ajW (.seq (cE ajX 6 w9) (.seq (cE akA 8 xa) (sq akD .ret))))))))))
def aXD:aX:=⟨3,153,fj,[.tmp 6]⟩
def jS:=bO [3,24,64] Proofs.Tryz.f56
def akH:=aA jS 0
def akI:=aA jS 1
def akJ:=aA jS 2
def xm:=aA jS 3
def akK:=aA jS 4
def akL:=aA jS 5
def akM:=aA jS 6
def akN:=aA jS 7
def akO:=cA jS 0
def akP:=aA jS 8
def Qc:aC:=(dD akN 28 0 akP (.draw akO))
def Qd:=cA jS 1
def Qe:=aA jS 9
def Qf:=aA jS 10
def fq:=cA jS 2
def Qg:=aA jS 11
def ft:=aA jS 12
def fp:aC:=(dD Qf 49 2 ft (dq fq (.cond (Tm 60) (.region Qg) .skip)))
def Qh:=aA jS 13
def WM:aC:=(sq akH (dA akI 14 akJ (dA xm 20 akK (sq akL (.seq (cE akM 0 Qc) (dq Qd (.seq (cE Qe 2 fp) (sq Qh .ret))))))))
def aJZ:aX:=⟨3,67,WM,[.tmp 6]⟩
def ny:=bO [3] Proofs.Tryz.f29
def Py:=aA ny 0
def Pz:=aA ny 1
def ON:aC:=(sq Py (sq Pz .ret))
def ajA:aX:=⟨3,17,ON,[.tmp 6]⟩
theorem aPX{C:Ctx}(f:aD)(l:VF f)(d:Nat)(h:d<Z' f.beK)(level:Int)(y:0≤level)(A:level≤4) :
  OK.wp C (aW aiO.res (aK (.int .i64 (jE f d level:Nat)))) (PF.args [.agg f.cells,.int .i64 d,.int .i64 level]) .nil:=by
 simp only[go_sem,OK,Pl,Pm,aiO,oO h,l.QY h];refine wp_loop (α:=Nat) (λk=>(((PF.nil.set 2 (.int .i64 level)).set 3 (.bE f.cells)).set 7 (.int .i64 (upN f k (eO f d))))) (λ_=>.nil) (λk=>k≤4-level.toNat) (λk=>4-level.toNat-k) 0 (bgE _) (by(repeat' (first|exact c_|refine d_ ?_ ?_))<;>first|(simp only[go_sem,upN]<;>rfl)|rfl) a_ ?_;intro k B;obtain⟨j,x⟩:=JX l h (k:=k) Om;simp only[go_sem,Pk,Pn,lZ j,QX j];by_cases hlt:k<4-level.toNat
 ·have u:lvl f (upN f k (eO f d))>level:=by rw[x];omega
  have w:0<upN f k (eO f d):=by
   rcases biC (upN f k (eO f d))with e|e
   ·rw[e,l.root.2.1]at x;omega
   ·exact e
  simp only[go_sem,u,Po,lZ j,C8 j,l.j5 w j];exact aG (k+1) hlt Om (by(repeat' (first|exact c_|refine d_ ?_ ?_))<;>first|(simp only[go_sem,upN]<;>rfl)|rfl) a_
 ·have u:¬lvl f (upN f k (eO f d))>level:=by rw[x];omega
  have:k=4-level.toNat:=Om;subst this;simp only[go_sem,u,Pp];refine aU (.inr rfl) Ev ?_;rfl
structure aLP(C:Ctx):Prop where
 valid:∀f:aD,f.Ok→aI C 67 [.agg f.cells] .nil (aK (.bool (dU f)))
 wY:∀(f:aD)(d:Nat)(level:Int),VF f→d<Z' f.beK→0≤level→level≤4→aI C 88 [.agg f.cells,.int .i64 d,.int .i64 level] .nil (aK (.int .i64 (jE f d level:Nat)))
structure ZI(C:Ctx):Prop extends aLP C where
 ri:∀(f:aD)(v:Nat),VF f→v<Z' f.beM→aI C 82 [.agg f.cells,.int .i64 v] .nil (aK (.int .i64 (nI f v)))
def soS(f:aD):Spec:=λname vs=>match name,vs with
 |88,[_,.int _ d,.int _ l]=>some ([],λ_=>aK (.int .i64 (jE f d.toNat l:Nat)))
 |82,[_,.int _ v]=>some ([],λ_=>aK (.int .i64 (nI f v.toNat)))
 |_,_=>none
theorem aQL(f:aD)(d:Nat)(l:Int):soS f 88 [.agg f.cells,.int .i64 d,.int .i64 l]=some ([],λ_=>aK (.int .i64 (jE f d l:Nat))):=rfl
theorem a5Q{f:aD}(hV:VF f){n:Nat}(j:n<Z' f.beN):0≤lvl f n∧lvl f n≤4:=by
 rcases biC n with e|e
 ·rw[e,hV.root.2.1];decide
 ·have:=hV.dom n e j;omega
def qk(f:aD)(row:List Int):Int:=match jI (nP f) row 0 with
 |some i=>i
 |none=>-1
theorem a3G{C:Ctx}(f:aD)(row:List Int)(A:Z' row≤16777216):el.wp C (aW aWY.res (aK (.int .i64 (qk f row)))) (PF.args [.agg f.cells,ints row]) .nil:=by
 unfold qk;simp only[go_sem,el,aBK,aBL,aWY];refine wp_loop (α:=Nat) (λk=>(((PF.nil.set 1 (ints row)).set 2 (.bE f.cells)).set 5 (.int .i64 k))) (λ_=>.nil) (λk=>k≤Z' row∧jI (nP f) row 0=jI (nP f) (row.drop k) k) (λk=>Z' row-k) 0 ⟨bgE _,rfl⟩ Lq a_ ?_;rintro k ⟨y,j⟩;simp only[go_sem,aBJ,aBM,bfY];by_cases hlt:k<Z' row
 ·have e:(k:Int)<(Z' row:Nat):=Om;have l:(row.map λx=>[PV.int .i64 x])[k]?=some [.int .i64 row[k]]:=by simp[hlt]
  rw[biL hlt,jI]at j;generalize row[k]=x at *
  simp only[go_sem,e];refine bA .nil cK a_ ?_;by_cases u:x < -1
  ·rw[show nP f x=true from by unfold nP;rw[bX u];rfl,aL rfl]at j;simp only[go_sem,kb,l,u,Iy];refine aU (.inr rfl) Ev ?_;rw[cF,j]
  ·by_cases w:x≥(Z' f.beK:Nat)
   ·rw[show nP f x=true from by unfold nP;rw[bX w,Bool.or_true],aL rfl]at j;simp only[go_sem,kb,l,u,bfY,w,Iy];refine aU (.inr rfl) Ev ?_;rw[cF,j]
   ·rw[show nP f x=false from by unfold nP;rw[bV u,bV w];rfl,aE aV]at j;simp only[go_sem,kb,l,u,bfY,w,aBN,wZz k];exact aG (k+1) ⟨hlt,j⟩ Om Lq b_
 ·have e:¬(k:Int)<(Z' row:Nat):=Om;have:k=Z' row:=Om;subst this;rw[List.drop_length,jI]at j;simp only[go_sem,e,aBO];refine aU (.inr rfl) Ev ?_;rw[cF,j]
theorem a1U{r e:Int}(h:0≤e):max 0 (min r e)=min (max r 0) e:=Om
theorem aJK(f:aD)(room:List Int){k:Nat}(h:k<Z' f.beK):(jG f room).take (k+1)=(jG f room).take k++[rZ f room k]:=by
 have e:k<(jG f room).length:=by rw[pS];exact h
 rw[bhW e,VT]
theorem ajF{C:Ctx}(L:ZI C)(f:aD)(N:f.Ok)(room:List Int) :
  WG.wp C (aW aJY.res (cT (ints (uR f room)))) (PF.args [.agg f.cells,ints room]) .nil:=by
 simp only[go_sem,WG,ajG,ajH,aJY];refine aB (L.valid f N) Sq ?_;unfold uR;cases R:dU f with
 |false =>simp only[go_sem,bgS,ajI];exact d8 Ev
 |true=>
  have hV:=VF.of R;have J:=hV.small.beK;have B:=pS f room;simp only[go_sem,bgJ,ajJ,ajK];refine wp_loop (α:=Nat × PV × PH) (λt=>((((PF.nil.set 1 (ints room)).set 2 (.bE f.cells)).set 5 (t.2.1)).set 6 (.int .i64 t.1))) (λt=>t.2.2) (λt=>t.1≤Z' f.beK∧bH t.2.2 1 t.2.1 (bS ((jG f room).take t.1))) (λt=>Z' f.beK-t.1) (0,.aH,.nil) ⟨bgE _,.nil⟩ Lq a_ ?_;rintro⟨k,v,H0⟩ ⟨O,y⟩;simp only at O y ⊢;simp only[go_sem,Qb,ajL,bfY];by_cases hlt:k<Z' f.beK
  ·have e:(k:Int)<(Z' f.beK:Nat):=Om;obtain⟨K,he⟩:=hV.Wg hlt;have E:=hV.model _ (bgD K);rw[he]at E;have A:(1:Nat)*1≤16777216:=by decide
   have l:=aJK f room hlt;have j:∀(x:Int)(F:PF),x=rZ f room k→((((((PF.nil.set 1 (ints room)).set 2 (.bE f.cells)).set 5 (v)).set 6 (.int .i64 k)).set 7 (.int .i64 x)):PF).le F →
     aC.wp C (.region ww) (fN 1 (kJ C (aC.wp C (.region fh)) (fZ (λt:Nat × PV × PH=>((((PF.nil.set 1 (ints room)).set 2 (.bE f.cells)).set 5 (t.2.1)).set 6 (.int .i64 t.1))) (λt=>t.2.2) (λt=>t.1≤Z' f.beK∧bH t.2.2 1 t.2.1 (bS ((jG f room).take t.1))) (λt=>Z' f.beK-t.1) (Z' f.beK-k) (fN 0 (kJ C (aC.wp C (.seq (.region fi) .ret)) (aW [.tmp 4] (cT (ints (jG f room))))))))) F H0:=by
    intro x F S M;refine uW _ (λ_ _ _ _ a b=>Up.up a b) M ?_;simp only[go_sem,ww,A];refine hY (src:=[[.int .i64 x]]) y Sq (by unfold roomFor;rw[gV,bgP];simp only[bgI,maxLen];omega) λv' H' u _=>?_;rw[aHU,S,←l]at u;simp only[go_sem,fh,wZz k];exact aG (k+1,v',H') ⟨hlt,u⟩ (by simp only;omega) Lq b_
   simp only[aC.wp,go_sem]at j;simp only[go_sem,e];refine bA .nil cK a_ ?_;simp only[go_sem,ajM,oO hlt,hV.JI hlt,Ly K,he];by_cases c:Z' room=Z' f.beK
   ·have w:k<Z' room:=Om;have I:(room.map λn=>[PV.int .i64 n])[k]?=some [.int .i64 room[k]]:=by simp[w]
    simp only[go_sem,wu,bfY,bT (Om:(Z' room:Int)=(Z' f.beK:Nat)),ajN,I,max_eq,awQ];refine j _ _ ?_ Lq;rw[rZ,aL c,a1U Om,bgF,bgH w,biE]
   ·simp only[go_sem,wu,bfY,bD (Om:(Z' room:Int)≠(Z' f.beK:Nat))];refine j _ _ ?_ Lq;rw[rZ,aE c]
  ·have e:¬(k:Int)<(Z' f.beK:Nat):=Om;have:k=Z' f.beK:=Om;subst this;rw[←B,bhA]at y;simp only[go_sem,e,fi];exact Iv y Sq
theorem nc{C:Ctx}(f:aD)(hV:VF f)(p:dV)(y:Fits p.beL)(d:Nat)(w:d<Z' f.beK) :
  FI.wp C (aW wq.res (aK (.bool (p.beL.contains ((mdl f d:Nat):Int))))) (PF.args [.agg p.cells,.agg f.cells,.int .i64 d]) .nil:=by
 have A:Z' p.beL≤9223372036854775807:=y;simp only[go_sem,FI,ni,nj,wq];refine wp_loop (α:=Nat) (λk=>((((PF.nil.set 2 (.int .i64 d)).set 3 (.bE p.cells)).set 4 (.bE f.cells)).set 7 (.int .i64 k))) (λ_=>.nil) (λk=>k≤Z' p.beL∧p.beL.contains ((mdl f d:Nat):Int)=(p.beL.drop k).contains ((mdl f d:Nat):Int)) (λk=>Z' p.beL-k) 0 ⟨bgE _,rfl⟩ Lq a_ ?_;rintro k ⟨B,l⟩;simp only[go_sem,nb,np,bfY];by_cases hlt:k<Z' p.beL
 ·have j:(k:Int)<(Z' p.beL:Nat):=Om;have u:(p.beL.map λx=>[PV.int .i64 x])[k]?=some [.int .i64 p.beL[k]]:=by simp[hlt]
  rw[biL hlt,List.contains_cons]at l;have e:(p.beL[k]==((mdl f d:Nat):Int))=(((mdl f d:Nat):Int)==p.beL[k]):=BEq.comm;simp only[go_sem,j];refine bA .nil cK a_ ?_;cases c:((mdl f d:Nat):Int)==p.beL[k]with
  |true =>rw[c]at e;rw[c,Bool.true_or]at l;simp only[go_sem,OL,u,oO w,hV.JI w,e,nr];refine aU (.inr rfl) Ev ?_;rw[cF,l]
  |false =>rw[c]at e;rw[c,Bool.false_or]at l;simp only[go_sem,OL,u,oO w,hV.JI w,e,nt,wZz k];exact aG (k+1) ⟨hlt,l⟩ Om Lq b_
 ·have j:¬(k:Int)<(Z' p.beL:Nat):=Om;have:k=Z' p.beL:=Om;subst this;rw[List.drop_length]at l;simp only[go_sem,j,nu];refine aU (.inr rfl) Ev ?_;rw[cF,l];rfl
theorem kq{p:Int→Bool}{xs:List Int}{k:Nat}(h:k<Z' xs):(xs.take (k+1)).countP p=(xs.take k).countP p+if p xs[k]then 1 else 0:=by
 rw[bhW h,List.countP_append];by_cases e:p xs[k]<;>simp[List.countP_cons,e]
theorem aPY{C:Ctx}(L:aLP C)(f:aD)(hV:VF f)(row:List Int)(K:DG f row)(n:Nat)(F:n<Z' f.beN) :
  OM.wp C (aW aiQ.res (aK (.int .i64 (row.countP (mA f n):Nat)))) (PF.args [.agg f.cells,ints row,.int .i64 n]) .nil:=by
 have J:=K.len;have w:=a5Q hV F;simp only[go_sem,OM,Ps,Pt,Pu,aiQ];refine wp_loop (α:=Nat) (λk=>(((((PF.nil.set 1 (ints row)).set 2 (.int .i64 n)).set 3 (.bE f.cells)).set 7 (.int .i64 ((row.take k).countP (mA f n):Nat))).set 8 (.int .i64 k))) (λ_=>.nil) (λk=>k≤Z' row) (λk=>Z' row-k) 0 (bgE _) Lq a_ ?_;intro k O;simp only[go_sem,Pq,Pv,bfY];by_cases hlt:k<Z' row
 ·have j:(k:Int)<(Z' row:Nat):=Om;have A:(row.map λx=>[PV.int .i64 x])[k]?=some [.int .i64 row[k]]:=by simp[hlt]
  have R:=K.at_ _ (bgD hlt);have y:=kq (p:=mA f n) hlt;have N:(row.take k).countP (mA f n)≤16777216:=by have:=List.countP_le_length (p:=mA f n) (l:=row.take k);rw[bgP]at this;omega
  have u:mA f n row[k]=(decide (0≤row[k])&&decide (jE f row[k].toNat (lvl f n)=n)):=rfl;have fin:∀(c:Nat)(B:PF),(row.take (k+1)).countP (mA f n)=c→((((((PF.nil.set 1 (ints row)).set 2 (.int .i64 n)).set 3 (.bE f.cells)).set 7 (.int .i64 c)).set 8 (.int .i64 (k+1:Nat))):PF).le B→fZ (λk:Nat=>(((((PF.nil.set 1 (ints row)).set 2 (.int .i64 n)).set 3 (.bE f.cells)).set 7 (.int .i64 ((row.take k).countP (mA f n):Nat))).set 8 (.int .i64 k))) (λ_=>.nil) (λk=>k≤Z' row) (λk=>Z' row-k) (Z' row-k) (fN 0 (kJ C (aC.wp C (.seq (.region fa) .ret)) (aW [.tmp 6] (aK (.int .i64 (row.countP (mA f n):Nat)))))) .normal B .nil:=
   λc B e h=>aG (k+1) hlt Om (by rw[e];exact h) b_
  generalize(row.take k).countP (mA f n)=c at *
  generalize row[k]=x at *
  simp only[go_sem,j];refine bA .nil (soS f) a_ ?_;by_cases E:x≥0
  ·obtain⟨d,rfl⟩:∃d:Nat,x=d:=⟨x.toNat,by omega⟩;have M:d<Z' f.beK:=Om;rw[bX (Om:(0:Int)≤d),bgO,biR]at u;rw[u]at y;simp only[go_sem,ep,A,E,lZ F,QX F];refine cO (aQL f d (lvl f n)) (L.wY f d (lvl f n) hV M w.1 w.2) Sq a_ ?_;by_cases I:jE f d (lvl f n)=n
   ·rw[bX I,aL rfl]at y;simp only[go_sem,bT (show((jE f d (lvl f n):Nat):Int)=(n:Int) by omega),Pw,wZz c,LS,wZz k];exact fin (c+1) _ y Lq
   ·rw[bV I,aE aV,bhL]at y;simp only[go_sem,bD (show((jE f d (lvl f n):Nat):Int)≠(n:Int) by omega),LS,wZz k];exact fin c _ y Lq
  ·rw[bV (show ¬0≤x from E),bgK]at u;rw[u,aE aV,bhL]at y;simp only[go_sem,ep,A,E,LS,wZz k];exact fin c _ y Lq
 ·have j:¬(k:Int)<(Z' row:Nat):=Om;have:k=Z' row:=Om;subst this;simp only[go_sem,j,fa,bhA];refine aU (.inr rfl) Ev ?_;rfl
theorem aQH{C:Ctx}(f:aD)(l:List (List Int))(Y:qO l)(o i:Nat)(hlt:i<Z' l)(K:cQ)[Up K](F:PF)(H:PH)
  (O:((((((PF.nil.set 1 (lay l)).set 2 (.bE f.cells)).set 5 (.osl o 1 0 f.beK.length)).set 6 (.int .i64 i)).set 7 (.int .i64 0)):PF).le F) (R:(PH.nil.set o (.rows 1 (bS (gI f.beK.length (l.take i).flatten)))).le H)
  (V:K (.exit 2) (((((PF.nil.set 1 (lay l)).set 2 (.bE f.cells)).set 5 (.osl o 1 0 f.beK.length)).set 6 (.int .i64 i))) (PH.nil.set o (.rows 1 (bS (gI f.beK.length (l.take (i+1)).flatten))))):aC.wp C (.loop WE) K F H:=by
 obtain⟨Z,β⟩:=Y;have M:(l.map λr=>[ints r])[i]?=some [ints l[i]]:=by simp[hlt]
 have S:=zT l hlt;have I:=IW l (i+1);rw[S]at I V;rw[bgB]at I;generalize W:l[i]=row at *
 generalize hn:Z' f.beK=n at *
 generalize hA:(l.take i).flatten=A at *
 refine wp_loop (α:=Nat) (λk=>(((((PF.nil.set 1 (lay l)).set 2 (.bE f.cells)).set 5 (.osl o 1 0 n)).set 6 (.int .i64 i)).set 7 (.int .i64 k))) (λk=>PH.nil.set o (.rows 1 (bS (gI n (A++row.take k))))) (λk=>k≤Z' row) (λk=>Z' row-k) 0 (bgE _) O (by rw[List.take_zero,bhH];exact R) ?_;intro k hk;simp only[go_sem,WE,P8,M,bfY];by_cases w:k<Z' row
 ·have e:(k:Int)<(Z' row:Nat):=Om;have y:(row.map λn=>[PV.int .i64 n])[k]?=some [.int .i64 row[k]]:=by simp[w]
  have B:A++row.take (k+1)=(A++row.take k)++[row[k]]:=by rw[bhW w,bgX]
  have fin:∀(F:PF),((((((PF.nil.set 1 (lay l)).set 2 (.bE f.cells)).set 5 (.osl o 1 0 n)).set 6 (.int .i64 i)).set 7 (.int .i64 (k+1:Nat))):PF).le F→∀H:PH,H o=some (.rows 1 (bS (gI n (A++row.take (k+1))))) →
    fZ (λk:Nat=>(((((PF.nil.set 1 (lay l)).set 2 (.bE f.cells)).set 5 (.osl o 1 0 n)).set 6 (.int .i64 i)).set 7 (.int .i64 k))) (λk=>PH.nil.set o (.rows 1 (bS (gI n (A++row.take k))))) (λk=>k≤Z' row) (λk=>Z' row-k) (Z' row-k) K .normal F H:=by
   intro F O H R;exact aG (k+1) w Om O (e_ a_ R)
  generalize hx:row[k]=x at *
  by_cases N:x≥0
  ·by_cases U:x<(n:Nat)
   ·obtain⟨d,rfl⟩:∃d:Nat,x=d:=⟨x.toNat,by omega⟩;have u:d<n:=Om;have E:=rU (l:=gI n (A++row.take k)) (i:=d) (by rw[lN];exact u);rw[ja _ u]at E;have X:(A++row.take k).count (d:Int)≤16777216:=by refine biJ (List.count_le_length ..) ?_;rw[bgB,bgP];omega
    have J:=Gw (A++row.take k) u;rw[←B]at J;have hw:IntKind.i64.wrap ((((A++row.take k).count (d:Int):Nat):Int)+1)=(((A++row.take k).count (d:Int):Nat):Int)+1:=wrap_i64 Om Om;simp only[go_sem,e,LY,y,N,U,P9,bgL,E,hw,GY,oS,J,wZz k,M];exact fin _ Lq _ Sq
   ·have j:=IT (n:=n) (A++row.take k) (x:=x) Om;simp only[go_sem,e,LY,y,N,U,GY,wZz k,M];exact fin _ Lq _ (by rw[B,j];simp only[go_sem])
  ·have j:=IT (n:=n) (A++row.take k) (x:=x) Om;simp only[go_sem,e,LY,y,N,GY,wZz k,M];exact fin _ Lq _ (by rw[B,j];simp only[go_sem])
 ·have e:¬(k:Int)<(Z' row:Nat):=Om;have:k=Z' row:=Om;subst this;simp only[go_sem,e,bhA];exact Up.up Lq V
theorem aQI{C:Ctx}(L:ZI C)(f:aD)(y:f.Ok)(l:List (List Int))(x:qO l) :
  OP.wp C (aW ajC.res (cT (ints (JG f l)))) (PF.args [.agg f.cells,lay l]) .nil:=by
 simp only[go_sem,OP,P1,P2,ajC];refine aB (L.valid f y) rfl ?_;unfold JG;cases B:dU f with
 |false =>simp only[go_sem,bgS,P3];exact d8 rfl
 |true=>
  have E:=(VF.of B).small.beK;have u:(Z' f.beK:Int)*((8:Nat):Int)≤140737488355328:=Om;have w:(Z' f.beK:Int)≤9223372036854775807:=Om;simp only[go_sem,bgJ,P4,bfY,u,w];refine aQ λo F=>?_;simp only[go_sem,P5];refine wp_loop (α:=Nat) (λi=>((((PF.nil.set 1 (lay l)).set 2 (.bE f.cells)).set 5 (.osl o 1 0 f.beK.length)).set 6 (.int .i64 i))) (λi=>PH.nil.set o (.rows 1 (bS (gI f.beK.length (l.take i).flatten)))) (λi=>i≤Z' l) (λi=>Z' l-i) 0 (bgE _) Lq (e_ a_ (by rw[List.take_zero,List.flatten_nil,ql,yF];simp only[go_sem])) ?_;intro i hi;simp only[go_sem,Di,P6,bfY];have A:=x.rows;by_cases hlt:i<Z' l
  ·have e:(i:Int)<(Z' l:Nat):=Om;simp only[go_sem,e,P7];have j:=aQH (C:=C) f l x o i hlt;simp only[aC.wp,go_sem]at j;refine j _ _ _ Lq b_ ?_;simp only[go_sem,Dj,wZz i];exact aG (i+1) hlt Om Lq b_
  ·have e:¬(i:Int)<(Z' l:Nat):=Om;have:i=Z' l:=Om;subst this;simp only[go_sem,e,Dk,bhA];refine wk (.inr rfl) (o:=o) (s:=1) (k:=Z' f.beK) (rs:=bS (gI f.beK.length l.flatten)) rfl Sq (by rw[gV,lN];omega) ⟨?_,rfl⟩;rw[Ai,bgR (by rw[gV,lN];omega),kE];exact .refl _
structure arH(C:Ctx):Prop extends ZI C where
 bad:∀(f:aD)(row:List Int),Z' row≤16777216→aI C 89 [.agg f.cells,ints row] .nil (aK (.int .i64 (qk f row)))
def aiJ(f:aD)(v:Nat)(row:List Int):List lK:=
 if(Z' row:Int)=nI f v then(match jI (nP f) row 0 with|some i=>[⟨1,v,(i:Nat)⟩]|none=>uB f (cL f v) v row)else[⟨1,v,(Z' row:Nat)⟩]
theorem aWA(f:aD)(l:List (List Int))(v:Nat):xZ f l v=aiJ f v (l.getD v []):=by
 unfold xZ yJ aiJ;split<;>rename_i h
 ·split at h
  ·rename_i c;rw[aL c];cases hb:jI (nP f) (l.getD v []) 0 with
   |none=>rw[hb]at h;cases h
   |some i=>rw[hb]at h;cases h;rfl
  ·rename_i c;rw[aE c];cases h;rfl
 ·split at h
  ·rename_i c;rw[aL c];cases hb:jI (nP f) (l.getD v []) 0 with
   |none=>rfl
   |some i=>rw[hb]at h;cases h
  ·cases h
structure i8(C:Ctx):Prop extends arH C where
 allowed:∀(f:aD)(p:dV)(d:Nat),VF f→Fits p.beL→d<Z' f.beK→aI C 77 [.agg p.cells,.agg f.cells,.int .i64 d] .nil (aK (.bool (p.beL.contains ((mdl f d:Nat):Int))))
 count:∀(f:aD)(row:List Int)(n:Nat),VF f→DG f row→n<Z' f.beN→aI C 80 [.agg f.cells,ints row,.int .i64 n] .nil (aK (.int .i64 (row.countP (mA f n):Nat)))
theorem a3F{C:Ctx}(f:aD)(v:Nat)(row:List Int)(M:DG f row)(K:cQ)[Up K](F:PF)(H:PH)
  (E:((((((PF.nil.set 1 (.int .i64 v)).set 2 (ints row)).set 3 (.bE f.cells)).set 8 (.aH)).set 9 (.int .i64 0)):PF).le F)
  (I:∀w H',bH H' 3 w (eK (cM 2 v row.length (home row)))→K (.exit 0) (((((PF.nil.set 1 (.int .i64 v)).set 2 (ints row)).set 3 (.bE f.cells)).set 8 (w))) H'):aC.wp C (.loop wx) K F H:=by
 obtain⟨N,A⟩:=M;refine wp_loop (α:=Nat × PV × PH) (λt=>(((((PF.nil.set 1 (.int .i64 v)).set 2 (ints row)).set 3 (.bE f.cells)).set 8 (t.2.1)).set 9 (.int .i64 t.1))) (λt=>t.2.2) (λt=>t.1≤Z' row∧bH t.2.2 3 t.2.1 (eK (cM 2 v t.1 (home row)))) (λt=>Z' row-t.1) (0,.aH,H) ⟨bgE _,.nil⟩ E b_ ?_;rintro⟨k,w,H0⟩ ⟨J,j⟩;simp only at J j ⊢;simp only[go_sem,wx,aBW,bfY];by_cases hlt:k<Z' row
 ·have e:(k:Int)<(Z' row:Nat):=Om;have l:(row.map λn=>[PV.int .i64 n])[k]?=some [.int .i64 row[k]]:=by simp[hlt]
  have O:=A row[k] (bgD hlt);have B:home row k=decide (row[k]<0):=by simp[home,bgF,hlt]
  have y:=lS 2 v k (home row);have R:=fY 2 v k (home row);generalize row[k]=x at *
  by_cases c:x=-1
  ·rw[aL (by rw[B];simp;omega)]at y;have u:(1:Nat)*3≤16777216:=by decide
   simp only[go_sem,e,I4,l,bT c,ajO,u];refine hY (src:=[(⟨2,v,k⟩:lK).cells]) j rfl (by unfold roomFor;rw[kN];simp only[bgI,maxLen];omega) λv' H' g1 _=>?_;rw[oJ,←y]at g1;simp only[go_sem,xb,wZz k];exact aG (k+1,v',H') ⟨hlt,g1⟩ (by simp only;omega) Lq b_
  ·rw[aE (by rw[B];simp;omega)]at y;rw[←y]at j;simp only[go_sem,e,I4,l,bD c,xb,wZz k];exact aG (k+1,w,H0) ⟨hlt,j⟩ (by simp only;omega) Lq b_
 ·have e:¬(k:Int)<(Z' row:Nat):=Om;have:k=Z' row:=Om;subst this;simp only[go_sem,e];exact Up.up Lq (I w H0 j)
theorem a6F{C:Ctx}(f:aD)(v:Nat)(row:List Int)(J:Z' row≤16777216)(w:PV)(d:Nat)(K:cQ)[Up K](F:PF)(H:PH)
  (B:((((((((PF.nil.set 1 (.int .i64 v)).set 2 (ints row)).set 3 (.bE f.cells)).set 8 (w)).set 10 (.int .i64 d)).set 11 (.int .i64 0)).set 12 (.int .i64 0)):PF).le F)
  (E:K (.exit 4) (((((((PF.nil.set 1 (.int .i64 v)).set 2 (ints row)).set 3 (.bE f.cells)).set 8 (w)).set 10 (.int .i64 d)).set 11 (.int .i64 (row.count (d:Int):Nat)))) H):aC.wp C (.loop wy) K F H:=by
 refine wp_loop (α:=Nat) (λk=>(((((((PF.nil.set 1 (.int .i64 v)).set 2 (ints row)).set 3 (.bE f.cells)).set 8 (w)).set 10 (.int .i64 d)).set 11 (.int .i64 ((row.take k).count (d:Int):Nat))).set 12 (.int .i64 k))) (λ_=>H) (λk=>k≤Z' row) (λk=>Z' row-k) 0 (bgE _) B b_ ?_;intro k M;simp only[go_sem,wy,ajT,bfY];by_cases hlt:k<Z' row
 ·have j:(k:Int)<(Z' row:Nat):=Om;have l:(row.map λn=>[PV.int .i64 n])[k]?=some [.int .i64 row[k]]:=by simp[hlt]
  have u:=kq (p:=(·==(d:Int))) hlt;have I:(row.take k).count (d:Int)≤16777216:=biJ (List.count_le_length ..) (by rw[bgP];omega);simp only[←List.count_eq_countP]at u;have fin:∀(c:Nat)(A:PF),(row.take (k+1)).count (d:Int)=c→((((((((PF.nil.set 1 (.int .i64 v)).set 2 (ints row)).set 3 (.bE f.cells)).set 8 (w)).set 10 (.int .i64 d)).set 11 (.int .i64 c)).set 12 (.int .i64 (k+1:Nat))):PF).le A →
    fZ (λk:Nat=>(((((((PF.nil.set 1 (.int .i64 v)).set 2 (ints row)).set 3 (.bE f.cells)).set 8 (w)).set 10 (.int .i64 d)).set 11 (.int .i64 ((row.take k).count (d:Int):Nat))).set 12 (.int .i64 k))) (λ_=>H) (λk=>k≤Z' row) (λk=>Z' row-k) (Z' row-k) K .normal A H:=
   λc A e h=>aG (k+1) hlt Om (by rw[e];exact h) b_
  generalize(row.take k).count (d:Int)=c at *
  generalize row[k]=x at *
  by_cases y:x=d
  ·rw[aL (by simp[y])]at u;simp only[go_sem,j,xc,l,bT y,ajU,wZz c,xd,wZz k];exact fin (c+1) _ u Lq
  ·rw[aE (by simp[y]),bhL]at u;simp only[go_sem,j,xc,l,bD y,xd,wZz k];exact fin c _ u Lq
 ·have j:¬(k:Int)<(Z' row:Nat):=Om;have:k=Z' row:=Om;subst this;simp only[go_sem,j,bhA];exact Up.up Lq E
theorem aXP(f:aD)(row:List Int){k:Nat}(h:k<Z' f.beK):oF f row k=decide ((row.count (k:Int):Nat)>1):=by
 have:(gI f.beK.length row)[k]?=some ((row.count (k:Int):Nat):Int):=by rw[bgH (by rw[lN];exact h),ja _ h]
 rw[oF,bgF,this,biE];exact decide_eq_decide.2 Om
theorem aWW{C:Ctx}(f:aD)(hV:VF f)(v:Nat)(row:List Int)(B:Z' row≤16777216)(y:List lK)(O:Z' y≤16777216)(E:PV)(K:cQ)[Up K](F:PF)(H:PH)
  (I:((((((PF.nil.set 1 (.int .i64 v)).set 2 (ints row)).set 3 (.bE f.cells)).set 8 (E)).set 10 (.int .i64 0)):PF).le F) (J:bH H 3 E (eK y))
  (M:∀w H',bH H' 3 w (eK (y++cM 3 v f.beK.length (oF f row)))→K (.exit 2) (((((PF.nil.set 1 (.int .i64 v)).set 2 (ints row)).set 3 (.bE f.cells)).set 8 (w))) H'):aC.wp C (.loop wz) K F H:=by
 have R:=hV.small.beK;refine wp_loop (α:=Nat × PV × PH) (λt=>(((((PF.nil.set 1 (.int .i64 v)).set 2 (ints row)).set 3 (.bE f.cells)).set 8 (t.2.1)).set 10 (.int .i64 t.1))) (λt=>t.2.2) (λt=>t.1≤Z' f.beK∧bH t.2.2 3 t.2.1 (eK (y++cM 3 v t.1 (oF f row)))) (λt=>Z' f.beK-t.1) (0,E,H)
  ⟨bgE _,by rw[show cM 3 v 0 (oF f row)=[]from rfl,bhH];exact J⟩ I b_ ?_
 rintro⟨k,w,H0⟩ ⟨N,u⟩;simp only at N u ⊢;simp only[go_sem,wz,ajQ,bfY];by_cases hlt:k<Z' f.beK
 ·have e:(k:Int)<(Z' f.beK:Nat):=Om;have l:=lS 3 v k (oF f row);have S:=fY 3 v k (oF f row);rw[aXP f row hlt]at l;simp only[go_sem,e,ajR,ajS];have j:=a6F (C:=C) f v row B w k;simp only[aC.wp,go_sem]at j;refine j _ _ _ Lq ?_;by_cases c:row.count (k:Int)>1
  ·have A:((row.count (k:Int):Nat):Int)>1:=Om;rw[aL (by simp;omega)]at l;have x:(1:Nat)*3≤16777216:=by decide
   simp only[go_sem,xe,A,ajV,x];refine hY (src:=[(⟨3,v,k⟩:lK).cells]) u rfl (by unfold roomFor;rw[kN,bgB];simp only[bgI,maxLen];omega) λv' H' g1 _=>?_;rw[oJ,bgX,←l]at g1;simp only[go_sem,xf,wZz k];exact aG (k+1,v',H') ⟨hlt,g1⟩ (by simp only;omega) Lq b_
  ·have A:¬((row.count (k:Int):Nat):Int)>1:=Om;rw[aE (by simp;omega)]at l;rw[←l]at u;simp only[go_sem,xe,A,xf,wZz k];exact aG (k+1,w,H0) ⟨hlt,u⟩ (by simp only;omega) Lq b_
 ·have e:¬(k:Int)<(Z' f.beK:Nat):=Om;have:k=Z' f.beK:=Om;subst this;simp only[go_sem,e];exact Up.up Lq (M w H0 u)
def raS(f:aD)(p:dV):Spec:=λname vs=>match name,vs with
 |77,[_,_,.int _ d]=>some ([],λ_=>aK (.bool (p.beL.contains ((mdl f d.toNat:Nat):Int))))
 |_,_=>none
theorem a6A(f:aD)(p:dV)(d:Nat):raS f p 77 [.agg p.cells,.agg f.cells,.int .i64 d]=some ([],λ_=>aK (.bool (p.beL.contains ((mdl f d:Nat):Int)))):=rfl
theorem aWU{C:Ctx}(L:i8 C)(f:aD)(hV:VF f)(p:dV)(hp:Fits p.beL)(o v:Nat)(row:List Int)(hr:DG f row)(I:List lK)(Y:Z' I≤100000000)(N:PV)(K:cQ)[Up K](F:PF)(H:PH)
  (O:(((((((PF.nil.set 1 (.int .i64 v)).set 2 (ints row)).set 3 (.bE f.cells)).set 8 (N)).set 13 (.ptr o 17 0 0)).set 14 (.int .i64 0)):PF).le F) (R:bH H 3 N (eK I)) (Z:H o=some (.rows 17 [p.cells]))
  (S:∀w H',bH H' 3 w (eK (I++cM 4 v row.length (eM f p row)))→H' o=some (.rows 17 [p.cells])→K (.exit 6) ((((((PF.nil.set 1 (.int .i64 v)).set 2 (ints row)).set 3 (.bE f.cells)).set 8 (w)).set 13 (.ptr o 17 0 0))) H'):aC.wp C (.loop w9) K F H:=by
 obtain⟨β,M⟩:=hr;refine wp_loop (α:=Nat × PV × PH) (λt=>((((((PF.nil.set 1 (.int .i64 v)).set 2 (ints row)).set 3 (.bE f.cells)).set 8 (t.2.1)).set 13 (.ptr o 17 0 0)).set 14 (.int .i64 t.1))) (λt=>t.2.2) (λt=>t.1≤Z' row∧bH t.2.2 3 t.2.1 (eK (I++cM 4 v t.1 (eM f p row)))∧t.2.2 o=some (.rows 17 [p.cells])) (λt=>Z' row-t.1) (0,N,H)
  ⟨bgE _,by rw[show cM 4 v 0 (eM f p row)=[]from rfl,bhH];exact R,Z⟩ O b_ ?_
 rintro⟨k,w,H0⟩ ⟨X,y,j⟩;simp only at X y j ⊢;have B:=e_ a_ j;simp only[go_sem,w9,ajY,bfY];by_cases hlt:k<Z' row
 ·have l:(k:Int)<(Z' row:Nat):=Om;have A:(row.map λn=>[PV.int .i64 n])[k]?=some [.int .i64 row[k]]:=by simp[hlt]
  have hx:=M row[k] (bgD hlt);have W:row.getD k 0=row[k]:=by simp[bgF,hlt]
  have U:eM f p row k=(decide (0≤row[k])&&!p.beL.contains ((mdl f (row[k]).toNat:Nat):Int)):=by rw[eM,W]
  have u:=lS 4 v k (eM f p row);have l4:=fY 4 v k (eM f p row);rw[U]at u;generalize row[k]=x at *
  have skip:∀J,cM 4 v (k+1) (eM f p row)=cM 4 v k (eM f p row)→(((((((PF.nil.set 1 (.int .i64 v)).set 2 (ints row)).set 3 (.bE f.cells)).set 8 (w)).set 13 (.ptr o 17 0 0)).set 14 (.int .i64 (k+1:Nat))):PF).le J →
    fZ (λt:Nat × PV × PH=>((((((PF.nil.set 1 (.int .i64 v)).set 2 (ints row)).set 3 (.bE f.cells)).set 8 (t.2.1)).set 13 (.ptr o 17 0 0)).set 14 (.int .i64 t.1))) (λt=>t.2.2) (λt=>t.1≤Z' row∧bH t.2.2 3 t.2.1 (eK (I++cM 4 v t.1 (eM f p row)))∧t.2.2 o=some (.rows 17 [p.cells])) (λt=>Z' row-t.1) (Z' row-k) K .normal J H0:=
   λJ e h=>aG (k+1,w,H0) ⟨hlt,by simp only;rw[e];exact y,j⟩ (by simp only;omega) h b_
  simp only[go_sem,l];refine bA (PH.nil.set o (.rows 17 [p.cells])) (raS f p) B ?_;by_cases c:x≥0
  ·obtain⟨d,rfl⟩:∃d:Nat,x=d:=⟨x.toNat,by omega⟩;have V:d<Z' f.beK:=Om;rw[bX (Om:(0:Int)≤d),bgO,biR]at u;simp only[go_sem,xg,A,c,j];refine cO (a6A f p d) (L.allowed f p d hV hp V) rfl B ?_;cases hb:p.beL.contains ((mdl f d:Nat):Int)with
   |true =>rw[hb,aE aV]at u;simp only[go_sem,bgJ,WH,wZz k];exact skip _ u Lq
   |false=>
    rw[hb,aL aV]at u;have E:(1:Nat)*3≤16777216:=by decide
    simp only[go_sem,bgS,ajZ,E];refine hY (src:=[(⟨4,v,k⟩:lK).cells]) y rfl (by unfold roomFor;rw[kN,bgB];simp only[bgI,maxLen];omega) λv' H' g1 g2=>?_;rw[oJ,bgX,←u]at g1;have go:=g2 o _ j (y.ne j aV);simp only[go_sem,WH,wZz k];exact aG (k+1,v',H') ⟨hlt,g1,go⟩ (by simp only;omega) Lq b_
  ·rw[bV (show ¬0≤x from c),bgK,aE aV]at u;simp only[go_sem,xg,A,c,WH,wZz k];exact skip _ u Lq
 ·have l:¬(k:Int)<(Z' row:Nat):=Om;have:k=Z' row:=Om;subst this;simp only[go_sem,l];exact Up.up Lq (S w H0 y j)
theorem aSQ(f:aD)(p:dV)(row:List Int){k:Nat}(e:k≠0)(h:k<Z' f.beN):pT f p row k=(decide (fK f p k>0)&&decide (((row.countP (mA f k):Nat):Int)>fK f p k)):=by
 have:(gW f row)[k]?=some ((row.countP (mA f k):Nat):Int):=by simp only[gW,bgT,biH h,bhD,qQ,aE e]
 rw[pT,bgF,this,biE]
theorem aLZ(f:aD)(hV:VF f)(p:dV)(v:Int)(row:List Int):cM 5 v 1 (pT f p row)=[]:=by
 have h:=hV.root.1;have e:(gW f row)[0]?=some 0:=by simp only[gW,bgT,biH h,bhD,qQ,if_true]
 have:pT f p row 0=false:=by
  rw[pT,bgF,e,biE];by_cases c:fK f p 0>0
  ·rw[bV (Om:¬(0:Int)>fK f p 0),bhO]
  ·rw[bV c,bgK]
 rw[lS,this];rfl
theorem aWV{C:Ctx}(L:i8 C)(f:aD)(hV:VF f)(p:dV)(o v:Nat)(row:List Int)(N:DG f row)(y:List lK)(X:Z' y≤200000000)(M:PV)(K:cQ)[Up K](F:PF)(H:PH)
  (R:(((((((PF.nil.set 1 (.int .i64 v)).set 2 (ints row)).set 3 (.bE f.cells)).set 8 (M)).set 13 (.ptr o 17 0 0)).set 15 (.int .i64 1)):PF).le F) (S:bH H 3 M (eK y)) (Z:H o=some (.rows 17 [p.cells]))
  (U:∀w H',bH H' 3 w (eK (y++cM 5 v f.beN.length (pT f p row)))→K (.exit 8) ((PF.nil.set 8 (w))) H'):aC.wp C (.loop xa) K F H:=by
 have hs:=hV.small.beN;refine wp_loop (α:=Nat × PV × PH) (λt=>((((((PF.nil.set 1 (.int .i64 v)).set 2 (ints row)).set 3 (.bE f.cells)).set 8 (t.2.1)).set 13 (.ptr o 17 0 0)).set 15 (.int .i64 t.1))) (λt=>t.2.2) (λt=>1≤t.1∧t.1≤Z' f.beN∧bH t.2.2 3 t.2.1 (eK (y++cM 5 v t.1 (pT f p row)))∧t.2.2 o=some (.rows 17 [p.cells])) (λt=>Z' f.beN-t.1) (1,M,H)
  ⟨bgG _,hV.root.1,by rw[aLZ f hV,bhH];exact S,Z⟩ R b_ ?_
 rintro⟨k,w,H0⟩ ⟨J,W,u,e⟩;simp only at J W u e ⊢;simp only[go_sem,xa,akB,bfY];by_cases hlt:k<Z' f.beN
 ·have j:(k:Int)<(Z' f.beN:Nat):=Om;have l:=lS 5 v k (pT f p row);have l5:=fY 5 v k (pT f p row);rw[aSQ f p row Om hlt]at l;obtain⟨q0,q4,-⟩:=hV.uD hlt;have h5:((lvl f k)<((5:Nat):Int)):=Om;have fin:∀(E:PF),((((((((PF.nil.set 1 (.int .i64 v)).set 2 (ints row)).set 3 (.bE f.cells)).set 8 (w)).set 13 (.ptr o 17 0 0)).set 15 (.int .i64 k)).set 16 (.int .i64 (fK f p k))):PF).le E →
    aC.wp C (.seq (.region WI) (.cond (.tmp 145) (.region xh) .skip)) (fN 9 (kJ C (aC.wp C (.region JS)) (fZ (λt:Nat × PV × PH=>((((((PF.nil.set 1 (.int .i64 v)).set 2 (ints row)).set 3 (.bE f.cells)).set 8 (t.2.1)).set 13 (.ptr o 17 0 0)).set 15 (.int .i64 t.1))) (λt=>t.2.2) (λt=>1≤t.1∧t.1≤Z' f.beN∧bH t.2.2 3 t.2.1 (eK (y++cM 5 v t.1 (pT f p row)))∧t.2.2 o=some (.rows 17 [p.cells])) (λt=>Z' f.beN-t.1) (Z' f.beN-k) K))) E H0:=by
   intro E I;refine uW _ (λ_ _ _ _ a b=>Up.up a b) I ?_;have Y:row.countP (mA f k)≤16777216:=biJ List.countP_le_length N.len;generalize fK f p k=O at *
   by_cases A:O>0
   ·rw[bX A,bgO]at l;simp only[go_sem,WI,A];refine aB (L.count f row k hV N hlt) rfl ?_;by_cases B:((row.countP (mA f k):Nat):Int)>O
    ·rw[bX B,aL rfl]at l;have x:(1:Nat)*3≤16777216:=by decide
     simp only[go_sem,B,xh,x];refine hY (src:=[(⟨5,v,k⟩:lK).cells]) u rfl (by unfold roomFor;rw[kN,bgB];simp only[bgI,maxLen];omega) λv' H' g1 g2=>?_;rw[oJ,bgX,←l]at g1;have go:=g2 o _ e (u.ne e aV);simp only[go_sem,JS,wZz k];exact aG (k+1,v',H') ⟨by omega,hlt,g1,go⟩ (by simp only;omega) Lq b_
    ·rw[bV B,aE aV]at l;rw[←l]at u;simp only[go_sem,B,JS,wZz k];exact aG (k+1,w,H0) ⟨by omega,hlt,u,e⟩ (by simp only;omega) Lq b_
   ·rw[bV A,bgK,aE aV]at l;rw[←l]at u;simp only[go_sem,WI,A,JS,wZz k];exact aG (k+1,w,H0) ⟨by omega,hlt,u,e⟩ (by simp only;omega) Lq b_
  simp only[aC.wp,go_sem,fK]at fin;simp only[go_sem,j,akC,lZ hlt,QX hlt,q0,h5,bjB];have V:lvl f k=0∨lvl f k=1∨lvl f k=2∨lvl f k=3∨lvl f k=4:=Om;rcases V with h|h|h|h|h
  all_goals
   rw[h]at fin ⊢;simp only[go_sem,e];exact fin _ (by(repeat' (first|exact c_|refine d_ ?_ ?_))<;>first|(simp only[go_sem,dV.spread]<;>rfl)|rfl)
 ·have j:¬(k:Int)<(Z' f.beN:Nat):=Om;have:k=Z' f.beN:=Om;subst this;simp only[go_sem,j];exact Up.up Lq (U w H0 u)
theorem aZV{f:aD}{row:List Int}(e:Z' row≤16777216)(h:jI (nP f) row 0=none):DG f row:=⟨e,λx j=>by
 have:=FB h x j;simp[nP]at this;omega⟩
theorem a3O{C:Ctx}(L:i8 C)(f:aD)(hV:VF f)(w:∀p∈f.beO,Fits p.beL)(v:Nat)(e:v<Z' f.beM)(row:List Int)(l:Z' row≤16777216) :
  fj.wp C (aW aXD.res (cT (PO (aiJ f v row)))) (PF.args [.agg f.cells,.int .i64 v,ints row]) .nil:=by
 have u:(1:Nat)*3≤16777216:=by decide
 simp only[go_sem,fj,aBP,aBQ,aXD,bfY];refine aB (L.ri f v hV e) rfl ?_;unfold aiJ;by_cases c:(Z' row:Int)=nI f v
 ·rw[aL c];simp only[go_sem,bR c,aBS];refine aB (L.bad f row l) rfl ?_;cases hb:jI (nP f) row 0 with
  |some i=>
   have j:qk f row=(i:Int):=by rw[qk,hb]
   simp only[go_sem,I3,j,show(i:Int)≥0 by omega,aBT,u];exact bB (.inr rfl) .nil rfl a_ ⟨.refl _,rfl⟩
  |none=>
   have j:qk f row=-1:=by rw[qk,hb]
   have y:=aZV l hb;obtain⟨A,he⟩:=qB hV e;have x:=w _ (bgD A);rw[he]at x;have B:=hV.small;have s1:=B.beK;have s2:=B.beN;have W:=fY 2 v row.length (home row);have X:=fY 3 v f.beK.length (oF f row);have Y:=fY 4 v row.length (eM f (cL f v) row);simp only[go_sem,I3,j,show ¬(-1:Int)≥0 by omega,aBU,aBV];have E:=a3F (C:=C) f v row y;simp only[aC.wp,go_sem]at E;refine E _ _ _ Lq λN S g1=>?_;simp only[go_sem,ajP];have F:=aWW (C:=C) f hV v row l (cM 2 v row.length (home row)) Om N;simp only[aC.wp,go_sem]at F;refine F _ _ _ Lq g1 λO H2 g2=>?_;simp only[go_sem];refine bA .nil cK a_ ?_;simp only[go_sem,ajW,uV e,hV.JL e,rD A,he];refine aQ λo K=>?_;simp only[go_sem,ajX];have I:=aWU L f hV (cL f v) x o v row y (cM 2 v row.length (home row)++cM 3 v f.beK.length (oF f row)) (by rw[bgB];omega) O;simp only[aC.wp,go_sem]at I;refine⟨a_,?_⟩;refine I _ _ _ Lq (g2.fresh K _).1 Sq λR U g3 M=>?_;simp only[go_sem,akA];have J:=aWV L f hV (cL f v) o v row y (cM 2 v row.length (home row)++cM 3 v f.beK.length (oF f row)++cM 4 v row.length (eM f (cL f v) row)) (by simp only[bgB];omega) R;simp only[aC.wp,go_sem]at J;refine J _ _ _ Lq g3 M λZ V g4=>?_;simp only[go_sem,akD];exact qW (.inr rfl) g4 rfl
 ·rw[aE c];simp only[go_sem,cP c,aBR,u,bfY];exact bB (.inr rfl) .nil rfl a_ ⟨.refl _,rfl⟩
structure Gn(C:Ctx):Prop extends ZI C where
 room:∀(f:aD)(room:List Int),f.Ok→aI C 85 [.agg f.cells,ints room] .nil (aK (ints (uR f room)))
 loads:∀(f:aD)(l:List (List Int)),f.Ok→qO l→aI C 84 [.agg f.cells,lay l] .nil (aK (ints (JG f l)))
 row:∀(f:aD)(v:Nat)(row:List Int),VF f→(∀p∈f.beO,Fits p.beL)→v<Z' f.beM→Z' row≤16777216→aI C 90 [.agg f.cells,.int .i64 v,ints row] .nil (aK (PO (aiJ f v row)))
def svS(f:aD)(l:List (List Int))(room:List Int):Spec:=λname vs=>match name,vs with
 |90,[_,.int _ v,_]=>some ([],λ_=>aK (PO (xZ f l v.toNat)))
 |85,_=>some ([],λ_=>aK (ints (uR f room)))
 |84,_=>some ([],λ_=>aK (ints (JG f l)))
 |_,_=>none
theorem a3Q{C:Ctx}(f:aD)(hV:VF f)(l:List (List Int))(room:List Int)(I:List lK)(U:Z' I≤2000000000)(M:PV)(K:cQ)[Up K](F:PF)(H:PH)
  (N:(((((PF.nil.set 7 (M)).set 9 (ints (jG f room))).set 10 (ints (kE f l))).set 11 (.int .i64 0)):PF).le F) (R:bH H 3 M (eK I))
  (O:∀w H',bH H' 3 w (eK (I++cM 6 (-1) f.beK.length (over f l room)))→K (.exit 2) ((PF.nil.set 7 (w))) H'):aC.wp C (.loop fp) K F H:=by
 have W:=hV.small.beK;have J:=pS f room;refine wp_loop (α:=Nat × PV × PH) (λt=>((((PF.nil.set 7 (t.2.1)).set 9 (ints (jG f room))).set 10 (ints (kE f l))).set 11 (.int .i64 t.1))) (λt=>t.2.2) (λt=>t.1≤Z' f.beK∧bH t.2.2 3 t.2.1 (eK (I++cM 6 (-1) t.1 (over f l room)))) (λt=>Z' f.beK-t.1) (0,M,H)
  ⟨bgE _,by rw[show cM 6 (-1) 0 (over f l room)=[]from rfl,bhH];exact R⟩ N b_ ?_
 rintro⟨k,w,H0⟩ ⟨S,u⟩;simp only at S u ⊢;simp only[go_sem,fp,Qf,bfY,J];by_cases hlt:k<Z' f.beK
 ·have e:(k:Int)<(Z' f.beK:Nat):=Om;have A:k<(kE f l).length:=by rw[kE,lN];exact hlt
  have B:k<(jG f room).length:=by rw[pS];exact hlt
  have a1:((kE f l).map λn=>[PV.int .i64 n])[k]?=some [.int .i64 (kE f l)[k]]:=by simp[A]
  have a2:((jG f room).map λn=>[PV.int .i64 n])[k]?=some [.int .i64 (jG f room)[k]]:=by simp[B]
  have V:over f l room k=decide ((kE f l)[k]>(jG f room)[k]):=by simp only[over,bgF,bgH A,bgH B,biE]
  have j:=lS 6 (-1) k (over f l room);have X:=fY 6 (-1) k (over f l room);rw[V]at j;generalize(kE f l)[k]=x at *
  generalize(jG f room)[k]=y at *
  simp only[go_sem,e];refine bA .nil cK a_ ?_;by_cases c:x>y
  ·rw[aL (bX c)]at j;have E:(1:Nat)*3≤16777216:=by decide
   simp only[go_sem,fq,a1,a2,c,Qg,E];refine hY (src:=[(⟨6,-1,k⟩:lK).cells]) u rfl (by unfold roomFor;rw[kN,bgB];simp only[bgI,maxLen];omega) λv' H' k1 _=>?_;rw[oJ,bgX,←j]at k1;simp only[go_sem,ft,wZz k];exact aG (k+1,v',H') ⟨hlt,k1⟩ (by simp only;omega) Lq b_
  ·rw[aE (by rw[bV c];decide)]at j;rw[←j]at u;simp only[go_sem,fq,a1,a2,c,ft,wZz k];exact aG (k+1,w,H0) ⟨hlt,u⟩ (by simp only;omega) Lq b_
 ·have e:¬(k:Int)<(Z' f.beK:Nat):=Om;have:k=Z' f.beK:=Om;subst this;simp only[go_sem,e];exact Up.up Lq (O w H0 u)
theorem aXF{C:Ctx}(L:Gn C)(f:aD)(E:f.Ok)(l:List (List Int))(A:qO l)(room:List Int) :
  WM.wp C (aW aJZ.res (cT (PO (uT f l room)))) (PF.args [.agg f.cells,lay l,ints room]) .nil:=by
 simp only[go_sem,WM,akH,akI,aJZ];refine aB (L.valid f E) rfl ?_;unfold uT;have β:=A.rows;have B:∀p∈f.beO,Fits p.beL:=λp hp=>(E.beX p hp).beL;cases R:dU f with
 |false =>simp only[go_sem,bgS,akJ];exact qW (rows:=[]) (.inr rfl) .nil rfl
 |true=>
  have hV:=VF.of R;by_cases c:Z' l=Z' f.beM
  ·have F:((Z' l:Int) != (Z' f.beM:Int))=false:=bR Om;rw[aL c];have V:=hV.small.beM;simp only[go_sem,bgJ,xm,bfY,F,akL,akM];refine wp_loop (α:=Nat × PV × PH) (λt=>(((((PF.nil.set 1 (lay l)).set 2 (ints room)).set 3 (.bE f.cells)).set 7 (t.2.1)).set 8 (.int .i64 t.1))) (λt=>t.2.2) (λt=>t.1≤Z' l∧bH t.2.2 3 t.2.1 (eK (tI f l t.1))) (λt=>Z' l-t.1) (0,.aH,.nil) ⟨bgE _,.nil⟩ Lq a_ ?_;rintro⟨k,w,H0⟩ ⟨hk,J⟩;simp only at hk J ⊢;simp only[go_sem,Qc,akN,bfY];by_cases hlt:k<Z' l
   ·have e:(k:Int)<(Z' l:Nat):=Om;have N:=EE hV.small A (n:=k) Om;have y:=SI f l k;have U:=va hV.small A hlt;have O:(l[k]).length≤16777216:=by have Z:=IW l (k+1);have:=A.all;rw[zT l hlt,bgB]at Z;omega
    have M:(l.map λr=>[ints r])[k]?=some [ints l[k]]:=by simp[hlt]
    have j:=L.row f k l[k] hV B Om O;rw[←show l.getD k []=l[k] by simp[bgF,hlt],←aWA]at j;rw[show l.getD k []=l[k] by simp[bgF,hlt]]at j;simp only[go_sem,e];refine bA .nil (svS f l room) a_ ?_;simp only[go_sem,akO,M];refine cO (show svS f l room 90 [.agg f.cells,.int .i64 k,ints l[k]]=some ([],λ_=>aK (PO (xZ f l k)))from rfl) j rfl a_ ?_;simp only[go_sem];refine hY (src:=eK (xZ f l k)) J rfl (by unfold roomFor;rw[kN,kN];simp only[maxLen];omega) λv' H' k1 _=>?_;have S:eK (tI f l k)++eK (xZ f l k)=eK (tI f l (k+1)):=by rw[y];simp only[eK,bhM]
    rw[S]at k1;refine⟨a_,?_⟩;simp only[go_sem,akP,wZz k];exact aG (k+1,v',H') ⟨hlt,k1⟩ (by simp only;omega) Lq b_
   ·have e:¬(k:Int)<(Z' l:Nat):=Om;have:k=Z' l:=Om;subst this;have N:=EE hV.small A (n:=Z' l) (bgG _);have x:=L.room f room E;have u:=L.loads f l E A;have X:uR f room=jG f room:=by rw[uR,R];rfl
    have Y:JG f l=kE f l:=by rw[JG,R];rfl
    simp only[go_sem,e];refine bA .nil (svS f l room) a_ ?_;simp only[go_sem,Qd];refine cO (show svS f l room 85 [.agg f.cells,ints room]=some ([],λ_=>aK (ints (uR f room)))from rfl) x rfl a_ ?_;simp only[go_sem];refine cO (show svS f l room 84 [.agg f.cells,lay l]=some ([],λ_=>aK (ints (JG f l)))from rfl) u rfl a_ ?_;rw[X,Y];simp only[go_sem,Qe];have W:=a3Q (C:=C) f hV l room (tI f l l.length) Om w;simp only[aC.wp,go_sem]at W;refine W _ _ H0 Lq J λw' H' K=>?_;simp only[go_sem,Qh];exact qW (.inr rfl) K rfl
  ·have F:((Z' l:Int) != (Z' f.beM:Int))=true:=cP Om;have I:(1:Nat)*3≤16777216:=by decide
   rw[aE c];simp only[go_sem,bgJ,xm,bfY,F,akK,I];exact bB (.inr rfl) .nil rfl a_ ⟨.refl _,rfl⟩
structure aLO(C:Ctx):Prop extends Gn C where
 viol:∀(f:aD)(l:List (List Int)) (room:List Int),f.Ok→qO l→aI C 87 [.agg f.cells,lay l,ints room] .nil (aK (PO (uT f l room)))
theorem aQE{C:Ctx}(L:aLO C)(f:aD)(e:f.Ok)(l:List (List Int))(j:qO l)(room:List Int) :
  ON.wp C (aW ajA.res (aK (.bool (sS f l room)))) (PF.args [.agg f.cells,lay l,ints room]) .nil:=by
 simp only[go_sem,ON,Py,Pz,ajA];refine aB (L.valid f e) rfl ?_;unfold sS;cases u:dU f with
 |false =>simp only[go_sem];refine aU (.inr rfl) rfl ?_;rfl
 |true=>
  simp only[go_sem];refine aB (L.viol f l room e j) rfl ?_;by_cases c:(uT f l room).length=0
  ·simp only[go_sem,bfY,bT (show(((uT f l room).length:Nat):Int)=0 by omega)];refine aU (.inr rfl) rfl ?_;simp[cF,c]
  ·simp only[go_sem,bfY,bD (show(((uT f l room).length:Nat):Int)≠0 by omega)];refine aU (.inr rfl) rfl ?_;rw[cF,bV c]



structure bY where
 src:Nat
 dst:Nat
 cap:Nat
abbrev bY.cells(a:bY):List PV:=[.int .i64 a.src,.int .i64 a.dst,.int .i64 a.cap,.int .i64 0]
abbrev Gq(l:List bY):PV:=.sl 4 (l.map bY.cells)
structure cN where
 nodes:Nat
 source:Nat
 sink:Nat
 arcs:List bY
abbrev cN.cells(n:cN):List PV:=[.int .i64 n.nodes,.int .i64 n.source,.int .i64 n.sink,Gq n.arcs]
structure fM(n:cN):Prop where
 two:2≤n.nodes
 few:n.nodes≤700
 num:Z' n.arcs≤2500
 source:n.source<n.nodes
 sink:n.sink<n.nodes
 apart:n.source≠n.sink
 ends:∀a∈n.arcs,a.src<n.nodes∧a.dst<n.nodes∧a.cap≤2147483647
def jC:List bY→List Nat→Nat→Int
 |a::l,x::xs,v=>(if a.src=v then(x:Int)else 0)-(if a.dst=v then(x:Int)else 0)+jC l xs v
 |_,_,_=>0
def BJ(S:Nat→Bool):List bY→List Nat→Int
 |a::l,x::xs=>(if S a.src=true∧S a.dst=false then(x:Int)else 0)-(if S a.src=false∧S a.dst=true then(x:Int)else 0)+BJ S l xs
 |_,_=>0
def uA(S:Nat→Bool)(g:Nat→Int):Nat→Int
 |0=>0
 |n+1=>uA S g n+if S n=true then g n else 0
theorem xl(S:Nat→Bool)(g h:Nat→Int):∀n,uA S (λv=>g v+h v) n=uA S g n+uA S h n
 |0=>rfl
 |n+1=>by rw[uA,uA,uA,xl S g h n];split<;>omega
theorem HA{S:Nat→Bool}{g h:Nat→Int}:∀{n:Nat},(∀v,v<n→S v=true→g v=h v)→uA S g n=uA S h n
 |0,_=>rfl
 |n+1,e=>by
  rw[uA,uA,HA (n:=n) λv j=>e v Om];split
  ·rename_i c;rw[e n Om c]
  ·rfl
theorem MA(S:Nat→Bool):∀n,uA S (λ_=>0) n=0
 |0=>rfl
 |n+1=>by rw[uA,MA S n];split<;>rfl
theorem WL(S:Nat→Bool)(a:Nat)(x:Int):∀{n:Nat},a<n→uA S (λv=>if a=v then x else 0) n=if S a=true then x else 0
 |0,h=>by omega
 |n+1,h=>by
  rw[uA];by_cases e:a=n
  ·subst e;rw[HA (h:=λ_=>0) (n:=a) λv j _=>by rw[aE Om],MA,aL rfl];omega
  ·rw[WL S a x (n:=n) Om,aE e];split<;>split<;>omega
theorem aBZ(S:Nat→Bool){N:Nat}:∀{l:List bY}{xs:List Nat},(∀a∈l,a.src<N∧a.dst<N)→uA S (jC l xs) N=BJ S l xs
 |[],_,_=>MA S N
 |_::_,[],_=>MA S N
 |a::l,x::xs,h=>by
  obtain⟨j,u⟩:=h a aY;have w:=aBZ S (l:=l) (xs:=xs) λb hb=>h b (bjG _ hb);have e:uA S (jC (a::l) (x::xs)) N=uA S (λv=>if a.src=v then(x:Int)else 0) N+(uA S (λv=>if a.dst=v then -(x:Int)else 0) N+uA S (jC l xs) N):=by rw[←xl,←xl];refine HA λv _ _=>?_;rw[jC];split<;>split<;>omega
  rw[e,WL S _ _ j,WL S _ _ u,w,BJ];cases S a.src<;>cases S a.dst<;>simp<;>omega
structure jY(n:cN)(xs:List Nat):Prop where
 len:Z' xs=Z' n.arcs
 le:∀(i:Nat) a x,n.arcs[i]?=some a→xs[i]?=some x→x≤a.cap
 node:∀v,v<n.nodes→v≠n.source→v≠n.sink→jC n.arcs xs v=0
def kT(n:cN)(xs:List Nat):Int:=jC n.arcs xs n.source
def eH(S:Nat→Bool):List bY→Nat
 |[]=>0
 |a::l=>(if S a.src=true∧S a.dst=false then a.cap else 0)+eH S l
theorem jY.cut{n:cN}(j:fM n){xs:List Nat}(h:jY n xs){S:Nat→Bool}(w:S n.source=true)(x:S n.sink=false):BJ S n.arcs xs=kT n xs:=by
 rw[←aBZ S (N:=n.nodes) λa l=>⟨(j.ends a l).1,(j.ends a l).2.1⟩];rw[HA (h:=λv=>if n.source=v then kT n xs else 0) λv y u=>?_,WL S _ _ j.source,aL w];by_cases e:n.source=v
 ·subst e;rw[aL rfl];rfl
 ·rw[aE e];exact h.node v y (λc=>e c.symm) λc=>by rw[c,x]at u;cases u
theorem azX(S:Nat→Bool):∀{l:List bY}{xs:List Nat},(∀(i:Nat) a x,l[i]?=some a→xs[i]?=some x→x≤a.cap)→BJ S l xs≤eH S l
 |[],_,_=>by simp[BJ,eH]
 |_::_,[],_=>by simp[BJ]
 |a::l,x::xs,h=>by have j:=h 0 a x rfl rfl;have u:=azX S (l:=l) (xs:=xs) λi b y hb e=>h (i+1) b y (by simpa using hb) (by simpa using e);rw[BJ,eH];split<;>split<;>omega
theorem jY.aNE{n:cN}(l:fM n){xs:List Nat}(h:jY n xs){S:Nat→Bool}(e:S n.source=true)(j:S n.sink=false):kT n xs≤eH S n.arcs:=by
 rw[←h.cut l e j];exact azX S h.le
theorem azW(S:Nat→Bool):∀{l:List bY}{xs:List Nat},Z' xs=Z' l→(∀(i:Nat) a x,l[i]?=some a→xs[i]?=some x→(S a.src=true→S a.dst=false→x=a.cap)∧(S a.src=false→S a.dst=true→x=0))→BJ S l xs=eH S l
 |[],_,_,_=>by simp[BJ,eH]
 |_::_,[],h,_=>by simp at h
 |a::l,x::xs,w,h=>by
  have e:=h 0 a x rfl rfl;have B:=azW S (l:=l) (xs:=xs) (by simpa using w) λi b y hb A=>h (i+1) b y (by simpa using hb) (by simpa using A);rw[BJ,eH,B];cases u:S a.src<;>cases j:S a.dst
  ·simp
  ·have:=e.2 u j;simp;omega
  ·have:=e.1 u j;simp;omega
  ·simp
theorem jY.full{n:cN}(u:fM n){xs:List Nat}(h:jY n xs){S:Nat→Bool}(e:S n.source=true)(j:S n.sink=false)
  (l:∀(i:Nat) a x,n.arcs[i]?=some a→xs[i]?=some x→(S a.src=true→S a.dst=false→x=a.cap)∧(S a.src=false→S a.dst=true→x=0)):kT n xs=eH S n.arcs:=by
 rw[←h.cut u e j];exact azW S h.len l
theorem ayO:∀{l:List bY}{xs:List Nat}{i:Nat}{a:bY}{x:Nat}(y:Nat),l[i]?=some a→xs[i]?=some x→∀v,jC l (xs.set i y) v=jC l xs v+(if a.src=v then(y:Int)-x else 0)-(if a.dst=v then(y:Int)-x else 0)
 |[],_,_,_,_,_,h,_,_=>by simp at h
 |_::_,[],_,_,_,_,_,h,_=>by simp at h
 |b::l,z::xs,0,a,x,y,e,j,v=>by simp only[List.getElem?_cons_zero,biQ.injEq]at e j;subst e;subst j;rw[List.set_cons_zero,jC,jC];split<;>split<;>omega
 |b::l,z::xs,i+1,a,x,y,e,j,v=>by rw[List.set_cons_succ,jC,jC,ayO (l:=l) (xs:=xs) y (by simpa using e) (by simpa using j) v];omega
theorem aeX(l:List bY):∀(n:Nat)(v:Nat),jC l (bgA n 0) v=0:=by
 induction l with
 |nil=>intro n v;cases n<;>rfl
 |cons a l e=>
  intro n v;cases n with
  |zero=>rfl
  |succ n =>rw[List.replicate_succ,jC,e];split<;>split<;>rfl
theorem KQ(n:cN):jY n (bgA n.arcs.length 0)∧kT n (bgA n.arcs.length 0)=0:=by
 refine⟨⟨by simp,λi a x _ e=>?_,λv _ _ _=>aeX _ _ _⟩,aeX _ _ _⟩;have:=bhX e;rw[List.eq_of_mem_replicate this];exact bgE _
def Nj:=bO [2] Proofs.Tryz.f34
def azK:=aA Nj 0
def azL:=aA Nj 1
def df:aC:=(sq azK (sq azL .ret))
def aVY:aX:=⟨2,7,df,[.tmp 4]⟩
def LJ:=bO [3] Proofs.Tryz.f35
def Hy:=aA LJ 0
def Hz:=aA LJ 1
def ayI:=aA LJ 2
def ayJ:=aA LJ 3
def LH:aC:=(sq Hy (dA Hz 8 ayI (sq ayJ .ret)))
def aIP:aX:=⟨3,24,LH,[.tmp 6]⟩
def Mv:=bO [2] Proofs.Tryz.f32
def ayK:=aA Mv 0
def ayL:=aA Mv 1
def cj:aC:=(sq ayK (sq ayL .ret))
def aVN:aX:=⟨2,13,cj,[.tmp 4]⟩
def aNS:=bO [13] Proofs.Tryz.f33
def axR:=aA aNS 0
def cf:aC:=(.region axR)
def aVJ:aX:=⟨3,16,cf,[]⟩
def dW:=bO [2] Proofs.Tryz.f12
def atG:=aA dW 0
def atH:=aA dW 1
def atI:=aA dW 2
def atJ:=aA dW 3
def atK:=aA dW 4
def atL:=aA dW 5
def atM:=aA dW 6
def atN:=aA dW 7
def atO:=aA dW 8
def atP:=aA dW 9
def W2:=aA dW 10
def W3:=aA dW 11
def W4:=aA dW 12
def W5:=aA dW 13
def W6:=aA dW 14
def W7:=aA dW 15
def qt:aC:=(fH W4 62 2 W7 (sq W5 (.region W6)))
def W8:=cA dW 0
def W9:=aA dW 16
def Xa:=aA dW 17
def Xb:=aA dW 18
def qz:=aA dW 19
def q9:=aA dW 20
def rc:=aA dW 21
def Xc:=aA dW 22
def re:=cA dW 1
def SM:=aA dW 23
def qu:aC:=(fH Xa 83 4 SM (sq Xb (jA qz 88 (.exit 5) (sq q9 (jA rc 95 (.region Xc) (.draw re))))))
def Xd:=aA dW 24
def Xe:=aA dW 25
def Xf:=aA dW 26
def Xg:=aA dW 27
def Xh:=cA dW 2
def rg:=aA dW 28
def qw:aC:=(fH Xe 118 6 rg (sq Xf (sq Xg (.cond (Tm 126) (.draw Xh) .skip))))
def Xi:=aA dW 29
def qx:aC:=(fH atN 44 0 Xi (sq atO (sq atP (sq W2 (.seq (cE W3 2 qt) (dq W8 (.seq (cE W9 4 qu) (cE Xd 6 qw))))))))
def Xj:=aA dW 30
def Xk:=aA dW 31
def Xl:=aA dW 32
def Xm:=aA dW 33
def Xn:=aA dW 34
def qy:aC:=(fH Xk 144 8 Xn (sq Xl (.region Xm)))
def Xo:=aA dW 35
def ao:aC:=(sq atG (dA atH 24 atI (sq atJ (sq atK (sq atL (.seq (cE atM 0 qx) (.seq (cE Xj 8 qy) (sq Xo .ret))))))))
def aTL:aX:=⟨2,156,ao,[.cell 4 (some 4),.tmp 5]⟩
def uC:=bO [1] Proofs.Tryz.f42
def asZ:=aA uC 0
def atA:=aA uC 1
def atB:=aA uC 2
def atC:=aA uC 3
def atD:=aA uC 4
def atE:=cA uC 0
def G3:=aA uC 5
def asY:aC:=(fH atC 10 0 G3 (sq atD (.draw atE)))
def atF:=aA uC 6
def aj:aC:=(sq asZ (sq atA (.seq (cE atB 0 asY) (sq atF .ret))))
def aTH:aX:=⟨1,32,aj,[.tmp 2]⟩
def gY:=bO [2,89] Proofs.Tryz.f15
def J4:=aA gY 0
def J5:=aA gY 1
def ap:=aA gY 2
def J6:=aA gY 3
def J7:=aA gY 4
def J8:=aA gY 5
def J9:=aA gY 6
def Ka:=aA gY 7
def Kb:=aA gY 8
def Kc:=aA gY 9
def zm:=aA gY 10
def zn:=aA gY 11
def SO:=cA gY 0
def zo:=aA gY 12
def zp:=cA gY 1
def zq:=cA gY 2
def FU:=aA gY 13
def SN:aC:=(fH zm 52 0 FU (sq zn (.seq (dq SO (.cond (Tm 67) (.exit 1) .skip)) (sq zo (dq zp (.draw zq))))))
def zr:=aA gY 14
def MZ:aC:=(sq J4 (sq J5 (dA ap 24 J6 (sq J7 (dA J8 36 J9 (sq Ka (sq Kb (.seq (cE Kc 0 SN) (sq zr .ret)))))))))
def Xp:aX:=⟨2,94,MZ,[.tmp 4,.tmp 5]⟩
def fF:=bO [2,60,82,87,105] Proofs.Tryz.f17
def auA:=aA fF 0
def auB:=aA fF 1
def G7:=aA fF 2
def auC:=aA fF 3
def auD:=aA fF 4
def auE:=aA fF 5
def auF:=aA fF 6
def auG:=aA fF 7
def auH:=aA fF 8
def auI:=aA fF 9
def Xw:=aA fF 10
def Xx:=aA fF 11
def Xy:=cA fF 0
def Xz:=cA fF 1
def X0:=aA fF 12
def X1:=aA fF 13
def X2:=aA fF 14
def X3:=aA fF 15
def X4:=aA fF 16
def rp:aC:=(dD X2 71 2 X4 (.region X3))
def X5:=aA fF 17
def X6:=aA fF 18
def ru:aC:=(fH Xw 50 0 X6 (sq Xx (.seq (dq Xy (.draw Xz)) (sq X0 (.seq (cE X1 2 rp) (.region X5))))))
def X7:=aA fF 19
def X8:=aA fF 20
def X9:=aA fF 21
def Ya:=cA fF 2
def Yb:=cA fF 3
def Yc:=aA fF 22
def rx:aC:=(fH X8 95 4 Yc (sq X9 (dq Ya (.draw Yb))))
def Yd:=aA fF 23
def av:aC:=(sq auA (sq auB (dA G7 25 auC (sq auD (dA auE 37 auF (sq auG (sq auH (.seq (cE auI 0 ru) (.seq (cE X7 4 rx) (sq Yd .ret))))))))))
def aTN:aX:=⟨2,110,av,[.cell 4 (some 3),.tmp 5]⟩
def mI:=bO [3,5] Proofs.Tryz.f19
def asM:=aA mI 0
def asN:=aA mI 1
def HT:=aA mI 2
def QQ:=aA mI 3
def asO:=aA mI 4
def asP:=aA mI 5
def asQ:=aA mI 6
def asR:=aA mI 7
def asS:=aA mI 8
def asT:=aA mI 9
def Wk:=aA mI 10
def Wl:=aA mI 11
def Wj:aC:=(fH asQ 57 0 Wl (sq asR (dA asS 66 asT (.region Wk))))
def Wm:=cA mI 0
def Wn:=aA mI 12
def ac:aC:=(sq asM (sq asN (dA HT 48 QQ (sq asO (.seq (cE asP 0 Wj) (dq Wm (sq Wn .ret)))))))
def aTF:aX:=⟨3,87,ac,[.tmp 6]⟩
def Be:=bO [] Proofs.Tryz.f109
def adI:=aA Be 0
def adJ:=aA Be 1
def UL:aC:=(sq adI (sq adJ .ret))
def aIF:aX:=⟨1,12,UL,[.tmp 3]⟩
def mS:=bO [] Proofs.Tryz.f72
def Mk:=aA mS 0
def Ml:=aA mS 1
def Mm:=aA mS 2
def aNQ:=aA mS 3
def Mn:=aA mS 4
def Mo:=aA mS 5
def Mp:=aA mS 6
def Mq:=aA mS 7
def aNR:=aA mS 8
def Mr:=aA mS 9
def Bt:aC:=(fH Mo 46 0 Mr (sq Mp (sq Mq (.cond (Tm 70) (sq aNR .ret) .skip))))
def Bu:=aA mS 10
def NN:aC:=(sq Mk (sq Ml (dA Mm 41 aNQ (.seq (cE Mn 0 Bt) (sq Bu .ret)))))
def adX:aX:=⟨1,72,NN,[.tmp 2]⟩
def pP:=bO [2] Proofs.Tryz.f46
def awH:=aA pP 0
def awI:=aA pP 1
def a1W:=aA pP 2
def awJ:=aA pP 3
def awK:=aA pP 4
def awL:=aA pP 5
def awM:=aA pP 6
def awN:=aA pP 7
def awO:=aA pP 8
def jr:=aA pP 9
def acA:aC:=(fH awL 38 0 jr (sq awM (sq awN (.cond (Tm 53) (.region awO) .skip))))
def acB:=aA pP 10
def bw:aC:=(sq awH (dA awI 33 a1W (sq awJ (.seq (cE awK 0 acA) (sq acB .ret)))))
def aUT:aX:=⟨2,60,bw,[.tmp 4,.tmp 5]⟩
def GB:=bO [] Proofs.Tryz.f110
def ti:=aA GB 0
def tj:=aA GB 1
def acC:=cA GB 0
def acD:=cA GB 1
def GA:aC:=(sq ti (jA tj 7 (dq acC .ret) (dq acD .ret)))
def Uv:aX:=⟨2,52,GA,[.tmp 4,.tmp 5]⟩
def FZ:=bO [] Proofs.Tryz.f111
def tg:=aA FZ 0
def th:=aA FZ 1
def abY:=aA FZ 2
def abZ:=aA FZ 3
def FY:aC:=(sq tg (dA th 6 abY (sq abZ .ret)))
def Uu:aX:=⟨2,26,FY,[.tmp 4]⟩
def jX:=bO [79] Proofs.Tryz.f73
def Lz:=aA jX 0
def L3:=cA jX 0
def L4:=aA jX 1
def L5:=aA jX 2
def L6:=aA jX 3
def L7:=cA jX 1
def L8:=aA jX 4
def L9:=aA jX 5
def Ma:=aA jX 6
def LG:=aA jX 7
def Bh:=aA jX 8
def Bi:=aA jX 9
def GM:=aA jX 10
def Bf:aC:=(fH L8 52 2 GM (sq L9 (sq Ma (sq LG (.cond (Tm 69) (sq Bh (.region Bi)) .skip)))))
def Bj:=aA jX 11
def Bg:aC:=(dD L6 38 0 Bj (dq L7 (.block 2 (.loop Bf))))
def Bk:=aA jX 12
def NL:aC:=(sq Lz (dq L3 (sq L4 (.seq (cE L5 0 Bg) (sq Bk .ret)))))
def adK:aX:=⟨1,84,NL,[.tmp 2,.tmp 3]⟩
def lC:=bO [] Proofs.Tryz.f74
def awB:=aA lC 0
def awC:=aA lC 1
def awD:=aA lC 2
def awE:=aA lC 3
def awF:=aA lC 4
def jo:=aA lC 5
def Hj:=aA lC 6
def jp:=aA lC 7
def awA:aC:=(dD awE 22 0 jp (sq awF (sq jo (.cond (Tm 44) (.region Hj) .skip))))
def awG:=aA lC 8
def abU:=aA lC 9
def td:=aA lC 10
def te:=aA lC 11
def abV:=aA lC 12
def abW:=aA lC 13
def tf:=aA lC 14
def abT:aC:=(dD abU 57 2 tf (sq td (sq te (.cond (Tm 69) (.region abV) (.region abW)))))
def abX:=aA lC 15
def bv:aC:=(sq awB (sq awC (.seq (cE awD 0 awA) (.seq (cE awG 2 abT) (sq abX .ret)))))
def aUQ:aX:=⟨2,92,bv,[.tmp 4]⟩
def iR:=bO [1,48,67] Proofs.Tryz.f41
def Mb:=aA iR 0
def Mc:=aA iR 1
def aNO:=aA iR 2
def Md:=cA iR 0
def Me:=aA iR 3
def Mf:=aA iR 4
def Mg:=aA iR 5
def Mh:=cA iR 1
def Mi:=cA iR 2
def Mj:=cA iR 3
def Bn:=cA iR 4
def Bo:=aA iR 6
def Bl:aC:=(fH Mf 29 0 Bo (sq Mg (.seq (dq Mh (.draw Mi)) (dq Mj (.draw Bn)))))
def Bp:=aA iR 7
def Bq:=aA iR 8
def UN:=aA iR 9
def Br:=aA iR 10
def Bs:=aA iR 11
def Bm:aC:=(.block 3 (sq Bq (dA UN 81 Br (.region Bs))))
def NM:aC:=(sq Mb (dA Mc 14 aNO (dq Md (.seq (cE Me 0 Bl) (cE Bp 2 Bm)))))
def adW:aX:=⟨1,93,NM,[.tmp 2,.tmp 3,.tmp 4,.tmp 5]⟩
def nM:=bO [1] Proofs.Tryz.f75
def N5:=aA nM 0
def N6:=aA nM 1
def aOT:=aA nM 2
def N7:=aA nM 3
def N8:=aA nM 4
def N9:=aA nM 5
def Oa:=aA nM 6
def aOU:=aA nM 7
def Ob:=aA nM 8
def N4:aC:=(dD N8 54 0 Ob (sq N9 (sq Oa (.cond (Tm 93) (sq aOU .ret) .skip))))
def C0:=aA nM 9
def OG:aC:=(sq N5 (dA N6 49 aOT (.seq (cE N7 0 N4) (sq C0 .ret))))
def agE:aX:=⟨1,94,OG,[.tmp 2]⟩
def gZ:=bO [2] Proofs.Tryz.f77
def Oc:=aA gZ 0
def Od:=aA gZ 1
def aOW:=aA gZ 2
def Oe:=aA gZ 3
def Of:=aA gZ 4
def Og:=aA gZ 5
def Oh:=aA gZ 6
def Oi:=cA gZ 0
def aOX:=aA gZ 7
def Oj:=cA gZ 1
def C3:=cA gZ 2
def C4:=aA gZ 8
def C1:aC:=(dD Og 27 0 C4 (sq Oh (.seq (dq Oi (.cond (Tm 48) (sq aOX .ret) .skip)) (dq Oj (.draw C3)))))
def C5:=aA gZ 9
def C6:=aA gZ 10
def GP:=aA gZ 11
def aJB:=aA gZ 12
def GQ:=aA gZ 13
def C2:aC:=(dD C6 80 2 GQ (sq GP (.cond (Tm 99) (sq aJB .ret) .skip)))
def C7:=aA gZ 14
def OH:aC:=(sq Oc (dA Od 20 aOW (sq Oe (.seq (cE Of 0 C1) (.seq (cE C5 2 C2) (sq C7 .ret))))))
def agF:aX:=⟨2,105,OH,[.tmp 4,.tmp 5]⟩
def rC:=bO [2] Proofs.Tryz.f47
def azN:=aA rC 0
def azO:=aA rC 1
def a2Q:=aA rC 2
def azP:=aA rC 3
def azQ:=aA rC 4
def azR:=aA rC 5
def azS:=aA rC 6
def azT:=aA rC 7
def jy:=aA rC 8
def azM:aC:=(dD azR 37 0 jy (sq azS (.cond (Tm 60) (.region azT) .skip)))
def afX:=aA rC 9
def dg:aC:=(sq azN (dA azO 32 a2Q (sq azP (.seq (cE azQ 0 azM) (sq afX .ret)))))
def aVZ:aX:=⟨2,70,dg,[.tmp 4,.tmp 5]⟩
def fX:=bO [2,78,115] Proofs.Tryz.f76
def Nm:=aA fX 0
def Nn:=cA fX 0
def No:=aA fX 1
def Np:=aA fX 2
def Nq:=aA fX 3
def Nr:=aA fX 4
def Ns:=aA fX 5
def Nt:=aA fX 6
def Nu:=aA fX 7
def Nv:=aA fX 8
def BG:=cA fX 1
def Ch:=cA fX 2
def Cj:=cA fX 3
def Ck:=aA fX 9
def BH:=aA fX 10
def Cl:=cA fX 4
def Cm:=cA fX 5
def Cn:=aA fX 11
def BI:=aA fX 12
def Cf:aC:=(dD Nu 37 2 BI (sq Nv (.seq (dq BG (.cond (Tm 65) (.seq (dq Ch (.draw Cj)) (.region Ck)) .skip)) (sq BH (.cond (Tm 98) (.seq (dq Cl (.draw Cm)) (.region Cn)) .skip)))))
def Cg:aC:=(.seq (sq Nq (.cond (Tm 27) .skip (.exit 0))) (.block 1 (sq Nr (sq Ns (cE Nt 2 Cf)))))
def Cp:=aA fX 13
def OE:aC:=(sq Nm (dq Nn (sq No (sq Np (.seq (.block 0 (.loop Cg)) (sq Cp .ret))))))
def agD:aX:=⟨2,119,OE,[.tmp 4,.tmp 5]⟩
def fE:=bO [1] Proofs.Tryz.f43
def Nw:=aA fE 0
def Nx:=aA fE 1
def aOR:=aA fE 2
def Ny:=aA fE 3
def Nz:=aA fE 4
def dl:=aA fE 5
def N0:=aA fE 6
def N1:=aA fE 7
def N2:=aA fE 8
def N3:=aA fE 9
def Ct:=aA fE 10
def VE:=aA fE 11
def VG:=aA fE 12
def VH:=cA fE 0
def VI:=cA fE 1
def Cq:aC:=(.seq (sq Ct (.cond (Tm 49) .skip (.exit 2))) (.block 3 (sq VE (sq VG (.cond (Tm 58) (.draw VH) (.draw VI))))))
def Cu:=aA fE 13
def Cv:=aA fE 14
def VJ:=aA fE 15
def VK:=aA fE 16
def Cw:=aA fE 17
def Cx:=aA fE 18
def Cy:=cA fE 2
def Cz:=aA fE 19
def Cr:aC:=(.seq (sq Cv (.cond (Tm 103) .skip (.exit 4))) (.block 5 (sq VJ (sq VK (.cond (Tm 112) (sq Cw (.region Cx)) (dq Cy (.region Cz)))))))
def Cs:aC:=(.block 1 (sq Nz (jA dl 34 (sq N0 (sq N1 .ret)) (sq N2 (.seq (cE N3 2 Cq) (cE Cu 4 Cr))))))
def OF:aC:=(sq Nw (dA Nx 18 aOR (cE Ny 0 Cs)))
def RD:aX:=⟨1,155,OF,[.tmp 2,.tmp 3,.tmp 4,.tmp 5]⟩
def GT:=bO [3] Proofs.Tryz.f38
def wc:=aA GT 0
def wd:=aA GT 1
def ahW:=aA GT 2
def ahX:=aA GT 3
def GR:aC:=(sq wc (dA wd 8 ahW (sq ahX .ret)))
def Uz:aX:=⟨3,25,GR,[.tmp 6]⟩
def Ot:=bO [2] Proofs.Tryz.f37
def aAK:=aA Ot 0
def aAL:=aA Ot 1
def dw:aC:=(sq aAK (sq aAL .ret))
def aWK:aX:=⟨2,15,dw,[.tmp 4]⟩
def tD:=bO [1] Proofs.Tryz.f44
def O2:=aA tD 0
def O3:=aA tD 1
def O4:=aA tD 2
def O5:=aA tD 3
def O6:=aA tD 4
def O7:=aA tD 5
def O1:aC:=(dD O5 9 0 O7 (.region O6))
def O8:=aA tD 6
def OJ:aC:=(sq O2 (sq O3 (.seq (cE O4 0 O1) (sq O8 .ret))))
def ahY:aX:=⟨1,18,OJ,[.tmp 2]⟩
def eS:=bO [2,52,95,124,147] Proofs.Tryz.f13
def aAV:=aA eS 0
def aAW:=aA eS 1
def aAX:=aA eS 2
def aAY:=aA eS 3
def aAZ:=aA eS 4
def aBA:=aA eS 5
def aBB:=cA eS 0
def aBC:=cA eS 1
def aBD:=cA eS 2
def aBE:=aA eS 6
def ahH:=aA eS 7
def vw:=aA eS 8
def vz:=aA eS 9
def ahI:=aA eS 10
def v6:=cA eS 3
def v8:=cA eS 4
def wa:=aA eS 11
def vq:aC:=(dD ahH 59 2 wa (sq vw (jA vz 72 (.region ahI) (dq v6 (.draw v8)))))
def ahJ:=aA eS 12
def ahK:=aA eS 13
def ahL:=aA eS 14
def ahM:=cA eS 5
def ahN:=cA eS 6
def wb:=aA eS 15
def vr:aC:=(dD ahK 102 4 wb (sq ahL (.cond (Tm 108) (dq ahM (.draw ahN)) .skip)))
def ahO:=aA eS 16
def vt:aC:=(dD aBA 28 0 ahO (dq aBB (.seq (dq aBC (.draw aBD)) (.seq (cE aBE 2 vq) (cE ahJ 4 vr)))))
def ahP:=aA eS 17
def ahQ:=aA eS 18
def ahR:=aA eS 19
def ahS:=cA eS 7
def ahT:=cA eS 8
def ahU:=aA eS 20
def vu:aC:=(dD ahR 134 6 ahU (dq ahS (.draw ahT)))
def ahV:=aA eS 21
def dy:aC:=(sq aAV (dA aAW 16 aAX (sq aAY (.seq (cE aAZ 0 vt) (sq ahP (.seq (cE ahQ 6 vu) (sq ahV .ret)))))))
def vp:aX:=⟨2,151,dy,[.cell 4 (some 4),.tmp 5]⟩
def nF:=bO [3,4,70] Proofs.Tryz.f45
def aAM:=aA nF 0
def aAN:=aA nF 1
def aAO:=aA nF 2
def aAP:=aA nF 3
def aAQ:=cA nF 0
def j7:=aA nF 4
def aAR:=aA nF 5
def aAS:=aA nF 6
def aAT:=cA nF 1
def aAU:=aA nF 7
def vl:=aA nF 8
def vk:aC:=(dD aAS 44 2 vl (dq aAT (.cond (Tm 62) (.region aAU) .skip)))
def VO:=aA nF 9
def ahG:aC:=(dD aAP 19 0 VO (dq aAQ (jA j7 39 (.exit 1) (cE aAR 2 vk))))
def vm:=aA nF 10
def dx:aC:=(sq aAM (sq aAN (.seq (cE aAO 0 ahG) (sq vm .ret))))
def vj:aX:=⟨3,74,dx,[.tmp 6]⟩
def rE:=bO [2] Proofs.Tryz.f16
def Ou:=aA rE 0
def Ov:=aA rE 1
def dz:=aA rE 2
def Ow:=aA rE 3
def Ox:=aA rE 4
def Oy:=aA rE 5
def Oz:=aA rE 6
def O0:=aA rE 7
def OI:aC:=(sq Ou (sq Ov (dA dz 19 Ow (sq Ox (dA Oy 31 Oz (sq O0 .ret))))))
def RH:aX:=⟨2,36,OI,[.tmp 4,.tmp 5]⟩
def fS:=bO [3,5] Proofs.Tryz.f20
def aAC:=aA fS 0
def aAD:=aA fS 1
def IH:=aA fS 2
def RG:=aA fS 3
def aAE:=aA fS 4
def aAF:=aA fS 5
def aAG:=aA fS 6
def aAH:=aA fS 7
def aAI:=cA fS 0
def aAJ:=aA fS 8
def agR:=cA fS 1
def agS:=cA fS 2
def agT:=aA fS 9
def agU:=aA fS 10
def agV:=cA fS 3
def agW:=cA fS 4
def agX:=aA fS 11
def vg:aC:=(dD agU 87 2 agX (dq agV (.draw agW)))
def agY:=aA fS 12
def agQ:aC:=(dD aAH 59 0 agY (.seq (dq aAI (.cond (Tm 72) (sq aAJ .ret) .skip)) (.seq (dq agR (.draw agS)) (cE agT 2 vg))))
def agZ:=aA fS 13
def ahA:=aA fS 14
def ahB:=cA fS 5
def ahC:=cA fS 6
def ahD:=aA fS 15
def vh:aC:=(dD ahA 109 4 ahD (dq ahB (.draw ahC)))
def ahE:=aA fS 16
def ahF:=aA fS 17
def du:aC:=(sq aAC (sq aAD (dA IH 49 RG (sq aAE (sq aAF (.seq (cE aAG 0 agQ) (.seq (cE agZ 4 vh) (sq ahE (sq ahF .ret)))))))))
def Is:aX:=⟨3,135,du,[.tmp 6]⟩
def tF:=bO [10,19,25,60] Proofs.Tryz.f11
def Te:=aA tF 0
def Tf:=aA tF 1
def Tg:=aA tF 2
def ip:=aA tF 3
def Th:=aA tF 4
def Ti:=aA tF 5
def Tj:=aA tF 6
def PZ:aC:=(sq Te (sq Tf (sq Tg (sq ip (sq Th (sq Ti (sq Tj .ret)))))))
def apG:aX:=⟨0,70,PZ,[.tmp 0]⟩
def kD:=bO [] Proofs.Tryz.f8
def pq:=aA kD 0
def pt:=aA kD 1
def pu:=aA kD 2
def pw:=aA kD 3
def p4:=aA kD 4
def p5:=aA kD 5
def p6:=aA kD 6
def QA:=aA kD 7
def arF:=aA kD 8
def QB:=aA kD 9
def iq:=aA kD 10
def ir:=aA kD 11
def FK:aC:=(sq pq (sq pt (sq pu (sq pw (sq p4 (sq p5 (sq p6 (dA QA 45 arF (dA QB 47 iq (sq ir .ret))))))))))
def XY:aX:=⟨1,79,FK,[.tmp 2]⟩
def wV(H:PH)(s:Nat)(q:Nat)(v:PV)(rows:List (List PV)):Prop:=
 ∃rs e,v=.osl q s e rows.length∧H q=some (.rows s rs)∧e+Z' rows≤Z' rs∧(rs.drop e).take rows.length=rows
section
variable {H:PH} {s b q:Nat} {v y:PV} {rows src:List (List PV)}
theorem wV.view(h:wV H s q v rows):fA H s v=some rows:=by
 obtain⟨rs,u,rfl,e,j,l⟩:=h;simp only[fA,if_true,e,true_and,aL j,l]
theorem wV.ext{H':PH}(h:wV H s q v rows)(A:∀x,H q=some x→H' q=some x):wV H' s q v rows:=by
 obtain⟨rs,e,j,l,u,w⟩:=h;exact⟨rs,e,j,A _ l,u,w⟩
theorem wV.tail{r:List PV}(h:wV H s q v (r::rows)):∃v',PV.slice s v 1 ((Z' rows+1:Nat):Int) none=some v'∧wV H s q v' rows:=by
 obtain⟨rs,e,rfl,l,u,j⟩:=h;rw[bhT]at u j;refine⟨.osl q s (e+1) rows.length,?_,rs,e+1,rfl,l,by omega,?_⟩
 ·unfold PV.slice;show(if s=s∧(0:Int)≤1∧(1:Int)≤((Z' rows+1:Nat):Int)∧((Z' rows+1:Nat):Int)≤((r::rows).length:Nat)∧((none:Option Int)=none∨(none:Option Int)=some ((Z' rows+1:Nat):Int))then some (PV.osl q s (e+(1:Int).toNat) (((Z' rows+1:Nat):Int).toNat-(1:Int).toNat))else none)=_;rw[aL ⟨rfl,by omega,by omega,by rw[bhT];omega,.inl rfl⟩];rfl
 ·have:=congrArg (List.drop 1) j;rw[List.drop_take,List.drop_drop,Nat.add_sub_cancel]at this;exact this
theorem wV.append{K:PV→PH→Prop}(h:wV H s q v rows)(R:fA H s y=some src)(O:roomFor rows.length src.length b)
  (N:∀J v' H',wV H' s J v' (rows++src)→(J=q∨H J=none)→(∀o x,o≠q→H o=some x→H' o=some x)→(∀o,o≠J→H o=none→H' o=none)→K v' H'):pF H s b v y K:=by
 obtain⟨rs,j,rfl,M,I,E⟩:=h;have A:(rows++src).length=Z' rows+Z' src:=bgB;have F:∀j,j+Z' rows≤Z' rs→(rs.drop j).take rows.length=rows→K (.osl q s j (Z' rows+Z' src)) (H.set q (.rows s (rs.take (j+Z' rows)++src))):=λj I E=>by
  refine N q _ _ ⟨rs.take (j+Z' rows)++src,j,by rw[A],by simp only[aR,if_true],by rw[bgB,bgB,bgP];omega,?_⟩ (.inl rfl) (λo x l w=>by simp only[aR,aE l,w]) λo l w=>by simp only[aR,aE l,w]
  have e:(rs.take (j+Z' rows)).drop j=rows:=by rw[List.drop_take,Nat.add_sub_cancel_left,E]
  rw[List.drop_append_of_le_length (by rw[bgP];omega),e];exact bhA
 have B:∀o,H o=none→K (.osl o s 0 (Z' rows+Z' src)) (H.set o (.rows s (rows++src))):=λo w=>by
  refine N o _ _ ⟨rows++src,0,by rw[A],by simp only[aR,if_true],by omega,by rw[bhP,bhA]⟩ (.inr w) (λS x l u=>?_) λS l u=>by simp only[aR,aE l,u]
  have:S≠o:=by rintro rfl;rw[w]at u;cases u
  simp only[aR,aE this,u]
 cases j with
 |zero=>
  refine⟨src,R,rfl,rfl,O,rs,M,by omega,?_,λo w=>?_⟩
  ·have:=F 0 I E
   rwa[bgL]at this
  ·rw[bhP]at E;rw[E];exact B o w
 |succ j =>refine⟨src,R,rfl,O,rs,M,I,F _ I E,λo w=>?_⟩;rw[E];exact B o w
end
section
variable {C:Ctx} {F:PF} {H:PH}
theorem pn{name:Nat}{vs cs:List PV}{H0:PH}{R:PV→PH→Prop}{args:List aS}{d:Option Nat}{K:PF→PH→Prop}(h:aI C name (vs++cs) H0 R)(j:aS.evs F args=some vs)(e:H0.le H)
  (l:∀r H',R r H'→qM H H0 H'→K (F.put d r) (H.over H0 H')):kF C name args cs d K F H:=
 .inl ⟨vs++cs,H0,R,by rw[j];rfl,e,h,l⟩
theorem apD{name o:Nat}{x y:cI}{r:PV}{vs cs:List PV}{args:List aS}{d:Option Nat}{K:PF→PH→Prop}(h:aI C name (vs++cs) (PH.nil.set o x) (λe H'=>e=r∧H'=PH.nil.set o y))(u:H o=some x)(j:aS.evs F args=some vs)
  (l:K (F.put d r) (H.set o y)):kF C name args cs d K F H:=by
 refine pn h j (e_ a_ u) ?_;rintro e H' ⟨rfl,rfl⟩ -;rw[PH.wL];exact l
theorem apC{name:Nat}{vs cs:List PV}{args:List aS}{d:Option Nat}{K:PF→PH→Prop}{B1 B2:List BX}{L1 L2:List LI}{Q:PV→List BX→List LI→Prop}(h:aO H (B1++B2) (L1++L2))
  (u:∀H0,aO H0 B1 L1→aI C name (vs++cs) H0 (λr H'=>∃B' L',Q r B' L'∧aO H' B' L')) (l:aS.evs F args=some vs)
  (w:∀r B' L' H',Q r B' L'→aO H' (B'++B2) (L'++L2)→K (F.put d r) H'):kF C name args cs d K F H:=by
 refine pn (u (H.only (fW B1++fB L1)) (h.only (bkD ..) (bkD ..))) l (jz H _) ?_;rintro r H' ⟨B',L',hq,j⟩ e;exact w r B' L' _ hq (h.frame j e)
theorem BW{name o:Nat}{x:cI}{r:PV}{vs cs:List PV}{args:List aS}{d:Option Nat}{K:PF→PH→Prop}(h:aI C name (vs++cs) (PH.nil.set o x) (λu H'=>u=r∧H'=PH.nil.set o x))(e:H o=some x)(j:aS.evs F args=some vs)
  (l:K (F.put d r) H):kF C name args cs d K F H:=by
 refine apD h e j ?_;rw[PH.aXA e];exact l
end
theorem CF{l:List bY}{k:Nat}(h:k<Z' l):(l.map bY.cells)[k]?=some (l[k]).cells:=by simp[h]
abbrev tK(n:cN):cI:=.rows 4 [n.cells]
theorem aVF{C:Ctx}(n:cN)(o x:Nat)(l:x<n.nodes):UL.wp C (aW aIF.res (λr H'=>r=.bool true∧H'=PH.nil.set o (tK n))) (PF.args [.int .i64 (x:Nat),.ptr o 4 0 0]) (PH.nil.set o (tK n)):=by
 have e:(0:Int)≤(x:Int):=Om;have j:(x:Int)<(n.nodes:Nat):=Om;simp only[go_sem,UL,adI,aIF,adJ,e,j];exact bB (vs:=[.bool true]) (.inr rfl) _ Ev (λ_ _ h=>h) ⟨rfl,rfl⟩
theorem aNP{C:Ctx}(y:∀(n:cN)(o x:Nat),x<n.nodes→aI C 291 [.int .i64 (x:Nat),.ptr o 4 0 0] (PH.nil.set o (tK n)) (λr H'=>r=.bool true∧H'=PH.nil.set o (tK n)))(n:cN)(w:fM n) :
  NN.wp C (aW adX.res (aK (.bool true))) (PF.args [.agg n.cells]) .nil:=by
 have a1:¬(n.nodes:Int)<2:=by have:=w.two;omega
 have a2:¬(n.nodes:Int)>700:=by have:=w.few;omega
 have a3:¬(Z' n.arcs:Int)>2500:=by have:=w.num;omega
 have a4:¬(n.source:Int)=n.sink:=by have:=w.apart;omega
 have M:=w.num;simp only[go_sem,NN,Mk,adX];refine aQ λo N=>?_;simp only[go_sem,Ml,Mm,a1,a2,a3,bfY];refine BW (vs:=[.int .i64 (n.source:Nat)]) (cs:=[.ptr o 4 0 0]) (y n o n.source w.source) (by rw[cB]) Ev ?_;simp only[go_sem];refine BW (vs:=[.int .i64 (n.sink:Nat)]) (cs:=[.ptr o 4 0 0]) (y n o n.sink w.sink) (by rw[cB]) Ev ?_;simp only[go_sem,bD a4,Mn,bfY];refine wp_loop (α:=Nat) (λk=>(((((PF.nil.set 1 (.ptr o 4 0 0)).set 3 (.fn 291 [.ptr o 4 0 0])).set 43 (Gq n.arcs)).set 44 (.int .i64 (Z' n.arcs:Nat))).set 45 (.int .i64 (k:Nat)))) (λ_=>PH.nil.set o (tK n)) (λk=>k≤Z' n.arcs) (λk=>Z' n.arcs-k) 0 (bgE _) Lq (λ_ _ h=>h) ?_;intro k J;simp only[go_sem,Bt,Mo];by_cases hlt:k<Z' n.arcs
 ·have u:(k:Int)<(Z' n.arcs:Nat):=Om;obtain⟨F,I,K⟩:=w.ends _ (bgD hlt);simp only[go_sem,u,Mp,CF hlt];refine aQ λp A=>?_;have l:¬p=o:=λe=>by rw[e,cB]at A;cases A
  have j:¬o=p:=λe=>l e.symm;simp only[go_sem,l,j,Mq];refine BW (vs:=[.int .i64 ((n.arcs[k]).src:Nat)]) (cs:=[.ptr o 4 0 0]) (y n o _ F) (by simp only[go_sem,l,j]) Ev ?_;simp only[go_sem];refine BW (vs:=[.int .i64 ((n.arcs[k]).dst:Nat)]) (cs:=[.ptr o 4 0 0]) (y n o _ I) (by simp only[go_sem,l,j]) Ev ?_;have B:¬((n.arcs[k]).cap:Int)<0:=Om;have E:¬((n.arcs[k]).cap:Int)>2147483647:=Om;simp only[go_sem,l,j,B,E,Mr,wZz k];exact aG (k+1) hlt Om Lq (e_ a_ (by simp only[go_sem,l,j]))
 ·have u:¬(k:Int)<(Z' n.arcs:Nat):=Om;simp only[go_sem,u,Bu];refine aU (.inr rfl) Ev ?_;rfl
structure i5(n:cN)(cut:List Bool):Prop where
 len:Z' cut=n.nodes
 src:cut.getD n.source false=true
 snk:cut.getD n.sink false=false
theorem Jr(S:Nat→Bool)(l:List bY){k:Nat}(h:k<Z' l):eH S (l.take (k+1))=eH S (l.take k)+if S (l[k]).src=true∧S (l[k]).dst=false then(l[k]).cap else 0:=by
 have e:∀(a b:List bY),eH S (a++b)=eH S a+eH S b:=by
  intro a
  induction a with
  |nil=>intro b;simp[eH]
  |cons x a j=>intro b;rw[bjR,eH,eH,j];omega
 rw[bhW h,e];simp[eH]
theorem Gv(S:Nat→Bool){M:Nat}:∀{l:List bY},(∀a∈l,a.cap≤M)→eH S l≤Z' l*M
 |[],_=>bgE _
 |a::l,h=>by have e:=h a aY;have j:=Gv S (l:=l) λb hb=>h b (by simp[hb]);rw[eH,bhT,biN];split<;>omega
theorem Js{n:cN}(e:fM n)(S:Nat→Bool)(k:Nat):eH S (n.arcs.take k)≤5368709117500:=by
 have w:=Gv S (M:=2147483647) (l:=n.arcs.take k) λa u=>(e.ends a (List.mem_of_mem_take u)).2.2;have j:(n.arcs.take k).length≤2500:=biJ (by rw[bgP];omega) e.num;have x:(n.arcs.take k).length*2147483647≤2500*2147483647:=bhF _ j;omega
theorem a1V{C:Ctx}(O:∀n:cN,fM n→aI C 292 [.agg n.cells] .nil (aK (.bool true)))(n:cN)(u:fM n)(cut:List Bool)(l:i5 n cut) :
  bw.wp C (aW aUT.res (aK (.tup [.int .i64 ((eH (λw=>cut.getD w false) n.arcs:Nat):Int),.bool true]))) (PF.args [.agg n.cells,lL cut]) .nil:=by
 have a1:(Z' cut:Int)=n.nodes:=by have:=l.len;omega
 have I:n.source<Z' cut:=by rw[l.len];exact u.source
 have J:n.sink<Z' cut:=by rw[l.len];exact u.sink
 have U:=u.num;have x:lL cut=.sl 1 (bK cut):=rfl;rw[x];simp only[go_sem,bw,awH,aUT,awI];refine aB (O n u) Ev ?_;simp only[go_sem,jZ,bR a1,fI I,fI J,l.src,l.snk,awJ,awK,bfY];refine wp_loop (α:=Nat) (λk=>((((((PF.nil.set 1 (.sl 1 (bK cut))).set 2 (.bE n.cells)).set 6 (.int .i64 ((eH (λw=>cut.getD w false) (n.arcs.take k):Nat):Int))).set 35 (Gq n.arcs)).set 36 (.int .i64 (Z' n.arcs:Nat))).set 37 (.int .i64 (k:Nat)))) (λ_=>.nil) (λk=>k≤Z' n.arcs) (λk=>Z' n.arcs-k) 0 (bgE _) Lq a_ ?_;intro k R;simp only[go_sem,acA,awL];by_cases hlt:k<Z' n.arcs
 ·have j:(k:Int)<(Z' n.arcs:Nat):=Om;obtain⟨M,N,S⟩:=u.ends _ (bgD hlt);have K:(n.arcs[k]).src<Z' cut:=by rw[l.len];exact M
  have B:(n.arcs[k]).dst<Z' cut:=by rw[l.len];exact N
  have y:=Jr (λw=>cut.getD w false) n.arcs hlt;have hb:=Js u (λw=>cut.getD w false) (k+1);simp only[go_sem,j,awM,CF hlt];refine aQ λp V=>?_;simp only[go_sem,awN,fI K,fI B];cases E:cut.getD (n.arcs[k]).src false with
  |false =>rw[aE (by rw[E];rintro⟨h,-⟩;cases h),bhL]at y;simp only[go_sem,jr,wZz k];exact aG (k+1) hlt Om (by(repeat' (first|exact c_|refine d_ ?_ ?_))<;>first|(simp only[go_sem,y]<;>rfl)|rfl) a_
  |true=>
   simp only[go_sem,fI B];cases F:cut.getD (n.arcs[k]).dst false with
   |true =>rw[aE (by rw[F];rintro⟨-,h⟩;cases h),bhL]at y;simp only[go_sem,jr,wZz k];exact aG (k+1) hlt Om (by(repeat' (first|exact c_|refine d_ ?_ ?_))<;>first|(simp only[go_sem,y]<;>rfl)|rfl) a_
   |false=>
    rw[aL ⟨E,F⟩]at y;have e:IntKind.i64.wrap (((eH (λw=>cut.getD w false) (n.arcs.take k):Nat):Int)+((n.arcs[k]).cap:Int))=((eH (λw=>cut.getD w false) (n.arcs.take (k+1)):Nat):Int):=by rw[wrap_i64 Om Om];omega
    simp only[go_sem,awO,e,jr,wZz k];exact aG (k+1) hlt Om Lq a_
 ·have j:¬(k:Int)<(Z' n.arcs:Nat):=Om;have A:n.arcs.take k=n.arcs:=bgR Om;simp only[go_sem,j,acB,A];refine aU (.inr rfl) Ev ?_;rfl
abbrev cZ(N:Nat)(v:PV):cI:=.rows 4 [[.int .i64 (N:Nat),.int .i64 0,.int .i64 1,v]]
theorem a2D{C:Ctx}(o N x y z:Nat)(v:PV)(l:List bY)(F:Z' l≤1000000)(H:PH)(w:aO H [(o,cZ N v)] [(v,4,l.map bY.cells)]) :
  cf.wp C (aW aVJ.res (λr H'=>∃(B':List BX)(L':List LI),(r=.tup []∧∃v',B'=[(o,cZ N v')]∧L'=[(v',4,(l++[(⟨x,y,z⟩:bY)]).map bY.cells)])∧aO H' B' L')) (PF.args [.int .i64 (x:Nat),.int .i64 (y:Nat),.int .i64 (z:Nat),.ptr o 4 0 0]) H:=by
 have E:=w.at 0 rfl;simp only[go_sem,cf,axR,aVJ,E];refine w.append 0 rfl (src:=[bY.cells ⟨x,y,z⟩]) rfl ?_ λv' H' u j=>?_
 ·unfold roomFor;rw[bfY,bgI];simp only[maxLen];omega
 obtain⟨q,hq⟩:=j aY;have e:=u.at 0 rfl;have B:=u.set 0 rfl (cZ N v');generalize((l.map bY.cells++[bY.cells ⟨x,y,z⟩]).length)=len at hq;subst hq;simp only[go_sem,e];refine⟨H'.set o (cZ N (.osl q 4 0 len)),aL (λx A=>by rw[bhI]at A;subst A;rfl),?_⟩;refine bB (vs:=[]) (.inl rfl) (H'.set o (cZ N (.osl q 4 0 len))) rfl (λ_ _ h=>h) ⟨[(o,cZ N (.osl q 4 0 len))],_,⟨rfl,_,rfl,rfl⟩,?_⟩;rw[bhM];exact B
def LK(n:Nat):List Nat→Option (List Nat)
 |[]=>none
 |x::t=>match LK n t with
  |some u=>some (x::u)
  |none=>if x+1+Z' t=n then none else some (List.range' (x+1) (Z' t+1))
theorem My{n:Nat}:∀{s u:List Nat},LK n s=some u→Z' u=Z' s
 |[],_,h=>by cases h
 |x::t,u,h=>by
  rw[LK]at h;split at h
  ·rename_i v e;cases h;simp[My e]
  ·split at h
   ·cases h
   ·cases h;simp
inductive qi (n:Nat):List Nat→List (List Nat)→Prop
 |last {s:List Nat} (h:LK n s=none):qi n s [s]
 |step {s t:List Nat} {l:List (List Nat)} (h:LK n s=some t) (w:qi n t l):qi n s (s::l)
theorem qi.map{n x k:Nat}{e:List (List Nat)}(y:(x+1+k=n∧e=[])∨(x+1+k≠n∧qi n (List.range' (x+1) (k+1)) e)){t:List Nat}{l:List (List Nat)}(w:qi n t l)(j:Z' t=k):qi n (x::t) (l.map (x::·)++e):=by
 induction w with
 |@last s h=>
  rcases y with⟨u,rfl⟩|⟨u,h2⟩
  ·exact .last (by rw[LK,h];simp only;rw[aL (by rw[j];exact u)])
  ·exact .step (by rw[LK,h];simp only;rw[aE (by rw[j];exact u),j]) h2
 |@step s t l h _ A=>exact .step (by rw[LK,h]) (A (by rw[My h,j]))
def a4Y(f:aD)(p:dV)(d:Int):Bool:=p.beL.contains ((mdl f d.toNat:Nat):Int)
def aeC(s:List Nat):List Int:=s.map λ(x:Nat)=>(x:Int)
def dO(g:Nat→Nat):Nat→Nat
 |0=>0
 |n+1=>dO g n+g n
theorem DA(g h:Nat→Nat):∀n,dO (λk=>g k+h k) n=dO g n+dO h n
 |0=>rfl
 |n+1=>by rw[dO,dO,dO,DA g h n];omega
theorem DB{g h:Nat→Nat}:∀{n:Nat},(∀k,k<n→g k≤h k)→dO g n≤dO h n
 |0,_=>bgG _
 |n+1,e=>by rw[dO,dO];exact Nat.add_le_add (DB λk j=>e k Om) (e n Om)
theorem gR{g h:Nat→Nat}:∀{n:Nat},(∀k,k<n→g k=h k)→dO g n=dO h n
 |0,_=>rfl
 |n+1,e=>by rw[dO,dO,gR (n:=n) λk j=>e k Om,e n Om]
theorem uF:∀n,dO (λ_=>0) n=0
 |0=>rfl
 |n+1=>by rw[dO,uF n]
theorem LZ(g:Nat→Nat→Nat)(n:Nat):∀m,dO (λv=>dO (g v) n) m=dO (λd=>dO (λv=>g v d) m) n
 |0=>by rw[dO];exact(uF n).symm
 |m+1=>by rw[dO,LZ g n m,←DA];rfl
theorem aBY{g:Nat→Nat}:∀{n k:Nat},k<n→g k≤dO g n
 |0,_,h=>by omega
 |n+1,k,h=>by
  rw[dO];by_cases e:k=n
  ·subst e;omega
  ·have:=aBY (g:=g) (n:=n) (k:=k) Om;omega
theorem WK(c:Nat)(g:Nat→Nat):∀n,dO (λk=>c*g k) n=c*dO g n
 |0=>rfl
 |n+1=>by rw[dO,dO,WK c g n,bgQ]
def one(b:Bool):Nat:=if b=true then 1 else 0
theorem DQ:one true=1:=rfl
theorem DP:one false=0:=rfl
def jH(p:Nat→Bool)(n:Nat):Nat:=dO (λk=>one (p k)) n
theorem y8(p:Nat→Bool):∀n,jH p n=(bfZ n).countP p
 |0=>rfl
 |n+1=>by rw[biO,List.countP_append,←y8 p n,jH,dO];cases h:p n<;>simp[one,h,jH]
def cR(f:aD)(v i:Nat):Nat:=if i=0 then 2+v else 2+Z' f.beM+v*(Z' f.beN-1)+i-1
def bG(f:aD)(d:Nat):Nat:=2+Z' f.beM*Z' f.beN+d
def gP(f:aD)(v:Nat):Nat:=(nI f v).toNat
def xH(f:aD)(v i:Nat):Nat:=if fK f (cL f v) i=0 then gP f v else(fK f (cL f v) i).toNat
def VU(f:aD)(room:List Int)(d:Nat):Nat:=(rZ f room d).toNat
def okD(f:aD)(v d:Nat):Bool:=a4Y f (cL f v) d
def lY(f:aD)(v k:Nat):bY:=⟨cR f v (lF f (k+1)),cR f v (k+1),xH f v (k+1)⟩
def fD(f:aD)(v d:Nat):bY:=⟨cR f v (eO f d),bG f d,1⟩
def gS(f:aD)(v:Nat):List bY:=⟨0,2+v,gP f v⟩::((bfZ (Z' f.beN-1)).map (lY f v)++((bfZ f.beK.length).filter (okD f v)).map (fD f v))
def pW(f:aD)(room:List Int)(d:Nat):bY:=⟨bG f d,1,VU f room d⟩
def eZ(f:aD)(room:List Int):List bY:=(bfZ f.beM.length).flatMap (gS f)++(bfZ f.beK.length).map (pW f room)
def cY(f:aD)(room:List Int):cN:=⟨bG f f.beK.length,0,1,eZ f room⟩
def rO(f:aD):Nat:=dO (gP f) f.beM.length
theorem oI{f:aD}(h:VF f){v:Nat}(l:v<Z' f.beM):gP f v≤8∧1≤gP f v∧(gP f v:Int)=nI f v∧∀i,xH f v i≤8:=by
 obtain⟨j,he⟩:=qB h l;have e:=h.beX _ (bgD j);rw[he]at e;have u:nI f v=(cL f v).k+(cL f v).m:=rfl;unfold xH gP;refine⟨by omega,by omega,by omega,λi=>?_⟩;have:=e.2.2.2.2.2.2.1 (lvl f i).toNat;unfold fK;split<;>omega
theorem BO{f:aD}(h:VF f)(room:List Int){d:Nat}(e:d<Z' f.beK):VU f room d≤16∧(VU f room d:Int)=rZ f room d:=by
 have:=aPR h room e;unfold VU;omega
theorem kV{f:aD}(h:VF f){v i:Nat}(j:v<Z' f.beM)(hi:i<Z' f.beN):2≤cR f v i∧cR f v i<bG f 0:=by
 have u:=h.root.1;have e:(v+1)*(Z' f.beN-1)≤Z' f.beM*(Z' f.beN-1):=bhF _ j;rw[biN]at e;have l:Z' f.beM*Z' f.beN=Z' f.beM*(Z' f.beN-1)+Z' f.beM:=by
  conv=>lhs;rw[show f.beN.length=(Z' f.beN-1)+1 by omega,Nat.mul_succ]
 unfold cR bG;split<;>omega
theorem aoM(f:aD)(v:Nat):(gS f v).length≤Z' f.beN+Z' f.beK+1:=by
 unfold gS;rw[bhT,bgB,bfY,bfY,biU];have:=List.length_filter_le (okD f v) (bfZ f.beK.length);rw[biU]at this;omega
theorem aVO(f:aD)(room:List Int):(eZ f room).length≤Z' f.beM*(Z' f.beN+Z' f.beK+1)+Z' f.beK:=by
 unfold eZ;rw[bgB,bfY,biU];have e:∀n,((bfZ n).flatMap (gS f)).length≤n*(Z' f.beN+Z' f.beK+1):=by
  intro n
  induction n with
  |zero=>simp
  |succ n j =>rw[biO,bkB,bgB,biN];have:=aoM f n;simp only[List.flatMap_cons,List.flatMap_nil,bhH];omega
 have:=e f.beM.length;omega
theorem EL{f:aD}(h:VF f)(room:List Int):fM (cY f room):=by
 obtain⟨s1,s2,s3,s4,N,O⟩:=h.small;have I:bG f f.beK.length=bG f 0+Z' f.beK:=by unfold bG;omega
 have K:Z' f.beM*Z' f.beN≤12*40:=bjL Om Om;have A:=h.root.1;have hb:bG f 0=2+Z' f.beM*Z' f.beN:=rfl;refine⟨?_,?_,?_,?_,?_,(show(0:Nat)≠1 by decide),λa ha=>?_⟩
 ·show 2≤bG f f.beK.length;omega
 ·show bG f f.beK.length≤700;omega
 ·refine biJ (aVO f room) ?_;have:Z' f.beM*(Z' f.beN+Z' f.beK+1)≤12*(40+24+1):=bjL Om Om;omega
 ·show 0<bG f f.beK.length;omega
 ·show 1<bG f f.beK.length;omega
 ·show a.src<bG f f.beK.length∧a.dst<bG f f.beK.length∧a.cap≤2147483647;have u:∀d,d<Z' f.beK→bG f d<bG f f.beK.length:=λd u=>by unfold bG;omega
  rcases bhK.1 (show a∈eZ f room from ha)with ha|ha
  ·obtain⟨v,l,ha⟩:=List.mem_flatMap.1 ha;have l:=bgW.1 l;obtain⟨B,E,F,x⟩:=oI h l;rcases bgN.1 ha with rfl|ha
   ·have:=(kV h l A).2;simp only[cR,if_true]at this;simp only;exact⟨by omega,by omega,by omega⟩
   ·rcases bhK.1 ha with ha|ha
    ·obtain⟨k,w,rfl⟩:=bhC.1 ha;have w:=bgW.1 w;have M:=(h.dom (k+1) Om Om).2.1;have y:=(kV h l (i:=lF f (k+1)) Om).2;have J:=(kV h l (i:=k+1) Om).2;have:=x (k+1);simp only[lY];exact⟨by omega,by omega,by omega⟩
    ·obtain⟨d,j,rfl⟩:=bhC.1 ha;have e:=bgW.1 (bjS.1 j).1;have y:=(kV h l (i:=eO f d) (h.drive d e).2.2.2.1).2;have:=u d e;simp only[fD];exact⟨by omega,this,by omega⟩
  ·obtain⟨d,j,rfl⟩:=bhC.1 ha;have e:=bgW.1 j;have:=u d e;have:=BO h room e;simp only[pW];exact⟨by omega,by omega,by omega⟩
def inD(f:aD)(i d:Nat):Bool:=decide (jE f d (lvl f i)=i)
structure AI(f:aD)(room:List Int)(u:Nat→Nat→Bool):Prop where
 num:∀v,v<Z' f.beM→jH (u v) f.beK.length=gP f v
 ok:∀v d,v<Z' f.beM→d<Z' f.beK→u v d=true→okD f v d=true
 bound:∀v i,v<Z' f.beM→0<i→i<Z' f.beN→fK f (cL f v) i≠0→jH (λd=>u v d&&inD f i d) f.beK.length≤(fK f (cL f v) i).toNat
 room:∀d,d<Z' f.beK→jH (λv=>u v d) f.beM.length≤VU f room d
theorem qZ(S:Nat→Bool):∀l m:List bY,eH S (l++m)=eH S l+eH S m
 |[],m=>by simp[eH]
 |a::l,m=>by rw[bjR,eH,eH,qZ S l m];omega
def mD(S:Nat→Bool)(a:bY):Nat:=if S a.src=true∧S a.dst=false then a.cap else 0
theorem IS(S:Nat→Bool)(F:Nat→bY):∀n,eH S ((bfZ n).map F)=dO (λk=>mD S (F k)) n
 |0=>rfl
 |n+1=>by rw[biO,bhM,qZ,IS S F n,dO];rfl
theorem ZT(S:Nat→Bool)(F:Nat→List bY):∀n,eH S ((bfZ n).flatMap F)=dO (λk=>eH S (F k)) n
 |0=>rfl
 |n+1=>by rw[biO,bkB,qZ,ZT S F n,dO];simp
theorem MW(S:Nat→Bool)(F:Nat→bY)(p:Nat→Bool):∀n,eH S (((bfZ n).filter p).map F)=dO (λk=>if p k=true then mD S (F k)else 0) n
 |0=>rfl
 |n+1=>by rw[biO,List.filter_append,bhM,qZ,MW S F p n,dO];cases h:p n<;>simp[h,eH,mD]
theorem aIZ(a b:Bool)(h:a=true→b=true):one a≤one b:=by
 cases a<;>cases b<;>simp_all [one]
theorem azV(a b:Bool):one (a&&b)=one a*one b:=by cases a<;>cases b<;>rfl
theorem aLY{f:aD}(h:VF f){d:Nat}(x:d<Z' f.beK)(S:Nat→Bool)(D:Nat→Nat)(w:S (D 0)=true):∀k,k≤4→S (D (upN f k (eO f d)))=false→∃i,0<i∧i<Z' f.beN∧inD f i d=true∧S (D (lF f i))=true∧S (D i)=false:=by
 have u:upN f 4 (eO f d)=0:=by
  obtain⟨a,b⟩:=JX h x (k:=4) (bgG _);rcases biC (upN f 4 (eO f d))with e|e
  ·exact e
  ·have:=(h.dom _ e a).2.2.2.1;omega
 intro k A j;obtain⟨m,E⟩:∃m,m=4-k:=⟨_,rfl⟩
 induction m generalizing k with
 |zero =>have:k=4:=Om;subst this;rw[u,w]at j;cases j
 |succ m B=>
  cases y:S (D (upN f (k+1) (eO f d)))with
  |false=>exact B (k+1) Om y Om
  |true=>
   obtain⟨a,b⟩:=JX h x A;have l:0<upN f k (eO f d):=by
    rcases biC (upN f k (eO f d))with e|e
    ·rw[e,w]at j;cases j
    ·exact e
   refine⟨upN f k (eO f d),l,a,?_,y,j⟩;unfold inD jE;rw[b,decide_eq_true_eq];congr 1;omega
theorem AI.vol{f:aD}(h:VF f){room:List Int}{u:Nat→Nat→Bool}(A:AI f room u)(S:Nat→Bool)(K:S 0=true){v:Nat}(B:v<Z' f.beM) :
  gP f v≤eH S (gS f v)+dO (λd=>one (u v d)*one (S (bG f d))) f.beK.length:=by
 have N:eH S (gS f v)=mD S ⟨0,2+v,gP f v⟩+(dO (λk=>mD S (lY f v k)) (Z' f.beN-1)+dO (λd=>if okD f v d=true then mD S (fD f v d)else 0) f.beK.length):=by unfold gS;rw[eH,qZ,IS,MW];rfl
 rw[N];cases J:S (2+v)with
 |false=>
  have:mD S ⟨0,2+v,gP f v⟩=gP f v:=by unfold mD;simp[K,J]
  omega
 |true=>
  have j:S (cR f v 0)=true:=J;have each:∀d,d<Z' f.beK→one (u v d)≤one (u v d)*one (S (bG f d))+((if okD f v d=true then mD S (fD f v d)else 0)+dO (λk=>one (u v d&&inD f (k+1) d)*one (S (cR f v (lF f (k+1)))&&!S (cR f v (k+1)))) (Z' f.beN-1)):=by
   intro d F;cases R:u v d with
   |false=>exact bgE _
   |true=>
    have y:=A.ok v d B F R;cases M:S (bG f d)with
    |true=>rw[DQ];omega
    |false=>
     cases E:S (cR f v (eO f d))with
     |true=>
      have:mD S (fD f v d)=1:=by unfold mD fD;simp[M,E]
      rw[aL y,this,DQ,DP];omega
     |false =>obtain⟨i,X,Y,U,V,W⟩:=aLY h F S (cR f v) j 0 Om E;have I:=aBY (g:=λk=>one (true&&inD f (k+1) d)*one (S (cR f v (lF f (k+1)))&&!S (cR f v (k+1)))) (n:=Z' f.beN-1) (k:=i-1) Om;simp only[show i-1+1=i by omega,U,V,W,DQ,Bool.and_self,bgS]at I;rw[DQ,DP];omega
  have l:=A.num v B;have w:=DB (n:=Z' f.beK) each;rw[DA,DA,LZ]at w;have x:dO (λk=>dO (λd=>one (u v d&&inD f (k+1) d)*one (S (cR f v (lF f (k+1)))&&!S (cR f v (k+1)))) f.beK.length) (Z' f.beN-1)≤dO (λk=>mD S (lY f v k)) (Z' f.beN-1):=by
   refine DB λk I=>?_;have e:dO (λd=>one (u v d&&inD f (k+1) d)*one (S (cR f v (lF f (k+1)))&&!S (cR f v (k+1)))) f.beK.length=one (S (cR f v (lF f (k+1)))&&!S (cR f v (k+1)))*jH (λd=>u v d&&inD f (k+1) d) f.beK.length:=by unfold jH;rw[←WK];exact gR λd _=>bhE _ _
   rw[e];unfold mD lY;simp only;cases g1:S (cR f v (lF f (k+1)))<;>cases g2:S (cR f v (k+1))<;>simp only[DQ,DP,bhO,bgK,bgS,bgJ,Bool.and_self,bjE,if_false,if_true,Nat.zero_mul,Nat.one_mul,and_false,false_and,and_self,bgG,bgE,reduceCtorEq];unfold xH;split
   ·have:jH (λd=>u v d&&inD f (k+1) d) f.beK.length≤jH (u v) f.beK.length:=DB λd _=>aIZ _ _ λh=>by rw[bgU]at h;exact h.1
    omega
   ·rename_i O;exact A.bound v (k+1) B Om Om O
  unfold jH at l;omega
theorem AI.cut{f:aD}(h:VF f){room:List Int}{u:Nat→Nat→Bool}(A:AI f room u)(S:Nat→Bool)(l:S 0=true)(w:S 1=false):rO f≤eH S (eZ f room):=by
 unfold eZ;rw[qZ,ZT,IS];have j:rO f≤dO (λv=>eH S (gS f v)+dO (λd=>one (u v d)*one (S (bG f d))) f.beK.length) f.beM.length:=DB λv y=>A.vol h S l y;rw[DA,LZ]at j;have B:dO (λd=>dO (λv=>one (u v d)*one (S (bG f d))) f.beM.length) f.beK.length≤dO (λk=>mD S (pW f room k)) f.beK.length:=by
  refine DB λd x=>?_;have e:dO (λv=>one (u v d)*one (S (bG f d))) f.beM.length=one (S (bG f d))*jH (λv=>u v d) f.beM.length:=by unfold jH;rw[←WK];exact gR λv _=>bhE _ _
  rw[e];have:=A.room d x;unfold mD pW;simp only[w];cases S (bG f d)with
  |false=>simp[DP]
  |true=>simp[DQ];exact this
 omega
def gG(g:Nat→Int):Nat→Int
 |0=>0
 |n+1=>gG g n+g n
theorem akG(g h:Nat→Int):∀n,gG (λk=>g k+h k) n=gG g n+gG h n
 |0=>rfl
 |n+1=>by rw[gG,gG,gG,akG g h n];omega
theorem gQ{g h:Nat→Int}:∀{n:Nat},(∀k,k<n→g k=h k)→gG g n=gG h n
 |0,_=>rfl
 |n+1,e=>by rw[gG,gG,gQ (n:=n) λk j=>e k Om,e n Om]
theorem rG:∀n,gG (λ_=>0) n=0
 |0=>rfl
 |n+1=>by rw[gG,rG n];rfl
theorem JU(g:Nat→Int)(a:Nat):∀{n:Nat},a<n→gG (λk=>if k=a then g k else 0) n=g a
 |0,h=>by omega
 |n+1,h=>by
  rw[gG];by_cases e:n=a
  ·subst e;rw[gQ (h:=λ_=>0) (n:=n) λk j=>by rw[aE Om],rG,aL rfl];omega
  ·rw[JU g a (n:=n) Om,aE e];omega
theorem JT(g:Nat→Nat):∀n,gG (λk=>(g k:Int)) n=(dO g n:Int)
 |0=>rfl
 |n+1=>by rw[gG,dO,JT g n];simp
theorem xk(g:Nat→Int):∀n,gG (λk=>- g k) n=- gG g n
 |0=>rfl
 |n+1=>by rw[gG,gG,xk g n];omega
def lE(a:bY)(x:Nat)(w:Nat):Int:=(if a.src=w then(x:Int)else 0)-(if a.dst=w then(x:Int)else 0)
theorem GN(w:Nat):∀{l:List bY}{xs:List Nat}(m:List bY)(e:List Nat),Z' l=Z' xs→jC (l++m) (xs++e) w=jC l xs w+jC m e w
 |[],[],m,e,_=>by simp[jC]
 |[],_::_,_,_,h=>by simp at h
 |_::_,[],_,_,h=>by simp at h
 |a::l,x::xs,m,e,h=>by rw[bjR,bjR,jC,jC,GN w m e (by simpa using h)];omega
theorem Ia(w:Nat)(L:List Nat)(F:Nat→bY)(y:Nat→Nat):jC (L.map F) (L.map y) w=(L.map λk=>lE (F k) (y k) w).sum:=by
 induction L with
 |nil=>rfl
 |cons a L e=>rw[bhJ,bhJ,jC,e,bhJ,List.sum_cons];rfl
theorem fm(g:Nat→Int):∀n,((bfZ n).map g).sum=gG g n
 |0=>rfl
 |n+1=>by rw[biO,bhM,List.sum_append,fm g n,gG];simp
theorem Dp(g:Nat→Int)(p:Nat→Bool):∀n,(((bfZ n).filter p).map g).sum=gG (λk=>if p k=true then g k else 0) n
 |0=>rfl
 |n+1=>by rw[biO,List.filter_append,bhM,List.sum_append,Dp g p n,gG];cases h:p n<;>simp[h]
theorem aeW(w:Nat)(F:Nat→List bY)(X:Nat→List Nat):∀n,(∀v,v<n→(F v).length=(X v).length)→jC ((bfZ n).flatMap F) ((bfZ n).flatMap X) w=gG (λv=>jC (F v) (X v) w) n
 |0,_=>rfl
 |n+1,h=>by
  have j:((bfZ n).flatMap F).length=((bfZ n).flatMap X).length:=by rw[List.length_flatMap,List.length_flatMap];congr 1;exact biI λv e=>h v (by have:=bgW.1 e;omega)
  rw[biO,bkB,bkB,GN w _ _ j,aeW w F X n λv e=>h v Om,gG];simp
theorem TN:∀{L:List Nat}{Y:List Nat},L.Nodup→Z' Y=Z' L→∃h:Nat→Nat,Y=L.map h
 |[],[],_,_=>⟨λ_=>0,rfl⟩
 |[],_::_,_,h=>by simp at h
 |_::_,[],_,h=>by simp at h
 |a::L,y::Y,x,w=>by obtain⟨j,l⟩:=List.nodup_cons.1 x;obtain⟨h,rfl⟩:=TN l (show Y.length=L.length by simpa using w);refine⟨λd=>if d=a then y else h d,?_⟩;rw[bhJ];refine List.cons_eq_cons.2 ⟨(aL rfl).symm,biI λd u=>?_⟩;have:¬d=a:=λe=>j (by rw[←e];exact u);exact(aE this).symm
theorem Wv(F:Nat→List bY):∀(n:Nat)(xs:List Nat),Z' xs=((bfZ n).flatMap F).length→∃X:Nat→List Nat,xs=(bfZ n).flatMap X∧∀v,v<n→(X v).length=(F v).length
 |0,xs,h=>⟨λ_=>[],by
   have:xs=[]:=by simpa using h
   rw[this];rfl,λv j=>by omega⟩
 |n+1,xs,h=>by
  rw[biO,bkB,bgB]at h;have l:([n].flatMap F).length=(F n).length:=by simp
  rw[l]at h;obtain⟨X,u,w⟩:=Wv F n (xs.take ((bfZ n).flatMap F).length) (by rw[bgP];omega);refine⟨λv=>if v=n then xs.drop ((bfZ n).flatMap F).length else X v,?_,λv j=>?_⟩
  ·rw[biO,bkB];have e:(bfZ n).flatMap (λv=>if v=n then xs.drop ((bfZ n).flatMap F).length else X v)=(bfZ n).flatMap X:=by rw[List.flatMap_def,List.flatMap_def];congr 1;exact biI λv j=>by rw[aE (by have:=bgW.1 j;omega)]
   rw[e,←u];simp
  ·by_cases e:v=n
   ·subst e;simp only[if_true];rw[bhR];omega
   ·simp only[aE e];exact w v Om
def wT(f:aD)(s:Nat→Nat)(g h:Nat→Nat→Nat)(v:Nat):List Nat:=s v::((bfZ (Z' f.beN-1)).map (g v)++((bfZ f.beK.length).filter (okD f v)).map (h v))
def uL(f:aD)(s:Nat→Nat)(g h:Nat→Nat→Nat)(t:Nat→Nat):List Nat:=(bfZ f.beM.length).flatMap (wT f s g h)++(bfZ f.beK.length).map t
theorem DE(f:aD)(s:Nat→Nat)(g h:Nat→Nat→Nat)(v:Nat):(gS f v).length=(wT f s g h v).length:=by
 unfold gS wT;simp
theorem zf(f:aD)(room:List Int){xs:List Nat}(y:Z' xs=(eZ f room).length):∃s g h t,xs=uL f s g h t:=by
 unfold eZ at y;rw[bgB,bfY,biU]at y;obtain⟨X,B,x⟩:=Wv (gS f) f.beM.length (xs.take ((bfZ f.beM.length).flatMap (gS f)).length) (by rw[bgP];omega);obtain⟨t,I⟩:=TN (L:=bfZ f.beK.length) (Y:=xs.drop ((bfZ f.beM.length).flatMap (gS f)).length) List.nodup_range (by rw[bhR,biU];omega);have each:∀v,v<Z' f.beM→∃s0 g0 w,X v=s0::((bfZ (Z' f.beN-1)).map g0++((bfZ f.beK.length).filter (okD f v)).map w):=by
  intro v u;have j:=x v u;unfold gS at j;rw[bhT,bgB,bfY,bfY,biU]at j;cases A:X v with
  |nil=>rw[A]at j;simp at j
  |cons s0 Y =>rw[A,bhT]at j;obtain⟨g0,E⟩:=TN (L:=bfZ (Z' f.beN-1)) (Y:=Y.take (Z' f.beN-1)) List.nodup_range (by rw[bgP,biU];omega);obtain⟨w,F⟩:=TN (L:=(bfZ f.beK.length).filter (okD f v)) (Y:=Y.drop (Z' f.beN-1)) (List.nodup_range.filter _) (by rw[bhR];omega);exact⟨s0,g0,w,by rw[←E,←F,biZ]⟩
 have l:∀v,∃q:Nat × (Nat→Nat) × (Nat→Nat),v<Z' f.beM→X v=q.1::((bfZ (Z' f.beN-1)).map q.2.1++((bfZ f.beK.length).filter (okD f v)).map q.2.2):=λv=>by
  by_cases u:v<Z' f.beM
  ·obtain⟨a,b,c,e⟩:=each v u;exact⟨(a,b,c),λ_=>e⟩
  ·exact⟨(0,λ_=>0,λ_=>0),λh=>absurd h u⟩
 refine⟨λv=>(Classical.choose (l v)).1,λv=>(Classical.choose (l v)).2.1,λv=>(Classical.choose (l v)).2.2,t,?_⟩;unfold uL;rw[←I];have e:(bfZ f.beM.length).flatMap (wT f (λv=>(Classical.choose (l v)).1) (λv=>(Classical.choose (l v)).2.1) (λv=>(Classical.choose (l v)).2.2))=(bfZ f.beM.length).flatMap X:=by rw[List.flatMap_def,List.flatMap_def];congr 1;exact biI λv u=>(Classical.choose_spec (l v) (bgW.1 u)).symm
 rw[e,←B,biZ]
theorem wD{f:aD}{v i v' j:Nat}(F:v<Z' f.beM)(y:v'<Z' f.beM)(hi:i<Z' f.beN)(x:j<Z' f.beN)(e:cR f v i=cR f v' j):v=v'∧i=j:=by
 unfold cR at e;split at e<;>split at e
 ·omega
 ·omega
 ·omega
 ·rename_i B E;have l:0<Z' f.beN-1:=Om;have w:v*(Z' f.beN-1)+(i-1)=v'*(Z' f.beN-1)+(j-1):=Om;have u:(v*(Z' f.beN-1)+(i-1))/(Z' f.beN-1)=v:=by rw[bhE,Nat.mul_add_div l,bjI Om,bhL]
  have A:(v'*(Z' f.beN-1)+(j-1))/(Z' f.beN-1)=v':=by rw[bhE,Nat.mul_add_div l,bjI Om,bhL]
  rw[w,A]at u;subst u;exact⟨rfl,by omega⟩
theorem jx(f:aD)(s:Nat→Nat)(g h:Nat→Nat→Nat)(v w:Nat):jC (gS f v) (wT f s g h v) w=lE ⟨0,2+v,gP f v⟩ (s v) w+(gG (λk=>lE (lY f v k) (g v k) w) (Z' f.beN-1)+gG (λd=>if okD f v d=true then lE (fD f v d) (h v d) w else 0) f.beK.length):=by
 unfold gS wT;rw[jC,GN _ _ _ aY,Ia,Ia,fm,Dp];rfl
theorem uq(f:aD)(room:List Int)(s:Nat→Nat)(g h:Nat→Nat→Nat)(t:Nat→Nat)(w:Nat):jC (eZ f room) (uL f s g h t) w=gG (λv=>jC (gS f v) (wT f s g h v) w) f.beM.length+gG (λd=>lE (pW f room d) (t d) w) f.beK.length:=by
 unfold eZ uL;rw[GN,aeW _ _ _ _ λv _=>DE f s g h v,Ia,fm];rw[List.length_flatMap,List.length_flatMap];congr 1;exact biI λv _=>DE f s g h v
theorem aIQ{f:aD}(hV:VF f)(room:List Int)(s:Nat→Nat)(g h:Nat→Nat→Nat)(t:Nat→Nat):jC (eZ f room) (uL f s g h t) 0=(dO s f.beM.length:Nat):=by
 rw[uq,←JT];have l:gG (λd=>lE (pW f room d) (t d) 0) f.beK.length=0:=by rw[gQ (h:=λ_=>0) λd j=>?_,rG];unfold lE pW bG;simp only;rw[aE Om,aE Om];rfl
 rw[l,Int.add_zero];refine gQ λv e=>?_;rw[jx];have u:gG (λk=>lE (lY f v k) (g v k) 0) (Z' f.beN-1)=0:=by rw[gQ (h:=λ_=>0) λk A=>?_,rG];have x:=(kV hV e (i:=lF f (k+1)) (by have:=(hV.dom (k+1) Om Om).2.1;omega)).1;have y:=(kV hV e (i:=k+1) Om).1;unfold lE lY;simp only;rw[aE Om,aE Om];rfl
 have w:gG (λd=>if okD f v d=true then lE (fD f v d) (h v d) 0 else 0) f.beK.length=0:=by
  rw[gQ (h:=λ_=>0) λd j=>?_,rG];have x:=(kV hV e (i:=eO f d) (hV.drive d j).2.2.2.1).1;have z:lE (fD f v d) (h v d) 0=0:=by unfold lE fD bG;simp only;rw[aE Om,aE Om];rfl
  rw[z];split<;>rfl
 rw[u,w];unfold lE;simp only;rw[aL trivial,aE Om];omega
theorem a2I{f:aD}(hV:VF f)(room:List Int)(s:Nat→Nat)(g h:Nat→Nat→Nat)(t:Nat→Nat){v i:Nat}(j:v<Z' f.beM)(hi:i<Z' f.beN) :
  jC (eZ f room) (uL f s g h t) (cR f v i)=gG (λk=>if lF f (k+1)=i then(g v k:Int)else 0) (Z' f.beN-1)+gG (λd=>if okD f v d=true∧eO f d=i then(h v d:Int)else 0) f.beK.length-(if i=0 then(s v:Int)else(g v (i-1):Int)):=by
 obtain⟨S,B⟩:=kV hV j hi;rw[uq];have M:gG (λd=>lE (pW f room d) (t d) (cR f v i)) f.beK.length=0:=by rw[gQ (h:=λ_=>0) λd u=>?_,rG];unfold lE pW;unfold bG at B ⊢;simp only;rw[aE Om,aE Om];rfl
 have N:gG (λv'=>jC (gS f v') (wT f s g h v') (cR f v i)) f.beM.length=jC (gS f v) (wT f s g h v) (cR f v i):=by
  have:=JU (λv'=>jC (gS f v') (wT f s g h v') (cR f v i)) v j;rw[←this];refine gQ λv' l=>?_;by_cases e:v'=v
  ·rw[aL e]
  rw[aE e,jx];have a1:lE ⟨0,2+v',gP f v'⟩ (s v') (cR f v i)=0:=by have O:cR f v' 0≠cR f v i:=λh=>e (wD l j hV.root.1 hi h).1;have y:2+v'≠cR f v i:=O;unfold lE;simp only;rw[aE Om,aE y];rfl
  have a2:gG (λk=>lE (lY f v' k) (g v' k) (cR f v i)) (Z' f.beN-1)=0:=by rw[gQ (h:=λ_=>0) λk A=>?_,rG];have R:=(hV.dom (k+1) Om Om).2.1;unfold lE lY;simp only;rw[aE λh=>e (wD l j Om hi h).1,aE λh=>e (wD l j Om hi h).1];rfl
  have a3:gG (λd=>if okD f v' d=true then lE (fD f v' d) (h v' d) (cR f v i)else 0) f.beK.length=0:=by
   rw[gQ (h:=λ_=>0) λd u=>?_,rG];have z:lE (fD f v' d) (h v' d) (cR f v i)=0:=by unfold lE fD;simp only;rw[aE λh=>e (wD l j (hV.drive d u).2.2.2.1 hi h).1,aE (show ¬bG f d=cR f v i by unfold bG at B ⊢;omega)];rfl
   rw[z];split<;>rfl
  rw[a1,a2,a3];rfl
 rw[M,N,Int.add_zero,jx];have E:lE ⟨0,2+v,gP f v⟩ (s v) (cR f v i)=- if i=0 then(s v:Int)else 0:=by
  unfold lE;simp only;rw[aE Om];by_cases e:i=0
  ·subst e;rw[aL rfl,aL (show 2+v=cR f v 0 from rfl)];omega
  ·have:¬2+v=cR f v i:=λh=>e ((wD j j hV.root.1 hi (show cR f v 0=cR f v i from h)).2).symm;rw[aE e,aE this];rfl
 have F:gG (λk=>lE (lY f v k) (g v k) (cR f v i)) (Z' f.beN-1)=gG (λk=>if lF f (k+1)=i then(g v k:Int)else 0) (Z' f.beN-1)-(if i=0 then 0 else(g v (i-1):Int)):=by
  have w:gG (λk=>if k+1=i then(g v k:Int)else 0) (Z' f.beN-1)=if i=0 then 0 else(g v (i-1):Int):=by
   by_cases e:i=0
   ·subst e;rw[aL rfl,gQ (h:=λ_=>0) λk A=>by rw[aE Om],rG]
   ·rw[aE e,←JU (λk=>(g v k:Int)) (i-1) (n:=Z' f.beN-1) Om];refine gQ λk A=>?_;by_cases c:k+1=i
    ·rw[aL c,aL Om]
    ·rw[aE c,aE Om]
  have:gG (λk=>lE (lY f v k) (g v k) (cR f v i)) (Z' f.beN-1)=gG (λk=>(if lF f (k+1)=i then(g v k:Int)else 0)+- (if k+1=i then(g v k:Int)else 0)) (Z' f.beN-1):=by refine gQ λk A=>?_;have R:=(hV.dom (k+1) Om Om).2.1;unfold lE lY;simp only;have x:cR f v (lF f (k+1))=cR f v i↔lF f (k+1)=i:=⟨λh=>(wD j j Om hi h).2,λh=>by rw[h]⟩;have K:cR f v (k+1)=cR f v i↔k+1=i:=⟨λh=>(wD j j Om hi h).2,λh=>by rw[h]⟩;simp only[x,K];omega
  rw[this,akG,xk,w];rfl
 have I:gG (λd=>if okD f v d=true then lE (fD f v d) (h v d) (cR f v i)else 0) f.beK.length=gG (λd=>if okD f v d=true∧eO f d=i then(h v d:Int)else 0) f.beK.length:=by refine gQ λd u=>?_;have x:cR f v (eO f d)=cR f v i↔eO f d=i:=⟨λh=>(wD j j (hV.drive d u).2.2.2.1 hi h).2,λh=>by rw[h]⟩;unfold lE fD;simp only[x];rw[aE (show ¬bG f d=cR f v i by unfold bG at B ⊢;omega)];by_cases w:okD f v d=true<;>by_cases J:eO f d=i<;>simp[w,J]
 rw[E,F,I];split<;>omega
theorem a2J{f:aD}(hV:VF f)(room:List Int)(s:Nat→Nat)(g h:Nat→Nat→Nat)(t:Nat→Nat){d:Nat}(x:d<Z' f.beK) :
  jC (eZ f room) (uL f s g h t) (bG f d)=(t d:Int)-gG (λv=>if okD f v d=true then(h v d:Int)else 0) f.beM.length:=by
 rw[uq];have u:∀v i,v<Z' f.beM→i<Z' f.beN→cR f v i≠bG f d:=λv i l hi e=>by have:=(kV hV l hi).2;unfold bG at this e;omega
 have y:gG (λj=>lE (pW f room j) (t j) (bG f d)) f.beK.length=(t d:Int):=by
  rw[←JU (λj=>(t j:Int)) d x];refine gQ λj _=>?_;unfold lE pW bG;simp only;rw[aE (Om:¬1=2+Z' f.beM*Z' f.beN+d)];by_cases e:j=d
  ·rw[aL e,aL Om];omega
  ·rw[aE e,aE Om];rfl
 have A:gG (λv=>jC (gS f v) (wT f s g h v) (bG f d)) f.beM.length=gG (λv=>- (if okD f v d=true then(h v d:Int)else 0)) f.beM.length:=by
  refine gQ λv l=>?_;rw[jx];have a1:lE ⟨0,2+v,gP f v⟩ (s v) (bG f d)=0:=by have B:2+v≠bG f d:=u v 0 l hV.root.1;unfold lE;simp only;rw[aE (by unfold bG;omega),aE B];rfl
  have a2:gG (λk=>lE (lY f v k) (g v k) (bG f d)) (Z' f.beN-1)=0:=by rw[gQ (h:=λ_=>0) λk E=>?_,rG];have F:=(hV.dom (k+1) Om Om).2.1;unfold lE lY;simp only;rw[aE (u v _ l Om),aE (u v _ l Om)];rfl
  have a3:gG (λj=>if okD f v j=true then lE (fD f v j) (h v j) (bG f d)else 0) f.beK.length=- (if okD f v d=true then(h v d:Int)else 0):=by
   have:=JU (λj=>- (if okD f v j=true then(h v j:Int)else 0)) d x;rw[←this];refine gQ λj w=>?_;unfold lE fD;simp only;rw[aE (u v _ l (hV.drive j w).2.2.2.1)];by_cases e:j=d
   ·subst e;rw[aL rfl,aL rfl];split<;>omega
   ·rw[aE (show ¬bG f j=bG f d by unfold bG;omega),aE e];split<;>rfl
  rw[a1,a2,a3];omega
 rw[y,A,xk];omega
theorem aFP{f:aD}(h:VF f){d:Nat}(e:d<Z' f.beK):jE f d 4=eO f d:=by
 unfold jE;rfl
theorem aXK{f:aD}(h:VF f){d i:Nat}(l:d<Z' f.beK)(hi:i<Z' f.beN):one (inD f i d)=dO (λk=>one (decide (lF f (k+1)=i)&&inD f (k+1) d)) (Z' f.beN-1)+one (decide (eO f d=i)):=by
 have N:=h.uD hi;have I:=h.drive d l;by_cases c:lvl f i=4
 ·have j:dO (λk=>one (decide (lF f (k+1)=i)&&inD f (k+1) d)) (Z' f.beN-1)=0:=by
   rw[gR (h:=λ_=>0) λk A=>?_,uF];obtain⟨g1,g2,g3,g4,F⟩:=h.dom (k+1) Om Om;have:¬lF f (k+1)=i:=λe=>by rw[e]at g3;omega
   rw[bV this,bgK];rfl
  rw[j,bgL];unfold inD;rw[c,aFP h l]
 ·have j:¬eO f d=i:=λe=>c (by rw[←e];exact I.2.2.2.2);obtain⟨a1,a2⟩:=yq h l (lev:=lvl f i+1) Om Om;have M:0<jE f d (lvl f i+1):=by
   rcases biC (jE f d (lvl f i+1))with e|e
   ·rw[e,h.root.2.1]at a2;omega
   ·exact e
  have J:lF f (jE f d (lvl f i+1))=jE f d (lvl f i):=by unfold jE;rw[show 4-(lvl f i).toNat=(4-(lvl f i+1).toNat)+1 by omega,upN]
  rw[bV j,show one false=0 from rfl,bhL];have B:∀k,k<Z' f.beN-1→one (decide (lF f (k+1)=i)&&inD f (k+1) d)=if k=jE f d (lvl f i+1)-1 then one (inD f i d)else 0:=by
   intro k A;obtain⟨g1,g2,g3,g4,F⟩:=h.dom (k+1) Om Om;by_cases e:k=jE f d (lvl f i+1)-1
   ·rw[aL e];have y:k+1=jE f d (lvl f i+1):=Om;have t:inD f (k+1) d=true:=by unfold inD;rw[y,a2,decide_eq_true_eq]
    rw[t,biG,y,J];rfl
   ·rw[aE e];by_cases w:lF f (k+1)=i
    ·have:inD f (k+1) d=false:=by unfold inD;rw[decide_eq_false_iff_not];intro E;rw[w]at g3;rw[show lvl f (k+1)=lvl f i+1 by omega]at E;omega
     rw[this,bhO];rfl
    ·rw[bV w,bgK];rfl
  rw[gR B];have u:∀(n a x:Nat),a<n→dO (λk=>if k=a then x else 0) n=x:=by
   intro n
   induction n with
   |zero=>intro a x h;omega
   |succ n K=>
    intro a x h;rw[dO];by_cases e:n=a
    ·subst e;rw[gR (h:=λ_=>0) λk A=>by rw[aE Om],uF,aL rfl];omega
    ·rw[K a x Om,aE e];rfl
  rw[u _ _ _ Om]
structure aZS(f:aD)(room:List Int)(s:Nat→Nat)(g h:Nat→Nat→Nat)(t:Nat→Nat):Prop where
 s:∀v,v<Z' f.beM→s v≤gP f v
 g:∀v k,v<Z' f.beM→k<Z' f.beN-1→g v k≤xH f v (k+1)
 h:∀v d,v<Z' f.beM→d<Z' f.beK→okD f v d=true→h v d≤1
 t:∀d,d<Z' f.beK→t d≤VU f room d
theorem bn{l m:List bY}{xs u:List Nat}(w:Z' l=Z' xs)(h:∀(i:Nat) a x,(l++m)[i]?=some a→(xs++u)[i]?=some x→x≤a.cap) :
  (∀(i:Nat) a x,l[i]?=some a→xs[i]?=some x→x≤a.cap)∧∀(i:Nat) a x,m[i]?=some a→u[i]?=some x→x≤a.cap:=by
 constructor
 ·intro i a x e j;have y:=(bhG.1 e).1;exact h i a x (by rw[biA y];exact e) (by rw[biA Om];exact j)
 ·intro i a x e j;exact h (Z' l+i) a x (by rw[biB Om,Nat.add_sub_cancel_left];exact e) (by rw[biB Om,w,Nat.add_sub_cancel_left];exact j)
theorem aaW{L:List Nat}{F:Nat→bY}{y:Nat→Nat}(h:∀(i:Nat) a x,(L.map F)[i]?=some a→(L.map y)[i]?=some x→x≤a.cap):∀k∈L,y k≤(F k).cap:=by
 intro k e;obtain⟨i,hi,rfl⟩:=bhV e;exact h i _ _ (by rw[bgT,bgH hi];rfl) (by rw[bgT,bgH hi];rfl)
theorem avW{F:Nat→List bY}{X:Nat→List Nat}:∀{n:Nat},(∀v,v<n→(F v).length=(X v).length)→(∀(i:Nat) a x,((bfZ n).flatMap F)[i]?=some a→((bfZ n).flatMap X)[i]?=some x→x≤a.cap)→∀v,v<n→∀(i:Nat) a x,(F v)[i]?=some a→(X v)[i]?=some x→x≤a.cap
 |0,_,_,v,l=>by omega
 |n+1,u,h,v,l=>by
  rw[biO,bkB,bkB]at h;have j:((bfZ n).flatMap F).length=((bfZ n).flatMap X).length:=by rw[List.length_flatMap,List.length_flatMap];congr 1;exact biI λv l=>u v (by have:=bgW.1 l;omega)
  obtain⟨w,y⟩:=bn j h;by_cases e:v=n
  ·subst e;simpa using y
  ·exact avW (λv l=>u v Om) w v Om
theorem aWE{f:aD}{room:List Int}{s:Nat→Nat}{g h:Nat→Nat→Nat}{t:Nat→Nat}(l:∀(i:Nat) a x,(eZ f room)[i]?=some a→(uL f s g h t)[i]?=some x→x≤a.cap):aZS f room s g h t:=by
 unfold eZ uL at l;have u:((bfZ f.beM.length).flatMap (gS f)).length=((bfZ f.beM.length).flatMap (wT f s g h)).length:=by rw[List.length_flatMap,List.length_flatMap];congr 1;exact biI λv _=>DE f s g h v
 obtain⟨A,B⟩:=bn u l;have E:=avW (λv _=>DE f s g h v) A;have F:=aaW B;have each:∀v,v<Z' f.beM→s v≤gP f v∧(∀k,k<Z' f.beN-1→g v k≤xH f v (k+1))∧∀d,d<Z' f.beK→okD f v d=true→h v d≤1:=by intro v e;have h5:=E v e;unfold gS wT at h5;refine⟨h5 0 _ _ rfl rfl,?_⟩;have I:∀(i:Nat) a x,((bfZ (Z' f.beN-1)).map (lY f v)++((bfZ f.beK.length).filter (okD f v)).map (fD f v))[i]?=some a→((bfZ (Z' f.beN-1)).map (g v)++((bfZ f.beK.length).filter (okD f v)).map (h v))[i]?=some x→x≤a.cap:=λi a x J M=>h5 (i+1) a x (by simpa using J) (by simpa using M);obtain⟨h7,h8⟩:=bn aY I;exact⟨λk w=>aaW h7 k (bgW.2 w),λd j y=>aaW h8 d (bjS.2 ⟨bgW.2 j,y⟩)⟩
 exact⟨λv e=>(each v e).1,λv k e w=>(each v e).2.1 k w,λv d e j K=>(each v e).2.2 d j K,λd j=>F d (bgW.2 j)⟩
def pZ(f:aD)(h:Nat→Nat→Nat)(v d:Nat):Bool:=okD f v d&&decide (h v d≠0)
theorem Wx{f:aD}(hV:VF f){room:List Int}{s:Nat→Nat}{g h:Nat→Nat→Nat}{t:Nat→Nat}(M:jY (cY f room) (uL f s g h t))(y:(rO f:Int)≤kT (cY f room) (uL f s g h t)):AI f room (pZ f h):=by
 have P:=aWE M.le;have I:∀v,v<Z' f.beM→s v=gP f v:=by
  have u:kT (cY f room) (uL f s g h t)=(dO s f.beM.length:Nat):=aIQ hV room s g h t;rw[u]at y;have B:rO f≤dO s f.beM.length:=Om;clear y u;unfold rO at B;have F:=P.s;generalize f.beM.length=n at *
  induction n with
  |zero=>intro v j;omega
  |succ n K=>
   rw[dO,dO]at B;have Y:=F n Om;have Z:dO s n≤dO (gP f) n:=DB λv j=>F v Om;intro v j;by_cases e:v=n
   ·subst e;omega
   ·exact K Om (λv j=>F v Om) v Om
 have nodes:∀w,2≤w→w<bG f f.beK.length→jC (eZ f room) (uL f s g h t) w=0:=λw u B=>M.node w B (by show w≠0;omega) (by show w≠1;omega);have x:∀v d,v<Z' f.beM→d<Z' f.beK→one (pZ f h v d)=if okD f v d=true then h v d else 0:=by
  intro v d j l;unfold pZ;cases W:okD f v d with
  |false=>rfl
  |true=>
   have:=P.h v d j l W;simp only[bgO,if_true];by_cases e:h v d=0
   ·rw[e];rfl
   ·rw[bX e];have:h v d=1:=Om;rw[this];rfl
 have below:∀v,v<Z' f.beM→∀(m i:Nat),Z' f.beN-i=m→i<Z' f.beN→(if i=0 then s v else g v (i-1))=jH (λd=>pZ f h v d&&inD f i d) f.beK.length:=by
  intro v j m
  induction m using Nat.strongRecOn with
  |ind m K=>
   intro i N hi;have A:=nodes (cR f v i) (kV hV j hi).1 (by have:=(kV hV j hi).2;unfold bG at this ⊢;omega);rw[a2I hV room s g h t j hi]at A;have E:gG (λk=>if lF f (k+1)=i then(g v k:Int)else 0) (Z' f.beN-1)=(dO (λk=>if lF f (k+1)=i then jH (λd=>pZ f h v d&&inD f (k+1) d) f.beK.length else 0) (Z' f.beN-1):Nat):=by
    rw[←JT];refine gQ λk V=>?_;by_cases c:lF f (k+1)=i
    ·have hp:=(hV.dom (k+1) Om Om).2.1;have:=K (Z' f.beN-(k+1)) Om (k+1) rfl Om;rw[aE Om,Nat.add_sub_cancel]at this;rw[aL c,aL c,this]
    ·rw[aE c,aE c];rfl
   have S:gG (λd=>if okD f v d=true∧eO f d=i then(h v d:Int)else 0) f.beK.length=(dO (λd=>one (pZ f h v d)*one (decide (eO f d=i))) f.beK.length:Nat):=by rw[←JT];refine gQ λd l=>?_;rw[x v d j l];by_cases O:okD f v d=true<;>by_cases R:eO f d=i<;>simp[O,R,DQ,DP]
   have U:jH (λd=>pZ f h v d&&inD f i d) f.beK.length=dO (λk=>if lF f (k+1)=i then jH (λd=>pZ f h v d&&inD f (k+1) d) f.beK.length else 0) (Z' f.beN-1)+dO (λd=>one (pZ f h v d)*one (decide (eO f d=i))) f.beK.length:=by
    have a1:jH (λd=>pZ f h v d&&inD f i d) f.beK.length=dO (λd=>dO (λk=>one (pZ f h v d)*one (decide (lF f (k+1)=i)&&inD f (k+1) d)) (Z' f.beN-1)+one (pZ f h v d)*one (decide (eO f d=i))) f.beK.length:=by unfold jH;refine gR λd l=>?_;rw[azV,aXK hV l hi,bgQ,WK]
    rw[a1,DA,LZ];congr 1;refine gR λk V=>?_;by_cases c:lF f (k+1)=i
    ·rw[aL c,bX c];unfold jH;exact gR λd _=>by rw[bgO];exact(azV _ _).symm
    ·rw[aE c,bV c,gR (h:=λ_=>0) λd _=>by rw[bgK];rfl,uF]
   rw[E,S]at A;rw[U];split<;>rename_i c
   ·rw[aL c]at A;omega
   ·rw[aE c]at A;omega
 have root:∀d,d<Z' f.beK→inD f 0 d=true:=λd l=>by
  unfold inD;rw[hV.root.2.1,decide_eq_true_eq];obtain⟨a,b⟩:=yq hV l (lev:=0) Om Om;rcases biC (jE f d 0)with e|e
  ·exact e
  ·have:=(hV.dom _ e a).2.2.2.1;omega
 refine⟨λv j=>?_,λv d j l J=>?_,λv i j X hi N=>?_,λd l=>?_⟩
 ·have:=below v j _ 0 rfl hV.root.1;rw[aL rfl,I v j]at this;rw[this];unfold jH;exact gR λd l=>by show one _=one (pZ f h v d&&inD f 0 d);rw[root d l,biG]
 ·unfold pZ at J;rw[bgU]at J;exact J.1
 ·have:=below v j _ i rfl hi;rw[aE Om]at this;rw[←this];have u:=P.g v (i-1) j Om;rw[show i-1+1=i by omega]at u;unfold xH at u;rw[aE N]at u;exact u
 ·have A:=nodes (bG f d) (by unfold bG;omega) (by unfold bG;omega);rw[a2J hV room s g h t l]at A;have E:gG (λv=>if okD f v d=true then(h v d:Int)else 0) f.beM.length=(jH (λv=>pZ f h v d) f.beM.length:Nat):=by unfold jH;rw[←JT];refine gQ λv j=>?_;rw[x v d j l];split<;>rfl
  rw[E]at A;have:=P.t d l;omega
theorem kg{f:aD}{p:dV}{v:Nat}{row:List Int}:uB f p v row=[]↔(∀i,i<Z' row→0≤row.getD i 0)∧(∀d,d<Z' f.beK→row.count (d:Int)≤1)∧(∀i,i<Z' row→0≤row.getD i 0→p.beL.contains ((mdl f (row.getD i 0).toNat:Nat):Int)=true)∧∀i,i<Z' f.beN→fK f p i>0→qQ f row i≤fK f p i:=by
 have e:∀d,d<Z' f.beK→(gI f.beK.length row).getD d 0=(row.count (d:Int):Nat):=λd h=>by simp[gI,bgF,h]
 have j:∀i,i<Z' f.beN→(gW f row).getD i 0=qQ f row i:=λi h=>by simp[gW,bgF,h]
 unfold uB;rw[List.append_eq_nil_iff,List.append_eq_nil_iff,List.append_eq_nil_iff,yK,yK,yK,yK,and_assoc,and_assoc];refine and_congr ?_ (and_congr ?_ (and_congr ?_ ?_))
 ·refine forall_congr' λi=>forall_congr' λhi=>?_;unfold home;rw[decide_eq_false_iff_not];omega
 ·refine forall_congr' λd=>forall_congr' λl=>?_;unfold oF;rw[e d l,decide_eq_false_iff_not];omega
 ·refine forall_congr' λi=>forall_congr' λhi=>?_;unfold eM;by_cases c:0≤row.getD i 0<;>simp[c]
 ·refine forall_congr' λi=>forall_congr' λhi=>?_;unfold pT;rw[j i hi,Bool.and_eq_false_iff,decide_eq_false_iff_not,decide_eq_false_iff_not];omega
theorem aoE{f:aD}(j:dU f=true){l:List (List Int)}(u:yS f l)(room:List Int):sS f l room=true↔(∀v (h:v<Z' l),uB f (cL f v) v l[v]=[])∧∀d,d<Z' f.beK→((l.flatten.count (d:Int):Nat):Int)≤rZ f room d:=by
 rw[aNA j u.len];refine and_congr ?_ ?_
 ·unfold tI;rw[List.flatMap_eq_nil_iff];constructor
  ·intro h v j;have:=h v (bgW.2 j);unfold xZ at this;rw[u.shape j]at this;have e:l.getD v []=l[v]:=by simp[bgF,j]
   rw[e]at this;exact this
  ·intro h v A;have j:=bgW.1 A;unfold xZ;rw[u.shape j];have e:l.getD v []=l[v]:=by simp[bgF,j]
   simp only;rw[e];exact h v j
 ·refine forall_congr' λd=>forall_congr' λw=>?_;have x:(kE f l).getD d 0=(l.flatten.count (d:Int):Nat):=by simp[kE,gI,bgF,w]
  have y:(jG f room).getD d 0=rZ f room d:=by simp[jG,bgF,w]
  unfold over;rw[x,y,decide_eq_false_iff_not];omega
theorem count_flatten(d:Int):∀l:List (List Int),l.flatten.count d=dO (λv=>(l.getD v []).count d) l.length:=by
 intro l;obtain⟨r,rfl⟩:∃r,l=List.reverse r:=⟨l.reverse,by simp⟩
 induction r with
 |nil=>rfl
 |cons x r j=>
  rw[List.reverse_cons,List.flatten_append,List.count_append,j,bgB,bgI,dO];congr 1
  ·refine gR λv e=>?_;rw[bgF,bgF,biA e]
  ·rw[bgF,biB (bgG _)];simp
theorem d9{n:Nat}{row:List Int}(u:∀x∈row,0≤x∧x<n)(J:∀d:Nat,d<n→row.count (d:Int)≤1)(p:Int→Bool):row.countP p=jH (λd=>row.contains (d:Int)&&p d) n:=by
 have E:∀m:Nat,row.countP (λx=>decide (x<(m:Int))&&p x)=jH (λd=>row.contains (d:Int)&&p d) (min m n):=by
  intro m
  induction m with
  |zero =>rw[Nat.zero_min];show _=0;rw[List.countP_eq_zero];intro x l;have:=(u x l).1;simp only[bgU,decide_eq_true_eq];omega
  |succ m A=>
   by_cases c:m<n
   ·rw[biP Om]at A ⊢;have e:row.countP (λx=>decide (x<((m+1:Nat):Int))&&p x)=row.countP (λx=>decide (x<(m:Int))&&p x)+row.countP (λx=>decide (x=(m:Int))&&p x):=by
     clear A J u
     induction row with
     |nil=>rfl
     |cons y t B=>
      rw[List.countP_cons,List.countP_cons,List.countP_cons,B];have:((if(decide (y<((m+1:Nat):Int))&&p y)=true then 1 else 0):Nat)=(if(decide (y<(m:Int))&&p y)=true then 1 else 0)+(if(decide (y=(m:Int))&&p y)=true then 1 else 0):=by
       cases p y with
       |false=>simp
       |true=>
        simp only[biG,decide_eq_true_eq];by_cases F:y<(m:Int)
        ·rw[aL F,aL Om,aE Om]
        ·rw[aE F];by_cases I:y=(m:Int)
         ·rw[aL I,aL Om]
         ·rw[aE I,aE Om]
      omega
    rw[e,A,jH,jH,dO];congr 1;have K:=J m c;by_cases j:p m=true
    ·have:row.countP (λx=>decide (x=(m:Int))&&p x)=row.count (m:Int):=by unfold List.count;refine List.countP_congr λx _=>?_;simp only[bgU,decide_eq_true_eq,beq_iff_eq];exact⟨λh=>h.1,λh=>⟨h,by rw[h];exact j⟩⟩
     rw[this,j,biG];by_cases w:(m:Int)∈row
     ·have M:=List.count_pos_iff.2 w;have h5:row.contains (m:Int)=true:=by simpa using w
      rw[h5,DQ];omega
     ·have h5:row.contains (m:Int)=false:=by simpa using w
      rw[h5,DP,List.count_eq_zero_of_not_mem w]
    ·have j:p m=false:=by simpa using j
     rw[j,bhO,DP,List.countP_eq_zero];intro x l;simp only[bgU,decide_eq_true_eq];rintro⟨rfl,h⟩;rw[j]at h;cases h
   ·have e:row.countP (λx=>decide (x<((m+1:Nat):Int))&&p x)=row.countP (λx=>decide (x<(m:Int))&&p x):=by refine List.countP_congr λx l=>?_;have:=u x l;simp only[bgU,decide_eq_true_eq];exact⟨λh=>⟨by omega,h.2⟩,λh=>⟨by omega,h.2⟩⟩
    rw[e,A,Nat.min_eq_right Om,Nat.min_eq_right Om]
 have:=E n;rw[Nat.min_self]at this;rw[←this];refine List.countP_congr λx l=>?_;have:=u x l;simp only[bgU,decide_eq_true_eq];exact⟨λh=>⟨by omega,h⟩,λh=>h.2⟩
theorem Kz(f:aD)(i d:Nat):mA f i (d:Int)=inD f i d:=by
 unfold mA inD;rw[bX (Om:(0:Int)≤(d:Int)),bgO,biR]
def qj(l:List (List Int))(v d:Nat):Bool:=(l.getD v []).contains (d:Int)
theorem a1Q{f:aD}(V:dU f=true){l:List (List Int)}(I:yS f l){room:List Int}(h:sS f l room=true):AI f room (qj l):=by
 have hV:=VF.of V;obtain⟨y,A⟩:=(aoE V I room).1 h;have O:∀v,v<Z' f.beM→∃row,l.getD v []=row∧(∀x∈row,0≤x∧x<(Z' f.beK:Nat))∧(∀d:Nat,d<Z' f.beK→row.count (d:Int)≤1)∧uB f (cL f v) v row=[]∧(Z' row:Int)=nI f v:=by
  intro v j;have u:v<Z' l:=by rw[I.len];exact j
  have e:l.getD v []=l[v]:=by simp[bgF,u]
  obtain⟨a1,a2,-,-⟩:=kg.1 (y v u);refine⟨l[v],e,λx W=>?_,a2,y v u,I.row v u⟩;obtain⟨i,hi,rfl⟩:=bhV W;have:=a1 i hi;have g:l[v].getD i 0=l[v][i]:=by simp[bgF,hi]
  rw[g]at this;exact⟨this,(I.home _ (bgD u) _ W).2⟩
 refine⟨λv j=>?_,λv d j N R=>?_,λv i j h0 hi U=>?_,λd N=>?_⟩
 ·obtain⟨row,e,E,B,F,J⟩:=O v j;have:=d9 E B λ_=>true;rw[List.countP_true]at this;unfold qj gP;rw[←J,biR,this,e];unfold jH;exact gR λd _=>by dsimp only;rw[biG]
 ·obtain⟨row,e,E,B,F,J⟩:=O v j;obtain⟨-,-,a3,-⟩:=kg.1 F;unfold qj at R;rw[e]at R;have U:(d:Int)∈row:=by simpa using R
  obtain⟨i,hi,he⟩:=bhV U;have g:row.getD i 0=(d:Int):=by simp[bgF,hi,he]
  have:=a3 i hi (by rw[g];omega);rw[g]at this;exact this
 ·obtain⟨row,e,E,B,F,J⟩:=O v j;obtain⟨-,-,-,a4⟩:=kg.1 F;obtain⟨hp,he⟩:=qB hV j;have w:=hV.beX _ (bgD hp);rw[he]at w;have Z:0≤fK f (cL f v) i:=(w.2.2.2.2.2.2.1 _).1;have K:=a4 i hi Om;have h5:=d9 E B (mA f i);unfold qQ at K;rw[aE Om,h5]at K;have Y:jH (λd=>row.contains (d:Int)&&mA f i d) f.beK.length=jH (λd=>qj l v d&&inD f i d) f.beK.length:=by unfold jH qj;rw[e];exact gR λd _=>by dsimp only;rw[Kz]
  rw[Y]at K;omega
 ·have S:=A d N;rw[count_flatten,I.len]at S;have X:dO (λv=>(l.getD v []).count (d:Int)) f.beM.length=jH (λv=>qj l v d) f.beM.length:=by
   unfold jH qj;refine gR λv j=>?_;obtain⟨row,e,E,B,F,J⟩:=O v j;dsimp only;rw[e];by_cases M:(d:Int)∈row
   ·have K:=List.count_pos_iff.2 M;have h5:row.contains (d:Int)=true:=by simpa using M
    have:=B d N;rw[h5,DQ];omega
   ·have h5:row.contains (d:Int)=false:=by simpa using M
    rw[h5,DP,List.count_eq_zero_of_not_mem M]
  rw[X]at S;have:=BO hV room N;omega
def tW(f:aD)(u:Nat→Nat→Bool)(v:Nat):List Int:=aeC ((bfZ f.beK.length).filter (u v))
def zF(f:aD)(u:Nat→Nat→Bool):List (List Int):=(bfZ f.beM.length).map (tW f u)
theorem aiK(f:aD)(u:Nat→Nat→Bool)(v:Nat){d:Nat}(j:d<Z' f.beK):(tW f u v).contains (d:Int)=u v d:=by
 refine Bool.eq_iff_iff.2 ?_;simp only[bjZ];unfold tW aeC;rw[bhC];constructor
 ·rintro⟨e,he,h⟩;have:e=d:=Om;subst this;exact(bjS.1 he).2
 ·intro h;exact⟨d,bjS.2 ⟨bgW.2 j,h⟩,rfl⟩
theorem ka(f:aD)(u:Nat→Nat→Bool)(v:Nat):(∀x∈tW f u v,0≤x∧x<(Z' f.beK:Nat))∧(tW f u v).Nodup∧(tW f u v).length=jH (u v) f.beK.length:=by
 refine⟨λx l=>?_,?_,?_⟩
 ·obtain⟨d,j,rfl⟩:=bhC.1 l;have:=bgW.1 (bjS.1 j).1;omega
 ·exact List.Pairwise.map _ (λa b h e=>h Om) (List.nodup_range.filter (u v))
 ·unfold tW aeC;rw[bfY,y8,List.countP_eq_length_filter]
theorem arM{f:aD}(O:dU f=true){room:List Int}{u:Nat→Nat→Bool}(A:AI f room u):yS f (zF f u)∧sS f (zF f u) room=true:=by
 have hV:=VF.of O;have y:(zF f u).length=Z' f.beM:=by unfold zF;rw[bfY,biU]
 have J:∀v (h:v<(zF f u).length),(zF f u)[v]=tW f u v:=λv h=>(bhY _).trans (by rw[List.getElem_range]);have N:yS f (zF f u):=by
  refine⟨y,λv h=>?_,λr W x I=>?_⟩
  ·have j:v<Z' f.beM:=by rw[←y];exact h
   rw[J v h,(ka f u v).2.2,A.num v j,(oI hV j).2.2.1]
  ·obtain⟨v,-,rfl⟩:=bhC.1 W;have:=(ka f u v).1 x I;omega
 refine⟨N,(aoE O N room).2 ⟨λv h=>?_,λd l=>?_⟩⟩
 ·have j:v<Z' f.beM:=by rw[←y];exact h
  rw[J v h];obtain⟨B,E,S⟩:=ka f u v;have K:∀i (h:i<(tW f u v).length),(tW f u v).getD i 0=(tW f u v)[i]:=λi h=>by simp[bgF,h]
  refine kg.2 ⟨λi hi=>?_,λd l=>List.nodup_iff_count.1 E _,λi hi X=>?_,λi hi Z=>?_⟩
  ·rw[K i hi];exact(B _ (bgD hi)).1
  ·rw[K i hi];have I:=bgD hi;have hb:=B _ I;obtain⟨d,l,he⟩:=bhC.1 I;have w:=bjS.1 l;have:=A.ok v d j (bgW.1 w.1) w.2;rw[←he];exact this
  ·by_cases R:i=0
   ·unfold qQ;rw[aL R];omega
   ·unfold qQ;rw[aE R,d9 B (λd _=>List.nodup_iff_count.1 E _) (mA f i)];have h5:=A.bound v i j Om hi Om;have V:jH (λd=>(tW f u v).contains (d:Int)&&mA f i d) f.beK.length=jH (λd=>u v d&&inD f i d) f.beK.length:=by unfold jH;exact gR λd l=>by dsimp only;rw[aiK f u v l,Kz]
    rw[V];omega
 ·rw[count_flatten,y];have U:dO (λv=>((zF f u).getD v []).count (d:Int)) f.beM.length=jH (λv=>u v d) f.beM.length:=by
   unfold jH;refine gR λv j=>?_;have e:(zF f u).getD v []=tW f u v:=by rw[bgF,bgH (by rw[y];exact j),biE,J]
   dsimp only;rw[e];obtain⟨B,E,S⟩:=ka f u v;have M:=aiK f u v l;by_cases F:(d:Int)∈tW f u v
   ·have Y:=List.count_pos_iff.2 F;have h5:(tW f u v).contains (d:Int)=true:=by simpa using F
    have:=List.nodup_iff_count.1 E (d:Int);rw[←M,h5,DQ];omega
   ·have h5:(tW f u v).contains (d:Int)=false:=by simpa using F
    rw[←M,h5,DP,List.count_eq_zero_of_not_mem F]
  rw[U];have h7:=A.room d l;have:=BO hV room l;omega
def EX(f:aD)(room:List Int):Prop:=∃u,AI f room u
theorem aTI{f:aD}(e:dU f=true){room:List Int}:EX f room↔∃l,yS f l∧sS f l room=true:=
 ⟨λ⟨_,A⟩=>⟨_,arM e A⟩,λ⟨_,j,h⟩=>⟨_,a1Q e j h⟩⟩
theorem J0{f:aD}(hV:VF f){room:List Int}{xs:List Nat}(e:jY (cY f room) xs){S:Nat→Bool}(j:S 0=true)(l:S 1=false)(x:kT (cY f room) xs=eH S (eZ f room)):(rO f:Int)≤kT (cY f room) xs↔EX f room:=by
 constructor
 ·intro h;obtain⟨s,g,w,t,rfl⟩:=zf f room e.len;exact⟨_,Wx hV e h⟩
 ·rintro⟨u,A⟩;have:=A.cut hV S j l;omega
theorem aJW{f:aD}(hV:VF f)(room:List Int):eH (λw=>decide (w=0)) (eZ f room)=rO f:=by
 unfold eZ;rw[qZ,ZT,IS];have l:dO (λk=>mD (λw=>decide (w=0)) (pW f room k)) f.beK.length=0:=by rw[gR (h:=λ_=>0) λd e=>?_,uF];unfold mD pW bG;simp
 rw[l,bhL];refine gR λv j=>?_;unfold gS;rw[eH,qZ,IS,MW];have u:dO (λk=>mD (λw=>decide (w=0)) (lY f v k)) (Z' f.beN-1)=0:=by rw[gR (h:=λ_=>0) λk A=>?_,uF];have y:=(kV hV j (i:=lF f (k+1)) (by have:=(hV.dom (k+1) Om Om).2.1;omega)).1;unfold mD lY;simp only;rw[aE λh=>by have:=of_decide_eq_true h.1;omega]
 have x:dO (λd=>if okD f v d=true then mD (λw=>decide (w=0)) (fD f v d)else 0) f.beK.length=0:=by
  rw[gR (h:=λ_=>0) λd e=>?_,uF];have y:=(kV hV j (i:=eO f d) (hV.drive d e).2.2.2.1).1;have z:mD (λw=>decide (w=0)) (fD f v d)=0:=by unfold mD fD;simp only;rw[aE λh=>by have:=of_decide_eq_true h.1;omega]
  rw[z];split<;>rfl
 rw[u,x];simp
theorem a6N{f:aD}(hV:VF f){room:List Int}{xs:List Nat}(e:jY (cY f room) xs):kT (cY f room) xs≤rO f:=by
 have:=e.aNE (EL hV room) (S:=λw=>decide (w=0)) rfl rfl;rw[show eH (λw=>decide (w=0)) (cY f room).arcs=rO f from aJW hV room]at this;exact this

def HH(f:aD)(a:bY):Nat:=(a.src-2-Z' f.beM)/(Z' f.beN-1)
def dr(f:aD)(v:Nat)(a:bY)(x:Nat):Bool:=decide (bG f 0≤a.dst)&&(decide (x≠0)&&decide (HH f a=v))
def BL(f:aD)(v:Nat)(a:bY)(x:Nat):List Int:=if dr f v a x=true then[((a.dst-bG f 0:Nat):Int)]else[]
def oZ(f:aD)(v:Nat):List bY→List Nat→List Int
 |a::l,x::xs=>BL f v a x++oZ f v l xs
 |_,_=>[]
def FC(f:aD)(l:List bY)(xs:List Nat):List (List Int):=(bfZ f.beM.length).map λv=>oZ f v l xs
theorem wN(f:aD)(v:Nat):∀{u:List bY}{w:List Nat}(e:List bY)(j:List Nat),Z' u=Z' w→oZ f v (u++e) (w++j)=oZ f v u w++oZ f v e j
 |[],[],e,j,_=>rfl
 |a::l,x::xs,e,j,h=>by rw[bjR,bjR,oZ,oZ,wN f v e j (by simpa using h),bgX]
theorem LQ{α:Type}(f:aD)(v:Nat)(a:α→bY)(x:α→Nat):∀(L:List α),oZ f v (L.map a) (L.map x)=L.flatMap λk=>BL f v (a k) (x k)
 |[]=>rfl
 |k::L=>by rw[bhJ,bhJ,oZ,LQ f v a x L,List.flatMap_cons]
theorem flatMap_nil{α β:Type}{g:α→List β}:∀{L:List α},(∀k∈L,g k=[])→L.flatMap g=[]
 |[],_=>rfl
 |k::L,h=>by rw[List.flatMap_cons,h k aY,flatMap_nil λj e=>h j (by simp[e])];rfl
theorem lf{β:Type}{R:List β}{v:Nat}:∀{n:Nat},v<n→((bfZ n).flatMap λk=>if k=v then R else[])=R
 |0,h=>by omega
 |n+1,h=>by
  rw[biO,bkB];by_cases e:v=n
  ·subst e;rw[flatMap_nil λk j=>aE (by have:=bgW.1 j;omega)];simp
  ·rw[lf (n:=n) Om];simp[show n≠v by omega]
theorem vf{f:aD}{v:Nat}{a:bY}{x:Nat}(h:a.dst<bG f 0):BL f v a x=[]:=by
 unfold BL dr;rw[bV Om,bgK];rfl
theorem Ej{f:aD}(h:VF f){v d:Nat}(j:d<Z' f.beK):HH f (fD f v d)=v:=by
 have w:=(h.drive d j).2.2.2;have x:=w.2;have y:=h.root;have l:eO f d≠0:=λe=>by have u:=(h.drive d j).2.2.2.2;rw[e]at u;have:=y.2.1;omega
 have hlt:eO f d<Z' f.beN:=by have:=(h.drive d j).2.2;omega
 unfold HH fD cR;simp only;rw[aE l,show 2+Z' f.beM+v*(Z' f.beN-1)+eO f d-1-2-Z' f.beM=(eO f d-1)+v*(Z' f.beN-1) by omega,Nat.add_mul_div_right _ _ Om,bjI Om,bgL]
theorem a3E{f:aD}(h:VF f)(s:Nat→Nat)(g l:Nat→Nat→Nat){v w:Nat}(A:w<Z' f.beM):oZ f v (gS f w) (wT f s g l w)=if w=v then tW f (pZ f l) v else[]:=by
 unfold gS wT;rw[oZ,vf (by have:=kV h A h.root.1;simp only[cR,if_true]at this;exact this.2),bjH,wN _ _ _ _ aY,LQ,LQ];rw[flatMap_nil λk B=>vf (by have:=bgW.1 B;exact(kV (i:=k+1) h A Om).2),bjH];by_cases e:w=v
 ·subst e;rw[aL rfl];unfold tW aeC;have:∀L:List Nat,(∀d∈L,d<Z' f.beK)→((L.filter (okD f w)).flatMap λd=>BL f w (fD f w d) (l w d))=(L.filter (pZ f l w)).map (λd:Nat=>(d:Int)):=by
   intro L
   induction L with
   |nil=>intro _;rfl
   |cons d L u=>
    intro x;have j:=x d aY;have u:=u λd j=>x d (by simp[j]);rw[List.filter_cons,List.filter_cons];cases y:okD f w d with
    |false=>rw[show pZ f l w d=false by unfold pZ;rw[y];rfl];exact u
    |true=>
     have E:dr f w (fD f w d) (l w d)=pZ f l w d:=by unfold dr pZ;rw[Ej h j,y,bX rfl,biG,bX (show bG f 0≤(fD f w d).dst by show bG f 0≤bG f d;unfold bG;omega)]
     rw[aL rfl,List.flatMap_cons,u];unfold BL;rw[E];cases pZ f l w d with
     |false=>rfl
     |true =>rw[aL rfl,aL rfl,bhJ,show(fD f w d).dst-bG f 0=d by show bG f d-bG f 0=d;unfold bG;omega];rfl
  exact this _ λd j=>bgW.1 j
 ·rw[aE e];refine flatMap_nil λd j=>?_;have j:=bgW.1 (bjS.1 j).1;unfold BL dr;rw[Ej h j,bV e,bhO,bhO];rfl
theorem aUL{f:aD}(h:VF f)(room:List Int)(s:Nat→Nat)(g e:Nat→Nat→Nat)(t:Nat→Nat):FC f (eZ f room) (uL f s g e t)=zF f (pZ f e):=by
 unfold FC zF;refine biI λv j=>?_;have j:=bgW.1 j;have u:∀L:List Nat,(∀w∈L,w<Z' f.beM)→(L.flatMap (gS f)).length=(L.flatMap (wT f s g e)).length∧oZ f v (L.flatMap (gS f)) (L.flatMap (wT f s g e))=L.flatMap λw=>if w=v then tW f (pZ f e) v else[]:=by
  intro L
  induction L with
  |nil=>intro _;exact⟨rfl,rfl⟩
  |cons w L B=>
   intro x;obtain⟨y,A⟩:=B λw l=>x w (by simp[l]);refine⟨?_,?_⟩
   ·rw[List.flatMap_cons,List.flatMap_cons,bgB,bgB,y,DE f s g e w]
   ·rw[List.flatMap_cons,List.flatMap_cons,List.flatMap_cons,wN _ _ _ _ (DE f s g e w),A,a3E h s g e (x w aY)]
 obtain⟨k1,k2⟩:=u (bfZ f.beM.length) λw l=>bgW.1 l;unfold eZ uL;rw[wN _ _ _ _ k1,k2,lf j,LQ,flatMap_nil,bhH];intro d _;exact vf (by show 1<bG f 0;unfold bG;omega)
structure fV where
 vols:List Bool
 beU:List (List Bool)
 bfE:List Bool
def fV.shape(f:aD)(c:fV):Bool:=decide (Z' c.vols=Z' f.beM)&&(decide (Z' c.beU=Z' f.beM)&&(decide (Z' c.bfE=Z' f.beK)&&c.beU.all λr=>decide (Z' r=Z' f.beN-1)))
def tP(c:fV):List Bool:=true::false::(c.vols++(c.beU.flatten++c.bfE))
def xW(c:fV)(w:Nat):Bool:=(tP c).getD w false
def wB(f:aD)(room:List Int)(c:fV):Bool:=c.shape f&&decide (eH (xW c) (eZ f room)<rO f)
def DH(f:aD)(S:Nat→Bool):fV:=⟨(bfZ f.beM.length).map λv=>S (cR f v 0),(bfZ f.beM.length).map λv=>(bfZ (Z' f.beN-1)).map λi=>S (cR f v (i+1)),(bfZ f.beK.length).map λd=>S (bG f d)⟩
structure Shape(f:aD)(c:fV):Prop where
 v:Z' c.vols=Z' f.beM
 i:Z' c.beU=Z' f.beM
 d:Z' c.bfE=Z' f.beK
 r:∀r∈c.beU,Z' r=Z' f.beN-1
theorem EP{f:aD}{c:fV}:c.shape f=true↔Shape f c:=by
 unfold fV.shape;simp only[bgU,decide_eq_true_eq,bgY];exact⟨λ⟨a,b,d,e⟩=>⟨a,b,d,e⟩,λ⟨a,b,d,e⟩=>⟨a,b,d,e⟩⟩
theorem ED{α:Type}{n:Nat}:∀{l:List (List α)},(∀r∈l,Z' r=n)→Z' l.flatten=Z' l*n
 |[],_=>by simp
 |r::l,h=>by rw[List.flatten_cons,bgB,h r aY,ED λr e=>h r (by simp[e]),bhT,biN];omega
theorem J3{α:Type}{z:α}{n:Nat}:∀{l:List (List α)}{v i:Nat},(∀r∈l,Z' r=n)→v<Z' l→i<n→l.flatten.getD (v*n+i) z=(l.getD v []).getD i z
 |[],v,i,_,e,_=>by simp at e
 |r::l,0,i,h,_,hi=>by have:=h r aY;rw[List.flatten_cons,bgF,biA Om,Nat.zero_mul,bgL,←bgF];rfl
 |r::l,v+1,i,h,e,hi=>by have u:=h r aY;rw[List.flatten_cons,bgF,biB (by rw[biN];omega),show(v+1)*n+i-Z' r=v*n+i by rw[biN];omega,←bgF,J3 (λr j=>h r (by simp[j])) (by simpa using e) hi];rfl
theorem a0C(c:fV):xW c 0=true:=rfl
theorem a0B(c:fV):xW c 1=false:=rfl
theorem arS{f:aD}{c:fV}(h:Shape f c){v:Nat}(e:v<Z' f.beM):xW c (cR f v 0)=c.vols.getD v false:=by
 show(tP c).getD (2+v) false=_;rw[show 2+v=v+1+1 by omega];show(c.vols++(c.beU.flatten++c.bfE)).getD v false=_;rw[bgF,biA (by rw[h.v];exact e),←bgF]
theorem arQ{f:aD}{c:fV}(h:Shape f c){v i:Nat}(e:v<Z' f.beM)(hi:i<Z' f.beN-1):xW c (cR f v (i+1))=(c.beU.getD v []).getD i false:=by
 show(tP c).getD (cR f v (i+1)) false=_;unfold cR;rw[aE Om,show 2+Z' f.beM+v*(Z' f.beN-1)+(i+1)-1=(Z' f.beM+(v*(Z' f.beN-1)+i))+1+1 by omega];show(c.vols++(c.beU.flatten++c.bfE)).getD _ false=_;have j:=ED h.r;rw[h.i]at j;have hb:(v+1)*(Z' f.beN-1)≤Z' f.beM*(Z' f.beN-1):=bhF _ e;rw[biN]at hb;rw[bgF,biB (by rw[h.v];omega),h.v,Nat.add_sub_cancel_left,biA Om,←bgF];exact J3 h.r (by rw[h.i];exact e) hi
theorem arR{f:aD}(hV:VF f){c:fV}(h:Shape f c){d:Nat}:xW c (bG f d)=c.bfE.getD d false:=by
 show(tP c).getD (bG f d) false=_;have l:=hV.root.1;have j:Z' f.beM*Z' f.beN=Z' f.beM*(Z' f.beN-1)+Z' f.beM:=by
  conv=>lhs;rw[show f.beN.length=(Z' f.beN-1)+1 by omega,Nat.mul_succ]
 unfold bG;rw[show 2+Z' f.beM*Z' f.beN+d=(Z' f.beM+(Z' f.beM*(Z' f.beN-1)+d))+1+1 by omega];show(c.vols++(c.beU.flatten++c.bfE)).getD _ false=_;have e:=ED h.r;rw[h.i]at e;rw[bgF,biB (by rw[h.v];omega),h.v,Nat.add_sub_cancel_left,biB Om,e,Nat.add_sub_cancel_left,←bgF]
theorem aSR{f:aD}(hV:VF f){c:fV}(h:Shape f c):(tP c).length=bG f f.beK.length:=by
 have j:=hV.root.1;have e:Z' f.beM*Z' f.beN=Z' f.beM*(Z' f.beN-1)+Z' f.beM:=by
  conv=>lhs;rw[show f.beN.length=(Z' f.beN-1)+1 by omega,Nat.mul_succ]
 unfold tP bG;rw[bhT,bhT,bgB,bgB,ED h.r,h.v,h.i,h.d];omega
theorem aiZ(f:aD)(S:Nat→Bool):Shape f (DH f S):=by
 refine⟨by simp[DH],by simp[DH],by simp[DH],λr e=>?_⟩;obtain⟨v,-,rfl⟩:=bhC.1 e;simp
theorem yx{S T:Nat→Bool}:∀{l:List bY},(∀a∈l,S a.src=T a.src∧S a.dst=T a.dst)→eH S l=eH T l
 |[],_=>rfl
 |a::l,h=>by rw[eH,eH,(h a aY).1,(h a aY).2,yx λb hb=>h b (by simp[hb])]
theorem V1{f:aD}(hV:VF f)(room:List Int){S T:Nat→Bool}(x:S 0=T 0)(y:S 1=T 1)(u:∀v i,v<Z' f.beM→i<Z' f.beN→S (cR f v i)=T (cR f v i))(w:∀d,d<Z' f.beK→S (bG f d)=T (bG f d)):eH S (eZ f room)=eH T (eZ f room):=by
 have j:=hV.root.1;refine yx λa ha=>?_;rcases bhK.1 ha with ha|ha
 ·obtain⟨v,l,ha⟩:=List.mem_flatMap.1 ha;have l:=bgW.1 l;rcases bgN.1 ha with rfl|ha
  ·exact⟨x,u v 0 l j⟩
  rcases bhK.1 ha with ha|ha
  ·obtain⟨k,e,rfl⟩:=bhC.1 ha;have e:=bgW.1 e;exact⟨u v _ l (by have:=(hV.dom (k+1) Om Om).2.1;omega),u v (k+1) l Om⟩
  ·obtain⟨d,e,rfl⟩:=bhC.1 ha;have e:=bgW.1 (bjS.1 e).1;exact⟨u v _ l (by have:=(hV.drive d e).2.2;omega),w d e⟩
 ·obtain⟨d,e,rfl⟩:=bhC.1 ha;exact⟨w d (bgW.1 e),y⟩
theorem a5F{f:aD}(hV:VF f)(room:List Int){S:Nat→Bool}(l:S 0=true)(u:S 1=false):eH (xW (DH f S)) (eZ f room)=eH S (eZ f room):=by
 have j:=aiZ f S;refine V1 hV room (by rw[l];rfl) (by rw[u];rfl) (λv i e hi=>?_) λd w=>?_
 ·cases i with
  |zero=>rw[arS j e];simp[DH,e]
  |succ i =>rw[arQ j e Om];have:i<Z' f.beN-1:=Om;simp[DH,e,this]
 ·rw[arR hV j];simp[DH,w]
theorem check_sound{f:aD}(hV:VF f){room:List Int}{c:fV}(h:wB f room c=true):¬EX f room:=by
 rintro⟨u,A⟩;unfold wB at h;rw[bgU,decide_eq_true_eq]at h;have:=A.cut hV (xW c) (a0C c) (a0B c);omega
theorem aRQ{f:aD}(hV:VF f){room:List Int}{xs:List Nat}(l:jY (cY f room) xs){S:Nat→Bool}(e:S 0=true)(j:S 1=false)(u:kT (cY f room) xs=eH S (eZ f room))(w:¬EX f room):wB f room (DH f S)=true:=by
 have h:=mt (J0 hV l e j u).1 w;unfold wB;rw[EP.2 (aiZ f S),a5F hV room e j,bgO,decide_eq_true_eq];omega

abbrev yQ(f:aD):List PV:=[.int .i64 (Z' f.beM:Nat),.int .i64 (Z' f.beN:Nat)]
theorem a2O{C:Ctx}(f:aD)(v:Nat)(j:v≤100):df.wp C (aW aVY.res (aK (.int .i64 ((2+v:Nat):Int)))) (PF.args [.agg (yQ f),.int .i64 (v:Nat)]) .nil:=by
 have e:IntKind.i64.wrap (2+(v:Int))=((2+v:Nat):Int):=by rw[wrap_i64 Om Om];omega
 simp only[go_sem,df,azK,azL,aVY,e];refine aU (.inr rfl) rfl ?_;rfl
theorem axK{a b:Nat}(j:a≤100)(hb:b≤100):IntKind.i64.wrap ((a:Int)*(b:Int))=((a*b:Nat):Int)∧a*b≤10000:=by
 have e:a*b≤100*100:=bjL j hb;rw[←Int.natCast_mul,wrap_i64 Om Om];exact⟨rfl,e⟩
theorem afK{f:aD}(u:Small f){v i:Nat}(w:v≤100)(hi:i≤100)(e:i≠0)(y:0<Z' f.beN) :
  IntKind.i64.wrap (IntKind.i64.wrap (IntKind.i64.wrap (IntKind.i64.wrap (2+(Z' f.beM:Int))+IntKind.i64.wrap ((v:Int)*IntKind.i64.wrap ((Z' f.beN:Int)-1)))+(i:Int))-1)=((cR f v i:Nat):Int):=by
 obtain⟨s1,s2,s3,s4,A,B⟩:=u;rw[wrap_i64 (n:=(Z' f.beN:Int)-1) Om Om,show(Z' f.beN:Int)-1=((Z' f.beN-1:Nat):Int) by omega];obtain⟨j,x⟩:=axK (a:=v) (b:=Z' f.beN-1) w Om;rw[j];have l:cR f v i=2+Z' f.beM+v*(Z' f.beN-1)+i-1:=by unfold cR;rw[aE e]
 rw[l];generalize v*(Z' f.beN-1)=z at *
 rw[wrap_i64 (n:=2+(Z' f.beM:Int)) Om Om,wrap_i64 (n:=2+(Z' f.beM:Int)+(z:Int)) Om Om,wrap_i64 (n:=2+(Z' f.beM:Int)+(z:Int)+(i:Int)) Om Om,wrap_i64 Om Om];omega
theorem arX{f:aD}(j:Small f){d:Nat}(u:d≤100) :
  IntKind.i64.wrap (IntKind.i64.wrap (2+IntKind.i64.wrap ((Z' f.beM:Int)*(Z' f.beN:Int)))+(d:Int))=((bG f d:Nat):Int):=by
 obtain⟨s1,s2,s3,s4,w,x⟩:=j;obtain⟨e,l⟩:=axK (a:=Z' f.beM) (b:=Z' f.beN) Om Om;rw[e];unfold bG;generalize f.beM.length*Z' f.beN=z at *
 rw[wrap_i64 (n:=2+(z:Int)) Om Om,wrap_i64 Om Om];omega
theorem aMB(f:aD)(v:Nat):cR f v 0=2+v:=rfl
theorem a2G{C:Ctx}(u:∀(f:aD)(v:Nat),v≤100→aI C 282 [.agg (yQ f),.int .i64 (v:Nat)] .nil (aK (.int .i64 ((2+v:Nat):Int))))(f:aD)(x:Small f)(w:0<Z' f.beN)(v i:Nat)(l:v≤100)(hi:i≤100) :
  LH.wp C (aW aIP.res (aK (.int .i64 ((cR f v i:Nat):Int)))) (PF.args [.agg (yQ f),.int .i64 (v:Nat),.int .i64 (i:Nat)]) .nil:=by
 by_cases j:i=0
 ·subst j;simp only[go_sem,LH,Hy,Hz,aIP,ayI,Int.natCast_zero,bT (show((0:Nat):Int)=0 from rfl)];refine aB (u f v l) rfl ?_;simp only[go_sem];refine aU (.inr rfl) rfl ?_;rfl
 ·have e:=afK x l hi j w;simp only[go_sem,LH,Hy,Hz,aIP,bD (Om:¬((i:Nat):Int)=0),ayJ,e];refine aU (.inr rfl) rfl ?_;rfl
theorem a2H{C:Ctx}(f:aD)(l:Small f)(d:Nat)(j:d≤100):cj.wp C (aW aVN.res (aK (.int .i64 ((bG f d:Nat):Int)))) (PF.args [.agg (yQ f),.int .i64 (d:Nat)]) .nil:=by
 have e:=arX l j;simp only[go_sem,cj,ayK,ayL,aVN,e];refine aU (.inr rfl) rfl ?_;rfl
theorem aWM{C:Ctx}(f:aD)(u:Small f)(l:0<Z' f.beN)(v i:Nat)(w:v≤100)(hi:i≤100) :
  GR.wp C (aW Uz.res (aK (.int .i64 ((cR f v i:Nat):Int)))) (PF.args [.agg f.cells,.int .i64 (v:Nat),.int .i64 (i:Nat)]) .nil:=by
 by_cases j:i=0
 ·subst j;have e:IntKind.i64.wrap (2+(v:Int))=((2+v:Nat):Int):=by rw[wrap_i64 Om Om];omega
  simp only[go_sem,GR,wc,wd,Uz,ahW,Int.natCast_zero,bT (show((0:Nat):Int)=0 from rfl),e];refine aU (.inr rfl) rfl ?_;rfl
 ·have e:=afK u w hi j l;simp only[go_sem,GR,wc,wd,Uz,bD (Om:¬((i:Nat):Int)=0),ahX,bfY,e];refine aU (.inr rfl) rfl ?_;rfl
theorem a2Z{C:Ctx}(f:aD)(l:Small f)(d:Nat)(j:d≤100):dw.wp C (aW aWK.res (aK (.int .i64 ((bG f d:Nat):Int)))) (PF.args [.agg f.cells,.int .i64 (d:Nat)]) .nil:=by
 have e:=arX l j;simp only[go_sem,dw,aAK,aAL,aWK,bfY,e];refine aU (.inr rfl) rfl ?_;rfl
theorem arI{f:aD}(hV:VF f)(k:Nat)(j:k≤Z' f.beM):dO (gP f) k≤8*k:=by
 induction k with
 |zero=>exact bgG _
 |succ k e =>have:=(oI hV (v:=k) Om).1;have:=e Om;rw[dO];omega
theorem aPJ{C:Ctx}(u:∀(f:aD)(v:Nat),VF f→v<Z' f.beM→aI C 82 [.agg f.cells,.int .i64 (v:Nat)] .nil (aK (.int .i64 (nI f v))))(f:aD)(hV:VF f) :
  OJ.wp C (aW ahY.res (aK (.int .i64 ((rO f:Nat):Int)))) (PF.args [.agg f.cells]) .nil:=by
 have B:=hV.small.beM;simp only[go_sem,OJ,O2,O3,O4,ahY];refine wp_loop (α:=Nat) (λk=>(((PF.nil.set 1 (.bE f.cells)).set 3 (.int .i64 ((dO (gP f) k:Nat):Int))).set 4 (.int .i64 (k:Nat)))) (λ_=>.nil) (λk=>k≤Z' f.beM) (λk=>Z' f.beM-k) 0 (bgE _) (by(repeat' (first|exact c_|refine d_ ?_ ?_))<;>first|(simp only[go_sem,dO]<;>rfl)|rfl) a_ ?_;intro k w;simp only[go_sem,O1,O5,bfY];by_cases hlt:k<Z' f.beM
 ·have j:(k:Int)<(Z' f.beM:Nat):=Om;obtain⟨x,y,l,-⟩:=oI hV hlt;have A:=arI hV k w;have e:IntKind.i64.wrap (((dO (gP f) k:Nat):Int)+nI f k)=((dO (gP f) (k+1):Nat):Int):=by rw[dO,←l,wrap_i64 Om Om];omega
  simp only[go_sem,j,O6];refine aB (u f k hV hlt) rfl ?_;simp only[go_sem,e,O7,wZz k];exact aG (k+1) hlt Om Lq a_
 ·have j:¬(k:Int)<(Z' f.beM:Nat):=Om;have:k=Z' f.beM:=Om;subst this;simp only[go_sem,j,O8];refine aU (.inr rfl) rfl ?_;rfl








theorem mJ{t:Nat}{b j:Bool}{F:PF}{H:PH}(h:F t=some (.bool b))(e:b=j):aW [.tmp t] (aK (.bool j)) .ret F H:=by
 subst e;exact bB (.inr rfl) .nil (vs:=[.bool b]) (by rw[qE,tV,h,vJ]) a_ ⟨rfl,rfl⟩
end Go.PM
