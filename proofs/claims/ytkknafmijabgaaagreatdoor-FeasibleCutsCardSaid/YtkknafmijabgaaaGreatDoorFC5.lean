/-
  Texts of ours, joined. No condition.
-/
import Derived.Test.YtkknafmijabgaaaGreatDoorFC1
import Derived.Test.YtkknafmijabgaaaGreatDoorFC2
import Derived.Test.YtkknafmijabgaaaGreatDoorFC3
import Derived.Test.YtkknafmijabgaaaGreatDoorFC4
import Derived.Test.YtkknafmijabgaaaGreatDoorRows
import Derived.Test.YtkknafmijabgaaaGreatDoorProg
import Derived.KernelRfl
import Derived.ProofKit
import Derived.WalkKit
import Derived.LaidMore
import Derived.OpenShut
import Derived.Stop.Joined
set_option linter.unusedSimpArgs false
set_option linter.unusedVariables false
open Nat renaming reduceEqDiff→γ,reduceAdd→δ,reduceSub→ε,reduceMul→ζ,reduceLT→η,reduceLeDiff→θ
open Int renaming reduceLT→ι,reduceLE→κ,reduceEq→μ
open List renaming range→a3U,length_map→a3V,replicate→a3W,getElem_mem→a3Y,length_append→a3Z,getElem?_eq_getElem→a4C,getD_eq_getElem?_getD→a4D,length_singleton→a4E,mem_cons→a4J,length_take→a4M,take_of_length_le→a4N,getElem?_map→a4Q,mem_range→a4S,all_eq_true→a4T,not_mem_nil→a4U,mem_map→a4W,mem_singleton→a4X,getElem?_eq_some_iff→a5A,append_assoc→a5C,map_cons→a5D,mem_append→a5E,take_length→a5F,drop_zero→a5J,map_append→a5L,length_drop→a5M,append_nil→a5O,length_cons→a5P,length_set→a5Q,getElem_of_mem→a5R,mem_of_getElem?→a5S,getElem?_append_left→a5U,getElem?_append_right→a5V,take_succ_eq_append_getElem→a5W,map_congr_left→a6A,Sublist→a6B,getElem_map→a6E,length_nil→a6F,Perm→a6I,drop_eq_getElem_cons→a6J,map_nil→a6L,length_range→a6M,range_succ→a6N,nodup_append→a6V,take_append_drop→a6W,map_map→a7A,mem_cons_of_mem→a7B,nil_append→a7C,mem_append_left→a7K,cons_append→a7L,mem_filter→a7M,getElem?_set→a7N,contains_iff_mem→a7T,sublist_append_left→a7W
open Nat renaming gcd→a3X,zero_le→a4A,le_refl→a4B,zero_add→a4I,mul_add→a4L,lt_or_ge→a4R,mul_comm→a4Y,mul_le_mul_right→a4Z,add_zero→a5H,eq_zero_or_pos→a6C,succ_mul→a6D,min_eq_left→a6G,add_assoc→a6O,pos_of_ne_zero→a6Q,le_trans→a6T,div_eq_of_lt→a7D,div_le_self→a7E,mul_le_mul→a7G
open Bool renaming false_and→a4F,not_true→a4H,true_and→a4K,not_false→a4O,and_eq_true→a4P,and_false→a5I,and_true→a5Z,false_eq_true→a6Z,and_assoc→a7H
open Option renaming map_some→a5B,some→a6H,getD_some→a6R
open Int renaming toNat_natCast→a6U
open List renaming length→Z'
set_option maxRecDepth 100000
set_option maxHeartbeats 800000
noncomputable section
namespace Go.Proofs.YtkknafmijabgaaaGreatDoor
open Go Go.PM Go.RowKit Go.ChangeShapes Go.WideShapes
noncomputable def C:Ctx:=⟨Tryz.prog,num⟩
theorem bQ(T:Tbl){k:Nat}{fn:Func}{e:bA}(w:C.P.funcs[C.num k]?=some fn)(l:C.P=T.P:=by rfl)(j:C.num=T.num:=by rfl)(y:(fn.name=="runtime.NumGoroutine")=false:=by kernel_rfl)(u:T.func fn=some e:=by kernel_rfl):bN C k e:=λ_ _ _ x h=>aBD l j w y u x h
theorem Tryz.own:ownKnob Tryz.prog.godebug=none:=by kernel_rfl
theorem Tryz.laidOut:laidOutB Tryz.prog=true:=by kernel_rfl
theorem itoa:CX C:=λn x=>by
 refine⟨⟨Tryz.f79,Tryz.func79,by kernel_rfl,by kernel_rfl⟩,λE w vs y hW j=>?_⟩;obtain⟨A⟩:=vs;cases j with
 |cons l u=>
 cases u;cases l;refine(Any.strconv_Itoa_small Tryz.aPP n x w).mono λe B he=>?_;obtain⟨rfl,rfl⟩:=he;exact⟨_,.str (dC n),E,.nil,rfl,hW,.str ⟨(Lib.decDigits n).toArray⟩,.refl _ _ _,rfl,rfl⟩
theorem Eh{pv:PV}(h:PV.Ty (.sl [.int .u8]) pv):∃l:List Nat,pv=.sl 1 (mF l)∧(∀x∈l,x<256)∧Z' l≤9223372036854775807:=by
 obtain⟨xs,rfl,B,j⟩:=Ty.aIO h;refine⟨xs.map Int.toNat,?_,?_,?_⟩
 ·unfold awY mF;rw[a7A];congr 1;refine a6A λx u=>?_;have:=(j x u).1;simp only[Function.comp];rw[Int.toNat_of_nonneg this]
 ·intro y w;obtain⟨x,e,rfl⟩:=a4W.1 w;have:=(j x e).2;have A:=(j x e).1;have e:IntKind.u8.max=255:=by decide
  rw[e]at this;omega
 ·rw[a3V];have:maxLen≤9223372036854775807:=by decide
  omega
end Go.Proofs.YtkknafmijabgaaaGreatDoor
namespace Go.PM
open Go Go.Na
theorem sk{f:aD}(h:VF f){d:Nat}(e:d<Z' f.a2G){lev:Int}(j:0≤lev)(l:lev≤4):mT f d lev<Z' f.a2J∧lvl f (mT f d lev)=lev:=by
 unfold mT;obtain⟨a,b⟩:=aa h e (k:=4-lev.toNat) Om;refine⟨a,?_⟩;rw[b];omega
theorem Gb{f:aD}(h:VF f){i:Nat}(hi:i<Z' f.a2J):0≤lvl f i∧lvl f i≤4:=by
 rcases a6C i with e|e
 ·rw[e,h.root.2.1];omega
 ·have:=h.dom i e hi;omega


theorem amJ(a b:Nat):mkT (a:Int) (b:Int)=⟨false,aM (a/a3X a b),aM (b/a3X a b)⟩:=by
 have e:decide ((a:Int)<0)=false:=cF Om;have j:decide ((b:Int)<0)=false:=cF Om;unfold mkT rR FV.rf;rw[e,j,Int.natAbs_natCast,Int.natAbs_natCast];rfl
structure SmF(x:RF)(p q:Nat):Prop where
 eq:x=⟨false,aM (p/a3X p q),aM (q/a3X p q)⟩
 a:p≤64
 b:q≤64
 pos:0<q
theorem SmF.mk'{a b:Nat}(e:a≤64)(hb:b≤64)(h:0<b):SmF (mkT (a:Int) (b:Int)) a b:=⟨amJ a b,e,hb,h⟩
theorem SmF.num{x:RF}{a b:Nat}(h:SmF x a b):val x.num=a/a3X a b:=by rw[h.eq,aY]
theorem SmF.den{x:RF}{a b:Nat}(h:SmF x a b):val x.den=b/a3X a b:=by rw[h.eq,aY]
theorem SmF.v{x:RF}{a b:Nat}(h:SmF x a b):x.v=(false,a/a3X a b,b/a3X a b):=by
 unfold RF.v;rw[h.num,h.den,h.eq]
theorem SmF.X3{x:RF}{a b:Nat}(_:SmF x a b):a/a3X a b≤a:=a7E ..
theorem SmF.O9{x:RF}{a b:Nat}(_:SmF x a b):b/a3X a b≤b:=a7E ..
theorem SmF.den_pos{x:RF}{a b:Nat}(h:SmF x a b):0<b/a3X a b:=Nat.div_pos (Nat.le_of_dvd h.pos (Nat.gcd_dvd_right a b)) (Nat.gcd_pos_of_pos_right a h.pos)
theorem FF{n:Nat}(h:n≤4096):dV n≤32:=(qV n 32).2 Om
theorem afU{n:Nat}(h:0<n):0<dV n:=by
 rcases a6C (dV n)with e|e
 ·rw[oG]at e;omega
 ·exact e
theorem zZ{a b:Nat}(j:a≤4096)(hb:b≤4096)(h:0<b):eF a b=true:=by
 have l:=FF j;have u:=FF hb;have e:=afU h;unfold eF;rw[cB e,cB (Om:dV b≤4096),cB (Om:dV a≤4096)];rfl
theorem alQ{n:Bool}{a b:Nat}(e:a≤4096)(hb:b≤4096):mH n a b=.ok (n&&decide (a/a3X a b≠0),a/a3X a b,b/a3X a b):=by
 have j:=FF (a6T (a7E a (a3X a b)) e);have l:=FF (a6T (a7E b (a3X a b)) hb);unfold mH;rw[aG Om]
theorem SmF.lim{x:RF}{a b:Nat}(h:SmF x a b):eC x=true:=by
 have w:=h.X3;have y:=h.O9;have e:=h.den_pos;have:=h.a;have:=h.b;have j:x.neg=false:=by rw[h.eq]
 unfold eC tY;rw[h.num,h.den,j,zZ Om Om e,aL rfl,alQ Om Om];have l:=a7E (a/a3X a b) (a3X (a/a3X a b) (b/a3X a b));have u:=a7E (b/a3X a b) (a3X (a/a3X a b) (b/a3X a b));simp only[a4F,a4O,a4K,a4P,decide_eq_true_eq];exact⟨FF Om,FF Om⟩
theorem SmF.wW{x:RF}{a b:Nat}(h:SmF x a b)(e:0<a):bV x=true:=by
 unfold bV;rw[h.num];exact cB (Nat.ne_of_gt (Nat.div_pos (Nat.le_of_dvd e (Nat.gcd_dvd_left a b)) (Nat.gcd_pos_of_pos_right a h.pos)))
theorem SmF.zero{x:RF}{b:Nat}(h:SmF x 0 b):bV x=false:=by
 unfold bV;rw[h.num,Nat.zero_div];rfl
theorem SmF.one{x:RF}{a b:Nat}(h:SmF x a b)(e:a≤b):DB x=true:=by
 have u:=h.X3;have w:=h.O9;have j:=h.den_pos;have:=h.a;have:=h.b;have l:x.neg=false:=by rw[h.eq]
 unfold DB;rw[h.num,h.den,l,zZ Om Om j];have:a/a3X a b≤b/a3X a b:=Nat.div_le_div_right e;show(true&&decide (fB (a/a3X a b*1) (1*(b/a3X a b))≤0))=true;rw[Nat.mul_one,Nat.one_mul,a4K];refine cB ?_;unfold fB;split
 ·decide
 ·split
  ·omega
  ·decide
theorem SmF.ok{x:RF}{a b:Nat}(h:SmF x a b):x.Ok:=by
 have e:=h.X3;have j:=h.O9;have:=h.a;have:=h.b;have k1:nl (a/a3X a b)≤1:=(mO _ _).2 Om;have k2:nl (b/a3X a b)≤1:=(mO _ _).2 Om;rw[h.eq];refine⟨bB _,bB _,?_,?_⟩
 ·show(aM _).length≤_;rw[bH];omega
 ·show(aM _).length≤_;rw[bH];omega
theorem aOI:∀c:Fin 9,∀k:Fin 9,c.val+k.val≤8 →
  (c.val/a3X c.val 8*(8/a3X k.val 8)+k.val/a3X k.val 8*(8/a3X c.val 8))/a3X (c.val/a3X c.val 8*(8/a3X k.val 8)+k.val/a3X k.val 8*(8/a3X c.val 8)) (8/a3X c.val 8*(8/a3X k.val 8))=(c.val+k.val)/a3X (c.val+k.val) 8 ∧
  8/a3X c.val 8*(8/a3X k.val 8)/a3X (c.val/a3X c.val 8*(8/a3X k.val 8)+k.val/a3X k.val 8*(8/a3X c.val 8)) (8/a3X c.val 8*(8/a3X k.val 8))=8/a3X (c.val+k.val) 8:=by decide +kernel
abbrev eV(c:Nat):FV:=(false,c/a3X c 8,8/a3X c 8)
theorem el(c:Nat):0<8/a3X c 8:=Nat.div_pos (Nat.le_of_dvd aX (Nat.gcd_dvd_right c 8)) (Nat.gcd_pos_of_pos_right c aX)
theorem Ou{c k:Nat}(h:c+k≤8):lC (eV c) (eV k)=.ok (eV (c+k)):=by
 obtain⟨e,j⟩:=aOI ⟨c,by omega⟩ ⟨k,by omega⟩ h;simp only at e j;have a1:=a7E c (a3X c 8);have a2:=a7E k (a3X k 8);have a3:=a7E 8 (a3X c 8);have a4:=a7E 8 (a3X k 8);have l:=el c;have u:=el k;simp only[lC];rw[zZ Om Om l,zZ Om Om u,Bool.and_self,aL rfl,aL trivial];have w:c/a3X c 8*(8/a3X k 8)≤8*8:=a7G Om a4;have x:k/a3X k 8*(8/a3X c 8)≤8*8:=a7G Om a3;have y:8/a3X c 8*(8/a3X k 8)≤8*8:=a7G a3 a4;rw[alQ Om Om,e,j];rfl
theorem ZO:∀(l:List Nat)(c:Nat),c+l.sum≤8→(l.map eV).foldlM lC (eV c)=.ok (eV (c+l.sum))
 |[],c,_=>rfl
 |k::l,c,h=>by rw[List.sum_cons]at h;rw[a5D,List.foldlM_cons,Ou Om,List.sum_cons,←a6O];exact ZO l (c+k) Om
theorem aOH:eV 0=(false,0,1):=by decide +kernel
theorem aHD:eV 8=(false,1,1):=by decide +kernel
theorem aRL(l:List Nat)(h:l.sum=8):(match sN (l.map eV)with
  | .ok (n,a,b)=>decide (uT n a b false 1 1=0)
  | .error _=>false)=true:=by
 unfold sN;rw[←aOH,ZO l 0 Om,a4I,h,aHD];rfl
def dig(k:Nat):List UInt8:=if k<10 then[UInt8.ofNat (48+k)]else[UInt8.ofNat (48+k/10),UInt8.ofNat (48+k%10)]
def du:List UInt8→Nat
 |[a]=>a.toNat-48
 |[a,b]=>(a.toNat-48)*10+(b.toNat-48)
 |_=>0
theorem XC{k:Nat}(h:k<100):dC k=dig k:=by
 unfold dC dig;by_cases e:k<10
 ·rw[aL e];exact Lib.decDigits_one e
 ·rw[aG e];exact Lib.decDigits_two e h
theorem Pb:∀k:Fin 100,du (dig k.val)=k.val∧(dig k.val).length≤2∧((dig k.val).all λc=>jU c.toNat)=true:=by decide +kernel
theorem Cw{p:List UInt8}{c:UInt8}{t:List UInt8}(e:p=c::t)(l:iW c.toNat=true)(x:(t.all λc=>jU c.toNat)=true)(y:Z' p≤8){k:Nat}(u:k<100):isName (p++dC k)=true:=by
 obtain⟨-,w,j⟩:=Pb ⟨k,u⟩;simp only at w j;subst e;rw[XC u];show(decide ((c::t++dig k).length≤16)&&iW c.toNat&&(c::t++dig k).all λc=>jU c.toNat)=true;have hi:jU c.toNat=true:=by unfold jU;rw[l];rfl
 rw[cB (by rw[a3Z];omega),l,List.all_append,j,List.all_cons,x,hi];rfl
theorem ef{l:List (List UInt8)}(u:∀x∈l,isName x=true)(w:l.Nodup):distinct l=true:=by
 unfold distinct;rw[a4T];intro i hi;rw[a4S]at hi;have e:l.getD i []=l[i]:=by simp[a4D,hi]
 rw[e,u _ (a3Y hi),a4K];have:¬l[i]∈l.take i:=by intro A;obtain⟨j,y,e⟩:=a5R A;rw[a4M]at y;rw[List.getElem_take]at e;have:=(List.nodup_iff_pairwise_ne.1 w);rw[List.pairwise_iff_getElem]at this;exact this j i Om hi Om e
 simp[this]
theorem XZ{l:List (List UInt8)}{g:List UInt8→Nat}(h:∀i (hi:i<Z' l),g l[i]=i):l.Nodup:=by
 rw[List.nodup_iff_pairwise_ne,List.pairwise_iff_getElem];intro i j hi w hlt e;have u:=h i hi;have x:=h j w;rw[e]at u;omega
theorem yW{l:List (List UInt8)}{p:List UInt8}{c:UInt8}{t:List UInt8}(e:p=c::t)(j:iW c.toNat=true)(w:(t.all λc=>jU c.toNat)=true)(u:Z' p≤8)(A:Z' l≤100)(h:∀i (hi:i<Z' l),l[i]=p++dC i):distinct l=true:=by
 refine ef ?_ (XZ (g:=λs=>du (s.drop p.length)) ?_)
 ·intro x y;obtain⟨i,hi,rfl⟩:=a5R y;rw[h i hi];exact Cw e j w u Om
 ·intro i hi;rw[h i hi];simp only[List.drop_left];rw[XC Om];exact(Pb ⟨i,by omega⟩).1
structure yO(x:RF):Prop where
 lim:eC x=true
 ok:x.Ok
theorem SmF.o{x:RF}{a b:Nat}(h:SmF x a b):yO x:=⟨h.lim,h.ok⟩
theorem vD:SmF nT 0 1:=SmF.mk' (a:=0) (b:=1) aX aX aX
theorem xI(l:List Nat)(a:Nat):yO (jP l a).1∧bV (jP l a).1=true:=by
 have e:=dQ l (show 0<6 by decide) a;have j:=dQ l (show 0<8 by decide) (aI l 6 a).2;have:=SmF.mk' (a:=1+(aI l 6 a).1) (b:=1+(aI l 8 (aI l 6 a).2).1) Om Om Om;exact⟨this.o,this.wW Om⟩
theorem aGS(l:List Nat)(i j a:Nat):yO (mN l i j a).1∧(j=i→bV (mN l i j a).1=false)∧(j=i+1→bV (mN l i j a).1=true):=by
 unfold mN;by_cases e:j=i+1
 ·rw[aL e];exact⟨(xI l a).1,λh=>by omega,λ_=>(xI l a).2⟩
 ·rw[aG e];by_cases u:j=i
  ·rw[aL u];exact⟨vD.o,λ_=>vD.zero,λh=>absurd h e⟩
  ·rw[aG u];simp only;split
   ·exact⟨(xI l _).1,λh=>absurd h u,λh=>absurd h e⟩
   ·exact⟨vD.o,λh=>absurd h u,λh=>absurd h e⟩
theorem aqZ(l:List Nat)(i a:Nat):∀n,(fG l i a n).1.length=n∧∀j (u:j<(fG l i a n).1.length),yO (fG l i a n).1[j]∧(j=i→bV (fG l i a n).1[j]=false)∧(j=i+1→bV (fG l i a n).1[j]=true)
 |0=>⟨rfl,λj u=>absurd u (by simp[fG])⟩
 |n+1=>by
  obtain⟨w,x⟩:=aqZ l i a n;have e:(fG l i a (n+1)).1=(fG l i a n).1++[(mN l i n (fG l i a n).2).1]:=rfl;rw[e];refine⟨by simp[w],λj u=>?_⟩;by_cases hlt:j<(fG l i a n).1.length
  ·rw[List.getElem_append_left hlt];exact x j hlt
  ·rw[a3Z,a4E]at u;have:j=n:=Om;subst this;rw[List.getElem_append_right Om];simp only[List.getElem_singleton];exact aGS l i j _
theorem aqY(l:List Nat)(a:Nat):∀n,(oO l a n).1.length=n∧∀x∈(oO l a n).1,yO x∧bV x=true
 |0=>⟨rfl,λx j=>by cases j⟩
 |n+1=>by
  obtain⟨u,w⟩:=aqY l a n;have e:(oO l a (n+1)).1=(oO l a n).1++[(jP l (oO l a n).2).1]:=rfl;rw[e];refine⟨by simp[u],λx j=>?_⟩;rw[a5E,a4X]at j;rcases j with j|rfl
  ·exact w x j
  ·exact xI l _
theorem aHH(l:List Nat)(n i a:Nat):yO (jB l n i a).1∧(i+1=n→bV (jB l n i a).1=true):=by
 unfold jB;by_cases h:i+1<n
 ·simp only[aL h];refine⟨?_,λe=>by omega⟩;split
  ·exact vD.o
  ·exact(xI l a).1
 ·simp only[aG h];exact⟨(xI l a).1,λ_=>(xI l a).2⟩
def aST(n:Nat)(a2L:List (List RF)):Prop:=∀i (hi:i<Z' a2L),a2L[i].length=n∧∀j (e:j<a2L[i].length),yO a2L[i][j]∧(j=i→bV a2L[i][j]=false)∧(j=i+1→bV a2L[i][j]=true)
def aSN(n:Nat)(exit:List RF):Prop:=∀i (hi:i<Z' exit),yO exit[i]∧(i+1=n→bV exit[i]=true)
structure aYW(n i:Nat)(s:JP)(cs:List Nat):Prop where
 start:s.start=cs.map λc=>mkT ((c:Nat):Int) ((8:Nat):Int)
 lens:Z' s.exit=i∧Z' s.a2L=i∧Z' cs=i
 left:cs.sum+s.left=8∧(i=n→0<n→s.left=0)
 exit:aSN n s.exit
 a2L:aST n s.a2L
theorem xS{α:Type}{P:Nat→α→Prop}{xs:List α}{x:α}(h:∀i (hi:i<Z' xs),P i xs[i])(e:P xs.length x):∀i (hi:i<(xs++[x]).length),P i (xs++[x])[i]:=by
 intro i hi;by_cases hlt:i<Z' xs
 ·rw[List.getElem_append_left hlt];exact h i hlt
 ·rw[a3Z,a4E]at hi;have:i=Z' xs:=Om;subst this;rw[List.getElem_append_right Om];simpa using e
theorem Fy(l:List Nat)(n a:Nat):∀i,i≤n→∃cs,aYW n i (kB l n a i) cs
 |0,_=>⟨[],rfl,⟨rfl,rfl,rfl⟩,⟨rfl,λh u=>by omega⟩,λi hi=>absurd hi (by simp[kB]),λi hi=>absurd hi (by simp[kB])⟩
 |i+1,hi=>by
  obtain⟨cs,y,⟨u,w,A⟩,⟨h5,-⟩,B,h7⟩:=Fy l n a i Om;generalize F:kB l n a i=s at *
  have e:kB l n a (i+1)=⟨s.start++[mkT ((fE l n i s).1:Nat) 8],s.exit++[(jB l n i (fE l n i s).2).1],s.a2L++[(fG l i (jB l n i (fE l n i s).2).2 n).1],s.left-(fE l n i s).1,(fG l i (jB l n i (fE l n i s).2).2 n).2⟩:=by simp only[kB,F]
  rw[e];have E:(fE l n i s).1≤s.left∧(i+1=n→(fE l n i s).1=s.left):=by
   unfold fE;split
   ·exact⟨by have:=dQ l (Om:0<s.left+1) s.a;omega,λh=>by omega⟩
   ·exact⟨a4B _,λ_=>rfl⟩
  refine⟨cs++[(fE l n i s).1],?_,⟨by simp[u],by simp[w],by simp[A]⟩,⟨?_,λh _=>?_⟩,?_,?_⟩
  ·simp only[y,a5L,a5D,a6L];rfl
  ·simp only[List.sum_append,List.sum_cons,List.sum_nil];omega
  ·have:=E.2 h;simp only;omega
  ·refine xS (P:=λi x=>yO x∧(i+1=n→bV x=true)) B ?_;rw[u];exact aHH l n i _
  ·refine xS (P:=λi (r:List RF)=>Z' r=n∧∀j (I:j<Z' r),yO r[j]∧(j=i→bV r[j]=false)∧(j=i+1→bV r[j]=true)) h7 ?_;rw[w];exact aqZ l i _ n
theorem aHF{x:dJ}{e r:RF}(j:x.exit=[e])(l:x.a2L=[[r]])(u:bV e=true):tZ x=true:=by
 unfold tZ;rw[j];show((eJ x 2).all id)=true;simp only[eJ,eH,oW,dT,j,l,a5P,a6F,List.getD_cons_zero,a5D,a6L,u];cases bV r<;>rfl
theorem ZC{x:dJ}{y A e j l u:RF}(B:x.exit=[y,A])(E:x.a2L=[[e,j],[l,u]])(F:bV A=true)(I:bV j=true)(a b:Bool) :
  ∃c,eH x [a,b] 2=[c,true]∧(b=true→c=true)∧(a=true→c=true):=by
 have J:oW x [a,b] 0=[((a||bV y)||bV e&&(a||bV y))||b,b]:=by unfold oW;rw[B,E];simp only[List.getD_cons_zero,a5D,List.set_cons_zero];generalize(a||bV y)=c;show dT [c,b] 0 [e,j] 2=_;have:dT [c,b] 0 [e,j] 1=[c||bV e&&c,b]:=rfl;show(let w:=dT [c,b] 0 [e,j] 1;w.set 0 (w.getD 0 false||([e,j].map bV).getD 1 false&&w.getD 1 false))=_;rw[this];show[(c||bV e&&c)||(bV j&&b),b]=_;rw[I,a4K]
 have K:∀c,oW x [c,b] 1=[c,true]:=by intro c;unfold oW;rw[B,E];have:dT [c,true] 1 [l,u] 1=[c,true||bV l&&c]:=rfl;show dT [c,b||bV A] 1 [l,u] 2=_;rw[F,Bool.or_true];show(let w:=dT [c,true] 1 [l,u] 1;w.set 1 (w.getD 1 false||([l,u].map bV).getD 1 false&&w.getD 1 false))=_;rw[this,Bool.true_or];show[c,true||bV u&&true]=_;rw[Bool.true_or]
 refine⟨_,by rw[show eH x [a,b] 2=oW x (oW x [a,b] 0) 1 from rfl,J,K],?_,?_⟩
 ·rintro rfl;rw[Bool.or_true]
 ·rintro rfl;simp
theorem aHG{x:dJ}{u I B l E F:RF}(j:x.exit=[u,I])(w:x.a2L=[[B,l],[E,F]])(y:bV I=true)(A:bV l=true):tZ x=true:=by
 unfold tZ;rw[j];show((eJ x 3).all id)=true;have e:∀r,eJ x (r+1)=eH x (eJ x r) 2:=λr=>by rw[eJ,j];rfl
 have u:eJ x 0=[false,false]:=by rw[eJ,j];rfl
 obtain⟨J,k1,-,-⟩:=ZC j w y A false false;obtain⟨K,k2,R,-⟩:=ZC j w y A J true;obtain⟨O,M,N,-⟩:=ZC j w y A K true;rw[e,e,e,u,k1,k2,M,N rfl];rfl
theorem Uc{c:Nat}:∀{cs:List Nat},c∈cs→c≤cs.sum
 |k::t,h=>by
  rw[List.sum_cons];rcases a4J.1 h with rfl|h
  ·omega
  ·have:=Uc h;omega
theorem cw{α:Type}{l:List α}(h:Z' l=2):∃a b,l=[a,b]:=by
 match l,h with
 |[a,b],_=>exact⟨a,b,rfl⟩
theorem aUF(cs:List Nat)(h:cs.sum=8):(match sN ((cs.map λc=>mkT ((c:Nat):Int) ((8:Nat):Int)).map RF.v)with
  | .ok (n,a,b)=>decide (uT n a b false 1 1=0)
  | .error _=>false)=true:=by
 have l:∀c∈cs,c≤8:=λc j=>by have:=Uc j;omega
 have e:((cs.map λc=>mkT ((c:Nat):Int) ((8:Nat):Int)).map RF.v)=cs.map eV:=by rw[a7A];refine a6A λc j=>?_;have:=l c j;exact(SmF.mk' (a:=c) (b:=8) Om aX aX).v
 rw[e];exact aRL cs h
theorem FD{α:Type}{p:α→Bool}{l:List α}(h:∀i (hi:i<Z' l),p l[i]=true):l.all p=true:=by
 rw[a4T];intro x e;obtain⟨i,hi,rfl⟩:=a5R e;exact h i hi
theorem axA(l:List Nat)(a:Nat)(M:List UInt8):oK { (wK l 2 a).1 with name:=M }=true∧({ (wK l 2 a).1 with name:=M }:dJ).Ok:=by
 obtain⟨n,hn⟩:∃n,n=1+(aI l 2 a).1:=⟨_,rfl⟩;have Y:n=1∨n=2:=by have:=dQ l (show 0<2 by decide) a;omega
 obtain⟨cs,R,⟨h2,h3,h4⟩,⟨h5,U⟩,N,h7⟩:=Fy l n (aI l 2 a).2 n (a4B _);generalize hs:kB l n (aI l 2 a).2 n=s at *
 have e:({ (wK l 2 a).1 with name:=M }:dJ)=⟨M,s.start,s.a2L,s.exit⟩:=by simp only[wK,←hn,hs]
 rw[e];have K:cs.sum=8:=by have:=U rfl Om;omega
 have X:∀c∈cs,c≤8:=λc V=>by have:=Uc V;omega
 have w:∀x∈s.start,yO x:=by intro x u;rw[R]at u;obtain⟨c,V,rfl⟩:=a4W.1 u;have:=X c V;exact(SmF.mk' (a:=c) (b:=8) Om aX aX).o
 have β:Z' s.start=n:=by rw[R,a3V,h4]
 have A:tZ ⟨M,s.start,s.a2L,s.exit⟩=true:=by
  rcases Y with rfl|rfl
  ·obtain⟨e,he⟩:=List.length_eq_one_iff.1 h2;obtain⟨η,y⟩:=List.length_eq_one_iff.1 h3;have Z:=(h7 0 Om).1;obtain⟨r,J⟩:=List.length_eq_one_iff.1 Z;have u:=(N 0 Om).2 rfl;simp only[y,List.getElem_cons_zero]at J;simp only[he,List.getElem_cons_zero]at u;exact aHF he (by rw[y,J]) u
  ·obtain⟨e0,e1,he⟩:=cw h2;obtain⟨r0,r1,y⟩:=cw h3;have F:=(h7 0 Om).1;have I:=(h7 1 Om).1;have u:=(N 1 Om).2 rfl;have hy:=((h7 0 Om).2 1 Om).2.2 rfl;simp only[he,List.getElem_cons_succ,List.getElem_cons_zero]at u;simp only[y,List.getElem_cons_succ,List.getElem_cons_zero]at F I hy;obtain⟨γ,δ,B⟩:=cw F;obtain⟨ε,ζ,S⟩:=cw I;simp only[B,List.getElem_cons_succ,List.getElem_cons_zero]at hy;exact aHG he (by rw[y,B,S]) u hy
 constructor
 ·unfold oK;simp only[a4P];refine⟨⟨⟨⟨⟨⟨⟨?_,?_⟩,?_⟩,?_⟩,?_⟩,?_⟩,?_⟩,A⟩
  ·rw[within_iff];omega
  ·exact cB Om
  ·exact cB Om
  ·exact a4T.2 λx u=>(w x u).lim
  ·exact FD λi hi=>(N i hi).1.lim
  ·rw[a4T];intro i hi;rw[a4S]at hi;obtain⟨k1,k2⟩:=h7 i hi;have eg:s.a2L.getD i []=s.a2L[i]:=by simp[a4D,hi]
   rw[eg,a4P,a4P];refine⟨⟨cB Om,FD λj W=>(k2 j W).1.lim⟩,?_⟩;have E:i<s.a2L[i].length:=Om;rw[getD_at E,(k2 i E).2.1 rfl];rfl
  ·rw[R];exact aUF cs K
 ·have O:∀m:Nat,m≤2→m≤9223372036854775807:=λm hm=>by omega
  have α:n≤2:=Om;refine⟨⟨?_,λx u=>(w x u).ok⟩,⟨?_,λx u=>?_⟩,?_,λr y=>⟨?_,λx u=>?_⟩⟩
  ·exact O s.start.length Om
  ·exact O s.exit.length Om
  ·obtain⟨i,hi,rfl⟩:=a5R u;exact(N i hi).1.ok
  ·exact O s.a2L.length Om
  ·obtain⟨i,hi,rfl⟩:=a5R y;have:=(h7 i hi).1;exact O (s.a2L[i]'hi).length Om
  ·obtain⟨i,hi,rfl⟩:=a5R y;obtain⟨j,W,rfl⟩:=a5R u;exact((h7 i hi).2 j W).1.ok
theorem fl(l:List Nat)(a:Nat):∀n,(kX l a n).1.length=n∧∀i (hi:i<(kX l a n).1.length),(kX l a n).1[i].name=[108,97,119]++dC i∧oK (kX l a n).1[i]=true∧(kX l a n).1[i].Ok
 |0=>⟨rfl,λi hi=>absurd hi (by simp[kX])⟩
 |n+1=>by obtain⟨j,u⟩:=fl l a n;have e:(kX l a (n+1)).1=(kX l a n).1++[{ (wK l 2 (kX l a n).2).1 with name:=[108,97,119]++dC n }]:=rfl;rw[e];refine⟨by simp[j],xS (P:=λi (x:dJ)=>x.name=[108,97,119]++dC i∧oK x=true∧x.Ok) u ?_⟩;rw[j];exact⟨rfl,axA l _ _⟩
theorem VH(l:List Nat)(a2O:Nat)(u:0<a2O)(a:Nat):∀n,(gR l a2O a n).1.length=n∧∀i (hi:i<(gR l a2O a n).1.length),(gR l a2O a n).1[i].name=[109]++dC i∧∃e p w:Nat,(gR l a2O a n).1[i].a2X=e∧1≤e∧e≤4∧(gR l a2O a n).1[i].port=p∧1≤p∧p≤8∧(gR l a2O a n).1[i].law=w∧w<a2O
 |0=>⟨rfl,λi hi=>absurd hi (by simp[gR])⟩
 |n+1=>by
  obtain⟨j,y⟩:=VH l a2O u a n;obtain⟨s,A⟩:∃s,s=gR l a2O a n:=⟨_,rfl⟩;have e:(gR l a2O a (n+1)).1=(gR l a2O a n).1++[⟨[109]++dC n,(1+(aI l 4 s.2).1:Nat),(1+(aI l 8 (aI l 4 s.2).2).1:Nat),((aI l a2O (aI l 8 (aI l 4 s.2).2).2).1:Nat)⟩]:=by rw[A];rfl
  rw[e];refine⟨by simp[j],xS (P:=λi (x:dZ)=>x.name=[109]++dC i∧∃e p w:Nat,x.a2X=e∧1≤e∧e≤4∧x.port=p∧1≤p∧p≤8∧x.law=w∧w<a2O) y ?_⟩;rw[j];have k1:=dQ l (show 0<4 by decide) s.2;have k2:=dQ l (show 0<8 by decide) (aI l 4 s.2).2;have B:=dQ l u (aI l 8 (aI l 4 s.2).2).2;exact⟨rfl,_,_,_,rfl,by omega,by omega,rfl,by omega,by omega,rfl,B⟩
theorem EO(l:List Nat)(a:Nat):∃n:Nat,(kY l a).1=n∧n≤3:=by
 have h:=dQ l (show 0<3 by decide) (aI l 3 a).2;unfold kY;simp only;split
 ·exact⟨1+(aI l 3 (aI l 3 a).2).1,rfl,by omega⟩
 ·exact⟨0,rfl,by omega⟩
theorem gY{n lo hi:Int}(e:lo≤n)(j:n≤hi):within n lo hi=true:=within_iff.2 ⟨e,j⟩
theorem aTV{E:List UInt8}{k m q s1 s2 s3 s4 g h:Nat}{ms:List Int}{A:List RF}{mc:Nat}(I:1≤k)(J:k≤2)(X:m≤2)(M:k≤q)(N:q≤k+m)(O:s1≤3)(F:s2≤3)(R:s3≤3)(S:s4≤3)(V:g≤8)(W:h≤4)
  (y:Z' A=max m 1) (w:∀x∈A,yO x∧bV x=true)
  (K:mc≤2) (l:∃f:Nat,f<mc∧(ms=[(f:Int)]∨mc=2∧ms=[(f:Int),1-(f:Int)])) :
  mY mc ⟨E,(k:Nat),(m:Nat),(q:Nat),0,(s1:Nat),(s2:Nat),(s3:Nat),(s4:Nat),ms,A,mkT (g:Nat) ((8:Nat):Int),mkT (h:Nat) ((1:Nat):Int)⟩=true ∧
  (⟨E,(k:Nat),(m:Nat),(q:Nat),0,(s1:Nat),(s2:Nat),(s3:Nat),(s4:Nat),ms,A,mkT (g:Nat) ((8:Nat):Int),mkT (h:Nat) ((1:Nat):Int)⟩:eG).Ok:=by
 have G:=SmF.mk' (a:=g) (b:=8) Om aX aX;have Z:=SmF.mk' (a:=h) (b:=1) Om aX aX;obtain⟨f,U,l⟩:=l;constructor
 ·unfold mY RQ IZ;simp only[a4P,List.all_cons,List.all_nil,a5Z];refine⟨⟨⟨⟨⟨⟨⟨⟨gY Om Om,gY Om Om⟩,cB Om⟩,gY Om Om⟩,rfl⟩,gY Om Om,gY Om Om,gY Om Om,gY Om Om,gY Om Om⟩,?_⟩,⟨⟨⟨⟨cB (by rw[y];omega),?_⟩,G.lim⟩,G.one Om⟩,Z.lim⟩⟩,?_⟩
  ·rcases l with e|⟨-,e⟩<;>rw[e]<;>rfl
  ·rw[a4T];intro x u;rw[(w x u).1.lim,(w x u).2];rfl
  ·rw[a4T];rcases l with rfl|⟨rfl,rfl⟩
   ·intro j B;simp only[a5P,a6F,a4S]at B;have:j=0:=Om;subst this;rw[a4P];exact⟨gY aW (by simp;omega),by simp⟩
   ·intro j B;simp only[a5P,a6F,a4S]at B;have:j=0∨j=1:=Om;rcases this with rfl|rfl
    ·rw[a4P];exact⟨gY aW (by simp;omega),by simp⟩
    ·rw[a4P];refine⟨gY (by simp;omega) (by simp;omega),?_⟩;have:¬(1-(f:Int)=f):=Om;simp[this]
 ·refine⟨by unfold eP;constructor<;>simp only<;>omega,by unfold eP;constructor<;>simp only<;>omega,by unfold eP;constructor<;>simp only<;>omega,?_,?_,⟨?_,λx u=>(w x u).1.ok⟩,G.ok,Z.ok⟩
  ·show ms.length≤_;rcases l with e|⟨-,e⟩<;>rw[e]<;>simp
  ·show ∀x∈ms,eP x;unfold eP;rcases l with e|⟨F,e⟩<;>rw[e]<;>intro x u<;>simp only[a4J,a4U,or_false]at u
   ·subst u;omega
   ·rcases u with rfl|rfl<;>omega
  ·show A.length≤_;rw[y];omega
theorem Nd(l:List Nat){mc:Nat}(E:0<mc)(F:mc≤2)(i a:Nat):(qZ l mc i a).1.name=[112]++dC i∧mY mc (qZ l mc i a).1=true∧(qZ l mc i a).1.Ok:=by
 refine⟨rfl,?_⟩;have N:=dQ l (show 0<2 by decide) a;have O:=dQ l (show 0<3 by decide) (aI l 2 a).2;have M:=dQ l (show 0<4 by decide) (aI l 3 (aI l 2 a).2).2;unfold qZ;simp only;generalize aI l 2 a=k at *
 generalize aI l 3 k.2=m at *
 generalize aI l 4 m.2=h at *
 have hq:=dQ l (Om:0<m.1+1) h.2;generalize aI l (m.1+1) h.2=q at *
 obtain⟨r1,r2⟩:=aqY l q.2 (max m.1 1);generalize oO l q.2 (max m.1 1)=r at *
 have K:=dQ l (show 0<9 by decide) r.2;generalize aI l 9 r.2=g at *
 obtain⟨R,x,e⟩:=EO l g.2;generalize kY l g.2=s1 at *
 obtain⟨S,y,j⟩:=EO l s1.2;generalize kY l s1.2=s2 at *
 obtain⟨U,A,u⟩:=EO l s2.2;generalize kY l s2.2=s3 at *
 obtain⟨V,B,w⟩:=EO l s3.2;generalize kY l s3.2=s4 at *
 have I:=dQ l E s4.2;generalize aI l mc s4.2=f at *
 generalize aI l 2 f.2=b at *
 rw[x,y,A,B];refine aTV Om Om Om Om Om e j u w Om Om r1 r2 F ⟨f.1,I,?_⟩;split
 ·rename_i J;split
  ·exact .inr ⟨by omega,rfl⟩
  ·exact .inl rfl
 ·exact .inl rfl
theorem IX(l:List Nat){mc:Nat}(j:0<mc)(u:mc≤2)(a:Nat):∀n,(fH l mc a n).1.length=n∧∀i (hi:i<(fH l mc a n).1.length),(fH l mc a n).1[i].name=[112]++dC i∧mY mc (fH l mc a n).1[i]=true∧(fH l mc a n).1[i].Ok
 |0=>⟨rfl,λi hi=>absurd hi (by simp[fH])⟩
 |n+1=>by obtain⟨k1,k2⟩:=IX l j u a n;have e:(fH l mc a (n+1)).1=(fH l mc a n).1++[(qZ l mc n (fH l mc a n).2).1]:=rfl;rw[e];refine⟨by simp[k1],xS (P:=λi (x:eG)=>x.name=[112]++dC i∧mY mc x=true∧x.Ok) k2 ?_⟩;rw[k1];exact Nd l j u n _
theorem OB(l:List Nat){pc:Nat}(j:0<pc)(a:Nat):∀n,(gU l pc a n).1.length=n∧∀i (hi:i<(gU l pc a n).1.length),(gU l pc a n).1[i].name=[118]++dC i∧∃p:Nat,(gU l pc a n).1[i].a2T=p∧p<pc
 |0=>⟨rfl,λi hi=>absurd hi (by simp[gU])⟩
 |n+1=>by obtain⟨k1,k2⟩:=OB l j a n;have e:(gU l pc a (n+1)).1=(gU l pc a n).1++[⟨[118]++dC n,((aI l pc (gU l pc a n).2).1:Nat)⟩]:=rfl;rw[e];refine⟨by simp[k1],xS (P:=λi (x:hC)=>x.name=[118]++dC i∧∃p:Nat,x.a2T=p∧p<pc) k2 ?_⟩;rw[k1];exact⟨rfl,_,rfl,dQ l j _⟩
abbrev lvs(ds:List dM):List Int:=ds.map dM.level
def aYU(ds:List dM)(i:Nat)(d:dM):Prop:=∃lev p u:Nat,d.name=[pV lev]++dC (i+1)∧d.level=lev∧1≤lev∧lev≤4∧d.parent=p∧p≤i∧(lvs ds)[p]?=some ((lev:Int)-1)∧d.a3B=u∧1≤u∧u≤16∧yO d.a2W
def aSM(ds:List dM)(mc i:Nat)(d:eS):Prop:=∃m c:Nat,d.name=[100]++dC i∧d.model=m∧m<mc∧d.machine=c∧(lvs ds)[c]?=some 4
structure GV(mc a2G:Nat)(s:GS):Prop where
 len:Z' s.a2Q≤35
 a3A:Z' s.a3A≤a2G
 root:s.a2Q[0]?=some qS
 dom:∀i (hi:i+1<Z' s.a2Q),aYU s.a2Q i s.a2Q[i+1]
 drv:∀i (hi:i<Z' s.a3A),aSM s.a2Q mc i s.a3A[i]
theorem GV.a{mc a2G:Nat}{s:GS}(h:GV mc a2G s)(x:Nat):GV mc a2G { s with a:=x }:=⟨h.len,h.a3A,h.root,h.dom,h.drv⟩
theorem S5(l:List Nat){mc a2G dom:Nat}(j:0<mc){s:GS}(h:GV mc a2G s)(w:(lvs s.a2Q)[dom]?=some 4):∀n,GV mc a2G (nO l mc a2G dom s n)∧(nO l mc a2G dom s n).a2Q=s.a2Q
 |0=>⟨h,rfl⟩
 |n+1=>by
  obtain⟨e,u⟩:=S5 l j h w n;simp only[nO];generalize nO l mc a2G dom s n=t at *
  split
  ·rename_i hlt;refine⟨⟨e.len,by simp only[a3Z,a4E];omega,e.root,e.dom,?_⟩,u⟩;refine xS (P:=λi d=>aSM t.a2Q mc i d) e.drv ?_;exact⟨_,dom,rfl,rfl,dQ l j _,rfl,by rw[u];exact w⟩
  ·exact⟨e,u⟩
theorem FT{ds:List dM}{p:Nat}{x:Int}{t:List dM}(h:(lvs ds)[p]?=some x):(lvs (ds++t))[p]?=some x:=by
 unfold lvs at *
 rw[a5L,a5U]
 ·exact h
 ·exact(a5A.1 h).1
theorem aOG(l:List Nat){mc a2G dom level:Nat}{s:GS}(h:GV mc a2G s)(y:1≤level)(J:level≤4)(B:(lvs s.a2Q)[dom]?=some ((level:Int)-1))(E:vK a2G s=false) :
  GV mc a2G (sE l level dom s)∧(∃t,(sE l level dom s).a2Q=s.a2Q++t)∧(sE l level dom s).a2Q.length=Z' s.a2Q+1∧(lvs (sE l level dom s).a2Q)[Z' s.a2Q]?=some (level:Int):=by
 unfold vK at E;simp only[Bool.or_eq_false_iff,decide_eq_false_iff_not]at E;have I:dom<Z' s.a2Q:=by
  have:=(a5A.1 B).1
  rwa[a3V]at this
 have M:=dQ l (show 0<16 by decide) s.a;have K:=dQ l (show 0<6 by decide) (aI l 3 (aI l 16 s.a).2).2;unfold sE;simp only;generalize aI l 16 s.a=u at *
 generalize aI l 3 u.2=t at *
 generalize aI l 6 t.2=k at *
 have A:yO (if t.1=0 then(mkT 1 ((2+k.1:Nat):Int),k.2)else(nT,t.2)).1:=by
  split
  ·exact(SmF.mk' (a:=1) (b:=2+k.1) Om Om Om).o
  ·exact vD.o
 generalize(if t.1=0 then(mkT 1 ((2+k.1:Nat):Int),k.2)else(nT,t.2))=sh at *
 refine⟨⟨by simp only[a3Z,a4E];omega,h.a3A,?_,?_,λi hi=>?_⟩,⟨_,rfl⟩,by simp,?_⟩
 ·rw[a5U Om];exact h.root
 ·intro i hi;simp only[a3Z,a4E]at hi;by_cases hlt:i+1<Z' s.a2Q
  ·rw[List.getElem_append_left hlt];obtain⟨lev,p,v,e,j,w,x,h5,F,h7,h8⟩:=h.dom i hlt;exact⟨lev,p,v,e,j,w,x,h5,F,FT h7,h8⟩
  ·have:i+1=Z' s.a2Q:=Om;rw[List.getElem_append_right Om];simp only[List.getElem_singleton];exact⟨level,dom,1+u.1,by rw[this],rfl,y,J,rfl,by omega,FT B,rfl,by omega,by omega,A⟩
 ·obtain⟨m,c,e,j,w,x,h5⟩:=h.drv i hi;exact⟨m,c,e,j,w,x,FT h5⟩
 ·unfold lvs;rw[a5L,a5V (by rw[a3V];exact a4B _),a3V,Nat.sub_self];rfl
theorem S6(l:List Nat){mc a2G dom level:Nat}(j:1≤level)(E:level≤4){rec:Nat→GS→GS}
  (e:∀d t,GV mc a2G t→(lvs t.a2Q)[d]?=some (level:Int)→GV mc a2G (rec d t)∧∃u,(rec d t).a2Q=t.a2Q++u) {s:GS} (h:GV mc a2G s) (B:(lvs s.a2Q)[dom]?=some ((level:Int)-1)) :
  ∀n,GV mc a2G (kR l level a2G dom rec s n)∧∃u,(kR l level a2G dom rec s n).a2Q=s.a2Q++u
 |0=>⟨h,[],by simp[kR]⟩
 |n+1=>by
  obtain⟨A,u,x⟩:=S6 l j E e h B n;simp only[kR];generalize kR l level a2G dom rec s n=t at *
  split
  ·exact⟨A,u,x⟩
  ·rename_i F;have y:(lvs t.a2Q)[dom]?=some ((level:Int)-1):=by rw[x];exact FT B
   obtain⟨k1,⟨v,k2⟩,I,J⟩:=aOG l A j E y (by simpa using F);obtain⟨K,w,M⟩:=e ((sE l level dom t).a2Q.length-1) (sE l level dom t) k1 (by rw[I,Nat.add_sub_cancel];exact J);exact⟨K,u++(v++w),by rw[M,k2,x];simp⟩
theorem S7(l:List Nat){mc a2G:Nat}(e:0<mc):∀(k:Nat),k≤4→∀(dom:Nat){s:GS},GV mc a2G s→(lvs s.a2Q)[dom]?=some (4-(k:Int))→GV mc a2G (iJ l mc a2G k dom s)∧∃u,(iJ l mc a2G k dom s).a2Q=s.a2Q++u
 |0,_,dom,s,h,j=>by simp only[iJ];obtain⟨x,y⟩:=S5 l e (h.a (aI l 2 s.a).2) j (1+(aI l 2 s.a).1);exact⟨x,[],by rw[y];simp⟩
 |k+1,B,dom,s,h,j=>by
  simp only[iJ];refine S6 l Om Om (λd t A w=>S7 l e k Om d A ?_) (h.a (aI l 2 s.a).2) ?_ _
  ·rw[w];congr 1;omega
  ·rw[j];congr 1;omega
theorem F7(lev:Nat)(e:1≤lev)(j:lev≤4):iW (pV lev).toNat=true∧pV lev≠100:=by
 have:lev=1∨lev=2∨lev=3∨lev=4:=Om;rcases this with rfl|rfl|rfl|rfl<;>decide
theorem y7(c:UInt8){k:Nat}(e:k<100):du (([c]++dC k).drop 1)=k:=by
 show du (dC k)=k;rw[XC e];exact(Pb ⟨k,e⟩).1
theorem agE{mc a2G:Nat}{s:GS}(h:GV mc a2G s)(M:a2G≤60):distinct ((s.a2Q.drop 1).map dM.name++s.a3A.map eS.name)=true:=by
 have E:∀i (hi:i<((s.a2Q.drop 1).map dM.name).length),∃lev:Nat,1≤lev∧lev≤4∧((s.a2Q.drop 1).map dM.name)[i]=[pV lev]++dC (i+1):=by intro i hi;rw[a3V,a5M]at hi;obtain⟨lev,p,u,l,-,I,w,-⟩:=h.dom i Om;refine⟨lev,I,w,?_⟩;rw[a6E,List.getElem_drop];simp only[Nat.add_comm 1 i];exact l
 have hB:∀i (hi:i<(s.a3A.map eS.name).length),(s.a3A.map eS.name)[i]=[100]++dC i:=by intro i hi;rw[a3V]at hi;obtain⟨m,c,l,-⟩:=h.drv i hi;rw[a6E];exact l
 have N:((s.a2Q.drop 1).map dM.name).length≤40:=by rw[a3V,a5M];have:=h.len;omega
 have O:(s.a3A.map eS.name).length≤60:=by rw[a3V];have:=h.a3A;omega
 generalize(s.a2Q.drop 1).map dM.name=A at *
 generalize s.a3A.map eS.name=B at *
 refine ef ?_ ?_
 ·intro x hx;rcases a5E.1 hx with hx|hx
  ·obtain⟨i,hi,rfl⟩:=a5R hx;obtain⟨lev,l,w,e⟩:=E i hi;rw[e];exact Cw rfl (F7 lev l w).1 rfl aW Om
  ·obtain⟨i,hi,rfl⟩:=a5R hx;rw[hB i hi];exact Cw rfl aX rfl aW Om
 ·rw[a6V];refine⟨?_,?_,?_⟩
  ·refine XZ (g:=λs=>du (s.drop 1)-1) λi hi=>?_;obtain⟨lev,-,-,e⟩:=E i hi;rw[e,y7 _ Om];omega
  ·refine XZ (g:=λs=>du (s.drop 1)) λi hi=>?_;rw[hB i hi];exact y7 _ Om
  ·intro x hx y K e;obtain⟨i,hi,rfl⟩:=a5R hx;obtain⟨j,J,rfl⟩:=a5R K;obtain⟨lev,l,w,F⟩:=E i hi;rw[F,hB j J]at e;exact(F7 lev l w).2 (List.cons.inj e).1
theorem aKX{mc a2G a:Nat}:GV mc a2G ⟨[qS],[],a⟩:=
 ⟨by simp,a4A _,rfl,λi hi=>absurd hi aW,λi hi=>absurd hi aW⟩
theorem aPC{mc a2G:Nat}{s:GS}(h:GV mc a2G s)(f:aD)(A:f.a2J=s.a2Q):sX f=true:=by
 have x:=h.root;have w:=h.dom;unfold sX;rw[A];cases j:s.a2Q with
 |nil=>rw[j]at x;cases x
 |cons r t=>
  rw[j]at x;have:r=qS:=by simpa using x
  subst this;show IB f qS t=true;unfold IB;simp only[a4P];refine⟨⟨⟨⟨⟨⟨rfl,rfl⟩,rfl⟩,rfl⟩,vD.lim⟩,by rw[show qS.a2W=nT from rfl,vD.zero];rfl⟩,?_⟩;rw[a4T];intro i hi;rw[a4S]at hi;rw[a4C hi];obtain⟨lev,p,u,B,y,F,I,h5,J,h7,h8,K,E,l⟩:=w i (by rw[j];simp;omega);have e:s.a2Q[i+1]'(by rw[j];simp;omega)=t[i]:=by simp[j]
  rw[e]at B y h5 h8 l;show ON f i t[i]=true;unfold ON;simp only[a4P];refine⟨⟨⟨⟨?_,?_⟩,?_⟩,?_⟩,l.lim⟩
  ·rw[h5];exact gY Om Om
  ·rw[h5,y,A,a6U,a4D,h7,Ah Om Om];exact cB rfl
  ·rw[y];exact gY Om Om
  ·rw[h8];exact gY Om Om
theorem P1(l:List Nat)(a2G a2I a:Nat)(hd:a2G≤24)(hv:a2I≤12) :
  dX (iH l a2G a2I a).1=true∧(iH l a2G a2I a).1.Ok:=by
 unfold iH;simp only;have he:=dQ l (show 0<2 by decide) a;generalize aI l 2 a=e at *
 have γ:=dQ l (show 0<2 by decide) e.2;generalize aI l 2 e.2=F at *
 obtain⟨w1,W⟩:=fl l F.2 (1+F.1);generalize kX l F.2 (1+F.1)=a2O at *
 have δ:=dQ l (show 0<2 by decide) a2O.2;generalize aI l 2 a2O.2=B at *
 obtain⟨Z,m2⟩:=VH l (1+F.1) Om B.2 (1+B.1);generalize gR l (1+F.1) B.2 (1+B.1)=a2H at *
 obtain⟨G,-⟩:=S7 l (mc:=1+B.1) (a2G:=a2G) Om 4 aX 0 (s:=⟨[qS],[],a2H.2⟩) aKX rfl;generalize iJ l (1+B.1) a2G 4 0 ⟨[qS],[],a2H.2⟩=g at *
 have ε:=dQ l (show 0<2 by decide) g.a;generalize aI l 2 g.a=pl at *
 obtain⟨p1,U⟩:=IX l (mc:=1+B.1) Om Om pl.2 (1+pl.1);generalize fH l (1+B.1) pl.2 (1+pl.1)=pols at *
 have ζ:=dQ l (Om:0<a2I+1) pols.2;generalize aI l (a2I+1) pols.2=K at *
 obtain⟨v1,V⟩:=OB l (pc:=1+pl.1) Om K.2 K.1;generalize gU l (1+pl.1) K.2 K.1=vols at *
 have g1:=G.len;have g2:=G.a3A;have S:∀f:aD,f.a2J=g.a2Q→sX f=true:=λf hf=>aPC G f hf;have j:∀n:Nat,n≤1000→n≤9223372036854775807:=λn h=>by omega
 have E:∀x∈g.a3A,∃m c:Nat,x.model=m∧m<1+B.1∧x.machine=c∧c<Z' g.a2Q∧(lvs g.a2Q)[c]?=some 4:=by
  intro x w;obtain⟨i,hi,rfl⟩:=a5R w;obtain⟨m,c,-,R,X,Y,h5⟩:=G.drv i hi;refine⟨m,c,R,X,Y,?_,h5⟩;have:=(a5A.1 h5).1
  rwa[a3V]at this
 constructor
 ·unfold dX;rw[S _ rfl];simp only[a4P,a5Z];refine⟨⟨?_,⟨⟨⟨⟨?_,?_⟩,?_⟩,?_⟩,?_⟩⟩,⟨⟨⟨?_,?_⟩,agE G Om⟩,?_⟩,?_⟩
  ·unfold sL;simp only[a4P];exact⟨⟨⟨⟨⟨⟨gY Om Om,cB Om⟩,cB Om⟩,cB Om⟩,cB Om⟩,cB Om⟩,cB Om⟩
  ·exact FD λi hi=>(W i hi).2.1
  ·refine FD λi hi=>?_;obtain⟨-,x,y,z,A,I,J,M,N,e6,e7,e8⟩:=m2 i hi;unfold oN;simp only[a4P];rw[A,M,e7,w1];exact⟨⟨gY Om Om,gY Om Om⟩,gY Om Om⟩
  ·rw[a4T];intro x w;obtain⟨m,c,A,I,J,M,N⟩:=E x w;unfold mI;simp only[a4P];rw[A,J,Z,a6U,a4D,N];exact⟨⟨gY Om Om,gY Om Om⟩,rfl⟩
  ·refine FD λi hi=>?_;rw[Z];exact(U i hi).2.1
  ·refine FD λi hi=>?_;obtain⟨-,p,A,I⟩:=V i hi;unfold tI;rw[A,p1];exact gY Om Om
  ·refine yW (p:=[108,97,119]) rfl aX aX aX (by rw[a3V];omega) λi hi=>?_;rw[a6E];exact(W i (by simpa using hi)).1
  ·refine yW (p:=[109]) rfl aX aX aX (by rw[a3V];omega) λi hi=>?_;rw[a6E];exact(m2 i (by simpa using hi)).1
  ·refine yW (p:=[112]) rfl aX aX aX (by rw[a3V];omega) λi hi=>?_;rw[a6E];exact(U i (by simpa using hi)).1
  ·refine yW (p:=[118]) rfl aX aX aX (by rw[a3V];omega) λi hi=>?_;rw[a6E];exact(V i (by simpa using hi)).1
 ·refine⟨j a2O.1.length Om,j a2H.1.length Om,j g.a2Q.length Om,j g.a3A.length Om,j pols.1.length Om,j vols.1.length Om,?_,?_,?_,?_,?_⟩
  ·intro x w;obtain⟨i,hi,rfl⟩:=a5R w;exact(W i hi).2.2
  ·intro x w;obtain⟨i,hi,rfl⟩:=a5R w;rcases a6C i with rfl|hp
   ·have:g.a2Q[0]=qS:=by have:=G.root;rw[a4C hi]at this;exact a6H.inj this
    rw[this];exact⟨vD.ok,by unfold eP;decide,by unfold eP;decide⟩
   ·obtain⟨k,rfl⟩:∃k,i=k+1:=⟨i-1,by omega⟩;obtain⟨lev,p,u,h1,R,X,Y,h5,h6,h7,h8,h9,α,O⟩:=G.dom k hi;have β:k+1<Z' g.a2Q:=hi;rw[R,h5];exact⟨O.ok,by unfold eP;omega,by unfold eP;omega⟩
  ·intro x w;obtain⟨m,c,A,I,J,M,N⟩:=E x w;rw[A,J];unfold eP;omega
  ·intro x w;obtain⟨i,hi,rfl⟩:=a5R w;exact(U i hi).2.2
  ·intro x w;obtain⟨i,hi,rfl⟩:=a5R w;obtain⟨-,p,A,I⟩:=V i hi;rw[A];unfold eP;omega


theorem aLB{C:Ctx}(f:aD)(j:VF f)(v:Nat)(h:v<Z' f.a2I) :
  SQ.wp C (aV ayU.res (cY (.int .i64 (qO f v)))) (PF.args [.agg f.cells,.int .i64 v]) .nil:=by
 obtain⟨l,he⟩:=rT j h;have e:=j.a2T _ (a3Y l);rw[he]at e;have u:IntKind.i64.wrap ((cX f v).k+(cX f v).m)=(cX f v).k+(cX f v).m:=wrap_i64 Om Om;simp only[go_sem,SQ,Z8,ayU];refine aZ .nil cI a_ ?_;simp only[go_sem,Z9,AA h,j.YV h,tR l,he];refine aQ λo w=>?_;simp only[go_sem,aaA,u];refine⟨a_,?_⟩;exact rV (n:=(cX f v).k+(cX f v).m) Ev rfl
abbrev iiv(l:List Int):List (List PV):=l.map λx=>[PV.int .i64 x]
def aNA(l:List Nat)(v:PV)(o a:Nat)(f:aD)(r:PV)(H:PH):Prop:=Co r (ints (tG l f a).1)∧H=PH.nil.set o (bE v (tG l f a).2)
theorem Ka(l:List Nat){a:Nat}(h:a≤Z' l):∀k,(rM l a k).2≤Z' l∧(rM l a k).1.length=k
 |0=>⟨h,rfl⟩
 |k+1=>by obtain⟨e,j⟩:=Ka l h k;exact⟨bZ l 7 e,by simp only[rM,a3Z,a4E,j]⟩
def Wb(f:aD)(o:Nat)(w:PV)(i:Nat):PF:=((((PF.nil.set 0 (.ptr o 2 0 0)).set 3 (.bU f.cells)).set 5 (w)).set 6 (.int .i64 i))
theorem aJM{C:Ctx}(M:HZ C){l:List Nat}{v:PV}(T:Tp l v)(o a:Nat)(f:aD)(X:Z' f.a2G≤1000)(O:a≤Z' l):RB.wp C (aV axM.res (aNA l v o a f)) (PF.args [.ptr o 2 0 0,.agg f.cells]) (PH.nil.set o (bE v a)):=by
 have N:aN (PH.nil.set o (bE v a)) [(o,bE v a)] []:=aN.nil.new (H:=PH.nil) rfl (bE v a);simp only[go_sem,RB,Wd,axM,We];refine eQ M T (o:=o) (n:=4) (a:=a) aX O (by simp only[go_sem];rfl) (N.at 0 rfl) ?_;have A:=N.set 0 rfl (bE v (aI l 4 a).2);rw[PH.set_set]at A;have J:=bZ l 4 O;have y:tG l f a=if(aI l 4 a).1=0 then([],(aI l 4 a).2)else rM l (aI l 4 a).2 f.a2G.length:=rfl
 have I:∀r H,aNA l v o a f r H↔Co r (ints (tG l f a).1)∧H=PH.nil.set o (bE v (tG l f a).2):=λ_ _=>Iff.rfl;generalize aI l 4 a=t at *
 by_cases R:t.1=0
 ·rw[aL R]at y;simp only[go_sem,cA (Om:(t.1:Int)=0),Wf];refine bD (vs:=[.aE]) (.inr rfl) (PH.nil.set o (bE v t.2)) Sq (e_ a_ (A.at 0 rfl)) ?_;rw[cE,I,y];exact⟨.nil 1,rfl⟩
 rw[aG R]at y;have U:=A.lW 1;simp only[go_sem,bJ (Om:(t.1:Int)≠0),Wg,Wh];refine wp_loop (α:=Nat × PV × PH) (λs=>Wb f o s.2.1 s.1) (λs=>s.2.2) (λs=>s.1≤Z' f.a2G∧aN s.2.2 [(o,bE v (rM l t.2 s.1).2)] [(s.2.1,1,iiv (rM l t.2 s.1).1)]) (λs=>Z' f.a2G-s.1) (0,.aE,_) ⟨a4A _,U⟩ ?_ b_ ?_
 ·unfold Wb;exact Lq
 rintro⟨k,w,H0⟩ ⟨V,j⟩;simp only at V j ⊢;obtain⟨k1,k2⟩:=Ka l J k;simp only[go_sem,Wc,Wi,Wb,a3V];by_cases hlt:k<Z' f.a2G
 ·have e:(k:Int)<(Z' f.a2G:Nat):=Om;have u:rM l t.2 (k+1)=((rM l t.2 k).1++[((aI l 7 (rM l t.2 k).2).1:Int)-1],(aI l 7 (rM l t.2 k).2).2):=rfl;have Z:=dQ l (show 0<7 by decide) (rM l t.2 k).2;generalize Y:rM l t.2 k=s at *
  have K:IntKind.i64.wrap (((aI l 7 s.2).1:Int)-1)=((aI l 7 s.2).1:Int)-1:=wrap_i64 Om Om;have E:(1:Nat)*1≤16777216:=by decide
  simp only[go_sem,e,Wj];refine eQ M T (o:=o) (n:=7) (a:=s.2) aX k1 (by simp only[go_sem];rfl) (j.at 0 rfl) ?_;have F:=j.set 0 rfl (bE v (aI l 7 s.2).2);simp only[go_sem,K,E];refine F.append 0 (src:=[[PV.int .i64 (((aI l 7 s.2).1:Int)-1)]]) rfl Sq (by unfold roomFor;rw[a3V,k2];simp only[a4E,maxLen];omega) λW H' S _=>?_;simp only[go_sem,Wk,wZz k];refine aH (k+1,W,H') ⟨hlt,?_⟩ (by simp only;omega) ?_ b_
  ·simp only;rw[u];have:iiv (s.1++[((aI l 7 s.2).1:Int)-1])=iiv s.1++[[PV.int .i64 (((aI l 7 s.2).1:Int)-1)]]:=by simp[iiv]
   rw[this];exact S
  ·exact Lq
 ·have e:¬(k:Int)<(Z' f.a2G:Nat):=Om;have:k=Z' f.a2G:=Om;subst this;rw[←y]at j;simp only[go_sem,e,Wl];rcases j.own 0 rfl with⟨B,rfl⟩|⟨q,rs,rfl,_⟩
  ·refine bD (vs:=[.aE]) (.inr rfl) (PH.nil.set o (bE v (tG l f a).2)) Sq (e_ a_ (j.at 0 rfl)) ?_;rw[cE,I];refine⟨?_,rfl⟩;unfold ints;rw[show(tG l f a).1.map (λx=>[PV.int .i64 x])=[]from B];exact .nil 1
  ·obtain⟨rs,g1,g2,g3,-,g4⟩:=j.frz 0 rfl;refine oA (vs:=[.osl q 1 0 (iiv (tG l f a).1).length]) (.inr rfl) Sq (.step g1 (.done (H2:=PH.nil.set o (bE v (tG l f a).2)) ?_ (e_ a_ ?_)))
   ·rw[cE,g3,I];exact⟨.refl _,rfl⟩
   ·have:=g4.at 0 rfl;rw[this];simp only[cD.frz,a5D,a6L,T.frz];rfl

theorem exactly{C:Ctx}{name:Nat}{args:List PV}{H H2:PH}{v:PV}(h:aJ C name args H (λr H'=>Co r v∧H'=H2)):aJ C name args H (λr H'=>r=v∧H'=H2):=
 h.post λr H' e=>⟨_,e.1,rfl,e.2⟩
def fT(l:List Nat)(d v:Nat):aD:=(iH (l.take 400) d v 0).1
theorem aBK(l:List Nat)(a2G a2I:Nat){a:Nat}(h:a≤Z' l):(iH l a2G a2I a).2≤Z' l:=by
 have x:=bZ l 2 h;have u:=bZ l 2 x;obtain⟨j,-⟩:=QA l u (1+(aI l 2 (aI l 2 a).2).1);have w:=bZ l 2 j;obtain⟨e,-⟩:=ED l (1+(aI l 2 (aI l 2 a).2).1) w (1+(aI l 2 (kX l (aI l 2 (aI l 2 a).2).2 (1+(aI l 2 (aI l 2 a).2).1)).2).1);obtain⟨y,-⟩:=PN (mc:=1+(aI l 2 (kX l (aI l 2 (aI l 2 a).2).2 (1+(aI l 2 (aI l 2 a).2).1)).2).1) 4 0 (⟨by simp,a4A _,e⟩:GOk l a2G ⟨[qS],[],_⟩);exact(ML l _ (bZ l (a2I+1) (zP l _ (bZ l 2 y.a) _).1) _).1
structure xC(f:aD)(L:List (List Int)):Prop where
 len:Z' L=Z' f.a2I
 row:∀v (h:v<Z' L),((L[v].length:Nat):Int)=qO f v
 home:∀r∈L,∀x∈r,-1≤x∧x<Z' f.a2G
theorem xC.aWQ{f:aD}{L:List (List Int)}(h:xC f L)(hV:VF f):∀k,k≤Z' L→(L.take k).flatten.length≤k*8:=by
 have y:=h.len;intro k
 induction k with
 |zero=>intro _;simp
 |succ k w =>intro j;rw[aBJ L j,a3Z];have x:=w Om;have l:=h.row k j;obtain⟨u,he⟩:=rT hV (Om:k<Z' f.a2I);have e:=hV.a2T _ (a3Y u);rw[he]at e;unfold qO at l;omega
theorem xC.ok{f:aD}(hV:VF f){L:List (List Int)}(h:xC f L):aVK L:=by
 have j:=hV.small.a2I;have e:=h.len;have:=h.aWQ hV L.length (a4B _);rw[a5F]at this;exact⟨by omega,by omega⟩
section
variable {H:PH} {B:List BX} {L:List LI}
end
theorem wT{k v:Int}{n:Nat}{p:Nat→Bool}:BH k v n p=[]↔∀i,i<n→p i=false:=by
 unfold BH;rw[List.map_eq_nil_iff,List.filter_eq_nil_iff];constructor
 ·intro h i hi;have:=h i (a4S.2 hi);simpa using this
 ·intro h i hi;rw[h i (a4S.1 hi)];decide
theorem aBX{f:aD}{l:List (List Int)}{room:List Int}(j:dX f=true)(e:Z' l=Z' f.a2I) :
  CI f l room=true↔avS f l l.length=[]∧∀d,d<Z' f.a2G→over f l room d=false:=by
 unfold CI azT aNQ;rw[j,aL rfl,aL e,a4K,decide_eq_true_eq,List.length_eq_zero_iff,List.append_eq_nil_iff,wT]
theorem fe{p:Int→Bool}:∀{l:List Int}{i:Nat},(∀x∈l,p x=false)→OS p l i=none
 |[],_,_=>rfl
 |y::t,i,h=>by rw[OS,h y aW,aG aX];exact fe λx e=>h x (by simp[e])
theorem xC.shape{f:aD}{L:List (List Int)}(h:xC f L){v:Nat}(j:v<Z' L):aaB f L v=none:=by
 have e:L.getD v []=L[v]:=by simp[a4D,j]
 unfold aaB;rw[e,aL (h.row v j),fe]
 ·rfl
 ·intro x l;have:=h.home _ (a3Y j) x l;simp[aTB];omega
section
variable {H:PH} {B:List BX} {L:List LI} {s:Nat} {rows:List (List PV)}
theorem rY.some(s:Nat)(rows:List (List PV))(G:PH):∃r H',rY s rows r H'∧oP G .nil H':=by
 obtain⟨o,l⟩:=G.fresh;refine⟨.osl o s 0 rows.length,PH.nil.set o (.rows s rows),.inr ⟨o,rows,rfl,rfl,a4B _,a5F⟩,λq x j _=>?_⟩;rw[aU]at j;split at j
 ·rename_i e;rw[e];exact l
 ·cases j
end

section
variable {C:Ctx} {F:PF} {H Hs:PH} {tn a a2:Nat} {raw:List Int} {R:Nat→PV→PH→Prop} {st:Bool} {args:List aR} {d:Option Nat} {K:PF→PH→Prop}
end
section
variable {C:Ctx} {F:PF} {H:PH} {B:List BX} {L:List LI} {args:List aR} {d:Option Nat} {K:PF→PH→Prop}
theorem aN.aLK(h:aN H B L)(i:Nat){o name:Nat}{x y:cD}{r:PV}{vs:List PV}(hi:B[i]?=some (o,x))(j:aJ C name vs (PH.nil.set o x) (λu H'=>u=r∧H'=PH.nil.set o y))(e:aR.evs F args=some vs)
  (l:∀H',aN H' (B.set i (o,y)) L→K (F.put d r) H'):jX C name args [] d K F H:=pU j (h.at i hi) e (l _ (h.set i hi y))
theorem aN.uI(h:aN H B L){x:cD}{e:Nat→PV}(j:∀o H',aN H' (B++[(o,x)]) L→K (F.put d (e o)) H'):rO (some (e,x)) d K F H:=aQ λo l=>j o _ (h.new l x)
end
theorem aEL{f:aD}(hV:VF f)(room:List Int){d:Nat}(e:d<Z' f.a2G):0≤qM f room d∧qM f room d≤ext f d∧1≤ext f d∧ext f d≤16:=by
 obtain⟨j,he⟩:=hV.Pl e;have:=hV.model _ (a3Y j);rw[he]at this;unfold qM;split
 ·omega
 ·omega
theorem aHJ(l:List Nat){d v:Nat}(e:d≤24)(j:v≤12):dX (fT l d v)=true∧(fT l d v).Ok:=P1 (l.take 400) d v 0 e j

theorem xC.move{f:aD}{L:List (List Int)}(h:xC f L){x k d:Nat}(w:x<Z' L)(A:d<Z' f.a2G):xC f (L.set x (L[x].set k d)):=by
 refine⟨by rw[a5Q];exact h.len,λv u=>?_,λr j=>?_⟩
 ·rw[a5Q]at u;have:=h.row v u;rw[List.getElem_set];split
  ·rename_i e;subst e;rw[a5Q];exact this
  ·exact this
 ·rcases List.mem_or_eq_of_mem_set j with j|rfl
  ·exact h.home r j
  ·intro y l;rcases List.mem_or_eq_of_mem_set l with l|rfl
   ·exact h.home _ (a3Y w) y l
   ·omega


structure Nr(C:Ctx):Prop extends sb C where
 int:∀n:Int,eP n→aJ C 47 [.int .i64 n] .nil (aK (.agg (mkT n 1).cells))
 mul:∀a b,Lim a→Lim b→Z' a≤35184372087808→Z' b≤35184372087808→aJ C 36 [aO a,aO b] .nil (aK (opV (fP (val a) (val b)) (val a*val b)))
 add:∀a b,Lim a→Lim b→Z' a≤35184372087808→Z' b≤35184372087808→aJ C 30 [aO a,aO b] .nil (aK (opV (fP (val a) (val b)) (val a+val b)))
 sub:∀a b,Lim a→Lim b→Z' a≤35184372087808→Z' b≤35184372087808→aJ C 37 [aO a,aO b] .nil (aK (xT (val a) (val b)))
theorem Lh(a b:Nat):eF a b=(decide (nl b>0)&&(decide (nl b≤128)&&decide (nl a≤128))):=by
 have:=@mA b;refine Bool.eq_iff_iff.2 ?_;rw[kA];simp only[a4P,decide_eq_true_eq];omega
theorem aFW{C:Ctx}(L:Nr C)(neg:Bool)(a b:List Nat)(x:Lim a)(hb:Lim b)(y:Z' a≤35184372087808)(w:Z' b≤35184372087808) :
  MP.wp C (aV aeB.res (aK (.bool (eF (val a) (val b))))) (PF.args [.agg (gQ neg a b)]) .nil:=by
 rw[Lh];simp only[go_sem,MP,L3,L4,aeB];refine aB (L.trim b hb w) rfl ?_;simp only[go_sem,a3V,bH];by_cases l:nl (val b)>0
 ·have e:((nl (val b):Nat):Int)>0:=Om;simp only[go_sem,e];refine aB (L.trim b hb w) rfl ?_;simp only[go_sem,a3V,bH];by_cases u:nl (val b)≤128
  ·have j:((nl (val b):Nat):Int)≤128:=Om;simp only[go_sem,j];refine aB (L.trim a x y) rfl ?_;simp only[go_sem,a3V,bH];refine aT (.inr rfl) rfl ?_;have:decide (((nl (val a):Nat):Int)≤128)=decide (nl (val a)≤128):=by refine decide_eq_decide.2 ?_;omega
   rw[cE,this,cB l,cB u];rfl
  ·have j:¬((nl (val b):Nat):Int)≤128:=Om;simp only[go_sem,j];refine aT (.inr rfl) rfl ?_;rw[cE,cF u,a4F,a5I]
 ·have e:¬((nl (val b):Nat):Int)>0:=Om;simp only[go_sem,e];refine aT (.inr rfl) rfl ?_;rw[cE,cF l,a4F]
theorem l4{neg:Bool}{a b:Nat}(h:eF a b=true):mH neg a b=.ok (rR neg a b):=by
 obtain⟨w,e,j⟩:=kA.1 h;have l:=(qW (a/a3X a b) 128).2 (wz _ j);have u:=(qW (b/a3X a b) 128).2 (wz _ e);unfold mH rR;rw[aG Om]
def avB(a b:Nat):Bool:=decide (nl a>128)||decide (nl b>128)
theorem aFT{C:Ctx}(neg:Bool)(a b:List Nat) :
  MK.wp C (aV adH.res (aK (.bool (decide (Z' a>128)||decide (Z' b>128))))) (PF.args [.agg (gQ neg a b)]) .nil:=by
 simp only[go_sem,MK,Lj,Lk,adH,a3V];by_cases c:Z' a>128
 ·have e:(Z' a:Int)>128:=Om;simp only[go_sem,e];refine aT (.inr rfl) rfl ?_;rw[cE,cB c,Bool.true_or]
 ·have e:¬(Z' a:Int)>128:=Om;simp only[go_sem,e,a3V];refine aT (.inr rfl) rfl ?_;have:decide ((Z' b:Int)>128)=decide (Z' b>128):=by refine decide_eq_decide.2 ?_;omega
  rw[cE,this,cF c,Bool.false_or]
def Pv(x:FV):FR:=if avB x.2.1 x.2.2 then .error 2 else .ok x
theorem aOP(neg:Bool)(a b:Nat):Pv (rR neg a b)=mH neg a b:=by
 have e:=qW (a/a3X a b) 128;have j:=qW (b/a3X a b) 128;unfold Pv rR mH avB;simp only[Bool.or_eq_true,decide_eq_true_eq];by_cases c:nl (a/a3X a b)>128∨nl (b/a3X a b)>128
 ·rw[aL c,aL Om]
 ·rw[aG c,aG Om]
structure se(C:Ctx):Prop extends Nr C where
 valid:∀x:RF,x.Ok→aJ C 56 [.agg x.cells] .nil (aK (.bool (eF (val x.num) (val x.den))))
 big:∀x:FV,aJ C 48 [.agg x.rf.cells] .nil (aK (.bool (avB x.2.1 x.2.2)))
theorem aMD{C:Ctx}(L:se C)(x:FV):TT.wp C (aV azR.res (cY (frV (Pv x)))) (PF.args [.agg x.rf.cells]) .nil:=by
 simp only[go_sem,TT,adC,azR];refine aQ λo e=>?_;simp only[go_sem,adD];refine aB (L.big x) rfl ?_;unfold Pv;cases avB x.2.1 x.2.2 with
 |true =>simp only[go_sem,adE];refine lZ ?_;simp only[go_sem]
 |false =>obtain⟨n,a,b⟩:=x;simp only[go_sem,adF];exact bD (.inr rfl) .nil (vs:=[.agg (FV.rf (n,a,b)).cells,.int .i64 0]) Sq a_ ⟨.refl _,rfl⟩
theorem azW{C:Ctx}(L:se C)(x:RF)(j:x.Ok):HQ.wp C (aV D5.res (cY (frV (tY x)))) (PF.args [.agg x.cells]) .nil:=by
 simp only[go_sem,HQ,zm,D5];refine aQ λo w=>?_;simp only[go_sem,zn];refine aB (L.valid x j) rfl ?_;unfold tY;cases l:eF (val x.num) (val x.den)with
 |false =>simp only[go_sem,a4O,zo];refine lZ ?_;simp only[go_sem]
 |true =>obtain⟨u,y,A⟩:=kA.1 l;have e:=l4 (neg:=x.neg) l;rw[aL rfl,e];simp only[go_sem,a4H,zp];refine aB (L.lowest x.neg x.num x.den j.1 j.2.1 j.2.2.1 j.2.2.2 Om Om u) rfl ?_;simp only[go_sem];exact bD (.inr rfl) .nil (vs:=[.agg (rR x.neg (val x.num) (val x.den)).rf.cells,.int .i64 0]) Sq a_ ⟨.refl _,rfl⟩
theorem aFV{C:Ctx}(L:Nr C)(a b:List Nat)(e:Lim a)(hb:Lim b)(j:Z' a≤35184372087808)(l:Z' b≤35184372087808)(u:nl (val a)≤256)(w:nl (val b)≤256) :
  MN.wp C (aV aeA.res (aK (aO (aM (val a*val b))))) (PF.args [aO a,aO b]) .nil:=by
 simp only[go_sem,MN,Lx,Ly,aeA];refine aB (L.mul a b e hb j l) rfl ?_;have:=qJ u w;rw[lY Om Om,opV,HM Om];simp only[go_sem,Lz];refine aT (.inr rfl) rfl ?_;rfl
structure On(C:Ctx):Prop extends se C where
 fits:∀x:FV,aJ C 57 [.agg x.rf.cells] .nil (aK (frV (Pv x)))
 red:∀x:RF,x.Ok→aJ C 52 [.agg x.cells] .nil (aK (frV (tY x)))
 prod:∀a b,Lim a→Lim b→Z' a≤35184372087808→Z' b≤35184372087808→nl (val a)≤256→nl (val b)≤256→aJ C 60 [aO a,aO b] .nil (aK (aO (aM (val a*val b))))
def RF.valid(x:RF):Prop:=eF (val x.num) (val x.den)=true
def uU(x y:RF):Int:=uT x.neg (val x.num) (val x.den) y.neg (val y.num) (val y.den)
def voS:Spec:=λname vs=>match name,vs with
 |60,[x,y]=>some ([],λ_=>aK (aO (aM (val (mU x)*val (mU y)))))
 |_,_=>none
theorem CU(a b:List Nat):voS 60 [aO a,aO b]=some ([],λ_=>aK (aO (aM (val a*val b)))):=by
 show some _=_;rw[gI,gI]
theorem Ek(a b:Nat):fB b a=- fB a b:=by
 unfold fB;rcases Nat.lt_trichotomy a b with h|h|h
 ·rw[aG Om,aL h,aL h];rfl
 ·subst h;rw[aG Om,aG Om];rfl
 ·rw[aL h,aG Om,aL h]
set_option maxHeartbeats 1000000 in
theorem aFU {C : Ctx} (L : On C) (x y : RF) (hx : x.Ok) (hy : y.Ok) (vx : x.valid) (vy : y.valid) : MM.wp C (aV adQ.res (aK (.int .i64 (uU x y)))) (PF.args [.agg x.cells, .agg y.cells]) .nil := by
  obtain ⟨n1, a1, b1⟩ := x;obtain ⟨n2, a2, b2⟩ := y;obtain ⟨ha1, hb1, la1, lb1⟩ := hx;obtain ⟨ha2, hb2, la2, lb2⟩ := hy;obtain ⟨v1, v2, v3⟩ := kA.1 vx;obtain ⟨w1, w2, w3⟩ := kA.1 vy;simp only at ha1 hb1 la1 lb1 ha2 hb2 la2 lb2 v1 v2 v3 w1 w2 w3;have m1 := qJ v3 w2;have m2 := qJ w3 v2;have hA : decide (val a1 ≠ 0) = decide (nl (val a1 * val b2) > 0) := by refine decide_eq_decide.2 ?_;have := @mA (val a1 * val b2);rw [Nat.mul_eq_zero] at this;omega
  have hB : decide (val a2 ≠ 0) = decide (nl (val a2 * val b1) > 0) := by refine decide_eq_decide.2 ?_;have := @mA (val a2 * val b1);rw [Nat.mul_eq_zero] at this;omega
  unfold uU uT;simp only [hA, hB];simp only[go_sem,MM,Ll,adQ];refine aZ .nil voS a_ ?_;simp only[go_sem,Lm];refine cS (CU a1 b2) (L.prod a1 b2 ha1 hb2 la1 lb2 Om Om) rfl a_ ?_;simp only[go_sem];refine cS (CU a2 b1) (L.prod a2 b1 ha2 hb1 la2 lb1 Om Om) rfl a_ ?_;have hc := L.cmp (aM (val a1 * val b2)) (aM (val a2 * val b1)) (bB _) (bB _) (by rw [bH]; omega) (by rw [bH]; omega);have hd := L.cmp (aM (val a2 * val b1)) (aM (val a1 * val b2)) (bB _) (bB _) (by rw [bH]; omega) (by rw [bH]; omega);rw [aY, aY] at hc hd;rw [Ek (val a1 * val b2)] at hd;generalize val a1 * val b2 = A at *
  generalize val a2 * val b1 = B at *
  have gA : decide (((nl A : Nat) : Int) > 0) = decide (nl A > 0) := decide_eq_decide.2 Om;have gB : decide (((nl B : Nat) : Int) > 0) = decide (nl B > 0) := decide_eq_decide.2 Om;generalize decide (nl A > 0) = p at *
  generalize decide (nl B > 0) = q at *
  cases n1 <;> cases n2 <;> cases p <;> cases q
  all_goals
    simp only[go_sem,Ln,a3V,bH,gA,gB,Lo,Lp,Lr,Ls,Lt,Lu,Lw]
    first
    | (refine aT (.inr rfl) rfl ?_; rfl)
    | (refine aB hc rfl ?_
       simp only[go_sem];refine aT (.inr rfl) rfl ?_;rfl)
    | (refine aB hd rfl ?_
       simp only[go_sem];refine aT (.inr rfl) rfl ?_;rfl)
structure GH(C:Ctx):Prop extends On C where
 order:∀x y:RF,x.Ok→y.Ok→x.valid→y.valid→aJ C 51 [.agg x.cells,.agg y.cells] .nil (aK (.int .i64 (uU x y)))
theorem aMG{C:Ctx}(L:GH C)(x y:RF)(e:x.Ok)(j:y.Ok)(l:x.valid)(u:y.valid):TV.wp C (aV azU.res (aK (.bool (decide (uU x y<0))))) (PF.args [.agg x.cells,.agg y.cells]) .nil:=by
 simp only[go_sem,TV,adI,adJ,azU];refine aB (L.order x y e j l u) rfl ?_;simp only[go_sem];refine aT (.inr rfl) rfl ?_;rfl
theorem aMI{C:Ctx}(L:GH C)(x y:RF)(e:x.Ok)(j:y.Ok)(l:x.valid)(u:y.valid):TZ.wp C (aV azX.res (aK (.bool (uU x y==0)))) (PF.args [.agg x.cells,.agg y.cells]) .nil:=by
 simp only[go_sem,TZ,adR,adS,azX];refine aB (L.order x y e j l u) rfl ?_;simp only[go_sem];refine aT (.inr rfl) rfl ?_;rfl
theorem NQ(n:Int):mkT n 1=⟨decide (n<0),aM n.natAbs,aM 1⟩:=by
 unfold mkT rR FV.rf;rw[show(1:Int).natAbs=1 from rfl,Nat.gcd_one_right,Nat.div_one,Nat.div_one,show decide ((1:Int)<0)=false from rfl];congr 1;by_cases h:n<0
 ·have:n.natAbs≠0:=Om;simp[h,this]
 ·simp[h]
theorem NP(n:Int)(h:eP n):(mkT n 1).Ok∧(mkT n 1).valid:=by
 have e:nl n.natAbs≤2:=tF (by unfold eP at h;omega);rw[NQ];refine⟨⟨bB _,bB _,?_,?_⟩,?_⟩
 ·simp only[bH];omega
 ·simp only[CK];decide
 ·unfold RF.valid;simp only[aY];rw[Lh];have:nl 1=1:=by rw[nl,CK];rfl
  simp[this];omega
def xB(x:RF):Int:=if val x.num=0 then 0 else if x.neg then -1 else 1
theorem aKI(x:RF):uU x (mkT 0 1)=xB x:=by
 rw[NQ];unfold uU xB uT;simp only[aY,show(0:Int).natAbs=0 from rfl,Nat.mul_one,Nat.zero_mul];by_cases h:val x.num=0
 ·simp[h,fB]
 ·cases x.neg<;>simp[h,fB]
def viS(r:Int):Spec:=λname _=>if name=47 then some ([],λ_=>aK (.agg (mkT 0 1).cells))else some ([],λ_=>aK (.int .i64 r))
theorem aMJ{C:Ctx}(L:GH C)(x:RF)(l:x.Ok)(u:x.valid):UA.wp C (aV azY.res (aK (.int .i64 (xB x)))) (PF.args [.agg x.cells]) .nil:=by
 have e:eP 0:=by unfold eP;omega
 have j:=L.order x (mkT 0 1) l (NP 0 e).1 u (NP 0 e).2;rw[aKI]at j;simp only[go_sem,UA,adT,azY];refine aZ .nil (viS (xB x)) a_ ?_;simp only[go_sem,adU];refine cS rfl (L.int 0 e) rfl a_ ?_;simp only[go_sem];refine cS rfl j rfl a_ ?_;simp only[go_sem];refine aT (.inr rfl) rfl ?_;rfl
theorem aFR{C:Ctx}(L:GH C)(l E:Bool)(a1 u a2 w:List Nat)(U:Lim a1)(N:Lim u)(V:Lim a2)(O:Lim w)
  (W:Z' a1≤35184372087808) (R:Z' u≤35184372087808) (Z:Z' a2≤35184372087808) (S:Z' w≤35184372087808) :
  JL.wp C (aV azO.res (cY (frV (lC (l,val a1,val u) (E,val a2,val w))))) (PF.args [.agg (gQ l a1 u),.agg (gQ E a2 w)]) .nil:=by
 have vx:aJ C 56 [.agg (gQ l a1 u)] .nil (aK (.bool (eF (val a1) (val u)))):=L.valid ⟨l,a1,u⟩ ⟨U,N,W,R⟩;have vy:aJ C 56 [.agg (gQ E a2 w)] .nil (aK (.bool (eF (val a2) (val w)))):=L.valid ⟨E,a2,w⟩ ⟨V,O,Z,S⟩;simp only[go_sem,JL,asX,azO];refine aQ λo ho=>?_;simp only[go_sem,asY];refine aB vx rfl ?_;simp only[lC];cases hv:eF (val a1) (val u)with
 |false =>simp only[go_sem,a4O,D2,a4F];refine lZ ?_;simp only[go_sem]
 |true=>
  obtain⟨v1,v2,v3⟩:=kA.1 hv;simp only[go_sem,a4H];refine aB vy rfl ?_;cases hw:eF (val a2) (val w)with
  |false =>simp only[go_sem,a4O,D2,a5I];refine lZ ?_;simp only[go_sem]
  |true=>
   obtain⟨w1,w2,w3⟩:=kA.1 hw;simp only[go_sem,a4H,a5Z];refine aZ .nil voS a_ ?_;simp only[go_sem,asZ];refine cS (CU a1 w) (L.prod a1 w U O W S Om Om) rfl a_ ?_;simp only[go_sem];refine cS (CU a2 u) (L.prod a2 u V N Z R Om Om) rfl a_ ?_;simp only[go_sem];refine cS (CU u w) (L.prod u w N O R S Om Om) rfl a_ ?_;simp only[go_sem];have m1:=qJ v3 w2;have m2:=qJ w3 v2;have m3:=qJ v2 w2;have d0:val u*val w≠0:=Nat.mul_ne_zero v1 w1;generalize hA:val a1*val w=A at *
   generalize hB:val a2*val u=B at *
   generalize hD:val u*val w=D at *
   have fin:∀(F:PF)(H:PH)(r:FR),(∃j x y e,frV r=.tup [.agg (gQ j x y),.int .i64 e]∧F 4=some (.ptr o 3 0 0)∧F 5=some (.int .i64 e)∧H o=some (.rows 3 [gQ j x y]))→aV [.cell 4 (some 3),.tmp 5] (cY (frV r)) .ret F H:=by rintro F H r ⟨j,x,y,e,he,f4,f5,hH⟩;rw[he];exact bD (.inr rfl) .nil (vs:=[.agg (gQ j x y),.int .i64 e]) (by simp only[go_sem,f4,f5,hH]) a_ ⟨.refl _,rfl⟩
   have eb:(l==E)=decide (l=E):=by cases l<;>cases E<;>rfl
   have low:∀neg x,nl x≤257→aJ C 58 [.bool neg,aO (aM x),aO (aM D)] .nil (aK (.agg (rR neg x D).rf.cells)):=by
    intro neg x hx;have h1:(aM x).length≤35184372087808:=by rw[bH];omega
    have h2:(aM D).length≤35184372087808:=by rw[bH];omega
    have:=L.lowest neg (aM x) (aM D) (bB _) (bB _) h1 h2;rw[aY,aY]at this;exact this Om Om d0
   have M:∀neg x,aJ C 57 [.agg (rR neg x D).rf.cells] .nil (aK (frV (mH neg x D))):=λneg x=>by
    have:=L.fits (rR neg x D)
    rwa[aOP]at this
   have lA:(aM A).length≤35184372087808:=by rw[bH];omega
   have lB:(aM B).length≤35184372087808:=by rw[bH];omega
   simp only[go_sem,atA];by_cases c:l=E
   ·rw[aL c];have c':(l==E)=true:=by rw[eb,cB c]
    simp only[go_sem,c',atB];have J:=L.add (aM A) (aM B) (bB _) (bB _) lA lB;have α:=Xf m1 m2;rw[aY,aY,lY Om Om,opV,HM Om]at J;refine aB J rfl ?_;simp only[go_sem,atC];refine aB (low l _ Om) rfl ?_;simp only[go_sem];refine aB (M l _) rfl ?_;obtain⟨j,x,y,e,I⟩:=AM (mH l (A+B) D);rw[I];simp only[go_sem];rw[←I];exact fin _ _ _ ⟨j,x,y,e,I,by simp only[go_sem],by simp only[go_sem],by simp only[go_sem]⟩
   ·rw[aG c];have c':(l==E)=false:=by rw[eb,cF c]
    simp only[go_sem,c',atD];have hc:=L.cmp (aM A) (aM B) (bB _) (bB _) lA lB;rw[aY,aY]at hc;refine aB hc rfl ?_;have K:∀X Y:Nat,nl X≤256→nl Y≤256→Y≤X→aJ C 37 [aO (aM X),aO (aM Y)] .nil (aK (.tup [aO (aM (X-Y)),.int .i64 0])):=by intro X Y h1 h2 h;have:=L.sub (aM X) (aM Y) (bB _) (bB _) (by rw[bH];omega) (by rw[bH];omega);have h3:=kF (Om:X-Y≤X);rw[aY,aY,xT,lY Om Om,aG aX,aG Om,HM Om]at this;exact this
    by_cases g:B≤A
    ·have g':fB A B≥0:=(cc A B).2 g;rw[aL g];simp only[go_sem,g',atE];refine aB (K A B Om Om g) rfl ?_;simp only[go_sem,atF];have h3:=kF (Om:A-B≤A);refine aB (low l (A-B) Om) rfl ?_;simp only[go_sem];refine aB (M l _) rfl ?_;obtain⟨j,x,y,e,I⟩:=AM (mH l (A-B) D);rw[I];simp only[go_sem];rw[←I];exact fin _ _ _ ⟨j,x,y,e,I,by simp only[go_sem],by simp only[go_sem],by simp only[go_sem]⟩
    ·have g':¬fB A B≥0:=λh=>g ((cc A B).1 h);rw[aG g];simp only[go_sem,g',acY];refine aB (K B A Om Om Om) rfl ?_;simp only[go_sem,acZ];have h3:=kF (Om:B-A≤B);refine aB (low E (B-A) Om) rfl ?_;simp only[go_sem];refine aB (M E _) rfl ?_;obtain⟨j,x,y,e,I⟩:=AM (mH E (B-A) D);rw[I];simp only[go_sem];rw[←I];exact fin _ _ _ ⟨j,x,y,e,I,by simp only[go_sem],by simp only[go_sem],by simp only[go_sem]⟩
theorem aRV{C:Ctx}(L:GH C)(x y:RF)(e:x.Ok)(j:y.Ok):JL.wp C (aV azO.res (cY (frV (lC x.v y.v)))) (PF.args [.agg x.cells,.agg y.cells]) .nil:=
 aFR L x.neg y.neg x.num x.den y.num y.den e.1 e.2.1 j.1 j.2.1 e.2.2.1 e.2.2.2 j.2.2.1 j.2.2.2
structure auR(C:Ctx):Prop extends GH C where
 less:∀x y:RF,x.Ok→y.Ok→x.valid→y.valid→aJ C 49 [.agg x.cells,.agg y.cells] .nil (aK (.bool (decide (uU x y<0))))
 same:∀x y:RF,x.Ok→y.Ok→x.valid→y.valid→aJ C 53 [.agg x.cells,.agg y.cells] .nil (aK (.bool (uU x y==0)))
 sign:∀x:RF,x.Ok→x.valid→aJ C 54 [.agg x.cells] .nil (aK (.int .i64 (xB x)))
 plus:∀x y:RF,x.Ok→y.Ok→aJ C 46 [.agg x.cells,.agg y.cells] .nil (aK (frV (lC x.v y.v)))
def vsF(l:List RF)(o2 o4 k:Nat):PF:=((((PF.nil.set 0 (frs l)).set 2 (.ptr o2 3 0 0)).set 4 (.ptr o4 3 0 0)).set 5 (.int .i64 k))
theorem aRX{C:Ctx}(L:auR C)(l:List RF)(hl:∀x∈l,x.Ok)(X:Z' l≤9223372036854775807) :
  ay.wp C (aV aML.res (cY (frV (sN (l.map RF.v))))) (PF.args [frs l]) .nil:=by
 have h0:eP 0:=by unfold eP;omega
 have hi:(mkT 0 1).cells=(FV.rf (false,0,1)).cells:=by rw[NQ];rfl
 have B:=L.int 0 h0;rw[hi]at B;simp only[go_sem,ay,atL,aML];refine aQ λo2 β=>?_;have h1:aN (PH.nil.set o2 (.rows 3 [[.bool false,.aE,.aE]])) [(o2,.rows 3 [[.bool false,.aE,.aE]])] []:=aN.nil.new (H:=PH.nil) rfl _;generalize(PH.nil.set o2 _)=H1 at *
 simp only[go_sem,atM];refine aB B rfl ?_;simp only[go_sem];refine aQ λo4 W=>?_;have h2:=h1.new W (.rows 3 [(FV.rf (false,0,1)).cells]);simp only[go_sem,atN];refine wp_loop (α:=Nat × FV × PH) (λt=>vsF l o2 o4 t.1) (λt=>t.2.2) (λt=>t.1≤Z' l∧((l.map RF.v).take t.1).foldlM lC (false,0,1)=.ok t.2.1∧aN t.2.2 [(o2,.rows 3 [[.bool false,.aE,.aE]]),(o4,.rows 3 [(FV.rf t.2.1).cells])] []∧(FV.rf t.2.1).Ok) (λt=>Z' l-t.1)
  (0,(false,0,1),_) ⟨a4A _,rfl,h2,⟨bB _,bB _,?_,?_⟩⟩ ?_ b_ ?_
 ·show(aM 0).length≤_;rw[jY];simp
 ·show(aM 1).length≤_;rw[CK];simp
 ·unfold vsF;exact Lq
 rintro⟨k,u,H0⟩ ⟨hk,N,F,y⟩;simp only at hk N F y ⊢;simp only[go_sem,atK,atO,vsF,a3V];by_cases hlt:k<Z' l
 ·have w:(k:Int)<(Z' l:Nat):=Om;have hr:(l.map RF.cells)[k]?=some (l[k]).cells:=by simp[hlt]
  have A:=L.plus (FV.rf u) l[k] y (hl _ (a3Y hlt));rw[FV.aUA]at A;have j:=fh (f:=lC) (l.map RF.v) (false,0,1) (k:=k) (by simpa using hlt);rw[N]at j;simp only[Except.bind,a6E]at j;have R:=F.at 1 rfl;simp only[go_sem,w];refine aZ .nil (λ_ _=>some ([],λ_=>aK (frV (lC u (l[k]).v)))) a_ ?_;simp only[go_sem,atP,R,hr];refine cS rfl A rfl a_ ?_;cases he:lC u (l[k]).v with
  |error e=>
   have V:e≠0:=by
    revert he;obtain⟨n1,a1,b1⟩:=u;obtain⟨n2,a2,b2⟩:=(l[k]).v;simp only[lC,mH]
    repeat' split
    all_goals (intro h;first|(injection h with h;subst h;decide)|cases h)
   rw[he]at j;simp only[go_sem,frV];refine aQ λo6 E=>?_;simp only[go_sem];refine⟨a_,?_⟩;have I:=F.new E (.rows 3 [[.bool false,aO [],aO []]]);have O:=I.at 0 rfl;simp only[go_sem,D6,cU V,atQ,O];rw[sN,ti _ _ j];refine lZ ?_;simp only[go_sem]
  |ok r=>
   rw[he]at j;obtain⟨M,J,K⟩:=r;simp only[go_sem,frV];refine aQ λo6 E=>?_;simp only[go_sem];refine⟨a_,?_⟩;have I:=F.new E (.rows 3 [(FV.rf (M,J,K)).cells]);have Z:=I.at 2 rfl;have S:=I.at 1 rfl;generalize hG:H0.set o6 (.rows 3 [(FV.rf (M,J,K)).cells])=Y at *
   have U:H0.set o6 (.rows 3 [[.bool M,aO (aM J),aO (aM K)]])=Y:=hG;simp only[go_sem,D6,atS,U,Z,S,atT,wZz k];have h7:=(I.set 1 rfl (.rows 3 [(FV.rf (M,J,K)).cells])).wX 2;refine aH (k+1,(M,J,K),_) ⟨hlt,j,h7,Bl he⟩ (by simp only;omega) ?_ b_;exact Lq
 ·have w:¬(k:Int)<(Z' l:Nat):=Om;have:k=Z' l:=Om;subst this;rw[a4N aW]at N;rw[sN,N];have O:=F.at 0 rfl;have R:=F.at 1 rfl;obtain⟨n,a,b⟩:=u;simp only[go_sem,w,adZ,R,O];exact bD (.inr rfl) .nil (vs:=[.agg (FV.rf (n,a,b)).cells,.int .i64 0]) Sq a_ ⟨.refl _,rfl⟩
theorem dge{n:Nat}(k:Nat):decide ((n:Int)≥(k:Int))=decide (k≤n):=decide_eq_decide.2 Om
theorem dle{n:Nat}(k:Nat):decide ((n:Int)≤(k:Int))=decide (n≤k):=decide_eq_decide.2 Om
theorem aAC{C:Ctx}(n:Nat):HU.wp C (aV Eb.res (aK (.bool (iW n)))) (PF.args [.int .u8 n]) .nil:=by
 have e:=dge (n:=n) 97;have j:=dle (n:=n) 122;have l:=dge (n:=n) 65;have u:=dle (n:=n) 90;simp only[Int.cast_ofNat_Int]at e j l u;unfold iW;generalize decide (97≤n)=a at *
 generalize decide (n≤122)=b at *
 generalize decide (65≤n)=c at *
 generalize decide (n≤90)=d at *
 cases a<;>cases b<;>cases c<;>cases d
 all_goals
  simp only[go_sem,HU,Ae,Af,Eb,e,j,l,u];refine aT (.inr rfl) rfl ?_;rfl
theorem aFX{C:Ctx}(n:Nat):MR.wp C (aV aeC.res (aK (.bool (rD n)))) (PF.args [.int .u8 n]) .nil:=by
 have e:=dge (n:=n) 48;have j:=dle (n:=n) 57;simp only[Int.cast_ofNat_Int]at e j;unfold rD;generalize decide (48≤n)=a at *
 generalize decide (n≤57)=b at *
 cases a<;>cases b
 all_goals
  simp only[go_sem,MR,L5,L6,aeC,e,j];refine aT (.inr rfl) rfl ?_;rfl
theorem aAA{C:Ctx}(e:∀n:Nat,aJ C 65 [.int .u8 n] .nil (aK (.bool (iW n))))(j:∀n:Nat,aJ C 63 [.int .u8 n] .nil (aK (.bool (rD n))))(n:Nat) :
  HS.wp C (aV D9.res (aK (.bool (jU n)))) (PF.args [.int .u8 n]) .nil:=by
 have g1:((n:Int)==45)=decide (n=45):=by by_cases h:n=45<;>simp[h];omega
 have g2:((n:Int)==46)=decide (n=46):=by by_cases h:n=46<;>simp[h];omega
 have k1:=e n;have k2:=j n;unfold jU;generalize decide (n=45)=a at *
 generalize decide (n=46)=b at *
 simp only[go_sem,HS,zt,zu,D9];refine aB k1 rfl ?_;cases iW n with
 |true =>simp only[go_sem];refine aT (.inr rfl) rfl ?_;rfl
 |false=>
  simp only[go_sem];refine aB k2 rfl ?_;cases rD n<;>cases a<;>cases b
  all_goals
   simp only[go_sem,g1,g2];refine aT (.inr rfl) rfl ?_;rfl
theorem aAB{C:Ctx}(E:∀n:Nat,aJ C 65 [.int .u8 n] .nil (aK (.bool (iW n))))(F:∀n:Nat,aJ C 64 [.int .u8 n] .nil (aK (.bool (jU n))))(s:List UInt8) :
  HT.wp C (aV Ea.res (aK (.bool (isName s)))) (PF.args [.str s]) .nil:=by
 simp only[go_sem,HT,zx,zy,Ea];cases s with
 |nil =>have B:decide (((0:Nat):Int)<1)=true:=rfl;simp only[go_sem,EX,a6F,B];refine aT (.inr rfl) rfl ?_;rfl
 |cons c t=>
  have I:(c::t)[0]?=some c:=rfl;have l:isName (c::t)=(decide ((c::t).length≤16)&&iW c.toNat&&(c::t).all λc=>jU c.toNat):=rfl;have j:¬(((c::t).length:Nat):Int)<1:=by simp only[a5P];omega
  generalize c::t=s at *
  by_cases A:Z' s≤16
  ·have u:¬(Z' s:Int)>16:=Om;rw[cB A,a4K]at l;have k1:=E c.toNat;simp only[go_sem,j,u,I,a5B];refine aB k1 rfl ?_;cases y:iW c.toNat with
   |false =>simp only[go_sem,a4O,EX];refine aT (.inr rfl) rfl ?_;rw[cE,l,y,a4F]
   |true=>
    rw[y,a4K]at l;simp only[go_sem,a4H,zz];refine wp_loop (α:=Nat) (λk=>((PF.nil.set 0 (.str s)).set 3 (.int .i64 k))) (λ_=>.nil) (λk=>k≤Z' s∧(s.take k).all (λc=>jU c.toNat)=true) (λk=>Z' s-k) 0 ⟨a4A _,rfl⟩ Lq a_ ?_;rintro k ⟨J,w⟩;simp only[go_sem,zw,z8];by_cases hlt:k<Z' s
    ·have e:(k:Int)<(Z' s:Nat):=Om;have x:s[k]?=some s[k]:=a4C hlt;have k2:=F (s[k]).toNat;simp only[go_sem,e,Aa,x,a5B];refine aB k2 rfl ?_;cases hi:jU (s[k]).toNat with
     |false =>simp only[go_sem,a4O,Ab];refine aT (.inr rfl) rfl ?_;rw[cE,l,uG hlt hi]
     |true =>simp only[go_sem,a4H,Ac,wZz k];exact aH (k+1) ⟨hlt,by simpa using uF hlt w hi⟩ Om Lq b_
    ·have e:¬(k:Int)<(Z' s:Nat):=Om;have:k=Z' s:=Om;subst this;rw[a5F]at w;simp only[go_sem,e,Ad];refine aT (.inr rfl) rfl ?_;rw[cE,l,w]
  ·have u:(Z' s:Int)>16:=Om;rw[cF A,a4F,a4F]at l;simp only[go_sem,j,u,EX];refine aT (.inr rfl) rfl ?_;rw[cE,l]
def OI(k m:Int):Bool:=within k 1 6&&(within m 0 4&&decide (k+m≤8))
theorem aKZ{C:Ctx}(k m:Int):tH.wp C (aV SO.res (aK (.bool (OI k m)))) (PF.args [.int .i64 k,.int .i64 m]) .nil:=by
 unfold OI within;by_cases e:1≤k
 ·by_cases j:k≤6
  ·by_cases l:0≤m
   ·by_cases u:m≤4
    ·have w:IntKind.i64.wrap (k+m)=k+m:=wrap_i64 Om Om;simp only[go_sem,tH,BA,BB,SO,ge_iff_le,e,j,l,u,w];refine aT (.inr rfl) rfl ?_;simp[cE,e,j,l,u]
    ·simp only[go_sem,tH,BA,BB,SO,ge_iff_le,e,j,l,u];refine aT (.inr rfl) rfl ?_;simp[cE,e,j,l,u]
   ·simp only[go_sem,tH,BA,BB,SO,ge_iff_le,e,j,l];refine aT (.inr rfl) rfl ?_;simp[cE,e,j,l]
  ·simp only[go_sem,tH,BA,BB,SO,ge_iff_le,e,j];refine aT (.inr rfl) rfl ?_;simp[cE,e,j]
 ·simp only[go_sem,tH,BA,BB,SO,ge_iff_le,e];refine aT (.inr rfl) rfl ?_;simp[cE,e]
def MZ:=bP [1] Proofs.Tryz.f69
def Mz:=aA MZ 0
def M0:=aA MZ 1
def JN:=aA MZ 2
def MY:aC:=(sq Mz (sq M0 (sq JN .ret)))
def afS:bA:=⟨1,29,MY,[.tmp 2]⟩
def nF:=bP [] Proofs.Tryz.f100
def Ak:=aA nF 0
def Al:=aA nF 1
def Am:=aA nF 2
def An:=aA nF 3
def Ao:=aA nF 4
def Ap:=aA nF 5
def Aq:=aA nF 6
def Ar:=aA nF 7
def Aj:aC:=(dS Ao 12 0 Ar (sq Ap (.cond (Tm 20) (sq Aq .ret) .skip)))
def As:=aA nF 8
def HX:aC:=(sq Ak (dN Al 9 Am (.seq (cL An 0 Aj) (sq As .ret))))
def Ee:bA:=⟨2,21,HX,[.tmp 4]⟩
def eO:=bP [1] Proofs.Tryz.f66
def atY:=aA eO 0
def atZ:=aA eO 1
def auA:=aA eO 2
def GD:=aA eO 3
def auB:=aA eO 4
def auC:=aA eO 5
def auD:=aA eO 6
def Ed:=aA eO 7
def auE:=aA eO 8
def atX:aC:=(dS auC 44 0 auE (sq auD (.cond (Tm 66) (sq Ed .ret) .skip)))
def afF:=aA eO 9
def q9:=bY eO 0
def rc:=aA eO 10
def afG:=aA eO 11
def afH:=aA eO 12
def afI:=aA eO 13
def afJ:=aA eO 14
def afK:=aA eO 15
def re:=aA eO 16
def rg:=aA eO 17
def afL:=aA eO 18
def rh:=aA eO 19
def UI:=aA eO 20
def UH:aC:=(dS afL 111 6 UI (.region rh))
def ri:=aA eO 21
def qx:aC:=(dS afK 90 4 ri (sq re (cL rg 6 UH)))
def afM:=aA eO 22
def qy:aC:=(dS afI 85 2 afM (cL afJ 4 qx))
def afN:=aA eO 23
def afO:=aA eO 24
def rj:=aA eO 25
def afP:=aA eO 26
def afQ:=aA eO 27
def qz:aC:=(dS afO 141 8 afQ (sq rj (.cond (Tm 148) (sq afP .ret) .skip)))
def rk:=aA eO 28
def bs:aC:=(sq atY (sq atZ (dN auA 41 GD (.seq (cL auB 0 atX) (.seq (sq afF (dq q9 (.cond (Tm 80) (sq rc .ret) .skip))) (sq afG (.seq (cL afH 2 qy) (.seq (cL afN 8 qz) (sq rk .ret)))))))))
def aMU:bA:=⟨1,149,bs,[.tmp 2]⟩
def rP:=bP [] Proofs.Tryz.f107
def auG:=aA rP 0
def auH:=aA rP 1
def auI:=aA rP 2
def auJ:=aA rP 3
def auK:=aA rP 4
def auL:=aA rP 5
def auM:=aA rP 6
def auN:=aA rP 7
def auF:aC:=(dS auK 14 0 auN (sq auL (.cond (Tm 22) (sq auM .ret) .skip)))
def auO:=aA rP 8
def bu:aC:=(sq auG (dN auH 10 auI (.seq (cL auJ 0 auF) (sq auO .ret))))
def aMW:bA:=⟨2,23,bu,[.tmp 4]⟩
def bz:=bP [] Proofs.Tryz.f63
def VB:=aA bz 0
def VC:=aA bz 1
def AH:aC:=(sq VB (sq VC .ret))
def dz:bA:=⟨3,15,AH,[.tmp 6]⟩
def jn:=bP [] Proofs.Tryz.f64
def Mx:=aA jn 0
def My:=aA jn 1
def MX:aC:=(sq Mx (sq My .ret))
def afR:bA:=⟨6,35,MX,[.tmp 12]⟩
def mG:=bP [7] Proofs.Tryz.f70
def jg:=aA mG 0
def jh:=aA mG 1
def BZ:=aA mG 2
def ji:=aA mG 3
def jj:=aA mG 4
def MW:=aA mG 5
def jk:=aA mG 6
def jl:=aA mG 7
def jf:aC:=(dS jj 29 0 jl (sq MW (.cond (Tm 36) (sq jk .ret) .skip)))
def jm:=aA mG 8
def DG:aC:=(sq jg (dN jh 27 BZ (.seq (cL ji 0 jf) (sq jm .ret))))
def rp:bA:=⟨4,37,DG,[.tmp 8]⟩
def Mn:=bP [6,7] Proofs.Tryz.f71
def atV:=aA Mn 0
def atW:=bY Mn 0
def bo:aC:=(sq atV (dq atW .ret))
def aMQ:bA:=⟨4,26,bo,[.tmp 8]⟩
def rX:=bP [] Proofs.Tryz.f99
def Mr:=aA rX 0
def Ms:=aA rX 1
def Mt:=aA rX 2
def br:=aA rX 3
def Mu:=aA rX 4
def Mv:=aA rX 5
def Mq:aC:=(dS Mt 9 0 Mv (sq br (.cond (Tm 17) (sq Mu .ret) .skip)))
def Mw:=aA rX 6
def MV:aC:=(sq Mr (.seq (cL Ms 0 Mq) (sq Mw .ret)))
def afE:bA:=⟨2,19,MV,[.tmp 4]⟩
def bS:=bP [1] Proofs.Tryz.f36
def M1:=aA bS 0
def M2:=aA bS 1
def JO:=aA bS 2
def M3:=aA bS 3
def M4:=aA bS 4
def M5:=aA bS 5
def M6:=aA bS 6
def M7:=aA bS 7
def bv:=aA bS 8
def bw:=aA bS 9
def UJ:aC:=(dS M6 61 0 bw (sq M7 (.region bv)))
def Au:=aA bS 10
def Av:=aA bS 11
def Aw:=aA bS 12
def Ax:=aA bS 13
def UM:=aA bS 14
def AE:=aA bS 15
def UK:aC:=(dS Av 91 2 AE (sq Aw (sq Ax (.region UM))))
def Ay:=aA bS 16
def UN:=aA bS 17
def UO:=aA bS 18
def Az:=aA bS 19
def A0:=aA bS 20
def A1:=aA bS 21
def UP:=bY bS 0
def tJ:=aA bS 22
def EY:aC:=(dS Az 169 4 tJ (sq A0 (sq A1 (.draw UP))))
def UQ:=aA bS 23
def A2:=aA bS 24
def A3:=aA bS 25
def A4:=aA bS 26
def UR:=aA bS 27
def AF:=aA bS 28
def EZ:aC:=(dS A2 227 6 AF (sq A3 (sq A4 (.region UR))))
def US:=aA bS 29
def A5:=aA bS 30
def A6:=aA bS 31
def A7:=aA bS 32
def UT:=aA bS 33
def AG:=aA bS 34
def A8:=aA bS 35
def A9:=bY bS 1
def Ba:=aA bS 36
def Bb:=aA bS 37
def UU:=bY bS 2
def UV:=aA bS 38
def UL:aC:=(dS Bb 344 12 UV (.draw UU))
def Bc:=aA bS 39
def FA:aC:=(dS A8 329 10 Bc (dq A9 (cL Ba 12 UL)))
def UW:=aA bS 40
def FB:aC:=(dS A5 278 8 UW (sq A6 (sq A7 (sq UT (cL AG 10 FA)))))
def UX:=aA bS 41
def Bd:=aA bS 42
def Be:=aA bS 43
def UY:=bY bS 3
def UZ:=aA bS 44
def FC:aC:=(dS Bd 368 14 UZ (sq Be (.draw UY)))
def VA:=aA bS 45
def NA:aC:=(sq M1 (dN M2 53 JO (sq M3 (sq M4 (.seq (cL M5 0 UJ) (.seq (cL Au 2 UK) (sq Ay (sq UN (.seq (cL UO 4 EY) (.seq (cL UQ 6 EZ) (.seq (cL US 8 FB) (.seq (cL UX 14 FC) (sq VA .ret)))))))))))))
def afT:bA:=⟨1,397,NA,[.tmp 2]⟩
def je:=bP [8] Proofs.Tryz.f65
def Mo:=aA je 0
def Mp:=aA je 1
def MU:aC:=(sq Mo (sq Mp .ret))
def afD:bA:=⟨2,18,MU,[.tmp 4,.tmp 5]⟩
theorem aAK{C:Ctx}(n lo hi:Int):AH.wp C (aV dz.res (aK (.bool (within n lo hi)))) (PF.args [.int .i64 n,.int .i64 lo,.int .i64 hi]) .nil:=by
 unfold within;by_cases h:lo≤n
 ·simp only[go_sem,AH,VB,VC,dz,ge_iff_le,h];refine aT (.inr rfl) rfl ?_;simp[cE,h]
 ·simp only[go_sem,AH,VB,VC,dz,ge_iff_le,h];refine aT (.inr rfl) rfl ?_;simp[cE,h]
def uW(a b c d e f:Nat):Bool:=decide (a≤4)&&(decide (b≤4)&&(decide (c≤40)&&(decide (d≤24)&&(decide (e≤4)&&decide (f≤12)))))
theorem aGG{C:Ctx}(a b c d e f:Nat):MX.wp C (aV afR.res (aK (.bool (uW a b c d e f)))) (PF.args [.int .i64 a,.int .i64 b,.int .i64 c,.int .i64 d,.int .i64 e,.int .i64 f]) .nil:=by
 have g:∀x k:Nat,decide ((x:Int)≤(k:Int))=decide (x≤k):=λx k=>decide_eq_decide.2 Om;have j:=g a 4;have l:=g b 4;have u:=g c 40;have w:=g d 24;have h5:=g e 4;have y:=g f 12;simp only[Int.cast_ofNat_Int]at j l u w h5 y;unfold uW;simp only[go_sem,MX,Mx,My,afR,j];cases decide (a≤4)with
 |false =>simp only[go_sem];refine aT (.inr rfl) rfl ?_;rfl
 |true=>
  simp only[go_sem,l];cases decide (b≤4)with
  |false =>simp only[go_sem];refine aT (.inr rfl) rfl ?_;rfl
  |true=>
   simp only[go_sem,u];cases decide (c≤40)with
   |false =>simp only[go_sem];refine aT (.inr rfl) rfl ?_;rfl
   |true=>
    simp only[go_sem,w];cases decide (d≤24)with
    |false =>simp only[go_sem];refine aT (.inr rfl) rfl ?_;rfl
    |true=>
     simp only[go_sem,h5];cases decide (e≤4)with
     |false =>simp only[go_sem];refine aT (.inr rfl) rfl ?_;rfl
     |true =>simp only[go_sem,y];refine aT (.inr rfl) rfl ?_;rfl
structure r9(C:Ctx):Prop extends auR C where
 sum:∀l:List RF,(∀x∈l,x.Ok)→Z' l≤9223372036854775807→aJ C 55 [frs l] .nil (aK (frV (sN (l.map RF.v))))
 inn:∀n lo hi:Int,aJ C 76 [.int .i64 n,.int .i64 lo,.int .i64 hi] .nil (aK (.bool (within n lo hi)))
 code:∀k m:Int,aJ C 61 [.int .i64 k,.int .i64 m] .nil (aK (.bool (OI k m)))
def RR(k m q s0 s1 s2 s3 s4:Int):Bool:=OI k m&&(within q k (k+m)&&(decide (s0=0)&&(within s1 0 8&&(within s2 0 8&&(within s3 0 8&&within s4 0 8)))))
theorem aQL(p:eG):RQ p=RR p.k p.m p.a3F p.s0 p.s1 p.s2 p.s3 p.s4:=by
 unfold RQ RR OI;have:within p.s0 0 8=true∨p.s0≠0:=by
  by_cases h:p.s0=0
  ·rw[h];exact .inl rfl
  ·exact .inr h
 simp only[List.all_cons,List.all_nil,a5Z];rcases this with h|h
 ·rw[h];simp only[a4K,a7H]
 ·simp only[h,decide_false,a4F,a5I]
def spR(s1 s2 s3 s4:Int)(k:Nat):Int:=match k with
 |1=>s1
 |2=>s2
 |3=>s3
 |_=>s4
theorem ahB{C:Ctx}(L:r9 C)(k m q s0 s1 s2 s3 s4:Int) :
  DG.wp C (aV rp.res (aK (.bool (RR k m q s0 s1 s2 s3 s4)))) (PF.args [.int .i64 k,.int .i64 m,.int .i64 q,.agg [.int .i64 s0,.int .i64 s1,.int .i64 s2,.int .i64 s3,.int .i64 s4]]) .nil:=by
 obtain⟨X,w⟩:∃X,RR k m q s0 s1 s2 s3 s4=X:=⟨_,rfl⟩;rw[w];unfold RR at w;simp only[go_sem,DG,jg,jh,rp];refine aB (L.code k m) rfl ?_;cases I:OI k m with
 |false =>rw[I,a4F]at w;simp only[go_sem,a4O,BZ];refine aT (.inr rfl) rfl ?_;rw[cE,w]
 |true=>
  rw[I,a4K]at w;have hb:1≤k∧k≤6∧0≤m∧m≤4:=by simp only[OI,a4P,within_iff]at I;omega
  have U:IntKind.i64.wrap (k+m)=k+m:=wrap_i64 Om Om;simp only[go_sem,a4H,U];refine aB (L.inn q k (k+m)) rfl ?_;cases M:within q k (k+m)with
  |false =>rw[M,a4F]at w;simp only[go_sem,a4O,BZ];refine aT (.inr rfl) rfl ?_;rw[cE,w]
  |true=>
   rw[M,a4K]at w;have F:(0:Int)<((5:Nat):Int):=by decide
   by_cases J:s0=0
   ·rw[cB J,a4K]at w;simp only[go_sem,a4H,F,bW J,ji];refine wp_loop (α:=Nat) (λj=>((PF.nil.set 7 (.bU [.int .i64 s0,.int .i64 s1,.int .i64 s2,.int .i64 s3,.int .i64 s4])).set 9 (.int .i64 j))) (λ_=>.nil) (λj=>1≤j∧j≤5∧∀i,1≤i→i<j→within (spR s1 s2 s3 s4 i) 0 8=true) (λj=>5-j) 1 ⟨by decide,by decide,λi I M=>by omega⟩ Lq a_ ?_;rintro j ⟨O,R,l⟩;simp only[go_sem,jf,jj];by_cases hlt:j<5
    ·have u:(j:Int)<5:=Om;have A:((j:Nat):Int)<((5:Nat):Int):=Om;have y:=L.inn (spR s1 s2 s3 s4 j) 0 8;obtain⟨c,x⟩:∃c,within (spR s1 s2 s3 s4 j) 0 8=c:=⟨_,rfl⟩;rw[x]at y;have B:c=true→∀i,1≤i→i<j+1→within (spR s1 s2 s3 s4 i) 0 8=true:=λE i a b=>by
      by_cases e:i=j
      ·rw[e,x,E]
      ·exact l i a Om
     have K:c=false→X=false:=by intro h;rw[h]at x;have E:j=1∨j=2∨j=3∨j=4:=Om;rw[←w];rcases E with rfl|rfl|rfl|rfl<;>(simp only[spR]at x;rw[x];simp)
     have E:j=1∨j=2∨j=3∨j=4:=Om;cases c with
     |false=>
      have N:=K rfl;rcases E with rfl|rfl|rfl|rfl
      all_goals
       simp only[spR]at y;simp only[go_sem,u,MW,A];refine aB y rfl ?_;simp only[go_sem,a4O,jk];refine aT (.inr rfl) rfl ?_;rw[cE,N]
     |true=>
      have S:=B rfl;rcases E with rfl|rfl|rfl|rfl
      all_goals
       simp only[spR]at y;simp only[go_sem,u,MW,A];refine aB y rfl ?_;simp only[go_sem,a4H,jl];refine aH (_+1) ⟨by omega,hlt,S⟩ Om Lq b_
    ·have u:¬(j:Int)<5:=Om;have:j=5:=Om;subst this;simp only[go_sem,u,jm];refine aT (.inr rfl) rfl ?_;have a1:=l 1 aX aX;have a2:=l 2 aX aX;have a3:=l 3 aX aX;have a4:=l 4 aX aX;simp only[spR]at a1 a2 a3 a4;rw[cE,←w,a1,a2,a3,a4];rfl
   ·rw[cF J,a4F]at w;simp only[go_sem,a4H,F,cU J,BZ];refine aT (.inr rfl) rfl ?_;rw[cE,w]
theorem vM{x:RF}(h:eC x=true):x.valid:=by
 unfold eC tY at h;unfold RF.valid;cases e:eF (val x.num) (val x.den)with
 |true=>rfl
 |false =>rw[e]at h;simp at h
theorem aGH{C:Ctx}(L:r9 C)(x:RF)(A:x.Ok):MY.wp C (aV afS.res (aK (.bool (eC x)))) (PF.args [.agg x.cells]) .nil:=by
 have y:=L.red x A;unfold eC;simp only[go_sem,MY,Mz,M0,afS];refine aB y rfl ?_;cases he:tY x with
 |error e =>have u:=Zr he;simp only[go_sem,frV];refine aQ λo w=>?_;simp only[go_sem,JN,bJ u];refine aT (.inr rfl) rfl ?_;rfl
 |ok r=>
  obtain⟨n,a,b⟩:=r;have B:=qW a 1;have E:=qW b 1;have j:decide (((nl a:Nat):Int)≤1)=decide (dV a≤32):=decide_eq_decide.2 Om;have l:decide (((nl b:Nat):Int)≤1)=decide (dV b≤32):=decide_eq_decide.2 Om;simp only[go_sem,frV];refine aQ λo w=>?_;cases n with
  |true =>simp only[go_sem,JN,a4H];refine aT (.inr rfl) rfl ?_;rfl
  |false=>
   simp only[go_sem,JN,a4O,a3V,bH,j];cases decide (dV a≤32)with
   |false =>simp only[go_sem];refine aT (.inr rfl) rfl ?_;rfl
   |true =>simp only[go_sem,a3V,bH,l];refine aT (.inr rfl) rfl ?_;rfl
structure Bg(C:Ctx):Prop extends r9 C where
 small:∀x:RF,x.Ok→aJ C 74 [.agg x.cells] .nil (aK (.bool (eC x)))
 nums:∀k m q s0 s1 s2 s3 s4:Int,aJ C 72 [.int .i64 k,.int .i64 m,.int .i64 q,.agg [.int .i64 s0,.int .i64 s1,.int .i64 s2,.int .i64 s3,.int .i64 s4]] .nil (aK (.bool (RR k m q s0 s1 s2 s3 s4)))
 sizes:∀a b c d e f:Nat,aJ C 73 [.int .i64 a,.int .i64 b,.int .i64 c,.int .i64 d,.int .i64 e,.int .i64 f] .nil (aK (.bool (uW a b c d e f)))
theorem tu{l:List RF}{k:Nat}(h:k<Z' l):(l.map RF.cells)[k]?=some (l[k]).cells:=by simp[h]
theorem aAJ{C:Ctx}(L:Bg C)(l:List RF)(w:nY l)(n:Int):HX.wp C (aV Ee.res (aK (.bool (decide ((Z' l:Int)=n)&&l.all eC)))) (PF.args [frs l,.int .i64 n]) .nil:=by
 have x:=w.fits;unfold Fits at x;simp only[go_sem,HX,Ak,Al,Ee,a3V];by_cases h:(Z' l:Int)=n
 ·rw[cB h,a4K];subst h;simp only[go_sem,bW (show(Z' l:Int)=(Z' l:Nat)from rfl),An];refine wp_loop (α:=Nat) (λk=>(((PF.nil.set 0 (frs l)).set 1 (.int .i64 (Z' l:Nat))).set 5 (.int .i64 k))) (λ_=>.nil) (λk=>k≤Z' l∧(l.take k).all eC=true) (λk=>Z' l-k) 0 ⟨a4A _,rfl⟩ Lq a_ ?_;rintro k ⟨A,j⟩;simp only[go_sem,Aj,Ao];by_cases hlt:k<Z' l
  ·have e:(k:Int)<(Z' l:Nat):=Om;have y:=L.small l[k] (w.all _ (a3Y hlt));simp only[go_sem,e,Ap,tu hlt];refine aB y rfl ?_;cases hi:eC l[k]with
   |false =>simp only[go_sem,a4O,Aq];refine aT (.inr rfl) rfl ?_;rw[cE,uG hlt hi]
   |true =>have u:=a4T.1 (uF hlt j hi);simp only[go_sem,a4H,Ar,wZz k];exact aH (k+1) ⟨hlt,u⟩ Om Lq b_
  ·have e:¬(k:Int)<(Z' l:Nat):=Om;have:k=Z' l:=Om;subst this;rw[a5F]at j;simp only[go_sem,e,As];refine aT (.inr rfl) rfl ?_;rw[cE,j]
 ·rw[cF h,a4F];simp only[go_sem,cU h,Am];refine aT (.inr rfl) rfl ?_;rfl
structure Bh(C:Ctx):Prop extends Bg C where
 smalls:∀l:List RF,nY l→∀n:Int,aJ C 75 [frs l,.int .i64 n] .nil (aK (.bool (decide ((Z' l:Int)=n)&&l.all eC)))
theorem SU(x:RF):(xB x==0)=!bV x:=by
 unfold xB bV;by_cases h:val x.num=0
 ·simp[h]
 ·cases x.neg<;>simp[h]
def qa(l:List RF)(m:Int):Bool:=decide ((Z' l:Int)=max m 1)&&l.all eC&&l.all bV
theorem aSC{C:Ctx}(L:Bh C)(l:List RF)(y:nY l)(m:Int):bu.wp C (aV aMW.res (aK (.bool (qa l m)))) (PF.args [frs l,.int .i64 m]) .nil:=by
 have B:=y.fits;unfold Fits at B;have F:=L.smalls l y (max m 1);unfold qa;simp only[go_sem,bu,auG,auH,aMW,max_eq];refine aB F rfl ?_;cases h:(decide ((Z' l:Int)=max m 1)&&l.all eC)with
 |false =>simp only[go_sem,a4O,auI];refine aT (.inr rfl) rfl ?_;rfl
 |true=>
  rw[a4P]at h;have j:=a4T.1 h.2;simp only[go_sem,a4H,auJ];refine wp_loop (α:=Nat) (λk=>((PF.nil.set 0 (frs l)).set 5 (.int .i64 k))) (λ_=>.nil) (λk=>k≤Z' l∧(l.take k).all bV=true) (λk=>Z' l-k) 0 ⟨a4A _,rfl⟩ Lq a_ ?_;rintro k ⟨I,w⟩;simp only[go_sem,auF,auK,a3V];by_cases hlt:k<Z' l
  ·have e:(k:Int)<(Z' l:Nat):=Om;have A:=a3Y hlt;have E:=L.sign l[k] (y.all _ A) (vM (j _ A));have u:=SU l[k];simp only[go_sem,e,auL,tu hlt];refine aB E rfl ?_;cases hi:bV l[k]with
   |false =>rw[hi]at u;simp only[go_sem,u,a4O,auM];refine aT (.inr rfl) rfl ?_;rw[cE,uG hlt hi]
   |true =>rw[hi]at u;have x:=a4T.1 (uF hlt w hi);simp only[go_sem,u,a4H,auN,wZz k];exact aH (k+1) ⟨hlt,x⟩ Om Lq b_
  ·have e:¬(k:Int)<(Z' l:Nat):=Om;have:k=Z' l:=Om;subst this;rw[a5F]at w;simp only[go_sem,e,auO];refine aT (.inr rfl) rfl ?_;rw[cE,w]
structure Bi(C:Ctx):Prop extends Bh C where
 reps:∀l:List RF,nY l→∀m:Int,aJ C 66 [frs l,.int .i64 m] .nil (aK (.bool (qa l m)))
def frD:List PV→RF
 |[.bool n,a,b]=>⟨n,mU a,mU b⟩
 |_=>⟨false,[],[]⟩
theorem E7(x:RF):frD x.cells=x:=by
 show(⟨x.neg,mU (aO x.num),mU (aO x.den)⟩:RF)=x;rw[gI,gI]
def zdS(r s:Bool):Spec:=λname vs=>match name,vs with
 |66,_=>some ([],λ_=>aK (.bool r))
 |74,[.agg cs]=>some ([],λ_=>aK (.bool (eC (frD cs))))
 |47,_=>some ([],λ_=>aK (.agg (mkT 1 1).cells))
 |49,_=>some ([],λ_=>aK (.bool s))
 |_,_=>none
theorem Mm(r s:Bool)(x:RF):zdS r s 74 [.agg x.cells]=some ([],λ_=>aK (.bool (eC x))):=by
 show some ([],λ_=>aK (.bool (eC (frD x.cells))))=_;rw[E7]
theorem aDM(x y:RF):uU y x=- uU x y:=by
 unfold uU uT;have e:=Ek (val x.num*val y.den) (val y.num*val x.den);cases x.neg&&decide (val x.num≠0)<;>cases y.neg&&decide (val y.num≠0)<;>simp only[e,Int.neg_neg]<;>rfl
theorem aKG{x:RF}(e:x.valid):decide (uU (mkT 1 1) x<0)=!DB x:=by
 rw[aDM x];unfold DB;rw[show eF (val x.num) (val x.den)=true from e,a4K,NQ];unfold uU;simp only[aY,show(1:Int).natAbs=1 from rfl,show decide ((1:Int)<0)=false from rfl];by_cases h:uT x.neg (val x.num) (val x.den) false 1 1≤0
 ·rw[cB h,cF Om];rfl
 ·rw[cF h,cB Om];rfl
def WE(m:Int)(rep:List RF)(t h:RF):Bool:=qa rep m&&(eC t&&(DB t&&eC h))
theorem aSA{C:Ctx}(L:Bi C)(m:Int)(rep:List RF)(x:nY rep)(t h:RF)(u:t.Ok)(w:h.Ok) :
  bo.wp C (aV aMQ.res (aK (.bool (WE m rep t h)))) (PF.args [.int .i64 m,frs rep,.agg t.cells,.agg h.cells]) .nil:=by
 have j:eP 1:=by unfold eP;omega
 unfold WE;simp only[go_sem,bo,atV,aMQ];refine aZ .nil (zdS (qa rep m) (!DB t)) a_ ?_;simp only[go_sem,atW];refine cS rfl (L.reps rep x m) rfl a_ ?_;cases qa rep m with
 |false =>simp only[go_sem];refine aT (.inr rfl) rfl ?_;rfl
 |true=>
  simp only[go_sem];refine cS (Mm _ _ t) (L.small t u) rfl a_ ?_;cases l:eC t with
  |false =>simp only[go_sem];refine aT (.inr rfl) rfl ?_;rfl
  |true=>
   have e:=L.less (mkT 1 1) t (NP 1 j).1 u (NP 1 j).2 (vM l);rw[aKG (vM l)]at e;simp only[go_sem];refine cS rfl (L.int 1 j) rfl a_ ?_;simp only[go_sem];refine cS rfl e rfl a_ ?_;cases DB t with
   |false =>simp only[go_sem,a4O,a4H];refine aT (.inr rfl) rfl ?_;rfl
   |true =>simp only[go_sem,a4H,a4O];refine cS (Mm _ _ h) (L.small h w) rfl a_ ?_;simp only[go_sem];refine aT (.inr rfl) rfl ?_;rfl
theorem aTH(p:eG):IZ p=WE p.m p.repair p.target p.a2R:=by
 unfold IZ WE qa;have:(p.repair.all λx=>eC x&&bV x)=(p.repair.all eC&&p.repair.all bV):=by
  induction p.repair with
  |nil=>rfl
  |cons a t e =>simp only[List.all_cons,e];cases eC a<;>cases bV a<;>simp
 rw[this];simp only[a7H]
section
variable {H:PH} {B:List BX} {L:List LI}
theorem aN.auW(h:aN H B L)(i:Nat){s b:Nat}{v y:PV}{rows src:List (List PV)}{K:PV→PH→Prop}(hi:L[i]?=some (v,s,rows))(E:fY H s y=some src)(A:roomFor rows.length src.length b)
  (u:∀v' H',cZ H' s v rows→aN H' B (L.set i (v',s,rows++src))→K v' H'):pC H s b v y K:=by
 rcases h.own i hi with⟨rfl,rfl⟩|⟨q,rs,rfl,h1,h2,h3⟩
 ·exact h.append i hi E A λv' H' F _=>u v' H' (.inl ⟨rfl,rfl⟩) F
 ·have e:(rows++src).length=Z' rows+Z' src:=a3Z;refine⟨src,E,rfl,rfl,A,rs,h1,h2,?_,λo l=>?_⟩
  ·rw[h3];refine u _ _ (.inr ⟨q,rows++src,rfl,by rw[bT],by rw[e];omega,List.take_left' rfl⟩) (h.TD i hi (.inr ⟨q,rows++src,by rw[e],by simp only[aU,if_true],a4B _,a5F⟩) (λp j=>by cases j;exact .inl rfl) λp _ j=>?_);rw[aU,aG (j q rfl)]
  ·rw[h3];have x:q≠o:=by rintro rfl;rw[h1]at l;cases l
   refine u _ _ (.inr ⟨q,rs,rfl,by rw[aU,aG x];exact h1,h2,h3⟩) (h.TD i hi (.inr ⟨o,rows++src,by rw[e],by simp only[aU,if_true],a4B _,a5F⟩) (λp j=>by cases j;exact .inr l) λp w j=>?_);obtain⟨f1,f2⟩:=h.fresh l;have I:p≠o:=by rintro rfl;exact w.elim f1 f2
   rw[aU,aG I]
end
abbrev rN(l:List (List UInt8)):List (List PV):=l.map λs=>[PV.str s]
def GY:List (List UInt8)→List UInt8→Nat→Int
 |[],_,_=>-1
 |x::t,s,i=>if x==s then(i:Int)else GY t s (i+1)
theorem T3(s:List UInt8):∀(l:List (List UInt8)) (i:Nat),decide (GY l s i<0)=!l.contains s
 |[],i=>rfl
 |x::t,i=>by
  rw[GY,List.contains_cons,BEq.comm (a:=s)];by_cases h:(x==s)=true
  ·rw[aL h,h,Bool.true_or,cF Om];rfl
  ·rw[aG h,T3 s t (i+1)];simp only[Bool.not_eq_true]at h;rw[h,Bool.false_or]
theorem aGE{C:Ctx}(l:List (List UInt8))(y:Z' l≤1000000)(s:List UInt8):MV.wp C (aV afE.res (aK (.int .i64 (GY l s 0)))) (PF.args [.sl 1 (rN l),.str s]) .nil:=by
 simp only[go_sem,MV,Mr,Ms,afE];refine wp_loop (α:=Nat) (λk=>(((PF.nil.set 0 (.sl 1 (rN l))).set 1 (.str s)).set 5 (.int .i64 k))) (λ_=>.nil) (λk=>k≤Z' l∧GY l s 0=GY (l.drop k) s k) (λk=>Z' l-k) 0 ⟨a4A _,rfl⟩ Lq a_ ?_;rintro k ⟨x,j⟩;simp only[go_sem,Mq,Mt,a3V];by_cases hlt:k<Z' l
 ·have e:(k:Int)<(Z' l:Nat):=Om;have u:(rN l)[k]?=some [.str l[k]]:=by simp[hlt]
  rw[a6J hlt,GY]at j;cases w:l[k]==s with
  |true =>rw[w,aL rfl]at j;simp only[go_sem,e,br,u,w,Mu];refine aT (.inr rfl) rfl ?_;rw[cE,j]
  |false =>rw[w,aG aX]at j;simp only[go_sem,e,br,u,w,Mv,wZz k];exact aH (k+1) ⟨hlt,j⟩ Om Lq b_
 ·have e:¬(k:Int)<(Z' l:Nat):=Om;have:k=Z' l:=Om;subst this;rw[List.drop_length,GY]at j;simp only[go_sem,e,Mw];refine aT (.inr rfl) rfl ?_;rw[cE,j]
structure Bj(C:Ctx):Prop extends Bi C where
 name:∀s:List UInt8,aJ C 62 [.str s] .nil (aK (.bool (isName s)))
 index:∀(l:List (List UInt8)),Z' l≤1000000→∀s:List UInt8,aJ C 71 [.sl 1 (rN l),.str s] .nil (aK (.int .i64 (GY l s 0)))
def mV(l:List (List UInt8))(s:List UInt8):Bool:=isName s&&!l.contains s
def ry(l:List (List UInt8))(s:List UInt8)(r:PV)(B:List BX)(L:List LI):Prop:=∃e,r=.tup [e,.bool (mV l s)]∧B=[]∧L=[(e,1,rN (l++[s]))]
theorem aGD{C:Ctx}(L:Bj C)(l:List (List UInt8))(U:Z' l≤1000000)(s:List UInt8)(w:PV)(H:PH)(R:aN H [] [(w,1,rN l)]) :
  MU.wp C (aV afD.res (λr H'=>∃B' L',ry l s r B' L'∧aN H' B' L')) (PF.args [w,.str s]) H:=by
 have y:=L.index l U s;have K:=L.name s;have u:=T3 s l 0;have J:(1:Nat)*1≤16777216:=by decide
 have fin:∀(F:PF)(H':PH)(j:PV)(b:Bool),F 4=some j→F 5=some (.bool b)→b=mV l s→aN H' [] [(j,1,rN (l++[s]))]→aV [.tmp 4,.tmp 5] (λr H'=>∃B' L',ry l s r B' L'∧aN H' B' L') .ret F H':=λF H' j b N O e I=>
  bD (vs:=[j,.bool b]) (.inr rfl) H' (by simp only[go_sem,N,O]) b_ ⟨[],_,⟨j,by rw[e];rfl,rfl,rfl⟩,I⟩
 simp only[go_sem,MU,Mo,Mp,afD,J];refine R.auW 0 (src:=[[.str s]]) rfl rfl (by unfold roomFor;rw[a3V];simp only[a4E,maxLen];omega) λj H' S I=>?_;have x:aN H' [] [(j,1,rN (l++[s]))]:=by
  have e:rN (l++[s])=rN l++[[.str s]]:=by simp[rN]
  rw[e];exact I
 refine aB K rfl ?_;cases M:isName s with
 |false =>simp only[go_sem];exact fin _ _ j false rfl rfl (by unfold mV;rw[M,a4F]) x
 |true=>
  have A:mV l s=!l.contains s:=by unfold mV;rw[M,a4K]
  rcases S with⟨V,rfl⟩|⟨q,rs,rfl,q1,q2,q3⟩
  ·simp only[go_sem];rw[V]at y;have E:aJ C 71 [.aE,.str s] .nil (aK (.int .i64 (GY l s 0))):=y.args (.cons (.nil 1) (.cons (.refl _) .nil));refine aB E rfl ?_;simp only[go_sem,u];exact fin _ _ j _ rfl rfl A.symm x
  ·simp only[go_sem];refine agV (vs:=[.osl q 1 0 (rN l).length,.str s]) (.int .i64 (GY l s 0)) ?_ q1 Sq ?_
   ·rw[a5D,a5D,a6L,yA q2,q3];exact y
   simp only[go_sem,u];exact fin _ _ j _ rfl rfl A.symm x
theorem aEW{x:RF}(h:eC x=true):decide (xB x>0)=bV x:=by
 have j:=vM h;unfold eC tY at h;rw[show eF (val x.num) (val x.den)=true from j,aL rfl,l4 j]at h;unfold xB bV;by_cases e:val x.num=0
 ·simp[e]
 ·have hq:val x.num/a3X (val x.num) (val x.den)≠0:=by have:=Nat.div_pos (Nat.gcd_le_left (val x.den) (a6Q e)) (Nat.gcd_pos_of_pos_left _ (a6Q e));omega
  have l:x.neg=false:=by unfold rR at h;simp only[hq,ne_eq,not_false_eq_true,decide_true,a5Z,a4P]at h;simpa using h.1
  rw[aG e,l];simp[e]
structure Oc(l:dJ):Prop where
 exit:∀x∈l.exit,eC x=true
 row:∀r∈l.a2L,∀x∈r,eC x=true
structure vE(C:Ctx):Prop extends Bj C where
 fresh:∀(l:List (List UInt8)),Z' l≤1000000→∀(s:List UInt8)(w:PV)(H:PH),aN H [] [(w,1,rN l)]→aJ C 70 [w,.str s] H (λr H'=>∃B' L',ry l s r B' L'∧aN H' B' L')
theorem vE.pos{C:Ctx}(L:vE C){x:RF}(e:x.Ok)(h:eC x=true):∃n:Int,aJ C 54 [.agg x.cells] .nil (aK (.int .i64 n))∧decide (n>0)=bV x:=⟨_,L.sign x e (vM h),aEW h⟩
def zlF(l:dJ)(o r i:Nat):PF:=(((((PF.nil.set 1 (.bU l.cells)).set 3 (.int .i64 (Z' l.exit:Nat))).set 7 (.osl o 1 0 l.exit.length)).set 8 (.int .i64 r)).set 9 (.int .i64 i))
theorem aMR{C:Ctx}(L:vE C)(l:dJ)(o r i:Nat)(row:List RF)(U:(l.a2L.map λr=>[frs r])[i]?=some [frs row])(M:nY row)(J:∀x∈row,eC x=true)(Y:Z' row=Z' l.exit)(hi:i<Z' l.exit)(hn:Z' l.exit≤4)(j:List Bool)(hR:Z' j=Z' l.exit)(K:cP)[Up K](F:PF)(H:PH)
  (O:((zlF l o r i).set 10 (.int .i64 0)).le F) (N:(lP o j).le H)
  (X:K (.exit 6) (zlF l o r i) (lP o (dT j i row row.length))):aC.wp C (.loop UH) K F H:=by
 refine wp_loop (α:=Nat) (λk=>(zlF l o r i).set 10 (.int .i64 k)) (λk=>lP o (dT j i row k)) (λk=>k≤Z' row) (λk=>Z' row-k) 0 (a4A _) O N ?_;intro k hk;have W:=zS j i row k;have B:∀h:k<Z' row,dT j i row (k+1)=(dT j i row k).set i ((dT j i row k).getD i false||bV row[k]&&(dT j i row k).getD k false):=λh=>by simp only[dT,a4D,a4Q,a4C h,a5B,a6R]
 have fin:∀(b:Bool)(F:PF)(H:PH),k<Z' row→bC (dT j i row (k+1))=(bC (dT j i row k)).set i [.bool b]→((zlF l o r i).set 10 (.int .i64 (k+1:Nat))).le F→H o=some (.rows 1 ((bC (dT j i row k)).set i [.bool b])) →
   iR (λk:Nat=>(zlF l o r i).set 10 (.int .i64 k)) (λk=>lP o (dT j i row k)) (λk=>k≤Z' row) (λk=>Z' row-k) (Z' row-k) K .normal F H:=by
  intro b F H hlt hb O N;refine aH (k+1) hlt Om O ?_;rw[←hb]at N;exact e_ a_ N
 unfold zlF lP at fin;simp only[go_sem,UH,afL,zlF,lP];by_cases hlt:k<Z' row
 ·have e:(k:Int)<(Z' l.exit:Nat):=Om;have y:(i:Int)<(Z' l.exit:Nat):=Om;have w:=fA (R:=dT j i row k) (i:=i) Om;have E:=fA (R:=dT j i row k) (i:=k) Om;have u:=B hlt;obtain⟨n,V,I⟩:=L.pos (M.all _ (a3Y hlt)) (J _ (a3Y hlt));have S:=tu hlt;generalize hb:(dT j i row k).getD i false=b at *
  generalize hc:(dT j i row k).getD k false=c at *
  generalize Z:bV row[k]=A at *
  cases b with
  |true =>simp only[go_sem,e,rh,y,a4I,w,UI,wZz k];exact fin true _ _ hlt (by rw[u,jN,Bool.true_or]) Lq Sq
  |false=>
   simp only[go_sem,e,rh,y,a4I,w,U,S];refine aB V rfl ?_;cases A with
   |false =>simp only[go_sem,I,y,e,a4I,w,E,UI,wZz k];exact fin false _ _ hlt (by rw[u,jN,Bool.false_or,a4F]) Lq Sq
   |true =>simp only[go_sem,I,y,e,a4I,w,E,UI,wZz k];exact fin c _ _ hlt (by rw[u,jN,Bool.false_or,a4K]) Lq Sq
 ·have e:¬(k:Int)<(Z' l.exit:Nat):=Om;have:k=Z' row:=Om;subst this;simp only[go_sem,e];refine Up.up ?_ X
  (repeat' (first|exact c_|refine d_ ?_ ?_))<;>first|(simp only[go_sem,zlF]<;>rfl)|rfl
theorem aMT{C:Ctx}(L:vE C)(l:dJ)(U:l.Ok)(he:HY l)(W:Oc l)(o r:Nat)(R:List Bool)(hR:Z' R=Z' l.exit)(K:cP)[Up K](F:PF)(H:PH)
  (M:(zlF l o r 0).le F) (N:(lP o R).le H)
  (Z:K (.exit 4) (zlF l o r l.exit.length) (lP o (eH l R l.exit.length))):aC.wp C (.loop qx) K F H:=by
 refine wp_loop (α:=Nat) (λi=>zlF l o r i) (λi=>lP o (eH l R i)) (λi=>i≤Z' l.exit) (λi=>Z' l.exit-i) 0 (a4A _) M N ?_;intro i hi;have V:=wA l R i;have hn:=he.n;simp only[go_sem,qx,afK,zlF,lP];by_cases hlt:i<Z' l.exit
 ·have e:(i:Int)<(Z' l.exit:Nat):=Om;have u:i<Z' l.a2L:=by rw[he.a2L];exact hlt
  have y:=fA (R:=eH l R i) (i:=i) Om;have hx:=tu hlt;have I:(l.a2L.map λr=>[frs r])[i]?=some [frs l.a2L[i]]:=by simp[u]
  have O:(l.a2L[i]).length=Z' l.exit:=he.row _ (a3Y u);generalize w:(eH l R i).set i ((eH l R i).getD i false||bV l.exit[i])=J;have B:Z' J=Z' l.exit:=by rw[←w,a5Q];omega
  have A:eH l R (i+1)=dT J i l.a2L[i] (l.a2L[i]).length:=by
   simp only[eH,oW];have X:(l.exit.map bV).getD i false=bV l.exit[i]:=by simp[a4D,hlt]
   have Y:l.a2L.getD i []=l.a2L[i]:=by simp[a4D,u]
   rw[X,Y,w]
  obtain⟨n,S,E⟩:=L.pos (U.exit.all _ (a3Y hlt)) (W.exit _ (a3Y hlt));have x:∀(F:PF)(H:PH),(zlF l o r i).le F→H o=some (.rows 1 (bC J)) →
    aC.wp C (.seq (.region rg) (.block 6 (.loop UH))) (gP 5 (kT C (aC.wp C (.region ri)) (iR (λi:Nat=>zlF l o r i) (λi=>lP o (eH l R i)) (λi=>i≤Z' l.exit) (λi=>Z' l.exit-i) (Z' l.exit-i) K))) F H:=by
   intro F H M N;refine uB _ (λ_ _ _ _ a b=>Up.up a b) M ?_;simp only[go_sem,rg];refine aMR L l o r i l.a2L[i] I (U.row _ (a3Y u)) (W.row _ (a3Y u)) O hlt hn J B _ _ _ (by(repeat' (first|exact c_|refine d_ ?_ ?_))<;>first|(simp only[go_sem,zlF]<;>rfl)|rfl) (e_ a_ N) ?_;simp only[go_sem,zlF,ri,wZz i];exact aH (i+1) hlt Om Lq (by rw[A];exact b_)
  simp only[zlF,lP]at x;have j:=x;simp only[aC.wp,go_sem]at j;generalize hb:(eH l R i).getD i false=b at *
  cases b with
  |true =>simp only[go_sem,e,re,e,a4I,y];refine j _ _ Lq ?_;rw[←w];simp only[go_sem,jN,Bool.true_or]
  |false =>simp only[go_sem,e,re,e,a4I,y,hx];refine aB S rfl ?_;simp only[go_sem,e,a4I,y,E];refine j _ _ Lq ?_;rw[←w];simp only[go_sem,jN,Bool.false_or]
 ·have e:¬(i:Int)<(Z' l.exit:Nat):=Om;have:i=Z' l.exit:=Om;subst this;simp only[go_sem,e];exact Up.up (by(repeat' (first|exact c_|refine d_ ?_ ?_))<;>first|(simp only[go_sem,zlF]<;>rfl)|rfl) Z
theorem aMS{C:Ctx}(L:vE C)(l:dJ)(y:l.Ok)(he:HY l)(A:Oc l)(o:Nat)(K:cP)[Up K](F:PF)(H:PH)
  (u:(((((PF.nil.set 1 (.bU l.cells)).set 3 (.int .i64 (Z' l.exit:Nat))).set 7 (.osl o 1 0 l.exit.length)).set 8 (.int .i64 0)):PF).le F) (w:(lP o (eJ l 0)).le H)
  (x:K (.exit 2) (((PF.nil.set 3 (.int .i64 (Z' l.exit:Nat))).set 7 (.osl o 1 0 l.exit.length))) (lP o (eJ l l.exit.length))):aC.wp C (.loop qy) K F H:=by
 have B:=he.n;refine wp_loop (α:=Nat) (λr=>((((PF.nil.set 1 (.bU l.cells)).set 3 (.int .i64 (Z' l.exit:Nat))).set 7 (.osl o 1 0 l.exit.length)).set 8 (.int .i64 r))) (λr=>lP o (eJ l r)) (λr=>r≤Z' l.exit) (λr=>Z' l.exit-r) 0 (a4A _) u w ?_;intro r E;have j:=vZ l r;simp only[go_sem,qy,afI];by_cases hlt:r<Z' l.exit
 ·have e:(r:Int)<(Z' l.exit:Nat):=Om;simp only[go_sem,e,afJ];refine aMT L l y he A o r (eJ l r) j _ _ _ (by(repeat' (first|exact c_|refine d_ ?_ ?_))<;>first|(simp only[go_sem,zlF]<;>rfl)|rfl) b_ ?_;simp only[go_sem,zlF,afM,wZz r];exact aH (r+1) hlt Om Lq b_
 ·have e:¬(r:Int)<(Z' l.exit:Nat):=Om;have:r=Z' l.exit:=Om;subst this;simp only[go_sem,e];exact Up.up Lq x
theorem aUN{C:Ctx}(R:List Bool)(I:Z' R≤4)(o:Nat)(X:Bool)(B:X=R.all id)(Q:PV→PH→Prop)(A:Q=aK (.bool X))(F:PF)(H:PH)
  (x:((((PF.nil.set 3 (.int .i64 (Z' R:Nat))).set 7 (.osl o 1 0 R.length)).set 11 (.int .i64 0)):PF).le F) (y:(lP o R).le H):aC.wp C (.loop qz) (gP 8 (kT C (aC.wp C (.seq (.region rk) .ret)) (aV [.tmp 2] Q))) F H:=by
 subst B A;refine wp_loop (α:=Nat) (λk=>(((PF.nil.set 3 (.int .i64 (Z' R:Nat))).set 7 (.osl o 1 0 R.length)).set 11 (.int .i64 k))) (λ_=>lP o R) (λk=>k≤Z' R∧(R.take k).all id=true) (λk=>Z' R-k) 0 ⟨a4A _,rfl⟩ x y ?_;rintro k ⟨J,u⟩;simp only[go_sem,qz,afO,lP];by_cases hlt:k<Z' R
 ·have e:(k:Int)<(Z' R:Nat):=Om;have j:=fA (R:=R) (i:=k) hlt;have E:R.getD k false=R[k]:=by simp[a4D,hlt]
  rw[E]at j;cases l:R[k]with
  |false =>rw[l]at j;simp only[go_sem,e,rj,a4I,j,a4O,afP];refine aT (.inr rfl) rfl ?_;rw[cE,uG hlt (p:=id) l]
  |true =>rw[l]at j;have w:=uF hlt u (p:=id) l;simp only[go_sem,e,rj,a4I,j,a4H,afQ,wZz k];exact aH (k+1) ⟨hlt,by simpa using a4T.1 w⟩ Om Lq b_
 ·have e:¬(k:Int)<(Z' R:Nat):=Om;have:k=Z' R:=Om;subst this;rw[a5F]at u;simp only[go_sem,e,rk];refine aT (.inr rfl) rfl ?_;rw[cE,u]
def Marks(R S:List Bool):Prop:=Z' R=Z' S∧∀j:Nat,R[j]?=some true→S[j]?=some true
theorem Marks.aUB(R:List Bool):Marks R R:=⟨rfl,λ_ h=>h⟩
theorem Marks.trans{R S T:List Bool}(h:Marks R S)(k:Marks S T):Marks R T:=⟨h.1.trans k.1,λj a=>k.2 j (h.2 j a)⟩
theorem Uw(R:List Bool)(i:Nat)(b:Bool):Marks R (R.set i (R.getD i false||b)):=by
 refine⟨by rw[a5Q],λj h=>?_⟩;rw[a7N];obtain⟨l,he⟩:=a5A.1 h;split
 ·rename_i e;subst e;rw[aL l,a4D,h];rfl
 ·exact h
theorem Gg(R:List Bool)(i:Nat)(row:List RF):∀k,Marks R (dT R i row k)
 |0=>Marks.aUB R
 |k+1=>(Gg R i row k).trans (Uw _ _ _)
theorem KG(l:dJ)(R:List Bool):∀i,Marks R (eH l R i)
 |0=>Marks.aUB R
 |i+1=>(KG l R i).trans ((Uw _ _ _).trans (Gg _ _ _ _))
theorem Ux:∀{R S:List Bool},Marks R S→R≠S→R.count true<S.count true
 |[],[],_,h=>absurd rfl h
 |[],_::_,h,_=>by have:=h.1;simp at this
 |_::_,[],h,_=>by have:=h.1;simp at this
 |a::R,b::S,h,l=>by
  have u:a=true→b=true:=λe=>by have:=h.2 0 (by rw[e];rfl);simpa using this
  have x:Marks R S:=⟨by have:=h.1;simpa using this,λj w=>by have:=h.2 (j+1) (by simpa using w);simpa using this⟩;by_cases e:R=S
  ·subst e;have:a≠b:=λe=>l (by rw[e]);cases a<;>cases b<;>simp at this u ⊢
  ·have:=Ux x e;cases a<;>cases b<;>simp at u ⊢<;>omega
theorem s7:∀{R:List Bool},Z' R≤R.count true→R.all id=true
 |[],_=>rfl
 |a::R,h=>by
  have e:=List.count_le_length (a:=true) (l:=R);cases a with
  |true =>simp only[List.count_cons_self,a5P]at h;simp only[List.all_cons,id,a4K];exact s7 Om
  |false =>simp at h;omega
theorem SG(l:dJ){s:Nat}(h:eJ l (s+1)=eJ l s):∀d,eJ l (s+d)=eJ l s
 |0=>rfl
 |d+1=>by show eH l (eJ l (s+d)) l.exit.length=_;rw[SG l h d];exact h
theorem x9(l:dJ):∀r,(∃s,s<r∧eJ l (s+1)=eJ l s)∨r≤(eJ l r).count true
 |0=>.inr (a4A _)
 |r+1=>by
  rcases x9 l r with⟨s,u,j⟩|h
  ·exact .inl ⟨s,by omega,j⟩
  ·by_cases e:eJ l (r+1)=eJ l r
   ·exact .inl ⟨r,by omega,e⟩
   ·have:=Ux (KG l (eJ l r) l.exit.length) (λh=>e h.symm);exact .inr (by show r+1≤(eH l (eJ l r) l.exit.length).count true;omega)
theorem aOJ(l:dJ):tZ l=(eJ l l.exit.length).all id:=by
 unfold tZ;rcases x9 l l.exit.length with⟨s,F,u⟩|h
 ·obtain⟨d,B⟩:∃d,Z' l.exit=s+d:=⟨Z' l.exit-s,by omega⟩;rw[show l.exit.length+1=s+(d+1) by omega,B,SG l u,SG l u]
 ·have w:(eJ l l.exit.length).all id=true:=s7 (by rw[vZ];exact h);have A:Marks (eJ l l.exit.length) (eJ l (Z' l.exit+1)):=KG l (eJ l l.exit.length) l.exit.length;rw[w,a4T];intro x E;obtain⟨j,y,rfl⟩:=a5R E;have e:j<(eJ l l.exit.length).length:=by rw[A.1];exact y
  have:=A.2 j (by rw[a4C e];have:=a4T.1 w _ (a3Y e);simpa using this);rw[a4C y]at this;simpa using this
def zsS(s:Bool):Spec:=λname vs=>match name,vs with
 |47,_=>some ([],λ_=>aK (.agg (mkT 1 1).cells))
 |53,_=>some ([],λ_=>aK (.bool s))
 |_,_=>none
theorem aIQ(l:dJ):oK l=(within l.start.length 1 4&&((decide ((Z' l.start:Int)=Z' l.start)&&l.start.all eC)&&((decide ((Z' l.exit:Int)=Z' l.start)&&l.exit.all eC)&&(decide (Z' l.a2L=Z' l.start)&&((a3U l.a2L.length).all (xP l)&&(BF l&&tZ l)))))):=by
 rw[alN,cB (rfl:(Z' l.start:Int)=Z' l.start),a4K];have:decide (Z' l.exit=Z' l.start)=decide ((Z' l.exit:Int)=Z' l.start):=decide_eq_decide.2 Om;rw[this];cases within l.start.length 1 4<;>cases decide ((Z' l.exit:Int)=Z' l.start)<;>cases decide (Z' l.a2L=Z' l.start)<;>cases l.start.all eC<;>cases l.exit.all eC<;>simp[a7H]
theorem Zw(l:dJ){i:Nat}(h:i<Z' l.a2L):xP l i=((decide (((l.a2L[i]).length:Int)=Z' l.start)&&(l.a2L[i]).all eC)&&!((l.a2L[i]).map bV).getD i false):=by
 unfold xP;have:l.a2L.getD i []=l.a2L[i]:=by simp[a4D,h]
 rw[this];have:decide ((l.a2L[i]).length=Z' l.start)=decide (((l.a2L[i]).length:Int)=Z' l.start):=decide_eq_decide.2 Om;rw[this]
theorem aSB{C:Ctx}(L:vE C)(l:dJ)(R:l.Ok):bs.wp C (aV aMU.res (aK (.bool (oK l)))) (PF.args [.agg l.cells]) .nil:=by
 have u:=aIQ l;have fail:∀(F:PF)(H:PH),oK l=false→F 2=some (.bool false)→aV [.tmp 2] (aK (.bool (oK l))) .ret F H:=λF H e h=>by rw[e];exact bD (vs:=[.bool false]) (.inr rfl) .nil (by simp only[go_sem,h]) a_ ⟨rfl,rfl⟩
 have e1:=L.smalls l.start R.start l.start.length;have e2:=L.smalls l.exit R.exit l.start.length;simp only[go_sem,bs,atY,atZ,aMU,a3V,auA];by_cases c1:(Z' l.start:Int)<1
 ·simp only[go_sem,c1,GD];exact fail _ _ (by rw[u,show within l.start.length 1 4=false from by unfold within;rw[cF Om,a4F],a4F]) rfl
 by_cases c2:(Z' l.start:Int)>4
 ·simp only[go_sem,c1,c2,GD];exact fail _ _ (by rw[u,show within l.start.length 1 4=false from by unfold within;rw[cF (Om:¬(Z' l.start:Int)≤4),a5I],a4F]) rfl
 rw[show within l.start.length 1 4=true from by unfold within;rw[cB (Om:(1:Int)≤(Z' l.start:Nat)),cB (Om:(Z' l.start:Int)≤4)];rfl,a4K]at u;simp only[go_sem,c1,c2];refine aB e1 rfl ?_;cases k1:(decide ((Z' l.start:Int)=Z' l.start)&&l.start.all eC)with
 |false =>rw[k1,a4F]at u;simp only[go_sem,a4O,GD];exact fail _ _ u rfl
 |true=>
 rw[k1,a4K]at u;simp only[go_sem,a4H];refine aB e2 rfl ?_;cases k2:(decide ((Z' l.exit:Int)=Z' l.start)&&l.exit.all eC)with
 |false =>rw[k2,a4F]at u;simp only[go_sem,a4O,GD];exact fail _ _ u rfl
 |true=>
 rw[k2,a4K]at u;rw[a4P,decide_eq_true_eq]at k2;have E:Z' l.exit=Z' l.start:=Om;have O:=a4T.1 k2.2;by_cases c3:Z' l.a2L=Z' l.start
 case neg =>rw[cF c3,a4F]at u;simp only[go_sem,a4H,a3V,cU (Om:(Z' l.a2L:Int)≠(Z' l.start:Nat)),GD];exact fail _ _ u rfl
 rw[cB c3,a4K]at u;simp only[go_sem,a4H,a3V,bW (Om:(Z' l.a2L:Int)=(Z' l.start:Nat)),auB];refine wp_loop (α:=Nat) (λi=>(((PF.nil.set 1 (.bU l.cells)).set 3 (.int .i64 (Z' l.start:Nat))).set 4 (.int .i64 i))) (λ_=>.nil) (λi=>i≤Z' l.start∧∀j,j<i→xP l j=true) (λi=>Z' l.start-i) 0 ⟨a4A _,λj h=>by omega⟩ Lq a_ ?_;rintro i ⟨hi,y⟩;simp only[go_sem,atX,auC];by_cases hlt:i<Z' l.start
 ·have A:(i:Int)<(Z' l.start:Nat):=Om;have B:i<Z' l.a2L:=Om;have J:(l.a2L.map λr=>[frs r])[i]?=some [frs l.a2L[i]]:=by simp[B]
  have Y:=R.row _ (a3Y B);have e3:=L.smalls l.a2L[i] Y l.start.length;have w:=Zw l B;have S:xP l i=false→oK l=false:=λh=>by rw[u,show(a3U l.a2L.length).all (xP l)=false from List.all_eq_false.2 ⟨i,a4S.2 B,by simp[h]⟩,a4F]
  simp only[go_sem,A,auD,J];refine aB e3 rfl ?_;cases k3:(decide (((l.a2L[i]).length:Int)=Z' l.start)&&(l.a2L[i]).all eC)with
  |false =>rw[k3,a4F]at w;simp only[go_sem,a4O,Ed];exact fail _ _ (S w) rfl
  |true=>
   rw[k3,a4K]at w;rw[a4P,decide_eq_true_eq]at k3;have κ:(l.a2L[i]).length=Z' l.start:=Om;have K:i<(l.a2L[i]).length:=Om;have hm:=a3Y K;have hs:=L.sign _ (Y.all _ hm) (vM (a4T.1 k3.2 _ hm));have hz:=SU (l.a2L[i])[i];have hg:((l.a2L[i]).map bV).getD i false=bV (l.a2L[i])[i]:=by simp[a4D,K]
   rw[hg]at w;have I:(xB (l.a2L[i])[i] != 0)=bV (l.a2L[i])[i]:=by rw[bne,hz,Bool.not_not]
   simp only[go_sem,a4H,J,tu K];refine aB hs rfl ?_;cases k4:bV (l.a2L[i])[i]with
   |true =>rw[k4]at w I;simp only[go_sem,I,Ed];exact fail _ _ (S w) rfl
   |false=>
    rw[k4]at w I;simp only[go_sem,I,auE,wZz i];exact aH (i+1) ⟨hlt,λj hj=>by
     by_cases e:j=i
     ·rw[e];exact w
     ·exact y j Om⟩ Om Lq b_
 ·have A:¬(i:Int)<(Z' l.start:Nat):=Om;have:i=Z' l.start:=Om;subst this;have M:(a3U l.a2L.length).all (xP l)=true:=a4T.2 λj hj=>y j (by rw[←c3];exact a4S.1 hj);rw[M,a4K]at u;have β:∀r∈l.a2L,Z' r=Z' l.start∧∀x∈r,eC x=true:=λr X=>by obtain⟨j,hj,rfl⟩:=a5R X;have h:=y j Om;rw[Zw l hj,a4P,a4P,decide_eq_true_eq]at h;exact⟨by omega,a4T.1 h.1.2⟩
  have W:Oc l:=⟨O,λr X=>(β r X).2⟩;have V:HY l:=⟨by omega,by omega,λr X=>by rw[(β r X).1,E]⟩;have γ:=L.sum l.start R.start.all R.start.fits;simp only[go_sem,A,afF];refine aB γ rfl ?_;cases U:sN (l.start.map RF.v)with
  |error e=>
   have ζ:=aaQ U;have:BF l=false:=by unfold BF;rw[U]
   rw[this,a4F]at u;simp only[go_sem,frV];refine aQ λo ho=>?_;simp only[go_sem];refine aZ .nil cI a_ ?_;simp only[go_sem,q9,cU ζ,rc];exact fail _ _ u rfl
  |ok r=>
   have Z:=arA U;have θ:=yk U;obtain⟨n,a,b⟩:=r;have h1:eP 1:=by unfold eP;omega
   have N:=L.same (FV.rf (n,a,b)) (mkT 1 1) Z (NP 1 h1).1 (by unfold RF.valid FV.rf;simp only[aY];exact θ) (NP 1 h1).2;have hP:BF l=(uU (FV.rf (n,a,b)) (mkT 1 1)==0):=by unfold BF;rw[U,NQ];unfold uU FV.rf;simp only[aY,show(1:Int).natAbs=1 from rfl,show decide ((1:Int)<0)=false from rfl];by_cases h:uT n a b false 1 1=0<;>simp[h]
   simp only[go_sem,frV];refine aQ λo ho=>?_;have hH:aN (PH.nil.set o (.rows 3 [(FV.rf (n,a,b)).cells])) [(o,.rows 3 [(FV.rf (n,a,b)).cells])] []:=aN.nil.new (H:=PH.nil) rfl _;simp only[go_sem];refine aZ (PH.nil.set o (.rows 3 [(FV.rf (n,a,b)).cells])) (zsS (uU (FV.rf (n,a,b)) (mkT 1 1)==0)) b_ ?_;simp only[go_sem,q9,bW (show(0:Int)=0 from rfl)];refine cS rfl (L.int 1 h1) rfl b_ ?_;simp only[go_sem];refine cS rfl N rfl b_ ?_;rw[←hP];cases hp:BF l with
   |false =>rw[hp,a4F]at u;simp only[go_sem,a4O,rc];exact fail _ _ u rfl
   |true=>
    rw[hp,a4K,aOJ]at u;have δ:(Z' l.start:Int)*((1:Nat):Int)≤140737488355328:=Om;have ε:(Z' l.start:Int)≤9223372036854775807:=Om;simp only[go_sem,a4H,afG,δ,ε];refine aQ λq hq=>?_;simp only[go_sem,afH];have ι:a3W l.start.length [PV.bool false]=bC (eJ l 0):=by rw[←E];simp[eJ,bC]
    rw[←E];refine aMS L l R V W q _ _ _ Lq ?_ ?_
    ·refine e_ a_ ?_;rw[bT,E,ι]
    simp only[go_sem,afN];have η:(eJ l l.exit.length).length≤4:=by rw[vZ];omega
    refine aUN (eJ l l.exit.length) η q (oK l) u _ rfl _ _ ?_ b_;rw[vZ];exact Lq
structure xX(C:Ctx):Prop extends vE C where
 law:∀l:dJ,l.Ok→aJ C 68 [.agg l.cells] .nil (aK (.bool (oK l)))
def okL(base ns:List (List UInt8))(P:Nat→Bool)(i:Nat):Bool:=mV (base++ns.take i) (ns.getD i [])&&P i
theorem xE{p:Nat→Bool}(k:Nat)(b:Bool):(b&&(a3U (k+1)).all p)=((b&&(a3U k).all p)&&p k):=by
 rw[a6N,List.all_append];cases(a3U k).all p<;>cases b<;>simp
theorem xD{p:Nat→Bool}{b:Bool}{i n:Nat}(hi:i≤n)(h:(b&&(a3U i).all p)=false):(b&&(a3U n).all p)=false:=by
 cases b with
 |false=>rfl
 |true =>rw[a4K]at h ⊢;obtain⟨x,j,e⟩:=List.all_eq_false.1 h;exact List.all_eq_false.2 ⟨x,a4S.2 (by have:=a4S.1 j;omega),e⟩
structure lM(H:PH)(w:PV)(base ns:List (List UInt8))(c:Bool)(i:Nat):Prop where
 ex:∃names,aN H [] [(w,1,rN names)]∧(c=true→names=base++ns.take i)
section
variable {C:Ctx} {F:PF} {H:PH} {d:Option Nat} {K:PF→PH→Prop}
theorem lM.call(L:vE C){w:PV}{base ns:List (List UInt8)}{i:Nat}{B:List BX}{e:List (List UInt8)}(h:aN H B [(w,1,rN e)])(J:Z' base≤1000)(hi:i≤1000)(y:e=base++ns.take i)(l:i<Z' ns){a b:Nat}(j:aR.evs F [.tmp a,.tmp b]=some [w,.str ns[i]])
  (E:∀u H',aN H' B [(u,1,rN (e++[ns[i]]))]→lM H' u base ns true (i+1)→K (F.put d (.tup [u,.bool (mV (base++ns.take i) (ns.getD i []))])) H'):jX C 70 [.tmp a,.tmp b] [] d K F H:=by
 refine MS (B1:=[]) (B2:=B) (L1:=[(w,1,rN e)]) (L2:=[]) (Q:=ry e ns[i]) h (λH0 I=>L.fresh e (by rw[y,a3Z,a4M];omega) ns[i] w H0 I) j ?_;rintro r B' L' H' ⟨u,rfl,rfl,rfl⟩ A;have x:ns.getD i []=ns[i]:=by simp[a4D,l]
 rw[x,←y]at E;refine E u H' A ⟨e++[ns[i]],A.sub (List.nil_sublist _) (a6B.refl _),λ_=>?_⟩;rw[a5W l,←a5C,y]
end
theorem lM.D7{H:PH}{w:PV}{base ns:List (List UInt8)}{c:Bool}{i:Nat}(h:lM H w base ns true i):lM H w base ns c i:=by
 obtain⟨e,j,l⟩:=h.ex;exact⟨e,j,λ_=>l rfl⟩
def PZ(f:aD):Bool:=(a3U f.a2O.length).all (okL [] (f.a2O.map dJ.name) λi=>(f.a2O.map oK).getD i false)
theorem aSE{C:Ctx}(L:xX C)(f:aD)(Y:f.Ok)(hs:Z' f.a2O≤4)(K:cP)[Up K](F:PF)(H:PH)
  (W:(((((((((PF.nil.set 1 (.bU f.cells)).set 3 (.aE)).set 4 (.aE)).set 5 (.aE)).set 6 (.aE)).set 7 (.aE)).set 8 (.bool true)).set 9 (.int .i64 0)):PF).le F)
  (O:∀H',K (.exit 0) (((((((PF.nil.set 1 (.bU f.cells)).set 4 (.aE)).set 5 (.aE)).set 6 (.aE)).set 7 (.aE)).set 8 (.bool (PZ f)))) H'):aC.wp C (.loop UJ) K F H:=by
 obtain⟨ok,E⟩:∃ok,okL [] (f.a2O.map dJ.name) (λi=>(f.a2O.map oK).getD i false)=ok:=⟨_,rfl⟩;unfold PZ at O;rw[E]at O;refine wp_loop (α:=Nat × PV × PH) (λs=>((((((((PF.nil.set 1 (.bU f.cells)).set 3 (s.2.1)).set 4 (.aE)).set 5 (.aE)).set 6 (.aE)).set 7 (.aE)).set 8 (.bool (true&&(a3U s.1).all ok))).set 9 (.int .i64 s.1))) (λs=>s.2.2) (λs=>s.1≤Z' f.a2O∧lM s.2.2 s.2.1 [] (f.a2O.map dJ.name) (true&&(a3U s.1).all ok) s.1) (λs=>Z' f.a2O-s.1)
  (0,.aE,H) ⟨a4A _,⟨[],aN.nil.lW 1,λ_=>rfl⟩⟩ W b_ ?_
 rintro⟨i,w,H0⟩ ⟨hi,U⟩;simp only at hi U ⊢;have fin:∀(b:Bool)(x:PV)(J:PF)(H':PH),i<Z' f.a2O→(true&&(a3U (i+1)).all ok)=b→lM H' x [] (f.a2O.map dJ.name) true (i+1) →
   (((((((((PF.nil.set 1 (.bU f.cells)).set 3 (x)).set 4 (.aE)).set 5 (.aE)).set 6 (.aE)).set 7 (.aE)).set 8 (.bool b)).set 9 (.int .i64 (i+1:Nat))):PF).le J →
   iR (λs:Nat × PV × PH=>((((((((PF.nil.set 1 (.bU f.cells)).set 3 (s.2.1)).set 4 (.aE)).set 5 (.aE)).set 6 (.aE)).set 7 (.aE)).set 8 (.bool (true&&(a3U s.1).all ok))).set 9 (.int .i64 s.1))) (λs=>s.2.2) (λs=>s.1≤Z' f.a2O∧lM s.2.2 s.2.1 [] (f.a2O.map dJ.name) (true&&(a3U s.1).all ok) s.1) (λs=>Z' f.a2O-s.1) (Z' f.a2O-i) K .normal J H':=
  λb x J H' hlt hb N M=>aH (i+1,x,H') ⟨hlt,N.D7⟩ (by simp only;omega) (by simp only;rw[hb];exact M) b_
 have j:=xE (p:=ok) i true;have u:(true&&(a3U i).all ok)=(true&&(a3U f.a2O.length).all ok)→K (.exit 0) (((((((PF.nil.set 1 (.bU f.cells)).set 4 (.aE)).set 5 (.aE)).set 6 (.aE)).set 7 (.aE)).set 8 (.bool (true&&(a3U i).all ok)))) H0:=λe=>by rw[e,a4K];exact O H0
 have A:=λh=>xD (p:=ok) (b:=true) hi h;generalize X:(true&&(a3U i).all ok)=c at *
 simp only[go_sem,UJ,M6,a3V];by_cases hlt:i<Z' f.a2O
 ·have l:(i:Int)<(Z' f.a2O:Nat):=Om;cases c with
  |false =>simp only[go_sem,l];exact Up.up Lq (u (A rfl).symm)
  |true=>
   obtain⟨S,g1,g3⟩:=U.ex;have B:(f.a2O.map dJ.cells)[i]?=some (f.a2O[i]).cells:=by simp[hlt]
   have R:i<(f.a2O.map dJ.name).length:=by rw[a3V];exact hlt
   have I:ok i=(mV ([]++(f.a2O.map dJ.name).take i) ((f.a2O.map dJ.name).getD i [])&&oK f.a2O[i]):=by rw[←E];unfold okL;simp[a4D,hlt]
   have Z:=L.law _ (Y.law _ (a3Y hlt));rw[I]at j;simp only[go_sem,l,M7,B];refine lM.call L.tovE (ns:=f.a2O.map dJ.name) g1 (a4A _) Om (g3 rfl) R (by simp only[go_sem,a6E]) λx H1 h1 y=>?_;generalize mV ([]++(f.a2O.map dJ.name).take i) ((f.a2O.map dJ.name).getD i [])=V at *
   cases V with
   |false =>simp only[go_sem,bv,bw,wZz i];exact fin false x _ _ hlt (j.trans rfl) y Lq
   |true =>simp only[go_sem,bv,B];refine aB Z rfl ?_;simp only[go_sem,bw,wZz i];exact fin _ x _ _ hlt (j.trans rfl) y Lq
 ·have l:¬(i:Int)<(Z' f.a2O:Nat):=Om;have:i=Z' f.a2O:=Om;subst this;simp only[go_sem,l];exact Up.up Lq (u X.symm)
theorem ZI{a b c d e f:Nat}(h:uW a b c d e f=true):a≤4∧b≤4∧c≤40∧d≤24∧e≤4∧f≤12:=by
 simp only[uW,a4P,decide_eq_true_eq]at h;omega
theorem Ag{n:Nat}(h:n≤1000):IntKind.i64.wrap ((n:Int)-1)=(n:Int)-1:=wrap_i64 Om Om
def inS:Spec:=λname vs=>match name,vs with
 |76,[.int _ n,.int _ lo,.int _ hi]=>some ([],λ_=>aK (.bool (within n lo hi)))
 |_,_=>none
def Cr(a2O:Nat)(m:dZ):Bool:=within m.a2X 1 16&&(within m.port 1 64&&within m.law 0 ((a2O:Int)-1))
def adP(pols:Nat)(v:hC):Bool:=within v.a2T 0 ((pols:Int)-1)
def FU(f:aD):Bool:=(a3U f.a2H.length).all (okL [] (f.a2H.map dZ.name) λi=>(f.a2H.map (Cr f.a2O.length)).getD i false)
theorem aGJ{C:Ctx}(L:xX C)(f:aD)(hf:f.Ok)(hz:uW f.a2O.length f.a2H.length f.a2J.length f.a2G.length f.a2K.length f.a2I.length=true)(b:Bool)(K:cP)[Up K](F:PF)(H:PH)
  (hF:((((((((PF.nil.set 1 (.bU f.cells)).set 4 (.aE)).set 5 (.aE)).set 6 (.aE)).set 7 (.aE)).set 8 (.bool b)).set 10 (.int .i64 0)):PF).le F)
  (R:∀H',K (.exit 2) ((((((PF.nil.set 1 (.bU f.cells)).set 5 (.aE)).set 6 (.aE)).set 7 (.aE)).set 8 (.bool (b&&FU f)))) H'):aC.wp C (.loop UK) K F H:=by
 obtain⟨β,γ,δ,ε,ζ,η⟩:=ZI hz;obtain⟨ok,E⟩:∃ok,okL [] (f.a2H.map dZ.name) (λi=>(f.a2H.map (Cr f.a2O.length)).getD i false)=ok:=⟨_,rfl⟩;unfold FU at R;rw[E]at R;refine wp_loop (α:=Nat × PV × PH) (λs=>(((((((PF.nil.set 1 (.bU f.cells)).set 4 (s.2.1)).set 5 (.aE)).set 6 (.aE)).set 7 (.aE)).set 8 (.bool (b&&(a3U s.1).all ok))).set 10 (.int .i64 s.1))) (λs=>s.2.2) (λs=>s.1≤Z' f.a2H∧lM s.2.2 s.2.1 [] (f.a2H.map dZ.name) (b&&(a3U s.1).all ok) s.1) (λs=>Z' f.a2H-s.1)
  (0,.aE,H) ⟨a4A _,⟨[],aN.nil.lW 1,λ_=>rfl⟩⟩ (by
   have e:(b&&(a3U 0).all ok)=b:=by cases b<;>rfl
   simp only[e];exact hF) b_ ?_
 rintro⟨i,w,H0⟩ ⟨hi,X⟩;simp only at hi X ⊢;have fin:∀(c:Bool)(x:PV)(J:PF)(H':PH),i<Z' f.a2H→(b&&(a3U (i+1)).all ok)=c→lM H' x [] (f.a2H.map dZ.name) true (i+1) →
   ((((((((PF.nil.set 1 (.bU f.cells)).set 4 (x)).set 5 (.aE)).set 6 (.aE)).set 7 (.aE)).set 8 (.bool c)).set 10 (.int .i64 (i+1:Nat))):PF).le J →
   iR (λs:Nat × PV × PH=>(((((((PF.nil.set 1 (.bU f.cells)).set 4 (s.2.1)).set 5 (.aE)).set 6 (.aE)).set 7 (.aE)).set 8 (.bool (b&&(a3U s.1).all ok))).set 10 (.int .i64 s.1))) (λs=>s.2.2) (λs=>s.1≤Z' f.a2H∧lM s.2.2 s.2.1 [] (f.a2H.map dZ.name) (b&&(a3U s.1).all ok) s.1) (λs=>Z' f.a2H-s.1) (Z' f.a2H-i) K .normal J H':=
  λc x J H' hlt hb O N=>aH (i+1,x,H') ⟨hlt,O.D7⟩ (by simp only;omega) (by simp only;rw[hb];exact N) b_
 have j:=xE (p:=ok) i b;have y:(b&&(a3U i).all ok)=(b&&(a3U f.a2H.length).all ok)→K (.exit 2) ((((((PF.nil.set 1 (.bU f.cells)).set 5 (.aE)).set 6 (.aE)).set 7 (.aE)).set 8 (.bool (b&&(a3U i).all ok)))) H0:=λe=>by rw[e];exact R H0
 have B:=λh=>xD (p:=ok) (b:=b) hi h;generalize hc:(b&&(a3U i).all ok)=c at *
 simp only[go_sem,UK,Av,a3V];by_cases hlt:i<Z' f.a2H
 ·have l:(i:Int)<(Z' f.a2H:Nat):=Om;cases c with
  |false =>simp only[go_sem,l];exact Up.up Lq (y (B rfl).symm)
  |true=>
   obtain⟨W,g1,g3⟩:=X.ex;have S:(f.a2H.map dZ.cells)[i]?=some (f.a2H[i]).cells:=by simp[hlt]
   have U:i<(f.a2H.map dZ.name).length:=by rw[a3V];exact hlt
   have I:ok i=(mV ([]++(f.a2H.map dZ.name).take i) ((f.a2H.map dZ.name).getD i [])&&(Cr f.a2O.length) f.a2H[i]):=by rw[←E];unfold okL;simp[a4D,hlt]
   rw[I]at j;have A:Cr f.a2O.length f.a2H[i]=(within (f.a2H[i]).a2X 1 16&&(within (f.a2H[i]).port 1 64&&within (f.a2H[i]).law 0 ((Z' f.a2O:Int)-1))):=rfl;rw[A]at j;simp only[go_sem,l,Aw,S];refine aQ λo ho=>?_;have g4:=g1.new ho (.rows 4 [(f.a2H[i]).cells]);have Z:=g4.at 0 rfl;simp only[go_sem];generalize H0.set o (.rows 4 [(f.a2H[i]).cells])=H2 at *
   simp only[go_sem,Ax,Z];refine lM.call L.tovE (ns:=(f.a2H.map dZ.name)) g4 (a4A _) Om (g3 rfl) U (by simp only[go_sem,a6E]) λx H1 h1 u=>?_;have M:=h1.at 0 rfl;generalize mV ([]++(f.a2H.map dZ.name).take i) ((f.a2H.map dZ.name).getD i [])=Y at *
   cases Y with
   |false =>simp only[go_sem,UM,AE,wZz i];exact fin false x _ _ hlt (j.trans rfl) u Lq
   |true=>
    simp only[go_sem,UM,M];refine aB (L.inn (f.a2H[i]).a2X 1 16) rfl ?_;cases V:within (f.a2H[i]).a2X 1 16 with
    |false =>simp only[go_sem,AE,wZz i];exact fin false x _ _ hlt (by rw[j,V]<;>simp) u Lq
    |true=>
     simp only[go_sem,M];refine aB (L.inn (f.a2H[i]).port 1 64) rfl ?_;cases k1:within (f.a2H[i]).port 1 64 with
     |false =>simp only[go_sem,AE,wZz i];exact fin false x _ _ hlt (by rw[j,V,k1]<;>simp) u Lq
     |true =>simp only[go_sem,M,a3V,Ag (Om:Z' f.a2O≤1000)];refine aB (L.inn (f.a2H[i]).law 0 ((Z' f.a2O:Int)-1)) rfl ?_;simp only[go_sem,AE,wZz i];exact fin _ x _ _ hlt (by rw[j,V,k1]<;>simp) u Lq
 ·have l:¬(i:Int)<(Z' f.a2H:Nat):=Om;have:i=Z' f.a2H:=Om;subst this;simp only[go_sem,l];exact Up.up Lq (y hc.symm)
def N6(f:aD):Bool:=(a3U f.a2I.length).all (okL [] (f.a2I.map hC.name) λi=>(f.a2I.map (adP f.a2K.length)).getD i false)
theorem aSG{C:Ctx}(L:xX C)(f:aD)(hf:f.Ok)(Z:uW f.a2O.length f.a2H.length f.a2J.length f.a2G.length f.a2K.length f.a2I.length=true)(b:Bool)(K:cP)[Up K](F:PF)(H:PH)
  (X:(((((PF.nil.set 1 (.bU f.cells)).set 7 (.aE)).set 8 (.bool b)).set 21 (.int .i64 0)):PF).le F)
  (R:∀H',K (.exit 14) (((PF.nil.set 1 (.bU f.cells)).set 8 (.bool (b&&N6 f)))) H'):aC.wp C (.loop FC) K F H:=by
 obtain⟨β,γ,δ,ε,ζ,η⟩:=ZI Z;obtain⟨ok,I⟩:∃ok,okL [] (f.a2I.map hC.name) (λi=>(f.a2I.map (adP f.a2K.length)).getD i false)=ok:=⟨_,rfl⟩;unfold N6 at R;rw[I]at R;refine wp_loop (α:=Nat × PV × PH) (λs=>((((PF.nil.set 1 (.bU f.cells)).set 7 (s.2.1)).set 8 (.bool (b&&(a3U s.1).all ok))).set 21 (.int .i64 s.1))) (λs=>s.2.2) (λs=>s.1≤Z' f.a2I∧lM s.2.2 s.2.1 [] (f.a2I.map hC.name) (b&&(a3U s.1).all ok) s.1) (λs=>Z' f.a2I-s.1)
  (0,.aE,H) ⟨a4A _,⟨[],aN.nil.lW 1,λ_=>rfl⟩⟩ (by
   have e:(b&&(a3U 0).all ok)=b:=by cases b<;>rfl
   simp only[e];exact X) b_ ?_
 rintro⟨i,w,H0⟩ ⟨hi,V⟩;simp only at hi V ⊢;have fin:∀(c:Bool)(y:PV)(M:PF)(H':PH),i<Z' f.a2I→(b&&(a3U (i+1)).all ok)=c→lM H' y [] (f.a2I.map hC.name) true (i+1) →
   (((((PF.nil.set 1 (.bU f.cells)).set 7 (y)).set 8 (.bool c)).set 21 (.int .i64 (i+1:Nat))):PF).le M →
   iR (λs:Nat × PV × PH=>((((PF.nil.set 1 (.bU f.cells)).set 7 (s.2.1)).set 8 (.bool (b&&(a3U s.1).all ok))).set 21 (.int .i64 s.1))) (λs=>s.2.2) (λs=>s.1≤Z' f.a2I∧lM s.2.2 s.2.1 [] (f.a2I.map hC.name) (b&&(a3U s.1).all ok) s.1) (λs=>Z' f.a2I-s.1) (Z' f.a2I-i) K .normal M H':=
  λc y M H' hlt hb O N=>aH (i+1,y,H') ⟨hlt,O.D7⟩ (by simp only;omega) (by simp only;rw[hb];exact N) b_
 have j:=xE (p:=ok) i b;have u:(b&&(a3U i).all ok)=(b&&(a3U f.a2I.length).all ok)→K (.exit 14) (((PF.nil.set 1 (.bU f.cells)).set 8 (.bool (b&&(a3U i).all ok)))) H0:=λe=>by rw[e];exact R H0
 have B:=λh=>xD (p:=ok) (b:=b) hi h;generalize Y:(b&&(a3U i).all ok)=c at *
 simp only[go_sem,FC,Bd,a3V];by_cases hlt:i<Z' f.a2I
 ·have l:(i:Int)<(Z' f.a2I:Nat):=Om;cases c with
  |false =>simp only[go_sem,l];exact Up.up Lq (u (B rfl).symm)
  |true=>
   obtain⟨U,g1,g3⟩:=V.ex;have E:(f.a2I.map hC.cells)[i]?=some (f.a2I[i]).cells:=by simp[hlt]
   have S:i<(f.a2I.map hC.name).length:=by rw[a3V];exact hlt
   have J:ok i=(mV ([]++(f.a2I.map hC.name).take i) ((f.a2I.map hC.name).getD i [])&&(adP f.a2K.length) f.a2I[i]):=by rw[←I];unfold okL;simp[a4D,hlt]
   rw[J]at j;have x:adP f.a2K.length f.a2I[i]=within (f.a2I[i]).a2T 0 ((Z' f.a2K:Int)-1):=rfl;rw[x]at j;simp only[go_sem,l,Be,E];refine lM.call L.tovE (ns:=(f.a2I.map hC.name)) g1 (a4A _) Om (g3 rfl) S (by simp only[go_sem,a6E]) λy H1 h1 A=>?_;generalize mV ([]++(f.a2I.map hC.name).take i) ((f.a2I.map hC.name).getD i [])=W at *
   cases W with
   |false =>simp only[go_sem];refine aZ .nil (inS) a_ ?_;simp only[go_sem,UY,UZ,wZz i];exact fin false y _ _ hlt (j.trans rfl) A Lq
   |true =>simp only[go_sem];refine aZ .nil (inS) a_ ?_;simp only[go_sem,UY,E,a3V,Ag (Om:Z' f.a2K≤1000)];refine cS rfl (L.inn (f.a2I[i]).a2T 0 ((Z' f.a2K:Int)-1)) rfl a_ ?_;simp only[go_sem,UZ,wZz i];exact fin _ y _ _ hlt (j.trans rfl) A Lq
 ·have l:¬(i:Int)<(Z' f.a2I:Nat):=Om;have:i=Z' f.a2I:=Om;subst this;simp only[go_sem,l];exact Up.up Lq (u Y.symm)
def awW:Spec:=λname vs=>match name,vs with
 |76,[.int _ n,.int _ lo,.int _ hi]=>some ([],λ_=>aK (.bool (within n lo hi)))
 |74,[.agg cs]=>some ([],λ_=>aK (.bool (eC (frD cs))))
 |_,_=>none
theorem awX(x:RF):awW 74 [.agg x.cells]=some ([],λ_=>aK (.bool (eC x))):=by
 show some ([],λ_=>aK (.bool (eC (frD x.cells))))=_;rw[E7]
def Pg(f:aD)(i:Nat)(d:dM):Bool:=
 within d.level 1 4&&(within d.parent 0 i&&(((f.a2J.map dM.level).getD d.parent.toNat 0==IntKind.i64.wrap (d.level-1))&&(within d.a3B 1 64&&eC d.a2W)))
theorem aOF(f:aD)(i:Nat)(d:dM):ON f i d=Pg f i d:=by
 unfold ON Pg;have:decide ((f.a2J.map dM.level).getD d.parent.toNat 0=IntKind.i64.wrap (d.level-1))=((f.a2J.map dM.level).getD d.parent.toNat 0==IntKind.i64.wrap (d.level-1)):=by generalize(f.a2J.map dM.level).getD d.parent.toNat 0=u;by_cases h:u=IntKind.i64.wrap (d.level-1)<;>simp[h]
 rw[this];cases within d.parent 0 i<;>cases within d.level 1 4<;>cases within d.a3B 1 64<;>simp
def lE(f:aD):List (List UInt8):=(f.a2J.drop 1).map dM.name
def DJ(f:aD)(i:Nat):Bool:=match f.a2J[i+1]? with
 |some d=>Pg f i d
 |none=>false
def DK(f:aD):Bool:=(a3U (Z' f.a2J-1)).all (okL [] (lE f) (DJ f))
theorem Pf(f:aD):(lE f).length=Z' f.a2J-1:=by simp[lE]
theorem aSD{C:Ctx}(L:xX C)(f:aD)(hf:f.Ok)(μ:Z' f.a2J≤40)(h0:0<Z' f.a2J)(b:Bool)(K:cP)[Up K](F:PF)(H:PH)
  (hF:(((((((PF.nil.set 1 (.bU f.cells)).set 5 (.aE)).set 6 (.aE)).set 7 (.aE)).set 8 (.bool b)).set 13 (.int .i64 1)):PF).le F)
  (W:∀w H',lM H' w [] (lE f) (b&&DK f) (Z' f.a2J-1)→K (.exit 4) ((((((PF.nil.set 1 (.bU f.cells)).set 5 (w)).set 6 (.aE)).set 7 (.aE)).set 8 (.bool (b&&DK f)))) H'):aC.wp C (.loop EY) K F H:=by
 obtain⟨ok,O⟩:∃ok,okL [] (lE f) (DJ f)=ok:=⟨_,rfl⟩;unfold DK at W;rw[O]at W;obtain⟨n,hn⟩:∃n,Z' f.a2J=n+1:=⟨Z' f.a2J-1,by omega⟩;have η:=Pf f;have ζ:Z' f.a2J-1=n:=Om;rw[ζ]at W η;refine wp_loop (α:=Nat × PV × PH) (λs=>((((((PF.nil.set 1 (.bU f.cells)).set 5 (s.2.1)).set 6 (.aE)).set 7 (.aE)).set 8 (.bool (b&&(a3U s.1).all ok))).set 13 (.int .i64 (s.1+1:Nat)))) (λs=>s.2.2) (λs=>s.1≤n∧lM s.2.2 s.2.1 [] (lE f) (b&&(a3U s.1).all ok) s.1) (λs=>n-s.1)
  (0,.aE,H) ⟨a4A _,⟨[],aN.nil.lW 1,λ_=>rfl⟩⟩ (by
   have e:(b&&(a3U 0).all ok)=b:=by cases b<;>rfl
   simp only[e];exact hF) b_ ?_
 rintro⟨i,w,H0⟩ ⟨hi,hG⟩;simp only at hi hG ⊢;have fin:∀(c:Bool)(A:PV)(Y:PF)(H':PH),i<n→(b&&(a3U (i+1)).all ok)=c→lM H' A [] (lE f) true (i+1) →
   (((((((PF.nil.set 1 (.bU f.cells)).set 5 (A)).set 6 (.aE)).set 7 (.aE)).set 8 (.bool c)).set 13 (.int .i64 (i+1+1:Nat))):PF).le Y →
   iR (λs:Nat × PV × PH=>((((((PF.nil.set 1 (.bU f.cells)).set 5 (s.2.1)).set 6 (.aE)).set 7 (.aE)).set 8 (.bool (b&&(a3U s.1).all ok))).set 13 (.int .i64 (s.1+1:Nat)))) (λs=>s.2.2) (λs=>s.1≤n∧lM s.2.2 s.2.1 [] (lE f) (b&&(a3U s.1).all ok) s.1) (λs=>n-s.1) (n-i) K .normal Y H':=
  λc A Y H' hlt hb β Z=>aH (i+1,A,H') ⟨hlt,β.D7⟩ (by simp only;omega) (by simp only;rw[hb];exact Z) b_
 have j:=xE (p:=ok) i b;have M:=λh=>xD (p:=ok) (b:=b) hi h;have E:(b&&(a3U i).all ok)=(b&&(a3U n).all ok)→((b&&(a3U i).all ok)=true→i=n)→K (.exit 4) ((((((PF.nil.set 1 (.bU f.cells)).set 5 (w)).set 6 (.aE)).set 7 (.aE)).set 8 (.bool (b&&(a3U i).all ok)))) H0:=λe e2=>by
  obtain⟨y,g1,g3⟩:=hG.ex;have:=W w H0 ⟨y,g1,λh=>by have h':=e.trans h;rw[g3 h',e2 h']⟩
  rwa[←e]at this
 generalize hc:(b&&(a3U i).all ok)=c at *
 simp only[go_sem,EY,Az,a3V];by_cases hlt:i<n
 ·have u:((i+1:Nat):Int)<(Z' f.a2J:Nat):=Om;cases c with
  |false =>simp only[go_sem,u];exact Up.up Lq (E (M rfl).symm (λh=>by cases h))
  |true=>
   obtain⟨y,g1,g3⟩:=hG.ex;have I:i+1<Z' f.a2J:=Om;have γ:=pI I;have ε:i<(lE f).length:=Om;have θ:(lE f)[i]=(f.a2J[i+1]).name:=by simp[lE,Nat.add_comm]
   have R:ok i=(mV ([]++(lE f).take i) ((lE f).getD i [])&&Pg f i f.a2J[i+1]):=by rw[←O];unfold okL DJ;rw[a4C I]
   have δ:=hf.dom _ (a3Y I);rw[R]at j;unfold Pg at j;have e1:IntKind.i64.wrap (((i+1:Nat):Int)-1)=(i:Nat):=by rw[wrap_i64 Om Om];omega
   have l:IntKind.i64.wrap (((i+1:Nat):Int)+1)=((i+1+1:Nat):Int):=eI Om;have κ:=L.small _ δ.1;simp only[go_sem,u,A0,γ];refine aQ λo ho=>?_;have g4:=g1.new ho (.rows 7 [(f.a2J[i+1]).cells]);have g5:=g4.at 0 rfl;simp only[go_sem];generalize H0.set o (.rows 7 [(f.a2J[i+1]).cells])=H2 at *
   simp only[go_sem,A1,g5];refine lM.call L.tovE (ns:=lE f) g4 (a4A _) Om (g3 rfl) ε (by simp only[go_sem,θ]) λA H1 h1 x=>?_;have J:=h1.at 0 rfl;generalize mV ([]++(lE f).take i) ((lE f).getD i [])=fb at *
   generalize hd:f.a2J[i+1]=B at *
   cases fb with
   |false =>simp only[go_sem];refine aZ .nil awW a_ ?_;simp only[go_sem,UP,tJ,l];exact fin false A _ _ hlt (j.trans rfl) x Lq
   |true=>
    simp only[go_sem];refine aZ .nil awW a_ ?_;simp only[go_sem,UP,J];refine cS rfl (L.inn B.level 1 4) rfl a_ ?_;cases V:within B.level 1 4 with
    |false =>simp only[go_sem,tJ,l];exact fin false A _ _ hlt (by rw[j,V]<;>simp) x Lq
    |true=>
     simp only[go_sem,J,e1];refine cS rfl (L.inn B.parent 0 (i:Nat)) rfl a_ ?_;cases k1:within B.parent 0 (i:Nat)with
     |false =>simp only[go_sem,tJ,l];exact fin false A _ _ hlt (by rw[j,V,k1]<;>simp) x Lq
     |true=>
      obtain⟨p0,p1⟩:=within_iff.1 k1;obtain⟨p,hp⟩:∃p:Nat,B.parent=p:=⟨B.parent.toNat,by omega⟩;have U:p<Z' f.a2J:=Om;obtain⟨X,N⟩:∃X,(f.a2J.map dM.level).getD B.parent.toNat 0=X:=⟨_,rfl⟩;have ι:(f.a2J[p]).level=X:=by rw[←N,hp,a6U,getD_at U]
      rw[N]at j;have S:=pI U;simp only[go_sem,J,hp,S,ι];cases k2:X==IntKind.i64.wrap (B.level-1)with
      |false =>simp only[go_sem,tJ,l];exact fin false A _ _ hlt (by rw[j,V,k1,k2]<;>simp) x Lq
      |true=>
       simp only[go_sem,J];refine cS rfl (L.inn B.a3B 1 64) rfl a_ ?_;cases k3:within B.a3B 1 64 with
       |false =>simp only[go_sem,tJ,l];exact fin false A _ _ hlt (by rw[j,V,k1,k2,k3]<;>simp) x Lq
       |true =>simp only[go_sem,J];refine cS (awX _) κ rfl a_ ?_;simp only[go_sem,tJ,l];exact fin _ A _ _ hlt (by rw[j,V,k1,k2,k3]<;>simp) x Lq
 ·have u:¬((i+1:Nat):Int)<(Z' f.a2J:Nat):=Om;have:i=n:=Om;subst this;simp only[go_sem,u];exact Up.up Lq (E hc.symm (λ_=>rfl))
def Pj(f:aD)(d:eS):Bool:=within d.model 0 ((Z' f.a2H:Int)-1)&&(within d.machine 0 ((Z' f.a2J:Int)-1)&&((f.a2J.map dM.level).getD d.machine.toNat 0==4))
def qU(f:aD):List (List UInt8):=f.a2G.map eS.name
def BL(f:aD)(i:Nat):Bool:=match f.a2G[i]? with
 |some d=>Pj f d
 |none=>false
def FG(f:aD):Bool:=(a3U f.a2G.length).all (okL (lE f) (qU f) (BL f))
theorem aGI{C:Ctx}(L:xX C)(f:aD)(hf:f.Ok)(ι:Z' f.a2J≤40)(h0:0<Z' f.a2J)(κ:Z' f.a2G≤24)(θ:Z' f.a2H≤4)(b:Bool)(w0:PV)(K:cP)[Up K](F:PF)(H:PH)
  (Z:lM H w0 [] (lE f) b (Z' f.a2J-1)) (hF:(((((((PF.nil.set 1 (.bU f.cells)).set 5 (w0)).set 6 (.aE)).set 7 (.aE)).set 8 (.bool b)).set 15 (.int .i64 0)):PF).le F)
  (U:∀H',K (.exit 6) (((((PF.nil.set 1 (.bU f.cells)).set 6 (.aE)).set 7 (.aE)).set 8 (.bool (b&&FG f)))) H'):aC.wp C (.loop EZ) K F H:=by
 obtain⟨ok,N⟩:∃ok,okL (lE f) (qU f) (BL f)=ok:=⟨_,rfl⟩;unfold FG at U;rw[N]at U;obtain⟨n,hn⟩:∃n,Z' f.a2G=n:=⟨_,rfl⟩;have ζ:=Pf f;have η:(qU f).length=n:=by simp[qU,hn]
 rw[hn]at U;refine wp_loop (α:=Nat × PV × PH) (λs=>((((((PF.nil.set 1 (.bU f.cells)).set 5 (s.2.1)).set 6 (.aE)).set 7 (.aE)).set 8 (.bool (b&&(a3U s.1).all ok))).set 15 (.int .i64 s.1))) (λs=>s.2.2) (λs=>s.1≤n∧lM s.2.2 s.2.1 (lE f) (qU f) (b&&(a3U s.1).all ok) s.1) (λs=>n-s.1)
  (0,w0,H) ⟨a4A _,by
   obtain⟨x,q1,q2⟩:=Z.ex;have e:(b&&(a3U 0).all ok)=b:=by cases b<;>rfl
   refine⟨x,q1,λh=>?_⟩;simp only[e]at h;rw[q2 h,a7C,a4N Om];simp⟩ (by
   have e:(b&&(a3U 0).all ok)=b:=by cases b<;>rfl
   simp only[e];exact hF) b_ ?_
 rintro⟨i,w,H0⟩ ⟨hi,hG⟩;simp only at hi hG ⊢;have fin:∀(c:Bool)(A:PV)(V:PF)(H':PH),i<n→(b&&(a3U (i+1)).all ok)=c→lM H' A (lE f) (qU f) true (i+1) →
   (((((((PF.nil.set 1 (.bU f.cells)).set 5 (A)).set 6 (.aE)).set 7 (.aE)).set 8 (.bool c)).set 15 (.int .i64 (i+1:Nat))):PF).le V →
   iR (λs:Nat × PV × PH=>((((((PF.nil.set 1 (.bU f.cells)).set 5 (s.2.1)).set 6 (.aE)).set 7 (.aE)).set 8 (.bool (b&&(a3U s.1).all ok))).set 15 (.int .i64 s.1))) (λs=>s.2.2) (λs=>s.1≤n∧lM s.2.2 s.2.1 (lE f) (qU f) (b&&(a3U s.1).all ok) s.1) (λs=>n-s.1) (n-i) K .normal V H':=
  λc A V H' hlt hb Y X=>aH (i+1,A,H') ⟨hlt,Y.D7⟩ (by simp only;omega) (by simp only;rw[hb];exact X) b_
 have j:=xE (p:=ok) i b;have I:=λh=>xD (p:=ok) (b:=b) hi h;have B:(b&&(a3U i).all ok)=(b&&(a3U n).all ok)→K (.exit 6) (((((PF.nil.set 1 (.bU f.cells)).set 6 (.aE)).set 7 (.aE)).set 8 (.bool (b&&(a3U i).all ok)))) H0:=λe=>by rw[e];exact U H0
 generalize hc:(b&&(a3U i).all ok)=c at *
 simp only[go_sem,EZ,A2,a3V];by_cases hlt:i<n
 ·have l:((i:Nat):Int)<(Z' f.a2G:Nat):=Om;cases c with
  |false =>simp only[go_sem,l];exact Up.up Lq (B (I rfl).symm)
  |true=>
   obtain⟨x,g1,g3⟩:=hG.ex;have J:i<Z' f.a2G:=Om;have β:=rE J;have γ:i<(qU f).length:=Om;have δ:(qU f)[i]=(f.a2G[i]).name:=by simp[qU]
   have O:ok i=(mV (lE f++(qU f).take i) ((qU f).getD i [])&&Pj f f.a2G[i]):=by rw[←N];unfold okL BL;rw[a4C J]
   rw[O]at j;unfold Pj at j;have u:IntKind.i64.wrap ((i:Int)+1)=((i+1:Nat):Int):=eI Om;have e1:=Ag (Om:Z' f.a2H≤1000);have e2:=Ag (Om:Z' f.a2J≤1000);simp only[go_sem,l,A3,β];refine aQ λo ho=>?_;have g4:=g1.new ho (.rows 3 [(f.a2G[i]).cells]);have g5:=g4.at 0 rfl;simp only[go_sem];generalize H0.set o (.rows 3 [(f.a2G[i]).cells])=H2 at *
   simp only[go_sem,A4,g5];refine lM.call L.tovE (base:=lE f) (ns:=qU f) g4 Om Om (g3 rfl) γ (by simp only[go_sem,δ]) λA H1 h1 y=>?_;have W:=h1.at 0 rfl;generalize mV (lE f++(qU f).take i) ((qU f).getD i [])=fb at *
   generalize hd:f.a2G[i]=E at *
   cases fb with
   |false =>simp only[go_sem,UR,AF,u];exact fin false A _ _ hlt (j.trans rfl) y Lq
   |true=>
    simp only[go_sem,UR,W,a3V,e1];refine aB (L.inn E.model 0 ((Z' f.a2H:Int)-1)) rfl ?_;cases k0:within E.model 0 ((Z' f.a2H:Int)-1)with
    |false =>simp only[go_sem,AF,u];exact fin false A _ _ hlt (by rw[j,k0]<;>simp) y Lq
    |true=>
     simp only[go_sem,W,a3V,e2];refine aB (L.inn E.machine 0 ((Z' f.a2J:Int)-1)) rfl ?_;cases k1:within E.machine 0 ((Z' f.a2J:Int)-1)with
     |false =>simp only[go_sem,AF,u];exact fin false A _ _ hlt (by rw[j,k0,k1]<;>simp) y Lq
     |true=>
      obtain⟨p0,p1⟩:=within_iff.1 k1;obtain⟨p,hp⟩:∃p:Nat,E.machine=p:=⟨E.machine.toNat,by omega⟩;have S:p<Z' f.a2J:=Om;obtain⟨lv,M⟩:∃lv,(f.a2J.map dM.level).getD E.machine.toNat 0=lv:=⟨_,rfl⟩;have ε:(f.a2J[p]).level=lv:=by rw[←M,hp,a6U,getD_at S]
      rw[M]at j;have R:=pI S;simp only[go_sem,W,hp,R,ε,AF,u];exact fin _ A _ _ hlt (by rw[j,k0,k1]<;>simp) y Lq
 ·have l:¬((i:Nat):Int)<(Z' f.a2G:Nat):=Om;have:i=n:=Om;subst this;simp only[go_sem,l];exact Up.up Lq (B hc.symm)
theorem lm{xs:List Int}{k:Nat}(h:k<Z' xs):(xs.map λx=>[PV.int .i64 x])[k]?=some [.int .i64 xs[k]]:=by simp[h]
def zpF(f:aD)(w:PV)(o i:Nat)(c:Bool)(j:Nat):PF:=(((((((PF.nil.set 1 (.bU f.cells)).set 6 (w)).set 7 (.aE)).set 8 (.bool c)).set 17 (.int .i64 i)).set 18 (.ptr o 17 0 0)).set 19 (.int .i64 j))
theorem aMV{C:Ctx}(f:aD)(w:PV)(o i:Nat)(p:eG)(N:Z' p.a2H≤9223372036854775807)(j:Nat)(I:j<Z' p.a2H)(b:Bool)(K:cP)[Up K](F:PF)(H:PH)(J:H o=some (.rows 17 [p.cells]))(B:((zpF f w o i b j).set 20 (.int .i64 0)).le F)
  (E:K (.exit 12) (zpF f w o i (b&&(p.a2H.take j).all λx=>x != p.a2H[j]) j) H):aC.wp C (.loop UL) K F H:=by
 refine wp_loop (α:=Nat) (λk=>(zpF f w o i (b&&(p.a2H.take k).all λx=>x != p.a2H[j]) j).set 20 (.int .i64 k)) (λ_=>H) (λk=>k≤j) (λk=>j-k) 0 (a4A _) (by
   have e:(b&&(p.a2H.take 0).all λx=>x != p.a2H[j])=b:=by cases b<;>rfl
   simp only[e];exact B) b_ ?_
 intro k M;have y:∀h:k<Z' p.a2H,(b&&(p.a2H.take (k+1)).all λx=>x != p.a2H[j])=((b&&(p.a2H.take k).all λx=>x != p.a2H[j])&&(p.a2H[k] != p.a2H[j])):=λh=>by rw[a5W h,List.all_append];simp[a7H]
 have fin:∀(c:Bool)(A:PF),k<j→(b&&(p.a2H.take (k+1)).all λx=>x != p.a2H[j])=c→((zpF f w o i c j).set 20 (.int .i64 (k+1:Nat))).le A→iR (λk:Nat=>(zpF f w o i (b&&(p.a2H.take k).all λx=>x != p.a2H[j]) j).set 20 (.int .i64 k)) (λ_=>H) (λk=>k≤j) (λk=>j-k) (j-k) K .normal A H:=
  λc A hlt e h=>aH (k+1) hlt Om (by rw[e];exact h) b_
 unfold zpF at fin;simp only[go_sem,UL,Bb,zpF];by_cases hlt:k<j
 ·have l:(k:Int)<(j:Nat):=Om;have u:k<Z' p.a2H:=Om;have y:=y u;generalize(b&&(p.a2H.take k).all λx=>x != p.a2H[j])=c at *
  simp only[go_sem,l];refine aZ .nil cI a_ ?_;cases c with
  |false =>simp only[go_sem,UU,UV,wZz k];exact fin false _ hlt (y.trans rfl) Lq
  |true =>simp only[go_sem,UU,J,lm u,lm I,UV,wZz k];exact fin _ _ hlt (y.trans rfl) Lq
 ·have l:¬(k:Int)<(j:Nat):=Om;have:k=j:=Om;subst this;simp only[go_sem,l];exact Up.up (by(repeat' (first|exact c_|refine d_ ?_ ?_))<;>first|(simp only[go_sem,zpF]<;>rfl)|rfl) E
def SD(a2H:Nat)(ms:List Int)(j:Nat):Bool:=within (ms.getD j 0) 0 ((a2H:Int)-1)&&(ms.take j).all λx=>x != ms.getD j 0
theorem aGF{C:Ctx}(L:xX C)(f:aD)(W:Z' f.a2H≤4)(w:PV)(o i:Nat)(p:eG)(V:Z' p.a2H≤9223372036854775807)(b:Bool)(K:cP)[Up K](F:PF)(H:PH)(I:H o=some (.rows 17 [p.cells]))(O:(zpF f w o i b 0).le F)
  (M:K (.exit 10) ((((((PF.nil.set 1 (.bU f.cells)).set 6 (w)).set 7 (.aE)).set 8 (.bool (b&&(a3U p.a2H.length).all (SD f.a2H.length p.a2H)))).set 17 (.int .i64 i))) H):aC.wp C (.loop FA) K F H:=by
 obtain⟨ok,B⟩:∃ok,SD f.a2H.length p.a2H=ok:=⟨_,rfl⟩;rw[B]at M;refine wp_loop (α:=Nat) (λj=>zpF f w o i (b&&(a3U j).all ok) j) (λ_=>H) (λj=>j≤Z' p.a2H) (λj=>Z' p.a2H-j) 0 (a4A _) (by
   have e:(b&&(a3U 0).all ok)=b:=by cases b<;>rfl
   simp only[e];exact O) b_ ?_
 intro j U;have u:=xE (p:=ok) j b;have A:=λh=>xD (p:=ok) (b:=b) U h;have fin:∀(c:Bool)(E:PF),j<Z' p.a2H→(b&&(a3U (j+1)).all ok)=c→(zpF f w o i c (j+1)).le E→iR (λj:Nat=>zpF f w o i (b&&(a3U j).all ok) j) (λ_=>H) (λj=>j≤Z' p.a2H) (λj=>Z' p.a2H-j) (Z' p.a2H-j) K .normal E H:=
  λc E hlt e h=>aH (j+1) hlt Om (by rw[e];exact h) b_
 unfold zpF at fin;have y:(b&&(a3U j).all ok)=(b&&(a3U p.a2H.length).all ok)→K (.exit 10) ((((((PF.nil.set 1 (.bU f.cells)).set 6 (w)).set 7 (.aE)).set 8 (.bool (b&&(a3U j).all ok))).set 17 (.int .i64 i))) H:=λe=>by rw[e];exact M
 generalize R:(b&&(a3U j).all ok)=c at *
 simp only[go_sem,FA,A8,zpF,I,a3V];by_cases hlt:j<Z' p.a2H
 ·have l:(j:Int)<(Z' p.a2H:Nat):=Om;cases c with
  |false =>simp only[go_sem,l];exact Up.up Lq (y (A rfl).symm)
  |true=>
   have N:=Ag (Om:Z' f.a2H≤1000);have S:p.a2H.getD j 0=p.a2H[j]:=by simp[a4D,hlt]
   have J:ok j=(within p.a2H[j] 0 ((Z' f.a2H:Int)-1)&&(p.a2H.take j).all λx=>x != p.a2H[j]):=by rw[←B];unfold SD;rw[S]
   rw[J]at u;simp only[go_sem,l];refine aZ .nil awW a_ ?_;simp only[go_sem,A9,I,lm hlt,a3V,N];refine cS rfl (L.inn p.a2H[j] 0 ((Z' f.a2H:Int)-1)) Sq a_ ?_;simp only[go_sem,Ba];refine aMV f w o i p V j hlt (within p.a2H[j] 0 ((Z' f.a2H:Int)-1)) _ _ _ I (by(repeat' (first|exact c_|refine d_ ?_ ?_))<;>first|(simp only[go_sem,zpF]<;>rfl)|rfl) ?_;simp only[go_sem,zpF,Bc,wZz j];exact fin _ _ hlt (u.trans rfl) Lq
 ·have l:¬(j:Int)<(Z' p.a2H:Nat):=Om;have:j=Z' p.a2H:=Om;subst this;simp only[go_sem,l];exact Up.up Lq (y R.symm)
def Yj(a2H:Nat)(p:eG):Bool:=RR p.k p.m p.a3F p.s0 p.s1 p.s2 p.s3 p.s4&&(WE p.m p.repair p.target p.a2R&&(decide (Z' p.a2H>0)&&(a3U p.a2H.length).all (SD a2H p.a2H)))
theorem aQS(a2H:Nat)(p:eG):mY a2H p=Yj a2H p:=by
 unfold mY Yj;rw[aQL,aTH];have e:decide (Z' p.a2H≠0)=decide (Z' p.a2H>0):=decide_eq_decide.2 Om;have l:(a3U p.a2H.length).all (λj=>within (p.a2H.getD j 0) 0 ((a2H:Int)-1)&&!(p.a2H.take j).contains (p.a2H.getD j 0))=(a3U p.a2H.length).all (SD a2H p.a2H):=by
  congr 1;funext j;unfold SD;congr 1;generalize p.a2H.getD j 0=x
  induction p.a2H.take j with
  |nil=>rfl
  |cons a t u =>rw[List.contains_cons,List.all_cons,←u,Bool.not_or,bne,BEq.comm]
 rw[e,l];cases RR p.k p.m p.a3F p.s0 p.s1 p.s2 p.s3 p.s4<;>cases WE p.m p.repair p.target p.a2R<;>cases decide (Z' p.a2H>0)<;>simp
structure Bk(C:Ctx):Prop extends xX C where
 dur:∀(m:Int)(rep:List RF),nY rep→∀t h:RF,t.Ok→h.Ok→aJ C 69 [.int .i64 m,frs rep,.agg t.cells,.agg h.cells] .nil (aK (.bool (WE m rep t h)))
def pM(f:aD):List (List UInt8):=f.a2K.map eG.name
def SC(f:aD)(i:Nat):Bool:=match f.a2K[i]? with
 |some p=>Yj f.a2H.length p
 |none=>false
def x8(f:aD):Bool:=(a3U f.a2K.length).all (okL [] (pM f) (SC f))
theorem aSF{C:Ctx}(L:Bk C)(f:aD)(hf:f.Ok)(ε:Z' f.a2K≤4)(β:Z' f.a2H≤4)(b:Bool)(K:cP)[Up K](F:PF)(H:PH)
  (hF:((((((PF.nil.set 1 (.bU f.cells)).set 6 (.aE)).set 7 (.aE)).set 8 (.bool b)).set 17 (.int .i64 0)):PF).le F)
  (U:∀H',K (.exit 8) ((((PF.nil.set 1 (.bU f.cells)).set 7 (.aE)).set 8 (.bool (b&&x8 f)))) H'):aC.wp C (.loop FB) K F H:=by
 obtain⟨ok,J⟩:∃ok,okL [] (pM f) (SC f)=ok:=⟨_,rfl⟩;unfold x8 at U;rw[J]at U;have δ:(pM f).length=Z' f.a2K:=by simp[pM]
 refine wp_loop (α:=Nat × PV × PH) (λs=>(((((PF.nil.set 1 (.bU f.cells)).set 6 (s.2.1)).set 7 (.aE)).set 8 (.bool (b&&(a3U s.1).all ok))).set 17 (.int .i64 s.1))) (λs=>s.2.2) (λs=>s.1≤Z' f.a2K∧lM s.2.2 s.2.1 [] (pM f) (b&&(a3U s.1).all ok) s.1) (λs=>Z' f.a2K-s.1)
  (0,.aE,H) ⟨a4A _,⟨[],aN.nil.lW 1,λ_=>rfl⟩⟩ (by
   have e:(b&&(a3U 0).all ok)=b:=by cases b<;>rfl
   simp only[e];exact hF) b_ ?_
 rintro⟨i,w,H0⟩ ⟨hi,hG⟩;simp only at hi hG ⊢;have fin:∀(c:Bool)(A:PV)(B:PF)(H':PH),i<Z' f.a2K→(b&&(a3U (i+1)).all ok)=c→lM H' A [] (pM f) true (i+1) →
   ((((((PF.nil.set 1 (.bU f.cells)).set 6 (A)).set 7 (.aE)).set 8 (.bool c)).set 17 (.int .i64 (i+1:Nat))):PF).le B →
   iR (λs:Nat × PV × PH=>(((((PF.nil.set 1 (.bU f.cells)).set 6 (s.2.1)).set 7 (.aE)).set 8 (.bool (b&&(a3U s.1).all ok))).set 17 (.int .i64 s.1))) (λs=>s.2.2) (λs=>s.1≤Z' f.a2K∧lM s.2.2 s.2.1 [] (pM f) (b&&(a3U s.1).all ok) s.1) (λs=>Z' f.a2K-s.1) (Z' f.a2K-i) K .normal B H':=
  λc A B H' hlt hb R E=>aH (i+1,A,H') ⟨hlt,R.D7⟩ (by simp only;omega) (by simp only;rw[hb];exact E) b_
 have j:=xE (p:=ok) i b;have I:=λh=>xD (p:=ok) (b:=b) hi h;have y:(b&&(a3U i).all ok)=(b&&(a3U f.a2K.length).all ok)→K (.exit 8) ((((PF.nil.set 1 (.bU f.cells)).set 7 (.aE)).set 8 (.bool (b&&(a3U i).all ok)))) H0:=λe=>by rw[e];exact U H0
 generalize hc:(b&&(a3U i).all ok)=c at *
 simp only[go_sem,FB,A5,a3V];by_cases hlt:i<Z' f.a2K
 ·have l:(i:Int)<(Z' f.a2K:Nat):=Om;cases c with
  |false =>simp only[go_sem,l];exact Up.up Lq (y (I rfl).symm)
  |true=>
   obtain⟨γ,g1,g3⟩:=hG.ex;have V:=tR hlt;have Y:i<(pM f).length:=Om;have Z:(pM f)[i]=(f.a2K[i]).name:=by simp[pM]
   have M:ok i=(mV ([]++(pM f).take i) ((pM f).getD i [])&&Yj f.a2H.length f.a2K[i]):=by rw[←J];unfold okL SC;rw[a4C hlt]
   have x:=hf.a2T _ (a3Y hlt);rw[M]at j;unfold Yj at j;have N:IntKind.i64.wrap ((i:Int)+1)=((i+1:Nat):Int):=eI Om;simp only[go_sem,l,A6,V];refine aQ λo ho=>?_;have g4:=g1.new ho (.rows 17 [(f.a2K[i]).cells]);have g5:=g4.at 0 rfl;simp only[go_sem];generalize H0.set o (.rows 17 [(f.a2K[i]).cells])=H2 at *
   simp only[go_sem,A7,g5];refine lM.call L.tovE (ns:=pM f) g4 (a4A _) Om (g3 rfl) Y (by simp only[go_sem,Z]) λA H1 h1 S=>?_;have O:=h1.at 0 rfl;generalize mV ([]++(pM f).take i) ((pM f).getD i [])=fb at *
   generalize hd:f.a2K[i]=p at *
   have u:∀(c:Bool)(B:PF),(zpF f A o i c 0).le B→(c&&(a3U p.a2H.length).all (SD f.a2H.length p.a2H))=(b&&(a3U (i+1)).all ok) →
     aC.wp C (.loop FA) (gP 10 (gP 9 (kT C (aC.wp C (.region UW)) (iR (λs:Nat × PV × PH=>(((((PF.nil.set 1 (.bU f.cells)).set 6 (s.2.1)).set 7 (.aE)).set 8 (.bool (b&&(a3U s.1).all ok))).set 17 (.int .i64 s.1))) (λs=>s.2.2) (λs=>s.1≤Z' f.a2K∧lM s.2.2 s.2.1 [] (pM f) (b&&(a3U s.1).all ok) s.1) (λs=>Z' f.a2K-s.1) (Z' f.a2K-i) K)))) B H1:=by
    intro c B E W;refine aGF L.toxX f β A o i p x.a2H c _ _ _ O E ?_;rw[W];simp only[go_sem,UW,N];exact fin _ A _ _ hlt rfl S Lq
   cases fb with
   |false =>simp only[go_sem,UT,AG];exact u false _ (by(repeat' (first|exact c_|refine d_ ?_ ?_))<;>first|(simp only[go_sem,zpF]<;>rfl)|rfl) (by rw[j];rfl)
   |true=>
    simp only[go_sem,UT,O];refine aB (L.nums p.k p.m p.a3F p.s0 p.s1 p.s2 p.s3 p.s4) Sq ?_;cases k0:RR p.k p.m p.a3F p.s0 p.s1 p.s2 p.s3 p.s4 with
    |false =>simp only[go_sem,AG];exact u false _ (by(repeat' (first|exact c_|refine d_ ?_ ?_))<;>first|(simp only[go_sem,zpF]<;>rfl)|rfl) (by rw[j,k0];rfl)
    |true=>
     simp only[go_sem,O];refine aB (L.dur p.m p.repair x.repair p.target p.a2R x.target x.a2R) Sq ?_;cases k1:WE p.m p.repair p.target p.a2R with
     |false =>simp only[go_sem,AG];exact u false _ (by(repeat' (first|exact c_|refine d_ ?_ ?_))<;>first|(simp only[go_sem,zpF]<;>rfl)|rfl) (by rw[j,k0,k1];rfl)
     |true =>have X:decide ((Z' p.a2H:Int)>0)=decide (Z' p.a2H>0):=decide_eq_decide.2 Om;simp only[go_sem,O,a3V,X,AG];exact u _ _ (by(repeat' (first|exact c_|refine d_ ?_ ?_))<;>first|(simp only[go_sem,zpF]<;>rfl)|rfl) (by rw[j,k0,k1];rfl)
 ·have l:¬(i:Int)<(Z' f.a2K:Nat):=Om;have:i=Z' f.a2K:=Om;subst this;simp only[go_sem,l];exact Up.up Lq (y hc.symm)
def wB(r:dM):Bool:=(r.name==[])&&((r.level==0)&&((r.parent==-1)&&((r.a3B==0)&&(eF (val r.a2W.num) (val r.a2W.den)&&(xB r.a2W==0)))))
def ayQ(f:aD):Bool:=match f.a2J with
 |[]=>false
 |r::_=>wB r
def aKT(f:aD):Bool:=within f.a3M 1 4&&(uW f.a2O.length f.a2H.length f.a2J.length f.a2G.length f.a2K.length f.a2I.length&&(decide (0<Z' f.a2J)&&((((((PZ f&&FU f)&&ayQ f)&&DK f)&&FG f)&&x8 f)&&N6 f)))
theorem ahE(n:Nat)(p q:Nat→Bool):(a3U n).all (λi=>p i&&q i)=((a3U n).all p&&(a3U n).all q):=by
 induction n with
 |zero=>rfl
 |succ n e =>simp only[a6N,List.all_append,e,List.all_cons,List.all_nil,a5Z];cases(a3U n).all p<;>cases(a3U n).all q<;>cases p n<;>simp
theorem GI{α:Type}(l:List α)(p:α→Bool):(a3U l.length).all (λi=>(l.map p).getD i false)=l.all p:=by
 refine Bool.eq_iff_iff.2 ?_;rw[a4T,a4T];constructor
 ·intro h x e;obtain⟨i,hi,rfl⟩:=a5R e;have:=h i (a4S.2 hi);simpa[a4D,hi]using this
 ·intro h i hi;have hi:=a4S.1 hi;simp[a4D,hi,h _ (a3Y hi)]
theorem NS(ns:List (List UInt8))(n:Nat)(e:Z' ns=n)(P:Nat→Bool):(a3U n).all (okL [] ns P)=(distinct ns&&(a3U n).all P):=by
 subst e;have:okL [] ns P=λi=>(isName (ns.getD i [])&&!(ns.take i).contains (ns.getD i []))&&P i:=by funext i;rfl
 rw[this,ahE];rfl
theorem aQP(base ns:List (List UInt8))(P Q:Nat→Bool):((a3U base.length).all (okL [] base P)&&(a3U ns.length).all (okL base ns Q))=(distinct (base++ns)&&((a3U base.length).all P&&(a3U ns.length).all Q)):=by
 have e:okL base ns Q=λi=>(isName (ns.getD i [])&&!(base++ns.take i).contains (ns.getD i []))&&Q i:=by funext i;rfl
 have j:distinct (base++ns)=(distinct base&&(a3U ns.length).all λi=>isName (ns.getD i [])&&!(base++ns.take i).contains (ns.getD i [])):=by
  unfold distinct;rw[a3Z,List.range_add,List.all_append,List.all_map];congr 1
  ·refine Bool.eq_iff_iff.2 ?_;rw[a4T,a4T];refine forall_congr' λi=>forall_congr' λhi=>?_;have hi:=a4S.1 hi;have a1:(base++ns).getD i []=base.getD i []:=by simp only[a4D];rw[a5U hi]
   have a2:(base++ns).take i=base.take i:=by rw[List.take_append_of_le_length Om]
   rw[a1,a2]
  ·refine Bool.eq_iff_iff.2 ?_;rw[a4T,a4T];refine forall_congr' λi=>forall_congr' λ_=>?_;have a1:(base++ns).getD (Z' base+i) []=ns.getD i []:=by simp only[a4D];rw[a5V Om];congr 2;omega
   have a2:(base++ns).take (Z' base+i)=base++ns.take i:=by rw[List.take_append,a4N Om];congr 2;omega
   simp only[Function.comp,a1,a2]
 rw[NS base base.length rfl P,e,ahE,j];cases distinct base<;>cases(a3U base.length).all P<;>simp
theorem aKW(r:dM):(decide (r.name=[])&&decide (r.level=0)&&decide (r.parent=-1)&&decide (r.a3B=0)&&eC r.a2W&&!bV r.a2W)=wB r:=by
 have w:decide (r.name=[])=(r.name==[]):=by cases r.name<;>rfl
 have y:decide (r.level=0)=(r.level==0):=by generalize r.level=x;by_cases h:x=0<;>simp[h]
 have A:decide (r.parent=-1)=(r.parent==-1):=by generalize r.parent=x;by_cases h:x=-1<;>simp[h]
 have B:decide (r.a3B=0)=(r.a3B==0):=by generalize r.a3B=x;by_cases h:x=0<;>simp[h]
 have h5:(eC r.a2W&&!bV r.a2W)=(eF (val r.a2W.num) (val r.a2W.den)&&(xB r.a2W==0)):=by
  rw[SU];by_cases h:val r.a2W.num=0
  ·have j:bV r.a2W=false:=by unfold bV;simp[h]
   rw[j];simp only[a4O,a5Z];cases e:eF (val r.a2W.num) (val r.a2W.den)with
   |false =>unfold eC tY;rw[e];rfl
   |true=>
    obtain⟨E,-,-⟩:=kA.1 e;unfold eC tY;rw[e,aL rfl,l4 e,h];unfold rR;have hb:val r.a2W.den/a3X 0 (val r.a2W.den)=1:=by rw[Nat.gcd_zero_left,Nat.div_self (a6Q E)]
    have l:dV (0/a3X 0 (val r.a2W.den))=0:=by rw[Nat.zero_div];exact nH
    have u:dV 1=1:=by rw[uH aX,nH]
    simp only[hb,l,u];simp
  ·have j:bV r.a2W=true:=by unfold bV;simp[h]
   rw[j];simp
 unfold wB;rw[w,y,A,B];simp only[a7H]at h5 ⊢;rw[h5]
theorem aHC(f:aD){r:dM}{t:List dM}(h:f.a2J=r::t):IB f r t=(wB r&&(a3U t.length).all (DJ f)):=by
 unfold IB;rw[aKW];congr 2;funext i;unfold DJ;rw[h,List.getElem?_cons_succ];cases t[i]? with
 |none=>rfl
 |some d=>exact aOF f i d
theorem aBC(f:aD):f.a2G.all (mI f)=(a3U f.a2G.length).all (BL f):=by
 have:BL f=λi=>(f.a2G.map (mI f)).getD i false:=by
  funext i;unfold BL;rw[a4D,a4Q];cases f.a2G[i]? with
  |none=>rfl
  |some d=>
   show Pj f d=mI f d;unfold Pj mI;have:decide ((f.a2J.map dM.level).getD d.machine.toNat 0=4)=((f.a2J.map dM.level).getD d.machine.toNat 0==4):=by generalize(f.a2J.map dM.level).getD d.machine.toNat 0=u;by_cases h:u=4<;>simp[h]
   rw[this,a7H]
 rw[this,GI]
theorem aDX(f:aD):f.a2K.all (mY f.a2H.length)=(a3U f.a2K.length).all (SC f):=by
 have:SC f=λi=>(f.a2K.map (mY f.a2H.length)).getD i false:=by
  funext i;unfold SC;rw[a4D,a4Q];cases f.a2K[i]? with
  |none=>rfl
  |some d=>exact(aQS _ d).symm
 rw[this,GI]
theorem aRC(f:aD):aKT f=dX f:=by
 have O:Cr f.a2O.length=oN f:=by funext m;unfold Cr oN;rw[a7H]
 have B:adP f.a2K.length=tI f:=rfl;have R:(within f.a3M 1 4&&uW f.a2O.length f.a2H.length f.a2J.length f.a2G.length f.a2K.length f.a2I.length)=sL f:=by unfold sL uW;simp only[a7H]
 unfold aKT dX PZ FU x8 N6;rw[NS _ _ (by rw[a3V]),NS _ _ (by rw[a3V]),NS _ _ (by rw[pM,a3V]),NS _ _ (by rw[a3V]),GI,GI,GI,O,B,aDX,aBC,←a7H,R];unfold sX ayQ;cases l:f.a2J with
 |nil=>simp
 |cons r t=>
  have j:decide (0<Z' f.a2J)=true:=by rw[l];simp
  rw[l]at j;rw[j,a4K];simp only;rw[aHC f l];have A:lE f=(f.a2J.drop 1).map dM.name:=rfl;rw[l]at A;have N:(lE f).length=Z' t:=by rw[A];simp
  have two:=aQP (lE f) (qU f) (DJ f) (BL f);rw[N,show(qU f).length=f.a2G.length by simp[qU]]at two;have K:DK f=(a3U t.length).all (okL [] (lE f) (DJ f)):=by unfold DK;rw[l];rfl
  have M:FG f=(a3U f.a2G.length).all (okL (lE f) (qU f) (BL f)):=rfl;rw[K,M,←A];rw[show f.a2G.map eS.name=qU f from rfl,show f.a2K.map eG.name=pM f from rfl];generalize(a3U t.length).all (okL [] (lE f) (DJ f))=a at *
  generalize(a3U f.a2G.length).all (okL (lE f) (qU f) (BL f))=b at *
  generalize distinct (lE f++qU f)=c at *
  generalize(a3U t.length).all (DJ f)=d at *
  generalize(a3U f.a2G.length).all (BL f)=e at *
  generalize sL f=s;generalize wB r=ro;generalize distinct (f.a2O.map dJ.name)=u;generalize f.a2O.all oK=w;generalize distinct (f.a2H.map dZ.name)=x;generalize f.a2H.all (oN f)=y;generalize distinct (pM f)=E;generalize(a3U f.a2K.length).all (SC f)=F;generalize distinct (f.a2I.map hC.name)=I;generalize f.a2I.all (tI f)=J;have:(s&&(((((((u&&w)&&(x&&y))&&ro)&&a)&&b)&&(E&&F))&&(I&&J)))=(s&&(ro&&((u&&w)&&((x&&y)&&((a&&b)&&((E&&F)&&(I&&J))))))):=by cases s<;>cases ro<;>cases u<;>cases w<;>cases x<;>cases y<;>simp[a7H]
  rw[this,two];cases s<;>cases ro<;>cases u<;>cases w<;>cases x<;>cases y<;>cases c<;>cases d<;>cases e<;>simp;cases E<;>cases F<;>cases I<;>cases J<;>rfl
theorem aKV(f:aD)(h:0<Z' f.a2J):ayQ f=wB f.a2J[0]:=by
 obtain⟨a,b,c,d,e,g,i⟩:=f;cases d with
 |nil=>simp at h
 |cons r t=>rfl
theorem aGK{C:Ctx}(L:Bk C)(f:aD)(x:f.Ok):NA.wp C (aV afT.res (aK (.bool (dX f)))) (PF.args [.agg f.cells]) .nil:=by
 have u:=aRC f;unfold aKT at u;have fail:∀(F:PF)(H:PH),dX f=false→F 2=some (.bool false)→aV [.tmp 2] (aK (.bool (dX f))) .ret F H:=λF H e h=>by rw[e];exact bD (vs:=[.bool false]) (.inr rfl) .nil (by simp only[go_sem,h]) a_ ⟨rfl,rfl⟩
 simp only[go_sem,NA,M1,M2,afT];refine aB (L.inn f.a3M 1 4) rfl ?_;cases V:within f.a3M 1 4 with
 |false =>rw[V,a4F]at u;simp only[go_sem,a4O,JO];exact fail _ _ u.symm rfl
 |true=>
 rw[V,a4K]at u;simp only[go_sem,a4H,a3V];refine aB (L.sizes f.a2O.length f.a2H.length f.a2J.length f.a2G.length f.a2K.length f.a2I.length) rfl ?_;cases k1:uW f.a2O.length f.a2H.length f.a2J.length f.a2G.length f.a2K.length f.a2I.length with
 |false =>rw[k1,a4F]at u;simp only[go_sem,a4O,JO];exact fail _ _ u.symm rfl
 |true=>
 rw[k1,a4K]at u;obtain⟨N,B,E,O,R,α⟩:=ZI k1;by_cases h0:Z' f.a2J=0
 ·rw[cF Om,a4F]at u;simp only[go_sem,a4H,a3V,cA (Om:(Z' f.a2J:Int)=0),JO];exact fail _ _ u.symm rfl
 have l:0<Z' f.a2J:=Om;rw[cB l,a4K]at u;simp only[go_sem,a4H,a3V,bJ (Om:(Z' f.a2J:Int)≠0),M3,M4,M5];refine aSE L.toxX f x N _ _ _ Lq λH1=>?_;simp only[go_sem,Au];refine aGJ L.toxX f x k1 (PZ f) _ _ _ Lq λH2=>?_;have K:=pI l;have A:=(x.dom _ (a3Y l)).1;have M:=aKV f l;rw[M]at u;generalize f.a2J[0]=r at *
 have j:∀(c:Bool)(F:PF)(H:PH),((((((PF.nil.set 1 (.bU f.cells)).set 5 (.aE)).set 6 (.aE)).set 7 (.aE)).set 8 (.bool c)):PF).le F→c=((PZ f&&FU f)&&wB r) →
   aC.wp C (.seq (.seq (.region UO) (.block 4 (.loop EY))) (.seq (.seq (.region UQ) (.block 6 (.loop EZ))) (.seq (.seq (.region US) (.block 8 (.loop FB))) (.seq (.seq (.region UX) (.block 14 (.loop FC))) (.seq (.region VA) .ret))))) (aV [.tmp 2] (aK (.bool (dX f)))) F H:=by
  intro c F H X Z;refine uB _ (λ_ _ _ _ a b=>Up.up a b) X ?_;simp only[go_sem,UO];refine aSD L.toxX f x E l c _ _ _ Lq λw W Y=>?_;simp only[go_sem,UQ];refine aGI L.toxX f x E l O B (c&&DK f) w _ _ _ Y Lq λH4=>?_;simp only[go_sem,US];refine aSF L f x R B ((c&&DK f)&&FG f) _ _ _ Lq λH5=>?_;simp only[go_sem,UX];refine aSG L.toxX f x k1 (((c&&DK f)&&FG f)&&x8 f) _ _ _ Lq λH6=>?_;simp only[go_sem,VA];refine bD (vs:=[.bool (dX f)]) (.inr rfl) .nil ?_ a_ ⟨rfl,rfl⟩;rw[←u,Z];simp only[go_sem]
 simp only[aC.wp,go_sem]at j;simp only[go_sem,Ay,K];refine aQ λo ho=>?_;have g0:(H2.set o (.rows 7 [r.cells])) o=some (.rows 7 [r.cells]):=bT ..;simp only[go_sem];generalize H2.set o (.rows 7 [r.cells])=W at *
 cases k2:(PZ f&&FU f)with
 |false =>simp only[go_sem,UN];exact j false _ _ Lq (by rw[k2];rfl)
 |true=>
  simp only[go_sem,UN,g0];cases y:r.name==[]with
  |false =>simp only[go_sem];exact j false _ _ Lq (by rw[k2];unfold wB;rw[y];rfl)
  |true=>
   simp only[go_sem,g0];cases I:r.level==0 with
   |false =>simp only[go_sem];exact j false _ _ Lq (by rw[k2];unfold wB;rw[y,I];rfl)
   |true=>
    simp only[go_sem,g0];cases J:r.parent==-1 with
    |false =>simp only[go_sem];exact j false _ _ Lq (by rw[k2];unfold wB;rw[y,I,J];rfl)
    |true=>
     simp only[go_sem,g0];cases S:r.a3B==0 with
     |false =>simp only[go_sem];exact j false _ _ Lq (by rw[k2];unfold wB;rw[y,I,J,S];rfl)
     |true=>
      simp only[go_sem,g0];refine aB (L.valid _ A) rfl ?_;cases U:eF (val r.a2W.num) (val r.a2W.den)with
      |false =>simp only[go_sem];exact j false _ _ Lq (by rw[k2];unfold wB;rw[y,I,J,S,U];rfl)
      |true =>simp only[go_sem,g0];refine aB (L.sign _ A U) rfl ?_;simp only[go_sem];exact j _ _ _ Lq (by rw[k2];unfold wB;rw[y,I,J,S,U];rfl)
def mC:=bP [2,44] Proofs.Tryz.f40
def aaH:=aA mC 0
def aaI:=aA mC 1
def aaJ:=aA mC 2
def aaK:=aA mC 3
def aaL:=aA mC 4
def aaM:=aA mC 5
def aaN:=bY mC 0
def qg:=aA mC 6
def aaO:=aA mC 7
def qh:=aA mC 8
def ZL:=aA mC 9
def Km:aC:=(dS aaM 15 0 ZL (dq aaN (jA qg 34 (.region aaO) (.region qh))))
def ZM:=aA mC 10
def SV:aC:=(sq aaH (dN aaI 10 aaJ (sq aaK (.seq (cL aaL 0 Km) (sq ZM .ret)))))
def azA:bA:=⟨2,47,SV,[.tmp 4]⟩
def wS:=bP [3] Proofs.Tryz.f145
def Ke:=aA wS 0
def Kf:=aA wS 1
def Kg:=aA wS 2
def Kh:=aA wS 3
def Kd:aC:=(.seq (sq Kg (.cond (Tm 21) .skip (.exit 0))) (.block 1 (.region Kh)))
def Ki:=aA wS 4
def LL:aC:=(sq Ke (sq Kf (.seq (.block 0 (.loop Kd)) (sq Ki .ret))))
def Z2:bA:=⟨3,29,LL,[.tmp 6]⟩
def oZ:=bP [3,4] Proofs.Tryz.f39
def gz:=aA oZ 0
def ia:=aA oZ 1
def ib:=aA oZ 2
def LM:=bY oZ 0
def ic:=aA oZ 3
def ie:=aA oZ 4
def gy:aC:=(dS ib 12 0 ie (dq LM (.cond (Tm 26) (sq ic .ret) .skip)))
def ig:=aA oZ 5
def DE:aC:=(sq gz (.seq (cL ia 0 gy) (sq ig .ret)))
def qd:bA:=⟨3,27,DE,[.tmp 6]⟩
theorem aEP{C:Ctx}(f:aD)(l:VF f)(d:Nat)(h:d<Z' f.a2G)(level:Int)(y:0≤level)(A:level≤4) :
  LL.wp C (aV Z2.res (aK (.int .i64 (mT f d level:Nat)))) (PF.args [.agg f.cells,.int .i64 d,.int .i64 level]) .nil:=by
 simp only[go_sem,LL,Ke,Kf,Z2,rE h,l.cz h];refine wp_loop (α:=Nat) (λk=>(((PF.nil.set 2 (.int .i64 level)).set 3 (.bU f.cells)).set 7 (.int .i64 (upN f k (fR f d))))) (λ_=>.nil) (λk=>k≤4-level.toNat) (λk=>4-level.toNat-k) 0 (a4A _) (by(repeat' (first|exact c_|refine d_ ?_ ?_))<;>first|(simp only[go_sem,upN]<;>rfl)|rfl) a_ ?_;intro k B;obtain⟨j,x⟩:=aa l h (k:=k) Om;simp only[go_sem,Kd,Kg,pI j,Ur j];by_cases hlt:k<4-level.toNat
 ·have u:lvl f (upN f k (fR f d))>level:=by rw[x];omega
  have w:0<upN f k (fR f d):=by
   rcases a6C (upN f k (fR f d))with e|e
   ·rw[e,l.root.2.1]at x;omega
   ·exact e
  simp only[go_sem,u,Kh,pI j,Yd j,l.Dg w j];exact aH (k+1) hlt Om (by(repeat' (first|exact c_|refine d_ ?_ ?_))<;>first|(simp only[go_sem,upN]<;>rfl)|rfl) a_
 ·have u:¬lvl f (upN f k (fR f d))>level:=by rw[x];omega
  have:k=4-level.toNat:=Om;subst this;simp only[go_sem,u,Ki];refine aT (.inr rfl) Ev ?_;rfl
structure aSR(C:Ctx):Prop where
 valid:∀f:aD,f.Ok→aJ C 67 [.agg f.cells] .nil (aK (.bool (dX f)))
 wW:∀(f:aD)(d:Nat)(level:Int),VF f→d<Z' f.a2G→0≤level→level≤4→aJ C 88 [.agg f.cells,.int .i64 d,.int .i64 level] .nil (aK (.int .i64 (mT f d level:Nat)))
structure aAP(C:Ctx):Prop extends aSR C where
 Qw:∀(f:aD)(v:Nat),VF f→v<Z' f.a2I→aJ C 82 [.agg f.cells,.int .i64 v] .nil (aK (.int .i64 (qO f v)))
theorem aPS{r e:Int}(h:0≤e):max 0 (min r e)=min (max r 0) e:=Om
theorem ayP(f:aD)(room:List Int){k:Nat}(h:k<Z' f.a2G):(nP f room).take (k+1)=(nP f room).take k++[qM f room k]:=by
 have e:k<(nP f room).length:=by rw[sS];exact h
 rw[a5W e,SK]
theorem aLD{C:Ctx}(L:aAP C)(f:aD)(N:f.Ok)(room:List Int) :
  SV.wp C (aV azA.res (cY (ints (JB f room)))) (PF.args [.agg f.cells,ints room]) .nil:=by
 simp only[go_sem,SV,aaH,aaI,azA];refine aB (L.valid f N) Sq ?_;unfold JB;cases R:dX f with
 |false =>simp only[go_sem,a4O,aaJ];exact Zv Ev
 |true=>
  have hV:=VF.of R;have J:=hV.small.a2G;have B:=sS f room;simp only[go_sem,a4H,aaK,aaL];refine wp_loop (α:=Nat × PV × PH) (λt=>((((PF.nil.set 1 (ints room)).set 2 (.bU f.cells)).set 5 (t.2.1)).set 6 (.int .i64 t.1))) (λt=>t.2.2) (λt=>t.1≤Z' f.a2G∧cZ t.2.2 1 t.2.1 (cC ((nP f room).take t.1))) (λt=>Z' f.a2G-t.1) (0,.aE,.nil) ⟨a4A _,.nil⟩ Lq a_ ?_;rintro⟨k,v,H0⟩ ⟨O,y⟩;simp only at O y ⊢;simp only[go_sem,Km,aaM,a3V];by_cases hlt:k<Z' f.a2G
  ·have e:(k:Int)<(Z' f.a2G:Nat):=Om;obtain⟨K,he⟩:=hV.Pl hlt;have E:=hV.model _ (a3Y K);rw[he]at E;have A:(1:Nat)*1≤16777216:=by decide
   have l:=ayP f room hlt;have j:∀(x:Int)(F:PF),x=qM f room k→((((((PF.nil.set 1 (ints room)).set 2 (.bU f.cells)).set 5 (v)).set 6 (.int .i64 k)).set 7 (.int .i64 x)):PF).le F →
     aC.wp C (.region qh) (gP 1 (kT C (aC.wp C (.region ZL)) (iR (λt:Nat × PV × PH=>((((PF.nil.set 1 (ints room)).set 2 (.bU f.cells)).set 5 (t.2.1)).set 6 (.int .i64 t.1))) (λt=>t.2.2) (λt=>t.1≤Z' f.a2G∧cZ t.2.2 1 t.2.1 (cC ((nP f room).take t.1))) (λt=>Z' f.a2G-t.1) (Z' f.a2G-k) (gP 0 (kT C (aC.wp C (.seq (.region ZM) .ret)) (aV [.tmp 4] (cY (ints (nP f room))))))))) F H0:=by
    intro x F S M;refine uB _ (λ_ _ _ _ a b=>Up.up a b) M ?_;simp only[go_sem,qh,A];refine lO (src:=[[.int .i64 x]]) y Sq (by unfold roomFor;rw[jR,a4M];simp only[a4E,maxLen];omega) λv' H' u _=>?_;rw[awZ,S,←l]at u;simp only[go_sem,ZL,wZz k];exact aH (k+1,v',H') ⟨hlt,u⟩ (by simp only;omega) Lq b_
   simp only[aC.wp,go_sem]at j;simp only[go_sem,e];refine aZ .nil cI a_ ?_;simp only[go_sem,aaN,rE hlt,hV.XI hlt,Gx K,he];by_cases c:Z' room=Z' f.a2G
   ·have w:k<Z' room:=Om;have I:(room.map λn=>[PV.int .i64 n])[k]?=some [.int .i64 room[k]]:=by simp[w]
    simp only[go_sem,qg,a3V,cA (Om:(Z' room:Int)=(Z' f.a2G:Nat)),aaO,I,max_eq,amI];refine j _ _ ?_ Lq;rw[qM,aL c,aPS Om,a4D,a4C w,a6R]
   ·simp only[go_sem,qg,a3V,bJ (Om:(Z' room:Int)≠(Z' f.a2G:Nat))];refine j _ _ ?_ Lq;rw[qM,aG c]
  ·have e:¬(k:Int)<(Z' f.a2G:Nat):=Om;have:k=Z' f.a2G:=Om;subst this;rw[←B,a5F]at y;simp only[go_sem,e,ZM];exact Dp y Sq
theorem agP{C:Ctx}(f:aD)(hV:VF f)(p:eG)(y:Fits p.a2H)(d:Nat)(w:d<Z' f.a2G) :
  DE.wp C (aV qd.res (aK (.bool (p.a2H.contains ((mdl f d:Nat):Int))))) (PF.args [.agg p.cells,.agg f.cells,.int .i64 d]) .nil:=by
 have A:Z' p.a2H≤9223372036854775807:=y;simp only[go_sem,DE,gz,ia,qd];refine wp_loop (α:=Nat) (λk=>((((PF.nil.set 2 (.int .i64 d)).set 3 (.bU p.cells)).set 4 (.bU f.cells)).set 7 (.int .i64 k))) (λ_=>.nil) (λk=>k≤Z' p.a2H∧p.a2H.contains ((mdl f d:Nat):Int)=(p.a2H.drop k).contains ((mdl f d:Nat):Int)) (λk=>Z' p.a2H-k) 0 ⟨a4A _,rfl⟩ Lq a_ ?_;rintro k ⟨B,l⟩;simp only[go_sem,gy,ib,a3V];by_cases hlt:k<Z' p.a2H
 ·have j:(k:Int)<(Z' p.a2H:Nat):=Om;have u:(p.a2H.map λx=>[PV.int .i64 x])[k]?=some [.int .i64 p.a2H[k]]:=by simp[hlt]
  rw[a6J hlt,List.contains_cons]at l;have e:(p.a2H[k]==((mdl f d:Nat):Int))=(((mdl f d:Nat):Int)==p.a2H[k]):=BEq.comm;simp only[go_sem,j];refine aZ .nil cI a_ ?_;cases c:((mdl f d:Nat):Int)==p.a2H[k]with
  |true =>rw[c]at e;rw[c,Bool.true_or]at l;simp only[go_sem,LM,u,rE w,hV.XI w,e,ic];refine aT (.inr rfl) Ev ?_;rw[cE,l]
  |false =>rw[c]at e;rw[c,Bool.false_or]at l;simp only[go_sem,LM,u,rE w,hV.XI w,e,ie,wZz k];exact aH (k+1) ⟨hlt,l⟩ Om Lq b_
 ·have j:¬(k:Int)<(Z' p.a2H:Nat):=Om;have:k=Z' p.a2H:=Om;subst this;rw[List.drop_length]at l;simp only[go_sem,j,ig];refine aT (.inr rfl) Ev ?_;rw[cE,l];rfl







structure bR where
 src:Nat
 dst:Nat
 cap:Nat
abbrev bR.cells(a:bR):List PV:=[.int .i64 a.src,.int .i64 a.dst,.int .i64 a.cap,.int .i64 0]
abbrev Bm(l:List bR):PV:=.sl 4 (l.map bR.cells)
structure cH where
 nodes:Nat
 source:Nat
 sink:Nat
 arcs:List bR
abbrev cH.cells(n:cH):List PV:=[.int .i64 n.nodes,.int .i64 n.source,.int .i64 n.sink,Bm n.arcs]
structure fD(n:cH):Prop where
 two:2≤n.nodes
 few:n.nodes≤700
 num:Z' n.arcs≤2500
 source:n.source<n.nodes
 sink:n.sink<n.nodes
 apart:n.source≠n.sink
 ends:∀a∈n.arcs,a.src<n.nodes∧a.dst<n.nodes∧a.cap≤2147483647
def hZ:List bR→List Nat→Nat→Int
 |a::l,x::xs,v=>(if a.src=v then(x:Int)else 0)-(if a.dst=v then(x:Int)else 0)+hZ l xs v
 |_,_,_=>0
def zO(S:Nat→Bool):List bR→List Nat→Int
 |a::l,x::xs=>(if S a.src=true∧S a.dst=false then(x:Int)else 0)-(if S a.src=false∧S a.dst=true then(x:Int)else 0)+zO S l xs
 |_,_=>0
def sO(S:Nat→Bool)(g:Nat→Int):Nat→Int
 |0=>0
 |n+1=>sO S g n+if S n=true then g n else 0
theorem ql(S:Nat→Bool)(g h:Nat→Int):∀n,sO S (λv=>g v+h v) n=sO S g n+sO S h n
 |0=>rfl
 |n+1=>by rw[sO,sO,sO,ql S g h n];split<;>omega
theorem EP{S:Nat→Bool}{g h:Nat→Int}:∀{n:Nat},(∀v,v<n→S v=true→g v=h v)→sO S g n=sO S h n
 |0,_=>rfl
 |n+1,e=>by
  rw[sO,sO,EP (n:=n) λv j=>e v Om];split
  ·rename_i c;rw[e n Om c]
  ·rfl
theorem JG(S:Nat→Bool):∀n,sO S (λ_=>0) n=0
 |0=>rfl
 |n+1=>by rw[sO,JG S n];split<;>rfl
theorem SY(S:Nat→Bool)(a:Nat)(x:Int):∀{n:Nat},a<n→sO S (λv=>if a=v then x else 0) n=if S a=true then x else 0
 |0,h=>by omega
 |n+1,h=>by
  rw[sO];by_cases e:a=n
  ·subst e;rw[EP (h:=λ_=>0) (n:=a) λv j _=>by rw[aG Om],JG,aL rfl];omega
  ·rw[SY S a x (n:=n) Om,aG e];split<;>split<;>omega
theorem arC(S:Nat→Bool){N:Nat}:∀{l:List bR}{xs:List Nat},(∀a∈l,a.src<N∧a.dst<N)→sO S (hZ l xs) N=zO S l xs
 |[],_,_=>JG S N
 |_::_,[],_=>JG S N
 |a::l,x::xs,h=>by
  obtain⟨j,u⟩:=h a aW;have w:=arC S (l:=l) (xs:=xs) λb hb=>h b (a7B _ hb);have e:sO S (hZ (a::l) (x::xs)) N=sO S (λv=>if a.src=v then(x:Int)else 0) N+(sO S (λv=>if a.dst=v then -(x:Int)else 0) N+sO S (hZ l xs) N):=by rw[←ql,←ql];refine EP λv _ _=>?_;rw[hZ];split<;>split<;>omega
  rw[e,SY S _ _ j,SY S _ _ u,w,zO];cases S a.src<;>cases S a.dst<;>simp<;>omega
structure jM(n:cH)(xs:List Nat):Prop where
 len:Z' xs=Z' n.arcs
 le:∀(i:Nat) a x,n.arcs[i]?=some a→xs[i]?=some x→x≤a.cap
 node:∀v,v<n.nodes→v≠n.source→v≠n.sink→hZ n.arcs xs v=0
def kM(n:cH)(xs:List Nat):Int:=hZ n.arcs xs n.source
def eD(S:Nat→Bool):List bR→Nat
 |[]=>0
 |a::l=>(if S a.src=true∧S a.dst=false then a.cap else 0)+eD S l
theorem jM.cut{n:cH}(j:fD n){xs:List Nat}(h:jM n xs){S:Nat→Bool}(w:S n.source=true)(x:S n.sink=false):zO S n.arcs xs=kM n xs:=by
 rw[←arC S (N:=n.nodes) λa l=>⟨(j.ends a l).1,(j.ends a l).2.1⟩];rw[EP (h:=λv=>if n.source=v then kM n xs else 0) λv y u=>?_,SY S _ _ j.source,aL w];by_cases e:n.source=v
 ·subst e;rw[aL rfl];rfl
 ·rw[aG e];exact h.node v y (λc=>e c.symm) λc=>by rw[c,x]at u;cases u
theorem apP(S:Nat→Bool):∀{l:List bR}{xs:List Nat},(∀(i:Nat) a x,l[i]?=some a→xs[i]?=some x→x≤a.cap)→zO S l xs≤eD S l
 |[],_,_=>by simp[zO,eD]
 |_::_,[],_=>by simp[zO]
 |a::l,x::xs,h=>by have j:=h 0 a x rfl rfl;have u:=apP S (l:=l) (xs:=xs) λi b y hb e=>h (i+1) b y (by simpa using hb) (by simpa using e);rw[zO,eD];split<;>split<;>omega
theorem jM.aCB{n:cH}(l:fD n){xs:List Nat}(h:jM n xs){S:Nat→Bool}(e:S n.source=true)(j:S n.sink=false):kM n xs≤eD S n.arcs:=by
 rw[←h.cut l e j];exact apP S h.le
theorem apO(S:Nat→Bool):∀{l:List bR}{xs:List Nat},Z' xs=Z' l→(∀(i:Nat) a x,l[i]?=some a→xs[i]?=some x→(S a.src=true→S a.dst=false→x=a.cap)∧(S a.src=false→S a.dst=true→x=0))→zO S l xs=eD S l
 |[],_,_,_=>by simp[zO,eD]
 |_::_,[],h,_=>by simp at h
 |a::l,x::xs,w,h=>by
  have e:=h 0 a x rfl rfl;have B:=apO S (l:=l) (xs:=xs) (by simpa using w) λi b y hb A=>h (i+1) b y (by simpa using hb) (by simpa using A);rw[zO,eD,B];cases u:S a.src<;>cases j:S a.dst
  ·simp
  ·have:=e.2 u j;simp;omega
  ·have:=e.1 u j;simp;omega
  ·simp
theorem jM.full{n:cH}(u:fD n){xs:List Nat}(h:jM n xs){S:Nat→Bool}(e:S n.source=true)(j:S n.sink=false)
  (l:∀(i:Nat) a x,n.arcs[i]?=some a→xs[i]?=some x→(S a.src=true→S a.dst=false→x=a.cap)∧(S a.src=false→S a.dst=true→x=0)):kM n xs=eD S n.arcs:=by
 rw[←h.cut u e j];exact apO S h.len l
theorem aoG:∀{l:List bR}{xs:List Nat}{i:Nat}{a:bR}{x:Nat}(y:Nat),l[i]?=some a→xs[i]?=some x→∀v,hZ l (xs.set i y) v=hZ l xs v+(if a.src=v then(y:Int)-x else 0)-(if a.dst=v then(y:Int)-x else 0)
 |[],_,_,_,_,_,h,_,_=>by simp at h
 |_::_,[],_,_,_,_,_,h,_=>by simp at h
 |b::l,z::xs,0,a,x,y,e,j,v=>by simp only[List.getElem?_cons_zero,a6H.injEq]at e j;subst e;subst j;rw[List.set_cons_zero,hZ,hZ];split<;>split<;>omega
 |b::l,z::xs,i+1,a,x,y,e,j,v=>by rw[List.set_cons_succ,hZ,hZ,aoG (l:=l) (xs:=xs) y (by simpa using e) (by simpa using j) v];omega
theorem Xe(l:List bR):∀(n:Nat)(v:Nat),hZ l (a3W n 0) v=0:=by
 induction l with
 |nil=>intro n v;cases n<;>rfl
 |cons a l e=>
  intro n v;cases n with
  |zero=>rfl
  |succ n =>rw[List.replicate_succ,hZ,e];split<;>split<;>rfl
theorem IE(n:cH):jM n (a3W n.arcs.length 0)∧kM n (a3W n.arcs.length 0)=0:=by
 refine⟨⟨by simp,λi a x _ e=>?_,λv _ _ _=>Xe _ _ _⟩,Xe _ _ _⟩;have:=a5S e;rw[List.eq_of_mem_replicate this];exact a4A _
def Ip:=bP [2] Proofs.Tryz.f34
def apC:=aA Ip 0
def apD:=aA Ip 1
def YN:aC:=(sq apC (sq apD .ret))
def aKD:bA:=⟨2,7,YN,[.tmp 4]⟩
def IU:=bP [3] Proofs.Tryz.f35
def Cz:=aA IU 0
def C0:=aA IU 1
def aoA:=aA IU 2
def aoB:=aA IU 3
def IT:aC:=(sq Cz (dN C0 8 aoA (sq aoB .ret)))
def axU:bA:=⟨3,24,IT,[.tmp 6]⟩
def Hr:=bP [2] Proofs.Tryz.f32
def aoC:=aA Hr 0
def aoD:=aA Hr 1
def XU:aC:=(sq aoC (sq aoD .ret))
def aJS:bA:=⟨2,13,XU,[.tmp 4]⟩
def aCQ:=bP [13] Proofs.Tryz.f33
def anJ:=aA aCQ 0
def XQ:aC:=(.region anJ)
def aJO:bA:=⟨3,16,XQ,[]⟩
def dR:=bP [2] Proofs.Tryz.f12
def aiZ:=aA dR 0
def ajA:=aA dR 1
def ajB:=aA dR 2
def ajC:=aA dR 3
def ajD:=aA dR 4
def ajE:=aA dR 5
def ajF:=aA dR 6
def ajG:=aA dR 7
def ajH:=aA dR 8
def ajI:=aA dR 9
def P7:=aA dR 10
def P8:=aA dR 11
def P9:=aA dR 12
def Qa:=aA dR 13
def Qb:=aA dR 14
def Qc:=aA dR 15
def jx:aC:=(gJ P9 62 2 Qc (sq Qa (.region Qb)))
def Qd:=bY dR 0
def Qe:=aA dR 16
def Qf:=aA dR 17
def Qg:=aA dR 18
def j7:=aA dR 19
def j8:=aA dR 20
def j9:=aA dR 21
def Qh:=aA dR 22
def ka:=bY dR 1
def OW:=aA dR 23
def jy:aC:=(gJ Qf 83 4 OW (sq Qg (jA j7 88 (.exit 5) (sq j8 (jA j9 95 (.region Qh) (.draw ka))))))
def Qi:=aA dR 24
def Qj:=aA dR 25
def Qk:=aA dR 26
def Ql:=aA dR 27
def Qm:=bY dR 2
def kb:=aA dR 28
def jz:aC:=(gJ Qj 118 6 kb (sq Qk (sq Ql (.cond (Tm 126) (.draw Qm) .skip))))
def Qn:=aA dR 29
def j5:aC:=(gJ ajG 44 0 Qn (sq ajH (sq ajI (sq P7 (.seq (cL P8 2 jx) (dq Qd (.seq (cL Qe 4 jy) (cL Qi 6 jz))))))))
def Qo:=aA dR 30
def Qp:=aA dR 31
def Qq:=aA dR 32
def Qr:=aA dR 33
def Qs:=aA dR 34
def j6:aC:=(gJ Qp 144 8 Qs (sq Qq (.region Qr)))
def Qt:=aA dR 35
def WN:aC:=(sq aiZ (dN ajA 24 ajB (sq ajC (sq ajD (sq ajE (.seq (cL ajF 0 j5) (.seq (cL Qo 8 j6) (sq Qt .ret))))))))
def aHR:bA:=⟨2,156,WN,[.cell 4 (some 4),.tmp 5]⟩
def sP:=bP [1] Proofs.Tryz.f42
def aiS:=aA sP 0
def aiT:=aA sP 1
def aiU:=aA sP 2
def aiV:=aA sP 3
def aiW:=aA sP 4
def aiX:=bY sP 0
def B0:=aA sP 5
def aiR:aC:=(gJ aiV 10 0 B0 (sq aiW (.draw aiX)))
def aiY:=aA sP 6
def WK:aC:=(sq aiS (sq aiT (.seq (cL aiU 0 aiR) (sq aiY .ret))))
def aHN:bA:=⟨1,32,WK,[.tmp 2]⟩
def gD:=bP [2,89] Proofs.Tryz.f15
def Eu:=aA gD 0
def Ew:=aA gD 1
def WP:=aA gD 2
def Ex:=aA gD 3
def Ey:=aA gD 4
def Ez:=aA gD 5
def E0:=aA gD 6
def E4:=aA gD 7
def E5:=aA gD 8
def E6:=aA gD 9
def tj:=aA gD 10
def tk:=aA gD 11
def OY:=bY gD 0
def tp:=aA gD 12
def tq:=bY gD 1
def tr:=bY gD 2
def DN:=aA gD 13
def OX:aC:=(gJ tj 52 0 DN (sq tk (.seq (dq OY (.cond (Tm 67) (.exit 1) .skip)) (sq tp (dq tq (.draw tr))))))
def tt:=aA gD 14
def JU:aC:=(sq Eu (sq Ew (dN WP 24 Ex (sq Ey (dN Ez 36 E0 (sq E4 (sq E5 (.seq (cL E6 0 OX) (sq tt .ret)))))))))
def Qu:bA:=⟨2,94,JU,[.tmp 4,.tmp 5]⟩
def eX:=bP [2,60,82,87,105] Proofs.Tryz.f17
def ajS:=aA eX 0
def ajT:=aA eX 1
def B8:=aA eX 2
def ajU:=aA eX 3
def ajV:=aA eX 4
def ajW:=aA eX 5
def ajX:=aA eX 6
def ajY:=aA eX 7
def ajZ:=aA eX 8
def akA:=aA eX 9
def Q3:=aA eX 10
def Q4:=aA eX 11
def Q5:=bY eX 0
def Q6:=bY eX 1
def Q7:=aA eX 12
def Q8:=aA eX 13
def Q9:=aA eX 14
def Ra:=aA eX 15
def Rb:=aA eX 16
def kg:aC:=(dS Q9 71 2 Rb (.region Ra))
def Rc:=aA eX 17
def Re:=aA eX 18
def kh:aC:=(gJ Q3 50 0 Re (sq Q4 (.seq (dq Q5 (.draw Q6)) (sq Q7 (.seq (cL Q8 2 kg) (.region Rc))))))
def Rf:=aA eX 19
def Rh:=aA eX 20
def Ri:=aA eX 21
def Rj:=bY eX 2
def Rk:=bY eX 3
def Rl:=aA eX 22
def ki:aC:=(gJ Rh 95 4 Rl (sq Ri (dq Rj (.draw Rk))))
def Rm:=aA eX 23
def WR:aC:=(sq ajS (sq ajT (dN B8 25 ajU (sq ajV (dN ajW 37 ajX (sq ajY (sq ajZ (.seq (cL akA 0 kh) (.seq (cL Rf 4 ki) (sq Rm .ret))))))))))
def aHT:bA:=⟨2,110,WR,[.cell 4 (some 3),.tmp 5]⟩
def lG:=bP [3,5] Proofs.Tryz.f19
def aiF:=aA lG 0
def aiG:=aA lG 1
def FH:=aA lG 2
def NH:=aA lG 3
def aiH:=aA lG 4
def aiI:=aA lG 5
def aiJ:=aA lG 6
def aiK:=aA lG 7
def aiL:=aA lG 8
def aiM:=aA lG 9
def Pp:=aA lG 10
def Pq:=aA lG 11
def Po:aC:=(gJ aiJ 57 0 Pq (sq aiK (dN aiL 66 aiM (.region Pp))))
def Ps:=bY lG 0
def Pt:=aA lG 12
def WI:aC:=(sq aiF (sq aiG (dN FH 48 NH (sq aiH (.seq (cL aiI 0 Po) (dq Ps (sq Pt .ret)))))))
def aHL:bA:=⟨3,87,WI,[.tmp 6]⟩
def vp:=bP [] Proofs.Tryz.f109
def V8:=aA vp 0
def V9:=aA vp 1
def RA:aC:=(sq V8 (sq V9 .ret))
def axK:bA:=⟨1,12,RA,[.tmp 3]⟩
def lT:=bP [] Proofs.Tryz.f72
def Hg:=aA lT 0
def Hh:=aA lT 1
def Hi:=aA lT 2
def aCO:=aA lT 3
def Hj:=aA lT 4
def Hk:=aA lT 5
def Hl:=aA lT 6
def Hm:=aA lT 7
def aCP:=aA lT 8
def Hn:=aA lT 9
def wg:aC:=(gJ Hk 46 0 Hn (sq Hl (sq Hm (.cond (Tm 70) (sq aCP .ret) .skip))))
def wh:=aA lT 10
def KL:aC:=(sq Hg (sq Hh (dN Hi 41 aCO (.seq (cL Hj 0 wg) (sq wh .ret)))))
def Wn:bA:=⟨1,72,KL,[.tmp 2]⟩
def oM:=bP [2] Proofs.Tryz.f46
def alZ:=aA oM 0
def amA:=aA oM 1
def aPU:=aA oM 2
def amB:=aA oM 3
def amC:=aA oM 4
def amD:=aA oM 5
def amE:=aA oM 6
def amF:=aA oM 7
def amG:=aA oM 8
def c9:=aA oM 9
def U8:aC:=(gJ amD 38 0 c9 (sq amE (sq amF (.cond (Tm 53) (.region amG) .skip))))
def U9:=aA oM 10
def XH:aC:=(sq alZ (dN amA 33 aPU (sq amB (.seq (cL amC 0 U8) (sq U9 .ret)))))
def aIZ:bA:=⟨2,60,XH,[.tmp 4,.tmp 5]⟩
def DT:=bP [] Proofs.Tryz.f110
def me:=aA DT 0
def mf:=aA DT 1
def Va:=bY DT 0
def Vb:=bY DT 1
def DS:aC:=(sq me (jA mf 7 (dq Va .ret) (dq Vb .ret)))
def Nw:bA:=⟨2,52,DS,[.tmp 4,.tmp 5]⟩
def DR:=bP [] Proofs.Tryz.f111
def ma:=aA DR 0
def mb:=aA DR 1
def U6:=aA DR 2
def U7:=aA DR 3
def DQ:aC:=(sq ma (dN mb 6 U6 (sq U7 .ret)))
def Nv:bA:=⟨2,26,DQ,[.tmp 4]⟩
def jL:=bP [79] Proofs.Tryz.f73
def Gy:=aA jL 0
def Gz:=bY jL 0
def G0:=aA jL 1
def G1:=aA jL 2
def G2:=aA jL 3
def G3:=bY jL 1
def G4:=aA jL 4
def G5:=aA jL 5
def G6:=aA jL 6
def IS:=aA jL 7
def vt:=aA jL 8
def vu:=aA jL 9
def EE:=aA jL 10
def vq:aC:=(gJ G4 52 2 EE (sq G5 (sq G6 (sq IS (.cond (Tm 69) (sq vt (.region vu)) .skip)))))
def vw:=aA jL 11
def vr:aC:=(dS G2 38 0 vw (dq G3 (.block 2 (.loop vq))))
def vz:=aA jL 12
def KJ:aC:=(sq Gy (dq Gz (sq G0 (.seq (cL G1 0 vr) (sq vz .ret)))))
def Wa:bA:=⟨1,84,KJ,[.tmp 2,.tmp 3]⟩
def kI:=bP [] Proofs.Tryz.f74
def alT:=aA kI 0
def alU:=aA kI 1
def alV:=aA kI 2
def alW:=aA kI 3
def alX:=aA kI 4
def c7:=aA kI 5
def Ck:=aA kI 6
def c8:=aA kI 7
def alS:aC:=(dS alW 22 0 c8 (sq alX (sq c7 (.cond (Tm 44) (.region Ck) .skip))))
def alY:=aA kI 8
def U2:=aA kI 9
def l7:=aA kI 10
def l8:=aA kI 11
def U3:=aA kI 12
def U4:=aA kI 13
def l9:=aA kI 14
def U1:aC:=(dS U2 57 2 l9 (sq l7 (sq l8 (.cond (Tm 69) (.region U3) (.region U4)))))
def U5:=aA kI 15
def XG:aC:=(sq alT (sq alU (.seq (cL alV 0 alS) (.seq (cL alY 2 U1) (sq U5 .ret)))))
def aIW:bA:=⟨2,92,XG,[.tmp 4]⟩
def gW:=bP [1,48,67] Proofs.Tryz.f41
def G7:=aA gW 0
def G8:=aA gW 1
def aCM:=aA gW 2
def G9:=bY gW 0
def Ha:=aA gW 3
def Hb:=aA gW 4
def Hc:=aA gW 5
def Hd:=bY gW 1
def He:=bY gW 2
def Hf:=bY gW 3
def v8:=bY gW 4
def wa:=aA gW 6
def v6:aC:=(gJ Hb 29 0 wa (sq Hc (.seq (dq Hd (.draw He)) (dq Hf (.draw v8)))))
def wb:=aA gW 7
def wc:=aA gW 8
def RC:=aA gW 9
def wd:=aA gW 10
def we:=aA gW 11
def v7:aC:=(.block 3 (sq wc (dN RC 81 wd (.region we))))
def KK:aC:=(sq G7 (dN G8 14 aCM (dq G9 (.seq (cL Ha 0 v6) (cL wb 2 v7)))))
def Wm:bA:=⟨1,93,KK,[.tmp 2,.tmp 3,.tmp 4,.tmp 5]⟩
def mR:=bP [1] Proofs.Tryz.f75
def Jb:=aA mR 0
def Jc:=aA mR 1
def aDR:=aA mR 2
def Jd:=aA mR 3
def Je:=aA mR 4
def Jf:=aA mR 5
def Jg:=aA mR 6
def aDS:=aA mR 7
def Jh:=aA mR 8
def Ja:aC:=(dS Je 54 0 Jh (sq Jf (sq Jg (.cond (Tm 93) (sq aDS .ret) .skip))))
def xx:=aA mR 9
def LH:aC:=(sq Jb (dN Jc 49 aDR (.seq (cL Jd 0 Ja) (sq xx .ret))))
def X9:bA:=⟨1,94,LH,[.tmp 2]⟩
def gE:=bP [2] Proofs.Tryz.f77
def Ji:=aA gE 0
def Jj:=aA gE 1
def aDU:=aA gE 2
def Jk:=aA gE 3
def Jl:=aA gE 4
def Jm:=aA gE 5
def Jn:=aA gE 6
def Jo:=bY gE 0
def aDV:=aA gE 7
def Jp:=bY gE 1
def x2:=bY gE 2
def x3:=aA gE 8
def xy:aC:=(dS Jm 27 0 x3 (sq Jn (.seq (dq Jo (.cond (Tm 48) (sq aDV .ret) .skip)) (dq Jp (.draw x2)))))
def x4:=aA gE 9
def x5:=aA gE 10
def EH:=aA gE 11
def ayG:=aA gE 12
def EI:=aA gE 13
def xz:aC:=(dS x5 80 2 EI (sq EH (.cond (Tm 99) (sq ayG .ret) .skip)))
def x6:=aA gE 14
def LJ:aC:=(sq Ji (dN Jj 20 aDU (sq Jk (.seq (cL Jl 0 xy) (.seq (cL x4 2 xz) (sq x6 .ret))))))
def Ya:bA:=⟨2,105,LJ,[.tmp 4,.tmp 5]⟩
def pR:=bP [2] Proofs.Tryz.f47
def apF:=aA pR 0
def apG:=aA pR 1
def aQO:=aA pR 2
def apH:=aA pR 3
def apI:=aA pR 4
def apJ:=aA pR 5
def apK:=aA pR 6
def apL:=aA pR 7
def dg:=aA pR 8
def apE:aC:=(dS apJ 37 0 dg (sq apK (.cond (Tm 60) (.region apL) .skip)))
def X4:=aA pR 9
def YO:aC:=(sq apF (dN apG 32 aQO (sq apH (.seq (cL apI 0 apE) (sq X4 .ret)))))
def aKE:bA:=⟨2,70,YO,[.tmp 4,.tmp 5]⟩
def fL:=bP [2,78,115] Proofs.Tryz.f76
def Is:=aA fL 0
def It:=bY fL 0
def Iu:=aA fL 1
def Iv:=aA fL 2
def Iw:=aA fL 3
def Ix:=aA fL 4
def Iy:=aA fL 5
def Iz:=aA fL 6
def I0:=aA fL 7
def I1:=aA fL 8
def zL:=bY fL 1
def xf:=bY fL 2
def xg:=bY fL 3
def xh:=aA fL 9
def zM:=aA fL 10
def xi:=bY fL 4
def xj:=bY fL 5
def xk:=aA fL 11
def zN:=aA fL 12
def xd:aC:=(dS I0 37 2 zN (sq I1 (.seq (dq zL (.cond (Tm 65) (.seq (dq xf (.draw xg)) (.region xh)) .skip)) (sq zM (.cond (Tm 98) (.seq (dq xi (.draw xj)) (.region xk)) .skip)))))
def xe:aC:=(.seq (sq Iw (.cond (Tm 27) .skip (.exit 0))) (.block 1 (sq Ix (sq Iy (cL Iz 2 xd)))))
def xl:=aA fL 13
def LF:aC:=(sq Is (dq It (sq Iu (sq Iv (.seq (.block 0 (.loop xe)) (sq xl .ret))))))
def X8:bA:=⟨2,119,LF,[.tmp 4,.tmp 5]⟩
def eW:=bP [1] Proofs.Tryz.f43
def I2:=aA eW 0
def I3:=aA eW 1
def aDP:=aA eW 2
def I4:=aA eW 3
def I5:=aA eW 4
def YT:=aA eW 5
def I6:=aA eW 6
def I7:=aA eW 7
def I8:=aA eW 8
def I9:=aA eW 9
def xp:=aA eW 10
def RV:=aA eW 11
def RW:=aA eW 12
def RX:=bY eW 0
def RY:=bY eW 1
def xm:aC:=(.seq (sq xp (.cond (Tm 49) .skip (.exit 2))) (.block 3 (sq RV (sq RW (.cond (Tm 58) (.draw RX) (.draw RY))))))
def xq:=aA eW 13
def xr:=aA eW 14
def RZ:=aA eW 15
def SA:=aA eW 16
def xt:=aA eW 17
def xu:=aA eW 18
def xv:=bY eW 2
def xw:=aA eW 19
def xn:aC:=(.seq (sq xr (.cond (Tm 103) .skip (.exit 4))) (.block 5 (sq RZ (sq SA (.cond (Tm 112) (sq xt (.region xu)) (dq xv (.region xw)))))))
def xo:aC:=(.block 1 (sq I5 (jA YT 34 (sq I6 (sq I7 .ret)) (sq I8 (.seq (cL I9 2 xm) (cL xq 4 xn))))))
def LG:aC:=(sq I2 (dN I3 18 aDP (cL I4 0 xo)))
def YS:bA:=⟨1,155,LG,[.tmp 2,.tmp 3,.tmp 4,.tmp 5]⟩
def EK:=bP [3] Proofs.Tryz.f38
def pw:=aA EK 0
def p4:=aA EK 1
def Zj:=aA EK 2
def Zk:=aA EK 3
def EJ:aC:=(sq pw (dN p4 8 Zj (sq Zk .ret)))
def Nz:bA:=⟨3,25,EJ,[.tmp 6]⟩
def Ju:=bP [2] Proofs.Tryz.f37
def aqB:=aA Ju 0
def aqC:=aA Ju 1
def YZ:aC:=(sq aqB (sq aqC .ret))
def aKP:bA:=⟨2,15,YZ,[.tmp 4]⟩
def rU:=bP [1] Proofs.Tryz.f44
def Jw:=aA rU 0
def Jx:=aA rU 1
def Jy:=aA rU 2
def Jz:=aA rU 3
def J0:=aA rU 4
def J1:=aA rU 5
def Jv:aC:=(dS Jz 9 0 J1 (.region J0))
def J2:=aA rU 6
def LK:aC:=(sq Jw (sq Jx (.seq (cL Jy 0 Jv) (sq J2 .ret))))
def Zl:bA:=⟨1,18,LK,[.tmp 2]⟩
def eM:=bP [2,52,95,124,147] Proofs.Tryz.f13
def aqM:=aA eM 0
def aqN:=aA eM 1
def aqO:=aA eM 2
def aqP:=aA eM 3
def aqQ:=aA eM 4
def aqR:=aA eM 5
def aqS:=bY eM 0
def aqT:=bY eM 1
def aqU:=bY eM 2
def aqV:=aA eM 6
def Y4:=aA eM 7
def pj:=aA eM 8
def pn:=aA eM 9
def Y5:=aA eM 10
def po:=bY eM 3
def pq:=bY eM 4
def pt:=aA eM 11
def pd:aC:=(dS Y4 59 2 pt (sq pj (jA pn 72 (.region Y5) (dq po (.draw pq)))))
def Y6:=aA eM 12
def Y7:=aA eM 13
def Y8:=aA eM 14
def Y9:=bY eM 5
def Za:=bY eM 6
def pu:=aA eM 15
def pe:aC:=(dS Y7 102 4 pu (sq Y8 (.cond (Tm 108) (dq Y9 (.draw Za)) .skip)))
def Zb:=aA eM 16
def pg:aC:=(dS aqR 28 0 Zb (dq aqS (.seq (dq aqT (.draw aqU)) (.seq (cL aqV 2 pd) (cL Y6 4 pe)))))
def Zc:=aA eM 17
def Zd:=aA eM 18
def Ze:=aA eM 19
def Zf:=bY eM 7
def Zg:=bY eM 8
def Zh:=aA eM 20
def pi:aC:=(dS Ze 134 6 Zh (dq Zf (.draw Zg)))
def Zi:=aA eM 21
def ZB:aC:=(sq aqM (dN aqN 16 aqO (sq aqP (.seq (cL aqQ 0 pg) (sq Zc (.seq (cL Zd 6 pi) (sq Zi .ret)))))))
def Dm:bA:=⟨2,151,ZB,[.cell 4 (some 4),.tmp 5]⟩
def mL:=bP [3,4,70] Proofs.Tryz.f45
def aqD:=aA mL 0
def aqE:=aA mL 1
def aqF:=aA mL 2
def aqG:=aA mL 3
def aqH:=bY mL 0
def di:=aA mL 4
def aqI:=aA mL 5
def aqJ:=aA mL 6
def aqK:=bY mL 1
def aqL:=aA mL 7
def ow:=aA mL 8
def ov:aC:=(dS aqJ 44 2 ow (dq aqK (.cond (Tm 62) (.region aqL) .skip)))
def SE:=aA mL 9
def Y3:aC:=(dS aqG 19 0 SE (dq aqH (jA di 39 (.exit 1) (cL aqI 2 ov))))
def oz:=aA mL 10
def ZA:aC:=(sq aqD (sq aqE (.seq (cL aqF 0 Y3) (sq oz .ret))))
def Dl:bA:=⟨3,74,ZA,[.tmp 6]⟩
def fI:=bP [3,5] Proofs.Tryz.f20
def apT:=aA fI 0
def apU:=aA fI 1
def GA:=aA fI 2
def NT:=aA fI 3
def apV:=aA fI 4
def apW:=aA fI 5
def apX:=aA fI 6
def apY:=aA fI 7
def apZ:=bY fI 0
def aqA:=aA fI 8
def Yo:=bY fI 1
def Yp:=bY fI 2
def Yq:=aA fI 9
def Yr:=aA fI 10
def Ys:=bY fI 3
def Yt:=bY fI 4
def Yu:=aA fI 11
def oq:aC:=(dS Yr 87 2 Yu (dq Ys (.draw Yt)))
def Yv:=aA fI 12
def Yn:aC:=(dS apY 59 0 Yv (.seq (dq apZ (.cond (Tm 72) (sq aqA .ret) .skip)) (.seq (dq Yo (.draw Yp)) (cL Yq 2 oq))))
def Yw:=aA fI 13
def Yx:=aA fI 14
def Yy:=bY fI 5
def Yz:=bY fI 6
def Y0:=aA fI 15
def ot:aC:=(dS Yx 109 4 Y0 (dq Yy (.draw Yz)))
def Y1:=aA fI 16
def Y2:=aA fI 17
def YY:aC:=(sq apT (sq apU (dN GA 49 NT (sq apV (sq apW (.seq (cL apX 0 Yn) (.seq (cL Yw 4 ot) (sq Y1 (sq Y2 .ret)))))))))
def Dk:bA:=⟨3,135,YY,[.tmp 6]⟩
def rW:=bP [10,19,25,60] Proofs.Tryz.f11
def L9:=aA rW 0
def Ma:=aA rW 1
def Mb:=aA rW 2
def bf:=aA rW 3
def Mc:=aA rW 4
def Md:=aA rW 5
def Me:=aA rW 6
def MT:aC:=(sq L9 (sq Ma (sq Mb (sq bf (sq Mc (sq Md (sq Me .ret)))))))
def aeI:bA:=⟨0,70,MT,[.tmp 0]⟩
def gV:=bP [3,22,36,41,56] Proofs.Tryz.f24
def aeJ:=aA gV 0
def aeK:=aA gV 1
def aeL:=aA gV 2
def aeM:=aA gV 3
def aeN:=bY gV 0
def aeO:=bY gV 1
def aeP:=aA gV 4
def aeQ:=aA gV 5
def aeR:=aA gV 6
def aeS:=aA gV 7
def Mf:=aA gV 8
def bg:aC:=(dS aeR 29 2 Mf (.region aeS))
def bk:=aA gV 9
def bn:=aA gV 10
def bi:aC:=(dS aeM 14 0 bn (.seq (dq aeN (.draw aeO)) (sq aeP (.seq (cL aeQ 2 bg) (.region bk)))))
def Mg:=aA gV 11
def Mh:=aA gV 12
def Mi:=bY gV 2
def Mj:=bY gV 3
def Mk:=aA gV 13
def bj:aC:=(dS Mh 48 4 Mk (dq Mi (.draw Mj)))
def Ml:=aA gV 14
def UE:aC:=(sq aeJ (sq aeK (.seq (cL aeL 0 bi) (.seq (cL Mg 4 bj) (sq Ml .ret)))))
def aAG:bA:=⟨2,60,UE,[.cell 4 (some 3)]⟩
def pN:=bP [] Proofs.Tryz.f5
def aeT:=aA pN 0
def aeU:=aA pN 1
def aeV:=aA pN 2
def aeW:=aA pN 3
def aeX:=bY pN 0
def aeY:=bY pN 1
def aeZ:=aA pN 4
def afA:=aA pN 5
def afB:=aA pN 6
def UF:aC:=(sq aeT (sq aeU (sq aeV (sq aeW (.seq (dq aeX (.draw aeY)) (sq aeZ (sq afA (sq afB .ret))))))))
def N8:bA:=⟨2,50,UF,[.tmp 4]⟩
def yR(H:PH)(s:Nat)(q:Nat)(v:PV)(rows:List (List PV)):Prop:=
 ∃rs e,v=.osl q s e rows.length∧H q=some (.rows s rs)∧e+Z' rows≤Z' rs∧(rs.drop e).take rows.length=rows
section
variable {H:PH} {s b q:Nat} {v y:PV} {rows src:List (List PV)}
theorem yR.ext{H':PH}(h:yR H s q v rows)(A:∀x,H q=some x→H' q=some x):yR H' s q v rows:=by
 obtain⟨rs,e,j,l,u,w⟩:=h;exact⟨rs,e,j,A _ l,u,w⟩
theorem yR.tail{r:List PV}(h:yR H s q v (r::rows)):∃v',PV.slice s v 1 ((Z' rows+1:Nat):Int) none=some v'∧yR H s q v' rows:=by
 obtain⟨rs,e,rfl,l,u,j⟩:=h;rw[a5P]at u j;refine⟨.osl q s (e+1) rows.length,?_,rs,e+1,rfl,l,by omega,?_⟩
 ·unfold PV.slice;show(if s=s∧(0:Int)≤1∧(1:Int)≤((Z' rows+1:Nat):Int)∧((Z' rows+1:Nat):Int)≤((r::rows).length:Nat)∧((none:Option Int)=none∨(none:Option Int)=some ((Z' rows+1:Nat):Int))then some (PV.osl q s (e+(1:Int).toNat) (((Z' rows+1:Nat):Int).toNat-(1:Int).toNat))else none)=_;rw[aL ⟨rfl,by omega,by omega,by rw[a5P];omega,.inl rfl⟩];rfl
 ·have:=congrArg (List.drop 1) j;rw[List.drop_take,List.drop_drop,Nat.add_sub_cancel]at this;exact this
theorem yR.append{K:PV→PH→Prop}(h:yR H s q v rows)(R:fY H s y=some src)(O:roomFor rows.length src.length b)
  (N:∀J v' H',yR H' s J v' (rows++src)→(J=q∨H J=none)→(∀o x,o≠q→H o=some x→H' o=some x)→(∀o,o≠J→H o=none→H' o=none)→K v' H'):pC H s b v y K:=by
 obtain⟨rs,j,rfl,M,I,E⟩:=h;have A:(rows++src).length=Z' rows+Z' src:=a3Z;have F:∀j,j+Z' rows≤Z' rs→(rs.drop j).take rows.length=rows→K (.osl q s j (Z' rows+Z' src)) (H.set q (.rows s (rs.take (j+Z' rows)++src))):=λj I E=>by
  refine N q _ _ ⟨rs.take (j+Z' rows)++src,j,by rw[A],by simp only[aU,if_true],by rw[a3Z,a3Z,a4M];omega,?_⟩ (.inl rfl) (λo x l w=>by simp only[aU,aG l,w]) λo l w=>by simp only[aU,aG l,w]
  have e:(rs.take (j+Z' rows)).drop j=rows:=by rw[List.drop_take,Nat.add_sub_cancel_left,E]
  rw[List.drop_append_of_le_length (by rw[a4M];omega),e];exact a5F
 have B:∀o,H o=none→K (.osl o s 0 (Z' rows+Z' src)) (H.set o (.rows s (rows++src))):=λo w=>by
  refine N o _ _ ⟨rows++src,0,by rw[A],by simp only[aU,if_true],by omega,by rw[a5J,a5F]⟩ (.inr w) (λS x l u=>?_) λS l u=>by simp only[aU,aG l,u]
  have:S≠o:=by rintro rfl;rw[w]at u;cases u
  simp only[aU,aG this,u]
 cases j with
 |zero=>
  refine⟨src,R,rfl,rfl,O,rs,M,by omega,?_,λo w=>?_⟩
  ·have:=F 0 I E
   rwa[a4I]at this
  ·rw[a5J]at E;rw[E];exact B o w
 |succ j =>refine⟨src,R,rfl,O,rs,M,I,F _ I E,λo w=>?_⟩;rw[E];exact B o w
end
section
variable {C:Ctx} {F:PF} {H:PH}
theorem jc{name:Nat}{vs cs:List PV}{H0:PH}{R:PV→PH→Prop}{args:List aR}{d:Option Nat}{K:PF→PH→Prop}(h:aJ C name (vs++cs) H0 R)(j:aR.evs F args=some vs)(e:H0.le H)
  (l:∀r H',R r H'→oP H H0 H'→K (F.put d r) (H.over H0 H')):jX C name args cs d K F H:=
 .inl ⟨vs++cs,H0,R,by rw[j];rfl,e,h,l⟩
theorem aeF{name o:Nat}{x y:cD}{r:PV}{vs cs:List PV}{args:List aR}{d:Option Nat}{K:PF→PH→Prop}(h:aJ C name (vs++cs) (PH.nil.set o x) (λe H'=>e=r∧H'=PH.nil.set o y))(u:H o=some x)(j:aR.evs F args=some vs)
  (l:K (F.put d r) (H.set o y)):jX C name args cs d K F H:=by
 refine jc h j (e_ a_ u) ?_;rintro e H' ⟨rfl,rfl⟩ -;rw[PH.sI];exact l
theorem aeE{name:Nat}{vs cs:List PV}{args:List aR}{d:Option Nat}{K:PF→PH→Prop}{B1 B2:List BX}{L1 L2:List LI}{Q:PV→List BX→List LI→Prop}(h:aN H (B1++B2) (L1++L2))
  (u:∀H0,aN H0 B1 L1→aJ C name (vs++cs) H0 (λr H'=>∃B' L',Q r B' L'∧aN H' B' L')) (l:aR.evs F args=some vs)
  (w:∀r B' L' H',Q r B' L'→aN H' (B'++B2) (L'++L2)→K (F.put d r) H'):jX C name args cs d K F H:=by
 refine jc (u (H.only (fK B1++eR L1)) (h.only (a7W ..) (a7W ..))) l (dh H _) ?_;rintro r H' ⟨B',L',hq,j⟩ e;exact w r B' L' _ hq (h.frame j e)
theorem AC{name o:Nat}{x:cD}{r:PV}{vs cs:List PV}{args:List aR}{d:Option Nat}{K:PF→PH→Prop}(h:aJ C name (vs++cs) (PH.nil.set o x) (λu H'=>u=r∧H'=PH.nil.set o x))(e:H o=some x)(j:aR.evs F args=some vs)
  (l:K (F.put d r) H):jX C name args cs d K F H:=by
 refine aeF h e j ?_;rw[PH.aLA e];exact l
end
theorem AJ{l:List bR}{k:Nat}(h:k<Z' l):(l.map bR.cells)[k]?=some (l[k]).cells:=by simp[h]
abbrev tE(n:cH):cD:=.rows 4 [n.cells]
theorem aJK{C:Ctx}(n:cH)(o x:Nat)(l:x<n.nodes):RA.wp C (aV axK.res (λr H'=>r=.bool true∧H'=PH.nil.set o (tE n))) (PF.args [.int .i64 (x:Nat),.ptr o 4 0 0]) (PH.nil.set o (tE n)):=by
 have e:(0:Int)≤(x:Int):=Om;have j:(x:Int)<(n.nodes:Nat):=Om;simp only[go_sem,RA,V8,axK,V9,e,j];exact bD (vs:=[.bool true]) (.inr rfl) _ Ev (λ_ _ h=>h) ⟨rfl,rfl⟩
theorem aCN{C:Ctx}(y:∀(n:cH)(o x:Nat),x<n.nodes→aJ C 291 [.int .i64 (x:Nat),.ptr o 4 0 0] (PH.nil.set o (tE n)) (λr H'=>r=.bool true∧H'=PH.nil.set o (tE n)))(n:cH)(w:fD n) :
  KL.wp C (aV Wn.res (aK (.bool true))) (PF.args [.agg n.cells]) .nil:=by
 have a1:¬(n.nodes:Int)<2:=by have:=w.two;omega
 have a2:¬(n.nodes:Int)>700:=by have:=w.few;omega
 have a3:¬(Z' n.arcs:Int)>2500:=by have:=w.num;omega
 have a4:¬(n.source:Int)=n.sink:=by have:=w.apart;omega
 have M:=w.num;simp only[go_sem,KL,Hg,Wn];refine aQ λo N=>?_;simp only[go_sem,Hh,Hi,a1,a2,a3,a3V];refine AC (vs:=[.int .i64 (n.source:Nat)]) (cs:=[.ptr o 4 0 0]) (y n o n.source w.source) (by rw[bT]) Ev ?_;simp only[go_sem];refine AC (vs:=[.int .i64 (n.sink:Nat)]) (cs:=[.ptr o 4 0 0]) (y n o n.sink w.sink) (by rw[bT]) Ev ?_;simp only[go_sem,bJ a4,Hj,a3V];refine wp_loop (α:=Nat) (λk=>(((((PF.nil.set 1 (.ptr o 4 0 0)).set 3 (.fn 291 [.ptr o 4 0 0])).set 43 (Bm n.arcs)).set 44 (.int .i64 (Z' n.arcs:Nat))).set 45 (.int .i64 (k:Nat)))) (λ_=>PH.nil.set o (tE n)) (λk=>k≤Z' n.arcs) (λk=>Z' n.arcs-k) 0 (a4A _) Lq (λ_ _ h=>h) ?_;intro k J;simp only[go_sem,wg,Hk];by_cases hlt:k<Z' n.arcs
 ·have u:(k:Int)<(Z' n.arcs:Nat):=Om;obtain⟨F,I,K⟩:=w.ends _ (a3Y hlt);simp only[go_sem,u,Hl,AJ hlt];refine aQ λp A=>?_;have l:¬p=o:=λe=>by rw[e,bT]at A;cases A
  have j:¬o=p:=λe=>l e.symm;simp only[go_sem,l,j,Hm];refine AC (vs:=[.int .i64 ((n.arcs[k]).src:Nat)]) (cs:=[.ptr o 4 0 0]) (y n o _ F) (by simp only[go_sem,l,j]) Ev ?_;simp only[go_sem];refine AC (vs:=[.int .i64 ((n.arcs[k]).dst:Nat)]) (cs:=[.ptr o 4 0 0]) (y n o _ I) (by simp only[go_sem,l,j]) Ev ?_;have B:¬((n.arcs[k]).cap:Int)<0:=Om;have E:¬((n.arcs[k]).cap:Int)>2147483647:=Om;simp only[go_sem,l,j,B,E,Hn,wZz k];exact aH (k+1) hlt Om Lq (e_ a_ (by simp only[go_sem,l,j]))
 ·have u:¬(k:Int)<(Z' n.arcs:Nat):=Om;simp only[go_sem,u,wh];refine aT (.inr rfl) Ev ?_;rfl
structure b8(n:cH)(cut:List Bool):Prop where
 len:Z' cut=n.nodes
 src:cut.getD n.source false=true
 snk:cut.getD n.sink false=false
theorem Ei(S:Nat→Bool)(l:List bR){k:Nat}(h:k<Z' l):eD S (l.take (k+1))=eD S (l.take k)+if S (l[k]).src=true∧S (l[k]).dst=false then(l[k]).cap else 0:=by
 have e:∀(a b:List bR),eD S (a++b)=eD S a+eD S b:=by
  intro a
  induction a with
  |nil=>intro b;simp[eD]
  |cons x a j=>intro b;rw[a7L,eD,eD,j];omega
 rw[a5W h,e];simp[eD]
theorem Br(S:Nat→Bool){M:Nat}:∀{l:List bR},(∀a∈l,a.cap≤M)→eD S l≤Z' l*M
 |[],_=>a4A _
 |a::l,h=>by have e:=h a aW;have j:=Br S (l:=l) λb hb=>h b (by simp[hb]);rw[eD,a5P,a6D];split<;>omega
theorem Ej{n:cH}(e:fD n)(S:Nat→Bool)(k:Nat):eD S (n.arcs.take k)≤5368709117500:=by
 have w:=Br S (M:=2147483647) (l:=n.arcs.take k) λa u=>(e.ends a (List.mem_of_mem_take u)).2.2;have j:(n.arcs.take k).length≤2500:=a6T (by rw[a4M];omega) e.num;have x:(n.arcs.take k).length*2147483647≤2500*2147483647:=a4Z _ j;omega
theorem aPT{C:Ctx}(O:∀n:cH,fD n→aJ C 292 [.agg n.cells] .nil (aK (.bool true)))(n:cH)(u:fD n)(cut:List Bool)(l:b8 n cut) :
  XH.wp C (aV aIZ.res (aK (.tup [.int .i64 ((eD (λw=>cut.getD w false) n.arcs:Nat):Int),.bool true]))) (PF.args [.agg n.cells,kC cut]) .nil:=by
 have a1:(Z' cut:Int)=n.nodes:=by have:=l.len;omega
 have I:n.source<Z' cut:=by rw[l.len];exact u.source
 have J:n.sink<Z' cut:=by rw[l.len];exact u.sink
 have U:=u.num;have x:kC cut=.sl 1 (bC cut):=rfl;rw[x];simp only[go_sem,XH,alZ,aIZ,amA];refine aB (O n u) Ev ?_;simp only[go_sem,hJ,bW a1,fA I,fA J,l.src,l.snk,amB,amC,a3V];refine wp_loop (α:=Nat) (λk=>((((((PF.nil.set 1 (.sl 1 (bC cut))).set 2 (.bU n.cells)).set 6 (.int .i64 ((eD (λw=>cut.getD w false) (n.arcs.take k):Nat):Int))).set 35 (Bm n.arcs)).set 36 (.int .i64 (Z' n.arcs:Nat))).set 37 (.int .i64 (k:Nat)))) (λ_=>.nil) (λk=>k≤Z' n.arcs) (λk=>Z' n.arcs-k) 0 (a4A _) Lq a_ ?_;intro k R;simp only[go_sem,U8,amD];by_cases hlt:k<Z' n.arcs
 ·have j:(k:Int)<(Z' n.arcs:Nat):=Om;obtain⟨M,N,S⟩:=u.ends _ (a3Y hlt);have K:(n.arcs[k]).src<Z' cut:=by rw[l.len];exact M
  have B:(n.arcs[k]).dst<Z' cut:=by rw[l.len];exact N
  have y:=Ei (λw=>cut.getD w false) n.arcs hlt;have hb:=Ej u (λw=>cut.getD w false) (k+1);simp only[go_sem,j,amE,AJ hlt];refine aQ λp V=>?_;simp only[go_sem,amF,fA K,fA B];cases E:cut.getD (n.arcs[k]).src false with
  |false =>rw[aG (by rw[E];rintro⟨h,-⟩;cases h),a5H]at y;simp only[go_sem,c9,wZz k];exact aH (k+1) hlt Om (by(repeat' (first|exact c_|refine d_ ?_ ?_))<;>first|(simp only[go_sem,y]<;>rfl)|rfl) a_
  |true=>
   simp only[go_sem,fA B];cases F:cut.getD (n.arcs[k]).dst false with
   |true =>rw[aG (by rw[F];rintro⟨-,h⟩;cases h),a5H]at y;simp only[go_sem,c9,wZz k];exact aH (k+1) hlt Om (by(repeat' (first|exact c_|refine d_ ?_ ?_))<;>first|(simp only[go_sem,y]<;>rfl)|rfl) a_
   |false=>
    rw[aL ⟨E,F⟩]at y;have e:IntKind.i64.wrap (((eD (λw=>cut.getD w false) (n.arcs.take k):Nat):Int)+((n.arcs[k]).cap:Int))=((eD (λw=>cut.getD w false) (n.arcs.take (k+1)):Nat):Int):=by rw[wrap_i64 Om Om];omega
    simp only[go_sem,amG,e,c9,wZz k];exact aH (k+1) hlt Om Lq a_
 ·have j:¬(k:Int)<(Z' n.arcs:Nat):=Om;have A:n.arcs.take k=n.arcs:=a4N Om;simp only[go_sem,j,U9,A];refine aT (.inr rfl) Ev ?_;rfl
abbrev cV(N:Nat)(v:PV):cD:=.rows 4 [[.int .i64 (N:Nat),.int .i64 0,.int .i64 1,v]]
theorem aQB{C:Ctx}(o N x y z:Nat)(v:PV)(l:List bR)(F:Z' l≤1000000)(H:PH)(w:aN H [(o,cV N v)] [(v,4,l.map bR.cells)]) :
  XQ.wp C (aV aJO.res (λr H'=>∃(B':List BX)(L':List LI),(r=.tup []∧∃v',B'=[(o,cV N v')]∧L'=[(v',4,(l++[(⟨x,y,z⟩:bR)]).map bR.cells)])∧aN H' B' L')) (PF.args [.int .i64 (x:Nat),.int .i64 (y:Nat),.int .i64 (z:Nat),.ptr o 4 0 0]) H:=by
 have E:=w.at 0 rfl;simp only[go_sem,XQ,anJ,aJO,E];refine w.append 0 rfl (src:=[bR.cells ⟨x,y,z⟩]) rfl ?_ λv' H' u j=>?_
 ·unfold roomFor;rw[a3V,a4E];simp only[maxLen];omega
 obtain⟨q,hq⟩:=j aW;have e:=u.at 0 rfl;have B:=u.set 0 rfl (cV N v');generalize((l.map bR.cells++[bR.cells ⟨x,y,z⟩]).length)=len at hq;subst hq;simp only[go_sem,e];refine⟨H'.set o (cV N (.osl q 4 0 len)),aL (λx A=>by rw[a4X]at A;subst A;rfl),?_⟩;refine bD (vs:=[]) (.inl rfl) (H'.set o (cV N (.osl q 4 0 len))) rfl (λ_ _ h=>h) ⟨[(o,cV N (.osl q 4 0 len))],_,⟨rfl,_,rfl,rfl⟩,?_⟩;rw[a5L];exact B
def IV(n:Nat):List Nat→Option (List Nat)
 |[]=>none
 |x::t=>match IV n t with
  |some u=>some (x::u)
  |none=>if x+1+Z' t=n then none else some (List.range' (x+1) (Z' t+1))
theorem Hv{n:Nat}:∀{s u:List Nat},IV n s=some u→Z' u=Z' s
 |[],_,h=>by cases h
 |x::t,u,h=>by
  rw[IV]at h;split at h
  ·rename_i v e;cases h;simp[Hv e]
  ·split at h
   ·cases h
   ·cases h;simp
inductive jp (n:Nat):List Nat→List (List Nat)→Prop
 |last {s:List Nat} (h:IV n s=none):jp n s [s]
 |step {s t:List Nat} {l:List (List Nat)} (h:IV n s=some t) (w:jp n t l):jp n s (s::l)
theorem jp.map{n x k:Nat}{e:List (List Nat)}(y:(x+1+k=n∧e=[])∨(x+1+k≠n∧jp n (List.range' (x+1) (k+1)) e)){t:List Nat}{l:List (List Nat)}(w:jp n t l)(j:Z' t=k):jp n (x::t) (l.map (x::·)++e):=by
 induction w with
 |@last s h=>
  rcases y with⟨u,rfl⟩|⟨u,h2⟩
  ·exact .last (by rw[IV,h];simp only;rw[aL (by rw[j];exact u)])
  ·exact .step (by rw[IV,h];simp only;rw[aG (by rw[j];exact u),j]) h2
 |@step s t l h _ A=>exact .step (by rw[IV,h]) (A (by rw[Hv h,j]))
def aSW(f:aD)(p:eG)(d:Int):Bool:=p.a2H.contains ((mdl f d.toNat:Nat):Int)
def Wt(s:List Nat):List Int:=s.map λ(x:Nat)=>(x:Int)
def dK(g:Nat→Nat):Nat→Nat
 |0=>0
 |n+1=>dK g n+g n
theorem BD(g h:Nat→Nat):∀n,dK (λk=>g k+h k) n=dK g n+dK h n
 |0=>rfl
 |n+1=>by rw[dK,dK,dK,BD g h n];omega
theorem BE{g h:Nat→Nat}:∀{n:Nat},(∀k,k<n→g k≤h k)→dK g n≤dK h n
 |0,_=>a4B _
 |n+1,e=>by rw[dK,dK];exact Nat.add_le_add (BE λk j=>e k Om) (e n Om)
theorem fU{g h:Nat→Nat}:∀{n:Nat},(∀k,k<n→g k=h k)→dK g n=dK h n
 |0,_=>rfl
 |n+1,e=>by rw[dK,dK,fU (n:=n) λk j=>e k Om,e n Om]
theorem sT:∀n,dK (λ_=>0) n=0
 |0=>rfl
 |n+1=>by rw[dK,sT n]
theorem JF(g:Nat→Nat→Nat)(n:Nat):∀m,dK (λv=>dK (g v) n) m=dK (λd=>dK (λv=>g v d) m) n
 |0=>by rw[dK];exact(sT n).symm
 |m+1=>by rw[dK,JF g n m,←BD];rfl
theorem arB{g:Nat→Nat}:∀{n k:Nat},k<n→g k≤dK g n
 |0,_,h=>by omega
 |n+1,k,h=>by
  rw[dK];by_cases e:k=n
  ·subst e;omega
  ·have:=arB (g:=g) (n:=n) (k:=k) Om;omega
theorem SX(c:Nat)(g:Nat→Nat):∀n,dK (λk=>c*g k) n=c*dK g n
 |0=>rfl
 |n+1=>by rw[dK,dK,SX c g n,a4L]
def one(b:Bool):Nat:=if b=true then 1 else 0
theorem BT:one true=1:=rfl
theorem BS:one false=0:=rfl
def iU(p:Nat→Bool)(n:Nat):Nat:=dK (λk=>one (p k)) n
theorem sy(p:Nat→Bool):∀n,iU p n=(a3U n).countP p
 |0=>rfl
 |n+1=>by rw[a6N,List.countP_append,←sy p n,iU,dK];cases h:p n<;>simp[one,h,iU]
def cJ(f:aD)(v i:Nat):Nat:=if i=0 then 2+v else 2+Z' f.a2I+v*(Z' f.a2J-1)+i-1
def bG(f:aD)(d:Nat):Nat:=2+Z' f.a2I*Z' f.a2J+d
def fQ(f:aD)(v:Nat):Nat:=(qO f v).toNat
def vQ(f:aD)(v i:Nat):Nat:=if gZ f (cX f v) i=0 then fQ f v else(gZ f (cX f v) i).toNat
def SL(f:aD)(room:List Int)(d:Nat):Nat:=(qM f room d).toNat
def okD(f:aD)(v d:Nat):Bool:=aSW f (cX f v) d
def kW(f:aD)(v k:Nat):bR:=⟨cJ f v (kK f (k+1)),cJ f v (k+1),vQ f v (k+1)⟩
def eT(f:aD)(v d:Nat):bR:=⟨cJ f v (fR f d),bG f d,1⟩
def fV(f:aD)(v:Nat):List bR:=⟨0,2+v,fQ f v⟩::((a3U (Z' f.a2J-1)).map (kW f v)++((a3U f.a2G.length).filter (okD f v)).map (eT f v))
def oR(f:aD)(room:List Int)(d:Nat):bR:=⟨bG f d,1,SL f room d⟩
def eU(f:aD)(room:List Int):List bR:=(a3U f.a2I.length).flatMap (fV f)++(a3U f.a2G.length).map (oR f room)
def cW(f:aD)(room:List Int):cH:=⟨bG f f.a2G.length,0,1,eU f room⟩
def qT(f:aD):Nat:=dK (fQ f) f.a2I.length
theorem nD{f:aD}(h:VF f){v:Nat}(l:v<Z' f.a2I):fQ f v≤8∧1≤fQ f v∧(fQ f v:Int)=qO f v∧∀i,vQ f v i≤8:=by
 obtain⟨j,he⟩:=rT h l;have e:=h.a2T _ (a3Y j);rw[he]at e;have u:qO f v=(cX f v).k+(cX f v).m:=rfl;unfold vQ fQ;refine⟨by omega,by omega,by omega,λi=>?_⟩;have:=e.2.2.2.2.2.2.1 (lvl f i).toNat;unfold gZ;split<;>omega
theorem zT{f:aD}(h:VF f)(room:List Int){d:Nat}(e:d<Z' f.a2G):SL f room d≤16∧(SL f room d:Int)=qM f room d:=by
 have:=aEL h room e;unfold SL;omega
theorem kE{f:aD}(h:VF f){v i:Nat}(j:v<Z' f.a2I)(hi:i<Z' f.a2J):2≤cJ f v i∧cJ f v i<bG f 0:=by
 have u:=h.root.1;have e:(v+1)*(Z' f.a2J-1)≤Z' f.a2I*(Z' f.a2J-1):=a4Z _ j;rw[a6D]at e;have l:Z' f.a2I*Z' f.a2J=Z' f.a2I*(Z' f.a2J-1)+Z' f.a2I:=by
  conv=>lhs;rw[show f.a2J.length=(Z' f.a2J-1)+1 by omega,Nat.mul_succ]
 unfold cJ bG;split<;>omega
theorem adO(f:aD)(v:Nat):(fV f v).length≤Z' f.a2J+Z' f.a2G+1:=by
 unfold fV;rw[a5P,a3Z,a3V,a3V,a6M];have:=List.length_filter_le (okD f v) (a3U f.a2G.length);rw[a6M]at this;omega
theorem aJT(f:aD)(room:List Int):(eU f room).length≤Z' f.a2I*(Z' f.a2J+Z' f.a2G+1)+Z' f.a2G:=by
 unfold eU;rw[a3Z,a3V,a6M];have e:∀n,((a3U n).flatMap (fV f)).length≤n*(Z' f.a2J+Z' f.a2G+1):=by
  intro n
  induction n with
  |zero=>simp
  |succ n j =>rw[a6N,List.flatMap_append,a3Z,a6D];have:=adO f n;simp only[List.flatMap_cons,List.flatMap_nil,a5O];omega
 have:=e f.a2I.length;omega
theorem HC{f:aD}(h:VF f)(room:List Int):fD (cW f room):=by
 obtain⟨s1,s2,s3,s4,N,O⟩:=h.small;have I:bG f f.a2G.length=bG f 0+Z' f.a2G:=by unfold bG;omega
 have K:Z' f.a2I*Z' f.a2J≤12*40:=a7G Om Om;have A:=h.root.1;have hb:bG f 0=2+Z' f.a2I*Z' f.a2J:=rfl;refine⟨?_,?_,?_,?_,?_,(show(0:Nat)≠1 by decide),λa ha=>?_⟩
 ·show 2≤bG f f.a2G.length;omega
 ·show bG f f.a2G.length≤700;omega
 ·refine a6T (aJT f room) ?_;have:Z' f.a2I*(Z' f.a2J+Z' f.a2G+1)≤12*(40+24+1):=a7G Om Om;omega
 ·show 0<bG f f.a2G.length;omega
 ·show 1<bG f f.a2G.length;omega
 ·show a.src<bG f f.a2G.length∧a.dst<bG f f.a2G.length∧a.cap≤2147483647;have u:∀d,d<Z' f.a2G→bG f d<bG f f.a2G.length:=λd u=>by unfold bG;omega
  rcases a5E.1 (show a∈eU f room from ha)with ha|ha
  ·obtain⟨v,l,ha⟩:=List.mem_flatMap.1 ha;have l:=a4S.1 l;obtain⟨B,E,F,x⟩:=nD h l;rcases a4J.1 ha with rfl|ha
   ·have:=(kE h l A).2;simp only[cJ,if_true]at this;simp only;exact⟨by omega,by omega,by omega⟩
   ·rcases a5E.1 ha with ha|ha
    ·obtain⟨k,w,rfl⟩:=a4W.1 ha;have w:=a4S.1 w;have M:=(h.dom (k+1) Om Om).2.1;have y:=(kE h l (i:=kK f (k+1)) Om).2;have J:=(kE h l (i:=k+1) Om).2;have:=x (k+1);simp only[kW];exact⟨by omega,by omega,by omega⟩
    ·obtain⟨d,j,rfl⟩:=a4W.1 ha;have e:=a4S.1 (a7M.1 j).1;have y:=(kE h l (i:=fR f d) (h.drive d e).2.2.2.1).2;have:=u d e;simp only[eT];exact⟨by omega,this,by omega⟩
  ·obtain⟨d,j,rfl⟩:=a4W.1 ha;have e:=a4S.1 j;have:=u d e;have:=zT h room e;simp only[oR];exact⟨by omega,by omega,by omega⟩
def inD(f:aD)(i d:Nat):Bool:=decide (mT f d (lvl f i)=i)
structure yM(f:aD)(room:List Int)(u:Nat→Nat→Bool):Prop where
 num:∀v,v<Z' f.a2I→iU (u v) f.a2G.length=fQ f v
 ok:∀v d,v<Z' f.a2I→d<Z' f.a2G→u v d=true→okD f v d=true
 bound:∀v i,v<Z' f.a2I→0<i→i<Z' f.a2J→gZ f (cX f v) i≠0→iU (λd=>u v d&&inD f i d) f.a2G.length≤(gZ f (cX f v) i).toNat
 room:∀d,d<Z' f.a2G→iU (λv=>u v d) f.a2I.length≤SL f room d
theorem pO(S:Nat→Bool):∀l m:List bR,eD S (l++m)=eD S l+eD S m
 |[],m=>by simp[eD]
 |a::l,m=>by rw[a7L,eD,eD,pO S l m];omega
def kZ(S:Nat→Bool)(a:bR):Nat:=if S a.src=true∧S a.dst=false then a.cap else 0
theorem GM(S:Nat→Bool)(F:Nat→bR):∀n,eD S ((a3U n).map F)=dK (λk=>kZ S (F k)) n
 |0=>rfl
 |n+1=>by rw[a6N,a5L,pO,GM S F n,dK];rfl
theorem WA(S:Nat→Bool)(F:Nat→List bR):∀n,eD S ((a3U n).flatMap F)=dK (λk=>eD S (F k)) n
 |0=>rfl
 |n+1=>by rw[a6N,List.flatMap_append,pO,WA S F n,dK];simp
theorem JR(S:Nat→Bool)(F:Nat→bR)(p:Nat→Bool):∀n,eD S (((a3U n).filter p).map F)=dK (λk=>if p k=true then kZ S (F k)else 0) n
 |0=>rfl
 |n+1=>by rw[a6N,List.filter_append,a5L,pO,JR S F p n,dK];cases h:p n<;>simp[h,eD,kZ]
theorem ayE(a b:Bool)(h:a=true→b=true):one a≤one b:=by
 cases a<;>cases b<;>simp_all [one]
theorem apN(a b:Bool):one (a&&b)=one a*one b:=by cases a<;>cases b<;>rfl
theorem aAW{f:aD}(h:VF f){d:Nat}(x:d<Z' f.a2G)(S:Nat→Bool)(D:Nat→Nat)(w:S (D 0)=true):∀k,k≤4→S (D (upN f k (fR f d)))=false→∃i,0<i∧i<Z' f.a2J∧inD f i d=true∧S (D (kK f i))=true∧S (D i)=false:=by
 have u:upN f 4 (fR f d)=0:=by
  obtain⟨a,b⟩:=aa h x (k:=4) (a4B _);rcases a6C (upN f 4 (fR f d))with e|e
  ·exact e
  ·have:=(h.dom _ e a).2.2.2.1;omega
 intro k A j;obtain⟨m,E⟩:∃m,m=4-k:=⟨_,rfl⟩
 induction m generalizing k with
 |zero =>have:k=4:=Om;subst this;rw[u,w]at j;cases j
 |succ m B=>
  cases y:S (D (upN f (k+1) (fR f d)))with
  |false=>exact B (k+1) Om y Om
  |true=>
   obtain⟨a,b⟩:=aa h x A;have l:0<upN f k (fR f d):=by
    rcases a6C (upN f k (fR f d))with e|e
    ·rw[e,w]at j;cases j
    ·exact e
   refine⟨upN f k (fR f d),l,a,?_,y,j⟩;unfold inD mT;rw[b,decide_eq_true_eq];congr 1;omega
theorem yM.vol{f:aD}(h:VF f){room:List Int}{u:Nat→Nat→Bool}(A:yM f room u)(S:Nat→Bool)(K:S 0=true){v:Nat}(B:v<Z' f.a2I) :
  fQ f v≤eD S (fV f v)+dK (λd=>one (u v d)*one (S (bG f d))) f.a2G.length:=by
 have N:eD S (fV f v)=kZ S ⟨0,2+v,fQ f v⟩+(dK (λk=>kZ S (kW f v k)) (Z' f.a2J-1)+dK (λd=>if okD f v d=true then kZ S (eT f v d)else 0) f.a2G.length):=by unfold fV;rw[eD,pO,GM,JR];rfl
 rw[N];cases J:S (2+v)with
 |false=>
  have:kZ S ⟨0,2+v,fQ f v⟩=fQ f v:=by unfold kZ;simp[K,J]
  omega
 |true=>
  have j:S (cJ f v 0)=true:=J;have each:∀d,d<Z' f.a2G→one (u v d)≤one (u v d)*one (S (bG f d))+((if okD f v d=true then kZ S (eT f v d)else 0)+dK (λk=>one (u v d&&inD f (k+1) d)*one (S (cJ f v (kK f (k+1)))&&!S (cJ f v (k+1)))) (Z' f.a2J-1)):=by
   intro d F;cases R:u v d with
   |false=>exact a4A _
   |true=>
    have y:=A.ok v d B F R;cases M:S (bG f d)with
    |true=>rw[BT];omega
    |false=>
     cases E:S (cJ f v (fR f d))with
     |true=>
      have:kZ S (eT f v d)=1:=by unfold kZ eT;simp[M,E]
      rw[aL y,this,BT,BS];omega
     |false =>obtain⟨i,X,Y,U,V,W⟩:=aAW h F S (cJ f v) j 0 Om E;have I:=arB (g:=λk=>one (true&&inD f (k+1) d)*one (S (cJ f v (kK f (k+1)))&&!S (cJ f v (k+1)))) (n:=Z' f.a2J-1) (k:=i-1) Om;simp only[show i-1+1=i by omega,U,V,W,BT,Bool.and_self,a4O]at I;rw[BT,BS];omega
  have l:=A.num v B;have w:=BE (n:=Z' f.a2G) each;rw[BD,BD,JF]at w;have x:dK (λk=>dK (λd=>one (u v d&&inD f (k+1) d)*one (S (cJ f v (kK f (k+1)))&&!S (cJ f v (k+1)))) f.a2G.length) (Z' f.a2J-1)≤dK (λk=>kZ S (kW f v k)) (Z' f.a2J-1):=by
   refine BE λk I=>?_;have e:dK (λd=>one (u v d&&inD f (k+1) d)*one (S (cJ f v (kK f (k+1)))&&!S (cJ f v (k+1)))) f.a2G.length=one (S (cJ f v (kK f (k+1)))&&!S (cJ f v (k+1)))*iU (λd=>u v d&&inD f (k+1) d) f.a2G.length:=by unfold iU;rw[←SX];exact fU λd _=>a4Y _ _
   rw[e];unfold kZ kW;simp only;cases g1:S (cJ f v (kK f (k+1)))<;>cases g2:S (cJ f v (k+1))<;>simp only[BT,BS,a5I,a4F,a4O,a4H,Bool.and_self,a6Z,if_false,if_true,Nat.zero_mul,Nat.one_mul,and_false,false_and,and_self,a4B,a4A,reduceCtorEq];unfold vQ;split
   ·have:iU (λd=>u v d&&inD f (k+1) d) f.a2G.length≤iU (u v) f.a2G.length:=BE λd _=>ayE _ _ λh=>by rw[a4P]at h;exact h.1
    omega
   ·rename_i O;exact A.bound v (k+1) B Om Om O
  unfold iU at l;omega
theorem yM.cut{f:aD}(h:VF f){room:List Int}{u:Nat→Nat→Bool}(A:yM f room u)(S:Nat→Bool)(l:S 0=true)(w:S 1=false):qT f≤eD S (eU f room):=by
 unfold eU;rw[pO,WA,GM];have j:qT f≤dK (λv=>eD S (fV f v)+dK (λd=>one (u v d)*one (S (bG f d))) f.a2G.length) f.a2I.length:=BE λv y=>A.vol h S l y;rw[BD,JF]at j;have B:dK (λd=>dK (λv=>one (u v d)*one (S (bG f d))) f.a2I.length) f.a2G.length≤dK (λk=>kZ S (oR f room k)) f.a2G.length:=by
  refine BE λd x=>?_;have e:dK (λv=>one (u v d)*one (S (bG f d))) f.a2I.length=one (S (bG f d))*iU (λv=>u v d) f.a2I.length:=by unfold iU;rw[←SX];exact fU λv _=>a4Y _ _
  rw[e];have:=A.room d x;unfold kZ oR;simp only[w];cases S (bG f d)with
  |false=>simp[BS]
  |true=>simp[BT];exact this
 omega
def fO(g:Nat→Int):Nat→Int
 |0=>0
 |n+1=>fO g n+g n
theorem aaR(g h:Nat→Int):∀n,fO (λk=>g k+h k) n=fO g n+fO h n
 |0=>rfl
 |n+1=>by rw[fO,fO,fO,aaR g h n];omega
theorem fS{g h:Nat→Int}:∀{n:Nat},(∀k,k<n→g k=h k)→fO g n=fO h n
 |0,_=>rfl
 |n+1,e=>by rw[fO,fO,fS (n:=n) λk j=>e k Om,e n Om]
theorem pS:∀n,fO (λ_=>0) n=0
 |0=>rfl
 |n+1=>by rw[fO,pS n];rfl
theorem HL(g:Nat→Int)(a:Nat):∀{n:Nat},a<n→fO (λk=>if k=a then g k else 0) n=g a
 |0,h=>by omega
 |n+1,h=>by
  rw[fO];by_cases e:n=a
  ·subst e;rw[fS (h:=λ_=>0) (n:=n) λk j=>by rw[aG Om],pS,aL rfl];omega
  ·rw[HL g a (n:=n) Om,aG e];omega
theorem HK(g:Nat→Nat):∀n,fO (λk=>(g k:Int)) n=(dK g n:Int)
 |0=>rfl
 |n+1=>by rw[fO,dK,HK g n];simp
theorem qk(g:Nat→Int):∀n,fO (λk=>- g k) n=- fO g n
 |0=>rfl
 |n+1=>by rw[fO,fO,qk g n];omega
def kJ(a:bR)(x:Nat)(w:Nat):Int:=(if a.src=w then(x:Int)else 0)-(if a.dst=w then(x:Int)else 0)
theorem EF(w:Nat):∀{l:List bR}{xs:List Nat}(m:List bR)(e:List Nat),Z' l=Z' xs→hZ (l++m) (xs++e) w=hZ l xs w+hZ m e w
 |[],[],m,e,_=>by simp[hZ]
 |[],_::_,_,_,h=>by simp at h
 |_::_,[],_,_,h=>by simp at h
 |a::l,x::xs,m,e,h=>by rw[a7L,a7L,hZ,hZ,EF w m e (by simpa using h)];omega
theorem C1(w:Nat)(L:List Nat)(F:Nat→bR)(y:Nat→Nat):hZ (L.map F) (L.map y) w=(L.map λk=>kJ (F k) (y k) w).sum:=by
 induction L with
 |nil=>rfl
 |cons a L e=>rw[a5D,a5D,hZ,e,a5D,List.sum_cons];rfl
theorem ZP(g:Nat→Int):∀n,((a3U n).map g).sum=fO g n
 |0=>rfl
 |n+1=>by rw[a6N,a5L,List.sum_append,ZP g n,fO];simp
theorem yl(g:Nat→Int)(p:Nat→Bool):∀n,(((a3U n).filter p).map g).sum=fO (λk=>if p k=true then g k else 0) n
 |0=>rfl
 |n+1=>by rw[a6N,List.filter_append,a5L,List.sum_append,yl g p n,fO];cases h:p n<;>simp[h]
theorem Xd(w:Nat)(F:Nat→List bR)(X:Nat→List Nat):∀n,(∀v,v<n→(F v).length=(X v).length)→hZ ((a3U n).flatMap F) ((a3U n).flatMap X) w=fO (λv=>hZ (F v) (X v) w) n
 |0,_=>rfl
 |n+1,h=>by
  have j:((a3U n).flatMap F).length=((a3U n).flatMap X).length:=by rw[List.length_flatMap,List.length_flatMap];congr 1;exact a6A λv e=>h v (by have:=a4S.1 e;omega)
  rw[a6N,List.flatMap_append,List.flatMap_append,EF w _ _ j,Xd w F X n λv e=>h v Om,fO];simp
theorem QB:∀{L:List Nat}{Y:List Nat},L.Nodup→Z' Y=Z' L→∃h:Nat→Nat,Y=L.map h
 |[],[],_,_=>⟨λ_=>0,rfl⟩
 |[],_::_,_,h=>by simp at h
 |_::_,[],_,h=>by simp at h
 |a::L,y::Y,x,w=>by obtain⟨j,l⟩:=List.nodup_cons.1 x;obtain⟨h,rfl⟩:=QB l (show Y.length=L.length by simpa using w);refine⟨λd=>if d=a then y else h d,?_⟩;rw[a5D];refine List.cons_eq_cons.2 ⟨(aL rfl).symm,a6A λd u=>?_⟩;have:¬d=a:=λe=>j (by rw[←e];exact u);exact(aG this).symm
theorem P0(F:Nat→List bR):∀(n:Nat)(xs:List Nat),Z' xs=((a3U n).flatMap F).length→∃X:Nat→List Nat,xs=(a3U n).flatMap X∧∀v,v<n→(X v).length=(F v).length
 |0,xs,h=>⟨λ_=>[],by
   have:xs=[]:=by simpa using h
   rw[this];rfl,λv j=>by omega⟩
 |n+1,xs,h=>by
  rw[a6N,List.flatMap_append,a3Z]at h;have l:([n].flatMap F).length=(F n).length:=by simp
  rw[l]at h;obtain⟨X,u,w⟩:=P0 F n (xs.take ((a3U n).flatMap F).length) (by rw[a4M];omega);refine⟨λv=>if v=n then xs.drop ((a3U n).flatMap F).length else X v,?_,λv j=>?_⟩
  ·rw[a6N,List.flatMap_append];have e:(a3U n).flatMap (λv=>if v=n then xs.drop ((a3U n).flatMap F).length else X v)=(a3U n).flatMap X:=by rw[List.flatMap_def,List.flatMap_def];congr 1;exact a6A λv j=>by rw[aG (by have:=a4S.1 j;omega)]
   rw[e,←u];simp
  ·by_cases e:v=n
   ·subst e;simp only[if_true];rw[a5M];omega
   ·simp only[aG e];exact w v Om
def vC(f:aD)(s:Nat→Nat)(g h:Nat→Nat→Nat)(v:Nat):List Nat:=s v::((a3U (Z' f.a2J-1)).map (g v)++((a3U f.a2G.length).filter (okD f v)).map (h v))
def sZ(f:aD)(s:Nat→Nat)(g h:Nat→Nat→Nat)(t:Nat→Nat):List Nat:=(a3U f.a2I.length).flatMap (vC f s g h)++(a3U f.a2G.length).map t
theorem BI(f:aD)(s:Nat→Nat)(g h:Nat→Nat→Nat)(v:Nat):(fV f v).length=(vC f s g h v).length:=by
 unfold fV vC;simp
theorem tc(f:aD)(room:List Int){xs:List Nat}(y:Z' xs=(eU f room).length):∃s g h t,xs=sZ f s g h t:=by
 unfold eU at y;rw[a3Z,a3V,a6M]at y;obtain⟨X,B,x⟩:=P0 (fV f) f.a2I.length (xs.take ((a3U f.a2I.length).flatMap (fV f)).length) (by rw[a4M];omega);obtain⟨t,I⟩:=QB (L:=a3U f.a2G.length) (Y:=xs.drop ((a3U f.a2I.length).flatMap (fV f)).length) List.nodup_range (by rw[a5M,a6M];omega);have each:∀v,v<Z' f.a2I→∃s0 g0 w,X v=s0::((a3U (Z' f.a2J-1)).map g0++((a3U f.a2G.length).filter (okD f v)).map w):=by
  intro v u;have j:=x v u;unfold fV at j;rw[a5P,a3Z,a3V,a3V,a6M]at j;cases A:X v with
  |nil=>rw[A]at j;simp at j
  |cons s0 Y =>rw[A,a5P]at j;obtain⟨g0,E⟩:=QB (L:=a3U (Z' f.a2J-1)) (Y:=Y.take (Z' f.a2J-1)) List.nodup_range (by rw[a4M,a6M];omega);obtain⟨w,F⟩:=QB (L:=(a3U f.a2G.length).filter (okD f v)) (Y:=Y.drop (Z' f.a2J-1)) (List.nodup_range.filter _) (by rw[a5M];omega);exact⟨s0,g0,w,by rw[←E,←F,a6W]⟩
 have l:∀v,∃q:Nat × (Nat→Nat) × (Nat→Nat),v<Z' f.a2I→X v=q.1::((a3U (Z' f.a2J-1)).map q.2.1++((a3U f.a2G.length).filter (okD f v)).map q.2.2):=λv=>by
  by_cases u:v<Z' f.a2I
  ·obtain⟨a,b,c,e⟩:=each v u;exact⟨(a,b,c),λ_=>e⟩
  ·exact⟨(0,λ_=>0,λ_=>0),λh=>absurd h u⟩
 refine⟨λv=>(Classical.choose (l v)).1,λv=>(Classical.choose (l v)).2.1,λv=>(Classical.choose (l v)).2.2,t,?_⟩;unfold sZ;rw[←I];have e:(a3U f.a2I.length).flatMap (vC f (λv=>(Classical.choose (l v)).1) (λv=>(Classical.choose (l v)).2.1) (λv=>(Classical.choose (l v)).2.2))=(a3U f.a2I.length).flatMap X:=by rw[List.flatMap_def,List.flatMap_def];congr 1;exact a6A λv u=>(Classical.choose_spec (l v) (a4S.1 u)).symm
 rw[e,←B,a6W]
theorem uN{f:aD}{v i v' j:Nat}(F:v<Z' f.a2I)(y:v'<Z' f.a2I)(hi:i<Z' f.a2J)(x:j<Z' f.a2J)(e:cJ f v i=cJ f v' j):v=v'∧i=j:=by
 unfold cJ at e;split at e<;>split at e
 ·omega
 ·omega
 ·omega
 ·rename_i B E;have l:0<Z' f.a2J-1:=Om;have w:v*(Z' f.a2J-1)+(i-1)=v'*(Z' f.a2J-1)+(j-1):=Om;have u:(v*(Z' f.a2J-1)+(i-1))/(Z' f.a2J-1)=v:=by rw[a4Y,Nat.mul_add_div l,a7D Om,a5H]
  have A:(v'*(Z' f.a2J-1)+(j-1))/(Z' f.a2J-1)=v':=by rw[a4Y,Nat.mul_add_div l,a7D Om,a5H]
  rw[w,A]at u;subst u;exact⟨rfl,by omega⟩
theorem df(f:aD)(s:Nat→Nat)(g h:Nat→Nat→Nat)(v w:Nat):hZ (fV f v) (vC f s g h v) w=kJ ⟨0,2+v,fQ f v⟩ (s v) w+(fO (λk=>kJ (kW f v k) (g v k) w) (Z' f.a2J-1)+fO (λd=>if okD f v d=true then kJ (eT f v d) (h v d) w else 0) f.a2G.length):=by
 unfold fV vC;rw[hZ,EF _ _ _ aW,C1,C1,ZP,yl];rfl
theorem np(f:aD)(room:List Int)(s:Nat→Nat)(g h:Nat→Nat→Nat)(t:Nat→Nat)(w:Nat):hZ (eU f room) (sZ f s g h t) w=fO (λv=>hZ (fV f v) (vC f s g h v) w) f.a2I.length+fO (λd=>kJ (oR f room d) (t d) w) f.a2G.length:=by
 unfold eU sZ;rw[EF,Xd _ _ _ _ λv _=>BI f s g h v,C1,ZP];rw[List.length_flatMap,List.length_flatMap];congr 1;exact a6A λv _=>BI f s g h v
theorem axV{f:aD}(hV:VF f)(room:List Int)(s:Nat→Nat)(g h:Nat→Nat→Nat)(t:Nat→Nat):hZ (eU f room) (sZ f s g h t) 0=(dK s f.a2I.length:Nat):=by
 rw[np,←HK];have l:fO (λd=>kJ (oR f room d) (t d) 0) f.a2G.length=0:=by rw[fS (h:=λ_=>0) λd j=>?_,pS];unfold kJ oR bG;simp only;rw[aG Om,aG Om];rfl
 rw[l,Int.add_zero];refine fS λv e=>?_;rw[df];have u:fO (λk=>kJ (kW f v k) (g v k) 0) (Z' f.a2J-1)=0:=by rw[fS (h:=λ_=>0) λk A=>?_,pS];have x:=(kE hV e (i:=kK f (k+1)) (by have:=(hV.dom (k+1) Om Om).2.1;omega)).1;have y:=(kE hV e (i:=k+1) Om).1;unfold kJ kW;simp only;rw[aG Om,aG Om];rfl
 have w:fO (λd=>if okD f v d=true then kJ (eT f v d) (h v d) 0 else 0) f.a2G.length=0:=by
  rw[fS (h:=λ_=>0) λd j=>?_,pS];have x:=(kE hV e (i:=fR f d) (hV.drive d j).2.2.2.1).1;have z:kJ (eT f v d) (h v d) 0=0:=by unfold kJ eT bG;simp only;rw[aG Om,aG Om];rfl
  rw[z];split<;>rfl
 rw[u,w];unfold kJ;simp only;rw[aL trivial,aG Om];omega
theorem aQG{f:aD}(hV:VF f)(room:List Int)(s:Nat→Nat)(g h:Nat→Nat→Nat)(t:Nat→Nat){v i:Nat}(j:v<Z' f.a2I)(hi:i<Z' f.a2J) :
  hZ (eU f room) (sZ f s g h t) (cJ f v i)=fO (λk=>if kK f (k+1)=i then(g v k:Int)else 0) (Z' f.a2J-1)+fO (λd=>if okD f v d=true∧fR f d=i then(h v d:Int)else 0) f.a2G.length-(if i=0 then(s v:Int)else(g v (i-1):Int)):=by
 obtain⟨S,B⟩:=kE hV j hi;rw[np];have M:fO (λd=>kJ (oR f room d) (t d) (cJ f v i)) f.a2G.length=0:=by rw[fS (h:=λ_=>0) λd u=>?_,pS];unfold kJ oR;unfold bG at B ⊢;simp only;rw[aG Om,aG Om];rfl
 have N:fO (λv'=>hZ (fV f v') (vC f s g h v') (cJ f v i)) f.a2I.length=hZ (fV f v) (vC f s g h v) (cJ f v i):=by
  have:=HL (λv'=>hZ (fV f v') (vC f s g h v') (cJ f v i)) v j;rw[←this];refine fS λv' l=>?_;by_cases e:v'=v
  ·rw[aL e]
  rw[aG e,df];have a1:kJ ⟨0,2+v',fQ f v'⟩ (s v') (cJ f v i)=0:=by have O:cJ f v' 0≠cJ f v i:=λh=>e (uN l j hV.root.1 hi h).1;have y:2+v'≠cJ f v i:=O;unfold kJ;simp only;rw[aG Om,aG y];rfl
  have a2:fO (λk=>kJ (kW f v' k) (g v' k) (cJ f v i)) (Z' f.a2J-1)=0:=by rw[fS (h:=λ_=>0) λk A=>?_,pS];have R:=(hV.dom (k+1) Om Om).2.1;unfold kJ kW;simp only;rw[aG λh=>e (uN l j Om hi h).1,aG λh=>e (uN l j Om hi h).1];rfl
  have a3:fO (λd=>if okD f v' d=true then kJ (eT f v' d) (h v' d) (cJ f v i)else 0) f.a2G.length=0:=by
   rw[fS (h:=λ_=>0) λd u=>?_,pS];have z:kJ (eT f v' d) (h v' d) (cJ f v i)=0:=by unfold kJ eT;simp only;rw[aG λh=>e (uN l j (hV.drive d u).2.2.2.1 hi h).1,aG (show ¬bG f d=cJ f v i by unfold bG at B ⊢;omega)];rfl
   rw[z];split<;>rfl
  rw[a1,a2,a3];rfl
 rw[M,N,Int.add_zero,df];have E:kJ ⟨0,2+v,fQ f v⟩ (s v) (cJ f v i)=- if i=0 then(s v:Int)else 0:=by
  unfold kJ;simp only;rw[aG Om];by_cases e:i=0
  ·subst e;rw[aL rfl,aL (show 2+v=cJ f v 0 from rfl)];omega
  ·have:¬2+v=cJ f v i:=λh=>e ((uN j j hV.root.1 hi (show cJ f v 0=cJ f v i from h)).2).symm;rw[aG e,aG this];rfl
 have F:fO (λk=>kJ (kW f v k) (g v k) (cJ f v i)) (Z' f.a2J-1)=fO (λk=>if kK f (k+1)=i then(g v k:Int)else 0) (Z' f.a2J-1)-(if i=0 then 0 else(g v (i-1):Int)):=by
  have w:fO (λk=>if k+1=i then(g v k:Int)else 0) (Z' f.a2J-1)=if i=0 then 0 else(g v (i-1):Int):=by
   by_cases e:i=0
   ·subst e;rw[aL rfl,fS (h:=λ_=>0) λk A=>by rw[aG Om],pS]
   ·rw[aG e,←HL (λk=>(g v k:Int)) (i-1) (n:=Z' f.a2J-1) Om];refine fS λk A=>?_;by_cases c:k+1=i
    ·rw[aL c,aL Om]
    ·rw[aG c,aG Om]
  have:fO (λk=>kJ (kW f v k) (g v k) (cJ f v i)) (Z' f.a2J-1)=fO (λk=>(if kK f (k+1)=i then(g v k:Int)else 0)+- (if k+1=i then(g v k:Int)else 0)) (Z' f.a2J-1):=by refine fS λk A=>?_;have R:=(hV.dom (k+1) Om Om).2.1;unfold kJ kW;simp only;have x:cJ f v (kK f (k+1))=cJ f v i↔kK f (k+1)=i:=⟨λh=>(uN j j Om hi h).2,λh=>by rw[h]⟩;have K:cJ f v (k+1)=cJ f v i↔k+1=i:=⟨λh=>(uN j j Om hi h).2,λh=>by rw[h]⟩;simp only[x,K];omega
  rw[this,aaR,qk,w];rfl
 have I:fO (λd=>if okD f v d=true then kJ (eT f v d) (h v d) (cJ f v i)else 0) f.a2G.length=fO (λd=>if okD f v d=true∧fR f d=i then(h v d:Int)else 0) f.a2G.length:=by refine fS λd u=>?_;have x:cJ f v (fR f d)=cJ f v i↔fR f d=i:=⟨λh=>(uN j j (hV.drive d u).2.2.2.1 hi h).2,λh=>by rw[h]⟩;unfold kJ eT;simp only[x];rw[aG (show ¬bG f d=cJ f v i by unfold bG at B ⊢;omega)];by_cases w:okD f v d=true<;>by_cases J:fR f d=i<;>simp[w,J]
 rw[E,F,I];split<;>omega
theorem aQH{f:aD}(hV:VF f)(room:List Int)(s:Nat→Nat)(g h:Nat→Nat→Nat)(t:Nat→Nat){d:Nat}(x:d<Z' f.a2G) :
  hZ (eU f room) (sZ f s g h t) (bG f d)=(t d:Int)-fO (λv=>if okD f v d=true then(h v d:Int)else 0) f.a2I.length:=by
 rw[np];have u:∀v i,v<Z' f.a2I→i<Z' f.a2J→cJ f v i≠bG f d:=λv i l hi e=>by have:=(kE hV l hi).2;unfold bG at this e;omega
 have y:fO (λj=>kJ (oR f room j) (t j) (bG f d)) f.a2G.length=(t d:Int):=by
  rw[←HL (λj=>(t j:Int)) d x];refine fS λj _=>?_;unfold kJ oR bG;simp only;rw[aG (Om:¬1=2+Z' f.a2I*Z' f.a2J+d)];by_cases e:j=d
  ·rw[aL e,aL Om];omega
  ·rw[aG e,aG Om];rfl
 have A:fO (λv=>hZ (fV f v) (vC f s g h v) (bG f d)) f.a2I.length=fO (λv=>- (if okD f v d=true then(h v d:Int)else 0)) f.a2I.length:=by
  refine fS λv l=>?_;rw[df];have a1:kJ ⟨0,2+v,fQ f v⟩ (s v) (bG f d)=0:=by have B:2+v≠bG f d:=u v 0 l hV.root.1;unfold kJ;simp only;rw[aG (by unfold bG;omega),aG B];rfl
  have a2:fO (λk=>kJ (kW f v k) (g v k) (bG f d)) (Z' f.a2J-1)=0:=by rw[fS (h:=λ_=>0) λk E=>?_,pS];have F:=(hV.dom (k+1) Om Om).2.1;unfold kJ kW;simp only;rw[aG (u v _ l Om),aG (u v _ l Om)];rfl
  have a3:fO (λj=>if okD f v j=true then kJ (eT f v j) (h v j) (bG f d)else 0) f.a2G.length=- (if okD f v d=true then(h v d:Int)else 0):=by
   have:=HL (λj=>- (if okD f v j=true then(h v j:Int)else 0)) d x;rw[←this];refine fS λj w=>?_;unfold kJ eT;simp only;rw[aG (u v _ l (hV.drive j w).2.2.2.1)];by_cases e:j=d
   ·subst e;rw[aL rfl,aL rfl];split<;>omega
   ·rw[aG (show ¬bG f j=bG f d by unfold bG;omega),aG e];split<;>rfl
  rw[a1,a2,a3];omega
 rw[y,A,qk];omega
theorem auS{f:aD}(h:VF f){d:Nat}(e:d<Z' f.a2G):mT f d 4=fR f d:=by
 unfold mT;rfl
theorem aLH{f:aD}(h:VF f){d i:Nat}(l:d<Z' f.a2G)(hi:i<Z' f.a2J):one (inD f i d)=dK (λk=>one (decide (kK f (k+1)=i)&&inD f (k+1) d)) (Z' f.a2J-1)+one (decide (fR f d=i)):=by
 have N:=h.Gb hi;have I:=h.drive d l;by_cases c:lvl f i=4
 ·have j:dK (λk=>one (decide (kK f (k+1)=i)&&inD f (k+1) d)) (Z' f.a2J-1)=0:=by
   rw[fU (h:=λ_=>0) λk A=>?_,sT];obtain⟨g1,g2,g3,g4,F⟩:=h.dom (k+1) Om Om;have:¬kK f (k+1)=i:=λe=>by rw[e]at g3;omega
   rw[cF this,a4F];rfl
  rw[j,a4I];unfold inD;rw[c,auS h l]
 ·have j:¬fR f d=i:=λe=>c (by rw[←e];exact I.2.2.2.2);obtain⟨a1,a2⟩:=sk h l (lev:=lvl f i+1) Om Om;have M:0<mT f d (lvl f i+1):=by
   rcases a6C (mT f d (lvl f i+1))with e|e
   ·rw[e,h.root.2.1]at a2;omega
   ·exact e
  have J:kK f (mT f d (lvl f i+1))=mT f d (lvl f i):=by unfold mT;rw[show 4-(lvl f i).toNat=(4-(lvl f i+1).toNat)+1 by omega,upN]
  rw[cF j,show one false=0 from rfl,a5H];have B:∀k,k<Z' f.a2J-1→one (decide (kK f (k+1)=i)&&inD f (k+1) d)=if k=mT f d (lvl f i+1)-1 then one (inD f i d)else 0:=by
   intro k A;obtain⟨g1,g2,g3,g4,F⟩:=h.dom (k+1) Om Om;by_cases e:k=mT f d (lvl f i+1)-1
   ·rw[aL e];have y:k+1=mT f d (lvl f i+1):=Om;have t:inD f (k+1) d=true:=by unfold inD;rw[y,a2,decide_eq_true_eq]
    rw[t,a5Z,y,J];rfl
   ·rw[aG e];by_cases w:kK f (k+1)=i
    ·have:inD f (k+1) d=false:=by unfold inD;rw[decide_eq_false_iff_not];intro E;rw[w]at g3;rw[show lvl f (k+1)=lvl f i+1 by omega]at E;omega
     rw[this,a5I];rfl
    ·rw[cF w,a4F];rfl
  rw[fU B];have u:∀(n a x:Nat),a<n→dK (λk=>if k=a then x else 0) n=x:=by
   intro n
   induction n with
   |zero=>intro a x h;omega
   |succ n K=>
    intro a x h;rw[dK];by_cases e:n=a
    ·subst e;rw[fU (h:=λ_=>0) λk A=>by rw[aG Om],sT,aL rfl];omega
    ·rw[K a x Om,aG e];rfl
  rw[u _ _ _ Om]
structure aNS(f:aD)(room:List Int)(s:Nat→Nat)(g h:Nat→Nat→Nat)(t:Nat→Nat):Prop where
 s:∀v,v<Z' f.a2I→s v≤fQ f v
 g:∀v k,v<Z' f.a2I→k<Z' f.a2J-1→g v k≤vQ f v (k+1)
 h:∀v d,v<Z' f.a2I→d<Z' f.a2G→okD f v d=true→h v d≤1
 t:∀d,d<Z' f.a2G→t d≤SL f room d
theorem XD{l m:List bR}{xs u:List Nat}(w:Z' l=Z' xs)(h:∀(i:Nat) a x,(l++m)[i]?=some a→(xs++u)[i]?=some x→x≤a.cap) :
  (∀(i:Nat) a x,l[i]?=some a→xs[i]?=some x→x≤a.cap)∧∀(i:Nat) a x,m[i]?=some a→u[i]?=some x→x≤a.cap:=by
 constructor
 ·intro i a x e j;have y:=(a5A.1 e).1;exact h i a x (by rw[a5U y];exact e) (by rw[a5U Om];exact j)
 ·intro i a x e j;exact h (Z' l+i) a x (by rw[a5V Om,Nat.add_sub_cancel_left];exact e) (by rw[a5V Om,w,Nat.add_sub_cancel_left];exact j)
theorem Ub{L:List Nat}{F:Nat→bR}{y:Nat→Nat}(h:∀(i:Nat) a x,(L.map F)[i]?=some a→(L.map y)[i]?=some x→x≤a.cap):∀k∈L,y k≤(F k).cap:=by
 intro k e;obtain⟨i,hi,rfl⟩:=a5R e;exact h i _ _ (by rw[a4Q,a4C hi];rfl) (by rw[a4Q,a4C hi];rfl)
theorem alO{F:Nat→List bR}{X:Nat→List Nat}:∀{n:Nat},(∀v,v<n→(F v).length=(X v).length)→(∀(i:Nat) a x,((a3U n).flatMap F)[i]?=some a→((a3U n).flatMap X)[i]?=some x→x≤a.cap)→∀v,v<n→∀(i:Nat) a x,(F v)[i]?=some a→(X v)[i]?=some x→x≤a.cap
 |0,_,_,v,l=>by omega
 |n+1,u,h,v,l=>by
  rw[a6N,List.flatMap_append,List.flatMap_append]at h;have j:((a3U n).flatMap F).length=((a3U n).flatMap X).length:=by rw[List.length_flatMap,List.length_flatMap];congr 1;exact a6A λv l=>u v (by have:=a4S.1 l;omega)
  obtain⟨w,y⟩:=XD j h;by_cases e:v=n
  ·subst e;simpa using y
  ·exact alO (λv l=>u v Om) w v Om
theorem aKJ{f:aD}{room:List Int}{s:Nat→Nat}{g h:Nat→Nat→Nat}{t:Nat→Nat}(l:∀(i:Nat) a x,(eU f room)[i]?=some a→(sZ f s g h t)[i]?=some x→x≤a.cap):aNS f room s g h t:=by
 unfold eU sZ at l;have u:((a3U f.a2I.length).flatMap (fV f)).length=((a3U f.a2I.length).flatMap (vC f s g h)).length:=by rw[List.length_flatMap,List.length_flatMap];congr 1;exact a6A λv _=>BI f s g h v
 obtain⟨A,B⟩:=XD u l;have E:=alO (λv _=>BI f s g h v) A;have F:=Ub B;have each:∀v,v<Z' f.a2I→s v≤fQ f v∧(∀k,k<Z' f.a2J-1→g v k≤vQ f v (k+1))∧∀d,d<Z' f.a2G→okD f v d=true→h v d≤1:=by intro v e;have h5:=E v e;unfold fV vC at h5;refine⟨h5 0 _ _ rfl rfl,?_⟩;have I:∀(i:Nat) a x,((a3U (Z' f.a2J-1)).map (kW f v)++((a3U f.a2G.length).filter (okD f v)).map (eT f v))[i]?=some a→((a3U (Z' f.a2J-1)).map (g v)++((a3U f.a2G.length).filter (okD f v)).map (h v))[i]?=some x→x≤a.cap:=λi a x J M=>h5 (i+1) a x (by simpa using J) (by simpa using M);obtain⟨h7,h8⟩:=XD aW I;exact⟨λk w=>Ub h7 k (a4S.2 w),λd j y=>Ub h8 d (a7M.2 ⟨a4S.2 j,y⟩)⟩
 exact⟨λv e=>(each v e).1,λv k e w=>(each v e).2.1 k w,λv d e j K=>(each v e).2.2 d j K,λd j=>F d (a4S.2 j)⟩
def oT(f:aD)(h:Nat→Nat→Nat)(v d:Nat):Bool:=okD f v d&&decide (h v d≠0)
theorem P2{f:aD}(hV:VF f){room:List Int}{s:Nat→Nat}{g h:Nat→Nat→Nat}{t:Nat→Nat}(M:jM (cW f room) (sZ f s g h t))(y:(qT f:Int)≤kM (cW f room) (sZ f s g h t)):yM f room (oT f h):=by
 have P:=aKJ M.le;have I:∀v,v<Z' f.a2I→s v=fQ f v:=by
  have u:kM (cW f room) (sZ f s g h t)=(dK s f.a2I.length:Nat):=axV hV room s g h t;rw[u]at y;have B:qT f≤dK s f.a2I.length:=Om;clear y u;unfold qT at B;have F:=P.s;generalize f.a2I.length=n at *
  induction n with
  |zero=>intro v j;omega
  |succ n K=>
   rw[dK,dK]at B;have Y:=F n Om;have Z:dK s n≤dK (fQ f) n:=BE λv j=>F v Om;intro v j;by_cases e:v=n
   ·subst e;omega
   ·exact K Om (λv j=>F v Om) v Om
 have nodes:∀w,2≤w→w<bG f f.a2G.length→hZ (eU f room) (sZ f s g h t) w=0:=λw u B=>M.node w B (by show w≠0;omega) (by show w≠1;omega);have x:∀v d,v<Z' f.a2I→d<Z' f.a2G→one (oT f h v d)=if okD f v d=true then h v d else 0:=by
  intro v d j l;unfold oT;cases W:okD f v d with
  |false=>rfl
  |true=>
   have:=P.h v d j l W;simp only[a4K,if_true];by_cases e:h v d=0
   ·rw[e];rfl
   ·rw[cB e];have:h v d=1:=Om;rw[this];rfl
 have below:∀v,v<Z' f.a2I→∀(m i:Nat),Z' f.a2J-i=m→i<Z' f.a2J→(if i=0 then s v else g v (i-1))=iU (λd=>oT f h v d&&inD f i d) f.a2G.length:=by
  intro v j m
  induction m using Nat.strongRecOn with
  |ind m K=>
   intro i N hi;have A:=nodes (cJ f v i) (kE hV j hi).1 (by have:=(kE hV j hi).2;unfold bG at this ⊢;omega);rw[aQG hV room s g h t j hi]at A;have E:fO (λk=>if kK f (k+1)=i then(g v k:Int)else 0) (Z' f.a2J-1)=(dK (λk=>if kK f (k+1)=i then iU (λd=>oT f h v d&&inD f (k+1) d) f.a2G.length else 0) (Z' f.a2J-1):Nat):=by
    rw[←HK];refine fS λk V=>?_;by_cases c:kK f (k+1)=i
    ·have hp:=(hV.dom (k+1) Om Om).2.1;have:=K (Z' f.a2J-(k+1)) Om (k+1) rfl Om;rw[aG Om,Nat.add_sub_cancel]at this;rw[aL c,aL c,this]
    ·rw[aG c,aG c];rfl
   have S:fO (λd=>if okD f v d=true∧fR f d=i then(h v d:Int)else 0) f.a2G.length=(dK (λd=>one (oT f h v d)*one (decide (fR f d=i))) f.a2G.length:Nat):=by rw[←HK];refine fS λd l=>?_;rw[x v d j l];by_cases O:okD f v d=true<;>by_cases R:fR f d=i<;>simp[O,R,BT,BS]
   have U:iU (λd=>oT f h v d&&inD f i d) f.a2G.length=dK (λk=>if kK f (k+1)=i then iU (λd=>oT f h v d&&inD f (k+1) d) f.a2G.length else 0) (Z' f.a2J-1)+dK (λd=>one (oT f h v d)*one (decide (fR f d=i))) f.a2G.length:=by
    have a1:iU (λd=>oT f h v d&&inD f i d) f.a2G.length=dK (λd=>dK (λk=>one (oT f h v d)*one (decide (kK f (k+1)=i)&&inD f (k+1) d)) (Z' f.a2J-1)+one (oT f h v d)*one (decide (fR f d=i))) f.a2G.length:=by unfold iU;refine fU λd l=>?_;rw[apN,aLH hV l hi,a4L,SX]
    rw[a1,BD,JF];congr 1;refine fU λk V=>?_;by_cases c:kK f (k+1)=i
    ·rw[aL c,cB c];unfold iU;exact fU λd _=>by rw[a4K];exact(apN _ _).symm
    ·rw[aG c,cF c,fU (h:=λ_=>0) λd _=>by rw[a4F];rfl,sT]
   rw[E,S]at A;rw[U];split<;>rename_i c
   ·rw[aL c]at A;omega
   ·rw[aG c]at A;omega
 have root:∀d,d<Z' f.a2G→inD f 0 d=true:=λd l=>by
  unfold inD;rw[hV.root.2.1,decide_eq_true_eq];obtain⟨a,b⟩:=sk hV l (lev:=0) Om Om;rcases a6C (mT f d 0)with e|e
  ·exact e
  ·have:=(hV.dom _ e a).2.2.2.1;omega
 refine⟨λv j=>?_,λv d j l J=>?_,λv i j X hi N=>?_,λd l=>?_⟩
 ·have:=below v j _ 0 rfl hV.root.1;rw[aL rfl,I v j]at this;rw[this];unfold iU;exact fU λd l=>by show one _=one (oT f h v d&&inD f 0 d);rw[root d l,a5Z]
 ·unfold oT at J;rw[a4P]at J;exact J.1
 ·have:=below v j _ i rfl hi;rw[aG Om]at this;rw[←this];have u:=P.g v (i-1) j Om;rw[show i-1+1=i by omega]at u;unfold vQ at u;rw[aG N]at u;exact u
 ·have A:=nodes (bG f d) (by unfold bG;omega) (by unfold bG;omega);rw[aQH hV room s g h t l]at A;have E:fO (λv=>if okD f v d=true then(h v d:Int)else 0) f.a2I.length=(iU (λv=>oT f h v d) f.a2I.length:Nat):=by unfold iU;rw[←HK];refine fS λv j=>?_;rw[x v d j l];split<;>rfl
  rw[E]at A;have:=P.t d l;omega
theorem dw{f:aD}{p:eG}{v:Nat}{row:List Int}:aw f p v row=[]↔(∀i,i<Z' row→0≤row.getD i 0)∧(∀d,d<Z' f.a2G→row.count (d:Int)≤1)∧(∀i,i<Z' row→0≤row.getD i 0→p.a2H.contains ((mdl f (row.getD i 0).toNat:Nat):Int)=true)∧∀i,i<Z' f.a2J→gZ f p i>0→Bu f row i≤gZ f p i:=by
 have e:∀d,d<Z' f.a2G→(O6 f.a2G.length row).getD d 0=(row.count (d:Int):Nat):=λd h=>by simp[O6,a4D,h]
 have j:∀i,i<Z' f.a2J→(avL f row).getD i 0=Bu f row i:=λi h=>by simp[avL,a4D,h]
 unfold aw;rw[List.append_eq_nil_iff,List.append_eq_nil_iff,List.append_eq_nil_iff,wT,wT,wT,wT,and_assoc,and_assoc];refine and_congr ?_ (and_congr ?_ (and_congr ?_ ?_))
 ·refine forall_congr' λi=>forall_congr' λhi=>?_;unfold home;rw[decide_eq_false_iff_not];omega
 ·refine forall_congr' λd=>forall_congr' λl=>?_;unfold aNP;rw[e d l,decide_eq_false_iff_not];omega
 ·refine forall_congr' λi=>forall_congr' λhi=>?_;unfold w9;by_cases c:0≤row.getD i 0<;>simp[c]
 ·refine forall_congr' λi=>forall_congr' λhi=>?_;unfold aNG;rw[j i hi,Bool.and_eq_false_iff,decide_eq_false_iff_not,decide_eq_false_iff_not];omega
theorem adG{f:aD}(j:dX f=true){l:List (List Int)}(u:xC f l)(room:List Int):CI f l room=true↔(∀v (h:v<Z' l),aw f (cX f v) v l[v]=[])∧∀d,d<Z' f.a2G→((l.flatten.count (d:Int):Nat):Int)≤qM f room d:=by
 rw[aBX j u.len];refine and_congr ?_ ?_
 ·unfold avS;rw[List.flatMap_eq_nil_iff];constructor
  ·intro h v j;have:=h v (a4S.2 j);unfold aKF at this;rw[u.shape j]at this;have e:l.getD v []=l[v]:=by simp[a4D,j]
   rw[e]at this;exact this
  ·intro h v A;have j:=a4S.1 A;unfold aKF;rw[u.shape j];have e:l.getD v []=l[v]:=by simp[a4D,j]
   simp only;rw[e];exact h v j
 ·refine forall_congr' λd=>forall_congr' λw=>?_;have x:(Ul f l).getD d 0=(l.flatten.count (d:Int):Nat):=by simp[Ul,O6,a4D,w]
  have y:(nP f room).getD d 0=qM f room d:=by simp[nP,a4D,w]
  unfold over;rw[x,y,decide_eq_false_iff_not];omega
theorem count_flatten(d:Int):∀l:List (List Int),l.flatten.count d=dK (λv=>(l.getD v []).count d) l.length:=by
 intro l;obtain⟨r,rfl⟩:∃r,l=List.reverse r:=⟨l.reverse,by simp⟩
 induction r with
 |nil=>rfl
 |cons x r j=>
  rw[List.reverse_cons,List.flatten_append,List.count_append,j,a3Z,a4E,dK];congr 1
  ·refine fU λv e=>?_;rw[a4D,a4D,a5U e]
  ·rw[a4D,a5V (a4B _)];simp
theorem ZF{n:Nat}{row:List Int}(u:∀x∈row,0≤x∧x<n)(J:∀d:Nat,d<n→row.count (d:Int)≤1)(p:Int→Bool):row.countP p=iU (λd=>row.contains (d:Int)&&p d) n:=by
 have E:∀m:Nat,row.countP (λx=>decide (x<(m:Int))&&p x)=iU (λd=>row.contains (d:Int)&&p d) (min m n):=by
  intro m
  induction m with
  |zero =>rw[Nat.zero_min];show _=0;rw[List.countP_eq_zero];intro x l;have:=(u x l).1;simp only[a4P,decide_eq_true_eq];omega
  |succ m A=>
   by_cases c:m<n
   ·rw[a6G Om]at A ⊢;have e:row.countP (λx=>decide (x<((m+1:Nat):Int))&&p x)=row.countP (λx=>decide (x<(m:Int))&&p x)+row.countP (λx=>decide (x=(m:Int))&&p x):=by
     clear A J u
     induction row with
     |nil=>rfl
     |cons y t B=>
      rw[List.countP_cons,List.countP_cons,List.countP_cons,B];have:((if(decide (y<((m+1:Nat):Int))&&p y)=true then 1 else 0):Nat)=(if(decide (y<(m:Int))&&p y)=true then 1 else 0)+(if(decide (y=(m:Int))&&p y)=true then 1 else 0):=by
       cases p y with
       |false=>simp
       |true=>
        simp only[a5Z,decide_eq_true_eq];by_cases F:y<(m:Int)
        ·rw[aL F,aL Om,aG Om]
        ·rw[aG F];by_cases I:y=(m:Int)
         ·rw[aL I,aL Om]
         ·rw[aG I,aG Om]
      omega
    rw[e,A,iU,iU,dK];congr 1;have K:=J m c;by_cases j:p m=true
    ·have:row.countP (λx=>decide (x=(m:Int))&&p x)=row.count (m:Int):=by unfold List.count;refine List.countP_congr λx _=>?_;simp only[a4P,decide_eq_true_eq,beq_iff_eq];exact⟨λh=>h.1,λh=>⟨h,by rw[h];exact j⟩⟩
     rw[this,j,a5Z];by_cases w:(m:Int)∈row
     ·have M:=List.count_pos_iff.2 w;have h5:row.contains (m:Int)=true:=by simpa using w
      rw[h5,BT];omega
     ·have h5:row.contains (m:Int)=false:=by simpa using w
      rw[h5,BS,List.count_eq_zero_of_not_mem w]
    ·have j:p m=false:=by simpa using j
     rw[j,a5I,BS,List.countP_eq_zero];intro x l;simp only[a4P,decide_eq_true_eq];rintro⟨rfl,h⟩;rw[j]at h;cases h
   ·have e:row.countP (λx=>decide (x<((m+1:Nat):Int))&&p x)=row.countP (λx=>decide (x<(m:Int))&&p x):=by refine List.countP_congr λx l=>?_;have:=u x l;simp only[a4P,decide_eq_true_eq];exact⟨λh=>⟨by omega,h.2⟩,λh=>⟨by omega,h.2⟩⟩
    rw[e,A,Nat.min_eq_right Om,Nat.min_eq_right Om]
 have:=E n;rw[Nat.min_self]at this;rw[←this];refine List.countP_congr λx l=>?_;have:=u x l;simp only[a4P,decide_eq_true_eq];exact⟨λh=>⟨by omega,h⟩,λh=>h.2⟩
theorem Fu(f:aD)(i d:Nat):PX f i (d:Int)=inD f i d:=by
 unfold PX inD;rw[cB (Om:(0:Int)≤(d:Int)),a4K,a6U]
def jr(l:List (List Int))(v d:Nat):Bool:=(l.getD v []).contains (d:Int)
theorem aPO{f:aD}(V:dX f=true){l:List (List Int)}(I:xC f l){room:List Int}(h:CI f l room=true):yM f room (jr l):=by
 have hV:=VF.of V;obtain⟨y,A⟩:=(adG V I room).1 h;have O:∀v,v<Z' f.a2I→∃row,l.getD v []=row∧(∀x∈row,0≤x∧x<(Z' f.a2G:Nat))∧(∀d:Nat,d<Z' f.a2G→row.count (d:Int)≤1)∧aw f (cX f v) v row=[]∧(Z' row:Int)=qO f v:=by
  intro v j;have u:v<Z' l:=by rw[I.len];exact j
  have e:l.getD v []=l[v]:=by simp[a4D,u]
  obtain⟨a1,a2,-,-⟩:=dw.1 (y v u);refine⟨l[v],e,λx W=>?_,a2,y v u,I.row v u⟩;obtain⟨i,hi,rfl⟩:=a5R W;have:=a1 i hi;have g:l[v].getD i 0=l[v][i]:=by simp[a4D,hi]
  rw[g]at this;exact⟨this,(I.home _ (a3Y u) _ W).2⟩
 refine⟨λv j=>?_,λv d j N R=>?_,λv i j h0 hi U=>?_,λd N=>?_⟩
 ·obtain⟨row,e,E,B,F,J⟩:=O v j;have:=ZF E B λ_=>true;rw[List.countP_true]at this;unfold jr fQ;rw[←J,a6U,this,e];unfold iU;exact fU λd _=>by dsimp only;rw[a5Z]
 ·obtain⟨row,e,E,B,F,J⟩:=O v j;obtain⟨-,-,a3,-⟩:=dw.1 F;unfold jr at R;rw[e]at R;have U:(d:Int)∈row:=by simpa using R
  obtain⟨i,hi,he⟩:=a5R U;have g:row.getD i 0=(d:Int):=by simp[a4D,hi,he]
  have:=a3 i hi (by rw[g];omega);rw[g]at this;exact this
 ·obtain⟨row,e,E,B,F,J⟩:=O v j;obtain⟨-,-,-,a4⟩:=dw.1 F;obtain⟨hp,he⟩:=rT hV j;have w:=hV.a2T _ (a3Y hp);rw[he]at w;have Z:0≤gZ f (cX f v) i:=(w.2.2.2.2.2.2.1 _).1;have K:=a4 i hi Om;have h5:=ZF E B (PX f i);unfold Bu at K;rw[aG Om,h5]at K;have Y:iU (λd=>row.contains (d:Int)&&PX f i d) f.a2G.length=iU (λd=>jr l v d&&inD f i d) f.a2G.length:=by unfold iU jr;rw[e];exact fU λd _=>by dsimp only;rw[Fu]
  rw[Y]at K;omega
 ·have S:=A d N;rw[count_flatten,I.len]at S;have X:dK (λv=>(l.getD v []).count (d:Int)) f.a2I.length=iU (λv=>jr l v d) f.a2I.length:=by
   unfold iU jr;refine fU λv j=>?_;obtain⟨row,e,E,B,F,J⟩:=O v j;dsimp only;rw[e];by_cases M:(d:Int)∈row
   ·have K:=List.count_pos_iff.2 M;have h5:row.contains (d:Int)=true:=by simpa using M
    have:=B d N;rw[h5,BT];omega
   ·have h5:row.contains (d:Int)=false:=by simpa using M
    rw[h5,BS,List.count_eq_zero_of_not_mem M]
  rw[X]at S;have:=zT hV room N;omega
def sK(f:aD)(u:Nat→Nat→Bool)(v:Nat):List Int:=Wt ((a3U f.a2G.length).filter (u v))
def xM(f:aD)(u:Nat→Nat→Bool):List (List Int):=(a3U f.a2I.length).map (sK f u)
theorem Zx(f:aD)(u:Nat→Nat→Bool)(v:Nat){d:Nat}(j:d<Z' f.a2G):(sK f u v).contains (d:Int)=u v d:=by
 refine Bool.eq_iff_iff.2 ?_;simp only[a7T];unfold sK Wt;rw[a4W];constructor
 ·rintro⟨e,he,h⟩;have:e=d:=Om;subst this;exact(a7M.1 he).2
 ·intro h;exact⟨d,a7M.2 ⟨a4S.2 j,h⟩,rfl⟩
theorem dp(f:aD)(u:Nat→Nat→Bool)(v:Nat):(∀x∈sK f u v,0≤x∧x<(Z' f.a2G:Nat))∧(sK f u v).Nodup∧(sK f u v).length=iU (u v) f.a2G.length:=by
 refine⟨λx l=>?_,?_,?_⟩
 ·obtain⟨d,j,rfl⟩:=a4W.1 l;have:=a4S.1 (a7M.1 j).1;omega
 ·exact List.Pairwise.map _ (λa b h e=>h Om) (List.nodup_range.filter (u v))
 ·unfold sK Wt;rw[a3V,sy,List.countP_eq_length_filter]
theorem aNV{f:aD}(O:dX f=true){room:List Int}{u:Nat→Nat→Bool}(A:yM f room u):xC f (xM f u)∧CI f (xM f u) room=true:=by
 have hV:=VF.of O;have y:(xM f u).length=Z' f.a2I:=by unfold xM;rw[a3V,a6M]
 have J:∀v (h:v<(xM f u).length),(xM f u)[v]=sK f u v:=λv h=>(a6E _).trans (by rw[List.getElem_range]);have N:xC f (xM f u):=by
  refine⟨y,λv h=>?_,λr W x I=>?_⟩
  ·have j:v<Z' f.a2I:=by rw[←y];exact h
   rw[J v h,(dp f u v).2.2,A.num v j,(nD hV j).2.2.1]
  ·obtain⟨v,-,rfl⟩:=a4W.1 W;have:=(dp f u v).1 x I;omega
 refine⟨N,(adG O N room).2 ⟨λv h=>?_,λd l=>?_⟩⟩
 ·have j:v<Z' f.a2I:=by rw[←y];exact h
  rw[J v h];obtain⟨B,E,S⟩:=dp f u v;have K:∀i (h:i<(sK f u v).length),(sK f u v).getD i 0=(sK f u v)[i]:=λi h=>by simp[a4D,h]
  refine dw.2 ⟨λi hi=>?_,λd l=>List.nodup_iff_count.1 E _,λi hi X=>?_,λi hi Z=>?_⟩
  ·rw[K i hi];exact(B _ (a3Y hi)).1
  ·rw[K i hi];have I:=a3Y hi;have hb:=B _ I;obtain⟨d,l,he⟩:=a4W.1 I;have w:=a7M.1 l;have:=A.ok v d j (a4S.1 w.1) w.2;rw[←he];exact this
  ·by_cases R:i=0
   ·unfold Bu;rw[aL R];omega
   ·unfold Bu;rw[aG R,ZF B (λd _=>List.nodup_iff_count.1 E _) (PX f i)];have h5:=A.bound v i j Om hi Om;have V:iU (λd=>(sK f u v).contains (d:Int)&&PX f i d) f.a2G.length=iU (λd=>u v d&&inD f i d) f.a2G.length:=by unfold iU;exact fU λd l=>by dsimp only;rw[Zx f u v l,Fu]
    rw[V];omega
 ·rw[count_flatten,y];have U:dK (λv=>((xM f u).getD v []).count (d:Int)) f.a2I.length=iU (λv=>u v d) f.a2I.length:=by
   unfold iU;refine fU λv j=>?_;have e:(xM f u).getD v []=sK f u v:=by rw[a4D,a4C (by rw[y];exact j),a6R,J]
   dsimp only;rw[e];obtain⟨B,E,S⟩:=dp f u v;have M:=Zx f u v l;by_cases F:(d:Int)∈sK f u v
   ·have Y:=List.count_pos_iff.2 F;have h5:(sK f u v).contains (d:Int)=true:=by simpa using F
    have:=List.nodup_iff_count.1 E (d:Int);rw[←M,h5,BT];omega
   ·have h5:(sK f u v).contains (d:Int)=false:=by simpa using F
    rw[←M,h5,BS,List.count_eq_zero_of_not_mem F]
  rw[U];have h7:=A.room d l;have:=zT hV room l;omega
def GG(f:aD)(room:List Int):Prop:=∃u,yM f room u
theorem aHO{f:aD}(e:dX f=true){room:List Int}:GG f room↔∃l,xC f l∧CI f l room=true:=
 ⟨λ⟨_,A⟩=>⟨_,aNV e A⟩,λ⟨_,j,h⟩=>⟨_,aPO e j h⟩⟩
theorem Er{f:aD}(hV:VF f){room:List Int}{xs:List Nat}(e:jM (cW f room) xs){S:Nat→Bool}(j:S 0=true)(l:S 1=false)(x:kM (cW f room) xs=eD S (eU f room)):(qT f:Int)≤kM (cW f room) xs↔GG f room:=by
 constructor
 ·intro h;obtain⟨s,g,w,t,rfl⟩:=tc f room e.len;exact⟨_,P2 hV e h⟩
 ·rintro⟨u,A⟩;have:=A.cut hV S j l;omega
theorem ayY{f:aD}(hV:VF f)(room:List Int):eD (λw=>decide (w=0)) (eU f room)=qT f:=by
 unfold eU;rw[pO,WA,GM];have l:dK (λk=>kZ (λw=>decide (w=0)) (oR f room k)) f.a2G.length=0:=by rw[fU (h:=λ_=>0) λd e=>?_,sT];unfold kZ oR bG;simp
 rw[l,a5H];refine fU λv j=>?_;unfold fV;rw[eD,pO,GM,JR];have u:dK (λk=>kZ (λw=>decide (w=0)) (kW f v k)) (Z' f.a2J-1)=0:=by rw[fU (h:=λ_=>0) λk A=>?_,sT];have y:=(kE hV j (i:=kK f (k+1)) (by have:=(hV.dom (k+1) Om Om).2.1;omega)).1;unfold kZ kW;simp only;rw[aG λh=>by have:=of_decide_eq_true h.1;omega]
 have x:dK (λd=>if okD f v d=true then kZ (λw=>decide (w=0)) (eT f v d)else 0) f.a2G.length=0:=by
  rw[fU (h:=λ_=>0) λd e=>?_,sT];have y:=(kE hV j (i:=fR f d) (hV.drive d e).2.2.2.1).1;have z:kZ (λw=>decide (w=0)) (eT f v d)=0:=by unfold kZ eT;simp only;rw[aG λh=>by have:=of_decide_eq_true h.1;omega]
  rw[z];split<;>rfl
 rw[u,x];simp
theorem aUI{f:aD}(hV:VF f){room:List Int}{xs:List Nat}(e:jM (cW f room) xs):kM (cW f room) xs≤qT f:=by
 have:=e.aCB (HC hV room) (S:=λw=>decide (w=0)) rfl rfl;rw[show eD (λw=>decide (w=0)) (cW f room).arcs=qT f from ayY hV room]at this;exact this

def EV(f:aD)(a:bR):Nat:=(a.src-2-Z' f.a2I)/(Z' f.a2J-1)
def YW(f:aD)(v:Nat)(a:bR)(x:Nat):Bool:=decide (bG f 0≤a.dst)&&(decide (x≠0)&&decide (EV f a=v))
def zQ(f:aD)(v:Nat)(a:bR)(x:Nat):List Int:=if YW f v a x=true then[((a.dst-bG f 0:Nat):Int)]else[]
def nS(f:aD)(v:Nat):List bR→List Nat→List Int
 |a::l,x::xs=>zQ f v a x++nS f v l xs
 |_,_=>[]
def KD(f:aD)(l:List bR)(xs:List Nat):List (List Int):=(a3U f.a2I.length).map λv=>nS f v l xs
theorem uV(f:aD)(v:Nat):∀{u:List bR}{w:List Nat}(e:List bR)(j:List Nat),Z' u=Z' w→nS f v (u++e) (w++j)=nS f v u w++nS f v e j
 |[],[],e,j,_=>rfl
 |a::l,x::xs,e,j,h=>by rw[a7L,a7L,nS,nS,uV f v e j (by simpa using h),a5C]
theorem JC{α:Type}(f:aD)(v:Nat)(a:α→bR)(x:α→Nat):∀(L:List α),nS f v (L.map a) (L.map x)=L.flatMap λk=>zQ f v (a k) (x k)
 |[]=>rfl
 |k::L=>by rw[a5D,a5D,nS,JC f v a x L,List.flatMap_cons]
theorem flatMap_nil{α β:Type}{g:α→List β}:∀{L:List α},(∀k∈L,g k=[])→L.flatMap g=[]
 |[],_=>rfl
 |k::L,h=>by rw[List.flatMap_cons,h k aW,flatMap_nil λj e=>h j (by simp[e])];rfl
theorem ff{β:Type}{R:List β}{v:Nat}:∀{n:Nat},v<n→((a3U n).flatMap λk=>if k=v then R else[])=R
 |0,h=>by omega
 |n+1,h=>by
  rw[a6N,List.flatMap_append];by_cases e:v=n
  ·subst e;rw[flatMap_nil λk j=>aG (by have:=a4S.1 j;omega)];simp
  ·rw[ff (n:=n) Om];simp[show n≠v by omega]
theorem oj{f:aD}{v:Nat}{a:bR}{x:Nat}(h:a.dst<bG f 0):zQ f v a x=[]:=by
 unfold zQ YW;rw[cF Om,a4F];rfl
theorem zl{f:aD}(h:VF f){v d:Nat}(j:d<Z' f.a2G):EV f (eT f v d)=v:=by
 have w:=(h.drive d j).2.2.2;have x:=w.2;have y:=h.root;have l:fR f d≠0:=λe=>by have u:=(h.drive d j).2.2.2.2;rw[e]at u;have:=y.2.1;omega
 have hlt:fR f d<Z' f.a2J:=by have:=(h.drive d j).2.2;omega
 unfold EV eT cJ;simp only;rw[aG l,show 2+Z' f.a2I+v*(Z' f.a2J-1)+fR f d-1-2-Z' f.a2I=(fR f d-1)+v*(Z' f.a2J-1) by omega,Nat.add_mul_div_right _ _ Om,a7D Om,a4I]
theorem aRD{f:aD}(h:VF f)(s:Nat→Nat)(g l:Nat→Nat→Nat){v w:Nat}(A:w<Z' f.a2I):nS f v (fV f w) (vC f s g l w)=if w=v then sK f (oT f l) v else[]:=by
 unfold fV vC;rw[nS,oj (by have:=kE h A h.root.1;simp only[cJ,if_true]at this;exact this.2),a7C,uV _ _ _ _ aW,JC,JC];rw[flatMap_nil λk B=>oj (by have:=a4S.1 B;exact(kE (i:=k+1) h A Om).2),a7C];by_cases e:w=v
 ·subst e;rw[aL rfl];unfold sK Wt;have:∀L:List Nat,(∀d∈L,d<Z' f.a2G)→((L.filter (okD f w)).flatMap λd=>zQ f w (eT f w d) (l w d))=(L.filter (oT f l w)).map (λd:Nat=>(d:Int)):=by
   intro L
   induction L with
   |nil=>intro _;rfl
   |cons d L u=>
    intro x;have j:=x d aW;have u:=u λd j=>x d (by simp[j]);rw[List.filter_cons,List.filter_cons];cases y:okD f w d with
    |false=>rw[show oT f l w d=false by unfold oT;rw[y];rfl];exact u
    |true=>
     have E:YW f w (eT f w d) (l w d)=oT f l w d:=by unfold YW oT;rw[zl h j,y,cB rfl,a5Z,cB (show bG f 0≤(eT f w d).dst by show bG f 0≤bG f d;unfold bG;omega)]
     rw[aL rfl,List.flatMap_cons,u];unfold zQ;rw[E];cases oT f l w d with
     |false=>rfl
     |true =>rw[aL rfl,aL rfl,a5D,show(eT f w d).dst-bG f 0=d by show bG f d-bG f 0=d;unfold bG;omega];rfl
  exact this _ λd j=>a4S.1 j
 ·rw[aG e];refine flatMap_nil λd j=>?_;have j:=a4S.1 (a7M.1 j).1;unfold zQ YW;rw[zl h j,cF e,a5I,a5I];rfl
theorem aIR{f:aD}(h:VF f)(room:List Int)(s:Nat→Nat)(g e:Nat→Nat→Nat)(t:Nat→Nat):KD f (eU f room) (sZ f s g e t)=xM f (oT f e):=by
 unfold KD xM;refine a6A λv j=>?_;have j:=a4S.1 j;have u:∀L:List Nat,(∀w∈L,w<Z' f.a2I)→(L.flatMap (fV f)).length=(L.flatMap (vC f s g e)).length∧nS f v (L.flatMap (fV f)) (L.flatMap (vC f s g e))=L.flatMap λw=>if w=v then sK f (oT f e) v else[]:=by
  intro L
  induction L with
  |nil=>intro _;exact⟨rfl,rfl⟩
  |cons w L B=>
   intro x;obtain⟨y,A⟩:=B λw l=>x w (by simp[l]);refine⟨?_,?_⟩
   ·rw[List.flatMap_cons,List.flatMap_cons,a3Z,a3Z,y,BI f s g e w]
   ·rw[List.flatMap_cons,List.flatMap_cons,List.flatMap_cons,uV _ _ _ _ (BI f s g e w),A,aRD h s g e (x w aW)]
 obtain⟨k1,k2⟩:=u (a3U f.a2I.length) λw l=>a4S.1 l;unfold eU sZ;rw[uV _ _ _ _ k1,k2,ff j,JC,flatMap_nil,a5O];intro d _;exact oj (by show 1<bG f 0;unfold bG;omega)
structure fM where
 vols:List Bool
 a2Q:List (List Bool)
 a3A:List Bool
def fM.shape(f:aD)(c:fM):Bool:=decide (Z' c.vols=Z' f.a2I)&&(decide (Z' c.a2Q=Z' f.a2I)&&(decide (Z' c.a3A=Z' f.a2G)&&c.a2Q.all λr=>decide (Z' r=Z' f.a2J-1)))
def sD(c:fM):List Bool:=true::false::(c.vols++(c.a2Q.flatten++c.a3A))
def wI(c:fM)(w:Nat):Bool:=(sD c).getD w false
def uL(f:aD)(room:List Int)(c:fM):Bool:=c.shape f&&decide (eD (wI c) (eU f room)<qT f)
def BK(f:aD)(S:Nat→Bool):fM:=⟨(a3U f.a2I.length).map λv=>S (cJ f v 0),(a3U f.a2I.length).map λv=>(a3U (Z' f.a2J-1)).map λi=>S (cJ f v (i+1)),(a3U f.a2G.length).map λd=>S (bG f d)⟩
structure Shape(f:aD)(c:fM):Prop where
 v:Z' c.vols=Z' f.a2I
 i:Z' c.a2Q=Z' f.a2I
 d:Z' c.a3A=Z' f.a2G
 r:∀r∈c.a2Q,Z' r=Z' f.a2J-1
theorem CP{f:aD}{c:fM}:c.shape f=true↔Shape f c:=by
 unfold fM.shape;simp only[a4P,decide_eq_true_eq,a4T];exact⟨λ⟨a,b,d,e⟩=>⟨a,b,d,e⟩,λ⟨a,b,d,e⟩=>⟨a,b,d,e⟩⟩
theorem CF{α:Type}{n:Nat}:∀{l:List (List α)},(∀r∈l,Z' r=n)→Z' l.flatten=Z' l*n
 |[],_=>by simp
 |r::l,h=>by rw[List.flatten_cons,a3Z,h r aW,CF λr e=>h r (by simp[e]),a5P,a6D];omega
theorem Et{α:Type}{z:α}{n:Nat}:∀{l:List (List α)}{v i:Nat},(∀r∈l,Z' r=n)→v<Z' l→i<n→l.flatten.getD (v*n+i) z=(l.getD v []).getD i z
 |[],v,i,_,e,_=>by simp at e
 |r::l,0,i,h,_,hi=>by have:=h r aW;rw[List.flatten_cons,a4D,a5U Om,Nat.zero_mul,a4I,←a4D];rfl
 |r::l,v+1,i,h,e,hi=>by have u:=h r aW;rw[List.flatten_cons,a4D,a5V (by rw[a6D];omega),show(v+1)*n+i-Z' r=v*n+i by rw[a6D];omega,←a4D,Et (λr j=>h r (by simp[j])) (by simpa using e) hi];rfl
theorem aOC(c:fM):wI c 0=true:=rfl
theorem aOB(c:fM):wI c 1=false:=rfl
theorem ahM{f:aD}{c:fM}(h:Shape f c){v:Nat}(e:v<Z' f.a2I):wI c (cJ f v 0)=c.vols.getD v false:=by
 show(sD c).getD (2+v) false=_;rw[show 2+v=v+1+1 by omega];show(c.vols++(c.a2Q.flatten++c.a3A)).getD v false=_;rw[a4D,a5U (by rw[h.v];exact e),←a4D]
theorem ahK{f:aD}{c:fM}(h:Shape f c){v i:Nat}(e:v<Z' f.a2I)(hi:i<Z' f.a2J-1):wI c (cJ f v (i+1))=(c.a2Q.getD v []).getD i false:=by
 show(sD c).getD (cJ f v (i+1)) false=_;unfold cJ;rw[aG Om,show 2+Z' f.a2I+v*(Z' f.a2J-1)+(i+1)-1=(Z' f.a2I+(v*(Z' f.a2J-1)+i))+1+1 by omega];show(c.vols++(c.a2Q.flatten++c.a3A)).getD _ false=_;have j:=CF h.r;rw[h.i]at j;have hb:(v+1)*(Z' f.a2J-1)≤Z' f.a2I*(Z' f.a2J-1):=a4Z _ e;rw[a6D]at hb;rw[a4D,a5V (by rw[h.v];omega),h.v,Nat.add_sub_cancel_left,a5U Om,←a4D];exact Et h.r (by rw[h.i];exact e) hi
theorem ahL{f:aD}(hV:VF f){c:fM}(h:Shape f c){d:Nat}:wI c (bG f d)=c.a3A.getD d false:=by
 show(sD c).getD (bG f d) false=_;have l:=hV.root.1;have j:Z' f.a2I*Z' f.a2J=Z' f.a2I*(Z' f.a2J-1)+Z' f.a2I:=by
  conv=>lhs;rw[show f.a2J.length=(Z' f.a2J-1)+1 by omega,Nat.mul_succ]
 unfold bG;rw[show 2+Z' f.a2I*Z' f.a2J+d=(Z' f.a2I+(Z' f.a2I*(Z' f.a2J-1)+d))+1+1 by omega];show(c.vols++(c.a2Q.flatten++c.a3A)).getD _ false=_;have e:=CF h.r;rw[h.i]at e;rw[a4D,a5V (by rw[h.v];omega),h.v,Nat.add_sub_cancel_left,a5V Om,e,Nat.add_sub_cancel_left,←a4D]
theorem aGX{f:aD}(hV:VF f){c:fM}(h:Shape f c):(sD c).length=bG f f.a2G.length:=by
 have j:=hV.root.1;have e:Z' f.a2I*Z' f.a2J=Z' f.a2I*(Z' f.a2J-1)+Z' f.a2I:=by
  conv=>lhs;rw[show f.a2J.length=(Z' f.a2J-1)+1 by omega,Nat.mul_succ]
 unfold sD bG;rw[a5P,a5P,a3Z,a3Z,CF h.r,h.v,h.i,h.d];omega
theorem aaD(f:aD)(S:Nat→Bool):Shape f (BK f S):=by
 refine⟨by simp[BK],by simp[BK],by simp[BK],λr e=>?_⟩;obtain⟨v,-,rfl⟩:=a4W.1 e;simp
theorem ss{S T:Nat→Bool}:∀{l:List bR},(∀a∈l,S a.src=T a.src∧S a.dst=T a.dst)→eD S l=eD T l
 |[],_=>rfl
 |a::l,h=>by rw[eD,eD,(h a aW).1,(h a aW).2,ss λb hb=>h b (by simp[hb])]
theorem O5{f:aD}(hV:VF f)(room:List Int){S T:Nat→Bool}(x:S 0=T 0)(y:S 1=T 1)(u:∀v i,v<Z' f.a2I→i<Z' f.a2J→S (cJ f v i)=T (cJ f v i))(w:∀d,d<Z' f.a2G→S (bG f d)=T (bG f d)):eD S (eU f room)=eD T (eU f room):=by
 have j:=hV.root.1;refine ss λa ha=>?_;rcases a5E.1 ha with ha|ha
 ·obtain⟨v,l,ha⟩:=List.mem_flatMap.1 ha;have l:=a4S.1 l;rcases a4J.1 ha with rfl|ha
  ·exact⟨x,u v 0 l j⟩
  rcases a5E.1 ha with ha|ha
  ·obtain⟨k,e,rfl⟩:=a4W.1 ha;have e:=a4S.1 e;exact⟨u v _ l (by have:=(hV.dom (k+1) Om Om).2.1;omega),u v (k+1) l Om⟩
  ·obtain⟨d,e,rfl⟩:=a4W.1 ha;have e:=a4S.1 (a7M.1 e).1;exact⟨u v _ l (by have:=(hV.drive d e).2.2;omega),w d e⟩
 ·obtain⟨d,e,rfl⟩:=a4W.1 ha;exact⟨w d (a4S.1 e),y⟩
theorem aTE{f:aD}(hV:VF f)(room:List Int){S:Nat→Bool}(l:S 0=true)(u:S 1=false):eD (wI (BK f S)) (eU f room)=eD S (eU f room):=by
 have j:=aaD f S;refine O5 hV room (by rw[l];rfl) (by rw[u];rfl) (λv i e hi=>?_) λd w=>?_
 ·cases i with
  |zero=>rw[ahM j e];simp[BK,e]
  |succ i =>rw[ahK j e Om];have:i<Z' f.a2J-1:=Om;simp[BK,e,this]
 ·rw[ahL hV j];simp[BK,w]
theorem check_sound{f:aD}(hV:VF f){room:List Int}{c:fM}(h:uL f room c=true):¬GG f room:=by
 rintro⟨u,A⟩;unfold uL at h;rw[a4P,decide_eq_true_eq]at h;have:=A.cut hV (wI c) (aOC c) (aOB c);omega
theorem aFY{f:aD}(hV:VF f){room:List Int}{xs:List Nat}(l:jM (cW f room) xs){S:Nat→Bool}(e:S 0=true)(j:S 1=false)(u:kM (cW f room) xs=eD S (eU f room))(w:¬GG f room):uL f room (BK f S)=true:=by
 have h:=mt (Er hV l e j u).1 w;unfold uL;rw[CP.2 (aaD f S),aTE hV room e j,a4K,decide_eq_true_eq];omega

abbrev xA(f:aD):List PV:=[.int .i64 (Z' f.a2I:Nat),.int .i64 (Z' f.a2J:Nat)]
theorem aQM{C:Ctx}(f:aD)(v:Nat)(j:v≤100):YN.wp C (aV aKD.res (aK (.int .i64 ((2+v:Nat):Int)))) (PF.args [.agg (xA f),.int .i64 (v:Nat)]) .nil:=by
 have e:IntKind.i64.wrap (2+(v:Int))=((2+v:Nat):Int):=by rw[wrap_i64 Om Om];omega
 simp only[go_sem,YN,apC,apD,aKD,e];refine aT (.inr rfl) rfl ?_;rfl
theorem anC{a b:Nat}(j:a≤100)(hb:b≤100):IntKind.i64.wrap ((a:Int)*(b:Int))=((a*b:Nat):Int)∧a*b≤10000:=by
 have e:a*b≤100*100:=a7G j hb;rw[←Int.natCast_mul,wrap_i64 Om Om];exact⟨rfl,e⟩
theorem Xr{f:aD}(u:Small f){v i:Nat}(w:v≤100)(hi:i≤100)(e:i≠0)(y:0<Z' f.a2J) :
  IntKind.i64.wrap (IntKind.i64.wrap (IntKind.i64.wrap (IntKind.i64.wrap (2+(Z' f.a2I:Int))+IntKind.i64.wrap ((v:Int)*IntKind.i64.wrap ((Z' f.a2J:Int)-1)))+(i:Int))-1)=((cJ f v i:Nat):Int):=by
 obtain⟨s1,s2,s3,s4,A,B⟩:=u;rw[wrap_i64 (n:=(Z' f.a2J:Int)-1) Om Om,show(Z' f.a2J:Int)-1=((Z' f.a2J-1:Nat):Int) by omega];obtain⟨j,x⟩:=anC (a:=v) (b:=Z' f.a2J-1) w Om;rw[j];have l:cJ f v i=2+Z' f.a2I+v*(Z' f.a2J-1)+i-1:=by unfold cJ;rw[aG e]
 rw[l];generalize v*(Z' f.a2J-1)=z at *
 rw[wrap_i64 (n:=2+(Z' f.a2I:Int)) Om Om,wrap_i64 (n:=2+(Z' f.a2I:Int)+(z:Int)) Om Om,wrap_i64 (n:=2+(Z' f.a2I:Int)+(z:Int)+(i:Int)) Om Om,wrap_i64 Om Om];omega
theorem ahQ{f:aD}(j:Small f){d:Nat}(u:d≤100) :
  IntKind.i64.wrap (IntKind.i64.wrap (2+IntKind.i64.wrap ((Z' f.a2I:Int)*(Z' f.a2J:Int)))+(d:Int))=((bG f d:Nat):Int):=by
 obtain⟨s1,s2,s3,s4,w,x⟩:=j;obtain⟨e,l⟩:=anC (a:=Z' f.a2I) (b:=Z' f.a2J) Om Om;rw[e];unfold bG;generalize f.a2I.length*Z' f.a2J=z at *
 rw[wrap_i64 (n:=2+(z:Int)) Om Om,wrap_i64 Om Om];omega
theorem aAZ(f:aD)(v:Nat):cJ f v 0=2+v:=rfl
theorem aQE{C:Ctx}(u:∀(f:aD)(v:Nat),v≤100→aJ C 282 [.agg (xA f),.int .i64 (v:Nat)] .nil (aK (.int .i64 ((2+v:Nat):Int))))(f:aD)(x:Small f)(w:0<Z' f.a2J)(v i:Nat)(l:v≤100)(hi:i≤100) :
  IT.wp C (aV axU.res (aK (.int .i64 ((cJ f v i:Nat):Int)))) (PF.args [.agg (xA f),.int .i64 (v:Nat),.int .i64 (i:Nat)]) .nil:=by
 by_cases j:i=0
 ·subst j;simp only[go_sem,IT,Cz,C0,axU,aoA,Int.natCast_zero,cA (show((0:Nat):Int)=0 from rfl)];refine aB (u f v l) rfl ?_;simp only[go_sem];refine aT (.inr rfl) rfl ?_;rfl
 ·have e:=Xr x l hi j w;simp only[go_sem,IT,Cz,C0,axU,bJ (Om:¬((i:Nat):Int)=0),aoB,e];refine aT (.inr rfl) rfl ?_;rfl
theorem aQF{C:Ctx}(f:aD)(l:Small f)(d:Nat)(j:d≤100):XU.wp C (aV aJS.res (aK (.int .i64 ((bG f d:Nat):Int)))) (PF.args [.agg (xA f),.int .i64 (d:Nat)]) .nil:=by
 have e:=ahQ l j;simp only[go_sem,XU,aoC,aoD,aJS,e];refine aT (.inr rfl) rfl ?_;rfl
theorem aKR{C:Ctx}(f:aD)(u:Small f)(l:0<Z' f.a2J)(v i:Nat)(w:v≤100)(hi:i≤100) :
  EJ.wp C (aV Nz.res (aK (.int .i64 ((cJ f v i:Nat):Int)))) (PF.args [.agg f.cells,.int .i64 (v:Nat),.int .i64 (i:Nat)]) .nil:=by
 by_cases j:i=0
 ·subst j;have e:IntKind.i64.wrap (2+(v:Int))=((2+v:Nat):Int):=by rw[wrap_i64 Om Om];omega
  simp only[go_sem,EJ,pw,p4,Nz,Zj,Int.natCast_zero,cA (show((0:Nat):Int)=0 from rfl),e];refine aT (.inr rfl) rfl ?_;rfl
 ·have e:=Xr u w hi j l;simp only[go_sem,EJ,pw,p4,Nz,bJ (Om:¬((i:Nat):Int)=0),Zk,a3V,e];refine aT (.inr rfl) rfl ?_;rfl
theorem aQY{C:Ctx}(f:aD)(l:Small f)(d:Nat)(j:d≤100):YZ.wp C (aV aKP.res (aK (.int .i64 ((bG f d:Nat):Int)))) (PF.args [.agg f.cells,.int .i64 (d:Nat)]) .nil:=by
 have e:=ahQ l j;simp only[go_sem,YZ,aqB,aqC,aKP,a3V,e];refine aT (.inr rfl) rfl ?_;rfl
theorem ahD{f:aD}(hV:VF f)(k:Nat)(j:k≤Z' f.a2I):dK (fQ f) k≤8*k:=by
 induction k with
 |zero=>exact a4B _
 |succ k e =>have:=(nD hV (v:=k) Om).1;have:=e Om;rw[dK];omega
theorem aEF{C:Ctx}(u:∀(f:aD)(v:Nat),VF f→v<Z' f.a2I→aJ C 82 [.agg f.cells,.int .i64 (v:Nat)] .nil (aK (.int .i64 (qO f v))))(f:aD)(hV:VF f) :
  LK.wp C (aV Zl.res (aK (.int .i64 ((qT f:Nat):Int)))) (PF.args [.agg f.cells]) .nil:=by
 have B:=hV.small.a2I;simp only[go_sem,LK,Jw,Jx,Jy,Zl];refine wp_loop (α:=Nat) (λk=>(((PF.nil.set 1 (.bU f.cells)).set 3 (.int .i64 ((dK (fQ f) k:Nat):Int))).set 4 (.int .i64 (k:Nat)))) (λ_=>.nil) (λk=>k≤Z' f.a2I) (λk=>Z' f.a2I-k) 0 (a4A _) (by(repeat' (first|exact c_|refine d_ ?_ ?_))<;>first|(simp only[go_sem,dK]<;>rfl)|rfl) a_ ?_;intro k w;simp only[go_sem,Jv,Jz,a3V];by_cases hlt:k<Z' f.a2I
 ·have j:(k:Int)<(Z' f.a2I:Nat):=Om;obtain⟨x,y,l,-⟩:=nD hV hlt;have A:=ahD hV k w;have e:IntKind.i64.wrap (((dK (fQ f) k:Nat):Int)+qO f k)=((dK (fQ f) (k+1):Nat):Int):=by rw[dK,←l,wrap_i64 Om Om];omega
  simp only[go_sem,j,J0];refine aB (u f k hV hlt) rfl ?_;simp only[go_sem,e,J1,wZz k];exact aH (k+1) hlt Om Lq a_
 ·have j:¬(k:Int)<(Z' f.a2I:Nat):=Om;have:k=Z' f.a2I:=Om;subst this;simp only[go_sem,j,J2];refine aT (.inr rfl) rfl ?_;rfl








theorem lH{t:Nat}{b j:Bool}{F:PF}{H:PH}(h:F t=some (.bool b))(e:b=j):aV [.tmp t] (aK (.bool j)) .ret F H:=by
 subst e;exact bD (.inr rfl) .nil (vs:=[.bool b]) (by rw[oY,sJ,h,tU]) a_ ⟨rfl,rfl⟩
abbrev iV(f:aD):cD:=.rows 2 [xA f]
abbrev jJ:cD:=.rows 4 [[.int .i64 0,.int .i64 0,.int .i64 0,.aE]]
abbrev rS(p:eG):cD:=.rows 17 [p.cells]
def Bf(o N:Nat)(l:List bR)(a:bR)(r:PV)(H':PH):Prop:=∃(B':List BX)(L':List LI),(r=.tup []∧∃v',B'=[(o,cV N v')]∧L'=[(v',4,(l++[a]).map bR.cells)])∧aN H' B' L'
structure pX(C:Ctx):Prop where
 vol:∀(f:aD)(v:Nat),v≤100→aJ C 282 [.agg (xA f),.int .i64 (v:Nat)] .nil (aK (.int .i64 ((2+v:Nat):Int)))
 dom:∀(f:aD),Small f→0<Z' f.a2J→∀v i:Nat,v≤100→i≤100→aJ C 283 [.agg (xA f),.int .i64 (v:Nat),.int .i64 (i:Nat)] .nil (aK (.int .i64 ((cJ f v i:Nat):Int)))
 drv:∀(f:aD),Small f→∀d:Nat,d≤100→aJ C 284 [.agg (xA f),.int .i64 (d:Nat)] .nil (aK (.int .i64 ((bG f d:Nat):Int)))
 arc:∀(o N:Nat)(a:bR)(v:PV)(l:List bR),Z' l≤1000000→∀H,aN H [(o,cV N v)] [(v,4,l.map bR.cells)]→aJ C 285 [.int .i64 (a.src:Nat),.int .i64 (a.dst:Nat),.int .i64 (a.cap:Nat),.ptr o 4 0 0] H (Bf o N l a)
 valid:∀f:aD,f.Ok→aJ C 96 [.agg f.cells] .nil (aK (.int .i64 (DF f)))
 roomM:∀(f:aD)(room:List Int),f.Ok→aJ C 152 [.agg f.cells,ints room] .nil (rY 1 (cC (JB f room)))
theorem aSX(o N:Nat)(l:List bR)(a:bR)(G A:PH)(D:List Nat)(hD:o∈D)(J:∃x,A o=some x):∃r H',Bf o N l a r H'∧oP G (A.only D) H':=by
 obtain⟨q,u,w⟩:=PH.aHS G o;have I:=(aN.nil.new (H:=PH.nil) (o:=o) rfl (cV N (.osl q 4 0 ((l++[a]).map bR.cells).length))).C2 (s:=4) (rows:=(l++[a]).map bR.cells) (o:=q) (by rw[aU,aG w];rfl);refine⟨.tup [],_,⟨_,_,⟨rfl,_,rfl,rfl⟩,I⟩,λp x j E=>?_⟩;rw[aU]at j;by_cases e:p=q
 ·subst e;exact u
 ·rw[aG e,aU]at j;by_cases B:p=o
  ·subst B;obtain⟨y,M⟩:=J;rw[vX,aL hD,M]at E;cases E
  ·rw[aG B]at j;cases j
def GK(f:aD)(D:List Nat)(Q:PV→PH→Prop):Spec:=λname vs=>match name,vs with
 |285,_=>some (D,λ_=>Q)
 |282,[_,.int _ v]=>some ([],λ_=>aK (.int .i64 ((2+v.toNat:Nat):Int)))
 |283,[_,.int _ v,.int _ i]=>some ([],λ_=>aK (.int .i64 ((cJ f v.toNat i.toNat:Nat):Int)))
 |284,[_,.int _ d]=>some ([],λ_=>aK (.int .i64 ((bG f d.toNat:Nat):Int)))
 |_,_=>none
section
variable {C:Ctx} {F:PF} {H Hs:PH} {st:Bool} {f:aD} {D:List Nat} {Q:PV→PH→Prop} {args:List aR} {d:Option Nat} {K:PF→PH→Prop}
theorem O7(j:pX C){v:Nat}(w:v≤100)(l:aR.evs F args=some [.agg (xA f),.int .i64 (v:Nat)])(e:Hs.le H)(u:K (F.put d (.int .i64 ((2+v:Nat):Int))) H):dOp C Hs (GK f D Q) st (.call 282 args) d K F H:=
 cS (v:=.int .i64 ((2+v:Nat):Int)) (by rfl) (j.vol f v w) l e u
theorem jt(j:pX C)(x:Small f)(l:0<Z' f.a2J){v i:Nat}(y:v≤100)(hi:i≤100)(u:aR.evs F args=some [.agg (xA f),.int .i64 (v:Nat),.int .i64 (i:Nat)])(e:Hs.le H)(w:K (F.put d (.int .i64 ((cJ f v i:Nat):Int))) H):dOp C Hs (GK f D Q) st (.call 283 args) d K F H:=
 cS (v:=.int .i64 ((cJ f v i:Nat):Int)) (by rfl) (j.dom f x l v i y hi) u e w
theorem GN(j:pX C)(w:Small f){i:Nat}(hi:i≤100)(l:aR.evs F args=some [.agg (xA f),.int .i64 (i:Nat)])(e:Hs.le H)(u:K (F.put d (.int .i64 ((bG f i:Nat):Int))) H):dOp C Hs (GK f D Q) st (.call 284 args) d K F H:=
 cS (v:=.int .i64 ((bG f i:Nat):Int)) (by rfl) (j.drv f w i hi) l e u
theorem Bs(y:pX C){o N:Nat}{v:PV}{l:List bR}(a:bR)(E:Z' l≤1000000){B2:List BX}(h:aN H ((o,cV N v)::B2) [(v,4,l.map bR.cells)]){x:aR}(J:x.ev F=some (.fn 285 [.ptr o 4 0 0]))
  (A:aR.evs F args=some [.int .i64 (a.src:Nat),.int .i64 (a.dst:Nat),.int .i64 (a.cap:Nat)])
  (B:∀v' H',aN H' ((o,cV N v')::B2) [(v',4,(l++[a]).map bR.cells)]→Hs.le H'∧K (F.put d (.tup [])) H') :
  dOp C Hs (GK f (fK [(o,cV N v)]++eR [(v,4,l.map bR.cells)]) (Bf o N l a)) st (.a3K x args) d K F H:=by
 have w:aN H ([(o,cV N v)]++B2) ([(v,4,l.map bR.cells)]++[]):=h;have I:H o=some (cV N v):=h.at 0 rfl;have e:POp.kind (.a3K x args) F=.call 285 (some [.int .i64 (a.src:Nat),.int .i64 (a.dst:Nat),.int .i64 (a.cap:Nat),.ptr o 4 0 0]):=by simp only[POp.kind,J,A,a5B,a7L,a7C]
 unfold dOp;rw[e];refine⟨_,_,_,rfl,rfl,λq hq=>?_,y.arc o N a v l E _ (w.only (a7W ..) (a7W ..)),λG=>aSX o N l a G H _ (by simp[fK]) ⟨_,I⟩,?_⟩
 ·rcases a5E.1 hq with hq|hq
  ·exact h.GC (.inl (by simp only[fK,a5D,a4J];left;simpa[fK]using hq))
  ·exact h.GC (.inr hq)
 ·rintro r H' ⟨B',L',⟨rfl,v',rfl,rfl⟩,j⟩ u;exact B v' _ (w.frame j u)
theorem aAD(e:pX C){o N:Nat}{v:PV}{l:List bR}(a:bR)(y:Z' l≤1000000){B2:List BX}(h:aN H ((o,cV N v)::B2) [(v,4,l.map bR.cells)])
  (w:aR.evs F args=some [.int .i64 (a.src:Nat),.int .i64 (a.dst:Nat),.int .i64 (a.cap:Nat)])
  (x:∀v' H',aN H' ((o,cV N v')::B2) [(v',4,(l++[a]).map bR.cells)]→K (F.put d (.tup [])) H'):jX C 285 args [.ptr o 4 0 0] d K F H:=by
 refine aeE (B1:=[(o,cV N v)]) (B2:=B2) (L1:=[(v,4,l.map bR.cells)]) (L2:=[]) h (Q:=λr B' L'=>r=.tup []∧∃v',B'=[(o,cV N v')]∧L'=[(v',4,(l++[a]).map bR.cells)]) (λH0 u=>e.arc o N a v l y H0 u) w ?_;rintro r B' L' H' ⟨rfl,v',rfl,rfl⟩ j;exact x v' H' j
end
theorem uh{a b:Nat}{x y:cD}(h:¬a=b):∃Hs:PH,Hs a=some x∧Hs b=some y∧∀H':PH,H' a=some x→H' b=some y→Hs.le H':=
 ⟨(PH.nil.set a x).set b y,by rw[aU,aG h,bT],bT _ _,λH' e j=>e_ (e_ a_ e) j⟩
structure NO where
 o:Nat
 n:Nat
 z:Nat
 p:Nat
 m:Nat
def kD(f:aD)(room:List Int)(e:NO)(k:Nat):PF:=(((((((((PF.nil.set 1 (ints room)).set 2 (.bU f.cells)).set 4 (.ptr e.z 4 0 0)).set 6 (.ptr e.n 2 0 0)).set 7 (.ptr e.o 4 0 0)).set 8 (.fn 285 [.ptr e.o 4 0 0])).set 41 (.sl 2 (f.a2I.map hC.cells))).set 42 (.int .i64 (Z' f.a2I:Nat))).set 43 (.int .i64 (k:Nat)))
def rL(f:aD)(room:List Int)(e:NO)(k:Nat):PF:=(((kD f room e k).set 9 (.int .i64 (k:Nat))).set 11 (.ptr e.p 17 0 0)).set 12 (.osl e.m 1 0 f.a2H.length)
def de(f:aD)(room:List Int)(e:NO)(k:Nat)(p:eG)(j:Nat):PF:=(((rL f room e k).set 59 (ints p.a2H)).set 60 (.int .i64 (Z' p.a2H:Nat))).set 61 (.int .i64 (j:Nat))
def wZ(f:aD)(room:List Int)(e:NO)(k i:Nat):PF:=(((rL f room e k).set 80 (.sl 7 (f.a2J.map dM.cells))).set 81 (.int .i64 (Z' f.a2J:Nat))).set 82 (.int .i64 (i:Nat))
def RG(f:aD)(room:List Int)(e:NO)(k i:Nat):PF:=((((((kD f room e k).set 9 (.int .i64 (k:Nat))).set 12 (.osl e.m 1 0 f.a2H.length))).set 115 (.sl 3 (f.a2G.map eS.cells))).set 116 (.int .i64 (Z' f.a2G:Nat))).set 117 (.int .i64 (i:Nat))
theorem avV{C:Ctx}{K:cP}[Up K](f:aD)(room:List Int)(e:NO)(k:Nat)(p:eG)(Z:∀m∈p.a2H,0≤m∧m<Z' f.a2H)(U:Z' p.a2H≤9223372036854775807){F:PF}{H:PH}{B:List BX}{L:List LI}(b:Nat)
  (hb:B[b]?=some (e.m,.rows 1 (bC (marks f.a2H.length [])))) (w:aN H B L) (W:(de f room e k p 0).le F)
  (X:∀H',aN H' (B.set b (e.m,.rows 1 (bC (marks f.a2H.length p.a2H)))) L→K (.exit 2) (rL f room e k) H'):aC.wp C (.loop jx) K F H:=by
 refine wp_loop (α:=Nat × PH) (λs=>de f room e k p s.1) (λs=>s.2) (λs=>s.1≤Z' p.a2H∧aN s.2 (B.set b (e.m,.rows 1 (bC (marks f.a2H.length (p.a2H.take s.1))))) L) (λs=>Z' p.a2H-s.1) (0,H) ⟨a4A _,?_⟩ W b_ ?_
 ·rw[List.take_zero];have V:B.set b (e.m,.rows 1 (bC (marks f.a2H.length [])))=B:=by obtain⟨h1,A⟩:=a5A.1 hb;rw[←A,List.set_getElem_self]
  rw[V];exact w
 rintro⟨j,H0⟩ ⟨Y,w⟩;simp only at Y w;have E:b<Z' B:=(a5A.1 hb).1;have x:(B.set b (e.m,cD.rows 1 (bC (marks f.a2H.length (p.a2H.take j)))))[b]?=some (e.m,.rows 1 (bC (marks f.a2H.length (p.a2H.take j)))):=List.getElem?_set_self E;simp only[go_sem,jx,P9,de,rL,kD];by_cases hlt:j<Z' p.a2H
 ·have u:(j:Int)<(Z' p.a2H:Nat):=Om;have N:(p.a2H.map λn=>[PV.int .i64 n])[j]?=some [.int .i64 p.a2H[j]]:=by simp[hlt]
  obtain⟨R,S⟩:=Z _ (a3Y hlt);have O:p.a2H.take (j+1)=p.a2H.take j++[p.a2H[j]]:=a5W hlt;have J:(p.a2H[j]).toNat<(bC (marks f.a2H.length (p.a2H.take j))).length:=by rw[hJ,aCG];omega
  have I:(bC (marks f.a2H.length (p.a2H.take j)))[(p.a2H[j]).toNat]?=some [.bool ((p.a2H.take j).contains p.a2H[j])]:=by unfold bC;rw[a4Q,l6 R S];rfl
  have M:=w.at b x;have A:=w.set b x (.rows 1 (bC (marks f.a2H.length (p.a2H.take (j+1)))));rw[List.set_set]at A;have y:=Gh (l:=p.a2H.take j) R S;rw[←O]at y;simp only[go_sem,u,Qa,N,Qb,R,S,a4I,M,I,J,jN,y,Qc,wZz j];exact aH (j+1,H0.set e.m (.rows 1 (bC (marks f.a2H.length (p.a2H.take (j+1)))))) ⟨hlt,A⟩ (by simp only;omega) (by(repeat' (first|exact c_|refine d_ ?_ ?_))<;>first|(simp only[go_sem,de,rL,kD]<;>rfl)|rfl) b_
 ·have u:¬(j:Int)<(Z' p.a2H:Nat):=Om;have:j=Z' p.a2H:=Om;subst this;rw[a5F]at w;simp only[go_sem,u];exact Up.up (by(repeat' (first|exact c_|refine d_ ?_ ?_))<;>first|(simp only[go_sem,de,rL,kD]<;>rfl)|rfl) (X H0 w)
theorem OH(pre:List bR)(g:Nat→bR)(k:Nat):pre++(a3U (k+1)).map g=pre++(a3U k).map g++[g k]:=by
 rw[a6N,a5L,a5C];rfl
theorem NN{G F:PF}{i:Nat}{v:PV}(h:G.le F)(hi:G i=none):G.le (F.set i v):=λj x l=>by
 rw[pF];by_cases e:j=i
 ·subst e;rw[hi]at l;cases l
 ·rw[aG e];exact h j x l
theorem axW{C:Ctx}(f:aD)(p:eG){i:Nat}(hi:i<Z' f.a2J)(I:0≤lvl f i)(J:lvl f i<5){q op:Nat}(K:PF→PH→Prop)(F:PF)(H:PH)(u:F 16=some (.ptr q 7 0 0))(hq:H q=some (.rows 7 [(f.a2J[i]).cells]))(l:F 11=some (.ptr op 17 0 0))(x:H op=some (rS p))
  (y:∀e:PF,e 17=some (.int .i64 (p.spread (lvl f i).toNat))→(∀G:PF,G.le F→(∀j,89≤j→j<94→G j=none)→G 17=none→G.le e)→K e H):wpOps C j8 K F H:=by
 have h5:lvl f i<((5:Nat):Int):=Om;simp only[go_sem,j8,u,hq,l,Ur hi,I,h5,Nat.mul_one];have B:lvl f i=0∨lvl f i=1∨lvl f i=2∨lvl f i=3∨lvl f i=4:=Om;have fin:∀e:PF,e 17=some (.int .i64 (p.spread (lvl f i).toNat))→(∀G:PF,G.le F→(∀j,89≤j→j<94→G j=none)→G 17=none→G.le e)→K e H:=y;clear y;rcases B with h|h|h|h|h
 all_goals
  rw[h]at fin ⊢;simp only[go_sem,x];refine fin _ rfl λG A E w=>?_
  repeat' (first|exact A|exact w|(exact E _ aX aX)|refine NN ?_ ?_)
theorem aBL{C:Ctx}(Lb:pX C){K:cP}[Up K](f:aD)(hV:VF f)(room:List Int)(e:NO)(N k:Nat)(hk:k<Z' f.a2I)(pre:List bR)(η:Z' pre≤900000){F:PF}{H:PH}{B:List BX}(v:PV)
  (h6:B[0]?=some (e.n,iV f)) (M:B[1]?=some (e.p,rS (cX f k)))
  (R:aN H ((e.o,cV N v)::B) [(v,4,pre.map bR.cells)]) (hF:(wZ f room e k 0).le F)
  (hK:∀v' H',aN H' ((e.o,cV N v')::B) [(v',4,(pre++(a3U (Z' f.a2J-1)).map (kW f k)).map bR.cells)]→K (.exit 4) (rL f room e k) H'):aC.wp C (.loop jy) K F H:=by
 have Y:=hV.small;have hr:=hV.root;have θ:=Y.a2J;have ι:=Y.a2I;have ε:¬e.n=e.p:=R.ne 1 2 h6 M aX;obtain⟨Hs,s6,μ,E⟩:=uh (x:=iV f) (y:=rS (cX f k)) ε;refine wp_loop (α:=Nat × PV × PH) (λs=>wZ f room e k s.1) (λs=>s.2.2) (λs=>s.1≤Z' f.a2J∧aN s.2.2 ((e.o,cV N s.2.1)::B) [(s.2.1,4,(pre++(a3U (s.1-1)).map (kW f k)).map bR.cells)]) (λs=>Z' f.a2J-s.1) (0,v,H) ⟨a4A _,by simpa using R⟩ hF b_ ?_;rintro⟨i,v,H0⟩ ⟨hi,R⟩;simp only at hi R;simp only[go_sem,jy,Qf,wZ,rL,kD];by_cases hlt:i<Z' f.a2J
 ·have A:(i:Int)<(Z' f.a2J:Nat):=Om;have δ:=wZz i;simp only[go_sem,A,Qg,pI hlt];refine R.uI λq H1 h1=>?_;have q1:=h1.qA;have O:=h1.wD (.rows 7 [(f.a2J[i]).cells]);simp only[go_sem,q1];generalize H1.set q (.rows 7 [(f.a2J[i]).cells])=H2 at *
  have S:=O.qA;by_cases h0:i=0
  ·subst h0;simp only[go_sem,j7,Int.natCast_zero,cA (show(0:Int)=0 from rfl),OW];exact aH (1,v,H2) ⟨hr.1,O.dropLast⟩ (by simp only;omega) (by(repeat' (first|exact c_|refine d_ ?_ ?_))<;>first|(simp only[go_sem,wZ,rL,kD]<;>rfl)|rfl) b_
  ·have c0:=bJ (Om:¬((i:Nat):Int)=0);obtain⟨l,rfl⟩:∃l,i=l+1:=⟨i-1,by omega⟩;obtain⟨d1,d2,d3,d4,d5⟩:=hV.dom (l+1) Om hlt;have ζ:=hV.Dg (Om:0<l+1) hlt;have h5:lvl f (l+1)<((5:Nat):Int):=Om;have l0:(0:Int)≤lvl f (l+1):=Om;have w:H2 e.p=some (rS (cX f k)):=O.box _ (by refine a7K _ (a7B _ (a5S M)))
   have X:H2 e.n=some (iV f):=O.box _ (by refine a7K _ (a7B _ (a5S h6)));obtain⟨b1,b2,b3,b4⟩:=nD hV hk;obtain⟨hp,he⟩:=rT hV hk;have I:=hV.a2T _ (a3Y hp);rw[he]at I;have β:IntKind.i64.wrap ((cX f k).k+(cX f k).m)=((fQ f k:Nat):Int):=by rw[b3];exact wrap_i64 Om Om
   have κ:=I.2.2.2.2.2.2.1 (lvl f (l+1)).toNat;have u:((vQ f k (l+1):Nat):Int)=if(cX f k).spread (lvl f (l+1)).toNat=0 then((fQ f k:Nat):Int)else(cX f k).spread (lvl f (l+1)).toNat:=by
    unfold vQ gZ;split
    ·rfl
    ·omega
   simp only[go_sem,j7,c0];refine axW f (cX f k) hlt l0 Om (q:=q) (op:=e.p) _ _ _ rfl S rfl w λF1 J V=>?_;have hG:=V (((wZ f room e k (l+1)).set 15 (.int .i64 ((l+1:Nat):Int))).set 16 (.ptr q 7 0 0)) (by(repeat' (first|exact c_|refine d_ ?_ ?_))<;>first|(simp only[go_sem,wZ,rL,kD]<;>rfl)|rfl) (λj h1 O=>by have:j=89∨j=90∨j=91∨j=92∨j=93:=Om;rcases this with rfl|rfl|rfl|rfl|rfl<;>rfl) rfl
   clear V;have U:∀Z:PF,((((wZ f room e k (l+1)).set 15 (.int .i64 ((l+1:Nat):Int))).set 16 (.ptr q 7 0 0)).set 17 (.int .i64 ((vQ f k (l+1):Nat):Int))).le Z →
     aC.wp C (.draw ka) (gP 5 (kT C (aC.wp C (.region OW)) (iR (λs:Nat × PV × PH=>wZ f room e k s.1) (λs=>s.2.2) (λs=>s.1≤Z' f.a2J∧aN s.2.2 ((e.o,cV N s.2.1)::B) [(s.2.1,4,(pre++(a3U (s.1-1)).map (kW f k)).map bR.cells)]) (λs=>Z' f.a2J-s.1) (Z' f.a2J-(l+1)) K))) Z H2:=by
    intro Z γ;refine uB _ (λ_ _ _ _ a b=>Up.up a b) γ ?_;refine aZ Hs (GK f (fK [(e.o,cV N v)]++eR [(v,4,(pre++(a3U l).map (kW f k)).map bR.cells)]) (Bf e.o N (pre++(a3U l).map (kW f k)) (kW f k l))) (E _ X w) ?_;simp only[go_sem,ka,wZ,rL,kD,X,S,s6];refine jt Lb Y hr.1 (v:=k) (i:=kK f (l+1)) Om Om (by simp only[go_sem,Yd hlt,ζ]) (E _ X w) ?_;simp only[go_sem,s6];refine jt Lb Y hr.1 (v:=k) (i:=l+1) Om Om rfl (E _ X w) ?_;simp only[go_sem];refine Bs Lb (kW f k l) (v:=v) (B2:=B++[(q,.rows 7 [(f.a2J[l+1]).cells])]) (by rw[a3Z,a3V,a6M];omega) O rfl rfl λv' H' h'=>⟨E _ (h'.box _ (a7B _ (a7K _ (a5S h6)))) (h'.box _ (a7B _ (a7K _ (a5S M)))),?_⟩;simp only[go_sem,OW,δ];refine aH (l+1+1,v',H') ⟨hlt,?_⟩ (by simp only;omega) (by(repeat' (first|exact c_|refine d_ ?_ ?_))<;>first|(simp only[go_sem,wZ,rL,kD]<;>rfl)|rfl) b_;simp only;rw[show l+1+1-1=l+1 from rfl,OH];exact aN.dropLast (B:=(e.o,cV N v')::B) h'
   by_cases W:(cX f k).spread (lvl f (l+1)).toNat=0
   ·rw[aL W]at u;have f11:=hG 11 _ rfl;simp only[go_sem,j9,J,cA W,Qh,f11,w,β];refine U _ (d_ ?_ (by simp only[go_sem,u]))
    repeat' (first|exact hG|refine NN ?_ rfl)
   ·rw[aG W]at u;simp only[go_sem,j9,J,bJ W];refine U _ (d_ ?_ (by simp only[go_sem,J,u]))
    repeat' (first|exact hG|refine NN ?_ rfl)
 ·have A:¬(i:Int)<(Z' f.a2J:Nat):=Om;have:i=Z' f.a2J:=Om;subst this;simp only[go_sem,A];exact Up.up (by(repeat' (first|exact c_|refine d_ ?_ ?_))<;>first|(simp only[go_sem,wZ,rL,kD]<;>rfl)|rfl) (hK v H0 R)
theorem ep(p:Nat→Bool)(k:Nat):(a3U (k+1)).filter p=(a3U k).filter p++if p k=true then[k]else[]:=by
 rw[a6N,List.filter_append,List.filter_cons,List.filter_nil]
theorem aBM{C:Ctx}(J:pX C){K:cP}[Up K](f:aD)(hV:VF f)(room:List Int)(e:NO)(N k:Nat)(hk:k<Z' f.a2I)(pre:List bR)(Z:Z' pre≤900000){F:PF}{H:PH}{B:List BX}(v:PV)
  (Y:B[0]?=some (e.n,iV f)) (O:B[1]?=some (e.m,.rows 1 (bC (marks f.a2H.length (cX f k).a2H))))
  (y:aN H ((e.o,cV N v)::B) [(v,4,pre.map bR.cells)]) (hF:(RG f room e k 0).le F)
  (hK:∀v' H',aN H' ((e.o,cV N v')::B) [(v',4,(pre++((a3U f.a2G.length).filter (okD f k)).map (eT f k)).map bR.cells)]→K (.exit 6) (kD f room e k) H'):aC.wp C (.loop jz) K F H:=by
 have E:=hV.small;have hr:=hV.root;have β:=E.a2J;have γ:=E.a2G;have δ:=E.a2I;refine wp_loop (α:=Nat × PV × PH) (λs=>RG f room e k s.1) (λs=>s.2.2) (λs=>s.1≤Z' f.a2G∧aN s.2.2 ((e.o,cV N s.2.1)::B) [(s.2.1,4,(pre++((a3U s.1).filter (okD f k)).map (eT f k)).map bR.cells)]) (λs=>Z' f.a2G-s.1) (0,v,H) ⟨a4A _,by simpa using y⟩ hF b_ ?_;rintro⟨i,v,H0⟩ ⟨hi,y⟩;simp only at hi y;simp only[go_sem,jz,Qj,RG,kD];by_cases hlt:i<Z' f.a2G
 ·have j:(i:Int)<(Z' f.a2G:Nat):=Om;have A:=wZz i;obtain⟨d1,d2,d3,d4,d5⟩:=hV.drive i hlt;have S:(bC (marks f.a2H.length (cX f k).a2H))[mdl f i]?=some [.bool ((cX f k).a2H.contains ((mdl f i:Nat):Int))]:=by have:=l6 (n:=Z' f.a2H) (l:=(cX f k).a2H) (m:=((mdl f i:Nat):Int)) Om Om;rw[a6U]at this;unfold bC;rw[a4Q,this];rfl
  have V:okD f k i=(cX f k).a2H.contains ((mdl f i:Nat):Int):=rfl;have U:((mdl f i:Nat):Int)<(Z' f.a2H:Nat):=Om;simp only[go_sem,j,Qk,rE hlt];refine y.uI λq H1 X=>?_;have q1:=X.qA;have w:=X.wD (.rows 3 [(f.a2G[i]).cells]);simp only[go_sem,q1];generalize H1.set q (.rows 3 [(f.a2G[i]).cells])=H2 at *
  have x:=w.qA;have M:H2 e.m=some _:=w.box _ (a7K _ (a7B _ (a5S O)));have I:H2 e.n=some (iV f):=w.box _ (a7K _ (a7B _ (a5S Y)));have u:=ep (okD f k) i;simp only[go_sem,Ql,x,hV.XI hlt,U,M,a4I,S];rw[←V];cases hb:okD f k i with
  |false =>rw[hb,aG aX,a5O]at u;rw[←u]at w;simp only[go_sem,kb,A];exact aH (i+1,v,H2) ⟨hlt,w.dropLast⟩ (by simp only;omega) (by(repeat' (first|exact c_|refine d_ ?_ ?_))<;>first|(simp only[go_sem,RG,kD]<;>rfl)|rfl) b_
  |true=>
   rw[hb,aL rfl]at u;simp only[go_sem];refine aZ (PH.nil.set e.n (iV f)) (GK f (fK [(e.o,cV N v)]++eR [(v,4,(pre++((a3U i).filter (okD f k)).map (eT f k)).map bR.cells)]) (Bf e.o N (pre++((a3U i).filter (okD f k)).map (eT f k)) (eT f k i))) (e_ a_ I) ?_;have R:=List.length_filter_le (okD f k) (a3U i);rw[a6M]at R;simp only[go_sem,Qm,I,x];refine jt J E hr.1 (v:=k) (i:=fR f i) Om Om (by simp only[go_sem,hV.cz hlt]) (e_ a_ I) ?_;simp only[go_sem];refine GN J E (i:=i) Om rfl (e_ a_ I) ?_;simp only[go_sem];refine Bs J (eT f k i) (v:=v) (B2:=B++[(q,.rows 3 [(f.a2G[i]).cells])]) (by rw[a3Z,a3V];omega) w rfl rfl λv' H' W=>⟨e_ a_ (W.box _ (a7B _ (a7K _ (a5S Y)))),?_⟩;simp only[go_sem,kb,A];refine aH (i+1,v',H') ⟨hlt,?_⟩ (by simp only;omega) (by(repeat' (first|exact c_|refine d_ ?_ ?_))<;>first|(simp only[go_sem,RG,kD]<;>rfl)|rfl) b_;simp only;have e2:pre++((a3U (i+1)).filter (okD f k)).map (eT f k)=pre++((a3U i).filter (okD f k)).map (eT f k)++[eT f k i]:=by rw[u,a5L,←a5C];rfl
   rw[e2];exact aN.dropLast (B:=(e.o,cV N v')::B) W
 ·have j:¬(i:Int)<(Z' f.a2G:Nat):=Om;have:i=Z' f.a2G:=Om;subst this;simp only[go_sem,j];exact Up.up (by(repeat' (first|exact c_|refine d_ ?_ ?_))<;>first|(simp only[go_sem,RG,kD]<;>rfl)|rfl) (hK v H0 y)
theorem TU(f:aD)(k:Nat):(a3U (k+1)).flatMap (fV f)=(a3U k).flatMap (fV f)++fV f k:=by
 rw[a6N,List.flatMap_append,List.flatMap_cons,List.flatMap_nil,a5O]
theorem CR{f:aD}(e:Small f):∀k,((a3U k).flatMap (fV f)).length≤k*65
 |0=>a4B _
 |k+1=>by have j:=CR e k;have l:=adO f k;have u:=e.a2J;have w:=e.a2G;rw[TU,a3Z];omega
theorem aBN{C:Ctx}(S:pX C){K:cP}[Up K](f:aD)(hf:f.Ok)(hV:VF f)(room:List Int)(o n z:Nat)(N:Nat){F:PF}{H:PH}
  (J:aN H [(o,cV N .aE),(n,iV f),(z,jJ)] [(.aE,4,[])]) (hF:(kD f room ⟨o,n,z,0,0⟩ 0).le F)
  (hK:∀v' H',aN H' [(o,cV N v'),(n,iV f),(z,jJ)] [(v',4,((a3U f.a2I.length).flatMap (fV f)).map bR.cells)]→K (.exit 0) (kD f room ⟨o,n,z,0,0⟩ f.a2I.length) H'):aC.wp C (.loop j5) K F H:=by
 have I:=hV.small;have hr:=hV.root;have η:=I.a2J;have θ:=I.a2G;have ι:=I.a2I;have Z:(Z' f.a2H:Int)*((1:Nat):Int)≤140737488355328:=by have:=I.a2H;omega
 have β:(Z' f.a2H:Int)≤9223372036854775807:=by have:=I.a2H;omega
 have γ:(0:Int)≤(Z' f.a2H:Int):=Om;refine wp_loop (α:=Nat × PV × PH) (λs=>kD f room ⟨o,n,z,0,0⟩ s.1) (λs=>s.2.2) (λs=>s.1≤Z' f.a2I∧aN s.2.2 [(o,cV N s.2.1),(n,iV f),(z,jJ)] [(s.2.1,4,((a3U s.1).flatMap (fV f)).map bR.cells)]) (λs=>Z' f.a2I-s.1) (0,.aE,H) ⟨a4A _,by simpa using J⟩ hF b_ ?_;rintro⟨k,v,H0⟩ ⟨hk,J⟩;simp only at hk J;simp only[go_sem,j5,ajG,kD];by_cases hlt:k<Z' f.a2I
 ·have u:(k:Int)<(Z' f.a2I:Nat):=Om;have δ:=wZz k;obtain⟨hp,he⟩:=rT hV hlt;have A:=hV.a2T _ (a3Y hp);have l:=(hf.a2T _ (a3Y hp)).a2H;rw[he]at A l;have l:(cX f k).a2H.length≤9223372036854775807:=by first|exact l|(have:=l;omega)
  obtain⟨b1,b2,b3,b4⟩:=nD hV hlt;have X:IntKind.i64.wrap ((cX f k).k+(cX f k).m)=((fQ f k:Nat):Int):=by rw[b3];exact wrap_i64 Om Om
  have ζ:=CR I k;simp only[go_sem,u,ajH,AA hlt];refine J.uI λO H1 h1=>?_;have g1:=h1.qA;have h2:=h1.wD (.rows 2 [(f.a2I[k]).cells]);simp only[go_sem,g1];generalize H1.set O (.rows 2 [(f.a2I[k]).cells])=H2 at *
  have V:=h2.qA;simp only[go_sem,ajI,V,hV.YV hlt,tR hp,he];refine h2.uI λe H3 h3=>?_;have g2:=h3.qA;have h4:=h3.wD (rS (cX f k));simp only[go_sem,g2];generalize H3.set e (.rows 17 [(cX f k).cells])=H4 at *
  simp only[go_sem,P7,a3V,Z,β,γ,Int.le_refl,a6U];refine aQ λj M=>?_;rw[O2];have h5:=h4.new M (.rows 1 (bC (marks f.a2H.length [])));generalize H4.set j (.rows 1 (bC (marks f.a2H.length [])))=H5 at *
  have w:=h5.at 4 rfl;simp only[go_sem,P8,w];refine avV f room ⟨o,n,z,e,j⟩ k (cX f k) A.2.2.2.2.2.2.2 l 5 rfl h5 (by(repeat' (first|exact c_|refine d_ ?_ ?_))<;>first|(simp only[go_sem,de,rL,kD]<;>rfl)|rfl) λH6 U=>?_;have U:aN H6 [(o,cV N v),(n,iV f),(z,jJ),(O,.rows 2 [(f.a2I[k]).cells]),(e,rS (cX f k)),(j,.rows 1 (bC (marks f.a2H.length (cX f k).a2H)))] [(v,4,((a3U k).flatMap (fV f)).map bR.cells)]:=U;have h7:aN H6 [(o,cV N v),(n,iV f),(e,rS (cX f k)),(j,.rows 1 (bC (marks f.a2H.length (cX f k).a2H))),(z,jJ)] [(v,4,((a3U k).flatMap (fV f)).map bR.cells)]:=by refine(U.wX 3).perm ?_ (a6I.refl _);show a6I [_,_,_,_,_] _;exact .cons _ (.cons _ (((List.perm_append_comm (l₁:=[(z,jJ)]) (l₂:=[(e,rS (cX f k)),(j,.rows 1 (bC (marks f.a2H.length (cX f k).a2H)))])))))
  clear U;have W:=h7.at 1 rfl;have w:=h7.at 2 rfl;have ε:¬n=e:=h7.ne 1 2 rfl rfl aX;obtain⟨Hs,s6,R,E⟩:=uh (x:=iV f) (y:=rS (cX f k)) ε;simp only[go_sem];refine aZ Hs (GK f (fK [(o,cV N v)]++eR [(v,4,((a3U k).flatMap (fV f)).map bR.cells)]) (Bf o N ((a3U k).flatMap (fV f)) ⟨0,2+k,fQ f k⟩)) (E _ W w) ?_;simp only[go_sem,Qd,rL,kD,W,R];refine O7 S (v:=k) Om rfl (E _ W w) ?_;simp only[go_sem,R,X];refine Bs S ⟨0,2+k,fQ f k⟩ (v:=v) (B2:=[(n,iV f),(e,rS (cX f k)),(j,.rows 1 (bC (marks f.a2H.length (cX f k).a2H))),(z,jJ)]) Om h7 rfl rfl λv1 H7 h8=>⟨E _ (h8.at 1 rfl) (h8.at 2 rfl),?_⟩;simp only[go_sem,Qe];refine aBL S f hV room ⟨o,n,z,e,j⟩ N k hlt ((a3U k).flatMap (fV f)++[(⟨0,2+k,fQ f k⟩:bR)]) (by rw[a3Z,a4E];omega) v1 rfl rfl h8 (by(repeat' (first|exact c_|refine d_ ?_ ?_))<;>first|(simp only[go_sem,wZ,rL,kD]<;>rfl)|rfl) λv2 H8 h9=>?_;simp only[go_sem,Qi,rL,kD];refine aBM S f hV room ⟨o,n,z,e,j⟩ N k hlt ((a3U k).flatMap (fV f)++[(⟨0,2+k,fQ f k⟩:bR)]++(a3U (Z' f.a2J-1)).map (kW f k)) (by rw[a3Z,a3Z,a4E,a3V,a6M];omega) (B:=[(n,iV f),(j,.rows 1 (bC (marks f.a2H.length (cX f k).a2H))),(z,jJ)]) v2 rfl rfl (h9.wX 2) (by(repeat' (first|exact c_|refine d_ ?_ ?_))<;>first|(simp only[go_sem,RG,kD]<;>rfl)|rfl) λv3 H9 Y=>?_;simp only[go_sem,Qn,kD,δ];refine aH (k+1,v3,H9) ⟨hlt,?_⟩ (by simp only;omega) (by(repeat' (first|exact c_|refine d_ ?_ ?_))<;>first|(simp only[go_sem,kD]<;>rfl)|rfl) b_;simp only;have ev:(a3U (k+1)).flatMap (fV f)=(a3U k).flatMap (fV f)++[(⟨0,2+k,fQ f k⟩:bR)]++(a3U (Z' f.a2J-1)).map (kW f k)++((a3U f.a2G.length).filter (okD f k)).map (eT f k):=by rw[TU];unfold fV;simp
  rw[ev];exact Y.wX 2
 ·have u:¬(k:Int)<(Z' f.a2I:Nat):=Om;have:k=Z' f.a2I:=Om;subst this;simp only[go_sem,u];exact Up.up (by(repeat' (first|exact c_|refine d_ ?_ ?_))<;>first|(simp only[go_sem,kD]<;>rfl)|rfl) (hK v H0 J)
def HB(f:aD)(room:List Int):cH:=if dX f=true then cW f room else⟨0,0,0,[]⟩
def aJU(f:aD):Int:=if dX f=true then 0 else 1
def AV(f:aD)(room:List Int):PV:=.tup [.agg (HB f room).cells,.int .i64 (aJU f)]
theorem FX{f:aD}(h:dX f=true)(room:List Int):HB f room=cW f room:=aL h
theorem qY{f:aD}(h:dX f=true):aJU f=0:=aL h
theorem FW{f:aD}(h:dX f=false):aJU f=1:=aG (by rw[h];decide)
theorem aoF{f:aD}(h:dX f=false)(room:List Int):HB f room=⟨0,0,0,[]⟩:=aG (by rw[h];decide)
theorem coL{a b:PV}(h:Co a b)(x y z w:PV):Co (.tup [.agg [x,y,z,a],w]) (.tup [.agg [x,y,z,b],w]):=by
 refine .tup rfl λj p q e hq=>?_
 match j with
 |0=>
  cases e;cases hq;refine .agg rfl λj p q e hq=>?_
  match j with
  |0=>cases e;cases hq;exact .refl _
  |1=>cases e;cases hq;exact .refl _
  |2=>cases e;cases hq;exact .refl _
  |3=>cases e;cases hq;exact h
  |j+4=>cases e
 |1=>cases e;cases hq;exact .refl _
 |j+2=>cases e
theorem cl{H:PH}{B:List BX}{v:PV}{rows:List (List PV)}{a b c e:Int}(h:aN H B [(v,4,rows)]):sV (.tup [.agg [.int .i64 a,.int .i64 b,.int .i64 c,v],.int .i64 e]) H (cY (.tup [.agg [.int .i64 a,.int .i64 b,.int .i64 c,.sl 4 rows],.int .i64 e])):=by
 rcases h.own 0 rfl with⟨j,rfl⟩|⟨q,rs,rfl,_⟩
 ·subst j;exact .done (H2:=.nil) ⟨coL (.nil 4) _ _ _ _,rfl⟩ a_
 ·obtain⟨rs,l,u,-,-,-⟩:=h.frz 0 rfl;refine .step l ?_;show sV (.tup [.agg [.int .i64 a,.int .i64 b,.int .i64 c,PV.cT q 4 rs (.osl q 4 0 rows.length)],.int .i64 e]) _ _;rw[u];exact .done (H2:=.nil) ⟨.refl _,rfl⟩ a_
theorem avW{C:Ctx}(x:pX C){K:cP}[Up K](f:aD)(hV:VF f)(room:List Int)(o n z N:Nat)(pre:List bR)(y:Z' pre≤900000){F:PF}{H:PH}(v:PV)
  (j:aN H [(o,cV N v),(n,iV f),(z,jJ)] [(v,4,pre.map bR.cells)])
  (I:((((((((PF.nil.set 4 (.ptr z 4 0 0)).set 6 (.ptr n 2 0 0)).set 7 (.ptr o 4 0 0)).set 8 (.fn 285 [.ptr o 4 0 0])).set 141 (.sl 1 (cC (nP f room)))).set 142 (.int .i64 (Z' f.a2G:Nat))).set 143 (.int .i64 0))).le F)
  (J:∀v' H',aN H' [(o,cV N v'),(n,iV f),(z,jJ)] [(v',4,(pre++(a3U f.a2G.length).map (oR f room)).map bR.cells)]→K (.exit 8) (((PF.nil.set 4 (.ptr z 4 0 0)).set 7 (.ptr o 4 0 0))) H'):aC.wp C (.loop j6) K F H:=by
 have A:=hV.small;have M:=A.a2G;refine wp_loop (α:=Nat × PV × PH) (λs=>(((((((PF.nil.set 4 (.ptr z 4 0 0)).set 6 (.ptr n 2 0 0)).set 7 (.ptr o 4 0 0)).set 8 (.fn 285 [.ptr o 4 0 0])).set 141 (.sl 1 (cC (nP f room)))).set 142 (.int .i64 (Z' f.a2G:Nat))).set 143 (.int .i64 (s.1:Nat)))) (λs=>s.2.2) (λs=>s.1≤Z' f.a2G∧aN s.2.2 [(o,cV N s.2.1),(n,iV f),(z,jJ)] [(s.2.1,4,(pre++(a3U s.1).map (oR f room)).map bR.cells)]) (λs=>Z' f.a2G-s.1) (0,v,H) ⟨a4A _,by simpa using j⟩ I b_ ?_;rintro⟨i,v,H0⟩ ⟨hi,j⟩;simp only at hi j;simp only[go_sem,j6,Qp];by_cases hlt:i<Z' f.a2G
 ·have e:(i:Int)<(Z' f.a2G:Nat):=Om;have u:=wZz i;have w:i<(nP f room).length:=by rw[sS];exact hlt
  have l:=AS w;obtain⟨r1,r2⟩:=zT hV room hlt;rw[SK,←r2]at l;have B:=j.at 1 rfl;simp only[go_sem,e,Qq,l,Qr,B];refine aB (x.drv f A i Om) rfl ?_;simp only[go_sem];refine aAD x (oR f room i) (by rw[a3Z,a3V,a6M];omega) j rfl λv' H' E=>?_;simp only[go_sem,Qs,u];refine aH (i+1,v',H') ⟨hlt,?_⟩ (by simp only;omega) Lq b_;simp only;rw[OH];exact E
 ·have e:¬(i:Int)<(Z' f.a2G:Nat):=Om;have:i=Z' f.a2G:=Om;subst this;simp only[go_sem,e];exact Up.up Lq (J v H0 j)
theorem aOR{C:Ctx}(l:pX C)(f:aD)(A:f.Ok)(room:List Int) :
  WN.wp C (aV aHR.res (cY (AV f room))) (PF.args [.agg f.cells,ints room]) .nil:=by
 simp only[go_sem,WN,aiZ,aHR];refine aQ λz S=>?_;simp only[go_sem,ajA];refine aB (l.valid f A) rfl ?_;have y:aN (PH.nil.set z jJ) [(z,jJ)] []:=aN.nil.new S jJ;generalize(PH.nil.set z jJ)=V at *
 have M:=y.at 0 rfl;cases j:dX f with
 |false =>simp only[go_sem,zc j,ajB,M];rw[AV,aoF j,FW j];have w:=(y.set 0 rfl jJ).lW 4;refine oA (vs:=[.agg [.int .i64 0,.int .i64 0,.int .i64 0,.aE],.int .i64 1]) (.inr rfl) Sq ?_;exact cl w
 |true=>
  have hV:=VF.of j;have x:=hV.small;have B:DF f=0:=by rw[DF,j];rfl
  rw[AV,FX j,qY j];simp only[go_sem,B,ajC,a3V];refine y.uI λn H2 w=>?_;have g2:=w.at 1 rfl;have E:=w.set 1 rfl (iV f);simp only[go_sem,g2];generalize H2.set n (.rows 2 [[.int .i64 (Z' f.a2I:Nat),.int .i64 (Z' f.a2J:Nat)]])=W at *
  have N:=E.at 1 rfl;simp only[go_sem,ajD,N,a3V];refine aB (l.drv f x f.a2G.length (by have:=x.a2G;omega)) rfl ?_;simp only[go_sem];refine E.uI λo J F=>?_;have g4:=F.at 2 rfl;have h5:=F.set 2 rfl (cV (bG f f.a2G.length) .aE);simp only[go_sem,g4];generalize J.set o (.rows 4 [[.int .i64 ((bG f f.a2G.length:Nat):Int),.int .i64 0,.int .i64 1,.aE]])=K at *
  have O:aN K [(o,cV (bG f f.a2G.length) .aE),(n,iV f),(z,jJ)] [(.aE,4,[])]:=by refine(h5.lW 4).perm ?_ (a6I.refl _);exact(List.reverse_perm _).symm
  simp only[go_sem,ajE,ajF];refine aBN l f A hV room o n z _ O (by(repeat' (first|exact c_|refine d_ ?_ ?_))<;>first|(simp only[go_sem,kD]<;>rfl)|rfl) λU X h7=>?_;have u:=(l.roomM f room A).freeze;rw[JB,aL j]at u;simp only[go_sem,Qo,kD];refine aB u rfl ?_;simp only[go_sem,jR,sS];refine avW l f hV room o n z _ ((a3U f.a2I.length).flatMap (fV f)) (by have:=CR x f.a2I.length;have:=x.a2I;omega) U h7 (by(repeat' (first|exact c_|refine d_ ?_ ?_))<;>first|(simp only[go_sem,jR,sS]<;>rfl)|rfl) λI Y h8=>?_;have a7:=h8.at 0 rfl;have a4:=h8.at 2 rfl;have R:=h8.set 2 rfl (cV (bG f f.a2G.length) I);simp only[go_sem,Qt,a7,a4];refine⟨_,aL ?_,?_⟩
  ·rcases h8.own 0 rfl with⟨_,e⟩|⟨q,rs,e,_⟩<;>rw[e]
  refine oA (vs:=[.agg [.int .i64 ((bG f f.a2G.length:Nat):Int),.int .i64 0,.int .i64 1,I],.int .i64 0]) (.inr rfl) Sq ?_;exact cl R
theorem aDQ{C:Ctx}(n:cH)(j:fD n):LH.wp C (aV X9.res (aK (.bool true))) (PF.args [.agg n.cells]) .nil:=by
 have a1:¬(n.nodes:Int)<2:=by have:=j.two;omega
 have a2:¬(n.nodes:Int)>700:=by have:=j.few;omega
 have a3:¬(Z' n.arcs:Int)>2500:=by have:=j.num;omega
 have a4:¬(n.source:Int)=n.sink:=by have:=j.apart;omega
 have a5:¬(n.source:Int)<0:=Om;have a6:¬(n.source:Int)≥n.nodes:=by have:=j.source;omega
 have a7:¬(n.sink:Int)<0:=Om;have a8:¬(n.sink:Int)≥n.nodes:=by have:=j.sink;omega
 have J:=j.num;simp only[go_sem,LH,Jb,X9,Jc,a1,a2,a3,a5,a6,a7,a8,bJ a4,Jd,a3V];refine wp_loop (α:=Nat) (λk=>((PF.nil.set 1 (.bU n.cells)).set 3 (.int .i64 (k:Nat)))) (λ_=>.nil) (λk=>k≤Z' n.arcs) (λk=>Z' n.arcs-k) 0 (a4A _) Lq a_ ?_;intro k B;simp only[go_sem,Ja,Je,a3V];by_cases hlt:k<Z' n.arcs
 ·have e:(k:Int)<(Z' n.arcs:Nat):=Om;obtain⟨E,F,I⟩:=j.ends _ (a3Y hlt);have l:¬((n.arcs[k]).src:Int)<0:=Om;have u:¬((n.arcs[k]).src:Int)≥n.nodes:=Om;have w:¬((n.arcs[k]).dst:Int)<0:=Om;have x:¬((n.arcs[k]).dst:Int)≥n.nodes:=Om;have y:¬((n.arcs[k]).cap:Int)<0:=Om;have A:¬((n.arcs[k]).cap:Int)>2147483647:=Om;simp only[go_sem,e,Jf,AJ hlt];refine aQ λp K=>?_;simp only[go_sem,Jg,l,u,w,x,y,A,Jh,wZz k];exact aH (k+1) hlt Om Lq a_
 ·have e:¬(k:Int)<(Z' n.arcs:Nat):=Om;simp only[go_sem,e,xx];refine aT (.inr rfl) Ev ?_;rfl
theorem aQN{C:Ctx}(O:∀n:cH,fD n→aJ C 299 [.agg n.cells] .nil (aK (.bool true)))(n:cH)(u:fD n)(cut:List Bool)(l:b8 n cut) :
  YO.wp C (aV aKE.res (aK (.tup [.int .i64 ((eD (λw=>cut.getD w false) n.arcs:Nat):Int),.bool true]))) (PF.args [.agg n.cells,kC cut]) .nil:=by
 have a1:(Z' cut:Int)=n.nodes:=by have:=l.len;omega
 have I:n.source<Z' cut:=by rw[l.len];exact u.source
 have J:n.sink<Z' cut:=by rw[l.len];exact u.sink
 have U:=u.num;have x:kC cut=.sl 1 (bC cut):=rfl;rw[x];simp only[go_sem,YO,apF,aKE,apG];refine aB (O n u) Ev ?_;simp only[go_sem,hJ,bW a1,fA I,fA J,l.src,l.snk,apH,apI];refine wp_loop (α:=Nat) (λk=>((((PF.nil.set 1 (.sl 1 (bC cut))).set 2 (.bU n.cells)).set 6 (.int .i64 ((eD (λw=>cut.getD w false) (n.arcs.take k):Nat):Int))).set 7 (.int .i64 (k:Nat)))) (λ_=>.nil) (λk=>k≤Z' n.arcs) (λk=>Z' n.arcs-k) 0 (a4A _) Lq a_ ?_;intro k R;simp only[go_sem,apE,apJ,a3V];by_cases hlt:k<Z' n.arcs
 ·have j:(k:Int)<(Z' n.arcs:Nat):=Om;obtain⟨M,N,S⟩:=u.ends _ (a3Y hlt);have K:(n.arcs[k]).src<Z' cut:=by rw[l.len];exact M
  have B:(n.arcs[k]).dst<Z' cut:=by rw[l.len];exact N
  have y:=Ei (λw=>cut.getD w false) n.arcs hlt;have hb:=Ej u (λw=>cut.getD w false) (k+1);simp only[go_sem,j,apK,AJ hlt,fA K,fA B];cases E:cut.getD (n.arcs[k]).src false with
  |false =>rw[aG (by rw[E];rintro⟨h,-⟩;cases h),a5H]at y;simp only[go_sem,dg,wZz k];exact aH (k+1) hlt Om (by(repeat' (first|exact c_|refine d_ ?_ ?_))<;>first|(simp only[go_sem,y]<;>rfl)|rfl) a_
  |true=>
   simp only[go_sem,AJ hlt,fA B];cases F:cut.getD (n.arcs[k]).dst false with
   |true =>rw[aG (by rw[F];rintro⟨-,h⟩;cases h),a5H]at y;simp only[go_sem,dg,wZz k];exact aH (k+1) hlt Om (by(repeat' (first|exact c_|refine d_ ?_ ?_))<;>first|(simp only[go_sem,y]<;>rfl)|rfl) a_
   |false=>
    rw[aL ⟨E,F⟩]at y;have e:IntKind.i64.wrap (((eD (λw=>cut.getD w false) (n.arcs.take k):Nat):Int)+((n.arcs[k]).cap:Int))=((eD (λw=>cut.getD w false) (n.arcs.take (k+1)):Nat):Int):=by rw[wrap_i64 Om Om];omega
    simp only[go_sem,apL,AJ hlt,e,dg,wZz k];exact aH (k+1) hlt Om Lq a_
 ·have j:¬(k:Int)<(Z' n.arcs:Nat):=Om;have A:n.arcs.take k=n.arcs:=a4N Om;simp only[go_sem,j,X4,A];refine aT (.inr rfl) Ev ?_;rfl
abbrev dB:=Nat × Bool
def noA:bR:=⟨0,0,0⟩
def bX(n:cH)(i:Nat):bR:=n.arcs.getD i noA
def gG(n:cH)(s:dB):Nat:=if s.2=true then(bX n s.1).dst else(bX n s.1).src
def dW(n:cH)(s:dB):Nat:=if s.2=true then(bX n s.1).src else(bX n s.1).dst
def eA(n:cH)(xs:List Nat)(s:dB):Nat:=if s.2=true then(bX n s.1).cap-xs.getD s.1 0 else xs.getD s.1 0
structure rA(n:cH)(xs:List Nat)(Q:List Nat)(way:Nat→dB):Prop where
 first:∃t,Q=n.source::t
 nd:Q.Nodup
 lt:∀v∈Q,v<n.nodes
 way:∀v∈Q,v≠n.source→(way v).1<Z' n.arcs∧gG n (way v)=v∧0<eA n xs (way v)∧dW n (way v)∈Q∧Q.idxOf (dW n (way v))<Q.idxOf v
def GF(n:cH)(xs:List Nat)(Q:List Nat)(k:Nat):Prop:=∀v∈Q.take k,∀s:dB,s.1<Z' n.arcs→dW n s=v→0<eA n xs s→gG n s∈Q
theorem xF{n:cH}{i:Nat}{a:bR}(h:n.arcs[i]?=some a):bX n i=a:=by unfold bX;rw[a4D,h];rfl
theorem Z6{n:cH}(B:fD n){xs:List Nat}(w:jM n xs){Q:List Nat}{way:Nat→dB}(y:rA n xs Q way)(hD:GF n xs Q Q.length)(E:n.sink ∉ Q):kM n xs=eD (λv=>Q.contains v) n.arcs:=by
 obtain⟨t,F⟩:=y.first;refine w.full B (by rw[F];simp) (by simpa using E) λi a x e u=>⟨λj l=>?_,λj l=>?_⟩
 ·have hi:=(a5A.1 e).1;have j:a.src∈Q:=by simpa using j
  have l:a.dst ∉ Q:=by simpa using l
  have A:=w.le i a x e u;rcases a4R x a.cap with c|c
  ·refine absurd (hD a.src (by rw[a5F];exact j) (i,true) hi ?_ ?_) ?_
   ·unfold dW;rw[aL rfl,xF e]
   ·unfold eA;rw[aL rfl,xF e,a4D,u];simp only[a6R];omega
   ·unfold gG;rw[aL rfl,xF e];exact l
  ·omega
 ·have hi:=(a5A.1 e).1;have j:a.src ∉ Q:=by simpa using j
  have l:a.dst∈Q:=by simpa using l
  rcases a6C x with c|c
  ·exact c
  ·refine absurd (hD a.dst (by rw[a5F];exact l) (i,false) hi ?_ ?_) ?_
   ·unfold dW;rw[aG (show ¬(false=true) by decide),xF e]
   ·unfold eA;rw[aG (show ¬(false=true) by decide),a4D,u];exact c
   ·unfold gG;rw[aG (show ¬(false=true) by decide),xF e];exact j
inductive wH (n:cH) (Q:List Nat) (way:Nat→dB):Nat→List dB→Prop
 |nil:wH n Q way n.source []
 |cons {v:Nat} {L:List dB} (hv:v∈Q) (hne:v≠n.source) (h:wH n Q way (dW n (way v)) L):wH n Q way v (way v::L)
theorem Eg{n:cH}{xs Q:List Nat}{way:Nat→dB}(w:rA n xs Q way):∀(m v:Nat),Q.idxOf v=m→v∈Q→∃L,wH n Q way v L∧Z' L≤m:=by
 intro m
 induction m using Nat.strongRecOn with
 |ind m x=>
  intro v F j;by_cases e:v=n.source
  ·subst e;exact⟨[],.nil,a4A _⟩
  ·obtain⟨y,A,B,l,h5⟩:=w.way v j e;obtain⟨L,u,E⟩:=x _ Om (dW n (way v)) rfl l;exact⟨way v::L,.cons j e u,by simp;omega⟩
theorem wH.aZT{n:cH}{xs Q:List Nat}{way:Nat→dB}(x:rA n xs Q way):∀{v:Nat}{L:List dB},wH n Q way v L→v∈Q→∀s∈L,s.1<Z' n.arcs∧0<eA n xs s∧Q.idxOf (dW n s)<Q.idxOf (gG n s)∧Q.idxOf (gG n s)≤Q.idxOf v:=by
 intro v L h
 induction h with
 |nil=>intro _ s hs;cases hs
 |@cons v L y e h A=>
  intro _ s hs;obtain⟨l,j,u,w,h5⟩:=x.way v y e;rcases a4J.1 hs with rfl|hs
  ·exact⟨l,u,by rw[j];exact h5,by rw[j];exact a4B _⟩
  ·obtain⟨g1,g2,g3,g4⟩:=A w s hs;exact⟨g1,g2,g3,by omega⟩
theorem wH.apart{n:cH}{xs Q:List Nat}{way:Nat→dB}(w:rA n xs Q way){v:Nat}{s:dB}{L:List dB}(h:wH n Q way v (s::L))(B:v∈Q):∀s'∈L,s'.1≠s.1:=by
 intro s' u e;cases h with
 |cons _ l h=>
  obtain⟨E,y,F,A,h5⟩:=w.way v B l;obtain⟨g1,g2,g3,g4⟩:=h.aZT w A s' u;have x:Q.idxOf (dW n (way v))<Q.idxOf (gG n (way v)):=by rw[y];exact h5
  unfold gG dW at x g3 g4;rw[e]at g3 g4;have I:=g4;cases hb:(way v).2<;>cases j:s'.2<;>simp only[hb,j,a6Z,if_true,if_false]at x g3 g4<;>omega
def push(e:Nat)(j:List Nat)(s:dB):List Nat:=j.set s.1 (if s.2=true then j.getD s.1 0+e else j.getD s.1 0-e)
theorem oi(e:Nat)(j:List Nat)(s:dB):(push e j s).length=Z' j:=by unfold push;rw[a5Q]
structure ca(n:cH)(xs ys:List Nat)(amt v:Nat)(L:List dB):Prop where
 len:Z' ys=Z' n.arcs
 le:∀(i:Nat) a x,n.arcs[i]?=some a→ys[i]?=some x→x≤a.cap
 net:∀w,hZ n.arcs ys w=hZ n.arcs xs w-(if w=n.sink then(amt:Int)else 0)+(if w=v then(amt:Int)else 0)
 same:∀s∈L,ys.getD s.1 0=xs.getD s.1 0
theorem Gw{n:cH}{xs:List Nat}(j:jM n xs)(e:Nat)(L:List dB):ca n xs xs e n.sink L:=⟨j.len,j.le,λw=>by split<;>omega,λ_ _=>rfl⟩
theorem Vs{n:cH}{xs K Q:List Nat}{way:Nat→dB}(R:rA n xs Q way){j v:Nat}{s:dB}{L:List dB}(l:ca n xs K j v (s::L))(hB:wH n Q way v (s::L))(U:v∈Q)(E:j≤eA n xs s) :
  dW n s∈Q∧wH n Q way (dW n s) L∧ca n xs (push j K s) j (dW n s) L:=by
 have M:=hB.apart R U;cases hB with
 |cons _ N hB=>
  obtain⟨O,B,W,V,h5⟩:=R.way v U N;generalize way v=s at *
  have u:n.arcs[s.1]?=some (bX n s.1):=by unfold bX;rw[a4D,a4C O];rfl
  have I:s.1<Z' K:=by rw[l.len];exact O
  have F:K[s.1]?=some (K.getD s.1 0):=by rw[a4D,a4C I];rfl
  have y:=l.same s aW;have S:=l.le _ _ _ u F;unfold eA at E;rw[←y]at E;refine⟨V,hB,by rw[oi];exact l.len,λi a x hi A=>?_,λw=>?_,λs' J=>?_⟩
  ·unfold push at A;by_cases e:i=s.1
   ·subst e;rw[List.getElem?_set_self I]at A;rw[u]at hi;cases hi;simp only[a6H.injEq]at A;subst A;cases hb:s.2 with
    |true=>rw[hb,aL rfl]at E;rw[aL rfl];omega
    |false=>rw[aG aX];omega
   ·rw[List.getElem?_set_ne (λh=>e h.symm)]at A;exact l.le i a x hi A
  ·unfold push;rw[aoG _ u F,l.net];unfold gG at B;unfold dW;cases hb:s.2 with
   |true =>rw[hb,aL rfl]at E B;simp only[if_true];rw[B];split<;>split<;>split<;>split<;>omega
   |false =>rw[hb,aG aX]at E B;simp only[a6Z,if_false];rw[B];split<;>split<;>split<;>split<;>omega
  ·unfold push;have:=M s' J;rw[a4D,List.getElem?_set_ne (λh=>this h.symm),←a4D];exact l.same s' (a7B _ J)
theorem Vq{n:cH}(y:fD n){xs l:List Nat}(x:jM n xs){e:Nat}{L:List dB}(j:ca n xs l e n.source L):jM n l∧kM n l=kM n xs+e:=by
 refine⟨⟨j.len,j.le,λv A u w=>?_⟩,?_⟩
 ·rw[j.net,x.node v A u w,aG w,aG u];rfl
 ·unfold kM;rw[j.net,aG y.apart,aL rfl];omega
end Go.PM
