/-
  Texts of ours, joined. No condition.
-/
import Derived.Test.YtjdkjdadjfbopaaGreatDoorLE1
import Derived.Test.YtjdkjdadjfbopaaGreatDoorLE2
import Derived.Test.YtjdkjdadjfbopaaGreatDoorLE3
import Derived.Test.YtjdkjdadjfbopaaGreatDoorLE4
import Derived.Test.YtjdkjdadjfbopaaGreatDoorRows
import Derived.Test.YtjdkjdadjfbopaaGreatDoorProg
import Derived.KernelRfl
import Derived.ProofKit
import Derived.WalkKit
import Derived.LaidMore
import Derived.OpenShut
import Derived.Stop.Joined
import Derived.Lib.SlicesCompact
import Derived.Shelf.Sort.Plain
import Derived.Shelf.Slices.CompactI
import Derived.Shelf.Slices.In.SortNone
set_option linter.unusedSimpArgs false
set_option linter.unusedVariables false
open Nat renaming reduceEqDiff→γ,reduceAdd→δ,reduceSub→ε,reduceMul→ζ,reduceLT→η,reduceLeDiff→θ,reduceBEq→τ
open Int renaming reduceLT→ι,reduceLE→κ,reduceEq→μ,reduceToNat→ν,reduceAdd→ξ,reduceNeg→ο,reduceBEq→ρ,reduceBNe→σ
open List renaming reduceReplicate→υ
open List renaming length_map→a7Z,range→a8A,replicate→a8D,length_append→a8F,getElem_mem→a8G,length_singleton→a8J,mem_cons→a8M,getElem?_eq_getElem→a8N,length_take→a8S,take_of_length_le→a8T,all_eq_true→a8U,getD_eq_getElem?_getD→a8V,not_mem_nil→a8W,getElem?_map→a8Y,map_append→a8Z,mem_map→a9B,map_cons→a9D,take_length→a9E,append_assoc→a9G,getElem?_eq_some_iff→a9I,mem_range→a9M,getElem?_eq_none→a9N,length_cons→a9O,getElem_map→a9Q,length_set→a9R,mem_append→a9T,append_nil→a9W,getElem_of_mem→a9X,map_nil→baB,take_succ_eq_append_getElem→baC,length_nil→baE,length_drop→baG,range'→baI,drop_eq_getElem_cons→baJ,Sublist→baM,getElem?_append_right→baP,mem_singleton→baQ,getElem?_append_left→baW,ext_getElem→baX,map_congr_left→baZ,nodup_append→bbA,set_append_right→bbB,take_append_drop→bbC,map_map→bbG,all_cons→bbP,nil_append→bbS,range_succ→bbT,set_cons_zero→bbW,getElem?_set→bcD,mem_or_eq_of_mem_set→bcE,getElem_append_right→bcF
open Nat renaming gcd→a8B,le_refl→a8E,zero_le→a8H,mul_add→a8O,zero_add→a8Q,lt_or_ge→a9A,le_trans→a9F,mul_le_mul_right→a9K,pow_succ→baD,add_assoc→baL,eq_zero_or_pos→baR,pos_of_ne_zero→baU,sub_self→baV,div_le_self→bbH,succ_mul→bbI,mul_le_mul→bbM,pow_le_pow_right→bbU
open Bool renaming and_eq_true→a8C,not_true→a8I,false_and→a8L,not_false→a8P,true_and→a8R,and_false→a9S,and_true→baN,and_assoc→bbK,and_self→bbL
open Option renaming map_some→a8X,some→a9V,getD_some→bbE
open Int renaming toNat_natCast→baA,tdiv→baO
open List renaming length→Z'
set_option maxRecDepth 100000
set_option maxHeartbeats 800000
noncomputable section
namespace Go.Proofs.YtjdkjdadjfbopaaGreatDoor
open Go Go.PM Go.RowKit Go.ChangeShapes Go.WideShapes
noncomputable def C:Ctx:=⟨Tryz.prog,num⟩
def cc:Code→Option (Code × Code)
 | .rangeFunc _ _ a b=>some (a,b)
 | .seq a b=>match cc a with|some x=>some x|none=>cc b
 | .block _ c=>cc c
 |_=>none
def aRP(c:Option Code):Code:=match c with|some c=>((cc c).getD (.skip,.skip)).1|none=>.skip
def aRQ(c:Option Code):Code:=match c with|some c=>((cc c).getD (.skip,.skip)).2|none=>.skip
theorem bV(T:Tbl){k:Nat}{fn:Func}{pf:bC}(l:C.P.funcs[C.num k]?=some fn)(e:C.P=T.P:=by rfl)(d:C.num=T.num:=by rfl)(u:(fn.name=="runtime.NumGoroutine")=false:=by kernel_rfl)(i:T.func fn=some pf:=by kernel_rfl):bS C k pf:=λ_ _ _ p h=>Hz e d l u i p h
theorem aRS(T:Tbl){k:Nat}{fn:Func}{pf:GQ}(l:C.P.funcs[C.num k]?=some fn)(i:T.ayB fn=some pf)(e:C.P=T.P:=by rfl)(d:C.num=T.num:=by rfl)(u:(fn.name=="runtime.NumGoroutine")=false:=by kernel_rfl):t8 C k pf:=λ_ _ _ p h=>axQ e d l u i p h
theorem Tryz.own:ownKnob Tryz.prog.godebug=none:=by kernel_rfl
theorem Tryz.laidOut:laidOutB Tryz.prog=true:=by kernel_rfl
theorem itoa:AI C:=λn p=>by
 refine⟨⟨Tryz.f74,Tryz.func74,by kernel_rfl,by kernel_rfl⟩,λE w vs u hW d=>?_⟩;obtain⟨x⟩:=vs;cases d with
 |cons i e2=>
 cases e2;cases i;refine(Any.strconv_Itoa_small Tryz.aTS n p w).mono λe y l=>?_;obtain⟨rfl,rfl⟩:=l;exact⟨_,.str (cU n),E,.nil,rfl,hW,.str ⟨(Lib.decDigits n).toArray⟩,.refl _ _ _,rfl,rfl⟩
theorem aDI{pv:PV}(h:PV.Ty (.sl [.int .u8]) pv):∃l:List Nat,pv=.sl 1 (nL l)∧(∀x∈l,x<256)∧Z' l≤9223372036854775807:=by
 obtain⟨xs,rfl,w,e⟩:=Ty.aMM h;refine⟨xs.map Int.toNat,?_,?_,?_⟩
 ·unfold azA nL;rw[bbG];congr 1;refine baZ λx i=>?_;have:=(e x i).1;simp only[Function.comp];rw[Int.toNat_of_nonneg this]
 ·intro y p;obtain⟨x,d,rfl⟩:=a9B.1 p;have:=(e x d).2;have u:=(e x d).1;have d:IntKind.u8.max=255:=by decide
  rw[d]at this;omega
 ·rw[a7Z];have:maxLen≤9223372036854775807:=by decide
  omega
end Go.Proofs.YtjdkjdadjfbopaaGreatDoor
namespace Go.PM
open Go Go.Na
theorem nU{f:aE}(h:VF f){i:Nat}(hi:i<Z' f.a6R):0≤lvl f i∧lvl f i≤4:=by
 rcases baR i with e|e
 ·rw[e,h.root.2.1];omega
 ·have:=h.dom i e hi;omega


theorem aoH(a b:Nat):mkT (a:Int) (b:Int)=⟨false,aM (a/a8B a b),aM (b/a8B a b)⟩:=by
 have d:decide ((a:Int)<0)=false:=cB Om;have e:decide ((b:Int)<0)=false:=cB Om;unfold mkT qV FV.rf;rw[d,e,Int.natAbs_natCast,Int.natAbs_natCast];rfl
structure SmF(x:RF)(p q:Nat):Prop where
 eq:x=⟨false,aM (p/a8B p q),aM (q/a8B p q)⟩
 a:p≤64
 b:q≤64
 pos:0<q
theorem SmF.mk'{a b:Nat}(d:a≤64)(hb:b≤64)(h:0<b):SmF (mkT (a:Int) (b:Int)) a b:=⟨aoH a b,d,hb,h⟩
theorem SmF.num{x:RF}{a b:Nat}(h:SmF x a b):val x.num=a/a8B a b:=by rw[h.eq,aZ]
theorem SmF.den{x:RF}{a b:Nat}(h:SmF x a b):val x.den=b/a8B a b:=by rw[h.eq,aZ]
theorem SmF.v{x:RF}{a b:Nat}(h:SmF x a b):x.v=(false,a/a8B a b,b/a8B a b):=by
 unfold RF.v;rw[h.num,h.den,h.eq]
theorem SmF.aaM{x:RF}{a b:Nat}(_:SmF x a b):a/a8B a b≤a:=bbH ..
theorem SmF.S4{x:RF}{a b:Nat}(_:SmF x a b):b/a8B a b≤b:=bbH ..
theorem SmF.den_pos{x:RF}{a b:Nat}(h:SmF x a b):0<b/a8B a b:=Nat.div_pos (Nat.le_of_dvd h.pos (Nat.gcd_dvd_right a b)) (Nat.gcd_pos_of_pos_right a h.pos)
theorem FU{n:Nat}(h:n≤4096):dJ n≤32:=(pZ n 32).2 Om
theorem aiA{n:Nat}(h:0<n):0<dJ n:=by
 rcases baR (dJ n)with e|e
 ·rw[nN]at e;omega
 ·exact e
theorem zY{a b:Nat}(e:a≤4096)(hb:b≤4096)(h:0<b):dV a b=true:=by
 have i:=FU e;have l:=FU hb;have d:=aiA h;unfold dV;rw[bN d,bN (Om:dJ b≤4096),bN (Om:dJ a≤4096)];rfl
theorem aoD{n:Bool}{a b:Nat}(d:a≤4096)(hb:b≤4096):lJ n a b=.ok (n&&decide (a/a8B a b≠0),a/a8B a b,b/a8B a b):=by
 have e:=FU (a9F (bbH a (a8B a b)) d);have i:=FU (a9F (bbH b (a8B a b)) hb);unfold lJ;rw[aD Om]
theorem SmF.lim{x:RF}{a b:Nat}(h:SmF x a b):dT x=true:=by
 have l:=h.aaM;have p:=h.S4;have d:=h.den_pos;have:=h.a;have:=h.b;have e:x.neg=false:=by rw[h.eq]
 unfold dT sI;rw[h.num,h.den,e,zY Om Om d,aG rfl,aoD Om Om];have i:=bbH (a/a8B a b) (a8B (a/a8B a b) (b/a8B a b));have e2:=bbH (b/a8B a b) (a8B (a/a8B a b) (b/a8B a b));simp only[a8L,a8P,a8R,a8C,decide_eq_true_eq];exact⟨FU Om,FU Om⟩
theorem SmF.uO{x:RF}{a b:Nat}(h:SmF x a b)(d:0<a):bT x=true:=by
 unfold bT;rw[h.num];exact bN (Nat.ne_of_gt (Nat.div_pos (Nat.le_of_dvd d (Nat.gcd_dvd_left a b)) (Nat.gcd_pos_of_pos_right a h.pos)))
theorem SmF.zero{x:RF}{b:Nat}(h:SmF x 0 b):bT x=false:=by
 unfold bT;rw[h.num,Nat.zero_div];rfl
theorem SmF.one{x:RF}{a b:Nat}(h:SmF x a b)(d:a≤b):DN x=true:=by
 have l:=h.aaM;have p:=h.S4;have e:=h.den_pos;have:=h.a;have:=h.b;have i:x.neg=false:=by rw[h.eq]
 unfold DN;rw[h.num,h.den,i,zY Om Om e];have:a/a8B a b≤b/a8B a b:=Nat.div_le_div_right d;show(true&&decide (fA (a/a8B a b*1) (1*(b/a8B a b))≤0))=true;rw[Nat.mul_one,Nat.one_mul,a8R];refine bN ?_;unfold fA;split
 ·decide
 ·split
  ·omega
  ·decide
theorem SmF.ok{x:RF}{a b:Nat}(h:SmF x a b):x.Ok:=by
 have d:=h.aaM;have e:=h.S4;have:=h.a;have:=h.b;have k1:nl (a/a8B a b)≤1:=(lS _ _).2 Om;have k2:nl (b/a8B a b)≤1:=(lS _ _).2 Om;rw[h.eq];refine⟨bB _,bB _,?_,?_⟩
 ·show(aM _).length≤_;rw[bG];omega
 ·show(aM _).length≤_;rw[bG];omega
theorem aSM:∀c:Fin 9,∀k:Fin 9,c.val+k.val≤8 →
  (c.val/a8B c.val 8*(8/a8B k.val 8)+k.val/a8B k.val 8*(8/a8B c.val 8))/a8B (c.val/a8B c.val 8*(8/a8B k.val 8)+k.val/a8B k.val 8*(8/a8B c.val 8)) (8/a8B c.val 8*(8/a8B k.val 8))=(c.val+k.val)/a8B (c.val+k.val) 8 ∧
  8/a8B c.val 8*(8/a8B k.val 8)/a8B (c.val/a8B c.val 8*(8/a8B k.val 8)+k.val/a8B k.val 8*(8/a8B c.val 8)) (8/a8B c.val 8*(8/a8B k.val 8))=8/a8B (c.val+k.val) 8:=by decide +kernel
abbrev eV(c:Nat):FV:=(false,c/a8B c 8,8/a8B c 8)
theorem i8(c:Nat):0<8/a8B c 8:=Nat.div_pos (Nat.le_of_dvd aV (Nat.gcd_dvd_right c 8)) (Nat.gcd_pos_of_pos_right c aV)
theorem Ru{c k:Nat}(h:c+k≤8):kI (eV c) (eV k)=.ok (eV (c+k)):=by
 obtain⟨d,e2⟩:=aSM ⟨c,by omega⟩ ⟨k,by omega⟩ h;simp only at d e2;have a1:=bbH c (a8B c 8);have a2:=bbH k (a8B k 8);have a3:=bbH 8 (a8B c 8);have a4:=bbH 8 (a8B k 8);have e:=i8 c;have i:=i8 k;simp only[kI];rw[zY Om Om e,zY Om Om i,bbL,aG rfl,aG trivial];have b1:c/a8B c 8*(8/a8B k 8)≤8*8:=bbM Om a4;have b2:k/a8B k 8*(8/a8B c 8)≤8*8:=bbM Om a3;have l:8/a8B c 8*(8/a8B k 8)≤8*8:=bbM a3 a4;rw[aoD Om Om,d,e2];rfl
theorem c7:∀(l:List Nat)(c:Nat),c+l.sum≤8→(l.map eV).foldlM kI (eV c)=.ok (eV (c+l.sum))
 |[],c,_=>rfl
 |k::l,c,h=>by rw[List.sum_cons]at h;rw[a9D,List.foldlM_cons,Ru Om,List.sum_cons,←baL];exact c7 l (c+k) Om
theorem aSL:eV 0=(false,0,1):=by decide +kernel
theorem aLF:eV 8=(false,1,1):=by decide +kernel
theorem aVG(l:List Nat)(h:l.sum=8):(match rO (l.map eV)with
  | .ok (n,a,b)=>decide (tZ n a b false 1 1=0)
  | .error _=>false)=true:=by
 unfold rO;rw[←aSL,c7 l 0 Om,a8Q,h,aLF];rfl
def dig(k:Nat):List UInt8:=if k<10 then[UInt8.ofNat (48+k)]else[UInt8.ofNat (48+k/10),UInt8.ofNat (48+k%10)]
def iw:List UInt8→Nat
 |[a]=>a.toNat-48
 |[a,b]=>(a.toNat-48)*10+(b.toNat-48)
 |_=>0
theorem ZJ{k:Nat}(h:k<100):cU k=dig k:=by
 unfold cU dig;by_cases d:k<10
 ·rw[aG d];exact Lib.decDigits_one d
 ·rw[aD d];exact Lib.decDigits_two d h
theorem S6:∀k:Fin 100,iw (dig k.val)=k.val∧(dig k.val).length≤2∧((dig k.val).all λc=>jK c.toNat)=true:=by decide +kernel
theorem Em{p:List UInt8}{c:UInt8}{t:List UInt8}(e:p=c::t)(i:gR c.toNat=true)(w:(t.all λc=>jK c.toNat)=true)(x:Z' p≤8){k:Nat}(l:k<100):isName (p++cU k)=true:=by
 obtain⟨-,u,d⟩:=S6 ⟨k,l⟩;simp only at u d;subst e;rw[ZJ l];show(decide ((c::t++dig k).length≤16)&&gR c.toNat&&(c::t++dig k).all λc=>jK c.toNat)=true;have hi:jK c.toNat=true:=by unfold jK;rw[i];rfl
 rw[bN (by rw[a8F];omega),i,List.all_append,d,bbP,w,hi];rfl
theorem i7{l:List (List UInt8)}(d:∀x∈l,isName x=true)(p:l.Nodup):distinct l=true:=by
 unfold distinct;rw[a8U];intro i hi;rw[a9M]at hi;have e:l.getD i []=l[i]:=by simp[a8V,hi]
 rw[e,d _ (a8G hi),a8R];have:¬l[i]∈l.take i:=by intro w;obtain⟨j,u,e⟩:=a9X w;rw[a8S]at u;rw[List.getElem_take]at e;have:=(List.nodup_iff_pairwise_ne.1 p);rw[List.pairwise_iff_getElem]at this;exact this j i Om hi Om e
 simp[this]
theorem al{l:List (List UInt8)}{g:List UInt8→Nat}(h:∀i (hi:i<Z' l),g l[i]=i):l.Nodup:=by
 rw[List.nodup_iff_pairwise_ne,List.pairwise_iff_getElem];intro i j hi p hlt e;have d:=h i hi;have u:=h j p;rw[e]at d;omega
theorem yV{l:List (List UInt8)}{p:List UInt8}{c:UInt8}{t:List UInt8}(e:p=c::t)(d:gR c.toNat=true)(w:(t.all λc=>jK c.toNat)=true)(u:Z' p≤8)(A:Z' l≤100)(h:∀i (hi:i<Z' l),l[i]=p++cU i):distinct l=true:=by
 refine i7 ?_ (al (g:=λs=>iw (s.drop p.length)) ?_)
 ·intro x y;obtain⟨i,hi,rfl⟩:=a9X y;rw[h i hi];exact Em e d w u Om
 ·intro i hi;rw[h i hi];simp only[List.drop_left];rw[ZJ Om];exact(S6 ⟨i,by omega⟩).1
structure yK(x:RF):Prop where
 lim:dT x=true
 ok:x.Ok
theorem SmF.o{x:RF}{a b:Nat}(h:SmF x a b):yK x:=⟨h.lim,h.ok⟩
theorem uK:SmF mV 0 1:=SmF.mk' (a:=0) (b:=1) aV aV aV
theorem xB(l:List Nat)(a:Nat):yK (jA l a).1∧bT (jA l a).1=true:=by
 have d:=dC l (show 0<6 by decide) a;have e:=dC l (show 0<8 by decide) (aL l 6 a).2;have:=SmF.mk' (a:=1+(aL l 6 a).1) (b:=1+(aL l 8 (aL l 6 a).2).1) Om Om Om;exact⟨this.o,this.uO Om⟩
theorem aKI(l:List Nat)(i j a:Nat):yK (lP l i j a).1∧(j=i→bT (lP l i j a).1=false)∧(j=i+1→bT (lP l i j a).1=true):=by
 unfold lP;by_cases d:j=i+1
 ·rw[aG d];exact⟨(xB l a).1,λh=>by omega,λ_=>(xB l a).2⟩
 ·rw[aD d];by_cases e:j=i
  ·rw[aG e];exact⟨uK.o,λ_=>uK.zero,λh=>absurd h d⟩
  ·rw[aD e];simp only;split
   ·exact⟨(xB l _).1,λh=>absurd h e,λh=>absurd h d⟩
   ·exact⟨uK.o,λh=>absurd h e,λh=>absurd h d⟩
theorem arG(l:List Nat)(i a:Nat):∀n,(fE l i a n).1.length=n∧∀j (d:j<(fE l i a n).1.length),yK (fE l i a n).1[j]∧(j=i→bT (fE l i a n).1[j]=false)∧(j=i+1→bT (fE l i a n).1[j]=true)
 |0=>⟨rfl,λj d=>absurd d (by simp[fE])⟩
 |n+1=>by
  obtain⟨p,u⟩:=arG l i a n;have e:(fE l i a (n+1)).1=(fE l i a n).1++[(lP l i n (fE l i a n).2).1]:=rfl;rw[e];refine⟨by simp[p],λj d=>?_⟩;by_cases hlt:j<(fE l i a n).1.length
  ·rw[List.getElem_append_left hlt];exact u j hlt
  ·rw[a8F,a8J]at d;have:j=n:=Om;subst this;rw[bcF Om];simp only[List.getElem_singleton];exact aKI l i j _
theorem aqY(l:List Nat)(a:Nat):∀n,(oC l a n).1.length=n∧∀x∈(oC l a n).1,yK x∧bT x=true
 |0=>⟨rfl,λx d=>by cases d⟩
 |n+1=>by
  obtain⟨i,p⟩:=aqY l a n;have e:(oC l a (n+1)).1=(oC l a n).1++[(jA l (oC l a n).2).1]:=rfl;rw[e];refine⟨by simp[i],λx d=>?_⟩;rw[a9T,baQ]at d;rcases d with d|rfl
  ·exact p x d
  ·exact xB l _
theorem aLJ(l:List Nat)(n i a:Nat):yK (gT l n i a).1∧(i+1=n→bT (gT l n i a).1=true):=by
 unfold gT;by_cases h:i+1<n
 ·simp only[aG h];refine⟨?_,λd=>by omega⟩;split
  ·exact uK.o
  ·exact(xB l a).1
 ·simp only[aD h];exact⟨(xB l a).1,λ_=>(xB l a).2⟩
def aWM(n:Nat)(a6T:List (List RF)):Prop:=∀i (hi:i<Z' a6T),a6T[i].length=n∧∀j (d:j<a6T[i].length),yK a6T[i][j]∧(j=i→bT a6T[i][j]=false)∧(j=i+1→bT a6T[i][j]=true)
def aWJ(n:Nat)(exit:List RF):Prop:=∀i (hi:i<Z' exit),yK exit[i]∧(i+1=n→bT exit[i]=true)
structure a2V(n i:Nat)(s:KZ)(cs:List Nat):Prop where
 start:s.start=cs.map λc=>mkT ((c:Nat):Int) ((8:Nat):Int)
 lens:Z' s.exit=i∧Z' s.a6T=i∧Z' cs=i
 left:cs.sum+s.left=8∧(i=n→0<n→s.left=0)
 exit:aWJ n s.exit
 a6T:aWM n s.a6T
theorem xJ{α:Type}{P:Nat→α→Prop}{xs:List α}{x:α}(h:∀i (hi:i<Z' xs),P i xs[i])(d:P xs.length x):∀i (hi:i<(xs++[x]).length),P i (xs++[x])[i]:=by
 intro i hi;by_cases hlt:i<Z' xs
 ·rw[List.getElem_append_left hlt];exact h i hlt
 ·rw[a8F,a8J]at hi;have:i=Z' xs:=Om;subst this;rw[bcF Om];simpa using d
theorem Ix(l:List Nat)(n a:Nat):∀i,i≤n→∃cs,a2V n i (jR l n a i) cs
 |0,_=>⟨[],rfl,⟨rfl,rfl,rfl⟩,⟨rfl,λh d=>by omega⟩,λi hi=>absurd hi (by simp[jR]),λi hi=>absurd hi (by simp[jR])⟩
 |i+1,hi=>by
  obtain⟨cs,u,⟨d,p,w⟩,⟨h5,-⟩,y,h7⟩:=Ix l n a i Om;generalize B:jR l n a i=s at *
  have e:jR l n a (i+1)=⟨s.start++[mkT ((fC l n i s).1:Nat) 8],s.exit++[(gT l n i (fC l n i s).2).1],s.a6T++[(fE l i (gT l n i (fC l n i s).2).2 n).1],s.left-(fC l n i s).1,(fE l i (gT l n i (fC l n i s).2).2 n).2⟩:=by simp only[jR,B]
  rw[e];have A:(fC l n i s).1≤s.left∧(i+1=n→(fC l n i s).1=s.left):=by
   unfold fC;split
   ·exact⟨by have:=dC l (Om:0<s.left+1) s.a;omega,λh=>by omega⟩
   ·exact⟨a8E _,λ_=>rfl⟩
  refine⟨cs++[(fC l n i s).1],?_,⟨by simp[d],by simp[p],by simp[w]⟩,⟨?_,λh _=>?_⟩,?_,?_⟩
  ·simp only[u,a8Z,a9D,baB];rfl
  ·simp only[List.sum_append,List.sum_cons,List.sum_nil];omega
  ·have:=A.2 h;simp only;omega
  ·refine xJ (P:=λi x=>yK x∧(i+1=n→bT x=true)) y ?_;rw[d];exact aLJ l n i _
  ·refine xJ (P:=λi (r:List RF)=>Z' r=n∧∀j (E:j<Z' r),yK r[j]∧(j=i→bT r[j]=false)∧(j=i+1→bT r[j]=true)) h7 ?_;rw[p];exact arG l i _ n
theorem aLH{x:cY}{e r:RF}(d:x.exit=[e])(i:x.a6T=[[r]])(l:bT e=true):tC x=true:=by
 unfold tC;rw[d];show((eE x 2).all id)=true;simp only[eE,eD,oL,dD,d,i,a9O,baE,List.getD_cons_zero,a9D,baB,l];cases bT r<;>rfl
theorem b8{x:cY}{u w d e i l:RF}(y:x.exit=[u,w])(A:x.a6T=[[d,e],[i,l]])(B:bT w=true)(E:bT e=true)(a b:Bool) :
  ∃c,eD x [a,b] 2=[c,true]∧(b=true→c=true)∧(a=true→c=true):=by
 have F:oL x [a,b] 0=[((a||bT u)||bT d&&(a||bT u))||b,b]:=by unfold oL;rw[y,A];simp only[List.getD_cons_zero,a9D,bbW];generalize(a||bT u)=c;show dD [c,b] 0 [d,e] 2=_;have:dD [c,b] 0 [d,e] 1=[c||bT d&&c,b]:=rfl;show(let p:=dD [c,b] 0 [d,e] 1;p.set 0 (p.getD 0 false||([d,e].map bT).getD 1 false&&p.getD 1 false))=_;rw[this];show[(c||bT d&&c)||(bT e&&b),b]=_;rw[E,a8R]
 have H:∀c,oL x [c,b] 1=[c,true]:=by intro c;unfold oL;rw[y,A];have:dD [c,true] 1 [i,l] 1=[c,true||bT i&&c]:=rfl;show dD [c,b||bT w] 1 [i,l] 2=_;rw[B,Bool.or_true];show(let p:=dD [c,true] 1 [i,l] 1;p.set 1 (p.getD 1 false||([i,l].map bT).getD 1 false&&p.getD 1 false))=_;rw[this,Bool.true_or];show[c,true||bT l&&true]=_;rw[Bool.true_or]
 refine⟨_,by rw[show eD x [a,b] 2=oL x (oL x [a,b] 0) 1 from rfl,F,H],?_,?_⟩
 ·rintro rfl;rw[Bool.or_true]
 ·rintro rfl;simp
theorem aLI{x:cY}{l E y i A B:RF}(d:x.exit=[l,E])(p:x.a6T=[[y,i],[A,B]])(u:bT E=true)(w:bT i=true):tC x=true:=by
 unfold tC;rw[d];show((eE x 3).all id)=true;have e:∀r,eE x (r+1)=eD x (eE x r) 2:=λr=>by rw[eE,d];rfl
 have l:eE x 0=[false,false]:=by rw[eE,d];rfl
 obtain⟨F,k1,-,-⟩:=b8 d p u w false false;obtain⟨H,k2,N,-⟩:=b8 d p u w F true;obtain⟨M,J,K,-⟩:=b8 d p u w H true;rw[e,e,e,l,k1,k2,J,K rfl];rfl
theorem Wx{c:Nat}:∀{cs:List Nat},c∈cs→c≤cs.sum
 |k::t,h=>by
  rw[List.sum_cons];rcases a8M.1 h with rfl|h
  ·omega
  ·have:=Wx h;omega
theorem gv{α:Type}{l:List α}(h:Z' l=2):∃a b,l=[a,b]:=by
 match l,h with
 |[a,b],_=>exact⟨a,b,rfl⟩
theorem aYE(cs:List Nat)(h:cs.sum=8):(match rO ((cs.map λc=>mkT ((c:Nat):Int) ((8:Nat):Int)).map RF.v)with
  | .ok (n,a,b)=>decide (tZ n a b false 1 1=0)
  | .error _=>false)=true:=by
 have i:∀c∈cs,c≤8:=λc d=>by have:=Wx d;omega
 have e:((cs.map λc=>mkT ((c:Nat):Int) ((8:Nat):Int)).map RF.v)=cs.map eV:=by rw[bbG];refine baZ λc d=>?_;have:=i c d;exact(SmF.mk' (a:=c) (b:=8) Om aV aV).v
 rw[e];exact aVG cs h
theorem FT{α:Type}{p:α→Bool}{l:List α}(h:∀i (hi:i<Z' l),p l[i]=true):l.all p=true:=by
 rw[a8U];intro x d;obtain⟨i,hi,rfl⟩:=a9X d;exact h i hi
theorem azE(l:List Nat)(a:Nat)(K:List UInt8):nT { (vT l 2 a).1 with name:=K }=true∧({ (vT l 2 a).1 with name:=K }:cY).Ok:=by
 obtain⟨n,hn⟩:∃n,n=1+(aL l 2 a).1:=⟨_,rfl⟩;have W:n=1∨n=2:=by have:=dC l (show 0<2 by decide) a;omega
 obtain⟨cs,O,⟨Z,h3,h4⟩,⟨h5,R⟩,M,h7⟩:=Ix l n (aL l 2 a).2 n (a8E _);generalize hs:jR l n (aL l 2 a).2 n=s at *
 have e:({ (vT l 2 a).1 with name:=K }:cY)=⟨K,s.start,s.a6T,s.exit⟩:=by simp only[vT,←hn,hs]
 rw[e];have J:cs.sum=8:=by have:=R rfl Om;omega
 have V:∀c∈cs,c≤8:=λc S=>by have:=Wx S;omega
 have p:∀x∈s.start,yK x:=by intro x d;rw[O]at d;obtain⟨c,S,rfl⟩:=a9B.1 d;have:=V c S;exact(SmF.mk' (a:=c) (b:=8) Om aV aV).o
 have β:Z' s.start=n:=by rw[O,a7Z,h4]
 have w:tC ⟨K,s.start,s.a6T,s.exit⟩=true:=by
  rcases W with rfl|rfl
  ·obtain⟨e,A⟩:=List.length_eq_one_iff.1 Z;obtain⟨η,u⟩:=List.length_eq_one_iff.1 h3;have X:=(h7 0 Om).1;obtain⟨r,H⟩:=List.length_eq_one_iff.1 X;have d:=(M 0 Om).2 rfl;simp only[u,List.getElem_cons_zero]at H;simp only[A,List.getElem_cons_zero]at d;exact aLH A (by rw[u,H]) d
  ·obtain⟨e0,e1,A⟩:=gv Z;obtain⟨r0,r1,u⟩:=gv h3;have E:=(h7 0 Om).1;have F:=(h7 1 Om).1;have d:=(M 1 Om).2 rfl;have Y:=((h7 0 Om).2 1 Om).2.2 rfl;simp only[A,List.getElem_cons_succ,List.getElem_cons_zero]at d;simp only[u,List.getElem_cons_succ,List.getElem_cons_zero]at E F Y;obtain⟨γ,δ,y⟩:=gv E;obtain⟨ε,ζ,Q⟩:=gv F;simp only[y,List.getElem_cons_succ,List.getElem_cons_zero]at Y;exact aLI A (by rw[u,y,Q]) d Y
 constructor
 ·unfold nT;simp only[a8C];refine⟨⟨⟨⟨⟨⟨⟨?_,?_⟩,?_⟩,?_⟩,?_⟩,?_⟩,?_⟩,w⟩
  ·rw[within_iff];omega
  ·exact bN Om
  ·exact bN Om
  ·exact a8U.2 λx d=>(p x d).lim
  ·exact FT λi hi=>(M i hi).1.lim
  ·rw[a8U];intro i hi;rw[a9M]at hi;obtain⟨k1,k2⟩:=h7 i hi;have eg:s.a6T.getD i []=s.a6T[i]:=by simp[a8V,hi]
   rw[eg,a8C,a8C];refine⟨⟨bN Om,FT λj U=>(k2 j U).1.lim⟩,?_⟩;have B:i<s.a6T[i].length:=Om;rw[getD_at B,(k2 i B).2.1 rfl];rfl
  ·rw[O];exact aYE cs J
 ·have N:∀m:Nat,m≤2→m≤9223372036854775807:=λm hm=>by omega
  have α:n≤2:=Om;refine⟨⟨?_,λx d=>(p x d).ok⟩,⟨?_,λx d=>?_⟩,?_,λr u=>⟨?_,λx d=>?_⟩⟩
  ·exact N s.start.length Om
  ·exact N s.exit.length Om
  ·obtain⟨i,hi,rfl⟩:=a9X d;exact(M i hi).1.ok
  ·exact N s.a6T.length Om
  ·obtain⟨i,hi,rfl⟩:=a9X u;have:=(h7 i hi).1;exact N (s.a6T[i]'hi).length Om
  ·obtain⟨i,hi,rfl⟩:=a9X u;obtain⟨j,U,rfl⟩:=a9X d;exact((h7 i hi).2 j U).1.ok
theorem jh(l:List Nat)(a:Nat):∀n,(lD l a n).1.length=n∧∀i (hi:i<(lD l a n).1.length),(lD l a n).1[i].name=[108,97,119]++cU i∧nT (lD l a n).1[i]=true∧(lD l a n).1[i].Ok
 |0=>⟨rfl,λi hi=>absurd hi (by simp[lD])⟩
 |n+1=>by obtain⟨d,p⟩:=jh l a n;have e:(lD l a (n+1)).1=(lD l a n).1++[{ (vT l 2 (lD l a n).2).1 with name:=[108,97,119]++cU n }]:=rfl;rw[e];refine⟨by simp[d],xJ (P:=λi (x:cY)=>x.name=[108,97,119]++cU i∧nT x=true∧x.Ok) p ?_⟩;rw[d];exact⟨rfl,azE l _ _⟩
theorem XE(l:List Nat)(a6V:Nat)(u:0<a6V)(a:Nat):∀n,(fS l a6V a n).1.length=n∧∀i (hi:i<(fS l a6V a n).1.length),(fS l a6V a n).1[i].name=[109]++cU i∧∃e p w:Nat,(fS l a6V a n).1[i].a7E=e∧1≤e∧e≤4∧(fS l a6V a n).1[i].port=p∧1≤p∧p≤8∧(fS l a6V a n).1[i].law=w∧w<a6V
 |0=>⟨rfl,λi hi=>absurd hi (by simp[fS])⟩
 |n+1=>by
  obtain⟨d,y⟩:=XE l a6V u a n;obtain⟨s,A⟩:∃s,s=fS l a6V a n:=⟨_,rfl⟩;have e:(fS l a6V a (n+1)).1=(fS l a6V a n).1++[⟨[109]++cU n,(1+(aL l 4 s.2).1:Nat),(1+(aL l 8 (aL l 4 s.2).2).1:Nat),((aL l a6V (aL l 8 (aL l 4 s.2).2).2).1:Nat)⟩]:=by rw[A];rfl
  rw[e];refine⟨by simp[d],xJ (P:=λi (x:dR)=>x.name=[109]++cU i∧∃e p w:Nat,x.a7E=e∧1≤e∧e≤4∧x.port=p∧1≤p∧p≤8∧x.law=w∧w<a6V) y ?_⟩;rw[d];have k1:=dC l (show 0<4 by decide) s.2;have k2:=dC l (show 0<8 by decide) (aL l 4 s.2).2;have B:=dC l u (aL l 8 (aL l 4 s.2).2).2;exact⟨rfl,_,_,_,rfl,by omega,by omega,rfl,by omega,by omega,rfl,B⟩
theorem FB(l:List Nat)(a:Nat):∃n:Nat,(kM l a).1=n∧n≤3:=by
 have h:=dC l (show 0<3 by decide) (aL l 3 a).2;unfold kM;simp only;split
 ·exact⟨1+(aL l 3 (aL l 3 a).2).1,rfl,by omega⟩
 ·exact⟨0,rfl,by omega⟩
theorem fY{n lo hi:Int}(d:lo≤n)(e:n≤hi):within n lo hi=true:=within_iff.2 ⟨d,e⟩
theorem aXP{y:List UInt8}{k m q s1 s2 s3 s4 g h:Nat}{ms:List Int}{u:List RF}{mc:Nat}(B:1≤k)(E:k≤2)(S:m≤2)(H:k≤q)(J:q≤k+m)(K:s1≤3)(A:s2≤3)(M:s3≤3)(N:s4≤3)(Q:g≤8)(R:h≤4)
  (p:Z' u=max m 1) (l:∀x∈u,yK x∧bT x=true)
  (F:mc≤2) (d:∃f:Nat,f<mc∧(ms=[(f:Int)]∨mc=2∧ms=[(f:Int),1-(f:Int)])) :
  mF mc ⟨y,(k:Nat),(m:Nat),(q:Nat),0,(s1:Nat),(s2:Nat),(s3:Nat),(s4:Nat),ms,u,mkT (g:Nat) ((8:Nat):Int),mkT (h:Nat) ((1:Nat):Int)⟩=true ∧
  (⟨y,(k:Nat),(m:Nat),(q:Nat),0,(s1:Nat),(s2:Nat),(s3:Nat),(s4:Nat),ms,u,mkT (g:Nat) ((8:Nat):Int),mkT (h:Nat) ((1:Nat):Int)⟩:cL).Ok:=by
 have G:=SmF.mk' (a:=g) (b:=8) Om aV aV;have Z:=SmF.mk' (a:=h) (b:=1) Om aV aV;obtain⟨f,O,d⟩:=d;constructor
 ·unfold mF TN JX;simp only[a8C,bbP,List.all_nil,baN];refine⟨⟨⟨⟨⟨⟨⟨⟨fY Om Om,fY Om Om⟩,bN Om⟩,fY Om Om⟩,rfl⟩,fY Om Om,fY Om Om,fY Om Om,fY Om Om,fY Om Om⟩,?_⟩,⟨⟨⟨⟨bN (by rw[p];omega),?_⟩,G.lim⟩,G.one Om⟩,Z.lim⟩⟩,?_⟩
  ·rcases d with e|⟨-,e⟩<;>rw[e]<;>rfl
  ·rw[a8U];intro x i;rw[(l x i).1.lim,(l x i).2];rfl
  ·rw[a8U];rcases d with rfl|⟨rfl,rfl⟩
   ·intro j w;simp only[a9O,baE,a9M]at w;have:j=0:=Om;subst this;rw[a8C];exact⟨fY bD (by simp;omega),by simp⟩
   ·intro j w;simp only[a9O,baE,a9M]at w;have:j=0∨j=1:=Om;rcases this with rfl|rfl
    ·rw[a8C];exact⟨fY bD (by simp;omega),by simp⟩
    ·rw[a8C];refine⟨fY (by simp;omega) (by simp;omega),?_⟩;have:¬(1-(f:Int)=f):=Om;simp[this]
 ·refine⟨by unfold eH;constructor<;>simp only<;>omega,by unfold eH;constructor<;>simp only<;>omega,by unfold eH;constructor<;>simp only<;>omega,?_,?_,⟨?_,λx i=>(l x i).1.ok⟩,G.ok,Z.ok⟩
  ·show ms.length≤_;rcases d with e|⟨-,e⟩<;>rw[e]<;>simp
  ·show ∀x∈ms,eH x;unfold eH;rcases d with e|⟨A,e⟩<;>rw[e]<;>intro x i<;>simp only[a8M,a8W,or_false]at i
   ·subst i;omega
   ·rcases i with rfl|rfl<;>omega
  ·show u.length≤_;rw[p];omega
theorem P6(l:List Nat){mc:Nat}(x:0<mc)(y:mc≤2)(i a:Nat):(qB l mc i a).1.name=[112]++cU i∧mF mc (qB l mc i a).1=true∧(qB l mc i a).1.Ok:=by
 refine⟨rfl,?_⟩;have H:=dC l (show 0<2 by decide) a;have J:=dC l (show 0<3 by decide) (aL l 2 a).2;have F:=dC l (show 0<4 by decide) (aL l 3 (aL l 2 a).2).2;unfold qB;simp only;generalize aL l 2 a=k at *
 generalize aL l 3 k.2=m at *
 generalize aL l 4 m.2=h at *
 have K:=dC l (Om:0<m.1+1) h.2;generalize aL l (m.1+1) h.2=q at *
 obtain⟨r1,r2⟩:=aqY l q.2 (max m.1 1);generalize oC l q.2 (max m.1 1)=r at *
 have E:=dC l (show 0<9 by decide) r.2;generalize aL l 9 r.2=g at *
 obtain⟨M,p,b1⟩:=FB l g.2;generalize kM l g.2=s1 at *
 obtain⟨N,e2,b2⟩:=FB l s1.2;generalize kM l s1.2=s2 at *
 obtain⟨O,u,d⟩:=FB l s2.2;generalize kM l s2.2=s3 at *
 obtain⟨Q,w,e⟩:=FB l s3.2;generalize kM l s3.2=s4 at *
 have A:=dC l x s4.2;generalize aL l mc s4.2=f at *
 generalize aL l 2 f.2=b at *
 rw[p,e2,u,w];refine aXP Om Om Om Om Om b1 b2 d e Om Om r1 r2 y ⟨f.1,A,?_⟩;split
 ·rename_i B;split
  ·exact .inr ⟨by omega,rfl⟩
  ·exact .inl rfl
 ·exact .inl rfl
theorem JW(l:List Nat){mc:Nat}(d:0<mc)(p:mc≤2)(a:Nat):∀n,(fF l mc a n).1.length=n∧∀i (hi:i<(fF l mc a n).1.length),(fF l mc a n).1[i].name=[112]++cU i∧mF mc (fF l mc a n).1[i]=true∧(fF l mc a n).1[i].Ok
 |0=>⟨rfl,λi hi=>absurd hi (by simp[fF])⟩
 |n+1=>by obtain⟨k1,k2⟩:=JW l d p a n;have e:(fF l mc a (n+1)).1=(fF l mc a n).1++[(qB l mc n (fF l mc a n).2).1]:=rfl;rw[e];refine⟨by simp[k1],xJ (P:=λi (x:cL)=>x.name=[112]++cU i∧mF mc x=true∧x.Ok) k2 ?_⟩;rw[k1];exact P6 l d p n _
theorem PR(l:List Nat){pc:Nat}(d:0<pc)(a:Nat):∀n,(fW l pc a n).1.length=n∧∀i (hi:i<(fW l pc a n).1.length),(fW l pc a n).1[i].name=[118]++cU i∧∃p:Nat,(fW l pc a n).1[i].a7A=p∧p<pc
 |0=>⟨rfl,λi hi=>absurd hi (by simp[fW])⟩
 |n+1=>by obtain⟨k1,k2⟩:=PR l d a n;have e:(fW l pc a (n+1)).1=(fW l pc a n).1++[⟨[118]++cU n,((aL l pc (fW l pc a n).2).1:Nat)⟩]:=rfl;rw[e];refine⟨by simp[k1],xJ (P:=λi (x:gQ)=>x.name=[118]++cU i∧∃p:Nat,x.a7A=p∧p<pc) k2 ?_⟩;rw[k1];exact⟨rfl,_,rfl,dC l d _⟩
abbrev lvs(ds:List cX):List Int:=ds.map cX.level
def a2T(ds:List cX)(i:Nat)(d:cX):Prop:=∃e p u:Nat,d.name=[pK e]++cU (i+1)∧d.level=e∧1≤e∧e≤4∧d.parent=p∧p≤i∧(lvs ds)[p]?=some ((e:Int)-1)∧d.a7I=u∧1≤u∧u≤16∧yK d.a7D
def aWI(ds:List cX)(mc i:Nat)(d:eO):Prop:=∃m c:Nat,d.name=[100]++cU i∧d.model=m∧m<mc∧d.machine=c∧(lvs ds)[c]?=some 4
structure GV(mc a6O:Nat)(s:GS):Prop where
 len:Z' s.a6X≤35
 a7H:Z' s.a7H≤a6O
 root:s.a6X[0]?=some qP
 dom:∀i (hi:i+1<Z' s.a6X),a2T s.a6X i s.a6X[i+1]
 drv:∀i (hi:i<Z' s.a7H),aWI s.a6X mc i s.a7H[i]
theorem GV.a{mc a6O:Nat}{s:GS}(h:GV mc a6O s)(x:Nat):GV mc a6O { s with a:=x }:=⟨h.len,h.a7H,h.root,h.dom,h.drv⟩
theorem Vn(l:List Nat){mc a6O dom:Nat}(p:0<mc){s:GS}(h:GV mc a6O s)(w:(lvs s.a6X)[dom]?=some 4):∀n,GV mc a6O (mU l mc a6O dom s n)∧(mU l mc a6O dom s n).a6X=s.a6X
 |0=>⟨h,rfl⟩
 |n+1=>by
  obtain⟨e,u⟩:=Vn l p h w n;simp only[mU];generalize mU l mc a6O dom s n=t at *
  split
  ·rename_i hlt;refine⟨⟨e.len,by simp only[a8F,a8J];omega,e.root,e.dom,?_⟩,u⟩;refine xJ (P:=λi d=>aWI t.a6X mc i d) e.drv ?_;exact⟨_,dom,rfl,rfl,dC l p _,rfl,by rw[u];exact w⟩
  ·exact⟨e,u⟩
theorem GI{ds:List cX}{p:Nat}{x:Int}{t:List cX}(h:(lvs ds)[p]?=some x):(lvs (ds++t))[p]?=some x:=by
 unfold lvs at *
 rw[a8Z,baW]
 ·exact h
 ·exact(a9I.1 h).1
theorem aSK(l:List Nat){mc a6O dom level:Nat}{s:GS}(h:GV mc a6O s)(y:1≤level)(K:level≤4)(E:(lvs s.a6X)[dom]?=some ((level:Int)-1))(F:uS a6O s=false) :
  GV mc a6O (rD l level dom s)∧(∃t,(rD l level dom s).a6X=s.a6X++t)∧(rD l level dom s).a6X.length=Z' s.a6X+1∧(lvs (rD l level dom s).a6X)[Z' s.a6X]?=some (level:Int):=by
 unfold uS at F;simp only[Bool.or_eq_false_iff,decide_eq_false_iff_not]at F;have J:dom<Z' s.a6X:=by
  have:=(a9I.1 E).1
  rwa[a7Z]at this
 have N:=dC l (show 0<16 by decide) s.a;have M:=dC l (show 0<6 by decide) (aL l 3 (aL l 16 s.a).2).2;unfold rD;simp only;generalize aL l 16 s.a=u at *
 generalize aL l 3 u.2=t at *
 generalize aL l 6 t.2=k at *
 have A:yK (if t.1=0 then(mkT 1 ((2+k.1:Nat):Int),k.2)else(mV,t.2)).1:=by
  split
  ·exact(SmF.mk' (a:=1) (b:=2+k.1) Om Om Om).o
  ·exact uK.o
 generalize(if t.1=0 then(mkT 1 ((2+k.1:Nat):Int),k.2)else(mV,t.2))=sh at *
 refine⟨⟨by simp only[a8F,a8J];omega,h.a7H,?_,?_,λi hi=>?_⟩,⟨_,rfl⟩,by simp,?_⟩
 ·rw[baW Om];exact h.root
 ·intro i hi;simp only[a8F,a8J]at hi;by_cases hlt:i+1<Z' s.a6X
  ·rw[List.getElem_append_left hlt];obtain⟨B,p,v,d,e,w,x,h5,H,h7,h8⟩:=h.dom i hlt;exact⟨B,p,v,d,e,w,x,h5,H,GI h7,h8⟩
  ·have:i+1=Z' s.a6X:=Om;rw[bcF Om];simp only[List.getElem_singleton];exact⟨level,dom,1+u.1,by rw[this],rfl,y,K,rfl,by omega,GI E,rfl,by omega,by omega,A⟩
 ·obtain⟨m,c,d,e,w,x,h5⟩:=h.drv i hi;exact⟨m,c,d,e,w,x,GI h5⟩
 ·unfold lvs;rw[a8Z,baP (by rw[a7Z];exact a8E _),a7Z,baV];rfl
theorem Vo(l:List Nat){mc a6O dom level:Nat}(i:1≤level)(B:level≤4){rec:Nat→GS→GS}
  (e:∀d t,GV mc a6O t→(lvs t.a6X)[d]?=some (level:Int)→GV mc a6O (rec d t)∧∃u,(rec d t).a6X=t.a6X++u) {s:GS} (h:GV mc a6O s) (A:(lvs s.a6X)[dom]?=some ((level:Int)-1)) :
  ∀n,GV mc a6O (kB l level a6O dom rec s n)∧∃u,(kB l level a6O dom rec s n).a6X=s.a6X++u
 |0=>⟨h,[],by simp[kB]⟩
 |n+1=>by
  obtain⟨y,u,p⟩:=Vo l i B e h A n;simp only[kB];generalize kB l level a6O dom rec s n=t at *
  split
  ·exact⟨y,u,p⟩
  ·rename_i E;have x:(lvs t.a6X)[dom]?=some ((level:Int)-1):=by rw[p];exact GI A
   obtain⟨k1,⟨v,k2⟩,F,H⟩:=aSK l y i B x (by simpa using E);obtain⟨J,w,K⟩:=e ((rD l level dom t).a6X.length-1) (rD l level dom t) k1 (by rw[F,Nat.add_sub_cancel];exact H);exact⟨J,u++(v++w),by rw[K,k2,p];simp⟩
theorem Vp(l:List Nat){mc a6O:Nat}(e:0<mc):∀(k:Nat),k≤4→∀(dom:Nat){s:GS},GV mc a6O s→(lvs s.a6X)[dom]?=some (4-(k:Int))→GV mc a6O (gP l mc a6O k dom s)∧∃u,(gP l mc a6O k dom s).a6X=s.a6X++u
 |0,_,dom,s,h,i=>by simp only[gP];obtain⟨w,x⟩:=Vn l e (h.a (aL l 2 s.a).2) i (1+(aL l 2 s.a).1);exact⟨w,[],by rw[x];simp⟩
 |k+1,A,dom,s,h,i=>by
  simp only[gP];refine Vo l Om Om (λd t y p=>Vp l e k Om d y ?_) (h.a (aL l 2 s.a).2) ?_ _
  ·rw[p];congr 1;omega
  ·rw[i];congr 1;omega
theorem I0(d:Nat)(e:1≤d)(i:d≤4):gR (pK d).toNat=true∧pK d≠100:=by
 have:d=1∨d=2∨d=3∨d=4:=Om;rcases this with rfl|rfl|rfl|rfl<;>decide
theorem Bc(c:UInt8){k:Nat}(d:k<100):iw (([c]++cU k).drop 1)=k:=by
 show iw (cU k)=k;rw[ZJ d];exact(S6 ⟨k,d⟩).1
theorem ajA{mc a6O:Nat}{s:GS}(h:GV mc a6O s)(M:a6O≤60):distinct ((s.a6X.drop 1).map cX.name++s.a7H.map eO.name)=true:=by
 have E:∀i (hi:i<((s.a6X.drop 1).map cX.name).length),∃d:Nat,1≤d∧d≤4∧((s.a6X.drop 1).map cX.name)[i]=[pK d]++cU (i+1):=by intro i hi;rw[a7Z,baG]at hi;obtain⟨d,p,u,l,-,H,w,-⟩:=h.dom i Om;refine⟨d,H,w,?_⟩;rw[a9Q,List.getElem_drop];simp only[Nat.add_comm 1 i];exact l
 have hB:∀i (hi:i<(s.a7H.map eO.name).length),(s.a7H.map eO.name)[i]=[100]++cU i:=by intro i hi;rw[a7Z]at hi;obtain⟨m,c,l,-⟩:=h.drv i hi;rw[a9Q];exact l
 have N:((s.a6X.drop 1).map cX.name).length≤40:=by rw[a7Z,baG];have:=h.len;omega
 have O:(s.a7H.map eO.name).length≤60:=by rw[a7Z];have:=h.a7H;omega
 generalize(s.a6X.drop 1).map cX.name=A at *
 generalize s.a7H.map eO.name=B at *
 refine i7 ?_ ?_
 ·intro x hx;rcases a9T.1 hx with hx|hx
  ·obtain⟨i,hi,rfl⟩:=a9X hx;obtain⟨d,l,w,e⟩:=E i hi;rw[e];exact Em rfl (I0 d l w).1 rfl bD Om
  ·obtain⟨i,hi,rfl⟩:=a9X hx;rw[hB i hi];exact Em rfl aV rfl bD Om
 ·rw[bbA];refine⟨?_,?_,?_⟩
  ·refine al (g:=λs=>iw (s.drop 1)-1) λi hi=>?_;obtain⟨d,-,-,e⟩:=E i hi;rw[e,Bc _ Om];omega
  ·refine al (g:=λs=>iw (s.drop 1)) λi hi=>?_;rw[hB i hi];exact Bc _ Om
  ·intro x hx y K e;obtain⟨i,hi,rfl⟩:=a9X hx;obtain⟨j,J,rfl⟩:=a9X K;obtain⟨d,l,w,F⟩:=E i hi;rw[F,hB j J]at e;exact(I0 d l w).2 (List.cons.inj e).1
theorem aOX{mc a6O a:Nat}:GV mc a6O ⟨[qP],[],a⟩:=
 ⟨by simp,a8H _,rfl,λi hi=>absurd hi bD,λi hi=>absurd hi bD⟩
theorem aTE{mc a6O:Nat}{s:GS}(h:GV mc a6O s)(f:aE)(A:f.a6R=s.a6X):sA f=true:=by
 have x:=h.root;have w:=h.dom;unfold sA;rw[A];cases d:s.a6X with
 |nil=>rw[d]at x;cases x
 |cons r t=>
  rw[d]at x;have:r=qP:=by simpa using x
  subst this;show IZ f qP t=true;unfold IZ;simp only[a8C];refine⟨⟨⟨⟨⟨⟨rfl,rfl⟩,rfl⟩,rfl⟩,uK.lim⟩,by rw[show qP.a7D=mV from rfl,uK.zero];rfl⟩,?_⟩;rw[a8U];intro i hi;rw[a9M]at hi;rw[a8N hi];obtain⟨F,p,u,B,y,H,J,h5,K,h7,h8,M,E,l⟩:=w i (by rw[d];simp;omega);have e:s.a6X[i+1]'(by rw[d];simp;omega)=t[i]:=by simp[d]
  rw[e]at B y h5 h8 l;show QT f i t[i]=true;unfold QT;simp only[a8C];refine⟨⟨⟨⟨?_,?_⟩,?_⟩,?_⟩,l.lim⟩
  ·rw[h5];exact fY Om Om
  ·rw[h5,y,A,baA,a8V,h7,Ch Om Om];exact bN rfl
  ·rw[y];exact fY Om Om
  ·rw[h8];exact fY Om Om
theorem Tr(l:List Nat)(a6O a6Q a:Nat)(hd:a6O≤24)(hv:a6Q≤12) :
  eP (lM l a6O a6Q a).1=true∧(lM l a6O a6Q a).1.Ok:=by
 unfold lM;simp only;have he:=dC l (show 0<2 by decide) a;generalize aL l 2 a=e at *
 have γ:=dC l (show 0<2 by decide) e.2;generalize aL l 2 e.2=F at *
 obtain⟨w1,U⟩:=jh l F.2 (1+F.1);generalize lD l F.2 (1+F.1)=a6V at *
 have δ:=dC l (show 0<2 by decide) a6V.2;generalize aL l 2 a6V.2=B at *
 obtain⟨X,Y⟩:=XE l (1+F.1) Om B.2 (1+B.1);generalize fS l (1+F.1) B.2 (1+B.1)=a6P at *
 obtain⟨G,-⟩:=Vp l (mc:=1+B.1) (a6O:=a6O) Om 4 aV 0 (s:=⟨[qP],[],a6P.2⟩) aOX rfl;generalize gP l (1+B.1) a6O 4 0 ⟨[qP],[],a6P.2⟩=g at *
 have ε:=dC l (show 0<2 by decide) g.a;generalize aL l 2 g.a=pl at *
 obtain⟨p1,R⟩:=JW l (mc:=1+B.1) Om Om pl.2 (1+pl.1);generalize fF l (1+B.1) pl.2 (1+pl.1)=pols at *
 have ζ:=dC l (Om:0<a6Q+1) pols.2;generalize aL l (a6Q+1) pols.2=J at *
 obtain⟨v1,S⟩:=PR l (pc:=1+pl.1) Om J.2 J.1;generalize fW l (1+pl.1) J.2 J.1=vols at *
 have g1:=G.len;have g2:=G.a7H;have Q:∀f:aE,f.a6R=g.a6X→sA f=true:=λf hf=>aTE G f hf;have d:∀n:Nat,n≤1000→n≤9223372036854775807:=λn h=>by omega
 have E:∀x∈g.a7H,∃m c:Nat,x.model=m∧m<1+B.1∧x.machine=c∧c<Z' g.a6X∧(lvs g.a6X)[c]?=some 4:=by
  intro x w;obtain⟨i,hi,rfl⟩:=a9X w;obtain⟨m,c,-,O,V,W,h5⟩:=G.drv i hi;refine⟨m,c,O,V,W,?_,h5⟩;have:=(a9I.1 h5).1
  rwa[a7Z]at this
 constructor
 ·unfold eP;rw[Q _ rfl];simp only[a8C,baN];refine⟨⟨?_,⟨⟨⟨⟨?_,?_⟩,?_⟩,?_⟩,?_⟩⟩,⟨⟨⟨?_,?_⟩,ajA G Om⟩,?_⟩,?_⟩
  ·unfold rM;simp only[a8C];exact⟨⟨⟨⟨⟨⟨fY Om Om,bN Om⟩,bN Om⟩,bN Om⟩,bN Om⟩,bN Om⟩,bN Om⟩
  ·exact FT λi hi=>(U i hi).2.1
  ·refine FT λi hi=>?_;obtain⟨-,x,y,z,A,e2,H,K,M,e6,Z,e8⟩:=Y i hi;unfold nY;simp only[a8C];rw[A,K,Z,w1];exact⟨⟨fY Om Om,fY Om Om⟩,fY Om Om⟩
  ·rw[a8U];intro x w;obtain⟨m,c,A,e2,H,K,M⟩:=E x w;unfold lL;simp only[a8C];rw[A,H,X,baA,a8V,M];exact⟨⟨fY Om Om,fY Om Om⟩,rfl⟩
  ·refine FT λi hi=>?_;rw[X];exact(R i hi).2.1
  ·refine FT λi hi=>?_;obtain⟨-,p,A,e2⟩:=S i hi;unfold sM;rw[A,p1];exact fY Om Om
  ·refine yV (p:=[108,97,119]) rfl aV aV aV (by rw[a7Z];omega) λi hi=>?_;rw[a9Q];exact(U i (by simpa using hi)).1
  ·refine yV (p:=[109]) rfl aV aV aV (by rw[a7Z];omega) λi hi=>?_;rw[a9Q];exact(Y i (by simpa using hi)).1
  ·refine yV (p:=[112]) rfl aV aV aV (by rw[a7Z];omega) λi hi=>?_;rw[a9Q];exact(R i (by simpa using hi)).1
  ·refine yV (p:=[118]) rfl aV aV aV (by rw[a7Z];omega) λi hi=>?_;rw[a9Q];exact(S i (by simpa using hi)).1
 ·refine⟨d a6V.1.length Om,d a6P.1.length Om,d g.a6X.length Om,d g.a7H.length Om,d pols.1.length Om,d vols.1.length Om,?_,?_,?_,?_,?_⟩
  ·intro x w;obtain⟨i,hi,rfl⟩:=a9X w;exact(U i hi).2.2
  ·intro x w;obtain⟨i,hi,rfl⟩:=a9X w;rcases baR i with rfl|hp
   ·have:g.a6X[0]=qP:=by have:=G.root;rw[a8N hi]at this;exact a9V.inj this
    rw[this];exact⟨uK.ok,by unfold eH;decide,by unfold eH;decide⟩
   ·obtain⟨k,rfl⟩:∃k,i=k+1:=⟨i-1,by omega⟩;obtain⟨η,p,u,h1,O,V,W,h5,h6,h7,h8,h9,α,N⟩:=G.dom k hi;have β:k+1<Z' g.a6X:=hi;rw[O,h5];exact⟨N.ok,by unfold eH;omega,by unfold eH;omega⟩
  ·intro x w;obtain⟨m,c,A,e2,H,K,M⟩:=E x w;rw[A,H];unfold eH;omega
  ·intro x w;obtain⟨i,hi,rfl⟩:=a9X w;exact(R i hi).2.2
  ·intro x w;obtain⟨i,hi,rfl⟩:=a9X w;obtain⟨-,p,A,e2⟩:=S i hi;rw[A];unfold eH;omega


def jF:=bU [13,42] Proofs.Tryz.f15
def TY:=aA jF 0
def TZ:=aA jF 1
def zk:=aA jF 2
def zl:=aA jF 3
def zm:=aA jF 4
def zn:=aA jF 5
def zo:=aA jF 6
def zp:=aA jF 7
def zq:=aA jF 8
def zr:=aA jF 9
def kp:=aA jF 10
def kn:aC:=(dY zq 31 2 kp (.region zr))
def kr:=aA jF 11
def ko:aC:=(dY zn 19 0 kr (sq zo (cJ zp 2 kn)))
def ku:=aA jF 12
def zO:aC:=(sq TY (dM TZ 12 zk (sq zl (.seq (cJ zm 0 ko) (sq ku .ret)))))
def ik:bC:=⟨3,45,zO,[.tmp 6]⟩
def jI:=bU [2,19,20,42] Proofs.Tryz.f14
def Lk:=aA jI 0
def Ll:=aA jI 1
def Lm:=aA jI 2
def Ln:=aA jI 3
def Lo:=aA jI 4
def Lp:=aA jI 5
def Lr:=aA jI 6
def Lj:aC:=(dY Lo 14 0 Lr (.region Lp))
def Lt:=aA jI 7
def Lu:=aA jI 8
def Ab:=aA jI 9
def Ac:=aA jI 10
def Ad:=aA jI 11
def UJ:=aA jI 12
def Aa:aC:=(dY Ab 27 2 UJ (sq Ac (.cond (Tm 37) (.region Ad) .skip)))
def Ae:=aA jI 13
def MW:aC:=(sq Lk (sq Ll (gE Lm 9 (.seq (cJ Ln 0 Lj) (sq Lt .ret)) (.seq (cJ Lu 2 Aa) (sq Ae .ret)))))
def acB:bC:=⟨2,45,MW,[.tmp 4]⟩
def uC:=bU [] Proofs.Tryz.f16
def arA:=aA uC 0
def arB:=aA uC 1
def arC:=aA uC 2
def Ff:=aA uC 3
def arD:=aA uC 4
def arE:=aA uC 5
def aqZ:aC:=(dY arC 9 0 arE (sq Ff (.cond (Tm 17) (sq arD .ret) .skip)))
def arF:=aA uC 6
def cd:aC:=(sq arA (.seq (cJ arB 0 aqZ) (sq arF .ret)))
def aOT:bC:=⟨2,18,cd,[.tmp 4]⟩
def dQ:=bU [2,3,109,113] Proofs.Tryz.f5
def abR:=aA dQ 0
def abS:=aA dQ 1
def BD:=aA dQ 2
def sa:=aA dQ 3
def abT:=aA dQ 4
def abU:=aA dQ 5
def abV:=aA dQ 6
def abW:=aA dQ 7
def abX:=aA dQ 8
def abY:=aA dQ 9
def K4:=aA dQ 10
def K3:aC:=(dY abX 50 0 K4 (.region abY))
def ci:=aA dQ 11
def K5:=aA dQ 12
def K6:=aA dQ 13
def K7:=aA dQ 14
def K8:=aA dQ 15
def K9:=aA dQ 16
def La:=aA dQ 17
def Lc:=aA dQ 18
def Ld:=aA dQ 19
def Le:=aA dQ 20
def Lf:=aA dQ 21
def Lg:=aA dQ 22
def cj:=aA dQ 23
def ck:=aA dQ 24
def cf:aC:=(dY Lg 88 6 ck (.region cj))
def cl:=aA dQ 25
def Lh:=aA dQ 26
def cn:=aA dQ 27
def cg:aC:=(dY Ld 79 4 cn (sq Le (.seq (cJ Lf 6 cf) (sq cl (.cond (Tm 106) (.region Lh) .skip)))))
def cp:=aA dQ 28
def cq:=aA dQ 29
def ch:aC:=(dY K9 72 2 cq (sq La (.seq (cJ Lc 4 cg) (.region cp))))
def Li:=aA dQ 30
def UH:aC:=(sq abR (dM abS 38 BD (dM sa 42 abT (sq abU (sq abV (.seq (cJ abW 0 K3) (dM ci 63 K5 (sq K6 (sq K7 (.seq (cJ K8 2 ch) (sq Li .ret)))))))))))
def iq:bC:=⟨2,116,UH,[.tmp 4,.tmp 5]⟩
def wL:=bU [3] Proofs.Tryz.f89
def Lx:=aA wL 0
def Ly:=aA wL 1
def Lz:=aA wL 2
def L7:=aA wL 3
def Lw:aC:=(.seq (sq Lz (.cond (Tm 21) .skip (.exit 0))) (.block 1 (.region L7)))
def L8:=aA wL 4
def MX:aC:=(sq Lx (sq Ly (.seq (.block 0 (.loop Lw)) (sq L8 .ret))))
def acD:bC:=⟨3,29,MX,[.tmp 6]⟩
def kX:=bU [2,41] Proofs.Tryz.f47
def Ai:=aA kX 0
def Aj:=aA kX 1
def Ak:=aA kX 2
def EZ:=aA kX 3
def Al:=aA kX 4
def Am:=aA kX 5
def An:=dB kX 0
def Ao:=aA kX 6
def UL:=aA kX 7
def Ah:aC:=(dY Am 25 0 UL (dq An (.cond (Tm 38) (.region Ao) .skip)))
def ky:=aA kX 8
def IE:aC:=(sq Ai (sq Aj (dM Ak 20 EZ (.seq (cJ Al 0 Ah) (sq ky .ret)))))
def Fi:bC:=⟨2,44,IE,[.tmp 4]⟩
theorem aHT{C:Ctx}(f:aE)(l:VF f)(d:Nat)(h:d<Z' f.a6O)(level:Int)(x:0≤level)(y:level≤4) :
  MX.wp C (aY acD.res (aK (.int .i64 (dS f d level:Nat)))) (PF.args [.agg f.cells,.int .i64 d,.int .i64 level]) .nil:=by
 simp only[go_sem,MX,Lx,Ly,acD,qG h,l.gx h];refine wp_loop (α:=Nat) (λk=>(((PF.nil.set 2 (.int .i64 level)).set 3 (.bM f.cells)).set 7 (.int .i64 (upN f k (dP f d))))) (λ_=>.nil) (λk=>k≤4-level.toNat) (λk=>4-level.toNat-k) 0 (a8H _) (by(repeat' (first|exact d_|refine c_ ?_ ?_))<;>first|(simp only[go_sem,upN]<;>rfl)|rfl) a_ ?_;intro k A;obtain⟨i,w⟩:=IK l h (k:=k) Om;simp only[go_sem,Lw,Lz,iY i,CS i];by_cases hlt:k<4-level.toNat
 ·have p:lvl f (upN f k (dP f d))>level:=by rw[w];omega
  have u:0<upN f k (dP f d):=by
   rcases baR (upN f k (dP f d))with e|e
   ·rw[e,l.root.2.1]at w;omega
   ·exact e
  simp only[go_sem,p,L7,iY i,bw i,l.ij u i];exact aJ (k+1) hlt Om (by(repeat' (first|exact d_|refine c_ ?_ ?_))<;>first|(simp only[go_sem,upN]<;>rfl)|rfl) a_
 ·have p:¬lvl f (upN f k (dP f d))>level:=by rw[w];omega
  have:k=4-level.toNat:=Om;subst this;simp only[go_sem,p,L8];refine aX (.inr rfl) Ev ?_;rfl
structure aDD(C:Ctx):Prop where
 valid:∀f:aE,f.Ok→aH C 67 [.agg f.cells] .nil (aK (.bool (eP f)))
 uO:∀(f:aE)(d:Nat)(level:Int),VF f→d<Z' f.a6O→0≤level→level≤4→aH C 88 [.agg f.cells,.int .i64 d,.int .i64 level] .nil (aK (.int .i64 (dS f d level:Nat)))
def soS(f:aE):Spec:=λname vs=>match name,vs with
 |88,[_,.int _ d,.int _ l]=>some ([],λ_=>aK (.int .i64 (dS f d.toNat l:Nat)))
 |82,[_,.int _ v]=>some ([],λ_=>aK (.int .i64 (wQ f v.toNat)))
 |_,_=>none
theorem aIA(f:aE)(d:Nat)(l:Int):soS f 88 [.agg f.cells,.int .i64 d,.int .i64 l]=some ([],λ_=>aK (.int .i64 (dS f d l:Nat))):=rfl
theorem aXF{f:aE}(hV:VF f){n:Nat}(d:n<Z' f.a6R):0≤lvl f n∧lvl f n≤4:=by
 rcases baR n with e|e
 ·rw[e,hV.root.2.1];decide
 ·have:=hV.dom n e d;omega
theorem aBD{C:Ctx}(L:aDD C)(f:aE)(J:f.Ok)(dom:Int) :
  IE.wp C (aY Fi.res (cN (ints (OU f dom)))) (PF.args [.agg f.cells,.int .i64 dom]) .nil:=by
 simp only[go_sem,IE,Ai,Aj,Ak,Fi];refine aB (L.valid f J) Sq ?_;unfold OU;cases M:eP f with
 |false =>simp only[go_sem,a8P,EZ];rw[aD bD];exact IA Ev
 |true=>
  have hV:=VF.of M;by_cases y:dom<0
  ·simp only[go_sem,a8I,y,EZ];rw[aD Om];exact IA Ev
  ·by_cases E:dom≥(Z' f.a6R:Nat)
   ·simp only[go_sem,a8I,y,a7Z,E,EZ];rw[aD Om];exact IA Ev
   ·obtain⟨n,rfl⟩:∃n:Nat,dom=n:=⟨dom.toNat,by omega⟩;have B:n<Z' f.a6R:=Om;have F:=hV.small.a6O;have l:=aXF hV B;simp only[go_sem,a8I,y,a7Z,E,Al];rw[aG Om];generalize hp:(λd=>decide ((dS f d (lvl f n):Nat)=n))=p;refine wp_loop (α:=Nat × PV × PH) (λt=>((((PF.nil.set 1 (.int .i64 n)).set 2 (.bM f.cells)).set 5 (t.2.1)).set 6 (.int .i64 t.1))) (λt=>t.2.2) (λt=>t.1≤Z' f.a6O∧bJ t.2.2 1 t.2.1 (bA (pick t.1 p))) (λt=>Z' f.a6O-t.1) (0,.aF,.nil) ⟨a8H _,.nil⟩ Lq a_ ?_;rintro⟨k,v,H⟩ ⟨K,u⟩;simp only at K u ⊢;simp only[go_sem,Ah,Am,a7Z];by_cases hlt:k<Z' f.a6O
    ·have i:(k:Int)<(Z' f.a6O:Nat):=Om;simp only[go_sem,i];refine cP .nil (soS f) a_ ?_;simp only[go_sem,An,iY B,CS B];refine cR (aIA f k (lvl f n)) (L.uO f k (lvl f n) hV hlt l.1 l.2) Sq a_ ?_;have x:p k=decide ((dS f k (lvl f n):Nat)=n):=by rw[←hp]
     have e:=aGX k p;have A:(1:Nat)*1≤16777216:=by decide
     by_cases c:dS f k (lvl f n)=n
     ·rw[aG (by rw[x];simp[c])]at e;simp only[go_sem,cC (show((dS f k (lvl f n):Nat):Int)=(n:Int) by omega),Ao,A];refine jD (src:=[[.int .i64 k]]) u Sq (by unfold roomFor;have:=aOM k p;rw[dN];simp only[a8J,maxLen];omega) λv' H' w _=>?_;rw[azC,←e]at w;simp only[go_sem,UL,wZz k];exact aJ (k+1,v',H') ⟨hlt,w⟩ (by simp only;omega) Lq b_
     ·rw[aD (by rw[x];simp[c])]at e;simp only[go_sem,bO (show((dS f k (lvl f n):Nat):Int)≠(n:Int) by omega),UL,wZz k];rw[←e]at u;exact aJ (k+1,v,H) ⟨hlt,u⟩ (by simp only;omega) Lq b_
    ·have i:¬(k:Int)<(Z' f.a6O:Nat):=Om;have:k=Z' f.a6O:=Om;subst this;simp only[go_sem,i,ky];exact Fb u Sq

theorem aMH{xs:List Int}{k:Nat}{d:Int}(h:k<Z' xs):(xs.take (k+1)).contains d=((xs.take k).contains d||decide (xs[k]=d)):=by
 rw[Bool.eq_iff_iff];rw[List.contains_iff_mem,baC h,a9T,baQ,Bool.or_eq_true,List.contains_iff_mem,decide_eq_true_eq];exact⟨λh=>h.imp id Eq.symm,λh=>h.imp id Eq.symm⟩
theorem aUY{C:Ctx}(l:List Int)(y:Z' l≤1000000000000000)(x:Int):cd.wp C (aY aOT.res (aK (.bool (l.contains x)))) (PF.args [ints l,.int .i64 x]) .nil:=by
 simp only[go_sem,cd,arA,arB,aOT];refine wp_loop (α:=Nat) (λk=>(((PF.nil.set 0 (ints l)).set 1 (.int .i64 x)).set 5 (.int .i64 k))) (λ_=>.nil) (λk=>k≤Z' l∧(l.take k).contains x=false) (λk=>Z' l-k) 0 ⟨a8H _,by simp⟩ Lq a_ ?_;rintro k ⟨w,p⟩;simp only[go_sem,aqZ,arC,a7Z];by_cases hlt:k<Z' l
 ·have e:(k:Int)<(Z' l:Nat):=Om;have i:(l.map λn=>[PV.int .i64 n])[k]?=some [.int .i64 l[k]]:=by simp[hlt]
  have u:=aMH (d:=x) hlt;by_cases c:l[k]=x
  ·simp only[go_sem,e,Ff,i,cC c,arD];refine aX (.inr rfl) rfl ?_;rw[bR];exact congrArg PV.bool (List.contains_iff_mem.2 (c ▸ a8G hlt)).symm
  ·simp only[go_sem,e,Ff,i,bO c,arE,wZz k];exact aJ (k+1) ⟨hlt,by rw[u,p];simp[c]⟩ Om Lq b_
 ·have e:¬(k:Int)<(Z' l:Nat):=Om;have:k=Z' l:=Om;subst this;rw[a9E]at p;simp only[go_sem,e,arF];refine aX (.inr rfl) rfl ?_;rw[bR,p]


structure PU(f:aE)(L:List (List Int)):Prop where
 len:Z' L=Z' f.a6Q
 row:∀v (h:v<Z' L),((L[v].length:Nat):Int)=wQ f v
 home:∀r∈L,∀x∈r,-1≤x∧x<Z' f.a6O
theorem PU.a0P{f:aE}{L:List (List Int)}(h:PU f L)(hV:VF f):∀k,k≤Z' L→(L.take k).flatten.length≤k*8:=by
 have w:=h.len;intro k
 induction k with
 |zero=>intro _;simp
 |succ k p =>intro e;rw[JD L e,a8F];have u:=p Om;have i:=h.row k e;obtain⟨hp,l⟩:=rk hV (Om:k<Z' f.a6Q);have d:=hV.a7A _ (a8G hp);rw[l]at d;unfold wQ at i;omega
theorem PU.ok{f:aE}(hV:VF f){L:List (List Int)}(h:PU f L):yJ L:=by
 have e:=hV.small.a6Q;have d:=h.len;have:=h.a0P hV L.length (a8E _);rw[a9E]at this;exact⟨by omega,by omega⟩
section
variable {H:PH} {B:List BX} {L:List LI}
end
theorem jb{p:Int→Bool}:∀{l:List Int}{i:Nat},(∀x∈l,p x=false)→oJ p l i=none
 |[],_,_=>rfl
 |y::t,i,h=>by rw[oJ,h y bD,aD aV];exact jb λx d=>h x (by simp[d])
theorem PU.shape{f:aE}{L:List (List Int)}(h:PU f L){v:Nat}(d:v<Z' L):zS f L v=none:=by
 have e:L.getD v []=L[v]:=by simp[a8V,d]
 unfold zS;rw[e,aG (h.row v d),jb]
 ·rfl
 ·intro x i;have:=h.home _ (a8G d) x i;simp[yP];omega
section
variable {H:PH} {B:List BX} {L:List LI} {s:Nat} {rows:List (List PV)}
theorem rT.some(s:Nat)(rows:List (List PV))(G:PH):∃r H',rT s rows r H'∧pU G .nil H':=by
 obtain⟨o,i⟩:=G.fresh;refine⟨.osl o s 0 rows.length,PH.nil.set o (.rows s rows),.inr ⟨o,rows,rfl,rfl,a8E _,a9E⟩,λq x d _=>?_⟩;rw[aS]at d;split at d
 ·rename_i e;rw[e];exact i
 ·cases d
end

section
variable {C:Ctx} {F:PF} {H Hs:PH} {tn a a2:Nat} {raw:List Int} {R:Nat→PV→PH→Prop} {st:Bool} {args:List aQ} {d:Option Nat} {K:PF→PH→Prop}
end
section
variable {C:Ctx} {F:PF} {H:PH} {B:List BX} {L:List LI} {args:List aQ} {d:Option Nat} {K:PF→PH→Prop}
theorem aT.aBP(h:aT H B L)(i:Nat){o name:Nat}{x y:aU}{r:PV}{vs:List PV}(hi:B[i]?=some (o,x))(l:aH C name vs (PH.nil.set o x) (λr' H'=>r'=r∧H'=PH.nil.set o y))(e:aQ.evs F args=some vs)
  (p:∀H',aT H' (B.set i (o,y)) L→K (F.put d r) H'):kY C name args [] d K F H:=pJ l (h.at i hi) e (p _ (h.set i hi y))
end


theorem PU.move{f:aE}{L:List (List Int)}(h:PU f L){x k d:Nat}(u:x<Z' L)(w:d<Z' f.a6O):PU f (L.set x (L[x].set k d)):=by
 refine⟨by rw[a9R];exact h.len,λv p=>?_,λr i=>?_⟩
 ·rw[a9R]at p;have:=h.row v p;rw[List.getElem_set];split
  ·rename_i e;subst e;rw[a9R];exact this
  ·exact this
 ·rcases bcE i with i|rfl
  ·exact h.home r i
  ·intro y l;rcases bcE l with l|rfl
   ·exact h.home _ (a8G u) y l
   ·omega


structure Qj(C:Ctx):Prop extends tx C where
 int:∀n:Int,eH n→aH C 47 [.int .i64 n] .nil (aK (.agg (mkT n 1).cells))
 mul:∀a b,Lim a→Lim b→Z' a≤35184372087808→Z' b≤35184372087808→aH C 36 [aN a,aN b] .nil (aK (opV (fI (val a) (val b)) (val a*val b)))
 add:∀a b,Lim a→Lim b→Z' a≤35184372087808→Z' b≤35184372087808→aH C 30 [aN a,aN b] .nil (aK (opV (fI (val a) (val b)) (val a+val b)))
 sub:∀a b,Lim a→Lim b→Z' a≤35184372087808→Z' b≤35184372087808→aH C 37 [aN a,aN b] .nil (aK (xK (val a) (val b)))
theorem Ol(a b:Nat):dV a b=(decide (nl b>0)&&(decide (nl b≤128)&&decide (nl a≤128))):=by
 have:=@lE b;refine Bool.eq_iff_iff.2 ?_;rw[jQ];simp only[a8C,decide_eq_true_eq];omega
theorem aJI{C:Ctx}(L:Qj C)(neg:Bool)(a b:List Nat)(u:Lim a)(hb:Lim b)(w:Z' a≤35184372087808)(p:Z' b≤35184372087808) :
  NY.wp C (aY ahA.res (aK (.bool (dV (val a) (val b))))) (PF.args [.agg (fR neg a b)]) .nil:=by
 rw[Ol];simp only[go_sem,NY,O6,O7,ahA];refine aB (L.trim b hb p) rfl ?_;simp only[go_sem,a7Z,bG];by_cases i:nl (val b)>0
 ·have d:((nl (val b):Nat):Int)>0:=Om;simp only[go_sem,d];refine aB (L.trim b hb p) rfl ?_;simp only[go_sem,a7Z,bG];by_cases l:nl (val b)≤128
  ·have e:((nl (val b):Nat):Int)≤128:=Om;simp only[go_sem,e];refine aB (L.trim a u w) rfl ?_;simp only[go_sem,a7Z,bG];refine aX (.inr rfl) rfl ?_;have:decide (((nl (val a):Nat):Int)≤128)=decide (nl (val a)≤128):=by refine decide_eq_decide.2 ?_;omega
   rw[bR,this,bN i,bN l];rfl
  ·have e:¬((nl (val b):Nat):Int)≤128:=Om;simp only[go_sem,e];refine aX (.inr rfl) rfl ?_;rw[bR,cB l,a8L,a9S]
 ·have d:¬((nl (val b):Nat):Int)>0:=Om;simp only[go_sem,d];refine aX (.inr rfl) rfl ?_;rw[bR,cB i,a8L]
theorem po{neg:Bool}{a b:Nat}(h:dV a b=true):lJ neg a b=.ok (qV neg a b):=by
 obtain⟨l,d,e⟩:=jQ.1 h;have i:=(qA (a/a8B a b) 128).2 (y9 _ e);have e2:=(qA (b/a8B a b) 128).2 (y9 _ d);unfold lJ qV;rw[aD Om]
def avP(a b:Nat):Bool:=decide (nl a>128)||decide (nl b>128)
theorem aJF{C:Ctx}(neg:Bool)(a b:List Nat) :
  NU.wp C (aY agH.res (aK (.bool (decide (Z' a>128)||decide (Z' b>128))))) (PF.args [.agg (fR neg a b)]) .nil:=by
 simp only[go_sem,NU,Oo,Oq,agH,a7Z];by_cases c:Z' a>128
 ·have d:(Z' a:Int)>128:=Om;simp only[go_sem,d];refine aX (.inr rfl) rfl ?_;rw[bR,bN c,Bool.true_or]
 ·have d:¬(Z' a:Int)>128:=Om;simp only[go_sem,d,a7Z];refine aX (.inr rfl) rfl ?_;have:decide ((Z' b:Int)>128)=decide (Z' b>128):=by refine decide_eq_decide.2 ?_;omega
  rw[bR,this,cB c,Bool.false_or]
def Tk(x:FV):FR:=if avP x.2.1 x.2.2 then .error 2 else .ok x
theorem aSR(neg:Bool)(a b:Nat):Tk (qV neg a b)=lJ neg a b:=by
 have d:=qA (a/a8B a b) 128;have e2:=qA (b/a8B a b) 128;unfold Tk qV lJ avP;simp only[Bool.or_eq_true,decide_eq_true_eq];by_cases c:nl (a/a8B a b)>128∨nl (b/a8B a b)>128
 ·rw[aG c,aG Om]
 ·rw[aD c,aD Om]
structure t6(C:Ctx):Prop extends Qj C where
 valid:∀x:RF,x.Ok→aH C 56 [.agg x.cells] .nil (aK (.bool (dV (val x.num) (val x.den))))
 big:∀x:FV,aH C 48 [.agg x.rf.cells] .nil (aK (.bool (avP x.2.1 x.2.2)))
theorem aQL{C:Ctx}(L:t6 C)(x:FV):VQ.wp C (aY aCH.res (cN (frV (Tk x)))) (PF.args [.agg x.rf.cells]) .nil:=by
 simp only[go_sem,VQ,agC,aCH];refine aR λo d=>?_;simp only[go_sem,agD];refine aB (L.big x) rfl ?_;unfold Tk;cases avP x.2.1 x.2.2 with
 |true =>simp only[go_sem,agE];refine lC ?_;simp only[go_sem]
 |false =>obtain⟨n,a,b⟩:=x;simp only[go_sem,agF];exact bE (.inr rfl) .nil (vs:=[.agg (FV.rf (n,a,b)).cells,.int .i64 0]) Sq a_ ⟨.refl _,rfl⟩
theorem aCM{C:Ctx}(L:t6 C)(x:RF)(d:x.Ok):IN.wp C (aY F6.res (cN (frV (sI x)))) (PF.args [.agg x.cells]) .nil:=by
 simp only[go_sem,IN,Bs,F6];refine aR λo p=>?_;simp only[go_sem,Bt];refine aB (L.valid x d) rfl ?_;unfold sI;cases i:dV (val x.num) (val x.den)with
 |false =>simp only[go_sem,a8P,Bu];refine lC ?_;simp only[go_sem]
 |true =>obtain⟨l,u,w⟩:=jQ.1 i;have e:=po (neg:=x.neg) i;rw[aG rfl,e];simp only[go_sem,a8I,Bv];refine aB (L.lowest x.neg x.num x.den d.1 d.2.1 d.2.2.1 d.2.2.2 Om Om l) rfl ?_;simp only[go_sem];exact bE (.inr rfl) .nil (vs:=[.agg (qV x.neg (val x.num) (val x.den)).rf.cells,.int .i64 0]) Sq a_ ⟨.refl _,rfl⟩
theorem aJH{C:Ctx}(L:Qj C)(a b:List Nat)(d:Lim a)(hb:Lim b)(e:Z' a≤35184372087808)(i:Z' b≤35184372087808)(l:nl (val a)≤256)(p:nl (val b)≤256) :
  NW.wp C (aY agZ.res (aK (aN (aM (val a*val b))))) (PF.args [aN a,aN b]) .nil:=by
 simp only[go_sem,NW,O3,O4,agZ];refine aB (L.mul a b d hb e i) rfl ?_;have:=pT l p;rw[kZ Om Om,opV,IH Om];simp only[go_sem,O5];refine aX (.inr rfl) rfl ?_;rfl
structure Rn(C:Ctx):Prop extends t6 C where
 fits:∀x:FV,aH C 57 [.agg x.rf.cells] .nil (aK (frV (Tk x)))
 red:∀x:RF,x.Ok→aH C 52 [.agg x.cells] .nil (aK (frV (sI x)))
 prod:∀a b,Lim a→Lim b→Z' a≤35184372087808→Z' b≤35184372087808→nl (val a)≤256→nl (val b)≤256→aH C 60 [aN a,aN b] .nil (aK (aN (aM (val a*val b))))
def RF.valid(x:RF):Prop:=dV (val x.num) (val x.den)=true
def uA(x y:RF):Int:=tZ x.neg (val x.num) (val x.den) y.neg (val y.num) (val y.den)
def voS:Spec:=λname vs=>match name,vs with
 |60,[x,y]=>some ([],λ_=>aK (aN (aM (val (mB x)*val (mB y)))))
 |_,_=>none
theorem DD(a b:List Nat):voS 60 [aN a,aN b]=some ([],λ_=>aK (aN (aM (val a*val b)))):=by
 show some _=_;rw[fP,fP]
theorem Gr(a b:Nat):fA b a=- fA a b:=by
 unfold fA;rcases Nat.lt_trichotomy a b with h|h|h
 ·rw[aD Om,aG h,aG h];rfl
 ·subst h;rw[aD Om,aD Om];rfl
 ·rw[aG h,aD Om,aG h]
set_option maxHeartbeats 1000000 in
theorem aJG {C : Ctx} (L : Rn C) (x y : RF) (hx : x.Ok) (hy : y.Ok) (vx : x.valid) (vy : y.valid) : NV.wp C (aY agP.res (aK (.int .i64 (uA x y)))) (PF.args [.agg x.cells, .agg y.cells]) .nil := by
  obtain ⟨n1, a1, b1⟩ := x;obtain ⟨n2, a2, b2⟩ := y;obtain ⟨ha1, hb1, la1, lb1⟩ := hx;obtain ⟨ha2, hb2, la2, lb2⟩ := hy;obtain ⟨v1, v2, v3⟩ := jQ.1 vx;obtain ⟨w1, w2, w3⟩ := jQ.1 vy;simp only at ha1 hb1 la1 lb1 ha2 hb2 la2 lb2 v1 v2 v3 w1 w2 w3;have m1 := pT v3 w2;have m2 := pT w3 v2;have hA : decide (val a1 ≠ 0) = decide (nl (val a1 * val b2) > 0) := by refine decide_eq_decide.2 ?_;have := @lE (val a1 * val b2);rw [Nat.mul_eq_zero] at this;omega
  have hB : decide (val a2 ≠ 0) = decide (nl (val a2 * val b1) > 0) := by refine decide_eq_decide.2 ?_;have := @lE (val a2 * val b1);rw [Nat.mul_eq_zero] at this;omega
  unfold uA tZ;simp only [hA, hB];simp only[go_sem,NV,Ot,agP];refine cP .nil voS a_ ?_;simp only[go_sem,Ou];refine cR (DD a1 b2) (L.prod a1 b2 ha1 hb2 la1 lb2 Om Om) rfl a_ ?_;simp only[go_sem];refine cR (DD a2 b1) (L.prod a2 b1 ha2 hb1 la2 lb1 Om Om) rfl a_ ?_;have hc := L.cmp (aM (val a1 * val b2)) (aM (val a2 * val b1)) (bB _) (bB _) (by rw [bG]; omega) (by rw [bG]; omega);have hd := L.cmp (aM (val a2 * val b1)) (aM (val a1 * val b2)) (bB _) (bB _) (by rw [bG]; omega) (by rw [bG]; omega);rw [aZ, aZ] at hc hd;rw [Gr (val a1 * val b2)] at hd;generalize val a1 * val b2 = A at *
  generalize val a2 * val b1 = B at *
  have gA : decide (((nl A : Nat) : Int) > 0) = decide (nl A > 0) := decide_eq_decide.2 Om;have gB : decide (((nl B : Nat) : Int) > 0) = decide (nl B > 0) := decide_eq_decide.2 Om;generalize decide (nl A > 0) = p at *
  generalize decide (nl B > 0) = q at *
  cases n1 <;> cases n2 <;> cases p <;> cases q
  all_goals
    simp only[go_sem,Ov,a7Z,bG,gA,gB,Ow,Ox,Oy,Oz,O0,O1,O2]
    first
    | (refine aX (.inr rfl) rfl ?_; rfl)
    | (refine aB hc rfl ?_
       simp only[go_sem];refine aX (.inr rfl) rfl ?_;rfl)
    | (refine aB hd rfl ?_
       simp only[go_sem];refine aX (.inr rfl) rfl ?_;rfl)
structure GR(C:Ctx):Prop extends Rn C where
 order:∀x y:RF,x.Ok→y.Ok→x.valid→y.valid→aH C 51 [.agg x.cells,.agg y.cells] .nil (aK (.int .i64 (uA x y)))
theorem aQO{C:Ctx}(L:GR C)(x y:RF)(d:x.Ok)(e:y.Ok)(i:x.valid)(l:y.valid):VS.wp C (aY aCK.res (aK (.bool (decide (uA x y<0))))) (PF.args [.agg x.cells,.agg y.cells]) .nil:=by
 simp only[go_sem,VS,agI,agJ,aCK];refine aB (L.order x y d e i l) rfl ?_;simp only[go_sem];refine aX (.inr rfl) rfl ?_;rfl
theorem aQQ{C:Ctx}(L:GR C)(x y:RF)(d:x.Ok)(e:y.Ok)(i:x.valid)(l:y.valid):VW.wp C (aY aCN.res (aK (.bool (uA x y==0)))) (PF.args [.agg x.cells,.agg y.cells]) .nil:=by
 simp only[go_sem,VW,agQ,agR,aCN];refine aB (L.order x y d e i l) rfl ?_;simp only[go_sem];refine aX (.inr rfl) rfl ?_;rfl
theorem PD(n:Int):mkT n 1=⟨decide (n<0),aM n.natAbs,aM 1⟩:=by
 unfold mkT qV FV.rf;rw[show(1:Int).natAbs=1 from rfl,Nat.gcd_one_right,Nat.div_one,Nat.div_one,show decide ((1:Int)<0)=false from rfl];congr 1;by_cases h:n<0
 ·have:n.natAbs≠0:=Om;simp[h,this]
 ·simp[h]
theorem PC(n:Int)(h:eH n):(mkT n 1).Ok∧(mkT n 1).valid:=by
 have d:nl n.natAbs≤2:=sF (by unfold eH at h;omega);rw[PD];refine⟨⟨bB _,bB _,?_,?_⟩,?_⟩
 ·simp only[bG];omega
 ·simp only[CQ];decide
 ·unfold RF.valid;simp only[aZ];rw[Ol];have:nl 1=1:=by rw[nl,CQ];rfl
  simp[this];omega
def wU(x:RF):Int:=if val x.num=0 then 0 else if x.neg then -1 else 1
theorem aOL(x:RF):uA x (mkT 0 1)=wU x:=by
 rw[PD];unfold uA wU tZ;simp only[aZ,show(0:Int).natAbs=0 from rfl,Nat.mul_one,Nat.zero_mul];by_cases h:val x.num=0
 ·simp[h,fA]
 ·cases x.neg<;>simp[h,fA]
def viS(r:Int):Spec:=λname _=>if name=47 then some ([],λ_=>aK (.agg (mkT 0 1).cells))else some ([],λ_=>aK (.int .i64 r))
theorem aQR{C:Ctx}(L:GR C)(x:RF)(i:x.Ok)(l:x.valid):VX.wp C (aY aCO.res (aK (.int .i64 (wU x)))) (PF.args [.agg x.cells]) .nil:=by
 have d:eH 0:=by unfold eH;omega
 have e:=L.order x (mkT 0 1) i (PC 0 d).1 l (PC 0 d).2;rw[aOL]at e;simp only[go_sem,VX,agS,aCO];refine cP .nil (viS (wU x)) a_ ?_;simp only[go_sem,agT];refine cR rfl (L.int 0 d) rfl a_ ?_;simp only[go_sem];refine cR rfl e rfl a_ ?_;simp only[go_sem];refine aX (.inr rfl) rfl ?_;rfl
theorem aJC{C:Ctx}(L:GR C)(i l:Bool)(a1 b1 a2 b2:List Nat)(O:Lim a1)(J:Lim b1)(Q:Lim a2)(K:Lim b2)
  (R:Z' a1≤35184372087808) (M:Z' b1≤35184372087808) (S:Z' a2≤35184372087808) (N:Z' b2≤35184372087808) :
  KU.wp C (aY aCD.res (cN (frV (kI (i,val a1,val b1) (l,val a2,val b2))))) (PF.args [.agg (fR i a1 b1),.agg (fR l a2 b2)]) .nil:=by
 have vx:aH C 56 [.agg (fR i a1 b1)] .nil (aK (.bool (dV (val a1) (val b1)))):=L.valid ⟨i,a1,b1⟩ ⟨O,J,R,M⟩;have vy:aH C 56 [.agg (fR l a2 b2)] .nil (aK (.bool (dV (val a2) (val b2)))):=L.valid ⟨l,a2,b2⟩ ⟨Q,K,S,N⟩;simp only[go_sem,KU,atG,aCD];refine aR λo ho=>?_;simp only[go_sem,atH];refine aB vx rfl ?_;simp only[kI];cases hv:dV (val a1) (val b1)with
 |false =>simp only[go_sem,a8P,Fw,a8L];refine lC ?_;simp only[go_sem]
 |true=>
  obtain⟨v1,v2,v3⟩:=jQ.1 hv;simp only[go_sem,a8I];refine aB vy rfl ?_;cases hw:dV (val a2) (val b2)with
  |false =>simp only[go_sem,a8P,Fw,a9S];refine lC ?_;simp only[go_sem]
  |true=>
   obtain⟨w1,w2,w3⟩:=jQ.1 hw;simp only[go_sem,a8I,baN];refine cP .nil voS a_ ?_;simp only[go_sem,atI];refine cR (DD a1 b2) (L.prod a1 b2 O K R N Om Om) rfl a_ ?_;simp only[go_sem];refine cR (DD a2 b1) (L.prod a2 b1 Q J S M Om Om) rfl a_ ?_;simp only[go_sem];refine cR (DD b1 b2) (L.prod b1 b2 J K M N Om Om) rfl a_ ?_;simp only[go_sem];have m1:=pT v3 w2;have m2:=pT w3 v2;have m3:=pT v2 w2;have d0:val b1*val b2≠0:=Nat.mul_ne_zero v1 w1;generalize hA:val a1*val b2=A at *
   generalize hB:val a2*val b1=B at *
   generalize hD:val b1*val b2=D at *
   have fin:∀(F:PF)(H:PH)(r:FR),(∃d x y e,frV r=.tup [.agg (fR d x y),.int .i64 e]∧F 4=some (.ptr o 3 0 0)∧F 5=some (.int .i64 e)∧H o=some (.rows 3 [fR d x y]))→aY [.cell 4 (some 3),.tmp 5] (cN (frV r)) .ret F H:=by rintro F H r ⟨d,x,y,e,he,f4,f5,hH⟩;rw[he];exact bE (.inr rfl) .nil (vs:=[.agg (fR d x y),.int .i64 e]) (by simp only[go_sem,f4,f5,hH]) a_ ⟨.refl _,rfl⟩
   have W:(i==l)=decide (i=l):=by cases i<;>cases l<;>rfl
   have low:∀neg x,nl x≤257→aH C 58 [.bool neg,aN (aM x),aN (aM D)] .nil (aK (.agg (qV neg x D).rf.cells)):=by
    intro neg x hx;have Z:(aM x).length≤35184372087808:=by rw[bG];omega
    have h2:(aM D).length≤35184372087808:=by rw[bG];omega
    have:=L.lowest neg (aM x) (aM D) (bB _) (bB _) Z h2;rw[aZ,aZ]at this;exact this Om Om d0
   have E:∀neg x,aH C 57 [.agg (qV neg x D).rf.cells] .nil (aK (frV (lJ neg x D))):=λneg x=>by
    have:=L.fits (qV neg x D)
    rwa[aSR]at this
   have lA:(aM A).length≤35184372087808:=by rw[bG];omega
   have lB:(aM B).length≤35184372087808:=by rw[bG];omega
   simp only[go_sem,atJ];by_cases c:i=l
   ·rw[aG c];have U:(i==l)=true:=by rw[W,bN c]
    simp only[go_sem,U,atK];have u:=L.add (aM A) (aM B) (bB _) (bB _) lA lB;have α:=Zy m1 m2;rw[aZ,aZ,kZ Om Om,opV,IH Om]at u;refine aB u rfl ?_;simp only[go_sem,atL];refine aB (low i _ Om) rfl ?_;simp only[go_sem];refine aB (E i _) rfl ?_;obtain⟨d,x,y,e,p⟩:=AN (lJ i (A+B) D);rw[p];simp only[go_sem];rw[←p];exact fin _ _ _ ⟨d,x,y,e,p,by simp only[go_sem],by simp only[go_sem],by simp only[go_sem]⟩
   ·rw[aD c];have U:(i==l)=false:=by rw[W,cB c]
    simp only[go_sem,U,atM];have hc:=L.cmp (aM A) (aM B) (bB _) (bB _) lA lB;rw[aZ,aZ]at hc;refine aB hc rfl ?_;have w:∀X Y:Nat,nl X≤256→nl Y≤256→Y≤X→aH C 37 [aN (aM X),aN (aM Y)] .nil (aK (.tup [aN (aM (X-Y)),.int .i64 0])):=by intro X Y Z h2 h;have:=L.sub (aM X) (aM Y) (bB _) (bB _) (by rw[bG];omega) (by rw[bG];omega);have h3:=jS (Om:X-Y≤X);rw[aZ,aZ,xK,kZ Om Om,aD aV,aD Om,IH Om]at this;exact this
    by_cases g:B≤A
    ·have V:fA A B≥0:=(ge A B).2 g;rw[aG g];simp only[go_sem,V,atO];refine aB (w A B Om Om g) rfl ?_;simp only[go_sem,atP];have h3:=jS (Om:A-B≤A);refine aB (low i (A-B) Om) rfl ?_;simp only[go_sem];refine aB (E i _) rfl ?_;obtain⟨d,x,y,e,p⟩:=AN (lJ i (A-B) D);rw[p];simp only[go_sem];rw[←p];exact fin _ _ _ ⟨d,x,y,e,p,by simp only[go_sem],by simp only[go_sem],by simp only[go_sem]⟩
    ·have V:¬fA A B≥0:=λh=>g ((ge A B).1 h);rw[aD g];simp only[go_sem,V,afZ];refine aB (w B A Om Om Om) rfl ?_;simp only[go_sem,agA];have h3:=jS (Om:B-A≤B);refine aB (low l (B-A) Om) rfl ?_;simp only[go_sem];refine aB (E l _) rfl ?_;obtain⟨d,x,y,e,p⟩:=AN (lJ l (B-A) D);rw[p];simp only[go_sem];rw[←p];exact fin _ _ _ ⟨d,x,y,e,p,by simp only[go_sem],by simp only[go_sem],by simp only[go_sem]⟩
theorem aVR{C:Ctx}(L:GR C)(x y:RF)(d:x.Ok)(e:y.Ok):KU.wp C (aY aCD.res (cN (frV (kI x.v y.v)))) (PF.args [.agg x.cells,.agg y.cells]) .nil:=
 aJC L x.neg y.neg x.num x.den y.num y.den d.1 d.2.1 e.1 e.2.1 d.2.2.1 d.2.2.2 e.2.2.1 e.2.2.2
structure avF(C:Ctx):Prop extends GR C where
 less:∀x y:RF,x.Ok→y.Ok→x.valid→y.valid→aH C 49 [.agg x.cells,.agg y.cells] .nil (aK (.bool (decide (uA x y<0))))
 same:∀x y:RF,x.Ok→y.Ok→x.valid→y.valid→aH C 53 [.agg x.cells,.agg y.cells] .nil (aK (.bool (uA x y==0)))
 sign:∀x:RF,x.Ok→x.valid→aH C 54 [.agg x.cells] .nil (aK (.int .i64 (wU x)))
 plus:∀x y:RF,x.Ok→y.Ok→aH C 46 [.agg x.cells,.agg y.cells] .nil (aK (frV (kI x.v y.v)))
def vsF(l:List RF)(o2 o4 k:Nat):PF:=((((PF.nil.set 0 (frs l)).set 2 (.ptr o2 3 0 0)).set 4 (.ptr o4 3 0 0)).set 5 (.int .i64 k))
theorem aVT{C:Ctx}(L:avF C)(l:List RF)(hl:∀x∈l,x.Ok)(V:Z' l≤9223372036854775807) :
  fg.wp C (aY aQT.res (cN (frV (rO (l.map RF.v))))) (PF.args [frs l]) .nil:=by
 have Y:eH 0:=by unfold eH;omega
 have hi:(mkT 0 1).cells=(FV.rf (false,0,1)).cells:=by rw[PD];rfl
 have y:=L.int 0 Y;rw[hi]at y;simp only[go_sem,fg,atW,aQT];refine aR λo2 β=>?_;have Z:aT (PH.nil.set o2 (.rows 3 [[.bool false,.aF,.aF]])) [(o2,.rows 3 [[.bool false,.aF,.aF]])] []:=aT.nil.new (H:=PH.nil) rfl _;generalize(PH.nil.set o2 _)=H1 at *
 simp only[go_sem,atX];refine aB y rfl ?_;simp only[go_sem];refine aR λo4 S=>?_;have h2:=Z.new S (.rows 3 [(FV.rf (false,0,1)).cells]);simp only[go_sem,atY];refine wp_loop (α:=Nat × FV × PH) (λt=>vsF l o2 o4 t.1) (λt=>t.2.2) (λt=>t.1≤Z' l∧((l.map RF.v).take t.1).foldlM kI (false,0,1)=.ok t.2.1∧aT t.2.2 [(o2,.rows 3 [[.bool false,.aF,.aF]]),(o4,.rows 3 [(FV.rf t.2.1).cells])] []∧(FV.rf t.2.1).Ok) (λt=>Z' l-t.1)
  (0,(false,0,1),_) ⟨a8H _,rfl,h2,⟨bB _,bB _,?_,?_⟩⟩ ?_ b_ ?_
 ·show(aM 0).length≤_;rw[jO];simp
 ·show(aM 1).length≤_;rw[CQ];simp
 ·unfold vsF;exact Lq
 rintro⟨k,i,U⟩ ⟨hk,M,B,u⟩;simp only at hk M B u ⊢;simp only[go_sem,atV,atZ,vsF,a7Z];by_cases hlt:k<Z' l
 ·have p:(k:Int)<(Z' l:Nat):=Om;have hr:(l.map RF.cells)[k]?=some (l[k]).cells:=by simp[hlt]
  have w:=L.plus (FV.rf i) l[k] u (hl _ (a8G hlt));rw[FV.aXT]at w;have d:=jd (f:=kI) (l.map RF.v) (false,0,1) (k:=k) (by simpa using hlt);rw[M]at d;simp only[Except.bind,a9Q]at d;have N:=B.at 1 rfl;simp only[go_sem,p];refine cP .nil (λ_ _=>some ([],λ_=>aK (frV (kI i (l[k]).v)))) a_ ?_;simp only[go_sem,auA,N,hr];refine cR rfl w rfl a_ ?_;cases K:kI i (l[k]).v with
  |error e=>
   have R:e≠0:=by
    revert K;obtain⟨n1,a1,b1⟩:=i;obtain⟨n2,a2,b2⟩:=(l[k]).v;simp only[kI,lJ]
    repeat' split
    all_goals (intro h;first|(injection h with h;subst h;decide)|cases h)
   rw[K]at d;simp only[go_sem,frV];refine aR λo6 A=>?_;simp only[go_sem];refine⟨a_,?_⟩;have E:=B.new A (.rows 3 [[.bool false,aN [],aN []]]);have e2:=E.at 0 rfl;simp only[go_sem,F7,eC R,auB,e2];rw[rO,wr _ _ d];refine lC ?_;simp only[go_sem]
  |ok r=>
   rw[K]at d;obtain⟨rn,F,J⟩:=r;simp only[go_sem,frV];refine aR λo6 A=>?_;simp only[go_sem];refine⟨a_,?_⟩;have E:=B.new A (.rows 3 [(FV.rf (rn,F,J)).cells]);have X:=E.at 2 rfl;have O:=E.at 1 rfl;generalize hG:U.set o6 (.rows 3 [(FV.rf (rn,F,J)).cells])=W at *
   have Q:U.set o6 (.rows 3 [[.bool rn,aN (aM F),aN (aM J)]])=W:=hG;simp only[go_sem,F7,auC,Q,X,O,auD,wZz k];have h7:=(E.set 1 rfl (.rows 3 [(FV.rf (rn,F,J)).cells])).BK 2;refine aJ (k+1,(rn,F,J),_) ⟨hlt,d,h7,Dl K⟩ (by simp only;omega) ?_ b_;exact Lq
 ·have p:¬(k:Int)<(Z' l:Nat):=Om;have:k=Z' l:=Om;subst this;rw[a8T bD]at M;rw[rO,M];have e2:=B.at 0 rfl;have N:=B.at 1 rfl;obtain⟨n,a,b⟩:=i;simp only[go_sem,p,agY,N,e2];exact bE (.inr rfl) .nil (vs:=[.agg (FV.rf (n,a,b)).cells,.int .i64 0]) Sq a_ ⟨.refl _,rfl⟩
theorem dge{n:Nat}(k:Nat):decide ((n:Int)≥(k:Int))=decide (k≤n):=decide_eq_decide.2 Om
theorem dle{n:Nat}(k:Nat):decide ((n:Int)≤(k:Int))=decide (n≤k):=decide_eq_decide.2 Om
theorem aCS{C:Ctx}(n:Nat):IR.wp C (aY Gb.res (aK (.bool (gR n)))) (PF.args [.int .u8 n]) .nil:=by
 have e:=dge (n:=n) 97;have i:=dle (n:=n) 122;have l:=dge (n:=n) 65;have p:=dle (n:=n) 90;simp only[Int.cast_ofNat_Int]at e i l p;unfold gR;generalize decide (97≤n)=a at *
 generalize decide (n≤122)=b at *
 generalize decide (65≤n)=c at *
 generalize decide (n≤90)=d at *
 cases a<;>cases b<;>cases c<;>cases d
 all_goals
  simp only[go_sem,IR,Ce,Cf,Gb,e,i,l,p];refine aX (.inr rfl) rfl ?_;rfl
theorem aJJ{C:Ctx}(n:Nat):OA.wp C (aY ahB.res (aK (.bool (qF n)))) (PF.args [.int .u8 n]) .nil:=by
 have d:=dge (n:=n) 48;have e:=dle (n:=n) 57;simp only[Int.cast_ofNat_Int]at d e;unfold qF;generalize decide (48≤n)=a at *
 generalize decide (n≤57)=b at *
 cases a<;>cases b
 all_goals
  simp only[go_sem,OA,O9,Pa,ahB,d,e];refine aX (.inr rfl) rfl ?_;rfl
theorem aCQ{C:Ctx}(d:∀n:Nat,aH C 65 [.int .u8 n] .nil (aK (.bool (gR n))))(e:∀n:Nat,aH C 63 [.int .u8 n] .nil (aK (.bool (qF n))))(n:Nat) :
  IP.wp C (aY F9.res (aK (.bool (jK n)))) (PF.args [.int .u8 n]) .nil:=by
 have g1:((n:Int)==45)=decide (n=45):=by by_cases h:n=45<;>simp[h];omega
 have g2:((n:Int)==46)=decide (n=46):=by by_cases h:n=46<;>simp[h];omega
 have k1:=d n;have k2:=e n;unfold jK;generalize decide (n=45)=a at *
 generalize decide (n=46)=b at *
 simp only[go_sem,IP,Bz,B0,F9];refine aB k1 rfl ?_;cases gR n with
 |true =>simp only[go_sem];refine aX (.inr rfl) rfl ?_;rfl
 |false=>
  simp only[go_sem];refine aB k2 rfl ?_;cases qF n<;>cases a<;>cases b
  all_goals
   simp only[go_sem,g1,g2];refine aX (.inr rfl) rfl ?_;rfl
theorem aCR{C:Ctx}(A:∀n:Nat,aH C 65 [.int .u8 n] .nil (aK (.bool (gR n))))(B:∀n:Nat,aH C 64 [.int .u8 n] .nil (aK (.bool (jK n))))(s:List UInt8) :
  IQ.wp C (aY Ga.res (aK (.bool (isName s)))) (PF.args [.str s]) .nil:=by
 simp only[go_sem,IQ,B6,B7,Ga];cases s with
 |nil =>have y:decide (((0:Nat):Int)<1)=true:=rfl;simp only[go_sem,FK,baE,y];refine aX (.inr rfl) rfl ?_;rfl
 |cons c t=>
  have E:(c::t)[0]?=some c:=rfl;have i:isName (c::t)=(decide ((c::t).length≤16)&&gR c.toNat&&(c::t).all λc=>jK c.toNat):=rfl;have e:¬(((c::t).length:Nat):Int)<1:=by simp only[a9O];omega
  generalize c::t=s at *
  by_cases x:Z' s≤16
  ·have l:¬(Z' s:Int)>16:=Om;rw[bN x,a8R]at i;have k1:=A c.toNat;simp only[go_sem,e,l,E,a8X];refine aB k1 rfl ?_;cases w:gR c.toNat with
   |false =>simp only[go_sem,a8P,FK];refine aX (.inr rfl) rfl ?_;rw[bR,i,w,a8L]
   |true=>
    rw[w,a8R]at i;simp only[go_sem,a8I,B8];refine wp_loop (α:=Nat) (λk=>((PF.nil.set 0 (.str s)).set 3 (.int .i64 k))) (λ_=>.nil) (λk=>k≤Z' s∧(s.take k).all (λc=>jK c.toNat)=true) (λk=>Z' s-k) 0 ⟨a8H _,rfl⟩ Lq a_ ?_;rintro k ⟨F,p⟩;simp only[go_sem,B5,B9];by_cases hlt:k<Z' s
    ·have d:(k:Int)<(Z' s:Nat):=Om;have u:s[k]?=some s[k]:=a8N hlt;have k2:=B (s[k]).toNat;simp only[go_sem,d,Ca,u,a8X];refine aB k2 rfl ?_;cases hi:jK (s[k]).toNat with
     |false =>simp only[go_sem,a8P,Cb];refine aX (.inr rfl) rfl ?_;rw[bR,i,tN hlt hi]
     |true =>simp only[go_sem,a8I,Cc,wZz k];exact aJ (k+1) ⟨hlt,by simpa using tM hlt p hi⟩ Om Lq b_
    ·have d:¬(k:Int)<(Z' s:Nat):=Om;have:k=Z' s:=Om;subst this;rw[a9E]at p;simp only[go_sem,d,Cd];refine aX (.inr rfl) rfl ?_;rw[bR,i,p]
  ·have l:(Z' s:Int)>16:=Om;rw[cB x,a8L,a8L]at i;simp only[go_sem,e,l,FK];refine aX (.inr rfl) rfl ?_;rw[bR,i]
def QG(k m:Int):Bool:=within k 1 6&&(within m 0 4&&decide (k+m≤8))
theorem aPE{C:Ctx}(k m:Int):sL.wp C (aY UK.res (aK (.bool (QG k m)))) (PF.args [.int .i64 k,.int .i64 m]) .nil:=by
 unfold QG within;by_cases d:1≤k
 ·by_cases e:k≤6
  ·by_cases i:0≤m
   ·by_cases l:m≤4
    ·have p:IntKind.i64.wrap (k+m)=k+m:=wrap_i64 Om Om;simp only[go_sem,sL,BF,BG,UK,ge_iff_le,d,e,i,l,p];refine aX (.inr rfl) rfl ?_;simp[bR,d,e,i,l]
    ·simp only[go_sem,sL,BF,BG,UK,ge_iff_le,d,e,i,l];refine aX (.inr rfl) rfl ?_;simp[bR,d,e,i,l]
   ·simp only[go_sem,sL,BF,BG,UK,ge_iff_le,d,e,i];refine aX (.inr rfl) rfl ?_;simp[bR,d,e,i]
  ·simp only[go_sem,sL,BF,BG,UK,ge_iff_le,d,e];refine aX (.inr rfl) rfl ?_;simp[bR,d,e]
 ·simp only[go_sem,sL,BF,BG,UK,ge_iff_le,d];refine aX (.inr rfl) rfl ?_;simp[bR,d]
def OH:=bU [1] Proofs.Tryz.f44
def Pt:=aA OH 0
def Pu:=aA OH 1
def KW:=aA OH 2
def OG:aC:=(sq Pt (sq Pu (sq KW .ret)))
def ahX:bC:=⟨1,29,OG,[.tmp 2]⟩
def mK:=bU [] Proofs.Tryz.f80
def Cl:=aA mK 0
def Cm:=aA mK 1
def Cn:=aA mK 2
def Cp:=aA mK 3
def Cq:=aA mK 4
def Cr:=aA mK 5
def Cs:=aA mK 6
def Ct:=aA mK 7
def Ck:aC:=(dY Cq 12 0 Ct (sq Cr (.cond (Tm 20) (sq Cs .ret) .skip)))
def Cu:=aA mK 8
def IT:aC:=(sq Cl (dM Cm 9 Cn (.seq (cJ Cp 0 Ck) (sq Cu .ret))))
def Gf:bC:=⟨2,21,IT,[.tmp 4]⟩
def eJ:=bU [1] Proofs.Tryz.f41
def auK:=aA eJ 0
def auL:=aA eJ 1
def auM:=aA eJ 2
def GO:=aA eJ 3
def auN:=aA eJ 4
def auO:=aA eJ 5
def auP:=aA eJ 6
def Ge:=aA eJ 7
def auQ:=aA eJ 8
def auJ:aC:=(dY auO 44 0 auQ (sq auP (.cond (Tm 66) (sq Ge .ret) .skip)))
def ahK:=aA eJ 9
def s7:=dB eJ 0
def s8:=aA eJ 10
def ahL:=aA eJ 11
def ahM:=aA eJ 12
def ahN:=aA eJ 13
def ahO:=aA eJ 14
def ahP:=aA eJ 15
def s9:=aA eJ 16
def ta:=aA eJ 17
def ahQ:=aA eJ 18
def tc:=aA eJ 19
def WD:=aA eJ 20
def WC:aC:=(dY ahQ 111 6 WD (.region tc))
def td:=aA eJ 21
def sw:aC:=(dY ahP 90 4 td (sq s9 (cJ ta 6 WC)))
def ahR:=aA eJ 22
def sx:aC:=(dY ahN 85 2 ahR (cJ ahO 4 sw))
def ahS:=aA eJ 23
def ahT:=aA eJ 24
def te:=aA eJ 25
def ahU:=aA eJ 26
def ahV:=aA eJ 27
def sy:aC:=(dY ahT 141 8 ahV (sq te (.cond (Tm 148) (sq ahU .ret) .skip)))
def tf:=aA eJ 28
def fq:aC:=(sq auK (sq auL (dM auM 41 GO (.seq (cJ auN 0 auJ) (.seq (sq ahK (dq s7 (.cond (Tm 80) (sq s8 .ret) .skip))) (sq ahL (.seq (cJ ahM 2 sx) (.seq (cJ ahS 8 sy) (sq tf .ret)))))))))
def aQZ:bC:=⟨1,149,fq,[.tmp 2]⟩
def qR:=bU [] Proofs.Tryz.f87
def auS:=aA qR 0
def auT:=aA qR 1
def auU:=aA qR 2
def auV:=aA qR 3
def auW:=aA qR 4
def auX:=aA qR 5
def auY:=aA qR 6
def auZ:=aA qR 7
def auR:aC:=(dY auW 14 0 auZ (sq auX (.cond (Tm 22) (sq auY .ret) .skip)))
def avA:=aA qR 8
def ft:aC:=(sq auS (dM auT 10 auU (.seq (cJ auV 0 auR) (sq avA .ret))))
def aRB:bC:=⟨2,23,ft,[.tmp 4]⟩
def fx:=bU [] Proofs.Tryz.f38
def WW:=aA fx 0
def WX:=aA fx 1
def AH:aC:=(sq WW (sq WX .ret))
def ix:bC:=⟨3,15,AH,[.tmp 6]⟩
def mz:=bU [] Proofs.Tryz.f39
def Pq:=aA mz 0
def Ps:=aA mz 1
def OF:aC:=(sq Pq (sq Ps .ret))
def ahW:bC:=⟨6,35,OF,[.tmp 12]⟩
def lI:=bU [7] Proofs.Tryz.f45
def mo:=aA lI 0
def mp:=aA lI 1
def CB:=aA lI 2
def mq:=aA lI 3
def mr:=aA lI 4
def OE:=aA lI 5
def mu:=aA lI 6
def mw:=aA lI 7
def mm:aC:=(dY mr 29 0 mw (sq OE (.cond (Tm 36) (sq mu .ret) .skip)))
def my:=aA lI 8
def DR:aC:=(sq mo (dM mp 27 CB (.seq (cJ mq 0 mm) (sq my .ret))))
def tg:bC:=⟨4,37,DR,[.tmp 8]⟩
def Pf:=bU [6,7] Proofs.Tryz.f46
def auH:=aA Pf 0
def auI:=dB Pf 0
def fm:aC:=(sq auH (dq auI .ret))
def aQV:bC:=⟨4,26,fm,[.tmp 8]⟩
def qW:=bU [] Proofs.Tryz.f79
def Pk:=aA qW 0
def Pl:=aA qW 1
def Pm:=aA qW 2
def fp:=aA qW 3
def Pn:=aA qW 4
def Po:=aA qW 5
def Pj:aC:=(dY Pm 9 0 Po (sq fp (.cond (Tm 17) (sq Pn .ret) .skip)))
def Pp:=aA qW 6
def OD:aC:=(sq Pk (.seq (cJ Pl 0 Pj) (sq Pp .ret)))
def ahJ:bC:=⟨2,19,OD,[.tmp 4]⟩
def bQ:=bU [1] Proofs.Tryz.f13
def Pv:=aA bQ 0
def Pw:=aA bQ 1
def KX:=aA bQ 2
def Px:=aA bQ 3
def Py:=aA bQ 4
def Pz:=aA bQ 5
def P0:=aA bQ 6
def P1:=aA bQ 7
def fv:=aA bQ 8
def fw:=aA bQ 9
def WE:aC:=(dY P0 61 0 fw (sq P1 (.region fv)))
def Cv:=aA bQ 10
def Cw:=aA bQ 11
def Cx:=aA bQ 12
def Cy:=aA bQ 13
def WH:=aA bQ 14
def AE:=aA bQ 15
def WF:aC:=(dY Cw 91 2 AE (sq Cx (sq Cy (.region WH))))
def Cz:=aA bQ 16
def WI:=aA bQ 17
def WJ:=aA bQ 18
def C0:=aA bQ 19
def C1:=aA bQ 20
def C2:=aA bQ 21
def WK:=dB bQ 0
def sN:=aA bQ 22
def FN:aC:=(dY C0 169 4 sN (sq C1 (sq C2 (.draw WK))))
def WL:=aA bQ 23
def C3:=aA bQ 24
def C4:=aA bQ 25
def C5:=aA bQ 26
def WM:=aA bQ 27
def AF:=aA bQ 28
def FO:aC:=(dY C3 227 6 AF (sq C4 (sq C5 (.region WM))))
def WN:=aA bQ 29
def C6:=aA bQ 30
def C7:=aA bQ 31
def C8:=aA bQ 32
def WO:=aA bQ 33
def AG:=aA bQ 34
def C9:=aA bQ 35
def Da:=dB bQ 1
def Db:=aA bQ 36
def Dc:=aA bQ 37
def WP:=dB bQ 2
def WQ:=aA bQ 38
def WG:aC:=(dY Dc 344 12 WQ (.draw WP))
def Dd:=aA bQ 39
def FP:aC:=(dY C9 329 10 Dd (dq Da (cJ Db 12 WG)))
def WR:=aA bQ 40
def FQ:aC:=(dY C6 278 8 WR (sq C7 (sq C8 (sq WO (cJ AG 10 FP)))))
def WS:=aA bQ 41
def De:=aA bQ 42
def Df:=aA bQ 43
def WT:=dB bQ 3
def WU:=aA bQ 44
def FS:aC:=(dY De 368 14 WU (sq Df (.draw WT)))
def WV:=aA bQ 45
def OI:aC:=(sq Pv (dM Pw 53 KX (sq Px (sq Py (.seq (cJ Pz 0 WE) (.seq (cJ Cv 2 WF) (sq Cz (sq WI (.seq (cJ WJ 4 FN) (.seq (cJ WL 6 FO) (.seq (cJ WN 8 FQ) (.seq (cJ WS 14 FS) (sq WV .ret)))))))))))))
def ahY:bC:=⟨1,397,OI,[.tmp 2]⟩
def ml:=bU [8] Proofs.Tryz.f40
def Ph:=aA ml 0
def Pi:=aA ml 1
def OC:aC:=(sq Ph (sq Pi .ret))
def ahI:bC:=⟨2,18,OC,[.tmp 4,.tmp 5]⟩
theorem aCX{C:Ctx}(n lo hi:Int):AH.wp C (aY ix.res (aK (.bool (within n lo hi)))) (PF.args [.int .i64 n,.int .i64 lo,.int .i64 hi]) .nil:=by
 unfold within;by_cases h:lo≤n
 ·simp only[go_sem,AH,WW,WX,ix,ge_iff_le,h];refine aX (.inr rfl) rfl ?_;simp[bR,h]
 ·simp only[go_sem,AH,WW,WX,ix,ge_iff_le,h];refine aX (.inr rfl) rfl ?_;simp[bR,h]
def uE(a b c d e f:Nat):Bool:=decide (a≤4)&&(decide (b≤4)&&(decide (c≤40)&&(decide (d≤24)&&(decide (e≤4)&&decide (f≤12)))))
theorem aJQ{C:Ctx}(a b c d e f:Nat):OF.wp C (aY ahW.res (aK (.bool (uE a b c d e f)))) (PF.args [.int .i64 a,.int .i64 b,.int .i64 c,.int .i64 d,.int .i64 e,.int .i64 f]) .nil:=by
 have g:∀x k:Nat,decide ((x:Int)≤(k:Int))=decide (x≤k):=λx k=>decide_eq_decide.2 Om;have i:=g a 4;have l:=g b 4;have p:=g c 40;have u:=g d 24;have h5:=g e 4;have w:=g f 12;simp only[Int.cast_ofNat_Int]at i l p u h5 w;unfold uE;simp only[go_sem,OF,Pq,Ps,ahW,i];cases decide (a≤4)with
 |false =>simp only[go_sem];refine aX (.inr rfl) rfl ?_;rfl
 |true=>
  simp only[go_sem,l];cases decide (b≤4)with
  |false =>simp only[go_sem];refine aX (.inr rfl) rfl ?_;rfl
  |true=>
   simp only[go_sem,p];cases decide (c≤40)with
   |false =>simp only[go_sem];refine aX (.inr rfl) rfl ?_;rfl
   |true=>
    simp only[go_sem,u];cases decide (d≤24)with
    |false =>simp only[go_sem];refine aX (.inr rfl) rfl ?_;rfl
    |true=>
     simp only[go_sem,h5];cases decide (e≤4)with
     |false =>simp only[go_sem];refine aX (.inr rfl) rfl ?_;rfl
     |true =>simp only[go_sem,w];refine aX (.inr rfl) rfl ?_;rfl
structure tv(C:Ctx):Prop extends avF C where
 sum:∀l:List RF,(∀x∈l,x.Ok)→Z' l≤9223372036854775807→aH C 55 [frs l] .nil (aK (frV (rO (l.map RF.v))))
 inn:∀n lo hi:Int,aH C 76 [.int .i64 n,.int .i64 lo,.int .i64 hi] .nil (aK (.bool (within n lo hi)))
 code:∀k m:Int,aH C 61 [.int .i64 k,.int .i64 m] .nil (aK (.bool (QG k m)))
def TO(k m q s0 s1 s2 s3 s4:Int):Bool:=QG k m&&(within q k (k+m)&&(decide (s0=0)&&(within s1 0 8&&(within s2 0 8&&(within s3 0 8&&within s4 0 8)))))
theorem aUJ(p:cL):TN p=TO p.k p.m p.a7M p.s0 p.s1 p.s2 p.s3 p.s4:=by
 unfold TN TO QG;have:within p.s0 0 8=true∨p.s0≠0:=by
  by_cases h:p.s0=0
  ·rw[h];exact .inl rfl
  ·exact .inr h
 simp only[bbP,List.all_nil,baN];rcases this with h|h
 ·rw[h];simp only[a8R,bbK]
 ·simp only[h,decide_false,a8L,a9S]
def spR(s1 s2 s3 s4:Int)(k:Nat):Int:=match k with
 |1=>s1
 |2=>s2
 |3=>s3
 |_=>s4
theorem akK{C:Ctx}(L:tv C)(k m q s0 s1 s2 s3 s4:Int) :
  DR.wp C (aY tg.res (aK (.bool (TO k m q s0 s1 s2 s3 s4)))) (PF.args [.int .i64 k,.int .i64 m,.int .i64 q,.agg [.int .i64 s0,.int .i64 s1,.int .i64 s2,.int .i64 s3,.int .i64 s4]]) .nil:=by
 obtain⟨X,p⟩:∃X,TO k m q s0 s1 s2 s3 s4=X:=⟨_,rfl⟩;rw[p];unfold TO at p;simp only[go_sem,DR,mo,mp,tg];refine aB (L.code k m) rfl ?_;cases E:QG k m with
 |false =>rw[E,a8L]at p;simp only[go_sem,a8P,CB];refine aX (.inr rfl) rfl ?_;rw[bR,p]
 |true=>
  rw[E,a8R]at p;have hb:1≤k∧k≤6∧0≤m∧m≤4:=by simp only[QG,a8C,within_iff]at E;omega
  have O:IntKind.i64.wrap (k+m)=k+m:=wrap_i64 Om Om;simp only[go_sem,a8I,O];refine aB (L.inn q k (k+m)) rfl ?_;cases H:within q k (k+m)with
  |false =>rw[H,a8L]at p;simp only[go_sem,a8P,CB];refine aX (.inr rfl) rfl ?_;rw[bR,p]
  |true=>
   rw[H,a8R]at p;have B:(0:Int)<((5:Nat):Int):=by decide
   by_cases F:s0=0
   ·rw[bN F,a8R]at p;simp only[go_sem,a8I,B,dL F,mq];refine wp_loop (α:=Nat) (λj=>((PF.nil.set 7 (.bM [.int .i64 s0,.int .i64 s1,.int .i64 s2,.int .i64 s3,.int .i64 s4])).set 9 (.int .i64 j))) (λ_=>.nil) (λj=>1≤j∧j≤5∧∀i,1≤i→i<j→within (spR s1 s2 s3 s4 i) 0 8=true) (λj=>5-j) 1 ⟨by decide,by decide,λi E H=>by omega⟩ Lq a_ ?_;rintro j ⟨K,M,d⟩;simp only[go_sem,mm,mr];by_cases hlt:j<5
    ·have l:(j:Int)<5:=Om;have x:((j:Nat):Int)<((5:Nat):Int):=Om;have w:=L.inn (spR s1 s2 s3 s4 j) 0 8;obtain⟨c,u⟩:∃c,within (spR s1 s2 s3 s4 j) 0 8=c:=⟨_,rfl⟩;rw[u]at w;have y:c=true→∀i,1≤i→i<j+1→within (spR s1 s2 s3 s4 i) 0 8=true:=λA i a b=>by
      by_cases e:i=j
      ·rw[e,u,A]
      ·exact d i a Om
     have bad:c=false→X=false:=by intro h;rw[h]at u;have A:j=1∨j=2∨j=3∨j=4:=Om;rw[←p];rcases A with rfl|rfl|rfl|rfl<;>(simp only[spR]at u;rw[u];simp)
     have A:j=1∨j=2∨j=3∨j=4:=Om;cases c with
     |false=>
      have J:=bad rfl;rcases A with rfl|rfl|rfl|rfl
      all_goals
       simp only[spR]at w;simp only[go_sem,l,OE,x];refine aB w rfl ?_;simp only[go_sem,a8P,mu];refine aX (.inr rfl) rfl ?_;rw[bR,J]
     |true=>
      have N:=y rfl;rcases A with rfl|rfl|rfl|rfl
      all_goals
       simp only[spR]at w;simp only[go_sem,l,OE,x];refine aB w rfl ?_;simp only[go_sem,a8I,mw];refine aJ (_+1) ⟨by omega,hlt,N⟩ Om Lq b_
    ·have l:¬(j:Int)<5:=Om;have:j=5:=Om;subst this;simp only[go_sem,l,my];refine aX (.inr rfl) rfl ?_;have a1:=d 1 aV aV;have a2:=d 2 aV aV;have a3:=d 3 aV aV;have a4:=d 4 aV aV;simp only[spR]at a1 a2 a3 a4;rw[bR,←p,a1,a2,a3,a4];rfl
   ·rw[cB F,a8L]at p;simp only[go_sem,a8I,B,eC F,CB];refine aX (.inr rfl) rfl ?_;rw[bR,p]
theorem uV{x:RF}(h:dT x=true):x.valid:=by
 unfold dT sI at h;unfold RF.valid;cases d:dV (val x.num) (val x.den)with
 |true=>rfl
 |false =>rw[d]at h;simp at h
theorem aJR{C:Ctx}(L:tv C)(x:RF)(y:x.Ok):OG.wp C (aY ahX.res (aK (.bool (dT x)))) (PF.args [.agg x.cells]) .nil:=by
 have w:=L.red x y;unfold dT;simp only[go_sem,OG,Pt,Pu,ahX];refine aB w rfl ?_;cases p:sI x with
 |error e =>have l:=abK p;simp only[go_sem,frV];refine aR λo u=>?_;simp only[go_sem,KW,bO l];refine aX (.inr rfl) rfl ?_;rfl
 |ok r=>
  obtain⟨n,a,b⟩:=r;have A:=qA a 1;have B:=qA b 1;have d:decide (((nl a:Nat):Int)≤1)=decide (dJ a≤32):=decide_eq_decide.2 Om;have i:decide (((nl b:Nat):Int)≤1)=decide (dJ b≤32):=decide_eq_decide.2 Om;simp only[go_sem,frV];refine aR λo u=>?_;cases n with
  |true =>simp only[go_sem,KW,a8I];refine aX (.inr rfl) rfl ?_;rfl
  |false=>
   simp only[go_sem,KW,a8P,a7Z,bG,d];cases decide (dJ a≤32)with
   |false =>simp only[go_sem];refine aX (.inr rfl) rfl ?_;rfl
   |true =>simp only[go_sem,a7Z,bG,i];refine aX (.inr rfl) rfl ?_;rfl
structure Dg(C:Ctx):Prop extends tv C where
 small:∀x:RF,x.Ok→aH C 74 [.agg x.cells] .nil (aK (.bool (dT x)))
 nums:∀k m q s0 s1 s2 s3 s4:Int,aH C 72 [.int .i64 k,.int .i64 m,.int .i64 q,.agg [.int .i64 s0,.int .i64 s1,.int .i64 s2,.int .i64 s3,.int .i64 s4]] .nil (aK (.bool (TO k m q s0 s1 s2 s3 s4)))
 sizes:∀a b c d e f:Nat,aH C 73 [.int .i64 a,.int .i64 b,.int .i64 c,.int .i64 d,.int .i64 e,.int .i64 f] .nil (aK (.bool (uE a b c d e f)))
theorem wt{l:List RF}{k:Nat}(h:k<Z' l):(l.map RF.cells)[k]?=some (l[k]).cells:=by simp[h]
theorem aCW{C:Ctx}(L:Dg C)(l:List RF)(p:mX l)(n:Int):IT.wp C (aY Gf.res (aK (.bool (decide ((Z' l:Int)=n)&&l.all dT)))) (PF.args [frs l,.int .i64 n]) .nil:=by
 have u:=p.fits;unfold Fits at u;simp only[go_sem,IT,Cl,Cm,Gf,a7Z];by_cases h:(Z' l:Int)=n
 ·rw[bN h,a8R];subst h;simp only[go_sem,dL (show(Z' l:Int)=(Z' l:Nat)from rfl),Cp];refine wp_loop (α:=Nat) (λk=>(((PF.nil.set 0 (frs l)).set 1 (.int .i64 (Z' l:Nat))).set 5 (.int .i64 k))) (λ_=>.nil) (λk=>k≤Z' l∧(l.take k).all dT=true) (λk=>Z' l-k) 0 ⟨a8H _,rfl⟩ Lq a_ ?_;rintro k ⟨x,e⟩;simp only[go_sem,Ck,Cq];by_cases hlt:k<Z' l
  ·have d:(k:Int)<(Z' l:Nat):=Om;have w:=L.small l[k] (p.all _ (a8G hlt));simp only[go_sem,d,Cr,wt hlt];refine aB w rfl ?_;cases hi:dT l[k]with
   |false =>simp only[go_sem,a8P,Cs];refine aX (.inr rfl) rfl ?_;rw[bR,tN hlt hi]
   |true =>have i:=a8U.1 (tM hlt e hi);simp only[go_sem,a8I,Ct,wZz k];exact aJ (k+1) ⟨hlt,i⟩ Om Lq b_
  ·have d:¬(k:Int)<(Z' l:Nat):=Om;have:k=Z' l:=Om;subst this;rw[a9E]at e;simp only[go_sem,d,Cu];refine aX (.inr rfl) rfl ?_;rw[bR,e]
 ·rw[cB h,a8L];simp only[go_sem,eC h,Cn];refine aX (.inr rfl) rfl ?_;rfl
structure Dh(C:Ctx):Prop extends Dg C where
 smalls:∀l:List RF,mX l→∀n:Int,aH C 75 [frs l,.int .i64 n] .nil (aK (.bool (decide ((Z' l:Int)=n)&&l.all dT)))
theorem UO(x:RF):(wU x==0)=!bT x:=by
 unfold wU bT;by_cases h:val x.num=0
 ·simp[h]
 ·cases x.neg<;>simp[h]
def r8(l:List RF)(m:Int):Bool:=decide ((Z' l:Int)=max m 1)&&l.all dT&&l.all bT
theorem aVZ{C:Ctx}(L:Dh C)(l:List RF)(w:mX l)(m:Int):ft.wp C (aY aRB.res (aK (.bool (r8 l m)))) (PF.args [frs l,.int .i64 m]) .nil:=by
 have y:=w.fits;unfold Fits at y;have B:=L.smalls l w (max m 1);unfold r8;simp only[go_sem,ft,auS,auT,aRB,max_eq];refine aB B rfl ?_;cases h:(decide ((Z' l:Int)=max m 1)&&l.all dT)with
 |false =>simp only[go_sem,a8P,auU];refine aX (.inr rfl) rfl ?_;rfl
 |true=>
  rw[a8C]at h;have e:=a8U.1 h.2;simp only[go_sem,a8I,auV];refine wp_loop (α:=Nat) (λk=>((PF.nil.set 0 (frs l)).set 5 (.int .i64 k))) (λ_=>.nil) (λk=>k≤Z' l∧(l.take k).all bT=true) (λk=>Z' l-k) 0 ⟨a8H _,rfl⟩ Lq a_ ?_;rintro k ⟨E,p⟩;simp only[go_sem,auR,auW,a7Z];by_cases hlt:k<Z' l
  ·have d:(k:Int)<(Z' l:Nat):=Om;have x:=a8G hlt;have A:=L.sign l[k] (w.all _ x) (uV (e _ x));have i:=UO l[k];simp only[go_sem,d,auX,wt hlt];refine aB A rfl ?_;cases hi:bT l[k]with
   |false =>rw[hi]at i;simp only[go_sem,i,a8P,auY];refine aX (.inr rfl) rfl ?_;rw[bR,tN hlt hi]
   |true =>rw[hi]at i;have u:=a8U.1 (tM hlt p hi);simp only[go_sem,i,a8I,auZ,wZz k];exact aJ (k+1) ⟨hlt,u⟩ Om Lq b_
  ·have d:¬(k:Int)<(Z' l:Nat):=Om;have:k=Z' l:=Om;subst this;rw[a9E]at p;simp only[go_sem,d,avA];refine aX (.inr rfl) rfl ?_;rw[bR,p]
structure Di(C:Ctx):Prop extends Dh C where
 reps:∀l:List RF,mX l→∀m:Int,aH C 66 [frs l,.int .i64 m] .nil (aK (.bool (r8 l m)))
def frD:List PV→RF
 |[.bool n,a,b]=>⟨n,mB a,mB b⟩
 |_=>⟨false,[],[]⟩
theorem Ia(x:RF):frD x.cells=x:=by
 show(⟨x.neg,mB (aN x.num),mB (aN x.den)⟩:RF)=x;rw[fP,fP]
def zdS(r s:Bool):Spec:=λname vs=>match name,vs with
 |66,_=>some ([],λ_=>aK (.bool r))
 |74,[.agg cs]=>some ([],λ_=>aK (.bool (dT (frD cs))))
 |47,_=>some ([],λ_=>aK (.agg (mkT 1 1).cells))
 |49,_=>some ([],λ_=>aK (.bool s))
 |_,_=>none
theorem Pe(r s:Bool)(x:RF):zdS r s 74 [.agg x.cells]=some ([],λ_=>aK (.bool (dT x))):=by
 show some ([],λ_=>aK (.bool (dT (frD x.cells))))=_;rw[Ia]
theorem aGV(x y:RF):uA y x=- uA x y:=by
 unfold uA tZ;have e:=Gr (val x.num*val y.den) (val y.num*val x.den);cases x.neg&&decide (val x.num≠0)<;>cases y.neg&&decide (val y.num≠0)<;>simp only[e,Int.neg_neg]<;>rfl
theorem aOJ{x:RF}(d:x.valid):decide (uA (mkT 1 1) x<0)=!DN x:=by
 rw[aGV x];unfold DN;rw[show dV (val x.num) (val x.den)=true from d,a8R,PD];unfold uA;simp only[aZ,show(1:Int).natAbs=1 from rfl,show decide ((1:Int)<0)=false from rfl];by_cases h:tZ x.neg (val x.num) (val x.den) false 1 1≤0
 ·rw[bN h,cB Om];rfl
 ·rw[cB h,bN Om];rfl
def YP(m:Int)(rep:List RF)(t h:RF):Bool:=r8 rep m&&(dT t&&(DN t&&dT h))
theorem aVX{C:Ctx}(L:Di C)(m:Int)(rep:List RF)(u:mX rep)(t h:RF)(l:t.Ok)(p:h.Ok) :
  fm.wp C (aY aQV.res (aK (.bool (YP m rep t h)))) (PF.args [.int .i64 m,frs rep,.agg t.cells,.agg h.cells]) .nil:=by
 have e:eH 1:=by unfold eH;omega
 unfold YP;simp only[go_sem,fm,auH,aQV];refine cP .nil (zdS (r8 rep m) (!DN t)) a_ ?_;simp only[go_sem,auI];refine cR rfl (L.reps rep u m) rfl a_ ?_;cases r8 rep m with
 |false =>simp only[go_sem];refine aX (.inr rfl) rfl ?_;rfl
 |true=>
  simp only[go_sem];refine cR (Pe _ _ t) (L.small t l) rfl a_ ?_;cases i:dT t with
  |false =>simp only[go_sem];refine aX (.inr rfl) rfl ?_;rfl
  |true=>
   have d:=L.less (mkT 1 1) t (PC 1 e).1 l (PC 1 e).2 (uV i);rw[aOJ (uV i)]at d;simp only[go_sem];refine cR rfl (L.int 1 e) rfl a_ ?_;simp only[go_sem];refine cR rfl d rfl a_ ?_;cases DN t with
   |false =>simp only[go_sem,a8P,a8I];refine aX (.inr rfl) rfl ?_;rfl
   |true =>simp only[go_sem,a8I,a8P];refine cR (Pe _ _ h) (L.small h p) rfl a_ ?_;simp only[go_sem];refine aX (.inr rfl) rfl ?_;rfl
theorem aWV(p:cL):JX p=YP p.m p.repair p.target p.a6Y:=by
 unfold JX YP r8;have:(p.repair.all λx=>dT x&&bT x)=(p.repair.all dT&&p.repair.all bT):=by
  induction p.repair with
  |nil=>rfl
  |cons a t d =>simp only[bbP,d];cases dT a<;>cases bT a<;>simp
 rw[this];simp only[bbK]
section
variable {H:PH} {B:List BX} {L:List LI}
theorem aT.avK(h:aT H B L)(i:Nat){s b:Nat}{v y:PV}{rows src:List (List PV)}{K:PV→PH→Prop}(hi:L[i]?=some (v,s,rows))(A:dW H s y=some src)(x:roomFor rows.length src.length b)
  (l:∀v' H',bJ H' s v rows→aT H' B (L.set i (v',s,rows++src))→K v' H'):oP H s b v y K:=by
 rcases h.own i hi with⟨rfl,rfl⟩|⟨q,rs,rfl,h1,h2,h3⟩
 ·exact h.append i hi A x λv' H' E _=>l v' H' (.inl ⟨rfl,rfl⟩) E
 ·have d:(rows++src).length=Z' rows+Z' src:=a8F;refine⟨src,A,rfl,rfl,x,rs,h1,h2,?_,λo e=>?_⟩
  ·rw[h3];refine l _ _ (.inr ⟨q,rows++src,rfl,by rw[dK],by rw[d];omega,List.take_left' rfl⟩) (h.UX i hi (.inr ⟨q,rows++src,by rw[d],by simp only[aS,if_true],a8E _,a9E⟩) (λp hp=>by cases hp;exact .inl rfl) λp _ hp=>?_);rw[aS,aD (hp q rfl)]
  ·rw[h3];have w:q≠o:=by rintro rfl;rw[h1]at e;cases e
   refine l _ _ (.inr ⟨q,rs,rfl,by rw[aS,aD w];exact h1,h2,h3⟩) (h.UX i hi (.inr ⟨o,rows++src,by rw[d],by simp only[aS,if_true],a8E _,a9E⟩) (λp hp=>by cases hp;exact .inr e) λp u hp=>?_);obtain⟨f1,f2⟩:=h.fresh e;have F:p≠o:=by rintro rfl;exact u.elim f1 f2
   rw[aS,aD F]
end
abbrev qQ(l:List (List UInt8)):List (List PV):=l.map λs=>[PV.str s]
def HO:List (List UInt8)→List UInt8→Nat→Int
 |[],_,_=>-1
 |x::t,s,i=>if x==s then(i:Int)else HO t s (i+1)
theorem Wj(s:List UInt8):∀(l:List (List UInt8)) (i:Nat),decide (HO l s i<0)=!l.contains s
 |[],i=>rfl
 |x::t,i=>by
  rw[HO,List.contains_cons,BEq.comm (a:=s)];by_cases h:(x==s)=true
  ·rw[aG h,h,Bool.true_or,cB Om];rfl
  ·rw[aD h,Wj s t (i+1)];simp only[Bool.not_eq_true]at h;rw[h,Bool.false_or]
theorem aJO{C:Ctx}(l:List (List UInt8))(w:Z' l≤1000000)(s:List UInt8):OD.wp C (aY ahJ.res (aK (.int .i64 (HO l s 0)))) (PF.args [.sl 1 (qQ l),.str s]) .nil:=by
 simp only[go_sem,OD,Pk,Pl,ahJ];refine wp_loop (α:=Nat) (λk=>(((PF.nil.set 0 (.sl 1 (qQ l))).set 1 (.str s)).set 5 (.int .i64 k))) (λ_=>.nil) (λk=>k≤Z' l∧HO l s 0=HO (l.drop k) s k) (λk=>Z' l-k) 0 ⟨a8H _,rfl⟩ Lq a_ ?_;rintro k ⟨u,e⟩;simp only[go_sem,Pj,Pm,a7Z];by_cases hlt:k<Z' l
 ·have d:(k:Int)<(Z' l:Nat):=Om;have i:(qQ l)[k]?=some [.str l[k]]:=by simp[hlt]
  rw[baJ hlt,HO]at e;cases p:l[k]==s with
  |true =>rw[p,aG rfl]at e;simp only[go_sem,d,fp,i,p,Pn];refine aX (.inr rfl) rfl ?_;rw[bR,e]
  |false =>rw[p,aD aV]at e;simp only[go_sem,d,fp,i,p,Po,wZz k];exact aJ (k+1) ⟨hlt,e⟩ Om Lq b_
 ·have d:¬(k:Int)<(Z' l:Nat):=Om;have:k=Z' l:=Om;subst this;rw[List.drop_length,HO]at e;simp only[go_sem,d,Pp];refine aX (.inr rfl) rfl ?_;rw[bR,e]
structure Dj(C:Ctx):Prop extends Di C where
 name:∀s:List UInt8,aH C 62 [.str s] .nil (aK (.bool (isName s)))
 index:∀(l:List (List UInt8)),Z' l≤1000000→∀s:List UInt8,aH C 71 [.sl 1 (qQ l),.str s] .nil (aK (.int .i64 (HO l s 0)))
def mD(l:List (List UInt8))(s:List UInt8):Bool:=isName s&&!l.contains s
def tk(l:List (List UInt8))(s:List UInt8)(r:PV)(B:List BX)(L:List LI):Prop:=∃d,r=.tup [d,.bool (mD l s)]∧B=[]∧L=[(d,1,qQ (l++[s]))]
theorem aJN{C:Ctx}(L:Dj C)(l:List (List UInt8))(R:Z' l≤1000000)(s:List UInt8)(w:PV)(H:PH)(O:aT H [] [(w,1,qQ l)]) :
  OC.wp C (aY ahI.res (λr H'=>∃B' L',tk l s r B' L'∧aT H' B' L')) (PF.args [w,.str s]) H:=by
 have u:=L.index l R s;have J:=L.name s;have i:=Wj s l 0;have E:(1:Nat)*1≤16777216:=by decide
 have fin:∀(F:PF)(H':PH)(d:PV)(b:Bool),F 4=some d→F 5=some (.bool b)→b=mD l s→aT H' [] [(d,1,qQ (l++[s]))]→aY [.tmp 4,.tmp 5] (λr H'=>∃B' L',tk l s r B' L'∧aT H' B' L') .ret F H':=λF H' d b M N e A=>
  bE (vs:=[d,.bool b]) (.inr rfl) H' (by simp only[go_sem,M,N]) b_ ⟨[],_,⟨d,by rw[e];rfl,rfl,rfl⟩,A⟩
 simp only[go_sem,OC,Ph,Pi,ahI,E];refine O.avK 0 (src:=[[.str s]]) rfl rfl (by unfold roomFor;rw[a7Z];simp only[a8J,maxLen];omega) λd H' Q A=>?_;have p:aT H' [] [(d,1,qQ (l++[s]))]:=by
  have e:qQ (l++[s])=qQ l++[[.str s]]:=by simp[qQ]
  rw[e];exact A
 refine aB J rfl ?_;cases K:isName s with
 |false =>simp only[go_sem];exact fin _ _ d false rfl rfl (by unfold mD;rw[K,a8L]) p
 |true=>
  have x:mD l s=!l.contains s:=by unfold mD;rw[K,a8R]
  rcases Q with⟨S,rfl⟩|⟨q,rs,rfl,q1,q2,q3⟩
  ·simp only[go_sem];rw[S]at u;have y:aH C 71 [.aF,.str s] .nil (aK (.int .i64 (HO l s 0))):=u.args (.cons (.nil 1) (.cons (.refl _) .nil));refine aB y rfl ?_;simp only[go_sem,i];exact fin _ _ d _ rfl rfl x.symm p
  ·simp only[go_sem];refine akE (vs:=[.osl q 1 0 (qQ l).length,.str s]) (.int .i64 (HO l s 0)) ?_ q1 Sq ?_
   ·rw[a9D,a9D,baB,AP q2,q3];exact u
   simp only[go_sem,i];exact fin _ _ d _ rfl rfl x.symm p
theorem aHZ{x:RF}(h:dT x=true):decide (wU x>0)=bT x:=by
 have e:=uV h;unfold dT sI at h;rw[show dV (val x.num) (val x.den)=true from e,aG rfl,po e]at h;unfold wU bT;by_cases d:val x.num=0
 ·simp[d]
 ·have l:val x.num/a8B (val x.num) (val x.den)≠0:=by have:=Nat.div_pos (Nat.gcd_le_left (val x.den) (baU d)) (Nat.gcd_pos_of_pos_left _ (baU d));omega
  have i:x.neg=false:=by unfold qV at h;simp only[l,ne_eq,not_false_eq_true,decide_true,baN,a8C]at h;simpa using h.1
  rw[aD d,i];simp[d]
structure Re(l:cY):Prop where
 exit:∀x∈l.exit,dT x=true
 row:∀r∈l.a6T,∀x∈r,dT x=true
structure uM(C:Ctx):Prop extends Dj C where
 fresh:∀(l:List (List UInt8)),Z' l≤1000000→∀(s:List UInt8)(w:PV)(H:PH),aT H [] [(w,1,qQ l)]→aH C 70 [w,.str s] H (λr H'=>∃B' L',tk l s r B' L'∧aT H' B' L')
theorem uM.pos{C:Ctx}(L:uM C){x:RF}(d:x.Ok)(h:dT x=true):∃n:Int,aH C 54 [.agg x.cells] .nil (aK (.int .i64 n))∧decide (n>0)=bT x:=⟨_,L.sign x d (uV h),aHZ h⟩
def zlF(l:cY)(o r i:Nat):PF:=(((((PF.nil.set 1 (.bM l.cells)).set 3 (.int .i64 (Z' l.exit:Nat))).set 7 (.osl o 1 0 l.exit.length)).set 8 (.int .i64 r)).set 9 (.int .i64 i))
theorem aQW{C:Ctx}(L:uM C)(l:cY)(o r i:Nat)(row:List RF)(S:(l.a6T.map λr=>[frs r])[i]?=some [frs row])(M:mX row)(J:∀x∈row,dT x=true)(X:Z' row=Z' l.exit)(hi:i<Z' l.exit)(hn:Z' l.exit≤4)(e:List Bool)(Z:Z' e=Z' l.exit)(K:cD)[Up K](F:PF)(H:PH)
  (O:((zlF l o r i).set 10 (.int .i64 0)).le F) (N:(kV o e).le H)
  (W:K (.exit 6) (zlF l o r i) (kV o (dD e i row row.length))):aC.wp C (.loop WC) K F H:=by
 refine wp_loop (α:=Nat) (λk=>(zlF l o r i).set 10 (.int .i64 k)) (λk=>kV o (dD e i row k)) (λk=>k≤Z' row) (λk=>Z' row-k) 0 (a8H _) O N ?_;intro k hk;have V:=zP e i row k;have y:∀h:k<Z' row,dD e i row (k+1)=(dD e i row k).set i ((dD e i row k).getD i false||bT row[k]&&(dD e i row k).getD k false):=λh=>by simp only[dD,a8V,a8Y,a8N h,a8X,bbE]
 have fin:∀(b:Bool)(F:PF)(H:PH),k<Z' row→eA (dD e i row (k+1))=(eA (dD e i row k)).set i [.bool b]→((zlF l o r i).set 10 (.int .i64 (k+1:Nat))).le F→H o=some (.rows 1 ((eA (dD e i row k)).set i [.bool b])) →
   gV (λk:Nat=>(zlF l o r i).set 10 (.int .i64 k)) (λk=>kV o (dD e i row k)) (λk=>k≤Z' row) (λk=>Z' row-k) (Z' row-k) K .normal F H:=by
  intro b F H hlt hb O N;refine aJ (k+1) hlt Om O ?_;rw[←hb]at N;exact e_ a_ N
 unfold zlF kV at fin;simp only[go_sem,WC,ahQ,zlF,kV];by_cases hlt:k<Z' row
 ·have d:(k:Int)<(Z' l.exit:Nat):=Om;have w:(i:Int)<(Z' l.exit:Nat):=Om;have u:=wY (R:=dD e i row k) (i:=i) Om;have B:=wY (R:=dD e i row k) (i:=k) Om;have p:=y hlt;obtain⟨n,U,E⟩:=L.pos (M.all _ (a8G hlt)) (J _ (a8G hlt));have Q:=wt hlt;generalize hb:(dD e i row k).getD i false=b at *
  generalize hc:(dD e i row k).getD k false=c at *
  generalize Y:bT row[k]=A at *
  cases b with
  |true =>simp only[go_sem,d,tc,w,a8Q,u,WD,wZz k];exact fin true _ _ hlt (by rw[p,mO,Bool.true_or]) Lq Sq
  |false=>
   simp only[go_sem,d,tc,w,a8Q,u,S,Q];refine aB U rfl ?_;cases A with
   |false =>simp only[go_sem,E,w,d,a8Q,u,B,WD,wZz k];exact fin false _ _ hlt (by rw[p,mO,Bool.false_or,a8L]) Lq Sq
   |true =>simp only[go_sem,E,w,d,a8Q,u,B,WD,wZz k];exact fin c _ _ hlt (by rw[p,mO,Bool.false_or,a8R]) Lq Sq
 ·have d:¬(k:Int)<(Z' l.exit:Nat):=Om;have:k=Z' row:=Om;subst this;simp only[go_sem,d];refine Up.up ?_ W
  (repeat' (first|exact d_|refine c_ ?_ ?_))<;>first|(simp only[go_sem,zlF]<;>rfl)|rfl
theorem aQY{C:Ctx}(L:uM C)(l:cY)(S:l.Ok)(N:IU l)(V:Re l)(o r:Nat)(R:List Bool)(hR:Z' R=Z' l.exit)(K:cD)[Up K](F:PF)(H:PH)
  (J:(zlF l o r 0).le F) (M:(kV o R).le H)
  (X:K (.exit 4) (zlF l o r l.exit.length) (kV o (eD l R l.exit.length))):aC.wp C (.loop sw) K F H:=by
 refine wp_loop (α:=Nat) (λi=>zlF l o r i) (λi=>kV o (eD l R i)) (λi=>i≤Z' l.exit) (λi=>Z' l.exit-i) 0 (a8H _) J M ?_;intro i hi;have U:=vH l R i;have Y:=N.n;simp only[go_sem,sw,ahP,zlF,kV];by_cases hlt:i<Z' l.exit
 ·have d:(i:Int)<(Z' l.exit:Nat):=Om;have p:i<Z' l.a6T:=by rw[N.a6T];exact hlt
  have w:=wY (R:=eD l R i) (i:=i) Om;have Z:=wt hlt;have B:(l.a6T.map λr=>[frs r])[i]?=some [frs l.a6T[i]]:=by simp[p]
  have O:(l.a6T[i]).length=Z' l.exit:=N.row _ (a8G p);generalize u:(eD l R i).set i ((eD l R i).getD i false||bT l.exit[i])=E;have y:Z' E=Z' l.exit:=by rw[←u,a9R];omega
  have x:eD l R (i+1)=dD E i l.a6T[i] (l.a6T[i]).length:=by
   simp only[eD,oL];have W:(l.exit.map bT).getD i false=bT l.exit[i]:=by simp[a8V,hlt]
   have e2:l.a6T.getD i []=l.a6T[i]:=by simp[a8V,p]
   rw[W,e2,u]
  obtain⟨n,Q,A⟩:=L.pos (S.exit.all _ (a8G hlt)) (V.exit _ (a8G hlt));have rest:∀(F:PF)(H:PH),(zlF l o r i).le F→H o=some (.rows 1 (eA E)) →
    aC.wp C (.seq (.region ta) (.block 6 (.loop WC))) (fQ 5 (jW C (aC.wp C (.region td)) (gV (λi:Nat=>zlF l o r i) (λi=>kV o (eD l R i)) (λi=>i≤Z' l.exit) (λi=>Z' l.exit-i) (Z' l.exit-i) K))) F H:=by
   intro F H J M;refine FL _ (λ_ _ _ _ a b=>Up.up a b) J ?_;simp only[go_sem,ta];refine aQW L l o r i l.a6T[i] B (S.row _ (a8G p)) (V.row _ (a8G p)) O hlt Y E y _ _ _ (by(repeat' (first|exact d_|refine c_ ?_ ?_))<;>first|(simp only[go_sem,zlF]<;>rfl)|rfl) (e_ a_ M) ?_;simp only[go_sem,zlF,td,wZz i];exact aJ (i+1) hlt Om Lq (by rw[x];exact b_)
  simp only[zlF,kV]at rest;have e:=rest;simp only[aC.wp,go_sem]at e;generalize hb:(eD l R i).getD i false=b at *
  cases b with
  |true =>simp only[go_sem,d,s9,d,a8Q,w];refine e _ _ Lq ?_;rw[←u];simp only[go_sem,mO,Bool.true_or]
  |false =>simp only[go_sem,d,s9,d,a8Q,w,Z];refine aB Q rfl ?_;simp only[go_sem,d,a8Q,w,A];refine e _ _ Lq ?_;rw[←u];simp only[go_sem,mO,Bool.false_or]
 ·have d:¬(i:Int)<(Z' l.exit:Nat):=Om;have:i=Z' l.exit:=Om;subst this;simp only[go_sem,d];exact Up.up (by(repeat' (first|exact d_|refine c_ ?_ ?_))<;>first|(simp only[go_sem,zlF]<;>rfl)|rfl) X
theorem aQX{C:Ctx}(L:uM C)(l:cY)(x:l.Ok)(i:IU l)(y:Re l)(o:Nat)(K:cD)[Up K](F:PF)(H:PH)
  (p:(((((PF.nil.set 1 (.bM l.cells)).set 3 (.int .i64 (Z' l.exit:Nat))).set 7 (.osl o 1 0 l.exit.length)).set 8 (.int .i64 0)):PF).le F) (u:(kV o (eE l 0)).le H)
  (w:K (.exit 2) (((PF.nil.set 3 (.int .i64 (Z' l.exit:Nat))).set 7 (.osl o 1 0 l.exit.length))) (kV o (eE l l.exit.length))):aC.wp C (.loop sx) K F H:=by
 have A:=i.n;refine wp_loop (α:=Nat) (λr=>((((PF.nil.set 1 (.bM l.cells)).set 3 (.int .i64 (Z' l.exit:Nat))).set 7 (.osl o 1 0 l.exit.length)).set 8 (.int .i64 r))) (λr=>kV o (eE l r)) (λr=>r≤Z' l.exit) (λr=>Z' l.exit-r) 0 (a8H _) p u ?_;intro r B;have e:=vG l r;simp only[go_sem,sx,ahN];by_cases hlt:r<Z' l.exit
 ·have d:(r:Int)<(Z' l.exit:Nat):=Om;simp only[go_sem,d,ahO];refine aQY L l x i y o r (eE l r) e _ _ _ (by(repeat' (first|exact d_|refine c_ ?_ ?_))<;>first|(simp only[go_sem,zlF]<;>rfl)|rfl) b_ ?_;simp only[go_sem,zlF,ahR,wZz r];exact aJ (r+1) hlt Om Lq b_
 ·have d:¬(r:Int)<(Z' l.exit:Nat):=Om;have:r=Z' l.exit:=Om;subst this;simp only[go_sem,d];exact Up.up Lq w
theorem aYO{C:Ctx}(R:List Bool)(J:Z' R≤4)(o:Nat)(X:Bool)(B:X=R.all id)(Q:PV→PH→Prop)(A:Q=aK (.bool X))(F:PF)(H:PH)
  (x:((((PF.nil.set 3 (.int .i64 (Z' R:Nat))).set 7 (.osl o 1 0 R.length)).set 11 (.int .i64 0)):PF).le F) (y:(kV o R).le H):aC.wp C (.loop sy) (fQ 8 (jW C (aC.wp C (.seq (.region tf) .ret)) (aY [.tmp 2] Q))) F H:=by
 subst B A;refine wp_loop (α:=Nat) (λk=>(((PF.nil.set 3 (.int .i64 (Z' R:Nat))).set 7 (.osl o 1 0 R.length)).set 11 (.int .i64 k))) (λ_=>kV o R) (λk=>k≤Z' R∧(R.take k).all id=true) (λk=>Z' R-k) 0 ⟨a8H _,rfl⟩ x y ?_;rintro k ⟨K,u⟩;simp only[go_sem,sy,ahT,kV];by_cases hlt:k<Z' R
 ·have d:(k:Int)<(Z' R:Nat):=Om;have e:=wY (R:=R) (i:=k) hlt;have E:R.getD k false=R[k]:=by simp[a8V,hlt]
  rw[E]at e;cases l:R[k]with
  |false =>rw[l]at e;simp only[go_sem,d,te,a8Q,e,a8P,ahU];refine aX (.inr rfl) rfl ?_;rw[bR,tN hlt (p:=id) l]
  |true =>rw[l]at e;have w:=tM hlt u (p:=id) l;simp only[go_sem,d,te,a8Q,e,a8I,ahV,wZz k];exact aJ (k+1) ⟨hlt,by simpa using a8U.1 w⟩ Om Lq b_
 ·have d:¬(k:Int)<(Z' R:Nat):=Om;have:k=Z' R:=Om;subst this;rw[a9E]at u;simp only[go_sem,d,tf];refine aX (.inr rfl) rfl ?_;rw[bR,u]
def Marks(R S:List Bool):Prop:=Z' R=Z' S∧∀j:Nat,R[j]?=some true→S[j]?=some true
theorem Marks.aXU(R:List Bool):Marks R R:=⟨rfl,λ_ h=>h⟩
theorem Marks.trans{R S T:List Bool}(h:Marks R S)(k:Marks S T):Marks R T:=⟨h.1.trans k.1,λj a=>k.2 j (h.2 j a)⟩
theorem Yb(R:List Bool)(i:Nat)(b:Bool):Marks R (R.set i (R.getD i false||b)):=by
 refine⟨by rw[a9R],λj h=>?_⟩;rw[bcD];obtain⟨d,l⟩:=a9I.1 h;split
 ·rename_i e;subst e;rw[aG d,a8V,h];rfl
 ·exact h
theorem Ji(R:List Bool)(i:Nat)(row:List RF):∀k,Marks R (dD R i row k)
 |0=>Marks.aXU R
 |k+1=>(Ji R i row k).trans (Yb _ _ _)
theorem MC(l:cY)(R:List Bool):∀i,Marks R (eD l R i)
 |0=>Marks.aXU R
 |i+1=>(MC l R i).trans ((Yb _ _ _).trans (Ji _ _ _ _))
theorem Yc:∀{R S:List Bool},Marks R S→R≠S→R.count true<S.count true
 |[],[],_,h=>absurd rfl h
 |[],_::_,h,_=>by have:=h.1;simp at this
 |_::_,[],h,_=>by have:=h.1;simp at this
 |a::R,b::S,h,d=>by
  have i:a=true→b=true:=λe=>by have:=h.2 0 (by rw[e];rfl);simpa using this
  have p:Marks R S:=⟨by have:=h.1;simpa using this,λj l=>by have:=h.2 (j+1) (by simpa using l);simpa using this⟩;by_cases e:R=S
  ·subst e;have:a≠b:=λe=>d (by rw[e]);cases a<;>cases b<;>simp at this i ⊢
  ·have:=Yc p e;cases a<;>cases b<;>simp at i ⊢<;>omega
theorem uz:∀{R:List Bool},Z' R≤R.count true→R.all id=true
 |[],_=>rfl
 |a::R,h=>by
  have d:=List.count_le_length (a:=true) (l:=R);cases a with
  |true =>simp only[List.count_cons_self,a9O]at h;simp only[bbP,id,a8R];exact uz Om
  |false =>simp at h;omega
theorem UA(l:cY){s:Nat}(h:eE l (s+1)=eE l s):∀d,eE l (s+d)=eE l s
 |0=>rfl
 |d+1=>by show eD l (eE l (s+d)) l.exit.length=_;rw[UA l h d];exact h
theorem zt(l:cY):∀r,(∃s,s<r∧eE l (s+1)=eE l s)∨r≤(eE l r).count true
 |0=>.inr (a8H _)
 |r+1=>by
  rcases zt l r with⟨s,i,d⟩|h
  ·exact .inl ⟨s,by omega,d⟩
  ·by_cases e:eE l (r+1)=eE l r
   ·exact .inl ⟨r,by omega,e⟩
   ·have:=Yc (MC l (eE l r) l.exit.length) (λh=>e h.symm);exact .inr (by show r+1≤(eD l (eE l r) l.exit.length).count true;omega)
theorem aSN(l:cY):tC l=(eE l l.exit.length).all id:=by
 unfold tC;rcases zt l l.exit.length with⟨s,B,i⟩|h
 ·obtain⟨d,y⟩:∃d,Z' l.exit=s+d:=⟨Z' l.exit-s,by omega⟩;rw[show l.exit.length+1=s+(d+1) by omega,y,UA l i,UA l i]
 ·have p:(eE l l.exit.length).all id=true:=uz (by rw[vG];exact h);have w:Marks (eE l l.exit.length) (eE l (Z' l.exit+1)):=MC l (eE l l.exit.length) l.exit.length;rw[p,a8U];intro x A;obtain⟨j,u,rfl⟩:=a9X A;have e:j<(eE l l.exit.length).length:=by rw[w.1];exact u
  have:=w.2 j (by rw[a8N e];have:=a8U.1 p _ (a8G e);simpa using this);rw[a8N u]at this;simpa using this
def zsS(s:Bool):Spec:=λname vs=>match name,vs with
 |47,_=>some ([],λ_=>aK (.agg (mkT 1 1).cells))
 |53,_=>some ([],λ_=>aK (.bool s))
 |_,_=>none
theorem aMO(l:cY):nT l=(within l.start.length 1 4&&((decide ((Z' l.start:Int)=Z' l.start)&&l.start.all dT)&&((decide ((Z' l.exit:Int)=Z' l.start)&&l.exit.all dT)&&(decide (Z' l.a6T=Z' l.start)&&((a8A l.a6T.length).all (xH l)&&(BH l&&tC l)))))):=by
 rw[anZ,bN (rfl:(Z' l.start:Int)=Z' l.start),a8R];have:decide (Z' l.exit=Z' l.start)=decide ((Z' l.exit:Int)=Z' l.start):=decide_eq_decide.2 Om;rw[this];cases within l.start.length 1 4<;>cases decide ((Z' l.exit:Int)=Z' l.start)<;>cases decide (Z' l.a6T=Z' l.start)<;>cases l.start.all dT<;>cases l.exit.all dT<;>simp[bbK]
theorem abQ(l:cY){i:Nat}(h:i<Z' l.a6T):xH l i=((decide (((l.a6T[i]).length:Int)=Z' l.start)&&(l.a6T[i]).all dT)&&!((l.a6T[i]).map bT).getD i false):=by
 unfold xH;have:l.a6T.getD i []=l.a6T[i]:=by simp[a8V,h]
 rw[this];have:decide ((l.a6T[i]).length=Z' l.start)=decide (((l.a6T[i]).length:Int)=Z' l.start):=decide_eq_decide.2 Om;rw[this]
theorem aVY{C:Ctx}(L:uM C)(l:cY)(O:l.Ok):fq.wp C (aY aQZ.res (aK (.bool (nT l)))) (PF.args [.agg l.cells]) .nil:=by
 have d:=aMO l;have fail:∀(F:PF)(H:PH),nT l=false→F 2=some (.bool false)→aY [.tmp 2] (aK (.bool (nT l))) .ret F H:=λF H e h=>by rw[e];exact bE (vs:=[.bool false]) (.inr rfl) .nil (by simp only[go_sem,h]) a_ ⟨rfl,rfl⟩
 have e1:=L.smalls l.start O.start l.start.length;have e2:=L.smalls l.exit O.exit l.start.length;simp only[go_sem,fq,auK,auL,aQZ,a7Z,auM];by_cases c1:(Z' l.start:Int)<1
 ·simp only[go_sem,c1,GO];exact fail _ _ (by rw[d,show within l.start.length 1 4=false from by unfold within;rw[cB Om,a8L],a8L]) rfl
 by_cases c2:(Z' l.start:Int)>4
 ·simp only[go_sem,c1,c2,GO];exact fail _ _ (by rw[d,show within l.start.length 1 4=false from by unfold within;rw[cB (Om:¬(Z' l.start:Int)≤4),a9S],a8L]) rfl
 rw[show within l.start.length 1 4=true from by unfold within;rw[bN (Om:(1:Int)≤(Z' l.start:Nat)),bN (Om:(Z' l.start:Int)≤4)];rfl,a8R]at d;simp only[go_sem,c1,c2];refine aB e1 rfl ?_;cases k1:(decide ((Z' l.start:Int)=Z' l.start)&&l.start.all dT)with
 |false =>rw[k1,a8L]at d;simp only[go_sem,a8P,GO];exact fail _ _ d rfl
 |true=>
 rw[k1,a8R]at d;simp only[go_sem,a8I];refine aB e2 rfl ?_;cases k2:(decide ((Z' l.exit:Int)=Z' l.start)&&l.exit.all dT)with
 |false =>rw[k2,a8L]at d;simp only[go_sem,a8P,GO];exact fail _ _ d rfl
 |true=>
 rw[k2,a8R]at d;rw[a8C,decide_eq_true_eq]at k2;have A:Z' l.exit=Z' l.start:=Om;have N:=a8U.1 k2.2;by_cases c3:Z' l.a6T=Z' l.start
 case neg =>rw[cB c3,a8L]at d;simp only[go_sem,a8I,a7Z,eC (Om:(Z' l.a6T:Int)≠(Z' l.start:Nat)),GO];exact fail _ _ d rfl
 rw[bN c3,a8R]at d;simp only[go_sem,a8I,a7Z,dL (Om:(Z' l.a6T:Int)=(Z' l.start:Nat)),auN];refine wp_loop (α:=Nat) (λi=>(((PF.nil.set 1 (.bM l.cells)).set 3 (.int .i64 (Z' l.start:Nat))).set 4 (.int .i64 i))) (λ_=>.nil) (λi=>i≤Z' l.start∧∀j,j<i→xH l j=true) (λi=>Z' l.start-i) 0 ⟨a8H _,λj h=>by omega⟩ Lq a_ ?_;rintro i ⟨hi,u⟩;simp only[go_sem,auJ,auO];by_cases hlt:i<Z' l.start
 ·have w:(i:Int)<(Z' l.start:Nat):=Om;have y:i<Z' l.a6T:=Om;have E:(l.a6T.map λr=>[frs r])[i]?=some [frs l.a6T[i]]:=by simp[y]
  have V:=O.row _ (a8G y);have e3:=L.smalls l.a6T[i] V l.start.length;have p:=abQ l y;have bad:xH l i=false→nT l=false:=λh=>by rw[d,show(a8A l.a6T.length).all (xH l)=false from List.all_eq_false.2 ⟨i,a9M.2 y,by simp[h]⟩,a8L]
  simp only[go_sem,w,auP,E];refine aB e3 rfl ?_;cases k3:(decide (((l.a6T[i]).length:Int)=Z' l.start)&&(l.a6T[i]).all dT)with
  |false =>rw[k3,a8L]at p;simp only[go_sem,a8P,Ge];exact fail _ _ (bad p) rfl
  |true=>
   rw[k3,a8R]at p;rw[a8C,decide_eq_true_eq]at k3;have θ:(l.a6T[i]).length=Z' l.start:=Om;have J:i<(l.a6T[i]).length:=Om;have hm:=a8G J;have hs:=L.sign _ (V.all _ hm) (uV (a8U.1 k3.2 _ hm));have hz:=UO (l.a6T[i])[i];have hg:((l.a6T[i]).map bT).getD i false=bT (l.a6T[i])[i]:=by simp[a8V,J]
   rw[hg]at p;have B:(wU (l.a6T[i])[i] != 0)=bT (l.a6T[i])[i]:=by rw[bne,hz,Bool.not_not]
   simp only[go_sem,a8I,E,wt J];refine aB hs rfl ?_;cases k4:bT (l.a6T[i])[i]with
   |true =>rw[k4]at p B;simp only[go_sem,B,Ge];exact fail _ _ (bad p) rfl
   |false=>
    rw[k4]at p B;simp only[go_sem,B,auQ,wZz i];exact aJ (i+1) ⟨hlt,λj Z=>by
     by_cases e:j=i
     ·rw[e];exact p
     ·exact u j Om⟩ Om Lq b_
 ·have w:¬(i:Int)<(Z' l.start:Nat):=Om;have:i=Z' l.start:=Om;subst this;have K:(a8A l.a6T.length).all (xH l)=true:=a8U.2 λj Z=>u j (by rw[←c3];exact a9M.1 Z);rw[K,a8R]at d;have X:∀r∈l.a6T,Z' r=Z' l.start∧∀x∈r,dT x=true:=λr U=>by obtain⟨j,Z,rfl⟩:=a9X U;have h:=u j Om;rw[abQ l Z,a8C,a8C,decide_eq_true_eq]at h;exact⟨by omega,a8U.1 h.1.2⟩
  have S:Re l:=⟨N,λr U=>(X r U).2⟩;have R:IU l:=⟨by omega,by omega,λr U=>by rw[(X r U).1,A]⟩;have Y:=L.sum l.start O.start.all O.start.fits;simp only[go_sem,w,ahK];refine aB Y rfl ?_;cases Q:rO (l.start.map RF.v)with
  |error e=>
   have δ:=acP Q;have:BH l=false:=by unfold BH;rw[Q]
   rw[this,a8L]at d;simp only[go_sem,frV];refine aR λo ho=>?_;simp only[go_sem];refine cP .nil fT a_ ?_;simp only[go_sem,s7,eC δ,s8];exact fail _ _ d rfl
  |ok r=>
   have W:=arI Q;have ζ:=Av Q;obtain⟨n,a,b⟩:=r;have h1:eH 1:=by unfold eH;omega
   have M:=L.same (FV.rf (n,a,b)) (mkT 1 1) W (PC 1 h1).1 (by unfold RF.valid FV.rf;simp only[aZ];exact ζ) (PC 1 h1).2;have hP:BH l=(uA (FV.rf (n,a,b)) (mkT 1 1)==0):=by unfold BH;rw[Q,PD];unfold uA FV.rf;simp only[aZ,show(1:Int).natAbs=1 from rfl,show decide ((1:Int)<0)=false from rfl];by_cases h:tZ n a b false 1 1=0<;>simp[h]
   simp only[go_sem,frV];refine aR λo ho=>?_;have hH:aT (PH.nil.set o (.rows 3 [(FV.rf (n,a,b)).cells])) [(o,.rows 3 [(FV.rf (n,a,b)).cells])] []:=aT.nil.new (H:=PH.nil) rfl _;simp only[go_sem];refine cP (PH.nil.set o (.rows 3 [(FV.rf (n,a,b)).cells])) (zsS (uA (FV.rf (n,a,b)) (mkT 1 1)==0)) b_ ?_;simp only[go_sem,s7,dL (show(0:Int)=0 from rfl)];refine cR rfl (L.int 1 h1) rfl b_ ?_;simp only[go_sem];refine cR rfl M rfl b_ ?_;rw[←hP];cases hp:BH l with
   |false =>rw[hp,a8L]at d;simp only[go_sem,a8P,s8];exact fail _ _ d rfl
   |true=>
    rw[hp,a8R,aSN]at d;have β:(Z' l.start:Int)*((1:Nat):Int)≤140737488355328:=Om;have γ:(Z' l.start:Int)≤9223372036854775807:=Om;simp only[go_sem,a8I,ahL,β,γ];refine aR λq hq=>?_;simp only[go_sem,ahM];have η:a8D l.start.length [PV.bool false]=eA (eE l 0):=by rw[←A];simp[eE,eA]
    rw[←A];refine aQX L l O R S q _ _ _ Lq ?_ ?_
    ·refine e_ a_ ?_;rw[dK,A,η]
    simp only[go_sem,ahS];have ε:(eE l l.exit.length).length≤4:=by rw[vG];omega
    refine aYO (eE l l.exit.length) ε q (nT l) d _ rfl _ _ ?_ b_;rw[vG];exact Lq
structure xP(C:Ctx):Prop extends uM C where
 law:∀l:cY,l.Ok→aH C 68 [.agg l.cells] .nil (aK (.bool (nT l)))
def okL(base ns:List (List UInt8))(P:Nat→Bool)(i:Nat):Bool:=mD (base++ns.take i) (ns.getD i [])&&P i
theorem wX{p:Nat→Bool}(k:Nat)(b:Bool):(b&&(a8A (k+1)).all p)=((b&&(a8A k).all p)&&p k):=by
 rw[bbT,List.all_append];cases(a8A k).all p<;>cases b<;>simp
theorem wW{p:Nat→Bool}{b:Bool}{i n:Nat}(hi:i≤n)(h:(b&&(a8A i).all p)=false):(b&&(a8A n).all p)=false:=by
 cases b with
 |false=>rfl
 |true =>rw[a8R]at h ⊢;obtain⟨x,e,hp⟩:=List.all_eq_false.1 h;exact List.all_eq_false.2 ⟨x,a9M.2 (by have:=a9M.1 e;omega),hp⟩
structure kU(H:PH)(w:PV)(base ns:List (List UInt8))(c:Bool)(i:Nat):Prop where
 ex:∃names,aT H [] [(w,1,qQ names)]∧(c=true→names=base++ns.take i)
section
variable {C:Ctx} {F:PF} {H:PH} {d:Option Nat} {K:PF→PH→Prop}
theorem kU.call(L:uM C){w:PV}{base ns:List (List UInt8)}{i:Nat}{B:List BX}{e:List (List UInt8)}(h:aT H B [(w,1,qQ e)])(N:Z' base≤1000)(hi:i≤1000)(y:e=base++ns.take i)(p:i<Z' ns){a b:Nat}(l:aQ.evs F [.tmp a,.tmp b]=some [w,.str ns[i]])
  (E:∀u H',aT H' B [(u,1,qQ (e++[ns[i]]))]→kU H' u base ns true (i+1)→K (F.put d (.tup [u,.bool (mD (base++ns.take i) (ns.getD i []))])) H'):kY C 70 [.tmp a,.tmp b] [] d K F H:=by
 refine OB (B1:=[]) (B2:=B) (L1:=[(w,1,qQ e)]) (L2:=[]) (Q:=tk e ns[i]) h (λJ M=>L.fresh e (by rw[y,a8F,a8S];omega) ns[i] w J M) l ?_;rintro r B' L' H' ⟨u,rfl,rfl,rfl⟩ A;have x:ns.getD i []=ns[i]:=by simp[a8V,p]
 rw[x,←y]at E;refine E u H' A ⟨e++[ns[i]],A.sub (List.nil_sublist _) (baM.refl _),λ_=>?_⟩;rw[baC p,←a9G,y]
end
theorem kU.F8{H:PH}{w:PV}{base ns:List (List UInt8)}{c:Bool}{i:Nat}(h:kU H w base ns true i):kU H w base ns c i:=by
 obtain⟨e,l,p⟩:=h.ex;exact⟨e,l,λ_=>p rfl⟩
def RZ(f:aE):Bool:=(a8A f.a6V.length).all (okL [] (f.a6V.map cY.name) λi=>(f.a6V.map nT).getD i false)
theorem aWB{C:Ctx}(L:xP C)(f:aE)(Z:f.Ok)(hs:Z' f.a6V≤4)(K:cD)[Up K](F:PF)(H:PH)
  (X:(((((((((PF.nil.set 1 (.bM f.cells)).set 3 (.aF)).set 4 (.aF)).set 5 (.aF)).set 6 (.aF)).set 7 (.aF)).set 8 (.bool true)).set 9 (.int .i64 0)):PF).le F)
  (R:∀H',K (.exit 0) (((((((PF.nil.set 1 (.bM f.cells)).set 4 (.aF)).set 5 (.aF)).set 6 (.aF)).set 7 (.aF)).set 8 (.bool (RZ f)))) H'):aC.wp C (.loop WE) K F H:=by
 obtain⟨ok,J⟩:∃ok,okL [] (f.a6V.map cY.name) (λi=>(f.a6V.map nT).getD i false)=ok:=⟨_,rfl⟩;unfold RZ at R;rw[J]at R;refine wp_loop (α:=Nat × PV × PH) (λs=>((((((((PF.nil.set 1 (.bM f.cells)).set 3 (s.2.1)).set 4 (.aF)).set 5 (.aF)).set 6 (.aF)).set 7 (.aF)).set 8 (.bool (true&&(a8A s.1).all ok))).set 9 (.int .i64 s.1))) (λs=>s.2.2) (λs=>s.1≤Z' f.a6V∧kU s.2.2 s.2.1 [] (f.a6V.map cY.name) (true&&(a8A s.1).all ok) s.1) (λs=>Z' f.a6V-s.1)
  (0,.aF,H) ⟨a8H _,⟨[],aT.nil.sE 1,λ_=>rfl⟩⟩ X b_ ?_
 rintro⟨i,w,V⟩ ⟨hi,W⟩;simp only at hi W ⊢;have fin:∀(b:Bool)(y:PV)(N:PF)(H':PH),i<Z' f.a6V→(true&&(a8A (i+1)).all ok)=b→kU H' y [] (f.a6V.map cY.name) true (i+1) →
   (((((((((PF.nil.set 1 (.bM f.cells)).set 3 (y)).set 4 (.aF)).set 5 (.aF)).set 6 (.aF)).set 7 (.aF)).set 8 (.bool b)).set 9 (.int .i64 (i+1:Nat))):PF).le N →
   gV (λs:Nat × PV × PH=>((((((((PF.nil.set 1 (.bM f.cells)).set 3 (s.2.1)).set 4 (.aF)).set 5 (.aF)).set 6 (.aF)).set 7 (.aF)).set 8 (.bool (true&&(a8A s.1).all ok))).set 9 (.int .i64 s.1))) (λs=>s.2.2) (λs=>s.1≤Z' f.a6V∧kU s.2.2 s.2.1 [] (f.a6V.map cY.name) (true&&(a8A s.1).all ok) s.1) (λs=>Z' f.a6V-s.1) (Z' f.a6V-i) K .normal N H':=
  λb y N H' hlt hb Q O=>aJ (i+1,y,H') ⟨hlt,Q.F8⟩ (by simp only;omega) (by simp only;rw[hb];exact O) b_
 have l:=wX (p:=ok) i true;have x:(true&&(a8A i).all ok)=(true&&(a8A f.a6V.length).all ok)→K (.exit 0) (((((((PF.nil.set 1 (.bM f.cells)).set 4 (.aF)).set 5 (.aF)).set 6 (.aF)).set 7 (.aF)).set 8 (.bool (true&&(a8A i).all ok)))) V:=λe=>by rw[e,a8R];exact R V
 have B:=λh=>wW (p:=ok) (b:=true) hi h;generalize Y:(true&&(a8A i).all ok)=c at *
 simp only[go_sem,WE,P0,a7Z];by_cases hlt:i<Z' f.a6V
 ·have u:(i:Int)<(Z' f.a6V:Nat):=Om;cases c with
  |false =>simp only[go_sem,u];exact Up.up Lq (x (B rfl).symm)
  |true=>
   obtain⟨U,g1,g3⟩:=W.ex;have E:(f.a6V.map cY.cells)[i]?=some (f.a6V[i]).cells:=by simp[hlt]
   have S:i<(f.a6V.map cY.name).length:=by rw[a7Z];exact hlt
   have M:ok i=(mD ([]++(f.a6V.map cY.name).take i) ((f.a6V.map cY.name).getD i [])&&nT f.a6V[i]):=by rw[←J];unfold okL;simp[a8V,hlt]
   have hl:=L.law _ (Z.law _ (a8G hlt));rw[M]at l;simp only[go_sem,u,P1,E];refine kU.call L.touM (ns:=f.a6V.map cY.name) g1 (a8H _) Om (g3 rfl) S (by simp only[go_sem,a9Q]) λy H1 h1 A=>?_;generalize mD ([]++(f.a6V.map cY.name).take i) ((f.a6V.map cY.name).getD i [])=fb at *
   cases fb with
   |false =>simp only[go_sem,fv,fw,wZz i];exact fin false y _ _ hlt (l.trans rfl) A Lq
   |true =>simp only[go_sem,fv,E];refine aB hl rfl ?_;simp only[go_sem,fw,wZz i];exact fin _ y _ _ hlt (l.trans rfl) A Lq
 ·have u:¬(i:Int)<(Z' f.a6V:Nat):=Om;have:i=Z' f.a6V:=Om;subst this;simp only[go_sem,u];exact Up.up Lq (x Y.symm)
theorem cv{a b c d e f:Nat}(h:uE a b c d e f=true):a≤4∧b≤4∧c≤40∧d≤24∧e≤4∧f≤12:=by
 simp only[uE,a8C,decide_eq_true_eq]at h;omega
theorem Cg{n:Nat}(h:n≤1000):IntKind.i64.wrap ((n:Int)-1)=(n:Int)-1:=wrap_i64 Om Om
def inS:Spec:=λname vs=>match name,vs with
 |76,[.int _ n,.int _ lo,.int _ hi]=>some ([],λ_=>aK (.bool (within n lo hi)))
 |_,_=>none
def Eh(a6V:Nat)(m:dR):Bool:=within m.a7E 1 16&&(within m.port 1 64&&within m.law 0 ((a6V:Int)-1))
def agO(pols:Nat)(v:gQ):Bool:=within v.a7A 0 ((pols:Int)-1)
def GJ(f:aE):Bool:=(a8A f.a6P.length).all (okL [] (f.a6P.map dR.name) λi=>(f.a6P.map (Eh f.a6V.length)).getD i false)
theorem aJT{C:Ctx}(L:xP C)(f:aE)(hf:f.Ok)(hz:uE f.a6V.length f.a6P.length f.a6R.length f.a6O.length f.a6S.length f.a6Q.length=true)(b:Bool)(K:cD)[Up K](F:PF)(H:PH)
  (hF:((((((((PF.nil.set 1 (.bM f.cells)).set 4 (.aF)).set 5 (.aF)).set 6 (.aF)).set 7 (.aF)).set 8 (.bool b)).set 10 (.int .i64 0)):PF).le F)
  (S:∀H',K (.exit 2) ((((((PF.nil.set 1 (.bM f.cells)).set 5 (.aF)).set 6 (.aF)).set 7 (.aF)).set 8 (.bool (b&&GJ f)))) H'):aC.wp C (.loop WF) K F H:=by
 obtain⟨β,γ,δ,ε,ζ,η⟩:=cv hz;obtain⟨ok,E⟩:∃ok,okL [] (f.a6P.map dR.name) (λi=>(f.a6P.map (Eh f.a6V.length)).getD i false)=ok:=⟨_,rfl⟩;unfold GJ at S;rw[E]at S;refine wp_loop (α:=Nat × PV × PH) (λs=>(((((((PF.nil.set 1 (.bM f.cells)).set 4 (s.2.1)).set 5 (.aF)).set 6 (.aF)).set 7 (.aF)).set 8 (.bool (b&&(a8A s.1).all ok))).set 10 (.int .i64 s.1))) (λs=>s.2.2) (λs=>s.1≤Z' f.a6P∧kU s.2.2 s.2.1 [] (f.a6P.map dR.name) (b&&(a8A s.1).all ok) s.1) (λs=>Z' f.a6P-s.1)
  (0,.aF,H) ⟨a8H _,⟨[],aT.nil.sE 1,λ_=>rfl⟩⟩ (by
   have e:(b&&(a8A 0).all ok)=b:=by cases b<;>rfl
   simp only[e];exact hF) b_ ?_
 rintro⟨i,w,N⟩ ⟨hi,Y⟩;simp only at hi Y ⊢;have fin:∀(c:Bool)(x:PV)(M:PF)(H':PH),i<Z' f.a6P→(b&&(a8A (i+1)).all ok)=c→kU H' x [] (f.a6P.map dR.name) true (i+1) →
   ((((((((PF.nil.set 1 (.bM f.cells)).set 4 (x)).set 5 (.aF)).set 6 (.aF)).set 7 (.aF)).set 8 (.bool c)).set 10 (.int .i64 (i+1:Nat))):PF).le M →
   gV (λs:Nat × PV × PH=>(((((((PF.nil.set 1 (.bM f.cells)).set 4 (s.2.1)).set 5 (.aF)).set 6 (.aF)).set 7 (.aF)).set 8 (.bool (b&&(a8A s.1).all ok))).set 10 (.int .i64 s.1))) (λs=>s.2.2) (λs=>s.1≤Z' f.a6P∧kU s.2.2 s.2.1 [] (f.a6P.map dR.name) (b&&(a8A s.1).all ok) s.1) (λs=>Z' f.a6P-s.1) (Z' f.a6P-i) K .normal M H':=
  λc x M H' hlt hb R Q=>aJ (i+1,x,H') ⟨hlt,R.F8⟩ (by simp only;omega) (by simp only;rw[hb];exact Q) b_
 have d:=wX (p:=ok) i b;have y:(b&&(a8A i).all ok)=(b&&(a8A f.a6P.length).all ok)→K (.exit 2) ((((((PF.nil.set 1 (.bM f.cells)).set 5 (.aF)).set 6 (.aF)).set 7 (.aF)).set 8 (.bool (b&&(a8A i).all ok)))) N:=λe=>by rw[e];exact S N
 have B:=λh=>wW (p:=ok) (b:=b) hi h;generalize hc:(b&&(a8A i).all ok)=c at *
 simp only[go_sem,WF,Cw,a7Z];by_cases hlt:i<Z' f.a6P
 ·have l:(i:Int)<(Z' f.a6P:Nat):=Om;cases c with
  |false =>simp only[go_sem,l];exact Up.up Lq (y (B rfl).symm)
  |true=>
   obtain⟨X,g1,g3⟩:=Y.ex;have U:(f.a6P.map dR.cells)[i]?=some (f.a6P[i]).cells:=by simp[hlt]
   have V:i<(f.a6P.map dR.name).length:=by rw[a7Z];exact hlt
   have J:ok i=(mD ([]++(f.a6P.map dR.name).take i) ((f.a6P.map dR.name).getD i [])&&(Eh f.a6V.length) f.a6P[i]):=by rw[←E];unfold okL;simp[a8V,hlt]
   rw[J]at d;have A:Eh f.a6V.length f.a6P[i]=(within (f.a6P[i]).a7E 1 16&&(within (f.a6P[i]).port 1 64&&within (f.a6P[i]).law 0 ((Z' f.a6V:Int)-1))):=rfl;rw[A]at d;simp only[go_sem,l,Cx,U];refine aR λo ho=>?_;have g4:=g1.new ho (.rows 4 [(f.a6P[i]).cells]);have Z:=g4.at 0 rfl;simp only[go_sem];generalize N.set o (.rows 4 [(f.a6P[i]).cells])=H2 at *
   simp only[go_sem,Cy,Z];refine kU.call L.touM (ns:=(f.a6P.map dR.name)) g4 (a8H _) Om (g3 rfl) V (by simp only[go_sem,a9Q]) λx H1 h1 u=>?_;have O:=h1.at 0 rfl;generalize mD ([]++(f.a6P.map dR.name).take i) ((f.a6P.map dR.name).getD i [])=fb at *
   cases fb with
   |false =>simp only[go_sem,WH,AE,wZz i];exact fin false x _ _ hlt (d.trans rfl) u Lq
   |true=>
    simp only[go_sem,WH,O];refine aB (L.inn (f.a6P[i]).a7E 1 16) rfl ?_;cases W:within (f.a6P[i]).a7E 1 16 with
    |false =>simp only[go_sem,AE,wZz i];exact fin false x _ _ hlt (by rw[d,W]<;>simp) u Lq
    |true=>
     simp only[go_sem,O];refine aB (L.inn (f.a6P[i]).port 1 64) rfl ?_;cases k1:within (f.a6P[i]).port 1 64 with
     |false =>simp only[go_sem,AE,wZz i];exact fin false x _ _ hlt (by rw[d,W,k1]<;>simp) u Lq
     |true =>simp only[go_sem,O,a7Z,Cg (Om:Z' f.a6V≤1000)];refine aB (L.inn (f.a6P[i]).law 0 ((Z' f.a6V:Int)-1)) rfl ?_;simp only[go_sem,AE,wZz i];exact fin _ x _ _ hlt (by rw[d,W,k1]<;>simp) u Lq
 ·have l:¬(i:Int)<(Z' f.a6P:Nat):=Om;have:i=Z' f.a6P:=Om;subst this;simp only[go_sem,l];exact Up.up Lq (y hc.symm)
def Q3(f:aE):Bool:=(a8A f.a6Q.length).all (okL [] (f.a6Q.map gQ.name) λi=>(f.a6Q.map (agO f.a6S.length)).getD i false)
theorem aWD{C:Ctx}(L:xP C)(f:aE)(hf:f.Ok)(Z:uE f.a6V.length f.a6P.length f.a6R.length f.a6O.length f.a6S.length f.a6Q.length=true)(b:Bool)(K:cD)[Up K](F:PF)(H:PH)
  (X:(((((PF.nil.set 1 (.bM f.cells)).set 7 (.aF)).set 8 (.bool b)).set 21 (.int .i64 0)):PF).le F)
  (R:∀H',K (.exit 14) (((PF.nil.set 1 (.bM f.cells)).set 8 (.bool (b&&Q3 f)))) H'):aC.wp C (.loop FS) K F H:=by
 obtain⟨β,γ,δ,ε,ζ,η⟩:=cv Z;obtain⟨ok,J⟩:∃ok,okL [] (f.a6Q.map gQ.name) (λi=>(f.a6Q.map (agO f.a6S.length)).getD i false)=ok:=⟨_,rfl⟩;unfold Q3 at R;rw[J]at R;refine wp_loop (α:=Nat × PV × PH) (λs=>((((PF.nil.set 1 (.bM f.cells)).set 7 (s.2.1)).set 8 (.bool (b&&(a8A s.1).all ok))).set 21 (.int .i64 s.1))) (λs=>s.2.2) (λs=>s.1≤Z' f.a6Q∧kU s.2.2 s.2.1 [] (f.a6Q.map gQ.name) (b&&(a8A s.1).all ok) s.1) (λs=>Z' f.a6Q-s.1)
  (0,.aF,H) ⟨a8H _,⟨[],aT.nil.sE 1,λ_=>rfl⟩⟩ (by
   have e:(b&&(a8A 0).all ok)=b:=by cases b<;>rfl
   simp only[e];exact X) b_ ?_
 rintro⟨i,w,V⟩ ⟨hi,W⟩;simp only at hi W ⊢;have fin:∀(c:Bool)(y:PV)(N:PF)(H':PH),i<Z' f.a6Q→(b&&(a8A (i+1)).all ok)=c→kU H' y [] (f.a6Q.map gQ.name) true (i+1) →
   (((((PF.nil.set 1 (.bM f.cells)).set 7 (y)).set 8 (.bool c)).set 21 (.int .i64 (i+1:Nat))):PF).le N →
   gV (λs:Nat × PV × PH=>((((PF.nil.set 1 (.bM f.cells)).set 7 (s.2.1)).set 8 (.bool (b&&(a8A s.1).all ok))).set 21 (.int .i64 s.1))) (λs=>s.2.2) (λs=>s.1≤Z' f.a6Q∧kU s.2.2 s.2.1 [] (f.a6Q.map gQ.name) (b&&(a8A s.1).all ok) s.1) (λs=>Z' f.a6Q-s.1) (Z' f.a6Q-i) K .normal N H':=
  λc y N H' hlt hb Q O=>aJ (i+1,y,H') ⟨hlt,Q.F8⟩ (by simp only;omega) (by simp only;rw[hb];exact O) b_
 have d:=wX (p:=ok) i b;have u:(b&&(a8A i).all ok)=(b&&(a8A f.a6Q.length).all ok)→K (.exit 14) (((PF.nil.set 1 (.bM f.cells)).set 8 (.bool (b&&(a8A i).all ok)))) V:=λe=>by rw[e];exact R V
 have B:=λh=>wW (p:=ok) (b:=b) hi h;generalize Y:(b&&(a8A i).all ok)=c at *
 simp only[go_sem,FS,De,a7Z];by_cases hlt:i<Z' f.a6Q
 ·have l:(i:Int)<(Z' f.a6Q:Nat):=Om;cases c with
  |false =>simp only[go_sem,l];exact Up.up Lq (u (B rfl).symm)
  |true=>
   obtain⟨U,g1,g3⟩:=W.ex;have E:(f.a6Q.map gQ.cells)[i]?=some (f.a6Q[i]).cells:=by simp[hlt]
   have S:i<(f.a6Q.map gQ.name).length:=by rw[a7Z];exact hlt
   have M:ok i=(mD ([]++(f.a6Q.map gQ.name).take i) ((f.a6Q.map gQ.name).getD i [])&&(agO f.a6S.length) f.a6Q[i]):=by rw[←J];unfold okL;simp[a8V,hlt]
   rw[M]at d;have x:agO f.a6S.length f.a6Q[i]=within (f.a6Q[i]).a7A 0 ((Z' f.a6S:Int)-1):=rfl;rw[x]at d;simp only[go_sem,l,Df,E];refine kU.call L.touM (ns:=(f.a6Q.map gQ.name)) g1 (a8H _) Om (g3 rfl) S (by simp only[go_sem,a9Q]) λy H1 h1 A=>?_;generalize mD ([]++(f.a6Q.map gQ.name).take i) ((f.a6Q.map gQ.name).getD i [])=fb at *
   cases fb with
   |false =>simp only[go_sem];refine cP .nil (inS) a_ ?_;simp only[go_sem,WT,WU,wZz i];exact fin false y _ _ hlt (d.trans rfl) A Lq
   |true =>simp only[go_sem];refine cP .nil (inS) a_ ?_;simp only[go_sem,WT,E,a7Z,Cg (Om:Z' f.a6S≤1000)];refine cR rfl (L.inn (f.a6Q[i]).a7A 0 ((Z' f.a6S:Int)-1)) rfl a_ ?_;simp only[go_sem,WU,wZz i];exact fin _ y _ _ hlt (d.trans rfl) A Lq
 ·have l:¬(i:Int)<(Z' f.a6Q:Nat):=Om;have:i=Z' f.a6Q:=Om;subst this;simp only[go_sem,l];exact Up.up Lq (u Y.symm)
def ayY:Spec:=λname vs=>match name,vs with
 |76,[.int _ n,.int _ lo,.int _ hi]=>some ([],λ_=>aK (.bool (within n lo hi)))
 |74,[.agg cs]=>some ([],λ_=>aK (.bool (dT (frD cs))))
 |_,_=>none
theorem ayZ(x:RF):ayY 74 [.agg x.cells]=some ([],λ_=>aK (.bool (dT x))):=by
 show some ([],λ_=>aK (.bool (dT (frD x.cells))))=_;rw[Ia]
def Tb(f:aE)(i:Nat)(d:cX):Bool:=
 within d.level 1 4&&(within d.parent 0 i&&(((f.a6R.map cX.level).getD d.parent.toNat 0==IntKind.i64.wrap (d.level-1))&&(within d.a7I 1 64&&dT d.a7D)))
theorem aSJ(f:aE)(i:Nat)(d:cX):QT f i d=Tb f i d:=by
 unfold QT Tb;have:decide ((f.a6R.map cX.level).getD d.parent.toNat 0=IntKind.i64.wrap (d.level-1))=((f.a6R.map cX.level).getD d.parent.toNat 0==IntKind.i64.wrap (d.level-1)):=by generalize(f.a6R.map cX.level).getD d.parent.toNat 0=u;by_cases h:u=IntKind.i64.wrap (d.level-1)<;>simp[h]
 rw[this];cases within d.parent 0 i<;>cases within d.level 1 4<;>cases within d.a7I 1 64<;>simp
def kN(f:aE):List (List UInt8):=(f.a6R.drop 1).map cX.name
def EC(f:aE)(i:Nat):Bool:=match f.a6R[i+1]? with
 |some d=>Tb f i d
 |none=>false
def ED(f:aE):Bool:=(a8A (Z' f.a6R-1)).all (okL [] (kN f) (EC f))
theorem Ta(f:aE):(kN f).length=Z' f.a6R-1:=by simp[kN]
theorem aWA{C:Ctx}(L:xP C)(f:aE)(hf:f.Ok)(μ:Z' f.a6R≤40)(h0:0<Z' f.a6R)(b:Bool)(K:cD)[Up K](F:PF)(H:PH)
  (hF:(((((((PF.nil.set 1 (.bM f.cells)).set 5 (.aF)).set 6 (.aF)).set 7 (.aF)).set 8 (.bool b)).set 13 (.int .i64 1)):PF).le F)
  (W:∀w H',kU H' w [] (kN f) (b&&ED f) (Z' f.a6R-1)→K (.exit 4) ((((((PF.nil.set 1 (.bM f.cells)).set 5 (w)).set 6 (.aF)).set 7 (.aF)).set 8 (.bool (b&&ED f)))) H'):aC.wp C (.loop FN) K F H:=by
 obtain⟨ok,Q⟩:∃ok,okL [] (kN f) (EC f)=ok:=⟨_,rfl⟩;unfold ED at W;rw[Q]at W;obtain⟨n,hn⟩:∃n,Z' f.a6R=n+1:=⟨Z' f.a6R-1,by omega⟩;have η:=Ta f;have ζ:Z' f.a6R-1=n:=Om;rw[ζ]at W η;refine wp_loop (α:=Nat × PV × PH) (λs=>((((((PF.nil.set 1 (.bM f.cells)).set 5 (s.2.1)).set 6 (.aF)).set 7 (.aF)).set 8 (.bool (b&&(a8A s.1).all ok))).set 13 (.int .i64 (s.1+1:Nat)))) (λs=>s.2.2) (λs=>s.1≤n∧kU s.2.2 s.2.1 [] (kN f) (b&&(a8A s.1).all ok) s.1) (λs=>n-s.1)
  (0,.aF,H) ⟨a8H _,⟨[],aT.nil.sE 1,λ_=>rfl⟩⟩ (by
   have e:(b&&(a8A 0).all ok)=b:=by cases b<;>rfl
   simp only[e];exact hF) b_ ?_
 rintro⟨i,w,Y⟩ ⟨hi,hG⟩;simp only at hi hG ⊢;have fin:∀(c:Bool)(A:PV)(X:PF)(H':PH),i<n→(b&&(a8A (i+1)).all ok)=c→kU H' A [] (kN f) true (i+1) →
   (((((((PF.nil.set 1 (.bM f.cells)).set 5 (A)).set 6 (.aF)).set 7 (.aF)).set 8 (.bool c)).set 13 (.int .i64 (i+1+1:Nat))):PF).le X →
   gV (λs:Nat × PV × PH=>((((((PF.nil.set 1 (.bM f.cells)).set 5 (s.2.1)).set 6 (.aF)).set 7 (.aF)).set 8 (.bool (b&&(a8A s.1).all ok))).set 13 (.int .i64 (s.1+1:Nat)))) (λs=>s.2.2) (λs=>s.1≤n∧kU s.2.2 s.2.1 [] (kN f) (b&&(a8A s.1).all ok) s.1) (λs=>n-s.1) (n-i) K .normal X H':=
  λc A X H' hlt hb β Z=>aJ (i+1,A,H') ⟨hlt,β.F8⟩ (by simp only;omega) (by simp only;rw[hb];exact Z) b_
 have d:=wX (p:=ok) i b;have N:=λh=>wW (p:=ok) (b:=b) hi h;have E:(b&&(a8A i).all ok)=(b&&(a8A n).all ok)→((b&&(a8A i).all ok)=true→i=n)→K (.exit 4) ((((((PF.nil.set 1 (.bM f.cells)).set 5 (w)).set 6 (.aF)).set 7 (.aF)).set 8 (.bool (b&&(a8A i).all ok)))) Y:=λe e2=>by
  obtain⟨y,g1,g3⟩:=hG.ex;have:=W w Y ⟨y,g1,λh=>by have h':=e.trans h;rw[g3 h',e2 h']⟩
  rwa[←e]at this
 generalize hc:(b&&(a8A i).all ok)=c at *
 simp only[go_sem,FN,C0,a7Z];by_cases hlt:i<n
 ·have u:((i+1:Nat):Int)<(Z' f.a6R:Nat):=Om;cases c with
  |false =>simp only[go_sem,u];exact Up.up Lq (E (N rfl).symm (λh=>by cases h))
  |true=>
   obtain⟨y,g1,g3⟩:=hG.ex;have J:i+1<Z' f.a6R:=Om;have γ:=iY J;have ε:i<(kN f).length:=Om;have θ:(kN f)[i]=(f.a6R[i+1]).name:=by simp[kN,Nat.add_comm]
   have R:ok i=(mD ([]++(kN f).take i) ((kN f).getD i [])&&Tb f i f.a6R[i+1]):=by rw[←Q];unfold okL EC;rw[a8N J]
   have δ:=hf.dom _ (a8G J);rw[R]at d;unfold Tb at d;have e1:IntKind.i64.wrap (((i+1:Nat):Int)-1)=(i:Nat):=by rw[wrap_i64 Om Om];omega
   have l:IntKind.i64.wrap (((i+1:Nat):Int)+1)=((i+1+1:Nat):Int):=eQ Om;have κ:=L.small _ δ.1;simp only[go_sem,u,C1,γ];refine aR λo ho=>?_;have g4:=g1.new ho (.rows 7 [(f.a6R[i+1]).cells]);have g5:=g4.at 0 rfl;simp only[go_sem];generalize Y.set o (.rows 7 [(f.a6R[i+1]).cells])=H2 at *
   simp only[go_sem,C2,g5];refine kU.call L.touM (ns:=kN f) g4 (a8H _) Om (g3 rfl) ε (by simp only[go_sem,θ]) λA H1 h1 x=>?_;have M:=h1.at 0 rfl;generalize mD ([]++(kN f).take i) ((kN f).getD i [])=fb at *
   generalize hd:f.a6R[i+1]=B at *
   cases fb with
   |false =>simp only[go_sem];refine cP .nil ayY a_ ?_;simp only[go_sem,WK,sN,l];exact fin false A _ _ hlt (d.trans rfl) x Lq
   |true=>
    simp only[go_sem];refine cP .nil ayY a_ ?_;simp only[go_sem,WK,M];refine cR rfl (L.inn B.level 1 4) rfl a_ ?_;cases V:within B.level 1 4 with
    |false =>simp only[go_sem,sN,l];exact fin false A _ _ hlt (by rw[d,V]<;>simp) x Lq
    |true=>
     simp only[go_sem,M,e1];refine cR rfl (L.inn B.parent 0 (i:Nat)) rfl a_ ?_;cases k1:within B.parent 0 (i:Nat)with
     |false =>simp only[go_sem,sN,l];exact fin false A _ _ hlt (by rw[d,V,k1]<;>simp) x Lq
     |true=>
      obtain⟨p0,p1⟩:=within_iff.1 k1;obtain⟨p,hp⟩:∃p:Nat,B.parent=p:=⟨B.parent.toNat,by omega⟩;have U:p<Z' f.a6R:=Om;obtain⟨lv,O⟩:∃lv,(f.a6R.map cX.level).getD B.parent.toNat 0=lv:=⟨_,rfl⟩;have ι:(f.a6R[p]).level=lv:=by rw[←O,hp,baA,getD_at U]
      rw[O]at d;have S:=iY U;simp only[go_sem,M,hp,S,ι];cases k2:lv==IntKind.i64.wrap (B.level-1)with
      |false =>simp only[go_sem,sN,l];exact fin false A _ _ hlt (by rw[d,V,k1,k2]<;>simp) x Lq
      |true=>
       simp only[go_sem,M];refine cR rfl (L.inn B.a7I 1 64) rfl a_ ?_;cases k3:within B.a7I 1 64 with
       |false =>simp only[go_sem,sN,l];exact fin false A _ _ hlt (by rw[d,V,k1,k2,k3]<;>simp) x Lq
       |true =>simp only[go_sem,M];refine cR (ayZ _) κ rfl a_ ?_;simp only[go_sem,sN,l];exact fin _ A _ _ hlt (by rw[d,V,k1,k2,k3]<;>simp) x Lq
 ·have u:¬((i+1:Nat):Int)<(Z' f.a6R:Nat):=Om;have:i=n:=Om;subst this;simp only[go_sem,u];exact Up.up Lq (E hc.symm (λ_=>rfl))
def Te(f:aE)(d:eO):Bool:=within d.model 0 ((Z' f.a6P:Int)-1)&&(within d.machine 0 ((Z' f.a6R:Int)-1)&&((f.a6R.map cX.level).getD d.machine.toNat 0==4))
def pY(f:aE):List (List UInt8):=f.a6O.map eO.name
def BL(f:aE)(i:Nat):Bool:=match f.a6O[i]? with
 |some d=>Te f d
 |none=>false
def FW(f:aE):Bool:=(a8A f.a6O.length).all (okL (kN f) (pY f) (BL f))
theorem aJS{C:Ctx}(L:xP C)(f:aE)(hf:f.Ok)(κ:Z' f.a6R≤40)(h0:0<Z' f.a6R)(μ:Z' f.a6O≤24)(ι:Z' f.a6P≤4)(b:Bool)(w0:PV)(K:cD)[Up K](F:PF)(H:PH)
  (β:kU H w0 [] (kN f) b (Z' f.a6R-1)) (hF:(((((((PF.nil.set 1 (.bM f.cells)).set 5 (w0)).set 6 (.aF)).set 7 (.aF)).set 8 (.bool b)).set 15 (.int .i64 0)):PF).le F)
  (U:∀H',K (.exit 6) (((((PF.nil.set 1 (.bM f.cells)).set 6 (.aF)).set 7 (.aF)).set 8 (.bool (b&&FW f)))) H'):aC.wp C (.loop FO) K F H:=by
 obtain⟨ok,O⟩:∃ok,okL (kN f) (pY f) (BL f)=ok:=⟨_,rfl⟩;unfold FW at U;rw[O]at U;obtain⟨n,hn⟩:∃n,Z' f.a6O=n:=⟨_,rfl⟩;have η:=Ta f;have θ:(pY f).length=n:=by simp[pY,hn]
 rw[hn]at U;refine wp_loop (α:=Nat × PV × PH) (λs=>((((((PF.nil.set 1 (.bM f.cells)).set 5 (s.2.1)).set 6 (.aF)).set 7 (.aF)).set 8 (.bool (b&&(a8A s.1).all ok))).set 15 (.int .i64 s.1))) (λs=>s.2.2) (λs=>s.1≤n∧kU s.2.2 s.2.1 (kN f) (pY f) (b&&(a8A s.1).all ok) s.1) (λs=>n-s.1)
  (0,w0,H) ⟨a8H _,by
   obtain⟨x,q1,q2⟩:=β.ex;have e:(b&&(a8A 0).all ok)=b:=by cases b<;>rfl
   refine⟨x,q1,λh=>?_⟩;simp only[e]at h;rw[q2 h,bbS,a8T Om];simp⟩ (by
   have e:(b&&(a8A 0).all ok)=b:=by cases b<;>rfl
   simp only[e];exact hF) b_ ?_
 rintro⟨i,w,W⟩ ⟨hi,hG⟩;simp only at hi hG ⊢;have fin:∀(c:Bool)(A:PV)(V:PF)(H':PH),i<n→(b&&(a8A (i+1)).all ok)=c→kU H' A (kN f) (pY f) true (i+1) →
   (((((((PF.nil.set 1 (.bM f.cells)).set 5 (A)).set 6 (.aF)).set 7 (.aF)).set 8 (.bool c)).set 15 (.int .i64 (i+1:Nat))):PF).le V →
   gV (λs:Nat × PV × PH=>((((((PF.nil.set 1 (.bM f.cells)).set 5 (s.2.1)).set 6 (.aF)).set 7 (.aF)).set 8 (.bool (b&&(a8A s.1).all ok))).set 15 (.int .i64 s.1))) (λs=>s.2.2) (λs=>s.1≤n∧kU s.2.2 s.2.1 (kN f) (pY f) (b&&(a8A s.1).all ok) s.1) (λs=>n-s.1) (n-i) K .normal V H':=
  λc A V H' hlt hb Z Y=>aJ (i+1,A,H') ⟨hlt,Z.F8⟩ (by simp only;omega) (by simp only;rw[hb];exact Y) b_
 have d:=wX (p:=ok) i b;have J:=λh=>wW (p:=ok) (b:=b) hi h;have B:(b&&(a8A i).all ok)=(b&&(a8A n).all ok)→K (.exit 6) (((((PF.nil.set 1 (.bM f.cells)).set 6 (.aF)).set 7 (.aF)).set 8 (.bool (b&&(a8A i).all ok)))) W:=λe=>by rw[e];exact U W
 generalize hc:(b&&(a8A i).all ok)=c at *
 simp only[go_sem,FO,C3,a7Z];by_cases hlt:i<n
 ·have l:((i:Nat):Int)<(Z' f.a6O:Nat):=Om;cases c with
  |false =>simp only[go_sem,l];exact Up.up Lq (B (J rfl).symm)
  |true=>
   obtain⟨x,g1,g3⟩:=hG.ex;have M:i<Z' f.a6O:=Om;have γ:=qG M;have δ:i<(pY f).length:=Om;have ε:(pY f)[i]=(f.a6O[i]).name:=by simp[pY]
   have Q:ok i=(mD (kN f++(pY f).take i) ((pY f).getD i [])&&Te f f.a6O[i]):=by rw[←O];unfold okL BL;rw[a8N M]
   rw[Q]at d;unfold Te at d;have u:IntKind.i64.wrap ((i:Int)+1)=((i+1:Nat):Int):=eQ Om;have e1:=Cg (Om:Z' f.a6P≤1000);have e2:=Cg (Om:Z' f.a6R≤1000);simp only[go_sem,l,C4,γ];refine aR λo ho=>?_;have g4:=g1.new ho (.rows 3 [(f.a6O[i]).cells]);have g5:=g4.at 0 rfl;simp only[go_sem];generalize W.set o (.rows 3 [(f.a6O[i]).cells])=H2 at *
   simp only[go_sem,C5,g5];refine kU.call L.touM (base:=kN f) (ns:=pY f) g4 Om Om (g3 rfl) δ (by simp only[go_sem,ε]) λA H1 h1 y=>?_;have X:=h1.at 0 rfl;generalize mD (kN f++(pY f).take i) ((pY f).getD i [])=fb at *
   generalize hd:f.a6O[i]=E at *
   cases fb with
   |false =>simp only[go_sem,WM,AF,u];exact fin false A _ _ hlt (d.trans rfl) y Lq
   |true=>
    simp only[go_sem,WM,X,a7Z,e1];refine aB (L.inn E.model 0 ((Z' f.a6P:Int)-1)) rfl ?_;cases k0:within E.model 0 ((Z' f.a6P:Int)-1)with
    |false =>simp only[go_sem,AF,u];exact fin false A _ _ hlt (by rw[d,k0]<;>simp) y Lq
    |true=>
     simp only[go_sem,X,a7Z,e2];refine aB (L.inn E.machine 0 ((Z' f.a6R:Int)-1)) rfl ?_;cases k1:within E.machine 0 ((Z' f.a6R:Int)-1)with
     |false =>simp only[go_sem,AF,u];exact fin false A _ _ hlt (by rw[d,k0,k1]<;>simp) y Lq
     |true=>
      obtain⟨p0,p1⟩:=within_iff.1 k1;obtain⟨p,hp⟩:∃p:Nat,E.machine=p:=⟨E.machine.toNat,by omega⟩;have S:p<Z' f.a6R:=Om;obtain⟨lv,N⟩:∃lv,(f.a6R.map cX.level).getD E.machine.toNat 0=lv:=⟨_,rfl⟩;have ζ:(f.a6R[p]).level=lv:=by rw[←N,hp,baA,getD_at S]
      rw[N]at d;have R:=iY S;simp only[go_sem,X,hp,R,ζ,AF,u];exact fin _ A _ _ hlt (by rw[d,k0,k1]<;>simp) y Lq
 ·have l:¬((i:Nat):Int)<(Z' f.a6O:Nat):=Om;have:i=n:=Om;subst this;simp only[go_sem,l];exact Up.up Lq (B hc.symm)
theorem o9{xs:List Int}{k:Nat}(h:k<Z' xs):(xs.map λx=>[PV.int .i64 x])[k]?=some [.int .i64 xs[k]]:=by simp[h]
def zpF(f:aE)(w:PV)(o i:Nat)(c:Bool)(j:Nat):PF:=(((((((PF.nil.set 1 (.bM f.cells)).set 6 (w)).set 7 (.aF)).set 8 (.bool c)).set 17 (.int .i64 i)).set 18 (.ptr o 17 0 0)).set 19 (.int .i64 j))
theorem aRA{C:Ctx}(f:aE)(w:PV)(o i:Nat)(p:cL)(N:Z' p.a6P≤9223372036854775807)(j:Nat)(E:j<Z' p.a6P)(b:Bool)(K:cD)[Up K](F:PF)(H:PH)(J:H o=some (.rows 17 [p.cells]))(A:((zpF f w o i b j).set 20 (.int .i64 0)).le F)
  (B:K (.exit 12) (zpF f w o i (b&&(p.a6P.take j).all λx=>x != p.a6P[j]) j) H):aC.wp C (.loop WG) K F H:=by
 refine wp_loop (α:=Nat) (λk=>(zpF f w o i (b&&(p.a6P.take k).all λx=>x != p.a6P[j]) j).set 20 (.int .i64 k)) (λ_=>H) (λk=>k≤j) (λk=>j-k) 0 (a8H _) (by
   have e:(b&&(p.a6P.take 0).all λx=>x != p.a6P[j])=b:=by cases b<;>rfl
   simp only[e];exact A) b_ ?_
 intro k M;have u:∀h:k<Z' p.a6P,(b&&(p.a6P.take (k+1)).all λx=>x != p.a6P[j])=((b&&(p.a6P.take k).all λx=>x != p.a6P[j])&&(p.a6P[k] != p.a6P[j])):=λh=>by rw[baC h,List.all_append];simp[bbK]
 have fin:∀(c:Bool)(y:PF),k<j→(b&&(p.a6P.take (k+1)).all λx=>x != p.a6P[j])=c→((zpF f w o i c j).set 20 (.int .i64 (k+1:Nat))).le y→gV (λk:Nat=>(zpF f w o i (b&&(p.a6P.take k).all λx=>x != p.a6P[j]) j).set 20 (.int .i64 k)) (λ_=>H) (λk=>k≤j) (λk=>j-k) (j-k) K .normal y H:=
  λc y hlt e h=>aJ (k+1) hlt Om (by rw[e];exact h) b_
 unfold zpF at fin;simp only[go_sem,WG,Dc,zpF];by_cases hlt:k<j
 ·have d:(k:Int)<(j:Nat):=Om;have l:k<Z' p.a6P:=Om;have u:=u l;generalize(b&&(p.a6P.take k).all λx=>x != p.a6P[j])=c at *
  simp only[go_sem,d];refine cP .nil fT a_ ?_;cases c with
  |false =>simp only[go_sem,WP,WQ,wZz k];exact fin false _ hlt (u.trans rfl) Lq
  |true =>simp only[go_sem,WP,J,o9 l,o9 E,WQ,wZz k];exact fin _ _ hlt (u.trans rfl) Lq
 ·have d:¬(k:Int)<(j:Nat):=Om;have:k=j:=Om;subst this;simp only[go_sem,d];exact Up.up (by(repeat' (first|exact d_|refine c_ ?_ ?_))<;>first|(simp only[go_sem,zpF]<;>rfl)|rfl) B
def TW(a6P:Nat)(ms:List Int)(j:Nat):Bool:=within (ms.getD j 0) 0 ((a6P:Int)-1)&&(ms.take j).all λx=>x != ms.getD j 0
theorem aJP{C:Ctx}(L:xP C)(f:aE)(V:Z' f.a6P≤4)(w:PV)(o i:Nat)(p:cL)(U:Z' p.a6P≤9223372036854775807)(b:Bool)(K:cD)[Up K](F:PF)(H:PH)(E:H o=some (.rows 17 [p.cells]))(O:(zpF f w o i b 0).le F)
  (M:K (.exit 10) ((((((PF.nil.set 1 (.bM f.cells)).set 6 (w)).set 7 (.aF)).set 8 (.bool (b&&(a8A p.a6P.length).all (TW f.a6P.length p.a6P)))).set 17 (.int .i64 i))) H):aC.wp C (.loop FP) K F H:=by
 obtain⟨ok,A⟩:∃ok,TW f.a6P.length p.a6P=ok:=⟨_,rfl⟩;rw[A]at M;refine wp_loop (α:=Nat) (λj=>zpF f w o i (b&&(a8A j).all ok) j) (λ_=>H) (λj=>j≤Z' p.a6P) (λj=>Z' p.a6P-j) 0 (a8H _) (by
   have e:(b&&(a8A 0).all ok)=b:=by cases b<;>rfl
   simp only[e];exact O) b_ ?_
 intro j S;have l:=wX (p:=ok) j b;have y:=λh=>wW (p:=ok) (b:=b) S h;have fin:∀(c:Bool)(B:PF),j<Z' p.a6P→(b&&(a8A (j+1)).all ok)=c→(zpF f w o i c (j+1)).le B→gV (λj:Nat=>zpF f w o i (b&&(a8A j).all ok) j) (λ_=>H) (λj=>j≤Z' p.a6P) (λj=>Z' p.a6P-j) (Z' p.a6P-j) K .normal B H:=
  λc B hlt e h=>aJ (j+1) hlt Om (by rw[e];exact h) b_
 unfold zpF at fin;have u:(b&&(a8A j).all ok)=(b&&(a8A p.a6P.length).all ok)→K (.exit 10) ((((((PF.nil.set 1 (.bM f.cells)).set 6 (w)).set 7 (.aF)).set 8 (.bool (b&&(a8A j).all ok))).set 17 (.int .i64 i))) H:=λe=>by rw[e];exact M
 generalize Q:(b&&(a8A j).all ok)=c at *
 simp only[go_sem,FP,C9,zpF,E,a7Z];by_cases hlt:j<Z' p.a6P
 ·have d:(j:Int)<(Z' p.a6P:Nat):=Om;cases c with
  |false =>simp only[go_sem,d];exact Up.up Lq (u (y rfl).symm)
  |true=>
   have N:=Cg (Om:Z' f.a6P≤1000);have R:p.a6P.getD j 0=p.a6P[j]:=by simp[a8V,hlt]
   have J:ok j=(within p.a6P[j] 0 ((Z' f.a6P:Int)-1)&&(p.a6P.take j).all λx=>x != p.a6P[j]):=by rw[←A];unfold TW;rw[R]
   rw[J]at l;simp only[go_sem,d];refine cP .nil ayY a_ ?_;simp only[go_sem,Da,E,o9 hlt,a7Z,N];refine cR rfl (L.inn p.a6P[j] 0 ((Z' f.a6P:Int)-1)) Sq a_ ?_;simp only[go_sem,Db];refine aRA f w o i p U j hlt (within p.a6P[j] 0 ((Z' f.a6P:Int)-1)) _ _ _ E (by(repeat' (first|exact d_|refine c_ ?_ ?_))<;>first|(simp only[go_sem,zpF]<;>rfl)|rfl) ?_;simp only[go_sem,zpF,Dd,wZz j];exact fin _ _ hlt (l.trans rfl) Lq
 ·have d:¬(j:Int)<(Z' p.a6P:Nat):=Om;have:j=Z' p.a6P:=Om;subst this;simp only[go_sem,d];exact Up.up Lq (u Q.symm)
def abD(a6P:Nat)(p:cL):Bool:=TO p.k p.m p.a7M p.s0 p.s1 p.s2 p.s3 p.s4&&(YP p.m p.repair p.target p.a6Y&&(decide (Z' p.a6P>0)&&(a8A p.a6P.length).all (TW a6P p.a6P)))
theorem aUS(a6P:Nat)(p:cL):mF a6P p=abD a6P p:=by
 unfold mF abD;rw[aUJ,aWV];have d:decide (Z' p.a6P≠0)=decide (Z' p.a6P>0):=decide_eq_decide.2 Om;have e:(a8A p.a6P.length).all (λj=>within (p.a6P.getD j 0) 0 ((a6P:Int)-1)&&!(p.a6P.take j).contains (p.a6P.getD j 0))=(a8A p.a6P.length).all (TW a6P p.a6P):=by
  congr 1;funext j;unfold TW;congr 1;generalize p.a6P.getD j 0=x
  induction p.a6P.take j with
  |nil=>rfl
  |cons a t i =>rw[List.contains_cons,bbP,←i,Bool.not_or,bne,BEq.comm]
 rw[d,e];cases TO p.k p.m p.a7M p.s0 p.s1 p.s2 p.s3 p.s4<;>cases YP p.m p.repair p.target p.a6Y<;>cases decide (Z' p.a6P>0)<;>simp
structure Dk(C:Ctx):Prop extends xP C where
 dur:∀(m:Int)(rep:List RF),mX rep→∀t h:RF,t.Ok→h.Ok→aH C 69 [.int .i64 m,frs rep,.agg t.cells,.agg h.cells] .nil (aK (.bool (YP m rep t h)))
def oY(f:aE):List (List UInt8):=f.a6S.map cL.name
def TV(f:aE)(i:Nat):Bool:=match f.a6S[i]? with
 |some p=>abD f.a6P.length p
 |none=>false
def zh(f:aE):Bool:=(a8A f.a6S.length).all (okL [] (oY f) (TV f))
theorem aWC{C:Ctx}(L:Dk C)(f:aE)(hf:f.Ok)(ε:Z' f.a6S≤4)(β:Z' f.a6P≤4)(b:Bool)(K:cD)[Up K](F:PF)(H:PH)
  (hF:((((((PF.nil.set 1 (.bM f.cells)).set 6 (.aF)).set 7 (.aF)).set 8 (.bool b)).set 17 (.int .i64 0)):PF).le F)
  (U:∀H',K (.exit 8) ((((PF.nil.set 1 (.bM f.cells)).set 7 (.aF)).set 8 (.bool (b&&zh f)))) H'):aC.wp C (.loop FQ) K F H:=by
 obtain⟨ok,J⟩:∃ok,okL [] (oY f) (TV f)=ok:=⟨_,rfl⟩;unfold zh at U;rw[J]at U;have δ:(oY f).length=Z' f.a6S:=by simp[oY]
 refine wp_loop (α:=Nat × PV × PH) (λs=>(((((PF.nil.set 1 (.bM f.cells)).set 6 (s.2.1)).set 7 (.aF)).set 8 (.bool (b&&(a8A s.1).all ok))).set 17 (.int .i64 s.1))) (λs=>s.2.2) (λs=>s.1≤Z' f.a6S∧kU s.2.2 s.2.1 [] (oY f) (b&&(a8A s.1).all ok) s.1) (λs=>Z' f.a6S-s.1)
  (0,.aF,H) ⟨a8H _,⟨[],aT.nil.sE 1,λ_=>rfl⟩⟩ (by
   have e:(b&&(a8A 0).all ok)=b:=by cases b<;>rfl
   simp only[e];exact hF) b_ ?_
 rintro⟨i,w,Q⟩ ⟨hi,hG⟩;simp only at hi hG ⊢;have fin:∀(c:Bool)(y:PV)(A:PF)(H':PH),i<Z' f.a6S→(b&&(a8A (i+1)).all ok)=c→kU H' y [] (oY f) true (i+1) →
   ((((((PF.nil.set 1 (.bM f.cells)).set 6 (y)).set 7 (.aF)).set 8 (.bool c)).set 17 (.int .i64 (i+1:Nat))):PF).le A →
   gV (λs:Nat × PV × PH=>(((((PF.nil.set 1 (.bM f.cells)).set 6 (s.2.1)).set 7 (.aF)).set 8 (.bool (b&&(a8A s.1).all ok))).set 17 (.int .i64 s.1))) (λs=>s.2.2) (λs=>s.1≤Z' f.a6S∧kU s.2.2 s.2.1 [] (oY f) (b&&(a8A s.1).all ok) s.1) (λs=>Z' f.a6S-s.1) (Z' f.a6S-i) K .normal A H':=
  λc y A H' hlt hb R B=>aJ (i+1,y,H') ⟨hlt,R.F8⟩ (by simp only;omega) (by simp only;rw[hb];exact B) b_
 have d:=wX (p:=ok) i b;have E:=λh=>wW (p:=ok) (b:=b) hi h;have x:(b&&(a8A i).all ok)=(b&&(a8A f.a6S.length).all ok)→K (.exit 8) ((((PF.nil.set 1 (.bM f.cells)).set 7 (.aF)).set 8 (.bool (b&&(a8A i).all ok)))) Q:=λe=>by rw[e];exact U Q
 generalize hc:(b&&(a8A i).all ok)=c at *
 simp only[go_sem,FQ,C6,a7Z];by_cases hlt:i<Z' f.a6S
 ·have l:(i:Int)<(Z' f.a6S:Nat):=Om;cases c with
  |false =>simp only[go_sem,l];exact Up.up Lq (x (E rfl).symm)
  |true=>
   obtain⟨γ,g1,g3⟩:=hG.ex;have V:=MU hlt;have Y:i<(oY f).length:=Om;have Z:(oY f)[i]=(f.a6S[i]).name:=by simp[oY]
   have M:ok i=(mD ([]++(oY f).take i) ((oY f).getD i [])&&abD f.a6P.length f.a6S[i]):=by rw[←J];unfold okL TV;rw[a8N hlt]
   have u:=hf.a7A _ (a8G hlt);rw[M]at d;unfold abD at d;have N:IntKind.i64.wrap ((i:Int)+1)=((i+1:Nat):Int):=eQ Om;simp only[go_sem,l,C7,V];refine aR λo ho=>?_;have g4:=g1.new ho (.rows 17 [(f.a6S[i]).cells]);have g5:=g4.at 0 rfl;simp only[go_sem];generalize Q.set o (.rows 17 [(f.a6S[i]).cells])=H2 at *
   simp only[go_sem,C8,g5];refine kU.call L.touM (ns:=oY f) g4 (a8H _) Om (g3 rfl) Y (by simp only[go_sem,Z]) λy H1 h1 S=>?_;have O:=h1.at 0 rfl;generalize mD ([]++(oY f).take i) ((oY f).getD i [])=fb at *
   generalize hd:f.a6S[i]=p at *
   have rest:∀(c:Bool)(A:PF),(zpF f y o i c 0).le A→(c&&(a8A p.a6P.length).all (TW f.a6P.length p.a6P))=(b&&(a8A (i+1)).all ok) →
     aC.wp C (.loop FP) (fQ 10 (fQ 9 (jW C (aC.wp C (.region WR)) (gV (λs:Nat × PV × PH=>(((((PF.nil.set 1 (.bM f.cells)).set 6 (s.2.1)).set 7 (.aF)).set 8 (.bool (b&&(a8A s.1).all ok))).set 17 (.int .i64 s.1))) (λs=>s.2.2) (λs=>s.1≤Z' f.a6S∧kU s.2.2 s.2.1 [] (oY f) (b&&(a8A s.1).all ok) s.1) (λs=>Z' f.a6S-s.1) (Z' f.a6S-i) K)))) A H1:=by
    intro c A B W;refine aJP L.toxP f β y o i p u.a6P c _ _ _ O B ?_;rw[W];simp only[go_sem,WR,N];exact fin _ y _ _ hlt rfl S Lq
   cases fb with
   |false =>simp only[go_sem,WO,AG];exact rest false _ (by(repeat' (first|exact d_|refine c_ ?_ ?_))<;>first|(simp only[go_sem,zpF]<;>rfl)|rfl) (by rw[d];rfl)
   |true=>
    simp only[go_sem,WO,O];refine aB (L.nums p.k p.m p.a7M p.s0 p.s1 p.s2 p.s3 p.s4) Sq ?_;cases k0:TO p.k p.m p.a7M p.s0 p.s1 p.s2 p.s3 p.s4 with
    |false =>simp only[go_sem,AG];exact rest false _ (by(repeat' (first|exact d_|refine c_ ?_ ?_))<;>first|(simp only[go_sem,zpF]<;>rfl)|rfl) (by rw[d,k0];rfl)
    |true=>
     simp only[go_sem,O];refine aB (L.dur p.m p.repair u.repair p.target p.a6Y u.target u.a6Y) Sq ?_;cases k1:YP p.m p.repair p.target p.a6Y with
     |false =>simp only[go_sem,AG];exact rest false _ (by(repeat' (first|exact d_|refine c_ ?_ ?_))<;>first|(simp only[go_sem,zpF]<;>rfl)|rfl) (by rw[d,k0,k1];rfl)
     |true =>have X:decide ((Z' p.a6P:Int)>0)=decide (Z' p.a6P>0):=decide_eq_decide.2 Om;simp only[go_sem,O,a7Z,X,AG];exact rest _ _ (by(repeat' (first|exact d_|refine c_ ?_ ?_))<;>first|(simp only[go_sem,zpF]<;>rfl)|rfl) (by rw[d,k0,k1];rfl)
 ·have l:¬(i:Int)<(Z' f.a6S:Nat):=Om;have:i=Z' f.a6S:=Om;subst this;simp only[go_sem,l];exact Up.up Lq (x hc.symm)
def vI(r:cX):Bool:=(r.name==[])&&((r.level==0)&&((r.parent==-1)&&((r.a7I==0)&&(dV (val r.a7D.num) (val r.a7D.den)&&(wU r.a7D==0)))))
def aAU(f:aE):Bool:=match f.a6R with
 |[]=>false
 |r::_=>vI r
def aOS(f:aE):Bool:=within f.a7S 1 4&&(uE f.a6V.length f.a6P.length f.a6R.length f.a6O.length f.a6S.length f.a6Q.length&&(decide (0<Z' f.a6R)&&((((((RZ f&&GJ f)&&aAU f)&&ED f)&&FW f)&&zh f)&&Q3 f)))
theorem akL(n:Nat)(p q:Nat→Bool):(a8A n).all (λi=>p i&&q i)=((a8A n).all p&&(a8A n).all q):=by
 induction n with
 |zero=>rfl
 |succ n d =>simp only[bbT,List.all_append,d,bbP,List.all_nil,baN];cases(a8A n).all p<;>cases(a8A n).all q<;>cases p n<;>simp
theorem GU{α:Type}(l:List α)(p:α→Bool):(a8A l.length).all (λi=>(l.map p).getD i false)=l.all p:=by
 refine Bool.eq_iff_iff.2 ?_;rw[a8U,a8U];constructor
 ·intro h x d;obtain⟨i,hi,rfl⟩:=a9X d;have:=h i (a9M.2 hi);simpa[a8V,hi]using this
 ·intro h i hi;have hi:=a9M.1 hi;simp[a8V,hi,h _ (a8G hi)]
theorem PG(ns:List (List UInt8))(n:Nat)(d:Z' ns=n)(P:Nat→Bool):(a8A n).all (okL [] ns P)=(distinct ns&&(a8A n).all P):=by
 subst d;have:okL [] ns P=λi=>(isName (ns.getD i [])&&!(ns.take i).contains (ns.getD i []))&&P i:=by funext i;rfl
 rw[this,akL];rfl
theorem aUL(base ns:List (List UInt8))(P Q:Nat→Bool):((a8A base.length).all (okL [] base P)&&(a8A ns.length).all (okL base ns Q))=(distinct (base++ns)&&((a8A base.length).all P&&(a8A ns.length).all Q)):=by
 have d:okL base ns Q=λi=>(isName (ns.getD i [])&&!(base++ns.take i).contains (ns.getD i []))&&Q i:=by funext i;rfl
 have e2:distinct (base++ns)=(distinct base&&(a8A ns.length).all λi=>isName (ns.getD i [])&&!(base++ns.take i).contains (ns.getD i [])):=by
  unfold distinct;rw[a8F,List.range_add,List.all_append,List.all_map];congr 1
  ·refine Bool.eq_iff_iff.2 ?_;rw[a8U,a8U];refine forall_congr' λi=>forall_congr' λhi=>?_;have hi:=a9M.1 hi;have a1:(base++ns).getD i []=base.getD i []:=by simp only[a8V];rw[baW hi]
   have a2:(base++ns).take i=base.take i:=by rw[List.take_append_of_le_length Om]
   rw[a1,a2]
  ·refine Bool.eq_iff_iff.2 ?_;rw[a8U,a8U];refine forall_congr' λi=>forall_congr' λ_=>?_;have a1:(base++ns).getD (Z' base+i) []=ns.getD i []:=by simp only[a8V];rw[baP Om];congr 2;omega
   have a2:(base++ns).take (Z' base+i)=base++ns.take i:=by rw[List.take_append,a8T Om];congr 2;omega
   simp only[Function.comp,a1,a2]
 rw[PG base base.length rfl P,d,akL,e2];cases distinct base<;>cases(a8A base.length).all P<;>simp
theorem aOW(r:cX):(decide (r.name=[])&&decide (r.level=0)&&decide (r.parent=-1)&&decide (r.a7I=0)&&dT r.a7D&&!bT r.a7D)=vI r:=by
 have l:decide (r.name=[])=(r.name==[]):=by cases r.name<;>rfl
 have p:decide (r.level=0)=(r.level==0):=by generalize r.level=x;by_cases h:x=0<;>simp[h]
 have u:decide (r.parent=-1)=(r.parent==-1):=by generalize r.parent=x;by_cases h:x=-1<;>simp[h]
 have w:decide (r.a7I=0)=(r.a7I==0):=by generalize r.a7I=x;by_cases h:x=0<;>simp[h]
 have h5:(dT r.a7D&&!bT r.a7D)=(dV (val r.a7D.num) (val r.a7D.den)&&(wU r.a7D==0)):=by
  rw[UO];by_cases h:val r.a7D.num=0
  ·have e:bT r.a7D=false:=by unfold bT;simp[h]
   rw[e];simp only[a8P,baN];cases d:dV (val r.a7D.num) (val r.a7D.den)with
   |false =>unfold dT sI;rw[d];rfl
   |true=>
    obtain⟨y,-,-⟩:=jQ.1 d;unfold dT sI;rw[d,aG rfl,po d,h];unfold qV;have hb:val r.a7D.den/a8B 0 (val r.a7D.den)=1:=by rw[Nat.gcd_zero_left,Nat.div_self (baU y)]
    have i:dJ (0/a8B 0 (val r.a7D.den))=0:=by rw[Nat.zero_div];exact mN
    have b1:dJ 1=1:=by rw[tP aV,mN]
    simp only[hb,i,b1];simp
  ·have e:bT r.a7D=true:=by unfold bT;simp[h]
   rw[e];simp
 unfold vI;rw[l,p,u,w];simp only[bbK]at h5 ⊢;rw[h5]
theorem aLD(f:aE){r:cX}{t:List cX}(h:f.a6R=r::t):IZ f r t=(vI r&&(a8A t.length).all (EC f)):=by
 unfold IZ;rw[aOW];congr 2;funext i;unfold EC;rw[h,List.getElem?_cons_succ];cases t[i]? with
 |none=>rfl
 |some d=>exact aSJ f i d
theorem aEB(f:aE):f.a6O.all (lL f)=(a8A f.a6O.length).all (BL f):=by
 have:BL f=λi=>(f.a6O.map (lL f)).getD i false:=by
  funext i;unfold BL;rw[a8V,a8Y];cases f.a6O[i]? with
  |none=>rfl
  |some d=>
   show Te f d=lL f d;unfold Te lL;have:decide ((f.a6R.map cX.level).getD d.machine.toNat 0=4)=((f.a6R.map cX.level).getD d.machine.toNat 0==4):=by generalize(f.a6R.map cX.level).getD d.machine.toNat 0=u;by_cases h:u=4<;>simp[h]
   rw[this,bbK]
 rw[this,GU]
theorem aGY(f:aE):f.a6S.all (mF f.a6P.length)=(a8A f.a6S.length).all (TV f):=by
 have:TV f=λi=>(f.a6S.map (mF f.a6P.length)).getD i false:=by
  funext i;unfold TV;rw[a8V,a8Y];cases f.a6S[i]? with
  |none=>rfl
  |some d=>exact(aUS _ d).symm
 rw[this,GU]
theorem aUU(f:aE):aOS f=eP f:=by
 have N:Eh f.a6V.length=nY f:=by funext m;unfold Eh nY;rw[bbK]
 have B:agO f.a6S.length=sM f:=rfl;have O:(within f.a7S 1 4&&uE f.a6V.length f.a6P.length f.a6R.length f.a6O.length f.a6S.length f.a6Q.length)=rM f:=by unfold rM uE;simp only[bbK]
 unfold aOS eP RZ GJ zh Q3;rw[PG _ _ (by rw[a7Z]),PG _ _ (by rw[a7Z]),PG _ _ (by rw[oY,a7Z]),PG _ _ (by rw[a7Z]),GU,GU,GU,N,B,aGY,aEB,←bbK,O];unfold sA aAU;cases l:f.a6R with
 |nil=>simp
 |cons r t=>
  have i:decide (0<Z' f.a6R)=true:=by rw[l];simp
  rw[l]at i;rw[i,a8R];simp only;rw[aLD f l];have A:kN f=(f.a6R.drop 1).map cX.name:=rfl;rw[l]at A;have M:(kN f).length=Z' t:=by rw[A];simp
  have p:=aUL (kN f) (pY f) (EC f) (BL f);rw[M,show(pY f).length=f.a6O.length by simp[pY]]at p;have K:ED f=(a8A t.length).all (okL [] (kN f) (EC f)):=by unfold ED;rw[l];rfl
  have e2:FW f=(a8A f.a6O.length).all (okL (kN f) (pY f) (BL f)):=rfl;rw[K,e2,←A];rw[show f.a6O.map eO.name=pY f from rfl,show f.a6S.map cL.name=oY f from rfl];generalize(a8A t.length).all (okL [] (kN f) (EC f))=a at *
  generalize(a8A f.a6O.length).all (okL (kN f) (pY f) (BL f))=b at *
  generalize distinct (kN f++pY f)=c at *
  generalize(a8A t.length).all (EC f)=d at *
  generalize(a8A f.a6O.length).all (BL f)=e at *
  generalize rM f=s;generalize vI r=ro;generalize distinct (f.a6V.map cY.name)=u;generalize f.a6V.all nT=w;generalize distinct (f.a6P.map dR.name)=x;generalize f.a6P.all (nY f)=y;generalize distinct (oY f)=E;generalize(a8A f.a6S.length).all (TV f)=F;generalize distinct (f.a6Q.map gQ.name)=H;generalize f.a6Q.all (sM f)=J;have:(s&&(((((((u&&w)&&(x&&y))&&ro)&&a)&&b)&&(E&&F))&&(H&&J)))=(s&&(ro&&((u&&w)&&((x&&y)&&((a&&b)&&((E&&F)&&(H&&J))))))):=by cases s<;>cases ro<;>cases u<;>cases w<;>cases x<;>cases y<;>simp[bbK]
  rw[this,p];cases s<;>cases ro<;>cases u<;>cases w<;>cases x<;>cases y<;>cases c<;>cases d<;>cases e<;>simp;cases E<;>cases F<;>cases H<;>cases J<;>rfl
theorem aOV(f:aE)(h:0<Z' f.a6R):aAU f=vI f.a6R[0]:=by
 obtain⟨a,b,c,d,e,g,i⟩:=f;cases d with
 |nil=>simp at h
 |cons r t=>rfl
theorem aJU{C:Ctx}(L:Dk C)(f:aE)(l:f.Ok):OI.wp C (aY ahY.res (aK (.bool (eP f)))) (PF.args [.agg f.cells]) .nil:=by
 have i:=aUU f;unfold aOS at i;have fail:∀(F:PF)(H:PH),eP f=false→F 2=some (.bool false)→aY [.tmp 2] (aK (.bool (eP f))) .ret F H:=λF H e h=>by rw[e];exact bE (vs:=[.bool false]) (.inr rfl) .nil (by simp only[go_sem,h]) a_ ⟨rfl,rfl⟩
 simp only[go_sem,OI,Pv,Pw,ahY];refine aB (L.inn f.a7S 1 4) rfl ?_;cases R:within f.a7S 1 4 with
 |false =>rw[R,a8L]at i;simp only[go_sem,a8P,KX];exact fail _ _ i.symm rfl
 |true=>
 rw[R,a8R]at i;simp only[go_sem,a8I,a7Z];refine aB (L.sizes f.a6V.length f.a6P.length f.a6R.length f.a6O.length f.a6S.length f.a6Q.length) rfl ?_;cases k1:uE f.a6V.length f.a6P.length f.a6R.length f.a6O.length f.a6S.length f.a6Q.length with
 |false =>rw[k1,a8L]at i;simp only[go_sem,a8P,KX];exact fail _ _ i.symm rfl
 |true=>
 rw[k1,a8R]at i;obtain⟨K,x,y,M,N,X⟩:=cv k1;by_cases h0:Z' f.a6R=0
 ·rw[cB Om,a8L]at i;simp only[go_sem,a8I,a7Z,cC (Om:(Z' f.a6R:Int)=0),KX];exact fail _ _ i.symm rfl
 have d:0<Z' f.a6R:=Om;rw[bN d,a8R]at i;simp only[go_sem,a8I,a7Z,bO (Om:(Z' f.a6R:Int)≠0),Px,Py,Pz];refine aWB L.toxP f l K _ _ _ Lq λY=>?_;simp only[go_sem,Cv];refine aJT L.toxP f l k1 (RZ f) _ _ _ Lq λH2=>?_;have E:=iY d;have u:=(l.dom _ (a8G d)).1;have J:=aOV f d;rw[J]at i;generalize f.a6R[0]=r at *
 have rest:∀(c:Bool)(F:PF)(H:PH),((((((PF.nil.set 1 (.bM f.cells)).set 5 (.aF)).set 6 (.aF)).set 7 (.aF)).set 8 (.bool c)):PF).le F→c=((RZ f&&GJ f)&&vI r) →
   aC.wp C (.seq (.seq (.region WJ) (.block 4 (.loop FN))) (.seq (.seq (.region WL) (.block 6 (.loop FO))) (.seq (.seq (.region WN) (.block 8 (.loop FQ))) (.seq (.seq (.region WS) (.block 14 (.loop FS))) (.seq (.region WV) .ret))))) (aY [.tmp 2] (aK (.bool (eP f)))) F H:=by
  intro c F H U W;refine FL _ (λ_ _ _ _ a b=>Up.up a b) U ?_;simp only[go_sem,WJ];refine aWA L.toxP f l y d c _ _ _ Lq λw S V=>?_;simp only[go_sem,WL];refine aJS L.toxP f l y d M x (c&&ED f) w _ _ _ V Lq λZ=>?_;simp only[go_sem,WN];refine aWC L f l N x ((c&&ED f)&&FW f) _ _ _ Lq λH5=>?_;simp only[go_sem,WS];refine aWD L.toxP f l k1 (((c&&ED f)&&FW f)&&zh f) _ _ _ Lq λH6=>?_;simp only[go_sem,WV];refine bE (vs:=[.bool (eP f)]) (.inr rfl) .nil ?_ a_ ⟨rfl,rfl⟩;rw[←i,W];simp only[go_sem]
 simp only[aC.wp,go_sem]at rest;simp only[go_sem,Cz,E];refine aR λo ho=>?_;have g0:(H2.set o (.rows 7 [r.cells])) o=some (.rows 7 [r.cells]):=dK ..;simp only[go_sem];generalize H2.set o (.rows 7 [r.cells])=S at *
 cases k2:(RZ f&&GJ f)with
 |false =>simp only[go_sem,WI];exact rest false _ _ Lq (by rw[k2];rfl)
 |true=>
  simp only[go_sem,WI,g0];cases p:r.name==[]with
  |false =>simp only[go_sem];exact rest false _ _ Lq (by rw[k2];unfold vI;rw[p];rfl)
  |true=>
   simp only[go_sem,g0];cases A:r.level==0 with
   |false =>simp only[go_sem];exact rest false _ _ Lq (by rw[k2];unfold vI;rw[p,A];rfl)
   |true=>
    simp only[go_sem,g0];cases B:r.parent==-1 with
    |false =>simp only[go_sem];exact rest false _ _ Lq (by rw[k2];unfold vI;rw[p,A,B];rfl)
    |true=>
     simp only[go_sem,g0];cases O:r.a7I==0 with
     |false =>simp only[go_sem];exact rest false _ _ Lq (by rw[k2];unfold vI;rw[p,A,B,O];rfl)
     |true=>
      simp only[go_sem,g0];refine aB (L.valid _ u) rfl ?_;cases Q:dV (val r.a7D.num) (val r.a7D.den)with
      |false =>simp only[go_sem];exact rest false _ _ Lq (by rw[k2];unfold vI;rw[p,A,B,O,Q];rfl)
      |true =>simp only[go_sem,g0];refine aB (L.sign _ u Q) rfl ?_;simp only[go_sem];exact rest _ _ _ Lq (by rw[k2];unfold vI;rw[p,A,B,O,Q];rfl)







def lW:=bU [] Proofs.Tryz.f3
def I5:=aA lW 0
def I6:=aA lW 1
def I7:=aA lW 2
def I8:=aA lW 3
def ZN:=aA lW 4
def I9:=aA lW 5
def Ja:=aA lW 6
def Jb:=aA lW 7
def Jc:=aA lW 8
def Jd:=aA lW 9
def MA:aC:=(sq I5 (sq I6 (sq I7 (sq I8 (dM ZN 29 I9 (sq Ja (sq Jb (sq Jc (sq Jd .ret)))))))))
def xv:bC:=⟨3,83,MA,[.tmp 6]⟩
def nB:=bU [3,4] Proofs.Tryz.f7
def Xq:=aA nB 0
def Xr:=aA nB 1
def Xs:=aA nB 2
def Xt:=aA nB 3
def aMZ:=aA nB 4
def aNA:=aA nB 5
def aNB:=aA nB 6
def aNC:=aA nB 7
def aND:=aA nB 8
def aNE:=aA nB 9
def SC:aC:=(sq Xq (sq Xr (dM Xs 21 Xt (sq aMZ (dM aNA 31 aNB (sq aNC (sq aND (sq aNE .ret))))))))
def azK:bC:=⟨3,58,SC,[.cell 6 (some 7),.tmp 7]⟩
def cI:=bU [4,5] Proofs.Tryz.f8
def jj:=aA cI 0
def jk:=aA cI 1
def jl:=aA cI 2
def jm:=aA cI 3
def ajE:=aA cI 4
def ajF:=aA cI 5
def ajG:=aA cI 6
def ajH:=aA cI 7
def ajI:=aA cI 8
def ajJ:=aA cI 9
def W3:=aA cI 10
def W4:=aA cI 11
def W5:=dB cI 0
def W6:=dB cI 1
def W7:=aA cI 12
def Wz:aC:=(eW ajJ 50 1 W7 (sq W3 (sq W4 (dq W5 (.draw W6)))))
def W8:=dB cI 2
def W9:=aA cI 13
def Xa:=aA cI 14
def Xb:=aA cI 15
def Xc:=aA cI 16
def Xd:=aA cI 17
def Xe:=aA cI 18
def Xf:=aA cI 19
def Xg:=aA cI 20
def Xh:=dB cI 3
def Xi:=dB cI 4
def Xj:=dB cI 5
def Xk:=aA cI 21
def W0:aC:=(eW Xf 104 7 Xk (sq Xg (dq Xh (dq Xi (.cond (Tm 141) (.draw Xj) .skip)))))
def Xl:=aA cI 22
def W1:aC:=(eW Xc 91 5 Xl (sq Xd (cJ Xe 7 W0)))
def Xm:=aA cI 23
def Xn:=aA cI 24
def Xo:=dB cI 6
def Xp:=dB cI 7
def W2:aC:=(.block 4 (sq W9 (sq Xa (.seq (cJ Xb 5 W1) (dM Xm 147 Xn (dq Xo (.draw Xp)))))))
def DL:aC:=(sq jj (sq jk (.seq (.block 0 (sq jl (.cond (Tm 31) (sq jm .ret) (sq ajE (.cond (Tm 35) (sq ajF .ret) .skip))))) (sq ajG (sq ajH (.seq (cJ ajI 1 Wz) (dq W8 (.block 3 (.loop W2)))))))))
def pn:bC:=⟨4,164,DL,[.tmp 8,.tmp 9]⟩
def kK:=bU [3,4] Proofs.Tryz.f9
def Wt:=aA kK 0
def Wu:=aA kK 1
def Wv:=aA kK 2
def Ww:=aA kK 3
def aMP:=aA kK 4
def aMQ:=aA kK 5
def aMR:=aA kK 6
def aMS:=aA kK 7
def aMT:=aA kK 8
def aMU:=aA kK 9
def aFC:=dB kK 0
def aFD:=aA kK 10
def aFB:aC:=(eW aMT 31 1 aFD (sq aMU (.draw aFC)))
def aFE:=aA kK 11
def SA:aC:=(sq Wt (sq Wu (.seq (.block 0 (sq Wv (.cond (Tm 19) (sq Ww .ret) (sq aMP (.cond (Tm 23) (sq aMQ .ret) .skip))))) (sq aMR (.seq (cJ aMS 1 aFB) (sq aFE .ret))))))
def azH:bC:=⟨3,54,SA,[.tmp 6,.tmp 7]⟩
def qU:=bU [4,5,7] Proofs.Tryz.f10
def Iy:=aA qU 0
def Iz:=aA qU 1
def ZK:=aA qU 2
def aEW:=aA qU 3
def aEX:=aA qU 4
def aEY:=aA qU 5
def aEZ:=aA qU 6
def LX:aC:=(sq Iy (dM Iz 30 ZK (sq aEW (sq aEX (sq aEY (sq aEZ .ret))))))
def Ws:bC:=⟨4,85,LX,[.tmp 8]⟩
def cO:=bU [3,4,112,145,179] Proofs.Tryz.f17
def G9:=aA cO 0
def Ha:=aA cO 1
def Hb:=aA cO 2
def Hc:=aA cO 3
def aDP:=aA cO 4
def aDQ:=aA cO 5
def aDR:=aA cO 6
def aDS:=aA cO 7
def aDT:=aA cO 8
def aDU:=aA cO 9
def awL:=aA cO 10
def awM:=aA cO 11
def awN:=aA cO 12
def awO:=aA cO 13
def awP:=aA cO 14
def awQ:=dB cO 0
def awR:=aA cO 15
def awS:=dB cO 1
def awT:=dB cO 2
def awU:=aA cO 16
def awI:aC:=(eW awN 54 0 awU (sq awO (gE awP 80 (.exit 1) (dq awQ (sq awR (dq awS (.draw awT)))))))
def awV:=aA cO 17
def awW:=aA cO 18
def awX:=aA cO 19
def awY:=aA cO 20
def awZ:=aA cO 21
def axA:=aA cO 22
def axB:=dB cO 3
def axC:=aA cO 23
def axD:=aA cO 24
def awJ:aC:=(eW awX 124 2 axD (sq awY (sq awZ (gE axA 129 (.draw axB) (.region axC)))))
def axE:=aA cO 25
def axF:=aA cO 26
def axG:=aA cO 27
def axH:=dB cO 4
def axI:=aA cO 28
def axJ:=aA cO 29
def awK:aC:=(eW axF 153 4 axJ (sq axG (dq axH (.region axI))))
def axK:=aA cO 30
def axL:=aA cO 31
def LH:aC:=(sq G9 (.seq (sq Ha (sq Hb (.cond (Tm 31) (sq Hc .ret) .skip))) (sq aDP (sq aDQ (dM aDR 42 aDS (sq aDT (sq aDU (sq awL (.seq (cJ awM 0 awI) (sq awV (.seq (cJ awW 2 awJ) (.seq (cJ axE 4 awK) (sq axK (sq axL .ret))))))))))))))
def Sy:bC:=⟨3,195,LH,[.cell 6 (some 6),.tmp 7]⟩
def eT:=bU [4,5] Proofs.Tryz.f28
def u0:=aA eT 0
def u5:=aA eT 1
def u6:=aA eT 2
def u7:=aA eT 3
def avZ:=aA eT 4
def awA:=aA eT 5
def awB:=aA eT 6
def awC:=dB eT 0
def awD:=aA eT 7
def awE:=aA eT 8
def aiH:=aA eT 9
def aiF:aC:=(eW awA 49 0 aiH (sq awB (dq awC (sq awD (.cond (Tm 59) (sq awE .ret) .skip)))))
def aiI:=aA eT 10
def aiJ:=aA eT 11
def aiK:=aA eT 12
def aiL:=aA eT 13
def aiM:=aA eT 14
def aiN:=dB eT 1
def aiO:=aA eT 15
def aiP:=aA eT 16
def aiQ:=aA eT 17
def aiG:aC:=(eW aiJ 65 2 aiQ (sq aiK (gE aiL 70 (.exit 3) (sq aiM (dq aiN (sq aiO (.cond (Tm 94) (sq aiP .ret) .skip)))))))
def aiR:=aA eT 18
def HE:aC:=(sq u0 (.seq (sq u5 (sq u6 (.cond (Tm 45) (sq u7 .ret) .skip))) (.seq (cJ avZ 0 aiF) (.seq (cJ aiI 2 aiG) (sq aiR .ret)))))
def Dr:bC:=⟨4,96,HE,[.tmp 8]⟩
def fO:=bU [3,4] Proofs.Tryz.f156
def akQ:=aA fO 0
def akR:=aA fO 1
def akS:=aA fO 2
def akT:=aA fO 3
def akU:=aA fO 4
def akV:=aA fO 5
def akW:=aA fO 6
def akP:aC:=(eW akT 23 0 akW (sq akU (.region akV)))
def akX:=aA fO 7
def akY:=aA fO 8
def QD:=aA fO 9
def m8:=aA fO 10
def m9:=aA fO 11
def R4:=aA fO 12
def R5:=aA fO 13
def R6:=aA fO 14
def R7:=aA fO 15
def R8:=aA fO 16
def QE:=aA fO 17
def R9:=aA fO 18
def na:=aA fO 19
def m7:aC:=(dY R6 57 4 na (sq R7 (sq R8 (sq QE (.cond (Tm 88) (sq R9 .ret) .skip)))))
def Sa:=aA fO 20
def HB:aC:=(eW QD 37 2 Sa (sq m8 (dM m9 49 R4 (cJ R5 4 m7))))
def Sb:=aA fO 21
def XY:aC:=(sq akQ (sq akR (.seq (cJ akS 0 akP) (sq akX (.seq (cJ akY 2 HB) (sq Sb .ret))))))
def aKE:bC:=⟨3,90,XY,[.tmp 6]⟩
def i6:=bU [2] Proofs.Tryz.f113
def Gp:=aA i6 0
def Gq:=aA i6 1
def LF:aC:=(sq Gp (sq Gq .ret))
def Sf:bC:=⟨2,19,LF,[.tmp 4]⟩
def sT:=bU [2] Proofs.Tryz.f66
def Gj:=aA sT 0
def Gk:=aA sT 1
def Gl:=aA sT 2
def XZ:=aA sT 3
def Gm:=aA sT 4
def Gn:=dB sT 0
def LD:aC:=(sq Gj (.seq (.block 0 (sq Gk (.cond (Tm 6) (sq Gl .ret) (sq XZ (.cond (Tm 11) (sq Gm .ret) .skip))))) (dq Gn .ret)))
def call17:bC:=⟨2,23,LD,[.tmp 4,.tmp 5]⟩
def dX:=bU [2,23,24,50,90] Proofs.Tryz.f60
def He:=aA dX 0
def Hf:=aA dX 1
def Hg:=aA dX 2
def Hh:=aA dX 3
def Hi:=aA dX 4
def Hj:=aA dX 5
def Hk:=aA dX 6
def Hl:=aA dX 7
def Hd:aC:=(eW Hi 19 0 Hl (sq Hj (.region Hk)))
def Hm:=aA dX 8
def vf:=aA dX 9
def vh:=aA dX 10
def vi:=aA dX 11
def vj:=aA dX 12
def vk:=aA dX 13
def vm:=aA dX 14
def vn:=aA dX 15
def QK:=aA dX 16
def vd:aC:=(eW vi 36 2 QK (sq vj (sq vk (.cond (Tm 43) (sq vm (.region vn)) .skip))))
def vp:=aA dX 17
def vq:=aA dX 18
def vr:=aA dX 19
def vt:=aA dX 20
def QL:=aA dX 21
def vu:=aA dX 22
def DW:aC:=(.seq (sq QL (.cond (Tm 70) .skip (.exit 6))) (.block 7 (.region vu)))
def vw:=dB dX 0
def vz:=dB dX 1
def v6:=aA dX 23
def ve:aC:=(eW vq 57 4 v6 (sq vr (sq vt (.seq (.block 6 (.loop DW)) (dq vw (.draw vz))))))
def v8:=aA dX 24
def LJ:aC:=(sq He (sq Hf (gE Hg 14 (.seq (cJ Hh 0 Hd) (sq Hm .ret)) (sq vf (.seq (cJ vh 2 vd) (.seq (cJ vp 4 ve) (sq v8 .ret)))))))
def S1:bC:=⟨2,95,LJ,[.tmp 4]⟩
def pM:=bU [] Proofs.Tryz.f61
def uj:=aA pM 0
def uk:=aA pM 1
def ul:=aA pM 2
def um:=aA pM 3
def uo:=aA pM 4
def uq:=aA pM 5
def ui:aC:=(dY um 9 0 uq (.region uo))
def ut:=aA pM 6
def HC:aC:=(sq uj (sq uk (.seq (cJ ul 0 ui) (sq ut .ret))))
def Dq:bC:=⟨2,22,HC,[.tmp 4]⟩
def vb:=bU [] Proofs.Tryz.f62
def Sz:=aA vb 0
def S0:=aA vb 1
def QJ:aC:=(sq Sz (sq S0 .ret))
def axM:bC:=⟨2,6,QJ,[.tmp 4]⟩
def fX:=bU [] Proofs.Tryz.f109
def Hn:=aA fX 0
def Ho:=aA fX 1
def Hq:=aA fX 2
def Hr:=aA fX 3
def Ht:=aA fX 4
def Hu:=aA fX 5
def Hv:=aA fX 6
def YL:aC:=(eW Hr 16 0 Hv (sq Ht (.region Hu)))
def YM:=aA fX 7
def YN:=aA fX 8
def yT:=dB fX 0
def QM:=aA fX 9
def DX:aC:=(.seq (dq yT (.cond (Tm 42) .skip (.exit 4))) (.block 5 (.region QM)))
def DZ:=aA fX 10
def QN:=aA fX 11
def QO:=aA fX 12
def EA:=aA fX 13
def QP:=aA fX 14
def QQ:=aA fX 15
def DY:aC:=(dY EA 57 6 QQ (.region QP))
def wa:aC:=(.seq (sq YM (.cond (Tm 26) .skip (.exit 2))) (.block 3 (sq YN (.seq (.block 4 (.loop DX)) (gE DZ 46 .ret (sq QN (cJ QO 6 DY)))))))
def LK:aC:=(gE Hn 10 .ret (sq Ho (.seq (cJ Hq 0 YL) (.block 2 (.loop wa)))))
def S3:bC:=⟨1,69,LK,[]⟩
def dU(n:Nat):Nat→Nat→List (List Nat)
 |0,_=>[[]]
 |k+1,a=>(baI a (n-k-a)).flatMap λi=>(dU n k (i+1)).map (i::·)
def qY(n:Nat):List Nat→Option (List Nat)
 |[]=>none
 |x::t=>match qY n t with
  |some u=>some (x::u)
  |none=>if x+1+Z' t=n then none else some (baI (x+1) (Z' t+1))
theorem Jz{n:Nat}:∀{s u:List Nat},qY n s=some u→Z' u=Z' s
 |[],_,h=>by cases h
 |x::t,u,h=>by
  rw[qY]at h;split at h
  ·rename_i v d;cases h;simp[Jz d]
  ·split at h
   ·cases h
   ·cases h;simp
inductive rV (n:Nat):List Nat→List (List Nat)→Prop
 |last {s:List Nat} (h:qY n s=none):rV n s [s]
 |step {s t:List Nat} {l:List (List Nat)} (h:qY n s=some t) (w:rV n t l):rV n s (s::l)
theorem rV.map{n x k:Nat}{rest:List (List Nat)}(i:(x+1+k=n∧rest=[])∨(x+1+k≠n∧rV n (baI (x+1) (k+1)) rest)){t:List Nat}{l:List (List Nat)}(w:rV n t l)(d:Z' t=k):rV n (x::t) (l.map (x::·)++rest):=by
 induction w with
 |@last s h=>
  rcases i with⟨e,rfl⟩|⟨e,h2⟩
  ·exact .last (by rw[qY,h];simp only;rw[aG (by rw[d];exact e)])
  ·exact .step (by rw[qY,h];simp only;rw[aD (by rw[d];exact e),d]) h2
 |@step s t l h _ p=>exact .step (by rw[qY,h]) (p (by rw[Jz h,d]))
theorem fh(n:Nat):∀(k a:Nat),a+k≤n→rV n (baI a k) (dU n k a)
 |0,a,_=>.last rfl
 |k+1,a,h=>by
  rw[dU];obtain⟨m,e⟩:∃m,n-k-a=m+1:=⟨n-k-a-1,by omega⟩;rw[e];clear h
  induction m generalizing a with
  |zero =>have:=rV.map (n:=n) (x:=a) (k:=k) (rest:=[]) (.inl ⟨by omega,rfl⟩) (fh n k (a+1) Om) List.length_range';rw[List.range'_succ (n:=0),List.flatMap_cons];exact this
  |succ m i =>rw[List.range'_succ (n:=m+1),List.flatMap_cons];have d:=i (a+1) Om;exact rV.map (.inr ⟨by omega,d⟩) (fh n k (a+1) Om) List.length_range'
theorem TE{n:Nat}:∀{s:List Nat},(∀i (h:i<Z' s),s[i]+Z' s=n+i)→qY n s=none
 |[],_=>rfl
 |x::t,h=>by rw[qY,TE (s:=t) λi hi=>by have:=h (i+1) (by simpa using hi);simp only[List.getElem_cons_succ,a9O]at this;omega];have d:=h 0 bD;simp only[List.getElem_cons_zero,a9O]at d;simp only;rw[aG Om]
theorem Zx{n:Nat}:∀{s:List Nat}(i:Nat)(hi:i<Z' s),(∀j (h:j<Z' s),i<j→s[j]+Z' s=n+j)→s[i]+Z' s≠n+i→qY n s=some (s.take i++baI (s[i]+1) (Z' s-i))
 |[],i,hi,_,_=>by cases hi
 |x::t,0,_,h,d=>by rw[qY,TE (s:=t) λi hi=>by have:=h (i+1) (by simpa using hi) Om;simp only[List.getElem_cons_succ,a9O]at this;omega];simp only[List.getElem_cons_zero,a9O]at d ⊢;rw[aD Om];rfl
 |x::t,i+1,hi,h,d=>by
  have e:i<Z' t:=by simpa using hi
  simp only[List.getElem_cons_succ,a9O]at d;rw[qY,Zx (s:=t) i e (λj p l=>by have:=h (j+1) (by simpa using p) Om;simp only[List.getElem_cons_succ,a9O]at this;omega) Om];simp only[List.getElem_cons_succ,a9O,List.take_succ_cons,List.cons_append];rw[show t.length+1-(i+1)=Z' t-i by omega]
theorem xL(n:Nat):∀(k a:Nat),∀s∈dU n k a,Z' s=k∧(∀x∈s,a≤x∧x<n)∧s.Pairwise (· < ·)
 |0,a,s,h=>by rw[dU,baQ]at h;subst h;exact⟨rfl,(λx hx=>by cases hx),.nil⟩
 |k+1,a,s,h=>by
  rw[dU,List.mem_flatMap]at h;obtain⟨i,hi,h⟩:=h;rw[a9B]at h;obtain⟨t,p,rfl⟩:=h;rw[List.mem_range'_1]at hi;obtain⟨e,d,l⟩:=xL n k (i+1) t p;refine⟨by simp[e],λx hx=>?_,List.pairwise_cons.2 ⟨λy u=>by have:=(d y u).1;omega,l⟩⟩;rcases a8M.1 hx with rfl|hx
  ·omega
  ·have:=d x hx;omega
theorem IG(n:Nat):∀(k a:Nat),(dU n k a).length≤2^(n-a)
 |0,a=>by rw[dU];exact Nat.one_le_two_pow
 |k+1,a=>by
  rw[dU];have d:∀(m a:Nat),m+a≤n→((baI a m).flatMap λi=>(dU n k (i+1)).map (i::·)).length+2^(n-a-m)≤2^(n-a):=by
   intro m
   induction m with
   |zero=>intro a _;simp
   |succ m e=>
    intro a h;rw[List.range'_succ,List.flatMap_cons,a8F,a7Z];have l:=IG n k (a+1);have p:=e (a+1) Om;rw[show n-a-(m+1)=n-(a+1)-m by omega];have u:2^(n-a)=2^(n-(a+1))+2^(n-(a+1)):=by rw[show n-a=(n-(a+1))+1 by omega,baD];omega
    omega
  rcases a9A n a with h|h
  ·rw[show n-k-a=0 by omega];simp
  ·exact a9F (Nat.le_add_right _ _) (d (n-k-a) a Om)
def oF(f:aE)(p:cL)(set:List Int):Bool:=(a8A f.a6R.length).all λi=>!(decide (fD f p i>0)&&decide (iJ f set i>fD f p i))
def ON(f:aE)(p:cL)(d:Int):Bool:=p.a6P.contains ((mdl f d.toNat:Nat):Int)
def rX(f:aE)(p:cL)(set:List Int):Bool:=set.all (ON f p)&&oF f p set
def aRH(set:List Int)(top:Int)(i:Nat):Bool:=(decide (0≤set.getD i 0)&&decide (set.getD i 0<top))&&(decide (i=0)||decide (set.getD (i-1) 0<set.getD i 0))
def aKC(set:List Int)(n top:Int):Bool:=decide ((Z' set:Int)=n)&&(a8A set.length).all (aRH set top)
def mY(f:aE)(a7A:Int):cL:=f.a6S.getD a7A.toNat aRM
def BV(p:cL):Int:=p.k+p.m
def rI(f:aE)(a7A:Int):Bool:=eP f&&(decide (0≤a7A)&&decide (a7A<Z' f.a6S))
def aJZ(f:aE)(a7A:Int)(set:List Int):Bool:=rI f a7A&&(aKC set (BV (mY f a7A)) f.a6O.length&&rX f (mY f a7A) set)
def cA(s:List Nat):List Int:=s.map λ(x:Nat)=>(x:Int)
def vL(f:aE)(p:cL):List (List Int):=((dU f.a6O.length (BV p).toNat 0).map cA).filter (rX f p)
def jY(f:aE)(level:Int):List (List Int):=
 if level=5 then(a8A f.a6O.length).map λ(d:Nat)=>[(d:Int)]
 else((a8A f.a6R.length).filter λi=>decide (lvl f i=level)).map λi=>cA ((a8A f.a6O.length).filter λd=>decide (dS f d level=i))
def eM(m:Int):Nat→Int
 |0=>1
 |i+1=>baO (eM m i*(m-i)) (i+1)
def mC(u:List (List Int))(s:List Nat)(d:Nat):Bool:=s.any λi=>(u.getD i []).contains (d:Int)
def BU(f:aE)(u:List (List Int))(d:Nat):List (List Int):=(dU u.length d 0).map λs=>cA ((a8A f.a6O.length).filter (mC u s))
def ud(s set:List Int):Nat:=set.countP λd=>s.contains d
def xu(sc:List (List Int))(set:List Int)(m:Int):Nat:=sc.countP λs=>decide (((ud s set:Nat):Int)>m)
theorem Zd(a b:List Nat):cA (a++b)=cA a++cA b:=a8Z
theorem jE(a:List Nat):(cA a).length=Z' a:=a7Z _
theorem AX{a:List Nat}{i:Nat}(h:i<Z' a):(bA (cA a))[i]?=some [PV.int .i64 (a[i]:Nat)]:=by
 unfold bA cA;rw[a8Y,a8Y,a8N h];rfl
theorem qp(a:List Nat)(i x:Nat):(bA (cA a)).set i [PV.int .i64 (x:Nat)]=bA (cA (a.set i x)):=by
 unfold bA cA;rw[List.map_set,List.map_set]
theorem aIC{top n:Nat}(h:top<n):dU top n 0=[]:=by
 cases n with
 |zero=>omega
 |succ n =>rw[dU,show top-n-0=0 by omega];rfl
theorem rV.head{n:Nat}{s:List Nat}{l:List (List Nat)}(h:rV n s l):∃r,l=s::r:=by
 cases h with
 |last=>exact⟨_,rfl⟩
 |step=>exact⟨_,rfl⟩
def tD(n i:Nat):List Nat:=baI 0 i++a8D (n-i) 0
theorem axX(n:Nat):tD n 0=a8D n 0:=by unfold tD;simp
theorem aEG{n i:Nat}(h:i≤n):(tD n i).length=n:=by unfold tD;simp;omega
theorem axW(n:Nat):tD n n=baI 0 n:=by unfold tD;simp
theorem aEH{n i:Nat}(h:i<n):(tD n i).set i i=tD n (i+1):=by
 unfold tD;obtain⟨m,d⟩:∃m,n-i=m+1:=⟨n-i-1,by omega⟩;rw[d,List.replicate_succ,bbB _ _ bD,List.length_range',baV,bbW,show n-(i+1)=m by omega,List.range'_concat];simp
def onU(s:List Nat)(j y m:Nat):List Nat:=s.take j++baI y (m-j)++s.drop m
theorem aqS{s:List Nat}{j y m:Nat}(d:j≤m)(e:m≤Z' s):(onU s j y m).length=Z' s:=by
 unfold onU;simp;omega
theorem aUM{s:List Nat}{j y:Nat}(h:j<Z' s):s.set j y=onU s j y (j+1):=by
 unfold onU;rw[List.set_eq_take_append_cons_drop,aG h,show j+1-j=1 by omega];simp
theorem aOI{s:List Nat}{j y m:Nat}(i:j<m)(e:m≤Z' s):∃h,(onU s j y m)[m-1]'h=y+(m-1-j):=by
 refine⟨by rw[aqS Om e];omega,?_⟩;unfold onU;have d:(s.take j).length=j:=by rw[a8S];omega
 rw[List.getElem_append_left (by simp;omega),bcF Om];simp[d]
theorem aUN{s:List Nat}{j y m:Nat}(i:j≤m)(e:m<Z' s):(onU s j y m).set m (y+(m-j))=onU s j y (m+1):=by
 unfold onU;have d:(s.take j++baI y (m-j)).length=m:=by simp;omega
 rw[bbB _ _ Om,d,baV,baJ e,bbW,show m+1-j=(m-j)+1 by omega,List.range'_concat];simp
theorem aOH{s:List Nat}{j y:Nat}:onU s j y s.length=s.take j++baI y (Z' s-j):=by
 unfold onU;simp
theorem aSE{C:Ctx}{K:cD}[Up K]{n o1 o2 q:Nat}{y:PV}{F:PF}{H:PH}(J:n≤1000)(A:H q=some (.rows 1 (bA (cA (tD n 0)))))(w:(((((((PF.nil.set 0 (y)).set 1 (.ptr o1 1 0 0)).set 2 (.ptr o2 1 0 0)).set 4 (.osl q 1 0 n)).set 14 (.int .i64 n)).set 15 (.int .i64 0))).le F)
  (x:K (.exit 0) (((((PF.nil.set 0 (y)).set 1 (.ptr o1 1 0 0)).set 2 (.ptr o2 1 0 0)).set 4 (.osl q 1 0 n))) (H.set q (.rows 1 (bA (cA (baI 0 n)))))):aC.wp C (.loop YL) K F H:=by
 refine wp_loop (α:=Nat × PH) (λs=>((((((PF.nil.set 0 (y)).set 1 (.ptr o1 1 0 0)).set 2 (.ptr o2 1 0 0)).set 4 (.osl q 1 0 n)).set 14 (.int .i64 n)).set 15 (.int .i64 s.1))) (λs=>s.2) (λs=>s.1≤n∧s.2=H.set q (.rows 1 (bA (cA (tD n s.1))))) (λs=>n-s.1) (0,H) ⟨a8H _,?_⟩ w b_ ?_
 ·refine PH.ext λo=>?_;show H o=(H.set q _) o;rw[aS];split
  ·rename_i e;rw[e,A]
  ·rfl
 rintro⟨i,B⟩ ⟨hi,u⟩;simp only at hi u;subst u;simp only[go_sem,YL,Hr];by_cases hlt:i<n
 ·have d:(i:Int)<(n:Nat):=Om;have E:=aEG hi;have l:=AX (a:=tD n i) (i:=i) Om;have p:i<(bA (cA (tD n i))).length:=by rw[dN,jE];omega
  simp only[go_sem,d,Ht,Hu,l,p,a8Q,qp,aEH hlt,Hv,wZz i];exact aJ (i+1,_) ⟨hlt,rfl⟩ (by simp only;omega) Lq b_
 ·have d:¬(i:Int)<(n:Nat):=Om;have:i=n:=Om;subst this;rw[axW];simp only[go_sem,d];exact Up.up Lq x
def cyF(y:PV)(o1 o2 q n:Nat):PF:=((((PF.nil.set 0 (y)).set 1 (.ptr o1 1 0 0)).set 2 (.ptr o2 1 0 0)).set 4 (.osl q 1 0 n))
theorem aDX{C:Ctx}{K:cD}[Up K]{n top o1 o2 q:Nat}{y:PV}{s:List Nat}(V:Z' s=n)(U:n≤1000)(W:top≤1000)(Q:n≤top){F:PF}{H:PH}(b1:H o1=some (.rows 1 [[.int .i64 n]]))(b2:H o2=some (.rows 1 [[.int .i64 top]]))(E:H q=some (.rows 1 (bA (cA s))))
  (O:((cyF y o1 o2 q n).set 6 (.int .i64 ((n:Int)-1))).le F)
  (A:∀m,m≤n→(∀i (h:i<Z' s),m≤i→s[i]+n=top+i)→(0<m→∀(h:m-1<Z' s),s[m-1]+n≠top+(m-1))→K (.exit 4) ((cyF y o1 o2 q n).set 6 (.int .i64 ((m:Int)-1))) H):aC.wp C (.loop DX) K F H:=by
 refine wp_loop (α:=Nat) (λm=>(cyF y o1 o2 q n).set 6 (.int .i64 ((m:Int)-1))) (λ_=>H) (λm=>m≤n∧∀i (h:i<Z' s),m≤i→s[i]+n=top+i) (λm=>m) n ⟨a8E _,λi h S=>by omega⟩ O b_ ?_;rintro m ⟨B,d⟩;rw[show DX=(.seq (.seq (.draw yT) (.cond (.tmp 42) .skip (.exit 4))) (.block 5 (.region QM)))from rfl];simp only[go_sem];refine cP .nil fT a_ ?_;by_cases N:m=0
 ·subst N;simp only[go_sem,yT,cyF,show ¬((0:Nat):Int)-1≥0 by omega];refine Up.up ?_ (A 0 B d (λh=>by omega));unfold cyF;exact Lq
 ·obtain⟨k,rfl⟩:∃k,m=k+1:=⟨m-1,by omega⟩;have w:(((k+1:Nat):Int)-1)=(k:Int):=Om;have x:k<Z' s:=Om;have p:=AX x;have u:k<(bA (cA s)).length:=by rw[dN,jE];omega
  have J:IntKind.i64.wrap ((top:Int)-(n:Int))=(top:Int)-n:=wrap_i64 Om Om;have M:IntKind.i64.wrap ((top:Int)-(n:Int)+(k:Int))=(top:Int)-n+k:=wrap_i64 Om Om;have l:(k:Int)<(n:Nat):=Om;by_cases c:s[k]+n=top+k
  ·simp only[go_sem,yT,cyF,w,show(k:Int)≥0 by omega,E,p,u,l,b1,b2,a8Q,J,M,cC (Om:((s[k]:Nat):Int)=(top:Int)-n+k),QM];have R:IntKind.i64.wrap ((k:Int)-1)=(k:Int)-1:=wrap_i64 Om Om;refine aJ k ⟨by omega,λi h hi=>?_⟩ Om (by(repeat' (first|exact d_|refine c_ ?_ ?_))<;>first|(simp only[go_sem,R]<;>rfl)|rfl) b_;by_cases e:i=k
   ·subst e;exact c
   ·exact d i h Om
  ·simp only[go_sem,yT,cyF,w,show(k:Int)≥0 by omega,E,p,u,l,b1,b2,a8Q,J,M,bO (Om:((s[k]:Nat):Int)≠(top:Int)-n+k)];refine Up.up ?_ (A (k+1) B d (λ_ h=>c));unfold cyF
   (repeat' (first|exact d_|refine c_ ?_ ?_))<;>first|(simp only[go_sem,w]<;>rfl)|rfl
theorem aSF{C:Ctx}{K:cD}[Up K]{n o1 o2 q j x:Nat}{y:PV}{s:List Nat}(V:Z' s=n)(hn:n≤1000)(hx:x≤1000000)(S:j<n){F:PF}{H:PH}(b1:H o1=some (.rows 1 [[.int .i64 n]]))(M:¬o1=q)(U:H q=some (.rows 1 (bA (cA (onU s j x (j+1))))))
  (O:((cyF y o1 o2 q n).set 7 (.int .i64 (j+1:Nat))).le F)
  (Q:K (.exit 6) (cyF y o1 o2 q n) (H.set q (.rows 1 (bA (cA (s.take j++baI x (n-j))))))):aC.wp C (.loop DY) K F H:=by
 refine wp_loop (α:=Nat × PH) (λm=>(cyF y o1 o2 q n).set 7 (.int .i64 m.1)) (λm=>m.2) (λm=>j+1≤m.1∧m.1≤n∧m.2=H.set q (.rows 1 (bA (cA (onU s j x m.1))))) (λm=>n-m.1) (j+1,H) ⟨a8E _,S,?_⟩ O b_ ?_
 ·refine PH.ext λo=>?_;show H o=(H.set q _) o;rw[aS];split
  ·rename_i e;rw[e,U]
  ·rfl
 rintro⟨m,Y⟩ ⟨B,E,N⟩;simp only at B E N;subst N;have w:¬q=o1:=λe=>M e.symm;rw[show DY=(.seq (.seq (.region EA) (.cond (.tmp 57) .skip (.exit 6))) (.seq (.block 7 (.region QP)) (.region QQ)))from rfl];by_cases hlt:m<n
 ·have d:(m:Int)<(n:Nat):=Om;obtain⟨hp,R⟩:=aOI (s:=s) (j:=j) (y:=x) (m:=m) Om Om;have i:=AX hp;rw[R]at i;have Z:=aqS (s:=s) (j:=j) (y:=x) (m:=m) Om Om;have A:m-1<(bA (cA (onU s j x m))).length:=by rw[dN,jE];omega
  have p:m<(bA (cA (onU s j x m))).length:=by rw[dN,jE];omega
  have l:(bA (cA (onU s j x m)))[m]?=some [PV.int .i64 ((onU s j x m)[m]'Om:Nat)]:=AX Om;have W:IntKind.i64.wrap ((m:Int)-1)=((m-1:Nat):Int):=by rw[wrap_i64 Om Om];omega
  have X:IntKind.i64.wrap (((x+(m-1-j):Nat):Int)+1)=((x+(m-j):Nat):Int):=by rw[wrap_i64 Om Om];omega
  have u:((m-1:Nat):Int)<(n:Nat):=Om;have J:=aUN (s:=s) (j:=j) (y:=x) (m:=m) Om Om;simp only[go_sem,EA,cyF,b1,M,w,d,QP,W,u,i,A,a8Q,X,l,p,qp,J,QQ,wZz m];refine aJ (m+1,_) ⟨by simp only;omega,hlt,rfl⟩ (by simp only;omega) Lq b_
 ·have d:¬(m:Int)<(n:Nat):=Om;have:m=n:=Om;subst this;have e:=aOH (s:=s) (j:=j) (y:=x);rw[V]at e;rw[e];simp only[go_sem,EA,cyF,b1,M,w,d];refine Up.up ?_ Q;unfold cyF;exact Lq
theorem rV.done{n:Nat}{s:List Nat}{l:List (List Nat)}(h:rV n s l)(e:qY n s=none):l=[s]:=by
 cases h with
 |last=>rfl
 |step d=>rw[e]at d;cases d
theorem rV.next{n:Nat}{s t:List Nat}{l:List (List Nat)}(h:rV n s l)(e:qY n s=some t):∃r,l=s::r∧rV n t r:=by
 cases h with
 |last d=>rw[e]at d;cases d
 |step d w=>rw[e]at d;cases d;exact⟨_,rfl,w⟩
structure aJV(J:Nat→PH→Prop)(ss:List (List Nat))(top n o1 o2 q k:Nat)(s:List Nat)(G H:PH):Prop where
 lt:k<Z' ss
 walk:rV top s (ss.drop k)
 len:Z' s=n
 rng:∀x∈s,x<top
 j:J k G
 le:G.le H
 g1:G o1=none
 g2:G o2=none
 gq:G q=none
 b1:H o1=some (.rows 1 [[.int .i64 n]])
 b2:H o2=some (.rows 1 [[.int .i64 top]])
 bq:H q=some (.rows 1 (bA (cA s)))
theorem aKM{C:Ctx}{l o1 o2 n top:Nat}(J:Nat→PH→Prop)(d:List (List Nat))(R:d=dU top n 0)(h1:1≤n)(hn:n≤1000)(ht:top≤1000)
  (hY:∀k (hk:k<Z' d) G c,J k G→G c=none→OM C l [.osl c 1 0 n] (G.set c (.rows 1 (bA (cA d[k])))) (λr H'=>r=.bool true∧J (k+1) H'))
  {M H:PH} (V:J 0 M) (p:M.le H) (b1:H o1=some (.rows 1 [[.int .i64 n]])) (b2:H o2=some (.rows 1 [[.int .i64 top]])) (g1:M o1=none) (g2:M o2=none) :
  LK.wp C (aY S3.res (λ_ H'=>∃G,J d.length G∧G.le H')) (PF.args [DG l,.ptr o1 1 0 0,.ptr o2 1 0 0]) H:=by
 simp only[go_sem,LK,Hn,S3,b1,b2];by_cases c:n>top
 ·have:d=[]:=by rw[R];exact aIC c
  subst this;simp only[go_sem,show(n:Int)>(top:Nat) by omega];exact bE (vs:=[]) (.inr rfl) M rfl p ⟨M,V,b_⟩
 simp only[go_sem,show ¬(n:Int)>(top:Nat) by omega,Ho,b1,show(0:Int)≤n by omega,Int.le_refl,show(n:Int)*((8:Nat):Int)≤140737488355328 by omega,show(n:Int)≤9223372036854775807 by omega,baA];refine aR λq Q=>?_;obtain⟨a1,τ⟩:¬o1=q∧¬q=o1:=⟨(λe=>by rw[e,Q]at b1;cases b1),λe=>by rw[←e,Q]at b1;cases b1⟩;obtain⟨a2,υ⟩:¬o2=q∧¬q=o2:=⟨(λe=>by rw[e,Q]at b2;cases b2),λe=>by rw[←e,Q]at b2;cases b2⟩;have ez:a8D n [PV.int .i64 0]=bA (cA (tD n 0)):=by rw[axX];unfold bA cA;rw[List.map_replicate,List.map_replicate];rfl
 rw[ez];simp only[go_sem,Hq];refine aSE (n:=n) (o1:=o1) (o2:=o2) (q:=q) (y:=DG l) hn (by rw[dK]) Lq ?_;rw[PH.set_set];have Y:M q=none:=by
  cases h:M q with
  |none=>rfl
  |some x=>rw[p q x h]at Q;cases Q
 have hw:=fh top n 0 Om;rw[←R]at hw;obtain⟨r0,δ⟩:=hw.head;have N:=xL top n 0;rw[←R]at N;simp only[go_sem];refine wp_loop (α:=Nat × List Nat × PH × PH) (λ_=>cyF (DG l) o1 o2 q n) (λx=>x.2.2.2) (λx=>aJV J d top n o1 o2 q x.1 x.2.1 x.2.2.1 x.2.2.2) (λx=>Z' d-x.1) (0,baI 0 n,M,H.set q (.rows 1 (bA (cA (baI 0 n))))) ?_ (by unfold cyF;exact Lq) b_ ?_
 ·exact⟨(by simp only;rw[δ];simp),hw,List.length_range',(λx hx=>by rw[List.mem_range'_1]at hx;omega),V,PH.le_trans p (PH.ZL _ Q),g1,g2,Y,(by simp only;rw[aS,aD a1];exact b1),(by simp only;rw[aS,aD a2];exact b2),(by simp only;rw[dK])⟩
 clear b1 b2 g1 g2 Y Q p V hw δ ez;rintro⟨k,s,G,H⟩ A;have A:aJV J d top n o1 o2 q k s G H:=A;obtain⟨hlt,U,w,ε,V,p,g1,g2,gq,b1,b2,bq⟩:=A;have B:d.drop k=d[k]::d.drop (k+1):=baJ hlt;have ρ:d[k]=s:=by obtain⟨r,F⟩:=U.head;rw[B]at F;injection F
 have S:dW H 1 (.osl q 1 0 n)=some (bA (cA s)):=by
  have:=(show bJ H 1 (.osl q 1 0 (bA (cA s)).length) (bA (cA s))from .inr ⟨q,_,rfl,bq,a8E _,a9E⟩).view
  rwa[dN,jE,w]at this
 rw[show wa=(.seq (.seq (.region YM) (.cond (.tmp 26) .skip (.exit 2))) (.block 3 (.seq (.region YN) (.seq (.block 4 (.loop DX)) (.seq (.seq (.region DZ) (.cond (.tmp 46) .ret .skip)) (.seq (.region QN) (.seq (.region QO) (.block 6 (.loop DY)))))))))from rfl];simp only[go_sem,YM,cyF];refine AB S (by unfold roomFor;rw[dN,jE];simp only[maxLen];omega) (λh=>?_) λ_ c hc=>?_
 ·have:=congrArg List.length h;rw[dN,jE,w]at this;simp at this;omega
 rw[dN,jE,w];have η:G c=none:=by
  cases h:G c with
  |none=>rfl
  |some x=>rw[p c x h]at hc;cases hc
 have hy:=hY k hlt G c V η;rw[ρ]at hy;have ne:∀{b:Nat}{x:aU},H b=some x→¬b=c:=λhb e=>by rw[e,hc]at hb;cases hb
 refine⟨l,rfl,.inl ⟨_,G.set c (.rows 1 (bA (cA s))),_,Ev,?_,hy,?_⟩⟩
 ·intro o x K;rw[aS]at K ⊢;split at K
  ·rename_i e;rw[aG e];exact K
  ·rename_i e;rw[aD e];exact p o x K
 rintro _ H' ⟨rfl,W⟩ θ;have keep:∀{b:Nat}{x:aU},H b=some x→G b=none→H' b=none∧((H.set c (.rows 1 (bA (cA s)))).over (G.set c (.rows 1 (bA (cA s)))) H') b=some x:=λ{b}{x} hb hg=>by
  have e:=ne hb;have h':H' b=none:=by
   cases h:H' b with
   |none=>rfl
   |some y =>have:=θ b y h (by rw[aS,aD e];exact hg);rw[aS,aD e,hb]at this;cases this
  refine⟨h',?_⟩;rw[kT,h'];simp only[aS,aD e,hg,hb]
 obtain⟨k1,d1⟩:=keep b1 g1;obtain⟨k2,d2⟩:=keep b2 g2;obtain⟨kq,dq⟩:=keep bq gq;have O:H'.le ((H.set c (.rows 1 (bA (cA s)))).over (G.set c (.rows 1 (bA (cA s)))) H'):=λo x K=>by rw[kT,K]
 generalize(H.set c (.rows 1 (bA (cA s)))).over (G.set c (.rows 1 (bA (cA s)))) H'=H2 at *
 have w1:IntKind.i64.wrap ((n:Int)-1)=(n:Int)-1:=wrap_i64 Om Om;simp only[go_sem,YN,d1,w1];refine aDX (n:=n) (top:=top) (o1:=o1) (o2:=o2) (q:=q) (y:=DG l) (s:=s) w hn ht Om d1 d2 dq (by unfold cyF;exact Lq) λm hm E Z=>?_;by_cases m0:m=0
 ·subst m0;have ξ:qY top s=none:=TE λi hi=>by have:=E i hi (a8H _);omega
  have X:k+1=Z' d:=by have:=congrArg List.length (U.done ξ);rw[baG,a8J]at this;omega
  simp only[go_sem,cyF,DZ,show((0:Nat):Int)-1<0 by omega];exact bE (vs:=[]) (.inr rfl) H' rfl O ⟨H',by rw[←X];exact W,b_⟩
 ·obtain⟨j,rfl⟩:∃j,m=j+1:=⟨m-1,by omega⟩;have u:j<Z' s:=Om;have ν:(j:Int)<(n:Nat):=Om;have e0:(((j+1:Nat):Int)-1)=(j:Int):=Om;have β:=Zx (n:=top) (s:=s) j u (λi hi μ=>by have:=E i hi μ;omega) (by have:=Z (Nat.succ_pos _) u;simp only[Nat.add_sub_cancel]at this;omega);rw[w]at β;have φ:=ε s[j] (a8G u);have ι:=AX u;have κ:j<(bA (cA s)).length:=by rw[dN,jE];exact u
  have w2:IntKind.i64.wrap (((s[j]:Nat):Int)+1)=((s[j]+1:Nat):Int):=eQ Om;have γ:=aUM (s:=s) (j:=j) (y:=s[j]+1) u;simp only[go_sem,cyF,DZ,e0,show ¬(j:Int)<0 by omega,QN,dq,ι,κ,ν,a8Q,w2,qp,γ,QO,wZz j];refine aSF (n:=n) (o1:=o1) (o2:=o2) (q:=q) (j:=j) (x:=s[j]+1) (y:=DG l) (s:=s) w hn Om Om (by rw[aS,aD a1];exact d1) a1 (by rw[dK]) (by unfold cyF;exact Lq) ?_;rw[PH.set_set];have a7K:k+1<Z' d∧rV top (s.take j++baI (s[j]+1) (n-j)) (d.drop (k+1)):=by
   obtain⟨r,F,ζ⟩:=U.next β;rw[B]at F;injection F with _ F
   rw[F];refine⟨?_,ζ⟩;obtain⟨r2,ο⟩:=ζ.head;have:=congrArg List.length F;rw[ο,baG,a9O]at this;omega
  have σ:aJV J d top n o1 o2 q (k+1) (s.take j++baI (s[j]+1) (n-j)) H' (H2.set q (.rows 1 (bA (cA (s.take j++baI (s[j]+1) (n-j)))))):={
      lt:=a7K.1
      walk:=a7K.2
      len:=by simp;omega
      rng:=λx hx=>by
       have h2:=N (d[k+1]'a7K.1) (a8G _);have h3:d[k+1]'a7K.1=s.take j++baI (s[j]+1) (n-j):=by obtain⟨r,F⟩:=a7K.2.head;rw[baJ a7K.1]at F;injection F
       rw[h3]at h2;exact(h2.2.1 x hx).2
      j:=W
      le:=λo x K=>by
       have:¬o=q:=λe=>by rw[e,kq]at K;cases K
       rw[aS,aD this];exact O o x K
      g1:=k1,g2:=k2,gq:=kq
      b1:=by rw[aS,aD a1];exact d1
      b2:=by rw[aS,aD a2];exact d2
      bq:=by rw[dK] }
  simp only[go_sem,cyF];exact aJ (k+1,s.take j++baI (s[j]+1) (n-j),H',H2.set q (.rows 1 (bA (cA (s.take j++baI (s[j]+1) (n-j)))))) σ (by simp only;omega) Lq b_
def vW(f:aE)(p:cL)(xs:List Int)(i:Nat):Bool:=!(decide (fD f p i>0)&&decide (iJ f xs i>fD f p i))
theorem zU(f:aE)(p:cL)(xs:List Int):oF f p xs=(a8A f.a6R.length).all (vW f p xs):=rfl
theorem aDY(f:aE)(xs ys:List Int)(i:Nat):iJ f xs i≤iJ f (xs++ys) i:=by
 unfold iJ;rw[List.countP_append];split<;>omega
theorem aGM{f:aE}{p:cL}{xs ys:List Int}{i:Nat}(h:vW f p xs i=false):vW f p (xs++ys) i=false:=by
 have:=aDY f xs ys i;unfold vW at h ⊢;simp only[Bool.not_eq_false',a8C,decide_eq_true_eq]at h ⊢;omega
theorem Ar{f:aE}{p:cL}{xs:List Int}{i:Nat}(hi:i<Z' f.a6R)(h:vW f p xs i=false):oF f p xs=false:=by
 rw[zU];simp only[List.all_eq_false,a9M];exact⟨i,hi,by rw[h];simp⟩
theorem acK{f:aE}{p:cL}{xs ys:List Int}(h:oF f p xs=false):oF f p (xs++ys)=false:=by
 rw[zU]at h;simp only[List.all_eq_false,a9M]at h;obtain⟨i,hi,h⟩:=h;exact Ar hi (aGM (by simpa using h))
theorem ajW(f:aE)(p:cL):oF f p []=true:=by
 rw[zU];simp only[a8U,a9M];intro i _;unfold vW iJ;simp;omega
theorem aBH{f:aE}(hV:VF f){p:cL}{xs:List Int}(h:∀i,i<Z' f.a6R→0<lvl f i→vW f p xs i=true):oF f p xs=true:=by
 rw[zU];simp only[a8U,a9M];intro i hi;have d:=hV.nU hi;by_cases e:i=0
 ·unfold vW iJ;rw[aG e];simp;omega
 ·exact h i hi Om
theorem aUK{f:aE}{p:cL}{xs:List Int}(h:oF f p xs=true){i:Nat}(hi:i<Z' f.a6R):vW f p xs i=true:=by
 rw[zU]at h;exact a8U.1 h i (a9M.2 hi)
theorem aIB(p:cL)(t:List PV){n:Nat}(h:n<5):(if 1≤(List.drop n (PV.int .i64 p.s0::PV.int .i64 p.s1::PV.int .i64 p.s2::PV.int .i64 p.s3::PV.int .i64 p.s4::t)).length then some (List.take 1 (List.drop n (PV.int .i64 p.s0::PV.int .i64 p.s1::PV.int .i64 p.s2::PV.int .i64 p.s3::PV.int .i64 p.s4::t)))else none)=some [PV.int .i64 (p.spread n)]:=by
 have:n=0∨n=1∨n=2∨n=3∨n=4:=Om;rcases this with rfl|rfl|rfl|rfl|rfl<;>simp[cL.spread]
def QC(f:aE)(p:cL)(d oD:Nat)(set:List Int)(k:Nat):PF:=(((((((PF.nil.set 3 (.bM f.cells)).set 4 (.bM p.cells)).set 7 (.osl d 1 0 f.a6P.length)).set 10 (.osl oD 1 0 f.a6R.length)).set 34 (ints set)).set 35 (.int .i64 (Z' set:Nat))).set 36 (.int .i64 k))
def avS(f:aE)(p:cL)(d oD:Nat)(set:List Int)(k:Nat)(at_:Nat):PF:=((((((((PF.nil.set 3 (.bM f.cells)).set 4 (.bM p.cells)).set 7 (.osl d 1 0 f.a6P.length)).set 10 (.osl oD 1 0 f.a6R.length)).set 34 (ints set)).set 35 (.int .i64 (Z' set:Nat))).set 36 (.int .i64 k)).set 13 (.int .i64 at_))
theorem aSC{C:Ctx}{K:cD}[Up K](f:aE)(hV:VF f)(p:cL)(oA oD:Nat)(set:List Int)(k:Nat)(xs:List Int)(η:Z' xs≤16777216)(γ:oF f p xs=true)(d:Nat)(hd:d<Z' f.a6O){F:PF}{H:PH}
  (hF:(avS f p oA oD set k (dP f d)).le F) (hD:H oD=some (.rows 1 (bA (fK f xs))))
  (hR:∀F' H',F' 6=some (.bool false)→oF f p (xs++[(d:Int)])=false→K .ret F' H')
  (hK:oF f p (xs++[(d:Int)])=true→K (.exit 4) (QC f p oA oD set k) (H.set oD (.rows 1 (bA (fK f (xs++[(d:Int)])))))) :
  aC.wp C (.loop m7) K F H:=by
 refine wp_loop (α:=Nat × PH) (λt=>avS f p oA oD set k (upN f t.1 (dP f d))) (λt=>t.2) (λt=>t.1≤4∧t.2=H.set oD (.rows 1 (bA (pO f xs d t.1)))∧∀i,i<Z' f.a6R→4-(t.1:Int)<lvl f i→vW f p (xs++[(d:Int)]) i=true) (λt=>4-t.1) (0,H) ⟨a8H _,?_,?_⟩ (by rw[upN];exact hF) b_ ?_
 ·rw[Hx hV];refine PH.ext λo=>?_;show H o=(H.set oD _) o;rw[aS];split
  ·rename_i e;rw[e,hD]
  ·rfl
 ·intro i hi hl;have:=(hV.nU hi).2.1;simp only at hl;omega
 rintro⟨j,H0⟩ ⟨hj,hH,w⟩;simp only at hj hH w;subst hH;obtain⟨x,V⟩:=IK hV hd (k:=j) hj;simp only[go_sem,m7,R6,avS];by_cases hlt:j<4
 ·have β:0<upN f j (dP f d):=by
   rcases baR (upN f j (dP f d))with e|e
   ·rw[e,hV.root.2.1]at V;omega
   ·exact e
  have W:((upN f j (dP f d):Nat):Int)>0:=Om;obtain⟨b1,b2⟩:=alH hV xs hd hlt;have N:(bA (pO f xs d j))[upN f j (dP f d)]?=some [.int .i64 (iJ f xs (upN f j (dP f d)))]:=by unfold bA;rw[a8Y,b1];rfl
  have ε:=alG f xs (upN f j (dP f d));have hw:IntKind.i64.wrap (iJ f xs (upN f j (dP f d))+1)=iJ f xs (upN f j (dP f d))+1:=wrap_i64 Om Om;have y:((upN f j (dP f d):Nat):Int)<(Z' f.a6R:Nat):=Om;have Y:upN f j (dP f d)<(bA (pO f xs d j)).length:=by rw[dN,aLB];exact x
  have R:iJ f (xs++[(d:Int)]) (upN f j (dP f d))=iJ f xs (upN f j (dP f d))+1:=by rw[IX f xs d Om,dS,V,show 4-(4-(j:Int)).toNat=j by omega,aG rfl]
  have l:vW f p (xs++[(d:Int)]) (upN f j (dP f d))=!(decide (fD f p (upN f j (dP f d))>0)&&decide (iJ f xs (upN f j (dP f d))+1>fD f p (upN f j (dP f d)))):=by rw[vW,R]
  have a7K:vW f p (xs++[(d:Int)]) (upN f j (dP f d))=true→∀i,i<Z' f.a6R→4-((j+1:Nat):Int)<lvl f i→vW f p (xs++[(d:Int)]) i=true:=by
   intro h i hi hl;by_cases e:i=upN f j (dP f d)
   ·rw[e];exact h
   ·by_cases c:4-(j:Int)<lvl f i
    ·exact w i hi c
    ·have Q:lvl f i=4-(j:Int):=Om;have X:i≠0:=by intro e;subst e;rw[hV.root.2.1]at Q;omega
     have J:iJ f (xs++[(d:Int)]) i=iJ f xs i:=by rw[IX f xs d X,dS,Q,show 4-(4-(j:Int)).toNat=j by omega,aD (λh=>e h.symm)];simp
     have:=aUK γ hi;unfold vW at this ⊢;rw[J];exact this
  have O:vW f p (xs++[(d:Int)]) (upN f j (dP f d))=false→oF f p (xs++[(d:Int)])=false:=Ar x;have Z:fD f p (upN f j (dP f d))=p.spread (4-(j:Int)).toNat:=by rw[fD,V]
  rw[Z]at l;have δ:=N;have E:(bA (pO f xs d j)).set (upN f j (dP f d)) [.int .i64 (iJ f xs (upN f j (dP f d))+1)]=bA (pO f xs d (j+1)):=by rw[rQ,b2]
  have A:(bA (pO f xs d (j+1)))[upN f j (dP f d)]?=some [.int .i64 (iJ f xs (upN f j (dP f d))+1)]:=by rw[←E,List.getElem?_set_self Y]
  have S:upN f (j+1) (dP f d)=TT f (upN f j (dP f d)):=rfl;have B:=hV.ij β x;generalize ζ:upN f j (dP f d)=u at *
  generalize iJ f xs u=dc at *
  have l0:(0:Int)≤4-(j:Int):=Om;have h5:4-(j:Int)<((5:Nat):Int):=Om;simp only[go_sem,W,R7,y,a8Q,N,hw,E,R8,iY x,CS x,V,l0,h5,Nat.mul_one];rw[aIB p _ (Om:(4-(j:Int)).toNat<5)];by_cases M:p.spread (4-(j:Int)).toNat>0
  ·by_cases U:dc+1>p.spread (4-(j:Int)).toNat
   ·simp only[go_sem,QE,M,U,y,A,a8Q,R9];exact hR _ _ Sq (O (by rw[l,bN M,bN U];rfl))
   ·simp only[go_sem,QE,M,U,y,A,a8Q,na,iY x,bw x,B];exact aJ (j+1,_) ⟨hlt,rfl,a7K (by rw[l,cB U,a9S];rfl)⟩ (by simp only;omega) (by(repeat' (first|exact d_|refine c_ ?_ ?_))<;>first|(simp only[go_sem,S]<;>rfl)|rfl) b_
  ·simp only[go_sem,QE,M,na,y,a8Q,iY x,bw x,B];exact aJ (j+1,_) ⟨hlt,rfl,a7K (by rw[l,cB M];rfl)⟩ (by simp only;omega) (by(repeat' (first|exact d_|refine c_ ?_ ?_))<;>first|(simp only[go_sem,S]<;>rfl)|rfl) b_
 ·have:j=4:=Om;subst this;have h0:upN f 4 (dP f d)=0:=by have:=hV.nU x;omega
  have W:¬((upN f 4 (dP f d):Nat):Int)>0:=Om;simp only[go_sem,W];rw[Hw hV];refine Up.up ?_ (hK (aBH hV λi hi h=>w i hi (by simpa using h)));unfold QC;exact Lq
theorem aJY{f:aE}{p:cL}{set:List Int}{d:Int}(e:d∈set)(h:ON f p d=false):rX f p set=false:=by
 unfold rX;have:set.all (ON f p)=false:=by simp only[List.all_eq_false];exact⟨d,e,by rw[h];simp⟩
 rw[this];rfl
theorem aJX{f:aE}{p:cL}{set:List Int}{k:Nat}(h:oF f p (set.take k)=false):rX f p set=false:=by
 have:=acK (ys:=set.drop k) h;rw[bbC]at this;unfold rX;rw[this,a9S]
def avB(f:aE)(set:List Int):Prop:=Z' set≤16777216∧∀x∈set,0≤x∧x<(Z' f.a6O:Nat)
theorem aDJ{C:Ctx}{K:cD}[Up K](f:aE)(hV:VF f)(p:cL)(O oD:Nat)(hn:O≠oD)(set:List Int)(hs:avB f set){F:PF}{H:PH}
  (Z:(QC f p O oD set 0).le F) (N:H O=some (.rows 1 (eA (marks f.a6P.length p.a6P)))) (hD:H oD=some (.rows 1 (bA (fK f []))))
  (W:∀Q H',Q 6=some (.bool false)→rX f p set=false→K .ret Q H')
  (hK:∀Q H',rX f p set=true→K (.exit 2) Q H') :
  aC.wp C (.loop HB) K F H:=by
 obtain⟨β,V⟩:=hs;refine wp_loop (α:=Nat × PH) (λt=>QC f p O oD set t.1) (λt=>t.2) (λt=>t.1≤Z' set∧t.2 O=some (.rows 1 (eA (marks f.a6P.length p.a6P)))∧t.2 oD=some (.rows 1 (bA (fK f (set.take t.1))))∧(set.take t.1).all (ON f p)=true∧oF f p (set.take t.1)=true) (λt=>Z' set-t.1) (0,H) ⟨a8H _,N,hD,rfl,ajW f p⟩ Z b_ ?_;rintro⟨k,X⟩ ⟨hk,N,hD,i,B⟩;simp only at hk N hD i B;by_cases hlt:k<Z' set
 ·have u:(k:Int)<(Z' set:Nat):=Om;have U:(set.map λn=>[PV.int .i64 n])[k]?=some [.int .i64 set[k]]:=by simp[hlt]
  have E:set.take (k+1)=set.take k++[set[k]]:=baC hlt;have hx:=V set[k] (a8G hlt);have hm:=a8G hlt;generalize γ:set[k]=x at *
  obtain⟨d,rfl⟩:∃d:Nat,x=d:=⟨x.toNat,by omega⟩;have e:d<Z' f.a6O:=Om;have J:(d:Int)<(Z' f.a6O:Nat):=Om;obtain⟨w1,w2,w3,w4,w5⟩:=hV.drive d e;have M:((mdl f d:Nat):Int)<(Z' f.a6P:Nat):=Om;have A:(eA (marks f.a6P.length p.a6P))[mdl f d]?=some [.bool (p.a6P.contains ((mdl f d:Nat):Int))]:=by have:=xE (n:=Z' f.a6P) (l:=p.a6P) (m:=((mdl f d:Nat):Int)) Om M;rw[baA]at this;unfold eA;rw[a8Y,this];rfl
  have w:ON f p (d:Int)=p.a6P.contains ((mdl f d:Nat):Int):=by rw[ON,baA]
  cases hb:p.a6P.contains ((mdl f d:Nat):Int)with
  |false =>rw[hb]at A w;simp only[go_sem,HB,QD,QC,u,m8,U,m9,qG e,J,hV.ZP e,M,a8Q,N,A,a8P,R4];exact W _ _ Sq (aJY hm w)
  |true=>
   rw[hb]at A w;simp only[go_sem,HB,QD,QC,u,m8,U,m9,qG e,J,hV.ZP e,M,a8Q,N,A,a8I,R5,hV.gx e];have up:=λ{K:cD} [Up K] {F:PF} {H:PH}=>aSC (C:=C) (K:=K) f hV p O oD set k (set.take k) (by rw[a8S];omega) B d e (F:=F) (H:=H);refine up (by unfold avS;exact Lq) hD ?_ ?_
   ·intro Q H' Y R;simp only[go_sem];exact W _ _ Y (aJX (k:=k+1) (by rw[E];exact R))
   ·intro S;simp only[go_sem,QC,Sa,wZz k];refine aJ (k+1,X.set oD (.rows 1 (bA (fK f (set.take k++[(d:Int)]))))) ⟨hlt,?_,?_,?_,by rw[E];exact S⟩ (by simp only;omega) Lq b_
    ·simp only[aS,aD hn];exact N
    ·simp only[dK,E]
    ·rw[E];intro y hy;rcases a9T.1 hy with h|h
     ·exact a8U.1 i y h
     ·rw[baQ.1 h];exact w
 ·have u:¬(k:Int)<(Z' set:Nat):=Om;have:k=Z' set:=Om;subst this;rw[a9E]at i B;simp only[go_sem,HB,QD,QC,u];exact hK _ _ (by rw[rX,i,B];rfl)

def a0M(down:List Int)(d:Int):Bool:=decide (0≤d)&&down.contains d
def a0N(down:List Int)(d:Int):Bool:=decide (0≤d)&&!down.contains d
def a3Q(down row:List Int):Bool:=row.any (a0M down)
def aUP(down row:List Int):Nat:=row.countP (a0N down)
def aYB(f:aE)(d:Int)(down:List Int)(v:Nat)(row:List Int):Bool:=a3Q down row&&decide (((aUP down row:Nat):Int)<(nE f v).k+d)
def a0O(f:aE)(e:List (List Int))(d:Int)(down:List Int)(n:Nat):Bool:=(a8A n).all λv=>!aYB f d down v (e.getD v [])
def Ql(f:aE)(e:List (List Int))(d:Int)(down:List Int):Bool:=a0O f e d down e.length


theorem pC{t:Nat}{b d:Bool}{F:PF}{H:PH}(h:F t=some (.bool b))(e:b=d):aY [.tmp t] (aK (.bool d)) .ret F H:=by
 subst e;exact bE (.inr rfl) .nil (vs:=[.bool b]) (by rw[oM,rK,h,sY]) a_ ⟨rfl,rfl⟩
theorem aSB{C:Ctx}(f:aE)(hV:VF f)(p:cL)(hp:∀m∈p.a6P,0≤m∧m<Z' f.a6P)(l:Fits p.a6P)(set:List Int)(U:avB f set) :
  XY.wp C (aY aKE.res (aK (.bool (rX f p set)))) (PF.args [.agg f.cells,.agg p.cells,ints set]) .nil:=by
 have e:=hV.small;have w:(Z' f.a6P:Int)*((1:Nat):Int)≤140737488355328:=by have:=e.a6P;omega
 have x:(Z' f.a6P:Int)≤9223372036854775807:=by have:=e.a6P;omega
 have y:(0:Int)≤(Z' f.a6P:Int):=Om;have E:(Z' f.a6R:Int)*((8:Nat):Int)≤140737488355328:=by have:=e.a6R;omega
 have F:(Z' f.a6R:Int)≤9223372036854775807:=by have:=e.a6R;omega
 have H:(0:Int)≤(Z' f.a6R:Int):=Om;simp only[go_sem,XY,akQ,akR,aKE,a7Z,w,x,y,Int.le_refl,baA];refine aR λu V=>?_;rw[GZ];simp only[go_sem,akS,a7Z];refine wp_loop (α:=Nat) (λk=>(((((((PF.nil.set 2 (ints set)).set 3 (.bM f.cells)).set 4 (.bM p.cells)).set 7 (.osl u 1 0 f.a6P.length)).set 20 (ints p.a6P)).set 21 (.int .i64 (Z' p.a6P:Nat))).set 22 (.int .i64 k))) (λk=>PH.nil.set u (.rows 1 (eA (marks f.a6P.length (p.a6P.take k))))) (λk=>k≤Z' p.a6P) (λk=>Z' p.a6P-k) 0 (a8H _) Lq (by rw[List.take_zero];exact b_) ?_;intro k W;simp only[go_sem,akP,akT];by_cases hlt:k<Z' p.a6P
 ·have d:(k:Int)<(Z' p.a6P:Nat):=Om;have J:(p.a6P.map λn=>[PV.int .i64 n])[k]?=some [.int .i64 p.a6P[k]]:=by simp[hlt]
  obtain⟨M,N⟩:=hp _ (a8G hlt);have A:(p.a6P[k]).toNat<(eA (marks f.a6P.length (p.a6P.take k))).length:=by rw[CG,JQ];omega
  have B:(eA (marks f.a6P.length (p.a6P.take k)))[(p.a6P[k]).toNat]?=some [.bool ((p.a6P.take k).contains p.a6P[k])]:=by unfold eA;rw[a8Y,xE M N];rfl
  have O:Z' p.a6P≤9223372036854775807:=by have:=l;omega
  simp only[go_sem,d,akU,J,akV,M,N,a8Q,B,A,mO,JR M N,akW,wZz k];refine aJ (k+1) hlt Om Lq ?_;rw[baC hlt];exact b_
 ·have d:¬(k:Int)<(Z' p.a6P:Nat):=Om;have:k=Z' p.a6P:=Om;subst this;rw[a9E];simp only[go_sem,d,akX,a7Z,E,F,H,Int.le_refl,baA];refine aR λoD hD=>?_;have Q:u≠oD:=by rintro rfl;simp only[dK]at hD;cases hD
  rw[Pg];simp only[go_sem,akY,a7Z];refine aDJ (C:=C) f hV p u oD Q set U (by unfold QC;(repeat' (first|exact d_|refine c_ ?_ ?_))<;>first|(simp only[go_sem,a7Z]<;>rfl)|rfl) (by simp only[aS,aD Q,if_true]) (by rw[dK]) ?_ ?_
  ·intro R H' S i;simp only[go_sem];exact pC S i.symm
  ·intro R H' K;simp only[go_sem,Sb];exact pC Sq K.symm
theorem pd{f:aE}{a7A:Int}(h:rI f a7A=true):VF f∧0≤a7A∧a7A.toNat<Z' f.a6S∧a7A=(a7A.toNat:Nat):=by
 unfold rI at h;simp only[a8C,decide_eq_true_eq]at h;exact⟨VF.of h.1,h.2.1,by omega,by omega⟩
theorem Iw{f:aE}{a7A:Int}(h:rI f a7A=true):mY f a7A∈f.a6S∧f.a6S[a7A.toNat]?=some (mY f a7A):=by
 obtain⟨_,_,d,_⟩:=pd h;have e:mY f a7A=f.a6S[a7A.toNat]:=by simp[mY,a8V,d]
 rw[e];exact⟨a8G d,a8N d⟩
theorem aDM{C:Ctx}(val:∀f:aE,f.Ok→aH C 96 [.agg f.cells] .nil (aK (.int .i64 (xN f))))(f:aE)(i:f.Ok)(a7A:Int) :
  LF.wp C (aY Sf.res (aK (.bool (rI f a7A)))) (PF.args [.agg f.cells,.int .i64 a7A]) .nil:=by
 have e:=val f i;unfold xN at e;simp only[go_sem,LF,Gp,Gq,Sf];refine aB e Ev ?_;have d:rI f a7A=(eP f&&(decide (0≤a7A)&&decide (a7A<Z' f.a6S))):=rfl;cases hp:eP f with
 |false =>rw[hp,a8L]at d;simp only[go_sem,bO (show(1:Int)≠0 by decide)];exact pC Sq d.symm
 |true=>
  rw[hp,a8R]at d;by_cases c:a7A≥0
  ·rw[bN (Om:0≤a7A),a8R]at d;simp only[go_sem,cC (show(0:Int)=0 from rfl),c,a7Z];exact pC (b:=decide (a7A<Z' f.a6S)) Sq d.symm
  ·rw[cB (Om:¬0≤a7A),a8L]at d;simp only[go_sem,cC (show(0:Int)=0 from rfl),c,a7Z];exact pC Sq d.symm
structure aCZ(C:Ctx):Prop where
 adm:∀(f:aE)(p:cL)(set:List Int),VF f→(∀m∈p.a6P,0≤m∧m<Z' f.a6P)→Fits p.a6P→avB f set→aH C 201 [.agg f.cells,.agg p.cells,ints set] .nil (aK (.bool (rX f p set)))
 known:∀(f:aE)(a7A:Int),f.Ok→aH C 203 [.agg f.cells,.int .i64 a7A] .nil (aK (.bool (rI f a7A)))
theorem DS{m:Nat}(d:m≤1000):∀i,i≤1000→(eM m i).natAbs≤1000^i
 |0,_=>a8E _
 |i+1,h=>by have e:=DS d i Om;have hb:((m:Int)-(i:Int)).natAbs≤1000:=Om;rw[eM,Int.natAbs_tdiv,Int.natAbs_mul,baD];exact a9F (bbH _ _) (bbM e hb)
theorem DT{m:Nat}(d:m≤1000){i:Nat}(hi:i≤3):-1000000000≤eM m i∧eM m i≤1000000000:=by
 have h:=DS d i Om;have:1000^i≤1000^3:=bbU Om hi;have e:(1000:Nat)^3=1000000000:=by decide
 omega
theorem avW{C:Ctx}(m n:Nat)(p:m≤1000)(M:n≤3) :
  HC.wp C (aY Dq.res (aK (.int .i64 (max (eM m n) 0)))) (PF.args [.int .i64 m,.int .i64 n]) .nil:=by
 simp only[go_sem,HC,uj,uk,ul,Dq];refine wp_loop (α:=Nat) (λk=>((((PF.nil.set 0 (.int .i64 m)).set 1 (.int .i64 n)).set 5 (.int .i64 (eM m k))).set 6 (.int .i64 k))) (λ_=>.nil) (λk=>k≤n) (λk=>n-k) 0 (a8H _) (by(repeat' (first|exact d_|refine c_ ?_ ?_))<;>first|(simp only[go_sem,eM]<;>rfl)|rfl) a_ ?_;intro k K;simp only[go_sem,ui,um];by_cases hlt:k<n
 ·have d:(k:Int)<(n:Nat):=Om;obtain⟨b1,b2⟩:=DT p (i:=k) Om;have B:=DS p k Om;have hb:((m:Int)-(k:Int)).natAbs≤1000:=Om;have l:=bbM (a9F B (bbU Om (Om:k≤2))) hb;rw[←Int.natAbs_mul]at l;have e:(1000:Nat)^2*1000=1000000000:=by decide
  have E:IntKind.i64.wrap ((m:Int)-(k:Int))=(m:Int)-k:=wrap_i64 Om Om;have F:IntKind.i64.wrap (eM m k*((m:Int)-(k:Int)))=eM m k*((m:Int)-k):=wrap_i64 Om Om;have H:IntKind.i64.wrap ((k:Int)+1)=(k:Int)+1:=wrap_i64 Om Om;have w:¬((k:Int)+1)=0:=Om;obtain⟨y,A⟩:=DT p (i:=k+1) Om;have x:eM m (k+1)=baO (eM m k*((m:Int)-k)) ((k:Int)+1):=by rw[eM]
  rw[x]at y A;have J:IntKind.i64.wrap (baO (eM m k*((m:Int)-k)) ((k:Int)+1))=baO (eM m k*((m:Int)-k)) ((k:Int)+1):=wrap_i64 Om Om;simp only[go_sem,d,uo,E,F,H,w,J];simp only[go_sem,uq,wZz k];exact aJ (k+1) hlt Om (by(repeat' (first|exact d_|refine c_ ?_ ?_))<;>first|(simp only[go_sem,x]<;>rfl)|rfl) a_
 ·have d:¬(k:Int)<(n:Nat):=Om;have:k=n:=Om;subst this;simp only[go_sem,d,ut];have u:(if eM m k<0 then 0 else eM m k)=max (eM m k) 0:=by split<;>omega
  rw[u];refine aX (.inr rfl) Ev ?_;rfl
def Kept(f:aE)(p:cL)(xs:List Int):Prop:=∀i,i<Z' f.a6R→fD f p i>0→iJ f xs i≤fD f p i
theorem Kept.nil(f:aE)(p:cL):Kept f p []:=λi _ h=>by
 have:iJ f [] i=0:=by unfold iJ;split<;>simp
 omega
def GP(f:aE)(p:cL)(xs:List Int)(d:Nat)(k:Nat):Prop:=∀i,i<Z' f.a6R→4-(k:Int)<lvl f i→fD f p i>0→iJ f (xs++[(d:Int)]) i≤fD f p i
theorem GP.zero{f:aE}(hV:VF f){p:cL}(xs:List Int)(d:Nat):GP f p xs d 0:=λi hi h _=>by
 have:=hV.nU hi;omega
theorem GP.done{f:aE}(hV:VF f){p:cL}(u:fD f p 0≤0){xs:List Int}{d:Nat}(h:GP f p xs d 4):Kept f p (xs++[(d:Int)]):=λi hi l=>by
 have:=hV.nU hi;by_cases e:i=0
 ·subst e;omega
 ·exact h i hi Om l
theorem GP.next{f:aE}(hV:VF f){p:cL}{xs:List Int}{d k:Nat}(y:d<Z' f.a6O)(A:k<4)(w:Kept f p xs)(h:GP f p xs d k)(x:fD f p (upN f k (dP f d))>0→iJ f (xs++[(d:Int)]) (upN f k (dP f d))≤fD f p (upN f k (dP f d))):GP f p xs d (k+1):=λi hi B u=>by
 by_cases e:4-(k:Int)<lvl f i
 ·exact h i hi e u
 have l:lvl f i=4-(k:Int):=Om;by_cases c:i=upN f k (dP f d)
 ·subst c;exact x u
 have:iJ f (xs++[(d:Int)]) i=iJ f xs i:=by
  unfold iJ;split
  ·rfl
  ·rw[List.countP_append,List.countP_cons,List.countP_nil];have:JM f i (d:Int)=false:=by unfold JM dS;rw[l,show(4-(4-(k:Int)).toNat)=k by omega,baA];simp[show ¬upN f k (dP f d)=i from λh=>c h.symm]
   rw[this];simp
 rw[this];exact w i hi u
theorem aEI{q:Nat→Bool}{n:Nat}:∀{i:Nat},i<n→q i=true→((a8A n).filter q)[(a8A i).countP q]?=some i:=by
 intro i hi d;have e:a8A n=a8A i++(i::baI (i+1) (n-i-1)):=by rw[List.range_eq_range',List.range_eq_range',show i::baI (i+1) (n-i-1)=baI i (n-i-1+1)from rfl];have:=List.range'_append (s:=0) (m:=i) (n:=n-i-1+1) (step:=1);rw[Nat.one_mul,a8Q]at this;rw[this];congr 1;omega
 rw[e,List.filter_append,List.filter_cons_of_pos d,List.countP_eq_length_filter,baP (a8E _),baV];rfl
def InR(l:List Int)(n:Nat):Prop:=∀x∈l,0≤x∧x<(n:Int)
def fi(f:aE)(d:List (List Int))(r:Int)(l:List Int):Bool:=!l.isEmpty&&Ql f d r l
def aOP(f:aE)(p:List (List Int))(r:Int)(e:List (List Int))(d:Nat):List (List Int):=match e.findIdx? (λl=>Ql f p r (l++[(d:Int)]))with
 |some i=>e.set i (e.getD i []++[(d:Int)])
 |none=>e++[[(d:Int)]]
def By(f:aE)(e:List (List Int))(r:Int):Nat→List (List Int)
 |0=>[]
 |d+1=>aOP f e r (By f e r d) d
def aDF(f:aE)(e:List (List Int))(r:Int):Bool:=(a8A f.a6O.length).all λd=>Ql f e r [(d:Int)]
theorem set_perm:∀(d:List (List Int)) (i:Nat) (x:Int),i<Z' d→((d.set i (d.getD i []++[x])).flatten).Perm (d.flatten++[x])
 |[],i,x,h=>by cases h
 |l::d,0,x,_=>by simp only[bbW,List.getD_cons_zero,List.flatten_cons,a9G];exact List.Perm.append_left _ List.perm_append_comm
 |l::d,i+1,x,h=>by have:=set_perm d i x (by simpa using h);simp only[List.set_cons_succ,List.getD_cons_succ,List.flatten_cons,a9G];exact List.Perm.append_left _ this
structure Rt(f:aE)(now:List (List Int))(r:Int)(n:Nat)(w:List (List Int)):Prop where
 ok:∀l∈w,fi f now r l=true
 len:Z' w.flatten=n
 nd:w.flatten.Nodup
 rng:InR w.flatten n
theorem Rt.put{f:aE}{d:List (List Int)}{r:Int}{n:Nat}{w:List (List Int)}(h:Rt f d r n w)(y:Ql f d r [(n:Int)]=true):Rt f d r (n+1) (aOP f d r w n):=by
 have p:∀u:List (List Int),u.flatten.Perm (w.flatten++[(n:Int)])→(∀l∈u,fi f d r l=true)→Rt f d r (n+1) u:=λu hp A=>by
  refine⟨A,by rw[hp.length_eq,a8F,h.len];rfl,hp.nodup_iff.2 ?_,λx B=>?_⟩
  ·rw[bbA];refine⟨h.nd,by simp,λa y b hb=>?_⟩;rw[baQ]at hb;subst hb;have:=h.rng a y;omega
  ·have:=hp.mem_iff.1 B;rw[a9T,baQ]at this;rcases this with B|rfl
   ·have:=h.rng x B;omega
   ·omega
 unfold aOP;split
 ·rename_i i hi;obtain⟨hlt,hp,-⟩:=List.findIdx?_eq_some_iff_getElem.1 hi;refine p _ (set_perm w i n hlt) λl e=>?_;rcases bcE e with e|rfl
  ·exact h.ok l e
  ·unfold fi;rw[a8V,a8N hlt,bbE,hp];simp
 ·refine p _ (by rw[List.flatten_append];simp) λl e=>?_;rw[a9T,baQ]at e;rcases e with e|rfl
  ·exact h.ok l e
  ·unfold fi;rw[y];rfl
theorem O8{f:aE}{e:List (List Int)}{r:Int}(i:aDF f e r=true):∀d,d≤Z' f.a6O→Rt f e r d (By f e r d)
 |0,_=>⟨(λl h=>by cases h),rfl,.nil,λx h=>by cases h⟩
 |d+1,p=>(O8 i d Om).put (a8U.1 i d (a9M.2 Om))
end Go.PM
namespace Go.RO
open Go
def ins(x:Int):List Int→List Int
 |[]=>[x]
 |y::ys=>if y<x then y::ins x ys else if y=x then y::ys else x::y::ys
end Go.RO
namespace Go.PM
open Go Go.Na






def aRL(c:UInt8)(n:Nat):List UInt8:=[c,UInt8.ofNat (97+n/26%26),UInt8.ofNat (97+n%26)]
def S9(ds:List cX)(level parent a7I:Nat):List cX:=ds++[⟨aRL 110 ds.length,(level:Nat),(parent:Nat),(a7I:Nat),mV⟩]
theorem aNO(a b:Nat)(i:a<4294967296)(hb:b<4294967296):(mkT (a:Int) (b:Int)).Ok:=by
 rw[aoH];have d:=bbH a (a8B a b);have e:=bbH b (a8B a b);have k1:nl (a/a8B a b)≤1:=(lS _ _).2 Om;have k2:nl (b/a8B a b)≤1:=(lS _ _).2 Om;refine⟨bB _,bB _,?_,?_⟩
 ·show(aM _).length≤_;rw[bG];omega
 ·show(aM _).length≤_;rw[bG];omega
theorem Wl{n:Nat}(h:n≤1000000):eH (n:Int):=by unfold eH;omega
def Q8(ds:List cX):Prop:=∀x∈ds,x.a7D.Ok∧eH x.level∧eH x.parent
theorem Q8.dom{ds:List cX}(h:Q8 ds){level parent a7I:Nat}(e:level≤1000)(i:parent≤1000):Q8 (S9 ds level parent a7I):=λx d=>by
 unfold S9 at d;rw[a9T,baQ]at d;rcases d with d|rfl
 ·exact h x d
 ·exact⟨aNO 0 1 aV aV,Wl Om,Wl Om⟩
structure FM(f:aE):Prop where
 ok:f.Ok
 km:∀p∈f.a6S,1≤p.k∧p.k≤2∧0≤p.m∧p.m≤2
 a6O:Z' f.a6O≤9
 pols:1≤Z' f.a6S∧Z' f.a6S≤2
 vols:∀x∈f.a6Q,0≤x.a7A∧x.a7A<Z' f.a6S
theorem FM.pol{f:aE}(h:FM f){v:Nat}(e:v<Z' f.a6Q):DQ f v<Z' f.a6S∧nE f v∈f.a6S:=by
 have i:=h.vols _ (a8G e);have l:DQ f v=(f.a6Q[v]).a7A.toNat:=by rw[DQ,getD_at e]
 have d:DQ f v<Z' f.a6S:=Om;refine⟨d,?_⟩;unfold nE;rw[a8V,a8N d,bbE];exact a8G d
theorem FM.aLO{f:aE}(h:FM f){v:Nat}(d:v<Z' f.a6Q):1≤wQ f v∧wQ f v≤4:=by
 have:=h.km _ (h.pol d).2;unfold wQ;omega
abbrev a0V(l:List Int)(a:Nat):aU:=.rows 2 [[ints l,.int .i64 (a:Nat)]]
section
variable {C:Ctx} {F:PF} {H Hs:PH} {l:List Int} {o a:Nat}
end
structure ME where
 o:Nat
 o4:Nat
 o5:Nat
 vols:Nat
abbrev ME.boxes(E:ME)(l:List Int)(ext d e i p wp wv:PV)(a:Nat):List BX:=[(E.o5,flB ext d e i p wp wv),(E.o,a0V l a),(E.o4,flZ)]





def a2U(ds:List cX)(i:Nat)(d:cX):Prop:=∃e p u:Nat,d.name=aRL 110 (i+1)∧d.level=e∧1≤e∧e≤4∧d.parent=p∧p≤i∧(lvs ds)[p]?=some ((e:Int)-1)∧d.a7I=u∧1≤u∧u≤64∧d.a7D=mV
structure DV(ds:List cX):Prop where
 root:ds[0]?=some qP
 dom:∀i (hi:i+1<Z' ds),a2U ds i ds[i+1]
theorem DV.new{ds:List cX}(h:DV ds){level parent up:Nat}(x:1≤level)(y:level≤4)(hp:(lvs ds)[parent]?=some ((level:Int)-1))(B:1≤up)(E:up≤64) :
  DV (S9 ds level parent up)∧(lvs (S9 ds level parent up))[Z' ds]?=some (level:Int):=by
 have A:parent<Z' ds:=by
  have:=(a9I.1 hp).1
  rwa[a7Z]at this
 unfold S9;refine⟨⟨by rw[baW Om];exact h.root,λi hi=>?_⟩,?_⟩
 ·simp only[a8F,a8J]at hi;by_cases hlt:i+1<Z' ds
  ·rw[List.getElem_append_left hlt];obtain⟨d,p,v,g1,g2,g3,g4,e,l,u,w⟩:=h.dom i hlt;exact⟨d,p,v,g1,g2,g3,g4,e,l,GI u,w⟩
  ·have:i+1=Z' ds:=Om;rw[bcF Om];simp only[List.getElem_singleton];exact⟨level,parent,up,by rw[this],rfl,x,y,rfl,by omega,GI hp,rfl,B,E,rfl⟩
 ·unfold lvs;rw[a8Z,baP (by rw[a7Z];exact a8E _),a7Z,baV];rfl




theorem aT.store{H:PH}{B:List BX}{L:List LI}(h:aT H B L)(i:Nat){q s n:Nat}{rows:List (List PV)}(hi:L[i]?=some (.osl q s 0 n,s,rows))(k:Nat)(c:List PV) :
  ∃rs,H q=some (.rows s rs)∧n≤Z' rs∧rs.take n=rows∧aT (H.set q (.rows s (rs.set k c))) B (L.set i (.osl q s 0 n,s,rows.set k c)):=by
 obtain⟨rs,l,u,d,e⟩:=(h.own i hi).id rfl;injection u with _ _ _ w
 subst w;refine⟨rs,l,d,e,h.UX i hi (.inr ⟨q,rs.set k c,by rw[a9R],by rw[dK],by rw[a9R,a9R];exact d,by rw[a9R,List.take_set,e]⟩) (λp hp=>.inl hp) λp _ hp=>?_⟩;have:p≠q:=hp q rfl;rw[aS,aD this]

open Go Go.RowKit Go.Sort Go.Shelf Go.Proofs
section
variable {E:Env} {H:PH} {w:World}
end
section
variable {C:Ctx} {ρ:Ren} {name:Nat}
end
abbrev lists(d:List (List Int)):PV:=.sl 1 (d.map λw=>[ints w])
abbrev WPs:=List (PV × List Int)
def eI(ps:WPs):List (List PV):=ps.map λp=>[p.1]
def rH(ps:WPs):List LI:=ps.map λp=>(p.1,1,bA p.2)
def wls(ps:WPs):List (List Int):=ps.map (·.2)
def eZ(d:PV)(ps:WPs):List LI:=(d,1,eI ps)::rH ps
section
variable {H:PH} {B:List BX}
theorem pF(ps:WPs):(eI ps).length=Z' ps:=a7Z _
theorem D6{ps:WPs}{i:Nat}{v:PV}{w:List Int}(hi:ps[i]?=some (v,w)):(rH ps)[i]?=some (v,1,bA w):=by
 unfold rH;rw[a8Y,hi];rfl
theorem aaW{ps:WPs}{i:Nat}{v:PV}{w:List Int}(hi:ps[i]?=some (v,w)):(eI ps)[i]?=some [v]:=by
 unfold eI;rw[a8Y,hi];rfl
theorem aT.ES(h:aT H B []):aT H B (eZ .aF []):=h.sE 1
theorem aT.inner{d:PV}{ps:WPs}(h:aT H B (eZ d ps)){i:Nat}{v:PV}{w:List Int}(hi:ps[i]?=some (v,w)):bJ H 1 v (bA w):=h.own (i+1) (D6 hi)
theorem aT.outer{d:PV}{ps:WPs}(h:aT H B (eZ d ps)):bJ H 1 d (eI ps):=h.own 0 rfl
theorem HP(a b:List Int):bA (a++b)=bA a++bA b:=a8Z
theorem aT.a0U{u:PV}{ps:WPs}(h:aT H B (eZ u ps)){i b:Nat}{v y:PV}{w src:List Int}{K:PV→PH→Prop}(hi:ps[i]?=some (v,w))(F:dW H 1 y=some (bA src))(A:roomFor w.length src.length b)(l:src≠[])
  (x:∀q H',aT H' B ((u,1,eI ps)::(rH ps).set i (.osl q 1 0 (w++src).length,1,bA (w++src)))→K (.osl q 1 0 (w++src).length) H'):oP H 1 b v y K:=by
 have d:bA src≠[]:=λe=>l (List.map_eq_nil_iff.1 e);refine h.append (i+1) (D6 hi) F (by rw[dN,dN];exact A) λv' H' p E=>?_;obtain⟨q,rfl⟩:=E d;rw[←HP,dN]at p ⊢;exact x q H' p
theorem aT.aYC{d n i:Nat}{ps:WPs}{v':PV}{l:List Int}(h:aT H B ((.osl d 1 0 n,1,eI ps)::(rH ps).set i (v',1,bA l))) :
  ∃rs,H d=some (.rows 1 rs)∧n≤Z' rs∧rs.take n=eI ps∧aT (H.set d (.rows 1 (rs.set i [v']))) B (eZ (.osl d 1 0 n) (ps.set i (v',l))):=by
 obtain⟨rs,p,u,w,x⟩:=h.store 0 rfl i [v'];refine⟨rs,p,u,w,?_⟩;have e:eZ (.osl d 1 0 n) (ps.set i (v',l))=((.osl d 1 0 n,1,eI ps)::(rH ps).set i (v',1,bA l)).set 0 (.osl d 1 0 n,1,(eI ps).set i [v']):=by unfold eZ eI rH;rw[List.map_set,List.map_set];rfl
 rw[e];exact x
theorem aT.aTY{d:PV}{ps:WPs}{b:Nat}{y:PV}{K:PV→PH→Prop}(h:aT H B (eZ d ps))(x:dW H 1 y=some [[.aF]])(u:roomFor ps.length 1 b)
  (p:∀q H',aT H' B (eZ (.osl q 1 0 (Z' ps+1)) (ps++[(.aF,[])]))→K (.osl q 1 0 (Z' ps+1)) H'):oP H 1 b d y K:=by
 refine h.append 0 (src:=[[.aF]]) rfl x (by rw[pF];exact u) λv' H' l w=>?_;obtain⟨q,rfl⟩:=w bD;have i:=l.sE 1;rw[a8F,pF]at i ⊢;refine p q H' ?_;have e:eZ (.osl q 1 0 (Z' ps+1)) (ps++[(.aF,[])])=(((d,1,eI ps)::rH ps).set 0 (.osl q 1 0 (Z' ps+1),1,eI ps++[[.aF]]))++[(.aF,1,[])]:=by unfold eZ eI rH;rw[a8Z,a8Z];rfl
 rw[e];exact i
def tL(d:List (List PV))(e:List (List Int)):Prop:=Z' d=Z' e∧∀(i:Nat) r w,d[i]?=some r→e[i]?=some w→r=[ints w]∨(r=[.aF]∧w=[])
theorem tL.nil:tL [] []:=⟨rfl,λi r w h=>by cases h⟩
theorem tL.snoc{l:List (List PV)}{p:List (List Int)}{u:PV}{w:List Int}(h:tL l p)(y:u=ints w∨(u=.aF∧w=[])):tL (l++[[u]]) (p++[w]):=by
 refine⟨by simp[h.1],λi r x d e=>?_⟩;rcases Nat.lt_trichotomy i l.length with c|c|c
 ·rw[baW c]at d;rw[baW (by rw[←h.1];exact c)]at e;exact h.2 i r x d e
 ·subst c;rw[baP (a8E _),baV]at d;rw[h.1,baP (a8E _),baV]at e;cases d;cases e;rcases y with rfl|⟨rfl,rfl⟩
  ·exact .inl rfl
  ·exact .inr ⟨rfl,rfl⟩
 ·rw[baP Om,a9N (by simp;omega)]at d;cases d
theorem tL.flat{e:List (List PV)}{u:List (List Int)}(h:tL e u):Flat e:=Flat.of λr p c d q s rs=>by
 obtain⟨i,hi⟩:=List.mem_iff_getElem?.1 p;have l:=(a9I.1 hi).1;rcases h.2 i r _ hi (a8N (by rw[←h.1];exact l))with rfl|⟨rfl,-⟩
 ·rw[baQ]at d;subst d;rfl
 ·rw[baQ]at d;subst d;rfl
theorem tL.co{y:List (List PV)}{x:List (List Int)}(h:tL y x):Co (.sl 1 y) (lists x):=by
 have u:∀(i:Nat) r t,y[i]?=some r→(x.map λw=>[ints w])[i]?=some t→∃w,t=[ints w]∧(r=[ints w]∨(r=[.aF]∧w=[])):=λi r t e d=>by
  rw[a8Y]at d;cases E:x[i]? with
  |none=>rw[E]at d;cases d
  |some w =>rw[E]at d;cases d;exact⟨w,rfl,h.2 i r w e E⟩
 refine .sl (by rw[a7Z,h.1]) (λi r t e d=>?_) (λi j p q hp l=>?_)
 ·obtain⟨w,rfl,A|⟨A,-⟩⟩:=u i r t e d<;>subst A<;>rfl
 ·unfold at2 at hp l;cases e:y[i]? with
  |none=>rw[e]at hp;cases hp
  |some r=>
   cases d:(x.map λw=>[ints w])[i]? with
   |none=>rw[d]at l;cases l
   |some t=>
    rw[e]at hp;rw[d]at l;obtain⟨w,rfl,A⟩:=u i r t e d;rcases A with rfl|⟨rfl,rfl⟩
    ·have:some p=some q:=hp.symm.trans l;cases this;exact .refl _
    ·cases j with
     |zero=>cases hp;cases l;exact .nil 1
     |succ j=>cases hp
end
def Fx(u:PV):Prop:=∀q s rs,PV.frz q s rs u=u
theorem Fx.int(k:IntKind)(n:Int):Fx (.int k n):=λ_ _ _=>rfl
theorem Fx.bool(b:Bool):Fx (.bool b):=λ_ _ _=>rfl
theorem Fx.sl(n:Nat)(r:List (List PV)):Fx (.sl n r):=λ_ _ _=>rfl
theorem Fx.aF:Fx .aF:=λ_ _ _=>rfl
theorem Fx.ptr(q z i c:Nat):Fx (.ptr q z i c):=λ_ _ _=>rfl
theorem Fx.bM(c:List PV):Fx (.bM c):=λ_ _ _=>rfl
theorem bJ.dZ{H:PH}{s:Nat}{v:PV}{rows:List (List PV)}(h:bJ H s v rows)(q z:Nat)(rs:List (List PV)):PV.frz q z rs v=PV.dZ q z rs v:=by
 rcases h with⟨-,rfl⟩|⟨p,rs',rfl,-⟩<;>rfl
def agG(φ:PV→PV)(F:PF):PF:=λi=>(F i).map φ
theorem PQ(φ:PV→PV)(F:PF)(i:Nat):agG φ F i=(F i).map φ:=rfl
theorem TD:∀(ps:WPs){H:PH}{B:List BX}{y:PV}(l:List (List PV)) (d:List (List Int)),tL l d→aT H B ((y,1,l++eI ps)::rH ps)→(∀b∈B,∀q s rs,aU.frz q s rs b.2=b.2) →
  ∃(φ:PV→PV)(A:PH),Co (φ y) (lists (d++wls ps))∧(∀u,Fx u→φ u=u)∧(∀e:Int,φ (.tup [y,.int .i64 e])=.tup [φ y,.int .i64 e])∧aT A B []∧(∀F:PF,kC F H (agG φ F) A)∧∀o,(H o=none∨y.oid=some o∨∃p∈ps,p.1.oid=some o)→A o=none
 |[],H,B,y,l,d,J,h,hB=>by
  have M:l++eI []=l:=a9W l;have e1:d++wls []=d:=a9W d;rw[M]at h;rw[e1];rcases h.own 0 rfl with⟨Q,rfl⟩|⟨q,rs,rfl,_⟩
  ·refine⟨id,H,?_,λ_ _=>rfl,λ_=>rfl,h.axP 0,λF=>?_,λo ho=>?_⟩
   ·subst Q;have:d=[]:=List.length_eq_zero_iff.1 J.1.symm;subst this;exact .nil 1
   ·have:agG id F=F:=funext λi=>by rw[PQ];simp
    rw[this];exact .refl _ _
   ·rcases ho with ho|ho|⟨p,hp,-⟩
    ·exact ho
    ·cases ho
    ·cases hp
  ·obtain⟨rs,W,X,Y,Z,K⟩:=h.frz 0 rfl;refine⟨PV.frz q 1 rs,H.frz q 1 rs,?_,λu N=>N _ _ _,λe=>?_,?_,λF=>.step q W (.refl _ _),λo ho=>?_⟩
   ·rw[Y];exact J.co
   ·show PV.tup [PV.dZ q 1 rs (.osl q 1 0 l.length),.int .i64 e]=_;rw[X,Y]
   ·have O:(B.map λb=>(b.1,b.2.frz q 1 rs))=B:=by
     conv=>rhs;rw[←List.map_id B]
     refine baZ λb hb=>?_;rw[hB b hb q 1 rs];rfl
    rw[O]at K;exact K
   ·rw[GF];rcases ho with ho|ho|⟨p,hp,-⟩
    ·rw[ho];split<;>rfl
    ·have:q=o:=by injection ho
     rw[aG this.symm]
    ·cases hp
 |(v,w)::ps,H,B,y,l,d,J,h,hB=>by
  have eo:∀u:PV,l++[[u]]++eI ps=l++[u]::eI ps:=λu=>by rw[a9G];rfl
  have ew:d++[w]++wls ps=d++wls ((v,w)::ps):=by rw[a9G];rfl
  have ho:bJ H 1 v (bA w):=h.own 1 rfl;rcases ho with⟨Q,rfl⟩|⟨q,rs,rfl,_⟩
  ·have hw:w=[]:=List.map_eq_nil_iff.1 Q;have h2:=h.axP 1;obtain⟨φ,A,k1,k2,R,S,U,V⟩:=TD ps (l++[[.aF]]) (d++[w]) (J.snoc (.inr ⟨rfl,hw⟩)) (by rw[eo];exact h2) hB;rw[ew]at k1;refine⟨φ,A,k1,k2,R,S,U,λo ho=>V o ?_⟩;rcases ho with ho|ho|⟨p,hp,ho⟩
   ·exact .inl ho
   ·exact .inr (.inl ho)
   ·rcases a8M.1 hp with rfl|hp
    ·cases ho
    ·exact .inr (.inr ⟨p,hp,ho⟩)
  ·obtain⟨rs,W,X,Y,Z,K⟩:=h.frz 1 rfl;have O:(B.map λb=>(b.1,b.2.frz q 1 rs))=B:=by
    conv=>rhs;rw[←List.map_id B]
    refine baZ λb hb=>?_;rw[hB b hb q 1 rs];rfl
   have y0:PV.dZ q 1 rs y=y:=Z 0 _ aV rfl;have E:PV.frz q 1 rs y=y:=((h.own 0 rfl).dZ q 1 rs).trans y0;have yp:∀p∈ps,PV.dZ q 1 rs p.1=p.1:=λp hp=>by obtain⟨j,hj⟩:=List.mem_iff_getElem?.1 hp;exact Z (j+2) (p.1,1,bA p.2) Om (D6 hj)
   have er:(l++eI ((.osl q 1 0 (bA w).length,w)::ps)).map (λr=>r.map (PV.dZ q 1 rs))=l++[[ints w]]++eI ps:=by
    rw[a8Z,J.flat,a9G];congr 1;show[PV.dZ q 1 rs (.osl q 1 0 (bA w).length)]::(eI ps).map _=_;rw[X];have:(eI ps).map (λr=>r.map (PV.dZ q 1 rs))=eI ps:=by unfold eI;rw[bbG];refine baZ λp hp=>?_;show[PV.dZ q 1 rs p.1]=_;rw[yp p hp]
    rw[this];rfl
   have ei:(rH ps).map (λx=>(x.1,x.2.1,x.2.2.map λr=>r.map (PV.dZ q 1 rs)))=rH ps:=by unfold rH;rw[bbG];refine baZ λp _=>?_;show(p.1,1,(bA p.2).map λr=>r.map (PV.dZ q 1 rs))=_;rw[show(bA p.2).map (λr=>r.map (PV.dZ q 1 rs))=bA p.2 from Flat.map p.2 (λx c hc q s rs=>by rw[baQ]at hc;subst hc;rfl) q 1 rs]
   have z6:aT (H.frz q 1 rs) B ((y,1,l++[[ints w]]++eI ps)::rH ps):=by rw[O]at K;have z7:aT (H.frz q 1 rs) B ((y,1,(l++eI ((.osl q 1 0 (bA w).length,w)::ps)).map (λr=>r.map (PV.dZ q 1 rs)))::(rH ps).map (λx=>(x.1,x.2.1,x.2.2.map λr=>r.map (PV.dZ q 1 rs)))):=K;rw[er,ei]at z7;exact z7
   obtain⟨φ,A,k1,k2,R,S,U,V⟩:=TD ps (l++[[ints w]]) (d++[w]) (J.snoc (.inl rfl)) z6 hB;rw[ew]at k1;refine⟨λu=>φ (PV.frz q 1 rs u),A,?_,λu N=>?_,λe=>?_,S,λF=>.step q W ?_,λo ho=>V o ?_⟩
   ·simp only;rw[E];exact k1
   ·simp only;rw[N,k2 u N]
   ·simp only;rw[E];have yt:PV.frz q 1 rs (.tup [y,.int .i64 e])=.tup [PV.frz q 1 rs y,.int .i64 e]:=by rcases h.own 0 rfl with⟨-,M⟩|⟨p,rs',M,-⟩<;>(subst M;rfl)
    rw[yt,E,R]
   ·have:agG (λu=>φ (PV.frz q 1 rs u)) F=agG φ (F.frz q 1 rs):=funext λi=>by rw[PQ,PQ,wD,Option.map_map];rfl
    rw[this];exact U _
   ·rw[GF];rcases ho with ho|ho|⟨p,hp,ho⟩
    ·left;rw[ho];split<;>rfl
    ·exact .inr (.inl ho)
    ·rcases a8M.1 hp with rfl|hp
     ·have:q=o:=by injection ho
      left;rw[aG this.symm]
     ·exact .inr (.inr ⟨p,hp,ho⟩)
theorem xZ{res:List eN}{F:PF}{H:PH}{d:PV}{ps:WPs}{c:Int}{e:mZ}(u:e=.normal∨e=.ret)(h:eN.evs F H res=some [d,.int .i64 c])(l:aT H [] (eZ d ps)):aY res (cN (.tup [lists (wls ps),.int .i64 c])) e F H:=by
 obtain⟨φ,y,k1,-,w,-,x,-⟩:=TD ps [] [] .nil l (λb hb=>by cases hb);refine PK u h ⟨_,_,.nil,x _,a_,φ (bR [d,.int .i64 c]),?_,?_⟩
 ·rw[PQ,oS,aG rfl];rfl
 ·show cN _ (φ (.tup [d,.int .i64 c])) .nil;rw[w];refine⟨.tup rfl λj p q hp i=>?_,rfl⟩
  match j with
  |0=>cases hp;cases i;exact k1
  |1=>cases hp;cases i;exact .refl _
  |j+2=>cases hp
theorem bJ.lenOf{H:PH}{v:PV}{rows:List (List PV)}{s:Nat}(h:bJ H s v rows):PV.tB v=some (.int .i64 (Z' rows:Nat)):=by
 rcases h with⟨rfl,rfl⟩|⟨q,rs,rfl,-⟩<;>rfl
theorem aT.aXH{H:PH}{B:List BX}{l:PV}{ps:WPs}(h:aT H B (eZ l ps)){i:Nat}(hi:i<Z' ps) :
  ∃e rs,l=.osl e 1 0 ps.length∧H e=some (.rows 1 rs)∧rs[i]?=some [ps[i].1]∧i<Z' rs:=by
 rcases h.outer with⟨d,-⟩|⟨q,rs,rfl,d,h2,h3⟩
 ·have:(eI ps).length=0:=by rw[d];rfl
  rw[pF]at this;omega
 ·rw[pF]at h2 h3;refine⟨q,rs,by rw[pF],d,?_,by omega⟩;have:=aaW (ps:=ps) (i:=i) (v:=ps[i].1) (w:=ps[i].2) (by rw[a8N hi]);rw[←h3,List.getElem?_take_of_lt hi]at this;exact this
theorem aT.aUF{H:PH}{B:List BX}{d:PV}{ps:WPs}(h:aT H B (eZ d ps)):PV.tB d=some (.int .i64 (Z' ps:Nat)):=by
 have:=h.outer.lenOf
 rwa[pF]at this
theorem BJ(ps:WPs):(wls ps).length=Z' ps:=a7Z _
theorem UE{res:List eN}{F:PF}{H:PH}{d:PV}{ps:WPs}{e:mZ}(l:e=.normal∨e=.ret)(h:eN.evs F H res=some [d])(i:aT H [] (eZ d ps)):aY res (cN (lists (wls ps))) e F H:=by
 obtain⟨φ,u,k1,-,-,-,p,-⟩:=TD ps [] [] .nil i (λb hb=>by cases hb);refine PK l h ⟨_,_,.nil,p _,a_,φ (bR [d]),?_,?_⟩
 ·rw[PQ,oS,aG rfl];rfl
 ·exact⟨k1,rfl⟩
def RY(f:aE)(lv:Int)(i:Nat):Bool:=decide (lvl f i=lv)
def IY(f:aE)(lv:Int):List Nat:=(a8A f.a6R.length).filter (RY f lv)
def fM(f:aE)(lv:Int)(i:Nat):Nat:=(a8A i).countP (RY f lv)
def iV(f:aE)(lv:Int)(k:Nat):List Int:=(a8A f.a6R.length).map λi=>if i<k∧lvl f i=lv then((fM f lv i:Nat):Int)else 0
def rG(f:aE)(lv:Int)(d i:Nat):List Nat:=(a8A d).filter λe=>decide (dS f e lv=i)
def sR(f:aE)(lv:Int)(d:Nat):List (List Int):=(IY f lv).map λi=>cA (rG f lv d i)
theorem sk(f:aE){lv:Int}(h:lv≠5):jY f lv=sR f lv f.a6O.length:=by
 unfold jY;rw[aD h];rfl
theorem Oa(f:aE):jY f 5=(a8A f.a6O.length).map λ(d:Nat)=>[(d:Int)]:=by
 unfold jY;rw[aG rfl]
theorem aAQ(f:aE)(lv:Int)(k:Nat):(iV f lv k).length=Z' f.a6R:=by unfold iV;simp
theorem ajR(f:aE)(lv:Int):iV f lv 0=a8D f.a6R.length 0:=by
 unfold iV;refine baX bD λi d e=>?_;simp
theorem Ko{f:aE}{lv:Int}{k i:Nat}(hi:i<Z' f.a6R):(iV f lv k)[i]?=some (if i<k∧lvl f i=lv then((fM f lv i:Nat):Int)else 0):=by
 unfold iV;rw[a8Y,List.getElem?_range hi];rfl
theorem aAP{f:aE}{lv:Int}{k:Nat}(h:lvl f k=lv):(iV f lv k).set k ((fM f lv k:Nat):Int)=iV f lv (k+1):=by
 refine baX (by simp[iV]) λi d l=>?_;simp only[iV,List.getElem_set,a9Q,List.getElem_range];by_cases e:k=i
 ·subst e;rw[aG rfl,aG ⟨by omega,h⟩]
 ·rw[aD e];have:i<k↔i<k+1:=Om;simp only[this]
theorem ajQ{f:aE}{lv:Int}{k:Nat}(h:lvl f k≠lv):iV f lv k=iV f lv (k+1):=by
 refine baX (by simp[iV]) λi d l=>?_;simp only[iV,a9Q,List.getElem_range];by_cases e:k=i
 ·subst e;rw[aD Om,aD (λx=>h x.2)]
 ·have:i<k↔i<k+1:=Om;simp only[this]
theorem aBZ{f:aE}{lv:Int}{k:Nat}(h:lvl f k=lv):fM f lv (k+1)=fM f lv k+1:=by
 unfold fM RY;rw[bbT,List.countP_append];simp[h]
theorem akC{f:aE}{lv:Int}{k:Nat}(h:lvl f k≠lv):fM f lv (k+1)=fM f lv k:=by
 unfold fM RY;rw[bbT,List.countP_append];simp[h]
theorem aIP(f:aE)(lv:Int)(k:Nat):fM f lv k≤k:=a9F List.countP_le_length bD
theorem asW{f:aE}{lv:Int}{a:Nat}(d:a<Z' f.a6R)(h:lvl f a=lv):(IY f lv)[fM f lv a]?=some a:=aEI (q:=RY f lv) d (by rw[RY,bN h])
theorem ajB(f:aE)(lv:Int)(d i:Nat):rG f lv (d+1) i=if dS f d lv=i then rG f lv d i++[d]else rG f lv d i:=by
 unfold rG;rw[bbT,List.filter_append];by_cases h:dS f d lv=i<;>simp[h]
theorem xn(f:aE)(lv:Int)(d i:Nat):(rG f lv d i).length≤d:=a9F (List.length_filter_le ..) bD
theorem aLC(f:aE)(lv:Int):(IY f lv).Nodup:=List.nodup_range.filter _
theorem aQC{f:aE}{lv:Int}{d:Nat}(B:dS f d lv<Z' f.a6R)(h:lvl f (dS f d lv)=lv){ps:WPs}(hp:wls ps=sR f lv d){v:PV}{w:List Int}(hi:ps[fM f lv (dS f d lv)]?=some (v,w))(v':PV) :
  w.length≤d∧wls (ps.set (fM f lv (dS f d lv)) (v',w++[(d:Int)]))=sR f lv (d+1):=by
 have p:=asW B h;have x:w=cA (rG f lv d (dS f d lv)):=by
  have l:(wls ps)[fM f lv (dS f d lv)]?=some w:=by unfold wls;rw[a8Y,hi];rfl
  rw[hp,sR,a8Y,p]at l;injection l with l
  exact l.symm
 refine⟨by rw[x];unfold cA;rw[a7Z];exact xn ..,?_⟩;have u:wls (ps.set (fM f lv (dS f d lv)) (v',w++[(d:Int)]))=(sR f lv d).set (fM f lv (dS f d lv)) (w++[(d:Int)]):=by rw[←hp];unfold wls;rw[List.map_set]
 rw[u,x];unfold sR;refine baX bD λi l u=>?_;have il:i<(IY f lv).length:=by simpa using u
 rw[List.getElem_set];simp only[a9Q];rw[ajB];obtain⟨E,y⟩:=a9I.1 p;by_cases e:fM f lv (dS f d lv)=i
 ·subst e;rw[aG rfl,y,aG rfl];unfold cA;rw[a8Z];rfl
 ·rw[aD e,aD];intro e2;have A:(IY f lv)[fM f lv (dS f d lv)]=(IY f lv)[i]:=y.trans e2;exact e ((List.getElem_inj (aLC f lv)).1 A)
def EW(n:Nat):List (List PV):=(a8A n).map λ(d:Nat)=>[ints [(d:Int)]]
theorem Ky(n:Nat):(EW n).length=n:=by unfold EW;simp
theorem zy(n:Nat):EW (n+1)=EW n++[[ints [(n:Int)]]]:=by unfold EW;rw[bbT,a8Z];rfl
theorem N9(f:aE):lay (jY f 5)=.sl 1 (EW f.a6O.length):=by
 rw[Oa];unfold EW;show PV.sl 1 (List.map _ (List.map _ _))=_;rw[bbG];rfl
theorem akB(f:aE)(lv:Int):sR f lv 0=a8D (fM f lv f.a6R.length) []:=by
 unfold sR fM;rw[List.countP_eq_length_filter];refine baX (by simp[IY]) λi d e=>?_;simp[rG,cA]
theorem Be(f:aE)(lv:Int)(d:Nat):(sR f lv d).length=(IY f lv).length:=by unfold sR;simp
def unB(f:aE)(lv:Int)(d:Nat)(e:PV)(k:Nat):PF:=(((((((PF.nil.set 1 (.int .i64 lv)).set 2 (.bM f.cells)).set 5 (e)).set 7 (.osl d 1 0 f.a6R.length)).set 33 (.sl 7 (f.a6R.map cX.cells))).set 34 (.int .i64 (Z' f.a6R:Nat))).set 35 (.int .i64 k))
def unC(f:aE)(lv:Int)(e:Nat)(i:PV)(d:Nat):PF:=(((((((PF.nil.set 1 (.int .i64 lv)).set 2 (.bM f.cells)).set 5 (i)).set 7 (.osl e 1 0 f.a6R.length)).set 54 (.sl 3 (f.a6O.map eO.cells))).set 55 (.int .i64 (Z' f.a6O:Nat))).set 56 (.int .i64 d))
def unE(f:aE)(lv:Int)(e:Nat)(i:PV)(d at_:Nat):PF:=(((((((((PF.nil.set 1 (.int .i64 lv)).set 2 (.bM f.cells)).set 5 (i)).set 7 (.osl e 1 0 f.a6R.length)).set 54 (.sl 3 (f.a6O.map eO.cells))).set 55 (.int .i64 (Z' f.a6O:Nat))).set 56 (.int .i64 d)).set 10 (.int .i64 d)).set 12 (.int .i64 at_))
theorem aDW{C:Ctx}{K:cD}[Up K](f:aE)(hV:VF f)(lv:Int)(N:1≤lv)(O:lv≤4)(y:Nat)(B:PV)(d:Nat)(M:d<Z' f.a6O){F:PF}{H:PH}
  (J:(unE f lv y B d (dP f d)).le F) (E:K (.exit 6) (unE f lv y B d (dS f d lv)) H):aC.wp C (.loop DW) K F H:=by
 refine wp_loop (α:=Nat) (λj=>unE f lv y B d (upN f j (dP f d))) (λ_=>H) (λj=>(j:Int)≤4-lv) (λj=>4-j) 0 Om (by rw[upN];exact J) b_ ?_;intro j Q;obtain⟨l,A⟩:=IK hV M (k:=j) Om;have p:((upN f j (dP f d):Nat):Int)<(Z' f.a6R:Nat):=Om;by_cases c:(j:Int)<4-lv
 ·have i:4-(j:Int)>lv:=Om;have w:0<upN f j (dP f d):=by
   rcases baR (upN f j (dP f d))with e|e
   ·rw[e,hV.root.2.1]at A;omega
   ·exact e
  have x:upN f (j+1) (dP f d)=TT f (upN f j (dP f d)):=rfl;have u:=hV.ij w l;simp only[go_sem,DW,QL,unE,p,iY l,CS l,A,i,vu,bw l,u];exact aJ (j+1) Om Om (by(repeat' (first|exact d_|refine c_ ?_ ?_))<;>first|(simp only[go_sem,x]<;>rfl)|rfl) b_
 ·have i:¬4-(j:Int)>lv:=Om;have e:dS f d lv=upN f j (dP f d):=by rw[dS,show 4-lv.toNat=j by omega]
  rw[e]at E;simp only[go_sem,DW,QL,unE,p,iY l,CS l,A,i];refine Up.up ?_ E;unfold unE;exact Lq
theorem aDV{C:Ctx}(f:aE)(hV:VF f)(lv:Int)(h1:1≤lv)(h5:lv≤5) :
  LJ.wp C (aY S1.res (cN (lay (jY f lv)))) (PF.args [.agg f.cells,.int .i64 lv]) .nil:=by
 have Z:=hV.small;have hd:=Z.a6O;have μ:=Z.a6R;simp only[go_sem,LJ,He,Hf,Hg,S1];by_cases c5:lv=5
 ·subst c5;rw[N9];simp only[go_sem,cC (show(5:Int)=5 from rfl),Hh,a7Z];refine wp_loop (α:=Nat × PV × PH) (λs=>(((PF.nil.set 5 (s.2.1)).set 17 (.int .i64 (Z' f.a6O:Nat))).set 18 (.int .i64 s.1))) (λs=>s.2.2) (λs=>s.1≤Z' f.a6O∧bJ s.2.2 1 s.2.1 (EW s.1)) (λs=>Z' f.a6O-s.1) (0,.aF,.nil) ⟨a8H _,.nil⟩ Lq b_ ?_;rintro⟨k,v,H⟩ ⟨hk,hO⟩;simp only at hk hO;simp only[go_sem,Hd,Hi];by_cases hlt:k<Z' f.a6O
  ·have e:(k:Int)<(Z' f.a6O:Nat):=Om;simp only[go_sem,e,Hj,Hk];refine jD (src:=[[ints [(k:Int)]]]) hO (by simp only[go_sem];rfl) (by unfold roomFor;rw[Ky];simp only[a8J,maxLen];omega) λv' H' V _=>?_;rw[←zy]at V;simp only[go_sem,Hl,wZz k];exact aJ (k+1,v',H') ⟨hlt,V⟩ (by simp only;omega) Lq b_
  ·have e:¬(k:Int)<(Z' f.a6O:Nat):=Om;have:k=Z' f.a6O:=Om;subst this;simp only[go_sem,e,Hm];exact oZ (.inr rfl) hO Sq
 have h4:lv≤4:=Om;rw[sk f c5];have δ:(Z' f.a6R:Int)*((8:Nat):Int)≤140737488355328:=Om;have ε:(Z' f.a6R:Int)≤9223372036854775807:=Om;have ζ:(0:Int)≤(Z' f.a6R:Int):=Om;simp only[go_sem,bO c5,vf,a7Z,δ,ε,ζ,Int.le_refl,baA];refine aR λA hP=>?_;have ez:a8D f.a6R.length [PV.int .i64 0]=bA (iV f lv 0):=by rw[ajR,wF]
 rw[ez];have U:aT (PH.nil.set A (.rows 1 (bA (iV f lv 0)))) [(A,.rows 1 (bA (iV f lv 0)))] (eZ .aF []):=((aT.nil (H:=PH.nil)).new hP _).ES;simp only[go_sem,vh,a7Z];refine wp_loop (α:=Nat × PV × WPs × PH) (λs=>unB f lv A s.2.1 s.1) (λs=>s.2.2.2) (λs=>s.1≤Z' f.a6R∧wls s.2.2.1=a8D (fM f lv s.1) []∧aT s.2.2.2 [(A,.rows 1 (bA (iV f lv s.1)))] (eZ s.2.1 s.2.2.1)) (λs=>Z' f.a6R-s.1) (0,.aF,[],_) ⟨a8H _,rfl,U⟩ (by unfold unB;exact Lq) b_ ?_;clear U ez hP;rintro⟨i,vo,ps,H⟩ ⟨hi,l,p⟩;simp only at hi l p;simp only[go_sem,vd,vi,unB];by_cases hlt:i<Z' f.a6R
 ·have e:(i:Int)<(Z' f.a6R:Nat):=Om;have ι:Z' ps=fM f lv i:=by have:=congrArg List.length l;rw[BJ,List.length_replicate]at this;exact this
  have Q:=aIP f lv i;simp only[go_sem,e,vj,iY hlt];refine aR λq R=>?_;have E:=p.at 0 rfl;have n1:¬A=q:=by rintro rfl;rw[E]at R;cases R
  have M:=λx=>p.new R x;simp only[go_sem,vk,CS hlt];by_cases c:lvl f i=lv
  ·have X:=p.aUF;have B:=Ko (f:=f) (lv:=lv) (k:=i) hlt;have y:(bA (iV f lv i))[i]?=some [.int .i64 (if i<i∧lvl f i=lv then((fM f lv i:Nat):Int)else 0)]:=by unfold bA;rw[a8Y,B];rfl
   have θ:i<(bA (iV f lv i)).length:=by rw[dN,aAQ];exact hlt
   have S:(bA (iV f lv i)).set i [.int .i64 (Z' ps:Nat)]=bA (iV f lv (i+1)):=by rw[rQ,ι,aAP c]
   have h3:=λx=>(M x).set 0 rfl (.rows 1 (bA (iV f lv (i+1))));simp only[go_sem,cC c,vm,X,e,n1,E,y,θ,a8Q,S,vn];refine(h3 _).aTY Sq (by unfold roomFor;simp only[maxLen];omega) λq2 H2 h4=>?_;simp only[go_sem,QK,wZz i];refine aJ (i+1,PV.osl q2 1 0 (Z' ps+1),ps++[(PV.aF,[])],H2) ⟨hlt,?_,h4.BK 1⟩ (by simp only;omega) Lq b_;simp only;rw[aBZ c,List.replicate_succ'];unfold wls at l ⊢;rw[a8Z,l];rfl
  ·have S:iV f lv i=iV f lv (i+1):=ajQ c;simp only[go_sem,bO c,QK,wZz i];refine aJ (i+1,vo,ps,_) ⟨hlt,?_,?_⟩ (by simp only;omega) Lq b_
   ·simp only;rw[akC c];exact l
   ·simp only;rw[←S];exact(M _).BK 1
 have e:¬(i:Int)<(Z' f.a6R:Nat):=Om;have:i=Z' f.a6R:=Om;subst this;rw[←akB]at l;simp only[go_sem,e,vp,a7Z];refine wp_loop (α:=Nat × PV × WPs × PH) (λs=>unC f lv A s.2.1 s.1) (λs=>s.2.2.2) (λs=>s.1≤Z' f.a6O∧wls s.2.2.1=sR f lv s.1∧aT s.2.2.2 [(A,.rows 1 (bA (iV f lv f.a6R.length)))] (eZ s.2.1 s.2.2.1)) (λs=>Z' f.a6O-s.1) (0,vo,ps,H) ⟨a8H _,l,p⟩ (by unfold unC;exact Lq) b_ ?_;clear l p hi hlt e;rintro⟨d,vo,ps,H⟩ ⟨η,l,p⟩;simp only at η l p;simp only[go_sem,ve,vq,unC];by_cases hlt:d<Z' f.a6O
 ·have e:(d:Int)<(Z' f.a6O:Nat):=Om;simp only[go_sem,e,vr,qG hlt];refine aR λq R=>?_;have E:=p.at 0 rfl;have n1:¬A=q:=by rintro rfl;rw[E]at R;cases R
  have M:=λx=>(p.new R x).BK 1;simp only[go_sem,vt,hV.gx hlt];generalize hx:aU.rows 3 _=x;have M:=M x;have N:=M.at 0 rfl;generalize H.set q x=H1 at *
  have up:=λ{K:cD} [Up K] {F:PF} {H:PH}=>aDW (C:=C) (K:=K) f hV lv h1 h4 A vo d hlt (F:=F) (H:=H);refine up (by unfold unE;exact Lq) ?_;obtain⟨a1,a2⟩:=IK hV hlt (k:=4-lv.toNat) Om;have a3:lvl f (dS f d lv)=lv:=by rw[dS,a2];omega
  have a1:dS f d lv<Z' f.a6R:=a1;have γ:((dS f d lv:Nat):Int)<(Z' f.a6R:Nat):=Om;have B:=Ko (f:=f) (lv:=lv) (k:=Z' f.a6R) a1;rw[aG ⟨a1,a3⟩]at B;have y:(bA (iV f lv f.a6R.length))[dS f d lv]?=some [.int .i64 (fM f lv (dS f d lv):Nat)]:=by unfold bA;rw[a8Y,B];rfl
  have J:fM f lv (dS f d lv)<Z' ps:=by have:=(a9I.1 (asW a1 a3)).1;rw[←BJ,l,Be];exact this
  have O:=λv'=>aQC (ps:=ps) a1 a3 l (a8N J) v';have Q:ps[fM f lv (dS f d lv)]?=some (ps[fM f lv (dS f d lv)].1,ps[fM f lv (dS f d lv)].2):=by rw[a8N J]
  have ν:ps[fM f lv (dS f d lv)]=(ps[fM f lv (dS f d lv)].1,ps[fM f lv (dS f d lv)].2):=rfl;obtain⟨qo,rs,rfl,b1,b2,b3⟩:=M.aXH J;generalize ps[fM f lv (dS f d lv)].2=w at *
  generalize ps[fM f lv (dS f d lv)].1=v at *
  generalize fM f lv (dS f d lv)=u at *
  have β:(u:Int)<(Z' ps:Nat):=Om;have ξ:=(O .aF).1;simp only[go_sem,unE];refine cP (PH.nil.set A (.rows 1 (bA (iV f lv f.a6R.length)))) fT (e_ a_ N) ?_;simp only[go_sem,vw,γ,N,y,a8Q,β,b1,b2,b3];refine M.a0U (src:=[(d:Int)]) Q (by simp only[go_sem];rfl) (by unfold roomFor;simp only[a8J,maxLen];omega) bD λq2 H2 h5=>?_;have Y:=h5.at 0 rfl;refine⟨e_ a_ Y,?_⟩;obtain⟨rs2,e1,e2,e3,h6⟩:=h5.aYC;have κ:u<Z' rs2:=Om;have W:rs2[u]?=some [v]:=by have:=aaW Q;rw[←e3,List.getElem?_take_of_lt J]at this;exact this
  refine cP .nil fT a_ ?_;simp only[go_sem,vz,e1,κ,W,v6,wZz d];refine⟨a_,?_⟩;refine aJ (d+1,PV.osl qo 1 0 ps.length,ps.set u (PV.osl q2 1 0 (w++[(d:Int)]).length,w++[(d:Int)]),H2.set qo (.rows 1 (rs2.set u [.osl q2 1 0 (w++[(d:Int)]).length]))) ⟨hlt,(O _).2,h6⟩ (by simp only;omega) Lq (by simp only;exact b_)
 ·have e:¬(d:Int)<(Z' f.a6O:Nat):=Om;have:d=Z' f.a6O:=Om;subst this;simp only[go_sem,e,v8];rw[←l];exact UE (.inr rfl) Sq (p.BK 0)
def Sr:List aW:=[
 ⟨(some 2),.box true (.tmp 0),none⟩,
 ⟨(some 3),.box true (.tmp 1),none⟩,
 ⟨(some 4),.mv (.const .aF),none⟩]
def Ss:List aW:=[
 ⟨(some 5),.alloc [.aF],none⟩]
def St:List aW:=[
 ⟨(some 7),.a7R 1 (.tmp 3),none⟩,
 ⟨(some 8),.load none (.tmp 7),none⟩,
 ⟨(some 9),.a7R 2 (.tmp 3),none⟩,
 ⟨(some 10),.load none (.tmp 9),none⟩,
 ⟨(some 11),.bin .add (.tmp 8) (.tmp 10),none⟩,
 ⟨(some 12),.a7R 4 (.tmp 2),none⟩,
 ⟨(some 13),.load none (.tmp 12),none⟩,
 ⟨(some 14),.len (.tmp 13),none⟩,
 ⟨(some 15),.call 210 [(.tmp 11),(.tmp 14)],none⟩]
def Su:List aW:=[
 ⟨(some 6),.mv (.tmp 16),none⟩]
def Sv:List aW:=[
 ⟨(some 17),.load (some 7) (.tmp 2),none⟩,
 ⟨(some 18),.load (some 17) (.tmp 3),none⟩,
 ⟨(some 19),.mv (.tmp 6),none⟩,
 ⟨(some 20),.call 201 [(.tmp 17),(.tmp 18),(.tmp 19)],none⟩]
def Sw:List aW:=[
 ⟨(some 21),.load none (.tmp 5),none⟩,
 ⟨(some 22),.mv (.tmp 6),none⟩,
 ⟨(some 23),.a6U true 1 1 [.aF] [(0,(.tmp 22))],none⟩,
 ⟨(some 24),.append 1 24 (.tmp 21) (.tmp 23),none⟩,
 ⟨none,.store 1 (.tmp 5) (.tmp 24),none⟩]
def Sx:List aW:=[
 ⟨(some 25),.load none (.tmp 5),none⟩,
 ⟨(some 4),.mv (.tmp 25),none⟩]
def G7:aC:=(.region Su)
def G8:aC:=(.block 1 (.seq (.region Sv) (.cond (.tmp 20) (.region Sw) .skip)))
def va:aC:=(.seq (.region Sx) .ret)
def QI(d e:Code):uL:=(.seq (.region Sr) (.seq (.region Ss) (.seq (.region St) (.range (.tmp 15) 26 16 d e G7 G8 va))))
def aKU:List Nat:=[2,3,23]
def awG(d e:Code):GQ:=⟨2,26,QI d e,[.tmp 4]⟩
def Si:List aW:=[
 ⟨(some 2),.box true (.tmp 0),none⟩,
 ⟨(some 3),.box true (.tmp 1),none⟩,
 ⟨(some 4),.mv (.const .aF),none⟩,
 ⟨(some 5),.mv (.const (.int .i64 0)),none⟩]
def Sj:List aW:=[
 ⟨(some 17),.load (some 7) (.tmp 2),none⟩,
 ⟨(some 18),.call 96 [(.tmp 17)],none⟩,
 ⟨(some 19),.bin .neq (.tmp 18) (.const (.int .i64 0)),none⟩,
 ⟨(some 20),.mv (.tmp 19),none⟩,
 ⟨(some 21),.a7R 0 (.tmp 3),(some (20,false))⟩,
 ⟨(some 22),.load none (.tmp 21),(some (20,false))⟩,
 ⟨(some 23),.bin .lss (.tmp 22) (.const (.int .i64 1)),(some (20,false))⟩,
 ⟨(some 24),.pick (.tmp 20) (.const (.bool true)) (.tmp 23),none⟩,
 ⟨(some 25),.mv (.tmp 24),none⟩,
 ⟨(some 26),.a7R 0 (.tmp 3),(some (25,false))⟩,
 ⟨(some 27),.load none (.tmp 26),(some (25,false))⟩,
 ⟨(some 28),.bin .gtr (.tmp 27) (.const (.int .i64 5)),(some (25,false))⟩,
 ⟨(some 29),.pick (.tmp 25) (.const (.bool true)) (.tmp 28),none⟩,
 ⟨(some 30),.mv (.tmp 29),none⟩,
 ⟨(some 31),.a7R 1 (.tmp 3),(some (30,false))⟩,
 ⟨(some 32),.load none (.tmp 31),(some (30,false))⟩,
 ⟨(some 33),.bin .lss (.tmp 32) (.const (.int .i64 1)),(some (30,false))⟩,
 ⟨(some 34),.pick (.tmp 30) (.const (.bool true)) (.tmp 33),none⟩,
 ⟨(some 35),.mv (.tmp 34),none⟩,
 ⟨(some 36),.a7R 1 (.tmp 3),(some (35,false))⟩,
 ⟨(some 37),.load none (.tmp 36),(some (35,false))⟩,
 ⟨(some 38),.bin .gtr (.tmp 37) (.const (.int .i64 3)),(some (35,false))⟩,
 ⟨(some 39),.pick (.tmp 35) (.const (.bool true)) (.tmp 38),none⟩]
def AL:List aW:=[
 ⟨(some 4),.mv (.const .aF),none⟩,
 ⟨(some 5),.mv (.const (.int .i64 1)),none⟩]
def Sk:List aW:=[
 ⟨(some 40),.load (some 7) (.tmp 2),none⟩,
 ⟨(some 41),.a7R 0 (.tmp 3),none⟩,
 ⟨(some 42),.load none (.tmp 41),none⟩,
 ⟨(some 43),.call 206 [(.tmp 40),(.tmp 42)],none⟩,
 ⟨(some 6),.alloc [.aF],none⟩,
 ⟨none,.store 1 (.tmp 6) (.tmp 43),none⟩]
def Sl:List aW:=[
 ⟨(some 44),.a7R 4 (.tmp 2),none⟩,
 ⟨(some 45),.load none (.tmp 44),none⟩,
 ⟨(some 46),.len (.tmp 45),none⟩,
 ⟨(some 47),.bin .gtr (.tmp 46) (.const (.int .i64 12)),none⟩,
 ⟨(some 48),.mv (.tmp 47),none⟩,
 ⟨(some 49),.load none (.tmp 6),(some (48,false))⟩,
 ⟨(some 50),.len (.tmp 49),(some (48,false))⟩,
 ⟨(some 51),.a7R 1 (.tmp 3),(some (48,false))⟩,
 ⟨(some 52),.load none (.tmp 51),(some (48,false))⟩,
 ⟨(some 53),.call 207 [(.tmp 50),(.tmp 52)],(some (48,false))⟩,
 ⟨(some 54),.bin .gtr (.tmp 53) (.const (.int .i64 512)),(some (48,false))⟩,
 ⟨(some 55),.pick (.tmp 48) (.const (.bool true)) (.tmp 54),none⟩]
def nc:List aW:=[
 ⟨(some 4),.mv (.const .aF),none⟩,
 ⟨(some 5),.mv (.const (.int .i64 2)),none⟩]
def Sm:List aW:=[
 ⟨(some 7),.alloc [.aF],none⟩]
def Sn:List aW:=[
 ⟨(some 56),.a7R 1 (.tmp 3),none⟩,
 ⟨(some 57),.load none (.tmp 56),none⟩,
 ⟨(some 58),.load none (.tmp 6),none⟩,
 ⟨(some 59),.len (.tmp 58),none⟩,
 ⟨(some 60),.call 210 [(.tmp 57),(.tmp 59)],none⟩]
def So:List aW:=[
 ⟨(some 8),.mv (.tmp 61),none⟩]
def Sp:List aW:=[
 ⟨(some 62),.a7R 4 (.tmp 2),none⟩,
 ⟨(some 63),.load none (.tmp 62),none⟩,
 ⟨(some 64),.len (.tmp 63),none⟩,
 ⟨(some 65),.a6W 1 1 [(.bool false)] (.tmp 64) (.tmp 64),none⟩,
 ⟨(some 9),.mv (.tmp 65),none⟩]
def Gs:List aW:=[
 ⟨(some 66),.mv (.tmp 8),none⟩,
 ⟨(some 67),.len (.tmp 66),none⟩,
 ⟨(some 68),.mv (.const (.int .i64 0)),none⟩]
def Gt:List aW:=[
 ⟨(some 69),.bin .lss (.tmp 68) (.tmp 67),none⟩]
def Gu:List aW:=[
 ⟨(some 70),.a7F 1 (.tmp 66) (.tmp 68),none⟩,
 ⟨(some 71),.load none (.tmp 70),none⟩,
 ⟨(some 11),.mv (.tmp 71),none⟩]
def Gv:List aW:=[
 ⟨(some 72),.load none (.tmp 6),none⟩,
 ⟨(some 73),.mv (.tmp 11),none⟩,
 ⟨(some 74),.a7F 1 (.tmp 72) (.tmp 73),none⟩,
 ⟨(some 75),.load none (.tmp 74),none⟩,
 ⟨(some 76),.len (.tmp 75),none⟩,
 ⟨(some 77),.mv (.const (.int .i64 0)),none⟩]
def Gw:List aW:=[
 ⟨(some 78),.bin .lss (.tmp 77) (.tmp 76),none⟩]
def Gx:List aW:=[
 ⟨(some 79),.a7F 1 (.tmp 75) (.tmp 77),none⟩,
 ⟨(some 80),.load none (.tmp 79),none⟩,
 ⟨(some 13),.mv (.tmp 80),none⟩]
def Gy:List aW:=[
 ⟨(some 81),.mv (.tmp 9),none⟩,
 ⟨(some 82),.mv (.tmp 13),none⟩,
 ⟨(some 83),.a7F 1 (.tmp 81) (.tmp 82),none⟩,
 ⟨none,.store 1 (.tmp 83) (.const (.bool true)),none⟩]
def Gz:List aW:=[
 ⟨(some 84),.bin .add (.tmp 77) (.const (.int .i64 1)),none⟩,
 ⟨(some 77),.mv (.tmp 84),none⟩]
def YE:aC:=(.seq (.region Gw) (.seq (.cond (.tmp 78) .skip (.exit 4)) (.seq (.block 5 (.seq (.region Gx) (.region Gy))) (.region Gz))))
def G1:List aW:=[
 ⟨(some 85),.bin .add (.tmp 68) (.const (.int .i64 1)),none⟩,
 ⟨(some 68),.mv (.tmp 85),none⟩]
def YF:aC:=(.seq (.region Gt) (.seq (.cond (.tmp 69) .skip (.exit 2)) (.seq (.block 3 (.seq (.region Gu) (.seq (.region Gv) (.block 4 (.loop YE))))) (.region G1))))
def G2:List aW:=[
 ⟨(some 14),.mv (.const .aF),none⟩]
def G3:List aW:=[
 ⟨(some 86),.mv (.tmp 9),none⟩,
 ⟨(some 87),.len (.tmp 86),none⟩,
 ⟨(some 88),.mv (.const (.int .i64 0)),none⟩]
def G4:List aW:=[
 ⟨(some 89),.bin .lss (.tmp 88) (.tmp 87),none⟩]
def YH:List aW:=[
 ⟨(some 90),.mv (.tmp 88),none⟩,
 ⟨(some 91),.a7F 1 (.tmp 86) (.tmp 88),none⟩,
 ⟨(some 92),.load none (.tmp 91),none⟩,
 ⟨(some 15),.mv (.tmp 90),none⟩,
 ⟨(some 16),.mv (.tmp 92),none⟩]
def YI:List aW:=[
 ⟨(some 93),.mv (.tmp 16),none⟩]
def G5:List aW:=[
 ⟨(some 94),.mv (.tmp 14),none⟩,
 ⟨(some 95),.mv (.tmp 15),none⟩,
 ⟨(some 96),.a6U true 1 1 [(.int .i64 0)] [(0,(.tmp 95))],none⟩,
 ⟨(some 97),.append 1 8 (.tmp 94) (.tmp 96),none⟩,
 ⟨(some 14),.mv (.tmp 97),none⟩]
def YJ:List aW:=[
 ⟨(some 98),.bin .add (.tmp 88) (.const (.int .i64 1)),none⟩,
 ⟨(some 88),.mv (.tmp 98),none⟩]
def YG:aC:=(.seq (.region G4) (.seq (.cond (.tmp 89) .skip (.exit 6)) (.seq (.block 7 (.seq (.region YH) (.seq (.region YI) (.cond (.tmp 93) (.region G5) .skip)))) (.region YJ))))
def YK:List aW:=[
 ⟨(some 99),.load none (.tmp 7),none⟩,
 ⟨(some 100),.mv (.tmp 14),none⟩,
 ⟨(some 101),.a6U true 1 1 [.aF] [(0,(.tmp 100))],none⟩,
 ⟨(some 102),.append 1 24 (.tmp 99) (.tmp 101),none⟩,
 ⟨none,.store 1 (.tmp 7) (.tmp 102),none⟩]
def G6:List aW:=[
 ⟨(some 103),.load none (.tmp 7),none⟩,
 ⟨(some 4),.mv (.tmp 103),none⟩,
 ⟨(some 5),.mv (.const (.int .i64 0)),none⟩]
def YC:aC:=(.region So)
def YD:aC:=(.block 1 (.seq (.region Sp) (.seq (.seq (.region Gs) (.block 2 (.loop YF))) (.seq (.region G2) (.seq (.seq (.region G3) (.block 6 (.loop YG))) (.region YK))))))
def u9:aC:=(.seq (.region G6) .ret)
def QH(d e:Code):uL:=(.seq (.region Si) (.seq (.seq (.region Sj) (.cond (.tmp 39) (.seq (.region AL) .ret) .skip)) (.seq (.region Sk) (.seq (.seq (.region Sl) (.cond (.tmp 55) (.seq (.region nc) .ret) .skip)) (.seq (.region Sm) (.seq (.region Sn) (.range (.tmp 60) 104 61 d e YC YD u9)))))))
def aKS:List Nat:=[2,3,96,101]
def awF(d e:Code):GQ:=⟨2,104,QH d e,[.tmp 4,.tmp 5]⟩
theorem aFG{C:Ctx}{H:PH}{name:Nat}{pre:List PV}{v u:PV}{l:List Int}(w:Plain u)(hp:∀x∈pre,Fx x)(p:bJ H 1 v (bA l))(d:l≠[])(h:aH C name (pre++[ints l]) .nil (aK u)) :
  ∃q,v=.osl q 1 0 l.length∧(∃x,H q=some x)∧aH C name (pre++[v]) (H.only [q]) (λr H'=>r=u∧H'=H.only [q]):=by
 rcases p with⟨i,-⟩|⟨q,rs,rfl,h1,h2,h3⟩
 ·exact absurd (List.map_eq_nil_iff.1 i) d
 ·rw[dN]at h2 h3 ⊢;refine⟨q,rfl,⟨_,h1⟩,?_⟩;rw[ri h1];refine aH.aMW w ?_;have e:pre.map (PV.frz q 1 rs)=pre:=by
   conv=>rhs;rw[←List.map_id pre]
   exact baZ λx y=>hp x y q 1 rs
  rw[a8Z,e,a9D,baB,AP h2,h3];exact h
theorem GH{α:Type}(L:List α)(x:α)(n:Nat)(h:Z' L=n):(L++[x])[n]?=some x:=by
 subst h;simp
theorem JU(d:PV)(ps:WPs):(eZ d ps).length=Z' ps+1:=by unfold eZ rH;simp
structure aWO(f:aE)(now:List (List Int))(r:Int)(d:Nat)(ps:WPs):Prop where
 eq:wls ps=By f now r d
 num:Z' ps≤d
 len:∀i (h:i<Z' ps),1≤(ps[i].2).length∧(ps[i].2).length≤d
theorem aWO.of{f:aE}{e:List (List Int)}{r:Int}(y:aDF f e r=true){d:Nat}(A:d≤Z' f.a6O){ps:WPs}(h:wls ps=By f e r d):aWO f e r d ps:=by
 have k:=O8 y d A;rw[←h]at k;have p:∀i (h:i<Z' ps),ps[i].2∈wls ps:=λi hi=>a9B.2 ⟨ps[i],a8G hi,rfl⟩;have ne:∀l∈wls ps,1≤Z' l:=λl B=>by
  have:=k.ok l B;unfold fi at this;cases l with
  |nil=>cases this
  |cons x xs=>rw[a9O];omega
 refine⟨h,?_,λi hi=>⟨ne _ (p i hi),?_⟩⟩
 ·have u:(wls ps).length≤(wls ps).flatten.length:=by
   generalize wls ps=w at ne
   induction w with
   |nil=>exact a8E _
   |cons l w F =>have:=F λx E=>ne x (List.mem_cons_of_mem _ E);have:=ne l bD;rw[List.flatten_cons,a8F,a9O];omega
  rw[BJ,k.len]at u;exact u
 ·have:=(List.sublist_flatten_of_mem (p i hi)).length_le;rw[k.len]at this;exact this
def aWN(n top:Int)(r:PV)(H':PH):Prop:=∃o1 o2,o1≠o2∧r=.fn 211 [.ptr o1 1 0 0,.ptr o2 1 0 0]∧H'=(PH.nil.set o1 (.rows 1 [[.int .i64 n]])).set o2 (.rows 1 [[.int .i64 top]])
theorem aKV{C:Ctx}(n top:Int):QJ.wp C (aY axM.res (aWN n top)) (PF.args [.int .i64 n,.int .i64 top]) .nil:=by
 simp only[go_sem,QJ,Sz,axM];refine aR λo1 i=>?_;simp only[go_sem];refine aR λo2 d=>?_;have e:o1≠o2:=by rintro rfl;simp only[dK]at d;cases d
 simp only[go_sem,S0];exact bE (.inr rfl) _ (vs:=[.fn 211 [.ptr o1 1 0 0,.ptr o2 1 0 0]]) Sq b_ ⟨o1,o2,e,rfl,rfl⟩
structure th(C:Ctx):Prop extends aCZ C where
 subs:∀n top:Int,aH C 210 [.int .i64 n,.int .i64 top] .nil (aWN n top)
 iter:∀(l o1 o2 n top:Nat)(J:Nat→PH→Prop)(ss:List (List Nat)),ss=dU top n 0→1≤n→n≤1000→top≤1000 →
  (∀k (hk:k<Z' ss) G c,J k G→G c=none→OM C l [.osl c 1 0 n] (G.set c (.rows 1 (bA (cA ss[k])))) (λr H'=>r=.bool true∧J (k+1) H')) →
  ∀G0 H:PH,J 0 G0→G0.le H→H o1=some (.rows 1 [[.int .i64 n]])→H o2=some (.rows 1 [[.int .i64 top]])→G0 o1=none→G0 o2=none→aH C 211 [DG l,.ptr o1 1 0 0,.ptr o2 1 0 0] H (λ_ H'=>∃G,J ss.length G∧G.le H')
theorem xo{C:Ctx}(Lb:th C){F:PF}{H:PH}{n m t o1 o2 top:Nat}{d i:Code}{Q R:aC}{B:List (List Nat)}(Y:B=dU top n 0)(h1:1≤n)(hn:n≤1000)(ht:top≤1000)(α:o1≠o2)
  (I:Nat→PH→Prop) (w:PH) (hI:I 0 w) (O:w.le H) (b1:H o1=some (.rows 1 [[.int .i64 n]])) (b2:H o2=some (.rows 1 [[.int .i64 top]])) (g1:w o1=none) (g2:w o2=none)
  (hY:∀(l:Nat)(x:PV)(J:PH)(Z:PH→Prop),J l=none→Q.wp C (jW C (R.wp C) (JA Z)) (F.set t x) J→OM C l [x] (J.set l (.loop F m t d i)) (λr H'=>r=.bool true∧∃H2,Z H2∧H2 l=none∧H'=H2.set l (.loop F m t d i)))
  (hb:∀k (hk:k<Z' B) G c,I k G→G c=none→Q.wp C (jW C (R.wp C) (JA (I (k+1)))) (F.set t (.osl c 1 0 n)) (G.set c (.rows 1 (bA (cA B[k]))))) :
  Rb C 211 [.ptr o1 1 0 0,.ptr o2 1 0 0] F H m t d i (I B.length):=by
 intro l S;have K:w l=none:=by
  cases h:w l with
  |none=>rfl
  |some x=>rw[O l x h]at S;cases S
 have n1:¬o1=l:=λe=>by rw[e,S]at b1;cases b1
 have n2:¬o2=l:=λe=>by rw[e,S]at b2;cases b2
 refine(Lb.iter l o1 o2 n top (λk G=>∃p,I k p∧p l=none∧G=p.set l (.loop F m t d i)) B Y h1 hn ht ?_ (w.set l (.loop F m t d i)) (H.set l (.loop F m t d i)) ⟨w,hI,K,rfl⟩ ?_ ?_ ?_ ?_ ?_).post ?_
 ·rintro k hk G c ⟨p,E,u,rfl⟩ V;have M:¬c=l:=λe=>by rw[e,dK]at V;cases V
  have N:¬l=c:=λe=>M e.symm;have W:p c=none:=by rwa[aS,aD M]at V
  have:=hY l (.osl c 1 0 n) (p.set c (.rows 1 (bA (cA B[k])))) (I (k+1)) (by rw[aS,aD N];exact u) (hb k hk p c E W);have e:(p.set c (.rows 1 (bA (cA B[k])))).set l (.loop F m t d i)=(p.set l (.loop F m t d i)).set c (.rows 1 (bA (cA B[k]))):=by
   refine PH.ext λo=>?_;simp only[aS];by_cases U:o=l
   ·subst U;rw[aG rfl,aD N,aG rfl]
   ·rw[aD U,aD U]
  rw[e]at this;exact this
 ·intro o x A;rw[aS]at A ⊢;split at A
  ·rename_i e;rw[aG e];exact A
  ·rename_i e;rw[aD e];exact O o x A
 ·rw[aS,aD n1];exact b1
 ·rw[aS,aD n2];exact b2
 ·rw[aS,aD n1];exact g1
 ·rw[aS,aD n2];exact g2
 ·rintro r H' ⟨G,⟨p,E,u,rfl⟩,y⟩;have X:H' l=some (.loop F m t d i):=y l _ (by rw[dK]);exact⟨r,.refl _,p,E,(λo x A=>y o x (by
   have:¬o=l:=λe=>by rw[e,u]at A;cases A
   rw[aS,aD this];exact A)),u,X⟩
def aRD(e:Nat)(i:List (List Int))(G:PH):Prop:=∃d ps,aT G [(e,.rows 1 [[d]])] (eZ d ps)∧wls ps=i
theorem aKT{C:Ctx}(Lb:th C)(J K:Code)(f:aE)(hV:VF f)(hd:Z' f.a6O≤12)(p:cL)(hp:∀m∈p.a6P,0≤m∧m<Z' f.a6P)(S:Fits p.a6P)(hk:1≤p.k)(ν:p.k≤6)(hm:0≤p.m)(ξ:p.m≤4) :
  (QI J K).wp C (aY (awG J K).res (cN (lay (vL f p)))) (PF.args [.agg f.cells,.agg p.cells]) .nil:=by
 obtain⟨n,hn⟩:∃n:Nat,(n:Int)=BV p:=⟨(p.k+p.m).toNat,by unfold BV;omega⟩;have β:1≤n∧n≤10:=by unfold BV at hn;omega
 have hw:IntKind.i64.wrap (p.k+p.m)=(n:Int):=by rw[hn];exact wrap_i64 Om Om
 simp only[go_sem,QI,uL.wp,Sr,Ss,awG];refine aR λB γ=>?_;simp only[go_sem,St,hw,a7Z];refine pB (Lb.subs n f.a6O.length) Sq a_ ?_;rintro r H' ⟨o1,o2,l,rfl,rfl⟩ R;have W:¬B=o1:=λe=>by have:=R o1 _ (by rw[aS,aD l,dK]) rfl;rw[←e,dK]at this;cases this
 have X:¬B=o2:=λe=>by have:=R o2 _ (by rw[dK]) rfl;rw[←e,dK]at this;cases this
 have κ:¬o2=o1:=λe=>l e.symm;simp only[go_sem];generalize N:PF.set _ 15 _=F;have f2:F 2=some (.bM f.cells):=by rw[←N];simp only[go_sem]
 have f3:F 3=some (.bM p.cells):=by rw[←N];simp only[go_sem]
 have f5:F 5=some (.ptr B 1 0 0):=by rw[←N];simp only[go_sem]
 have μ:F 15=some (.fn 211 [.ptr o1 1 0 0,.ptr o2 1 0 0]):=by rw[←N];simp only[go_sem]
 clear N;have ε:dU f.a6O.length n 0=dU f.a6O.length (BV p).toNat 0:=by rw[←hn];rfl
 have Q:=xL f.a6O.length n 0;have hE:vL f p=((dU f.a6O.length n 0).map cA).filter (rX f p):=by rw[ε];rfl
 refine⟨211,[.ptr o1 1 0 0,.ptr o2 1 0 0],aRD B (((((dU f.a6O.length n 0).take (dU f.a6O.length n 0).length)).map cA).filter (rX f p)),rfl,λhY=>?_,λH2 O=>?_⟩
 ·refine xo (m:=26) (t:=16) Lb rfl β.1 Om Om l (λk=>aRD B ((((dU f.a6O.length n 0).take k).map cA).filter (rX f p))) (PH.nil.set B (.rows 1 [[.aF]])) ⟨.aF,[],((aT.nil (H:=PH.nil)).new γ _).ES,rfl⟩ ?_ ?_ ?_ ?_ ?_ hY ?_
  ·intro o x Z;rw[aS]at Z;split at Z
   ·rename_i e;rw[kT];simp only[aS,e,aD W,aD X,gr,if_true];exact Z
   ·cases Z
  ·rw[kT];simp only[aS,aD l,if_true]
  ·rw[kT];simp only[aS,if_true]
  ·rw[aS,aD (λe=>W e.symm)];rfl
  ·rw[aS,aD (λe=>X e.symm)];rfl
  rintro k hk G c ⟨vo,ps,E,w⟩ hc;have δ:=Q _ (a8G hk);have ζ:(dU f.a6O.length n 0).take (k+1)=(dU f.a6O.length n 0).take k++[(dU f.a6O.length n 0)[k]]:=baC hk;generalize(dU f.a6O.length n 0)[k]=s at *
  obtain⟨sl,Y,-⟩:=δ;have i:((((dU f.a6O.length n 0).take (k+1)).map cA).filter (rX f p))=wls ps++if rX f p (cA s)then[cA s]else[]:=by rw[ζ,a8Z,List.filter_append,w];congr 1;by_cases c:rX f p (cA s)<;>simp[c]
  have U:(bA (cA s)).length=n:=by rw[dN,jE,sl]
  have M:=E.aAB (s:=1) (rows:=bA (cA s)) hc;have hO:bJ (G.set c (.rows 1 (bA (cA s)))) 1 (.osl c 1 0 n) (bA (cA s)):=by
   have:=M.own ((eZ vo ps).length) (GH _ _ _ rfl)
   rwa[U]at this
  have ο:Z' ps≤4096:=by
   rw[←BJ,w];refine a9F (List.length_filter_le ..) ?_;rw[a7Z,a8S];have h1:=IG f.a6O.length n 0;have M:2^(Z' f.a6O-0)≤2^12:=bbU Om Om;have e:(2:Nat)^12=4096:=by decide
   omega
  have d:=Lb.adm f p (cA s) hV hp S ⟨by rw[jE];omega,λx V=>by obtain⟨y,hy,rfl⟩:=a9B.1 V;have:=Y y hy;omega⟩;obtain⟨q,e1,V,d⟩:=aFG (C:=C) (name:=201) (pre:=[.agg f.cells,.agg p.cells]) (u:=.bool (rX f p (cA s))) (.bool _) (λx V=>by
   simp only[a8M,a8W,or_false]at V;rcases V with rfl|rfl
   ·exact λ_ _ _=>rfl
   ·exact λ_ _ _=>rfl) hO (λe=>by have:=congrArg List.length e;rw[jE,sl]at this;simp at this;omega) d
  have eq:c=q:=by injection e1
  subst eq;have ι:=M.at 0 rfl;have θ:¬B=c:=λe=>by have:=E.at 0 rfl;rw[e,hc]at this;cases this
  simp only[go_sem,G7,Su,G8,Sv,f2,f3];refine AC (cs:=[]) (vs:=[.agg f.cells,.agg p.cells,.osl c 1 0 n]) (by rw[a9W];exact d) Sq (ig _ _) ?_;cases A:rX f p (cA s)with
  |true=>
   rw[A,aG rfl]at i;simp only[go_sem,Sw,f5,θ,E.at 0 rfl];refine M.append 0 (rows:=eI ps) (src:=[[.osl c 1 0 n]]) rfl Sq (by unfold roomFor;rw[pF];simp only[a8J,maxLen];omega) λv' H' h3 η=>?_;obtain⟨q2,rfl⟩:=η bD;have α:=h3.at 0 rfl;have h4:=h3.set 0 rfl (aU.rows 1 [[PV.osl q2 1 0 (eI ps++[[PV.osl c 1 0 n]]).length]]);simp only[go_sem,α,f5,a8M,a8W,or_false,forall_eq];refine⟨PV.osl q2 1 0 (eI ps++[[PV.osl c 1 0 n]]).length,ps++[(.osl c 1 0 n,cA s)],?_,?_⟩
   ·have e:eZ (.osl q2 1 0 (eI ps++[[PV.osl c 1 0 n]]).length) (ps++[(PV.osl c 1 0 n,cA s)])=((eZ vo ps)++[(PV.osl c 1 0 (bA (cA s)).length,1,bA (cA s))]).set 0 (.osl q2 1 0 (eI ps++[[PV.osl c 1 0 n]]).length,1,eI ps++[[PV.osl c 1 0 n]]):=by rw[U];unfold eZ eI rH;rw[a8Z,a8Z];rfl
    rw[e];exact h4
   ·rw[i];unfold wls;rw[a8Z];rfl
  |false =>rw[A,aD aV,a9W]at i;simp only[go_sem];exact⟨vo,ps,M.sub (baM.refl _) (List.sublist_append_left ..),i.symm⟩
 ·rw[a9E,←hE]at O;obtain⟨vo,ps,E,w⟩:=O;have hb:=E.at 0 rfl;simp only[go_sem,va,Sx,f5,hb];rw[←w];exact UE (.inr rfl) Sq (E.BK 0)
def PX(f:aE)(a7A:Int):Int:=if rI f a7A then(if f.a6O.length>12 then 2 else 0)else 1
def Dm(f:aE)(a7A:Int):List (List Int):=if PX f a7A=0 then vL f (mY f a7A)else[]
structure Q6(C:Ctx):Prop extends th C where
 sets:∀(f:aE)(p:cL),VF f→Z' f.a6O≤12→(∀m∈p.a6P,0≤m∧m<Z' f.a6P)→Fits p.a6P→1≤p.k→p.k≤6→0≤p.m→p.m≤4→aH C 229 [.agg f.cells,.agg p.cells] .nil (aK (lay (vL f p)))
def cyS(r:PV):Spec:=λ_ _=>some ([],λ_=>aK r)
theorem aDK{C:Ctx}(x:Q6 C)(f:aE)(y:f.Ok)(a7A:Int) :
  LD.wp C (aY call17.res (cN (.tup [lay (Dm f a7A),.int .i64 (PX f a7A)]))) (PF.args [.agg f.cells,.int .i64 a7A]) .nil:=by
 have hB:Dm f a7A=if PX f a7A=0 then vL f (mY f a7A)else[]:=rfl
 have e:PX f a7A=if rI f a7A then(if f.a6O.length>12 then 2 else 0)else 1:=rfl
 simp only[go_sem,LD,Gj,Gk,call17];refine aB (x.known f a7A y) Ev ?_;cases u:rI f a7A with
 |false =>rw[u,aD aV]at e;rw[e,aD aV]at hB;rw[hB,e];simp only[go_sem,a8P,Gl];exact xZ (.inr rfl) Sq (aT.ES aT.nil)
 |true=>
  rw[u,aG rfl]at e;obtain⟨hV,A,E,B⟩:=pd u;obtain⟨p,w⟩:=Iw u;have d:=hV.a7A _ p;have l:=(y.a7A _ p).a6P;have i:(f.a6S.map cL.cells)[a7A.toNat]?=some (mY f a7A).cells:=by rw[a8Y,w];rfl
  have hlt:a7A<(Z' f.a6S:Nat):=Om;by_cases c:Z' f.a6O>12
  ·rw[aG c]at e;rw[e,aD aV]at hB;rw[hB,e];simp only[go_sem,a8I,XZ,a7Z,show(Z' f.a6O:Int)>12 by omega,Gm];exact xZ (.inr rfl) Sq (aT.ES aT.nil)
  ·rw[aD c]at e;rw[e,aG rfl]at hB;rw[hB,e];simp only[go_sem,a8I,XZ,a7Z,show ¬(Z' f.a6O:Int)>12 by omega];refine cP .nil (cyS (lay (vL f (mY f a7A)))) a_ ?_;simp only[go_sem,Gn,A,hlt,a7Z,i];refine cR rfl (x.sets f (mY f a7A) hV Om d.2.2.2.2.2.2.2 l d.1 d.2.1 d.2.2.1 d.2.2.2.1) Sq a_ ?_;simp only[go_sem];exact bE (.inr rfl) .nil (vs:=[lay (vL f (mY f a7A)),.int .i64 0]) Sq a_ (aK.aXY ⟨rfl,rfl⟩)
structure UOk(n:Nat)(U:List (List Int)):Prop where
 len:Z' U≤1000
 at_:∀u∈U,Z' u≤1000∧∀d∈u,0≤d∧d<n
def rP(U:List (List Int))(s:List Nat):List Int:=s.flatMap λi=>U.getD i []
theorem afJ(U:List (List Int))(s:List Nat){i:Nat}(h:i<Z' s):rP U (s.take (i+1))=rP U (s.take i)++U.getD s[i] []:=by
 unfold rP;rw[baC h,List.flatMap_append];simp
theorem akD(U:List (List Int))(s:List Nat)(d:Nat):(rP U s).contains (d:Int)=mC U s d:=by
 unfold rP mC
 induction s with
 |nil=>rfl
 |cons i s e=>rw[List.flatMap_cons,List.contains_append,e,List.any_cons]
theorem aDO{C:Ctx}{K:cD}[Up K](X W w c nd n i:Nat)(J:PV)(u:List Int)(β:Z' u≤1000)(hu:∀d∈u,0≤d∧d<nd)(l:List Int){F:PF}{H:PH}{B:List BX}{L:List LI}
  (x:aT H B L) (b:Nat) (hb:B[b]?=some (w,.rows 1 (eA (marks nd l))))
  (Z:(((((((((((PF.nil.set 2 (J)).set 6 (.ptr X 1 0 0)).set 7 (.ptr W 1 0 0)).set 9 (.osl w 1 0 nd)).set 66 (.osl c 1 0 n)).set 67 (.int .i64 n)).set 68 (.int .i64 i)).set 75 (ints u)).set 76 (.int .i64 (Z' u:Nat))).set 77 (.int .i64 0))).le F)
  (hK:∀H',aT H' (B.set b (w,.rows 1 (eA (marks nd (l++u))))) L→K (.exit 4) ((((((((PF.nil.set 2 (J)).set 6 (.ptr X 1 0 0)).set 7 (.ptr W 1 0 0)).set 9 (.osl w 1 0 nd)).set 66 (.osl c 1 0 n)).set 67 (.int .i64 n)).set 68 (.int .i64 i))) H') :
  aC.wp C (.loop YE) K F H:=by
 refine wp_loop (α:=Nat × PH) (λs=>((((((((((PF.nil.set 2 (J)).set 6 (.ptr X 1 0 0)).set 7 (.ptr W 1 0 0)).set 9 (.osl w 1 0 nd)).set 66 (.osl c 1 0 n)).set 67 (.int .i64 n)).set 68 (.int .i64 i)).set 75 (ints u)).set 76 (.int .i64 (Z' u:Nat))).set 77 (.int .i64 s.1))) (λs=>s.2) (λs=>s.1≤Z' u∧aT s.2 (B.set b (w,.rows 1 (eA (marks nd (l++u.take s.1))))) L) (λs=>Z' u-s.1) (0,H) ⟨a8H _,?_⟩ Z b_ ?_
 ·rw[List.take_zero,a9W];have e:B.set b (w,.rows 1 (eA (marks nd l)))=B:=by obtain⟨h1,E⟩:=a9I.1 hb;rw[←E,List.set_getElem_self]
  rw[e];exact x
 rintro⟨j,Y⟩ ⟨hj,x⟩;simp only at hj x;have M:b<Z' B:=(a9I.1 hb).1;have y:(B.set b (w,aU.rows 1 (eA (marks nd (l++u.take j)))))[b]?=some (w,.rows 1 (eA (marks nd (l++u.take j)))):=List.getElem?_set_self M;simp only[go_sem,YE,Gw];by_cases hlt:j<Z' u
 ·have p:(j:Int)<(Z' u:Nat):=Om;have R:(u.map λn=>[PV.int .i64 n])[j]?=some [.int .i64 u[j]]:=by simp[hlt]
  obtain⟨U,V⟩:=hu _ (a8G hlt);have S:u.take (j+1)=u.take j++[u[j]]:=baC hlt;have O:(u[j]).toNat<(eA (marks nd (l++u.take j))).length:=by rw[CG,JQ];omega
  have N:(eA (marks nd (l++u.take j)))[(u[j]).toNat]?=some [.bool ((l++u.take j).contains u[j])]:=by unfold eA;rw[a8Y,xE U V];rfl
  have Q:=x.at b y;have E:=x.set b y (.rows 1 (eA (marks nd (l++u.take (j+1)))));rw[List.set_set]at E;have A:=JR (l:=l++u.take j) U V;rw[a9G,←S]at A;simp only[go_sem,p,Gx,R,Gy,U,V,a8Q,Q,N,O,mO,A,Gz,wZz j];exact aJ (j+1,Y.set w (.rows 1 (eA (marks nd (l++u.take (j+1)))))) ⟨hlt,E⟩ (by simp only;omega) Lq b_
 ·have p:¬(j:Int)<(Z' u:Nat):=Om;have:j=Z' u:=Om;subst this;rw[a9E]at x;simp only[go_sem,p];exact Up.up Lq (hK Y x)
def scB(d i c e:Nat)(p:PV)(U:List (List Int))(s:List Nat)(nd:Nat)(l:List Int):List BX:=[(d,.rows 1 [[p]]),(i,.rows 1 [[lay U]]),(c,.rows 1 (bA (cA s))),(e,.rows 1 (eA (marks nd l)))]
theorem aiS{C:Ctx}{K:cD}[Up K](y p w c nd n:Nat)(B V:PV)(U:List (List Int))(hU:UOk nd U)(s:List Nat)(hs:Z' s=n)(Q:∀x∈s,x<Z' U)(hn:n≤1000){F:PF}{H:PH}{L:List LI}
  (l:aT H (scB p y c w V U s nd []) L)
  (Y:((((((((PF.nil.set 2 (B)).set 6 (.ptr y 1 0 0)).set 7 (.ptr p 1 0 0)).set 9 (.osl w 1 0 nd)).set 66 (.osl c 1 0 n)).set 67 (.int .i64 n)).set 68 (.int .i64 0))).le F)
  (Z:∀H',aT H' (scB p y c w V U s nd (rP U s)) L→K (.exit 2) (((((PF.nil.set 2 (B)).set 6 (.ptr y 1 0 0)).set 7 (.ptr p 1 0 0)).set 9 (.osl w 1 0 nd))) H') :
  aC.wp C (.loop YF) K F H:=by
 refine wp_loop (α:=Nat × PH) (λt=>(((((((PF.nil.set 2 (B)).set 6 (.ptr y 1 0 0)).set 7 (.ptr p 1 0 0)).set 9 (.osl w 1 0 nd)).set 66 (.osl c 1 0 n)).set 67 (.int .i64 n)).set 68 (.int .i64 t.1))) (λt=>t.2) (λt=>t.1≤Z' s∧aT t.2 (scB p y c w V U s nd (rP U (s.take t.1))) L) (λt=>Z' s-t.1) (0,H) ⟨a8H _,l⟩ Y b_ ?_;rintro⟨i,X⟩ ⟨hi,l⟩;simp only at hi l;simp only[go_sem,YF,Gt];by_cases hlt:i<Z' s
 ·have d:(i:Int)<(n:Nat):=Om;have hc:=l.at 2 rfl;have O:=l.at 1 rfl;have M:=AX hlt;have N:i<(bA (cA s)).length:=by rw[dN,jE];exact hlt
  have R:=Q s[i] (a8G hlt);have S:((s[i]:Nat):Int)<(Z' U:Nat):=Om;have e:=afJ U s hlt;have A:=hU.at_ U[s[i]] (a8G R);have J:U.getD s[i] []=U[s[i]]:=by simp[a8V,R]
  have E:(U.map λr=>[ints r])[s[i]]?=some [ints U[s[i]]]:=by simp[R]
  rw[J]at e;generalize U[s[i]]=u at *
  generalize s[i]=x at *
  simp only[go_sem,d,Gu,hc,M,N,a8Q,Gv,O,S,a7Z,E];have one:=λ{K:cD} [Up K] {F:PF}=>aDO (C:=C) (K:=K) y p w c nd n i B u A.1 A.2 (rP U (s.take i)) (F:=F) l 3 rfl;refine one (by(repeat' (first|exact d_|refine c_ ?_ ?_))<;>first|(simp only[go_sem,a7Z]<;>rfl)|rfl) λH' W=>?_;rw[←e]at W;simp only[go_sem,G1,wZz i];exact aJ (i+1,H') ⟨hlt,W⟩ (by simp only;omega) Lq b_
 ·have d:¬(i:Int)<(n:Nat):=Om;have:i=Z' s:=Om;subst this;rw[a9E]at l;simp only[go_sem,d];exact Up.up Lq (Z X l)
def scD(l:List Int)(k:Nat):List Int:=cA ((a8A k).filter λd=>l.contains (d:Int))
theorem aPD(l:List Int)(k:Nat):scD l (k+1)=if l.contains (k:Int)then scD l k++[(k:Int)]else scD l k:=by
 unfold scD;rw[bbT,List.filter_append,Zd];by_cases h:l.contains (k:Int)
 ·rw[aG h];simp[cA]at h ⊢;simp[h]
 ·rw[aD h];simp[cA]at h ⊢;simp[h]
theorem aUZ(l:List Int)(k:Nat):(scD l k).length≤k:=by
 unfold scD;rw[jE];exact a9F (List.length_filter_le ..) bD
theorem Sh{C:Ctx}{K:cD}[Up K](w u B c nd:Nat)(W:nd≤1000)(E J:PV)(U:List (List Int))(s:List Nat)(l:List Int){F:PF}{H:PH}{L:List LI}
  (i:aT H (scB u w c B J U s nd l) L)
  (R:((((((((PF.nil.set 2 (E)).set 6 (.ptr w 1 0 0)).set 7 (.ptr u 1 0 0)).set 14 (.aF)).set 86 (.osl B 1 0 nd)).set 87 (.int .i64 nd)).set 88 (.int .i64 0))).le F)
  (S:∀v H',aT H' (scB u w c B J U s nd l) (L++[(v,1,bA (scD l nd))])→K (.exit 6) (((((PF.nil.set 2 (E)).set 6 (.ptr w 1 0 0)).set 7 (.ptr u 1 0 0)).set 14 (v))) H') :
  aC.wp C (.loop YG) K F H:=by
 refine wp_loop (α:=Nat × PV × PH) (λt=>(((((((PF.nil.set 2 (E)).set 6 (.ptr w 1 0 0)).set 7 (.ptr u 1 0 0)).set 14 (t.2.1)).set 86 (.osl B 1 0 nd)).set 87 (.int .i64 nd)).set 88 (.int .i64 t.1))) (λt=>t.2.2) (λt=>t.1≤nd∧aT t.2.2 (scB u w c B J U s nd l) (L++[(t.2.1,1,bA (scD l t.1))])) (λt=>nd-t.1) (0,.aF,H) ⟨a8H _,i.sE 1⟩ R b_ ?_;clear i;rintro⟨k,v,M⟩ ⟨V,i⟩;simp only at V i;simp only[go_sem,YG,G4];by_cases hlt:k<nd
 ·have e:(k:Int)<(nd:Nat):=Om;have y:=i.at 3 rfl;have d:=aPD l k;have Q:=aUZ l k;have x:k<(eA (marks nd l)).length:=by rw[CG,JQ];exact hlt
  have p:(eA (marks nd l))[k]?=some [.bool (l.contains (k:Int))]:=by have:=xE (n:=nd) (l:=l) (m:=(k:Int)) Om e;rw[baA]at this;unfold eA;rw[a8Y,this];rfl
  cases O:l.contains (k:Int)with
  |true=>
   rw[O]at p d;rw[aG rfl]at d;simp only[go_sem,e,YH,y,p,x,a8Q,YI,G5];refine i.append L.length (rows:=bA (scD l k)) (src:=[[.int .i64 k]]) (GH _ _ _ rfl) Sq (by unfold roomFor;rw[dN];simp only[a8J,maxLen];omega) λv' H' N _=>?_;have A:bA (scD l k)++[[.int .i64 k]]=bA (scD l (k+1)):=by rw[d,HP];rfl
   rw[A,bbB _ _ (a8E _),baV]at N;simp only[go_sem,YJ,wZz k];exact aJ (k+1,v',H') ⟨hlt,N⟩ (by simp only;omega) Lq b_
  |false =>rw[O]at p d;rw[aD aV]at d;rw[←d]at i;simp only[go_sem,e,YH,y,p,x,a8Q,YI,YJ,wZz k];exact aJ (k+1,v,M) ⟨hlt,i⟩ (by simp only;omega) Lq b_
 ·have e:¬(k:Int)<(nd:Nat):=Om;have:k=nd:=Om;subst this;simp only[go_sem,e];exact Up.up Lq (S v M i)
def eK(f:aE)(lv d:Int):Int:=if eP f&&(decide (1≤lv)&&decide (lv≤5)&&decide (1≤d)&&decide (d≤3))then(if 12<Z' f.a6O∨512<eM ((jY f lv).length:Nat) d.toNat then 2 else 0)else 1
def vJ(f:aE)(lv d:Int):List (List Int):=if eK f lv d=0 then BU f (jY f lv) d.toNat else[]
structure aDA(C:Ctx):Prop extends Q6 C where
 val:∀f:aE,f.Ok→aH C 96 [.agg f.cells] .nil (aK (.int .i64 (xN f)))
 units:∀(f:aE)(lv:Int),VF f→1≤lv→lv≤5→aH C 206 [.agg f.cells,.int .i64 lv] .nil (aK (lay (jY f lv)))
 choose:∀m n:Nat,m≤1000→n≤3→aH C 207 [.int .i64 m,.int .i64 n] .nil (aK (.int .i64 (max (eM m n) 0)))
theorem afK{f:aE}(hV:VF f)(lv:Int):UOk f.a6O.length (jY f lv)∧(jY f lv).length≤40:=by
 have E:=hV.small.a6O;have w:=hV.small.a6R;by_cases c:lv=5
 ·subst c;rw[Oa];refine⟨⟨by simp;omega,λu l=>?_⟩,by simp;omega⟩;obtain⟨d,e,rfl⟩:=a9B.1 l;rw[a9M]at e;refine⟨by simp,λx p=>?_⟩;rw[baQ]at p;omega
 ·rw[sk f c];have A:(sR f lv f.a6O.length).length≤40:=by rw[Be];exact a9F (List.length_filter_le ..) (by simp;omega)
  refine⟨⟨by omega,λu l=>?_⟩,A⟩;obtain⟨i,-,rfl⟩:=a9B.1 l;refine⟨by rw[jE];have:=xn f lv f.a6O.length i;omega,λx p=>?_⟩;obtain⟨y,B,rfl⟩:=a9B.1 p;have:=a9M.1 (List.mem_filter.1 B).1;omega
theorem aXX(U:List (List Int))(s:List Nat)(nd:Nat):scD (rP U s) nd=cA ((a8A nd).filter (mC U s)):=by
 unfold scD;congr 2;funext d;exact akD U s d
instance upDone{R:PH→Prop}:Up (JA R):=⟨λ{e F d H} _ h=>by cases e<;>exact h⟩
def Ro(e i:Nat)(U:List (List Int))(l:List (List Int))(G:PH):Prop:=∃d ps,aT G [(e,.rows 1 [[d]]),(i,.rows 1 [[lay U]])] (eZ d ps)∧wls ps=l
theorem aiT{C:Ctx}(f:aE)(hV:VF f)(U:List (List Int))(hU:UOk f.a6O.length U)(W:Z' U≤40)(n:Nat)(α:1≤n)(hn:n≤3)(A l:Nat)(F:PF)(f2:F 2=some (.bM f.cells))(f6:F 6=some (.ptr A 1 0 0))(f7:F 7=some (.ptr l 1 0 0))(k:Nat)(X:k<(dU U.length n 0).length)(G:PH)(c:Nat)
  (hI:Ro l A U (((dU U.length n 0).take k).map λs=>cA ((a8A f.a6O.length).filter (mC U s))) G) (hc:G c=none) :
  YC.wp C (jW C (YD.wp C) (JA (Ro l A U (((dU U.length n 0).take (k+1)).map λs=>cA ((a8A f.a6O.length).filter (mC U s)))))) (F.set 61 (.osl c 1 0 n)) (G.set c (.rows 1 (bA (cA (dU U.length n 0)[k])))):=by
 obtain⟨p,ps,hH,Y⟩:=hI;have w:=hV.small;have J:(Z' f.a6O:Int)*((1:Nat):Int)≤140737488355328:=by have:=w.a6O;omega
 have M:(Z' f.a6O:Int)≤9223372036854775807:=by have:=w.a6O;omega
 have d:(0:Int)≤(Z' f.a6O:Int):=Om;have O:=xL U.length n 0 _ (a8G X);have Q:(dU U.length n 0).take (k+1)=(dU U.length n 0).take k++[(dU U.length n 0)[k]]:=baC X;have β:Z' ps≤1099511627776:=by
  rw[←BJ,Y,a7Z,a8S];have h1:=IG U.length n 0;have S:2^(Z' U-0)≤2^40:=bbU Om Om;have e:(2:Nat)^40=1099511627776:=by decide
  omega
 generalize(dU U.length n 0)[k]=s at *
 obtain⟨sl,E,-⟩:=O;rw[Q,a8Z,←Y];have S:=hH.new hc (.rows 1 (bA (cA s)));simp only[go_sem,YC,So,YD,Sp,f2,a7Z,J,M,d,Int.le_refl,baA];refine aR λR N=>?_;rw[GZ];have h3:=S.new N (.rows 1 (eA (marks f.a6O.length [])));simp only[go_sem,Gs];have mk:=λ{K:cD} [Up K] {F:PF} {H:PH}=>aiS (C:=C) (K:=K) A l R c f.a6O.length n (.bM f.cells) p U hU s sl (λx hx=>(E x hx).2) Om (F:=F) (H:=H) (L:=eZ p ps);refine mk h3 (by(repeat' (first|exact d_|refine c_ ?_ ?_))<;>first|(simp only[go_sem,f2,f6,f7]<;>rfl)|rfl) λH1 h4=>?_;simp only[go_sem,G2,G3];have Z:=λ{K:cD} [Up K] {F:PF} {H:PH}=>Sh (C:=C) (K:=K) A l R c f.a6O.length (by have:=w.a6O;omega) (.bM f.cells) p U s (rP U s) (F:=F) (H:=H) (L:=eZ p ps);refine Z h4 Lq λv H2 h5=>?_;have V:=h5.own (eZ p ps).length (GH _ _ _ rfl);have B:=h5.at 0 rfl;rw[aXX]at h5 V;generalize hD:cA ((a8A f.a6O.length).filter (mC U s))=D at *
 have fin:∀(i:Nat)(H':PH),aT H' (scB l A c R p U s f.a6O.length (rP U s)) ((eZ p ps++[(v,1,bA D)]).set 0 (PV.osl i 1 0 (eI ps++[[v]]).length,1,eI ps++[[v]]))→Ro l A U (wls ps++[D]) (H'.set l (.rows 1 [[PV.osl i 1 0 (eI ps++[[v]]).length]])):=by
  intro i H' u;have h7:=u.set 0 rfl (aU.rows 1 [[PV.osl i 1 0 (eI ps++[[v]]).length]]);refine⟨PV.osl i 1 0 (eI ps++[[v]]).length,ps++[(v,D)],?_,?_⟩
  ·have e:eZ (PV.osl i 1 0 (eI ps++[[v]]).length) (ps++[(v,D)])=(eZ p ps++[(v,1,bA D)]).set 0 (PV.osl i 1 0 (eI ps++[[v]]).length,1,eI ps++[[v]]):=by unfold eZ eI rH;rw[a8Z,a8Z];rfl
   rw[e];exact(h7.BK 3).BK 2
  ·unfold wls;rw[a8Z];rfl
 have room:roomFor (eI ps).length 1 24:=by unfold roomFor;rw[pF];simp only[maxLen];omega
 rcases V with⟨-,rfl⟩|⟨q,rs,rfl,-,-,-⟩
 ·simp only[go_sem,YK,B,a8M,a8W,or_false,forall_eq];refine h5.append 0 (rows:=eI ps) (src:=[[PV.aF]]) rfl Sq room λv' H' u y=>?_;obtain⟨i,rfl⟩:=y bD;have d:=u.at 0 rfl;simp only[go_sem,d,a8M,a8W,or_false,forall_eq];exact fin i H' u
 ·simp only[go_sem,YK,B,a8M,a8W,or_false,forall_eq];refine h5.append 0 (rows:=eI ps) (src:=[[PV.osl q 1 0 (bA D).length]]) rfl Sq room λv' H' u y=>?_;obtain⟨i,rfl⟩:=y bD;have d:=u.at 0 rfl;simp only[go_sem,d,a8M,a8W,or_false,forall_eq];exact fin i H' u
abbrev oV(lv d:Int):PV:=.agg [.int .i64 lv,.int .i64 d]
theorem aKR{C:Ctx}(J:aDA C)(K M:Code)(f:aE)(hf:f.Ok)(lv d:Int) :
  (QH K M).wp C (aY (awF K M).res (cN (.tup [lay (vJ f lv d),.int .i64 (eK f lv d)]))) (PF.args [.agg f.cells,oV lv d]) .nil:=by
 have hB:vJ f lv d=if eK f lv d=0 then BU f (jY f lv) d.toNat else[]:=rfl
 have O:eK f lv d=if eP f&&(decide (1≤lv)&&decide (lv≤5)&&decide (1≤d)&&decide (d≤3))then(if 12<Z' f.a6O∨512<eM ((jY f lv).length:Nat) d.toNat then 2 else 0)else 1:=rfl
 have hv:=J.val f hf;unfold xN at hv;have bad:∀(e:Int)(F:PF)(H:PH),e≠0→eK f lv d=e→F 4=some .aF→F 5=some (.int .i64 e)→aY [.tmp 4,.tmp 5] (cN (.tup [lay (vJ f lv d),.int .i64 (eK f lv d)])) .ret F H:=by intro e F H he i h2 h3;rw[i,aD he]at hB;rw[hB,i];exact xZ (H:=H) (.inr rfl) (by simp only[go_sem,h2,h3]) (show aT H [] (eZ .aF [])from aT.ES aT.nil)
 have X:(eP f&&(decide (1≤lv)&&decide (lv≤5)&&decide (1≤d)&&decide (d≤3)))=false→eK f lv d=1:=λh=>by rw[O,h];rfl
 simp only[go_sem,QH,uL.wp,Si,Sj,awF];refine aB hv Ev ?_;cases hp:eP f with
 |false =>have i:=X (by rw[hp];rfl);simp only[go_sem,eC (show(1:Int)≠0 by decide),AL];exact bad 1 _ _ aV i Sq Sq
 |true=>
  have hV:=VF.of hp;by_cases N:lv<1
  ·have i:=X (by rw[cB (Om:¬1≤lv)];simp);simp only[go_sem,dL (show(0:Int)=0 from rfl),N,AL];exact bad 1 _ _ aV i Sq Sq
  by_cases c2:lv>5
  ·have i:=X (by rw[cB (Om:¬lv≤5)];simp);simp only[go_sem,dL (show(0:Int)=0 from rfl),N,c2,AL];exact bad 1 _ _ aV i Sq Sq
  by_cases c3:d<1
  ·have i:=X (by rw[cB (Om:¬1≤d)];simp);simp only[go_sem,dL (show(0:Int)=0 from rfl),N,c2,c3,AL];exact bad 1 _ _ aV i Sq Sq
  by_cases c4:d>3
  ·have i:=X (by rw[cB (Om:¬d≤3)];simp);simp only[go_sem,dL (show(0:Int)=0 from rfl),N,c2,c3,c4,AL];exact bad 1 _ _ aV i Sq Sq
  obtain⟨n,rfl⟩:∃n:Nat,d=n:=⟨d.toNat,by omega⟩;rw[hp,bN (Om:1≤lv),bN (Om:lv≤5),bN (Om:(1:Int)≤(n:Int)),bN (Om:(n:Int)≤3),bbL,bbL,bbL,bbL,aG rfl,baA]at O;rw[baA]at hB;obtain⟨hU,R⟩:=afK hV lv;have w:=J.units f lv hV Om Om;generalize jY f lv=U at *
  simp only[go_sem,dL (show(0:Int)=0 from rfl),N,c2,c3,c4,Sk];refine aB w Ev ?_;simp only[go_sem];refine aR λp δ=>?_;simp only[go_sem,Sl,a7Z];by_cases c5:12<Z' f.a6O
  ·have i:eK f lv n=2:=by rw[O,aG (.inl c5)]
   simp only[go_sem,show(Z' f.a6O:Int)>12 by omega,nc];exact bad 2 _ _ aV i Sq Sq
  simp only[go_sem,show ¬(Z' f.a6O:Int)>12 by omega];refine aB (J.choose U.length n Om Om) Ev ?_;by_cases c6:512<eM (Z' U:Nat) n
  ·have i:eK f lv n=2:=by rw[O,aG (.inr c6)]
   simp only[go_sem,show max (eM (Z' U:Nat) n) 0>512 by omega,nc];exact bad 2 _ _ aV i Sq Sq
  have i:eK f lv n=0:=by rw[O,aD (λh=>h.elim c5 c6)]
  rw[i,aG rfl]at hB;rw[hB,i];simp only[go_sem,show ¬max (eM (Z' U:Nat) n) 0>512 by omega,Sm];refine aR λl E=>?_;have ζ:¬l=p:=by rintro rfl;rw[dK]at E;cases E
  have y:¬p=l:=λe=>ζ e.symm;simp only[go_sem,Sn,y,a7Z];refine pB (J.subs n U.length) Sq a_ ?_;rintro r H' ⟨o1,o2,B,rfl,rfl⟩ γ;have α:∀o x,(((PH.nil.set o1 (.rows 1 [[.int .i64 n]])).set o2 (.rows 1 [[.int .i64 (Z' U:Nat)]])):PH) o=some x→¬l=o∧¬p=o:=λo x h=>by
   have:=γ o x h rfl;refine⟨λe=>?_,λe=>?_⟩
   ·rw[←e,dK]at this;cases this
   ·rw[←e,aS,aD y,dK]at this;cases this
  obtain⟨V,Y⟩:=α o1 _ (by rw[aS,aD B,dK]);obtain⟨W,Z⟩:=α o2 _ (by rw[dK]);simp only[go_sem];generalize Q:PF.set _ 60 _=F;have f2:F 2=some (.bM f.cells):=by rw[←Q];simp only[go_sem]
  have f6:F 6=some (.ptr p 1 0 0):=by rw[←Q];simp only[go_sem]
  have f7:F 7=some (.ptr l 1 0 0):=by rw[←Q];simp only[go_sem]
  have η:F 60=some (.fn 211 [.ptr o1 1 0 0,.ptr o2 1 0 0]):=by rw[←Q];simp only[go_sem]
  clear Q;have A:BU f U n=((dU U.length n 0).take (dU U.length n 0).length).map λs=>cA ((a8A f.a6O.length).filter (mC U s)):=by rw[a9E];rfl
  have u:aT ((PH.nil.set p (.rows 1 [[lay U]])).set l (.rows 1 [[.aF]])) [(l,.rows 1 [[.aF]]),(p,.rows 1 [[lay U]])] (eZ .aF []):=((((aT.nil (H:=PH.nil)).new δ _).new E _).perm (List.Perm.swap _ _ _) (List.Perm.refl _)).ES;refine⟨211,[.ptr o1 1 0 0,.ptr o2 1 0 0],Ro l p U (BU f U n),rfl,λhY=>?_,λH2 β=>?_⟩
  ·rw[A];refine xo (m:=104) (t:=61) J.toth rfl Om Om Om B (λk=>Ro l p U (((dU U.length n 0).take k).map λs=>cA ((a8A f.a6O.length).filter (mC U s)))) ((PH.nil.set p (.rows 1 [[lay U]])).set l (.rows 1 [[.aF]])) ⟨.aF,[],u,rfl⟩ ?_ ?_ ?_ ?_ ?_ hY λk hk G c hI hc=>aiT f hV U hU R n Om Om p l F f2 f6 f7 k hk G c hI hc
   ·intro o x S;rw[kT];have e1:¬o=o1:=λe=>by rw[e,aS,aD (λh=>V h.symm),aS,aD (λh=>Y h.symm)]at S;cases S
    have e2:¬o=o2:=λe=>by rw[e,aS,aD (λh=>W h.symm),aS,aD (λh=>Z h.symm)]at S;cases S
    have:((PH.nil.set o1 (.rows 1 [[.int .i64 n]])).set o2 (.rows 1 [[.int .i64 (Z' U:Nat)]]):PH) o=none:=by rw[aS,aD e2,aS,aD e1];rfl
    rw[this];exact S
   ·rw[kT];simp only[aS,aD B,if_true]
   ·rw[kT];simp only[aS,if_true]
   ·rw[aS,aD (λe=>V e.symm),aS,aD (λe=>Y e.symm)];rfl
   ·rw[aS,aD (λe=>W e.symm),aS,aD (λe=>Z e.symm)];rfl
  ·obtain⟨vo,ps,hH,ε⟩:=β;have hb:=hH.at 0 rfl;simp only[go_sem,u9,G6,f7,hb];rw[←ε];exact xZ (.inr rfl) Sq ((hH.BK 0).BK 0)
def SG(f:aE)(a7A:Int)(set:List Int)(lv d:Int):Int:=if eK f lv d≠0 then eK f lv d else if aJZ f a7A set then 0 else 1
def azL(f:aE)(a7A:Int)(set:List Int)(lv d:Int):Nat:=if SG f a7A set lv d=0 then xu (vJ f lv d) set (mY f a7A).m else 0

noncomputable def aBL:aE:=(lM [] 1 0 0).1

theorem ajZ(n k a:Nat)(h:a<n):dU n (k+1) a=(dU n k (a+1)).map (a::·)++dU n (k+1) (a+1):=by
 rw[dU];by_cases c:n-k-a=0
 ·have d:n-k-(a+1)=0:=Om;rw[dU,c,d];have:dU n k (a+1)=[]:=by
   cases k with
   |zero=>omega
   |succ k=>rw[dU,show n-k-(a+1)=0 by omega];rfl
  rw[this];rfl
 ·obtain⟨m,e⟩:∃m,n-k-a=m+1:=⟨n-k-a-1,by omega⟩;rw[dU,e,List.range'_succ,List.flatMap_cons,show n-k-(a+1)=m by omega]
def Grow(P:List Nat→Bool):Prop:=∀s t:List Nat,(∀x∈s,x∈t)→P s=true→P t=true
theorem Grow.cons{P:List Nat→Bool}(h:Grow P)(a:Nat):Grow λs=>P (a::s):=λs t d l=>
 h (a::s) (a::t) (λx i=>(a8M.1 i).elim (λe=>e ▸ List.mem_cons_self) λi=>List.mem_cons_of_mem _ (d x i)) l
def lK(n k a:Nat)(P:List Nat→Bool):Nat:=(dU n k a).countP P
theorem HD(n k a:Nat)(h:a<n)(P:List Nat→Bool):lK n (k+1) a P=lK n k (a+1) (λs=>P (a::s))+lK n (k+1) (a+1) P:=by
 unfold lK;rw[ajZ n k a h,List.countP_append,List.countP_map];rfl
theorem aDN(n k a:Nat){P Q:List Nat→Bool}(h:∀s,P s=true→Q s=true):lK n k a P≤lK n k a Q:=List.countP_mono_left λs _ d=>h s d
theorem LG(n a:Nat)(P:List Nat→Bool):lK n 0 a P=if P []then 1 else 0:=by
 unfold lK;rw[dU,List.countP_cons,List.countP_nil,a8Q]
theorem QF(n:Nat):∀(m k a:Nat)(P:List Nat→Bool),Grow P→a+m=n→(m-k)*lK n k a P≤(k+1)*lK n (k+1) a P
 |0,k,a,P,_,_=>by rw[Nat.zero_sub,Nat.zero_mul];exact a8H _
 |m+1,0,a,P,d,h=>by
  rw[HD n 0 a Om,LG,LG];have i:=QF n m 0 (a+1) P d Om;rw[LG]at i;cases hp:P []with
  |false=>rw[aD bD];omega
  |true =>have l:P [a]=true:=d [] [a] (λx e=>by cases e) hp;rw[aG hp]at i;rw[aG rfl,aG l];omega
 |m+1,k+1,a,P,d,h=>by
  have A:=QF n m (k+1) (a+1) P d Om;have B:=QF n m k (a+1) (λs=>P (a::s)) (d.cons a) Om;have p:=aDN n (k+1) (a+1) (P:=P) (Q:=λs=>P (a::s)) λs u=>d s (a::s) (λx e=>List.mem_cons_of_mem _ e) u;rw[HD n k a Om,HD n (k+1) a Om];generalize lK n (k+1) (a+1) P=x at *
  generalize lK n (k+1+1) (a+1) P=y at *
  generalize lK n k (a+1) (λs=>P (a::s))=z at *
  generalize lK n (k+1) (a+1) (λs=>P (a::s))=w at *
  rw[show m+1-(k+1)=m-k by omega,a8O,a8O];have E:(m-k)*x≤(m-(k+1))*x+x:=by
   rcases a9A k m with c|c
   ·rw[show m-k=(m-(k+1))+1 by omega,bbI];exact a8E _
   ·rw[show m-k=0 by omega,Nat.zero_mul];exact a8H _
  have e2:(k+1+1)*w=(k+1)*w+w:=bbI _ _;omega
theorem aKP{n k:Nat}{P:List Nat→Bool}(i:Grow P)(h:2*k+1≤n):lK n k 0 P≤lK n (k+1) 0 P:=by
 have d:=QF n n k 0 P i Om;have e:(k+1)*lK n k 0 P≤(n-k)*lK n k 0 P:=a9K _ Om;exact Nat.le_of_mul_le_mul_left (a9F e d) Om
theorem X4(f:aE)(u:List (List Int))(k:Nat)(set:List Int)(m:Int):xu (BU f u k) set m=lK u.length k 0 λs=>decide (((ud (cA ((a8A f.a6O.length).filter (mC u s))) set:Nat):Int)>m):=by
 unfold xu BU lK;rw[List.countP_map];rfl
theorem aFM{f:aE}{u:List (List Int)}{k:Nat}{set:List Int}{m:Int}(h:2*k+1≤Z' u):xu (BU f u k) set m≤xu (BU f u (k+1)) set m:=by
 rw[X4,X4];refine aKP (λs t p y=>?_) h;have A:=of_decide_eq_true y;refine bN ?_;have:ud (cA ((a8A f.a6O.length).filter (mC u s))) set≤ud (cA ((a8A f.a6O.length).filter (mC u t))) set:=by unfold ud;refine List.countP_mono_left λd _ l=>?_;rw[List.contains_iff_mem]at l ⊢;unfold cA at l ⊢;rw[a9B]at l ⊢;obtain⟨x,e,rfl⟩:=l;refine⟨x,?_,rfl⟩;rw[List.mem_filter]at e ⊢;refine⟨e.1,?_⟩;unfold mC at e ⊢;rw[List.any_eq_true]at e ⊢;obtain⟨-,i,hi,w⟩:=e;exact⟨i,p i hi,w⟩
 omega
def lvC(L:Int)(ds:List cX):Nat:=ds.countP λx=>decide (x.level=L)
theorem aNH(f:aE)(L:Int):((a8A f.a6R.length).filter λi=>decide (lvl f i=L)).length=lvC L f.a6R:=by
 rw[←List.countP_eq_length_filter];unfold lvC lvl;have e:∀(ds:List cX),(a8A ds.length).countP (λi=>decide ((ds.map cX.level).getD i 0=L))=ds.countP λx=>decide (x.level=L):=by
  intro ds
  induction ds with
  |nil=>rfl
  |cons d ds l =>rw[a9O,List.range_succ_eq_map,List.countP_cons,List.countP_map,List.countP_cons,←l];rfl
 exact e f.a6R
theorem Se:∀m:Fin 10,∀c:Fin 4,eM (m.val:Int) c.val≤512:=by decide
theorem aIQ(f:aE)(lv:Int):(jY f lv).length=if lv=5 then f.a6O.length else lvC lv f.a6R:=by
 unfold jY;split
 ·simp
 ·rw[a7Z];exact aNH f lv
structure IW(f:aE):Prop where
 ok:f.Ok
 valid:eP f=true
 a6O:Z' f.a6O≤9
 lv:∀L:Int,1≤L→L≤4→lvC L f.a6R≤8
theorem IW.num{f:aE}(h:IW f){lv:Int}(d:1≤lv)(h5:lv≤5):(jY f lv).length≤9:=by
 rw[aIQ];split
 ·exact h.a6O
 ·have:=h.lv lv d Om;omega
theorem IW.ID{f:aE}(h:IW f){lv:Int}(d:1≤lv)(h5:lv≤5){c:Nat}(i:1≤c)(l:c≤3):eK f lv c=0:=by
 have p:=h.num d h5;have e:=Se ⟨(jY f lv).length,by omega⟩ ⟨c,by omega⟩;simp only at e;unfold eK;rw[h.valid,bN d,bN h5,bN (Om:(1:Int)≤(c:Int)),bN (Om:(c:Int)≤3),bbL,bbL,bbL,bbL,aG rfl,baA,aD];have:=h.a6O;omega
theorem IW.all{f:aE}(h:IW f){p:Int}(e:rI f p=true):PX f p=0∧Dm f p=vL f (mY f p):=by
 have d:PX f p=0:=by unfold PX;rw[e,aG rfl,aD];have:=h.a6O;omega
 exact⟨d,by unfold Dm;rw[aG d]⟩
theorem aKD{s:List Nat}{n top:Nat}(l:Z' s=n)(p:∀x∈s,x<top)(u:s.Pairwise (· < ·)):aKC (cA s) n top=true:=by
 unfold aKC;rw[jE,l,bN rfl,a8R];simp only[a8U,a9M];intro i hi;have d:i<Z' s:=Om;have g:(cA s).getD i 0=(s[i]:Nat):=by unfold cA;simp[a8V,d]
 unfold aRH;rw[g];have w:=p _ (a8G d);simp only[a8C,Bool.or_eq_true,decide_eq_true_eq];refine⟨by omega,?_⟩;by_cases c:i=0
 ·exact .inl c
 ·right;have e:i-1<Z' s:=Om;have g2:(cA s).getD (i-1) 0=(s[i-1]:Nat):=by unfold cA;simp[a8V,e]
  rw[g2];have:=List.pairwise_iff_getElem.1 u (i-1) i e d Om;omega
theorem aPF{f:aE}{p:Int}(d:rI f p=true){set:List Int}(h:set∈vL f (mY f p)):aJZ f p set=true∧Z' set≤8:=by
 obtain⟨hV,-⟩:=pd d;have i:=hV.a7A _ (Iw d).1;unfold vL at h;rw[List.mem_filter]at h;obtain⟨l,u⟩:=h;obtain⟨s,w,rfl⟩:=a9B.1 l;obtain⟨k1,k2,A⟩:=xL _ _ _ _ w;have e:((BV (mY f p)).toNat:Int)=BV (mY f p):=by unfold BV;omega
 have:=aKD k1 (λx y=>(k2 x y).2) A;rw[e]at this;refine⟨by unfold aJZ;rw[d,this,u];rfl,?_⟩;rw[jE,k1];unfold BV;omega
theorem IW.more{f:aE}(h:IW f){p:Int}(u:rI f p=true){lv:Int}(e:1≤lv)(h5:lv≤5){c:Nat}(l:1≤c)(y:c≤2)(w:2*c+1≤(jY f lv).length){set:List Int}(x:set∈vL f (mY f p)) :
  SG f p set lv c=0∧SG f p set lv ((c+1:Nat):Int)=0∧azL f p set lv c≤azL f p set lv ((c+1:Nat):Int):=by
 have s1:=h.ID e h5 l (Om:c≤3);have s2:=h.ID e h5 (Om:1≤c+1) (Om:c+1≤3);obtain⟨i,-⟩:=aPF u x;have d:SG f p set lv c=0:=by unfold SG;rw[s1,i];rfl
 have e2:SG f p set lv ((c+1:Nat):Int)=0:=by unfold SG;rw[s2,i];rfl
 refine⟨d,e2,?_⟩;unfold azL vJ;rw[aG d,aG e2,aG s1,aG s2,baA,baA];exact aFM w

abbrev T4:List PV:=[.aF,.aF,.aF,.bool false,.aF,.aF]
structure Qh(C:Ctx):Prop where
 fleet:∀(l:List Nat),(∀x∈l,x<256)→Z' l≤9223372036854775807→∀a6O a6Q:Nat,a6O≤60→a6Q≤50 →
  aH C 27 [.sl 1 (nL l),.int .i64 a6O,.int .i64 a6Q] .nil (aK (.agg (lM (l.take 400) a6O a6Q 0).1.cells))
 ID:∀(f:aE)(lv cnt:Int),f.Ok→aH C 230 [.agg f.cells,oV lv cnt] .nil (aK (.tup [lay (vJ f lv cnt),.int .i64 (eK f lv cnt)]))
theorem awH{C:Ctx}(L:Qh C)(f:aE)(l:f.Ok)(lv d:Int)(i:eK f lv d≠0) :
  LH.wp C (aY Sy.res (aK (.tup [.agg T4,.int .i64 (eK f lv d)]))) (PF.args [.agg f.cells,oV lv d,.aF]) .nil:=by
 have k1:=L.ID f lv d l;generalize eK f lv d=e at *
 simp only[go_sem,LH,G9,Sy];refine aR λo p=>?_;simp only[go_sem,Ha];refine aB k1 Sq ?_;simp only[go_sem,Hb,eC i,Hc];refine aX (.inr rfl) (vs:=[.agg T4,.int .i64 e]) ?_ rfl;simp only[go_sem]
theorem aiE{C:Ctx}(L:Qh C)(f:aE)(l:f.Ok)(lv d:Int)(i:eK f lv d≠0) :
  HE.wp C (aY Dr.res (aK (.bool false))) (PF.args [.agg f.cells,oV lv d,.aF,.aF]) .nil:=by
 have k1:=L.ID f lv d l;generalize eK f lv d=e at *
 simp only[go_sem,HE,u0,Dr,u5];refine aB k1 Sq ?_;simp only[go_sem,u6,eC i,u7];exact pC Sq rfl
structure aCY(C:Ctx):Prop extends Qh C where
 solve:∀(f:aE)(lv cnt:Int),f.Ok→eK f lv cnt≠0→aH C 333 [.agg f.cells,oV lv cnt,.aF] .nil (aK (.tup [.agg T4,.int .i64 (eK f lv cnt)]))
 priced:∀(f:aE)(lv cnt:Int),f.Ok→eK f lv cnt≠0→aH C 330 [.agg f.cells,oV lv cnt,.aF,.aF] .nil (aK (.bool false))
def chT(n k a i:Nat):List (List Nat):=(baI a (i-a)).flatMap λx=>(dU n k (x+1)).map (x::·)
theorem aKL(n k a:Nat):chT n k a a=[]:=by unfold chT;rw[baV];rfl
theorem aKK(n k a:Nat){i:Nat}(h:a≤i):chT n k a (i+1)=chT n k a i++(dU n k (i+1)).map (i::·):=by
 unfold chT;rw[show i+1-a=(i-a)+1 by omega,List.range'_concat,List.flatMap_append,Nat.one_mul,show a+(i-a)=i by omega];simp
theorem aKJ(n k a i:Nat)(h:i=a∨i≤n-k)(d:n≤i+k):chT n k a i=dU n (k+1) a:=by
 unfold chT;rw[dU,show i-a=n-k-a by omega]
theorem aWT(n k a:Nat){i:Nat}(h:a≤i)(l:i+k<n):(chT n k a (i+1)).length≤(dU n (k+1) a).length:=by
 obtain⟨d,e⟩:∃d,n-k-a=(i+1-a)+d:=⟨n-k-a-(i+1-a),by omega⟩;unfold chT;rw[dU,e,←List.range'_append (s:=a) (m:=i+1-a) (n:=d) (step:=1),List.flatMap_append,a8F];omega
def nZ(l:List (List Nat)):List (List Int):=l.map cA
theorem aNW(a b:List (List Nat)):nZ (a++b)=nZ a++nZ b:=a8Z
theorem zj{C:Ctx}(k a n:Nat)(hk:k≤10)(ha:a≤1000)(hn:n≤40)(rec:∀E X:Nat,E≤1000→k=X+1→aH C 215 [.int .i64 E,.int .i64 n,.int .i64 X] .nil (aK (lay (nZ (dU n X E))))) :
  zO.wp C (aY ik.res (cN (lay (nZ (dU n k a))))) (PF.args [.int .i64 a,.int .i64 n,.int .i64 k]) .nil:=by
 cases k with
 |zero =>simp only[go_sem,zO,TY,TZ,cC (show((0:Nat):Int)=0 from rfl),zk,ik];refine bE (.inr rfl) .nil (vs:=[.sl 1 [[.aF]]]) Sq a_ ⟨?_,rfl⟩;exact(tL.nil.snoc (u:=.aF) (w:=[]) (.inr ⟨rfl,rfl⟩)).co
 |succ k=>
  have M:=λ(E:Nat)(h:E≤1000)=>rec E k h rfl;clear rec;have ζ:=IG n (k+1) a;have Z:2^(n-a)≤2^40:=bbU Om Om;have β:(2:Nat)^40=1099511627776:=by decide
  have wk:IntKind.i64.wrap (((k+1:Nat):Int)-1)=(k:Int):=by rw[wrap_i64 Om Om];omega
  simp only[go_sem,zO,TY,TZ,bO (Om:((k+1:Nat):Int)≠0),zl,zm,ik];refine wp_loop (α:=Nat × PV × WPs × PH) (λs=>((((PF.nil.set 1 (.int .i64 n)).set 2 (.int .i64 (k+1:Nat))).set 7 (s.2.1)).set 8 (.int .i64 s.1))) (λs=>s.2.2.2) (λs=>a≤s.1∧(s.1=a∨s.1≤n-k)∧wls s.2.2.1=nZ (chT n k a s.1)∧aT s.2.2.2 [] (eZ s.2.1 s.2.2.1)) (λs=>n-s.1) (a,.aF,[],.nil) ⟨a8E _,.inl rfl,by simp only;rw[aKL];rfl,aT.ES aT.nil⟩ Lq b_ ?_;rintro⟨i,Q,ps,H⟩ ⟨A,K,p,y⟩;simp only at A K p y;have wi:IntKind.i64.wrap ((i:Int)+((k+1:Nat):Int))=(i:Int)+((k+1:Nat):Int):=wrap_i64 Om Om;simp only[go_sem,ko,zn,wi];by_cases c:i+(k+1)≤n
  ·have S:(i:Int)+((k+1:Nat):Int)≤(n:Nat):=Om;have d:=aKK n k a A;have J:=aWT n k a A (Om:i+k<n);have hr:=M (i+1) Om;have F:=xL n k (i+1);generalize dU n k (i+1)=R at *
   have γ:Z' R≤1099511627776:=by rw[d,a8F,a7Z]at J;omega
   simp only[go_sem,S,zo,wZz i,wk];refine aB hr Sq ?_;simp only[go_sem,zp];refine wp_loop (α:=Nat × PV × WPs × PH) (λs=>((((((PF.nil.set 1 (.int .i64 n)).set 2 (.int .i64 (k+1:Nat))).set 7 (s.2.1)).set 8 (.int .i64 i)).set 9 (lay (nZ R))).set 10 (.int .i64 s.1))) (λs=>s.2.2.2) (λs=>s.1≤Z' R∧wls s.2.2.1=nZ (chT n k a i++(R.take s.1).map (i::·))∧aT s.2.2.2 [] (eZ s.2.1 s.2.2.1)) (λs=>Z' R-s.1) (0,Q,ps,H) ⟨a8H _,by simp only;rw[p];simp,y⟩ Lq b_ ?_;clear p y;rintro⟨j,Q,ps,H⟩ ⟨hj,p,y⟩;simp only at hj p y;have B:(nZ R).length=Z' R:=a7Z _;simp only[go_sem,kn,zq,a7Z,B];by_cases x:j<Z' R
   ·have l:(j:Int)<(Z' R:Nat):=Om;have V:((nZ R).map λr=>[ints r])[j]?=some [ints (cA R[j])]:=by unfold nZ;simp[x]
    have W:R.take (j+1)=R.take j++[R[j]]:=baC x;have ε:=(F _ (a8G x)).1;have δ:Z' ps≤1099511627776:=by have U:=congrArg List.length p;rw[BJ]at U;unfold nZ at U;rw[a7Z,a8F,a7Z,a8S]at U;rw[d,a8F,a7Z]at J;omega
    generalize R[j]=r at *
    simp only[go_sem,l,zr];refine aR λo ho=>?_;have h2:=y.aAB (s:=1) (rows:=bA [(i:Int)]) ho;simp only[go_sem,l,B,a7Z,V];refine h2.append (Z' ps+1) (rows:=bA [(i:Int)]) (src:=bA (cA r)) (GH _ _ _ (JU _ _)) rfl (by unfold roomFor;rw[dN,dN,jE];simp only[a8J,maxLen];omega) λv' H' O _=>?_;have N:bA [(i:Int)]++bA (cA r)=bA (cA (i::r)):=rfl;rw[N]at O;have hO:bJ H' 1 v' (bA (cA (i::r))):=O.own (Z' ps+1) (by rw[List.getElem?_set_self (by rw[a8F,JU];simp)]);rcases hO with⟨h0,-⟩|⟨q,rs,rfl,-,-,-⟩
    ·cases h0
    rw[bbB _ _ (by rw[JU];exact a8E _),JU,baV]at O;simp only[go_sem,a8M,a8W,or_false,forall_eq];refine O.append 0 (rows:=eI ps) (src:=[[PV.osl q 1 0 (bA (cA (i::r))).length]]) rfl Sq (by unfold roomFor;rw[pF];simp only[a8J,maxLen];omega) λY H2 h4 _=>?_;simp only[go_sem,kp,wZz j];refine aJ (j+1,Y,ps++[(PV.osl q 1 0 (bA (cA (i::r))).length,cA (i::r))],H2) ⟨x,?_,?_⟩ (by simp only;omega) (by(repeat' (first|exact d_|refine c_ ?_ ?_))<;>first|(simp only[go_sem,B]<;>rfl)|rfl) b_
    ·simp only;rw[W,a8Z,←a9G,aNW,←p];unfold wls;rw[a8Z];rfl
    ·have e:eZ Y (ps++[(PV.osl q 1 0 (bA (cA (i::r))).length,cA (i::r))])=((eZ Q ps)++[(PV.osl q 1 0 (bA (cA (i::r))).length,1,bA (cA (i::r)))]).set 0 (Y,1,eI ps++[[PV.osl q 1 0 (bA (cA (i::r))).length]]):=by unfold eZ eI rH;rw[a8Z,a8Z];rfl
     simp only;rw[e];exact h4
   ·have l:¬(j:Int)<(Z' R:Nat):=Om;have:j=Z' R:=Om;subst this;rw[a9E,←d]at p;simp only[go_sem,l,kr,wZz i];exact aJ (i+1,Q,ps,H) ⟨by simp only;omega,.inr (by simp only;omega),p,y⟩ (by simp only;omega) Lq b_
  ·have S:¬(i:Int)+((k+1:Nat):Int)≤(n:Nat):=Om;rw[aKJ n k a i K Om]at p;simp only[go_sem,S,ku];rw[←p];exact UE (.inr rfl) Sq y


def zz(d:List (List Int)):List (List PV):=d.map λw=>[ints w]
theorem aHM(d:List (List Int)):(zz d).length=Z' d:=a7Z _
structure Q7(C:Ctx):Prop where
 valid:∀f:aE,f.Ok→aH C 67 [.agg f.cells] .nil (aK (.bool (eP f)))
 choose:∀k a n:Nat,k≤10→a≤1000→n≤40→aH C 215 [.int .i64 a,.int .i64 n,.int .i64 k] .nil (aK (lay (nZ (dU n k a))))
 a6O:∀(f:aE)(dom:Int),f.Ok→aH C 81 [.agg f.cells,.int .i64 dom] .nil (aK (ints (OU f dom)))
 has:∀(l:List Int)(x:Int),Z' l≤1000000000000000→aH C 218 [ints l,.int .i64 x] .nil (aK (.bool (l.contains x)))
theorem aiV{f:aE}(d:eP f=true){lv:Int}{i:Nat}(hi:i<Z' f.a6R)(h:lvl f i=lv):OU f i=cA (rG f lv f.a6O.length i):=by
 unfold OU;rw[aG ⟨d,by omega,by omega⟩];subst h;rfl
def EX(f:aE)(lv:Int)(k:Nat):List (List Int):=((a8A k).filter (RY f lv)).map λi=>cA (rG f lv f.a6O.length i)
theorem aAY(f:aE)(lv:Int)(k:Nat):EX f lv (k+1)=if lvl f k=lv then EX f lv k++[cA (rG f lv f.a6O.length k)]else EX f lv k:=by
 unfold EX;rw[bbT,List.filter_append,a8Z];by_cases h:lvl f k=lv
 ·rw[aG h];simp[RY,h]
 ·rw[aD h];simp[RY,h]
theorem aHN(f:aE)(lv:Int)(k:Nat):(EX f lv k).length≤k:=by
 unfold EX;rw[a7Z];exact a9F (List.length_filter_le ..) bD
theorem aHS{C:Ctx}(L:Q7 C)(f:aE)(B:f.Ok)(y:eP f=true)(lv:Int)(F:1≤lv)(h5:lv≤5) :
  MW.wp C (aY acB.res (cN (lay (jY f lv)))) (PF.args [.agg f.cells,.int .i64 lv]) .nil:=by
 have hV:=VF.of y;have J:=hV.small.a6O;have A:=hV.small.a6R;simp only[go_sem,MW,Lk,Ll,Lm,acB];by_cases w:lv=5
 ·subst w;rw[N9];simp only[go_sem,cC (show(5:Int)=5 from rfl),Ln];refine wp_loop (α:=Nat × PV × PH) (λs=>(((PF.nil.set 2 (.bM f.cells)).set 5 (s.2.1)).set 6 (.int .i64 s.1))) (λs=>s.2.2) (λs=>s.1≤Z' f.a6O∧bJ s.2.2 1 s.2.1 (EW s.1)) (λs=>Z' f.a6O-s.1) (0,.aF,.nil) ⟨a8H _,.nil⟩ Lq b_ ?_;rintro⟨k,v,H⟩ ⟨x,p⟩;simp only at x p;simp only[go_sem,Lj,Lo,a7Z];by_cases hlt:k<Z' f.a6O
  ·have d:(k:Int)<(Z' f.a6O:Nat):=Om;simp only[go_sem,d,Lp];refine jD (src:=[[ints [(k:Int)]]]) p (by simp only[go_sem];rfl) (by unfold roomFor;rw[Ky];simp only[a8J,maxLen];omega) λv' H' l _=>?_;rw[←zy]at l;simp only[go_sem,Lr,wZz k];exact aJ (k+1,v',H') ⟨hlt,l⟩ (by simp only;omega) Lq b_
  ·have d:¬(k:Int)<(Z' f.a6O:Nat):=Om;have:k=Z' f.a6O:=Om;subst this;simp only[go_sem,d,Lt];exact oZ (.inr rfl) p Sq
 rw[sk f w];simp only[go_sem,bO w,Lu];refine wp_loop (α:=Nat × PV × PH) (λs=>((((PF.nil.set 1 (.int .i64 lv)).set 2 (.bM f.cells)).set 5 (s.2.1)).set 7 (.int .i64 s.1))) (λs=>s.2.2) (λs=>s.1≤Z' f.a6R∧bJ s.2.2 1 s.2.1 (zz (EX f lv s.1))) (λs=>Z' f.a6R-s.1) (0,.aF,.nil) ⟨a8H _,.nil⟩ Lq b_ ?_;rintro⟨k,v,H⟩ ⟨x,p⟩;simp only at x p;simp only[go_sem,Aa,Ab,a7Z];by_cases hlt:k<Z' f.a6R
 ·have d:(k:Int)<(Z' f.a6R:Nat):=Om;have i:=aAY f lv k;have E:=aHN f lv k;simp only[go_sem,d,Ac,iY hlt,CS hlt];by_cases c:lvl f k=lv
  ·rw[aG c]at i;have u:=L.a6O f k B;rw[aiV y hlt c]at u;simp only[go_sem,cC c,Ad];refine aB u Sq ?_;simp only[go_sem];refine jD (src:=[[ints (cA (rG f lv f.a6O.length k))]]) p Sq (by unfold roomFor;rw[aHM];simp only[a8J,maxLen];omega) λv' H' l _=>?_;have e:zz (EX f lv k)++[[ints (cA (rG f lv f.a6O.length k))]]=zz (EX f lv (k+1)):=by rw[i];unfold zz;rw[a8Z];rfl
   rw[e]at l;simp only[go_sem,UJ,wZz k];exact aJ (k+1,v',H') ⟨hlt,l⟩ (by simp only;omega) Lq b_
  ·rw[aD c]at i;rw[←i]at p;simp only[go_sem,bO c,UJ,wZz k];exact aJ (k+1,v,H) ⟨hlt,p⟩ (by simp only;omega) Lq b_
 ·have d:¬(k:Int)<(Z' f.a6R:Nat):=Om;have:k=Z' f.a6R:=Om;subst this;simp only[go_sem,d,Ae];exact oZ (.inr rfl) p Sq
end Go.PM
