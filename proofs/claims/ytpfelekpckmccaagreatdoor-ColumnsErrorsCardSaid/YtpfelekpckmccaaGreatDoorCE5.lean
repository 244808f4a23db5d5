/-
  Texts of ours, joined. No condition.
-/
import Derived.Test.YtpfelekpckmccaaGreatDoorCE1
import Derived.Test.YtpfelekpckmccaaGreatDoorCE2
import Derived.Test.YtpfelekpckmccaaGreatDoorCE3
import Derived.Test.YtpfelekpckmccaaGreatDoorCE4
import Derived.Test.YtpfelekpckmccaaGreatDoorRows
import Derived.Test.YtpfelekpckmccaaGreatDoorProg
import Derived.KernelRfl
import Derived.ProofKit
import Derived.WalkKit
import Derived.LaidMore
import Derived.OpenShut
import Derived.Stop.Joined
import Derived.Lib.SlicesCompact
import Derived.Shelf.Sort.Plain
import Derived.Shelf.Slices.CompactI
import Derived.Shelf.Slices.In.SortNone
set_option linter.unusedSimpArgs false
set_option linter.unusedVariables false
open Nat renaming reduceEqDiff→γ,reduceAdd→δ,reduceSub→ε,reduceMul→ζ,reduceLT→η,reduceLeDiff→θ,reduceBEq→τ
open Int renaming reduceLT→ι,reduceLE→κ,reduceEq→μ,reduceToNat→ν,reduceAdd→ξ,reduceNeg→ο,reduceBEq→ρ,reduceBNe→σ
open List renaming reduceReplicate→υ
open List renaming length_map→awL,replicate→awO,length_append→awQ,getElem_mem→awS,mem_cons→awT,range→awU,length_singleton→awV,getElem?_eq_getElem→awX,length_take→axC,not_mem_nil→axD,mem_map→axG,getElem?_map→axH,all_eq_true→axK,map_cons→axL,getElem?_eq_some_iff→axO,map_append→axQ,getElem?_eq_none→axV,append_assoc→axX,getD_eq_getElem?_getD→axY,mem_append→ayA,mem_range→ayB,take_length→ayC,length_cons→ayF,map_nil→ayI,getElem_of_mem→ayK,length_drop→ayL,length_set→ayM,mem_of_getElem?→ayN,append_nil→ayO,range'→ayP,getElem_map→ayR,drop_eq_getElem_cons→ayS,Sublist→ayV,getElem?_append_right→ayW,mem_singleton→ayX,length_nil→azB,getElem?_append_left→azD,map_congr_left→azF,nodup_append→azG,take_succ_eq_append_getElem→azH,map_map→azL,map_take→azM,take_append_drop→azN,ext_getElem→azS,set_append_right→azT,getElem?_drop→aAF,set_cons_zero→aAG,getElem_append_right→aAH,mem_or_eq_of_mem_set→aAI
open Nat renaming gcd→awM,le_refl→awP,mul_add→awW,lt_or_ge→axA,zero_le→axB,zero_add→axJ,mul_le_mul_right→axS,le_trans→axT,beq→ayG,pow_succ→ayH,add_assoc→ayY,eq_zero_or_pos→azE,div_le_self→azO,sub_self→azP,succ_mul→azQ,mul_le_mul→azY
open Bool renaming and_eq_true→awN,false_and→awY,not_true→awZ,true_and→axN,not_false→axP,and_false→ayE,false_eq_true→ayQ,and_true→azC
open Option renaming map_some→axF,some→axZ,bind_some→azU,getD_some→azV
open Int renaming toNat_natCast→ayU
open List renaming length→Z'
set_option maxRecDepth 100000
set_option maxHeartbeats 800000
noncomputable section
namespace Go.Proofs.YtpfelekpckmccaaGreatDoor
open Go Go.PM Go.RowKit Go.ChangeShapes Go.WideShapes
noncomputable def C:Ctx:=⟨Tryz.prog,num⟩
def RB:Code→Option (Code × Code)
 | .rangeFunc _ _ a b=>some (a,b)
 | .seq a b=>match RB a with|some x=>some x|none=>RB b
 | .block _ c=>RB c
 |_=>none
def agZ(c:Option Code):Code:=match c with|some c=>((RB c).getD (.skip,.skip)).1|none=>.skip
def ahA(c:Option Code):Code:=match c with|some c=>((RB c).getD (.skip,.skip)).2|none=>.skip
theorem cQ(T:Tbl){k:Nat}{fn:Func}{pf:bH}(l:C.P.funcs[C.num k]?=some fn)(e:C.P=T.P:=by rfl)(d:C.num=T.num:=by rfl)(u:(fn.name=="runtime.NumGoroutine")=false:=by kernel_rfl)(i:T.func fn=some pf:=by kernel_rfl):cK C k pf:=λ_ _ _ p h=>rg e d l u i p h
theorem ahC(T:Tbl){k:Nat}{fn:Func}{pf:AR}(l:C.P.funcs[C.num k]?=some fn)(i:T.T4 fn=some pf)(e:C.P=T.P:=by rfl)(d:C.num=T.num:=by rfl)(u:(fn.name=="runtime.NumGoroutine")=false:=by kernel_rfl):bn C k pf:=λ_ _ _ p h=>Tt e d l u i p h
theorem Tryz.own:ownKnob Tryz.prog.godebug=none:=by kernel_rfl
theorem Tryz.laidOut:laidOutB Tryz.prog=true:=by kernel_rfl
theorem itoa:yI C:=λn p=>by
 refine⟨⟨Tryz.f122,Tryz.func122,by kernel_rfl,by kernel_rfl⟩,λE w vs u hW d=>?_⟩;obtain⟨x⟩:=vs;cases d with
 |cons i e2=>
 cases e2;cases i;refine(Any.strconv_Itoa_small Tryz.ajB n p w).mono λe y l=>?_;obtain⟨rfl,rfl⟩:=l;exact⟨_,.str (cB n),E,.nil,rfl,hW,.str ⟨(Lib.decDigits n).toArray⟩,.refl _ _ _,rfl,rfl⟩
theorem W9{pv:PV}(h:PV.Ty (.sl [.int .u8]) pv):∃l:List Nat,pv=.sl 1 (lF l)∧(∀x∈l,x<256)∧Z' l≤9223372036854775807:=by
 obtain⟨xs,rfl,w,e⟩:=Ty.adJ h;refine⟨xs.map Int.toNat,?_,?_,?_⟩
 ·unfold Us lF;rw[azL];congr 1;refine azF λx i=>?_;have:=(e x i).1;simp only[Function.comp];rw[Int.toNat_of_nonneg this]
 ·intro y p;obtain⟨x,d,rfl⟩:=axG.1 p;have:=(e x d).2;have u:=(e x d).1;have d:IntKind.u8.max=255:=by decide
  rw[d]at this;omega
 ·rw[awL];have:maxLen≤9223372036854775807:=by decide
  omega
end Go.Proofs.YtpfelekpckmccaaGreatDoor
namespace Go.PM
open Go Go.Na
theorem oG{f:aM}(h:VF f){i:Nat}(hi:i<Z' f.avD):0≤lvl f i∧lvl f i≤4:=by
 rcases azE i with e|e
 ·rw[e,h.root.2.1];omega
 ·have:=h.dom i e hi;omega


theorem On(a b:Nat):mkT (a:Int) (b:Int)=⟨false,aK (a/awM a b),aK (b/awM a b)⟩:=by
 have d:decide ((a:Int)<0)=false:=cU Om;have e:decide ((b:Int)<0)=false:=cU Om;unfold mkT EI FV.rf;rw[d,e,Int.natAbs_natCast,Int.natAbs_natCast];rfl
structure SmF(x:RF)(p q:Nat):Prop where
 eq:x=⟨false,aK (p/awM p q),aK (q/awM p q)⟩
 a:p≤64
 b:q≤64
 pos:0<q
theorem SmF.mk'{a b:Nat}(d:a≤64)(hb:b≤64)(h:0<b):SmF (mkT (a:Int) (b:Int)) a b:=⟨On a b,d,hb,h⟩
theorem SmF.num{x:RF}{a b:Nat}(h:SmF x a b):val x.num=a/awM a b:=by rw[h.eq,bB]
theorem SmF.den{x:RF}{a b:Nat}(h:SmF x a b):val x.den=b/awM a b:=by rw[h.eq,bB]
theorem SmF.v{x:RF}{a b:Nat}(h:SmF x a b):x.v=(false,a/awM a b,b/awM a b):=by
 unfold RF.v;rw[h.num,h.den,h.eq]
theorem SmF.Gt{x:RF}{a b:Nat}(_:SmF x a b):a/awM a b≤a:=azO ..
theorem SmF.zz{x:RF}{a b:Nat}(_:SmF x a b):b/awM a b≤b:=azO ..
theorem SmF.den_pos{x:RF}{a b:Nat}(h:SmF x a b):0<b/awM a b:=Nat.div_pos (Nat.le_of_dvd h.pos (Nat.gcd_dvd_right a b)) (Nat.gcd_pos_of_pos_right a h.pos)
theorem zX{n:Nat}(h:n≤4096):cS n≤32:=(nN n 32).2 Om
theorem J0{n:Nat}(h:0<n):0<cS n:=by
 rcases azE (cS n)with e|e
 ·rw[lG]at e;omega
 ·exact e
theorem vY{a b:Nat}(e:a≤4096)(hb:b≤4096)(h:0<b):eO a b=true:=by
 have i:=zX e;have l:=zX hb;have d:=J0 h;unfold eO;rw[bQ d,bQ (Om:cS b≤4096),bQ (Om:cS a≤4096)];rfl
theorem Og{n:Bool}{a b:Nat}(d:a≤4096)(hb:b≤4096):nM n a b=.ok (n&&decide (a/awM a b≠0),a/awM a b,b/awM a b):=by
 have e:=zX (axT (azO a (awM a b)) d);have i:=zX (axT (azO b (awM a b)) hb);unfold nM;rw[aC Om]
theorem SmF.lim{x:RF}{a b:Nat}(h:SmF x a b):jA x=true:=by
 have l:=h.Gt;have p:=h.zz;have d:=h.den_pos;have:=h.a;have:=h.b;have e:x.neg=false:=by rw[h.eq]
 unfold jA BS;rw[h.num,h.den,e,vY Om Om d,aF rfl,Og Om Om];have i:=azO (a/awM a b) (awM (a/awM a b) (b/awM a b));have e2:=azO (b/awM a b) (awM (a/awM a b) (b/awM a b));simp only[awY,axP,axN,awN,decide_eq_true_eq];exact⟨zX Om,zX Om⟩
theorem SmF.wW{x:RF}{a b:Nat}(h:SmF x a b)(d:0<a):cE x=true:=by
 unfold cE;rw[h.num];exact bQ (Nat.ne_of_gt (Nat.div_pos (Nat.le_of_dvd d (Nat.gcd_dvd_left a b)) (Nat.gcd_pos_of_pos_right a h.pos)))
theorem SmF.zero{x:RF}{b:Nat}(h:SmF x 0 b):cE x=false:=by
 unfold cE;rw[h.num,Nat.zero_div];rfl
theorem SmF.one{x:RF}{a b:Nat}(h:SmF x a b)(d:a≤b):ZR x=true:=by
 have l:=h.Gt;have p:=h.zz;have e:=h.den_pos;have:=h.a;have:=h.b;have i:x.neg=false:=by rw[h.eq]
 unfold ZR;rw[h.num,h.den,i,vY Om Om e];have:a/awM a b≤b/awM a b:=Nat.div_le_div_right d;show(true&&decide (eT (a/awM a b*1) (1*(b/awM a b))≤0))=true;rw[Nat.mul_one,Nat.one_mul,axN];refine bQ ?_;unfold eT;split
 ·decide
 ·split
  ·omega
  ·decide
theorem SmF.ok{x:RF}{a b:Nat}(h:SmF x a b):x.Ok:=by
 have d:=h.Gt;have e:=h.zz;have:=h.a;have:=h.b;have k1:nl (a/awM a b)≤1:=(kC _ _).2 Om;have k2:nl (b/awM a b)≤1:=(kC _ _).2 Om;rw[h.eq];refine⟨bG _,bG _,?_,?_⟩
 ·show(aK _).length≤_;rw[bP];omega
 ·show(aK _).length≤_;rw[bP];omega
theorem ahW:∀c:Fin 9,∀k:Fin 9,c.val+k.val≤8 →
  (c.val/awM c.val 8*(8/awM k.val 8)+k.val/awM k.val 8*(8/awM c.val 8))/awM (c.val/awM c.val 8*(8/awM k.val 8)+k.val/awM k.val 8*(8/awM c.val 8)) (8/awM c.val 8*(8/awM k.val 8))=(c.val+k.val)/awM (c.val+k.val) 8 ∧
  8/awM c.val 8*(8/awM k.val 8)/awM (c.val/awM c.val 8*(8/awM k.val 8)+k.val/awM k.val 8*(8/awM c.val 8)) (8/awM c.val 8*(8/awM k.val 8))=8/awM (c.val+k.val) 8:=by decide +kernel
abbrev eV(c:Nat):FV:=(false,c/awM c 8,8/awM c 8)
theorem UB(c:Nat):0<8/awM c 8:=Nat.div_pos (Nat.le_of_dvd aV (Nat.gcd_dvd_right c 8)) (Nat.gcd_pos_of_pos_right c aV)
theorem yi{c k:Nat}(h:c+k≤8):lW (eV c) (eV k)=.ok (eV (c+k)):=by
 obtain⟨d,e2⟩:=ahW ⟨c,by omega⟩ ⟨k,by omega⟩ h;simp only at d e2;have a1:=azO c (awM c 8);have a2:=azO k (awM k 8);have a3:=azO 8 (awM c 8);have a4:=azO 8 (awM k 8);have e:=UB c;have i:=UB k;simp only[lW];rw[vY Om Om e,vY Om Om i,Bool.and_self,aF rfl,aF trivial];have b1:c/awM c 8*(8/awM k 8)≤8*8:=azY Om a4;have b2:k/awM k 8*(8/awM c 8)≤8*8:=azY Om a3;have l:8/awM c 8*(8/awM k 8)≤8*8:=azY a3 a4;rw[Og Om Om,d,e2];rfl
theorem RL:∀(l:List Nat)(c:Nat),c+l.sum≤8→(l.map eV).foldlM lW (eV c)=.ok (eV (c+l.sum))
 |[],c,_=>rfl
 |k::l,c,h=>by rw[List.sum_cons]at h;rw[axL,List.foldlM_cons,yi Om,List.sum_cons,←ayY];exact RL l (c+k) Om
theorem ahV:eV 0=(false,0,1):=by decide +kernel
theorem acE:eV 8=(false,1,1):=by decide +kernel
theorem akL(l:List Nat)(h:l.sum=8):(match tJ (l.map eV)with
  | .ok (n,a,b)=>decide (BO n a b false 1 1=0)
  | .error _=>false)=true:=by
 unfold tJ;rw[←ahV,RL l 0 Om,axJ,h,acE];rfl
def dig(k:Nat):List UInt8:=if k<10 then[UInt8.ofNat (48+k)]else[UInt8.ofNat (48+k/10),UInt8.ofNat (48+k%10)]
def TV:List UInt8→Nat
 |[a]=>a.toNat-48
 |[a,b]=>(a.toNat-48)*10+(b.toNat-48)
 |_=>0
theorem PE{k:Nat}(h:k<100):cB k=dig k:=by
 unfold cB dig;by_cases d:k<10
 ·rw[aF d];exact Lib.decDigits_one d
 ·rw[aC d];exact Lib.decDigits_two d h
theorem Aa:∀k:Fin 100,TV (dig k.val)=k.val∧(dig k.val).length≤2∧((dig k.val).all λc=>jY c.toNat)=true:=by decide +kernel
theorem mr{p:List UInt8}{c:UInt8}{t:List UInt8}(e:p=c::t)(i:jZ c.toNat=true)(w:(t.all λc=>jY c.toNat)=true)(x:Z' p≤8){k:Nat}(l:k<100):isName (p++cB k)=true:=by
 obtain⟨-,u,d⟩:=Aa ⟨k,l⟩;simp only at u d;subst e;rw[PE l];show(decide ((c::t++dig k).length≤16)&&jZ c.toNat&&(c::t++dig k).all λc=>jY c.toNat)=true;have hi:jY c.toNat=true:=by unfold jY;rw[i];rfl
 rw[bQ (by rw[awQ];omega),i,List.all_append,d,List.all_cons,w,hi];rfl
theorem UA{l:List (List UInt8)}(d:∀x∈l,isName x=true)(p:l.Nodup):distinct l=true:=by
 unfold distinct;rw[axK];intro i hi;rw[ayB]at hi;have e:l.getD i []=l[i]:=by simp[axY,hi]
 rw[e,d _ (awS hi),axN];have:¬l[i]∈l.take i:=by intro w;obtain⟨j,u,e⟩:=ayK w;rw[axC]at u;rw[List.getElem_take]at e;have:=(List.nodup_iff_pairwise_ne.1 p);rw[List.pairwise_iff_getElem]at this;exact this j i Om hi Om e
 simp[this]
theorem QC{l:List (List UInt8)}{g:List UInt8→Nat}(h:∀i (hi:i<Z' l),g l[i]=i):l.Nodup:=by
 rw[List.nodup_iff_pairwise_ne,List.pairwise_iff_getElem];intro i j hi p hlt e;have d:=h i hi;have u:=h j p;rw[e]at d;omega
theorem uR{l:List (List UInt8)}{p:List UInt8}{c:UInt8}{t:List UInt8}(e:p=c::t)(d:jZ c.toNat=true)(w:(t.all λc=>jY c.toNat)=true)(u:Z' p≤8)(A:Z' l≤100)(h:∀i (hi:i<Z' l),l[i]=p++cB i):distinct l=true:=by
 refine UA ?_ (QC (g:=λs=>TV (s.drop p.length)) ?_)
 ·intro x y;obtain⟨i,hi,rfl⟩:=ayK y;rw[h i hi];exact mr e d w u Om
 ·intro i hi;rw[h i hi];simp only[List.drop_left];rw[PE Om];exact(Aa ⟨i,by omega⟩).1
structure uH(x:RF):Prop where
 lim:jA x=true
 ok:x.Ok
theorem SmF.o{x:RF}{a b:Nat}(h:SmF x a b):uH x:=⟨h.lim,h.ok⟩
theorem rF:SmF kW 0 1:=SmF.mk' (a:=0) (b:=1) aV aV aV
theorem tB(l:List Nat)(a:Nat):uH (fX l a).1∧cE (fX l a).1=true:=by
 have d:=cL l (show 0<6 by decide) a;have e:=cL l (show 0<8 by decide) (aE l 6 a).2;have:=SmF.mk' (a:=1+(aE l 6 a).1) (b:=1+(aE l 8 (aE l 6 a).2).1) Om Om Om;exact⟨this.o,this.wW Om⟩
theorem abM(l:List Nat)(i j a:Nat):uH (kB l i j a).1∧(j=i→cE (kB l i j a).1=false)∧(j=i+1→cE (kB l i j a).1=true):=by
 unfold kB;by_cases d:j=i+1
 ·rw[aF d];exact⟨(tB l a).1,λh=>by omega,λ_=>(tB l a).2⟩
 ·rw[aC d];by_cases e:j=i
  ·rw[aF e];exact⟨rF.o,λ_=>rF.zero,λh=>absurd h d⟩
  ·rw[aC e];simp only;split
   ·exact⟨(tB l _).1,λh=>absurd h e,λh=>absurd h d⟩
   ·exact⟨rF.o,λh=>absurd h e,λh=>absurd h d⟩
theorem Qn(l:List Nat)(i a:Nat):∀n,(eA l i a n).1.length=n∧∀j (d:j<(eA l i a n).1.length),uH (eA l i a n).1[j]∧(j=i→cE (eA l i a n).1[j]=false)∧(j=i+1→cE (eA l i a n).1[j]=true)
 |0=>⟨rfl,λj d=>absurd d (by simp[eA])⟩
 |n+1=>by
  obtain⟨p,u⟩:=Qn l i a n;have e:(eA l i a (n+1)).1=(eA l i a n).1++[(kB l i n (eA l i a n).2).1]:=rfl;rw[e];refine⟨by simp[p],λj d=>?_⟩;by_cases hlt:j<(eA l i a n).1.length
  ·rw[List.getElem_append_left hlt];exact u j hlt
  ·rw[awQ,awV]at d;have:j=n:=Om;subst this;rw[aAH Om];simp only[List.getElem_singleton];exact abM l i j _
theorem Qm(l:List Nat)(a:Nat):∀n,(lN l a n).1.length=n∧∀x∈(lN l a n).1,uH x∧cE x=true
 |0=>⟨rfl,λx d=>by cases d⟩
 |n+1=>by
  obtain⟨i,p⟩:=Qm l a n;have e:(lN l a (n+1)).1=(lN l a n).1++[(fX l (lN l a n).2).1]:=rfl;rw[e];refine⟨by simp[i],λx d=>?_⟩;rw[ayA,ayX]at d;rcases d with d|rfl
  ·exact p x d
  ·exact tB l _
theorem acI(l:List Nat)(n i a:Nat):uH (fH l n i a).1∧(i+1=n→cE (fH l n i a).1=true):=by
 unfold fH;by_cases h:i+1<n
 ·simp only[aF h];refine⟨?_,λd=>by omega⟩;split
  ·exact rF.o
  ·exact(tB l a).1
 ·simp only[aC h];exact⟨(tB l a).1,λ_=>(tB l a).2⟩
def alD(n:Nat)(avF:List (List RF)):Prop:=∀i (hi:i<Z' avF),avF[i].length=n∧∀j (d:j<avF[i].length),uH avF[i][j]∧(j=i→cE avF[i][j]=false)∧(j=i+1→cE avF[i][j]=true)
def alA(n:Nat)(exit:List RF):Prop:=∀i (hi:i<Z' exit),uH exit[i]∧(i+1=n→cE exit[i]=true)
structure arK(n i:Nat)(s:DO)(cs:List Nat):Prop where
 start:s.start=cs.map λc=>mkT ((c:Nat):Int) ((8:Nat):Int)
 lens:Z' s.exit=i∧Z' s.avF=i∧Z' cs=i
 left:cs.sum+s.left=8∧(i=n→0<n→s.left=0)
 exit:alA n s.exit
 avF:alD n s.avF
theorem tI{α:Type}{P:Nat→α→Prop}{xs:List α}{x:α}(h:∀i (hi:i<Z' xs),P i xs[i])(d:P xs.length x):∀i (hi:i<(xs++[x]).length),P i (xs++[x])[i]:=by
 intro i hi;by_cases hlt:i<Z' xs
 ·rw[List.getElem_append_left hlt];exact h i hlt
 ·rw[awQ,awV]at hi;have:i=Z' xs:=Om;subst this;rw[aAH Om];simpa using d
theorem sv(l:List Nat)(n a:Nat):∀i,i≤n→∃cs,arK n i (gV l n a i) cs
 |0,_=>⟨[],rfl,⟨rfl,rfl,rfl⟩,⟨rfl,λh d=>by omega⟩,λi hi=>absurd hi (by simp[gV]),λi hi=>absurd hi (by simp[gV])⟩
 |i+1,hi=>by
  obtain⟨cs,u,⟨d,p,w⟩,⟨h5,-⟩,y,h7⟩:=sv l n a i Om;generalize B:gV l n a i=s at *
  have e:gV l n a (i+1)=⟨s.start++[mkT ((dZ l n i s).1:Nat) 8],s.exit++[(fH l n i (dZ l n i s).2).1],s.avF++[(eA l i (fH l n i (dZ l n i s).2).2 n).1],s.left-(dZ l n i s).1,(eA l i (fH l n i (dZ l n i s).2).2 n).2⟩:=by simp only[gV,B]
  rw[e];have A:(dZ l n i s).1≤s.left∧(i+1=n→(dZ l n i s).1=s.left):=by
   unfold dZ;split
   ·exact⟨by have:=cL l (Om:0<s.left+1) s.a;omega,λh=>by omega⟩
   ·exact⟨awP _,λ_=>rfl⟩
  refine⟨cs++[(dZ l n i s).1],?_,⟨by simp[d],by simp[p],by simp[w]⟩,⟨?_,λh _=>?_⟩,?_,?_⟩
  ·simp only[u,axQ,axL,ayI];rfl
  ·simp only[List.sum_append,List.sum_cons,List.sum_nil];omega
  ·have:=A.2 h;simp only;omega
  ·refine tI (P:=λi x=>uH x∧(i+1=n→cE x=true)) y ?_;rw[d];exact acI l n i _
  ·refine tI (P:=λi (r:List RF)=>Z' r=n∧∀j (E:j<Z' r),uH r[j]∧(j=i→cE r[j]=false)∧(j=i+1→cE r[j]=true)) h7 ?_;rw[p];exact Qn l i _ n
theorem acG{x:dE}{e r:RF}(d:x.exit=[e])(i:x.avF=[[r]])(l:cE e=true):uU x=true:=by
 unfold uU;rw[d];show((jG x 2).all id)=true;simp only[jG,fN,nE,eJ,d,i,ayF,azB,List.getD_cons_zero,axL,ayI,l];cases cE r<;>rfl
theorem QX{x:dE}{u w d e i l:RF}(y:x.exit=[u,w])(A:x.avF=[[d,e],[i,l]])(B:cE w=true)(E:cE e=true)(a b:Bool) :
  ∃c,fN x [a,b] 2=[c,true]∧(b=true→c=true)∧(a=true→c=true):=by
 have F:nE x [a,b] 0=[((a||cE u)||cE d&&(a||cE u))||b,b]:=by unfold nE;rw[y,A];simp only[List.getD_cons_zero,axL,aAG];generalize(a||cE u)=c;show eJ [c,b] 0 [d,e] 2=_;have:eJ [c,b] 0 [d,e] 1=[c||cE d&&c,b]:=rfl;show(let p:=eJ [c,b] 0 [d,e] 1;p.set 0 (p.getD 0 false||([d,e].map cE).getD 1 false&&p.getD 1 false))=_;rw[this];show[(c||cE d&&c)||(cE e&&b),b]=_;rw[E,axN]
 have H:∀c,nE x [c,b] 1=[c,true]:=by intro c;unfold nE;rw[y,A];have:eJ [c,true] 1 [i,l] 1=[c,true||cE i&&c]:=rfl;show eJ [c,b||cE w] 1 [i,l] 2=_;rw[B,Bool.or_true];show(let p:=eJ [c,true] 1 [i,l] 1;p.set 1 (p.getD 1 false||([i,l].map cE).getD 1 false&&p.getD 1 false))=_;rw[this,Bool.true_or];show[c,true||cE l&&true]=_;rw[Bool.true_or]
 refine⟨_,by rw[show fN x [a,b] 2=nE x (nE x [a,b] 0) 1 from rfl,F,H],?_,?_⟩
 ·rintro rfl;rw[Bool.or_true]
 ·rintro rfl;simp
theorem acH{x:dE}{l E y i A B:RF}(d:x.exit=[l,E])(p:x.avF=[[y,i],[A,B]])(u:cE E=true)(w:cE i=true):uU x=true:=by
 unfold uU;rw[d];show((jG x 3).all id)=true;have e:∀r,jG x (r+1)=fN x (jG x r) 2:=λr=>by rw[jG,d];rfl
 have l:jG x 0=[false,false]:=by rw[jG,d];rfl
 obtain⟨F,k1,-,-⟩:=QX d p u w false false;obtain⟨H,k2,N,-⟩:=QX d p u w F true;obtain⟨M,J,K,-⟩:=QX d p u w H true;rw[e,e,e,l,k1,k2,J,K rfl];rfl
theorem Dp{c:Nat}:∀{cs:List Nat},c∈cs→c≤cs.sum
 |k::t,h=>by
  rw[List.sum_cons];rcases awT.1 h with rfl|h
  ·omega
  ·have:=Dp h;omega
theorem TB{α:Type}{l:List α}(h:Z' l=2):∃a b,l=[a,b]:=by
 match l,h with
 |[a,b],_=>exact⟨a,b,rfl⟩
theorem amT(cs:List Nat)(h:cs.sum=8):(match tJ ((cs.map λc=>mkT ((c:Nat):Int) ((8:Nat):Int)).map RF.v)with
  | .ok (n,a,b)=>decide (BO n a b false 1 1=0)
  | .error _=>false)=true:=by
 have i:∀c∈cs,c≤8:=λc d=>by have:=Dp d;omega
 have e:((cs.map λc=>mkT ((c:Nat):Int) ((8:Nat):Int)).map RF.v)=cs.map eV:=by rw[azL];refine azF λc d=>?_;have:=i c d;exact(SmF.mk' (a:=c) (b:=8) Om aV aV).v
 rw[e];exact akL cs h
theorem zW{α:Type}{p:α→Bool}{l:List α}(h:∀i (hi:i<Z' l),p l[i]=true):l.all p=true:=by
 rw[axK];intro x d;obtain⟨i,hi,rfl⟩:=ayK d;exact h i hi
theorem Uv(l:List Nat)(a:Nat)(K:List UInt8):tE { (sE l 2 a).1 with name:=K }=true∧({ (sE l 2 a).1 with name:=K }:dE).Ok:=by
 obtain⟨n,hn⟩:∃n,n=1+(aE l 2 a).1:=⟨_,rfl⟩;have W:n=1∨n=2:=by have:=cL l (show 0<2 by decide) a;omega
 obtain⟨cs,O,⟨Z,h3,h4⟩,⟨h5,R⟩,M,h7⟩:=sv l n (aE l 2 a).2 n (awP _);generalize hs:gV l n (aE l 2 a).2 n=s at *
 have e:({ (sE l 2 a).1 with name:=K }:dE)=⟨K,s.start,s.avF,s.exit⟩:=by simp only[sE,←hn,hs]
 rw[e];have J:cs.sum=8:=by have:=R rfl Om;omega
 have V:∀c∈cs,c≤8:=λc S=>by have:=Dp S;omega
 have p:∀x∈s.start,uH x:=by intro x d;rw[O]at d;obtain⟨c,S,rfl⟩:=axG.1 d;have:=V c S;exact(SmF.mk' (a:=c) (b:=8) Om aV aV).o
 have β:Z' s.start=n:=by rw[O,awL,h4]
 have w:uU ⟨K,s.start,s.avF,s.exit⟩=true:=by
  rcases W with rfl|rfl
  ·obtain⟨e,A⟩:=List.length_eq_one_iff.1 Z;obtain⟨η,u⟩:=List.length_eq_one_iff.1 h3;have X:=(h7 0 Om).1;obtain⟨r,H⟩:=List.length_eq_one_iff.1 X;have d:=(M 0 Om).2 rfl;simp only[u,List.getElem_cons_zero]at H;simp only[A,List.getElem_cons_zero]at d;exact acG A (by rw[u,H]) d
  ·obtain⟨e0,e1,A⟩:=TB Z;obtain⟨r0,r1,u⟩:=TB h3;have E:=(h7 0 Om).1;have F:=(h7 1 Om).1;have d:=(M 1 Om).2 rfl;have Y:=((h7 0 Om).2 1 Om).2.2 rfl;simp only[A,List.getElem_cons_succ,List.getElem_cons_zero]at d;simp only[u,List.getElem_cons_succ,List.getElem_cons_zero]at E F Y;obtain⟨γ,δ,y⟩:=TB E;obtain⟨ε,ζ,Q⟩:=TB F;simp only[y,List.getElem_cons_succ,List.getElem_cons_zero]at Y;exact acH A (by rw[u,y,Q]) d Y
 constructor
 ·unfold tE;simp only[awN];refine⟨⟨⟨⟨⟨⟨⟨?_,?_⟩,?_⟩,?_⟩,?_⟩,?_⟩,?_⟩,w⟩
  ·rw[within_iff];omega
  ·exact bQ Om
  ·exact bQ Om
  ·exact axK.2 λx d=>(p x d).lim
  ·exact zW λi hi=>(M i hi).1.lim
  ·rw[axK];intro i hi;rw[ayB]at hi;obtain⟨k1,k2⟩:=h7 i hi;have eg:s.avF.getD i []=s.avF[i]:=by simp[axY,hi]
   rw[eg,awN,awN];refine⟨⟨bQ Om,zW λj U=>(k2 j U).1.lim⟩,?_⟩;have B:i<s.avF[i].length:=Om;rw[getD_at B,(k2 i B).2.1 rfl];rfl
  ·rw[O];exact amT cs J
 ·have N:∀m:Nat,m≤2→m≤9223372036854775807:=λm hm=>by omega
  have α:n≤2:=Om;refine⟨⟨?_,λx d=>(p x d).ok⟩,⟨?_,λx d=>?_⟩,?_,λr u=>⟨?_,λx d=>?_⟩⟩
  ·exact N s.start.length Om
  ·exact N s.exit.length Om
  ·obtain⟨i,hi,rfl⟩:=ayK d;exact(M i hi).1.ok
  ·exact N s.avF.length Om
  ·obtain⟨i,hi,rfl⟩:=ayK u;have:=(h7 i hi).1;exact N (s.avF[i]'hi).length Om
  ·obtain⟨i,hi,rfl⟩:=ayK u;obtain⟨j,U,rfl⟩:=ayK d;exact((h7 i hi).2 j U).1.ok
theorem UJ(l:List Nat)(a:Nat):∀n,(jP l a n).1.length=n∧∀i (hi:i<(jP l a n).1.length),(jP l a n).1[i].name=[108,97,119]++cB i∧tE (jP l a n).1[i]=true∧(jP l a n).1[i].Ok
 |0=>⟨rfl,λi hi=>absurd hi (by simp[jP])⟩
 |n+1=>by obtain⟨d,p⟩:=UJ l a n;have e:(jP l a (n+1)).1=(jP l a n).1++[{ (sE l 2 (jP l a n).2).1 with name:=[108,97,119]++cB n }]:=rfl;rw[e];refine⟨by simp[d],tI (P:=λi (x:dE)=>x.name=[108,97,119]++cB i∧tE x=true∧x.Ok) p ?_⟩;rw[d];exact⟨rfl,Uv l _ _⟩
theorem MW(l:List Nat)(avH:Nat)(u:0<avH)(a:Nat):∀n,(eU l avH a n).1.length=n∧∀i (hi:i<(eU l avH a n).1.length),(eU l avH a n).1[i].name=[109]++cB i∧∃e p w:Nat,(eU l avH a n).1[i].avQ=e∧1≤e∧e≤4∧(eU l avH a n).1[i].port=p∧1≤p∧p≤8∧(eU l avH a n).1[i].law=w∧w<avH
 |0=>⟨rfl,λi hi=>absurd hi (by simp[eU])⟩
 |n+1=>by
  obtain⟨d,y⟩:=MW l avH u a n;obtain⟨s,A⟩:∃s,s=eU l avH a n:=⟨_,rfl⟩;have e:(eU l avH a (n+1)).1=(eU l avH a n).1++[⟨[109]++cB n,(1+(aE l 4 s.2).1:Nat),(1+(aE l 8 (aE l 4 s.2).2).1:Nat),((aE l avH (aE l 8 (aE l 4 s.2).2).2).1:Nat)⟩]:=by rw[A];rfl
  rw[e];refine⟨by simp[d],tI (P:=λi (x:eF)=>x.name=[109]++cB i∧∃e p w:Nat,x.avQ=e∧1≤e∧e≤4∧x.port=p∧1≤p∧p≤8∧x.law=w∧w<avH) y ?_⟩;rw[d];have k1:=cL l (show 0<4 by decide) s.2;have k2:=cL l (show 0<8 by decide) (aE l 4 s.2).2;have B:=cL l u (aE l 8 (aE l 4 s.2).2).2;exact⟨rfl,_,_,_,rfl,by omega,by omega,rfl,by omega,by omega,rfl,B⟩
theorem zQ(l:List Nat)(a:Nat):∃n:Nat,(jE l a).1=n∧n≤3:=by
 have h:=cL l (show 0<3 by decide) (aE l 3 a).2;unfold jE;simp only;split
 ·exact⟨1+(aE l 3 (aE l 3 a).2).1,rfl,by omega⟩
 ·exact⟨0,rfl,by omega⟩
theorem eZ{n lo hi:Int}(d:lo≤n)(e:n≤hi):within n lo hi=true:=within_iff.2 ⟨d,e⟩
theorem amF{y:List UInt8}{k m q s1 s2 s3 s4 g h:Nat}{ms:List Int}{u:List RF}{mc:Nat}(B:1≤k)(E:k≤2)(S:m≤2)(H:k≤q)(J:q≤k+m)(K:s1≤3)(A:s2≤3)(M:s3≤3)(N:s4≤3)(Q:g≤8)(R:h≤4)
  (p:Z' u=max m 1) (l:∀x∈u,uH x∧cE x=true)
  (F:mc≤2) (d:∃f:Nat,f<mc∧(ms=[(f:Int)]∨mc=2∧ms=[(f:Int),1-(f:Int)])) :
  lZ mc ⟨y,(k:Nat),(m:Nat),(q:Nat),0,(s1:Nat),(s2:Nat),(s3:Nat),(s4:Nat),ms,u,mkT (g:Nat) ((8:Nat):Int),mkT (h:Nat) ((1:Nat):Int)⟩=true ∧
  (⟨y,(k:Nat),(m:Nat),(q:Nat),0,(s1:Nat),(s2:Nat),(s3:Nat),(s4:Nat),ms,u,mkT (g:Nat) ((8:Nat):Int),mkT (h:Nat) ((1:Nat):Int)⟩:cO).Ok:=by
 have G:=SmF.mk' (a:=g) (b:=8) Om aV aV;have Z:=SmF.mk' (a:=h) (b:=1) Om aV aV;obtain⟨f,O,d⟩:=d;constructor
 ·unfold lZ ZN TN;simp only[awN,List.all_cons,List.all_nil,azC];refine⟨⟨⟨⟨⟨⟨⟨⟨eZ Om Om,eZ Om Om⟩,bQ Om⟩,eZ Om Om⟩,rfl⟩,eZ Om Om,eZ Om Om,eZ Om Om,eZ Om Om,eZ Om Om⟩,?_⟩,⟨⟨⟨⟨bQ (by rw[p];omega),?_⟩,G.lim⟩,G.one Om⟩,Z.lim⟩⟩,?_⟩
  ·rcases d with e|⟨-,e⟩<;>rw[e]<;>rfl
  ·rw[axK];intro x i;rw[(l x i).1.lim,(l x i).2];rfl
  ·rw[axK];rcases d with rfl|⟨rfl,rfl⟩
   ·intro j w;simp only[ayF,azB,ayB]at w;have:j=0:=Om;subst this;rw[awN];exact⟨eZ aY (by simp;omega),by simp⟩
   ·intro j w;simp only[ayF,azB,ayB]at w;have:j=0∨j=1:=Om;rcases this with rfl|rfl
    ·rw[awN];exact⟨eZ aY (by simp;omega),by simp⟩
    ·rw[awN];refine⟨eZ (by simp;omega) (by simp;omega),?_⟩;have:¬(1-(f:Int)=f):=Om;simp[this]
 ·refine⟨by unfold dX;constructor<;>simp only<;>omega,by unfold dX;constructor<;>simp only<;>omega,by unfold dX;constructor<;>simp only<;>omega,?_,?_,⟨?_,λx i=>(l x i).1.ok⟩,G.ok,Z.ok⟩
  ·show ms.length≤_;rcases d with e|⟨-,e⟩<;>rw[e]<;>simp
  ·show ∀x∈ms,dX x;unfold dX;rcases d with e|⟨A,e⟩<;>rw[e]<;>intro x i<;>simp only[awT,axD,or_false]at i
   ·subst i;omega
   ·rcases i with rfl|rfl<;>omega
  ·show u.length≤_;rw[p];omega
theorem wr(l:List Nat){mc:Nat}(x:0<mc)(y:mc≤2)(i a:Nat):(nO l mc i a).1.name=[112]++cB i∧lZ mc (nO l mc i a).1=true∧(nO l mc i a).1.Ok:=by
 refine⟨rfl,?_⟩;have H:=cL l (show 0<2 by decide) a;have J:=cL l (show 0<3 by decide) (aE l 2 a).2;have F:=cL l (show 0<4 by decide) (aE l 3 (aE l 2 a).2).2;unfold nO;simp only;generalize aE l 2 a=k at *
 generalize aE l 3 k.2=m at *
 generalize aE l 4 m.2=h at *
 have K:=cL l (Om:0<m.1+1) h.2;generalize aE l (m.1+1) h.2=q at *
 obtain⟨r1,r2⟩:=Qm l q.2 (max m.1 1);generalize lN l q.2 (max m.1 1)=r at *
 have E:=cL l (show 0<9 by decide) r.2;generalize aE l 9 r.2=g at *
 obtain⟨M,p,b1⟩:=zQ l g.2;generalize jE l g.2=s1 at *
 obtain⟨N,e2,b2⟩:=zQ l s1.2;generalize jE l s1.2=s2 at *
 obtain⟨O,u,d⟩:=zQ l s2.2;generalize jE l s2.2=s3 at *
 obtain⟨Q,w,e⟩:=zQ l s3.2;generalize jE l s3.2=s4 at *
 have A:=cL l x s4.2;generalize aE l mc s4.2=f at *
 generalize aE l 2 f.2=b at *
 rw[p,e2,u,w];refine amF Om Om Om Om Om b1 b2 d e Om Om r1 r2 y ⟨f.1,A,?_⟩;split
 ·rename_i B;split
  ·exact .inr ⟨by omega,rfl⟩
  ·exact .inl rfl
 ·exact .inl rfl
theorem CZ(l:List Nat){mc:Nat}(d:0<mc)(p:mc≤2)(a:Nat):∀n,(eD l mc a n).1.length=n∧∀i (hi:i<(eD l mc a n).1.length),(eD l mc a n).1[i].name=[112]++cB i∧lZ mc (eD l mc a n).1[i]=true∧(eD l mc a n).1[i].Ok
 |0=>⟨rfl,λi hi=>absurd hi (by simp[eD])⟩
 |n+1=>by obtain⟨k1,k2⟩:=CZ l d p a n;have e:(eD l mc a (n+1)).1=(eD l mc a n).1++[(nO l mc n (eD l mc a n).2).1]:=rfl;rw[e];refine⟨by simp[k1],tI (P:=λi (x:cO)=>x.name=[112]++cB i∧lZ mc x=true∧x.Ok) k2 ?_⟩;rw[k1];exact wr l d p n _
theorem HB(l:List Nat){pc:Nat}(d:0<pc)(a:Nat):∀n,(eX l pc a n).1.length=n∧∀i (hi:i<(eX l pc a n).1.length),(eX l pc a n).1[i].name=[118]++cB i∧∃p:Nat,(eX l pc a n).1[i].avM=p∧p<pc
 |0=>⟨rfl,λi hi=>absurd hi (by simp[eX])⟩
 |n+1=>by obtain⟨k1,k2⟩:=HB l d a n;have e:(eX l pc a (n+1)).1=(eX l pc a n).1++[⟨[118]++cB n,((aE l pc (eX l pc a n).2).1:Nat)⟩]:=rfl;rw[e];refine⟨by simp[k1],tI (P:=λi (x:kD)=>x.name=[118]++cB i∧∃p:Nat,x.avM=p∧p<pc) k2 ?_⟩;rw[k1];exact⟨rfl,_,rfl,cL l d _⟩
abbrev lvs(ds:List cX):List Int:=ds.map cX.level
def arI(ds:List cX)(i:Nat)(d:cX):Prop:=∃e p u:Nat,d.name=[mU e]++cB (i+1)∧d.level=e∧1≤e∧e≤4∧d.parent=p∧p≤i∧(lvs ds)[p]?=some ((e:Int)-1)∧d.avU=u∧1≤u∧u≤16∧uH d.avP
def akZ(ds:List cX)(mc i:Nat)(d:dQ):Prop:=∃m c:Nat,d.name=[100]++cB i∧d.model=m∧m<mc∧d.machine=c∧(lvs ds)[c]?=some 4
structure GV(mc avA:Nat)(s:GS):Prop where
 len:Z' s.avJ≤35
 avT:Z' s.avT≤avA
 root:s.avJ[0]?=some oJ
 dom:∀i (hi:i+1<Z' s.avJ),arI s.avJ i s.avJ[i+1]
 drv:∀i (hi:i<Z' s.avT),akZ s.avJ mc i s.avT[i]
theorem GV.a{mc avA:Nat}{s:GS}(h:GV mc avA s)(x:Nat):GV mc avA { s with a:=x }:=⟨h.len,h.avT,h.root,h.dom,h.drv⟩
theorem Cm(l:List Nat){mc avA dom:Nat}(p:0<mc){s:GS}(h:GV mc avA s)(w:(lvs s.avJ)[dom]?=some 4):∀n,GV mc avA (kV l mc avA dom s n)∧(kV l mc avA dom s n).avJ=s.avJ
 |0=>⟨h,rfl⟩
 |n+1=>by
  obtain⟨e,u⟩:=Cm l p h w n;simp only[kV];generalize kV l mc avA dom s n=t at *
  split
  ·rename_i hlt;refine⟨⟨e.len,by simp only[awQ,awV];omega,e.root,e.dom,?_⟩,u⟩;refine tI (P:=λi d=>akZ t.avJ mc i d) e.drv ?_;exact⟨_,dom,rfl,rfl,cL l p _,rfl,by rw[u];exact w⟩
  ·exact⟨e,u⟩
theorem AK{ds:List cX}{p:Nat}{x:Int}{t:List cX}(h:(lvs ds)[p]?=some x):(lvs (ds++t))[p]?=some x:=by
 unfold lvs at *
 rw[axQ,azD]
 ·exact h
 ·exact(axO.1 h).1
theorem ahU(l:List Nat){mc avA dom level:Nat}{s:GS}(h:GV mc avA s)(y:1≤level)(K:level≤4)(E:(lvs s.avJ)[dom]?=some ((level:Int)-1))(F:rO avA s=false) :
  GV mc avA (oU l level dom s)∧(∃t,(oU l level dom s).avJ=s.avJ++t)∧(oU l level dom s).avJ.length=Z' s.avJ+1∧(lvs (oU l level dom s).avJ)[Z' s.avJ]?=some (level:Int):=by
 unfold rO at F;simp only[Bool.or_eq_false_iff,decide_eq_false_iff_not]at F;have J:dom<Z' s.avJ:=by
  have:=(axO.1 E).1
  rwa[awL]at this
 have N:=cL l (show 0<16 by decide) s.a;have M:=cL l (show 0<6 by decide) (aE l 3 (aE l 16 s.a).2).2;unfold oU;simp only;generalize aE l 16 s.a=u at *
 generalize aE l 3 u.2=t at *
 generalize aE l 6 t.2=k at *
 have A:uH (if t.1=0 then(mkT 1 ((2+k.1:Nat):Int),k.2)else(kW,t.2)).1:=by
  split
  ·exact(SmF.mk' (a:=1) (b:=2+k.1) Om Om Om).o
  ·exact rF.o
 generalize(if t.1=0 then(mkT 1 ((2+k.1:Nat):Int),k.2)else(kW,t.2))=sh at *
 refine⟨⟨by simp only[awQ,awV];omega,h.avT,?_,?_,λi hi=>?_⟩,⟨_,rfl⟩,by simp,?_⟩
 ·rw[azD Om];exact h.root
 ·intro i hi;simp only[awQ,awV]at hi;by_cases hlt:i+1<Z' s.avJ
  ·rw[List.getElem_append_left hlt];obtain⟨B,p,v,d,e,w,x,h5,H,h7,h8⟩:=h.dom i hlt;exact⟨B,p,v,d,e,w,x,h5,H,AK h7,h8⟩
  ·have:i+1=Z' s.avJ:=Om;rw[aAH Om];simp only[List.getElem_singleton];exact⟨level,dom,1+u.1,by rw[this],rfl,y,K,rfl,by omega,AK E,rfl,by omega,by omega,A⟩
 ·obtain⟨m,c,d,e,w,x,h5⟩:=h.drv i hi;exact⟨m,c,d,e,w,x,AK h5⟩
 ·unfold lvs;rw[axQ,ayW (by rw[awL];exact awP _),awL,azP];rfl
theorem Cn(l:List Nat){mc avA dom level:Nat}(i:1≤level)(B:level≤4){rec:Nat→GS→GS}
  (e:∀d t,GV mc avA t→(lvs t.avJ)[d]?=some (level:Int)→GV mc avA (rec d t)∧∃u,(rec d t).avJ=t.avJ++u) {s:GS} (h:GV mc avA s) (A:(lvs s.avJ)[dom]?=some ((level:Int)-1)) :
  ∀n,GV mc avA (iU l level avA dom rec s n)∧∃u,(iU l level avA dom rec s n).avJ=s.avJ++u
 |0=>⟨h,[],by simp[iU]⟩
 |n+1=>by
  obtain⟨y,u,p⟩:=Cn l i B e h A n;simp only[iU];generalize iU l level avA dom rec s n=t at *
  split
  ·exact⟨y,u,p⟩
  ·rename_i E;have x:(lvs t.avJ)[dom]?=some ((level:Int)-1):=by rw[p];exact AK A
   obtain⟨k1,⟨v,k2⟩,F,H⟩:=ahU l y i B x (by simpa using E);obtain⟨J,w,K⟩:=e ((oU l level dom t).avJ.length-1) (oU l level dom t) k1 (by rw[F,Nat.add_sub_cancel];exact H);exact⟨J,u++(v++w),by rw[K,k2,p];simp⟩
theorem Cp(l:List Nat){mc avA:Nat}(e:0<mc):∀(k:Nat),k≤4→∀(dom:Nat){s:GS},GV mc avA s→(lvs s.avJ)[dom]?=some (4-(k:Int))→GV mc avA (fE l mc avA k dom s)∧∃u,(fE l mc avA k dom s).avJ=s.avJ++u
 |0,_,dom,s,h,i=>by simp only[fE];obtain⟨w,x⟩:=Cm l e (h.a (aE l 2 s.a).2) i (1+(aE l 2 s.a).1);exact⟨w,[],by rw[x];simp⟩
 |k+1,A,dom,s,h,i=>by
  simp only[fE];refine Cn l Om Om (λd t y p=>Cp l e k Om d y ?_) (h.a (aE l 2 s.a).2) ?_ _
  ·rw[p];congr 1;omega
  ·rw[i];congr 1;omega
theorem sw(d:Nat)(e:1≤d)(i:d≤4):jZ (mU d).toNat=true∧mU d≠100:=by
 have:d=1∨d=2∨d=3∨d=4:=Om;rcases this with rfl|rfl|rfl|rfl<;>decide
theorem j8(c:UInt8){k:Nat}(d:k<100):TV (([c]++cB k).drop 1)=k:=by
 show TV (cB k)=k;rw[PE d];exact(Aa ⟨k,d⟩).1
theorem Kq{mc avA:Nat}{s:GS}(h:GV mc avA s)(M:avA≤60):distinct ((s.avJ.drop 1).map cX.name++s.avT.map dQ.name)=true:=by
 have E:∀i (hi:i<((s.avJ.drop 1).map cX.name).length),∃d:Nat,1≤d∧d≤4∧((s.avJ.drop 1).map cX.name)[i]=[mU d]++cB (i+1):=by intro i hi;rw[awL,ayL]at hi;obtain⟨d,p,u,l,-,H,w,-⟩:=h.dom i Om;refine⟨d,H,w,?_⟩;rw[ayR,List.getElem_drop];simp only[Nat.add_comm 1 i];exact l
 have hB:∀i (hi:i<(s.avT.map dQ.name).length),(s.avT.map dQ.name)[i]=[100]++cB i:=by intro i hi;rw[awL]at hi;obtain⟨m,c,l,-⟩:=h.drv i hi;rw[ayR];exact l
 have N:((s.avJ.drop 1).map cX.name).length≤40:=by rw[awL,ayL];have:=h.len;omega
 have O:(s.avT.map dQ.name).length≤60:=by rw[awL];have:=h.avT;omega
 generalize(s.avJ.drop 1).map cX.name=A at *
 generalize s.avT.map dQ.name=B at *
 refine UA ?_ ?_
 ·intro x hx;rcases ayA.1 hx with hx|hx
  ·obtain⟨i,hi,rfl⟩:=ayK hx;obtain⟨d,l,w,e⟩:=E i hi;rw[e];exact mr rfl (sw d l w).1 rfl aY Om
  ·obtain⟨i,hi,rfl⟩:=ayK hx;rw[hB i hi];exact mr rfl aV rfl aY Om
 ·rw[azG];refine⟨?_,?_,?_⟩
  ·refine QC (g:=λs=>TV (s.drop 1)-1) λi hi=>?_;obtain⟨d,-,-,e⟩:=E i hi;rw[e,j8 _ Om];omega
  ·refine QC (g:=λs=>TV (s.drop 1)) λi hi=>?_;rw[hB i hi];exact j8 _ Om
  ·intro x hx y K e;obtain⟨i,hi,rfl⟩:=ayK hx;obtain⟨j,J,rfl⟩:=ayK K;obtain⟨d,l,w,F⟩:=E i hi;rw[F,hB j J]at e;exact(sw d l w).2 (List.cons.inj e).1
theorem afE{mc avA a:Nat}:GV mc avA ⟨[oJ],[],a⟩:=
 ⟨by simp,axB _,rfl,λi hi=>absurd hi aY,λi hi=>absurd hi aY⟩
theorem aiM{mc avA:Nat}{s:GS}(h:GV mc avA s)(f:aM)(A:f.avD=s.avJ):qG f=true:=by
 have x:=h.root;have w:=h.dom;unfold qG;rw[A];cases d:s.avJ with
 |nil=>rw[d]at x;cases x
 |cons r t=>
  rw[d]at x;have:r=oJ:=by simpa using x
  subst this;show SL f oJ t=true;unfold SL;simp only[awN];refine⟨⟨⟨⟨⟨⟨rfl,rfl⟩,rfl⟩,rfl⟩,rF.lim⟩,by rw[show oJ.avP=kW from rfl,rF.zero];rfl⟩,?_⟩;rw[axK];intro i hi;rw[ayB]at hi;rw[awX hi];obtain⟨F,p,u,B,y,H,J,h5,K,h7,h8,M,E,l⟩:=w i (by rw[d];simp;omega);have e:s.avJ[i+1]'(by rw[d];simp;omega)=t[i]:=by simp[d]
  rw[e]at B y h5 h8 l;show WY f i t[i]=true;unfold WY;simp only[awN];refine⟨⟨⟨⟨?_,?_⟩,?_⟩,?_⟩,l.lim⟩
  ·rw[h5];exact eZ Om Om
  ·rw[h5,y,A,ayU,axY,h7,kp Om Om];exact bQ rfl
  ·rw[y];exact eZ Om Om
  ·rw[h8];exact eZ Om Om
theorem Ap(l:List Nat)(avA avC a:Nat)(hd:avA≤24)(hv:avC≤12) :
  lI (jV l avA avC a).1=true∧(jV l avA avC a).1.Ok:=by
 unfold jV;simp only;have he:=cL l (show 0<2 by decide) a;generalize aE l 2 a=e at *
 have γ:=cL l (show 0<2 by decide) e.2;generalize aE l 2 e.2=F at *
 obtain⟨w1,U⟩:=UJ l F.2 (1+F.1);generalize jP l F.2 (1+F.1)=avH at *
 have δ:=cL l (show 0<2 by decide) avH.2;generalize aE l 2 avH.2=B at *
 obtain⟨X,Y⟩:=MW l (1+F.1) Om B.2 (1+B.1);generalize eU l (1+F.1) B.2 (1+B.1)=avB at *
 obtain⟨G,-⟩:=Cp l (mc:=1+B.1) (avA:=avA) Om 4 aV 0 (s:=⟨[oJ],[],avB.2⟩) afE rfl;generalize fE l (1+B.1) avA 4 0 ⟨[oJ],[],avB.2⟩=g at *
 have ε:=cL l (show 0<2 by decide) g.a;generalize aE l 2 g.a=pl at *
 obtain⟨p1,R⟩:=CZ l (mc:=1+B.1) Om Om pl.2 (1+pl.1);generalize eD l (1+B.1) pl.2 (1+pl.1)=pols at *
 have ζ:=cL l (Om:0<avC+1) pols.2;generalize aE l (avC+1) pols.2=J at *
 obtain⟨v1,S⟩:=HB l (pc:=1+pl.1) Om J.2 J.1;generalize eX l (1+pl.1) J.2 J.1=vols at *
 have g1:=G.len;have g2:=G.avT;have Q:∀f:aM,f.avD=g.avJ→qG f=true:=λf hf=>aiM G f hf;have d:∀n:Nat,n≤1000→n≤9223372036854775807:=λn h=>by omega
 have E:∀x∈g.avT,∃m c:Nat,x.model=m∧m<1+B.1∧x.machine=c∧c<Z' g.avJ∧(lvs g.avJ)[c]?=some 4:=by
  intro x w;obtain⟨i,hi,rfl⟩:=ayK w;obtain⟨m,c,-,O,V,W,h5⟩:=G.drv i hi;refine⟨m,c,O,V,W,?_,h5⟩;have:=(axO.1 h5).1
  rwa[awL]at this
 constructor
 ·unfold lI;rw[Q _ rfl];simp only[awN,azC];refine⟨⟨?_,⟨⟨⟨⟨?_,?_⟩,?_⟩,?_⟩,?_⟩⟩,⟨⟨⟨?_,?_⟩,Kq G Om⟩,?_⟩,?_⟩
  ·unfold sR;simp only[awN];exact⟨⟨⟨⟨⟨⟨eZ Om Om,bQ Om⟩,bQ Om⟩,bQ Om⟩,bQ Om⟩,bQ Om⟩,bQ Om⟩
  ·exact zW λi hi=>(U i hi).2.1
  ·refine zW λi hi=>?_;obtain⟨-,x,y,z,A,e2,H,K,M,e6,Z,e8⟩:=Y i hi;unfold oI;simp only[awN];rw[A,K,Z,w1];exact⟨⟨eZ Om Om,eZ Om Om⟩,eZ Om Om⟩
  ·rw[axK];intro x w;obtain⟨m,c,A,e2,H,K,M⟩:=E x w;unfold mF;simp only[awN];rw[A,H,X,ayU,axY,M];exact⟨⟨eZ Om Om,eZ Om Om⟩,rfl⟩
  ·refine zW λi hi=>?_;rw[X];exact(R i hi).2.1
  ·refine zW λi hi=>?_;obtain⟨-,p,A,e2⟩:=S i hi;unfold rD;rw[A,p1];exact eZ Om Om
  ·refine uR (p:=[108,97,119]) rfl aV aV aV (by rw[awL];omega) λi hi=>?_;rw[ayR];exact(U i (by simpa using hi)).1
  ·refine uR (p:=[109]) rfl aV aV aV (by rw[awL];omega) λi hi=>?_;rw[ayR];exact(Y i (by simpa using hi)).1
  ·refine uR (p:=[112]) rfl aV aV aV (by rw[awL];omega) λi hi=>?_;rw[ayR];exact(R i (by simpa using hi)).1
  ·refine uR (p:=[118]) rfl aV aV aV (by rw[awL];omega) λi hi=>?_;rw[ayR];exact(S i (by simpa using hi)).1
 ·refine⟨d avH.1.length Om,d avB.1.length Om,d g.avJ.length Om,d g.avT.length Om,d pols.1.length Om,d vols.1.length Om,?_,?_,?_,?_,?_⟩
  ·intro x w;obtain⟨i,hi,rfl⟩:=ayK w;exact(U i hi).2.2
  ·intro x w;obtain⟨i,hi,rfl⟩:=ayK w;rcases azE i with rfl|hp
   ·have:g.avJ[0]=oJ:=by have:=G.root;rw[awX hi]at this;exact axZ.inj this
    rw[this];exact⟨rF.ok,by unfold dX;decide,by unfold dX;decide⟩
   ·obtain⟨k,rfl⟩:∃k,i=k+1:=⟨i-1,by omega⟩;obtain⟨η,p,u,h1,O,V,W,h5,h6,h7,h8,h9,α,N⟩:=G.dom k hi;have β:k+1<Z' g.avJ:=hi;rw[O,h5];exact⟨N.ok,by unfold dX;omega,by unfold dX;omega⟩
  ·intro x w;obtain⟨m,c,A,e2,H,K,M⟩:=E x w;rw[A,H];unfold dX;omega
  ·intro x w;obtain⟨i,hi,rfl⟩:=ayK w;exact(R i hi).2.2
  ·intro x w;obtain⟨i,hi,rfl⟩:=ayK w;obtain⟨-,p,A,e2⟩:=S i hi;rw[A];unfold dX;omega







def eR:=cP [3,4] Proofs.Tryz.f118
def Ls:=aA eR 0
def Lt:=aA eR 1
def Lu:=aA eR 2
def Lw:=aA eR 3
def Lx:=aA eR 4
def Ly:=aA eR 5
def Lz:=aA eR 6
def Lr:aD:=(fB Lw 23 0 Lz (sq Lx (.region Ly)))
def L0:=aA eR 7
def L1:=aA eR 8
def HN:=aA eR 9
def WS:=aA eR 10
def WT:=aA eR 11
def yu:=aA eR 12
def yv:=aA eR 13
def yw:=aA eR 14
def yx:=aA eR 15
def yy:=aA eR 16
def HO:=aA eR 17
def yz:=aA eR 18
def WU:=aA eR 19
def WR:aD:=(gW yw 57 4 WU (sq yx (sq yy (sq HO (.cond (Tm 88) (sq yz .ret) .skip)))))
def y6:=aA eR 20
def AX:aD:=(fB HN 37 2 y6 (sq WS (eS WT 49 yu (dK yv 4 WR))))
def y7:=aA eR 21
def NP:aD:=(sq Ls (sq Lt (.seq (dK Lu 0 Lr) (sq L0 (.seq (dK L1 2 AX) (sq y7 .ret))))))
def abH:bH:=⟨3,90,NP,[.tmp 6]⟩
def pB:=cP [] Proofs.Tryz.f117
def L4:=aA pB 0
def L5:=aA pB 1
def k0:=aA pB 2
def L6:=aA pB 3
def zZ:=aA pB 4
def SJ:=aA pB 5
def k6:=aA pB 6
def kz:aD:=(fB k0 12 0 k6 (sq L6 (sq zZ (.cond (Tm 35) (sq SJ .ret) .skip))))
def L7:=aA pB 7
def NS:aD:=(sq L4 (.seq (dK L5 0 kz) (sq L7 .ret)))
def abK:bH:=⟨3,41,NS,[.tmp 6]⟩
def TZ:=cP [2] Proofs.Tryz.f116
def pj:=aA TZ 0
def pn:=aA TZ 1
def DT:aD:=(sq pj (sq pn .ret))
def zb:bH:=⟨2,19,DT,[.tmp 4]⟩
def pV:=cP [2] Proofs.Tryz.f96
def ou:=aA pV 0
def ov:=aA pV 1
def ow:=aA pV 2
def NQ:=aA pV 3
def oz:=aA pV 4
def o9:=eE pV 0
def DR:aD:=(sq ou (.seq (.block 0 (sq ov (.cond (Tm 6) (sq ow .ret) (sq NQ (.cond (Tm 11) (sq oz .ret) .skip))))) (dq o9 .ret)))
def call17:bH:=⟨2,23,DR,[.tmp 4,.tmp 5]⟩
def cZ:=cP [2,23,24,50,90] Proofs.Tryz.f46
def qj:=aA cZ 0
def qk:=aA cZ 1
def ql:=aA cZ 2
def qn:=aA cZ 3
def qp:=aA cZ 4
def qq:=aA cZ 5
def qr:=aA cZ 6
def qt:=aA cZ 7
def qi:aD:=(fB qp 19 0 qt (sq qq (.region qr)))
def qu:=aA cZ 8
def cx:=aA cZ 9
def cy:=aA cZ 10
def cz:=aA cZ 11
def c7:=aA cZ 12
def c8:=aA cZ 13
def c9:=aA cZ 14
def da:=aA cZ 15
def HU:=aA cZ 16
def cv:aD:=(fB cz 36 2 HU (sq c7 (sq c8 (.cond (Tm 43) (sq c9 (.region da)) .skip))))
def db:=aA cZ 17
def dd:=aA cZ 18
def de:=aA cZ 19
def df:=aA cZ 20
def HV:=aA cZ 21
def dg:=aA cZ 22
def yN:aD:=(.seq (sq HV (.cond (Tm 70) .skip (.exit 6))) (.block 7 (.region dg)))
def dh:=eE cZ 0
def di:=eE cZ 1
def dj:=aA cZ 23
def cw:aD:=(fB dd 57 4 dj (sq de (sq df (.seq (.block 6 (.loop yN)) (dq dh (.draw di))))))
def dk:=aA cZ 24
def DX:aD:=(sq qj (sq qk (gE ql 14 (.seq (dK qn 0 qi) (sq qu .ret)) (sq cx (.seq (dK cy 2 cv) (.seq (dK db 4 cw) (sq dk .ret)))))))
def zx:bH:=⟨2,95,DX,[.tmp 4]⟩
def mW:=cP [] Proofs.Tryz.f47
def bz:=aA mW 0
def b8:=aA mW 1
def b9:=aA mW 2
def ca:=aA mW 3
def cb:=aA mW 4
def cc:=aA mW 5
def bx:aD:=(gW ca 9 0 cc (.region cb))
def cd:=aA mW 6
def AY:aD:=(sq bz (sq b8 (.seq (dK b9 0 bx) (sq cd .ret))))
def k7:bH:=⟨2,22,AY,[.tmp 4]⟩
def cu:=cP [] Proofs.Tryz.f48
def zu:=aA cu 0
def zw:=aA cu 1
def HT:aD:=(sq zu (sq zw .ret))
def To:bH:=⟨2,6,HT,[.tmp 4]⟩
def eY:=cP [] Proofs.Tryz.f95
def qv:=aA eY 0
def qw:=aA eY 1
def qx:=aA eY 2
def qy:=aA eY 3
def qz:=aA eY 4
def q9:=aA eY 5
def rc:=aA eY 6
def OE:aD:=(fB qy 16 0 rc (sq qz (.region q9)))
def OF:=aA eY 7
def OG:=aA eY 8
def uO:=eE eY 0
def HW:=aA eY 9
def yO:aD:=(.seq (dq uO (.cond (Tm 42) .skip (.exit 4))) (.block 5 (.region HW)))
def yQ:=aA eY 10
def HX:=aA eY 11
def HY:=aA eY 12
def yR:=aA eY 13
def HZ:=aA eY 14
def IA:=aA eY 15
def yP:aD:=(gW yR 57 6 IA (.region HZ))
def dl:aD:=(.seq (sq OF (.cond (Tm 26) .skip (.exit 2))) (.block 3 (sq OG (.seq (.block 4 (.loop yO)) (gE yQ 46 .ret (sq HX (dK HY 6 yP)))))))
def DY:aD:=(gE qv 10 .ret (sq qw (.seq (dK qx 0 OE) (.block 2 (.loop dl)))))
def zy:bH:=⟨1,69,DY,[]⟩
def dU(n:Nat):Nat→Nat→List (List Nat)
 |0,_=>[[]]
 |k+1,a=>(ayP a (n-k-a)).flatMap λi=>(dU n k (i+1)).map (i::·)
def oP(n:Nat):List Nat→Option (List Nat)
 |[]=>none
 |x::t=>match oP n t with
  |some u=>some (x::u)
  |none=>if x+1+Z' t=n then none else some (ayP (x+1) (Z' t+1))
theorem t7{n:Nat}:∀{s u:List Nat},oP n s=some u→Z' u=Z' s
 |[],_,h=>by cases h
 |x::t,u,h=>by
  rw[oP]at h;split at h
  ·rename_i v d;cases h;simp[t7 d]
  ·split at h
   ·cases h
   ·cases h;simp
inductive pF (n:Nat):List Nat→List (List Nat)→Prop
 |last {s:List Nat} (h:oP n s=none):pF n s [s]
 |step {s t:List Nat} {l:List (List Nat)} (h:oP n s=some t) (w:pF n t l):pF n s (s::l)
theorem pF.map{n x k:Nat}{rest:List (List Nat)}(i:(x+1+k=n∧rest=[])∨(x+1+k≠n∧pF n (ayP (x+1) (k+1)) rest)){t:List Nat}{l:List (List Nat)}(w:pF n t l)(d:Z' t=k):pF n (x::t) (l.map (x::·)++rest):=by
 induction w with
 |@last s h=>
  rcases i with⟨e,rfl⟩|⟨e,h2⟩
  ·exact .last (by rw[oP,h];simp only;rw[aF (by rw[d];exact e)])
  ·exact .step (by rw[oP,h];simp only;rw[aC (by rw[d];exact e),d]) h2
 |@step s t l h _ p=>exact .step (by rw[oP,h]) (p (by rw[t7 h,d]))
theorem SE(n:Nat):∀(k a:Nat),a+k≤n→pF n (ayP a k) (dU n k a)
 |0,a,_=>.last rfl
 |k+1,a,h=>by
  rw[dU];obtain⟨m,e⟩:∃m,n-k-a=m+1:=⟨n-k-a-1,by omega⟩;rw[e];clear h
  induction m generalizing a with
  |zero =>have:=pF.map (n:=n) (x:=a) (k:=k) (rest:=[]) (.inl ⟨by omega,rfl⟩) (SE n k (a+1) Om) List.length_range';rw[List.range'_succ (n:=0),List.flatMap_cons];exact this
  |succ m i =>rw[List.range'_succ (n:=m+1),List.flatMap_cons];have d:=i (a+1) Om;exact pF.map (.inr ⟨by omega,d⟩) (SE n k (a+1) Om) List.length_range'
theorem KJ{n:Nat}:∀{s:List Nat},(∀i (h:i<Z' s),s[i]+Z' s=n+i)→oP n s=none
 |[],_=>rfl
 |x::t,h=>by rw[oP,KJ (s:=t) λi hi=>by have:=h (i+1) (by simpa using hi);simp only[List.getElem_cons_succ,ayF]at this;omega];have d:=h 0 aY;simp only[List.getElem_cons_zero,ayF]at d;simp only;rw[aF Om]
theorem F0{n:Nat}:∀{s:List Nat}(i:Nat)(hi:i<Z' s),(∀j (h:j<Z' s),i<j→s[j]+Z' s=n+j)→s[i]+Z' s≠n+i→oP n s=some (s.take i++ayP (s[i]+1) (Z' s-i))
 |[],i,hi,_,_=>by cases hi
 |x::t,0,_,h,d=>by rw[oP,KJ (s:=t) λi hi=>by have:=h (i+1) (by simpa using hi) Om;simp only[List.getElem_cons_succ,ayF]at this;omega];simp only[List.getElem_cons_zero,ayF]at d ⊢;rw[aC Om];rfl
 |x::t,i+1,hi,h,d=>by
  have e:i<Z' t:=by simpa using hi
  simp only[List.getElem_cons_succ,ayF]at d;rw[oP,F0 (s:=t) i e (λj p l=>by have:=h (j+1) (by simpa using p) Om;simp only[List.getElem_cons_succ,ayF]at this;omega) Om];simp only[List.getElem_cons_succ,ayF,List.take_succ_cons,List.cons_append];rw[show t.length+1-(i+1)=Z' t-i by omega]
theorem BZ(n:Nat):∀(k a:Nat),∀s∈dU n k a,Z' s=k∧(∀x∈s,a≤x∧x<n)∧s.Pairwise (· < ·)
 |0,a,s,h=>by rw[dU,ayX]at h;subst h;exact⟨rfl,(λx hx=>by cases hx),.nil⟩
 |k+1,a,s,h=>by
  rw[dU,List.mem_flatMap]at h;obtain⟨i,hi,h⟩:=h;rw[axG]at h;obtain⟨t,p,rfl⟩:=h;rw[List.mem_range'_1]at hi;obtain⟨e,d,l⟩:=BZ n k (i+1) t p;refine⟨by simp[e],λx hx=>?_,List.pairwise_cons.2 ⟨λy u=>by have:=(d y u).1;omega,l⟩⟩;rcases awT.1 hx with rfl|hx
  ·omega
  ·have:=d x hx;omega
theorem ZZ(n:Nat):∀(k a:Nat),(dU n k a).length≤2^(n-a)
 |0,a=>by rw[dU];exact Nat.one_le_two_pow
 |k+1,a=>by
  rw[dU];have d:∀(m a:Nat),m+a≤n→((ayP a m).flatMap λi=>(dU n k (i+1)).map (i::·)).length+2^(n-a-m)≤2^(n-a):=by
   intro m
   induction m with
   |zero=>intro a _;simp
   |succ m e=>
    intro a h;rw[List.range'_succ,List.flatMap_cons,awQ,awL];have l:=ZZ n k (a+1);have p:=e (a+1) Om;rw[show n-a-(m+1)=n-(a+1)-m by omega];have u:2^(n-a)=2^(n-(a+1))+2^(n-(a+1)):=by rw[show n-a=(n-(a+1))+1 by omega,ayH];omega
    omega
  rcases axA n a with h|h
  ·rw[show n-k-a=0 by omega];simp
  ·exact axT (Nat.le_add_right _ _) (d (n-k-a) a Om)
def lS(f:aM)(p:cO)(set:List Int):Bool:=(awU f.avD.length).all λi=>!(decide (eQ f p i>0)&&decide (gS f set i>eQ f p i))
def GF(f:aM)(p:cO)(d:Int):Bool:=p.avB.contains ((mdl f d.toNat:Nat):Int)
def pH(f:aM)(p:cO)(set:List Int):Bool:=set.all (GF f p)&&lS f p set
def rI(set:List Int)(top:Int)(i:Nat):Bool:=(decide (0≤set.getD i 0)&&decide (set.getD i 0<top))&&(decide (i=0)||decide (set.getD (i-1) 0<set.getD i 0))
def WO(set:List Int)(n top:Int):Bool:=decide ((Z' set:Int)=n)&&(awU set.length).all (rI set top)
def kY(f:aM)(avM:Int):cO:=f.avE.getD avM.toNat agW
def xE(p:cO):Int:=p.k+p.m
def oW(f:aM)(avM:Int):Bool:=lI f&&(decide (0≤avM)&&decide (avM<Z' f.avE))
def abD(f:aM)(avM:Int)(set:List Int):Bool:=oW f avM&&(WO set (xE (kY f avM)) f.avA.length&&pH f (kY f avM) set)
def cI(s:List Nat):List Int:=s.map λ(x:Nat)=>(x:Int)
def rZ(f:aM)(p:cO):List (List Int):=((dU f.avA.length (xE p).toNat 0).map cI).filter (pH f p)
def kK(f:aM)(level:Int):List (List Int):=
 if level=5 then(awU f.avA.length).map λ(d:Nat)=>[(d:Int)]
 else((awU f.avD.length).filter λi=>decide (lvl f i=level)).map λi=>cI ((awU f.avA.length).filter λd=>decide (dR f d level=i))
def fF(m:Int):Nat→Int
 |0=>1
 |i+1=>Int.tdiv (fF m i*(m-i)) (i+1)
def rN(u:List (List Int))(s:List Nat)(d:Nat):Bool:=s.any λi=>(u.getD i []).contains (d:Int)
def DE(f:aM)(u:List (List Int))(d:Nat):List (List Int):=(dU u.length d 0).map λs=>cI ((awU f.avA.length).filter (rN u s))
def br(s set:List Int):Nat:=set.countP λd=>s.contains d
def gh(sc:List (List Int))(set:List Int)(m:Int):Nat:=sc.countP λs=>decide (((br s set:Nat):Int)>m)
theorem aeF(a b:List Nat):cI (a++b)=cI a++cI b:=axQ
theorem jB(a:List Nat):(cI a).length=Z' a:=awL _
theorem AL{a:List Nat}{i:Nat}(h:i<Z' a):(bC (cI a))[i]?=some [PV.int .i64 (a[i]:Nat)]:=by
 unfold bC cI;rw[axH,axH,awX h];rfl
theorem ZB(a:List Nat)(i x:Nat):(bC (cI a)).set i [PV.int .i64 (x:Nat)]=bC (cI (a.set i x)):=by
 unfold bC cI;rw[List.map_set,List.map_set]
theorem Z7{top n:Nat}(h:top<n):dU top n 0=[]:=by
 cases n with
 |zero=>omega
 |succ n =>rw[dU,show top-n-0=0 by omega];rfl
theorem pF.head{n:Nat}{s:List Nat}{l:List (List Nat)}(h:pF n s l):∃r,l=s::r:=by
 cases h with
 |last=>exact⟨_,rfl⟩
 |step=>exact⟨_,rfl⟩
def qH(n i:Nat):List Nat:=ayP 0 i++awO (n-i) 0
theorem Tz(n:Nat):qH n 0=awO n 0:=by unfold qH;simp
theorem X5{n i:Nat}(h:i≤n):(qH n i).length=n:=by unfold qH;simp;omega
theorem Tx(n:Nat):qH n n=ayP 0 n:=by unfold qH;simp
theorem X6{n i:Nat}(h:i<n):(qH n i).set i i=qH n (i+1):=by
 unfold qH;obtain⟨m,d⟩:∃m,n-i=m+1:=⟨n-i-1,by omega⟩;rw[d,List.replicate_succ,azT _ _ aY,List.length_range',azP,aAG,show n-(i+1)=m by omega,List.range'_concat];simp
def onU(s:List Nat)(j y m:Nat):List Nat:=s.take j++ayP y (m-j)++s.drop m
theorem Qi{s:List Nat}{j y m:Nat}(d:j≤m)(e:m≤Z' s):(onU s j y m).length=Z' s:=by
 unfold onU;simp;omega
theorem ajS{s:List Nat}{j y:Nat}(h:j<Z' s):s.set j y=onU s j y (j+1):=by
 unfold onU;rw[List.set_eq_take_append_cons_drop,aF h,show j+1-j=1 by omega];simp
theorem aeS{s:List Nat}{j y m:Nat}(i:j<m)(e:m≤Z' s):∃h,(onU s j y m)[m-1]'h=y+(m-1-j):=by
 refine⟨by rw[Qi Om e];omega,?_⟩;unfold onU;have d:(s.take j).length=j:=by rw[axC];omega
 rw[List.getElem_append_left (by simp;omega),aAH Om];simp[d]
theorem ajT{s:List Nat}{j y m:Nat}(i:j≤m)(e:m<Z' s):(onU s j y m).set m (y+(m-j))=onU s j y (m+1):=by
 unfold onU;have d:(s.take j++ayP y (m-j)).length=m:=by simp;omega
 rw[azT _ _ Om,d,azP,ayS e,aAG,show m+1-j=(m-j)+1 by omega,List.range'_concat];simp
theorem aeR{s:List Nat}{j y:Nat}:onU s j y s.length=s.take j++ayP y (Z' s-j):=by
 unfold onU;simp
theorem ahO{C:Ctx}{K:cJ}[Up K]{n o1 o2 q:Nat}{y:PV}{F:PF}{H:PH}(J:n≤1000)(A:H q=some (.rows 1 (bC (cI (qH n 0)))))(w:(((((((PF.nil.set 0 (y)).set 1 (.ptr o1 1 0 0)).set 2 (.ptr o2 1 0 0)).set 4 (.osl q 1 0 n)).set 14 (.int .i64 n)).set 15 (.int .i64 0))).le F)
  (x:K (.exit 0) (((((PF.nil.set 0 (y)).set 1 (.ptr o1 1 0 0)).set 2 (.ptr o2 1 0 0)).set 4 (.osl q 1 0 n))) (H.set q (.rows 1 (bC (cI (ayP 0 n)))))):aD.wp C (.loop OE) K F H:=by
 refine wp_loop (α:=Nat × PH) (λs=>((((((PF.nil.set 0 (y)).set 1 (.ptr o1 1 0 0)).set 2 (.ptr o2 1 0 0)).set 4 (.osl q 1 0 n)).set 14 (.int .i64 n)).set 15 (.int .i64 s.1))) (λs=>s.2) (λs=>s.1≤n∧s.2=H.set q (.rows 1 (bC (cI (qH n s.1))))) (λs=>n-s.1) (0,H) ⟨axB _,?_⟩ w b_ ?_
 ·refine PH.ext λo=>?_;show H o=(H.set q _) o;rw[aU];split
  ·rename_i e;rw[e,A]
  ·rfl
 rintro⟨i,B⟩ ⟨hi,u⟩;simp only at hi u;subst u;simp only[go_sem,OE,qy];by_cases hlt:i<n
 ·have d:(i:Int)<(n:Nat):=Om;have E:=X5 hi;have l:=AL (a:=qH n i) (i:=i) Om;have p:i<(bC (cI (qH n i))).length:=by rw[eH,jB];omega
  simp only[go_sem,d,qz,q9,l,p,axJ,ZB,X6 hlt,rc,wZz i];exact aP (i+1,_) ⟨hlt,rfl⟩ (by simp only;omega) Lq b_
 ·have d:¬(i:Int)<(n:Nat):=Om;have:i=n:=Om;subst this;rw[Tx];simp only[go_sem,d];exact Up.up Lq x
def cyF(y:PV)(o1 o2 q n:Nat):PF:=((((PF.nil.set 0 (y)).set 1 (.ptr o1 1 0 0)).set 2 (.ptr o2 1 0 0)).set 4 (.osl q 1 0 n))
theorem Xw{C:Ctx}{K:cJ}[Up K]{n top o1 o2 q:Nat}{y:PV}{s:List Nat}(V:Z' s=n)(U:n≤1000)(W:top≤1000)(Q:n≤top){F:PF}{H:PH}(b1:H o1=some (.rows 1 [[.int .i64 n]]))(b2:H o2=some (.rows 1 [[.int .i64 top]]))(E:H q=some (.rows 1 (bC (cI s))))
  (O:((cyF y o1 o2 q n).set 6 (.int .i64 ((n:Int)-1))).le F)
  (A:∀m,m≤n→(∀i (h:i<Z' s),m≤i→s[i]+n=top+i)→(0<m→∀(h:m-1<Z' s),s[m-1]+n≠top+(m-1))→K (.exit 4) ((cyF y o1 o2 q n).set 6 (.int .i64 ((m:Int)-1))) H):aD.wp C (.loop yO) K F H:=by
 refine wp_loop (α:=Nat) (λm=>(cyF y o1 o2 q n).set 6 (.int .i64 ((m:Int)-1))) (λ_=>H) (λm=>m≤n∧∀i (h:i<Z' s),m≤i→s[i]+n=top+i) (λm=>m) n ⟨awP _,λi h S=>by omega⟩ O b_ ?_;rintro m ⟨B,d⟩;rw[show yO=(.seq (.seq (.draw uO) (.cond (.tmp 42) .skip (.exit 4))) (.block 5 (.region HW)))from rfl];simp only[go_sem];refine dH .nil gX a_ ?_;by_cases N:m=0
 ·subst N;simp only[go_sem,uO,cyF,show ¬((0:Nat):Int)-1≥0 by omega];refine Up.up ?_ (A 0 B d (λh=>by omega));unfold cyF;exact Lq
 ·obtain⟨k,rfl⟩:∃k,m=k+1:=⟨m-1,by omega⟩;have w:(((k+1:Nat):Int)-1)=(k:Int):=Om;have x:k<Z' s:=Om;have p:=AL x;have u:k<(bC (cI s)).length:=by rw[eH,jB];omega
  have J:IntKind.i64.wrap ((top:Int)-(n:Int))=(top:Int)-n:=wrap_i64 Om Om;have M:IntKind.i64.wrap ((top:Int)-(n:Int)+(k:Int))=(top:Int)-n+k:=wrap_i64 Om Om;have l:(k:Int)<(n:Nat):=Om;by_cases c:s[k]+n=top+k
  ·simp only[go_sem,uO,cyF,w,show(k:Int)≥0 by omega,E,p,u,l,b1,b2,axJ,J,M,cH (Om:((s[k]:Nat):Int)=(top:Int)-n+k),HW];have R:IntKind.i64.wrap ((k:Int)-1)=(k:Int)-1:=wrap_i64 Om Om;refine aP k ⟨by omega,λi h hi=>?_⟩ Om (by(repeat' (first|exact d_|refine c_ ?_ ?_))<;>first|(simp only[go_sem,R]<;>rfl)|rfl) b_;by_cases e:i=k
   ·subst e;exact c
   ·exact d i h Om
  ·simp only[go_sem,uO,cyF,w,show(k:Int)≥0 by omega,E,p,u,l,b1,b2,axJ,J,M,bO (Om:((s[k]:Nat):Int)≠(top:Int)-n+k)];refine Up.up ?_ (A (k+1) B d (λ_ h=>c));unfold cyF
   (repeat' (first|exact d_|refine c_ ?_ ?_))<;>first|(simp only[go_sem,w]<;>rfl)|rfl
theorem ahP{C:Ctx}{K:cJ}[Up K]{n o1 o2 q j x:Nat}{y:PV}{s:List Nat}(V:Z' s=n)(hn:n≤1000)(hx:x≤1000000)(S:j<n){F:PF}{H:PH}(b1:H o1=some (.rows 1 [[.int .i64 n]]))(M:¬o1=q)(U:H q=some (.rows 1 (bC (cI (onU s j x (j+1))))))
  (O:((cyF y o1 o2 q n).set 7 (.int .i64 (j+1:Nat))).le F)
  (Q:K (.exit 6) (cyF y o1 o2 q n) (H.set q (.rows 1 (bC (cI (s.take j++ayP x (n-j))))))):aD.wp C (.loop yP) K F H:=by
 refine wp_loop (α:=Nat × PH) (λm=>(cyF y o1 o2 q n).set 7 (.int .i64 m.1)) (λm=>m.2) (λm=>j+1≤m.1∧m.1≤n∧m.2=H.set q (.rows 1 (bC (cI (onU s j x m.1))))) (λm=>n-m.1) (j+1,H) ⟨awP _,S,?_⟩ O b_ ?_
 ·refine PH.ext λo=>?_;show H o=(H.set q _) o;rw[aU];split
  ·rename_i e;rw[e,U]
  ·rfl
 rintro⟨m,Y⟩ ⟨B,E,N⟩;simp only at B E N;subst N;have w:¬q=o1:=λe=>M e.symm;rw[show yP=(.seq (.seq (.region yR) (.cond (.tmp 57) .skip (.exit 6))) (.seq (.block 7 (.region HZ)) (.region IA)))from rfl];by_cases hlt:m<n
 ·have d:(m:Int)<(n:Nat):=Om;obtain⟨hp,R⟩:=aeS (s:=s) (j:=j) (y:=x) (m:=m) Om Om;have i:=AL hp;rw[R]at i;have Z:=Qi (s:=s) (j:=j) (y:=x) (m:=m) Om Om;have A:m-1<(bC (cI (onU s j x m))).length:=by rw[eH,jB];omega
  have p:m<(bC (cI (onU s j x m))).length:=by rw[eH,jB];omega
  have l:(bC (cI (onU s j x m)))[m]?=some [PV.int .i64 ((onU s j x m)[m]'Om:Nat)]:=AL Om;have W:IntKind.i64.wrap ((m:Int)-1)=((m-1:Nat):Int):=by rw[wrap_i64 Om Om];omega
  have X:IntKind.i64.wrap (((x+(m-1-j):Nat):Int)+1)=((x+(m-j):Nat):Int):=by rw[wrap_i64 Om Om];omega
  have u:((m-1:Nat):Int)<(n:Nat):=Om;have J:=ajT (s:=s) (j:=j) (y:=x) (m:=m) Om Om;simp only[go_sem,yR,cyF,b1,M,w,d,HZ,W,u,i,A,axJ,X,l,p,ZB,J,IA,wZz m];refine aP (m+1,_) ⟨by simp only;omega,hlt,rfl⟩ (by simp only;omega) Lq b_
 ·have d:¬(m:Int)<(n:Nat):=Om;have:m=n:=Om;subst this;have e:=aeR (s:=s) (j:=j) (y:=x);rw[V]at e;rw[e];simp only[go_sem,yR,cyF,b1,M,w,d];refine Up.up ?_ Q;unfold cyF;exact Lq
theorem pF.done{n:Nat}{s:List Nat}{l:List (List Nat)}(h:pF n s l)(e:oP n s=none):l=[s]:=by
 cases h with
 |last=>rfl
 |step d=>rw[e]at d;cases d
theorem pF.next{n:Nat}{s t:List Nat}{l:List (List Nat)}(h:pF n s l)(e:oP n s=some t):∃r,l=s::r∧pF n t r:=by
 cases h with
 |last d=>rw[e]at d;cases d
 |step d w=>rw[e]at d;cases d;exact⟨_,rfl,w⟩
structure aaY(J:Nat→PH→Prop)(ss:List (List Nat))(top n o1 o2 q k:Nat)(s:List Nat)(G H:PH):Prop where
 lt:k<Z' ss
 walk:pF top s (ss.drop k)
 len:Z' s=n
 rng:∀x∈s,x<top
 j:J k G
 le:G.le H
 g1:G o1=none
 g2:G o2=none
 gq:G q=none
 b1:H o1=some (.rows 1 [[.int .i64 n]])
 b2:H o2=some (.rows 1 [[.int .i64 top]])
 bq:H q=some (.rows 1 (bC (cI s)))
theorem abN{C:Ctx}{l o1 o2 n top:Nat}(J:Nat→PH→Prop)(d:List (List Nat))(R:d=dU top n 0)(h1:1≤n)(hn:n≤1000)(ht:top≤1000)
  (hY:∀k (hk:k<Z' d) G c,J k G→G c=none→GD C l [.osl c 1 0 n] (G.set c (.rows 1 (bC (cI d[k])))) (λr H'=>r=.bool true∧J (k+1) H'))
  {M H:PH} (V:J 0 M) (p:M.le H) (b1:H o1=some (.rows 1 [[.int .i64 n]])) (b2:H o2=some (.rows 1 [[.int .i64 top]])) (g1:M o1=none) (g2:M o2=none) :
  DY.wp C (bD zy.res (λ_ H'=>∃G,J d.length G∧G.le H')) (PF.args [yH l,.ptr o1 1 0 0,.ptr o2 1 0 0]) H:=by
 simp only[go_sem,DY,qv,zy,b1,b2];by_cases c:n>top
 ·have:d=[]:=by rw[R];exact Z7 c
  subst this;simp only[go_sem,show(n:Int)>(top:Nat) by omega];exact bF (vs:=[]) (.inr rfl) M rfl p ⟨M,V,b_⟩
 simp only[go_sem,show ¬(n:Int)>(top:Nat) by omega,qw,b1,show(0:Int)≤n by omega,Int.le_refl,show(n:Int)*((8:Nat):Int)≤140737488355328 by omega,show(n:Int)≤9223372036854775807 by omega,ayU];refine aW λq Q=>?_;obtain⟨a1,τ⟩:¬o1=q∧¬q=o1:=⟨(λe=>by rw[e,Q]at b1;cases b1),λe=>by rw[←e,Q]at b1;cases b1⟩;obtain⟨a2,υ⟩:¬o2=q∧¬q=o2:=⟨(λe=>by rw[e,Q]at b2;cases b2),λe=>by rw[←e,Q]at b2;cases b2⟩;have ez:awO n [PV.int .i64 0]=bC (cI (qH n 0)):=by rw[Tz];unfold bC cI;rw[List.map_replicate,List.map_replicate];rfl
 rw[ez];simp only[go_sem,qx];refine ahO (n:=n) (o1:=o1) (o2:=o2) (q:=q) (y:=yH l) hn (by rw[dA]) Lq ?_;rw[PH.set_set];have Y:M q=none:=by
  cases h:M q with
  |none=>rfl
  |some x=>rw[p q x h]at Q;cases Q
 have hw:=SE top n 0 Om;rw[←R]at hw;obtain⟨r0,δ⟩:=hw.head;have N:=BZ top n 0;rw[←R]at N;simp only[go_sem];refine wp_loop (α:=Nat × List Nat × PH × PH) (λ_=>cyF (yH l) o1 o2 q n) (λx=>x.2.2.2) (λx=>aaY J d top n o1 o2 q x.1 x.2.1 x.2.2.1 x.2.2.2) (λx=>Z' d-x.1) (0,ayP 0 n,M,H.set q (.rows 1 (bC (cI (ayP 0 n))))) ?_ (by unfold cyF;exact Lq) b_ ?_
 ·exact⟨(by simp only;rw[δ];simp),hw,List.length_range',(λx hx=>by rw[List.mem_range'_1]at hx;omega),V,PH.le_trans p (PH.PG _ Q),g1,g2,Y,(by simp only;rw[aU,aC a1];exact b1),(by simp only;rw[aU,aC a2];exact b2),(by simp only;rw[dA])⟩
 clear b1 b2 g1 g2 Y Q p V hw δ ez;rintro⟨k,s,G,H⟩ A;have A:aaY J d top n o1 o2 q k s G H:=A;obtain⟨hlt,U,w,ε,V,p,g1,g2,gq,b1,b2,bq⟩:=A;have B:d.drop k=d[k]::d.drop (k+1):=ayS hlt;have ρ:d[k]=s:=by obtain⟨r,F⟩:=U.head;rw[B]at F;injection F
 have S:dD H 1 (.osl q 1 0 n)=some (bC (cI s)):=by
  have:=(show bX H 1 (.osl q 1 0 (bC (cI s)).length) (bC (cI s))from .inr ⟨q,_,rfl,bq,awP _,ayC⟩).view
  rwa[eH,jB,w]at this
 rw[show dl=(.seq (.seq (.region OF) (.cond (.tmp 26) .skip (.exit 2))) (.block 3 (.seq (.region OG) (.seq (.block 4 (.loop yO)) (.seq (.seq (.region yQ) (.cond (.tmp 46) .ret .skip)) (.seq (.region HX) (.seq (.region HY) (.block 6 (.loop yP)))))))))from rfl];simp only[go_sem,OF,cyF];refine wA S (by unfold roomFor;rw[eH,jB];simp only[maxLen];omega) (λh=>?_) λ_ c hc=>?_
 ·have:=congrArg List.length h;rw[eH,jB,w]at this;simp at this;omega
 rw[eH,jB,w];have η:G c=none:=by
  cases h:G c with
  |none=>rfl
  |some x=>rw[p c x h]at hc;cases hc
 have hy:=hY k hlt G c V η;rw[ρ]at hy;have ne:∀{b:Nat}{x:aR},H b=some x→¬b=c:=λhb e=>by rw[e,hc]at hb;cases hb
 refine⟨l,rfl,.inl ⟨_,G.set c (.rows 1 (bC (cI s))),_,Ev,?_,hy,?_⟩⟩
 ·intro o x K;rw[aU]at K ⊢;split at K
  ·rename_i e;rw[aF e];exact K
  ·rename_i e;rw[aC e];exact p o x K
 rintro _ H' ⟨rfl,W⟩ θ;have keep:∀{b:Nat}{x:aR},H b=some x→G b=none→H' b=none∧((H.set c (.rows 1 (bC (cI s)))).over (G.set c (.rows 1 (bC (cI s)))) H') b=some x:=λ{b}{x} hb hg=>by
  have e:=ne hb;have h':H' b=none:=by
   cases h:H' b with
   |none=>rfl
   |some y =>have:=θ b y h (by rw[aU,aC e];exact hg);rw[aU,aC e,hb]at this;cases this
  refine⟨h',?_⟩;rw[jM,h'];simp only[aU,aC e,hg,hb]
 obtain⟨k1,d1⟩:=keep b1 g1;obtain⟨k2,d2⟩:=keep b2 g2;obtain⟨kq,dq⟩:=keep bq gq;have O:H'.le ((H.set c (.rows 1 (bC (cI s)))).over (G.set c (.rows 1 (bC (cI s)))) H'):=λo x K=>by rw[jM,K]
 generalize(H.set c (.rows 1 (bC (cI s)))).over (G.set c (.rows 1 (bC (cI s)))) H'=H2 at *
 have w1:IntKind.i64.wrap ((n:Int)-1)=(n:Int)-1:=wrap_i64 Om Om;simp only[go_sem,OG,d1,w1];refine Xw (n:=n) (top:=top) (o1:=o1) (o2:=o2) (q:=q) (y:=yH l) (s:=s) w hn ht Om d1 d2 dq (by unfold cyF;exact Lq) λm hm E Z=>?_;by_cases m0:m=0
 ·subst m0;have ξ:oP top s=none:=KJ λi hi=>by have:=E i hi (axB _);omega
  have X:k+1=Z' d:=by have:=congrArg List.length (U.done ξ);rw[ayL,awV]at this;omega
  simp only[go_sem,cyF,yQ,show((0:Nat):Int)-1<0 by omega];exact bF (vs:=[]) (.inr rfl) H' rfl O ⟨H',by rw[←X];exact W,b_⟩
 ·obtain⟨j,rfl⟩:∃j,m=j+1:=⟨m-1,by omega⟩;have u:j<Z' s:=Om;have ν:(j:Int)<(n:Nat):=Om;have e0:(((j+1:Nat):Int)-1)=(j:Int):=Om;have β:=F0 (n:=top) (s:=s) j u (λi hi μ=>by have:=E i hi μ;omega) (by have:=Z (Nat.succ_pos _) u;simp only[Nat.add_sub_cancel]at this;omega);rw[w]at β;have φ:=ε s[j] (awS u);have ι:=AL u;have κ:j<(bC (cI s)).length:=by rw[eH,jB];exact u
  have w2:IntKind.i64.wrap (((s[j]:Nat):Int)+1)=((s[j]+1:Nat):Int):=dT Om;have γ:=ajS (s:=s) (j:=j) (y:=s[j]+1) u;simp only[go_sem,cyF,yQ,e0,show ¬(j:Int)<0 by omega,HX,dq,ι,κ,ν,axJ,w2,ZB,γ,HY,wZz j];refine ahP (n:=n) (o1:=o1) (o2:=o2) (q:=q) (j:=j) (x:=s[j]+1) (y:=yH l) (s:=s) w hn Om Om (by rw[aU,aC a1];exact d1) a1 (by rw[dA]) (by unfold cyF;exact Lq) ?_;rw[PH.set_set];have avW:k+1<Z' d∧pF top (s.take j++ayP (s[j]+1) (n-j)) (d.drop (k+1)):=by
   obtain⟨r,F,ζ⟩:=U.next β;rw[B]at F;injection F with _ F
   rw[F];refine⟨?_,ζ⟩;obtain⟨r2,ο⟩:=ζ.head;have:=congrArg List.length F;rw[ο,ayL,ayF]at this;omega
  have σ:aaY J d top n o1 o2 q (k+1) (s.take j++ayP (s[j]+1) (n-j)) H' (H2.set q (.rows 1 (bC (cI (s.take j++ayP (s[j]+1) (n-j)))))):={
      lt:=avW.1
      walk:=avW.2
      len:=by simp;omega
      rng:=λx hx=>by
       have h2:=N (d[k+1]'avW.1) (awS _);have h3:d[k+1]'avW.1=s.take j++ayP (s[j]+1) (n-j):=by obtain⟨r,F⟩:=avW.2.head;rw[ayS avW.1]at F;injection F
       rw[h3]at h2;exact(h2.2.1 x hx).2
      j:=W
      le:=λo x K=>by
       have:¬o=q:=λe=>by rw[e,kq]at K;cases K
       rw[aU,aC this];exact O o x K
      g1:=k1,g2:=k2,gq:=kq
      b1:=by rw[aU,aC a1];exact d1
      b2:=by rw[aU,aC a2];exact d2
      bq:=by rw[dA] }
  simp only[go_sem,cyF];exact aP (k+1,s.take j++ayP (s[j]+1) (n-j),H',H2.set q (.rows 1 (bC (cI (s.take j++ayP (s[j]+1) (n-j)))))) σ (by simp only;omega) Lq b_
def sF(f:aM)(p:cO)(xs:List Int)(i:Nat):Bool:=!(decide (eQ f p i>0)&&decide (gS f xs i>eQ f p i))
theorem vQ(f:aM)(p:cO)(xs:List Int):lS f p xs=(awU f.avD.length).all (sF f p xs):=rfl
theorem Xx(f:aM)(xs ys:List Int)(i:Nat):gS f xs i≤gS f (xs++ys) i:=by
 unfold gS;rw[List.countP_append];split<;>omega
theorem Zg{f:aM}{p:cO}{xs ys:List Int}{i:Nat}(h:sF f p xs i=false):sF f p (xs++ys) i=false:=by
 have:=Xx f xs ys i;unfold sF at h ⊢;simp only[Bool.not_eq_false',awN,decide_eq_true_eq]at h ⊢;omega
theorem jo{f:aM}{p:cO}{xs:List Int}{i:Nat}(hi:i<Z' f.avD)(h:sF f p xs i=false):lS f p xs=false:=by
 rw[vQ];simp only[List.all_eq_false,ayB];exact⟨i,hi,by rw[h];simp⟩
theorem Hv{f:aM}{p:cO}{xs ys:List Int}(h:lS f p xs=false):lS f p (xs++ys)=false:=by
 rw[vQ]at h;simp only[List.all_eq_false,ayB]at h;obtain⟨i,hi,h⟩:=h;exact jo hi (Zg (by simpa using h))
theorem K8(f:aM)(p:cO):lS f p []=true:=by
 rw[vQ];simp only[axK,ayB];intro i _;unfold sF gS;simp;omega
theorem V7{f:aM}(hV:VF f){p:cO}{xs:List Int}(h:∀i,i<Z' f.avD→0<lvl f i→sF f p xs i=true):lS f p xs=true:=by
 rw[vQ];simp only[axK,ayB];intro i hi;have d:=hV.oG hi;by_cases e:i=0
 ·unfold sF gS;rw[aF e];simp;omega
 ·exact h i hi Om
theorem ajR{f:aM}{p:cO}{xs:List Int}(h:lS f p xs=true){i:Nat}(hi:i<Z' f.avD):sF f p xs i=true:=by
 rw[vQ]at h;exact axK.1 h i (ayB.2 hi)
theorem Z6(p:cO)(t:List PV){n:Nat}(h:n<5):(if 1≤(List.drop n (PV.int .i64 p.s0::PV.int .i64 p.s1::PV.int .i64 p.s2::PV.int .i64 p.s3::PV.int .i64 p.s4::t)).length then some (List.take 1 (List.drop n (PV.int .i64 p.s0::PV.int .i64 p.s1::PV.int .i64 p.s2::PV.int .i64 p.s3::PV.int .i64 p.s4::t)))else none)=some [PV.int .i64 (p.spread n)]:=by
 have:n=0∨n=1∨n=2∨n=3∨n=4:=Om;rcases this with rfl|rfl|rfl|rfl|rfl<;>simp[cO.spread]
def HM(f:aM)(p:cO)(d oD:Nat)(set:List Int)(k:Nat):PF:=(((((((PF.nil.set 3 (.cT f.cells)).set 4 (.cT p.cells)).set 7 (.osl d 1 0 f.avB.length)).set 10 (.osl oD 1 0 f.avD.length)).set 34 (ints set)).set 35 (.int .i64 (Z' set:Nat))).set 36 (.int .i64 k))
def R8(f:aM)(p:cO)(d oD:Nat)(set:List Int)(k:Nat)(at_:Nat):PF:=((((((((PF.nil.set 3 (.cT f.cells)).set 4 (.cT p.cells)).set 7 (.osl d 1 0 f.avB.length)).set 10 (.osl oD 1 0 f.avD.length)).set 34 (ints set)).set 35 (.int .i64 (Z' set:Nat))).set 36 (.int .i64 k)).set 13 (.int .i64 at_))
theorem ahL{C:Ctx}{K:cJ}[Up K](f:aM)(hV:VF f)(p:cO)(oA oD:Nat)(set:List Int)(k:Nat)(xs:List Int)(η:Z' xs≤16777216)(γ:lS f p xs=true)(d:Nat)(hd:d<Z' f.avA){F:PF}{H:PH}
  (hF:(R8 f p oA oD set k (dV f d)).le F) (hD:H oD=some (.rows 1 (bC (nT f xs))))
  (hR:∀F' H',F' 6=some (.bool false)→lS f p (xs++[(d:Int)])=false→K .ret F' H')
  (hK:lS f p (xs++[(d:Int)])=true→K (.exit 4) (HM f p oA oD set k) (H.set oD (.rows 1 (bC (nT f (xs++[(d:Int)])))))) :
  aD.wp C (.loop WR) K F H:=by
 refine wp_loop (α:=Nat × PH) (λt=>R8 f p oA oD set k (upN f t.1 (dV f d))) (λt=>t.2) (λt=>t.1≤4∧t.2=H.set oD (.rows 1 (bC (oN f xs d t.1)))∧∀i,i<Z' f.avD→4-(t.1:Int)<lvl f i→sF f p (xs++[(d:Int)]) i=true) (λt=>4-t.1) (0,H) ⟨axB _,?_,?_⟩ (by rw[upN];exact hF) b_ ?_
 ·rw[Xz hV];refine PH.ext λo=>?_;show H o=(H.set oD _) o;rw[aU];split
  ·rename_i e;rw[e,hD]
  ·rfl
 ·intro i hi hl;have:=(hV.oG hi).2.1;simp only at hl;omega
 rintro⟨j,H0⟩ ⟨hj,hH,w⟩;simp only at hj hH w;subst hH;obtain⟨x,V⟩:=RV hV hd (k:=j) hj;simp only[go_sem,WR,yw,R8];by_cases hlt:j<4
 ·have β:0<upN f j (dV f d):=by
   rcases azE (upN f j (dV f d))with e|e
   ·rw[e,hV.root.2.1]at V;omega
   ·exact e
  have W:((upN f j (dV f d):Nat):Int)>0:=Om;obtain⟨b1,b2⟩:=ahT hV xs hd hlt;have N:(bC (oN f xs d j))[upN f j (dV f d)]?=some [.int .i64 (gS f xs (upN f j (dV f d)))]:=by unfold bC;rw[axH,b1];rfl
  have ε:=ahS f xs (upN f j (dV f d));have hw:IntKind.i64.wrap (gS f xs (upN f j (dV f d))+1)=gS f xs (upN f j (dV f d))+1:=wrap_i64 Om Om;have y:((upN f j (dV f d):Nat):Int)<(Z' f.avD:Nat):=Om;have Y:upN f j (dV f d)<(bC (oN f xs d j)).length:=by rw[eH,acB];exact x
  have R:gS f (xs++[(d:Int)]) (upN f j (dV f d))=gS f xs (upN f j (dV f d))+1:=by rw[CH f xs d Om,dR,V,show 4-(4-(j:Int)).toNat=j by omega,aF rfl]
  have l:sF f p (xs++[(d:Int)]) (upN f j (dV f d))=!(decide (eQ f p (upN f j (dV f d))>0)&&decide (gS f xs (upN f j (dV f d))+1>eQ f p (upN f j (dV f d)))):=by rw[sF,R]
  have avW:sF f p (xs++[(d:Int)]) (upN f j (dV f d))=true→∀i,i<Z' f.avD→4-((j+1:Nat):Int)<lvl f i→sF f p (xs++[(d:Int)]) i=true:=by
   intro h i hi hl;by_cases e:i=upN f j (dV f d)
   ·rw[e];exact h
   ·by_cases c:4-(j:Int)<lvl f i
    ·exact w i hi c
    ·have Q:lvl f i=4-(j:Int):=Om;have X:i≠0:=by intro e;subst e;rw[hV.root.2.1]at Q;omega
     have J:gS f (xs++[(d:Int)]) i=gS f xs i:=by rw[CH f xs d X,dR,Q,show 4-(4-(j:Int)).toNat=j by omega,aC (λh=>e h.symm)];simp
     have:=ajR γ hi;unfold sF at this ⊢;rw[J];exact this
  have O:sF f p (xs++[(d:Int)]) (upN f j (dV f d))=false→lS f p (xs++[(d:Int)])=false:=jo x;have Z:eQ f p (upN f j (dV f d))=p.spread (4-(j:Int)).toNat:=by rw[eQ,V]
  rw[Z]at l;have δ:=N;have E:(bC (oN f xs d j)).set (upN f j (dV f d)) [.int .i64 (gS f xs (upN f j (dV f d))+1)]=bC (oN f xs d (j+1)):=by rw[sn,b2]
  have A:(bC (oN f xs d (j+1)))[upN f j (dV f d)]?=some [.int .i64 (gS f xs (upN f j (dV f d))+1)]:=by rw[←E,List.getElem?_set_self Y]
  have S:upN f (j+1) (dV f d)=KX f (upN f j (dV f d)):=rfl;have B:=hV.Qj β x;generalize ζ:upN f j (dV f d)=u at *
  generalize gS f xs u=dc at *
  have l0:(0:Int)≤4-(j:Int):=Om;have h5:4-(j:Int)<((5:Nat):Int):=Om;simp only[go_sem,W,yx,y,axJ,N,hw,E,yy,rM x,gi x,V,l0,h5,Nat.mul_one];rw[Z6 p _ (Om:(4-(j:Int)).toNat<5)];by_cases M:p.spread (4-(j:Int)).toNat>0
  ·by_cases U:dc+1>p.spread (4-(j:Int)).toNat
   ·simp only[go_sem,HO,M,U,y,A,axJ,yz];exact hR _ _ Sq (O (by rw[l,bQ M,bQ U];rfl))
   ·simp only[go_sem,HO,M,U,y,A,axJ,WU,rM x,G6 x,B];exact aP (j+1,_) ⟨hlt,rfl,avW (by rw[l,cU U,ayE];rfl)⟩ (by simp only;omega) (by(repeat' (first|exact d_|refine c_ ?_ ?_))<;>first|(simp only[go_sem,S]<;>rfl)|rfl) b_
  ·simp only[go_sem,HO,M,WU,y,axJ,rM x,G6 x,B];exact aP (j+1,_) ⟨hlt,rfl,avW (by rw[l,cU M];rfl)⟩ (by simp only;omega) (by(repeat' (first|exact d_|refine c_ ?_ ?_))<;>first|(simp only[go_sem,S]<;>rfl)|rfl) b_
 ·have:j=4:=Om;subst this;have h0:upN f 4 (dV f d)=0:=by have:=hV.oG x;omega
  have W:¬((upN f 4 (dV f d):Nat):Int)>0:=Om;simp only[go_sem,W];rw[Xy hV];refine Up.up ?_ (hK (V7 hV λi hi h=>w i hi (by simpa using h)));unfold HM;exact Lq
theorem abC{f:aM}{p:cO}{set:List Int}{d:Int}(e:d∈set)(h:GF f p d=false):pH f p set=false:=by
 unfold pH;have:set.all (GF f p)=false:=by simp only[List.all_eq_false];exact⟨d,e,by rw[h];simp⟩
 rw[this];rfl
theorem abB{f:aM}{p:cO}{set:List Int}{k:Nat}(h:lS f p (set.take k)=false):pH f p set=false:=by
 have:=Hv (ys:=set.drop k) h;rw[azN]at this;unfold pH;rw[this,ayE]
def Rt(f:aM)(set:List Int):Prop:=Z' set≤16777216∧∀x∈set,0≤x∧x<(Z' f.avA:Nat)
theorem Xa{C:Ctx}{K:cJ}[Up K](f:aM)(hV:VF f)(p:cO)(O oD:Nat)(hn:O≠oD)(set:List Int)(hs:Rt f set){F:PF}{H:PH}
  (Z:(HM f p O oD set 0).le F) (N:H O=some (.rows 1 (dY (marks f.avB.length p.avB)))) (hD:H oD=some (.rows 1 (bC (nT f []))))
  (W:∀Q H',Q 6=some (.bool false)→pH f p set=false→K .ret Q H')
  (hK:∀Q H',pH f p set=true→K (.exit 2) Q H') :
  aD.wp C (.loop AX) K F H:=by
 obtain⟨β,V⟩:=hs;refine wp_loop (α:=Nat × PH) (λt=>HM f p O oD set t.1) (λt=>t.2) (λt=>t.1≤Z' set∧t.2 O=some (.rows 1 (dY (marks f.avB.length p.avB)))∧t.2 oD=some (.rows 1 (bC (nT f (set.take t.1))))∧(set.take t.1).all (GF f p)=true∧lS f p (set.take t.1)=true) (λt=>Z' set-t.1) (0,H) ⟨axB _,N,hD,rfl,K8 f p⟩ Z b_ ?_;rintro⟨k,X⟩ ⟨hk,N,hD,i,B⟩;simp only at hk N hD i B;by_cases hlt:k<Z' set
 ·have u:(k:Int)<(Z' set:Nat):=Om;have U:(set.map λn=>[PV.int .i64 n])[k]?=some [.int .i64 set[k]]:=by simp[hlt]
  have E:set.take (k+1)=set.take k++[set[k]]:=azH hlt;have hx:=V set[k] (awS hlt);have hm:=awS hlt;generalize γ:set[k]=x at *
  obtain⟨d,rfl⟩:∃d:Nat,x=d:=⟨x.toNat,by omega⟩;have e:d<Z' f.avA:=Om;have J:(d:Int)<(Z' f.avA:Nat):=Om;obtain⟨w1,w2,w3,w4,w5⟩:=hV.drive d e;have M:((mdl f d:Nat):Int)<(Z' f.avB:Nat):=Om;have A:(dY (marks f.avB.length p.avB))[mdl f d]?=some [.bool (p.avB.contains ((mdl f d:Nat):Int))]:=by have:=BM (n:=Z' f.avB) (l:=p.avB) (m:=((mdl f d:Nat):Int)) Om M;rw[ayU]at this;unfold dY;rw[axH,this];rfl
  have w:GF f p (d:Int)=p.avB.contains ((mdl f d:Nat):Int):=by rw[GF,ayU]
  cases hb:p.avB.contains ((mdl f d:Nat):Int)with
  |false =>rw[hb]at A w;simp only[go_sem,AX,HN,HM,u,WS,U,WT,OI e,J,hV.Ys e,M,axJ,N,A,axP,yu];exact W _ _ Sq (abC hm w)
  |true=>
   rw[hb]at A w;simp only[go_sem,AX,HN,HM,u,WS,U,WT,OI e,J,hV.Ys e,M,axJ,N,A,awZ,yv,hV.Oi e];have up:=λ{K:cJ} [Up K] {F:PF} {H:PH}=>ahL (C:=C) (K:=K) f hV p O oD set k (set.take k) (by rw[axC];omega) B d e (F:=F) (H:=H);refine up (by unfold R8;exact Lq) hD ?_ ?_
   ·intro Q H' Y R;simp only[go_sem];exact W _ _ Y (abB (k:=k+1) (by rw[E];exact R))
   ·intro S;simp only[go_sem,HM,y6,wZz k];refine aP (k+1,X.set oD (.rows 1 (bC (nT f (set.take k++[(d:Int)]))))) ⟨hlt,?_,?_,?_,by rw[E];exact S⟩ (by simp only;omega) Lq b_
    ·simp only[aU,aC hn];exact N
    ·simp only[dA,E]
    ·rw[E];intro y hy;rcases ayA.1 hy with h|h
     ·exact axK.1 i y h
     ·rw[ayX.1 h];exact w
 ·have u:¬(k:Int)<(Z' set:Nat):=Om;have:k=Z' set:=Om;subst this;rw[ayC]at i B;simp only[go_sem,AX,HN,HM,u];exact hK _ _ (by rw[pH,i,B];rfl)

def apB(down:List Int)(d:Int):Bool:=decide (0≤d)&&down.contains d
def apC(down:List Int)(d:Int):Bool:=decide (0≤d)&&!down.contains d
def asG(down row:List Int):Bool:=row.any (apB down)
def ajW(down row:List Int):Nat:=row.countP (apC down)
def amQ(f:aM)(d:Int)(down:List Int)(v:Nat)(row:List Int):Bool:=asG down row&&decide (((ajW down row:Nat):Int)<(LC f v).k+d)
def apD(f:aM)(e:List (List Int))(d:Int)(down:List Int)(n:Nat):Bool:=(awU n).all λv=>!amQ f d down v (e.getD v [])
def xg(f:aM)(e:List (List Int))(d:Int)(down:List Int):Bool:=apD f e d down e.length



theorem jX{t:Nat}{b d:Bool}{F:PF}{H:PH}(h:F t=some (.bool b))(e:b=d):bD [.tmp t] (aQ (.bool d)) .ret F H:=by
 subst e;exact bF (.inr rfl) .nil (vs:=[.bool b]) (by rw[mA,oX,h,qA]) a_ ⟨rfl,rfl⟩
theorem ahK{C:Ctx}(f:aM)(hV:VF f)(p:cO)(hp:∀m∈p.avB,0≤m∧m<Z' f.avB)(l:Fits p.avB)(set:List Int)(U:Rt f set) :
  NP.wp C (bD abH.res (aQ (.bool (pH f p set)))) (PF.args [.agg f.cells,.agg p.cells,ints set]) .nil:=by
 have e:=hV.small;have w:(Z' f.avB:Int)*((1:Nat):Int)≤140737488355328:=by have:=e.avB;omega
 have x:(Z' f.avB:Int)≤9223372036854775807:=by have:=e.avB;omega
 have y:(0:Int)≤(Z' f.avB:Int):=Om;have E:(Z' f.avD:Int)*((8:Nat):Int)≤140737488355328:=by have:=e.avD;omega
 have F:(Z' f.avD:Int)≤9223372036854775807:=by have:=e.avD;omega
 have H:(0:Int)≤(Z' f.avD:Int):=Om;simp only[go_sem,NP,Ls,Lt,abH,awL,w,x,y,Int.le_refl,ayU];refine aW λu V=>?_;rw[NN];simp only[go_sem,Lu,awL];refine wp_loop (α:=Nat) (λk=>(((((((PF.nil.set 2 (ints set)).set 3 (.cT f.cells)).set 4 (.cT p.cells)).set 7 (.osl u 1 0 f.avB.length)).set 20 (ints p.avB)).set 21 (.int .i64 (Z' p.avB:Nat))).set 22 (.int .i64 k))) (λk=>PH.nil.set u (.rows 1 (dY (marks f.avB.length (p.avB.take k))))) (λk=>k≤Z' p.avB) (λk=>Z' p.avB-k) 0 (axB _) Lq (by rw[List.take_zero];exact b_) ?_;intro k W;simp only[go_sem,Lr,Lw];by_cases hlt:k<Z' p.avB
 ·have d:(k:Int)<(Z' p.avB:Nat):=Om;have J:(p.avB.map λn=>[PV.int .i64 n])[k]?=some [.int .i64 p.avB[k]]:=by simp[hlt]
  obtain⟨M,N⟩:=hp _ (awS hlt);have A:(p.avB[k]).toNat<(dY (marks f.avB.length (p.avB.take k))).length:=by rw[CG,PJ];omega
  have B:(dY (marks f.avB.length (p.avB.take k)))[(p.avB[k]).toNat]?=some [.bool ((p.avB.take k).contains p.avB[k])]:=by unfold dY;rw[axH,BM M N];rfl
  have O:Z' p.avB≤9223372036854775807:=by have:=l;omega
  simp only[go_sem,d,Lx,J,Ly,M,N,axJ,B,A,tO,PK M N,Lz,wZz k];refine aP (k+1) hlt Om Lq ?_;rw[azH hlt];exact b_
 ·have d:¬(k:Int)<(Z' p.avB:Nat):=Om;have:k=Z' p.avB:=Om;subst this;rw[ayC];simp only[go_sem,d,L0,awL,E,F,H,Int.le_refl,ayU];refine aW λoD hD=>?_;have Q:u≠oD:=by rintro rfl;simp only[dA]at hD;cases hD
  rw[aaX];simp only[go_sem,L1,awL];refine Xa (C:=C) f hV p u oD Q set U (by unfold HM;(repeat' (first|exact d_|refine c_ ?_ ?_))<;>first|(simp only[go_sem,awL]<;>rfl)|rfl) (by simp only[aU,aC Q,if_true]) (by rw[dA]) ?_ ?_
  ·intro R H' S i;simp only[go_sem];exact jX S i.symm
  ·intro R H' K;simp only[go_sem,y7];exact jX Sq K.symm
theorem W6(set:List Int)(top:Int){k:Nat}:(awU (k+1)).all (rI set top)=((awU k).all (rI set top)&&rI set top k):=by
 rw[List.range_succ,List.all_append];simp
theorem ahN{C:Ctx}(set:List Int)(R:Z' set≤1000000000000000)(n top:Int) :
  NS.wp C (bD abK.res (aQ (.bool (WO set n top)))) (PF.args [ints set,.int .i64 n,.int .i64 top]) .nil:=by
 have E:WO set n top=(decide ((Z' set:Int)=n)&&(awU set.length).all (rI set top)):=rfl;simp only[go_sem,NS,L4,L5,abK,awL];refine wp_loop (α:=Nat) (λk=>((((((PF.nil.set 0 (ints set)).set 1 (.int .i64 n)).set 2 (.int .i64 top)).set 9 (ints set)).set 10 (.int .i64 (Z' set:Nat))).set 11 (.int .i64 k))) (λ_=>.nil) (λk=>k≤Z' set∧(awU k).all (rI set top)=true) (λk=>Z' set-k) 0 ⟨axB _,rfl⟩ Lq a_ ?_;rintro k ⟨Q,e⟩;have l:k<Z' set→rI set top k=false→WO set n top=false:=by
  intro h N;rw[E];have:(awU set.length).all (rI set top)=false:=by simp only[List.all_eq_false,ayB];exact⟨k,h,by rw[N];simp⟩
  rw[this,ayE]
 by_cases hlt:k<Z' set
 ·have d:(k:Int)<(Z' set:Nat):=Om;have F:(set.map λn=>[PV.int .i64 n])[k]?=some [.int .i64 set[k]]:=by simp[hlt]
  have O:set.getD k 0=set[k]:=by simp[axY,hlt]
  have p:rI set top k=((decide (0≤set[k])&&decide (set[k]<top))&&(decide (k=0)||decide (set.getD (k-1) 0<set[k]))):=by rw[rI,O]
  have avW:rI set top k=true→(awU (k+1)).all (rI set top)=true:=λh=>by rw[W6,e,h];rfl
  generalize set[k]=x at *
  simp only[go_sem,kz,k0,d,L6,F];by_cases u:x<0
  ·simp only[go_sem,zZ,u,SJ];exact jX Sq (l hlt (by rw[p,cU (Om:¬0≤x)];rfl)).symm
  by_cases B:x≥top
  ·simp only[go_sem,zZ,u,B,SJ];exact jX Sq (l hlt (by rw[p,cU (Om:¬x<top),ayE];rfl)).symm
  rw[bQ (Om:0≤x),bQ (Om:x<top),azC,axN]at p;by_cases J:k=0
  ·subst J;simp only[go_sem,zZ,u,B,show ¬((0:Nat):Int)>0 by omega,k6,wZz 0];exact aP 1 ⟨hlt,axK.1 (avW (by rw[p];rfl))⟩ Om Lq a_
  obtain⟨j,rfl⟩:∃j,k=j+1:=⟨k-1,by omega⟩;have M:IntKind.i64.wrap (((j+1:Nat):Int)-1)=(j:Int):=by rw[wrap_i64 Om Om];omega
  have w:j<Z' set:=Om;have i:(j:Int)<(Z' set:Nat):=Om;have A:(set.map λn=>[PV.int .i64 n])[j]?=some [.int .i64 set[j]]:=by simp[w]
  have H:set.getD (j+1-1) 0=set[j]:=by simp[axY,w]
  rw[H,cU J,Bool.false_or]at p;generalize set[j]=y at *
  by_cases K:y≥x
  ·simp only[go_sem,zZ,u,B,show((j+1:Nat):Int)>0 by omega,M,A,i,K,SJ];exact jX Sq (l hlt (by rw[p,cU (Om:¬y<x)])).symm
  ·simp only[go_sem,zZ,u,B,show((j+1:Nat):Int)>0 by omega,M,A,i,K,k6,dT (Om:j+1<9223372036854775807)];exact aP (j+1+1) ⟨hlt,axK.1 (avW (by rw[p,bQ (Om:y<x)]))⟩ Om Lq a_
 ·have d:¬(k:Int)<(Z' set:Nat):=Om;have:k=Z' set:=Om;subst this;rw[e,azC]at E;simp only[go_sem,kz,k0,d,L7,awL];exact jX (b:=decide ((Z' set:Int)=n)) (by simp only[go_sem];rfl) E.symm
theorem YA{f:aM}{avM:Int}(h:oW f avM=true):VF f∧0≤avM∧avM.toNat<Z' f.avE∧avM=(avM.toNat:Nat):=by
 unfold oW at h;simp only[awN,decide_eq_true_eq]at h;exact⟨VF.of h.1,h.2.1,by omega,by omega⟩
theorem su{f:aM}{avM:Int}(h:oW f avM=true):kY f avM∈f.avE∧f.avE[avM.toNat]?=some (kY f avM):=by
 obtain⟨_,_,d,_⟩:=YA h;have e:kY f avM=f.avE[avM.toNat]:=by simp[kY,axY,d]
 rw[e];exact⟨awS d,awX d⟩
theorem Xk{C:Ctx}(val:∀f:aM,f.Ok→aJ C 96 [.agg f.cells] .nil (aQ (.int .i64 (wU f))))(f:aM)(i:f.Ok)(avM:Int) :
  DT.wp C (bD zb.res (aQ (.bool (oW f avM)))) (PF.args [.agg f.cells,.int .i64 avM]) .nil:=by
 have e:=val f i;unfold wU at e;simp only[go_sem,DT,pj,pn,zb];refine aB e Ev ?_;have d:oW f avM=(lI f&&(decide (0≤avM)&&decide (avM<Z' f.avE))):=rfl;cases hp:lI f with
 |false =>rw[hp,awY]at d;simp only[go_sem,bO (show(1:Int)≠0 by decide)];exact jX Sq d.symm
 |true=>
  rw[hp,axN]at d;by_cases c:avM≥0
  ·rw[bQ (Om:0≤avM),axN]at d;simp only[go_sem,cH (show(0:Int)=0 from rfl),c,awL];exact jX (b:=decide (avM<Z' f.avE)) Sq d.symm
  ·rw[cU (Om:¬0≤avM),awY]at d;simp only[go_sem,cH (show(0:Int)=0 from rfl),c,awL];exact jX Sq d.symm
structure agL(C:Ctx):Prop where
 adm:∀(f:aM)(p:cO)(set:List Int),VF f→(∀m∈p.avB,0≤m∧m<Z' f.avB)→Fits p.avB→Rt f set→aJ C 201 [.agg f.cells,.agg p.cells,ints set] .nil (aQ (.bool (pH f p set)))
 asc:∀(set:List Int)(n top:Int),Z' set≤1000000000000000→aJ C 202 [ints set,.int .i64 n,.int .i64 top] .nil (aQ (.bool (WO set n top)))
 known:∀(f:aM)(avM:Int),f.Ok→aJ C 203 [.agg f.cells,.int .i64 avM] .nil (aQ (.bool (oW f avM)))
theorem HP{m:Nat}(d:m≤1000):∀i,i≤1000→(fF m i).natAbs≤1000^i
 |0,_=>awP _
 |i+1,h=>by have e:=HP d i Om;have hb:((m:Int)-(i:Int)).natAbs≤1000:=Om;rw[fF,Int.natAbs_tdiv,Int.natAbs_mul,ayH];exact axT (azO _ _) (azY e hb)
theorem cf{m:Nat}(d:m≤1000){i:Nat}(hi:i≤3):-1000000000≤fF m i∧fF m i≤1000000000:=by
 have h:=HP d i Om;have:1000^i≤1000^3:=Nat.pow_le_pow_right Om hi;have e:(1000:Nat)^3=1000000000:=by decide
 omega
theorem Se{C:Ctx}(m n:Nat)(p:m≤1000)(M:n≤3) :
  AY.wp C (bD k7.res (aQ (.int .i64 (max (fF m n) 0)))) (PF.args [.int .i64 m,.int .i64 n]) .nil:=by
 simp only[go_sem,AY,bz,b8,b9,k7];refine wp_loop (α:=Nat) (λk=>((((PF.nil.set 0 (.int .i64 m)).set 1 (.int .i64 n)).set 5 (.int .i64 (fF m k))).set 6 (.int .i64 k))) (λ_=>.nil) (λk=>k≤n) (λk=>n-k) 0 (axB _) (by(repeat' (first|exact d_|refine c_ ?_ ?_))<;>first|(simp only[go_sem,fF]<;>rfl)|rfl) a_ ?_;intro k K;simp only[go_sem,bx,ca];by_cases hlt:k<n
 ·have d:(k:Int)<(n:Nat):=Om;obtain⟨b1,b2⟩:=cf p (i:=k) Om;have B:=HP p k Om;have hb:((m:Int)-(k:Int)).natAbs≤1000:=Om;have l:=azY (axT B (Nat.pow_le_pow_right Om (Om:k≤2))) hb;rw[←Int.natAbs_mul]at l;have e:(1000:Nat)^2*1000=1000000000:=by decide
  have E:IntKind.i64.wrap ((m:Int)-(k:Int))=(m:Int)-k:=wrap_i64 Om Om;have F:IntKind.i64.wrap (fF m k*((m:Int)-(k:Int)))=fF m k*((m:Int)-k):=wrap_i64 Om Om;have H:IntKind.i64.wrap ((k:Int)+1)=(k:Int)+1:=wrap_i64 Om Om;have w:¬((k:Int)+1)=0:=Om;obtain⟨y,A⟩:=cf p (i:=k+1) Om;have x:fF m (k+1)=Int.tdiv (fF m k*((m:Int)-k)) ((k:Int)+1):=by rw[fF]
  rw[x]at y A;have J:IntKind.i64.wrap (Int.tdiv (fF m k*((m:Int)-k)) ((k:Int)+1))=Int.tdiv (fF m k*((m:Int)-k)) ((k:Int)+1):=wrap_i64 Om Om;simp only[go_sem,d,cb,E,F,H,w,J];simp only[go_sem,cc,wZz k];exact aP (k+1) hlt Om (by(repeat' (first|exact d_|refine c_ ?_ ?_))<;>first|(simp only[go_sem,x]<;>rfl)|rfl) a_
 ·have d:¬(k:Int)<(n:Nat):=Om;have:k=n:=Om;subst this;simp only[go_sem,d,cd];have u:(if fF m k<0 then 0 else fF m k)=max (fF m k) 0:=by split<;>omega
  rw[u];refine cY (.inr rfl) Ev ?_;rfl
def Kept(f:aM)(p:cO)(xs:List Int):Prop:=∀i,i<Z' f.avD→eQ f p i>0→gS f xs i≤eQ f p i
theorem Kept.nil(f:aM)(p:cO):Kept f p []:=λi _ h=>by
 have:gS f [] i=0:=by unfold gS;split<;>simp
 omega
def AQ(f:aM)(p:cO)(xs:List Int)(d:Nat)(k:Nat):Prop:=∀i,i<Z' f.avD→4-(k:Int)<lvl f i→eQ f p i>0→gS f (xs++[(d:Int)]) i≤eQ f p i
theorem AQ.zero{f:aM}(hV:VF f){p:cO}(xs:List Int)(d:Nat):AQ f p xs d 0:=λi hi h _=>by
 have:=hV.oG hi;omega
theorem AQ.done{f:aM}(hV:VF f){p:cO}(u:eQ f p 0≤0){xs:List Int}{d:Nat}(h:AQ f p xs d 4):Kept f p (xs++[(d:Int)]):=λi hi l=>by
 have:=hV.oG hi;by_cases e:i=0
 ·subst e;omega
 ·exact h i hi Om l
theorem AQ.next{f:aM}(hV:VF f){p:cO}{xs:List Int}{d k:Nat}(y:d<Z' f.avA)(A:k<4)(w:Kept f p xs)(h:AQ f p xs d k)(x:eQ f p (upN f k (dV f d))>0→gS f (xs++[(d:Int)]) (upN f k (dV f d))≤eQ f p (upN f k (dV f d))):AQ f p xs d (k+1):=λi hi B u=>by
 by_cases e:4-(k:Int)<lvl f i
 ·exact h i hi e u
 have l:lvl f i=4-(k:Int):=Om;by_cases c:i=upN f k (dV f d)
 ·subst c;exact x u
 have:gS f (xs++[(d:Int)]) i=gS f xs i:=by
  unfold gS;split
  ·rfl
  ·rw[List.countP_append,List.countP_cons,List.countP_nil];have:SY f i (d:Int)=false:=by unfold SY dR;rw[l,show(4-(4-(k:Int)).toNat)=k by omega,ayU];simp[show ¬upN f k (dV f d)=i from λh=>c h.symm]
   rw[this];simp
 rw[this];exact w i hi u
theorem X7{q:Nat→Bool}{n:Nat}:∀{i:Nat},i<n→q i=true→((awU n).filter q)[(awU i).countP q]?=some i:=by
 intro i hi d;have e:awU n=awU i++(i::ayP (i+1) (n-i-1)):=by rw[List.range_eq_range',List.range_eq_range',show i::ayP (i+1) (n-i-1)=ayP i (n-i-1+1)from rfl];have:=List.range'_append (s:=0) (m:=i) (n:=n-i-1+1) (step:=1);rw[Nat.one_mul,axJ]at this;rw[this];congr 1;omega
 rw[e,List.filter_append,List.filter_cons_of_pos d,List.countP_eq_length_filter,ayW (awP _),azP];rfl
def InR(l:List Int)(n:Nat):Prop:=∀x∈l,0≤x∧x<(n:Int)
def SF(f:aM)(d:List (List Int))(r:Int)(l:List Int):Bool:=!l.isEmpty&&xg f d r l
def aeX(f:aM)(p:List (List Int))(r:Int)(e:List (List Int))(d:Nat):List (List Int):=match e.findIdx? (λl=>xg f p r (l++[(d:Int)]))with
 |some i=>e.set i (e.getD i []++[(d:Int)])
 |none=>e++[[(d:Int)]]
def ko(f:aM)(e:List (List Int))(r:Int):Nat→List (List Int)
 |0=>[]
 |d+1=>aeX f e r (ko f e r d) d
def W5(f:aM)(e:List (List Int))(r:Int):Bool:=(awU f.avA.length).all λd=>xg f e r [(d:Int)]
theorem set_perm:∀(d:List (List Int)) (i:Nat) (x:Int),i<Z' d→((d.set i (d.getD i []++[x])).flatten).Perm (d.flatten++[x])
 |[],i,x,h=>by cases h
 |l::d,0,x,_=>by simp only[aAG,List.getD_cons_zero,List.flatten_cons,axX];exact List.Perm.append_left _ List.perm_append_comm
 |l::d,i+1,x,h=>by have:=set_perm d i x (by simpa using h);simp only[List.set_cons_succ,List.getD_cons_succ,List.flatten_cons,axX];exact List.Perm.append_left _ this
structure yh(f:aM)(now:List (List Int))(r:Int)(n:Nat)(w:List (List Int)):Prop where
 ok:∀l∈w,SF f now r l=true
 len:Z' w.flatten=n
 nd:w.flatten.Nodup
 rng:InR w.flatten n
theorem yh.put{f:aM}{d:List (List Int)}{r:Int}{n:Nat}{w:List (List Int)}(h:yh f d r n w)(y:xg f d r [(n:Int)]=true):yh f d r (n+1) (aeX f d r w n):=by
 have p:∀u:List (List Int),u.flatten.Perm (w.flatten++[(n:Int)])→(∀l∈u,SF f d r l=true)→yh f d r (n+1) u:=λu hp A=>by
  refine⟨A,by rw[hp.length_eq,awQ,h.len];rfl,hp.nodup_iff.2 ?_,λx B=>?_⟩
  ·rw[azG];refine⟨h.nd,by simp,λa y b hb=>?_⟩;rw[ayX]at hb;subst hb;have:=h.rng a y;omega
  ·have:=hp.mem_iff.1 B;rw[ayA,ayX]at this;rcases this with B|rfl
   ·have:=h.rng x B;omega
   ·omega
 unfold aeX;split
 ·rename_i i hi;obtain⟨hlt,hp,-⟩:=List.findIdx?_eq_some_iff_getElem.1 hi;refine p _ (set_perm w i n hlt) λl e=>?_;rcases aAI e with e|rfl
  ·exact h.ok l e
  ·unfold SF;rw[axY,awX hlt,azV,hp];simp
 ·refine p _ (by rw[List.flatten_append];simp) λl e=>?_;rw[ayA,ayX]at e;rcases e with e|rfl
  ·exact h.ok l e
  ·unfold SF;rw[y];rfl
theorem wi{f:aM}{e:List (List Int)}{r:Int}(i:W5 f e r=true):∀d,d≤Z' f.avA→yh f e r d (ko f e r d)
 |0,_=>⟨(λl h=>by cases h),rfl,.nil,λx h=>by cases h⟩
 |d+1,p=>(wi i d Om).put (axK.1 i d (ayB.2 Om))
end Go.PM
namespace Go.RO
open Go
def ins(x:Int):List Int→List Int
 |[]=>[x]
 |y::ys=>if y<x then y::ins x ys else if y=x then y::ys else x::y::ys
end Go.RO
namespace Go.PM
open Go Go.Na






def agV(c:UInt8)(n:Nat):List UInt8:=[c,UInt8.ofNat (97+n/26%26),UInt8.ofNat (97+n%26)]
def Ad(ds:List cX)(level parent avU:Nat):List cX:=ds++[⟨agV 110 ds.length,(level:Nat),(parent:Nat),(avU:Nat),kW⟩]
theorem adX(a b:Nat)(i:a<4294967296)(hb:b<4294967296):(mkT (a:Int) (b:Int)).Ok:=by
 rw[On];have d:=azO a (awM a b);have e:=azO b (awM a b);have k1:nl (a/awM a b)≤1:=(kC _ _).2 Om;have k2:nl (b/awM a b)≤1:=(kC _ _).2 Om;refine⟨bG _,bG _,?_,?_⟩
 ·show(aK _).length≤_;rw[bP];omega
 ·show(aK _).length≤_;rw[bP];omega
theorem Dj{n:Nat}(h:n≤1000000):dX (n:Int):=by unfold dX;omega
def x3(ds:List cX):Prop:=∀x∈ds,x.avP.Ok∧dX x.level∧dX x.parent
theorem x3.dom{ds:List cX}(h:x3 ds){level parent avU:Nat}(e:level≤1000)(i:parent≤1000):x3 (Ad ds level parent avU):=λx d=>by
 unfold Ad at d;rw[ayA,ayX]at d;rcases d with d|rfl
 ·exact h x d
 ·exact⟨adX 0 1 aV aV,Dj Om,Dj Om⟩
structure FM(f:aM):Prop where
 ok:f.Ok
 km:∀p∈f.avE,1≤p.k∧p.k≤2∧0≤p.m∧p.m≤2
 avA:Z' f.avA≤9
 pols:1≤Z' f.avE∧Z' f.avE≤2
 vols:∀x∈f.avC,0≤x.avM∧x.avM<Z' f.avE
theorem FM.pol{f:aM}(h:FM f){v:Nat}(e:v<Z' f.avC):FB f v<Z' f.avE∧LC f v∈f.avE:=by
 have i:=h.vols _ (awS e);have l:FB f v=(f.avC[v]).avM.toNat:=by rw[FB,getD_at e]
 have d:FB f v<Z' f.avE:=Om;refine⟨d,?_⟩;unfold LC;rw[axY,awX d,azV];exact awS d
abbrev apL(l:List Int)(a:Nat):aR:=.rows 2 [[ints l,.int .i64 (a:Nat)]]
section
variable {C:Ctx} {F:PF} {H Hs:PH} {l:List Int} {o a:Nat}
end
structure ME where
 o:Nat
 o4:Nat
 o5:Nat
 vols:Nat
abbrev ME.boxes(E:ME)(l:List Int)(ext d e i p wp wv:PV)(a:Nat):List BX:=[(E.o5,flB ext d e i p wp wv),(E.o,apL l a),(E.o4,flZ)]





def arJ(ds:List cX)(i:Nat)(d:cX):Prop:=∃e p u:Nat,d.name=agV 110 (i+1)∧d.level=e∧1≤e∧e≤4∧d.parent=p∧p≤i∧(lvs ds)[p]?=some ((e:Int)-1)∧d.avU=u∧1≤u∧u≤64∧d.avP=kW
structure DV(ds:List cX):Prop where
 root:ds[0]?=some oJ
 dom:∀i (hi:i+1<Z' ds),arJ ds i ds[i+1]
theorem DV.new{ds:List cX}(h:DV ds){level parent up:Nat}(x:1≤level)(y:level≤4)(hp:(lvs ds)[parent]?=some ((level:Int)-1))(B:1≤up)(E:up≤64) :
  DV (Ad ds level parent up)∧(lvs (Ad ds level parent up))[Z' ds]?=some (level:Int):=by
 have A:parent<Z' ds:=by
  have:=(axO.1 hp).1
  rwa[awL]at this
 unfold Ad;refine⟨⟨by rw[azD Om];exact h.root,λi hi=>?_⟩,?_⟩
 ·simp only[awQ,awV]at hi;by_cases hlt:i+1<Z' ds
  ·rw[List.getElem_append_left hlt];obtain⟨d,p,v,g1,g2,g3,g4,e,l,u,w⟩:=h.dom i hlt;exact⟨d,p,v,g1,g2,g3,g4,e,l,AK u,w⟩
  ·have:i+1=Z' ds:=Om;rw[aAH Om];simp only[List.getElem_singleton];exact⟨level,parent,up,by rw[this],rfl,x,y,rfl,by omega,AK hp,rfl,B,E,rfl⟩
 ·unfold lvs;rw[axQ,ayW (by rw[awL];exact awP _),awL,azP];rfl


structure Rv(f:aM)(L:List (List Int)):Prop where
 len:Z' L=Z' f.avC
 row:∀v (h:v<Z' L),((L[v].length:Nat):Int)=agR f v
 home:∀r∈L,∀x∈r,-1≤x∧x<Z' f.avA
theorem Rv.apE{f:aM}{L:List (List Int)}(h:Rv f L)(hV:VF f):∀k,k≤Z' L→(L.take k).flatten.length≤k*8:=by
 have w:=h.len;intro k
 induction k with
 |zero=>intro _;simp
 |succ k p =>intro e;rw[X8 L e,awQ];have u:=p Om;have i:=h.row k e;obtain⟨hp,l⟩:=aeV hV (Om:k<Z' f.avC);have d:=hV.avM _ (awS hp);rw[l]at d;unfold agR at i;omega
theorem Rv.ok{f:aM}(hV:VF f){L:List (List Int)}(h:Rv f L):anZ L:=by
 have e:=hV.small.avC;have d:=h.len;have:=h.apE hV L.length (awP _);rw[ayC]at this;exact⟨by omega,by omega⟩
section
variable {H:PH} {B:List BX} {L:List LI}
end





section
variable {H:PH} {B:List BX} {L:List LI} {s:Nat} {rows:List (List PV)}
theorem qF.some(s:Nat)(rows:List (List PV))(G:PH):∃r H',qF s rows r H'∧nF G .nil H':=by
 obtain⟨o,i⟩:=G.fresh;refine⟨.osl o s 0 rows.length,PH.nil.set o (.rows s rows),.inr ⟨o,rows,rfl,rfl,awP _,ayC⟩,λq x d _=>?_⟩;rw[aU]at d;split at d
 ·rename_i e;rw[e];exact i
 ·cases d
end

section
variable {C:Ctx} {F:PF} {H Hs:PH} {tn a a2:Nat} {raw:List Int} {R:Nat→PV→PH→Prop} {st:Bool} {args:List aO} {d:Option Nat} {K:PF→PH→Prop}
end
section
variable {C:Ctx} {F:PF} {H:PH} {B:List BX} {L:List LI} {args:List aO} {d:Option Nat} {K:PF→PH→Prop}
theorem aT.We(h:aT H B L)(i:Nat){o name:Nat}{x y:aR}{r:PV}{vs:List PV}(hi:B[i]?=some (o,x))(l:aJ C name vs (PH.nil.set o x) (λr' H'=>r'=r∧H'=PH.nil.set o y))(e:aO.evs F args=some vs)
  (p:∀H',aT H' (B.set i (o,y)) L→K (F.put d r) H'):kN C name args [] d K F H:=mT l (h.at i hi) e (p _ (h.set i hi y))
end

theorem aT.store{H:PH}{B:List BX}{L:List LI}(h:aT H B L)(i:Nat){q s n:Nat}{rows:List (List PV)}(hi:L[i]?=some (.osl q s 0 n,s,rows))(k:Nat)(c:List PV) :
  ∃rs,H q=some (.rows s rs)∧n≤Z' rs∧rs.take n=rows∧aT (H.set q (.rows s (rs.set k c))) B (L.set i (.osl q s 0 n,s,rows.set k c)):=by
 obtain⟨rs,l,u,d,e⟩:=(h.own i hi).id rfl;injection u with _ _ _ w
 subst w;refine⟨rs,l,d,e,h.jv i hi (.inr ⟨q,rs.set k c,by rw[ayM],by rw[dA],by rw[ayM,ayM];exact d,by rw[ayM,List.take_set,e]⟩) (λp hp=>.inl hp) λp _ hp=>?_⟩;have:p≠q:=hp q rfl;rw[aU,aC this]

open Go Go.RowKit Go.Sort Go.Shelf Go.Proofs
section
variable {E:Env} {H:PH} {w:World}
end
section
variable {C:Ctx} {ρ:Ren} {name:Nat}
end
abbrev lists(d:List (List Int)):PV:=.sl 1 (d.map λw=>[ints w])
abbrev WPs:=List (PV × List Int)
def eC(ps:WPs):List (List PV):=ps.map λp=>[p.1]
def qQ(ps:WPs):List LI:=ps.map λp=>(p.1,1,bC p.2)
def wls(ps:WPs):List (List Int):=ps.map (·.2)
def fZ(d:PV)(ps:WPs):List LI:=(d,1,eC ps)::qQ ps
section
variable {H:PH} {B:List BX}
theorem pD(ps:WPs):(eC ps).length=Z' ps:=awL _
theorem l7{ps:WPs}{i:Nat}{v:PV}{w:List Int}(hi:ps[i]?=some (v,w)):(qQ ps)[i]?=some (v,1,bC w):=by
 unfold qQ;rw[axH,hi];rfl
theorem G3{ps:WPs}{i:Nat}{v:PV}{w:List Int}(hi:ps[i]?=some (v,w)):(eC ps)[i]?=some [v]:=by
 unfold eC;rw[axH,hi];rfl
theorem aT.TJ(h:aT H B []):aT H B (fZ .aH []):=h.wO 1
theorem aT.inner{d:PV}{ps:WPs}(h:aT H B (fZ d ps)){i:Nat}{v:PV}{w:List Int}(hi:ps[i]?=some (v,w)):bX H 1 v (bC w):=h.own (i+1) (l7 hi)
theorem aT.outer{d:PV}{ps:WPs}(h:aT H B (fZ d ps)):bX H 1 d (eC ps):=h.own 0 rfl
theorem PD(a b:List Int):bC (a++b)=bC a++bC b:=axQ
theorem aT.apJ{u:PV}{ps:WPs}(h:aT H B (fZ u ps)){i b:Nat}{v y:PV}{w src:List Int}{K:PV→PH→Prop}(hi:ps[i]?=some (v,w))(F:dD H 1 y=some (bC src))(A:roomFor w.length src.length b)(l:src≠[])
  (x:∀q H',aT H' B ((u,1,eC ps)::(qQ ps).set i (.osl q 1 0 (w++src).length,1,bC (w++src)))→K (.osl q 1 0 (w++src).length) H'):pQ H 1 b v y K:=by
 have d:bC src≠[]:=λe=>l (List.map_eq_nil_iff.1 e);refine h.append (i+1) (l7 hi) F (by rw[eH,eH];exact A) λv' H' p E=>?_;obtain⟨q,rfl⟩:=E d;rw[←PD,eH]at p ⊢;exact x q H' p
theorem aT.amR{d n i:Nat}{ps:WPs}{v':PV}{l:List Int}(h:aT H B ((.osl d 1 0 n,1,eC ps)::(qQ ps).set i (v',1,bC l))) :
  ∃rs,H d=some (.rows 1 rs)∧n≤Z' rs∧rs.take n=eC ps∧aT (H.set d (.rows 1 (rs.set i [v']))) B (fZ (.osl d 1 0 n) (ps.set i (v',l))):=by
 obtain⟨rs,p,u,w,x⟩:=h.store 0 rfl i [v'];refine⟨rs,p,u,w,?_⟩;have e:fZ (.osl d 1 0 n) (ps.set i (v',l))=((.osl d 1 0 n,1,eC ps)::(qQ ps).set i (v',1,bC l)).set 0 (.osl d 1 0 n,1,(eC ps).set i [v']):=by unfold fZ eC qQ;rw[List.map_set,List.map_set];rfl
 rw[e];exact x
theorem aT.ajG{d:PV}{ps:WPs}{b:Nat}{y:PV}{K:PV→PH→Prop}(h:aT H B (fZ d ps))(x:dD H 1 y=some [[.aH]])(u:roomFor ps.length 1 b)
  (p:∀q H',aT H' B (fZ (.osl q 1 0 (Z' ps+1)) (ps++[(.aH,[])]))→K (.osl q 1 0 (Z' ps+1)) H'):pQ H 1 b d y K:=by
 refine h.append 0 (src:=[[.aH]]) rfl x (by rw[pD];exact u) λv' H' l w=>?_;obtain⟨q,rfl⟩:=w aY;have i:=l.wO 1;rw[awQ,pD]at i ⊢;refine p q H' ?_;have e:fZ (.osl q 1 0 (Z' ps+1)) (ps++[(.aH,[])])=(((d,1,eC ps)::qQ ps).set 0 (.osl q 1 0 (Z' ps+1),1,eC ps++[[.aH]]))++[(.aH,1,[])]:=by unfold fZ eC qQ;rw[axQ,axQ];rfl
 rw[e];exact i
def sI(d:List (List PV))(e:List (List Int)):Prop:=Z' d=Z' e∧∀(i:Nat) r w,d[i]?=some r→e[i]?=some w→r=[ints w]∨(r=[.aH]∧w=[])
theorem sI.nil:sI [] []:=⟨rfl,λi r w h=>by cases h⟩
theorem sI.snoc{l:List (List PV)}{p:List (List Int)}{u:PV}{w:List Int}(h:sI l p)(y:u=ints w∨(u=.aH∧w=[])):sI (l++[[u]]) (p++[w]):=by
 refine⟨by simp[h.1],λi r x d e=>?_⟩;rcases Nat.lt_trichotomy i l.length with c|c|c
 ·rw[azD c]at d;rw[azD (by rw[←h.1];exact c)]at e;exact h.2 i r x d e
 ·subst c;rw[ayW (awP _),azP]at d;rw[h.1,ayW (awP _),azP]at e;cases d;cases e;rcases y with rfl|⟨rfl,rfl⟩
  ·exact .inl rfl
  ·exact .inr ⟨rfl,rfl⟩
 ·rw[ayW Om,axV (by simp;omega)]at d;cases d
theorem sI.flat{e:List (List PV)}{u:List (List Int)}(h:sI e u):Flat e:=Flat.of λr p c d q s rs=>by
 obtain⟨i,hi⟩:=List.mem_iff_getElem?.1 p;have l:=(axO.1 hi).1;rcases h.2 i r _ hi (awX (by rw[←h.1];exact l))with rfl|⟨rfl,-⟩
 ·rw[ayX]at d;subst d;rfl
 ·rw[ayX]at d;subst d;rfl
theorem sI.co{y:List (List PV)}{x:List (List Int)}(h:sI y x):Co (.sl 1 y) (lists x):=by
 have u:∀(i:Nat) r t,y[i]?=some r→(x.map λw=>[ints w])[i]?=some t→∃w,t=[ints w]∧(r=[ints w]∨(r=[.aH]∧w=[])):=λi r t e d=>by
  rw[axH]at d;cases E:x[i]? with
  |none=>rw[E]at d;cases d
  |some w =>rw[E]at d;cases d;exact⟨w,rfl,h.2 i r w e E⟩
 refine .sl (by rw[awL,h.1]) (λi r t e d=>?_) (λi j p q hp l=>?_)
 ·obtain⟨w,rfl,A|⟨A,-⟩⟩:=u i r t e d<;>subst A<;>rfl
 ·unfold at2 at hp l;cases e:y[i]? with
  |none=>rw[e]at hp;cases hp
  |some r=>
   cases d:(x.map λw=>[ints w])[i]? with
   |none=>rw[d]at l;cases l
   |some t=>
    rw[e]at hp;rw[d]at l;obtain⟨w,rfl,A⟩:=u i r t e d;rcases A with rfl|⟨rfl,rfl⟩
    ·have:some p=some q:=hp.symm.trans l;cases this;exact .refl _
    ·cases j with
     |zero=>cases hp;cases l;exact .nil 1
     |succ j=>cases hp
end
def Fx(u:PV):Prop:=∀q s rs,PV.frz q s rs u=u
theorem Fx.int(k:IntKind)(n:Int):Fx (.int k n):=λ_ _ _=>rfl
theorem Fx.bool(b:Bool):Fx (.bool b):=λ_ _ _=>rfl
theorem Fx.sl(n:Nat)(r:List (List PV)):Fx (.sl n r):=λ_ _ _=>rfl
theorem Fx.aH:Fx .aH:=λ_ _ _=>rfl
theorem Fx.ptr(q z i c:Nat):Fx (.ptr q z i c):=λ_ _ _=>rfl
theorem Fx.cT(c:List PV):Fx (.cT c):=λ_ _ _=>rfl
theorem bX.dB{H:PH}{s:Nat}{v:PV}{rows:List (List PV)}(h:bX H s v rows)(q z:Nat)(rs:List (List PV)):PV.frz q z rs v=PV.dB q z rs v:=by
 rcases h with⟨-,rfl⟩|⟨p,rs',rfl,-⟩<;>rfl
def Jm(φ:PV→PV)(F:PF):PF:=λi=>(F i).map φ
theorem HA(φ:PV→PV)(F:PF)(i:Nat):Jm φ F i=(F i).map φ:=rfl
theorem KI:∀(ps:WPs){H:PH}{B:List BX}{y:PV}(l:List (List PV)) (d:List (List Int)),sI l d→aT H B ((y,1,l++eC ps)::qQ ps)→(∀b∈B,∀q s rs,aR.frz q s rs b.2=b.2) →
  ∃(φ:PV→PV)(A:PH),Co (φ y) (lists (d++wls ps))∧(∀u,Fx u→φ u=u)∧(∀e:Int,φ (.tup [y,.int .i64 e])=.tup [φ y,.int .i64 e])∧aT A B []∧(∀F:PF,iV F H (Jm φ F) A)∧∀o,(H o=none∨y.oid=some o∨∃p∈ps,p.1.oid=some o)→A o=none
 |[],H,B,y,l,d,J,h,hB=>by
  have M:l++eC []=l:=ayO l;have e1:d++wls []=d:=ayO d;rw[M]at h;rw[e1];rcases h.own 0 rfl with⟨Q,rfl⟩|⟨q,rs,rfl,_⟩
  ·refine⟨id,H,?_,λ_ _=>rfl,λ_=>rfl,h.Ts 0,λF=>?_,λo ho=>?_⟩
   ·subst Q;have:d=[]:=List.length_eq_zero_iff.1 J.1.symm;subst this;exact .nil 1
   ·have:Jm id F=F:=funext λi=>by rw[HA];simp
    rw[this];exact .refl _ _
   ·rcases ho with ho|ho|⟨p,hp,-⟩
    ·exact ho
    ·cases ho
    ·cases hp
  ·obtain⟨rs,W,X,Y,Z,K⟩:=h.frz 0 rfl;refine⟨PV.frz q 1 rs,H.frz q 1 rs,?_,λu N=>N _ _ _,λe=>?_,?_,λF=>.step q W (.refl _ _),λo ho=>?_⟩
   ·rw[Y];exact J.co
   ·show PV.tup [PV.dB q 1 rs (.osl q 1 0 l.length),.int .i64 e]=_;rw[X,Y]
   ·have O:(B.map λb=>(b.1,b.2.frz q 1 rs))=B:=by
     conv=>rhs;rw[←List.map_id B]
     refine azF λb hb=>?_;rw[hB b hb q 1 rs];rfl
    rw[O]at K;exact K
   ·rw[AI];rcases ho with ho|ho|⟨p,hp,-⟩
    ·rw[ho];split<;>rfl
    ·have:q=o:=by injection ho
     rw[aF this.symm]
    ·cases hp
 |(v,w)::ps,H,B,y,l,d,J,h,hB=>by
  have eo:∀u:PV,l++[[u]]++eC ps=l++[u]::eC ps:=λu=>by rw[axX];rfl
  have ew:d++[w]++wls ps=d++wls ((v,w)::ps):=by rw[axX];rfl
  have ho:bX H 1 v (bC w):=h.own 1 rfl;rcases ho with⟨Q,rfl⟩|⟨q,rs,rfl,_⟩
  ·have hw:w=[]:=List.map_eq_nil_iff.1 Q;have h2:=h.Ts 1;obtain⟨φ,A,k1,k2,R,S,U,V⟩:=KI ps (l++[[.aH]]) (d++[w]) (J.snoc (.inr ⟨rfl,hw⟩)) (by rw[eo];exact h2) hB;rw[ew]at k1;refine⟨φ,A,k1,k2,R,S,U,λo ho=>V o ?_⟩;rcases ho with ho|ho|⟨p,hp,ho⟩
   ·exact .inl ho
   ·exact .inr (.inl ho)
   ·rcases awT.1 hp with rfl|hp
    ·cases ho
    ·exact .inr (.inr ⟨p,hp,ho⟩)
  ·obtain⟨rs,W,X,Y,Z,K⟩:=h.frz 1 rfl;have O:(B.map λb=>(b.1,b.2.frz q 1 rs))=B:=by
    conv=>rhs;rw[←List.map_id B]
    refine azF λb hb=>?_;rw[hB b hb q 1 rs];rfl
   have y0:PV.dB q 1 rs y=y:=Z 0 _ aV rfl;have E:PV.frz q 1 rs y=y:=((h.own 0 rfl).dB q 1 rs).trans y0;have yp:∀p∈ps,PV.dB q 1 rs p.1=p.1:=λp hp=>by obtain⟨j,hj⟩:=List.mem_iff_getElem?.1 hp;exact Z (j+2) (p.1,1,bC p.2) Om (l7 hj)
   have er:(l++eC ((.osl q 1 0 (bC w).length,w)::ps)).map (λr=>r.map (PV.dB q 1 rs))=l++[[ints w]]++eC ps:=by
    rw[axQ,J.flat,axX];congr 1;show[PV.dB q 1 rs (.osl q 1 0 (bC w).length)]::(eC ps).map _=_;rw[X];have:(eC ps).map (λr=>r.map (PV.dB q 1 rs))=eC ps:=by unfold eC;rw[azL];refine azF λp hp=>?_;show[PV.dB q 1 rs p.1]=_;rw[yp p hp]
    rw[this];rfl
   have ei:(qQ ps).map (λx=>(x.1,x.2.1,x.2.2.map λr=>r.map (PV.dB q 1 rs)))=qQ ps:=by unfold qQ;rw[azL];refine azF λp _=>?_;show(p.1,1,(bC p.2).map λr=>r.map (PV.dB q 1 rs))=_;rw[show(bC p.2).map (λr=>r.map (PV.dB q 1 rs))=bC p.2 from Flat.map p.2 (λx c hc q s rs=>by rw[ayX]at hc;subst hc;rfl) q 1 rs]
   have z6:aT (H.frz q 1 rs) B ((y,1,l++[[ints w]]++eC ps)::qQ ps):=by rw[O]at K;have z7:aT (H.frz q 1 rs) B ((y,1,(l++eC ((.osl q 1 0 (bC w).length,w)::ps)).map (λr=>r.map (PV.dB q 1 rs)))::(qQ ps).map (λx=>(x.1,x.2.1,x.2.2.map λr=>r.map (PV.dB q 1 rs)))):=K;rw[er,ei]at z7;exact z7
   obtain⟨φ,A,k1,k2,R,S,U,V⟩:=KI ps (l++[[ints w]]) (d++[w]) (J.snoc (.inl rfl)) z6 hB;rw[ew]at k1;refine⟨λu=>φ (PV.frz q 1 rs u),A,?_,λu N=>?_,λe=>?_,S,λF=>.step q W ?_,λo ho=>V o ?_⟩
   ·simp only;rw[E];exact k1
   ·simp only;rw[N,k2 u N]
   ·simp only;rw[E];have yt:PV.frz q 1 rs (.tup [y,.int .i64 e])=.tup [PV.frz q 1 rs y,.int .i64 e]:=by rcases h.own 0 rfl with⟨-,M⟩|⟨p,rs',M,-⟩<;>(subst M;rfl)
    rw[yt,E,R]
   ·have:Jm (λu=>φ (PV.frz q 1 rs u)) F=Jm φ (F.frz q 1 rs):=funext λi=>by rw[HA,HA,sL,Option.map_map];rfl
    rw[this];exact U _
   ·rw[AI];rcases ho with ho|ho|⟨p,hp,ho⟩
    ·left;rw[ho];split<;>rfl
    ·exact .inr (.inl ho)
    ·rcases awT.1 hp with rfl|hp
     ·have:q=o:=by injection ho
      left;rw[aF this.symm]
     ·exact .inr (.inr ⟨p,hp,ho⟩)
theorem DA{res:List dJ}{F:PF}{H:PH}{d:PV}{ps:WPs}{c:Int}{e:kZ}(u:e=.normal∨e=.ret)(h:dJ.evs F H res=some [d,.int .i64 c])(l:aT H [] (fZ d ps)):bD res (cV (.tup [lists (wls ps),.int .i64 c])) e F H:=by
 obtain⟨φ,y,k1,-,w,-,x,-⟩:=KI ps [] [] .nil l (λb hb=>by cases hb);refine GU u h ⟨_,_,.nil,x _,a_,φ (cR [d,.int .i64 c]),?_,?_⟩
 ·rw[HA,mG,aF rfl];rfl
 ·show cV _ (φ (.tup [d,.int .i64 c])) .nil;rw[w];refine⟨.tup rfl λj p q hp i=>?_,rfl⟩
  match j with
  |0=>cases hp;cases i;exact k1
  |1=>cases hp;cases i;exact .refl _
  |j+2=>cases hp
theorem bX.lenOf{H:PH}{v:PV}{rows:List (List PV)}{s:Nat}(h:bX H s v rows):PV.qD v=some (.int .i64 (Z' rows:Nat)):=by
 rcases h with⟨rfl,rfl⟩|⟨q,rs,rfl,-⟩<;>rfl
theorem aT.alX{H:PH}{B:List BX}{l:PV}{ps:WPs}(h:aT H B (fZ l ps)){i:Nat}(hi:i<Z' ps) :
  ∃e rs,l=.osl e 1 0 ps.length∧H e=some (.rows 1 rs)∧rs[i]?=some [ps[i].1]∧i<Z' rs:=by
 rcases h.outer with⟨d,-⟩|⟨q,rs,rfl,d,h2,h3⟩
 ·have:(eC ps).length=0:=by rw[d];rfl
  rw[pD]at this;omega
 ·rw[pD]at h2 h3;refine⟨q,rs,by rw[pD],d,?_,by omega⟩;have:=G3 (ps:=ps) (i:=i) (v:=ps[i].1) (w:=ps[i].2) (by rw[awX hi]);rw[←h3,List.getElem?_take_of_lt hi]at this;exact this
theorem aT.ajN{H:PH}{B:List BX}{d:PV}{ps:WPs}(h:aT H B (fZ d ps)):PV.qD d=some (.int .i64 (Z' ps:Nat)):=by
 have:=h.outer.lenOf
 rwa[pD]at this
theorem HC(ps:WPs):(wls ps).length=Z' ps:=awL _
theorem jh{res:List dJ}{F:PF}{H:PH}{d:PV}{ps:WPs}{e:kZ}(l:e=.normal∨e=.ret)(h:dJ.evs F H res=some [d])(i:aT H [] (fZ d ps)):bD res (cV (lists (wls ps))) e F H:=by
 obtain⟨φ,u,k1,-,-,-,p,-⟩:=KI ps [] [] .nil i (λb hb=>by cases hb);refine GU l h ⟨_,_,.nil,p _,a_,φ (cR [d]),?_,?_⟩
 ·rw[HA,mG,aF rfl];rfl
 ·exact⟨k1,rfl⟩
def l8(f:aM)(lv:Int)(i:Nat):Bool:=decide (lvl f i=lv)
def CI(f:aM)(lv:Int):List Nat:=(awU f.avD.length).filter (l8 f lv)
def eN(f:aM)(lv:Int)(i:Nat):Nat:=(awU i).countP (l8 f lv)
def fU(f:aM)(lv:Int)(k:Nat):List Int:=(awU f.avD.length).map λi=>if i<k∧lvl f i=lv then((eN f lv i:Nat):Int)else 0
def xS(f:aM)(lv:Int)(d i:Nat):List Nat:=(awU d).filter λe=>decide (dR f e lv=i)
def pT(f:aM)(lv:Int)(d:Nat):List (List Int):=(CI f lv).map λi=>cI (xS f lv d i)
theorem I6(f:aM){lv:Int}(h:lv≠5):kK f lv=pT f lv f.avA.length:=by
 unfold kK;rw[aC h];rfl
theorem vz(f:aM):kK f 5=(awU f.avA.length).map λ(d:Nat)=>[(d:Int)]:=by
 unfold kK;rw[aF rfl]
theorem Vv(f:aM)(lv:Int)(k:Nat):(fU f lv k).length=Z' f.avD:=by unfold fU;simp
theorem K3(f:aM)(lv:Int):fU f lv 0=awO f.avD.length 0:=by
 unfold fU;refine azS aY λi d e=>?_;simp
theorem u6{f:aM}{lv:Int}{k i:Nat}(hi:i<Z' f.avD):(fU f lv k)[i]?=some (if i<k∧lvl f i=lv then((eN f lv i:Nat):Int)else 0):=by
 unfold fU;rw[axH,List.getElem?_range hi];rfl
theorem Vu{f:aM}{lv:Int}{k:Nat}(h:lvl f k=lv):(fU f lv k).set k ((eN f lv k:Nat):Int)=fU f lv (k+1):=by
 refine azS (by simp[fU]) λi d l=>?_;simp only[fU,List.getElem_set,ayR,List.getElem_range];by_cases e:k=i
 ·subst e;rw[aF rfl,aF ⟨by omega,h⟩]
 ·rw[aC e];have:i<k↔i<k+1:=Om;simp only[this]
theorem K0{f:aM}{lv:Int}{k:Nat}(h:lvl f k≠lv):fU f lv k=fU f lv (k+1):=by
 refine azS (by simp[fU]) λi d l=>?_;simp only[fU,ayR,List.getElem_range];by_cases e:k=i
 ·subst e;rw[aC Om,aC (λx=>h x.2)]
 ·have:i<k↔i<k+1:=Om;simp only[this]
theorem Wn{f:aM}{lv:Int}{k:Nat}(h:lvl f k=lv):eN f lv (k+1)=eN f lv k+1:=by
 unfold eN l8;rw[List.range_succ,List.countP_append];simp[h]
theorem Lf{f:aM}{lv:Int}{k:Nat}(h:lvl f k≠lv):eN f lv (k+1)=eN f lv k:=by
 unfold eN l8;rw[List.range_succ,List.countP_append];simp[h]
theorem aaF(f:aM)(lv:Int)(k:Nat):eN f lv k≤k:=axT List.countP_le_length aY
theorem Ri{f:aM}{lv:Int}{a:Nat}(d:a<Z' f.avD)(h:lvl f a=lv):(CI f lv)[eN f lv a]?=some a:=X7 (q:=l8 f lv) d (by rw[l8,bQ h])
theorem Kr(f:aM)(lv:Int)(d i:Nat):xS f lv (d+1) i=if dR f d lv=i then xS f lv d i++[d]else xS f lv d i:=by
 unfold xS;rw[List.range_succ,List.filter_append];by_cases h:dR f d lv=i<;>simp[h]
theorem fp(f:aM)(lv:Int)(d i:Nat):(xS f lv d i).length≤d:=axT (List.length_filter_le ..) aY
theorem acC(f:aM)(lv:Int):(CI f lv).Nodup:=List.nodup_range.filter _
theorem afX{f:aM}{lv:Int}{d:Nat}(B:dR f d lv<Z' f.avD)(h:lvl f (dR f d lv)=lv){ps:WPs}(hp:wls ps=pT f lv d){v:PV}{w:List Int}(hi:ps[eN f lv (dR f d lv)]?=some (v,w))(v':PV) :
  w.length≤d∧wls (ps.set (eN f lv (dR f d lv)) (v',w++[(d:Int)]))=pT f lv (d+1):=by
 have p:=Ri B h;have x:w=cI (xS f lv d (dR f d lv)):=by
  have l:(wls ps)[eN f lv (dR f d lv)]?=some w:=by unfold wls;rw[axH,hi];rfl
  rw[hp,pT,axH,p]at l;injection l with l
  exact l.symm
 refine⟨by rw[x];unfold cI;rw[awL];exact fp ..,?_⟩;have u:wls (ps.set (eN f lv (dR f d lv)) (v',w++[(d:Int)]))=(pT f lv d).set (eN f lv (dR f d lv)) (w++[(d:Int)]):=by rw[←hp];unfold wls;rw[List.map_set]
 rw[u,x];unfold pT;refine azS aY λi l u=>?_;have il:i<(CI f lv).length:=by simpa using u
 rw[List.getElem_set];simp only[ayR];rw[Kr];obtain⟨E,y⟩:=axO.1 p;by_cases e:eN f lv (dR f d lv)=i
 ·subst e;rw[aF rfl,y,aF rfl];unfold cI;rw[axQ];rfl
 ·rw[aC e,aC];intro e2;have A:(CI f lv)[eN f lv (dR f d lv)]=(CI f lv)[i]:=y.trans e2;exact e ((List.getElem_inj (acC f lv)).1 A)
def DC(n:Nat):List (List PV):=(awU n).map λ(d:Nat)=>[ints [(d:Int)]]
theorem Zx(n:Nat):(DC n).length=n:=by unfold DC;simp
theorem Vz(n:Nat):DC (n+1)=DC n++[[ints [(n:Int)]]]:=by unfold DC;rw[List.range_succ,axQ];rfl
theorem aaG(f:aM):lay (kK f 5)=.sl 1 (DC f.avA.length):=by
 rw[vz];unfold DC;show PV.sl 1 (List.map _ (List.map _ _))=_;rw[azL];rfl
theorem Le(f:aM)(lv:Int):pT f lv 0=awO (eN f lv f.avD.length) []:=by
 unfold pT eN;rw[List.countP_eq_length_filter];refine azS (by simp[CI]) λi d e=>?_;simp[xS,cI]
theorem j9(f:aM)(lv:Int)(d:Nat):(pT f lv d).length=(CI f lv).length:=by unfold pT;simp
def unB(f:aM)(lv:Int)(d:Nat)(e:PV)(k:Nat):PF:=(((((((PF.nil.set 1 (.int .i64 lv)).set 2 (.cT f.cells)).set 5 (e)).set 7 (.osl d 1 0 f.avD.length)).set 33 (.sl 7 (f.avD.map cX.cells))).set 34 (.int .i64 (Z' f.avD:Nat))).set 35 (.int .i64 k))
def unC(f:aM)(lv:Int)(e:Nat)(i:PV)(d:Nat):PF:=(((((((PF.nil.set 1 (.int .i64 lv)).set 2 (.cT f.cells)).set 5 (i)).set 7 (.osl e 1 0 f.avD.length)).set 54 (.sl 3 (f.avA.map dQ.cells))).set 55 (.int .i64 (Z' f.avA:Nat))).set 56 (.int .i64 d))
def unE(f:aM)(lv:Int)(e:Nat)(i:PV)(d at_:Nat):PF:=(((((((((PF.nil.set 1 (.int .i64 lv)).set 2 (.cT f.cells)).set 5 (i)).set 7 (.osl e 1 0 f.avD.length)).set 54 (.sl 3 (f.avA.map dQ.cells))).set 55 (.int .i64 (Z' f.avA:Nat))).set 56 (.int .i64 d)).set 10 (.int .i64 d)).set 12 (.int .i64 at_))
theorem Xv{C:Ctx}{K:cJ}[Up K](f:aM)(hV:VF f)(lv:Int)(N:1≤lv)(O:lv≤4)(y:Nat)(B:PV)(d:Nat)(M:d<Z' f.avA){F:PF}{H:PH}
  (J:(unE f lv y B d (dV f d)).le F) (E:K (.exit 6) (unE f lv y B d (dR f d lv)) H):aD.wp C (.loop yN) K F H:=by
 refine wp_loop (α:=Nat) (λj=>unE f lv y B d (upN f j (dV f d))) (λ_=>H) (λj=>(j:Int)≤4-lv) (λj=>4-j) 0 Om (by rw[upN];exact J) b_ ?_;intro j Q;obtain⟨l,A⟩:=RV hV M (k:=j) Om;have p:((upN f j (dV f d):Nat):Int)<(Z' f.avD:Nat):=Om;by_cases c:(j:Int)<4-lv
 ·have i:4-(j:Int)>lv:=Om;have w:0<upN f j (dV f d):=by
   rcases azE (upN f j (dV f d))with e|e
   ·rw[e,hV.root.2.1]at A;omega
   ·exact e
  have x:upN f (j+1) (dV f d)=KX f (upN f j (dV f d)):=rfl;have u:=hV.Qj w l;simp only[go_sem,yN,HV,unE,p,rM l,gi l,A,i,dg,G6 l,u];exact aP (j+1) Om Om (by(repeat' (first|exact d_|refine c_ ?_ ?_))<;>first|(simp only[go_sem,x]<;>rfl)|rfl) b_
 ·have i:¬4-(j:Int)>lv:=Om;have e:dR f d lv=upN f j (dV f d):=by rw[dR,show 4-lv.toNat=j by omega]
  rw[e]at E;simp only[go_sem,yN,HV,unE,p,rM l,gi l,A,i];refine Up.up ?_ E;unfold unE;exact Lq
theorem Xu{C:Ctx}(f:aM)(hV:VF f)(lv:Int)(h1:1≤lv)(h5:lv≤5) :
  DX.wp C (bD zx.res (cV (lay (kK f lv)))) (PF.args [.agg f.cells,.int .i64 lv]) .nil:=by
 have Z:=hV.small;have hd:=Z.avA;have μ:=Z.avD;simp only[go_sem,DX,qj,qk,ql,zx];by_cases c5:lv=5
 ·subst c5;rw[aaG];simp only[go_sem,cH (show(5:Int)=5 from rfl),qn,awL];refine wp_loop (α:=Nat × PV × PH) (λs=>(((PF.nil.set 5 (s.2.1)).set 17 (.int .i64 (Z' f.avA:Nat))).set 18 (.int .i64 s.1))) (λs=>s.2.2) (λs=>s.1≤Z' f.avA∧bX s.2.2 1 s.2.1 (DC s.1)) (λs=>Z' f.avA-s.1) (0,.aH,.nil) ⟨axB _,.nil⟩ Lq b_ ?_;rintro⟨k,v,H⟩ ⟨hk,hO⟩;simp only at hk hO;simp only[go_sem,qi,qp];by_cases hlt:k<Z' f.avA
  ·have e:(k:Int)<(Z' f.avA:Nat):=Om;simp only[go_sem,e,qq,qr];refine jN (src:=[[ints [(k:Int)]]]) hO (by simp only[go_sem];rfl) (by unfold roomFor;rw[Zx];simp only[awV,maxLen];omega) λv' H' V _=>?_;rw[←Vz]at V;simp only[go_sem,qt,wZz k];exact aP (k+1,v',H') ⟨hlt,V⟩ (by simp only;omega) Lq b_
  ·have e:¬(k:Int)<(Z' f.avA:Nat):=Om;have:k=Z' f.avA:=Om;subst this;simp only[go_sem,e,qu];exact ji (.inr rfl) hO Sq
 have h4:lv≤4:=Om;rw[I6 f c5];have δ:(Z' f.avD:Int)*((8:Nat):Int)≤140737488355328:=Om;have ε:(Z' f.avD:Int)≤9223372036854775807:=Om;have ζ:(0:Int)≤(Z' f.avD:Int):=Om;simp only[go_sem,bO c5,cx,awL,δ,ε,ζ,Int.le_refl,ayU];refine aW λA hP=>?_;have ez:awO f.avD.length [PV.int .i64 0]=bC (fU f lv 0):=by rw[K3,UI]
 rw[ez];have U:aT (PH.nil.set A (.rows 1 (bC (fU f lv 0)))) [(A,.rows 1 (bC (fU f lv 0)))] (fZ .aH []):=((aT.nil (H:=PH.nil)).new hP _).TJ;simp only[go_sem,cy,awL];refine wp_loop (α:=Nat × PV × WPs × PH) (λs=>unB f lv A s.2.1 s.1) (λs=>s.2.2.2) (λs=>s.1≤Z' f.avD∧wls s.2.2.1=awO (eN f lv s.1) []∧aT s.2.2.2 [(A,.rows 1 (bC (fU f lv s.1)))] (fZ s.2.1 s.2.2.1)) (λs=>Z' f.avD-s.1) (0,.aH,[],_) ⟨axB _,rfl,U⟩ (by unfold unB;exact Lq) b_ ?_;clear U ez hP;rintro⟨i,vo,ps,H⟩ ⟨hi,l,p⟩;simp only at hi l p;simp only[go_sem,cv,cz,unB];by_cases hlt:i<Z' f.avD
 ·have e:(i:Int)<(Z' f.avD:Nat):=Om;have ι:Z' ps=eN f lv i:=by have:=congrArg List.length l;rw[HC,List.length_replicate]at this;exact this
  have Q:=aaF f lv i;simp only[go_sem,e,c7,rM hlt];refine aW λq R=>?_;have E:=p.at 0 rfl;have n1:¬A=q:=by rintro rfl;rw[E]at R;cases R
  have M:=λx=>p.new R x;simp only[go_sem,c8,gi hlt];by_cases c:lvl f i=lv
  ·have X:=p.ajN;have B:=u6 (f:=f) (lv:=lv) (k:=i) hlt;have y:(bC (fU f lv i))[i]?=some [.int .i64 (if i<i∧lvl f i=lv then((eN f lv i:Nat):Int)else 0)]:=by unfold bC;rw[axH,B];rfl
   have θ:i<(bC (fU f lv i)).length:=by rw[eH,Vv];exact hlt
   have S:(bC (fU f lv i)).set i [.int .i64 (Z' ps:Nat)]=bC (fU f lv (i+1)):=by rw[sn,ι,Vu c]
   have h3:=λx=>(M x).set 0 rfl (.rows 1 (bC (fU f lv (i+1))));simp only[go_sem,cH c,c9,X,e,n1,E,y,θ,axJ,S,da];refine(h3 _).ajG Sq (by unfold roomFor;simp only[maxLen];omega) λq2 H2 h4=>?_;simp only[go_sem,HU,wZz i];refine aP (i+1,PV.osl q2 1 0 (Z' ps+1),ps++[(PV.aH,[])],H2) ⟨hlt,?_,h4.yT 1⟩ (by simp only;omega) Lq b_;simp only;rw[Wn c,List.replicate_succ'];unfold wls at l ⊢;rw[axQ,l];rfl
  ·have S:fU f lv i=fU f lv (i+1):=K0 c;simp only[go_sem,bO c,HU,wZz i];refine aP (i+1,vo,ps,_) ⟨hlt,?_,?_⟩ (by simp only;omega) Lq b_
   ·simp only;rw[Lf c];exact l
   ·simp only;rw[←S];exact(M _).yT 1
 have e:¬(i:Int)<(Z' f.avD:Nat):=Om;have:i=Z' f.avD:=Om;subst this;rw[←Le]at l;simp only[go_sem,e,db,awL];refine wp_loop (α:=Nat × PV × WPs × PH) (λs=>unC f lv A s.2.1 s.1) (λs=>s.2.2.2) (λs=>s.1≤Z' f.avA∧wls s.2.2.1=pT f lv s.1∧aT s.2.2.2 [(A,.rows 1 (bC (fU f lv f.avD.length)))] (fZ s.2.1 s.2.2.1)) (λs=>Z' f.avA-s.1) (0,vo,ps,H) ⟨axB _,l,p⟩ (by unfold unC;exact Lq) b_ ?_;clear l p hi hlt e;rintro⟨d,vo,ps,H⟩ ⟨η,l,p⟩;simp only at η l p;simp only[go_sem,cw,dd,unC];by_cases hlt:d<Z' f.avA
 ·have e:(d:Int)<(Z' f.avA:Nat):=Om;simp only[go_sem,e,de,OI hlt];refine aW λq R=>?_;have E:=p.at 0 rfl;have n1:¬A=q:=by rintro rfl;rw[E]at R;cases R
  have M:=λx=>(p.new R x).yT 1;simp only[go_sem,df,hV.Oi hlt];generalize hx:aR.rows 3 _=x;have M:=M x;have N:=M.at 0 rfl;generalize H.set q x=H1 at *
  have up:=λ{K:cJ} [Up K] {F:PF} {H:PH}=>Xv (C:=C) (K:=K) f hV lv h1 h4 A vo d hlt (F:=F) (H:=H);refine up (by unfold unE;exact Lq) ?_;obtain⟨a1,a2⟩:=RV hV hlt (k:=4-lv.toNat) Om;have a3:lvl f (dR f d lv)=lv:=by rw[dR,a2];omega
  have a1:dR f d lv<Z' f.avD:=a1;have γ:((dR f d lv:Nat):Int)<(Z' f.avD:Nat):=Om;have B:=u6 (f:=f) (lv:=lv) (k:=Z' f.avD) a1;rw[aF ⟨a1,a3⟩]at B;have y:(bC (fU f lv f.avD.length))[dR f d lv]?=some [.int .i64 (eN f lv (dR f d lv):Nat)]:=by unfold bC;rw[axH,B];rfl
  have J:eN f lv (dR f d lv)<Z' ps:=by have:=(axO.1 (Ri a1 a3)).1;rw[←HC,l,j9];exact this
  have O:=λv'=>afX (ps:=ps) a1 a3 l (awX J) v';have Q:ps[eN f lv (dR f d lv)]?=some (ps[eN f lv (dR f d lv)].1,ps[eN f lv (dR f d lv)].2):=by rw[awX J]
  have ν:ps[eN f lv (dR f d lv)]=(ps[eN f lv (dR f d lv)].1,ps[eN f lv (dR f d lv)].2):=rfl;obtain⟨qo,rs,rfl,b1,b2,b3⟩:=M.alX J;generalize ps[eN f lv (dR f d lv)].2=w at *
  generalize ps[eN f lv (dR f d lv)].1=v at *
  generalize eN f lv (dR f d lv)=u at *
  have β:(u:Int)<(Z' ps:Nat):=Om;have ξ:=(O .aH).1;simp only[go_sem,unE];refine dH (PH.nil.set A (.rows 1 (bC (fU f lv f.avD.length)))) gX (PH.aN a_ N) ?_;simp only[go_sem,dh,γ,N,y,axJ,β,b1,b2,b3];refine M.apJ (src:=[(d:Int)]) Q (by simp only[go_sem];rfl) (by unfold roomFor;simp only[awV,maxLen];omega) aY λq2 H2 h5=>?_;have Y:=h5.at 0 rfl;refine⟨PH.aN a_ Y,?_⟩;obtain⟨rs2,e1,e2,e3,h6⟩:=h5.amR;have κ:u<Z' rs2:=Om;have W:rs2[u]?=some [v]:=by have:=G3 Q;rw[←e3,List.getElem?_take_of_lt J]at this;exact this
  refine dH .nil gX a_ ?_;simp only[go_sem,di,e1,κ,W,dj,wZz d];refine⟨a_,?_⟩;refine aP (d+1,PV.osl qo 1 0 ps.length,ps.set u (PV.osl q2 1 0 (w++[(d:Int)]).length,w++[(d:Int)]),H2.set qo (.rows 1 (rs2.set u [.osl q2 1 0 (w++[(d:Int)]).length]))) ⟨hlt,(O _).2,h6⟩ (by simp only;omega) Lq (by simp only;exact b_)
 ·have e:¬(d:Int)<(Z' f.avA:Nat):=Om;have:d=Z' f.avA:=Om;subst this;simp only[go_sem,e,dk];rw[←l];exact jh (.inr rfl) Sq (p.yT 0)
def zl:List aS:=[
 ⟨(some 2),.box true (.tmp 0),none⟩,
 ⟨(some 3),.box true (.tmp 1),none⟩,
 ⟨(some 4),.mv (.const .aH),none⟩]
def zm:List aS:=[
 ⟨(some 5),.alloc [.aH],none⟩]
def zn:List aS:=[
 ⟨(some 7),.awD 1 (.tmp 3),none⟩,
 ⟨(some 8),.load none (.tmp 7),none⟩,
 ⟨(some 9),.awD 2 (.tmp 3),none⟩,
 ⟨(some 10),.load none (.tmp 9),none⟩,
 ⟨(some 11),.bin .add (.tmp 8) (.tmp 10),none⟩,
 ⟨(some 12),.awD 4 (.tmp 2),none⟩,
 ⟨(some 13),.load none (.tmp 12),none⟩,
 ⟨(some 14),.len (.tmp 13),none⟩,
 ⟨(some 15),.call 210 [(.tmp 11),(.tmp 14)],none⟩]
def zo:List aS:=[
 ⟨(some 6),.mv (.tmp 16),none⟩]
def zp:List aS:=[
 ⟨(some 17),.load (some 7) (.tmp 2),none⟩,
 ⟨(some 18),.load (some 17) (.tmp 3),none⟩,
 ⟨(some 19),.mv (.tmp 6),none⟩,
 ⟨(some 20),.call 201 [(.tmp 17),(.tmp 18),(.tmp 19)],none⟩]
def zq:List aS:=[
 ⟨(some 21),.load none (.tmp 5),none⟩,
 ⟨(some 22),.mv (.tmp 6),none⟩,
 ⟨(some 23),.avG true 1 1 [.aH] [(0,(.tmp 22))],none⟩,
 ⟨(some 24),.append 1 24 (.tmp 21) (.tmp 23),none⟩,
 ⟨none,.store 1 (.tmp 5) (.tmp 24),none⟩]
def zr:List aS:=[
 ⟨(some 25),.load none (.tmp 5),none⟩,
 ⟨(some 4),.mv (.tmp 25),none⟩]
def qc:aD:=(.region zo)
def qd:aD:=(.block 1 (.seq (.region zp) (.cond (.tmp 20) (.region zq) .skip)))
def cr:aD:=(.seq (.region zr) .ret)
def HS(d e:Code):rG:=(.seq (.region zl) (.seq (.region zm) (.seq (.region zn) (.range (.tmp 15) 26 16 d e qc qd cr))))
def abV:List Nat:=[2,3,23]
def Sp(d e:Code):AR:=⟨2,26,HS d e,[.tmp 4]⟩
def zd:List aS:=[
 ⟨(some 2),.box true (.tmp 0),none⟩,
 ⟨(some 3),.box true (.tmp 1),none⟩,
 ⟨(some 4),.mv (.const .aH),none⟩,
 ⟨(some 5),.mv (.const (.int .i64 0)),none⟩]
def ze:List aS:=[
 ⟨(some 17),.load (some 7) (.tmp 2),none⟩,
 ⟨(some 18),.call 96 [(.tmp 17)],none⟩,
 ⟨(some 19),.bin .neq (.tmp 18) (.const (.int .i64 0)),none⟩,
 ⟨(some 20),.mv (.tmp 19),none⟩,
 ⟨(some 21),.awD 0 (.tmp 3),(some (20,false))⟩,
 ⟨(some 22),.load none (.tmp 21),(some (20,false))⟩,
 ⟨(some 23),.bin .lss (.tmp 22) (.const (.int .i64 1)),(some (20,false))⟩,
 ⟨(some 24),.pick (.tmp 20) (.const (.bool true)) (.tmp 23),none⟩,
 ⟨(some 25),.mv (.tmp 24),none⟩,
 ⟨(some 26),.awD 0 (.tmp 3),(some (25,false))⟩,
 ⟨(some 27),.load none (.tmp 26),(some (25,false))⟩,
 ⟨(some 28),.bin .gtr (.tmp 27) (.const (.int .i64 5)),(some (25,false))⟩,
 ⟨(some 29),.pick (.tmp 25) (.const (.bool true)) (.tmp 28),none⟩,
 ⟨(some 30),.mv (.tmp 29),none⟩,
 ⟨(some 31),.awD 1 (.tmp 3),(some (30,false))⟩,
 ⟨(some 32),.load none (.tmp 31),(some (30,false))⟩,
 ⟨(some 33),.bin .lss (.tmp 32) (.const (.int .i64 1)),(some (30,false))⟩,
 ⟨(some 34),.pick (.tmp 30) (.const (.bool true)) (.tmp 33),none⟩,
 ⟨(some 35),.mv (.tmp 34),none⟩,
 ⟨(some 36),.awD 1 (.tmp 3),(some (35,false))⟩,
 ⟨(some 37),.load none (.tmp 36),(some (35,false))⟩,
 ⟨(some 38),.bin .gtr (.tmp 37) (.const (.int .i64 3)),(some (35,false))⟩,
 ⟨(some 39),.pick (.tmp 35) (.const (.bool true)) (.tmp 38),none⟩]
def wF:List aS:=[
 ⟨(some 4),.mv (.const .aH),none⟩,
 ⟨(some 5),.mv (.const (.int .i64 1)),none⟩]
def zf:List aS:=[
 ⟨(some 40),.load (some 7) (.tmp 2),none⟩,
 ⟨(some 41),.awD 0 (.tmp 3),none⟩,
 ⟨(some 42),.load none (.tmp 41),none⟩,
 ⟨(some 43),.call 206 [(.tmp 40),(.tmp 42)],none⟩,
 ⟨(some 6),.alloc [.aH],none⟩,
 ⟨none,.store 1 (.tmp 6) (.tmp 43),none⟩]
def zg:List aS:=[
 ⟨(some 44),.awD 4 (.tmp 2),none⟩,
 ⟨(some 45),.load none (.tmp 44),none⟩,
 ⟨(some 46),.len (.tmp 45),none⟩,
 ⟨(some 47),.bin .gtr (.tmp 46) (.const (.int .i64 12)),none⟩,
 ⟨(some 48),.mv (.tmp 47),none⟩,
 ⟨(some 49),.load none (.tmp 6),(some (48,false))⟩,
 ⟨(some 50),.len (.tmp 49),(some (48,false))⟩,
 ⟨(some 51),.awD 1 (.tmp 3),(some (48,false))⟩,
 ⟨(some 52),.load none (.tmp 51),(some (48,false))⟩,
 ⟨(some 53),.call 207 [(.tmp 50),(.tmp 52)],(some (48,false))⟩,
 ⟨(some 54),.bin .gtr (.tmp 53) (.const (.int .i64 512)),(some (48,false))⟩,
 ⟨(some 55),.pick (.tmp 48) (.const (.bool true)) (.tmp 54),none⟩]
def WV:List aS:=[
 ⟨(some 4),.mv (.const .aH),none⟩,
 ⟨(some 5),.mv (.const (.int .i64 2)),none⟩]
def zh:List aS:=[
 ⟨(some 7),.alloc [.aH],none⟩]
def zi:List aS:=[
 ⟨(some 56),.awD 1 (.tmp 3),none⟩,
 ⟨(some 57),.load none (.tmp 56),none⟩,
 ⟨(some 58),.load none (.tmp 6),none⟩,
 ⟨(some 59),.len (.tmp 58),none⟩,
 ⟨(some 60),.call 210 [(.tmp 57),(.tmp 59)],none⟩]
def zj:List aS:=[
 ⟨(some 8),.mv (.tmp 61),none⟩]
def zk:List aS:=[
 ⟨(some 62),.awD 4 (.tmp 2),none⟩,
 ⟨(some 63),.load none (.tmp 62),none⟩,
 ⟨(some 64),.len (.tmp 63),none⟩,
 ⟨(some 65),.avI 1 1 [(.bool false)] (.tmp 64) (.tmp 64),none⟩,
 ⟨(some 9),.mv (.tmp 65),none⟩]
def po:List aS:=[
 ⟨(some 66),.mv (.tmp 8),none⟩,
 ⟨(some 67),.len (.tmp 66),none⟩,
 ⟨(some 68),.mv (.const (.int .i64 0)),none⟩]
def pq:List aS:=[
 ⟨(some 69),.bin .lss (.tmp 68) (.tmp 67),none⟩]
def pt:List aS:=[
 ⟨(some 70),.avR 1 (.tmp 66) (.tmp 68),none⟩,
 ⟨(some 71),.load none (.tmp 70),none⟩,
 ⟨(some 11),.mv (.tmp 71),none⟩]
def pu:List aS:=[
 ⟨(some 72),.load none (.tmp 6),none⟩,
 ⟨(some 73),.mv (.tmp 11),none⟩,
 ⟨(some 74),.avR 1 (.tmp 72) (.tmp 73),none⟩,
 ⟨(some 75),.load none (.tmp 74),none⟩,
 ⟨(some 76),.len (.tmp 75),none⟩,
 ⟨(some 77),.mv (.const (.int .i64 0)),none⟩]
def pw:List aS:=[
 ⟨(some 78),.bin .lss (.tmp 77) (.tmp 76),none⟩]
def p0:List aS:=[
 ⟨(some 79),.avR 1 (.tmp 75) (.tmp 77),none⟩,
 ⟨(some 80),.load none (.tmp 79),none⟩,
 ⟨(some 13),.mv (.tmp 80),none⟩]
def p4:List aS:=[
 ⟨(some 81),.mv (.tmp 9),none⟩,
 ⟨(some 82),.mv (.tmp 13),none⟩,
 ⟨(some 83),.avR 1 (.tmp 81) (.tmp 82),none⟩,
 ⟨none,.store 1 (.tmp 83) (.const (.bool true)),none⟩]
def p5:List aS:=[
 ⟨(some 84),.bin .add (.tmp 77) (.const (.int .i64 1)),none⟩,
 ⟨(some 77),.mv (.tmp 84),none⟩]
def NX:aD:=(.seq (.region pw) (.seq (.cond (.tmp 78) .skip (.exit 4)) (.seq (.block 5 (.seq (.region p0) (.region p4))) (.region p5))))
def p6:List aS:=[
 ⟨(some 85),.bin .add (.tmp 68) (.const (.int .i64 1)),none⟩,
 ⟨(some 68),.mv (.tmp 85),none⟩]
def NY:aD:=(.seq (.region pq) (.seq (.cond (.tmp 69) .skip (.exit 2)) (.seq (.block 3 (.seq (.region pt) (.seq (.region pu) (.block 4 (.loop NX))))) (.region p6))))
def p7:List aS:=[
 ⟨(some 14),.mv (.const .aH),none⟩]
def p8:List aS:=[
 ⟨(some 86),.mv (.tmp 9),none⟩,
 ⟨(some 87),.len (.tmp 86),none⟩,
 ⟨(some 88),.mv (.const (.int .i64 0)),none⟩]
def p9:List aS:=[
 ⟨(some 89),.bin .lss (.tmp 88) (.tmp 87),none⟩]
def OA:List aS:=[
 ⟨(some 90),.mv (.tmp 88),none⟩,
 ⟨(some 91),.avR 1 (.tmp 86) (.tmp 88),none⟩,
 ⟨(some 92),.load none (.tmp 91),none⟩,
 ⟨(some 15),.mv (.tmp 90),none⟩,
 ⟨(some 16),.mv (.tmp 92),none⟩]
def OB:List aS:=[
 ⟨(some 93),.mv (.tmp 16),none⟩]
def qa:List aS:=[
 ⟨(some 94),.mv (.tmp 14),none⟩,
 ⟨(some 95),.mv (.tmp 15),none⟩,
 ⟨(some 96),.avG true 1 1 [(.int .i64 0)] [(0,(.tmp 95))],none⟩,
 ⟨(some 97),.append 1 8 (.tmp 94) (.tmp 96),none⟩,
 ⟨(some 14),.mv (.tmp 97),none⟩]
def OC:List aS:=[
 ⟨(some 98),.bin .add (.tmp 88) (.const (.int .i64 1)),none⟩,
 ⟨(some 88),.mv (.tmp 98),none⟩]
def NZ:aD:=(.seq (.region p9) (.seq (.cond (.tmp 89) .skip (.exit 6)) (.seq (.block 7 (.seq (.region OA) (.seq (.region OB) (.cond (.tmp 93) (.region qa) .skip)))) (.region OC))))
def OD:List aS:=[
 ⟨(some 99),.load none (.tmp 7),none⟩,
 ⟨(some 100),.mv (.tmp 14),none⟩,
 ⟨(some 101),.avG true 1 1 [.aH] [(0,(.tmp 100))],none⟩,
 ⟨(some 102),.append 1 24 (.tmp 99) (.tmp 101),none⟩,
 ⟨none,.store 1 (.tmp 7) (.tmp 102),none⟩]
def qb:List aS:=[
 ⟨(some 103),.load none (.tmp 7),none⟩,
 ⟨(some 4),.mv (.tmp 103),none⟩,
 ⟨(some 5),.mv (.const (.int .i64 0)),none⟩]
def NV:aD:=(.region zj)
def NW:aD:=(.block 1 (.seq (.region zk) (.seq (.seq (.region po) (.block 2 (.loop NY))) (.seq (.region p7) (.seq (.seq (.region p8) (.block 6 (.loop NZ))) (.region OD))))))
def cq:aD:=(.seq (.region qb) .ret)
def HR(d e:Code):rG:=(.seq (.region zd) (.seq (.seq (.region ze) (.cond (.tmp 39) (.seq (.region wF) .ret) .skip)) (.seq (.region zf) (.seq (.seq (.region zg) (.cond (.tmp 55) (.seq (.region WV) .ret) .skip)) (.seq (.region zh) (.seq (.region zi) (.range (.tmp 60) 104 61 d e NV NW cq)))))))
def abT:List Nat:=[2,3,96,101]
def So(d e:Code):AR:=⟨2,104,HR d e,[.tmp 4,.tmp 5]⟩
theorem Yl{C:Ctx}{H:PH}{name:Nat}{pre:List PV}{v u:PV}{l:List Int}(w:Plain u)(hp:∀x∈pre,Fx x)(p:bX H 1 v (bC l))(d:l≠[])(h:aJ C name (pre++[ints l]) .nil (aQ u)) :
  ∃q,v=.osl q 1 0 l.length∧(∃x,H q=some x)∧aJ C name (pre++[v]) (H.only [q]) (λr H'=>r=u∧H'=H.only [q]):=by
 rcases p with⟨i,-⟩|⟨q,rs,rfl,h1,h2,h3⟩
 ·exact absurd (List.map_eq_nil_iff.1 i) d
 ·rw[eH]at h2 h3 ⊢;refine⟨q,rfl,⟨_,h1⟩,?_⟩;rw[ZS h1];refine aJ.alU w ?_;have e:pre.map (PV.frz q 1 rs)=pre:=by
   conv=>rhs;rw[←List.map_id pre]
   exact azF λx y=>hp x y q 1 rs
  rw[axQ,e,axL,ayI,AE h2,h3];exact h
theorem ma{α:Type}(L:List α)(x:α)(n:Nat)(h:Z' L=n):(L++[x])[n]?=some x:=by
 subst h;simp
structure alG(f:aM)(now:List (List Int))(r:Int)(d:Nat)(ps:WPs):Prop where
 eq:wls ps=ko f now r d
 num:Z' ps≤d
 len:∀i (h:i<Z' ps),1≤(ps[i].2).length∧(ps[i].2).length≤d
theorem alG.of{f:aM}{e:List (List Int)}{r:Int}(y:W5 f e r=true){d:Nat}(A:d≤Z' f.avA){ps:WPs}(h:wls ps=ko f e r d):alG f e r d ps:=by
 have k:=wi y d A;rw[←h]at k;have p:∀i (h:i<Z' ps),ps[i].2∈wls ps:=λi hi=>axG.2 ⟨ps[i],awS hi,rfl⟩;have ne:∀l∈wls ps,1≤Z' l:=λl B=>by
  have:=k.ok l B;unfold SF at this;cases l with
  |nil=>cases this
  |cons x xs=>rw[ayF];omega
 refine⟨h,?_,λi hi=>⟨ne _ (p i hi),?_⟩⟩
 ·have u:(wls ps).length≤(wls ps).flatten.length:=by
   generalize wls ps=w at ne
   induction w with
   |nil=>exact awP _
   |cons l w F =>have:=F λx E=>ne x (List.mem_cons_of_mem _ E);have:=ne l aY;rw[List.flatten_cons,awQ,ayF];omega
  rw[HC,k.len]at u;exact u
 ·have:=(List.sublist_flatten_of_mem (p i hi)).length_le;rw[k.len]at this;exact this
def alE(n top:Int)(r:PV)(H':PH):Prop:=∃o1 o2,o1≠o2∧r=.fn 211 [.ptr o1 1 0 0,.ptr o2 1 0 0]∧H'=(PH.nil.set o1 (.rows 1 [[.int .i64 n]])).set o2 (.rows 1 [[.int .i64 top]])
theorem abW{C:Ctx}(n top:Int):HT.wp C (bD To.res (alE n top)) (PF.args [.int .i64 n,.int .i64 top]) .nil:=by
 simp only[go_sem,HT,zu,To];refine aW λo1 i=>?_;simp only[go_sem];refine aW λo2 d=>?_;have e:o1≠o2:=by rintro rfl;simp only[dA]at d;cases d
 simp only[go_sem,zw];exact bF (.inr rfl) _ (vs:=[.fn 211 [.ptr o1 1 0 0,.ptr o2 1 0 0]]) Sq b_ ⟨o1,o2,e,rfl,rfl⟩
structure ay(C:Ctx):Prop extends agL C where
 subs:∀n top:Int,aJ C 210 [.int .i64 n,.int .i64 top] .nil (alE n top)
 iter:∀(l o1 o2 n top:Nat)(J:Nat→PH→Prop)(ss:List (List Nat)),ss=dU top n 0→1≤n→n≤1000→top≤1000 →
  (∀k (hk:k<Z' ss) G c,J k G→G c=none→GD C l [.osl c 1 0 n] (G.set c (.rows 1 (bC (cI ss[k])))) (λr H'=>r=.bool true∧J (k+1) H')) →
  ∀G0 H:PH,J 0 G0→G0.le H→H o1=some (.rows 1 [[.int .i64 n]])→H o2=some (.rows 1 [[.int .i64 top]])→G0 o1=none→G0 o2=none→aJ C 211 [yH l,.ptr o1 1 0 0,.ptr o2 1 0 0] H (λ_ H'=>∃G,J ss.length G∧G.le H')
theorem fq{C:Ctx}(Lb:ay C){F:PF}{H:PH}{n m t o1 o2 top:Nat}{d i:Code}{Q R:aD}{B:List (List Nat)}(Y:B=dU top n 0)(h1:1≤n)(hn:n≤1000)(ht:top≤1000)(α:o1≠o2)
  (I:Nat→PH→Prop) (w:PH) (hI:I 0 w) (O:w.le H) (b1:H o1=some (.rows 1 [[.int .i64 n]])) (b2:H o2=some (.rows 1 [[.int .i64 top]])) (g1:w o1=none) (g2:w o2=none)
  (hY:∀(l:Nat)(x:PV)(J:PH)(Z:PH→Prop),J l=none→Q.wp C (jT C (R.wp C) (CJ Z)) (F.set t x) J→GD C l [x] (J.set l (.loop F m t d i)) (λr H'=>r=.bool true∧∃H2,Z H2∧H2 l=none∧H'=H2.set l (.loop F m t d i)))
  (hb:∀k (hk:k<Z' B) G c,I k G→G c=none→Q.wp C (jT C (R.wp C) (CJ (I (k+1)))) (F.set t (.osl c 1 0 n)) (G.set c (.rows 1 (bC (cI B[k]))))) :
  x6 C 211 [.ptr o1 1 0 0,.ptr o2 1 0 0] F H m t d i (I B.length):=by
 intro l S;have K:w l=none:=by
  cases h:w l with
  |none=>rfl
  |some x=>rw[O l x h]at S;cases S
 have n1:¬o1=l:=λe=>by rw[e,S]at b1;cases b1
 have n2:¬o2=l:=λe=>by rw[e,S]at b2;cases b2
 refine(Lb.iter l o1 o2 n top (λk G=>∃p,I k p∧p l=none∧G=p.set l (.loop F m t d i)) B Y h1 hn ht ?_ (w.set l (.loop F m t d i)) (H.set l (.loop F m t d i)) ⟨w,hI,K,rfl⟩ ?_ ?_ ?_ ?_ ?_).post ?_
 ·rintro k hk G c ⟨p,E,u,rfl⟩ V;have M:¬c=l:=λe=>by rw[e,dA]at V;cases V
  have N:¬l=c:=λe=>M e.symm;have W:p c=none:=by rwa[aU,aC M]at V
  have:=hY l (.osl c 1 0 n) (p.set c (.rows 1 (bC (cI B[k])))) (I (k+1)) (by rw[aU,aC N];exact u) (hb k hk p c E W);have e:(p.set c (.rows 1 (bC (cI B[k])))).set l (.loop F m t d i)=(p.set l (.loop F m t d i)).set c (.rows 1 (bC (cI B[k]))):=by
   refine PH.ext λo=>?_;simp only[aU];by_cases U:o=l
   ·subst U;rw[aF rfl,aC N,aF rfl]
   ·rw[aC U,aC U]
  rw[e]at this;exact this
 ·intro o x A;rw[aU]at A ⊢;split at A
  ·rename_i e;rw[aF e];exact A
  ·rename_i e;rw[aC e];exact O o x A
 ·rw[aU,aC n1];exact b1
 ·rw[aU,aC n2];exact b2
 ·rw[aU,aC n1];exact g1
 ·rw[aU,aC n2];exact g2
 ·rintro r H' ⟨G,⟨p,E,u,rfl⟩,y⟩;have X:H' l=some (.loop F m t d i):=y l _ (by rw[dA]);exact⟨r,.refl _,p,E,(λo x A=>y o x (by
   have:¬o=l:=λe=>by rw[e,u]at A;cases A
   rw[aU,aC this];exact A)),u,X⟩
def agN(e:Nat)(i:List (List Int))(G:PH):Prop:=∃d ps,aT G [(e,.rows 1 [[d]])] (fZ d ps)∧wls ps=i
theorem abU{C:Ctx}(Lb:ay C)(J K:Code)(f:aM)(hV:VF f)(hd:Z' f.avA≤12)(p:cO)(hp:∀m∈p.avB,0≤m∧m<Z' f.avB)(S:Fits p.avB)(hk:1≤p.k)(ν:p.k≤6)(hm:0≤p.m)(ξ:p.m≤4) :
  (HS J K).wp C (bD (Sp J K).res (cV (lay (rZ f p)))) (PF.args [.agg f.cells,.agg p.cells]) .nil:=by
 obtain⟨n,hn⟩:∃n:Nat,(n:Int)=xE p:=⟨(p.k+p.m).toNat,by unfold xE;omega⟩;have β:1≤n∧n≤10:=by unfold xE at hn;omega
 have hw:IntKind.i64.wrap (p.k+p.m)=(n:Int):=by rw[hn];exact wrap_i64 Om Om
 simp only[go_sem,HS,rG.wp,zl,zm,Sp];refine aW λB γ=>?_;simp only[go_sem,zn,hw,awL];refine oK (Lb.subs n f.avA.length) Sq a_ ?_;rintro r H' ⟨o1,o2,l,rfl,rfl⟩ R;have W:¬B=o1:=λe=>by have:=R o1 _ (by rw[aU,aC l,dA]) rfl;rw[←e,dA]at this;cases this
 have X:¬B=o2:=λe=>by have:=R o2 _ (by rw[dA]) rfl;rw[←e,dA]at this;cases this
 have κ:¬o2=o1:=λe=>l e.symm;simp only[go_sem];generalize N:PF.set _ 15 _=F;have f2:F 2=some (.cT f.cells):=by rw[←N];simp only[go_sem]
 have f3:F 3=some (.cT p.cells):=by rw[←N];simp only[go_sem]
 have f5:F 5=some (.ptr B 1 0 0):=by rw[←N];simp only[go_sem]
 have μ:F 15=some (.fn 211 [.ptr o1 1 0 0,.ptr o2 1 0 0]):=by rw[←N];simp only[go_sem]
 clear N;have ε:dU f.avA.length n 0=dU f.avA.length (xE p).toNat 0:=by rw[←hn];rfl
 have Q:=BZ f.avA.length n 0;have hE:rZ f p=((dU f.avA.length n 0).map cI).filter (pH f p):=by rw[ε];rfl
 refine⟨211,[.ptr o1 1 0 0,.ptr o2 1 0 0],agN B (((((dU f.avA.length n 0).take (dU f.avA.length n 0).length)).map cI).filter (pH f p)),rfl,λhY=>?_,λH2 O=>?_⟩
 ·refine fq (m:=26) (t:=16) Lb rfl β.1 Om Om l (λk=>agN B ((((dU f.avA.length n 0).take k).map cI).filter (pH f p))) (PH.nil.set B (.rows 1 [[.aH]])) ⟨.aH,[],((aT.nil (H:=PH.nil)).new γ _).TJ,rfl⟩ ?_ ?_ ?_ ?_ ?_ hY ?_
  ·intro o x Z;rw[aU]at Z;split at Z
   ·rename_i e;rw[jM];simp only[aU,e,aC W,aC X,SX,if_true];exact Z
   ·cases Z
  ·rw[jM];simp only[aU,aC l,if_true]
  ·rw[jM];simp only[aU,if_true]
  ·rw[aU,aC (λe=>W e.symm)];rfl
  ·rw[aU,aC (λe=>X e.symm)];rfl
  rintro k hk G c ⟨vo,ps,E,w⟩ hc;have δ:=Q _ (awS hk);have ζ:(dU f.avA.length n 0).take (k+1)=(dU f.avA.length n 0).take k++[(dU f.avA.length n 0)[k]]:=azH hk;generalize(dU f.avA.length n 0)[k]=s at *
  obtain⟨sl,Y,-⟩:=δ;have i:((((dU f.avA.length n 0).take (k+1)).map cI).filter (pH f p))=wls ps++if pH f p (cI s)then[cI s]else[]:=by rw[ζ,axQ,List.filter_append,w];congr 1;by_cases c:pH f p (cI s)<;>simp[c]
  have U:(bC (cI s)).length=n:=by rw[eH,jB,sl]
  have M:=E.aeJ (s:=1) (rows:=bC (cI s)) hc;have hO:bX (G.set c (.rows 1 (bC (cI s)))) 1 (.osl c 1 0 n) (bC (cI s)):=by
   have:=M.own ((fZ vo ps).length) (ma _ _ _ rfl)
   rwa[U]at this
  have ο:Z' ps≤4096:=by
   rw[←HC,w];refine axT (List.length_filter_le ..) ?_;rw[awL,axC];have h1:=ZZ f.avA.length n 0;have M:2^(Z' f.avA-0)≤2^12:=Nat.pow_le_pow_right Om Om;have e:(2:Nat)^12=4096:=by decide
   omega
  have d:=Lb.adm f p (cI s) hV hp S ⟨by rw[jB];omega,λx V=>by obtain⟨y,hy,rfl⟩:=axG.1 V;have:=Y y hy;omega⟩;obtain⟨q,e1,V,d⟩:=Yl (C:=C) (name:=201) (pre:=[.agg f.cells,.agg p.cells]) (u:=.bool (pH f p (cI s))) (.bool _) (λx V=>by
   simp only[awT,axD,or_false]at V;rcases V with rfl|rfl
   ·exact λ_ _ _=>rfl
   ·exact λ_ _ _=>rfl) hO (λe=>by have:=congrArg List.length e;rw[jB,sl]at this;simp at this;omega) d
  have eq:c=q:=by injection e1
  subst eq;have ι:=M.at 0 rfl;have θ:¬B=c:=λe=>by have:=E.at 0 rfl;rw[e,hc]at this;cases this
  simp only[go_sem,qc,zo,qd,zp,f2,f3];refine Wx (cs:=[]) (vs:=[.agg f.cells,.agg p.cells,.osl c 1 0 n]) (by rw[ayO];exact d) Sq (TL _ _) ?_;cases A:pH f p (cI s)with
  |true=>
   rw[A,aF rfl]at i;simp only[go_sem,zq,f5,θ,E.at 0 rfl];refine M.append 0 (rows:=eC ps) (src:=[[.osl c 1 0 n]]) rfl Sq (by unfold roomFor;rw[pD];simp only[awV,maxLen];omega) λv' H' h3 η=>?_;obtain⟨q2,rfl⟩:=η aY;have α:=h3.at 0 rfl;have h4:=h3.set 0 rfl (aR.rows 1 [[PV.osl q2 1 0 (eC ps++[[PV.osl c 1 0 n]]).length]]);simp only[go_sem,α,f5,awT,axD,or_false,forall_eq];refine⟨PV.osl q2 1 0 (eC ps++[[PV.osl c 1 0 n]]).length,ps++[(.osl c 1 0 n,cI s)],?_,?_⟩
   ·have e:fZ (.osl q2 1 0 (eC ps++[[PV.osl c 1 0 n]]).length) (ps++[(PV.osl c 1 0 n,cI s)])=((fZ vo ps)++[(PV.osl c 1 0 (bC (cI s)).length,1,bC (cI s))]).set 0 (.osl q2 1 0 (eC ps++[[PV.osl c 1 0 n]]).length,1,eC ps++[[PV.osl c 1 0 n]]):=by rw[U];unfold fZ eC qQ;rw[axQ,axQ];rfl
    rw[e];exact h4
   ·rw[i];unfold wls;rw[axQ];rfl
  |false =>rw[A,aC aV,ayO]at i;simp only[go_sem];exact⟨vo,ps,M.sub (ayV.refl _) (List.sublist_append_left ..),i.symm⟩
 ·rw[ayC,←hE]at O;obtain⟨vo,ps,E,w⟩:=O;have hb:=E.at 0 rfl;simp only[go_sem,cr,zr,f5,hb];rw[←w];exact jh (.inr rfl) Sq (E.yT 0)
def HG(f:aM)(avM:Int):Int:=if oW f avM then(if f.avA.length>12 then 2 else 0)else 1
def ku(f:aM)(avM:Int):List (List Int):=if HG f avM=0 then rZ f (kY f avM)else[]
structure x2(C:Ctx):Prop extends ay C where
 sets:∀(f:aM)(p:cO),VF f→Z' f.avA≤12→(∀m∈p.avB,0≤m∧m<Z' f.avB)→Fits p.avB→1≤p.k→p.k≤6→0≤p.m→p.m≤4→aJ C 229 [.agg f.cells,.agg p.cells] .nil (aQ (lay (rZ f p)))
def cyS(r:PV):Spec:=λ_ _=>some ([],λ_=>aQ r)
theorem Xb{C:Ctx}(x:x2 C)(f:aM)(y:f.Ok)(avM:Int) :
  DR.wp C (bD call17.res (cV (.tup [lay (ku f avM),.int .i64 (HG f avM)]))) (PF.args [.agg f.cells,.int .i64 avM]) .nil:=by
 have hB:ku f avM=if HG f avM=0 then rZ f (kY f avM)else[]:=rfl
 have e:HG f avM=if oW f avM then(if f.avA.length>12 then 2 else 0)else 1:=rfl
 simp only[go_sem,DR,ou,ov,call17];refine aB (x.known f avM y) Ev ?_;cases u:oW f avM with
 |false =>rw[u,aC aV]at e;rw[e,aC aV]at hB;rw[hB,e];simp only[go_sem,axP,ow];exact DA (.inr rfl) Sq (aT.TJ aT.nil)
 |true=>
  rw[u,aF rfl]at e;obtain⟨hV,A,E,B⟩:=YA u;obtain⟨p,w⟩:=su u;have d:=hV.avM _ p;have l:=(y.avM _ p).avB;have i:(f.avE.map cO.cells)[avM.toNat]?=some (kY f avM).cells:=by rw[axH,w];rfl
  have hlt:avM<(Z' f.avE:Nat):=Om;by_cases c:Z' f.avA>12
  ·rw[aF c]at e;rw[e,aC aV]at hB;rw[hB,e];simp only[go_sem,awZ,NQ,awL,show(Z' f.avA:Int)>12 by omega,oz];exact DA (.inr rfl) Sq (aT.TJ aT.nil)
  ·rw[aC c]at e;rw[e,aF rfl]at hB;rw[hB,e];simp only[go_sem,awZ,NQ,awL,show ¬(Z' f.avA:Int)>12 by omega];refine dH .nil (cyS (lay (rZ f (kY f avM)))) a_ ?_;simp only[go_sem,o9,A,hlt,awL,i];refine eI rfl (x.sets f (kY f avM) hV Om d.2.2.2.2.2.2.2 l d.1 d.2.1 d.2.2.1 d.2.2.2.1) Sq a_ ?_;simp only[go_sem];exact bF (.inr rfl) .nil (vs:=[lay (rZ f (kY f avM)),.int .i64 0]) Sq a_ (aQ.amN ⟨rfl,rfl⟩)
structure UOk(n:Nat)(U:List (List Int)):Prop where
 len:Z' U≤1000
 at_:∀u∈U,Z' u≤1000∧∀d∈u,0≤d∧d<n
def pA(U:List (List Int))(s:List Nat):List Int:=s.flatMap λi=>U.getD i []
theorem I5(U:List (List Int))(s:List Nat){i:Nat}(h:i<Z' s):pA U (s.take (i+1))=pA U (s.take i)++U.getD s[i] []:=by
 unfold pA;rw[azH h,List.flatMap_append];simp
theorem Lg(U:List (List Int))(s:List Nat)(d:Nat):(pA U s).contains (d:Int)=rN U s d:=by
 unfold pA rN
 induction s with
 |nil=>rfl
 |cons i s e=>rw[List.flatMap_cons,List.contains_append,e,List.any_cons]
theorem Xn{C:Ctx}{K:cJ}[Up K](X W w c nd n i:Nat)(J:PV)(u:List Int)(β:Z' u≤1000)(hu:∀d∈u,0≤d∧d<nd)(l:List Int){F:PF}{H:PH}{B:List BX}{L:List LI}
  (x:aT H B L) (b:Nat) (hb:B[b]?=some (w,.rows 1 (dY (marks nd l))))
  (Z:(((((((((((PF.nil.set 2 (J)).set 6 (.ptr X 1 0 0)).set 7 (.ptr W 1 0 0)).set 9 (.osl w 1 0 nd)).set 66 (.osl c 1 0 n)).set 67 (.int .i64 n)).set 68 (.int .i64 i)).set 75 (ints u)).set 76 (.int .i64 (Z' u:Nat))).set 77 (.int .i64 0))).le F)
  (hK:∀H',aT H' (B.set b (w,.rows 1 (dY (marks nd (l++u))))) L→K (.exit 4) ((((((((PF.nil.set 2 (J)).set 6 (.ptr X 1 0 0)).set 7 (.ptr W 1 0 0)).set 9 (.osl w 1 0 nd)).set 66 (.osl c 1 0 n)).set 67 (.int .i64 n)).set 68 (.int .i64 i))) H') :
  aD.wp C (.loop NX) K F H:=by
 refine wp_loop (α:=Nat × PH) (λs=>((((((((((PF.nil.set 2 (J)).set 6 (.ptr X 1 0 0)).set 7 (.ptr W 1 0 0)).set 9 (.osl w 1 0 nd)).set 66 (.osl c 1 0 n)).set 67 (.int .i64 n)).set 68 (.int .i64 i)).set 75 (ints u)).set 76 (.int .i64 (Z' u:Nat))).set 77 (.int .i64 s.1))) (λs=>s.2) (λs=>s.1≤Z' u∧aT s.2 (B.set b (w,.rows 1 (dY (marks nd (l++u.take s.1))))) L) (λs=>Z' u-s.1) (0,H) ⟨axB _,?_⟩ Z b_ ?_
 ·rw[List.take_zero,ayO];have e:B.set b (w,.rows 1 (dY (marks nd l)))=B:=by obtain⟨h1,E⟩:=axO.1 hb;rw[←E,List.set_getElem_self]
  rw[e];exact x
 rintro⟨j,Y⟩ ⟨hj,x⟩;simp only at hj x;have M:b<Z' B:=(axO.1 hb).1;have y:(B.set b (w,aR.rows 1 (dY (marks nd (l++u.take j)))))[b]?=some (w,.rows 1 (dY (marks nd (l++u.take j)))):=List.getElem?_set_self M;simp only[go_sem,NX,pw];by_cases hlt:j<Z' u
 ·have p:(j:Int)<(Z' u:Nat):=Om;have R:(u.map λn=>[PV.int .i64 n])[j]?=some [.int .i64 u[j]]:=by simp[hlt]
  obtain⟨U,V⟩:=hu _ (awS hlt);have S:u.take (j+1)=u.take j++[u[j]]:=azH hlt;have O:(u[j]).toNat<(dY (marks nd (l++u.take j))).length:=by rw[CG,PJ];omega
  have N:(dY (marks nd (l++u.take j)))[(u[j]).toNat]?=some [.bool ((l++u.take j).contains u[j])]:=by unfold dY;rw[axH,BM U V];rfl
  have Q:=x.at b y;have E:=x.set b y (.rows 1 (dY (marks nd (l++u.take (j+1)))));rw[List.set_set]at E;have A:=PK (l:=l++u.take j) U V;rw[axX,←S]at A;simp only[go_sem,p,p0,R,p4,U,V,axJ,Q,N,O,tO,A,p5,wZz j];exact aP (j+1,Y.set w (.rows 1 (dY (marks nd (l++u.take (j+1)))))) ⟨hlt,E⟩ (by simp only;omega) Lq b_
 ·have p:¬(j:Int)<(Z' u:Nat):=Om;have:j=Z' u:=Om;subst this;rw[ayC]at x;simp only[go_sem,p];exact Up.up Lq (hK Y x)
def scB(d i c e:Nat)(p:PV)(U:List (List Int))(s:List Nat)(nd:Nat)(l:List Int):List BX:=[(d,.rows 1 [[p]]),(i,.rows 1 [[lay U]]),(c,.rows 1 (bC (cI s))),(e,.rows 1 (dY (marks nd l)))]
theorem Ki{C:Ctx}{K:cJ}[Up K](y p w c nd n:Nat)(B V:PV)(U:List (List Int))(hU:UOk nd U)(s:List Nat)(hs:Z' s=n)(Q:∀x∈s,x<Z' U)(hn:n≤1000){F:PF}{H:PH}{L:List LI}
  (l:aT H (scB p y c w V U s nd []) L)
  (Y:((((((((PF.nil.set 2 (B)).set 6 (.ptr y 1 0 0)).set 7 (.ptr p 1 0 0)).set 9 (.osl w 1 0 nd)).set 66 (.osl c 1 0 n)).set 67 (.int .i64 n)).set 68 (.int .i64 0))).le F)
  (Z:∀H',aT H' (scB p y c w V U s nd (pA U s)) L→K (.exit 2) (((((PF.nil.set 2 (B)).set 6 (.ptr y 1 0 0)).set 7 (.ptr p 1 0 0)).set 9 (.osl w 1 0 nd))) H') :
  aD.wp C (.loop NY) K F H:=by
 refine wp_loop (α:=Nat × PH) (λt=>(((((((PF.nil.set 2 (B)).set 6 (.ptr y 1 0 0)).set 7 (.ptr p 1 0 0)).set 9 (.osl w 1 0 nd)).set 66 (.osl c 1 0 n)).set 67 (.int .i64 n)).set 68 (.int .i64 t.1))) (λt=>t.2) (λt=>t.1≤Z' s∧aT t.2 (scB p y c w V U s nd (pA U (s.take t.1))) L) (λt=>Z' s-t.1) (0,H) ⟨axB _,l⟩ Y b_ ?_;rintro⟨i,X⟩ ⟨hi,l⟩;simp only at hi l;simp only[go_sem,NY,pq];by_cases hlt:i<Z' s
 ·have d:(i:Int)<(n:Nat):=Om;have hc:=l.at 2 rfl;have O:=l.at 1 rfl;have M:=AL hlt;have N:i<(bC (cI s)).length:=by rw[eH,jB];exact hlt
  have R:=Q s[i] (awS hlt);have S:((s[i]:Nat):Int)<(Z' U:Nat):=Om;have e:=I5 U s hlt;have A:=hU.at_ U[s[i]] (awS R);have J:U.getD s[i] []=U[s[i]]:=by simp[axY,R]
  have E:(U.map λr=>[ints r])[s[i]]?=some [ints U[s[i]]]:=by simp[R]
  rw[J]at e;generalize U[s[i]]=u at *
  generalize s[i]=x at *
  simp only[go_sem,d,pt,hc,M,N,axJ,pu,O,S,awL,E];have one:=λ{K:cJ} [Up K] {F:PF}=>Xn (C:=C) (K:=K) y p w c nd n i B u A.1 A.2 (pA U (s.take i)) (F:=F) l 3 rfl;refine one (by(repeat' (first|exact d_|refine c_ ?_ ?_))<;>first|(simp only[go_sem,awL]<;>rfl)|rfl) λH' W=>?_;rw[←e]at W;simp only[go_sem,p6,wZz i];exact aP (i+1,H') ⟨hlt,W⟩ (by simp only;omega) Lq b_
 ·have d:¬(i:Int)<(n:Nat):=Om;have:i=Z' s:=Om;subst this;rw[ayC]at l;simp only[go_sem,d];exact Up.up Lq (Z X l)
def scD(l:List Int)(k:Nat):List Int:=cI ((awU k).filter λd=>l.contains (d:Int))
theorem afH(l:List Int)(k:Nat):scD l (k+1)=if l.contains (k:Int)then scD l k++[(k:Int)]else scD l k:=by
 unfold scD;rw[List.range_succ,List.filter_append,aeF];by_cases h:l.contains (k:Int)
 ·rw[aF h];simp[cI]at h ⊢;simp[h]
 ·rw[aC h];simp[cI]at h ⊢;simp[h]
theorem akD(l:List Int)(k:Nat):(scD l k).length≤k:=by
 unfold scD;rw[jB];exact axT (List.length_filter_le ..) aY
theorem zc{C:Ctx}{K:cJ}[Up K](w u B c nd:Nat)(W:nd≤1000)(E J:PV)(U:List (List Int))(s:List Nat)(l:List Int){F:PF}{H:PH}{L:List LI}
  (i:aT H (scB u w c B J U s nd l) L)
  (R:((((((((PF.nil.set 2 (E)).set 6 (.ptr w 1 0 0)).set 7 (.ptr u 1 0 0)).set 14 (.aH)).set 86 (.osl B 1 0 nd)).set 87 (.int .i64 nd)).set 88 (.int .i64 0))).le F)
  (S:∀v H',aT H' (scB u w c B J U s nd l) (L++[(v,1,bC (scD l nd))])→K (.exit 6) (((((PF.nil.set 2 (E)).set 6 (.ptr w 1 0 0)).set 7 (.ptr u 1 0 0)).set 14 (v))) H') :
  aD.wp C (.loop NZ) K F H:=by
 refine wp_loop (α:=Nat × PV × PH) (λt=>(((((((PF.nil.set 2 (E)).set 6 (.ptr w 1 0 0)).set 7 (.ptr u 1 0 0)).set 14 (t.2.1)).set 86 (.osl B 1 0 nd)).set 87 (.int .i64 nd)).set 88 (.int .i64 t.1))) (λt=>t.2.2) (λt=>t.1≤nd∧aT t.2.2 (scB u w c B J U s nd l) (L++[(t.2.1,1,bC (scD l t.1))])) (λt=>nd-t.1) (0,.aH,H) ⟨axB _,i.wO 1⟩ R b_ ?_;clear i;rintro⟨k,v,M⟩ ⟨V,i⟩;simp only at V i;simp only[go_sem,NZ,p9];by_cases hlt:k<nd
 ·have e:(k:Int)<(nd:Nat):=Om;have y:=i.at 3 rfl;have d:=afH l k;have Q:=akD l k;have x:k<(dY (marks nd l)).length:=by rw[CG,PJ];exact hlt
  have p:(dY (marks nd l))[k]?=some [.bool (l.contains (k:Int))]:=by have:=BM (n:=nd) (l:=l) (m:=(k:Int)) Om e;rw[ayU]at this;unfold dY;rw[axH,this];rfl
  cases O:l.contains (k:Int)with
  |true=>
   rw[O]at p d;rw[aF rfl]at d;simp only[go_sem,e,OA,y,p,x,axJ,OB,qa];refine i.append L.length (rows:=bC (scD l k)) (src:=[[.int .i64 k]]) (ma _ _ _ rfl) Sq (by unfold roomFor;rw[eH];simp only[awV,maxLen];omega) λv' H' N _=>?_;have A:bC (scD l k)++[[.int .i64 k]]=bC (scD l (k+1)):=by rw[d,PD];rfl
   rw[A,azT _ _ (awP _),azP]at N;simp only[go_sem,OC,wZz k];exact aP (k+1,v',H') ⟨hlt,N⟩ (by simp only;omega) Lq b_
  |false =>rw[O]at p d;rw[aC aV]at d;rw[←d]at i;simp only[go_sem,e,OA,y,p,x,axJ,OB,OC,wZz k];exact aP (k+1,v,M) ⟨hlt,i⟩ (by simp only;omega) Lq b_
 ·have e:¬(k:Int)<(nd:Nat):=Om;have:k=nd:=Om;subst this;simp only[go_sem,e];exact Up.up Lq (S v M i)
def iH(f:aM)(lv d:Int):Int:=if lI f&&(decide (1≤lv)&&decide (lv≤5)&&decide (1≤d)&&decide (d≤3))then(if 12<Z' f.avA∨512<fF ((kK f lv).length:Nat) d.toNat then 2 else 0)else 1
def zO(f:aM)(lv d:Int):List (List Int):=if iH f lv d=0 then DE f (kK f lv) d.toNat else[]
structure W1(C:Ctx):Prop extends x2 C where
 val:∀f:aM,f.Ok→aJ C 96 [.agg f.cells] .nil (aQ (.int .i64 (wU f)))
 units:∀(f:aM)(lv:Int),VF f→1≤lv→lv≤5→aJ C 206 [.agg f.cells,.int .i64 lv] .nil (aQ (lay (kK f lv)))
 choose:∀m n:Nat,m≤1000→n≤3→aJ C 207 [.int .i64 m,.int .i64 n] .nil (aQ (.int .i64 (max (fF m n) 0)))
theorem afY{f:aM}(hV:VF f)(lv:Int):UOk f.avA.length (kK f lv)∧(kK f lv).length≤40:=by
 have E:=hV.small.avA;have w:=hV.small.avD;by_cases c:lv=5
 ·subst c;rw[vz];refine⟨⟨by simp;omega,λu l=>?_⟩,by simp;omega⟩;obtain⟨d,e,rfl⟩:=axG.1 l;rw[ayB]at e;refine⟨by simp,λx p=>?_⟩;rw[ayX]at p;omega
 ·rw[I6 f c];have A:(pT f lv f.avA.length).length≤40:=by rw[j9];exact axT (List.length_filter_le ..) (by simp;omega)
  refine⟨⟨by omega,λu l=>?_⟩,A⟩;obtain⟨i,-,rfl⟩:=axG.1 l;refine⟨by rw[jB];have:=fp f lv f.avA.length i;omega,λx p=>?_⟩;obtain⟨y,B,rfl⟩:=axG.1 p;have:=ayB.1 (List.mem_filter.1 B).1;omega
theorem amM(U:List (List Int))(s:List Nat)(nd:Nat):scD (pA U s) nd=cI ((awU nd).filter (rN U s)):=by
 unfold scD;congr 2;funext d;exact Lg U s d
instance upDone{R:PH→Prop}:Up (CJ R):=⟨λ{e F d H} _ h=>by cases e<;>exact h⟩
def ye(e i:Nat)(U:List (List Int))(l:List (List Int))(G:PH):Prop:=∃d ps,aT G [(e,.rows 1 [[d]]),(i,.rows 1 [[lay U]])] (fZ d ps)∧wls ps=l
theorem Kj{C:Ctx}(f:aM)(hV:VF f)(U:List (List Int))(hU:UOk f.avA.length U)(X:Z' U≤40)(n:Nat)(α:1≤n)(hn:n≤3)(B l:Nat)(F:PF)(f2:F 2=some (.cT f.cells))(f6:F 6=some (.ptr B 1 0 0))(f7:F 7=some (.ptr l 1 0 0))(k:Nat)(Y:k<(dU U.length n 0).length)(G:PH)(c:Nat)
  (hI:ye l B U (((dU U.length n 0).take k).map λs=>cI ((awU f.avA.length).filter (rN U s))) G) (hc:G c=none) :
  NV.wp C (jT C (NW.wp C) (CJ (ye l B U (((dU U.length n 0).take (k+1)).map λs=>cI ((awU f.avA.length).filter (rN U s)))))) (F.set 61 (.osl c 1 0 n)) (G.set c (.rows 1 (bC (cI (dU U.length n 0)[k])))):=by
 obtain⟨u,ps,hH,Z⟩:=hI;have y:=hV.small;have M:(Z' f.avA:Int)*((1:Nat):Int)≤140737488355328:=by have:=y.avA;omega
 have N:(Z' f.avA:Int)≤9223372036854775807:=by have:=y.avA;omega
 have d:(0:Int)≤(Z' f.avA:Int):=Om;have Q:=BZ U.length n 0 _ (awS Y);have R:(dU U.length n 0).take (k+1)=(dU U.length n 0).take k++[(dU U.length n 0)[k]]:=azH Y;have β:Z' ps≤1099511627776:=by
  rw[←HC,Z,awL,axC];have h1:=ZZ U.length n 0;have V:2^(Z' U-0)≤2^40:=Nat.pow_le_pow_right Om Om;have e:(2:Nat)^40=1099511627776:=by decide
  omega
 generalize(dU U.length n 0)[k]=s at *
 obtain⟨sl,J,-⟩:=Q;rw[R,axQ,←Z];have V:=hH.new hc (.rows 1 (bC (cI s)));simp only[go_sem,NV,zj,NW,zk,f2,awL,M,N,d,Int.le_refl,ayU];refine aW λS O=>?_;rw[NN];have h3:=V.new O (.rows 1 (dY (marks f.avA.length [])));simp only[go_sem,po];have mk:=λ{K:cJ} [Up K] {F:PF} {H:PH}=>Ki (C:=C) (K:=K) B l S c f.avA.length n (.cT f.cells) u U hU s sl (λx hx=>(J x hx).2) Om (F:=F) (H:=H) (L:=fZ u ps);refine mk h3 (by(repeat' (first|exact d_|refine c_ ?_ ?_))<;>first|(simp only[go_sem,f2,f6,f7]<;>rfl)|rfl) λH1 h4=>?_;simp only[go_sem,p7,p8];have dr:=λ{K:cJ} [Up K] {F:PF} {H:PH}=>zc (C:=C) (K:=K) B l S c f.avA.length (by have:=y.avA;omega) (.cT f.cells) u U s (pA U s) (F:=F) (H:=H) (L:=fZ u ps);refine dr h4 Lq λv H2 h5=>?_;have W:=h5.own (fZ u ps).length (ma _ _ _ rfl);have E:=h5.at 0 rfl;rw[amM]at h5 W;generalize hD:cI ((awU f.avA.length).filter (rN U s))=D at *
 have fin:∀(i:Nat)(H':PH),aT H' (scB l B c S u U s f.avA.length (pA U s)) ((fZ u ps++[(v,1,bC D)]).set 0 (PV.osl i 1 0 (eC ps++[[v]]).length,1,eC ps++[[v]]))→ye l B U (wls ps++[D]) (H'.set l (.rows 1 [[PV.osl i 1 0 (eC ps++[[v]]).length]])):=by
  intro i H' w;have h7:=w.set 0 rfl (aR.rows 1 [[PV.osl i 1 0 (eC ps++[[v]]).length]]);refine⟨PV.osl i 1 0 (eC ps++[[v]]).length,ps++[(v,D)],?_,?_⟩
  ·have e:fZ (PV.osl i 1 0 (eC ps++[[v]]).length) (ps++[(v,D)])=(fZ u ps++[(v,1,bC D)]).set 0 (PV.osl i 1 0 (eC ps++[[v]]).length,1,eC ps++[[v]]):=by unfold fZ eC qQ;rw[axQ,axQ];rfl
   rw[e];exact(h7.yT 3).yT 2
  ·unfold wls;rw[axQ];rfl
 have p:roomFor (eC ps).length 1 24:=by unfold roomFor;rw[pD];simp only[maxLen];omega
 rcases W with⟨-,rfl⟩|⟨q,rs,rfl,-,-,-⟩
 ·simp only[go_sem,OD,E,awT,axD,or_false,forall_eq];refine h5.append 0 (rows:=eC ps) (src:=[[PV.aH]]) rfl Sq p λv' H' w A=>?_;obtain⟨i,rfl⟩:=A aY;have d:=w.at 0 rfl;simp only[go_sem,d,awT,axD,or_false,forall_eq];exact fin i H' w
 ·simp only[go_sem,OD,E,awT,axD,or_false,forall_eq];refine h5.append 0 (rows:=eC ps) (src:=[[PV.osl q 1 0 (bC D).length]]) rfl Sq p λv' H' w A=>?_;obtain⟨i,rfl⟩:=A aY;have d:=w.at 0 rfl;simp only[go_sem,d,awT,axD,or_false,forall_eq];exact fin i H' w
abbrev uV(lv d:Int):PV:=.agg [.int .i64 lv,.int .i64 d]
theorem abS{C:Ctx}(K:W1 C)(M N:Code)(f:aM)(hf:f.Ok)(lv d:Int) :
  (HR M N).wp C (bD (So M N).res (cV (.tup [lay (zO f lv d),.int .i64 (iH f lv d)]))) (PF.args [.agg f.cells,uV lv d]) .nil:=by
 have hB:zO f lv d=if iH f lv d=0 then DE f (kK f lv) d.toNat else[]:=rfl
 have Q:iH f lv d=if lI f&&(decide (1≤lv)&&decide (lv≤5)&&decide (1≤d)&&decide (d≤3))then(if 12<Z' f.avA∨512<fF ((kK f lv).length:Nat) d.toNat then 2 else 0)else 1:=rfl
 have hv:=K.val f hf;unfold wU at hv;have l:∀(e:Int)(F:PF)(H:PH),e≠0→iH f lv d=e→F 4=some .aH→F 5=some (.int .i64 e)→bD [.tmp 4,.tmp 5] (cV (.tup [lay (zO f lv d),.int .i64 (iH f lv d)])) .ret F H:=by intro e F H he i h2 h3;rw[i,aC he]at hB;rw[hB,i];exact DA (H:=H) (.inr rfl) (by simp only[go_sem,h2,h3]) (show aT H [] (fZ .aH [])from aT.TJ aT.nil)
 have Y:(lI f&&(decide (1≤lv)&&decide (lv≤5)&&decide (1≤d)&&decide (d≤3)))=false→iH f lv d=1:=λh=>by rw[Q,h];rfl
 simp only[go_sem,HR,rG.wp,zd,ze,So];refine aB hv Ev ?_;cases hp:lI f with
 |false =>have i:=Y (by rw[hp];rfl);simp only[go_sem,fJ (show(1:Int)≠0 by decide),wF];exact l 1 _ _ aV i Sq Sq
 |true=>
  have hV:=VF.of hp;by_cases O:lv<1
  ·have i:=Y (by rw[cU (Om:¬1≤lv)];simp);simp only[go_sem,dO (show(0:Int)=0 from rfl),O,wF];exact l 1 _ _ aV i Sq Sq
  by_cases c2:lv>5
  ·have i:=Y (by rw[cU (Om:¬lv≤5)];simp);simp only[go_sem,dO (show(0:Int)=0 from rfl),O,c2,wF];exact l 1 _ _ aV i Sq Sq
  by_cases c3:d<1
  ·have i:=Y (by rw[cU (Om:¬1≤d)];simp);simp only[go_sem,dO (show(0:Int)=0 from rfl),O,c2,c3,wF];exact l 1 _ _ aV i Sq Sq
  by_cases c4:d>3
  ·have i:=Y (by rw[cU (Om:¬d≤3)];simp);simp only[go_sem,dO (show(0:Int)=0 from rfl),O,c2,c3,c4,wF];exact l 1 _ _ aV i Sq Sq
  obtain⟨n,rfl⟩:∃n:Nat,d=n:=⟨d.toNat,by omega⟩;rw[hp,bQ (Om:1≤lv),bQ (Om:lv≤5),bQ (Om:(1:Int)≤(n:Int)),bQ (Om:(n:Int)≤3),Bool.and_self,Bool.and_self,Bool.and_self,Bool.and_self,aF rfl,ayU]at Q;rw[ayU]at hB;obtain⟨hU,S⟩:=afY hV lv;have y:=K.units f lv hV Om Om;generalize kK f lv=U at *
  simp only[go_sem,dO (show(0:Int)=0 from rfl),O,c2,c3,c4,zf];refine aB y Ev ?_;simp only[go_sem];refine aW λu ε=>?_;simp only[go_sem,zg,awL];by_cases c5:12<Z' f.avA
  ·have i:iH f lv n=2:=by rw[Q,aF (.inl c5)]
   simp only[go_sem,show(Z' f.avA:Int)>12 by omega,WV];exact l 2 _ _ aV i Sq Sq
  simp only[go_sem,show ¬(Z' f.avA:Int)>12 by omega];refine aB (K.choose U.length n Om Om) Ev ?_;by_cases c6:512<fF (Z' U:Nat) n
  ·have i:iH f lv n=2:=by rw[Q,aF (.inr c6)]
   simp only[go_sem,show max (fF (Z' U:Nat) n) 0>512 by omega,WV];exact l 2 _ _ aV i Sq Sq
  have i:iH f lv n=0:=by rw[Q,aC (λh=>h.elim c5 c6)]
  rw[i,aF rfl]at hB;rw[hB,i];simp only[go_sem,show ¬max (fF (Z' U:Nat) n) 0>512 by omega,zh];refine aW λp J=>?_;have η:¬p=u:=by rintro rfl;rw[dA]at J;cases J
  have A:¬u=p:=λe=>η e.symm;simp only[go_sem,zi,A,awL];refine oK (K.subs n U.length) Sq a_ ?_;rintro r H' ⟨o1,o2,E,rfl,rfl⟩ δ;have β:∀o x,(((PH.nil.set o1 (.rows 1 [[.int .i64 n]])).set o2 (.rows 1 [[.int .i64 (Z' U:Nat)]])):PH) o=some x→¬p=o∧¬u=o:=λo x h=>by
   have:=δ o x h rfl;refine⟨λe=>?_,λe=>?_⟩
   ·rw[←e,dA]at this;cases this
   ·rw[←e,aU,aC A,dA]at this;cases this
  obtain⟨W,Z⟩:=β o1 _ (by rw[aU,aC E,dA]);obtain⟨X,α⟩:=β o2 _ (by rw[dA]);simp only[go_sem];generalize R:PF.set _ 60 _=F;have f2:F 2=some (.cT f.cells):=by rw[←R];simp only[go_sem]
  have f6:F 6=some (.ptr u 1 0 0):=by rw[←R];simp only[go_sem]
  have f7:F 7=some (.ptr p 1 0 0):=by rw[←R];simp only[go_sem]
  have θ:F 60=some (.fn 211 [.ptr o1 1 0 0,.ptr o2 1 0 0]):=by rw[←R];simp only[go_sem]
  clear R;have B:DE f U n=((dU U.length n 0).take (dU U.length n 0).length).map λs=>cI ((awU f.avA.length).filter (rN U s)):=by rw[ayC];rfl
  have w:aT ((PH.nil.set u (.rows 1 [[lay U]])).set p (.rows 1 [[.aH]])) [(p,.rows 1 [[.aH]]),(u,.rows 1 [[lay U]])] (fZ .aH []):=((((aT.nil (H:=PH.nil)).new ε _).new J _).perm (List.Perm.swap _ _ _) (List.Perm.refl _)).TJ;refine⟨211,[.ptr o1 1 0 0,.ptr o2 1 0 0],ye p u U (DE f U n),rfl,λhY=>?_,λH2 γ=>?_⟩
  ·rw[B];refine fq (m:=104) (t:=61) K.toay rfl Om Om Om E (λk=>ye p u U (((dU U.length n 0).take k).map λs=>cI ((awU f.avA.length).filter (rN U s)))) ((PH.nil.set u (.rows 1 [[lay U]])).set p (.rows 1 [[.aH]])) ⟨.aH,[],w,rfl⟩ ?_ ?_ ?_ ?_ ?_ hY λk hk G c hI hc=>Kj f hV U hU S n Om Om u p F f2 f6 f7 k hk G c hI hc
   ·intro o x V;rw[jM];have e1:¬o=o1:=λe=>by rw[e,aU,aC (λh=>W h.symm),aU,aC (λh=>Z h.symm)]at V;cases V
    have e2:¬o=o2:=λe=>by rw[e,aU,aC (λh=>X h.symm),aU,aC (λh=>α h.symm)]at V;cases V
    have:((PH.nil.set o1 (.rows 1 [[.int .i64 n]])).set o2 (.rows 1 [[.int .i64 (Z' U:Nat)]]):PH) o=none:=by rw[aU,aC e2,aU,aC e1];rfl
    rw[this];exact V
   ·rw[jM];simp only[aU,aC E,if_true]
   ·rw[jM];simp only[aU,if_true]
   ·rw[aU,aC (λe=>W e.symm),aU,aC (λe=>Z e.symm)];rfl
   ·rw[aU,aC (λe=>X e.symm),aU,aC (λe=>α e.symm)];rfl
  ·obtain⟨vo,ps,hH,ζ⟩:=γ;have hb:=hH.at 0 rfl;simp only[go_sem,cq,qb,f7,hb];rw[←ζ];exact DA (.inr rfl) Sq ((hH.yT 0).yT 0)
def JK(f:aM)(avM:Int)(set:List Int)(lv d:Int):Int:=if iH f lv d≠0 then iH f lv d else if abD f avM set then 0 else 1
def U1(f:aM)(avM:Int)(set:List Int)(lv d:Int):Nat:=if JK f avM set lv d=0 then gh (zO f lv d) set (kY f avM).m else 0

noncomputable def Wb:aM:=(jV [] 1 0 0).1

mutual
def PV.ren(r:Nat→Nat):PV→PV
 | .osl o s d len=>.osl (r o) s d len
 | .ptr o s i c=>.ptr (r o) s i c
 | .map o=>.map (r o)
 | .sl s rows=>.sl s (PV.nK r rows)
 | .cT cs=>.cT (PV.jH r cs)
 | .fn n cs=>.fn n (PV.jH r cs)
 | .agg cs=>.agg (PV.jH r cs)
 | .tup cs=>.tup (PV.jH r cs)
 | .int k n=>.int k n
 | .bool b=>.bool b
 | .str s=>.str s
 | .aH=>.aH
 | .lit v=>.lit v
 | .junk=>.junk
def PV.jH(r:Nat→Nat):List PV→List PV
 |[]=>[]
 |v::vs=>PV.ren r v::PV.jH r vs
def PV.nK(r:Nat→Nat):List (List PV)→List (List PV)
 |[]=>[]
 |v::vs=>PV.jH r v::PV.nK r vs
end
theorem PV.dW(r:Nat→Nat):∀l,PV.jH r l=l.map (PV.ren r)
 |[]=>rfl
 |v::vs=>by rw[PV.jH,PV.dW r vs];rfl
theorem PV.jK(r:Nat→Nat):∀l,PV.nK r l=l.map λx=>x.map (PV.ren r)
 |[]=>rfl
 |v::vs=>by rw[PV.nK,PV.jK r vs,PV.dW];rfl
mutual
def PV.bound(n:Nat):PV→Bool
 | .osl o _ _ _=>decide (o<n)
 | .ptr o _ _ _=>decide (o<n)
 | .map o=>decide (o<n)
 | .sl _ rows=>PV.gD n rows
 | .cT cs=>PV.bounds n cs
 | .fn _ cs=>PV.bounds n cs
 | .agg cs=>PV.bounds n cs
 | .tup cs=>PV.bounds n cs
 | .int _ _=>true
 | .bool _=>true
 | .str _=>true
 | .aH=>true
 | .lit _=>true
 | .junk=>true
def PV.bounds(n:Nat):List PV→Bool
 |[]=>true
 |v::vs=>PV.bound n v&&PV.bounds n vs
def PV.gD(n:Nat):List (List PV)→Bool
 |[]=>true
 |v::vs=>PV.bounds n v&&PV.gD n vs
end
mutual
theorem PV.QZ{n:Nat}{r r':Nat→Nat}(h:∀i,i<n→r i=r' i):∀v:PV,v.bound n=true→v.ren r=v.ren r'
 | .osl o s d len,hb=>by simp only[PV.bound,decide_eq_true_eq]at hb;simp only[PV.ren,h o hb]
 | .ptr o s i c,hb=>by simp only[PV.bound,decide_eq_true_eq]at hb;simp only[PV.ren,h o hb]
 | .map o,hb=>by simp only[PV.bound,decide_eq_true_eq]at hb;simp only[PV.ren,h o hb]
 | .sl s rows,hb=>by simp only[PV.bound]at hb;simp only[PV.ren,PV.FC h rows hb]
 | .cT cs,hb=>by simp only[PV.bound]at hb;simp only[PV.ren,PV.pO h cs hb]
 | .fn _ cs,hb=>by simp only[PV.bound]at hb;simp only[PV.ren,PV.pO h cs hb]
 | .agg cs,hb=>by simp only[PV.bound]at hb;simp only[PV.ren,PV.pO h cs hb]
 | .tup cs,hb=>by simp only[PV.bound]at hb;simp only[PV.ren,PV.pO h cs hb]
 | .int _ _,_=>rfl
 | .bool _,_=>rfl
 | .str _,_=>rfl
 | .aH,_=>rfl
 | .lit _,_=>rfl
 | .junk,_=>rfl
theorem PV.pO{n:Nat}{r r':Nat→Nat}(h:∀i,i<n→r i=r' i):∀l:List PV,PV.bounds n l=true→PV.jH r l=PV.jH r' l
 |[],_=>rfl
 |v::vs,hb=>by simp only[PV.bounds,awN]at hb;rw[PV.jH,PV.jH,PV.QZ h v hb.1,PV.pO h vs hb.2]
theorem PV.FC{n:Nat}{r r':Nat→Nat}(h:∀i,i<n→r i=r' i):∀l:List (List PV),PV.gD n l=true→PV.nK r l=PV.nK r' l
 |[],_=>rfl
 |v::vs,hb=>by simp only[PV.gD,awN]at hb;rw[PV.nK,PV.nK,PV.pO h v hb.1,PV.FC h vs hb.2]
end
mutual
theorem PV.Zs:∀v:PV,v.ren id=v
 | .osl o s d len=>rfl
 | .ptr o s i c=>rfl
 | .map o=>rfl
 | .sl s rows=>by simp only[PV.ren,PV.Hh rows]
 | .cT cs=>by simp only[PV.ren,PV.tY cs]
 | .fn _ cs=>by simp only[PV.ren,PV.tY cs]
 | .agg cs=>by simp only[PV.ren,PV.tY cs]
 | .tup cs=>by simp only[PV.ren,PV.tY cs]
 | .int _ _=>rfl
 | .bool _=>rfl
 | .str _=>rfl
 | .aH=>rfl
 | .lit _=>rfl
 | .junk=>rfl
theorem PV.tY:∀l:List PV,PV.jH id l=l
 |[]=>rfl
 |v::vs=>by rw[PV.jH,PV.Zs v,PV.tY vs]
theorem PV.Hh:∀l:List (List PV),PV.nK id l=l
 |[]=>rfl
 |v::vs=>by rw[PV.nK,PV.tY v,PV.Hh vs]
end
theorem PV.mN{v:PV}(h:v.bound 0=true)(r:Nat→Nat):v.ren r=v:=(PV.QZ (r':=id) (λi hi=>absurd hi (Nat.not_lt_zero i)) v h).trans (PV.Zs v)
theorem PV.mS{l:List PV}(h:PV.bounds 0 l=true)(r:Nat→Nat):l.map (PV.ren r)=l:=by
 rw[←PV.dW];exact(PV.pO (r':=id) (λi hi=>absurd hi (Nat.not_lt_zero i)) l h).trans (PV.tY l)
theorem tX(r:Nat→Nat)(v:PV):(v.ren r).cells=v.cells.map (PV.ren r):=by
 cases v<;>simp only[PV.ren,PV.cells,PV.dW,axL,ayI]
theorem akB(r:Nat→Nat)(v:PV):(v.ren r).one=v.one:=by
 cases v<;>simp only[PV.ren,PV.one]
theorem sQ(r:Nat→Nat)(l:List PV):(l.map (PV.ren r)).all PV.one=l.all PV.one:=by
 rw[List.all_map];congr 1;exact funext λv=>akB r v
theorem BT(r:Nat→Nat):∀(vs:List PV)(l:List PV)(c:Nat),(setCells l c vs).map (PV.ren r)=setCells (l.map (PV.ren r)) c (vs.map (PV.ren r))
 |[],_,_=>rfl
 |v::vs,l,c=>by simp only[setCells,axL];rw[BT r vs,List.map_set]
theorem akA{r:Nat→Nat}{op:BinOp}{x y v:PV}(h:PV.bin op x y=some v):PV.bin op (x.ren r) (y.ren r)=some (v.ren r):=by
 have d:∀{k:IntKind}{n:Int},(PV.int k n).ren r=.int k n:=rfl;cases x<;>cases y<;>try (cases op<;>simp[PV.bin]at h;done)
 ·simp only[PV.ren];rw[h];congr 1;revert h;unfold PV.bin;cases op<;>simp only[shift,mE]<;>intro h<;>(repeat' split at h)<;>cases h<;>rfl
 ·simp only[PV.ren];rw[h];congr 1;revert h;unfold PV.bin;cases op<;>simp only[GH]<;>intro h<;>(repeat' split at h)<;>cases h<;>rfl
def aR.ren(r:Nat→Nat):aR→aR
 | .rows s rs=>.rows s (rs.map λx=>x.map (PV.ren r))
 | .map sh g=>.map sh λk=>(g k).map (PV.ren r)
 | .loop F n t a b=>.loop F n t a b
 | .dead=>.dead
def PF.ren(r:Nat→Nat)(F:PF):PF:=λi=>(F i).map (PV.ren r)
def NE(r:Nat→Nat)(h H:PH):Prop:=∀i x,h i=some x→H (r i)=some (x.ren r)
def aO.clo:aO→Bool
 | .tmp _=>true
 | .const v=>v.bound 0
section
variable {r:Nat→Nat} {F:PF} {h H:PH}
theorem bT{x:aO}{v:PV}(d:x.clo=true)(e:x.ev F=some v):x.ev (F.ren r)=some (v.ren r):=by
 cases x with
 |tmp t=>simp only[aO.ev]at e ⊢;simp only[PF.ren,e,axF]
 |const u=>simp only[aO.ev,axZ.injEq]at e ⊢;subst e;exact(PV.mN d r).symm
theorem AA:∀{l:List aO}{vs:List PV},l.all aO.clo=true→aO.evs F l=some vs→aO.evs (F.ren r) l=some (vs.map (PV.ren r))
 |[],vs,_,e=>by cases e;rfl
 |x::xs,vs,d,e=>by
  simp only[List.all_cons,awN]at d;simp only[aO.evs]at e ⊢;split at e
  ·rename_i v u i p;cases e;rw[bT d.1 i,AA d.2 p];rfl
  ·cases e
theorem Mf{k:Sc}{x y:PV}{b:Bool}(e:PV.eq1 k x y=some b):PV.eq1 k (x.ren r) (y.ren r)=some b:=by
 unfold PV.eq1 at e;split at e<;>first|exact e|cases e
theorem Mg:∀{i:List Sc}{xs ys:List PV}{b:Bool},PV.eqs i xs ys=some b→PV.eqs i (xs.map (PV.ren r)) (ys.map (PV.ren r))=some b
 |[],[],[],_,e=>e
 |k::i,x::xs,y::ys,b,e=>by
  simp only[PV.eqs,axL]at e ⊢;split at e
  ·rename_i d;rw[Mf d];exact Mg e
  ·rename_i d;rw[Mf d];simpa using e
  ·cases e
 |[],_::_,_,_,e=>by simp[PV.eqs]at e
 |[],[],_::_,_,e=>by simp[PV.eqs]at e
 |_::_,[],_,_,e=>by simp[PV.eqs]at e
 |_::_,_::_,[],_,e=>by simp[PV.eqs]at e
theorem amX{op:UnOp}{x v:PV}(e:PV.un op x=some v):PV.un op (x.ren r)=some (v.ren r):=by
 unfold PV.un at e;split at e
 ·split at e<;>cases e<;>rfl
 ·split at e<;>cases e;rfl
 ·cases e
theorem rj:∀{l:List (Nat × Nat × aO)}{cells v:List PV},(l.all λx=>x.2.2.clo)=true→nY cells F l=some v→nY (cells.map (PV.ren r)) (F.ren r) l=some (v.map (PV.ren r))
 |[],_,_,_,e=>by cases e;rfl
 |(u,size,x)::l,cells,v,d,e=>by
  simp only[List.all_cons,awN]at d;simp only[nY]at e ⊢;split at e
  ·rename_i w i;rw[bT d.1 i];simp only[tX,sQ,awL];split at e
   ·rename_i p;rw[aF p,←BT];exact rj d.2 e
   ·cases e
  ·cases e
theorem BC{size:Nat}:∀{l:List (Nat × aO)}{rows v:List (List PV)},(l.all λx=>x.2.clo)=true→fS size rows F l=some v →
  fS size (rows.map λx=>x.map (PV.ren r)) (F.ren r) l=some (v.map λx=>x.map (PV.ren r))
 |[],_,_,_,e=>by cases e;rfl
 |(i,x)::l,rows,v,d,e=>by
  simp only[List.all_cons,awN]at d;simp only[fS]at e ⊢;split at e
  ·rename_i w p;rw[bT d.1 p];simp only[tX,sQ,awL];split at e
   ·rename_i u;rw[aF u,←List.map_set];exact BC d.2 e
   ·cases e
  ·cases e
theorem sX(x:NE r h H){p:PV}{n:Nat}{v:List PV}(e:loadCells h p n=some v):loadCells H (p.ren r) n=some (v.map (PV.ren r)):=by
 unfold loadCells at e;split at e
 ·split at e
  ·rename_i o size i c s rs u;have l:=x _ _ u;simp only[aR.ren]at l;simp only[PV.ren,loadCells,l];split at e
   ·rename_i d;rw[aF d,axH];split at e
    ·rename_i q w;rw[w];simp only[axF,awL];split at e
     ·rename_i h5;rw[aF h5,←List.map_drop,←azM];cases e;rfl
     ·cases e
    ·cases e
   ·cases e
  ·cases e
 ·simp only[PV.ren,loadCells,PV.dW,awL];split at e
  ·rename_i d;rw[aF d,←azM];cases e;rfl
  ·cases e
 ·cases e
theorem vZ(w:NE r h H){s:Nat}{p:PV}{v:List (List PV)}(e:dD h s p=some v):dD H s (p.ren r)=some (v.map λx=>x.map (PV.ren r)):=by
 unfold dD at e;split at e
 ·cases e;rfl
 ·simp only[PV.ren,dD,PV.jK];split at e
  ·rename_i d;rw[aF d];cases e;rfl
  ·cases e
 ·split at e
  ·rename_i d;split at e
   ·rename_i l;have i:=w _ _ l;simp only[aR.ren]at i;simp only[PV.ren,dD,i,awL];rw[aF d];split at e
    ·rename_i u;rw[aF u,←List.map_drop,←azM];cases e;rfl
    ·cases e
   ·cases e
  ·cases e
 ·cases e
theorem AW:∀{l:List (List PV)}{s:List UInt8},gR l=some s→gR (l.map λx=>x.map (PV.ren r))=some s
 |[],_,e=>e
 |[.int .u8 n]::rest,s,e=>by
  simp only[gR,axL,ayI,PV.ren]at e ⊢;cases d:gR rest with
  |none=>rw[d]at e;cases e
  |some t=>rw[d]at e;rw[AW d];exact e
 |[]::_,_,e=>by simp[gR]at e
 |(_::_::_)::_,_,e=>by simp[gR]at e
 |[v]::rest,s,e=>by
  cases v<;>try (simp[gR]at e;done)
  rename_i k n;cases k<;>try (simp[gR]at e;done)
  simp only[gR,axL,ayI,PV.ren]at e ⊢;cases d:gR rest with
  |none=>rw[d]at e;cases e
  |some t=>rw[d]at e;rw[AW d];exact e
theorem x7{v:PV}{k:KS}(e:KS.of v=some k):KS.of (v.ren r)=some k:=by
 unfold KS.of at e;split at e<;>first|exact e|cases e
theorem oo:∀{l:List PV}{d:List KS},KS.ofs l=some d→KS.ofs (l.map (PV.ren r))=some d
 |[],_,e=>e
 |v::vs,d,e=>by
  simp only[KS.ofs,axL]at e ⊢;split at e
  ·rename_i i p;rw[x7 i,oo p];exact e
  ·cases e
theorem xT{sh:MSh}{v:PV}{k:List KS}(e:keyOf sh v=some k):keyOf sh (v.ren r)=some k:=by
 obtain⟨b,i⟩:=sh;cases b with
 |true=>
  cases v<;>try (simp[keyOf]at e;done)
  rename_i cs;simp only[keyOf,PV.ren,PV.dW]at e ⊢;cases d:KS.ofs cs with
  |none=>rw[d]at e;cases e
  |some t=>rw[d]at e;rw[oo d];exact e
 |false=>
  simp only[keyOf]at e ⊢;cases d:KS.of v with
  |none=>rw[d]at e;cases e
  |some t=>rw[d]at e;rw[x7 d];exact e
theorem GI{d n:Int}{x:Option aO}(l:(x.all aO.clo)=true)(e:bnd F d x=some n):bnd (F.ren r) d x=some n:=by
 cases x with
 |none=>exact e
 |some x=>
  simp only[bnd]at e ⊢;cases i:x.ev F with
  |none=>rw[i]at e;cases e
  |some v =>rw[i]at e;rw[bT (by simpa using l) i];cases v<;>first|exact e|cases e
theorem vf{size:Nat}{x v:PV}{l m:Int}{mx:Option Int}(e:PV.slice size x l m mx=some v):PV.slice size (x.ren r) l m mx=some (v.ren r):=by
 unfold PV.slice at e;split at e
 ·split at e
  ·rename_i d;cases e;simp only[PV.ren,PV.slice];rw[aF d]
  ·cases e
 ·split at e
  ·rename_i d;cases e;simp only[PV.ren,PV.slice,PV.jK,awL];rw[aF d,←azM,←List.map_drop]
  ·cases e
 ·split at e
  ·rename_i d;cases e;simp only[PV.ren,PV.slice];rw[aF d]
  ·cases e
 ·cases e
theorem Ut{x:PV}{b:Bool}(e:PV.sN x=some b):PV.sN (x.ren r)=some b:=by
 unfold PV.sN at e;split at e<;>first|exact e|cases e
theorem adL{x v:PV}(e:PV.qD x=some v):PV.qD (x.ren r)=some (v.ren r):=by
 unfold PV.qD at e;split at e<;>cases e<;>simp only[PV.ren,PV.qD,PV.jK,awL]
theorem ch(size:Nat):∀(n:Nat)(cs:List PV),chunks size n (cs.map (PV.ren r))=(chunks size n cs).map λx=>x.map (PV.ren r)
 |0,_=>rfl
 |n+1,cs=>by simp only[chunks,axL,azM,←List.map_drop,ch size n]
end
def POp.clo:POp→Bool
 | .mv x | .same x | .un _ x | .conv _ x | .box _ x | .load _ x | .avN x | .awD _ x | .field _ _ x | .len x | .awA x | .awK x | .isNil _ x | .extract x _ | .avO x=>x.clo
 | .pick c a b=>c.clo&&(a.clo&&b.clo)
 | .bin _ x y | .eqb _ x y | .eqs _ _ x y | .avR _ x y | .idxA _ _ x y | .idxV _ _ _ x y | .awB x y | .avV _ x y | .store _ x y | .append _ _ x y=>x.clo&&y.clo
 | .alloc cells=>PV.bounds 0 cells
 | .build zero parts=>PV.bounds 0 zero&&parts.all λx=>x.2.2.clo
 | .avG _ _ _ zero parts=>PV.bounds 0 zero&&parts.all λx=>x.2.clo
 | .slice _ x lo hi mx=>x.clo&&(lo.all aO.clo&&(hi.all aO.clo&&mx.all aO.clo))
 | .avX x lo hi=>x.clo&&(lo.all aO.clo&&hi.all aO.clo)
 | .sliceA _ _ x _ _ _=>x.clo
 | .avI _ _ zero l c=>PV.bounds 0 zero&&(l.clo&&c.clo)
 | .mkfn _ l=>l.all aO.clo
 | .awG _=>true
 | .lookup _ zero x k _=>zero.bound 0&&(x.clo&&k.clo)
 | .avS _ x k v | .insert _ x k v=>x.clo&&(k.clo&&v.clo)
 | .call _ l=>l.all aO.clo
 | .awC x l=>x.clo&&l.all aO.clo
 |_=>false
section
variable {r:Nat→Nat} {F:PF} {h H:PH}
theorem QW(K:NE r h H){op:POp}{v:PV}(u:op.clo=true)(e:aL op F h=some v):aL op (F.ren r) H=some (v.ren r):=by
 cases op<;>try (simp[aL]at e;done)
 case mv x=>exact bT u e
 case pick c a b=>
  simp only[POp.clo,awN]at u;simp only[aL]at e ⊢;split at e
  ·rename_i t d;rw[bT u.1 d];cases t with
   |true=>exact bT u.2.1 e
   |false=>exact bT u.2.2 e
  ·cases e
 case bin op x y=>
  simp only[POp.clo,awN]at u;simp only[aL]at e ⊢;split at e
  ·rename_i a b d A;rw[bT u.1 d,bT u.2 A];exact akA e
  ·cases e
 case eqb n x y=>
  simp only[POp.clo,awN]at u;simp only[aL]at e ⊢;split at e
  ·rename_i a b d A;rw[bT u.1 d,bT u.2 A];cases e;rfl
  ·cases e
 case eqs n ks x y=>
  simp only[POp.clo,awN]at u;simp only[aL]at e ⊢;split at e
  ·rename_i a b d A;rw[bT u.1 d,bT u.2 A];simp only[PV.ren,PV.dW];cases B:PV.eqs ks a b with
   |none=>rw[B]at e;cases e
   |some t=>rw[B]at e;rw[Mg B];cases e;rfl
  ·cases e
 case un op x=>
  simp only[aL]at e ⊢;split at e
  ·rename_i a d;rw[bT u d];exact amX e
  ·cases e
 case conv k x=>
  simp only[aL]at e ⊢;split at e
  ·rename_i R n d;rw[bT u d];cases e;rfl
  ·cases e
 case same x=>
  simp only[aL]at e ⊢;split at e
  ·rename_i s d;rw[bT u d];cases e;rfl
  ·cases e
 case box ro x=>
  cases ro with
  |false=>simp[aL]at e
  |true=>
   simp only[aL]at e ⊢;split at e
   ·rename_i a d;rw[bT u d];simp only[tX,sQ];split at e
    ·rename_i A;rw[aF A];cases e;simp only[PV.ren,PV.dW]
    ·cases e
   ·cases e
 case build zero parts=>
  simp only[POp.clo,awN]at u;simp only[aL]at e ⊢;cases d:nY zero F parts with
  |none=>rw[d]at e;cases e
  |some w =>rw[d]at e;have A:=rj (r:=r) u.2 d;rw[PV.mS u.1]at A;rw[A];cases e;simp only[axF,PV.ren,PV.dW]
 case avG ro size len zero parts=>
  cases ro with
  |false=>simp[aL]at e
  |true=>
   simp only[POp.clo,awN]at u;simp only[aL]at e ⊢;split at e
   ·rename_i N;rw[aF N];cases d:fS size (awO len zero) F parts with
    |none=>rw[d]at e;cases e
    |some w =>rw[d]at e;have A:=BC (r:=r) u.2 d;rw[List.map_replicate,PV.mS u.1]at A;rw[A];cases e;simp only[axF,PV.ren,PV.jK]
   ·cases e
 case load n p=>
  cases n with
  |none=>
   simp only[aL]at e ⊢;split at e
   ·rename_i a d;rw[bT u d];split at e
    ·rename_i w A;have B:=sX K A;simp only[axL,ayI]at B;simp only[B];cases e;rfl
    ·cases e
   ·cases e
  |some n=>
   simp only[aL]at e ⊢;split at e
   ·rename_i a d;rw[bT u d];cases A:loadCells h a n with
    |none=>rw[A]at e;cases e
    |some w =>rw[A]at e;simp only[sX K A];cases e;simp only[axF,PV.ren,PV.dW]
   ·cases e
 case avN x=>
  simp only[aL]at e ⊢;split at e
  ·rename_i d;rw[bT u d];cases e;rfl
  ·rename_i d;rw[bT u d];cases e;rfl
  ·cases e
 case awD J x=>
  simp only[aL]at e ⊢;split at e
  ·rename_i d;rw[bT u d];cases e;rfl
  ·rename_i d;rw[bT u d];cases e;simp only[PV.ren,PV.dW,List.map_drop]
  ·cases e
 case field J n x=>
  simp only[aL]at e ⊢;split at e
  ·rename_i cs d;rw[bT u d];simp only[PV.ren,PV.dW];split at e
   ·rw[axH,e];rfl
   ·split at e
    ·rename_i A;rw[awL,aF A,←List.map_drop,←azM];cases e;simp only[PV.ren,PV.dW]
    ·cases e
  ·cases e
 case avR size x i=>
  simp only[POp.clo,awN]at u;simp only[aL]at e ⊢;split at e
  ·rename_i s rows k n d A;rw[bT u.1 d,bT u.2 A];simp only[PV.ren,PV.jK];split at e
   ·rename_i B;rw[aF B,axH];split at e
    ·rename_i q E;rw[E];cases e;simp only[axF,PV.ren,PV.dW]
    ·cases e
   ·cases e
  ·rename_i o s J len k n d A;rw[bT u.1 d,bT u.2 A];simp only[PV.ren];split at e
   ·rename_i B;rw[aF B];cases e;rfl
   ·cases e
  ·cases e
 case idxA n size x i=>
  simp only[POp.clo,awN]at u;simp only[aL]at e ⊢;split at e
  ·rename_i d A;rw[bT u.1 d,bT u.2 A];simp only[PV.ren];split at e
   ·rename_i B;rw[aF B];cases e;rfl
   ·cases e
  ·rename_i d A;rw[bT u.1 d,bT u.2 A];simp only[PV.ren,PV.dW];split at e
   ·rename_i B;rw[aF B];cases e;simp only[PV.ren,PV.dW,List.map_drop]
   ·cases e
  ·cases e
 case idxV n size ag x i=>
  simp only[POp.clo,awN]at u;simp only[aL]at e ⊢;split at e
  ·rename_i d A;rw[bT u.1 d,bT u.2 A];simp only[PV.ren,PV.dW,awL];split at e
   ·rename_i B;rw[aF B];cases ag with
    |true=>
     simp only[if_true]at e ⊢;split at e
     ·rename_i E;rw[aF E,←List.map_drop,←azM];cases e;simp only[PV.ren,PV.dW]
     ·cases e
    |false =>simp only[ayQ,if_false]at e ⊢;rw[axH,e];rfl
   ·cases e
  ·cases e
 case awB x i=>
  simp only[POp.clo,awN]at u;simp only[aL]at e ⊢;split at e
  ·rename_i s k n d A;rw[bT u.1 d,bT u.2 A];simp only[PV.ren];split at e
   ·rename_i B;rw[aF B];cases E:s[n.toNat]? with
    |none=>rw[E]at e;cases e
    |some b=>rw[E]at e;cases e;rfl
   ·cases e
  ·cases e
 case avX x lo hi=>
  simp only[POp.clo,awN]at u;simp only[aL]at e ⊢;split at e
  ·rename_i s d;rw[bT u.1 d];simp only[PV.ren];split at e
   ·rename_i l m A B;rw[GI u.2.1 A,GI u.2.2 B];simp only;split at e
    ·rename_i E;rw[aF E];cases e;rfl
    ·cases e
   ·cases e
  ·cases e
 case sliceA n size x lo hi mx=>
  cases lo<;>cases hi<;>cases mx<;>try (simp[aL]at e;done)
  simp only[aL]at e ⊢;split at e
  ·rename_i cs d;rw[bT u d];simp only[PV.ren,PV.dW,awL];split at e
   ·rename_i B;rw[aF B];cases e;simp only[PV.ren,PV.jK,ch]
   ·cases e
  ·cases e
 case len x=>
  simp only[aL]at e ⊢;cases d:x.ev F with
  |none=>rw[d]at e;cases e
  |some a=>rw[d]at e;rw[bT u d];exact adL e
 case awA x=>
  simp only[aL]at e ⊢;split at e
  ·rename_i d;rw[bT u d];cases e;rfl
  ·cases e
 case lenM x=>simp[POp.clo]at u
 case awK x=>
  simp only[aL]at e ⊢;split at e
  ·rename_i d;rw[bT u d];cases e;rfl
  ·cases e
 case isNil n x=>
  simp only[aL]at e ⊢;cases d:x.ev F with
  |none=>rw[d]at e;cases e
  |some a=>
   rw[d]at e;rw[bT u d];simp only[azU]at e ⊢;cases A:a.sN with
   |none=>rw[A]at e;cases e
   |some b=>rw[A]at e;rw[Ut A];cases e;rfl
 case extract x i=>
  simp only[aL]at e ⊢;split at e
  ·rename_i vs d;rw[bT u d];simp only[PV.ren,PV.dW];rw[axH,e];rfl
  ·cases e
 case avV mx x y=>
  simp only[POp.clo,awN]at u;simp only[aL]at e ⊢;split at e
  ·rename_i d A;rw[bT u.1 d,bT u.2 A];simp only[PV.ren];split at e
   ·rename_i B;rw[aF B];cases e;rfl
   ·cases e
  ·cases e
 case mkfn name l=>
  simp only[aL]at e ⊢;cases d:aO.evs F l with
  |none=>rw[d]at e;cases e
  |some vs =>rw[d]at e;rw[AA u d];cases e;simp only[axF,PV.ren,PV.dW]
 case lookup sh zero x k ok=>
  simp only[POp.clo,awN]at u;simp only[aL]at e ⊢;split at e
  ·rename_i o S d A;rw[bT u.2.1 d,bT u.2.2 A];simp only[PV.ren];split at e
   ·rename_i Q g M B E;have h5:=K _ _ B;simp only[aR.ren]at h5;simp only[h5,xT E];split at e
    ·rename_i O;rw[aF O];cases ok<;>cases h7:g M<;>rw[h7]at e<;>cases e<;>simp[PV.ren,PV.jH,PV.mN u.1]
    ·cases e
   ·cases e
  ·cases e
 case avO x=>
  simp only[aL]at e ⊢;split at e
  ·rename_i a d;rw[bT u d];split at e
   ·rename_i rows A;simp only[vZ K A];cases B:gR rows with
    |none=>rw[B]at e;cases e
    |some s=>rw[B]at e;rw[AW B];cases e;rfl
   ·cases e
  ·cases e
 case slice size x lo hi mx=>
  simp only[POp.clo,awN]at u;simp only[aL]at e ⊢;split at e
  ·rename_i a d;rw[bT u.1 d];cases a<;>try (simp at e;done)
   all_goals
    simp only[PV.ren,PV.jK,awL]at e ⊢;split at e
    ·rename_i l m A B;rw[GI u.2.1 A,GI u.2.2.1 B];simp only;cases mx with
     |none =>simp only at e ⊢;have E:=vf (r:=r) e;simpa only [PV.ren,PV.jK]using E
     |some q=>
      simp only at e ⊢;cases h5:bnd F 0 (some q)with
      |none=>rw[h5]at e;cases e
      |some z =>rw[h5]at e;rw[GI u.2.2.2 h5];have E:=vf (r:=r) (by simpa using e);simpa only [PV.ren,PV.jK,azU]using E
    ·cases e
  ·cases e
end
inductive Fr where
 |nil
 |node (v:Option PV) (l r:Fr)
def Fr.pf:Fr→PF
 | .nil,_=>none
 | .node v l r,i=>cond (ayG i 0) v (cond (ayG (i%2) 1) (l.pf (i/2)) (r.pf (i/2-1)))
def Fr.set:Fr→Nat→PV→Fr
 | .nil,_,_=>.nil
 | .node v l r,i,x=>cond (ayG i 0) (.node (some x) l r) (cond (ayG (i%2) 1) (.node v (l.set (i/2) x) r) (.node v l (r.set (i/2-1) x)))
def Fr.has:Fr→Nat→Bool
 | .nil,_=>false
 | .node _ l r,i=>cond (ayG i 0) true (cond (ayG (i%2) 1) (l.has (i/2)) (r.has (i/2-1)))
def Fr.put(l:Fr)(d:Option Nat)(v:PV):Fr:=match d with
 |none=>l
 |some d=>l.set d v
def Fr.fits(l:Fr)(d:Option Nat):Bool:=match d with
 |none=>true
 |some d=>l.has d
theorem yo(i j:Nat):ayG i j=decide (i=j):=by
 rw[Bool.eq_iff_iff,Nat.beq_eq,decide_eq_true_eq]
theorem Fr.jn:∀{l:Fr}{d:Nat}{v:PV},l.has d=true→(l.set d v).pf=λi=>if i=d then some v else l.pf i
 | .nil,d,v,h=>by cases h
 | .node w l r,d,v,h=>by
  funext i;simp only[Fr.has,Fr.set,yo]at h ⊢;by_cases x:d=0
  ·subst x;simp only[decide_true,cond_true,Fr.pf,yo];by_cases u:i=0<;>simp[u]
  ·simp only[x,decide_false,cond_false]at h ⊢;by_cases y:d%2=1
   ·simp only[y,decide_true,cond_true]at h ⊢;simp only[Fr.pf,yo,Fr.jn h];by_cases u:i=0
    ·simp only[u,decide_true,cond_true];rw[aC (λe=>x e.symm)]
    ·simp only[u,decide_false,cond_false];by_cases p:i%2=1
     ·simp only[p,decide_true,cond_true];by_cases e:i=d
      ·rw[aF e,aF (by rw[e])]
      ·rw[aC e,aC Om]
     ·simp only[p,decide_false,cond_false];rw[aC (by intro e;rw[e]at p;exact p y)]
   ·simp only[y,decide_false,cond_false]at h ⊢;simp only[Fr.pf,yo,Fr.jn h];by_cases u:i=0
    ·simp only[u,decide_true,cond_true];rw[aC (λe=>x e.symm)]
    ·simp only[u,decide_false,cond_false];by_cases p:i%2=1
     ·simp only[p,decide_true,cond_true];rw[aC (by intro e;rw[e]at p;exact y p)]
     ·simp only[p,decide_false,cond_false];by_cases e:i=d
      ·rw[aF e,aF (by rw[e])]
      ·rw[aC e,aC Om]
theorem Fr.Zr{l:Fr}{d:Option Nat}{v:PV}(h:l.fits d=true):(l.put d v).pf=l.pf.put d v:=by
 cases d with
 |none=>rfl
 |some d =>simp only[Fr.put];rw[Fr.jn h];rfl
def Fr.empty:Nat→Fr
 |0=>.nil
 |n+1=>.node none (Fr.empty n) (Fr.empty n)
theorem Fr.Ag:∀(n i:Nat),(Fr.empty n).pf i=none
 |0,i=>rfl
 |n+1,i=>by simp only[Fr.empty,Fr.pf,yo];cases decide (i=0)<;>cases decide (i%2=1)<;>simp[Fr.Ag n]
def Fr.args:List PV→Nat→Fr→Option Fr
 |[],_,f=>some f
 |v::vs,k,f=>cond (f.has k) (Fr.args vs (k+1) (f.set k v)) none
theorem Fr.Lo:∀{vs:List PV}{k:Nat}{f g:Fr},Fr.args vs k f=some g→g.pf=λi=>if i<k then f.pf i else match vs[i-k]? with|some v=>some v|none=>f.pf i
 |[],k,f,g,h=>by cases h;funext i;split<;>simp
 |v::vs,k,f,g,h=>by
  simp only[Fr.args]at h;cases e:f.has k with
  |false=>rw[e]at h;cases h
  |true=>
   rw[e]at h;rw[Fr.Lo h,Fr.jn e];funext i;show(if i<k+1 then(if i=k then some v else f.pf i)else match vs[i-(k+1)]? with|some w=>some w|none=>(if i=k then some v else f.pf i))=if i<k then f.pf i else match(v::vs)[i-k]? with|some w=>some w|none=>f.pf i
   rcases Nat.lt_trichotomy i k with c|c|c
   ·rw[aF Om,aC Om,aF c]
   ·subst c;rw[aF Om,aF rfl,aC Om,azP];rfl
   ·rw[aC Om,aC Om,aC Om];obtain⟨d,l⟩:∃d,i-k=d+1:=⟨i-k-1,by omega⟩;rw[l,show i-(k+1)=d by omega];rfl
abbrev Hp:=List aR
def aR.live:aR→Option aR
 | .dead=>none
 | .loop ..=>none
 |x=>some x
def Hp.ph(l:Hp):PH:=⟨λo=>(l[o]?).bind aR.live,Z' l,λo d=>by simp[axV d]⟩
theorem Hp.jR(l:Hp)(o:Nat):l.ph o=(l[o]?).bind aR.live:=rfl
def aR.Bd(n:Nat):aR→Prop
 | .rows _ rs=>PV.gD n rs=true
 | .map _ g=>∀k v,g k=some v→v.bound 0=true
 |_=>True
def ll(n:Nat)(f:Fr):Prop:=∀i v,f.pf i=some v→v.bound n=true
structure Rl(r:Nat→Nat)(f:Fr)(h:Hp)(F:PF)(H:PH):Prop where
 fr:F=f.pf.ren r
 hp:NE r h.ph H
 inj:∀i j x y,h.ph i=some x→h.ph j=some y→r i=r j→i=j
 fb:ll h.length f
 hb:∀x∈h,aR.Bd h.length x
def fT(n:Nat)(r r':Nat→Nat):Prop:=∀i,i<n→r i=r' i
mutual
theorem PV.rJ{n m:Nat}(h:n≤m):∀v:PV,v.bound n=true→v.bound m=true
 | .osl o s d len,hb=>by simp only[PV.bound,decide_eq_true_eq]at hb ⊢;omega
 | .ptr o s i c,hb=>by simp only[PV.bound,decide_eq_true_eq]at hb ⊢;omega
 | .map o,hb=>by simp only[PV.bound,decide_eq_true_eq]at hb ⊢;omega
 | .sl s rows,hb=>by simp only[PV.bound]at hb ⊢;exact PV.uN h rows hb
 | .cT cs,hb=>by simp only[PV.bound]at hb ⊢;exact PV.oL h cs hb
 | .fn _ cs,hb=>by simp only[PV.bound]at hb ⊢;exact PV.oL h cs hb
 | .agg cs,hb=>by simp only[PV.bound]at hb ⊢;exact PV.oL h cs hb
 | .tup cs,hb=>by simp only[PV.bound]at hb ⊢;exact PV.oL h cs hb
 | .int _ _,_=>rfl
 | .bool _,_=>rfl
 | .str _,_=>rfl
 | .aH,_=>rfl
 | .lit _,_=>rfl
 | .junk,_=>rfl
theorem PV.oL{n m:Nat}(h:n≤m):∀l:List PV,PV.bounds n l=true→PV.bounds m l=true
 |[],_=>rfl
 |v::vs,hb=>by simp only[PV.bounds,awN]at hb ⊢;exact⟨PV.rJ h v hb.1,PV.oL h vs hb.2⟩
theorem PV.uN{n m:Nat}(h:n≤m):∀l:List (List PV),PV.gD n l=true→PV.gD m l=true
 |[],_=>rfl
 |v::vs,hb=>by simp only[PV.gD,awN]at hb ⊢;exact⟨PV.oL h v hb.1,PV.uN h vs hb.2⟩
end
def PV.xM(n:Nat)(v:PV):Bool:=cond (v.bound 0) true (v.bound n)
theorem PV.uM{n:Nat}{v:PV}(h:v.xM n=true):v.bound n=true:=by
 unfold PV.xM at h;cases e:v.bound 0 with
 |true=>exact PV.rJ (axB _) v e
 |false=>rw[e]at h;exact h
theorem aR.Bd.mono{n m:Nat}(h:n≤m){x:aR}(hb:x.Bd n):x.Bd m:=by
 cases x with
 |rows s rs=>exact PV.uN h rs hb
 |map sh g=>exact hb
 |loop=>trivial
 |dead=>trivial
theorem aR.mR{n:Nat}{r r':Nat→Nat}(h:fT n r r'){x:aR}(hb:x.Bd n):x.ren r=x.ren r':=by
 cases x with
 |rows s rs=>simp only[aR.ren,←PV.jK];rw[PV.FC h rs hb]
 |map sh g=>
  simp only[aR.ren];congr 1;funext k;cases e:g k with
  |none=>rfl
  |some v=>rw[axF,axF,PV.mN (hb k v e),PV.mN (hb k v e)]
 |loop=>rfl
 |dead=>rfl
theorem PF.mR{n:Nat}{r r':Nat→Nat}(h:fT n r r'){f:Fr}(hb:ll n f):f.pf.ren r=f.pf.ren r':=by
 funext i;unfold PF.ren;cases e:f.pf i with
 |none=>rfl
 |some v=>rw[axF,axF,PV.QZ h v (hb i v e)]
theorem PF.akC(r:Nat→Nat)(F:PF)(d:Option Nat)(v:PV):(F.put d v).ren r=(F.ren r).put d (v.ren r):=by
 cases d with
 |none=>rfl
 |some d =>funext i;simp only[PF.put,PF.ren,PF.set,upd];split<;>rfl
theorem kO{l:Hp}{o:Nat}{x:aR}(h:l.ph o=some x):l[o]?=some x∧o<Z' l:=by
 rw[Hp.jR]at h;cases e:l[o]? with
 |none=>rw[e]at h;cases h
 |some y=>
  rw[e]at h;have hlt:=(axO.1 e).1;cases y with
  |dead=>cases h
  |loop=>cases h
  |rows=>cases h;exact⟨rfl,hlt⟩
  |map=>cases h;exact⟨rfl,hlt⟩
theorem Hp.yA{l:Hp}{o:Nat}{x:aR}(i:o<Z' l)(q:Nat):Hp.ph (l.set o x) q=if q=o then x.live else l.ph q:=by
 rw[Hp.jR,Hp.jR,List.getElem?_set];by_cases e:o=q
 ·subst e;rw[aF rfl,aF i,aF rfl];rfl
 ·rw[aC e,aC (λd=>e d.symm)]
theorem Hp.tW{l:Hp}{x:aR}(q:Nat):Hp.ph (l++[x]) q=if q=l.length then x.live else l.ph q:=by
 rw[Hp.jR,Hp.jR];by_cases e:q=Z' l
 ·subst e;rw[aF rfl,ayW (awP _),azP];rfl
 ·rw[aC e];rcases axA q l.length with h|h
  ·rw[azD h]
  ·rw[ayW h,axV (show[x].length≤q-l.length by simp;omega),axV h]
theorem aR.xV{x y:aR}(h:x.live=some y):x=y:=by
 cases x<;>first|cases h;done|(cases h;rfl)
section
variable {r:Nat→Nat} {f:Fr} {h:Hp} {F:PF} {H:PH}
theorem Rl.push(R:Rl r f h F H){x:aR}(B:x.Bd h.length){o:Nat}(K:H o=none) :
  Rl (λi=>if i=h.length then o else r i) f (h++[x]) F (H.set o (x.ren r))∧fT h.length r (λi=>if i=h.length then o else r i):=by
 have u:fT h.length r (λi=>if i=h.length then o else r i):=λi hi=>by
  show r i=if i=h.length then o else r i
  rw[aC Om]
 have d:∀i y,h.ph i=some y→r i≠o:=λi y hy e=>by have:=R.hp i y hy;rw[e,K]at this;cases this
 have A:(h++[x]).length=Z' h+1:=by simp
 refine⟨⟨?_,λi y hy=>?_,λi j y z hy p e=>?_,λi v M=>?_,λy hy=>?_⟩,u⟩
 ·rw[R.fr];exact PF.mR u R.fb
 ·rw[Hp.tW]at hy;by_cases e:i=Z' h
  ·rw[aF e]at hy;have:=aR.xV hy;subst this;show(H.set o (x.ren r)) (if i=h.length then o else r i)=_;rw[aF e,aR.mR u B];simp[PH.set,PH.upd,upd]
  ·rw[aC e]at hy;show(H.set o (x.ren r)) (if i=h.length then o else r i)=_;rw[aC e];have w:=R.hp i y hy;have E:=kO hy;rw[aR.mR u (R.hb y (ayN E.1))]at w;have J:=d i y hy;simp only[PH.set,PH.upd,upd];rw[aC J];exact w
 ·rw[Hp.tW]at hy p
  try simp only at e
  by_cases l:i=Z' h
  ·by_cases e2:j=Z' h
   ·omega
   ·rw[aF l,aC e2]at e;rw[aC e2]at p;exact absurd e.symm (d j z p)
  ·by_cases e2:j=Z' h
   ·rw[aC l,aF e2]at e;rw[aC l]at hy;exact absurd e (d i y hy)
   ·rw[aC l,aC e2]at e;rw[aC l]at hy;rw[aC e2]at p;exact R.inj i j y z hy p e
 ·rw[A];exact PV.rJ (Nat.le_succ _) v (R.fb i v M)
 ·rw[A];rcases ayA.1 hy with hy|hy
  ·exact(R.hb y hy).mono (Nat.le_succ _)
  ·rw[ayX]at hy;subst hy;exact B.mono (Nat.le_succ _)
theorem Rl.We(R:Rl r f h F H){o:Nat}{x y:aR}(p:h.ph o=some x)(M:y.Bd h.length):Rl r f (h.set o y) F (H.set (r o) (y.ren r)):=by
 have hlt:=(kO p).2;refine⟨R.fr,λi z d=>?_,λi j z w d A e=>?_,λi v K=>?_,λz d=>?_⟩
 ·rw[Hp.yA hlt]at d;by_cases e:i=o
  ·rw[aF e]at d;have:=aR.xV d;subst this;subst e;simp[PH.set,PH.upd,upd]
  ·rw[aC e]at d;simp only[PH.set,PH.upd,upd];rw[aC (λJ=>e (R.inj i o z x d p J))];exact R.hp i z d
 ·rw[Hp.yA hlt]at d A;have h1:∃E,h.ph i=some E:=by
   by_cases l:i=o
   ·subst l;exact⟨x,p⟩
   ·rw[aC l]at d;exact⟨z,d⟩
  have u:∃B,h.ph j=some B:=by
   by_cases l:j=o
   ·subst l;exact⟨x,p⟩
   ·rw[aC l]at A;exact⟨w,A⟩
  obtain⟨E,h1⟩:=h1;obtain⟨B,u⟩:=u;exact R.inj i j E B h1 u e
 ·rw[ayM];exact R.fb i v K
 ·rw[ayM];rcases aAI d with h1|h1
  ·exact R.hb z h1
  ·subst h1;exact M
theorem Rl.drop(R:Rl r f h F H)(o:Nat):Rl r f (h.set o .dead) F H:=by
 have l:∀i z,Hp.ph (h.set o .dead) i=some z→h.ph i=some z:=λi z d=>by
  rw[Hp.jR,List.getElem?_set]at d;by_cases e:o=i
  ·rw[aF e]at d;split at d<;>cases d
  ·rw[aC e]at d;exact d
 refine⟨R.fr,λi z d=>R.hp i z (l i z d),λi j z w d u e=>R.inj i j z w (l i z d) (l j w u) e,λi v p=>?_,λz d=>?_⟩
 ·rw[ayM];exact R.fb i v p
 ·rw[ayM];rcases aAI d with h1|h1
  ·exact R.hb z h1
  ·subst h1;trivial
theorem Rl.move(R:Rl r f h F H){o:Nat}{x y:aR}(B:h.ph o=some x)(M:y.Bd h.length) :
  Rl (λi=>if i=h.length then r o else r i) f (h.set o .dead++[y]) F (H.set (r o) (y.ren r))∧fT h.length r (λi=>if i=h.length then r o else r i):=by
 have hlt:=(kO B).2;have A:fT h.length r (λi=>if i=h.length then r o else r i):=λi hi=>by
  show r i=if i=h.length then r o else r i
  rw[aC Om]
 have u:(h.set o .dead).length=Z' h:=ayM ..;have d:∀i z,i≠Z' h→Hp.ph (h.set o .dead++[y]) i=some z→i≠o∧h.ph i=some z:=λi z hi hz=>by
  rw[Hp.tW,u,aC hi,Hp.yA hlt]at hz;by_cases e:i=o
  ·rw[aF e]at hz;cases hz
  ·rw[aC e]at hz;exact⟨e,hz⟩
 have J:(h.set o .dead++[y]).length=Z' h+1:=by simp
 refine⟨⟨?_,λi z hz=>?_,λi j z w hz K e=>?_,λi v O=>?_,λz hz=>?_⟩,A⟩
 ·rw[R.fr];exact PF.mR A R.fb
 ·show(H.set (r o) (y.ren r)) (if i=h.length then r o else r i)=_;by_cases e:i=Z' h
  ·rw[aF e];rw[Hp.tW,u,aF e]at hz;have:=aR.xV hz;subst this;rw[←aR.mR A M];simp[PH.set,PH.upd,upd]
  ·rw[aC e];obtain⟨h1,l⟩:=d i z e hz;have E:=R.hp i z l;rw[aR.mR A (R.hb z (ayN (kO l).1))]at E;simp only[PH.set,PH.upd,upd];rw[aC (λN=>h1 (R.inj i o z x l B N))];exact E
 ·try simp only at e
  by_cases p:i=Z' h
  ·by_cases e2:j=Z' h
   ·omega
   ·rw[aF p,aC e2]at e;obtain⟨h1,l⟩:=d j w e2 K;exact absurd (R.inj o j x w B l e).symm h1
  ·by_cases e2:j=Z' h
   ·rw[aC p,aF e2]at e;obtain⟨h1,l⟩:=d i z p hz;exact absurd (R.inj i o z x l B e) h1
   ·rw[aC p,aC e2]at e;exact R.inj i j z w (d i z p hz).2 (d j w e2 K).2 e
 ·rw[J];exact PV.rJ (Nat.le_succ _) v (R.fb i v O)
 ·rw[J];rcases ayA.1 hz with hz|hz
  ·rcases aAI hz with h1|h1
   ·exact(R.hb z h1).mono (Nat.le_succ _)
   ·subst h1;trivial
  ·rw[ayX]at hz;subst hz;exact M.mono (Nat.le_succ _)
theorem Rl.put(R:Rl r f h F H){d:Option Nat}{v:PV}(l:f.fits d=true)(p:v.bound h.length=true):Rl r (f.put d v) h (F.put d (v.ren r)) H:=by
 refine⟨?_,R.hp,R.inj,λi w e=>?_,R.hb⟩
 ·rw[Fr.Zr l,PF.akC,R.fr]
 ·rw[Fr.Zr l]at e;cases d with
  |none=>exact R.fb i w e
  |some d=>
   simp only[PF.put,PF.set,upd]at e;split at e
   ·cases e;exact p
   ·exact R.fb i w e
end
end Go.PM
namespace Go.PM
open Go
def aR.bd(n:Nat):aR→Bool
 | .rows _ rs=>PV.gD n rs
 |_=>false
theorem aR.wD{n:Nat}{x:aR}(h:x.bd n=true):x.Bd n:=by
 cases x<;>first|exact h|cases h
def xp(n m bytes:Nat):Bool:=decide (n+m≤maxLen)&&decide ((n+m)*bytes≤140737488355328)
theorem VQ{n m bytes:Nat}(h:xp n m bytes=true):roomFor n m bytes:=by
 simp only[xp,awN,decide_eq_true_eq]at h;exact h
def uC(op:POp)(f:Fr)(h:Hp):Option (PV × Hp):=match op with
 | .awG sh=>some (.map h.length,h++[.map sh λ_=>none])
 |op=>match cA op f.pf with
  |some (d,x)=>if x.bd h.length then some (d h.length,h++[x])else none
  |none=>none
def fO(op:POp)(f:Fr)(h:Hp):Option (PV × Hp):=match op with
 | .store n p x=>match p.ev f.pf,x.ev f.pf with
  |some (.ptr o s i c),some v=>match h[o]? with
   |some (.rows s' rs)=>match rs[i]? with
    |some q=>if(decide (Z' v.cells=n)&&(decide (s'=s)&&(decide (c+Z' v.cells≤s)&&v.cells.all PV.one)))&&aR.bd h.length (.rows s' (rs.set i (setCells q c v.cells)))then
      some (.junk,h.set o (.rows s' (rs.set i (setCells q c v.cells))))else none
    |none=>none
   |_=>none
  |_,_=>none
 | .append size bytes x y=>match x.ev f.pf,y.ev f.pf with
  |some .aH,some b=>match dD h.ph size b with
   |some []=>some (.aH,h)
   |some (a::src)=>if xp 0 (a::src).length bytes&&aR.bd h.length (.rows size (a::src))then some (.osl h.length size 0 (a::src).length,h++[.rows size (a::src)])else none
   |none=>none
  |some (.osl o s 0 len),some b=>match dD h.ph size b,h[o]? with
   |some src,some (.rows s' rs)=>if(decide (s=size)&&(decide (s'=size)&&decide (len≤Z' rs)))&&(xp len src.length bytes&&aR.bd h.length (.rows size (rs.take len++src)))then
     some (.osl h.length size 0 (len+Z' src),h.set o .dead++[.rows size (rs.take len++src)])else none
   |_,_=>none
  |_,_=>none
 | .avS sh x k v=>match x.ev f.pf,k.ev f.pf,v.ev f.pf with
  |some (.map o),some u,some l=>match h[o]?,keyOf sh u with
   |some (.map e g),some d=>if decide (e=sh)&&l.bound 0 then some (.junk,h.set o (.map sh (g.upd d l)))else none
   |_,_=>none
  |_,_,_=>none
 | .insert sh x k v=>match x.ev f.pf,k.ev f.pf,v.ev f.pf with
  |some (.map o),some u,some l=>match h[o]?,keyOf sh u with
   |some (.map e g),some d=>if decide (e=sh)&&(l.bound 0&&(g d).isNone)then some (.junk,h.set o (.map sh (g.upd d l)))else none
   |_,_=>none
  |_,_,_=>none
 |_=>none
noncomputable def yC(op:POp)(f:Fr)(h:Hp):Option (PV × Hp):=
 if op.clo then
  if op.gG then uC op f h else if op.dL then fO op f h else
   match aL op f.pf h.ph with
   |some v=>if v.xM h.length then some (v,h)else none
   |none=>none
 else none
section
variable {r:Nat→Nat} {f:Fr} {h h':Hp} {F:PF} {H:PH} {K:PV→PH→Prop} {v:PV}
theorem Jz{F:PF}{op:POp}{u:Nat→PV}{x:aR}(d:op.clo=true)(e:cA op F=some (u,x))(E:∀sh,op≠.awG sh) :
  ∃mk',cA op (F.ren r)=some (mk',x.ren r)∧(∀(q:Nat→Nat) n,mk' (q n)=(u n).ren q)∧∀n,(u n).bound (n+1)=true:=by
 cases op<;>try (simp[cA]at e;done)
 case alloc cells =>simp only[cA,axZ.injEq,Prod.mk.injEq]at e ⊢;obtain⟨rfl,rfl⟩:=e;refine⟨_,⟨rfl,?_⟩,λq n=>rfl,λn=>by simp[PV.bound]⟩;simp only[aR.ren,axL,ayI,PV.mS d]
 case box ro y=>
  cases ro with
  |true=>simp[cA]at e
  |false=>
   simp only[cA]at e ⊢;split at e
   ·rename_i w i;rw[bT d i];simp only[tX,sQ,awL];split at e
    ·rename_i p;rw[aF p];cases e;exact⟨_,rfl,λq n=>rfl,λn=>by simp[PV.bound]⟩
    ·cases e
   ·cases e
 case avG ro size len zero parts=>
  cases ro with
  |true=>simp[cA]at e
  |false=>
   simp only[POp.clo,awN]at d;simp only[cA]at e ⊢;split at e
   ·rename_i A;rw[aF A];cases i:fS size (awO len zero) F parts with
    |none=>rw[i]at e;cases e
    |some w =>rw[i]at e;have p:=BC (r:=r) d.2 i;rw[List.map_replicate,PV.mS d.1]at p;rw[p];cases e;exact⟨_,rfl,λq n=>rfl,λn=>by simp[PV.bound]⟩
   ·cases e
 case avI size bytes zero l c=>
  simp only[POp.clo,awN]at d;simp only[cA]at e ⊢;split at e
  ·rename_i k n M m i p;rw[bT d.2.1 i,bT d.2.2 p];simp only[PV.ren];split at e
   ·rename_i B;rw[aF B];cases e;have J:aR.ren r (.rows size (awO n.toNat zero))=.rows size (awO n.toNat zero):=by simp only[aR.ren,List.map_replicate,PV.mS d.1]
    rw[J];exact⟨_,rfl,λq n=>rfl,λn=>by simp[PV.bound]⟩
   ·cases e
  ·cases e
 case awG sh=>exact absurd rfl (E sh)
theorem NC{op:POp}{d:Option Nat}{K:PF→PH→Prop}(R:Rl r f h F H)(O:op.clo=true)(e:uC op f h=some (v,h'))
  (E:∀r' H',fT h.length r r'→Rl r' f h' F H'→v.bound h'.length=true→K (F.put d (v.ren r')) H'):nL (cA op F) d K F H:=by
 by_cases y:∃sh,op=.awG sh
 ·obtain⟨sh,rfl⟩:=y;simp only[uC,axZ.injEq,Prod.mk.injEq]at e;obtain⟨rfl,rfl⟩:=e;refine⟨_,_,rfl,λo A=>?_⟩;obtain⟨l,w⟩:=R.push (x:=.map sh λ_=>none) (λk v S=>by cases S) A;have:=E _ _ w l (by simp[PV.bound]);simpa[PV.ren,aR.ren]using this
 ·have i:(match cA op f.pf with|some (J,x)=>if x.bd h.length then some (J h.length,h++[x])else none|none=>none)=some (v,h'):=by cases op<;>first|exact e|exact absurd ⟨_,rfl⟩ y
  cases u:cA op f.pf with
  |none=>rw[u]at i;cases i
  |some p=>
   obtain⟨J,x⟩:=p;rw[u]at i;simp only at i;split at i
   ·rename_i hb;cases i;obtain⟨mk',B,M,N⟩:=Jz (r:=r) O u (λsh Q=>y ⟨sh,Q⟩);rw[←R.fr]at B;refine⟨mk',x.ren r,B,λo A=>?_⟩;obtain⟨l,w⟩:=R.push (aR.wD hb) A;have:=E _ _ w l (by rw[awQ];exact N _);rw[←M]at this;simpa using this
   ·cases i
theorem qK{op:POp}(R:Rl r f h F H)(d:op.clo=true)(e:fO op f h=some (v,h'))
  (W:∀r' H',fT h.length r r'→Rl r' f h' F H'→v.bound h'.length=true→K (v.ren r') H'):bN op F H K:=by
 have B:=R.fr;cases op<;>try (simp[fO]at e;done)
 case store n p x=>
  simp only[POp.clo,awN]at d;simp only[fO]at e;split at e
  ·rename_i o s i c w N O;split at e
   ·rename_i s' rs J;split at e
    ·rename_i q Q;split at e
     ·rename_i h5;simp only[awN,decide_eq_true_eq]at h5;obtain⟨⟨S,rfl,h7,h8⟩,h9⟩:=h5;cases e;simp only[bN,B,bT d.1 N,bT d.2 O];have E:h.ph o=some (.rows s' rs):=by rw[Hp.jR,J];rfl
      refine⟨by rw[tX,awL];exact S,_,?_,W r _ (λ_ _=>rfl) (R.We E (aR.wD h9)) rfl⟩;simp only[PV.ren,storeAt,R.hp o _ E,aR.ren,tX,sQ,awL];rw[aF ⟨trivial,h7,h8⟩,axH,Q];simp only[axF,List.map_set,BT]
     ·cases e
    ·cases e
   ·cases e
  ·cases e
 case append size bytes x y=>
  simp only[POp.clo,awN]at d;simp only[fO]at e;split at e
  ·rename_i b N O;split at e
   ·rename_i J;cases e;simp only[bN,B,bT d.1 N,bT d.2 O];refine⟨[],vZ R.hp J,⟨by simp[maxLen],by simp⟩,λ_=>W r H (λ_ _=>rfl) R rfl,λhn=>absurd rfl hn⟩
   ·rename_i a src J;split at e
    ·rename_i h5;simp only[awN]at h5;cases e;simp only[bN,B,bT d.1 N,bT d.2 O];refine⟨_,vZ R.hp J,?_⟩;simp only[PV.ren];refine⟨by rw[awL];exact VQ h5.1,λhn=>by simp at hn,λ_ o E=>?_⟩;obtain⟨M,Y⟩:=R.push (aR.wD h5.2) E;have:=W _ _ Y M (by simp[PV.bound]);simpa[PV.ren,aR.ren]using this
    ·cases e
   ·cases e
  ·rename_i o s len b N O;split at e
   ·rename_i src s' rs J Q;split at e
    ·rename_i h5;simp only[awN,decide_eq_true_eq]at h5;obtain⟨⟨rfl,rfl,S⟩,h7,h8⟩:=h5;cases e;have E:h.ph o=some (.rows s' rs):=by rw[Hp.jR,Q];rfl
     simp only[bN,B,bT d.1 N,bT d.2 O];refine⟨_,vZ R.hp J,?_⟩;simp only[PV.ren];have Z:=R.hp o _ E;simp only[aR.ren]at Z;have V:(List.map (λx=>List.map (PV.ren r) x) rs).take len++List.map (λx=>List.map (PV.ren r) x) src=List.map (λx=>List.map (PV.ren r) x) (rs.take len++src):=by rw[axQ,azM]
     refine⟨trivial,trivial,by rw[awL];exact VQ h7,_,Z,by rw[awL];exact S,?_,λo' α=>?_⟩
     ·obtain⟨M,Y⟩:=R.move E (aR.wD h8);have:=W _ _ Y M (by simp[PV.bound]);rw[V,awL];simpa[PV.ren,aR.ren]using this
     ·obtain⟨M,Y⟩:=(R.drop o).push (x:=.rows s' (rs.take len++src)) (by rw[ayM];exact aR.wD h8) α;rw[ayM]at Y M;have:=W _ _ Y M (by simp[PV.bound]);rw[V,awL];simpa[PV.ren,aR.ren]using this
    ·cases e
   ·cases e
  ·cases e
 case avS sh x k w=>
  simp only[POp.clo,awN]at d;simp only[fO]at e;split at e
  ·rename_i o kv X N O J;split at e
   ·rename_i A g l Q h5;split at e
    ·rename_i S;simp only[awN,decide_eq_true_eq]at S;obtain⟨rfl,h7⟩:=S;cases e;have E:h.ph o=some (.map A g):=by rw[Hp.jR,Q];rfl
     have hb:aR.Bd h.length (.map A g):=R.hb _ (ayN Q);have M:=R.We (y:=.map A (g.upd l X)) E λj u U=>by
      simp only[gZ.upd]at U;split at U
      ·cases U;exact h7
      ·exact hb j u U
     have:=W r _ (λ_ _=>rfl) M rfl;simp only[bN,B,bT d.1 N,bT d.2.1 O,bT d.2.2 J,PV.ren,R.hp o _ E,aR.ren,xT h5];refine⟨trivial,?_⟩;have hg:(gZ.upd (λk=>Option.map (PV.ren r) (g k)) l (X.ren r))=λk=>Option.map (PV.ren r) (gZ.upd g l X k):=by funext j;simp only[gZ.upd];split<;>rfl
     rw[hg];simpa[PV.ren,aR.ren]using this
    ·cases e
   ·cases e
  ·cases e
 case insert sh x k w=>
  simp only[POp.clo,awN]at d;simp only[fO]at e;split at e
  ·rename_i o kv X N O J;split at e
   ·rename_i A g l Q h5;split at e
    ·rename_i S;simp only[awN,decide_eq_true_eq]at S;obtain⟨rfl,h7,h8⟩:=S;cases e;have E:h.ph o=some (.map A g):=by rw[Hp.jR,Q];rfl
     have hb:aR.Bd h.length (.map A g):=R.hb _ (ayN Q);have M:=R.We (y:=.map A (g.upd l X)) E λj u U=>by
      simp only[gZ.upd]at U;split at U
      ·cases U;exact h7
      ·exact hb j u U
     have:=W r _ (λ_ _=>rfl) M rfl;simp only[bN,B,bT d.1 N,bT d.2.1 O,bT d.2.2 J,PV.ren,R.hp o _ E,aR.ren,xT h5];refine⟨trivial,by rw[Option.isNone_iff_eq_none.1 h8];rfl,?_⟩;have hg:(gZ.upd (λk=>Option.map (PV.ren r) (g k)) l (X.ren r))=λk=>Option.map (PV.ren r) (gZ.upd g l X k):=by funext j;simp only[gZ.upd];split<;>rfl
     rw[hg];simpa[PV.ren,aR.ren]using this
    ·cases e
   ·cases e
  ·cases e
end
abbrev fD:=Nat→List PV→Hp→Option (PV × Hp)
abbrev GB:=List (aS × Bool)→Fr→Hp→Option (Fr × Hp)
noncomputable def TS(call:fD)(op:POp)(f:Fr)(h:Hp):Option (PV × Hp):=match op with
 | .call name args=>if args.all aO.clo then match aO.evs f.pf args with
  |some vs=>call name vs h
  |none=>none
  else none
 | .awC x args=>if x.clo&&args.all aO.clo then match x.ev f.pf,aO.evs f.pf args with
  |some (.fn name cs),some vs=>call name (vs++cs) h
  |_,_=>none
  else none
 |op=>yC op f h
noncomputable def vN(call:fD):List aS→Fr→Hp→Option (Fr × Hp)
 |[],f,h=>some (f,h)
 |i::rest,f,h=>if f.fits i.dst then match i.guard with
   |none=>match TS call i.op f h with
    |some (v,h')=>vN call rest (f.put i.dst v) h'
    |none=>none
   |some (t,d)=>match f.pf t with
    |some (.bool b)=>if b=d then match TS call i.op f h with
      |some (v,h')=>vN call rest (f.put i.dst v) h'
      |none=>none
     else vN call rest (f.put i.dst (.tup [])) h
    |some (.tup [])=>vN call rest (f.put i.dst (.tup [])) h
    |_=>none
  else none
noncomputable def oY(call:fD)(dr:GB):Nat→aD→Fr→Hp→Option (kZ × Fr × Hp)
 |0,_,_,_=>none
 |n+1,c,f,h=>match c with
  | .skip=>some (.normal,f,h)
  | .region ops=>match vN call ops f h with
   |some (f',h')=>some (.normal,f',h')
   |none=>none
  | .draw ops=>match dr ops f h with
   |some (f',h')=>some (.normal,f',h')
   |none=>none
  | .seq a b=>match oY call dr n a f h with
   |some (.normal,f',h')=>oY call dr n b f' h'
   |x=>x
  | .cond x a b=>if x.clo then match x.ev f.pf with
   |some (.bool t)=>if t then oY call dr n a f h else oY call dr n b f h
   |_=>none
   else none
  | .block id c=>match oY call dr n c f h with
   |some (.exit d,f',h')=>if d=id then some (.normal,f',h')else some (.exit d,f',h')
   |x=>x
  | .loop c=>match oY call dr n c f h with
   |some (.normal,f',h')=>oY call dr n (.loop c) f' h'
   |x=>x
  | .exit id=>some (.exit id,f,h)
  | .ret=>some (.ret,f,h)
def Comes(r:Nat→Nat)(n:Nat)(v:PV)(h':Hp)(d:PV)(H':PH):Prop:=
 ∃r',fT n r r'∧Rl r' .nil h' PF.nil H'∧d=v.ren r'∧v.bound h'.length=true∧n≤Z' h'
def Exact(r:Nat→Nat)(h:Hp)(H:PH):Prop:=∀o x,H o=some x→∃i y,h.ph i=some y∧r i=o
def nP(C:Ctx)(call:fD):Prop:=∀name vs h v h',call name vs h=some (v,h')→∀r H,Rl r .nil h PF.nil H→Exact r h H→PV.bounds h.length vs=true →
 aJ C name (vs.map (PV.ren r)) H (Comes r h.length v h')
def bf(C:Ctx)(call:fD):Prop:=∀name vs h v h',call name vs h=some (v,h')→∀r f F H d (K:PF→PH→Prop),Rl r f h F H→PV.bounds h.length vs=true →
 (∀r' H',fT h.length r r'→Z' h≤Z' h'→Rl r' f h' F H'→v.bound h'.length=true→K (F.put d (v.ren r')) H')→rE C name (some (vs.map (PV.ren r))) d K F H
def x4(C:Ctx)(dr:GB):Prop:=∀ops f h f' h',dr ops f h=some (f',h')→∀r F H,Rl r f h F H→∀K:PF→PH→Prop,
 (∀r' d H',fT h.length r r'→Z' h≤Z' h'→Rl r' f' h' d H'→K d H')→∃Hs S,PH.le Hs H∧wpD C Hs S ops K F H
theorem fT.trans{n m:Nat}{r r' d:Nat→Nat}(h:fT n r r')(e:fT m r' d)(l:n≤m):fT n r d:=
 λi hi=>(h i hi).trans (e i (Nat.lt_of_lt_of_le hi l))
section
variable {C:Ctx} {call:fD} {dr:GB} {r:Nat→Nat} {f f':Fr} {h h':Hp} {F:PF} {H:PH} {v:PV}
theorem Rl.heap(R:Rl r f h F H):Rl r .nil h PF.nil H:=⟨rfl,R.hp,R.inj,λi v d=>by simp[Fr.pf]at d,R.hb⟩
theorem OK{n:Nat}(hb:ll n f):∀{l:List aO}{vs:List PV},l.all aO.clo=true→aO.evs f.pf l=some vs→PV.bounds n vs=true
 |[],_,_,e=>by cases e;rfl
 |x::xs,vs,d,e=>by
  simp only[List.all_cons,awN]at d;simp only[aO.evs]at e;split at e
  ·rename_i v w i p;cases e;rw[PV.bounds,OK hb d.2 p,azC];cases x with
   |tmp t=>exact hb t v i
   |const u=>cases i;exact PV.rJ (axB _) _ d.1
  ·cases e
theorem MR{n:Nat}:∀{a b:List PV},PV.bounds n a=true→PV.bounds n b=true→PV.bounds n (a++b)=true
 |[],_,_,h=>h
 |x::a,b,d,e=>by simp only[PV.bounds,List.cons_append,awN]at d ⊢;exact⟨d.1,MR d.2 e⟩
theorem Hy{op:POp}{d:Option Nat}{K:PF→PH→Prop}(R:Rl r f h F H)(e:yC op f h=some (v,h'))
  (u:∀r' H',fT h.length r r'→Rl r' f h' F H'→v.bound h'.length=true→K (F.put d (v.ren r')) H') :
  if op.gG then nL (cA op F) d K F H else if op.dL then bN op F H (λr H'=>K (F.put d r) H')else bW (aL op F H) d K F H:=by
 unfold yC at e;split at e
 ·rename_i p;split at e
  ·rename_i i;rw[aF i];exact NC R p e u
  ·rename_i i;rw[aC i];split at e
   ·rename_i l;rw[aF l];exact qK R p e u
   ·rename_i l;rw[aC l];split at e
    ·rename_i w x;split at e
     ·rename_i hb;replace hb:=PV.uM hb;cases e;have:=QW R.hp p x;rw[←R.fr]at this;exact⟨_,this,u r H (λ_ _=>rfl) R hb⟩
     ·cases e
    ·cases e
 ·cases e
theorem LM{op:POp}(e:yC op f h=some (v,h')):Z' h≤Z' h':=by
 unfold yC at e;split at e
 ·split at e
  ·by_cases i:∃sh,op=.awG sh
   ·obtain⟨sh,rfl⟩:=i;simp only[uC,axZ.injEq,Prod.mk.injEq]at e;obtain⟨-,rfl⟩:=e;simp
   ·have d:(match cA op f.pf with|some (l,x)=>if x.bd h.length then some (l h.length,h++[x])else none|none=>none)=some (v,h'):=by cases op<;>first|exact e|exact absurd ⟨_,rfl⟩ i
    split at d
    ·split at d<;>cases d;simp
    ·cases d
  ·split at e
   ·cases op<;>try (simp[fO]at e;done)
    all_goals
     simp only[fO]at e
     (repeat' split at e)<;>cases e<;>simp
   ·split at e
    ·split at e<;>cases e;exact awP _
    ·cases e
 ·cases e
theorem K9(J:bf C call){op:POp}{d:Option Nat}{K:PF→PH→Prop}(R:Rl r f h F H)(e:TS call op f h=some (v,h'))
  (y:∀r' H',fT h.length r r'→Z' h≤Z' h'→Rl r' f h' F H'→v.bound h'.length=true→K (F.put d (v.ren r')) H'):wpOp C op d K F H:=by
 by_cases w:∃name args,op=.call name args
 ·obtain⟨name,args,rfl⟩:=w;simp only[TS]at e;split at e
  ·rename_i i;split at e
   ·rename_i vs p;have l:=AA (r:=r) i p;rw[←R.fr]at l;refine .inl ?_;rw[l];simp only[axF,ayO];exact J _ _ _ _ _ e _ _ _ _ _ _ R (OK R.fb i p) y
   ·cases e
  ·cases e
 by_cases p:∃x args,op=.awC x args
 ·obtain⟨x,args,rfl⟩:=p;simp only[TS]at e;split at e
  ·rename_i i;simp only[awN]at i;split at e
   ·rename_i name cs vs l B;have h5:=AA (r:=r) i.2 B;have E:=bT (r:=r) i.1 l;rw[←R.fr]at h5 E;show sA C (x.ev F) args d K F H;rw[E];simp only[PV.ren,PV.dW,sA];refine .inl ?_;rw[h5];simp only[axF,←axQ];refine J _ _ _ _ _ e _ _ _ _ _ _ R (MR (OK R.fb i.2 B) ?_) y;cases x with
    |tmp t=>exact R.fb t _ l
    |const u =>simp only[aO.ev,axZ.injEq]at l;subst l;have:=i.1;simp only[aO.clo,PV.bound]at this;exact PV.oL (axB _) _ this
   ·cases e
  ·cases e
 ·have A:yC op f h=some (v,h'):=by cases op<;>first|exact e|exact absurd ⟨_,_,rfl⟩ w|exact absurd ⟨_,_,rfl⟩ p
  have O:=LM A;have:=Hy (d:=d) (K:=K) R A λr' H' N M hb=>y r' H' N O M hb;cases op<;>first|exact this|exact absurd ⟨_,_,rfl⟩ w|exact absurd ⟨_,_,rfl⟩ p
theorem BU(E:bf C call):∀(ops:List aS){r:Nat→Nat}{f f':Fr}{h h':Hp}{F:PF}{H:PH}{K:PF→PH→Prop},vN call ops f h=some (f',h')→Rl r f h F H →
  (∀r' Q H',fT h.length r r'→Z' h≤Z' h'→Rl r' f' h' Q H'→K Q H')→wpOps C ops K F H
 |[],r,f,f',h,h',F,H,K,e,R,x=>by cases e;exact x r F H (λ_ _=>rfl) (awP _) R
 |i::rest,r,f,f',h,h',F,H,K,e,R,x=>by
  simp only[vN]at e;split at e
  ·rename_i S;have l:∀{e2:(match TS call i.op f h with|some (v,h')=>vN call rest (f.put i.dst v) h'|none=>none)=some (f',h')},wpOp C i.op i.dst (wpOps C rest K) F H:=by
    intro e2;split at e2
    ·rename_i v Z X;refine K9 E R X λr' H' Y U W hb=>?_;exact BU E rest e2 (W.put S hb) λO y A J N B=>x O y A (Y.trans J U) (axT U N) B
    ·cases e2
   have d:∀{e2:vN call rest (f.put i.dst (.tup [])) h=some (f',h')},wpOps C rest K (F.put i.dst (.tup [])) H:=by intro e2;exact BU E rest e2 (R.put (v:=.tup []) S rfl) x
   have p:∀t w,f.pf t=some w→F t=some (w.ren r):=λt w u=>by rw[R.fr];simp only[PF.ren,u,axF]
   simp only[wpOps];split at e
   ·rename_i M;rw[M];exact l (e2:=e)
   ·rename_i t V M;rw[M];simp only;split at e
    ·rename_i b hb;rw[p t _ hb];simp only[PV.ren];split at e
     ·rename_i u;rw[aF u];exact l (e2:=e)
     ·rename_i u;rw[aC u];exact d (e2:=e)
    ·rename_i hb;rw[p t _ hb];exact d (e2:=e)
    ·cases e
  ·cases e
theorem V1(hC:bf C call)(hD:x4 C dr):∀(n:Nat)(c:aD){r:Nat→Nat}{f f':Fr}{h h':Hp}{F:PF}{H:PH}{x:kZ}{K:cJ},oY call dr n c f h=some (x,f',h')→Rl r f h F H →
  (∀r' d H',fT h.length r r'→Z' h≤Z' h'→Rl r' f' h' d H'→K x d H')→c.wp C K F H:=by
 intro n
 induction n using Nat.strongRecOn with
 |_ n ih=>
 intro c r f f' h h' F H x K e R i;cases n with
 |zero=>cases e
 |succ n=>
 have J:=ih n (Nat.lt_succ_self n);cases c with
 |skip=>cases e;exact i r F H (λ_ _=>rfl) (awP _) R
 |exit id=>cases e;exact i r F H (λ_ _=>rfl) (awP _) R
 |ret=>cases e;exact i r F H (λ_ _=>rfl) (awP _) R
 |region ops=>
  simp only[oY]at e;split at e
  ·rename_i f1 w u;cases e;exact BU hC ops u R i
  ·cases e
 |draw ops=>
  simp only[oY]at e;split at e
  ·rename_i f1 w u;cases e;exact hD ops f h _ _ u r F H R _ i
  ·cases e
 |cond c a b=>
  simp only[oY]at e;split at e
  ·rename_i hc;split at e
   ·rename_i t w;have M:=bT (r:=r) hc w;rw[←R.fr]at M;simp only[aD.wp,M,PV.ren];cases t with
    |true=>exact J a e R i
    |false=>exact J b e R i
   ·cases e
  ·cases e
 |seq a b=>
  simp only[oY]at e;cases w:oY call dr n a f h with
  |none=>rw[w]at e;cases e
  |some p=>
   obtain⟨y,f1,g1⟩:=p;rw[w]at e;refine J a w R λr' d H' E A B=>?_;cases y with
   |normal=>exact J b e B λY Q S V X U=>i Y Q S (E.trans V A) (axT A X) U
   |exit id=>cases e;exact i r' d H' E A B
   |ret=>cases e;exact i r' d H' E A B
 |block id c=>
  simp only[oY]at e;cases w:oY call dr n c f h with
  |none=>rw[w]at e;cases e
  |some p=>
   obtain⟨y,f1,g1⟩:=p;rw[w]at e;refine J c w R λr' d H' E A B=>?_;cases y with
   |normal=>cases e;exact i r' d H' E A B
   |exit β=>
    simp only at e;simp only[gU];split at e
    ·rename_i M;rw[aF M];cases e;exact i r' d H' E A B
    ·rename_i M;rw[aC M];cases e;exact i r' d H' E A B
   |ret=>cases e;exact i r' d H' E A B
 |loop c=>
  let α:=Nat × Fr × Hp × (Nat→Nat) × PF × PH
  refine⟨α,λa=>a.2.2.2.2.1,λa=>a.2.2.2.2.2,λa=>a.1≤n+1∧oY call dr a.1 (.loop c) a.2.1 a.2.2.1=some (x,f',h')∧Rl a.2.2.2.1 a.2.1 a.2.2.1 a.2.2.2.2.1 a.2.2.2.2.2∧fT h.length r a.2.2.2.1∧Z' h≤a.2.2.1.length,
   λa=>a.1,(n+1,f,h,r,F,H),F,H,.refl F H,⟨awP _,e,R,λ_ _=>rfl,awP _⟩,λ_ _ O=>O,λ_ _ O=>O,?_⟩
  rintro⟨k,f1,w,r1,F1,H1⟩ ⟨W,u,Z,N,l⟩;simp only at W u Z N l ⊢;cases k with
  |zero=>cases u
  |succ k=>
   simp only[oY]at u;cases M:oY call dr k c f1 w with
   |none=>rw[M]at u;cases u
   |some p=>
    obtain⟨y,f2,g2⟩:=p;rw[M]at u;refine ih k Om c M Z λr' d H' E A B=>?_;cases y with
    |normal=>exact⟨(k,f2,g2,r',d,H'),d,H',.refl d H',⟨by omega,u,B,N.trans E l,axT l A⟩,Nat.lt_succ_self k,λ_ _ O=>O,λ_ _ O=>O⟩
    |exit id=>cases u;exact i r' d H' (N.trans E l) (axT l A) B
    |ret=>cases u;exact i r' d H' (N.trans E l) (axT l A) B
end
mutual
def PV.on(L:Nat→Bool):PV→Bool
 | .osl o _ _ _=>L o
 | .ptr o _ _ _=>L o
 | .map o=>L o
 | .sl _ rows=>PV.qE L rows
 | .cT cs=>PV.ons L cs
 | .fn _ cs=>PV.ons L cs
 | .agg cs=>PV.ons L cs
 | .tup cs=>PV.ons L cs
 | .int _ _=>true
 | .bool _=>true
 | .str _=>true
 | .aH=>true
 | .lit _=>true
 | .junk=>true
def PV.ons(L:Nat→Bool):List PV→Bool
 |[]=>true
 |v::vs=>PV.on L v&&PV.ons L vs
def PV.qE(L:Nat→Bool):List (List PV)→Bool
 |[]=>true
 |v::vs=>PV.ons L v&&PV.qE L vs
end
mutual
theorem PV.Hg{L:Nat→Bool}{r s t:Nat→Nat}(h:∀i,L i=true→r (t i)=s i):∀v:PV,v.on L=true→(v.ren t).ren r=v.ren s
 | .osl o _ _ _,hb=>by simp only[PV.on]at hb;simp only[PV.ren,h o hb]
 | .ptr o _ _ _,hb=>by simp only[PV.on]at hb;simp only[PV.ren,h o hb]
 | .map o,hb=>by simp only[PV.on]at hb;simp only[PV.ren,h o hb]
 | .sl _ rows,hb=>by simp only[PV.on]at hb;simp only[PV.ren,PV.LF h rows hb]
 | .cT cs,hb=>by simp only[PV.on]at hb;simp only[PV.ren,PV.tZ h cs hb]
 | .fn _ cs,hb=>by simp only[PV.on]at hb;simp only[PV.ren,PV.tZ h cs hb]
 | .agg cs,hb=>by simp only[PV.on]at hb;simp only[PV.ren,PV.tZ h cs hb]
 | .tup cs,hb=>by simp only[PV.on]at hb;simp only[PV.ren,PV.tZ h cs hb]
 | .int _ _,_=>rfl
 | .bool _,_=>rfl
 | .str _,_=>rfl
 | .aH,_=>rfl
 | .lit _,_=>rfl
 | .junk,_=>rfl
theorem PV.tZ{L:Nat→Bool}{r s t:Nat→Nat}(h:∀i,L i=true→r (t i)=s i):∀l:List PV,PV.ons L l=true→PV.jH r (PV.jH t l)=PV.jH s l
 |[],_=>rfl
 |v::vs,hb=>by simp only[PV.ons,awN]at hb;simp only[PV.jH,PV.Hg h v hb.1,PV.tZ h vs hb.2]
theorem PV.LF{L:Nat→Bool}{r s t:Nat→Nat}(h:∀i,L i=true→r (t i)=s i):∀l:List (List PV),PV.qE L l=true→PV.nK r (PV.nK t l)=PV.nK s l
 |[],_=>rfl
 |v::vs,hb=>by simp only[PV.qE,awN]at hb;simp only[PV.nK,PV.tZ h v hb.1,PV.LF h vs hb.2]
end
mutual
theorem PV.ZQ{L:Nat→Bool}{t:Nat→Nat}{m:Nat}(h:∀i,L i=true→t i<m):∀v:PV,v.on L=true→(v.ren t).bound m=true
 | .osl o _ _ _,hb=>by simp only[PV.on]at hb;simp only[PV.ren,PV.bound,h o hb,decide_true]
 | .ptr o _ _ _,hb=>by simp only[PV.on]at hb;simp only[PV.ren,PV.bound,h o hb,decide_true]
 | .map o,hb=>by simp only[PV.on]at hb;simp only[PV.ren,PV.bound,h o hb,decide_true]
 | .sl _ rows,hb=>by simp only[PV.on]at hb;simp only[PV.ren,PV.bound,PV.KW h rows hb]
 | .cT cs,hb=>by simp only[PV.on]at hb;simp only[PV.ren,PV.bound,PV.qZ h cs hb]
 | .fn _ cs,hb=>by simp only[PV.on]at hb;simp only[PV.ren,PV.bound,PV.qZ h cs hb]
 | .agg cs,hb=>by simp only[PV.on]at hb;simp only[PV.ren,PV.bound,PV.qZ h cs hb]
 | .tup cs,hb=>by simp only[PV.on]at hb;simp only[PV.ren,PV.bound,PV.qZ h cs hb]
 | .int _ _,_=>rfl
 | .bool _,_=>rfl
 | .str _,_=>rfl
 | .aH,_=>rfl
 | .lit _,_=>rfl
 | .junk,_=>rfl
theorem PV.qZ{L:Nat→Bool}{t:Nat→Nat}{m:Nat}(h:∀i,L i=true→t i<m):∀l:List PV,PV.ons L l=true→PV.bounds m (PV.jH t l)=true
 |[],_=>rfl
 |v::vs,hb=>by simp only[PV.ons,awN]at hb;simp only[PV.jH,PV.bounds,PV.ZQ h v hb.1,PV.qZ h vs hb.2,azC]
theorem PV.KW{L:Nat→Bool}{t:Nat→Nat}{m:Nat}(h:∀i,L i=true→t i<m):∀l:List (List PV),PV.qE L l=true→PV.gD m (PV.nK t l)=true
 |[],_=>rfl
 |v::vs,hb=>by simp only[PV.qE,awN]at hb;simp only[PV.nK,PV.gD,PV.qZ h v hb.1,PV.KW h vs hb.2,azC]
end
mutual
theorem PV.Zi{L L':Nat→Bool}(h:∀i,L i=true→L' i=true):∀v:PV,v.on L=true→v.on L'=true
 | .osl o _ _ _,hb=>h o hb
 | .ptr o _ _ _,hb=>h o hb
 | .map o,hb=>h o hb
 | .sl _ rows,hb=>by simp only[PV.on]at hb ⊢;exact PV.Gz h rows hb
 | .cT cs,hb=>by simp only[PV.on]at hb ⊢;exact PV.AN h cs hb
 | .fn _ cs,hb=>by simp only[PV.on]at hb ⊢;exact PV.AN h cs hb
 | .agg cs,hb=>by simp only[PV.on]at hb ⊢;exact PV.AN h cs hb
 | .tup cs,hb=>by simp only[PV.on]at hb ⊢;exact PV.AN h cs hb
 | .int _ _,_=>rfl
 | .bool _,_=>rfl
 | .str _,_=>rfl
 | .aH,_=>rfl
 | .lit _,_=>rfl
 | .junk,_=>rfl
theorem PV.AN{L L':Nat→Bool}(h:∀i,L i=true→L' i=true):∀l:List PV,PV.ons L l=true→PV.ons L' l=true
 |[],_=>rfl
 |v::vs,hb=>by simp only[PV.ons,awN]at hb ⊢;exact⟨PV.Zi h v hb.1,PV.AN h vs hb.2⟩
theorem PV.Gz{L L':Nat→Bool}(h:∀i,L i=true→L' i=true):∀l:List (List PV),PV.qE L l=true→PV.qE L' l=true
 |[],_=>rfl
 |v::vs,hb=>by simp only[PV.qE,awN]at hb ⊢;exact⟨PV.AN h v hb.1,PV.Gz h vs hb.2⟩
end
mutual
theorem PV.HK{n:Nat}:∀v:PV,v.on (λi=>decide (i<n))=v.bound n
 | .osl o _ _ _=>rfl
 | .ptr o _ _ _=>rfl
 | .map o=>rfl
 | .sl _ rows=>by simp only[PV.on,PV.bound,PV.HL rows]
 | .cT cs=>by simp only[PV.on,PV.bound,PV.tN cs]
 | .fn _ cs=>by simp only[PV.on,PV.bound,PV.tN cs]
 | .agg cs=>by simp only[PV.on,PV.bound,PV.tN cs]
 | .tup cs=>by simp only[PV.on,PV.bound,PV.tN cs]
 | .int _ _=>rfl
 | .bool _=>rfl
 | .str _=>rfl
 | .aH=>rfl
 | .lit _=>rfl
 | .junk=>rfl
theorem PV.tN{n:Nat}:∀l:List PV,PV.ons (λi=>decide (i<n)) l=PV.bounds n l
 |[]=>rfl
 |v::vs=>by simp only[PV.ons,PV.bounds,PV.HK v,PV.tN vs]
theorem PV.HL{n:Nat}:∀l:List (List PV),PV.qE (λi=>decide (i<n)) l=PV.gD n l
 |[]=>rfl
 |v::vs=>by simp only[PV.qE,PV.gD,PV.tN v,PV.HL vs]
end
theorem PV.ajU{L L':Nat→Bool}(h:∀i,L i=true→L' i=true)(v:PV)(d:v.on L=true):v.on L'=true:=by
 have:=PV.Zi (L:=L) (L':=L') h v;exact this d
def PV.nr(r:Nat→Nat)(v:PV):PV:=cond (v.bound 0) v (v.ren r)
theorem PV.LD(r:Nat→Nat)(v:PV):v.nr r=v.ren r:=by
 unfold PV.nr;cases e:v.bound 0 with
 |true=>exact(PV.mN e r).symm
 |false=>rfl
def PV.onC(L:Nat→Bool)(v:PV):Bool:=cond (v.bound 0) true (v.on L)
theorem PV.Gw{L:Nat→Bool}{v:PV}(h:v.onC L=true):v.on L=true:=by
 unfold PV.onC at h;cases e:v.bound 0 with
 |true =>rw[←PV.HK]at e;exact PV.ajU (λi hi=>by simp at hi) v e
 |false=>rw[e]at h;exact h
mutual
def PV.ids:PV→List Nat→List Nat
 | .osl o _ _ _,l=>o::l
 | .ptr o _ _ _,l=>o::l
 | .map o,l=>o::l
 | .sl _ rows,l=>PV.agT rows l
 | .cT cs,l=>PV.l6 cs l
 | .fn _ cs,l=>PV.l6 cs l
 | .agg cs,l=>PV.l6 cs l
 | .tup cs,l=>PV.l6 cs l
 | .int _ _,l=>l
 | .bool _,l=>l
 | .str _,l=>l
 | .aH,l=>l
 | .lit _,l=>l
 | .junk,l=>l
def PV.l6:List PV→List Nat→List Nat
 |[],l=>l
 |v::vs,l=>PV.ids v (PV.l6 vs l)
def PV.agT:List (List PV)→List Nat→List Nat
 |[],l=>l
 |v::vs,l=>PV.l6 v (PV.agT vs l)
end
def PV.adG(v:PV)(l:List Nat):List Nat:=cond (v.bound 0) l (v.ids l)
def rQ:List PV→List Nat→List Nat
 |[],l=>l
 |v::vs,l=>PV.adG v (rQ vs l)
def Dg:List (List PV)→List Nat→List Nat
 |[],l=>l
 |v::vs,l=>rQ v (Dg vs l)
def QS(L:Nat→Bool):List PV→Bool
 |[]=>true
 |v::vs=>v.onC L&&QS L vs
def TK(L:Nat→Bool):List (List PV)→Bool
 |[]=>true
 |v::vs=>QS L v&&TK L vs
theorem KT{L:Nat→Bool}:∀{l:List PV},QS L l=true→PV.ons L l=true
 |[],_=>rfl
 |v::vs,h=>by simp only[QS,PV.ons,awN]at h ⊢;exact⟨PV.Gw h.1,KT h.2⟩
theorem vI{L:Nat→Bool}:∀{l:List (List PV)},TK L l=true→PV.qE L l=true
 |[],_=>rfl
 |v::vs,h=>by simp only[TK,PV.qE,awN]at h ⊢;exact⟨KT h.1,vI h.2⟩
theorem PV.amD{L:Nat→Bool}{v:PV}(h:v.on L=true):v.onC L=true:=by
 unfold PV.onC;rw[h];cases v.bound 0<;>rfl
theorem Gx{L:Nat→Bool}:∀{l:List PV},PV.ons L l=true→QS L l=true
 |[],_=>rfl
 |v::vs,h=>by simp only[QS,PV.ons,awN]at h ⊢;exact⟨PV.amD h.1,Gx h.2⟩
theorem ja{L:Nat→Bool}:∀{l:List (List PV)},PV.qE L l=true→TK L l=true
 |[],_=>rfl
 |v::vs,h=>by simp only[TK,PV.qE,awN]at h ⊢;exact⟨Gx h.1,ja h.2⟩
def TP(r:Nat→Nat):List PV→List PV
 |[]=>[]
 |v::vs=>v.nr r::TP r vs
def QY(r:Nat→Nat):List (List PV)→List (List PV)
 |[]=>[]
 |v::vs=>TP r v::QY r vs
theorem zM(r:Nat→Nat):∀l,TP r l=PV.jH r l
 |[]=>rfl
 |v::vs=>by rw[TP,PV.jH,PV.LD,zM r vs]
theorem vM(r:Nat→Nat):∀l,QY r l=PV.nK r l
 |[]=>rfl
 |v::vs=>by rw[QY,PV.nK,zM,vM r vs]
mutual
def PV.beq:PV→PV→Bool
 | .osl a b c d,y=>match y with | .osl i l p u=>ayG a i&&(ayG b l&&(ayG c p&&ayG d u))|_=>false
 | .ptr a b c d,y=>match y with | .ptr i l p u=>ayG a i&&(ayG b l&&(ayG c p&&ayG d u))|_=>false
 | .map a,y=>match y with | .map i=>ayG a i|_=>false
 | .sl s rows,y=>match y with | .sl s' rows'=>ayG s s'&&PV.SI rows rows'|_=>false
 | .cT cs,y=>match y with | .cT e=>PV.DP cs e|_=>false
 | .fn n cs,y=>match y with | .fn w e=>ayG n w&&PV.DP cs e|_=>false
 | .agg cs,y=>match y with | .agg e=>PV.DP cs e|_=>false
 | .tup cs,y=>match y with | .tup e=>PV.DP cs e|_=>false
 | .int k n,y=>match y with | .int x w=>decide (k=x)&&decide (n=w)|_=>false
 | .bool b,y=>match y with | .bool l=>decide (b=l)|_=>false
 | .str s,y=>match y with | .str s'=>decide (s=s')|_=>false
 | .aH,y=>match y with | .aH=>true|_=>false
 | .lit _,_=>false
 | .junk,y=>match y with | .junk=>true|_=>false
def PV.DP:List PV→List PV→Bool
 |[],y=>match y with|[]=>true|_=>false
 |v::vs,y=>match y with|w::d=>PV.beq v w&&PV.DP vs d|_=>false
def PV.SI:List (List PV)→List (List PV)→Bool
 |[],y=>match y with|[]=>true|_=>false
 |v::vs,y=>match y with|w::d=>PV.DP v w&&PV.SI vs d|_=>false
end
mutual
theorem PV.beq_eq:∀v w:PV,PV.beq v w=true→v=w
 | .osl _ _ _ _,w,h=>by cases w<;>simp_all [PV.beq]
 | .ptr _ _ _ _,w,h=>by cases w<;>simp_all [PV.beq]
 | .map _,w,h=>by cases w<;>simp_all [PV.beq]
 | .sl s rows,w,h=>by cases w<;>simp only[PV.beq,awN,ayQ]at h;rw[PV.WP _ _ h.2,Nat.eq_of_beq_eq_true h.1]
 | .cT cs,w,h=>by cases w<;>simp only[PV.beq,ayQ]at h;rw[PV.wE _ _ h]
 | .fn _ cs,w,h=>by cases w<;>simp only[PV.beq,awN,ayQ]at h;rw[PV.wE _ _ h.2,Nat.eq_of_beq_eq_true h.1]
 | .agg cs,w,h=>by cases w<;>simp only[PV.beq,ayQ]at h;rw[PV.wE _ _ h]
 | .tup cs,w,h=>by cases w<;>simp only[PV.beq,ayQ]at h;rw[PV.wE _ _ h]
 | .int _ _,w,h=>by cases w<;>simp_all [PV.beq]
 | .bool _,w,h=>by cases w<;>simp_all [PV.beq]
 | .str _,w,h=>by cases w<;>simp_all [PV.beq]
 | .aH,w,h=>by cases w<;>simp_all [PV.beq]
 | .lit _,_,h=>by simp[PV.beq]at h
 | .junk,w,h=>by cases w<;>simp_all [PV.beq]
theorem PV.wE:∀v w:List PV,PV.DP v w=true→v=w
 |[],w,h=>by cases w<;>simp_all [PV.DP]
 |v::vs,w,h=>by cases w<;>simp only[PV.DP,awN,ayQ]at h;rw[PV.beq_eq _ _ h.1,PV.wE _ _ h.2]
theorem PV.WP:∀v w:List (List PV),PV.SI v w=true→v=w
 |[],w,h=>by cases w<;>simp_all [PV.SI]
 |v::vs,w,h=>by cases w<;>simp only[PV.SI,awN,ayQ]at h;rw[PV.wE _ _ h.1,PV.WP _ _ h.2]
end
def posOf:List Nat→Nat→Nat
 |[],_=>0
 |x::xs,i=>if ayG x i then 0 else posOf xs i+1
def inL:List Nat→Nat→Bool
 |[],_=>false
 |x::xs,i=>ayG x i||inL xs i
def QB:List Nat→Bool
 |[]=>true
 |x::xs=>!inL xs x&&QB xs
def atN:List Nat→Nat→Nat
 |[],_=>0
 |x::_,0=>x
 |_::xs,k+1=>atN xs k
theorem wM:∀{l:List Nat}{i:Nat},inL l i=true→i∈l
 |x::xs,i,h=>by
  simp only[inL,Bool.or_eq_true]at h;rcases h with h|h
  ·rw[Nat.eq_of_beq_eq_true h];exact List.mem_cons_self ..
  ·exact List.mem_cons_of_mem _ (wM h)
theorem rT:∀{l:List Nat}{i:Nat},i∈l→inL l i=true
 |x::xs,i,h=>by
  simp only[inL,Bool.or_eq_true];rcases awT.1 h with h|h
  ·left;rw[h];simp
  ·right;exact rT h
theorem pN:∀{l:List Nat}{i:Nat},inL l i=true→atN l (posOf l i)=i∧posOf l i<Z' l
 |x::xs,i,h=>by
  simp only[inL,Bool.or_eq_true]at h;simp only[posOf];by_cases e:ayG x i=true
  ·rw[aF e];exact⟨Nat.eq_of_beq_eq_true e,Nat.zero_lt_succ _⟩
  ·rw[aC e];have:=pN (h.resolve_left e);exact⟨this.1,Nat.succ_lt_succ this.2⟩
theorem qO:∀{l:List Nat}{k:Nat},k<Z' l→inL l (atN l k)=true
 |x::xs,0,_=>by simp[inL,atN]
 |x::xs,k+1,h=>by simp only[inL,atN,Bool.or_eq_true];exact .inr (qO (Nat.lt_of_succ_lt_succ h))
theorem yB:∀{l:List Nat}{k:Nat},QB l=true→k<Z' l→posOf l (atN l k)=k
 |x::xs,0,_,_=>by simp[posOf,atN]
 |x::xs,k+1,d,h=>by simp only[QB,awN,Bool.not_eq_true']at d;show(if ayG x (atN xs k)=true then 0 else posOf xs (atN xs k)+1)=k+1;have i:=qO (Nat.lt_of_succ_lt_succ h);rw[aC (λe=>by rw[Nat.eq_of_beq_eq_true e,i]at d;cases d.1),yB d.2 (Nat.lt_of_succ_lt_succ h)]
theorem tC{β:Type}(g:Nat→β):∀(l:List Nat)(k:Nat),(l.map g)[k]?=if k<l.length then some (g (atN l k))else none
 |[],k=>by simp
 |x::xs,0=>by simp[atN]
 |x::xs,k+1=>by rw[axL,List.getElem?_cons_succ,tC g xs k];simp only[atN,ayF,Nat.succ_lt_succ_iff,Nat.add_lt_add_iff_right]
def aR.on(L:Nat→Bool):aR→Bool
 | .rows _ rs=>TK L rs
 |_=>true
def aR.rn(r:Nat→Nat):aR→aR
 | .rows s rs=>.rows s (QY r rs)
 |x=>x
theorem MU{n:Nat}{sh:MSh}{g:gZ}(h:aR.Bd n (.map sh g))(r:Nat→Nat):(λk=>(g k).map (PV.ren r))=g:=by
 funext k;cases e:g k with
 |none=>rfl
 |some v=>rw[axF,PV.mN (h k v e)]
theorem aR.Zw{L:Nat→Bool}{n:Nat}{r s t:Nat→Nat}(h:∀i,L i=true→r (t i)=s i){x:aR}(hb:x.Bd n)(d:x.on L=true):(x.rn t).ren r=x.ren s:=by
 cases x with
 |rows sz rs=>simp only[aR.rn,aR.ren,←PV.jK,vM];rw[PV.LF h rs (vI d)]
 |map sh g=>simp only[aR.rn,aR.ren,MU hb]
 |loop=>rfl
 |dead=>rfl
theorem aR.amI{L:Nat→Bool}{n:Nat}{r s t:Nat→Nat}(h:∀i,L i=true→r (t i)=s i){x:aR}(hb:x.Bd n)(d:x.on L=true):(x.ren t).ren r=x.rn s:=by
 cases x with
 |rows sz rs=>simp only[aR.rn,aR.ren,←PV.jK,vM];rw[PV.LF h rs (vI d)]
 |map sh g=>simp only[aR.rn,aR.ren,MU hb]
 |loop=>rfl
 |dead=>rfl
theorem aR.ahB{L:Nat→Bool}{n m:Nat}{t:Nat→Nat}(h:∀i,L i=true→t i<m){x:aR}(hb:x.Bd n)(d:x.on L=true):(x.rn t).Bd m:=by
 cases x with
 |rows sz rs =>show PV.gD m (QY t rs)=true;rw[vM];exact PV.KW h rs (vI d)
 |map sh g=>exact hb
 |loop=>trivial
 |dead=>trivial
theorem aR.nw{t:Nat→Nat}{x y:aR}(h:(x.rn t).live=some y):x.live=some x∧y=x.rn t:=by
 cases x<;>first|(cases h;done)|(cases h;exact⟨rfl,rfl⟩)
def gtH(h:Hp)(i:Nat):aR:=match h[i]? with
 |some x=>x
 |none=>.dead
theorem XL{h:Hp}{i:Nat}{x:aR}(e:(gtH h i).live=some x):h.ph i=some x∧gtH h i=x:=by
 have e2:=aR.xV e;refine⟨?_,e2⟩;unfold gtH at e;rw[Hp.jR];split at e
 ·rename_i y d;rw[d];exact e
 ·cases e
theorem amE{h:Hp}{i:Nat}{x:aR}(e:h.ph i=some x):gtH h i=x∧x.live=some x:=by
 have d:=kO e;rw[Hp.jR,d.1]at e;refine⟨?_,e⟩;unfold gtH;rw[d.1]
def oQ(h:Hp)(t:Nat→Nat)(M:List Nat):Hp:=M.map λi=>(gtH h i).rn t
def zK(M:List Nat)(h:Hp):Bool:=QB M&&M.all λi=>(gtH h i).on (inL M)
theorem ZP{M:List Nat}{h:Hp}(ok:zK M h=true){i:Nat}(hi:inL M i=true):(gtH h i).on (inL M)=true:=by
 simp only[zK,awN,axK]at ok;exact ok.2 i (wM hi)
theorem KZ{h:Hp}{t:Nat→Nat}{M:List Nat}{k:Nat}{x:aR}(e:Hp.ph (oQ h t M) k=some x):k<Z' M∧(gtH h (atN M k)).live=some (gtH h (atN M k))∧x=(gtH h (atN M k)).rn t:=by
 rw[Hp.jR,oQ,tC]at e;split at e
 ·rename_i d;exact⟨d,aR.nw e⟩
 ·cases e
section
variable {r:Nat→Nat} {f:Fr} {h:Hp} {F:PF} {H:PH}
theorem xQ(R:Rl r f h F H)(i:Nat):(gtH h i).Bd h.length:=by
 unfold gtH;split
 ·rename_i x e;exact R.hb x (ayN e)
 ·trivial
theorem Rl.cut(R:Rl r f h F H){M:List Nat}(ok:zK M h=true):Rl (λk=>r (atN M k)) .nil (oQ h (posOf M) M) PF.nil H:=by
 have d:(oQ h (posOf M) M).length=Z' M:=by simp[oQ]
 refine⟨rfl,λk x p=>?_,λk l x y p K e=>?_,λi v J=>by simp[Fr.pf]at J,λx p=>?_⟩
 ·obtain⟨A,u,rfl⟩:=KZ p;have w:=XL u;rw[aR.Zw (L:=inL M) (λi hi=>by rw[(pN hi).1]) (xQ R _) (ZP ok (qO A))];exact R.hp _ _ w.1
 ·obtain⟨A,u,-⟩:=KZ p;obtain⟨E,w,-⟩:=KZ K;have B:=R.inj _ _ _ _ (XL u).1 (XL w).1 e;simp only[zK,awN]at ok;rw[←yB ok.1 A,B,yB ok.1 E]
 ·rw[d];obtain⟨i,hi,rfl⟩:=axG.1 p;exact aR.ahB (L:=inL M) (λi hi=>(pN hi).2) (xQ R _) (ZP ok (rT hi))
theorem tG(H:PH)(D:List Nat)(o:Nat):(H.only D) o=if o∈D then H o else none:=rfl
theorem Rl.only(R:Rl r f h F H){D:List Nat}(e:∀i x,h.ph i=some x→r i∈D):Rl r f h F (H.only D):=by
 refine⟨R.fr,λi x d=>?_,R.inj,R.fb,R.hb⟩;rw[tG,aF (e i x d)];exact R.hp i x d
end
def reach(h:Hp):Nat→List Nat→List Nat→List Nat
 |0,_,seen=>seen
 |_+1,[],seen=>seen
 |n+1,i::d,seen=>if inL seen i then reach h n d seen else match gtH h i with
  | .rows _ rs=>reach h n (Dg rs d) (i::seen)
  | .map _ _=>reach h n d (i::seen)
  |_=>reach h n d seen
def vT:Nat→List Nat→List Nat
 |0,l=>l
 |n+1,l=>vT n (n::l)
theorem Rj:∀(n:Nat)(l:List Nat)(k:Nat),atN (vT n l) k=if k<n then k else atN l (k-n)
 |0,l,k=>by simp[vT]
 |n+1,l,k=>by
  rw[vT,Rj n (n::l) k];rcases Nat.lt_trichotomy k n with h|h|h
  ·rw[aF h,aF Om]
  ·subst h;rw[aC (Nat.lt_irrefl _),aF Om,azP];rfl
  ·rw[aC Om,aC Om];obtain⟨d,e⟩:∃d,k-n=d+1:=⟨k-n-1,by omega⟩;rw[e,show k-(n+1)=d by omega];rfl
theorem I8:∀(n:Nat)(l:List Nat),(vT n l).length=n+Z' l
 |0,l=>by simp[vT]
 |n+1,l=>by rw[vT,I8 n];simp;omega
def i9:Hp→List Nat→List Nat
 |[],l=>l
 |x::xs,l=>match x with
  | .rows _ rs=>Dg rs (i9 xs l)
  |_=>i9 xs l
def trim(n:Nat)(v:PV)(h:Hp):Option (PV × Hp):=
 if ayG n h.length then some (v,h)else
 let M:=vT n ((reach h 1000 (PV.adG v (i9 (h.take n) [])) []).filter λi=>Nat.ble n i)
 if zK M h&&v.onC (inL M)then some (v.nr (posOf M),oQ h (posOf M) M)else none
noncomputable def TT(call:fD):fD:=λname vs h=>match call name vs h with
 |some (v,d)=>trim h.length v d
 |none=>none
theorem Wd{r:Nat→Nat}{n:Nat}{v v':PV}{h p:Hp}{w:PV}{H:PH}(e:trim n v h=some (v',p))(u:Comes r n v h w H):Comes r n v' p w H:=by
 unfold trim at e;split at e
 ·cases e;exact u
 ·simp only at e;generalize(reach h 1000 (PV.adG v (i9 (h.take n) [])) []).filter (λi=>Nat.ble n i)=N at e;split at e
  ·rename_i d;simp only[awN]at d;replace d:=And.intro d.1 (PV.Gw d.2);rw[PV.LD]at e;cases e;obtain⟨r',x,R,rfl,hb,y⟩:=u;have l:(oQ h (posOf (vT n N)) (vT n N)).length=(vT n N).length:=by simp[oQ]
   refine⟨λk=>r' (atN (vT n N) k),λi hi=>?_,R.cut d.1,(PV.Hg (L:=inL (vT n N)) (λi hi=>by rw[(pN hi).1]) _ d.2).symm,?_,?_⟩
   ·show r i=r' (atN (vT n N) i);rw[Rj,aF hi];exact x i hi
   ·rw[l];exact PV.ZQ (λi hi=>(pN hi).2) _ d.2
   ·rw[l,I8];omega
  ·cases e
theorem aJ.xn{C:Ctx}{name:Nat}{vs:List PV}{H:PH}{R e:PV→PH→Prop}(h:aJ C name vs H R)(A:∀i H',R i H'→e i H'):aJ C name vs H e:=by
 refine⟨h.1,λE w B x hW d=>(h.2 E w B x hW d).mono λJ K y=>?_⟩;obtain⟨u,pv,l,H',g1,g2,g3,g4,p⟩:=y;exact⟨u,pv,l,H',g1,g2,g3,g4,A _ _ p⟩
theorem afN{C:Ctx}{call:fD}(i:nP C call):nP C (TT call):=by
 intro name vs h v p e r H R X hb;unfold TT at e;split at e
 ·rename_i w g d;exact(i name vs h w g d r H R X hb).xn λu H' l=>Wd e l
 ·cases e
def aR.sW:aR→Bool
 | .rows _ _=>true
 | .map _ _=>true
 |_=>false
theorem JG{x:aR}(h:x.sW=true):x.live=some x:=by
 cases x<;>first|rfl|cases h
def okM(M:List Nat)(h:Hp):Bool:=zK M h&&M.all λi=>(gtH h i).sW
def bk(M:List Nat)(n:Nat)(j:Nat):Nat:=if Nat.blt j M.length then atN M j else n+(j-Z' M)
def yK(M:List Nat)(h2:Hp)(t:Nat→Nat):Nat→Hp→Hp
 |_,[]=>[]
 |i,x::xs=>(if inL M i then(gtH h2 (posOf M i)).rn t else x)::yK M h2 t (i+1) xs
def pS(M:List Nat)(h h2:Hp):Hp:=(match M with|[]=>h|_=>yK M h2 (bk M h.length) 0 h)++(h2.drop M.length).map (aR.rn (bk M h.length))
theorem Od(M:List Nat)(h2:Hp)(t:Nat→Nat):∀(h:Hp)(i k:Nat),(yK M h2 t i h)[k]?=(h[k]?).map λx=>if inL M (i+k)then(gtH h2 (posOf M (i+k))).rn t else x
 |[],i,k=>by simp[yK]
 |x::xs,i,0=>by simp[yK]
 |x::xs,i,k+1=>by simp only[yK,List.getElem?_cons_succ];rw[Od M h2 t xs (i+1) k,show i+1+k=i+(k+1) by omega]
theorem Do(h2:Hp)(t:Nat→Nat):∀(h:Hp)(i:Nat),yK [] h2 t i h=h
 |[],i=>rfl
 |x::xs,i=>by simp[yK,inL,Do h2 t xs]
theorem BK(M:List Nat)(h2:Hp)(t:Nat→Nat):∀(h:Hp)(i:Nat),(yK M h2 t i h).length=Z' h
 |[],i=>rfl
 |x::xs,i=>by simp[yK,BK M h2 t xs]
theorem D9(M:List Nat)(h h2:Hp):pS M h h2=yK M h2 (bk M h.length) 0 h++(h2.drop M.length).map (aR.rn (bk M h.length)):=by
 unfold pS;split
 ·rw[Do]
 ·rfl
theorem CW(M:List Nat)(h h2:Hp):(pS M h h2).length=Z' h+(Z' h2-Z' M):=by
 rw[D9];simp[BK]
theorem aiL(t:Nat→Nat)(l:Hp)(k:Nat):gtH (l.map (aR.rn t)) k=(gtH l k).rn t:=by
 unfold gtH;rw[axH];cases l[k]?<;>rfl
theorem acZ(l:Hp)(m k:Nat):gtH (l.drop m) k=gtH l (m+k):=by
 unfold gtH;rw[aAF]
theorem YE(M:List Nat)(h h2:Hp)(k:Nat):gtH (pS M h h2) k=if k<h.length then(if inL M k then(gtH h2 (posOf M k)).rn (bk M h.length)else gtH h k)else(gtH h2 (Z' M+(k-Z' h))).rn (bk M h.length):=by
 rw[D9];by_cases d:k<Z' h
 ·rw[aF d];unfold gtH;rw[azD (by rw[BK];exact d),Od,axJ];rw[awX d,axF];by_cases e:inL M k=true
  ·simp only[aF e];rfl
  ·simp only[aC e]
 ·rw[aC d];have:gtH (yK M h2 (bk M h.length) 0 h++(h2.drop M.length).map (aR.rn (bk M h.length))) k=gtH ((h2.drop M.length).map (aR.rn (bk M h.length))) (k-Z' h):=by unfold gtH;rw[ayW (by rw[BK];omega),BK]
  rw[this,aiL,acZ]
theorem aR.agQ{n:Nat}{x:aR}(h:x.Bd n):x.on (λi=>decide (i<n))=true:=by
 cases x with
 |rows s rs=>exact ja ((PV.HL rs).trans h)
 |map=>rfl
 |loop=>rfl
 |dead=>rfl
theorem qJ(h:Hp)(k:Nat):h.ph k=(gtH h k).live:=by
 unfold gtH;rw[Hp.jR];cases h[k]?<;>rfl
theorem ajD{h:Hp}{x:aR}(i:x∈h):∃k,k<Z' h∧gtH h k=x:=by
 obtain⟨k,d,e⟩:=ayK i;exact⟨k,d,by unfold gtH;rw[awX d,←e]⟩
section
variable {r:Nat→Nat} {f:Fr} {h h2:Hp} {F:PF} {H H':PH} {v rv:PV} {M:List Nat}
theorem qY(ok:okM M h=true){i:Nat}(hi:inL M i=true):h.ph i=some (gtH h i):=by
 simp only[okM,awN,axK]at ok;rw[qJ];exact JG (ok.2 i (wM hi))
theorem Zh(ok:okM M h=true){i:Nat}(hi:inL M i=true):i<Z' h:=(kO (qY ok hi)).2
theorem D8(R:Rl r f h F H)(ok:okM M h=true)(hc:Comes (λk=>r (atN M k)) M.length v h2 rv H')(ap:nF H (H.only (M.map r)) H') :
  ∃r',fT h.length r r'∧Z' h≤(pS M h h2).length∧Rl r' f (pS M h h2) F (H.over (H.only (M.map r)) H')∧rv=(v.ren (bk M h.length)).ren r'∧(v.ren (bk M h.length)).bound (pS M h h2).length=true:=by
 obtain⟨r2,α,E,rfl,Q,γ⟩:=hc;have O:fT h.length r (λi=>if i<h.length then r i else r2 (Z' M+(i-Z' h))):=λi hi=>by
  show r i=if i<h.length then r i else _
  rw[aF hi]
 generalize β:(λi=>if i<h.length then r i else r2 (Z' M+(i-Z' h)))=r' at O;have U:∀i,Z' h≤i→r' i=r2 (Z' M+(i-Z' h)):=λi hi=>by rw[←β];exact aC Om
 have N:∀j,r' (bk M h.length j)=r2 j:=λj=>by
  unfold bk;by_cases V:j<Z' M
  ·rw[aF (by simpa[Nat.blt_eq]using V),←O _ (Zh ok (qO V)),←α j V]
  ·rw[aC (by simpa[Nat.blt_eq]using V),U _ Om];congr 1;omega
 have S:∀j,j<Z' h2→bk M h.length j<Z' h+(Z' h2-Z' M):=λj V=>by
  unfold bk;by_cases K:j<Z' M
  ·rw[aF (by simpa[Nat.blt_eq]using K)];have:=Zh ok (qO K);omega
  ·rw[aC (by simpa[Nat.blt_eq]using K)];omega
 have Y:∀j,((gtH h2 j).rn (bk M h.length)).ren r'=(gtH h2 j).ren r2:=λj=>
  aR.Zw (L:=λi=>decide (i<Z' h2)) (λi _=>N i) (xQ E j) (aR.agQ (xQ E j))
 have J:∀j,((gtH h2 j).rn (bk M h.length)).Bd (Z' h+(Z' h2-Z' M)):=λj=>
  aR.ahB (L:=λi=>decide (i<Z' h2)) (λi hi=>S i (by simpa using hi)) (xQ E j) (aR.agQ (xQ E j))
 have p:∀k x,Hp.ph (pS M h h2) k=some x→(h.ph k=some x∧r' k=r k∧H' (r k)=none∧(H.only (M.map r)) (r k)=none) ∨
   ∃j,h2.ph j=some (gtH h2 j)∧x=(gtH h2 j).rn (bk M h.length)∧r' k=r2 j∧k=bk M h.length j:=by
  intro k x d;rw[qJ,YE]at d;by_cases hk:k<Z' h
  ·rw[aF hk]at d;by_cases hm:inL M k=true
   ·rw[aF hm]at d;obtain⟨u,rfl⟩:=aR.nw d;have hp:=pN hm;have W:k=bk M h.length (posOf M k):=by unfold bk;rw[aF (by simpa[Nat.blt_eq]using hp.2),hp.1]
    refine .inr ⟨posOf M k,by rw[qJ];exact u,rfl,?_,W⟩;exact(congrArg r' W).trans (N (posOf M k))
   ·rw[aC hm,←qJ]at d;have X:r k ∉ M.map r:=λhc=>by obtain⟨i,hi,e⟩:=axG.1 hc;have:=R.inj i k _ _ (qY ok (rT hi)) d e;subst this;exact hm (rT hi)
    have ho:(H.only (M.map r)) (r k)=none:=by rw[tG,aC X]
    refine .inl ⟨d,(O k hk).symm,?_,ho⟩;cases e:H' (r k)with
    |none=>rfl
    |some y =>have:=ap _ y e ho;rw[R.hp k x d]at this;cases this
  ·rw[aC hk]at d;obtain⟨u,rfl⟩:=aR.nw d;refine .inr ⟨Z' M+(k-Z' h),by rw[qJ];exact u,rfl,U k Om,?_⟩;unfold bk;rw[aC (by simp[Nat.blt_eq])];omega
 refine⟨r',O,by rw[CW];omega,⟨?_,λk x d=>?_,λk l x y d hy e=>?_,λi w hw=>?_,λx d=>?_⟩,(PV.Hg (L:=λi=>decide (i<Z' h2)) (λi _=>N i) v ((PV.HK v).trans Q)).symm,?_⟩
 ·rw[R.fr];exact PF.mR O R.fb
 ·rcases p k x d with⟨u,A,B,Z⟩|⟨j,u,rfl,B,-⟩
  ·rw[A];have:=R.hp k x u;rw[aR.mR O (R.hb x (ayN (kO u).1))]at this;simp only[PH.over,B,Z,this]
  ·rw[B,Y j];simp only[PH.over,E.hp j _ u]
 ·rcases p k x d with⟨u,A,B,Z⟩|⟨j,u,rfl,B,Z⟩<;>rcases p l y hy with⟨g1,g2,g3,g4⟩|⟨j',g1,rfl,g3,g4⟩
  ·rw[A,g2]at e;exact R.inj k l _ _ u g1 e
  ·rw[A,g3]at e;rw[e,E.hp j' _ g1]at B;cases B
  ·rw[B,g2]at e;rw[←e,E.hp j _ u]at g3;cases g3
  ·rw[B,g3]at e;rw[Z,g4,E.inj j j' _ _ u g1 e]
 ·rw[CW];exact PV.rJ (Nat.le_add_right _ _) w (R.fb i w hw)
 ·rw[CW];obtain⟨k,hk,rfl⟩:=ajD d;rw[YE];split
  ·split
   ·exact J _
   ·exact(xQ R k).mono (Nat.le_add_right _ _)
  ·exact J _
 ·rw[CW];exact PV.ZQ (λi hi=>S i (by simpa using hi)) v ((PV.HK v).trans Q)
theorem fj {C : Ctx} {call : fD} (hC : nP C call) {name : Nat} {vs : List PV} (R : Rl r f h F H) (ok : okM M h = true) (hv : PV.ons (inL M) vs = true)
    (e : call name (PV.jH (posOf M) vs) (oQ h (posOf M) M) = some (v, h2)) : aJ C name (vs.map (PV.ren r)) (H.only (M.map r)) (Comes (fun k => r (atN M k)) M.length v h2) := by
  have oks : zK M h = true := by simp only [okM, awN] at ok; exact ok.1
  have hlen : (oQ h (posOf M) M).length = M.length := by simp [oQ]
  have h1 := hC name _ _ v h2 e (fun k => r (atN M k)) (H.only (M.map r))
    ((R.cut oks).only fun k x hx => List.mem_map_of_mem (wM (qO (KZ hx).1))) (fun o x hx => by
      rw [tG] at hx;split at hx
      · rename_i hm
        obtain ⟨i, hi, rfl⟩ := axG.1 hm;have hp := pN (rT hi);have hl := qY ok (rT hi);rw [qJ] at hl;refine ⟨posOf M i, (gtH h i).rn (posOf M), ?_, by show r (atN M (posOf M i)) = r i; rw [hp.1]⟩;rw [Hp.jR, oQ, tC, aF hp.2, hp.1];show aR.live _ = _;generalize gtH h i = y at hl ⊢;cases y <;> first | rfl | cases hl
      · cases hx) (by rw [hlen]; exact PV.qZ (fun i hi => (pN hi).2) vs hv)
  rw [hlen] at h1;rw [← PV.dW, PV.tZ (L := inL M) (s := r) (fun i hi => by show r (atN M (posOf M i)) = r i; rw [(pN hi).1]) vs hv] at h1;rw [← PV.dW];exact h1
end
noncomputable def agS(call:fD)(M:List Nat)(name:Nat)(vs:List PV)(h:Hp):Option (PV × Hp):=
 if okM M h&&QS (inL M) vs then match call name (TP (posOf M) vs) (oQ h (posOf M) M)with
  |some (v,h2)=>some (v.nr (bk M h.length),pS M h h2)
  |none=>none
 else none
noncomputable def hand(call:fD):fD:=λname vs h=>agS call (reach h 1000 (rQ vs []) []) name vs h
theorem aiU{C:Ctx}{call:fD}(A:nP C call):bf C (hand call):=by
 intro name vs h v O e r f F H d K R hb E;unfold hand agS at e;generalize reach h 1000 (rQ vs []) []=M at e;split at e
 ·rename_i i;simp only[awN]at i;rw[zM]at e;split at e
  ·rename_i w h2 e2;rw[PV.LD]at e;cases e;refine⟨_,H.only (M.map r),_,rfl,λo x l=>?_,fj A R i.1 (KT i.2) e2,λrv H' N y=>?_⟩
   ·rw[tG]at l;split at l
    ·exact l
    ·cases l
   ·obtain⟨r',B,J,u,rfl,p⟩:=D8 R i.1 N y;exact E r' _ B J u p
  ·cases e
 ·cases e
theorem sJ{n:Nat}:∀{l:List (List PV)},PV.gD n l=true↔∀x∈l,PV.bounds n x=true
 |[]=>by simp[PV.gD]
 |x::xs=>by simp[PV.gD,sJ (l:=xs)]
theorem pI{n:Nat}:∀{l:List PV},PV.bounds n l=true↔∀x∈l,x.bound n=true
 |[]=>by simp[PV.bounds]
 |x::xs=>by simp[PV.bounds,pI (l:=xs)]
theorem TM{L:Nat→Bool}:∀{l:List PV},PV.ons L l=true↔∀x∈l,x.on L=true
 |[]=>by simp[PV.ons]
 |x::xs=>by simp[PV.ons,TM (l:=xs)]
theorem Gy{L:Nat→Bool}:∀{l:List (List PV)},PV.qE L l=true↔∀x∈l,PV.ons L x=true
 |[]=>by simp[PV.qE]
 |x::xs=>by simp[PV.qE,Gy (l:=xs)]
section
variable {L:Nat→Bool} {r:Nat→Nat} {o s n:Nat} {rs:List (List PV)}
theorem IL(hi:∀q,L q=true→r q=r o→q=o)(v:PV)(i:v.on L=true):(v.dB o s rs).ren r=(v.ren r).dB (r o) s (rs.map λx=>x.map (PV.ren r)):=by
 cases v with
 |osl q s' d len=>
  simp only[PV.on]at i;simp only[PV.dB,PV.ren];by_cases e:q=o
  ·subst e;rw[aF rfl,aF rfl];simp only[awL];by_cases c:s'=s∧d+len≤Z' rs
   ·rw[aF c,aF c];simp only[PV.ren,PV.jK,azM,List.map_drop]
   ·rw[aC c,aC c];rfl
  ·rw[aC e,aC (λh=>e (hi q i h))];rfl
 |_=>rfl
theorem Aw(hi:∀q,L q=true→r q=r o→q=o)(v:PV)(d:v.on L=true):(v.pL o s rs).ren r=(v.ren r).pL (r o) s (rs.map λx=>x.map (PV.ren r)):=by
 cases v with
 |agg cs =>simp only[PV.on]at d;simp only[PV.pL,PV.ren,PV.dW,azL];congr 1;exact azF λx e=>IL hi x (TM.1 d x e)
 |osl q s' i len=>exact IL hi _ d
 |_=>rfl
theorem aiC(hi:∀q,L q=true→r q=r o→q=o)(v:PV)(d:v.on L=true):(v.frz o s rs).ren r=(v.ren r).frz (r o) s (rs.map λx=>x.map (PV.ren r)):=by
 cases v with
 |tup cs =>simp only[PV.on]at d;simp only[PV.frz,PV.ren,PV.dW,azL];congr 1;exact azF λx e=>Aw hi x (TM.1 d x e)
 |agg cs=>exact Aw hi _ d
 |osl q s' i len=>exact IL hi _ d
 |_=>rfl
theorem yY(e:PV.gD n rs=true)(v:PV)(d:v.bound n=true):(v.dB o s rs).bound n=true:=by
 cases v with
 |osl q s' l len=>
  simp only[PV.dB];split
  ·split
   ·simp only[PV.bound];exact sJ.2 λx i=>sJ.1 e x (List.mem_of_mem_drop (List.mem_of_mem_take i))
   ·rfl
  ·exact d
 |_=>exact d
theorem e7(e:PV.gD n rs=true)(v:PV)(d:v.bound n=true):(v.pL o s rs).bound n=true:=by
 cases v with
 |agg cs =>simp only[PV.bound]at d;simp only[PV.pL,PV.bound];refine pI.2 λx i=>?_;obtain⟨y,l,rfl⟩:=axG.1 i;exact yY e y (pI.1 d y l)
 |osl q s' p len=>exact yY e _ d
 |_=>exact d
theorem Yb(e:PV.gD n rs=true)(v:PV)(d:v.bound n=true):(v.frz o s rs).bound n=true:=by
 cases v with
 |tup cs =>simp only[PV.bound]at d;simp only[PV.frz,PV.bound];refine pI.2 λx i=>?_;obtain⟨y,l,rfl⟩:=axG.1 i;exact e7 e y (pI.1 d y l)
 |agg cs=>exact e7 e _ d
 |osl q s' p len=>exact yY e _ d
 |_=>exact d
theorem Vn(hi:∀q,L q=true→r q=r o→q=o)(x:aR)(e:x.on L=true):(x.frz o s rs).ren r=(x.ren r).frz (r o) s (rs.map λx=>x.map (PV.ren r)):=by
 cases x with
 |rows s' rs' =>simp only[aR.on]at e;simp only[aR.frz,aR.ren,azL];congr 1;refine azF λrow i=>?_;simp only[Function.comp,azL];exact azF λx d=>IL hi x (TM.1 (Gy.1 (vI e) row i) x d)
 |_=>rfl
theorem Ze(w:PV.gD n rs=true)(x:aR)(i:x.Bd n):(x.frz o s rs).Bd n:=by
 cases x with
 |rows s' rs' =>refine sJ.2 λrow d=>?_;obtain⟨e,p,rfl⟩:=axG.1 d;refine pI.2 λy A=>?_;obtain⟨l,u,rfl⟩:=axG.1 A;exact yY w l (pI.1 (sJ.1 i e p) l u)
 |_=>exact i
end
def GP(L:Nat→Bool)(o s:Nat)(rs:List (List PV))(x:aR):aR:=if x.on L then x.frz o s rs else .dead
def oV(p:PV × Hp)(o:Nat):PV × Hp:=match gtH p.2 o with
 | .rows s rs=>if PV.gD 0 rs&&p.1.onC (λi=>(gtH p.2 i).sW)then(p.1.frz o s rs,(p.2.map (GP (λi=>(gtH p.2 i).sW) o s rs)).set o .dead)else p
 |_=>p
mutual
def PV.Uy:PV→List Nat→List Nat
 | .osl o _ _ _,l=>o::l
 | .ptr _ _ _ _,l=>l
 | .map _,l=>l
 | .sl _ _,l=>l
 | .cT _,l=>l
 | .fn _ _,l=>l
 | .agg cs,l=>PV.xj cs l
 | .tup cs,l=>PV.xj cs l
 | .int _ _,l=>l
 | .bool _,l=>l
 | .str _,l=>l
 | .aH,l=>l
 | .lit _,l=>l
 | .junk,l=>l
def PV.xj:List PV→List Nat→List Nat
 |[],l=>l
 |v::vs,l=>PV.Uy v (PV.xj vs l)
end
def Oe:List (List PV)→List Nat→List Nat
 |[],l=>l
 |r::rs,l=>PV.xj r (Oe rs l)
def fc(h:Hp)(n:Nat):Nat→List Nat→List Nat
 |0,l=>l
 |d+1,l=>match(l.filter λi=>Nat.ble n i).foldr (λi e=>match gtH h i with | .rows _ rs=>Oe rs e|_=>e) []with
  |[]=>l
  |l'=>fc h n d l'++l
def X9(n:Nat)(v:PV)(h:Hp):PV × Hp:=((fc h n 6 (PV.Uy v [])).filter λi=>Nat.ble n i).foldl oV (v,h)
section
variable {r:Nat→Nat} {H:PH}
theorem adA(g:aR→aR)(d:g .dead=.dead)(l:Hp)(k:Nat):gtH (l.map g) k=g (gtH l k):=by
 unfold gtH;rw[axH];cases l[k]? with
 |none=>exact d.symm
 |some x=>rfl
theorem Yp{x:aR}{L:Nat→Bool}{o s:Nat}{rs:List (List PV)}{y:aR}(h:(GP L o s rs x).live=some y):x.on L=true∧x.live=some x∧y=x.frz o s rs:=by
 unfold GP at h;split at h
 ·rename_i d;refine⟨d,?_,(aR.xV h).symm⟩;cases x<;>first|rfl|cases h
 ·cases h
theorem Ya{p:PV × Hp}(o:Nat)(R:Rl r .nil p.2 PF.nil H)(hb:p.1.bound p.2.length=true) :
  ∃K M,(∀F H2,iV K M F H2→iV (PF.nil.set 0 (p.1.ren r)) H F H2)∧K=PF.nil.set 0 ((oV p o).1.ren r)∧Rl r .nil (oV p o).2 PF.nil M∧(oV p o).1.bound (oV p o).2.length=true∧(oV p o).2.length=p.2.length:=by
 obtain⟨v,h⟩:=p;simp only at R hb;have l:∃K M,(∀F H2,iV K M F H2→iV (PF.nil.set 0 (v.ren r)) H F H2)∧K=PF.nil.set 0 (v.ren r)∧Rl r .nil h PF.nil M∧v.bound h.length=true∧Z' h=Z' h:=⟨_,H,λ_ _ h=>h,rfl,R,hb,rfl⟩;unfold oV;simp only;split
 ·rename_i s rs V;split
  ·rename_i J;simp only[awN]at J;replace J:=And.intro J.1 (PV.Gw J.2);have A:h.ph o=some (.rows s rs):=by rw[qJ,V];rfl
   have O:=(kO A).2;have hi:∀q,(gtH h q).sW=true→r q=r o→q=o:=λq W e=>by
    have h1:h.ph q=some (gtH h q):=by rw[qJ];exact JG W
    exact R.inj _ _ _ _ h1 A e
   have N:PV.gD h.length rs=true:=PV.uN (axB _) _ J.1;have B:((h.map (GP (λi=>(gtH h i).sW) o s rs)).set o .dead).length=Z' h:=by simp
   have d:∀i x,Hp.ph ((h.map (GP (λi=>(gtH h i).sW) o s rs)).set o .dead) i=some x→i≠o∧h.ph i=some (gtH h i)∧(gtH h i).on (λi=>(gtH h i).sW)=true∧x=(gtH h i).frz o s rs:=λi x u=>by
    rw[Hp.yA (by simpa using O)]at u;split at u
    ·cases u
    ·rename_i E;rw[qJ,adA _ (by rfl)]at u;obtain⟨h1,Q,U⟩:=Yp u;exact⟨E,by rw[qJ];exact Q,h1,U⟩
   refine⟨_,H.frz (r o) s (rs.map λx=>x.map (PV.ren r)),λF H2 X=>.step (r o) (R.hp o _ A) X,?_,⟨rfl,λi x u=>?_,λi j x y u S e=>?_,λi w Y=>by simp[Fr.pf]at Y,λx u=>?_⟩,?_,B⟩
   ·funext i;simp only[PF.frz,PF.set,upd];split
    ·rw[axF,aiC (L:=λi=>(gtH h i).sW) hi v J.2]
    ·rfl
   ·obtain⟨E,h1,Q,rfl⟩:=d i x u;show(if r i=r o then none else(H (r i)).map (aR.frz (r o) s _))=_;rw[aC (λe=>E (R.inj _ _ _ _ h1 A e)),R.hp i _ h1,axF,Vn (L:=λi=>(gtH h i).sW) hi _ Q]
   ·exact R.inj _ _ _ _ (d i x u).2.1 (d j y S).2.1 e
   ·rw[B];rcases aAI u with h1|h1
    ·obtain⟨y,S,rfl⟩:=axG.1 h1;unfold GP;split
     ·exact Ze N y (R.hb y S)
     ·trivial
    ·subst h1;trivial
   ·rw[B];exact Yb N v hb
  ·exact l
 ·exact l
theorem fa:∀(l:List Nat){p:PV × Hp}{H:PH},Rl r .nil p.2 PF.nil H→p.1.bound p.2.length=true →
  ∃d,iV (PF.nil.set 0 (p.1.ren r)) H (PF.nil.set 0 ((l.foldl oV p).1.ren r)) d∧Rl r .nil (l.foldl oV p).2 PF.nil d∧(l.foldl oV p).1.bound (l.foldl oV p).2.length=true∧(l.foldl oV p).2.length=p.2.length
 |[],p,H,R,hb=>⟨H,.refl _ _,R,hb,rfl⟩
 |o::l,p,H,R,hb=>by obtain⟨E,d,B,rfl,u,e,i⟩:=Ya o R hb;obtain⟨H2,w,x,y,A⟩:=fa l u e;exact⟨H2,B _ _ w,x,y,A.trans i⟩
end
end Go.PM
namespace Go.PM
open Go
def bj(C:Ctx)(k:Nat)(pf:bH):Prop:=∀(args:List PV)(H:PH)(R:PV→PH→Prop),Z' args≤pf.ntmps→pf.body.wp C (bD pf.res R) (PF.args args) H→aJ C k args H R
theorem Fr.Hw{l:List PV}{f:Fr}(h:Fr.args l 0 (Fr.empty 9)=some f):f.pf=PF.args l:=by
 rw[Fr.Lo h];funext i;simp only[Nat.not_lt_zero,if_false,Nat.sub_zero,Fr.Ag,PF.args];cases l[i]?<;>rfl
theorem abF(r:Nat→Nat)(l:List PV):PF.args (l.map (PV.ren r))=(PF.args l).ren r:=by
 funext i;simp only[PF.args,PF.ren,axH]
abbrev Orc:=Nat→List PV→Option PV
def xf(C:Ctx)(d:Orc):Prop:=∀name vs v,d name vs=some v→aJ C name vs PH.nil (λe _=>e=v)
noncomputable def FD(tab:Nat→Option bH)(d:Orc)(fz:Nat→Bool)(i:fD→GB)(m:Nat):Nat→fD
 |0=>λ_ _ _=>none
 |n+1=>λname args h=>match d name args with
  |some v=>if v.bound 0&&h.isEmpty then some (v,h)else none
  |none=>match tab name with
  |some pf=>if args.length≤pf.ntmps then match Fr.args args 0 (Fr.empty 9)with
    |none=>none
    |some f=>match oY (hand (TT (FD tab d fz i m n))) (i (TT (FD tab d fz i m n))) m pf.body f h with
    |some (.exit _,_,_)=>none
    |some (_,l,e)=>match dJ.evs l.pf e.ph pf.res with
     |some vs=>if(cR vs).xM e.length then some (if fz name then X9 h.length (cR vs) e else(cR vs,e))else none
     |none=>none
    |none=>none
   else none
  |none=>none
section
variable {C:Ctx} {r:Nat→Nat} {f:Fr} {h:Hp} {F:PF} {H:PH}
theorem aeW{h:PH}(u:NE r h H){F:PF}{q:dJ}{v:PV}(e:q.ev F h=some v):q.ev (F.ren r) H=some (v.ren r):=by
 cases q with
 |tmp t=>simp only[dJ.ev]at e ⊢;simp only[PF.ren,e,axF]
 |cell t n=>
  cases n with
  |none=>
   simp only[dJ.ev]at e ⊢;split at e
   ·rename_i p i;simp only[PF.ren,i,axF];split at e
    ·rename_i w d;have l:=sX u d;simp only[axL,ayI]at l;simp only[l];cases e;rfl
    ·cases e
   ·cases e
  |some k=>
   simp only[dJ.ev]at e ⊢;split at e
   ·rename_i p i;simp only[PF.ren,i,axF];cases d:loadCells h p k with
    |none=>rw[d]at e;cases e
    |some w =>rw[d]at e;rw[sX u d];cases e;simp only[axF,PV.ren,PV.dW]
   ·cases e
theorem u9{h:PH}(d:NE r h H){F:PF}:∀{l:List dJ}{vs:List PV},dJ.evs F h l=some vs→dJ.evs (F.ren r) H l=some (vs.map (PV.ren r))
 |[],_,e=>by cases e;rfl
 |q::l,vs,e=>by
  simp only[dJ.evs]at e ⊢;split at e
  ·rename_i v u i p;cases e;rw[aeW d i,u9 d p];rfl
  ·cases e
theorem Ky(vs:List PV):cR (vs.map (PV.ren r))=(cR vs).ren r:=by
 unfold cR
 match vs with
 |[]=>rfl
 |[v]=>rfl
 |a::b::l=>simp only[axL,PV.ren,PV.dW]
theorem Qo{tab:Nat→Option bH}{E:Orc}{fz:Nat→Bool}{N:fD→GB}(hO:xf C E)(hT:∀k pf,tab k=some pf→bj C k pf)(hD:∀call,nP C call→x4 C (N call))(m:Nat):∀n,nP C (FD tab E fz N m n)
 |0=>λname vs h v Q e=>by cases e
 |n+1=>λname vs h v Q e r H R X hb=>by
  have ih:=afN (Qo (fz:=fz) hO hT hD m n);simp only[FD]at e;split at e
  ·rename_i w W;split at e
   ·rename_i S;simp only[awN,List.isEmpty_iff]at S;obtain⟨S,rfl⟩:=S;cases e;have hH:H=PH.nil:=PH.ext λo=>by
     cases O:H o with
     |none=>rfl
     |some x =>obtain⟨i,y,d,-⟩:=X o x O;simp[Hp.jR]at d
    rw[hH,PV.mS hb];exact(hO name vs v W).xn λrv H' hr=>by subst hr;exact⟨r,λ_ _=>rfl,⟨rfl,λi x B=>by simp[Hp.jR]at B,λi j x y B=>by simp[Hp.jR]at B,λi w Y=>by simp[Fr.pf]at Y,λx B=>by cases B⟩,(PV.mN S r).symm,S,awP _⟩
   ·cases e
  split at e
  ·rename_i pf ht;split at e
   ·rename_i hl;split at e
    ·cases e
    rename_i f0 U;have V:∀(x:kZ)(J:Fr)(d:Hp),(∀id,x≠.exit id)→oY (hand (TT (FD tab E fz N m n))) (N (TT (FD tab E fz N m n))) m pf.body f0 h=some (x,J,d) →
      (match dJ.evs J.pf d.ph pf.res with|some vs=>if(cR vs).xM d.length then some (if fz name then X9 h.length (cR vs) d else(cR vs,d))else none|none=>none)=some (v,Q)→aJ C name (vs.map (PV.ren r)) H (Comes r h.length v Q):=by
     intro x J d B O e2;refine hT name pf ht _ _ _ (by rw[awL];exact hl) ?_;have R0:Rl r f0 h (PF.args (vs.map (PV.ren r))) H:=⟨by rw[Fr.Hw U,abF],R.hp,R.inj,λi w Y=>by
      rw[Fr.Hw U]at Y;simp only[PF.args]at Y;have:∀(l:List PV)(i:Nat),PV.bounds h.length l=true→l[i]?=some w→w.bound h.length=true:=by
       intro l
       induction l with
       |nil=>intro i _ hi;simp at hi
       |cons a l α=>
        intro i hb hi;simp only[PV.bounds,awN]at hb;cases i with
        |zero=>simp at hi;subst hi;exact hb.1
        |succ i=>exact α i hb.2 (by simpa using hi)
      exact this vs i hb Y,R.hb⟩
     refine V1 (aiU ih) (hD _ ih) m pf.body O R0 λr' F' H' ha hn Z=>?_;cases h2:dJ.evs J.pf d.ph pf.res with
     |none=>rw[h2]at e2;cases e2
     |some K=>
      rw[h2]at e2;simp only at e2;split at e2
      ·rename_i A;replace A:=PV.uM A;simp only[axZ.injEq]at e2;have h3:=u9 Z.hp h2;rw[←Z.fr]at h3;have hR:∃vs,dJ.evs F' H' pf.res=some vs∧∃F1 M H2,iV (PF.nil.set 0 (cR vs)) H' F1 M∧PH.le H2 M∧∃u,F1 0=some u∧Comes r h.length v Q u H2:=by
        refine⟨_,h3,?_⟩;rw[Ky K];split at e2
        ·obtain⟨M,g1,g2,g3,g4⟩:=fa ((fc d h.length 6 (PV.Uy (cR K) [])).filter λi=>Nat.ble h.length i) (p:=(cR K,d)) Z.heap A;have e3:((fc d h.length 6 (PV.Uy (cR K) [])).filter λi=>Nat.ble h.length i).foldl oV (cR K,d)=(v,Q):=e2;rw[e3]at g1 g2 g3 g4;exact⟨_,M,M,g1,λ_ _ W=>W,v.ren r',rfl,r',ha,g2,rfl,g3,by rw[g4];exact hn⟩
        ·cases e2;exact⟨_,H',H',.refl _ _,λ_ _ W=>W,(cR K).ren r',rfl,r',ha,Z.heap,rfl,A,hn⟩
       cases x with
       |normal=>exact hR
       |ret=>exact hR
       |exit id=>exact absurd rfl (B id)
      ·cases e2
    split at e
    ·cases e
    ·rename_i x J d B O;exact V x J d (λid he=>B id he) O e
    ·cases e
   ·cases e
  ·cases e
end
def qR(W:List Nat):Nat→Hp→Hp
 |_,[]=>[]
 |i,x::xs=>(if W.contains i then .dead else x)::qR W (i+1) xs
theorem UO(W:List Nat):∀(h:Hp)(i k:Nat)(x:aR),(qR W i h)[k]?=some x→x=.dead∨h[k]?=some x
 |[],_,_,_,e=>by simp[qR]at e
 |y::h,i,0,x,e=>by
  simp only[qR,List.getElem?_cons_zero,axZ.injEq]at e;split at e
  ·exact .inl e.symm
  ·exact .inr (by rw[←e];rfl)
 |y::h,i,k+1,x,e=>by simp only[qR,List.getElem?_cons_succ]at e ⊢;exact UO W h (i+1) k x e
theorem Oj{W:List Nat}{h:Hp}{i:Nat}{x:aR}(e:Hp.ph (qR W 0 h) i=some x):h.ph i=some x:=by
 have d:=kO e;rcases UO W h 0 i x d.1 with h2|h2
 ·subst h2;rw[Hp.jR,d.1]at e;cases e
 ·rw[Hp.jR]at e ⊢;rw[d.1]at e;rw[h2];exact e
def FH(op:POp)(f:Fr):Option Nat:=match op with
 | .store _ p _=>match p.ev f.pf with
  |some (.ptr o _ _ _)=>some o
  |_=>none
 | .append _ _ x _=>match x.ev f.pf with
  |some (.osl o _ _ _)=>some o
  |_=>none
 | .avS _ x _ _ | .insert _ x _ _=>match x.ev f.pf with
  |some (.map o)=>some o
  |_=>none
 |_=>none
def Vo(hs:Hp)(op:POp)(f:Fr):Bool:=match FH op f with
 |none=>true
 |some o=>match hs[o]? with
  |none=>true
  |some .dead=>true
  |_=>false
theorem Vp{hs:Hp}{op:POp}{f:Fr}{o:Nat}(h:Vo hs op f=true)(d:FH op f=some o):hs.ph o=none:=by
 unfold Vo at h;rw[d]at h;simp only at h;rw[Hp.jR];split at h
 ·rename_i e;rw[e];rfl
 ·rename_i e;rw[e];rfl
 ·cases h
noncomputable def bv(call:fD)(name:Nat)(vs:List PV):Option PV:=
 if PV.bounds 0 vs then match call name vs []with
  |some (v,_)=>if v.bound 0 then some v else none
  |none=>none
 else none
def jl:aR→aR→Bool
 | .rows s rs,y=>match y with | .rows s' rs'=>ayG s s'&&PV.SI rs rs'|_=>false
 | .map _ _,_=>false
 |_,_=>true
def apG(hs:Hp)(M:List Nat)(h':Hp):Bool:=M.all λi=>jl (gtH hs i) (gtH h' i)
noncomputable def xi(call:fD)(e hs:Hp)(name:Nat)(vs:List PV)(h:Hp):Option (PV × Hp):=
 let M:=reach e 1000 (rQ vs []) []
 if(M.all λi=>(gtH e i).sW)&&(okM M h&&QS (inL M) vs)then match call name (TP (posOf M) vs) (oQ h (posOf M) M)with
  |some (v,d)=>if(Nat.ble M.length d.length&&v.xM d.length)&&((d.all λx=>x.sW.not||x.bd d.length)&&apG hs M (pS M h d))then some (v.nr (bk M h.length),pS M h d)else none
  |none=>none
 else none
noncomputable def jp(call:fD)(d hs:Hp)(op:POp)(st:Bool)(f:Fr)(h:Hp):Option (PV × Hp):=match op with
 | .call name args=>if args.all aO.clo then match aO.evs f.pf args with
  |some vs=>xi call d hs name vs h
  |none=>none
  else none
 | .awC x args=>if x.clo&&args.all aO.clo then match x.ev f.pf,aO.evs f.pf args with
  |some (.fn name cs),some vs=>xi call d hs name (vs++cs) h
  |_,_=>none
  else none
 |op=>if op.clo&&Vo hs op f then
   if op.gG then uC op f h else if op.dL then fO op f h else
    match aL op f.pf (if st then hs.ph else h.ph)with
    |some v=>if v.xM h.length then some (v,h)else none
    |none=>none
  else none
noncomputable def jr(call:fD)(e hs:Hp)(i:aS)(st:Bool)(f:Fr)(h:Hp):Option (PV × Hp):=match i.guard with
 |none=>jp call e hs i.op st f h
 |some (t,d)=>match f.pf t with
  |some (.bool b)=>if b=d then jp call e hs i.op st f h else some (.tup [],h)
  |some (.tup [])=>some (.tup [],h)
  |_=>none
noncomputable def RE(call:fD)(d hs:Hp):List (aS × Bool)→Fr→Hp→Option (Fr × Hp)
 |[],f,h=>some (f,h)
 |i::rest,f,h=>if f.fits i.1.dst then match jr call d hs i.1 i.2 f h with
   |some (v,h')=>RE call d hs rest (f.put i.1.dst v) h'
   |none=>none
  else none
noncomputable def amV(d:Hp)(i:aS)(f:Fr)(h h':Hp):List Nat:=match i.op with
 | .call _ args=>match aO.evs f.pf args with
  |some vs=>(reach d 1000 (rQ vs []) []).filter λi=>!jl (gtH h i) (gtH h' i)
  |none=>[]
 | .awC x args=>match x.ev f.pf,aO.evs f.pf args with
  |some (.fn _ cs),some vs=>(reach d 1000 (rQ (vs++cs) []) []).filter λi=>!jl (gtH h i) (gtH h' i)
  |_,_=>[]
 |op=>(FH op f).toList
noncomputable def targets(call:fD)(d:Hp):List (aS × Bool)→Fr→Hp→List Nat
 |[],_,_=>[]
 |i::rest,f,h=>match jr call d [] i.1 false f h with
  |some (v,h')=>amV d i.1 f h h'++targets call d rest (f.put i.1.dst v) h'
  |none=>[]
noncomputable def SM(call:fD):GB:=λops f h=>
 if ops.any λi=>i.2 then
  if ops.any λi=>i.1.op.dL then RE call h (qR (targets call h ops f h) 0 h) ops f h
  else match RE call h h ops f h with
   |some x=>some x
   |none=>RE call h (qR (targets call h ops f h) 0 h) ops f h
 else RE call h [] ops f h
structure DI(r:Nat→Nat)(hs h:Hp)(Hs:PH):Prop where
 a:∀i x,hs.ph i=some x→h.ph i=some x
 b:∀o x,Hs o=some x→∃i y,hs.ph i=some y∧o=r i∧x=y.ren r
 c:NE r hs.ph Hs
section
variable {C:Ctx} {call:fD} {r:Nat→Nat} {f f':Fr} {hs h h':Hp} {F:PF} {H Hs:PH} {v:PV}
theorem DI.le(D:DI r hs h Hs)(R:Rl r f h F H):Hs.le H:=λo x e=>by
 obtain⟨i,y,d,rfl,rfl⟩:=D.b o x e;exact R.hp i y (D.a i y d)
theorem DI.next(D:DI r hs h Hs)(R:Rl r f h F H){r':Nat→Nat}(p:fT h.length r r')(A:∀i x,hs.ph i=some x→h'.ph i=some x):DI r' hs h' Hs:=by
 have d:∀i y,hs.ph i=some y→r i=r' i∧y.ren r=y.ren r':=λi y B=>by have e:=kO (D.a i y B);exact⟨p i e.2,aR.mR p (R.hb y (ayN e.1))⟩
 refine⟨A,λo x l=>?_,λi x l=>?_⟩
 ·obtain⟨i,y,e,u,w⟩:=D.b o x l;exact⟨i,y,e,u.trans (d i y e).1,w.trans (d i y e).2⟩
 ·rw[←(d i x l).1,←(d i x l).2];exact D.c i x l
theorem ww{op:POp}(e:uC op f h=some (v,h')){i:Nat}{x:aR}(l:h.ph i=some x):h'.ph i=some x:=by
 have hlt:=(kO l).2;by_cases p:∃sh,op=.awG sh
 ·obtain⟨sh,rfl⟩:=p;simp only[uC,axZ.injEq,Prod.mk.injEq]at e;obtain⟨-,rfl⟩:=e;rw[Hp.tW,aC Om];exact l
 ·have d:(match cA op f.pf with|some (u,x)=>if x.bd h.length then some (u h.length,h++[x])else none|none=>none)=some (v,h'):=by cases op<;>first|exact e|exact absurd ⟨_,rfl⟩ p
  split at d
  ·split at d<;>cases d;rw[Hp.tW,aC Om];exact l
  ·cases d
theorem DH{op:POp}(e:fO op f h=some (v,h')){i:Nat}{x:aR}(u:h.ph i=some x)(d:FH op f≠some i):h'.ph i=some x:=by
 have hlt:=(kO u).2;cases op<;>try (simp[fO]at e;done)
 case store n p y=>
  simp only[fO]at e;simp only[FH]at d;split at e
  ·rename_i o s j c w l E;rw[l]at d;split at e
   ·rename_i s' rs B;split at e
    ·split at e<;>cases e;rw[Hp.yA ((axO.1 B).1),aC (λe=>d (by rw[e]))];exact u
    ·cases e
   ·cases e
  ·cases e
 case append size bytes y z=>
  simp only[fO]at e;simp only[FH]at d;split at e
  ·split at e
   ·cases e;exact u
   ·split at e<;>cases e;rw[Hp.tW,aC Om];exact u
   ·cases e
  ·rename_i o s len b l E;rw[l]at d;split at e
   ·rename_i src s' rs B A;split at e<;>cases e;rw[Hp.tW,aC (by rw[ayM];omega),Hp.yA ((axO.1 A).1),aC (λe=>d (by rw[e]))];exact u
   ·cases e
  ·cases e
 case avS sh y k w=>
  simp only[fO]at e;simp only[FH]at d;split at e
  ·rename_i o M N l E B;rw[l]at d;split at e
   ·rename_i K g J A h5;split at e<;>cases e;rw[Hp.yA ((axO.1 A).1),aC (λe=>d (by rw[e]))];exact u
   ·cases e
  ·cases e
 case insert sh y k w=>
  simp only[fO]at e;simp only[FH]at d;split at e
  ·rename_i o M N l E B;rw[l]at d;split at e
   ·rename_i K g J A h5;split at e<;>cases e;rw[Hp.yA ((axO.1 A).1),aC (λe=>d (by rw[e]))];exact u
   ·cases e
  ·cases e
theorem J2(N:nP C call){name:Nat}{vs:List PV}(e:bv call name vs=some v) :
  vs.map (PV.ren r)=vs∧v.ren r=v∧v.bound 0=true∧aJ C name vs PH.nil (λS _=>S=v):=by
 unfold bv at e;split at e
 ·rename_i l;split at e
  ·rename_i w M e2;split at e
   ·rename_i p;cases e;refine⟨PV.mS l r,PV.mN p r,p,?_⟩;have A:=N name vs [] v M e2 id PH.nil ⟨rfl,λi x d=>by simp[Hp.jR]at d,λi j x y d=>by simp[Hp.jR]at d,λi w R=>by simp[Fr.pf]at R,λx d=>by cases d⟩ (λo x d=>by cases d) l;rw[PV.mS l]at A;refine⟨A.1,λE w U O hW B=>(A.2 E w U O hW B).mono λV W Q=>?_⟩;obtain⟨u,pv,J,H',g1,g2,g3,g4,r',-,-,K,-,-⟩:=Q;exact⟨u,pv,J,H',g1,g2,g3,g4,by rw[K,PV.mN p]⟩
   ·cases e
  ·cases e
 ·cases e
end
theorem ot(r:Nat→Nat):∀n:Nat,∃b,∀j,j<n→r j<b
 |0=>⟨0,λj d=>absurd d (Nat.not_lt_zero j)⟩
 |n+1=>by
  obtain⟨b,hb⟩:=ot r n;refine⟨b+r n+1,λj d=>?_⟩;rcases Nat.lt_succ_iff_lt_or_eq.1 d with h|h
  ·have:=hb j h;omega
  ·subst h;omega
theorem alP(r:Nat→Nat)(h:Hp)(hi:∀i j x y,h.ph i=some x→h.ph j=some y→r i=r j→i=j) :
  ∃H:PH,NE r h.ph H∧∀o x,H o=some x→∃i y,h.ph i=some y∧r i=o:=by
 classical
 obtain⟨b,hb⟩:=ot r h.length;refine⟨⟨λo=>if e:∃i y,h.ph i=some y∧r i=o then some ((Classical.choose (Classical.choose_spec e)).ren r)else none,b,λo w=>?_⟩,λi x d=>?_,λo x d=>?_⟩
 ·rw[dif_neg];rintro⟨i,y,l,p⟩;have:=hb i (kO l).2;omega
 ·have e:∃j y,h.ph j=some y∧r j=r i:=⟨i,x,d,rfl⟩;show(if e:∃j y,h.ph j=some y∧r j=r i then some ((Classical.choose (Classical.choose_spec e)).ren r)else none)=_;rw[dif_pos e];have l:=Classical.choose_spec (Classical.choose_spec e);have p:=hi _ _ _ _ l.1 d l.2;have u:=l.1.symm.trans ((congrArg h.ph.f p).trans d);rw[axZ.inj u]
 ·change(if e:∃j y,h.ph j=some y∧r j=o then some ((Classical.choose (Classical.choose_spec e)).ren r)else none)=some x at d;split at d
  ·rename_i e;exact e
  ·cases d
theorem ahG{r:Nat→Nat}{f:Fr}{h:Hp}{F:PF}{H:PH}(R:Rl r f h F H):∃q:Nat→Nat,∀i x,h.ph i=some x→q (r i)=i:=by
 classical
 refine⟨λo=>if e:∃i y,h.ph i=some y∧r i=o then Classical.choose e else 0,λi x d=>?_⟩;have e:∃j y,h.ph j=some y∧r j=r i:=⟨i,x,d,rfl⟩;show(if e:∃j y,h.ph j=some y∧r j=r i then Classical.choose e else 0)=i;rw[dif_pos e];obtain⟨y,l,p⟩:=Classical.choose_spec e;exact R.inj _ _ _ _ l d p
def xo(q r:Nat→Nat)(M:List Nat)(H:PH):Hp:=M.map λi=>match H (r i)with
 |some x=>x.ren λo=>posOf M (q o)
 |none=>.dead
noncomputable def RJ(call:fD)(h0:Hp)(q r:Nat→Nat):Spec:=λname vs=>
 some ((reach h0 1000 (rQ (PV.jH q vs) []) []).map r,λe i H'=>∃v d,
  call name (PV.jH (posOf (reach h0 1000 (rQ (PV.jH q vs) []) [])) (PV.jH q vs)) (xo q r (reach h0 1000 (rQ (PV.jH q vs) []) []) e)=some (v,d) ∧
  Comes (λk=>r (atN (reach h0 1000 (rQ (PV.jH q vs) []) []) k)) (reach h0 1000 (rQ (PV.jH q vs) []) []).length v d i H')
theorem Comes.agree{r s:Nat→Nat}{n:Nat}{v:PV}{h:Hp}{d:PV}{H:PH}(u:Comes r n v h d H)(p:fT n r s):Comes s n v h d H:=by
 obtain⟨r',e,l⟩:=u;exact⟨r',λi hi=>(p i hi).symm.trans (e i hi),l⟩
theorem afG{x y:aR}(h:jl x y=true)(d:x.live=some x):x=y:=by
 cases x with
 |rows s rs =>cases y<;>simp only[jl,awN,ayQ]at h;rw[PV.WP _ _ h.2,Nat.eq_of_beq_eq_true h.1]
 |map=>cases h
 |loop=>cases d
 |dead=>cases d
section
variable {C:Ctx} {call:fD} {q r0 r:Nat→Nat} {f f':Fr} {h0 hs h h':Hp} {F:PF} {H Hs:PH} {v:PV} {K:PV→PH→Prop} {st:Bool}
theorem GJ(hC:nP C call)(hq:∀i x,h0.ph i=some x→q (r0 i)=i)(θ:fT h0.length r0 r)(R:Rl r f h F H)(D:DI r hs h Hs){name:Nat}{vs:List PV}(e:xi call h0 hs name vs h=some (v,h'))
  (J:∀r' H',fT h.length r r'→Z' h≤Z' h'→Rl r' f h' F H'→DI r' hs h' Hs→v.bound h'.length=true→K (v.ren r') H') :
  (Kind.call name (some (vs.map (PV.ren r)))).run C Hs (RJ call h0 q r0) st K H:=by
 unfold xi at e;simp only at e;generalize hM:reach h0 1000 (rQ vs []) []=M at e;split at e
 ·rename_i β;simp only[awN,axK]at β;obtain⟨ξ,ok,hv⟩:=β;replace hv:=KT hv;rw[zM]at e;split at e
  ·rename_i w p e2;split at e
   ·rename_i hb;simp only[awN]at hb;obtain⟨⟨κ,Q⟩,μ,ν⟩:=hb;replace Q:=PV.uM Q;rw[PV.LD]at e;cases e;have ο:Z' M≤Z' p:=Nat.le_of_ble_eq_true κ;have E:∀i,inL M i=true→h0.ph i=some (gtH h0 i):=λi hi=>by rw[qJ];exact JG (ξ i (wM hi))
    have N:∀i,inL M i=true→r0 i=r i:=λi hi=>θ i (kO (E i hi)).2;have γ:∀i,inL M i=true→q (r i)=i:=λi hi=>by rw[←N i hi];exact hq i _ (E i hi)
    have ρ:PV.jH q (vs.map (PV.ren r))=vs:=by rw[←PV.dW,PV.tZ (L:=inL M) (s:=id) γ vs hv,PV.tY]
    have Z:M.map r0=M.map r:=azF λi hi=>N i (rT hi);have X:∀i,inL M i=true→(H.only (M.map r)) (r i)=some ((gtH h i).ren r):=λi hi=>by rw[tG,aF (List.mem_map_of_mem (wM hi))];exact R.hp i _ (qY ok hi)
    have V:zK M h=true:=by simp only[okM,awN]at ok;exact ok.1
    have d:xo q r0 M (H.only (M.map r))=oQ h (posOf M) M:=by unfold xo oQ;refine azF λi hi=>?_;have S:=rT hi;rw[N i S,X i S];exact aR.amI (L:=inL M) (λj l=>by rw[γ j l]) (xQ R i) (ZP V S)
    have A:fT M.length (λk=>r0 (atN M k)) (λk=>r (atN M k)):=λk J=>N _ (qO J);have η:∀x∈p,aR.Bd p.length x:=λx W=>by
     have:=(axK.1 μ) x W;simp only[Bool.or_eq_true,Bool.not_eq_true']at this;rcases this with h1|h1
     ·cases x<;>first|trivial|cases h1
     ·exact aR.wD h1
    refine⟨_,M.map r,λH0 rv H'=>∃v p,call name (PV.jH (posOf M) vs) (xo q r0 M H0)=some (v,p)∧Comes (λk=>r0 (atN M k)) M.length v p rv H',rfl,?_,λo ho=>?_,?_,λG=>?_,λrv H' hr ap=>?_⟩
    ·simp only[RJ,ρ,hM,Z]
    ·obtain⟨i,hi,rfl⟩:=axG.1 ho;exact⟨_,R.hp i _ (qY ok (rT hi))⟩
    ·exact(fj hC R ok hv e2).xn λrv H' hc=>⟨w,p,by rw[d];exact e2,hc.agree λk J=>(A k J).symm⟩
    ·obtain⟨nG,hG⟩:=G.fin;obtain⟨nH,hH⟩:=H.fin;have ε:∀k,k<Z' M→r (atN M k)<nH:=λk J=>by
      rcases axA (r (atN M k)) nH with h1|h1
      ·exact h1
      ·have:=R.hp _ _ (qY ok (qO J));rw[hH _ h1]at this;cases this
     generalize δ:(λj=>if j<M.length then r (atN M j)else nG+nH+j)=r2;have hlt:∀j,j<Z' M→r2 j=r (atN M j):=λj l=>by rw[←δ];exact aF l
     have B:∀j,¬j<Z' M→r2 j=nG+nH+j:=λj l=>by rw[←δ];exact aC l
     have O:∀i j x y,p.ph i=some x→p.ph j=some y→r2 i=r2 j→i=j:=λi j x y _ _ Y=>by
      by_cases hi:i<Z' M<;>by_cases l:j<Z' M
      ·rw[hlt i hi,hlt j l]at Y;have:=R.inj _ _ _ _ (qY ok (qO hi)) (qY ok (qO l)) Y;have α:QB M=true:=by simp only[zK,awN]at V;exact V.1
       rw[←yB α hi,this,yB α l]
      ·rw[hlt i hi,B j l]at Y;have:=ε i hi;omega
      ·rw[B i hi,hlt j l]at Y;have:=ε j l;omega
      ·rw[B i hi,B j l]at Y;omega
     obtain⟨H',h1,h3⟩:=alP r2 p O;refine⟨w.ren r2,H',⟨w,p,by rw[d];exact e2,r2,λk J=>?_,⟨rfl,h1,O,λi u hu=>by simp[Fr.pf]at hu,η⟩,rfl,Q,ο⟩,λo x W h4=>?_⟩
     ·rw[hlt k J];exact A k J
     ·obtain⟨i,y,-,rfl⟩:=h3 o x W;by_cases hi:i<Z' M
      ·rw[hlt i hi,X _ (qO hi)]at h4;cases h4
      ·rw[B i hi];exact hG _ Om
    ·obtain⟨w',h3,e3,hc⟩:=hr;rw[d,e2]at e3;cases e3;obtain⟨r',ha,hn,R',rfl,ι⟩:=D8 R ok (hc.agree A) ap;have U:∀i x,hs.ph i=some x→Hp.ph (pS M h p) i=some x:=λi x W=>by
      have ζ:=D.a i x W;have hlt:=(kO ζ).2;by_cases hi:inL M i=true
      ·have h5:=(axK.1 ν) i (wM hi);have h6:=amE W;have h7:=afG h5 (by rw[h6.1];exact h6.2);rw[qJ,←h7,h6.1];exact h6.2
      ·rw[qJ,YE,aF hlt,aC hi,←qJ];exact ζ
     have D':=D.next R ha U;exact⟨D'.le R',J r' _ ha hn R' D' ι⟩
   ·cases e
  ·cases e
 ·cases e
theorem VT(hC:nP C call)(hq:∀i x,h0.ph i=some x→q (r0 i)=i)(α:fT h0.length r0 r){op:POp}(R:Rl r f h F H)(D:DI r hs h Hs)(e:jp call h0 hs op st f h=some (v,h'))
  (Z:∀r' H',fT h.length r r'→Z' h≤Z' h'→Rl r' f h' F H'→DI r' hs h' Hs→v.bound h'.length=true→K (v.ren r') H') :
  (op.kind F).run C Hs (RJ call h0 q r0) st K H:=by
 by_cases h1:∃name args,op=.call name args
 ·obtain⟨name,args,rfl⟩:=h1;simp only[jp]at e;split at e
  ·rename_i p;split at e
   ·rename_i vs h2;have h4:=AA (r:=r) p h2;rw[←R.fr]at h4;simp only[POp.kind];rw[h4];exact GJ hC hq α R D e Z
   ·cases e
  ·cases e
 by_cases h2:∃x args,op=.awC x args
 ·obtain⟨x,args,rfl⟩:=h2;simp only[jp]at e;split at e
  ·rename_i p;simp only[awN]at p;split at e
   ·rename_i name cs vs h3 h4;have h5:=AA (r:=r) p.2 h4;have h6:=bT (r:=r) p.1 h3;rw[←R.fr]at h5 h6;simp only[POp.kind];rw[h6];simp only[PV.ren,PV.dW];rw[h5];simp only[axF,←axQ];exact GJ hC hq α R D e Z
   ·cases e
  ·cases e
 have l:(if op.clo&&Vo hs op f then if op.gG then uC op f h else if op.dL then fO op f h else
   match aL op f.pf (if st then hs.ph else h.ph)with|some v=>if v.xM h.length then some (v,h)else none|none=>none else none)=some (v,h'):=by
  cases op<;>first|exact e|exact absurd ⟨_,_,rfl⟩ h1|exact absurd ⟨_,_,rfl⟩ h2
 split at l
 ·rename_i p;simp only[awN]at p;have E:∀i x,hs.ph i=some x→FH op f≠some i:=λi x hx ht=>by rw[Vp p.2 ht]at hx;cases hx
  by_cases h3:∃sh x k w,op=.insert sh x k w
  ·obtain⟨sh,x,k,w,rfl⟩:=h3;simp only[POp.gG,POp.dL,ayQ,if_false,if_true]at l;have M:=p.1;simp only[POp.clo,awN]at M;have B:∀i y,hs.ph i=some y→h'.ph i=some y:=λi y X=>DH l (D.a i y X) (E i y X);have A:Z' h≤Z' h':=by
    simp only[fO]at l
    (repeat' split at l)<;>cases l<;>simp
   have O:bN (.insert sh x k w) F H (λY H'=>∀_:Hs.le H',K Y H'):=
    qK (K:=λY H'=>∀_:Hs.le H',K Y H') R p.1 l λr' H' J N hb _=>Z r' H' J A N (D.next R J B) hb
   have W:bN (.insert sh x k w) F H (λ_ H'=>Hs.le H'):=
    qK (K:=λ_ H'=>Hs.le H') R p.1 l λr' H' J N hb=>(D.next R J B).le N
   simp only[fO]at l;split at l
   ·rename_i o kv vv g1 g2 g3;have Q:=bT (r:=r) M.1 g1;have S:=bT (r:=r) M.2.1 g2;have U:=bT (r:=r) M.2.2 g3;rw[←R.fr]at Q S U;simp only[bN,Q,S,U,PV.ren]at O W;simp only[POp.kind,Q,S,U,PV.ren];split at l
    ·rename_i β g γ g4 g5;have ho:h.ph o=some (.map β g):=by rw[Hp.jR,g4];rfl
     have hH:=R.hp o _ ho;simp only[aR.ren]at hH;simp only[hH,xT g5]at O W;obtain⟨w1,w2,w3⟩:=O;subst w1;refine⟨r o,β,γ,_,_,by rw[xT g5];rfl,hH,w2,?_,w3 W.2.2⟩;cases e6:Hs (r o)with
     |none=>rfl
     |some y =>obtain⟨i,z,k1,k2,k3⟩:=D.b _ _ e6;have:=R.inj o i _ _ ho (D.a i z k1) k2;subst this;exact absurd (by simp only[FH,g1]) (E o z k1)
    ·cases l
   ·cases l
  ·have V:op.kind F=if op.gG then .new (cA op F)else if op.dL then .write (λH K=>bN op F H K)else .calm (aL op F):=by cases op<;>first|rfl|exact absurd ⟨_,_,rfl⟩ h1|exact absurd ⟨_,_,rfl⟩ h2|exact absurd ⟨_,_,_,_,rfl⟩ h3
   rw[V];split at l
   ·rename_i hn;rw[aF hn];have A:Z' h≤Z' h':=LM (op:=op) (f:=f) (v:=v) (by unfold yC;rw[aF p.1,aF hn];exact l);obtain⟨mk,x,g1,g2⟩:=NC (d:=some 0) (K:=λF' H'=>∀u,F' 0=some u→K u H') R p.1 l λr' H' J N hb u hu=>by simp only[PF.put,PF.set,I9]at hu;cases hu;exact Z r' H' J A N (D.next R J λi y X=>ww l (D.a i y X)) hb
    exact⟨mk,x,g1,λo ho=>g2 o ho _ (by simp[PF.put,PF.set,I9])⟩
   ·rename_i hn;rw[aC hn];split at l
    ·rename_i O;rw[aF O];have A:Z' h≤Z' h':=LM (op:=op) (f:=f) (v:=v) (by unfold yC;rw[aF p.1,aC hn,aF O];exact l);show bN op F H λY H'=>Hs.le H'∧K Y H';refine qK (K:=λY H'=>Hs.le H'∧K Y H') R p.1 l λr' H' J N hb=>?_;have D':=D.next R J λi y X=>DH l (D.a i y X) (E i y X);exact⟨D'.le N,Z r' H' J A N D' hb⟩
    ·rename_i O;rw[aC O];split at l
     ·rename_i w g1;split at l
      ·rename_i hb;replace hb:=PV.uM hb;cases l;refine⟨v.ren r,?_,Z r H (λ_ _=>rfl) (awP _) R D hb⟩;cases st with
       |true=>
        have:=QW D.c p.1 g1
        rwa[←R.fr]at this
       |false=>
        have:=QW R.hp p.1 g1
        rwa[←R.fr]at this
      ·cases l
     ·cases l
 ·cases l
theorem Hx(A:nP C call)(B:∀i x,h0.ph i=some x→q (r0 i)=i)(d:fT h0.length r0 r){i:aS}(R:Rl r f h F H)(D:DI r hs h Hs)(e:jr call h0 hs i st f h=some (v,h'))
  (u:∀r' H',fT h.length r r'→Z' h≤Z' h'→Rl r' f h' F H'→DI r' hs h' Hs→v.bound h'.length=true→K (v.ren r') H') :
  (i.kind F).run C Hs (RJ call h0 q r0) st K H:=by
 have l:∀t w,f.pf t=some w→F t=some (w.ren r):=λt w p=>by rw[R.fr];simp only[PF.ren,p,axF]
 unfold jr at e;unfold aS.kind;split at e
 ·rename_i y;rw[y];exact VT A B d R D e u
 ·rename_i t E y;rw[y];simp only;split at e
  ·rename_i b hb;rw[l t _ hb];simp only[PV.ren];split at e
   ·rename_i p;rw[aF p];exact VT A B d R D e u
   ·rename_i p;rw[aC p];cases e;exact⟨_,rfl,u r H (λ_ _=>rfl) (awP _) R D rfl⟩
  ·rename_i hb;rw[l t _ hb];cases e;exact⟨_,rfl,u r H (λ_ _=>rfl) (awP _) R D rfl⟩
  ·cases e
end
theorem jk{C:Ctx}{call:fD}(N:nP C call){h0 hs:Hp}{Hs:PH}{q r0:Nat→Nat}(Q:∀i x,h0.ph i=some x→q (r0 i)=i):∀(ops:List (aS × Bool)) {r:Nat→Nat} {f f':Fr} {h h':Hp} {F:PF} {H:PH} {K:PF→PH→Prop},RE call h0 hs ops f h=some (f',h')→fT h0.length r0 r→Z' h0≤Z' h→Rl r f h F H→DI r hs h Hs →
  (∀r' M H',fT h.length r r'→Z' h≤Z' h'→Rl r' f' h' M H'→K M H')→wpD C Hs (RJ call h0 q r0) ops K F H
 |[],r,f,f',h,h',F,H,K,e,_,_,R,D,A=>by cases e;exact A r F H (λ_ _=>rfl) (awP _) R
 |i::rest,r,f,f',h,h',F,H,K,e,d,l,R,D,A=>by
  simp only[RE]at e;split at e
  ·rename_i W;split at e
   ·rename_i v X V;refine Hx N Q d R D V λr' H' O B U S hb=>?_;exact jk N Q rest e (d.trans O l) (axT l B) (U.put W hb) S λJ p u y E w=>A J p u (O.trans y B) (axT B E) w
   ·cases e
  ·cases e
theorem DD{C:Ctx}{call:fD}(w:nP C call){hs:Hp}{ops:List (aS × Bool)}{r:Nat→Nat}{f f':Fr}{h h':Hp}{F:PF}{H:PH}{K:PF→PH→Prop}(e:RE call h hs ops f h=some (f',h'))(R:Rl r f h F H)
  (d:∀i x,hs.ph i=some x→h.ph i=some x) (A:∀r' p H',fT h.length r r'→Z' h≤Z' h'→Rl r' f' h' p H'→K p H'):∃Hs S,PH.le Hs H∧wpD C Hs S ops K F H:=by
 obtain⟨q,E⟩:=ahG R;have D:DI r hs h (H.only (((awU h.length).filter λi=>(Hp.ph hs i).isSome).map r)):=by
  refine⟨d,λo x l=>?_,λi x l=>?_⟩
  ·rw[tG]at l;split at l
   ·rename_i B;obtain⟨i,hi,rfl⟩:=axG.1 B;obtain⟨-,hi⟩:=List.mem_filter.1 hi;obtain⟨y,u⟩:=Option.isSome_iff_exists.1 hi;refine⟨i,y,u,rfl,?_⟩;have:=R.hp i y (d i y u);rw[this]at l;cases l;rfl
   ·cases l
  ·rw[tG,aF]
   ·exact R.hp i x (d i x l)
   ·exact axG.2 ⟨i,List.mem_filter.2 ⟨ayB.2 (kO (d i x l)).2,by rw[l];rfl⟩,rfl⟩
 exact⟨_,_,D.le R,jk w E ops e (λ_ _=>rfl) (awP _) R D A⟩
theorem acD{C:Ctx}(call:fD)(l:nP C call):x4 C (SM call):=by
 intro ops f h f' h' e r F H R K u;unfold SM at e;split at e
 ·split at e
  ·exact DD l e R (λi x d=>Oj d) u
  ·split at e
   ·rename_i p w;cases e;exact DD l w R (λi x d=>d) u
   ·exact DD l e R (λi x d=>Oj d) u
 ·exact DD l e R (λi x d=>by simp[Hp.jR]at d) u
theorem V3{C:Ctx}{tab:Nat→Option bH}{d:Orc}{fz:Nat→Bool}(i:xf C d)(l:∀k pf,tab k=some pf→bj C k pf)(m n:Nat):nP C (FD tab d fz SM m n):=Qo i l (λcall e=>acD call e) m n
theorem V2{C:Ctx}{tab:Nat→Option bH}{d:Orc}{fz:Nat→Bool}(i:xf C d)(l:∀k pf,tab k=some pf→bj C k pf)(m n:Nat){name:Nat}{vs:List PV}{v:PV}(e:bv (FD tab d fz SM m n) name vs=some v):aJ C name vs PH.nil (λp _=>p=v):=
 (J2 (r:=id) (V3 i l m n) e).2.2.2
open Go Go.Na
def TI:List (List PV)→Option (List Nat)
 |[]=>some []
 |r::rs=>match r with
  |[.int .u32 (.ofNat n)]=>if Nat.blt n 4294967296 then match TI rs with
   |some l=>some (n::l)
   |none=>none
   else none
  |_=>none
def vF:PV→Option (List Nat)
 | .aH=>some []
 | .sl s rows=>if ayG s 1&&Nat.ble rows.length 1000 then TI rows else none
 |_=>none
def Hj:List PV→Option RF
 |[.bool n,a,b]=>match vF a,vF b with
  |some x,some y=>some ⟨n,x,y⟩
  |_,_=>none
 |_=>none
theorem ir:∀{rs:List (List PV)}{l:List Nat},TI rs=some l→rs=l.map (λ(n:Nat)=>[PV.int .u32 (n:Int)])∧Lim l
 |[],l,h=>by cases h;exact⟨rfl,λx d=>by cases d⟩
 |r::rs,l,h=>by
  simp only[TI]at h;split at h
  ·split at h
   ·rename_i n w;split at h
    ·rename_i y i;cases h;obtain⟨p,u⟩:=ir i;refine⟨by rw[p];rfl,λx d=>?_⟩;rcases awT.1 d with e|e
     ·subst e;exact of_decide_eq_true (by simpa[Nat.blt_eq]using w)
     ·exact u x e
    ·cases h
   ·cases h
  ·cases h
structure alB(v:PV)(l:List Nat):Prop where
 co:Co v (aI l)
 lim:Lim l
 len:Z' l≤1000
theorem qT{v:PV}{l:List Nat}(h:vF v=some l):alB v l:=by
 unfold vF at h;split at h
 ·cases h;exact⟨.nil 1,λx u=>(axD u).elim,axB _⟩
 ·split at h
  ·rename_i s rows d;simp only[awN]at d;obtain⟨e,p⟩:=ir h;have i:=Nat.le_of_ble_eq_true d.2;rw[e,awL]at i;refine⟨?_,p,i⟩;rw[Nat.eq_of_beq_eq_true d.1,e];exact .refl _
  ·cases h
 ·cases h
structure arL(cs:List PV)(x:RF):Prop where
 co:CoL cs x.cells
 ok:x.Ok
theorem nv{cs:List PV}{x:RF}(h:Hj cs=some x):arL cs x:=by
 unfold Hj at h;split at h
 ·split at h
  ·rename_i a b _ _ d e;cases h;have k1:=qT d;have k2:=qT e;exact⟨.cons (.refl _) (.cons k1.co (.cons k2.co .nil)),k1.lim,k2.lim,axT k1.len aV,axT k2.len aV⟩
  ·cases h
 ·cases h
noncomputable def jF:aM:={ Wb with avC:=[⟨[118,48],0⟩] }
theorem ai:jF.Ok:=amC (by decide +kernel)
theorem RM:ku jF 0=[[0]]∧HG jF 0=0∧wU jF=0:=by decide +kernel
theorem jt:zO jF 5 1=[[0]]∧iH jF 5 1=0:=by decide +kernel
theorem Ld:lI jF=true:=by decide +kernel
theorem Wc:rZ jF (kY jF 0)=[[0]]:=by decide +kernel
theorem Z9:Z' jF.avA≤12∧(∀m∈(kY jF 0).avB,0≤m∧m<Z' jF.avB)∧(kY jF 0).avB.length≤99∧1≤(kY jF 0).k∧(kY jF 0).k≤6∧0≤(kY jF 0).m∧(kY jF 0).m≤4:=by decide +kernel
structure xe(C:Ctx):Prop extends bc C where
 fleet:∀(l:List Nat),(∀x∈l,x<256)→Z' l≤9223372036854775807→∀avA avC:Nat,avA≤60→avC≤50 →
  aJ C 27 [.sl 1 (lF l),.int .i64 avA,.int .i64 avC] .nil (aQ (.agg (jV (l.take 400) avA avC 0).1.cells))
 val:∀f:aM,f.Ok→aJ C 96 [.agg f.cells] .nil (aQ (.int .i64 (wU f)))
 all:∀(f:aM)(avM:Int),f.Ok→aJ C 205 [.agg f.cells,.int .i64 avM] .nil (aQ (.tup [lay (ku f avM),.int .i64 (HG f avM)]))
 FF:∀(f:aM)(lv cnt:Int),f.Ok→aJ C 230 [.agg f.cells,uV lv cnt] .nil (aQ (.tup [lay (zO f lv cnt),.int .i64 (iH f lv cnt)]))
 sets:∀(f:aM)(p:cO),VF f→Z' f.avA≤12→(∀m∈p.avB,0≤m∧m<Z' f.avB)→Fits p.avB→1≤p.k→p.k≤6→0≤p.m→p.m≤4→aJ C 229 [.agg f.cells,.agg p.cells] .nil (aQ (lay (rZ f p)))
def or1(g:RF→PV)(vs:List PV):Option PV:=match vs with
 |[.agg x]=>match Hj x with
  |some a=>some (g a)
  |none=>none
 |_=>none
def or2(g:RF→RF→PV)(vs:List PV):Option PV:=match vs with
 |[.agg x,.agg y]=>match Hj x with
  |some a=>match Hj y with
   |some b=>some (g a b)
   |none=>none
  |none=>none
 |_=>none
def orE(vs d:List PV)(v:PV):Option PV:=if PV.DP vs d then some v else none
noncomputable def G2:Orc:=λname vs=>match name with
 |113=>or2 (λa b=>frV (lW a.v b.v)) vs
 |114=>or2 (λa b=>yU a.neg (val a.num) (val a.den) b.neg (val b.num) (val b.den)) vs
 |115=>match vs with
  |[.int .i64 n,.int .i64 d]=>if decide (dX n)&&decide (dX d)then some (TE n d)else none
  |_=>none
 |116=>or1 (λa=>frV (BS a)) vs
 |118=>or1 (λa=>.bool (eO (val a.num) (val a.den))) vs
 |120=>match vs with
  |[.bool neg,x,y]=>match vF x with
   |some a=>match vF y with
    |some b=>if decide (nl (val a)≤512)&&(decide (nl (val b)≤512)&&!ayG (val b) 0)then some (EJ neg (val a) (val b))else none
    |none=>none
   |none=>none
  |_=>none
 |121=>match vs with
  |[x,y]=>match vF x with
   |some a=>match vF y with
    |some b=>if decide (nl (val a)≤256)&&decide (nl (val b)≤256)then some (aI (aK (val a*val b)))else none
    |none=>none
   |none=>none
  |_=>none
 |128=>match vs with
  |[x]=>match vF x with
   |some a=>some (.int .i64 (cS (val a):Nat))
   |none=>none
  |_=>none
 |27=>orE vs [.aH,.int .i64 1,.int .i64 0] (.agg Wb.cells)
 |96=>orE vs [.agg jF.cells] (.int .i64 0)
 |205=>orE vs [.agg jF.cells,.int .i64 0] (.tup [lay [[0]],.int .i64 0])
 |230=>orE vs [.agg jF.cells,uV 5 1] (.tup [lay [[0]],.int .i64 0])
 |229=>orE vs [.agg jF.cells,.agg (kY jF 0).cells] (lay [[0]])
 |_=>none
section
variable {C:Ctx}
theorem Zm{name:Nat}{g:RF→PV}(h:∀x:RF,x.Ok→aJ C name [.agg x.cells] .nil (aQ (g x))){vs:List PV}{v:PV}(e:or1 g vs=some v):aJ C name vs .nil (aQ v):=by
 unfold or1 at e;split at e
 ·split at e
  ·rename_i a d;cases e;have k:=nv d;exact(h a k.ok).args (.cons (CoL.agg k.co) .nil)
  ·cases e
 ·cases e
theorem Zn{name:Nat}{g:RF→RF→PV}(h:∀x y:RF,x.Ok→y.Ok→aJ C name [.agg x.cells,.agg y.cells] .nil (aQ (g x y))){vs:List PV}{v:PV}(e:or2 g vs=some v):aJ C name vs .nil (aQ v):=by
 unfold or2 at e;split at e
 ·split at e
  ·rename_i a d;split at e
   ·rename_i b i;cases e;have k:=nv d;have k2:=nv i;exact(h a b k.ok k2.ok).args (.cons (CoL.agg k.co) (.cons (CoL.agg k2.co) .nil))
   ·cases e
  ·cases e
 ·cases e
theorem QU{name:Nat}{vs d:List PV}{v w:PV}(h:aJ C name d .nil (aQ w))(e:orE vs d w=some v):aJ C name vs .nil (aQ v):=by
 unfold orE at e;split at e
 ·rename_i i;cases e;rw[PV.wE _ _ i];exact h
 ·cases e
theorem Vs(L:xe C){name:Nat}{vs:List PV}{v:PV}(e:G2 name vs=some v):aJ C name vs .nil (aQ v):=by
 unfold G2 at e;split at e
 ·exact Zn L.plus e
 ·exact Zn L.ord e
 ·split at e
  ·split at e
   ·rename_i d;simp only[awN,decide_eq_true_eq]at d;cases e;exact L.frac _ _ d.1 d.2
   ·cases e
  ·cases e
 ·exact Zm L.red e
 ·exact Zm (λx l=>L.valid x.neg x.num x.den l.1 l.2.1 l.2.2.1 l.2.2.2) e
 ·split at e
  ·split at e
   ·rename_i a i;split at e
    ·rename_i b p;split at e
     ·rename_i d;simp only[awN,decide_eq_true_eq,Bool.not_eq_true']at d;cases e;have k1:=qT i;have k2:=qT p;exact(L.lowest _ a b k1.lim k2.lim (axT k1.len aV) (axT k2.len aV) d.1 d.2.1 (λw=>by rw[w]at d;simp at d)).args (.cons (.refl _) (.cons k1.co (.cons k2.co .nil)))
     ·cases e
    ·cases e
   ·cases e
  ·cases e
 ·split at e
  ·split at e
   ·rename_i a i;split at e
    ·rename_i b p;split at e
     ·rename_i d;simp only[awN,decide_eq_true_eq]at d;cases e;have k1:=qT i;have k2:=qT p;exact(L.times a b k1.lim k2.lim (axT k1.len aV) (axT k2.len aV) d.1 d.2).args (.cons k1.co (.cons k2.co .nil))
     ·cases e
    ·cases e
   ·cases e
  ·cases e
 ·split at e
  ·split at e
   ·rename_i a i;cases e;have k1:=qT i;exact(L.bits a k1.lim (axT k1.len aV)).args (.cons k1.co .nil)
   ·cases e
  ·cases e
 ·have B:=L.fleet [] (λx l=>by cases l) aV 1 0 aV aV;have u:aJ C 27 [.sl 1 (lF []),.int .i64 (1:Nat),.int .i64 (0:Nat)] .nil (aQ (.agg Wb.cells)):=B;exact QU (u.args (.Sh (.nil 1) (.Sh (.refl _) (.Sh (.refl _) .asK)))) e
 ·have h:=L.val jF ai;rw[RM.2.2]at h;exact QU h e
 ·have h:=L.all jF 0 ai;rw[RM.1,RM.2.1]at h;exact QU h e
 ·have h:=L.FF jF 5 1 ai;rw[jt.1,jt.2]at h;exact QU h e
 ·obtain⟨i,p,E,y,h5,A,h7⟩:=Z9;have h:=L.sets jF (kY jF 0) (VF.of Ld) i p (by unfold Fits;omega) y h5 A h7;rw[Wc]at h;exact QU h e
 ·cases e
theorem ajV(L:xe C):xf C G2:=λ_ _ _ e=>(Vs L e).xn λ_ _ h=>h.1
theorem aJ.bare{name:Nat}{vs:List PV}{H:PH}{v:PV}(h:aJ C name vs H (λx _=>x=v)):aJ C name vs H (aQ v):=by
 refine⟨h.1,λE w y l hW d=>(h.2 E w y l hW d).mono λA B p=>?_⟩;obtain⟨u,pv,e,H',g1,g2,g3,g4,i⟩:=p;exact⟨u,pv,e,.nil,g1,g2.weaken a_,g3,g4.drop a_,i,rfl⟩
theorem Z1(L:xe C){tab:Nat→Option bH}{fz:Nat→Bool}(d:∀k pf,tab k=some pf→bj C k pf)(m n:Nat){name:Nat}{vs:List PV}{v:PV}(e:bv (FD tab G2 fz SM m n) name vs=some v):aJ C name vs .nil (aQ v):=
 aJ.bare (V2 (ajV L) d m n e)
end
def lL:=cP [] Proofs.Tryz.f4
def fw:=aA lL 0
def fx:=aA lL 1
def fy:=aA lL 2
def ga:=aA lL 3
def JF:=aA lL 4
def gb:=aA lL 5
def gd:=aA lL 6
def ge:=aA lL 7
def BL:aD:=(sq fw (sq fx (sq fy (sq ga (eS JF 25 gb (sq gd (sq ge .ret)))))))
def TC:bH:=⟨3,58,BL,[.tmp 6]⟩
def bY:=cP [3,4,112,145,179] Proofs.Tryz.f16
def qe:=aA bY 0
def qf:=aA bY 1
def qg:=aA bY 2
def qh:=aA bY 3
def Xo:=aA bY 4
def Xp:=aA bY 5
def Xq:=aA bY 6
def Xr:=aA bY 7
def Xs:=aA bY 8
def Xt:=aA bY 9
def Sv:=aA bY 10
def Sw:=aA bY 11
def Sx:=aA bY 12
def Sy:=aA bY 13
def Sz:=aA bY 14
def S0:=eE bY 0
def S1:=aA bY 15
def S3:=eE bY 1
def S4:=eE bY 2
def S5:=aA bY 16
def Ss:aD:=(fB Sx 54 0 S5 (sq Sy (gE Sz 80 (.exit 1) (dq S0 (sq S1 (dq S3 (.draw S4)))))))
def S6:=aA bY 17
def S7:=aA bY 18
def S8:=aA bY 19
def S9:=aA bY 20
def Ta:=aA bY 21
def Tb:=aA bY 22
def Tc:=eE bY 3
def Td:=aA bY 23
def Te:=aA bY 24
def St:aD:=(fB S8 124 2 Te (sq S9 (sq Ta (gE Tb 129 (.draw Tc) (.region Td)))))
def Tf:=aA bY 25
def Tg:=aA bY 26
def Th:=aA bY 27
def Ti:=eE bY 4
def Tj:=aA bY 28
def Tk:=aA bY 29
def Su:aD:=(fB Tg 153 4 Tk (sq Th (dq Ti (.region Tj))))
def Tl:=aA bY 30
def Tn:=aA bY 31
def DW:aD:=(sq qe (.seq (sq qf (sq qg (.cond (Tm 31) (sq qh .ret) .skip))) (sq Xo (sq Xp (eS Xq 42 Xr (sq Xs (sq Xt (sq Sv (.seq (dK Sw 0 Ss) (sq S6 (.seq (dK S7 2 St) (.seq (dK Tf 4 Su) (sq Tl (sq Tn .ret))))))))))))))
def zt:bH:=⟨3,195,DW,[.cell 6 (some 6),.tmp 7]⟩
def dM:=cP [4,5] Proofs.Tryz.f11
def ck:=aA dM 0
def cl:=aA dM 1
def cn:=aA dM 2
def cp:=aA dM 3
def Si:=aA dM 4
def Sj:=aA dM 5
def Sk:=aA dM 6
def Sl:=eE dM 0
def Sm:=aA dM 7
def Sn:=aA dM 8
def J7:=aA dM 9
def J5:aD:=(fB Sj 49 0 J7 (sq Sk (dq Sl (sq Sm (.cond (Tm 59) (sq Sn .ret) .skip)))))
def J8:=aA dM 10
def J9:=aA dM 11
def Ka:=aA dM 12
def Kb:=aA dM 13
def Kc:=aA dM 14
def Kd:=eE dM 1
def Ke:=aA dM 15
def Kf:=aA dM 16
def Kg:=aA dM 17
def J6:aD:=(fB J9 65 2 Kg (sq Ka (gE Kb 70 (.exit 3) (sq Kc (dq Kd (sq Ke (.cond (Tm 94) (sq Kf .ret) .skip)))))))
def Kh:=aA dM 18
def BA:aD:=(sq ck (.seq (sq cl (sq cn (.cond (Tm 45) (sq cp .ret) .skip))) (.seq (dK Si 0 J5) (.seq (dK J8 2 J6) (sq Kh .ret)))))
def la:bH:=⟨4,96,BA,[.tmp 8]⟩
def kF:=cP [4,5,7] Proofs.Tryz.f17
def pd:=aA kF 0
def pe:=aA kF 1
def pi:=aA kF 2
def Xd:=aA kF 3
def Xe:=aA kF 4
def Xf:=aA kF 5
def Xg:=aA kF 6
def Xh:=aA kF 7
def Xi:=aA kF 8
def Xj:=aA kF 9
def DS:aD:=(sq pd (eS pe 30 pi (sq Xd (sq Xe (eS Xf 61 Xg (sq Xh (sq Xi (sq Xj .ret))))))))
def y9:bH:=⟨4,82,DS,[.tmp 8]⟩
theorem Lc(n k a:Nat)(h:a<n):dU n (k+1) a=(dU n k (a+1)).map (a::·)++dU n (k+1) (a+1):=by
 rw[dU];by_cases c:n-k-a=0
 ·have d:n-k-(a+1)=0:=Om;rw[dU,c,d];have:dU n k (a+1)=[]:=by
   cases k with
   |zero=>omega
   |succ k=>rw[dU,show n-k-(a+1)=0 by omega];rfl
  rw[this];rfl
 ·obtain⟨m,e⟩:∃m,n-k-a=m+1:=⟨n-k-a-1,by omega⟩;rw[dU,e,List.range'_succ,List.flatMap_cons,show n-k-(a+1)=m by omega]
def Grow(P:List Nat→Bool):Prop:=∀s t:List Nat,(∀x∈s,x∈t)→P s=true→P t=true
theorem Grow.cons{P:List Nat→Bool}(h:Grow P)(a:Nat):Grow λs=>P (a::s):=λs t d l=>
 h (a::s) (a::t) (λx i=>(awT.1 i).elim (λe=>e ▸ List.mem_cons_self) λi=>List.mem_cons_of_mem _ (d x i)) l
def jU(n k a:Nat)(P:List Nat→Bool):Nat:=(dU n k a).countP P
theorem AZ(n k a:Nat)(h:a<n)(P:List Nat→Bool):jU n (k+1) a P=jU n k (a+1) (λs=>P (a::s))+jU n (k+1) (a+1) P:=by
 unfold jU;rw[Lc n k a h,List.countP_append,List.countP_map];rfl
theorem Xl(n k a:Nat){P Q:List Nat→Bool}(h:∀s,P s=true→Q s=true):jU n k a P≤jU n k a Q:=List.countP_mono_left λs _ d=>h s d
theorem DU(n a:Nat)(P:List Nat→Bool):jU n 0 a P=if P []then 1 else 0:=by
 unfold jU;rw[dU,List.countP_cons,List.countP_nil,axJ]
theorem HQ(n:Nat):∀(m k a:Nat)(P:List Nat→Bool),Grow P→a+m=n→(m-k)*jU n k a P≤(k+1)*jU n (k+1) a P
 |0,k,a,P,_,_=>by rw[Nat.zero_sub,Nat.zero_mul];exact axB _
 |m+1,0,a,P,d,h=>by
  rw[AZ n 0 a Om,DU,DU];have i:=HQ n m 0 (a+1) P d Om;rw[DU]at i;cases hp:P []with
  |false=>rw[aC aY];omega
  |true =>have l:P [a]=true:=d [] [a] (λx e=>by cases e) hp;rw[aF hp]at i;rw[aF rfl,aF l];omega
 |m+1,k+1,a,P,d,h=>by
  have A:=HQ n m (k+1) (a+1) P d Om;have B:=HQ n m k (a+1) (λs=>P (a::s)) (d.cons a) Om;have p:=Xl n (k+1) (a+1) (P:=P) (Q:=λs=>P (a::s)) λs u=>d s (a::s) (λx e=>List.mem_cons_of_mem _ e) u;rw[AZ n k a Om,AZ n (k+1) a Om];generalize jU n (k+1) (a+1) P=x at *
  generalize jU n (k+1+1) (a+1) P=y at *
  generalize jU n k (a+1) (λs=>P (a::s))=z at *
  generalize jU n (k+1) (a+1) (λs=>P (a::s))=w at *
  rw[show m+1-(k+1)=m-k by omega,awW,awW];have E:(m-k)*x≤(m-(k+1))*x+x:=by
   rcases axA k m with c|c
   ·rw[show m-k=(m-(k+1))+1 by omega,azQ];exact awP _
   ·rw[show m-k=0 by omega,Nat.zero_mul];exact axB _
  have e2:(k+1+1)*w=(k+1)*w+w:=azQ _ _;omega
theorem abQ{n k:Nat}{P:List Nat→Bool}(i:Grow P)(h:2*k+1≤n):jU n k 0 P≤jU n (k+1) 0 P:=by
 have d:=HQ n n k 0 P i Om;have e:(k+1)*jU n k 0 P≤(n-k)*jU n k 0 P:=axS _ Om;exact Nat.le_of_mul_le_mul_left (axT e d) Om
theorem Dz(f:aM)(u:List (List Int))(k:Nat)(set:List Int)(m:Int):gh (DE f u k) set m=jU u.length k 0 λs=>decide (((br (cI ((awU f.avA.length).filter (rN u s))) set:Nat):Int)>m):=by
 unfold gh DE jU;rw[List.countP_map];rfl
theorem Yq{f:aM}{u:List (List Int)}{k:Nat}{set:List Int}{m:Int}(h:2*k+1≤Z' u):gh (DE f u k) set m≤gh (DE f u (k+1)) set m:=by
 rw[Dz,Dz];refine abQ (λs t p y=>?_) h;have A:=of_decide_eq_true y;refine bQ ?_;have:br (cI ((awU f.avA.length).filter (rN u s))) set≤br (cI ((awU f.avA.length).filter (rN u t))) set:=by unfold br;refine List.countP_mono_left λd _ l=>?_;rw[List.contains_iff_mem]at l ⊢;unfold cI at l ⊢;rw[axG]at l ⊢;obtain⟨x,e,rfl⟩:=l;refine⟨x,?_,rfl⟩;rw[List.mem_filter]at e ⊢;refine⟨e.1,?_⟩;unfold rN at e ⊢;rw[List.any_eq_true]at e ⊢;obtain⟨-,i,hi,w⟩:=e;exact⟨i,p i hi,w⟩
 omega
def lvC(L:Int)(ds:List cX):Nat:=ds.countP λx=>decide (x.level=L)
theorem adQ(f:aM)(L:Int):((awU f.avD.length).filter λi=>decide (lvl f i=L)).length=lvC L f.avD:=by
 rw[←List.countP_eq_length_filter];unfold lvC lvl;have e:∀(ds:List cX),(awU ds.length).countP (λi=>decide ((ds.map cX.level).getD i 0=L))=ds.countP λx=>decide (x.level=L):=by
  intro ds
  induction ds with
  |nil=>rfl
  |cons d ds l =>rw[ayF,List.range_succ_eq_map,List.countP_cons,List.countP_map,List.countP_cons,←l];rfl
 exact e f.avD
theorem za:∀m:Fin 10,∀c:Fin 4,fF (m.val:Int) c.val≤512:=by decide
theorem aaH(f:aM)(lv:Int):(kK f lv).length=if lv=5 then f.avA.length else lvC lv f.avD:=by
 unfold kK;split
 ·simp
 ·rw[awL];exact adQ f lv
structure CF(f:aM):Prop where
 ok:f.Ok
 valid:lI f=true
 avA:Z' f.avA≤9
 lv:∀L:Int,1≤L→L≤4→lvC L f.avD≤8
theorem CF.num{f:aM}(h:CF f){lv:Int}(d:1≤lv)(h5:lv≤5):(kK f lv).length≤9:=by
 rw[aaH];split
 ·exact h.avA
 ·have:=h.lv lv d Om;omega
theorem CF.FF{f:aM}(h:CF f){lv:Int}(d:1≤lv)(h5:lv≤5){c:Nat}(i:1≤c)(l:c≤3):iH f lv c=0:=by
 have p:=h.num d h5;have e:=za ⟨(kK f lv).length,by omega⟩ ⟨c,by omega⟩;simp only at e;unfold iH;rw[h.valid,bQ d,bQ h5,bQ (Om:(1:Int)≤(c:Int)),bQ (Om:(c:Int)≤3),Bool.and_self,Bool.and_self,Bool.and_self,Bool.and_self,aF rfl,ayU,aC];have:=h.avA;omega
theorem CF.all{f:aM}(h:CF f){p:Int}(e:oW f p=true):HG f p=0∧ku f p=rZ f (kY f p):=by
 have d:HG f p=0:=by unfold HG;rw[e,aF rfl,aC];have:=h.avA;omega
 exact⟨d,by unfold ku;rw[aF d]⟩
theorem abG{s:List Nat}{n top:Nat}(l:Z' s=n)(p:∀x∈s,x<top)(u:s.Pairwise (· < ·)):WO (cI s) n top=true:=by
 unfold WO;rw[jB,l,bQ rfl,axN];simp only[axK,ayB];intro i hi;have d:i<Z' s:=Om;have g:(cI s).getD i 0=(s[i]:Nat):=by unfold cI;simp[axY,d]
 unfold rI;rw[g];have w:=p _ (awS d);simp only[awN,Bool.or_eq_true,decide_eq_true_eq];refine⟨by omega,?_⟩;by_cases c:i=0
 ·exact .inl c
 ·right;have e:i-1<Z' s:=Om;have g2:(cI s).getD (i-1) 0=(s[i-1]:Nat):=by unfold cI;simp[axY,e]
  rw[g2];have:=List.pairwise_iff_getElem.1 u (i-1) i e d Om;omega
theorem afI{f:aM}{p:Int}(d:oW f p=true){set:List Int}(h:set∈rZ f (kY f p)):abD f p set=true∧Z' set≤8:=by
 obtain⟨hV,-⟩:=YA d;have i:=hV.avM _ (su d).1;unfold rZ at h;rw[List.mem_filter]at h;obtain⟨l,u⟩:=h;obtain⟨s,w,rfl⟩:=axG.1 l;obtain⟨k1,k2,A⟩:=BZ _ _ _ _ w;have e:((xE (kY f p)).toNat:Int)=xE (kY f p):=by unfold xE;omega
 have:=abG k1 (λx y=>(k2 x y).2) A;rw[e]at this;refine⟨by unfold abD;rw[d,this,u];rfl,?_⟩;rw[jB,k1];unfold xE;omega
theorem CF.more{f:aM}(h:CF f){p:Int}(u:oW f p=true){lv:Int}(e:1≤lv)(h5:lv≤5){c:Nat}(l:1≤c)(y:c≤2)(w:2*c+1≤(kK f lv).length){set:List Int}(x:set∈rZ f (kY f p)) :
  JK f p set lv c=0∧JK f p set lv ((c+1:Nat):Int)=0∧U1 f p set lv c≤U1 f p set lv ((c+1:Nat):Int):=by
 have s1:=h.FF e h5 l (Om:c≤3);have s2:=h.FF e h5 (Om:1≤c+1) (Om:c+1≤3);obtain⟨i,-⟩:=afI u x;have d:JK f p set lv c=0:=by unfold JK;rw[s1,i];rfl
 have e2:JK f p set lv ((c+1:Nat):Int)=0:=by unfold JK;rw[s2,i];rfl
 refine⟨d,e2,?_⟩;unfold U1 zO;rw[aF d,aF e2,aF s1,aF s2,ayU,ayU];exact Yq w

abbrev OS:List PV:=[.aH,.aH,.aH,.bool false,.aH,.aH]
structure xc(C:Ctx):Prop where
 fleet:∀(l:List Nat),(∀x∈l,x<256)→Z' l≤9223372036854775807→∀avA avC:Nat,avA≤60→avC≤50 →
  aJ C 27 [.sl 1 (lF l),.int .i64 avA,.int .i64 avC] .nil (aQ (.agg (jV (l.take 400) avA avC 0).1.cells))
 FF:∀(f:aM)(lv cnt:Int),f.Ok→aJ C 230 [.agg f.cells,uV lv cnt] .nil (aQ (.tup [lay (zO f lv cnt),.int .i64 (iH f lv cnt)]))
theorem Sr{C:Ctx}(L:xc C)(f:aM)(l:f.Ok)(lv d:Int)(i:iH f lv d≠0) :
  DW.wp C (bD zt.res (aQ (.tup [.agg OS,.int .i64 (iH f lv d)]))) (PF.args [.agg f.cells,uV lv d,.aH]) .nil:=by
 have k1:=L.FF f lv d l;generalize iH f lv d=e at *
 simp only[go_sem,DW,qe,zt];refine aW λo p=>?_;simp only[go_sem,qf];refine aB k1 Sq ?_;simp only[go_sem,qg,fJ i,qh];refine cY (.inr rfl) (vs:=[.agg OS,.int .i64 e]) ?_ rfl;simp only[go_sem]
theorem J4{C:Ctx}(L:xc C)(f:aM)(l:f.Ok)(lv d:Int)(i:iH f lv d≠0) :
  BA.wp C (bD la.res (aQ (.bool false))) (PF.args [.agg f.cells,uV lv d,.aH,.aH]) .nil:=by
 have k1:=L.FF f lv d l;generalize iH f lv d=e at *
 simp only[go_sem,BA,ck,la,cl];refine aB k1 Sq ?_;simp only[go_sem,cn,fJ i,cp];exact jX Sq rfl
structure xz(C:Ctx):Prop extends xc C where
 solve:∀(f:aM)(lv cnt:Int),f.Ok→iH f lv cnt≠0→aJ C 333 [.agg f.cells,uV lv cnt,.aH] .nil (aQ (.tup [.agg OS,.int .i64 (iH f lv cnt)]))
 priced:∀(f:aM)(lv cnt:Int),f.Ok→iH f lv cnt≠0→aJ C 330 [.agg f.cells,uV lv cnt,.aH,.aH] .nil (aQ (.bool false))
theorem Sd{C:Ctx}(L:xz C)(f:aM)(i:f.Ok)(lv d:Int)(e:iH f lv d≠0) :
  DS.wp C (bD y9.res (aQ (.bool false))) (PF.args [.agg f.cells,uV lv d,.aH,.agg OS]) .nil:=by
 have k1:=L.priced f lv d i e;simp only[go_sem,DS,pd,y9,pe,show decide ((0:Int)>32)=false from rfl];refine aB k1 Sq ?_;simp only[go_sem,pi];exact jX (by rfl) rfl
structure W0(C:Ctx):Prop extends xz C where
 check:∀(f:aM)(lv cnt:Int),f.Ok→iH f lv cnt≠0→aJ C 334 [.agg f.cells,uV lv cnt,.aH,.agg OS] .nil (aQ (.bool false))
 bo:aJ C 332 [] .nil (aQ (.bool true))
theorem Ux{C:Ctx}(p:W0 C)(l:List Nat)(hb:∀x∈l,x<256)(H:Z' l≤9223372036854775807)(lv d:Int) :
  BL.wp C (bD TC.res (aQ (.bool true))) (PF.args [.sl 1 (lF l),.int .i64 lv,.int .i64 d]) .nil:=by
 have B:=p.fleet l hb H 14 2 aV aV;obtain⟨-,y⟩:=Ap (l.take 400) 14 2 0 aV aV;generalize(jV (l.take 400) 14 2 0).1=f at *
 have k1:=p.FF f lv d y;have k2:=p.solve f lv d y;have J:=p.priced f lv d y;have K:=p.check f lv d y;generalize iH f lv d=e at *
 simp only[go_sem,BL,fw,fx,TC];refine aB B (by simp only[go_sem];rfl) ?_;simp only[go_sem];refine aW λo M=>?_;simp only[go_sem,fy];refine aW λo8 u=>?_;have A:¬o=o8:=λe=>by rw[←e,dA]at u;cases u
 simp only[go_sem,awT,axD,or_false,forall_eq,forall_eq_or_imp,ga,A];refine aB k1 Sq ?_;by_cases c:e=0
 ·simp only[go_sem,JF,cH c,gb];refine aB p.bo Ev ?_;simp only[go_sem];exact jX Sq rfl
 ·simp only[go_sem,JF,bO c,gd,A];refine aB (k2 c) Sq ?_;simp only[go_sem];refine aW λw i=>?_;rw[iW,iW]at i;have E:¬o8=w:=λe=>i.1 e.symm;have F:¬o=w:=λe=>i.2.1 e.symm;simp only[go_sem,ge,cH (show e=e from rfl),A,E,F];refine aB (J c) Sq ?_;simp only[go_sem,A,E,F];refine aB (K c) Sq ?_;simp only[go_sem];refine aB p.bo Ev ?_;simp only[go_sem];exact jX Sq rfl
end Go.PM
