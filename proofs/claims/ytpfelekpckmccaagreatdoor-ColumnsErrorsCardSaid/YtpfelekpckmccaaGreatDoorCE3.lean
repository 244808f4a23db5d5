/-
  Texts of ours, joined. No condition.
-/
import Derived.Test.YtpfelekpckmccaaGreatDoorCE1
import Derived.Test.YtpfelekpckmccaaGreatDoorCE2
import Derived.Lib.ItoaNum
set_option linter.unusedSimpArgs false
set_option linter.unusedVariables false
open Nat renaming reduceEqDiff→γ,reduceAdd→δ,reduceSub→ε,reduceMul→ζ,reduceLT→η,reduceLeDiff→θ,reduceBEq→τ
open Int renaming reduceLT→ι,reduceLE→κ,reduceEq→μ,reduceToNat→ν,reduceAdd→ξ,reduceNeg→ο,reduceBEq→ρ,reduceBNe→σ
open List renaming reduceReplicate→υ
open List renaming length_map→awL,replicate→awO,length_append→awQ,getElem_mem→awS,mem_cons→awT,range→awU,length_singleton→awV,getElem?_eq_getElem→awX,length_take→axC,not_mem_nil→axD,take_of_length_le→axE,mem_map→axG,getElem?_map→axH,all_eq_true→axK,map_cons→axL,getElem?_eq_some_iff→axO,map_append→axQ,drop_zero→axU,getElem?_eq_none→axV,append_assoc→axX,getD_eq_getElem?_getD→axY,mem_append→ayA,mem_range→ayB,take_length→ayC,length_cons→ayF,map_nil→ayI,getElem_of_mem→ayK,length_drop→ayL,length_set→ayM,mem_of_getElem?→ayN,append_nil→ayO,getElem_map→ayR,drop_eq_getElem_cons→ayS,Sublist→ayV,mem_singleton→ayX,length_nil→azB,getElem?_append_left→azD,map_congr_left→azF,nodup_append→azG,take_succ_eq_append_getElem→azH,map_map→azL,map_take→azM,take_append_drop→azN,ext_getElem→azS,set_append_right→azT,drop_of_length_le→aAE,set_cons_zero→aAG
open Nat renaming gcd→awM,le_refl→awP,mul_add→awW,lt_or_ge→axA,zero_le→axB,mul_assoc→axI,zero_add→axJ,mul_comm→axM,add_mul→axR,mul_le_mul_right→axS,le_trans→axT,mod_eq_of_lt→axW,mod_lt→ayD,pow_succ→ayH,add_zero→ayT,add_assoc→ayY,min_eq_left→ayZ,mul_le_mul_left→azA,eq_zero_or_pos→azE,pos_of_ne_zero→azI,pow_pos→azJ,div_le_self→azO,sub_self→azP,div_lt_iff_lt_mul→azR,mul_le_mul→azY,div_add_mod→aAA,div_eq_of_lt→aAB
open Bool renaming and_eq_true→awN,false_and→awY,not_true→awZ,true_and→axN,not_false→axP,and_false→ayE,false_eq_true→ayQ,and_true→azC
open Option renaming map_some→axF,some→axZ,getD_some→azV
open Array renaming getElem?_eq_some_iff→azW
open Int renaming toNat_natCast→ayU
open List renaming length→Z'
set_option maxRecDepth 100000
set_option maxHeartbeats 800000
noncomputable section
namespace Go.PM
open Go Go.Na
structure bb(C:Ctx):Prop extends x5 C where
 ends:∀l:dE,l.Ok→ba l→aJ C 102 [.agg l.cells] .nil (aQ (.bool (uU l)))
def RC(l:dE)(i:Nat):Bool:=decide ((l.avF.getD i []).length=Z' l.start)&&(l.avF.getD i []).all jA&&!((l.avF.getD i []).map cE).getD i false
def ac(l:dE):Bool:=match tJ (l.start.map RF.v)with
 | .ok (n,a,b)=>decide (BO n a b false 1 1=0)
 | .error _=>false
theorem aiY(l:dE):tE l=(within l.start.length 1 4&&decide (Z' l.exit=Z' l.start)&&decide (Z' l.avF=Z' l.start)&&l.start.all jA&&l.exit.all jA&&(awU l.avF.length).all (RC l)&&ac l&&uU l):=rfl
theorem afK{l:List FV}{e:Int}(h:tJ l=.error e):e≠0:=by
 have:∀(l:List FV)(b:FV)(e:Int),l.foldlM lW b=.error e→e≠0:=by
  intro l
  induction l with
  |nil=>intro b e h;cases h
  |cons x t p=>
   intro b e h;rw[List.foldlM_cons]at h;cases d:lW b x with
   |error i=>
    rw[d]at h;have:i=e:=by injection h
    subst this;obtain⟨u,a1,b1⟩:=b;obtain⟨w,a2,b2⟩:=x;simp only[lW]at d;split at d
    ·split at d
     ·rw[JL d];decide
     ·split at d
      ·rw[JL d];decide
      ·rw[JL d];decide
    ·injection d with d;subst d;decide
   |ok y=>rw[d]at h;exact p y e h
 exact this l _ e h
theorem akK{l:List FV}{r:FV}(h:tJ l=.ok r):r.rf.Ok:=by
 have:∀(l:List FV)(b r:FV),b.rf.Ok→l.foldlM lW b=.ok r→r.rf.Ok:=by
  intro l
  induction l with
  |nil=>intro b r hb h;injection h with h;subst h;exact hb
  |cons x t e=>
   intro b r hb h;rw[List.foldlM_cons]at h;cases d:lW b x with
   |error i=>rw[d]at h;cases h
   |ok y=>rw[d]at h;exact e y r (Lm d) h
 refine this l _ r ⟨bG _,bG _,?_,?_⟩ h
 ·show(aK 0).length≤_;rw[iD];simp
 ·show(aK 1).length≤_;rw[pX aV aV];simp
theorem JM{neg:Bool}{a b:Nat}{r:FV}(hb:b≠0)(h:nM neg a b=.ok r):eO r.2.1 r.2.2=true:=by
 unfold nM at h;split at h
 ·cases h
 ·rename_i l;injection h with h
  subst h;have d:awM a b ∣ b:=Nat.gcd_dvd_right _ _;have e:b/awM a b≠0:=by have:=Nat.div_pos (Nat.le_of_dvd (azI hb) d) (azI λh=>hb (Nat.gcd_eq_zero_iff.1 h).2);omega
  have i:=@lG (b/awM a b);simp only[eO,awN,decide_eq_true_eq];omega
theorem Ry{x y r:FV}(h:lW x y=.ok r):eO r.2.1 r.2.2=true:=by
 obtain⟨i,a1,b1⟩:=x;obtain⟨l,a2,b2⟩:=y;simp only[lW]at h;split at h
 ·rename_i e;rw[awN]at e;have d:b1*b2≠0:=Nat.mul_ne_zero (pP.1 e.1).1 (pP.1 e.2).1;split at h
  ·exact JM d h
  ·split at h
   ·exact JM d h
   ·exact JM d h
 ·cases h
theorem Wu:eO 0 1=true:=by
 have:cS 1=1:=by rw[sY aV,mO]
 simp[eO,this,mO]
theorem V8{l:List FV}{r:FV}(h:tJ l=.ok r):eO r.2.1 r.2.2=true:=by
 have:∀(l:List FV)(b r:FV),eO b.2.1 b.2.2=true→l.foldlM lW b=.ok r→eO r.2.1 r.2.2=true:=by
  intro l
  induction l with
  |nil=>intro b r hb h;injection h with h;subst h;exact hb
  |cons x t e=>
   intro b r hb h;rw[List.foldlM_cons]at h;cases d:lW b x with
   |error i=>rw[d]at h;cases h
   |ok y=>rw[d]at h;exact e y r (Ry d) h
 exact this l _ r Wu h
theorem acF:(⟨false,[],[]⟩:RF).Ok:=⟨λ_ h=>absurd h (axD),λ_ h=>absurd h (axD),show 0≤35184372087808 by decide,show 0≤35184372087808 by decide⟩
def adK(l:dE)(k:Nat):PF:=(((((PF.nil.set 1 (.cT l.cells)).set 3 (.int .i64 (Z' l.start:Nat))).set 45 (V0 l.avF)).set 46 (.int .i64 (Z' l.avF:Nat))).set 47 (.int .i64 k))
theorem Yg{C:Ctx}(L:bb C)(l:dE)(B:l.Ok)(K:ba l)(F:PF)(A:F 1=some (.cT l.cells)) :
  aD.wp C (.seq (.region XH) (.seq (.region IS) (.seq (.region IT) (.seq (.region wK) .ret)))) (bD [.tmp 2] (cV (.bool (ac l&&uU l)))) F .nil:=by
 simp only[go_sem,XH,A];refine aB (L.tot l.start B.start) rfl ?_;obtain⟨E,x,y,e,R⟩:=SR (tJ (l.start.map RF.v));have go:∀(z:RF)(e:Int),z.Ok→(e=0→(yU z.neg (val z.num) (val z.den) false 1 1=.tup [.int .i64 (BO z.neg (val z.num) (val z.den) false 1 1),.int .i64 0])∧ac l=decide (BO z.neg (val z.num) (val z.den) false 1 1=0))→(e≠0→ac l=false) →
   frV (tJ (l.start.map RF.v))=.tup [.agg z.cells,.int .i64 e] →
   wpOps C [⟨(some 69),.mv (.tmp 72),none⟩,⟨(some 73),.extract (.tmp 69) 0,none⟩,⟨(some 74),.extract (.tmp 69) 1,none⟩,⟨(some 6),.alloc [(.bool false),.aH,.aH],none⟩,⟨none,.store 3 (.tmp 6) (.tmp 73),none⟩,⟨(some 7),.mv (.tmp 74),none⟩]
    (aD.wp C (.seq (.region IS) (.seq (.region IT) (.seq (.region wK) .ret))) (bD [.tmp 2] (cV (.bool (ac l&&uU l))))) ((((F.set 70 (.cT [frs l.start,V0 l.avF,frs l.exit])).set 71 (frs l.start))).set 72 (.tup [.agg z.cells,.int .i64 e])) .nil:=by
  intro z e O H J _;simp only[go_sem];refine aW λo6 M=>?_;simp only[go_sem,IS];refine aB (L.frac 1 1 aV aV) rfl ?_;rw[D3];simp only[go_sem,frV];refine aW λo8 p=>?_;have Q:o6≠o8:=by rintro rfl;simp only[aU,if_true]at p;cases p
  simp only[go_sem,IT,Q];refine aB (L.ord z (FV.rf (false,1,1)) O Zl) rfl ?_;rw[show val (FV.rf (false,1,1)).num=1 from bB 1,show val (FV.rf (false,1,1)).den=1 from bB 1,show(FV.rf (false,1,1)).neg=false from rfl];by_cases c:e=0
  ·obtain⟨g1,g2⟩:=H c;rw[g1,g2];by_cases d:BO z.neg (val z.num) (val z.den) false 1 1=0
   ·simp only[go_sem,wK,cH c,cH d,A];refine aB (L.ends l B K) rfl ?_;simp only[go_sem];exact bA rfl (by rw[bQ d,axN])
   ·simp only[go_sem,wK,cH c,bO d];exact bA rfl (by rw[cU d,awY])
  ·rw[J c];have:∃v w,yU z.neg (val z.num) (val z.den) false 1 1=.tup [.int .i64 v,.int .i64 w]:=by
    unfold yU;split
    ·exact⟨_,_,rfl⟩
    ·exact⟨_,_,rfl⟩
   obtain⟨v,w,u⟩:=this;rw[u];simp only[go_sem,wK,bO c];exact bA rfl rfl
 cases i:tJ (l.start.map RF.v)with
 |error e =>rw[i]at go;exact go ⟨false,[],[]⟩ e acF (λh=>absurd h (afK i)) (λ_=>by rw[ac,i]) rfl
 |ok r =>obtain⟨n,a,b⟩:=r;rw[i]at go;have N:=akK i;refine go (FV.rf (n,a,b)) 0 N (λ_=>?_) (λh=>absurd rfl h) rfl;rw[show val (FV.rf (n,a,b)).num=a from bB a,show val (FV.rf (n,a,b)).den=b from bB b,show(FV.rf (n,a,b)).neg=n from rfl];refine⟨?_,by rw[ac,i]⟩;have u:eO a b=true:=V8 i;rw[yU,u,wh];rfl
theorem aiG{C:Ctx}(L:bb C)(l:dE)(y:l.Ok):OV.wp C (bD acT.res (cV (.bool (tE l)))) (PF.args [.agg l.cells]) .nil:=by
 rw[aiY];simp only[go_sem,OV,Ng,Nh,acT,Ni,awL];refine aB (L.inn l.start.length 1 4) rfl ?_;cases N:within l.start.length 1 4 with
 |false =>simp only[go_sem,axP,AG];exact bA rfl (by simp only[awY])
 |true=>
  obtain⟨V,W⟩:=within_iff.1 N;by_cases E:Z' l.exit=Z' l.start
  ·rw[bQ E];by_cases F:Z' l.avF=Z' l.start
   ·rw[bQ F];simp only[go_sem,awZ,awL,dO (Om:(Z' l.exit:Int)=(Z' l.start:Nat)),dO (Om:(Z' l.avF:Int)=(Z' l.start:Nat))];refine aB (L.adN l.start y.start) rfl ?_;cases R:l.start.all jA with
    |false =>simp only[go_sem,axP,AG];exact bA rfl (by simp only[awY])
    |true=>
     simp only[go_sem,awZ];refine aB (L.adN l.exit y.exit) rfl ?_;cases S:l.exit.all jA with
     |false =>simp only[go_sem,axP,AG];exact bA rfl (by simp only[awY])
     |true=>
      simp only[go_sem,awZ,Nj,awL];have x:∀k (h:k<Z' l.avF),RC l k=(decide ((l.avF[k]).length=Z' l.start)&&(l.avF[k]).all jA&&!((l.avF[k]).map cE).getD k false):=by
       intro k h;have:l.avF.getD k []=l.avF[k]:=by simp[axY,h]
       rw[RC,this]
      refine wp_loop (α:=Nat) (λk=>adK l k) (λ_=>.nil) (λk=>k≤Z' l.avF∧sT (RC l) k) (λk=>Z' l.avF-k) 0 ⟨axB _,.zero⟩ ?_ a_ ?_
      ·unfold adK
       (repeat' (first|exact d_|refine c_ ?_ ?_))<;>first|(simp only[go_sem,awL]<;>rfl)|rfl
      rintro k ⟨U,M⟩;simp only[go_sem,Cc,Nk,adK];by_cases hlt:k<Z' l.avF
      ·have e:(k:Int)<(Z' l.avF:Nat):=Om;have B:(l.avF.map λr=>[frs r])[k]?=some [frs l.avF[k]]:=by simp[hlt]
       have d:=x k hlt;have u:=y.row l.avF[k] (awS hlt);simp only[go_sem,e,Nl,B,Nm,awL];by_cases H:(l.avF[k]).length=Z' l.start
       ·rw[bQ H,axN]at d;simp only[go_sem,dO (show(((l.avF[k]).length:Nat):Int)=(Z' l.start:Nat) by omega)];refine aB (L.adN _ u) rfl ?_;cases J:(l.avF[k]).all jA with
        |false =>rw[J,awY]at d;simp only[go_sem,axP,SU];refine bA (b:=false) rfl ?_;have:(awU l.avF.length).all (RC l)=false:=fG hlt d;rw[this];simp only[awY,ayE]
        |true=>
         have w:k<(l.avF[k]).length:=Om;have Q:((l.avF[k]).map RF.cells)[k]?=some ((l.avF[k])[k]).cells:=by simp[w]
         have A:((l.avF[k]).map cE).getD k false=cE (l.avF[k])[k]:=by simp[axY,w]
         rw[J,axN,A]at d;simp only[go_sem,awZ,Q];refine aB (L.wW _ (u.all _ (awS w))) rfl ?_;cases K:cE (l.avF[k])[k]with
         |true =>rw[K]at d;simp only[go_sem,SU];refine bA (b:=false) rfl ?_;have:(awU l.avF.length).all (RC l)=false:=fG hlt d;rw[this];simp only[awY,ayE]
         |false =>rw[K]at d;simp only[go_sem,Nn,wZz k];refine aP (k+1) ⟨hlt,M.step d⟩ Om ?_ a_;exact Lq
       ·simp only[cU H,awY]at d;simp only[go_sem,fJ (show(((l.avF[k]).length:Nat):Int)≠(Z' l.start:Nat) by omega),SU];refine bA (b:=false) rfl ?_;have:(awU l.avF.length).all (RC l)=false:=fG hlt d;rw[this];simp only[awY,ayE]
      ·have e:¬(k:Int)<(Z' l.avF:Nat):=Om;have:k=Z' l.avF:=Om;subst this;have p:(awU l.avF.length).all (RC l)=true:=M;have O:ba l:=⟨by omega,by omega,λr B=>by obtain⟨i,hi,rfl⟩:=ayK B;have:=axK.1 p i (ayB.2 hi);rw[x i hi]at this;simp only[awN,decide_eq_true_eq]at this;omega⟩
       have tail:=Yg L l y O;simp only[aD.wp,go_sem]at tail;rw[p];simp only[go_sem,e,axN,azC];exact tail _ rfl
   ·simp only[go_sem,awZ,awL,dO (Om:(Z' l.exit:Int)=(Z' l.start:Nat)),fJ (Om:(Z' l.avF:Int)≠(Z' l.start:Nat)),AG];exact bA rfl (by rw[cU F];simp only[awY,ayE])
  ·simp only[go_sem,awZ,awL,fJ (Om:(Z' l.exit:Int)≠(Z' l.start:Nat)),AG];exact bA rfl (by rw[cU E];simp only[awY,ayE])
structure mD(C:Ctx):Prop extends bb C where
 law:∀l:dE,l.Ok→aJ C 95 [.agg l.cells] .nil (aQ (.bool (tE l)))
 pol:∀(p:cO)(n:Nat),p.Ok→n≤4→aJ C 112 [.agg p.cells,.int .i64 n] .nil (aQ (.bool (lZ n p)))
 avJ:∀f:aM,f.Ok→aJ C 111 [.agg f.cells] .nil (aQ (.bool (qG f)))
abbrev fP(l:List (List UInt8)):List (List PV):=l.map λs=>[PV.str s]
theorem yD(l:List (List UInt8)){k:Nat}(h:k<Z' l):fP (l.take k)++[[.str l[k]]]=fP (l.take (k+1)):=by
 unfold fP;rw[azH h,axQ];rfl
theorem uD{l:List (List UInt8)}(h:Z' l≤1000):roomFor (fP l).length 1 16:=by
 unfold roomFor fP;simp only[awL,maxLen];omega
def kA{α:Type}(l:List α)(p:α→Bool)(k:Nat):Bool:=(l.take k).all p
theorem uL{α:Type}(l:List α)(p:α→Bool):kA l p 0=true:=rfl
theorem uK{α:Type}(l:List α)(p:α→Bool){k:Nat}(h:k<Z' l):kA l p (k+1)=(kA l p k&&p l[k]):=by
 unfold kA;rw[azH h,List.all_append];simp
theorem xK{α:Type}(l:List α)(p:α→Bool):kA l p l.length=l.all p:=by unfold kA;rw[ayC]
def kE(f:aM)(d e i l p:PV)(ok:Bool):PF:=(((((((PF.nil.set 1 (.cT f.cells)).set 3 (d)).set 4 (e)).set 5 (i)).set 6 (l)).set 7 (p)).set 8 (.bool ok))
structure mI(F:PF)(f:aM)(w3 w4 w5 w6 w7:PV)(ok:Bool):Prop where
 a1:F 1=some (.cT f.cells)
 a3:F 3=some w3
 a4:F 4=some w4
 a5:F 5=some w5
 a6:F 6=some w6
 a7:F 7=some w7
 a8:F 8=some (.bool ok)
theorem Uj{C:Ctx}(L:mD C)(f:aM)(Q:f.Ok)(W:Z' f.avH≤4)(B E J M:PV)(K:cJ)(F:PF)(H:PH)(l:mI F f .aH B E J M true)
  (x:F 67=some (.sl 4 (f.avH.map dE.cells))) (y:F 68=some (.int .i64 (Z' f.avH:Nat))) (A:F 69=some (.int .i64 0))
  (O:∀v N H',mI N f v B E J M (f.avH.all tE)→bX H' 1 v (fP (f.avH.map dE.name))→K (.exit 0) N H') :
  aD.wp C (.loop IX) K F H:=by
 refine wp_loop (α:=Nat × PV × PH) (λt=>(((kE f t.2.1 B E J M (kA f.avH tE t.1)).set 67 (.sl 4 (f.avH.map dE.cells))).set 68 (.int .i64 (Z' f.avH:Nat))).set 69 (.int .i64 t.1)) (λt=>t.2.2)
  (λt=>t.1≤Z' f.avH∧bX t.2.2 1 t.2.1 (fP ((f.avH.map dE.name).take t.1))) (λt=>Z' f.avH-t.1) (0,.aH,.nil) ⟨axB _,.nil⟩ ?_ a_ ?_
 ·unfold kE
  (repeat' (first|exact d_|refine c_ ?_ ?_))<;>first|(simp only[go_sem,l.a1,l.a3,l.a4,l.a5,l.a6,l.a7,l.a8,x,y,A,uL]<;>rfl)|rfl
 rintro⟨k,v,V⟩ ⟨R,w⟩;simp only at R w ⊢;simp only[go_sem,IX,N8,kE];by_cases hlt:k<Z' f.avH
 ·have e:(k:Int)<(Z' f.avH:Nat):=Om;have U:(f.avH.map dE.cells)[k]?=some (f.avH[k]).cells:=by simp[hlt]
  have u:=yD (f.avH.map dE.name) (k:=k) (by simpa using hlt);rw[ayR]at u;simp only[go_sem,e,N9,U];refine aW λo S=>?_;simp only[go_sem,Oa];refine oT w S (uD (by simp;omega)) λv' H' i p=>?_;rw[u]at i;have d:=uK f.avH tE hlt;cases hb:kA f.avH tE k with
  |false =>rw[hb,awY]at d;simp only[go_sem,l5,p,XN,wZz k];refine aP (k+1,v',H') ⟨hlt,i⟩ (by simp only;omega) ?_ b_;simp only[d];exact Lq
  |true =>rw[hb,axN]at d;simp only[go_sem,l5,p];refine aB (L.law _ (Q.law _ (awS hlt))) Ev ?_;simp only[go_sem,XN,wZz k];refine aP (k+1,v',H') ⟨hlt,i⟩ (by simp only;omega) ?_ b_;simp only[d];exact Lq
 ·have e:¬(k:Int)<(Z' f.avH:Nat):=Om;have:k=Z' f.avH:=Om;subst this;rw[axE aY]at w;rw[xK];simp only[go_sem,e];exact O v _ _ ⟨by simp only[go_sem],by simp only[go_sem],by simp only[go_sem],by simp only[go_sem],by simp only[go_sem],by simp only[go_sem],by simp only[go_sem]⟩ w
theorem DN{n:Nat}(h:n≤1000):IntKind.i64.wrap ((n:Int)-1)=(n:Int)-1:=wrap_i64 Om Om
theorem Uk{C:Ctx}(L:mD C)(f:aM)(hs:Z' f.avB≤4)(hl:Z' f.avH≤4)(u:Bool)(A B E J:PV)(K:cJ)(F:PF)(H:PH)(l:mI F f A .aH B E J u)
  (O:F 85=some (.sl 4 (f.avB.map eF.cells))) (Q:F 86=some (.int .i64 (Z' f.avB:Nat))) (R:F 87=some (.int .i64 0))
  (U:∀v p H',mI p f A v B E J (u&&f.avB.all (oI f))→bX H' 1 v (fP (f.avB.map eF.name))→K (.exit 2) p H') :
  aD.wp C (.loop IY) K F H:=by
 refine wp_loop (α:=Nat × PV × PH) (λt=>(((kE f A t.2.1 B E J (u&&kA f.avB (oI f) t.1)).set 85 (.sl 4 (f.avB.map eF.cells))).set 86 (.int .i64 (Z' f.avB:Nat))).set 87 (.int .i64 t.1)) (λt=>t.2.2)
  (λt=>t.1≤Z' f.avB∧bX t.2.2 1 t.2.1 (fP ((f.avB.map eF.name).take t.1))) (λt=>Z' f.avB-t.1) (0,.aH,.nil) ⟨axB _,.nil⟩ ?_ a_ ?_
 ·unfold kE
  (repeat' (first|exact d_|refine c_ ?_ ?_))<;>first|(simp only[go_sem,l.a1,l.a3,l.a4,l.a5,l.a6,l.a7,l.a8,O,Q,R,uL,azC]<;>rfl)|rfl
 rintro⟨k,v,Z⟩ ⟨W,M⟩;simp only at W M ⊢;simp only[go_sem,IY,C0,kE];by_cases hlt:k<Z' f.avB
 ·have d:(k:Int)<(Z' f.avB:Nat):=Om;have Y:(f.avB.map eF.cells)[k]?=some (f.avB[k]).cells:=by simp[hlt]
  have y:=yD (f.avB.map eF.name) (k:=k) (by simpa using hlt);rw[ayR]at y;simp only[go_sem,d,C1,Y];refine aW λo X=>?_;simp only[go_sem,C2];refine oT M X (uD (by simp;omega)) λv' H' w e=>?_;rw[y]at w;have i:=uK f.avB (oI f) hlt;have fin:∀(c:Bool)(p:PF),c=(u&&kA f.avB (oI f) (k+1))→((((kE f A v' B E J c).set 85 (.sl 4 (f.avB.map eF.cells))).set 86 (.int .i64 (Z' f.avB:Nat))).set 87 (.int .i64 (k+1:Nat))).le p →
    lO (λ(t:Nat × PV × PH)=>(((kE f A t.2.1 B E J (u&&kA f.avB (oI f) t.1)).set 85 (.sl 4 (f.avB.map eF.cells))).set 86 (.int .i64 (Z' f.avB:Nat))).set 87 (.int .i64 t.1)) (λ(t:Nat × PV × PH)=>t.2.2)  (λ(t:Nat × PV × PH)=>t.1≤Z' f.avB∧bX t.2.2 1 t.2.1 (fP ((f.avB.map eF.name).take t.1))) (λ(t:Nat × PV × PH)=>Z' f.avB-t.1) (Z' f.avB-k) K .normal p H':=by
   intro c p V x;refine aP (α:=Nat × PV × PH) (k+1,v',H') ⟨hlt,w⟩ (by simp only;omega) ?_ b_;rw[V]at x;exact x
  unfold kE at fin;rw[i,←Bool.and_assoc]at fin;have S:oI f f.avB[k]=(within (f.avB[k]).avQ 1 16&&within (f.avB[k]).port 1 64&&within (f.avB[k]).law 0 ((Z' f.avH:Int)-1)):=rfl;cases hb:(u&&kA f.avB (oI f) k)with
  |false =>rw[hb,awY]at fin;simp only[go_sem,XP,e,BI,wZz k];refine fin false _ rfl ?_;exact Lq
  |true=>
   rw[hb,axN]at fin;simp only[go_sem,XP,e];refine aB (L.inn _ 1 16) Ev ?_;cases N:within (f.avB[k]).avQ 1 16 with
   |false =>simp only[go_sem,BI,wZz k];refine fin false _ (by rw[S,N];simp only[awY]) ?_;exact Lq
   |true=>
    simp only[go_sem,e];refine aB (L.inn _ 1 64) Ev ?_;cases e2:within (f.avB[k]).port 1 64 with
    |false =>simp only[go_sem,BI,wZz k];refine fin false _ (by rw[S,N,e2];simp only[awY,ayE]) ?_;exact Lq
    |true =>simp only[go_sem,e,awL,DN (Om:Z' f.avH≤1000)];refine aB (L.inn _ 0 _) Ev ?_;simp only[go_sem,BI,wZz k];refine fin (within (f.avB[k]).law 0 ((Z' f.avH:Int)-1)) _ (by rw[S,N,e2];simp only[axN]) ?_;exact Lq
 ·have d:¬(k:Int)<(Z' f.avB:Nat):=Om;have:k=Z' f.avB:=Om;subst this;rw[axE aY]at M;rw[xK];simp only[go_sem,d];exact U v _ _ ⟨by simp only[go_sem],by simp only[go_sem],by simp only[go_sem],by simp only[go_sem],by simp only[go_sem],by simp only[go_sem],by simp only[go_sem]⟩ M
theorem Ul{C:Ctx}(L:mD C)(f:aM)(t:List cX)(V:Z' t≤40)(u:Bool)(A B E J:PV)(K:cJ)(F:PF)(H:PH)(e:mI F f A B .aH E J u)
  (w:F 119=some (.sl 7 (t.map cX.cells))) (x:F 120=some (.int .i64 (Z' t:Nat))) (y:F 121=some (.int .i64 0))
  (N:∀v M H',mI M f A B v E J u→bX H' 1 v (fP (t.map cX.name))→K (.exit 4) M H') :
  aD.wp C (.loop IZ) K F H:=by
 refine wp_loop (α:=Nat × PV × PH) (λa=>(((kE f A B a.2.1 E J u).set 119 (.sl 7 (t.map cX.cells))).set 120 (.int .i64 (Z' t:Nat))).set 121 (.int .i64 a.1)) (λa=>a.2.2)
  (λa=>a.1≤Z' t∧bX a.2.2 1 a.2.1 (fP ((t.map cX.name).take a.1))) (λa=>Z' t-a.1) (0,.aH,.nil) ⟨axB _,.nil⟩ ?_ a_ ?_
 ·unfold kE
  (repeat' (first|exact d_|refine c_ ?_ ?_))<;>first|(simp only[go_sem,e.a1,e.a3,e.a4,e.a5,e.a6,e.a7,e.a8,w,x,y]<;>rfl)|rfl
 rintro⟨k,v,U⟩ ⟨O,p⟩;simp only at O p ⊢;simp only[go_sem,IZ,C3,kE];by_cases hlt:k<Z' t
 ·have d:(k:Int)<(Z' t:Nat):=Om;have S:(t.map cX.cells)[k]?=some (t[k]).cells:=by simp[hlt]
  have l:=yD (t.map cX.name) (k:=k) (by simpa using hlt);rw[ayR]at l;simp only[go_sem,d,C4,S];refine aW λo Q=>?_;simp only[go_sem,C5];refine oT p Q (uD (by simp;omega)) λv' H' i R=>?_;rw[l]at i;simp only[go_sem,C6,wZz k];refine aP (k+1,v',H') ⟨hlt,i⟩ (by simp only;omega) ?_ b_;exact Lq
 ·have d:¬(k:Int)<(Z' t:Nat):=Om;have:k=Z' t:=Om;subst this;rw[axE aY]at p;simp only[go_sem,d];exact N v _ _ ⟨by simp only[go_sem],by simp only[go_sem],by simp only[go_sem],by simp only[go_sem],by simp only[go_sem],by simp only[go_sem],by simp only[go_sem]⟩ p
theorem Um{C:Ctx}(L:mD C)(f:aM)(d:List (List UInt8))(hn:Z' d≤40)(hs:Z' f.avA≤24)(hm:Z' f.avB≤4)(hd:Z' f.avD≤40)(x:Bool)(E J Y M N:PV)(K:cJ)(F:PF)(H:PH)(u:mI F f E J Y M N x)
  (h0:bX H 1 Y (fP d))
  (S:F 132=some (.sl 3 (f.avA.map dQ.cells))) (U:F 133=some (.int .i64 (Z' f.avA:Nat))) (V:F 134=some (.int .i64 0))
  (hK:∀v w H',mI w f E J v M N (x&&f.avA.all (mF f))→bX H' 1 v (fP (d++f.avA.map dQ.name))→K (.exit 6) w H') :
  aD.wp C (.loop JA) K F H:=by
 refine wp_loop (α:=Nat × PV × PH) (λt=>(((kE f E J t.2.1 M N (x&&kA f.avA (mF f) t.1)).set 132 (.sl 3 (f.avA.map dQ.cells))).set 133 (.int .i64 (Z' f.avA:Nat))).set 134 (.int .i64 t.1)) (λt=>t.2.2)
  (λt=>t.1≤Z' f.avA∧bX t.2.2 1 t.2.1 (fP (d++(f.avA.map dQ.name).take t.1))) (λt=>Z' f.avA-t.1) (0,Y,H) ⟨axB _,by rw[List.take_zero,ayO];exact h0⟩ ?_ b_ ?_
 ·unfold kE
  (repeat' (first|exact d_|refine c_ ?_ ?_))<;>first|(simp only[go_sem,u.a1,u.a3,u.a4,u.a5,u.a6,u.a7,u.a8,S,U,V,uL,azC]<;>rfl)|rfl
 rintro⟨k,v,H0⟩ ⟨hk,R⟩;simp only at hk R ⊢;simp only[go_sem,JA,C7,kE];by_cases hlt:k<Z' f.avA
 ·have e:(k:Int)<(Z' f.avA:Nat):=Om;have hr:(f.avA.map dQ.cells)[k]?=some (f.avA[k]).cells:=by simp[hlt]
  have X:fP (d++(f.avA.map dQ.name).take k)++[[.str (f.avA[k]).name]]=fP (d++(f.avA.map dQ.name).take (k+1)):=by rw[azH (by simpa using hlt),←axX,ayR];unfold fP;simp only[axQ,axL,ayI]
  simp only[go_sem,e,C8,hr];refine aW λo ho=>?_;simp only[go_sem,C9];refine oT R ho (uD (by simp;omega)) λv' H' y l=>?_;rw[X]at y;have p:=uK f.avA (mF f) hlt;have fin:∀(c:Bool)(w:PF),c=(x&&kA f.avA (mF f) (k+1))→((((kE f E J v' M N c).set 132 (.sl 3 (f.avA.map dQ.cells))).set 133 (.int .i64 (Z' f.avA:Nat))).set 134 (.int .i64 (k+1:Nat))).le w →
    lO (λ(t:Nat × PV × PH)=>(((kE f E J t.2.1 M N (x&&kA f.avA (mF f) t.1)).set 132 (.sl 3 (f.avA.map dQ.cells))).set 133 (.int .i64 (Z' f.avA:Nat))).set 134 (.int .i64 t.1)) (λ(t:Nat × PV × PH)=>t.2.2)  (λ(t:Nat × PV × PH)=>t.1≤Z' f.avA∧bX t.2.2 1 t.2.1 (fP (d++(f.avA.map dQ.name).take t.1))) (λ(t:Nat × PV × PH)=>Z' f.avA-t.1) (Z' f.avA-k) K .normal w H':=by
   intro c w hc A;refine aP (α:=Nat × PV × PH) (k+1,v',H') ⟨hlt,y⟩ (by simp only;omega) ?_ b_;rw[hc]at A;exact A
  unfold kE at fin;rw[p,←Bool.and_assoc]at fin;have i:mF f f.avA[k]=(within (f.avA[k]).model 0 ((Z' f.avB:Int)-1)&&within (f.avA[k]).machine 0 ((Z' f.avD:Int)-1)&&decide ((f.avD.map cX.level).getD (f.avA[k]).machine.toNat 0=4)):=rfl;cases hb:(x&&kA f.avA (mF f) k)with
  |false =>rw[hb,awY]at fin;simp only[go_sem,XS,l,wL,wZz k];refine fin false _ rfl ?_;exact Lq
  |true=>
   rw[hb,axN]at fin;simp only[go_sem,XS,l,awL,DN (Om:Z' f.avB≤1000)];refine aB (L.inn _ 0 _) Ev ?_;cases O:within (f.avA[k]).model 0 ((Z' f.avB:Int)-1)with
   |false =>simp only[go_sem,wL,wZz k];refine fin false _ (by rw[i,O];simp only[awY]) ?_;exact Lq
   |true=>
    simp only[go_sem,l,awL,DN (Om:Z' f.avD≤1000)];refine aB (L.inn _ 0 _) Ev ?_;cases e2:within (f.avA[k]).machine 0 ((Z' f.avD:Int)-1)with
    |false =>simp only[go_sem,wL,wZz k];refine fin false _ (by rw[i,O,e2];simp only[awY,ayE]) ?_;exact Lq
    |true=>
     obtain⟨Z,i2⟩:=within_iff.1 e2;have i3:(f.avA[k]).machine.toNat<Z' f.avD:=Om;have B:(f.avD.map cX.cells)[(f.avA[k]).machine.toNat]?=some (f.avD[(f.avA[k]).machine.toNat]).cells:=by simp[i3]
     have W:(f.avD.map cX.level).getD (f.avA[k]).machine.toNat 0=(f.avD[(f.avA[k]).machine.toNat]).level:=by simp[i3]
     rw[W]at i;by_cases Q:(f.avD[(f.avA[k]).machine.toNat]).level=4
     ·simp only[go_sem,l,Z,B,cH Q,wL,wZz k];refine fin true _ (by rw[i,O,e2,bQ Q];rfl) ?_;exact Lq
     ·simp only[go_sem,l,Z,B,bO Q,wL,wZz k];refine fin false _ (by rw[i,O,e2,cU Q];rfl) ?_;exact Lq
 ·have e:¬(k:Int)<(Z' f.avA:Nat):=Om;have:k=Z' f.avA:=Om;subst this;rw[axE aY]at R;rw[xK];simp only[go_sem,e];exact hK v _ _ ⟨by simp only[go_sem],by simp only[go_sem],by simp only[go_sem],by simp only[go_sem],by simp only[go_sem],by simp only[go_sem],by simp only[go_sem]⟩ R
theorem Un{C:Ctx}(L:mD C)(f:aM)(U:f.Ok)(hs:Z' f.avE≤4)(W:Z' f.avB≤4)(p:Bool)(A B E J:PV)(K:cJ)(F:PF)(H:PH)(i:mI F f A B E .aH J p)
  (N:F 174=some (.sl 17 (f.avE.map cO.cells))) (O:F 175=some (.int .i64 (Z' f.avE:Nat))) (Q:F 176=some (.int .i64 0))
  (R:∀v l H',mI l f A B E v J (p&&f.avE.all (lZ f.avB.length))→bX H' 1 v (fP (f.avE.map cO.name))→K (.exit 8) l H') :
  aD.wp C (.loop JB) K F H:=by
 refine wp_loop (α:=Nat × PV × PH) (λt=>(((kE f A B E t.2.1 J (p&&kA f.avE (lZ f.avB.length) t.1)).set 174 (.sl 17 (f.avE.map cO.cells))).set 175 (.int .i64 (Z' f.avE:Nat))).set 176 (.int .i64 t.1)) (λt=>t.2.2)
  (λt=>t.1≤Z' f.avE∧bX t.2.2 1 t.2.1 (fP ((f.avE.map cO.name).take t.1))) (λt=>Z' f.avE-t.1) (0,.aH,.nil) ⟨axB _,.nil⟩ ?_ a_ ?_
 ·unfold kE
  (repeat' (first|exact d_|refine c_ ?_ ?_))<;>first|(simp only[go_sem,i.a1,i.a3,i.a4,i.a5,i.a6,i.a7,i.a8,N,O,Q,uL,azC]<;>rfl)|rfl
 rintro⟨k,v,Z⟩ ⟨V,M⟩;simp only at V M ⊢;simp only[go_sem,JB,Da,kE];by_cases hlt:k<Z' f.avE
 ·have d:(k:Int)<(Z' f.avE:Nat):=Om;have Y:(f.avE.map cO.cells)[k]?=some (f.avE[k]).cells:=by simp[hlt]
  have y:=yD (f.avE.map cO.name) (k:=k) (by simpa using hlt);rw[ayR]at y;simp only[go_sem,d,Db,Y];refine aW λo X=>?_;simp only[go_sem,Dc];refine oT M X (uD (by simp;omega)) λv' H' u x=>?_;rw[y]at u;have e:=uK f.avE (lZ f.avB.length) hlt;have fin:∀(c:Bool)(l:PF),c=(p&&kA f.avE (lZ f.avB.length) (k+1))→((((kE f A B E v' J c).set 174 (.sl 17 (f.avE.map cO.cells))).set 175 (.int .i64 (Z' f.avE:Nat))).set 176 (.int .i64 (k+1:Nat))).le l →
    lO (λ(t:Nat × PV × PH)=>(((kE f A B E t.2.1 J (p&&kA f.avE (lZ f.avB.length) t.1)).set 174 (.sl 17 (f.avE.map cO.cells))).set 175 (.int .i64 (Z' f.avE:Nat))).set 176 (.int .i64 t.1)) (λ(t:Nat × PV × PH)=>t.2.2)  (λ(t:Nat × PV × PH)=>t.1≤Z' f.avE∧bX t.2.2 1 t.2.1 (fP ((f.avE.map cO.name).take t.1))) (λ(t:Nat × PV × PH)=>Z' f.avE-t.1) (Z' f.avE-k) K .normal l H':=by
   intro c l S w;refine aP (α:=Nat × PV × PH) (k+1,v',H') ⟨hlt,u⟩ (by simp only;omega) ?_ b_;rw[S]at w;exact w
  unfold kE at fin;rw[e,←Bool.and_assoc]at fin;cases hb:(p&&kA f.avE (lZ f.avB.length) k)with
  |false =>rw[hb,awY]at fin;simp only[go_sem,XU,x,XV,wZz k];refine fin false _ rfl ?_;exact Lq
  |true =>rw[hb,axN]at fin;simp only[go_sem,XU,x,awL];refine aB (L.pol _ _ (U.avM _ (awS hlt)) W) Ev ?_;simp only[go_sem,XV,wZz k];refine fin _ _ rfl ?_;exact Lq
 ·have d:¬(k:Int)<(Z' f.avE:Nat):=Om;have:k=Z' f.avE:=Om;subst this;rw[axE aY]at M;rw[xK];simp only[go_sem,d];exact R v _ _ ⟨by simp only[go_sem],by simp only[go_sem],by simp only[go_sem],by simp only[go_sem],by simp only[go_sem],by simp only[go_sem],by simp only[go_sem]⟩ M
theorem Uo{C:Ctx}(L:mD C)(f:aM)(hs:Z' f.avC≤12)(Z:Z' f.avE≤4)(p:Bool)(A B E J:PV)(K:cJ)(F:PF)(H:PH)(i:mI F f A B E J .aH p)
  (N:F 195=some (.sl 2 (f.avC.map kD.cells))) (O:F 196=some (.int .i64 (Z' f.avC:Nat))) (Q:F 197=some (.int .i64 0))
  (R:∀v l H',mI l f A B E J v (p&&f.avC.all (rD f))→bX H' 1 v (fP (f.avC.map kD.name))→K (.exit 10) l H') :
  aD.wp C (.loop JC) K F H:=by
 refine wp_loop (α:=Nat × PV × PH) (λt=>(((kE f A B E J t.2.1 (p&&kA f.avC (rD f) t.1)).set 195 (.sl 2 (f.avC.map kD.cells))).set 196 (.int .i64 (Z' f.avC:Nat))).set 197 (.int .i64 t.1)) (λt=>t.2.2)
  (λt=>t.1≤Z' f.avC∧bX t.2.2 1 t.2.1 (fP ((f.avC.map kD.name).take t.1))) (λt=>Z' f.avC-t.1) (0,.aH,.nil) ⟨axB _,.nil⟩ ?_ a_ ?_
 ·unfold kE
  (repeat' (first|exact d_|refine c_ ?_ ?_))<;>first|(simp only[go_sem,i.a1,i.a3,i.a4,i.a5,i.a6,i.a7,i.a8,N,O,Q,uL,azC]<;>rfl)|rfl
 rintro⟨k,v,Y⟩ ⟨U,M⟩;simp only at U M ⊢;simp only[go_sem,JC,Dd,kE];by_cases hlt:k<Z' f.avC
 ·have d:(k:Int)<(Z' f.avC:Nat):=Om;have X:(f.avC.map kD.cells)[k]?=some (f.avC[k]).cells:=by simp[hlt]
  have y:=yD (f.avC.map kD.name) (k:=k) (by simpa using hlt);rw[ayR]at y;simp only[go_sem,d,De,X];refine aW λo W=>?_;simp only[go_sem,Df];refine oT M W (uD (by simp;omega)) λv' H' u x=>?_;rw[y]at u;have e:=uK f.avC (rD f) hlt;have fin:∀(c:Bool)(l:PF),c=(p&&kA f.avC (rD f) (k+1))→((((kE f A B E J v' c).set 195 (.sl 2 (f.avC.map kD.cells))).set 196 (.int .i64 (Z' f.avC:Nat))).set 197 (.int .i64 (k+1:Nat))).le l →
    lO (λ(t:Nat × PV × PH)=>(((kE f A B E J t.2.1 (p&&kA f.avC (rD f) t.1)).set 195 (.sl 2 (f.avC.map kD.cells))).set 196 (.int .i64 (Z' f.avC:Nat))).set 197 (.int .i64 t.1)) (λ(t:Nat × PV × PH)=>t.2.2)  (λ(t:Nat × PV × PH)=>t.1≤Z' f.avC∧bX t.2.2 1 t.2.1 (fP ((f.avC.map kD.name).take t.1))) (λ(t:Nat × PV × PH)=>Z' f.avC-t.1) (Z' f.avC-k) K .normal l H':=by
   intro c l S w;refine aP (α:=Nat × PV × PH) (k+1,v',H') ⟨hlt,u⟩ (by simp only;omega) ?_ b_;rw[S]at w;exact w
  unfold kE at fin;rw[e,←Bool.and_assoc]at fin;have V:rD f f.avC[k]=within (f.avC[k]).avM 0 ((Z' f.avE:Int)-1):=rfl;cases hb:(p&&kA f.avC (rD f) k)with
  |false =>rw[hb,awY]at fin;simp only[go_sem,XY,x,XZ,wZz k];refine fin false _ rfl ?_;exact Lq
  |true =>rw[hb,axN,V]at fin;simp only[go_sem,XY,x,awL,DN (Om:Z' f.avE≤1000)];refine aB (L.inn _ 0 _) Ev ?_;simp only[go_sem,XZ,wZz k];refine fin _ _ rfl ?_;exact Lq
 ·have d:¬(k:Int)<(Z' f.avC:Nat):=Om;have:k=Z' f.avC:=Om;subst this;rw[axE aY]at M;rw[xK];simp only[go_sem,d];exact R v _ _ ⟨by simp only[go_sem],by simp only[go_sem],by simp only[go_sem],by simp only[go_sem],by simp only[go_sem],by simp only[go_sem],by simp only[go_sem]⟩ M
theorem oZ{f:aM}(h:¬(Z' f.avH≤4∧Z' f.avB≤4∧Z' f.avD≤40∧Z' f.avA≤24∧Z' f.avE≤4∧Z' f.avC≤12)):sR f=false:=by
 rw[←Bool.not_eq_true];intro d;simp only[sR,awN,decide_eq_true_eq]at d;omega
theorem K7{f:aM}(h:Z' f.avH≤4∧Z' f.avB≤4∧Z' f.avD≤40∧Z' f.avA≤24∧Z' f.avE≤4∧Z' f.avC≤12):sR f=within f.awE 1 4:=by
 obtain⟨d,e,i,l,h5,p⟩:=h;simp[sR,d,e,i,l,h5,p]
theorem rB{t:Nat}{n m:Int}{F:PF}{H:PH}(h:F t=some (.int .i64 n))(e:n=m):bD [.tmp t] (cV (.int .i64 m)) .ret F H:=by
 subst e;exact bF (.inr rfl) .nil (vs:=[.int .i64 n]) (by rw[mA,oX,h,qA]) a_ ⟨.refl _,rfl⟩
def wU(f:aM):Int:=if lI f then 0 else 1
theorem Wt{f:aM}(h:lI f=false):wU f=1:=by rw[wU,h];rfl
theorem wB{C:Ctx}{F:PF}{H:PH}{name t s:Nat}{v r:PV}{rows:List (List PV)}{d:Option Nat}{K:PF→PH→Prop}(h:aJ C name [.sl s rows] .nil (aQ r))(x:bX H s v rows)(p:F t=some v)
  (l:∀(e:PF)(w:PH),(∀i u,F i=some u→Pure u→e i=some u)→K (e.put d r) w):kN C name [.tmp t] [] d K F H:=by
 rcases x with⟨rfl,rfl⟩|⟨q,rs,rfl,h1,h2,h3⟩
 ·refine aB (h.V4 (.inl ⟨rfl,rfl⟩)) (by rw[BB,dt,p,SO]) ?_;exact l F H λi u hi _=>hi
 ·rw[←h3]at h;refine sB (k:=Z' rows) h p h1 h2 (l _ _ λi u hi hp=>?_);rw[sL,hi,axF,hp q s rs]
theorem Seen.pure{s:Nat}{v:PV}{rows:List (List PV)}(h:Seen s v rows):Pure v:=by
 rcases h with⟨_,rfl⟩|rfl
 ·exact λ_ _ _=>rfl
 ·exact λ_ _ _=>rfl
def bI(b:Bool):Int:=if b then 0 else 1
abbrev TH(f:aM):List (List UInt8):=(f.avD.drop 1).map cX.name++f.avA.map dQ.name
def xI(f:aM):Bool:=distinct (f.avH.map dE.name)&&distinct (f.avB.map eF.name)&&distinct (TH f)&&distinct (f.avE.map cO.name)&&distinct (f.avC.map kD.name)
structure Small(f:aM):Prop where
 avH:Z' f.avH≤4
 avB:Z' f.avB≤4
 avD:Z' f.avD≤40
 avA:Z' f.avA≤24
 avE:Z' f.avE≤4
 avC:Z' f.avC≤12
theorem DF{C:Ctx}(L:mD C){v:PV}{l:List (List UInt8)}(h:Seen 1 v (fP l))(d:Z' l≤1000):aJ C 110 [v] .nil (aQ (.bool (distinct l))):=
 (L.uniq l (Om:Z' l≤9223372036854775807)).V4 h
theorem adE{C:Ctx}(L:mD C)(f:aM)(B:Small f)(e i l p u:PV)(ok:Bool)(F:PF)(H:PH)(d:mI F f e i l p u ok)
  (x:Seen 1 e (fP (f.avH.map dE.name))) (y:Seen 1 i (fP (f.avB.map eF.name))) (h5:Seen 1 l (fP (TH f))) (A:Seen 1 p (fP (f.avE.map cO.name))) (h7:bX H 1 u (fP (f.avC.map kD.name))) :
  aD.wp C (.seq (.seq (.region BJ) (.cond (.tmp 243) (.seq (.region pM) .ret) .skip)) (.seq (.region JD) .ret)) (bD [.tmp 2] (cV (.int .i64 (bI (ok&&xI f))))) F H:=by
 obtain⟨s1,s2,s3,s4,W,X⟩:=B;have E:(f.avH.map dE.name).length≤1000:=by simp;omega
 have J:(f.avB.map eF.name).length≤1000:=by simp;omega
 have K:(TH f).length≤1000:=by simp;omega
 have M:(f.avE.map cO.name).length≤1000:=by simp;omega
 have N:(f.avC.map kD.name).length≤9223372036854775807:=by simp;omega
 cases ok with
 |false =>simp only[go_sem,BJ,d.a8,pM];exact rB rfl rfl
 |true=>
  simp only[go_sem,BJ,d.a8,d.a3];refine aB (DF L x E) rfl ?_;unfold xI;cases Q:distinct (f.avH.map dE.name)with
  |false =>simp only[go_sem,pM,axP];exact rB rfl rfl
  |true=>
   simp only[go_sem,d.a4,awZ];refine aB (DF L y J) rfl ?_;cases R:distinct (f.avB.map eF.name)with
   |false =>simp only[go_sem,pM,axP];exact rB rfl rfl
   |true=>
    simp only[go_sem,d.a5,awZ];refine aB (DF L h5 K) rfl ?_;cases S:distinct (TH f)with
    |false =>simp only[go_sem,pM,axP];exact rB rfl rfl
    |true=>
     simp only[go_sem,d.a6,awZ];refine aB (DF L A M) rfl ?_;cases U:distinct (f.avE.map cO.name)with
     |false =>simp only[go_sem,pM,axP];exact rB rfl rfl
     |true=>
      simp only[go_sem,d.a7,awZ];refine wB (L.uniq _ N) h7 rfl λw O hp=>?_;have g:w 239=some (.bool false):=hp 239 _ rfl λ_ _ _=>rfl;cases V:distinct (f.avC.map kD.name)with
      |false =>simp only[go_sem,pM,axP,g];exact rB rfl rfl
      |true =>simp only[go_sem,JD,awZ,g];exact rB rfl rfl
abbrev oe(b:Bool):cJ:=bD [.tmp 2] (cV (.int .i64 (bI b)))
def xv:aD:=.seq (.seq (.region XW) (.block 10 (.loop JC))) (.seq (.seq (.region BJ) (.cond (.tmp 243) (.seq (.region pM) .ret) .skip)) (.seq (.region JD) .ret))
def xu:aD:=.seq (.seq (.region XT) (.block 8 (.loop JB))) xv
def xt:aD:=.seq (.seq (.region XR) (.block 6 (.loop JA))) xu
def xr:aD:=.seq (.seq (.region XQ) (.block 4 (.loop IZ))) xt
def xq:aD:=.seq (.seq (.region XO) (.block 2 (.loop IY))) xr
def Ws:aD:=.seq (.seq (.region l4) (.block 0 (.loop IX))) xq
theorem aiT{C:Ctx}(L:mD C)(f:aM)(u:Small f)(i l p E:PV)(ok:Bool)(F:PF)(H:PH)(d:mI F f i l p E .aH ok)
  (y:Seen 1 i (fP (f.avH.map dE.name))) (A:Seen 1 l (fP (f.avB.map eF.name))) (h5:Seen 1 p (fP (TH f))) (N:bX H 1 E (fP (f.avE.map cO.name))) :
  aD.wp C xv (oe (ok&&f.avC.all (rD f)&&xI f)) F H:=by
 unfold xv;simp only[go_sem,XW,d.a1,awL];refine sC N λB x K M Q hp=>?_;refine Uo L f u.avC u.avE ok i l p B _ K M ⟨hp 1 _ (by simp only[go_sem,d.a1]) λ_ _ _=>rfl,hp 3 _ (by simp only[go_sem,d.a3]) y.pure,hp 4 _ (by simp only[go_sem,d.a4]) A.pure,hp 5 _ (by simp only[go_sem,d.a5]) h5.pure,Q 6 (by simp only[go_sem,d.a6]),hp 7 _ (by simp only[go_sem,d.a7]) λ_ _ _=>rfl,hp 8 _ (by simp only[go_sem,d.a8]) λ_ _ _=>rfl⟩
  (hp 195 _ rfl λ_ _ _=>rfl) (hp 196 _ rfl λ_ _ _=>rfl) (hp 197 _ rfl λ_ _ _=>rfl) λv J H' w O=>?_
 have e:=adE L f u i l p B v _ J H' w y A h5 x O;simp only[aD.wp,go_sem]at e;simp only[go_sem];exact e
theorem aiS{C:Ctx}(L:mD C)(f:aM)(M:f.Ok)(l:Small f)(e i A:PV)(ok:Bool)(F:PF)(H:PH)(d:mI F f e i A .aH .aH ok)
  (w:Seen 1 e (fP (f.avH.map dE.name))) (x:Seen 1 i (fP (f.avB.map eF.name))) (h5:bX H 1 A (fP (TH f))) :
  aD.wp C xu (oe (ok&&f.avE.all (lZ f.avB.length)&&f.avC.all (rD f)&&xI f)) F H:=by
 unfold xu;simp only[go_sem,XT,d.a1,awL];refine sC h5 λy u E J N hp=>?_;refine Un L f M l.avE l.avB ok e i y .aH _ E J ⟨hp 1 _ (by simp only[go_sem,d.a1]) λ_ _ _=>rfl,hp 3 _ (by simp only[go_sem,d.a3]) w.pure,hp 4 _ (by simp only[go_sem,d.a4]) x.pure,N 5 (by simp only[go_sem,d.a5]),hp 6 _ (by simp only[go_sem,d.a6]) λ_ _ _=>rfl,hp 7 _ (by simp only[go_sem,d.a7]) λ_ _ _=>rfl,hp 8 _ (by simp only[go_sem,d.a8]) λ_ _ _=>rfl⟩
  (hp 174 _ rfl λ_ _ _=>rfl) (hp 175 _ rfl λ_ _ _=>rfl) (hp 176 _ rfl λ_ _ _=>rfl) λv B H' p K=>?_
 simp only[go_sem];exact aiT L f l e i y v _ B H' p w x u K
theorem aiR{C:Ctx}(L:mD C)(f:aM)(B:f.Ok)(e:Small f)(i l u:PV)(ok:Bool)(F:PF)(H:PH)(d:mI F f i l u .aH .aH ok)
  (x:Seen 1 i (fP (f.avH.map dE.name))) (y:Seen 1 l (fP (f.avB.map eF.name))) (h5:bX H 1 u (fP ((f.avD.drop 1).map cX.name))) :
  aD.wp C xt (oe (ok&&f.avA.all (mF f)&&f.avE.all (lZ f.avB.length)&&f.avC.all (rD f)&&xI f)) F H:=by
 unfold xt;simp only[go_sem,XR,d.a1,awL];refine Um L f ((f.avD.drop 1).map cX.name) (by have:=e.avD;simp;omega) e.avA e.avB e.avD ok i l u .aH .aH _ _ H ⟨by simp only[go_sem,d.a1],by simp only[go_sem,d.a3],by simp only[go_sem,d.a4],by simp only[go_sem,d.a5],by simp only[go_sem,d.a6],by simp only[go_sem,d.a7],by simp only[go_sem,d.a8]⟩ h5
  rfl rfl rfl λv w H' p A=>?_
 simp only[go_sem];exact aiS L f B e i l v _ w H' p x y A
theorem aiQ{C:Ctx}(L:mD C)(f:aM)(N:f.Ok)(x:Small f)(R:0<Z' f.avD)(i A:PV)(ok:Bool)(F:PF)(H:PH)(d:mI F f i A .aH .aH .aH ok)
  (w:Seen 1 i (fP (f.avH.map dE.name))) (K:bX H 1 A (fP (f.avB.map eF.name))) :
  aD.wp C xr (oe (ok&&f.avA.all (mF f)&&f.avE.all (lZ f.avB.length)&&f.avC.all (rD f)&&xI f)) F H:=by
 unfold xr;have l:(1:Int)≤(Z' f.avD:Nat):=Om;have O:=x.avD;have e:((f.avD.map cX.cells).take f.avD.length).drop 1=(f.avD.drop 1).map cX.cells:=by rw[axE aY,List.map_drop]
 simp only[go_sem,XQ,d.a1,awL,l,ayU,e];refine sC K λy u E J Q hp=>?_;refine Ul L f (f.avD.drop 1) (by simp;omega) ok i y .aH .aH _ E J ⟨hp 1 _ (by simp only[go_sem,d.a1]) λ_ _ _=>rfl,hp 3 _ (by simp only[go_sem,d.a3]) w.pure,Q 4 (by simp only[go_sem,d.a4]),hp 5 _ (by simp only[go_sem,d.a5]) λ_ _ _=>rfl,hp 6 _ (by simp only[go_sem,d.a6]) λ_ _ _=>rfl,hp 7 _ (by simp only[go_sem,d.a7]) λ_ _ _=>rfl,hp 8 _ (by simp only[go_sem,d.a8]) λ_ _ _=>rfl⟩
  (hp 119 _ rfl λ_ _ _=>rfl) (hp 120 _ rfl λ_ _ _=>rfl) (hp 121 _ rfl λ_ _ _=>rfl) λv B H' p M=>?_
 simp only[go_sem];exact aiR L f N x i y v _ B H' p w u M
theorem aiP{C:Ctx}(L:mD C)(f:aM)(J:f.Ok)(e:Small f)(E:0<Z' f.avD)(u:PV)(ok:Bool)(F:PF)(H:PH)(d:mI F f u .aH .aH .aH .aH ok)
  (A:bX H 1 u (fP (f.avH.map dE.name))) :
  aD.wp C xq (oe (ok&&f.avB.all (oI f)&&f.avA.all (mF f)&&f.avE.all (lZ f.avB.length)&&f.avC.all (rD f)&&xI f)) F H:=by
 unfold xq;simp only[go_sem,XO,d.a1,awL];refine sC A λp l x y K hp=>?_;refine Uk L f e.avB e.avH ok p .aH .aH .aH _ x y ⟨hp 1 _ (by simp only[go_sem,d.a1]) λ_ _ _=>rfl,K 3 (by simp only[go_sem,d.a3]),hp 4 _ (by simp only[go_sem,d.a4]) λ_ _ _=>rfl,hp 5 _ (by simp only[go_sem,d.a5]) λ_ _ _=>rfl,hp 6 _ (by simp only[go_sem,d.a6]) λ_ _ _=>rfl,hp 7 _ (by simp only[go_sem,d.a7]) λ_ _ _=>rfl,hp 8 _ (by simp only[go_sem,d.a8]) λ_ _ _=>rfl⟩
  (hp 85 _ rfl λ_ _ _=>rfl) (hp 86 _ rfl λ_ _ _=>rfl) (hp 87 _ rfl λ_ _ _=>rfl) λv w H' i B=>?_
 simp only[go_sem];exact aiQ L f J e E p v _ w H' i l B
theorem aiO{C:Ctx}(L:mD C)(f:aM)(i:f.Ok)(l:Small f)(w:0<Z' f.avD)(F:PF)(H:PH)(d:mI F f .aH .aH .aH .aH .aH true) :
  aD.wp C Ws (oe (f.avH.all tE&&f.avB.all (oI f)&&f.avA.all (mF f)&&f.avE.all (lZ f.avB.length)&&f.avC.all (rD f)&&xI f)) F H:=by
 unfold Ws;simp only[go_sem,l4,d.a1,awL];refine Uj L f i l.avH .aH .aH .aH .aH _ _ H ⟨by simp only[go_sem,d.a1],by simp only[go_sem,d.a3],by simp only[go_sem,d.a4],by simp only[go_sem,d.a5],by simp only[go_sem,d.a6],by simp only[go_sem,d.a7],by simp only[go_sem,d.a8]⟩ rfl rfl rfl λv p H' e u=>?_;simp only[go_sem];exact aiP L f i l w v _ p H' e u
theorem aiN{C:Ctx}(L:mD C)(f:aM)(J:f.Ok):PB.wp C (bD adD.res (cV (.int .i64 (wU f)))) (PF.args [.agg f.cells]) .nil:=by
 have w:lI f=(sR f&&qG f&&(f.avH.all tE&&f.avB.all (oI f)&&f.avA.all (mF f)&&f.avE.all (lZ f.avB.length)&&f.avC.all (rD f))&&xI f):=rfl;simp only[go_sem,PB,N4,N5,adD];refine aB (L.inn f.awE 1 4) rfl ?_;have d:∀(F:PF)(H:PH),lI f=false→F 2=some (.int .i64 1)→bD [.tmp 2] (cV (.int .i64 (wU f))) .ret F H:=λF H N O=>rB O (Wt N).symm;cases E:within f.awE 1 4 with
 |false=>
  have:sR f=false:=by simp[sR,E]
  simp only[go_sem,axP,rP];exact d _ _ (by rw[w,this];simp only[awY]) rfl
 |true=>
  by_cases s1:Z' f.avH≤4
  ·have i:¬(Z' f.avH:Int)>4:=Om;by_cases s2:Z' f.avB≤4
   ·have l:¬(Z' f.avB:Int)>4:=Om;by_cases s3:Z' f.avD≤40
    ·have p:¬(Z' f.avD:Int)>40:=Om;by_cases s4:Z' f.avA≤24
     ·have u:¬(Z' f.avA:Int)>24:=Om;by_cases K:Z' f.avE≤4
      ·have x:¬(Z' f.avE:Int)>4:=Om;by_cases M:Z' f.avC≤12
       ·have y:¬(Z' f.avC:Int)>12:=Om;have A:=K7 ⟨s1,s2,s3,s4,K,M⟩;rw[E]at A;simp only[go_sem,awZ,awL,i,l,p,u,x,y];refine aB (L.avJ f J) rfl ?_;cases B:qG f with
        |false =>simp only[go_sem,axP,rP];exact d _ _ (by rw[w,B];simp only[ayE,awY]) rfl
        |true=>
         have Q:0<Z' f.avD:=by
          rcases azE f.avD.length with h|h
          ·have:f.avD=[]:=List.eq_nil_of_length_eq_zero h;rw[qG,this]at B;cases B
          ·exact h
         have S:wU f=bI (f.avH.all tE&&f.avB.all (oI f)&&f.avA.all (mF f)&&f.avE.all (lZ f.avB.length)&&f.avC.all (rD f)&&xI f):=by rw[wU,w,A,B];rfl
         rw[S];simp only[go_sem,awZ,N6,N7];have e:=λF H R=>aiO L f J ⟨s1,s2,s3,s4,K,M⟩ Q F H R;simp only[Ws,xq,xr,xt,xu,xv,aD.wp,go_sem]at e;exact e _ _ ⟨by simp only[go_sem],by simp only[go_sem],by simp only[go_sem],by simp only[go_sem],by simp only[go_sem],by simp only[go_sem],by simp only[go_sem]⟩
       ·have y:(Z' f.avC:Int)>12:=Om;simp only[go_sem,awZ,awL,i,l,p,u,x,y,rP];exact d _ _ (by rw[w,oZ Om];simp only[awY]) rfl
      ·have x:(Z' f.avE:Int)>4:=Om;simp only[go_sem,awZ,awL,i,l,p,u,x,rP];exact d _ _ (by rw[w,oZ Om];simp only[awY]) rfl
     ·have u:(Z' f.avA:Int)>24:=Om;simp only[go_sem,awZ,awL,i,l,p,u,rP];exact d _ _ (by rw[w,oZ Om];simp only[awY]) rfl
    ·have p:(Z' f.avD:Int)>40:=Om;simp only[go_sem,awZ,awL,i,l,p,rP];exact d _ _ (by rw[w,oZ Om];simp only[awY]) rfl
   ·have l:(Z' f.avB:Int)>4:=Om;simp only[go_sem,awZ,awL,i,l,rP];exact d _ _ (by rw[w,oZ Om];simp only[awY]) rfl
  ·have i:(Z' f.avH:Int)>4:=Om;simp only[go_sem,awZ,awL,i,rP];exact d _ _ (by rw[w,oZ Om];simp only[awY]) rfl
def lvl(f:aM)(i:Nat):Int:=(f.avD.map cX.level).getD i 0
def par(f:aM)(i:Nat):Int:=(f.avD.map cX.parent).getD i 0
def KX(f:aM)(i:Nat):Nat:=(par f i).toNat
def dV(f:aM)(d:Nat):Nat:=((f.avA.map dQ.machine).getD d 0).toNat
def mdl(f:aM)(d:Nat):Nat:=((f.avA.map dQ.model).getD d 0).toNat
def ext(f:aM)(d:Nat):Int:=(f.avB.map eF.avQ).getD (mdl f d) 0
def FB(f:aM)(v:Nat):Nat:=((f.avC.map kD.avM).getD v 0).toNat
def agW:cO:=⟨[],0,0,0,0,0,0,0,0,[],[],⟨false,[],[]⟩,⟨false,[],[]⟩⟩
def LC(f:aM)(v:Nat):cO:=f.avE.getD (FB f v) agW
def upN(f:aM):Nat→Nat→Nat
 |0,i=>i
 |k+1,i=>KX f (upN f k i)
theorem getD_at{α β:Type}{l:List α}{g:α→β}{i:Nat}{b:β}(h:i<Z' l):(l.map g).getD i b=g l[i]:=by
 simp[axY,h]
structure VF(f:aM):Prop where
 small:Small f
 root:0<Z' f.avD∧lvl f 0=0∧par f 0=-1
 dom:∀i,0<i→i<Z' f.avD→0≤par f i∧KX f i<i∧lvl f (KX f i)=lvl f i-1∧1≤lvl f i∧lvl f i≤4
 drive:∀d (h:d<Z' f.avA),0≤(f.avA[d]).model∧mdl f d<Z' f.avB∧0≤(f.avA[d]).machine∧dV f d<Z' f.avD∧lvl f (dV f d)=4
 avM:∀p∈f.avE,1≤p.k∧p.k≤6∧0≤p.m∧p.m≤4∧p.k+p.m≤8∧p.s0=0∧(∀l,0≤p.spread l∧p.spread l≤8)∧∀m∈p.avB,0≤m∧m<Z' f.avB
 volume:∀v (h:v<Z' f.avC),0≤(f.avC[v]).avM∧FB f v<Z' f.avE
 model:∀m∈f.avB,1≤m.avQ∧m.avQ≤16
theorem ajY{p:cO}{n:Nat}(h:lZ n p=true):∀m∈p.avB,0≤m∧m<n:=by
 intro m e;simp only[lZ,awN]at h;obtain⟨i,hi,rfl⟩:=ayK e;have:=axK.1 h.2 i (ayB.2 hi);rw[awN]at this;have d:=within_iff.1 this.1;simp only[axY,awX hi,azV]at d;omega
theorem kp{x:Int}(d:1≤x)(e:x≤4):IntKind.i64.wrap (x-1)=x-1:=wrap_i64 Om Om
theorem VF.of{f:aM}(h:lI f=true):VF f:=by
 simp only[lI,awN]at h;obtain⟨⟨⟨Q,u⟩,⟨⟨⟨N,A⟩,y⟩,B⟩,E⟩,-⟩:=h;simp only[sR,awN,decide_eq_true_eq]at Q;obtain⟨⟨⟨⟨⟨⟨s0,s1⟩,s2⟩,s3⟩,s4⟩,s5⟩,s6⟩:=Q;cases e:f.avD with
 |nil=>rw[qG,e]at u;cases u
 |cons r t=>
  rw[qG,e]at u;simp only[SL,awN,decide_eq_true_eq]at u;obtain⟨⟨⟨⟨⟨⟨r1,r2⟩,r3⟩,r4⟩,r5⟩,r6⟩,x⟩:=u;have O:Z' f.avD=Z' t+1:=by rw[e];rfl
  refine⟨⟨s1,s2,s3,s4,s5,s6⟩,⟨by omega,by rw[lvl,e];exact r2,by rw[par,e];exact r3⟩,?_,?_,?_,?_,?_⟩
  ·intro i h0 hi;obtain⟨k,rfl⟩:∃k,i=k+1:=⟨i-1,by omega⟩;have H:k<Z' t:=Om;have:=axK.1 x k (ayB.2 H);rw[awX H]at this;simp only[WY,awN,decide_eq_true_eq]at this;obtain⟨⟨⟨⟨J,F⟩,K⟩,d4⟩,d5⟩:=this;obtain⟨Z,p1⟩:=within_iff.1 J;obtain⟨S,U⟩:=within_iff.1 K;have w:par f (k+1)=(t[k]).parent:=by rw[par,e];simp[axY,H]
   have e2:lvl f (k+1)=(t[k]).level:=by rw[lvl,e];simp[axY,H]
   rw[kp S U]at F;have V:lvl f (t[k]).parent.toNat=(t[k]).level-1:=F;refine⟨by rw[w];exact Z,?_,?_,by rw[e2];exact S,by rw[e2];exact U⟩
   ·rw[KX,w];omega
   ·rw[KX,w,e2];exact V
  ·intro d u;have:=axK.1 y _ (awS u);simp only[mF,awN,decide_eq_true_eq]at this;obtain⟨⟨J,F⟩,K⟩:=this;have a1:=within_iff.1 J;have a2:=within_iff.1 F;have w:mdl f d=(f.avA[d]).model.toNat:=by rw[mdl,getD_at u]
   have e2:dV f d=(f.avA[d]).machine.toNat:=by rw[dV,getD_at u]
   refine⟨a1.1,by rw[w];omega,a2.1,by rw[e2];omega,by rw[e2];exact K⟩
  ·intro p hp;have M:=axK.1 B p hp;have W:=ajY M;simp only[lZ,ZN,awN,decide_eq_true_eq,List.all_cons,List.all_nil,azC]at M;obtain⟨⟨⟨⟨⟨⟨⟨⟨k1,Y⟩,km⟩,q1⟩,z0⟩,sp⟩,-⟩,-⟩,-⟩:=M;obtain⟨g0,g1,g2,g3,g4⟩:=sp;have b1:=within_iff.1 k1;have b2:=within_iff.1 Y;have b3:=within_iff.1 g0;have b4:=within_iff.1 g1;have b5:=within_iff.1 g2;have b6:=within_iff.1 g3;have b7:=within_iff.1 g4;refine⟨b1.1,b1.2,b2.1,b2.2,km,z0,λl=>?_,W⟩;unfold cO.spread;split<;>omega
  ·intro v R;have:=axK.1 E _ (awS R);have a1:=within_iff.1 this;have w:FB f v=(f.avC[v]).avM.toNat:=by rw[FB,getD_at R]
   exact⟨a1.1,by rw[w];omega⟩
  ·intro m X;have:=axK.1 A m X;simp only[oI,awN]at this;exact within_iff.1 this.1.1
theorem RV{f:aM}(h:VF f){d:Nat}(i:d<Z' f.avA):∀{k:Nat},k≤4→upN f k (dV f d)<Z' f.avD∧lvl f (upN f k (dV f d))=4-(k:Int)
 |0,_=>⟨(h.drive d i).2.2.2.1,by rw[upN,(h.drive d i).2.2.2.2];rfl⟩
 |k+1,x=>by
  obtain⟨u,p⟩:=RV h i (k:=k) Om;have l:0<upN f k (dV f d):=by
   rcases azE (upN f k (dV f d))with e|e
   ·rw[e,h.root.2.1]at p;omega
   ·exact e
  obtain⟨g1,g2,g3,g4,w⟩:=h.dom _ l u;refine⟨by rw[upN];omega,?_⟩;rw[upN,g3,p];omega
def dR(f:aM)(d:Nat)(level:Int):Nat:=upN f (4-level.toNat) (dV f d)
def agR(f:aM)(v:Nat):Int:=(LC f v).k+(LC f v).m

theorem OI{f:aM}{d:Nat}(h:d<Z' f.avA):(f.avA.map dQ.cells)[d]?=some (f.avA[d]).cells:=by simp[h]
theorem rM{f:aM}{d:Nat}(h:d<Z' f.avD):(f.avD.map cX.cells)[d]?=some (f.avD[d]).cells:=by simp[h]
theorem gi{f:aM}{d:Nat}(h:d<Z' f.avD):(f.avD[d]).level=lvl f d:=by rw[lvl,getD_at h]
theorem G6{f:aM}{d:Nat}(h:d<Z' f.avD):(f.avD[d]).parent=par f d:=by rw[par,getD_at h]
theorem VF.Oi{f:aM}(h:VF f){d:Nat}(e:d<Z' f.avA):(f.avA[d]).machine=((dV f d:Nat):Int):=by
 have:=(h.drive d e).2.2.1;rw[dV,getD_at e];omega
theorem VF.Ys{f:aM}(h:VF f){d:Nat}(e:d<Z' f.avA):(f.avA[d]).model=((mdl f d:Nat):Int):=by
 have:=(h.drive d e).1;rw[mdl,getD_at e];omega
theorem VF.Qj{f:aM}(h:VF f){i:Nat}(d:0<i)(hi:i<Z' f.avD):par f i=((KX f i:Nat):Int):=by
 have:=(h.dom i d hi).1;rw[KX];omega
theorem aeV{f:aM}(h:VF f){v:Nat}(d:v<Z' f.avC):∃hp:FB f v<Z' f.avE,f.avE[FB f v]=LC f v:=by
 have hp:=(h.volume v d).2;exact⟨hp,by simp[LC,axY,hp]⟩
def pick(n:Nat)(p:Nat→Bool):List Int:=((awU n).filter p).map λ(i:Nat)=>(i:Int)
theorem eH(l:List Int):(bC l).length=Z' l:=by unfold bC;rw[awL]
section
variable (o s:Nat) (rs:List (List PV))
@[go_sem] theorem asB(k:IntKind)(n:Int):PV.frz o s rs (.int k n)=.int k n:=(rfl)
@[go_sem] theorem aqG(b:Bool):PV.frz o s rs (.bool b)=.bool b:=(rfl)
@[go_sem] theorem asF(l:List UInt8):PV.frz o s rs (.str l)=.str l:=(rfl)
@[go_sem] theorem aqH:PV.frz o s rs .aH=.aH:=(rfl)
@[go_sem] theorem atI(n:Nat)(r:List (List PV)):PV.frz o s rs (.sl n r)=.sl n r:=(rfl)
@[go_sem] theorem aqI(c:List PV):PV.frz o s rs (.cT c)=.cT c:=(rfl)
@[go_sem] theorem asE(q z i c:Nat):PV.frz o s rs (.ptr q z i c)=.ptr q z i c:=(rfl)
@[go_sem] theorem atH(n:Nat)(c:List PV):PV.frz o s rs (.fn n c)=.fn n c:=(rfl)
@[go_sem] theorem asC(q:Nat):PV.frz o s rs (.map q)=.map q:=(rfl)
@[go_sem] theorem asD(q z d len:Nat):PV.frz o s rs (.osl q z d len)=if q=o then(if z=s∧d+len≤rs.length then .sl s ((rs.drop d).take len)else .junk)else .osl q z d len:=(rfl)
end
def qF(s:Nat)(rows:List (List PV))(r:PV)(H:PH):Prop:=
 (rows=[]∧r=.aH∧H=PH.nil)∨∃q rs,r=.osl q s 0 rows.length∧H=PH.nil.set q (.rows s rs)∧Z' rows≤Z' rs∧rs.take rows.length=rows
theorem My(q s:Nat)(rs:List (List PV)):(PH.nil.set q (.rows s rs)).frz q s rs=PH.nil:=PH.ext λo=>by
 rw[AI];by_cases e:o=q
 ·rw[aF e];rfl
 ·rw[aC e,aU,aC e];rfl
section
variable {C:Ctx} {K:cJ} {F:PF} {H:PH} {s:Nat} {v:PV} {rows:List (List PV)}
theorem qF.over{r:PV}{H':PH}(h:qF s rows r H')(l:nF H .nil H'):bX (H.over .nil H') s r rows∧∀o x,H o=some x→(H.over .nil H') o=some x:=by
 rcases h with⟨d,i,rfl⟩|⟨q,rs,d,rfl,h3,h4⟩
 ·rw[PH.BP];exact⟨.inl ⟨d,i⟩,λo x h=>h⟩
 ·rw[PH.rA];have p:H q=none:=l q (.rows s rs) (by simp only[aU,if_true]) rfl;refine⟨.inr ⟨q,rs,d,by simp only[aU,if_true],h3,h4⟩,λo x e=>?_⟩;have:o≠q:=by rintro rfl;rw[p]at e;cases e
  simp only[aU,aC this,e]
theorem jg{t:Nat}{e:kZ}(d:e=.normal∨e=.ret)(h:bX H s v rows)(i:F t=some v):bD [.tmp t] (qF s rows) e F H:=by
 rcases h with⟨rfl,rfl⟩|⟨q,rs,rfl,h1,h2,h3⟩
 ·exact bF (vs:=[.aH]) d .nil (by rw[mA,oX,i,qA]) a_ (.inl ⟨rfl,rfl,rfl⟩)
 ·exact bF (vs:=[.osl q s 0 rows.length]) d (PH.nil.set q (.rows s rs)) (by rw[mA,oX,i,qA]) (PH.aN a_ h1) (.inr ⟨q,rs,rfl,rfl,h2,h3⟩)
theorem nt{t:Nat}{e:kZ}(d:e=.normal∨e=.ret)(i:F t=some .aH):bD [.tmp t] (qF s []) e F H:=jg d .nil i
theorem Zv{t:Nat}{e:kZ}{r:PV}{H':PH}(d:e=.normal∨e=.ret)(h:qF s rows r H')(l:F t=some r):bD [.tmp t] (qF s rows) e F (H.over .nil H'):=by
 refine bF (vs:=[r]) d H' (by rw[mA,oX,l,qA]) (λo x i=>?_) h;rw[jM,i]
theorem aJ.freeze{name:Nat}{args:List PV}(h:aJ C name args H (qF s rows)):aJ C name args H (aQ (.sl s rows)):=
 ⟨h.1,λE w vs M hW x=>(h.2 E w vs M hW x).mono λe R N=>by
  obtain⟨u,pv,B,H',rfl,d,A,y,hp⟩:=N;rcases hp with⟨rfl,rfl,rfl⟩|⟨q,rs,rfl,rfl,h3,h4⟩
  ·exact⟨u,_,B,_,rfl,d,(Co.nil s).sound A,y,rfl,rfl⟩
  ·have O:iV (PF.nil.set 0 (.osl q s 0 rows.length)) (PH.nil.set q (.rows s rs)) _ _:=.step q (s:=s) (rs:=rs) (by simp only[aU,if_true]) (.refl _ _);obtain⟨J,k1,k2,Q⟩:=O.sound d;have l:=Q (λ_=>u) (λi p hi=>by
    rw[mG]at hi;split at hi
    ·cases hi;exact A
    ·cases hi) 0 (.sl s rows) (by rw[sL,mG,aF rfl,axF,AE h3,h4])
   rw[My]at k1 k2;exact⟨u,_,J,_,rfl,k1,l,y.trans k2,rfl,rfl⟩⟩
theorem eW.of:∀{E:Env}(ps:List PV)(vs:List Value),Z' vs=Z' ps→(∀(i:Nat) p v,ps[i]?=some p→vs[i]?=some v→aX E p v)→eW E ps vs
 |_,[],[],_,_=>.nil
 |_,[],_::_,h,_=>by simp at h
 |_,_::_,[],h,_=>by simp at h
 |_,p::ps,v::vs,h,k=>.cons (k 0 p v rfl rfl) (eW.of ps vs (by simpa using h) λi q u a b=>k (i+1) q u (by simpa using a) (by simpa using b))
theorem bK.same{E:Env}{w p:World}(hW:bK E H w)(A:w.heap.size≤p.heap.size)(hb:∀b,b<w.heap.size→H b=none→p.heap[b]?=w.heap[b]?)(y:∀o x,H o=some x→p.heap[o]?=w.heap[o]?):bK E H p:=by
 have i:∀b,b<w.heap.size→p.heap[b]?=w.heap[b]?:=λb hlt=>by
  cases e:H b with
  |none=>exact hb b hlt e
  |some x=>exact y b x e
 refine⟨λb cs h=>?_,λo x h=>?_,λo n h=>?_⟩
 ·obtain⟨d,ty,fr,l⟩:=hW.g b cs h;exact⟨d,ty,fr,(i b (azW.1 l).1).trans l⟩
 ·obtain⟨d,l⟩:=hW.h o x h;exact⟨Nat.lt_of_lt_of_le d A,l.mono (.refl E) (i o d)⟩
 ·obtain⟨u,ty,fr,d,l⟩:=hW.s o n h;exact⟨u,ty,fr,(i o (azW.1 d).1).trans d,l⟩
inductive Plain:PV→Prop
 |int (k:IntKind) (n:Int):Plain (.int k n)
 |bool (b:Bool):Plain (.bool b)
 |str (l:List UInt8):Plain (.str l)
theorem Plain.rep{v:PV}(h:Plain v){E d:Env}{u:Value}(r:aX E v u):aX d v u:=by
 cases h<;>cases r
 ·exact .int _ _
 ·exact .bool _
 ·exact .str _
theorem aJ.alU{name o:Nat}{rs:List (List PV)}{args:List PV}(X:Plain v)(h:aJ C name (args.map (PV.frz o s rs)) .nil (aQ v)) :
  aJ C name args (PH.nil.set o (.rows s rs)) (λr H'=>r=v∧H'=PH.nil.set o (.rows s rs)):=by
 refine⟨h.1,λE w vs Q hW B=>?_⟩;have Y:iV (PF.args args) (PH.nil.set o (.rows s rs)) _ _:=.step o (s:=s) (rs:=rs) (by simp only[aU,if_true]) (.refl _ _);obtain⟨N,k1,k2,Z⟩:=Y.sound hW;rw[My]at k1 k2;have A:=B.len;have J:eW N (args.map (PV.frz o s rs)) vs.toList:=by
  refine eW.of _ _ (by rw[awL];exact A) λi p u hp W=>?_;have:=Z (λi=>(vs.toList[i]?).getD undef) (λj q O=>by have U:=(axO.1 O).1;have y:j<Z' vs.toList:=Om;simp only[awX y,azV];exact B.at_ j q _ O (awX y)) i p (by rw[sL,args_at,←axH];exact hp)
  simp only[W,azV]at this;exact this
 refine(h.2 N w vs (k2.env.num.trans Q) k1 J).mono λe w' S=>?_;obtain⟨u,pv,E2,H2,rfl,R,V,l,rfl,rfl⟩:=S;have d:∀b,b<w.heap.size→w'.heap[b]?=w.heap[b]?:=λb hb=>l.block b hb rfl;refine⟨u,pv,E,_,rfl,hW.same l.size (λb hb _=>d b hb) (λq x M=>d q (hW.h q x M).1),X.rep V,⟨.refl E,l.os,l.tape,l.output,l.size,λb hb _=>d b hb,λq x M=>.inl ⟨x,M⟩,λb cs hb=>.inl hb⟩,rfl,rfl⟩
theorem abX{Hs:PH}{S:Spec}{name o:Nat}{rs:List (List PV)}{vs:List PV}{R:PH→PV→PH→Prop}{args:List aO}{st:Bool}{d:Option Nat}{K:PF→PH→Prop}(p:S name vs=some ([o],R))(y:Plain v)(x:H o=some (.rows s rs))
  (h:aJ C name (vs.map (PV.frz o s rs)) .nil (aQ v)) (e:R (PH.nil.set o (.rows s rs)) v (PH.nil.set o (.rows s rs))) (i:∀r H',R (PH.nil.set o (.rows s rs)) r H'→r=v∧H'=PH.nil.set o (.rows s rs)) (u:aO.evs F args=some vs) (l:Hs.le H) (w:K (F.put d v) H) :
  dOp C Hs S st (.call name args) d K F H:=WW p x (h.alU y) e i u l w
theorem xa{name t:Nat}{R:PV→PH→Prop}{d:Option Nat}{K:PF→PH→Prop}(h:aJ C name [.sl s rows] .nil R)(x:bX H s v rows)(w:F t=some v)
  (p:∀(e:PF)(l:PH),(∀i u,F i=some u→Pure u→e i=some u)→∀r H',R r H'→nF l .nil H'→K (e.put d r) (l.over .nil H')):kN C name [.tmp t] [] d K F H:=by
 rcases x with⟨rfl,rfl⟩|⟨q,rs,rfl,h1,h2,h3⟩
 ·exact .inl ⟨[.aH],.nil,R,by rw[BB,dt,w,SO];rfl,a_,h.V4 (.inl ⟨rfl,rfl⟩),p F H λi u hi _=>hi⟩
 ·refine .inr ⟨_,_,.step q h1 (.refl _ _),[.sl s rows],.nil,R,?_,a_,h,p _ _ λi u hi hp=>?_⟩
  ·simp only[BB,SO,dt,sL,w,axF,AE h2,h3,ayO]
  ·rw[sL,hi,axF,hp q s rs]
end
theorem sn(l:List Int)(i:Nat)(x:Int):(bC l).set i [.int .i64 x]=bC (l.set i x):=by unfold bC;rw[List.map_set]
theorem UI(n:Nat):awO n [PV.int .i64 0]=bC (awO n 0):=by simp[bC]
def amL(f:aM)(e:List Int)(d:Nat):Int:=if e.length=f.avA.length then min (max (e.getD d 0) 0) (ext f d)else ext f d
def apK(f:aM)(d:List Int):List Int:=(awU f.avA.length).map (amL f d)
abbrev lay(l:List (List Int)):PV:=.sl 1 (l.map λr=>[ints r])
def arM(n:Nat)(xs:List Int):List Int:=(awU n).map λ(d:Nat)=>((xs.count (d:Int):Nat):Int)
def alV(f:aM)(l:List (List Int)):List Int:=arM f.avA.length l.flatten
structure anZ(l:List (List Int)):Prop where
 rows:Z' l≤16777216
 all:Z' l.flatten≤16777216
theorem X8(l:List (List Int)){i:Nat}(h:i<Z' l):(l.take (i+1)).flatten=(l.take i).flatten++l[i]:=by
 rw[azH h,List.flatten_append];simp only[List.flatten_cons,List.flatten_nil,ayO]
structure alF where
 kind:Int
 vol:Int
 wher:Int
abbrev alF.cells(x:alF):List PV:=[.int .i64 x.kind,.int .i64 x.vol,.int .i64 x.wher]
section
variable {C:Ctx} {F:PF} {H:PH}
theorem Wx{name:Nat}{vs cs:List PV}{r:PV}{i:PH}{args:List aO}{d:Option Nat}{K:PF→PH→Prop}(h:aJ C name (vs++cs) i (λr' H'=>r'=r∧H'=i))(l:aO.evs F args=some vs)(e:i.le H)
  (p:K (F.put d r) H):kN C name args cs d K F H:=by
 refine .inl ⟨vs++cs,i,_,by rw[l];rfl,e,h,?_⟩;rintro r' H' ⟨rfl,rfl⟩ -;rw[PH.over_self _ e];exact p
theorem bX.ne{s s':Nat}{v:PV}{rows:List (List PV)}{o:Nat}{y:List (List PV)}(h:bX H s v rows)(p:H o=some (.rows s' y))(u:s≠s'):∀l,v≠.osl o s 0 l:=by
 intro l e;rcases h with⟨_,d⟩|⟨q,rs,h1,d,_⟩
 ·rw[d]at e;cases e
 ·rw[h1]at e;injection e with i
  subst i;rw[p]at d;injection d with d
  injection d with d
  exact u d.symm
theorem bX.set{s s':Nat}{v:PV}{rows:List (List PV)}{o:Nat}{y:List (List PV)}{x:aR}(h:bX H s v rows)(l:H o=some (.rows s' y))(p:s≠s'):bX (H.set o x) s v rows:=by
 have i:=h.ne l p;rcases h with⟨d,e⟩|⟨q,rs,d,e,h3,h4⟩
 ·exact .inl ⟨d,e⟩
 ·refine .inr ⟨q,rs,d,?_,h3,h4⟩;have:q≠o:=by rintro rfl;exact i _ d
  simp only[aU,aC this,e]
def Dis(s:Nat)(v u:PV):Prop:=∀q l d e,v=.osl q s 0 l→u=.osl d s 0 e→q≠d
theorem Dis.nil{s:Nat}:Dis s .aH .aH:=λ_ _ _ _ h=>by cases h
theorem Dis.symm{s:Nat}{v u:PV}(h:Dis s v u):Dis s u v:=λq l p i d e=>(h p i q l e d).symm
end
def SY(f:aM)(i:Nat)(d:Int):Bool:=decide (0≤d)&&decide (dR f d.toNat (lvl f i)=i)
def gS(f:aM)(xs:List Int)(i:Nat):Int:=if i=0 then 0 else((xs.countP (SY f i):Nat):Int)
def nT(f:aM)(xs:List Int):List Int:=(awU f.avD.length).map (gS f xs)
def oN(f:aM)(xs:List Int)(d:Nat)(k:Nat):List Int:=(awU f.avD.length).map λi=>if 4-(k:Int)<lvl f i then gS f (xs++[(d:Int)]) i else gS f xs i
theorem acB(f:aM)(xs:List Int)(d k:Nat):(oN f xs d k).length=Z' f.avD:=by simp[oN]
theorem VF.oG{f:aM}(h:VF f){i:Nat}(hi:i<Z' f.avD):0≤lvl f i∧lvl f i≤4∧(lvl f i=0↔i=0):=by
 rcases azE i with e|e
 ·subst e;rw[h.root.2.1];simp
 ·have:=h.dom i e hi;omega
theorem Xz{f:aM}(h:VF f)(xs:List Int)(d:Nat):oN f xs d 0=nT f xs:=by
 refine azS (by simp[oN,nT]) λi l e=>?_;simp only[oN,nT,ayR,List.getElem_range];have hi:i<Z' f.avD:=by simpa[nT]using e
 have:=h.oG hi;rw[aC Om]
theorem Xy{f:aM}(h:VF f)(xs:List Int)(d:Nat):oN f xs d 4=nT f (xs++[(d:Int)]):=by
 refine azS (by simp[oN,nT]) λi p l=>?_;simp only[oN,nT,ayR,List.getElem_range];have hi:i<Z' f.avD:=by simpa[nT]using l
 have:=h.oG hi;by_cases e:i=0
 ·subst e;rw[aC Om];simp[gS]
 ·rw[aF Om]
theorem CH(f:aM)(xs:List Int)(d:Nat){i:Nat}(hi:i≠0):gS f (xs++[(d:Int)]) i=gS f xs i+if dR f d (lvl f i)=i then 1 else 0:=by
 unfold gS;rw[aC hi,aC hi,List.countP_append];by_cases h:dR f d (lvl f i)=i
 ·rw[aF h];simp[SY,h]
 ·rw[aC h];simp[SY,h]
theorem ahT{f:aM}(h:VF f)(xs:List Int){d:Nat}(y:d<Z' f.avA){k:Nat}(E:k<4) :
  (oN f xs d k)[upN f k (dV f d)]?=some (gS f xs (upN f k (dV f d))) ∧
  (oN f xs d k).set (upN f k (dV f d)) (gS f xs (upN f k (dV f d))+1)=oN f xs d (k+1):=by
 obtain⟨A,w⟩:=RV h y (k:=k) Om;constructor
 ·simp only[oN,axH,List.getElem?_range A,axF];rw[aC Om]
 ·refine azS (by simp[oN]) λi B x=>?_;have hi:i<Z' f.avD:=by simpa[oN]using x
  simp only[oN,List.getElem_set,ayR,List.getElem_range];have J:=h.oG hi;by_cases e:upN f k (dV f d)=i
  ·rw[aF e];subst e;rw[aF Om];have l:upN f k (dV f d)≠0:=by intro e;rw[e,h.root.2.1]at w;omega
   rw[CH f xs d l,dR,w];have:4-(4-(k:Int)).toNat=k:=Om;rw[this,aF rfl]
  ·rw[aC e];by_cases c:4-(k:Int)<lvl f i
   ·rw[aF c,aF Om]
   ·rw[aC c];by_cases p:4-((k+1:Nat):Int)<lvl f i
    ·rw[aF p];have u:lvl f i=4-(k:Int):=Om;have l:i≠0:=by intro e;subst e;rw[h.root.2.1]at u;omega
     rw[CH f xs d l,dR,u];have:4-(4-(k:Int)).toNat=k:=Om;rw[this,aC e];simp
    ·rw[aC p]
theorem ahS(f:aM)(xs:List Int)(i:Nat):0≤gS f xs i∧gS f xs i≤Z' xs:=by
 unfold gS;have:=List.countP_le_length (p:=SY f i) (l:=xs);split<;>omega
structure Obs where
 o5:Nat
 o7:Nat
 o8:Nat
 oD:Nat
 oB:Nat
structure Obs.Ne(o:Obs):Prop where
 a1:o.o5≠o.oD
 a2:o.o5≠o.oB
 a3:o.o7≠o.oD
 a4:o.o7≠o.oB
 a5:o.o8≠o.oD
 a6:o.o8≠o.oB
 a7:o.oD≠o.oB
structure abA(H:PH)(o:Obs)(v:Nat)(p:cO)(A:List Bool)(D B:List Int):Prop where
 h5:H o.o5=some (.rows 1 [[.int .i64 v]])
 h7:H o.o7=some (.rows 17 [p.cells])
 h8:H o.o8=some (.rows 1 (dY A))
 hD:H o.oD=some (.rows 1 (bC D))
 hB:H o.oB=some (.rows 1 (bC B))
theorem abA.keep{H H':PH}{o:Obs}{v:Nat}{p:cO}{A:List Bool}{D B:List Int}(h:abA H o v p A D B)(d:∀q s' z,3≠s'→H q=some (.rows s' z)→H' q=some (.rows s' z)):abA H' o v p A D B:=
 ⟨d _ _ _ aV h.h5,d _ _ _ aV h.h7,d _ _ _ aV h.h8,d _ _ _ aV h.hD,d _ _ _ aV h.hB⟩
def home(row:List Int)(i:Nat):Bool:=decide (row.getD i 0<0)
def eQ(f:aM)(p:cO)(i:Nat):Int:=p.spread (lvl f i).toNat
theorem NN(n:Nat):awO n [PV.bool false]=dY (marks n []):=by rw[te];simp[dY]
theorem aaX(f:aM):awO f.avD.length [PV.int .i64 0]=bC (nT f []):=by
 have:nT f []=awO f.avD.length 0:=by refine azS (by simp[nT]) λi d e=>?_;simp[nT,gS]
 rw[this,UI]
def over(f:aM)(l:List (List Int))(e:List Int)(d:Nat):Bool:=decide ((alV f l).getD d 0>(apK f e).getD d 0)
def CX:=cP [] Proofs.Tryz.f23
def Ox:=aA CX 0
def Oy:=aA CX 1
def Oz:=aA CX 2
def ml:=aA CX 3
def PR:aD:=(sq Ox (gE Oy 5 (.region Oz) (sq ml .ret)))
def aeB:bH:=⟨1,12,PR,[.tmp 2]⟩
def vE:=cP [] Proofs.Tryz.f24
def YT:=aA vE 0
def KE:=eE vE 0
def YU:=aA vE 1
def E5:=aA vE 2
def E6:=eE vE 1
def zJ:aD:=(sq YT (.seq (dq KE (.cond (Tm 18) (sq YU .ret) .skip)) (sq E5 (dq E6 .ret))))
def xm:bH:=⟨2,40,zJ,[.tmp 4]⟩
def JY:=cP [] Proofs.Tryz.f121
def Ec:=aA JY 0
def Ed:=aA JY 1
def Ee:=aA JY 2
def JX:aD:=(sq Ec (sq Ed (sq Ee .ret)))
def U5:bH:=⟨1,16,JX,[.cell 2 (some 3)]⟩
def dS:=cP [45,63,90,95] Proofs.Tryz.f63
def Oo:=aA dS 0
def Oq:=aA dS 1
def Ot:=aA dS 2
def Ou:=aA dS 3
def Ov:=aA dS 4
def Ow:=aA dS 5
def mh:=aA dS 6
def mi:=aA dS 7
def mj:=aA dS 8
def TG:=aA dS 9
def YI:=aA dS 10
def YJ:=aA dS 11
def YK:=aA dS 12
def YL:=aA dS 13
def YM:=aA dS 14
def KC:=aA dS 15
def YN:=aA dS 16
def YO:=aA dS 17
def Eu:=aA dS 18
def Ew:=aA dS 19
def Ex:=aA dS 20
def YP:=aA dS 21
def YQ:=aA dS 22
def YR:=aA dS 23
def KB:aD:=(gW Eu 68 2 YR (sq Ew (gE Ex 85 (.region YP) (.region YQ))))
def YS:=aA dS 24
def Ey:=aA dS 25
def Et:aD:=(gW Ow 22 0 Ey (sq mh (gE mi 29 (.region mj) (sq TG (sq YI (sq YJ (sq YK (gE YL 58 (.region YM) (sq KC (sq YN (.seq (dK YO 2 KB) (.region YS))))))))))))
def Ez:=aA dS 26
def PQ:aD:=(sq Oo (sq Oq (sq Ot (sq Ou (.seq (dK Ov 0 Et) (sq Ez .ret))))))
def adY:bH:=⟨2,99,PQ,[.cell 4 (some 4)]⟩
def qS:=cP [16] Proofs.Tryz.f66
def O1:=aA qS 0
def O2:=aA qS 1
def O3:=aA qS 2
def O4:=aA qS 3
def O5:=aA qS 4
def O6:=aA qS 5
def O0:aD:=(gW O4 10 0 O6 (.region O5))
def O7:=aA qS 6
def PS:aD:=(sq O1 (sq O2 (.seq (dK O3 0 O0) (sq O7 .ret))))
def aeD:bH:=⟨2,19,PS,[.tmp 4]⟩
def io:=cP [] Proofs.Tryz.f64
def E0:=aA io 0
def E4:=aA io 1
def KD:aD:=(sq E0 (sq E4 .ret))
def U8:bH:=⟨2,9,KD,[.tmp 4]⟩
def fK:=cP [60,81,113] Proofs.Tryz.f65
def Eh:=aA fK 0
def Ei:=aA fK 1
def Ej:=aA fK 2
def Ek:=aA fK 3
def JZ:=aA fK 4
def YF:=aA fK 5
def YG:=aA fK 6
def El:=aA fK 7
def Em:=eE fK 0
def En:=eE fK 1
def tt:=aA fK 8
def tu:=eE fK 2
def tv:=aA fK 9
def tw:=aA fK 10
def PO:=eE fK 3
def PP:=aA fK 11
def xX:=aA fK 12
def xW:aD:=(gW YF 28 0 xX (gE YG 32 (gE El 39 (dq Em (.draw En)) (.exit 1)) (gE tt 78 .ret (dq tu (gE tv 98 (.region tw) (dq PO (.region PP)))))))
def zH:aD:=(sq Eh (sq Ei (gE Ej 25 (.region Ek) (dK JZ 0 xW))))
def xl:bH:=⟨4,127,zH,[]⟩
def bM:=cP [40,67,148,154,176] Proofs.Tryz.f25
def tf:=aA bM 0
def tg:=aA bM 1
def th:=aA bM 2
def ti:=aA bM 3
def tj:=aA bM 4
def tk:=aA bM 5
def tp:=aA bM 6
def tq:=aA bM 7
def tr:=aA bM 8
def PN:aD:=(gW tj 29 0 tr (sq tk (sq tp (.region tq))))
def gk:=aA bM 9
def gl:=aA bM 10
def gm:=aA bM 11
def gn:=eE bM 0
def gp:=eE bM 1
def gr:=aA bM 12
def JN:aD:=(gW gm 48 2 gr (dq gn (.draw gp)))
def gs:=aA bM 13
def gt:=aA bM 14
def gv:=aA bM 15
def gw:=aA bM 16
def gx:=aA bM 17
def JQ:=aA bM 18
def zC:=eE bM 2
def zD:=eE bM 3
def zE:=aA bM 19
def zF:=aA bM 20
def JR:=aA bM 21
def gy:=aA bM 22
def gz:=aA bM 23
def ia:=aA bM 24
def JS:=aA bM 25
def zA:aD:=(gW gy 119 6 JS (sq gz (.cond (Tm 124) (.region ia) .skip)))
def JT:=aA bM 26
def JU:=aA bM 27
def JV:=aA bM 28
def JW:=aA bM 29
def zG:=aA bM 30
def ib:=aA bM 31
def JO:aD:=(gW gx 82 4 ib (sq JQ (.seq (dq zC (.draw zD)) (sq zE (sq zF (.seq (dK JR 6 zA) (sq JT (sq JU (gE JV 143 (.region JW) (.region zG))))))))))
def ic:=aA bM 32
def ie:=aA bM 33
def ig:=aA bM 34
def ii:=eE bM 4
def ij:=eE bM 5
def ik:=aA bM 35
def JP:aD:=(gW ig 163 8 ik (dq ii (.draw ij)))
def im:=aA bM 36
def EL:aD:=(sq tf (sq tg (sq th (.seq (dK ti 0 PN) (sq gk (.seq (dK gl 2 JN) (sq gs (sq gt (sq gv (.seq (dK gw 4 JO) (sq ic (.seq (dK ie 8 JP) (sq im .ret)))))))))))))
def Eb:bH:=⟨3,180,EL,[.cell 6 (some 7)]⟩
def UN:=cP [] Proofs.Tryz.f14
def ta:=aA UN 0
def tc:=aA UN 1
def EK:aD:=(sq ta (sq tc .ret))
def D2:bH:=⟨3,12,EK,[.cell 6 (some 7)]⟩
def vX:=cP [] Proofs.Tryz.f94
def Jh:=aA vX 0
def Ji:=aA vX 1
def Jj:=aA vX 2
def Jk:=aA vX 3
def Jg:aD:=(.seq (sq Jj (.cond (Tm 15) .skip (.exit 0))) (.block 1 (.region Jk)))
def au:=aA vX 4
def MI:aD:=(sq Jh (sq Ji (.seq (.block 0 (.loop Jg)) (sq au .ret))))
def Wq:bH:=⟨1,22,MI,[.tmp 2]⟩
def j5:=cP [8] Proofs.Tryz.f68
def I2:=aA j5 0
def I3:=aA j5 1
def LY:aD:=(sq I2 (sq I3 .ret))
def Wl:bH:=⟨1,10,LY,[.tmp 2]⟩
def WJ:=cP [] Proofs.Tryz.f164
def vm:=aA WJ 0
def vn:=aA WJ 1
def FX:aD:=(sq vm (sq vn .ret))
def I1:bH:=⟨1,7,FX,[.tmp 2]⟩
def jL:=cP [] Proofs.Tryz.f120
def Qr:=aA jL 0
def Qs:=aA jL 1
def Qt:=aA jL 2
def Qu:=aA jL 3
def Qv:=aA jL 4
def Qw:=aA jL 5
def Qx:=aA jL 6
def Qy:=aA jL 7
def Qz:=eE jL 0
def Q1:=aA jL 8
def Io:=eE jL 1
def Ip:=aA jL 9
def Iq:=aA jL 10
def In:aD:=(gW Qy 24 0 Iq (.seq (dq Qz (.cond (Tm 35) (sq Q1 .ret) .skip)) (dq Io (.cond (Tm 44) (sq Ip .ret) .skip))))
def Ir:=aA jL 11
def RN:aD:=(sq Qr (sq Qs (gE Qt 14 (eS Qu 19 Qv (sq Qw .ret)) (.seq (dK Qx 0 In) (sq Ir .ret)))))
def afQ:bH:=⟨2,45,RN,[.tmp 4]⟩
def bU:=cP [76] Proofs.Tryz.f165
def jw:=aA bU 0
def jx:=aA bU 1
def jy:=aA bU 2
def jz:=aA bU 3
def LQ:=aA bU 4
def LS:=aA bU 5
def LW:=aA bU 6
def j2:=aA bU 7
def j3:=aA bU 8
def j4:=aA bU 9
def VU:=aA bU 10
def VV:=aA bU 11
def FI:aD:=(gW j2 36 0 VV (sq j3 (sq j4 (.region VU))))
def FJ:=aA bU 12
def VW:=aA bU 13
def VX:=aA bU 14
def FK:=aA bU 15
def FL:=aA bU 16
def FN:=aA bU 17
def FO:=aA bU 18
def VY:=aA bU 19
def VZ:=eE bU 0
def WA:=aA bU 20
def WB:=aA bU 21
def WC:=aA bU 22
def WD:=eE bU 1
def WE:=aA bU 23
def xF:aD:=(.seq (dq WD (.cond (Tm 146) .skip (.exit 4))) (.block 5 (.region WE)))
def FP:=aA bU 24
def FQ:=aA bU 25
def WF:=aA bU 26
def WG:=aA bU 27
def WH:=aA bU 28
def WI:=aA bU 29
def FS:=aA bU 30
def xG:aD:=(gW WF 166 6 FS (sq WG (sq WH (.cond (Tm 177) (.region WI) .skip))))
def FT:=aA bU 31
def FU:=aA bU 32
def xH:aD:=(gW VY 105 2 FU (dq VZ (sq WA (gE WB 131 (.region WC) (.seq (.block 4 (.loop xF)) (sq FP (.seq (dK FQ 6 xG) (.region FT))))))))
def FW:=aA bU 33
def CA:aD:=(sq jw (eS jx 23 jy (gE jz 28 (sq LQ (sq LS (.seq (dK LW 0 FI) (sq FJ .ret)))) (sq VW (sq VX (sq FK (sq FL (sq FN (.seq (dK FO 2 xH) (sq FW .ret))))))))))
def oa:bH:=⟨2,198,CA,[.tmp 4,.tmp 5]⟩
def rC:=cP [] Proofs.Tryz.f124
def Q2:=aA rC 0
def Q3:=aA rC 1
def n9:=aA rC 2
def Q4:=aA rC 3
def Q5:=aA rC 4
def Q6:=aA rC 5
def Q7:=aA rC 6
def RP:aD:=(sq Q2 (eS Q3 14 n9 (eS Q4 18 Q5 (sq Q6 (sq Q7 .ret)))))
def udiv:bH:=⟨2,29,RP,[.tmp 4,.tmp 5,.tmp 6]⟩
def pE:=cP [] Proofs.Tryz.f123
def Q9:=aA pE 0
def Ra:=aA pE 1
def oc:=aA pE 2
def Rb:=aA pE 3
def Rc:=aA pE 4
def Re:=aA pE 5
def Rf:=aA pE 6
def Q8:aD:=(.seq (sq Rc (.cond (Tm 22) .skip (.exit 0))) (.block 1 (sq Re (.region Rf))))
def Rh:=aA pE 7
def RS:aD:=(sq Q9 (eS Ra 15 oc (sq Rb (.seq (.block 0 (.loop Q8)) (sq Rh .ret)))))
def afU:bH:=⟨2,32,RS,[.tmp 4,.tmp 5]⟩
def kM:=cP [16] Proofs.Tryz.f67
def kg:=aA kM 0
def kh:=aA kM 1
def ki:=aA kM 2
def kj:=aA kM 3
def kk:=aA kM 4
def kn:=aA kM 5
def MJ:=aA kM 6
def MK:=aA kM 7
def zT:=aA kM 8
def CC:aD:=(sq kg (sq kh (eS ki 15 kj (.seq (sq kk (sq kn (.cond (Tm 32) (sq MJ (.region MK)) .skip))) (sq zT .ret)))))
def og:bH:=⟨3,51,CC,[.cell 6 (some 3)]⟩
def zV:=cP [] Proofs.Tryz.f69
def Jr:=aA zV 0
def Js:=aA zV 1
def Jt:=aA zV 2
def Ju:=aA zV 3
def MM:aD:=(sq Jr (eS Js 4 Jt (sq Ju .ret)))
def Ww:bH:=⟨1,12,MM,[.tmp 2]⟩
def zU:=cP [] Proofs.Tryz.f27
def Jn:=aA zU 0
def Jo:=aA zU 1
def Jp:=aA zU 2
def Jq:=aA zU 3
def ML:aD:=(sq Jn (eS Jo 7 Jp (sq Jq .ret)))
def xw:bH:=⟨2,21,ML,[.cell 4 (some 3),.tmp 5]⟩
def SD:=cP [] Proofs.Tryz.f22
def Ro:=aA SD 0
def Rp:=aA SD 1
def Rq:=aA SD 2
def SC:aD:=(sq Ro (sq Rp (sq Rq .ret)))
def agH:bH:=⟨1,11,SC,[.cell 2 (some 3)]⟩
def utF(xs:List Nat)(n:Nat):PF:=((PF.nil.set 0 (aI xs)).set 3 (.int .i64 n))
theorem agE{C:Ctx}(xs:List Nat)(M:Lim xs)(N:Z' xs≤35184372087808):MI.wp C (bD Wq.res (qF 1 (aG (aK (val xs))))) (PF.args [aI xs]) .nil:=by
 simp only[go_sem,MI,Jh,Ji,Wq,awL];refine wp_loop (α:=Nat) (λn=>utF xs n) (λ_=>.nil) (λn=>n≤Z' xs∧∀j x,n≤j→xs[j]?=some x→x=0) (λn=>n) xs.length ⟨awP _,λj x w d=>?_⟩ ?_ a_ ?_
 ·rw[axV w]at d;cases d
 ·unfold utF;exact Lq
 rintro n ⟨J,B⟩;have done:(0<n→∀h:n-1<Z' xs,xs[n-1]≠0)→∀F:PF,(utF xs n).le F→aD.wp C (.seq (.region au) .ret) (bD [.tmp 2] (qF 1 (aG (aK (val xs))))) F .nil:=by
  intro h F u;have f0:F 0=some (aI xs):=u 0 _ (by unfold utF;simp only[go_sem]);have E:F 3=some (.int .i64 n):=u 3 _ (by unfold utF;simp only[go_sem]);have y:xs.take n=aK (val xs):=LO M J B λx l d=>by
   rw[awX Om]at d;injection d with d
   subst d;exact h l Om
  have H:((n:Nat):Int)≤(Z' xs:Nat):=Om;simp only[go_sem,au,f0,E,awL,H,or_true,axU];refine jN (rows:=[]) (src:=aG (aK (val xs))) .nil ?_ ?_ λv H' K _=>?_
  ·simp only[go_sem];rw[←y,←azM]
  ·unfold roomFor;rw[cD,←y,axC];simp only[azB,maxLen];omega
  ·exact jg (.inr rfl) (by simpa using K) rfl
 simp only[aD.wp,go_sem]at done;simp only[go_sem,Jg,Jj,utF];by_cases l:0<n
 ·have i:((n:Nat):Int)>0:=Om;have hlt:n-1<Z' xs:=Om;have p:=bS xs hlt;have A:IntKind.i64.wrap ((n:Int)-1)=((n-1:Nat):Int):=yG Om l;simp only[go_sem,i,A,p];by_cases c:xs[n-1]=0
  ·simp only[go_sem,cH (Om:((xs[n-1]:Nat):Int)=0),Jk,A];refine aP (n-1) ⟨by omega,λj x w d=>?_⟩ Om ?_ a_
   ·by_cases e:j=n-1
    ·subst e;rw[awX hlt]at d;injection d with d
     omega
    ·exact B j x Om d
   ·exact Lq
  ·simp only[go_sem,bO (Om:((xs[n-1]:Nat):Int)≠0)];exact done (λ_ _=>c) _ (by unfold utF;exact Lq)
 ·have i:¬((n:Nat):Int)>0:=Om;simp only[go_sem,i];exact done (λh=>absurd h l) _ (by unfold utF;exact Lq)
structure rH(C:Ctx):Prop where
 trimM:∀xs,Lim xs→Z' xs≤35184372087808→aJ C 38 [aI xs] .nil (qF 1 (aG (aK (val xs))))
theorem rH.trim{C:Ctx}(L:rH C)(xs:List Nat)(e:Lim xs)(d:Z' xs≤35184372087808):aJ C 38 [aI xs] .nil (aQ (aI (aK (val xs)))):=(L.trimM xs e d).freeze
theorem afV{C:Ctx}(L:rH C)(v:Nat)(A:v<18446744073709551616):LY.wp C (bD Wl.res (cV (aI (aK v)))) (PF.args [.int .u64 v]) .nil:=by
 have u:IntKind.u32.wrap ((v:Nat):Int)=((v%4294967296:Nat):Int):=cN v;have i:v/4294967296<4294967296:=Om;have w:IntKind.u32.wrap ((v/4294967296:Nat):Int)=((v/4294967296:Nat):Int):=by rw[cN,axW i]
 have y:Lim [v%4294967296,v/4294967296]:=by
  intro x p;simp only[awT,List.mem_nil_iff,or_false]at p;rcases p with rfl|rfl
  ·exact ayD _ aV
  ·exact i
 have d:val [v%4294967296,v/4294967296]=v:=by simp only[val,Nat.mul_zero,ayT];exact Nat.mod_add_div v 4294967296
 have e:shift .shr .u64 (v:Int) 32=some (.int .u64 ((v/4294967296:Nat):Int)):=zP;have hb:(2:Nat)*1≤16777216:=by decide
 simp only[go_sem,LY,I2,I3,Wl,u,e,w,hb];have l:=L.trim [v%4294967296,v/4294967296] y aY;rw[d]at l;refine aB l rfl ?_;simp only[go_sem];exact bF (.inr rfl) .nil rfl a_ ⟨.refl _,rfl⟩
theorem aaD{C:Ctx}(L:rH C)(xs:List Nat)(e:Lim xs)(d:Z' xs≤35184372087808):FX.wp C (bD I1.res (cV (.bool (decide (nl (val xs)>512))))) (PF.args [aI xs]) .nil:=by
 simp only[go_sem,FX,vm,vn,I1];refine aB (L.trim xs e d) rfl ?_;simp only[go_sem,awL,bP];refine bA rfl ?_;rw[decide_eq_decide];omega
theorem Sg{a b:Nat}(h:nl a<nl b):eT a b=-1:=by
 have:a<b:=by
  rcases axA a b with h'|h'
  ·exact h'
  ·have:=kR h';omega
 simp[eT,this]
theorem Sf{a b:Nat}(h:nl b<nl a):eT a b=1:=by
 have:b<a:=by
  rcases axA b a with h'|h'
  ·exact h'
  ·have:=kR h';omega
 have d:¬a<b:=Om;simp[eT,this,d]
def Wg(X Y:List Nat)(i:Int):PF:=(((PF.nil.set 0 (aI X)).set 1 (aI Y)).set 5 (.int .i64 i))
theorem akM{C:Ctx}(L:rH C)(xs ys:List Nat)(y:Lim xs)(A:Lim ys)(S:Z' xs≤35184372087808)(U:Z' ys≤35184372087808) :
  RN.wp C (bD afQ.res (aQ (.int .i64 (eT (val xs) (val ys))))) (PF.args [aI xs,aI ys]) .nil:=by
 simp only[go_sem,RN,Qr,Qs,afQ];refine aB (L.trim xs y S) Ev ?_;simp only[go_sem];refine aB (L.trim ys A U) Ev ?_;have V:=gP y;have F:=gP A;simp only[go_sem,Qt,awL,bP];by_cases l:nl (val xs)≠nl (val ys)
 ·simp only[go_sem,fJ (show((nl (val xs):Nat):Int)≠(nl (val ys):Nat) by omega),Qu];by_cases H:nl (val xs)<nl (val ys)
  ·simp only[go_sem,awL,bP,show((nl (val xs):Nat):Int)<(nl (val ys):Nat) by omega,Qv];refine cY (.inr rfl) Ev ?_;rw[Sg H];rfl
  ·simp only[go_sem,awL,bP,show ¬((nl (val xs):Nat):Int)<(nl (val ys):Nat) by omega,Qw];refine cY (.inr rfl) Ev ?_;rw[Sf Om];rfl
 replace l:=Decidable.of_not_not l;simp only[go_sem,dO (show((nl (val xs):Nat):Int)=(nl (val ys):Nat) by omega),Qx,awL,bP];have p:=bB (val xs);have u:=bB (val ys);have B:=bG (val xs);have E:=bG (val ys);generalize N:aK (val xs)=X at *
 generalize O:aK (val ys)=Y at *
 have Q:Z' X=nl (val xs):=by rw[←N];rfl
 have R:Z' Y=nl (val xs):=by rw[l,←O];rfl
 refine wp_loop (α:=Nat) (λk=>Wg X Y ((k:Int)-1)) (λ_=>.nil) (λk=>k≤nl (val xs)∧X.drop k=Y.drop k) (λk=>k) (nl (val xs)) ⟨awP _,?_⟩ ?_ a_ ?_
 ·rw[aAE Om,aAE Om]
 ·unfold Wg
  (repeat' (first|exact d_|refine c_ ?_ ?_))<;>first|(simp only[go_sem,wrap_i64 (show -9223372036854775808≤((nl (val xs):Nat):Int)-1 by omega) (show((nl (val xs):Nat):Int)-1≤9223372036854775807 by omega)]<;>rfl)|rfl
 rintro k ⟨Z,d⟩;simp only[go_sem,In,Qy,Wg];by_cases W:0<k
 ·obtain⟨m,rfl⟩:∃m,k=m+1:=⟨k-1,by omega⟩;have x:((m+1:Nat):Int)-1=(m:Int):=Om;have w:(m:Int)≥0:=Om;have e:m<Z' X:=Om;have i:m<Z' Y:=Om;simp only[go_sem,x,w];refine dH .nil gX a_ ?_;simp only[go_sem,Qz,bS X e,bS Y i];by_cases J:X[m]<Y[m]
  ·simp only[go_sem,show((X[m]:Nat):Int)<(Y[m]:Nat) by omega,Q1];refine cY (.inr rfl) Ev ?_;have:=cj B e i d J;rw[p,u]at this;simp[cR,eT,this]
  ·simp only[go_sem,show ¬((X[m]:Nat):Int)<(Y[m]:Nat) by omega];refine dH .nil gX a_ ?_;simp only[go_sem,Io,bS X e,bS Y i];by_cases K:X[m]>Y[m]
   ·simp only[go_sem,show((X[m]:Nat):Int)>(Y[m]:Nat) by omega,Ip];refine cY (.inr rfl) Ev ?_;have:=cj E i e d.symm K;rw[p,u]at this;have M:¬val xs<val ys:=Om;simp[cR,eT,this,M]
   ·simp only[go_sem,show ¬((X[m]:Nat):Int)>(Y[m]:Nat) by omega,Iq];refine aP m ⟨by omega,re e i d Om⟩ Om ?_ a_
    (repeat' (first|exact d_|refine c_ ?_ ?_))<;>first|(simp only[go_sem,wrap_i64 (Om:-9223372036854775808≤(m:Int)-1) (Om:(m:Int)-1≤9223372036854775807)]<;>rfl)|rfl
 ·have:k=0:=Om;subst this;have x:¬((0:Nat):Int)-1≥0:=by decide
  simp only[go_sem,x,Ir];refine cY (.inr rfl) Ev ?_;rw[axU,axU]at d;have:val xs=val ys:=by rw[←p,←u,d]
  simp[cR,eT,this]
theorem DJ(n:Nat):(((n:Nat):Int)==0)=decide (n=0):=by
 by_cases h:n=0
 ·subst h;rfl
 ·rw[bO Om,cU h]
structure yb(C:Ctx):Prop extends rH C where
 make:∀v:Nat,v<18446744073709551616→aJ C 35 [.int .u64 v] .nil (aQ (aI (aK v)))
 large:∀xs,Lim xs→Z' xs≤35184372087808→aJ C 41 [aI xs] .nil (aQ (.bool (decide (nl (val xs)>512))))
 cmp:∀xs ys,Lim xs→Lim ys→Z' xs≤35184372087808→Z' ys≤35184372087808→aJ C 32 [aI xs,aI ys] .nil (aQ (.int .i64 (eT (val xs) (val ys))))
def Wk(a b:Nat):PF:=((PF.nil.set 6 (aI (aK a))).set 7 (aI (aK b)))
structure bi(C:Ctx):Prop extends yb C where
 divide:∀A B:Nat,B≠0→nl A≤512→nl B≤512→aJ C 39 [aI (aK A),aI (aK B)] .nil (aQ (sD A B))
def Ua(a b:Nat):PV:=if gA a b then .tup [aI [],.int .i64 2]else .tup [aI (aK (awM a b)),.int .i64 0]
theorem akO{C:Ctx}(L:bi C)(a b:List Nat)(p:Lim a)(hb:Lim b)(w:Z' a≤35184372087808)(A:Z' b≤35184372087808) :
  RS.wp C (bD afU.res (cV (Ua (val a) (val b)))) (PF.args [aI a,aI b]) .nil:=by
 unfold Ua;simp only[go_sem,RS,Q9,Ra,afU];refine aB (L.large a p w) rfl ?_;by_cases d:nl (val a)>512
 ·simp only[go_sem,d,oc];rw[aF (by simp[gA,d])];exact lM rfl
 simp only[go_sem,d];refine aB (L.large b hb A) rfl ?_;by_cases e:nl (val b)>512
 ·simp only[go_sem,e,oc];rw[aF (by simp[gA,e])];exact lM rfl
 rw[aC (by simp[gA,d,e])];simp only[go_sem,e,Rb];refine aB (L.trim a p w) rfl ?_;simp only[go_sem];refine aB (L.trim b hb A) rfl ?_;simp only[go_sem];refine wp_loop (α:=Nat × Nat) (λt=>Wk t.1 t.2) (λ_=>.nil) (λt=>awM t.1 t.2=awM (val a) (val b)∧nl t.1≤512∧nl t.2≤512) (λt=>t.2) (val a,val b) ⟨rfl,by simp only;omega,by simp only;omega⟩ ?_ a_ ?_
 ·unfold Wk;exact Lq
 rintro⟨x,y⟩ ⟨l,B,u⟩;simp only at l B u;simp only[go_sem,Q8,Rc,Wk,bP];by_cases i:y=0
 ·subst i;have:¬((nl 0:Nat):Int)>0:=by rw[AM];decide
  simp only[go_sem,this,Rh];refine bF (vs:=[aI (aK x),.int .i64 0]) (.inr rfl) .nil rfl a_ ⟨?_,rfl⟩;rw[←l,Nat.gcd_zero_right];exact .refl _
 ·have E:nl y≠0:=λh=>i (mL.1 h);have:((nl y:Nat):Int)>0:=Om;simp only[go_sem,this,Re];refine aB (L.divide x y i Om Om) rfl ?_;simp only[go_sem,sD,Rf];have hlt:x%y<y:=ayD _ (azI i);refine aP (y,x%y) ⟨?_,u,?_⟩ hlt ?_ a_
  ·simp only;rw[←l,Nat.gcd_comm y,←Nat.gcd_rec y x,Nat.gcd_comm]
  ·have:=kR (Nat.le_of_lt hlt);simp only;omega
  ·exact Lq
theorem akN{C:Ctx}(L:bi C)(a b:List Nat)(p:Lim a)(hb:Lim b)(u:Z' a≤35184372087808)(l:Z' b≤35184372087808) :
  RP.wp C (bD udiv.res (cV (oO (val a) (val b)))) (PF.args [aI a,aI b]) .nil:=by
 unfold oO;simp only[go_sem,RP,Q2,Q3,udiv];refine aB (L.large a p u) rfl ?_;by_cases e:nl (val a)>512
 ·simp only[go_sem,e,n9];rw[aF (by simp[gA,e])];exact tT rfl
 simp only[go_sem,e];refine aB (L.large b hb l) rfl ?_;by_cases i:nl (val b)>512
 ·simp only[go_sem,i,n9];rw[aF (by simp[gA,i])];exact tT rfl
 rw[aC (by simp[gA,e,i])];simp only[go_sem,i,Q4];refine aB (L.trim b hb l) rfl ?_;simp only[go_sem,awL,bP,DJ,mL];by_cases d:val b=0
 ·rw[aF d];simp only[go_sem,bQ d,Q5];exact tT rfl
 rw[aC d];simp only[go_sem,cU d,Q6];refine aB (L.trim a p u) rfl ?_;simp only[go_sem];refine aB (L.trim b hb l) rfl ?_;simp only[go_sem];refine aB (L.divide (val a) (val b) d Om Om) rfl ?_;simp only[go_sem,sD,Q7];exact bF (.inr rfl) .nil rfl a_ ⟨.refl _,rfl⟩
def EI(neg:Bool)(a b:Nat):FV:=(neg&&decide (a/awM a b≠0),a/awM a b,b/awM a b)
structure yc(C:Ctx):Prop extends bi C where
 gcd:∀a b,Lim a→Lim b→Z' a≤35184372087808→Z' b≤35184372087808→aJ C 34 [aI a,aI b] .nil (aQ (Ua (val a) (val b)))
 div:∀a b,Lim a→Lim b→Z' a≤35184372087808→Z' b≤35184372087808→aJ C 33 [aI a,aI b] .nil (aQ (oO (val a) (val b)))
theorem vG{n:Nat}(h:nl n≤512):(aK n).length≤35184372087808:=by rw[bP];omega
theorem sx:aK 1=[1]:=pX aV aV
theorem fk{n:Nat}(h:n≠0):aK n=n%4294967296::aK (n/4294967296):=tR h
theorem BG{n:Nat}(h:n≠0):(nl n>1∨n%4294967296>1)↔n≠1:=by
 constructor
 ·rintro h1 rfl;rcases h1 with h1|h1
  ·rw[nl,sx]at h1;simp at h1
  ·omega
 ·intro h1;by_cases c:nl n>1
  ·exact .inl c
  ·have:n<4294967296^1:=(kC n 1).1 Om;rw[Nat.pow_one]at this;rw[axW this];exact .inr Om
theorem Wv{C:Ctx}(L:yc C)(neg:Bool)(a b:List Nat)(W:Lim a)(hb:Lim b)(Z:Z' a≤35184372087808)(lb:Z' b≤35184372087808)(A:nl (val a)≤512)(u:nl (val b)≤512)(B:val b≠0) :
  CC.wp C (bD og.res (cV (.agg (EI neg (val a) (val b)).rf.cells))) (PF.args [.bool neg,aI a,aI b]) .nil:=by
 have d:awM (val a) (val b)≠0:=λh=>B (Nat.eq_zero_of_gcd_eq_zero_right h);have K:awM (val a) (val b)≤val b:=Nat.gcd_le_right _ (azI B);have O:nl (awM (val a) (val b))≤512:=axT (kR K) u;have M:gA (val a) (val b)=false:=mJ A u;simp only[go_sem,CC,kg,kh,og];refine aW λo ho=>?_;simp only[go_sem];refine aB (L.trim a W Z) rfl ?_;simp only[go_sem];refine aB (L.trim b hb lb) rfl ?_;simp only[go_sem,ki,awL,bP,DJ,mL];by_cases w:val a=0
 ·simp only[go_sem,bQ w,kj];have e:(EI neg (val a) (val b)).rf=⟨false,[],[1]⟩:=by rw[w];unfold EI FV.rf;simp[iD,Nat.div_self (azI B),sx]
  rw[e];refine bF (vs:=[.agg [.bool false,.aH,aI [1]]]) (.inr rfl) .nil ?_ a_ ⟨show Co (.agg _) (.agg _)from CoL.agg (CoL.cons (.refl _) (CoL.cons (.nil 1) (CoL.cons (.refl _) .nil))),rfl⟩;simp only[go_sem];rfl
 have i:=L.gcd (aK (val a)) (aK (val b)) (bG _) (bG _) (vG A) (vG u);rw[bB,bB,Ua,M]at i;simp only[go_sem,cU w,kk];refine aB i rfl ?_;have fin:∀x y:Nat,x=val a/awM (val a) (val b)→y=val b/awM (val a) (val b)→∀(F:PF)(H:PH),F 0=some (.bool neg)→F 1=some (aI (aK x))→F 2=some (aI (aK y))→F 6=some (.ptr o 3 0 0)→H o=some (.rows 3 [[.bool false,.aH,.aH]]) →
   aD.wp C (.seq (.region zT) .ret) (bD [.cell 6 (some 3)] (cV (.agg (EI neg (val a) (val b)).rf.cells))) F H:=by
  intro x y N Y F H f0 f1 f2 f6 E;subst N;subst Y;simp only[go_sem,zT,f0,f1,f2,f6,E];have X:val a/awM (val a) (val b)≠0:=by have:=Nat.div_pos (Nat.gcd_le_left (val b) (azI w)) (azI d);omega
  have e:(EI neg (val a) (val b)).rf=⟨neg,aK (val a/awM (val a) (val b)),aK (val b/awM (val a) (val b))⟩:=by unfold EI FV.rf;simp only[X,ne_eq,not_false_eq_true,decide_true,azC]
  rw[e];refine bF (vs:=[.agg (hL neg (aK (val a/awM (val a) (val b))) (aK (val b/awM (val a) (val b))))]) (.inr rfl) .nil ?_ a_ ⟨.refl _,rfl⟩;simp only[go_sem,f6]
 simp only[aD.wp,go_sem]at fin;have J:=λx (N:nl x≤512)=>L.div (aK x) (aK (awM (val a) (val b))) (bG _) (bG _) (vG N) (vG O);simp only[bB,oO]at J;have tail:awM (val a) (val b)≠1→∀(F:PF)(H:PH),F 0=some (.bool neg)→F 1=some (aI (aK (val a)))→F 2=some (aI (aK (val b)))→F 6=some (.ptr o 3 0 0)→F 7=some (aI (aK (awM (val a) (val b))))→H o=some (.rows 3 [[.bool false,.aH,.aH]]) →
   aD.wp C (.seq (.seq (.region MJ) (.region MK)) (.seq (.region zT) .ret)) (bD [.cell 6 (some 3)] (cV (.agg (EI neg (val a) (val b)).rf.cells))) F H:=by
  intro _ F H f0 f1 f2 f6 f7 E;have S:=J (val a) A;have U:=J (val b) u;rw[mJ A O,aC d]at S;rw[mJ u O,aC d]at U;simp only[go_sem,MJ,f1,f7];refine aB S rfl ?_;simp only[go_sem,ayQ,MK,f2,f7];refine aB U rfl ?_;simp only[go_sem,ayQ];exact fin _ _ rfl rfl _ _ (by simp only[go_sem,f0]) rfl rfl (by simp only[go_sem,f6]) E
 simp only[aD.wp,go_sem]at tail;simp only[go_sem,ayQ,kn,awL,bP];by_cases Q:nl (awM (val a) (val b))>1
 ·have l:((nl (awM (val a) (val b)):Nat):Int)>1:=Om;simp only[go_sem,l];exact tail ((BG d).1 (.inl Q)) _ _ rfl rfl rfl rfl rfl Sq
 ·have l:¬((nl (awM (val a) (val b)):Nat):Int)>1:=Om;simp only[go_sem,l,fk d];by_cases R:awM (val a) (val b)%4294967296>1
  ·have p:((awM (val a) (val b)%4294967296:Nat):Int)>1:=Om;simp only[go_sem,p];exact tail ((BG d).1 (.inr R)) _ _ rfl rfl rfl rfl (by simp only[go_sem,fk d]) Sq
  ·have p:¬((awM (val a) (val b)%4294967296:Nat):Int)>1:=Om;have V:awM (val a) (val b)=1:=by
    rcases Decidable.em (awM (val a) (val b)=1)with h|h
    ·exact h
    ·rcases(BG d).2 h with h|h
     ·exact absurd h Q
     ·exact absurd h R
   simp only[go_sem,p];exact fin (val a) (val b) (by rw[V,Nat.div_one]) (by rw[V,Nat.div_one]) _ _ rfl rfl rfl rfl Sq
theorem agJ{C:Ctx}(v:Int)(l:-9223372036854775808≤v)(p:v≤9223372036854775807) :
  MM.wp C (bD Ww.res (aQ (.int .u64 (v.natAbs:Nat)))) (PF.args [.int .i64 v]) .nil:=by
 simp only[go_sem,MM,Jr,Js,Ww];by_cases c:v<0
 ·have d:IntKind.i64.wrap (v+1)=v+1:=wrap_i64 Om Om;have e2:IntKind.i64.wrap (0-(v+1))=-(v+1):=by rw[wrap_i64 Om Om];omega
  have i:IntKind.u64.wrap (IntKind.u64.wrap (-(v+1))+1)=(v.natAbs:Int):=by rw[gY,gY];omega
  simp only[go_sem,c,Jt,d,e2,i];refine cY (.inr rfl) rfl ?_;rfl
 ·have e:IntKind.u64.wrap v=(v.natAbs:Int):=by rw[gY];omega
  simp only[go_sem,c,Ju,e];refine cY (.inr rfl) rfl ?_;rfl
structure Rx(C:Ctx):Prop extends yc C where
 lowest:∀neg a b,Lim a→Lim b→Z' a≤35184372087808→Z' b≤35184372087808→nl (val a)≤512→nl (val b)≤512→val b≠0→aJ C 58 [.bool neg,aI a,aI b] .nil (aQ (.agg (EI neg (val a) (val b)).rf.cells))
 size:∀v:Int,dX v→aJ C 59 [.int .i64 v] .nil (aQ (.int .u64 (v.natAbs:Nat)))
def mkT(n d:Int):RF:=(EI (decide (n<0) != decide (d<0)) n.natAbs d.natAbs).rf
def yE(n d:Int):PV:=if d=0 then CL 3 else .tup [.agg (mkT n d).cells,.int .i64 0]
theorem agI{C:Ctx}(L:Rx C)(n d:Int)(e:dX n)(i:dX d) :
  ML.wp C (bD xw.res (cV (yE n d))) (PF.args [.int .i64 n,.int .i64 d]) .nil:=by
 simp only[go_sem,ML,Jn,Jo];refine aW λo l=>?_;unfold yE;by_cases c:d=0
 ·subst c;simp only[go_sem,Jp];refine pK ?_;simp only[go_sem,xw]
 ·rw[aC c];simp only[go_sem,bO c,Jq];refine aB (L.size n e) rfl ?_;simp only[go_sem];refine aB (L.make n.natAbs Om) rfl ?_;simp only[go_sem];refine aB (L.size d i) rfl ?_;simp only[go_sem];refine aB (L.make d.natAbs Om) rfl ?_;simp only[go_sem];have p:nl n.natAbs≤2:=qV Om;have u:nl d.natAbs≤2:=qV Om;have low:=L.lowest (decide (n<0) != decide (d<0)) (aK n.natAbs) (aK d.natAbs) (bG _) (bG _) (by rw[bP];omega) (by rw[bP];omega);rw[bB,bB]at low;have low:=low Om Om Om;refine aB low rfl ?_;simp only[go_sem];exact bF (.inr rfl) .nil (vs:=[.agg (mkT n d).cells,.int .i64 0]) (by simp only[go_sem,xw];rfl) a_ ⟨.refl _,rfl⟩
structure yd(C:Ctx):Prop extends Rx C where
 fmk:∀n d:Int,dX n→dX d→aJ C 50 [.int .i64 n,.int .i64 d] .nil (aQ (yE n d))
theorem akR{C:Ctx}(L:yd C)(n:Int)(i:dX n) :
  SC.wp C (bD agH.res (cV (.agg (mkT n 1).cells))) (PF.args [.int .i64 n]) .nil:=by
 simp only[go_sem,SC,Ro,Rp,agH];refine aW λo l=>?_;simp only[go_sem];refine aB (L.fmk n 1 i (by unfold dX;omega)) rfl ?_;unfold yE;rw[aC aV];simp only[go_sem];refine aW λp hp=>?_;have d:o≠p:=by rintro rfl;simp only[aU,if_true]at hp;cases hp
 have e:p≠o:=λh=>d h.symm;simp only[go_sem,d,Rq];refine bF (vs:=[.agg (mkT n 1).cells]) (.inr rfl) .nil ?_ a_ ⟨.refl _,rfl⟩;simp only[go_sem,e]
def aE(l:List Nat)(n a:Nat):Nat × Nat:=if l.length≤a∨n<2 then(0,a)else(l.getD a 0%n,a+1)
theorem cL(l:List Nat){n:Nat}(h:0<n)(a:Nat):(aE l n a).1<n:=by
 unfold aE;split
 ·exact h
 ·exact ayD _ h
theorem bR(l:List Nat)(n:Nat){a:Nat}(h:a≤Z' l):(aE l n a).2≤Z' l:=by
 unfold aE;split
 ·exact h
 ·simp only;omega
def fX(l:List Nat)(a:Nat):RF × Nat:=
 let x:=aE l 6 a
 let y:=aE l 8 x.2
 (mkT ((1+x.1:Nat):Int) ((1+y.1:Nat):Int),y.2)
abbrev kW:RF:=mkT 0 1
def kB(l:List Nat)(i j a:Nat):RF × Nat:=
 if j=i+1 then fX l a
 else if j=i then(kW,a)
 else let t:=aE l 3 a
  if t.1=0 then fX l t.2 else(kW,t.2)
def eA(l:List Nat)(i a:Nat):Nat→List RF × Nat
 |0=>([],a)
 |j+1=>let s:=eA l i a j
  let z:=kB l i j s.2
  (s.1++[z.1],z.2)
structure DO where
 start:List RF
 exit:List RF
 avF:List (List RF)
 left:Nat
 a:Nat
def dZ(l:List Nat)(n i:Nat)(s:DO):Nat × Nat:=if i+1<n then aE l (s.left+1) s.a else(s.left,s.a)
def fH(l:List Nat)(n i a:Nat):RF × Nat:=
 let e:=fX l a
 if i+1<n then(let t:=aE l 3 e.2;(if t.1=0 then kW else e.1,t.2))else e
def gV(l:List Nat)(n a:Nat):Nat→DO
 |0=>⟨[],[],[],8,a⟩
 |i+1=>let s:=gV l n a i
  let k:=dZ l n i s
  let e:=fH l n i k.2
  let r:=eA l i e.2 n
  ⟨s.start++[mkT (k.1:Nat) 8],s.exit++[e.1],s.avF++[r.1],s.left-k.1,r.2⟩
def sE(l:List Nat)(eQ a:Nat):dE × Nat:=
 let t:=aE l eQ a
 let s:=gV l (1+t.1) t.2 (1+t.1)
 (⟨[],s.start,s.avF,s.exit⟩,s.a)
def lN(l:List Nat)(a:Nat):Nat→List RF × Nat
 |0=>([],a)
 |k+1=>let s:=lN l a k
  let z:=fX l s.2
  (s.1++[z.1],z.2)
abbrev cB(n:Nat):List UInt8:=Lib.decDigits n
def jP(l:List Nat)(a:Nat):Nat→List dE × Nat
 |0=>([],a)
 |k+1=>let s:=jP l a k
  let z:=sE l 2 s.2
  (s.1++[{ z.1 with name:=[108,97,119]++cB k }],z.2)
def eU(l:List Nat)(avH a:Nat):Nat→List eF × Nat
 |0=>([],a)
 |k+1=>let s:=eU l avH a k
  let x:=aE l 4 s.2
  let y:=aE l 8 x.2
  let z:=aE l avH y.2
  (s.1++[⟨[109]++cB k,(1+x.1:Nat),(1+y.1:Nat),(z.1:Nat)⟩],z.2)
structure GS where
 avJ:List cX
 avT:List dQ
 a:Nat
def kV(l:List Nat)(mc avA d:Nat)(s:GS):Nat→GS
 |0=>s
 |i+1=>let s:=kV l mc avA d s i
  if s.avT.length<avA then
   let t:=aE l mc s.a
   { s with avT:=s.avT++[⟨[100]++cB s.avT.length,(t.1:Nat),(d:Nat)⟩],a:=t.2 }
  else s
def mU(level:Nat):UInt8:=match level with
 |0=>45
 |1=>115
 |2=>114
 |3=>107
 |_=>109
def oU(l:List Nat)(level d:Nat)(s:GS):GS:=
 let u:=aE l 16 s.a
 let t:=aE l 3 u.2
 let k:=aE l 6 t.2
 let sh:RF × Nat:=if t.1=0 then(mkT 1 ((2+k.1:Nat):Int),k.2)else(kW,t.2)
 { s with avJ:=s.avJ++[⟨[mU level]++cB s.avJ.length,(level:Nat),(d:Nat),(1+u.1:Nat),sh.1⟩],a:=sh.2 }
def rO(avA:Nat)(s:GS):Bool:=decide (avA≤Z' s.avT)||decide (35≤Z' s.avJ)
def iU(l:List Nat)(level avA d:Nat)(rec:Nat→GS→GS)(s:GS):Nat→GS
 |0=>s
 |i+1=>let s:=iU l level avA d rec s i
  if rO avA s then s else(let s':=oU l level d s;rec (Z' s'.avJ-1) s')
def fE(l:List Nat)(mc avA:Nat):Nat→Nat→GS→GS
 |0,d,s=>let t:=aE l 2 s.a
  kV l mc avA d { s with a:=t.2 } (1+t.1)
 |k+1,d,s=>let t:=aE l 2 s.a
  iU l (4-k) avA d (fE l mc avA k) { s with a:=t.2 } (if 4-k=2 then 1 else 1+t.1)
def oJ:cX:=⟨[],0,-1,0,kW⟩
def jE(l:List Nat)(a:Nat):Int × Nat:=
 let t:=aE l 3 a
 let k:=aE l 3 t.2
 if t.1=0 then((1+k.1:Nat),k.2)else(0,t.2)
def nO(l:List Nat)(avB i a:Nat):cO × Nat:=
 let k:=aE l 2 a
 let m:=aE l 3 k.2
 let h:=aE l 4 m.2
 let q:=aE l (m.1+1) h.2
 let r:=lN l q.2 (max m.1 1)
 let g:=aE l 9 r.2
 let s1:=jE l g.2
 let s2:=jE l s1.2
 let s3:=jE l s2.2
 let s4:=jE l s3.2
 let f:=aE l avB s4.2
 let b:=aE l 2 f.2
 let ms:List Int × Nat:=if 1<avB then(if b.1=0 then([(f.1:Int),1-(f.1:Int)],b.2)else([(f.1:Int)],b.2))else([(f.1:Int)],f.2)
 (⟨[112]++cB i,(1+k.1:Nat),(m.1:Nat),(1+k.1+q.1:Nat),0,s1.1,s2.1,s3.1,s4.1,ms.1,r.1,mkT (g.1:Nat) 8,mkT ((1+h.1:Nat):Int) 1⟩,ms.2)
def eD(l:List Nat)(avB a:Nat):Nat→List cO × Nat
 |0=>([],a)
 |k+1=>let s:=eD l avB a k
  let z:=nO l avB k s.2
  (s.1++[z.1],z.2)
def eX(l:List Nat)(pols a:Nat):Nat→List kD × Nat
 |0=>([],a)
 |k+1=>let s:=eX l pols a k
  let z:=aE l pols s.2
  (s.1++[⟨[118]++cB k,(z.1:Nat)⟩],z.2)
def jV(l:List Nat)(avA avC a:Nat):aM × Nat:=
 let e:=aE l 2 a
 let i:=aE l 2 e.2
 let avH:=jP l i.2 (1+i.1)
 let d:=aE l 2 avH.2
 let avB:=eU l (1+i.1) d.2 (1+d.1)
 let g:=fE l (1+d.1) avA 4 0 ⟨[oJ],[],avB.2⟩
 let pl:=aE l 2 g.a
 let pols:=eD l (1+d.1) pl.2 (1+pl.1)
 let p:=aE l (avC+1) pols.2
 let vols:=eX l (1+pl.1) p.2 p.1
 (⟨(1+e.1:Nat),avH.1,avB.1,g.avJ,g.avT,pols.1,vols.1⟩,vols.2)
abbrev lF(l:List Nat):List (List PV):=l.map λ(n:Nat)=>[PV.int .u8 (n:Int)]
theorem RY(l:List Nat):(lF l).length=Z' l:=by simp
theorem agD(l:List Nat){i:Nat}(h:i<Z' l):(lF l)[i]?=some [.int .u8 (l[i]:Nat)]:=by simp[h]
abbrev bL(v:PV)(a:Nat):aR:=.rows 2 [[v,.int .i64 a]]
structure Tp(l:List Nat)(v:PV):Prop where
 seen:Seen 1 v (lF l)
 byte:∀x∈l,x<256
 len:Z' l≤400
def Rw(l:List Nat)(r:PV)(H:PH):Prop:=∃o v,r=.ptr o 2 0 0∧Tp (l.take 400) v∧H=PH.nil.set o (bL v 0)
theorem wt{t q s:Nat}{rs:List (List PV)}{F:PF}{H H2:PH}{R:PV→PH→Prop}{v:PV}{e:kZ}(x:e=.normal∨e=.ret)(A:F t=some v)(y:H q=some (.rows s rs))(p:H2.le (H.frz q s rs))(w:R (PV.frz q s rs v) H2):bD [.tmp t] R e F H:=by
 have d:∃vs,dJ.evs F H [.tmp t]=some vs∧∃i l H2,iV (PF.nil.set 0 (cR vs)) H i l∧H2.le l∧∃u,i 0=some u∧R u H2:=by refine⟨[v],by rw[mA,oX,A,qA],_,_,H2,.step q y (.refl _ _),p,PV.frz q s rs v,?_,w⟩;rw[sL,mG,aF rfl,axF];rfl
 rcases x with rfl|rfl<;>exact d
theorem ajF{C:Ctx}(l:List Nat)(hb:∀x∈l,x<256)(M:Z' l≤9223372036854775807):PR.wp C (bD aeB.res (Rw l)) (PF.args [.sl 1 (lF l)]) .nil:=by
 simp only[go_sem,PR,Ox,Oy,aeB,awL];have fin:∀F:PF,F 0=some (.sl 1 (lF (l.take 400)))→aD.wp C (.seq (.region ml) .ret) (bD [.tmp 2] (Rw l)) F .nil:=by
  intro F f0;have w:(l.take 400).length≤400:=by rw[axC];omega
  have u:∀x∈l.take 400,x<256:=λx J=>hb x (List.mem_of_mem_take J);have y:∀o v,Seen 1 v (lF (l.take 400))→Rw l (.ptr o 2 0 0) (PH.nil.set o (bL v 0)):=λo v H=>⟨o,v,rfl,⟨H,u,w⟩,rfl⟩;generalize K:l.take 400=L at *
  simp only[go_sem,ml,f0];refine wA (src:=lF L) rfl ?_ (λh=>?_) λh o E=>?_
  ·unfold roomFor;rw[RY];simp only[maxLen];omega
  ·simp only[go_sem,awT,axD,or_false,forall_eq];refine aW λo E=>?_;simp only[go_sem];exact bF (vs:=[.ptr o 2 0 0]) (.inr rfl) (PH.nil.set o (bL .aH 0)) rfl b_ (y o .aH (.inl ⟨h,rfl⟩))
  ·simp only[go_sem,awT,axD,or_false,forall_eq];refine aW λp hp=>?_;have d:¬p=o:=(iW.1 hp).1;have e:¬o=p:=λh=>d h.symm;simp only[go_sem];refine wt (v:=.ptr p 2 0 0) (q:=o) (s:=1) (rs:=lF L) (H2:=PH.nil.set p (bL (.sl 1 (lF L)) 0)) (.inr rfl) rfl (by simp only[go_sem,e]) (PH.aN a_ ?_) (y p _ (.inr rfl));have B:(lF L).take L.length=lF L:=axE (by rw[RY];exact awP _);simp only[go_sem,d,aR.frz,PV.dB,awL,B];rfl
 simp only[aD.wp,go_sem]at fin;by_cases c:Z' l>400
 ·have i:(Z' l:Int)>400:=Om;have A:(400:Int)≤(Z' l:Int):=Om;simp only[go_sem,i,Oz,awL,A];refine fin _ ?_;rw[mG,aF rfl];simp[lF]
 ·have i:¬(Z' l:Int)>400:=Om;simp only[go_sem,i];refine fin _ ?_;rw[axE Om];simp only[go_sem]
def bg(l:List Nat)(v:PV)(o n a:Nat)(r:PV)(H:PH):Prop:=r=.int .i64 ((aE l n a).1:Nat)∧H=PH.nil.set o (bL v (aE l n a).2)
theorem aeC{C:Ctx}{l:List Nat}{v:PV}(T:Tp l v)(o n a:Nat)(Q:n≤1000000)(N:a≤Z' l):zJ.wp C (bD xm.res (bg l v o n a)) (PF.args [.ptr o 2 0 0,.int .i64 n]) (PH.nil.set o (bL v a)):=by
 obtain⟨K,hb,O⟩:=T;have zero:(Z' l≤a∨n<2)→∀F,aD.wp C (.seq (.region YU) .ret) (bD [.tmp 4] (bg l v o n a)) F (PH.nil.set o (bL v a)):=by
  intro h F;have e:aE l n a=(0,a):=by unfold aE;rw[aF h]
  simp only[go_sem,YU];exact bF (vs:=[.int .i64 0]) (.inr rfl) _ rfl b_ ⟨by rw[e];rfl,by rw[e]⟩
 simp only[aD.wp,go_sem]at zero;rcases K with⟨H,rfl⟩|rfl
 ·have M:Z' l=0:=by rw[←RY,H];rfl
  have u:(a:Int)≥0:=Om;simp only[go_sem,zJ,YT,xm];refine dH .nil gX a_ ?_;simp only[go_sem,KE,u];exact zero (.inl Om) _
 simp only[go_sem,zJ,YT,xm];refine dH .nil gX a_ ?_;by_cases x:Z' l≤a
 ·have d:(a:Int)≥(Z' l:Nat):=Om;simp only[go_sem,KE,awL,d];exact zero (.inl x) _
 have d:¬(a:Int)≥(Z' l:Nat):=Om;simp only[go_sem,KE,awL,d];by_cases y:n<2
 ·have i:(n:Int)<2:=Om;simp only[go_sem,i];exact zero (.inr y) _
 have i:¬(n:Int)<2:=Om;have p:a<Z' l:=Om;have e:aE l n a=(l[a]%n,a+1):=by unfold aE;rw[aC Om];simp[axY,p]
 have E:IntKind.i64.wrap ((a:Int)+1)=((a+1:Nat):Int):=dT Om;have B:IntKind.i64.wrap (((a+1:Nat):Int)-1)=((a:Nat):Int):=by rw[wrap_i64 Om Om];omega
 have J:=agD l p;have R:=hb _ (awS p);have A:IntKind.i64.wrap ((l[a]:Nat):Int)=((l[a]:Nat):Int):=aw Om;have w:¬((n:Nat):Int)=0:=Om;have em:Int.tmod ((l[a]:Nat):Int) ((n:Nat):Int)=((l[a]%n:Nat):Int):=rfl;simp only[go_sem,i,E5,E];refine dH .nil gX a_ ?_;simp only[go_sem,E6,B,J,A,w,em];exact bF (vs:=[.int .i64 (l[a]%n:Nat)]) (.inr rfl) _ rfl b_ ⟨by rw[e];rfl,by rw[e]⟩
def PV.oid:PV→Option Nat
 | .osl q _ _ _=>some q
 |_=>none
abbrev LI:=PV × Nat × List (List PV)
abbrev BX:=Nat × aR
def fA(B:List BX):List Nat:=B.map (·.1)
def eP(L:List LI):List Nat:=L.filterMap λx=>x.1.oid
structure aT(H:PH)(B:List BX)(L:List LI):Prop where
 box:∀b∈B,H b.1=some b.2
 lst:∀x∈L,bX H x.2.1 x.1 x.2.2
 nd:(fA B++eP L).Nodup
section
variable {C:Ctx} {H:PH} {B:List BX} {L:List LI} {K:PV→PH→Prop}
theorem bX.id{s q:Nat}{v:PV}{rows:List (List PV)}(h:bX H s v rows)(d:v.oid=some q):∃rs,H q=some (.rows s rs)∧v=.osl q s 0 rows.length∧Z' rows≤Z' rs∧rs.take rows.length=rows:=by
 rcases h with⟨_,rfl⟩|⟨p,rs,rfl,h1,h2,h3⟩
 ·cases d
 ·cases d;exact⟨rs,h1,rfl,h2,h3⟩
theorem bX.same{s:Nat}{v:PV}{rows:List (List PV)}{H':PH}(h:bX H s v rows)(d:∀q,v.oid=some q→H' q=H q):bX H' s v rows:=by
 rcases h with h|⟨p,rs,rfl,h1,h2,h3⟩
 ·exact .inl h
 ·exact .inr ⟨p,rs,rfl,by rw[d p rfl];exact h1,h2,h3⟩
theorem nC{x:LI}{q:Nat}(h:x∈L)(d:x.1.oid=some q):q∈eP L:=List.mem_filterMap.2 ⟨x,h,d⟩
theorem wN{b:BX}(h:b∈B):b.1∈fA B:=axG.2 ⟨b,h,rfl⟩
theorem aT.nil:aT H [] []:=⟨by simp,by simp,by simp[fA,eP]⟩
theorem aT.at(h:aT H B L)(i:Nat){o:Nat}{x:aR}(hi:B[i]?=some (o,x)):H o=some x:=h.box _ (ayN hi)
theorem aT.own(h:aT H B L)(i:Nat){s:Nat}{v:PV}{rows:List (List PV)}(hi:L[i]?=some (v,s,rows)):bX H s v rows:=h.lst _ (ayN hi)
theorem aT.ndB(h:aT H B L):(fA B).Nodup:=(azG.1 h.nd).1
theorem aT.ndL(h:aT H B L):(eP L).Nodup:=(azG.1 h.nd).2.1
theorem aT.ndX(h:aT H B L){o q:Nat}(d:o∈fA B)(e:q∈eP L):o≠q:=(azG.1 h.nd).2.2 o d q e
theorem aT.ne(h:aT H B L)(i j:Nat){o p:Nat}{x y:aR}(hi:B[i]?=some (o,x))(F:B[j]?=some (p,y))(d:i≠j):o≠p:=by
 intro e;have A:(fA B)[i]?=some o:=by unfold fA;rw[axH,hi];rfl
 have E:(fA B)[j]?=some p:=by unfold fA;rw[axH,F];rfl
 obtain⟨u,l⟩:=axO.1 A;obtain⟨w,e2⟩:=axO.1 E;have hp:=List.pairwise_iff_getElem.1 h.ndB;rcases Nat.lt_or_gt_of_ne d with g|g
 ·exact hp i j u w g (by rw[l,e2,e])
 ·exact hp j i w u g (by rw[l,e2,e])
theorem aT.neL(h:aT H B L)(i j:Nat){o q:Nat}{x:aR}{y:LI}(hi:B[i]?=some (o,x))(d:L[j]?=some y)(e:y.1.oid=some q):o≠q:=
 h.ndX (wN (ayN hi)) (nC (ayN d) e)
theorem aT.fresh(h:aT H B L){o:Nat}(d:H o=none):o ∉ fA B∧o ∉ eP L:=by
 refine⟨λi=>?_,λi=>?_⟩
 ·obtain⟨b,hb,rfl⟩:=axG.1 i;rw[h.box b hb]at d;cases d
 ·obtain⟨x,p,e⟩:=List.mem_filterMap.1 i;obtain⟨rs,l,_⟩:=(h.lst x p).id e;rw[l]at d;cases d
theorem aT.keep(h:aT H B L){H':PH}(d:∀q,q∈fA B∨q∈eP L→H' q=H q):aT H' B L:=
 ⟨λb hb=>by rw[d _ (.inl (wN hb))];exact h.box b hb,λx e=>(h.lst x e).same λq i=>d q (.inr (nC e i)),h.nd⟩
theorem adF{i:Nat}{o:Nat}{x y:aR}(hi:B[i]?=some (o,x)):fA (B.set i (o,y))=fA B:=by
 unfold fA;rw[List.map_set];refine List.ext_getElem? λj=>?_;rw[List.getElem?_set];split
 ·rename_i e;subst e;rw[axH,hi];have:=(axO.1 hi).1;simp[this]
 ·rfl
theorem aT.set(h:aT H B L)(i:Nat){o:Nat}{x:aR}(hi:B[i]?=some (o,x))(y:aR):aT (H.set o y) (B.set i (o,y)) L:=by
 have p:o∈fA B:=wN (ayN hi);refine⟨λb hb=>?_,λz u=>(h.lst z u).same λq w=>?_,by rw[adF hi];exact h.nd⟩
 ·obtain⟨j,d⟩:=List.mem_iff_getElem?.1 hb;rw[List.getElem?_set]at d;split at d
  ·split at d
   ·cases d;simp only[aU,if_true]
   ·cases d
  ·rename_i l;have:b.1≠o:=λe=>h.ne i j hi (show B[j]?=some (b.1,b.2)from d) l e.symm;rw[aU,aC this];exact h.box b (ayN d)
 ·have:q≠o:=λe=>h.ndX p (nC u w) e.symm;rw[aU,aC this]
theorem aT.new(h:aT H B L){o:Nat}(i:H o=none)(y:aR):aT (H.set o y) (B++[(o,y)]) L:=by
 obtain⟨f1,f2⟩:=h.fresh i;refine⟨λb hb=>?_,λz d=>(h.lst z d).same λq hq=>?_,?_⟩
 ·rw[ayA,ayX]at hb;rcases hb with hb|rfl
  ·have:b.1≠o:=λe=>f1 (e ▸ wN hb);rw[aU,aC this];exact h.box b hb
  ·simp only[aU,if_true]
 ·have:q≠o:=λe=>f2 (e ▸ nC d hq);rw[aU,aC this]
 ·have:=h.nd;simp only[fA,axQ,axL,ayI]at *
  rw[axX,azG]at *
  obtain⟨a,b,c⟩:=this;refine⟨a,?_,λp hp q hq=>?_⟩
  ·rw[List.singleton_append,List.nodup_cons];exact⟨f2,b⟩
  ·rw[List.singleton_append,awT]at hq;rcases hq with rfl|hq
   ·intro e;subst e;exact f1 hp
   ·exact c p hp q hq
theorem mP(d e:List LI):eP (d++e)=eP d++eP e:=List.filterMap_append ..
theorem aT.wO(h:aT H B L)(s:Nat):aT H B (L++[(.aH,s,[])]):=by
 refine⟨h.box,λz d=>?_,?_⟩
 ·rw[ayA,ayX]at d;rcases d with d|rfl
  ·exact h.lst z d
  ·exact .nil
 ·rw[mP,show eP [((.aH:PV),s,([]:List (List PV)))]=[]from rfl,ayO];exact h.nd
theorem aT.aeJ(h:aT H B L){o s:Nat}{rows:List (List PV)}(l:H o=none):aT (H.set o (.rows s rows)) B (L++[(.osl o s 0 rows.length,s,rows)]):=by
 obtain⟨f1,f2⟩:=h.fresh l;have i:=h.keep (H':=H.set o (.rows s rows)) λq d=>by
  have:q≠o:=by rintro rfl;exact d.elim f1 f2
  rw[aU,aC this]
 refine⟨i.box,λz e=>?_,?_⟩
 ·rw[ayA,ayX]at e;rcases e with e|rfl
  ·exact i.lst z e
  ·exact .inr ⟨o,rows,rfl,by simp only[aU,if_true],awP _,ayC⟩
 ·rw[mP,show eP [((.osl o s 0 rows.length:PV),s,rows)]=[o]from rfl,←axX,azG];refine⟨h.nd,by simp,λp hp q d=>?_⟩;rw[ayX]at d;subst d;rintro rfl;rcases ayA.1 hp with hp|hp
  ·exact f1 hp
  ·exact f2 hp
theorem Dh{i:Nat}{v v':PV}{s s':Nat}{rows rows':List (List PV)}(hi:L[i]?=some (v,s,rows)):∃d e,L=d++(v,s,rows)::e∧L.set i (v',s',rows')=d++(v',s',rows')::e:=by
 obtain⟨l,p⟩:=axO.1 hi;refine⟨L.take i,L.drop (i+1),?_,?_⟩
 ·rw[←p,←ayS l,azN]
 ·rw[List.set_eq_take_append_cons_drop,aF l]
theorem aT.jv(h:aT H B L)(i:Nat){s:Nat}{v:PV}{rows:List (List PV)}(hi:L[i]?=some (v,s,rows)){s':Nat}{v':PV}{rows':List (List PV)}{H':PH}(O:bX H' s' v' rows')
  (J:∀q,v'.oid=some q→v.oid=some q∨H q=none) (N:∀q,q∈fA B∨q∈eP L→(∀p,v.oid=some p→q≠p)→H' q=H q):aT H' B (L.set i (v',s',rows')):=by
 obtain⟨w,x,M,e2⟩:=Dh (v':=v') (s':=s') (rows':=rows') hi;rw[e2];subst M;have d:=h.nd;have E:eP (w++(v,s,rows)::x)=eP w++(v.oid.toList++eP x):=by rw[mP];congr 1;unfold eP;rw[List.filterMap_cons];cases e:v.oid<;>simp
 have F:eP (w++(v',s',rows')::x)=eP w++(v'.oid.toList++eP x):=by rw[mP];congr 1;unfold eP;rw[List.filterMap_cons];cases e:v'.oid<;>simp
 rw[E]at d;have y:∀q,q∈fA B∨q∈eP w∨q∈eP x→∀p,v.oid=some p→q≠p:=by
  intro q hq p hp e;subst e;rw[hp]at d;simp only[Option.toList_some]at d;rw[azG]at d;obtain⟨a,b,c⟩:=d;rw[azG]at b;obtain⟨b1,b2,A⟩:=b;rw[List.singleton_append,List.nodup_cons]at b2;rcases hq with hq|hq|hq
  ·exact c q hq q aY rfl
  ·exact A q hq q aY rfl
  ·exact b2.1 hq
 have l:∀q,q∈fA B∨q∈eP w∨q∈eP x→H' q=H q:=by
  intro q hq;refine N q ?_ (y q hq);rw[E];simp only[ayA];rcases hq with hq|hq|hq
  ·exact .inl hq
  ·exact .inr (.inl hq)
  ·exact .inr (.inr (.inr hq))
 refine⟨λb hb=>by rw[l _ (.inl (wN hb))];exact h.box b hb,λz hz=>?_,?_⟩
 ·rw[ayA,awT]at hz;rcases hz with hz|rfl|hz
  ·exact(h.lst z (by simp[hz])).same λq hq=>l q (.inr (.inl (nC hz hq)))
  ·exact O
  ·exact(h.lst z (by simp[hz])).same λq hq=>l q (.inr (.inr (nC hz hq)))
 ·rw[F];cases e:v'.oid with
  |none =>simp only[Option.toList_none,List.nil_append];refine List.Nodup.sublist ?_ d;exact ayV.append (ayV.refl _) (ayV.append (ayV.refl _) (List.sublist_append_right _ _))
  |some q=>
   rcases J q e with Q|hn
   ·rw[Q]at d;exact d
   ·obtain⟨f1,f2⟩:=h.fresh hn;rw[E]at f2;simp only[ayA,not_or]at f2;have u:(fA B++(eP w++eP x)).Nodup:=List.Nodup.sublist (ayV.append (ayV.refl _) (ayV.append (ayV.refl _) (List.sublist_append_right _ _))) d;simp only[Option.toList_some];rw[azG]at u ⊢;obtain⟨a,b,c⟩:=u;rw[azG]at b;obtain⟨b1,b2,A⟩:=b;refine⟨a,?_,?_⟩
    ·rw[azG];refine⟨b1,by rw[List.singleton_append,List.nodup_cons];exact⟨f2.2.2,b2⟩,λp hp r hr=>?_⟩;rw[List.singleton_append,awT]at hr;rcases hr with rfl|hr
     ·rintro rfl;exact f2.1 hp
     ·exact A p hp r hr
    ·intro p hp r hr;rw[ayA,List.singleton_append,awT]at hr;rcases hr with hr|rfl|hr
     ·exact c p hp r (by simp[hr])
     ·rintro rfl;exact f1 hp
     ·exact c p hp r (by simp[hr])
theorem aT.append(h:aT H B L)(i:Nat){s b:Nat}{v y:PV}{rows src:List (List PV)}(hi:L[i]?=some (v,s,rows))(E:dD H s y=some src)(A:roomFor rows.length src.length b)
  (w:∀v' H',aT H' B (L.set i (v',s,rows++src))→(src≠[]→∃q,v'=.osl q s 0 (rows++src).length)→K v' H'):pQ H s b v y K:=by
 rcases h.own i hi with⟨rfl,rfl⟩|⟨q,rs,rfl,h1,h2,h3⟩
 ·refine⟨src,E,A,λe=>?_,λe o l=>?_⟩
  ·subst e;refine w _ _ ?_ λh=>absurd rfl h;exact h.jv i hi (.inl ⟨rfl,rfl⟩) (λq u=>by cases u) λq _ _=>rfl
  ·refine w _ _ (h.jv i hi (.inr ⟨o,src,rfl,by simp only[aU,if_true],awP _,ayC⟩) (λq u=>by cases u;exact .inr l) λq u _=>?_) λ_=>⟨o,rfl⟩;obtain⟨f1,f2⟩:=h.fresh l;have:q≠o:=by rintro rfl;exact u.elim f1 f2
   rw[aU,aC this]
 ·have d:(rows++src).length=Z' rows+Z' src:=awQ;refine⟨src,E,rfl,rfl,A,rs,h1,h2,?_,λo l=>?_⟩
  ·rw[h3];refine w _ _ (h.jv i hi (.inr ⟨q,rows++src,by rw[d],by simp only[aU,if_true],awP _,ayC⟩) (λp hp=>by cases hp;exact .inl rfl) λp _ hp=>?_) λ_=>⟨q,by rw[d]⟩;rw[aU,aC (hp q rfl)]
  ·rw[h3];refine w _ _ (h.jv i hi (.inr ⟨o,rows++src,by rw[d],by simp only[aU,if_true],awP _,ayC⟩) (λp hp=>by cases hp;exact .inr l) λp x hp=>?_) λ_=>⟨o,by rw[d]⟩;obtain⟨f1,f2⟩:=h.fresh l;have F:p≠o:=by rintro rfl;exact x.elim f1 f2
   rw[aU,aC F]
theorem aT.sub(h:aT H B L){B':List BX}{L':List LI}(hB:B'.Sublist B)(d:L'.Sublist L):aT H B' L':=
 ⟨λb hb=>h.box b (hB.subset hb),λx e=>h.lst x (d.subset e),List.Nodup.sublist (ayV.append (hB.map _) (d.filterMap _)) h.nd⟩
theorem aT.yT(h:aT H B L)(i:Nat):aT H (B.eraseIdx i) L:=h.sub (List.eraseIdx_sublist ..) (ayV.refl _)
theorem aT.Ts(h:aT H B L)(i:Nat):aT H B (L.eraseIdx i):=h.sub (ayV.refl _) (List.eraseIdx_sublist ..)
end
section
variable {C:Ctx} {F:PF} {H:PH} {B:List BX} {L:List LI}
theorem aT.TR(h:aT H B L){q:Nat}(hq:q∈fA B∨q∈eP L):∃x,H q=some x:=by
 rcases hq with hq|hq
 ·obtain⟨b,hb,rfl⟩:=axG.1 hq;exact⟨_,h.box b hb⟩
 ·obtain⟨x,i,e⟩:=List.mem_filterMap.1 hq;obtain⟨rs,d,_⟩:=(h.lst x i).id e;exact⟨_,d⟩
theorem aT.perm(h:aT H B L){B':List BX}{L':List LI}(hB:B.Perm B')(d:L.Perm L'):aT H B' L':=
 ⟨λb hb=>h.box b (hB.mem_iff.2 hb),λx e=>h.lst x (d.mem_iff.2 e),(List.Perm.nodup_iff ((hB.map _).append (d.filterMap _))).1 h.nd⟩
theorem aT.only(h:aT H B L){d:List BX}{e:List LI}(hB:d.Sublist B)(i:e.Sublist L):aT (H.only (fA d++eP e)) d e:=by
 refine(h.sub hB i).keep λq l=>?_;rw[tU];rw[aF (ayA.2 l)]
theorem alZ{a b c d:List Nat}(i:(a++c).Nodup)(l:(b++d).Nodup)(u:∀q,q∈a∨q∈c→q∈b∨q∈d→False):((a++b)++(c++d)).Nodup:=by
 have e:List.Perm ((a++b)++(c++d)) ((a++c)++(b++d)):=by rw[axX,axX];exact List.Perm.append_left a (by rw[←axX,←axX];exact List.Perm.append_right d List.perm_append_comm)
 rw[e.nodup_iff,azG];refine⟨i,l,λp hp q w=>?_⟩;rintro rfl;exact u p (ayA.1 hp) (ayA.1 w)
theorem aT.frame{H':PH}{d i B':List BX}{l u L':List LI}(h:aT H (d++i) (l++u))(J:aT H' B' L')(O:nF H (H.only (fA d++eP l)) H'):aT (H.over (H.only (fA d++eP l)) H') (B'++i) (L'++u):=by
 have M:aT H i u:=h.sub (List.sublist_append_right ..) (List.sublist_append_right ..);have A:∀q,q∈fA i∨q∈eP u→¬(q∈fA d++eP l):=by
  intro q p Q;have w:=h.nd;rw[show fA (d++i)=fA d++fA i from axQ,mP]at w;have e:List.Perm ((fA d++fA i)++(eP l++eP u)) ((fA d++eP l)++(fA i++eP u)):=by rw[axX,axX];exact List.Perm.append_left _ (by rw[←axX,←axX];exact List.Perm.append_right _ List.perm_append_comm)
  rw[e.nodup_iff,azG]at w;exact w.2.2 q Q q (ayA.2 p) rfl
 have new:∀q,q∈fA B'∨q∈eP L'→(H.over (H.only (fA d++eP l)) H') q=H' q:=by intro q p;obtain⟨x,hx⟩:=J.TR p;rw[jM,hx]
 have N:∀q,q∈fA i∨q∈eP u→(H.over (H.only (fA d++eP l)) H') q=H q:=by
  intro q p;obtain⟨x,hx⟩:=M.TR p;have K:(H.only (fA d++eP l)) q=none:=by rw[tU,aC (A q p)]
  rw[jM];cases e:H' q with
  |none=>simp only[K]
  |some y =>have:=O q y e K;rw[hx]at this;cases this
 have k1:=J.keep new;have k2:=M.keep N;refine⟨λb hb=>?_,λx hx=>?_,?_⟩
 ·rcases ayA.1 hb with hb|hb
  ·exact k1.box b hb
  ·exact k2.box b hb
 ·rcases ayA.1 hx with hx|hx
  ·exact k1.lst x hx
  ·exact k2.lst x hx
 ·rw[show fA (B'++i)=fA B'++fA i from axQ,mP];refine alZ J.nd M.nd λq p E=>?_;obtain⟨x,hx⟩:=J.TR p;obtain⟨y,R⟩:=M.TR E;have K:(H.only (fA d++eP l)) q=none:=by rw[tU,aC (A q E)]
  have:=O q x hx K;rw[R]at this;cases this
theorem WL{name:Nat}{vs:List PV}{args:List aO}{d:Option Nat}{K:PF→PH→Prop}{e p:List BX}{i w:List LI}{Q:PV→List BX→List LI→Prop}(h:aT H (e++p) (i++w))
  (A:∀u,aT u e i→aJ C name vs u (λr H'=>∃B' L',Q r B' L'∧aT H' B' L')) (y:aO.evs F args=some vs)
  (E:∀r B' L' H',Q r B' L'→aT H' (B'++p) (L'++w)→K (F.put d r) H'):kN C name args [] d K F H:=by
 refine oK (A (H.only (fA e++eP i)) (h.only (List.sublist_append_left ..) (List.sublist_append_left ..))) y (TL H _) ?_;rintro r H' ⟨B',L',J,x⟩ l;exact E r B' L' _ J (h.frame x l)
theorem aT.NJ{B:List BX}{o:Nat}{x:aR}(h:aT H (B++[(o,x)]) L):H o=some x:=h.box (o,x) aY
theorem aT.nz{B:List BX}{o:Nat}{x:aR}(h:aT H (B++[(o,x)]) L)(y:aR):aT (H.set o y) (B++[(o,y)]) L:=by
 have:=h.set B.length (o:=o) (x:=x) aY y
 rwa[azT _ _ (awP _),azP]at this
theorem aT.dropLast{B:List BX}{b:BX}(h:aT H (B++[b]) L):aT H B L:=h.sub (List.sublist_append_left ..) (ayV.refl _)
theorem aT.akG{B:List BX}{o:Nat}{x:aR}(h:aT H ((o,x)::B) L)(y:aR):aT (H.set o y) ((o,y)::B) L:=h.set 0 rfl y
theorem aT.alK{B:List BX}{o:Nat}{x:aR}(h:aT H ((o,x)::B) L):H o=some x:=h.at 0 rfl
theorem mT{name o:Nat}{x y:aR}{r:PV}{vs:List PV}{args:List aO}{d:Option Nat}{K:PF→PH→Prop}(h:aJ C name vs (PH.nil.set o x) (λr' H'=>r'=r∧H'=PH.nil.set o y))(l:H o=some x)(e:aO.evs F args=some vs)
  (i:K (F.put d r) (H.set o y)):kN C name args [] d K F H:=by
 refine oK h e (PH.aN a_ l) ?_;rintro r' H' ⟨rfl,rfl⟩ -;rw[PH.vK];exact i
theorem abY{Hs:PH}{S:Spec}{name o:Nat}{x y:aR}{r:PV}{vs:List PV}{R:PH→PV→PH→Prop}{args:List aO}{st:Bool}{d:Option Nat}{K:PF→PH→Prop}(N:S name vs=some ([o],R))(J:H o=some x)
  (h:aJ C name vs (PH.nil.set o x) (λr' H'=>r'=r∧H'=PH.nil.set o y)) (i:R (PH.nil.set o x) r (PH.nil.set o y)) (u:∀r' H',R (PH.nil.set o x) r' H'→r'=r∧H'=PH.nil.set o y) (O:aO.evs F args=some vs)
  (w:Hs.le (H.set o y)) (Q:K (F.put d r) (H.set o y)):dOp C Hs S st (.call name args) d K F H:=by
 have e:=ZS J;refine⟨vs,[o],_,O,N,λq M=>?_,?_,λG=>⟨r,_,by rw[e];exact i,λq z E p=>?_⟩,λr' H' l _=>?_⟩
 ·simp at M;subst M;exact⟨x,J⟩
 ·rw[e];exact h.post λr' H' l=>⟨r',.refl _,by rw[l.1,l.2];exact i⟩
 ·rw[e]at p;rw[aU]at E p;split at p
  ·cases p
  ·rename_i A;rw[aC A]at E;cases E
 ·rw[e]at l;obtain⟨rfl,rfl⟩:=u r' H' l;rw[e,PH.vK];exact⟨w,Q⟩
theorem afM{s:Nat}{q z:Nat}{rs:List (List PV)}{v:PV}{rows:List (List PV)}(h:bX H s v rows)(i:v.oid≠some q):bX (H.frz q z rs) s v (rows.map λr=>r.map (PV.dB q z rs)):=by
 rcases h with⟨rfl,rfl⟩|⟨p,rs',rfl,h1,h2,h3⟩
 ·exact .inl ⟨rfl,rfl⟩
 ·have d:¬p=q:=λe=>i (by rw[e];rfl);refine .inr ⟨p,rs'.map λr=>r.map (PV.dB q z rs),by rw[awL],?_,by simpa using h2,?_⟩
  ·rw[AI,aC d,h1];rfl
  ·rw[awL,←azM,h3]
theorem aT.frz(h:aT H B L)(i:Nat){q s k:Nat}{rows:List (List PV)}(hi:L[i]?=some (.osl q s 0 k,s,rows)):∃rs,H q=some (.rows s rs)∧PV.dB q s rs (.osl q s 0 k)=.sl s rows∧PV.frz q s rs (.osl q s 0 k)=.sl s rows∧(∀j x,j≠i→L[j]?=some x→PV.dB q s rs x.1=x.1) ∧
  aT (H.frz q s rs) (B.map λb=>(b.1,b.2.frz q s rs)) ((L.eraseIdx i).map λx=>(x.1,x.2.1,x.2.2.map λr=>r.map (PV.dB q s rs))):=by
 obtain⟨rs,V,W,X,Y⟩:=(h.own i hi).id rfl;injection W with _ _ _ hk
 subst hk;have e:PV.frz q s rs (.osl q s 0 rows.length)=.sl s rows:=by rw[AE X,Y]
 refine⟨rs,V,e,e,?_⟩;refine⟨λj x K R=>?_,?_⟩
 ·have l:x.1.oid≠some q:=by
   intro l;obtain⟨M,J⟩:=axO.1 hi;obtain⟨β,Z⟩:=axO.1 R;have u:x∈L.eraseIdx i:=List.mem_eraseIdx_iff_getElem?.2 ⟨j,K,R⟩;have d:=h.ndL;have O:L=L.take i++(L[i]::L.drop (i+1)):=by rw[←ayS M,azN]
   rw[List.eraseIdx_eq_take_drop_succ]at u;rw[O,mP]at d;have E:eP (L[i]::L.drop (i+1))=q::eP (L.drop (i+1)):=by rw[J];rfl
   rw[E,azG]at d;obtain⟨a,b,c⟩:=d;rcases ayA.1 u with hx|hx
   ·exact c q (nC hx l) q aY rfl
   ·exact(List.nodup_cons.1 b).1 (nC hx l)
  cases hx:x.1<;>try rfl
  rename_i p z γ len;have:¬p=q:=λe=>l (by rw[hx,e];rfl);simp only[PV.dB,aC this]
 obtain⟨U,L2,e1,e2⟩:=Dh (v':=.aH) (s':=s) (rows':=rows) hi;have α:i=Z' U∨True:=.inr trivial;have w:(L.eraseIdx i).Sublist L:=List.eraseIdx_sublist ..;have N:∀x∈L.eraseIdx i,x.1.oid≠some q:=by
  intro x hx l;obtain⟨M,J⟩:=axO.1 hi;have d:=h.ndL;have O:L=L.take i++(L[i]::L.drop (i+1)):=by rw[←ayS M,azN]
  rw[List.eraseIdx_eq_take_drop_succ]at hx;rw[O,mP]at d;have E:eP (L[i]::L.drop (i+1))=q::eP (L.drop (i+1)):=by rw[J];rfl
  rw[E,azG]at d;obtain⟨a,b,c⟩:=d;rcases ayA.1 hx with hx|hx
  ·exact c q (nC hx l) q aY rfl
  ·exact(List.nodup_cons.1 b).1 (nC hx l)
 refine⟨λb hb=>?_,λx hx=>?_,?_⟩
 ·obtain⟨Q,y,rfl⟩:=axG.1 hb;have:¬Q.1=q:=h.ndX (wN y) (nC (ayN hi) rfl);simp only;rw[AI,aC this,h.box Q y];rfl
 ·obtain⟨S,A,rfl⟩:=axG.1 hx;exact afM (h.lst S (w.subset A)) (N S A)
 ·have i1:fA (B.map λb=>(b.1,b.2.frz q s rs))=fA B:=by unfold fA;rw[azL];rfl
  have i2:eP ((L.eraseIdx i).map λx=>(x.1,x.2.1,x.2.2.map λr=>r.map (PV.dB q s rs)))=eP (L.eraseIdx i):=by unfold eP;rw[List.filterMap_map];rfl
  rw[i1,i2];exact List.Nodup.sublist (ayV.append (ayV.refl _) (w.filterMap _)) h.nd
def Flat(rows:List (List PV)):Prop:=∀q s rs,rows.map (λr=>r.map (PV.dB q s rs))=rows
theorem Flat.nil:Flat []:=λ_ _ _=>rfl
theorem Flat.of{rows:List (List PV)}(h:∀r∈rows,∀c∈r,∀q s rs,PV.dB q s rs c=c):Flat rows:=λq s rs=>by
 conv=>rhs;rw[←List.map_id rows]
 refine azF λr e=>?_
 conv=>rhs;rw[id,←List.map_id r]
 exact azF λc d=>h r e c d q s rs
theorem Flat.map{α:Type}{f:α→List PV}(l:List α)(h:∀x,∀c∈f x,∀q s rs,PV.dB q s rs c=c):Flat (l.map f):=Flat.of λr d=>by
 obtain⟨x,_,rfl⟩:=axG.1 d;exact h x
theorem Flat.append{r1 r2:List (List PV)}(d:Flat r1)(e:Flat r2):Flat (r1++r2):=λq s rs=>by rw[axQ,d,e]
theorem aT.flat{φ:PV→List (List PV)}(h:aT H B L):aT H B L:=h
def CE(v:PV)(H:PH)(R:PV→PH→Prop):Prop:=∃d e H2,iV (PF.nil.set 0 v) H d e∧H2.le e∧∃u,d 0=some u∧R u H2
theorem CE.done{v:PV}{H2:PH}{R:PV→PH→Prop}(e:R v H2)(d:H2.le H):CE v H R:=⟨_,_,H2,.refl _ _,d,v,by rw[mG,aF rfl],e⟩
theorem CE.step{v:PV}{q s:Nat}{rs:List (List PV)}{R:PV→PH→Prop}(x:H q=some (.rows s rs))(h:CE (PV.frz q s rs v) (H.frz q s rs) R):CE v H R:=by
 obtain⟨d,l,H2,p,u,w⟩:=h;have e:(PF.nil.set 0 v).frz q s rs=PF.nil.set 0 (PV.frz q s rs v):=by funext i;rw[sL,mG,mG];split<;>rfl
 exact⟨d,l,H2,.step q x (by rw[e];exact p),u,w⟩
theorem GU{res:List dJ}{R:PV→PH→Prop}{vs:List PV}{e:kZ}(p:e=.normal∨e=.ret)(h:dJ.evs F H res=some vs)(w:CE (cR vs) H R):bD res R e F H:=by
 have d:∃vs,dJ.evs F H res=some vs∧∃i l H2,iV (PF.nil.set 0 (cR vs)) H i l∧H2.le l∧∃u,i 0=some u∧R u H2:=⟨vs,h,w⟩;rcases p with rfl|rfl<;>exact d
theorem ep{u:PV}(h:u.oid=none)(q s:Nat)(rs:List (List PV)):PV.dB q s rs u=u:=by
 cases u<;>first|rfl|(simp[PV.oid]at h)
theorem Seen.co{s:Nat}{v:PV}{rows:List (List PV)}(h:Seen s v rows):Co v (.sl s rows):=by
 rcases h with⟨rfl,rfl⟩|rfl
 ·exact .nil s
 ·exact .refl _
theorem aT.giveUp:∀(L:List LI){H:PH}{B:List BX},aT H B L→(∀x∈L,Flat x.2.2)→(∀b∈B,∀q s rs,aR.frz q s rs b.2=b.2) →
  ∃(φ:PV→PV)(i:PH),(∀x∈L,Seen x.2.1 (φ x.1) x.2.2)∧(∀u,u.oid=none→φ u=u)∧aT i B []∧∀cs R,CE (.agg (cs.map φ)) i R→CE (.agg cs) H R
 |[],H,B,h,_,_=>⟨id,H,by simp,λ_ _=>rfl,h,λcs R y=>by rwa[List.map_id]at y⟩
 |(w,s,rows)::L,H,B,h,p,hB=>by
  have d:∀q z rs,(L.map λx=>(x.1,x.2.1,x.2.2.map λr=>r.map (PV.dB q z rs)))=L:=λq z rs=>by
   conv=>rhs;rw[←List.map_id L]
   refine azF λx hx=>?_;rw[p x (by simp[hx]) q z rs];rfl
  rcases h.own 0 rfl with⟨l,N⟩|⟨q,rs,l,_⟩
  ·obtain⟨φ,i,k1,k2,A,E⟩:=aT.giveUp L (h.Ts 0) (λx hx=>p x (by simp[hx])) hB;refine⟨φ,i,λx hx=>?_,k2,A,E⟩;rw[awT]at hx;rcases hx with rfl|hx
   ·exact .inl ⟨l,by simp only;rw[N];exact k2 _ rfl⟩
   ·exact k1 x hx
  ·subst l;obtain⟨rs,Q,S,W,U,K⟩:=h.frz 0 rfl;have V:aT (H.frz q s rs) B L:=by
    have M:(B.map λb=>(b.1,b.2.frz q s rs))=B:=by
     conv=>rhs;rw[←List.map_id B]
     refine azF λb hb=>?_;rw[hB b hb q s rs];rfl
    rw[M]at K;have:=K;simp only[List.eraseIdx_cons_zero]at this
    rwa[d q s rs]at this
   obtain⟨φ,i,k1,k2,A,E⟩:=aT.giveUp L V (λx hx=>p x (by simp[hx])) hB;refine⟨λu=>φ (PV.dB q s rs u),i,λx hx=>?_,λu J=>?_,A,λcs R y=>?_⟩
   ·rw[awT]at hx;rcases hx with rfl|hx
    ·simp only;rw[S];exact .inr (k2 _ rfl)
    ·obtain⟨j,O⟩:=List.mem_iff_getElem?.1 hx;have:=U (j+1) x Om (by simpa using O);simp only;rw[this];exact k1 x hx
   ·simp only;rw[ep J,k2 u J]
   ·refine .step Q ?_;have e:PV.frz q s rs (.agg cs)=.agg (cs.map (PV.dB q s rs)):=rfl;rw[e];refine E _ R ?_;rw[azL];exact y
theorem s9{K:cJ}{α:Type}{d:α→PF}{Hs:α→PH}{e:α→Prop}{m:α→Nat}{n q s:Nat}{rs:List (List PV)}(a:α)(w:H q=some (.rows s rs))(i:e a)(u:m a<n)(l:(d a).le (F.frz q s rs))(p:(Hs a).le (H.frz q s rs)):lO d Hs e m n K .normal F H:=
 ⟨a,_,_,.step q w (.refl _ _),i,u,l,p⟩
end
structure HF(C:Ctx):Prop extends yd C where
 int:∀n:Int,dX n→aJ C 47 [.int .i64 n] .nil (aQ (.agg (mkT n 1).cells))
 itoa:∀n:Nat,n<100→aJ C 195 [.int .i64 n] .nil (aQ (.str (cB n)))
 next:∀(l:List Nat)(v:PV),Tp l v→∀(o n a:Nat),n≤1000000→a≤Z' l→aJ C 4 [.ptr o 2 0 0,.int .i64 n] (PH.nil.set o (bL v a)) (bg l v o n a)
section
variable {C:Ctx} {F:PF} {H:PH} {l:List Nat} {v:PV} {o a:Nat}
theorem dP(i:HF C)(T:Tp l v){n:Nat}{args:List aO}{d:Option Nat}{K:PF→PH→Prop}(w:n≤1000000)(p:a≤Z' l)(e:aO.evs F args=some [.ptr o 2 0 0,.int .i64 n])(x:H o=some (bL v a))
  (u:K (F.put d (.int .i64 ((aE l n a).1:Nat))) (H.set o (bL v (aE l n a).2))):kN C 4 args [] d K F H:=
 mT (i.next l v T o n a w p) x e u
end
def agM(l:List Nat)(v:PV)(o a:Nat)(r:PV)(H:PH):Prop:=r=.agg (fX l a).1.cells∧H=PH.nil.set o (bL v (fX l a).2)
theorem wH(l:List Nat){a:Nat}(h:a≤Z' l):(fX l a).2≤Z' l:=bR l 8 (bR l 6 h)
theorem adV{C:Ctx}(e:HF C){l:List Nat}{v:PV}(T:Tp l v)(o a:Nat)(w:a≤Z' l):JX.wp C (bD U5.res (agM l v o a)) (PF.args [.ptr o 2 0 0]) (PH.nil.set o (bL v a)):=by
 simp only[go_sem,JX,Ec,U5];refine aW λp hp=>?_;have y:¬p=o:=(iW.1 hp).1;have d:¬o=p:=λh=>y h.symm;have K:=cL l (show 0<6 by decide) a;have a1:=bR l 6 w;simp only[go_sem,Ed];refine dP e T (o:=o) (n:=6) (a:=a) aV w rfl (by simp only[go_sem,d]) ?_;have E:IntKind.i64.wrap (1+((aE l 6 a).1:Int))=((1+(aE l 6 a).1:Nat):Int):=by rw[wrap_i64 Om Om];omega
 simp only[go_sem,E];have M:=cL l (show 0<8 by decide) (aE l 6 a).2;refine dP e T (o:=o) (n:=8) (a:=(aE l 6 a).2) aV a1 rfl Sq ?_;have e2:IntKind.i64.wrap (1+((aE l 8 (aE l 6 a).2).1:Int))=((1+(aE l 8 (aE l 6 a).2).1:Nat):Int):=by rw[wrap_i64 Om Om];omega
 simp only[go_sem,e2];refine aB (e.fmk ((1+(aE l 6 a).1:Nat):Int) ((1+(aE l 8 (aE l 6 a).2).1:Nat):Int) (by unfold dX;omega) (by unfold dX;omega)) rfl ?_;have J:¬((1+(aE l 8 (aE l 6 a).2).1:Nat):Int)=0:=Om;unfold yE;rw[aC J];simp only[go_sem];refine aW λq x=>?_;have A:¬q=o:=(iW.1 x).1;have B:¬q=p:=(iW.1 (iW.1 x).2).1;have u:¬p=q:=λh=>B h.symm;have i:¬o=q:=λh=>A h.symm;simp only[go_sem,Ee,y,d,A,B,u];refine bF (vs:=[.agg (fX l a).1.cells]) (.inr rfl) (PH.nil.set o (bL v (fX l a).2)) ?_ (PH.aN a_ ?_) ⟨rfl,rfl⟩
 ·simp only[go_sem];rfl
 ·simp only[go_sem,d,i];rfl
structure x8(C:Ctx):Prop extends HF C where
 frac:∀(l:List Nat)(v:PV),Tp l v→∀(o a:Nat),a≤Z' l→aJ C 1 [.ptr o 2 0 0] (PH.nil.set o (bL v a)) (agM l v o a)
abbrev hZ(l:List RF):List (List PV):=l.map RF.cells
theorem yX(l:List RF)(x:RF):hZ l++[x.cells]=hZ (l++[x]):=by simp[hZ]
theorem IK(l:List RF):Flat (hZ l):=Flat.map l λx c d q s rs=>by
 simp only[RF.cells,hL,awT,axD,or_false]at d;rcases d with rfl|rfl|rfl<;>rfl
theorem nZ(l:List RF):(hZ l).length=Z' l:=by simp[hZ]
theorem Tp.frz{l:List Nat}{v:PV}(T:Tp l v)(q s:Nat)(rs:List (List PV)):PV.dB q s rs v=v:=by
 rcases T.seen with⟨_,rfl⟩|rfl<;>rfl
theorem GT(l:List Nat){a:Nat}(h:a≤Z' l):∀k,(lN l a k).2≤Z' l
 |0=>h
 |k+1=>wH l (GT l h k)
theorem Hi(l:List Nat)(a:Nat):∀k,(lN l a k).1.length=k
 |0=>rfl
 |k+1=>by simp only[lN,awQ,awV,Hi l a k]
def alC(l:List Nat)(v:PV)(o a k:Nat)(r:PV)(H:PH):Prop:=r=frs (lN l a k).1∧H=PH.nil.set o (bL v (lN l a k).2)
def U9(o:Nat)(m:Nat)(w:PV)(i:Nat):PF:=((((PF.nil.set 0 (.ptr o 2 0 0)).set 1 (.int .i64 m)).set 5 (w)).set 6 (.int .i64 i))
theorem ajH{C:Ctx}(K:x8 C){l:List Nat}{v:PV}(T:Tp l v)(o a m:Nat)(U:m≤1000)(O:a≤Z' l):PS.wp C (bD aeD.res (alC l v o a (max m 1))) (PF.args [.ptr o 2 0 0,.int .i64 m]) (PH.nil.set o (bL v a)):=by
 have u:∀i:Nat,((i:Int)<(if(m:Int)<1 then 1 else(m:Int)))↔i<max m 1:=by intro i;split<;>omega
 simp only[go_sem,PS,O1,O2,O3,aeD];have M:aT (PH.nil.set o (bL v a)) [(o,bL v a)] [(.aH,3,hZ [])]:=(aT.nil.new (H:=PH.nil) rfl (bL v a)).wO 3;refine wp_loop (α:=Nat × PV × PH) (λt=>U9 o m t.2.1 t.1) (λt=>t.2.2) (λt=>t.1≤max m 1∧aT t.2.2 [(o,bL v (lN l a t.1).2)] [(t.2.1,3,hZ (lN l a t.1).1)]) (λt=>max m 1-t.1) (0,.aH,PH.nil.set o (bL v a)) ⟨axB _,M⟩ ?_ b_ ?_
 ·unfold U9;exact Lq
 rintro⟨k,w,S⟩ ⟨Q,p⟩;simp only at Q p ⊢;simp only[go_sem,O0,O4,U9];have B:=GT l O k;have d:=Hi l a k;by_cases hlt:k<max m 1
 ·have A:=(u k).2 hlt;simp only[go_sem,A,O5];refine mT (K.frac l v T o _ B) (p.at 0 rfl) rfl ?_;have y:=p.set 0 rfl (bL v (fX l (lN l a k).2).2);have x:(1:Nat)*3≤16777216:=by decide
  simp only[go_sem,x];refine y.append 0 (src:=[(fX l (lN l a k).2).1.cells]) rfl rfl (by unfold roomFor;rw[nZ,d];simp only[awV,maxLen];omega) λR H' J _=>?_;rw[yX]at J;simp only[go_sem,O6,wZz k];refine aP (k+1,R,H') ⟨hlt,J⟩ (by simp only;omega) ?_ b_;exact Lq
 ·have A:¬((k:Int)<(if(m:Int)<1 then 1 else(m:Int))):=λh=>hlt ((u k).1 h);have e:k=max m 1:=Om;subst e;simp only[go_sem,A,O7];have E:hZ (lN l a (max m 1)).1≠[]:=λh=>by have:=congrArg List.length h;rw[nZ,d]at this;simp at this
  rcases p.own 0 rfl with⟨N,_⟩|⟨q,rs,rfl,_⟩
  ·exact absurd N E
  obtain⟨rs,g1,g2,g3,-,g4⟩:=p.frz 0 rfl;refine GU (vs:=[.osl q 3 0 (hZ (lN l a (max m 1)).1).length]) (.inr rfl) rfl (.step g1 (.done (H2:=PH.nil.set o (bL v (lN l a (max m 1)).2)) ?_ (PH.aN a_ ?_)))
  ·rw[cR,g3];exact⟨rfl,rfl⟩
  ·have:=g4.at 0 rfl;rw[this];simp only[aR.frz,axL,ayI,T.frz];rfl
theorem aeA{C:Ctx}(e:HF C)(s:List UInt8)(n:Nat)(u:Z' s≤100)(i:n<100):KD.wp C (bD U8.res (aQ (.str (s++cB n)))) (PF.args [.str s,.int .i64 n]) .nil:=by
 have p:(cB n).length≤2:=by
  unfold cB;rw[Lib.decDigits];split
  ·simp
  ·rw[Lib.decDigits,dif_pos Om];simp
 have d:¬(((Z' s+(cB n).length:Nat):Int)>9223372036854775807):=Om;simp only[go_sem,KD,E0,E4,U8];refine aB (e.itoa n i) rfl ?_;simp only[go_sem,R6,d];refine cY (.inr rfl) rfl ?_;rfl
structure uI(C:Ctx):Prop extends x8 C where
 rep:∀(l:List Nat)(v:PV),Tp l v→∀(o a m:Nat),m≤1000→a≤Z' l→aJ C 5 [.ptr o 2 0 0,.int .i64 m] (PH.nil.set o (bL v a)) (alC l v o a (max m 1))
 name:∀(s:List UInt8)(n:Nat),Z' s≤100→n<100→aJ C 29 [.str s,.int .i64 n] .nil (aQ (.str (s++cB n)))
theorem abL(l:List Nat)(i j:Nat){a:Nat}(h:a≤Z' l):(kB l i j a).2≤Z' l:=by
 unfold kB;split
 ·exact wH l h
 ·split
  ·exact h
  ·simp only;split
   ·exact wH l (bR l 3 h)
   ·exact bR l 3 h
theorem ny(l:List Nat)(i:Nat){a:Nat}(h:a≤Z' l):∀j,(eA l i a j).2≤Z' l
 |0=>h
 |j+1=>abL l i j (ny l i h j)
theorem ZW(l:List Nat)(i a:Nat):∀j,(eA l i a j).1.length=j
 |0=>rfl
 |j+1=>by simp only[eA,awQ,awV,ZW l i a j]
theorem YD(l:List Nat)(n i:Nat)(s:DO)(h:s.a≤Z' l):(dZ l n i s).2≤Z' l∧(dZ l n i s).1≤s.left:=by
 unfold dZ;split
 ·exact⟨bR l _ h,by have:=cL l (Om:0<s.left+1) s.a;omega⟩
 ·exact⟨h,awP _⟩
theorem Ah(l:List Nat)(n i:Nat){a:Nat}(h:a≤Z' l):(fH l n i a).2≤Z' l:=by
 unfold fH;simp only;split
 ·exact bR l 3 (wH l h)
 ·exact wH l h
theorem mb(l:List Nat)(n:Nat){a:Nat}(h:a≤Z' l):∀i,(gV l n a i).a≤Z' l∧(gV l n a i).left≤8∧(gV l n a i).start.length=i∧(gV l n a i).exit.length=i∧(gV l n a i).avF.length=i
 |0=>⟨h,awP _,rfl,rfl,rfl⟩
 |i+1=>by
  obtain⟨d,w,e,p,h5⟩:=mb l n h i;have u:=YD l n i (gV l n a i) d;refine⟨?_,?_,?_,?_,?_⟩
  ·exact ny l i (Ah l n i u.1) n
  ·simp only[gV];omega
  ·simp only[gV,awQ,awV,e]
  ·simp only[gV,awQ,awV,p]
  ·simp only[gV,awQ,awV,h5]
abbrev wS(l:List (List RF)):List (List PV):=l.map λr=>[frs r]
theorem vd(l:List (List RF)):Flat (wS l):=Flat.map l λx c d q s rs=>by
 simp only[awT,axD,or_false]at d;subst d;rfl
abbrev YB(d e i:PV):aR:=.rows 4 [[.str [],d,e,i]]
abbrev Dn:aR:=.rows 4 [[.str [],.aH,.aH,.aH]]
def gI(o o4 o6 n left i:Nat)(w:PV)(j:Nat):PF:=((((((((PF.nil.set 0 (.ptr o 2 0 0)).set 4 (.ptr o4 4 0 0)).set 5 (.int .i64 n)).set 6 (.ptr o6 4 0 0)).set 7 (.int .i64 left)).set 8 (.int .i64 i)).set 13 (w)).set 14 (.int .i64 j))
def dC(o o4 o6 n left i:Nat):PF:=((((((PF.nil.set 0 (.ptr o 2 0 0)).set 4 (.ptr o4 4 0 0)).set 5 (.int .i64 n)).set 6 (.ptr o6 4 0 0)).set 7 (.int .i64 left)).set 8 (.int .i64 i))
theorem YH{l:List RF}(h:Z' l≤1000):roomFor (hZ l).length 1 56:=by
 unfold roomFor;rw[nZ];simp only[maxLen];omega
theorem adZ{C:Ctx}(W:uI C){l:List Nat}{v:PV}(T:Tp l v)(o o4 o6 n left i a:Nat)(ha:a≤Z' l)(hn:n≤100)(hi:i<n)(B:List BX)(L:List LI)(K:cJ)(F:PF)(H:PH)
  (hF:(gI o o4 o6 n left i .aH 0).le F) (Q:aT H ((o,bL v a)::B) L)
  (hK:∀w e H',(gI o o4 o6 n left i w n).le e→aT H' ((o,bL v (eA l i a n).2)::B) (L++[(w,3,hZ (eA l i a n).1)])→K (.exit 2) e H') :
  aD.wp C (.loop KB) K F H:=by
 refine wp_loop (α:=Nat × PV × PH) (λt=>gI o o4 o6 n left i t.2.1 t.1) (λt=>t.2.2) (λt=>t.1≤n∧aT t.2.2 ((o,bL v (eA l i a t.1).2)::B) (L++[(t.2.1,3,hZ (eA l i a t.1).1)])) (λt=>n-t.1) (0,.aH,H) ⟨axB _,Q.wO 3⟩ hF b_ ?_;rintro⟨j,w,H0⟩ ⟨hj,Q⟩;simp only at hj Q ⊢;have O:=ny l i ha j;have ε:=ZW l i a j;have e1:IntKind.i64.wrap ((i:Int)+1)=((i+1:Nat):Int):=dT Om;simp only[go_sem,KB,Eu,gI];by_cases hlt:j<n
 ·have E:(j:Int)<(n:Nat):=Om;simp only[go_sem,E,Ew];refine aB (W.int 0 (by unfold dX;omega)) rfl ?_;simp only[go_sem];refine aW λp hp=>?_;have y:=Q.new hp (.rows 3 [kW.cells]);simp only[go_sem,Ex,e1];have fin:∀(e:PF)(H':PH),(gI o o4 o6 n left i w j).le e→e 15=some (.ptr p 3 0 0)→aT H' ((o,bL v (kB l i j (eA l i a j).2).2)::B++[(p,.rows 3 [(kB l i j (eA l i a j).2).1.cells])]) (L++[(w,3,hZ (eA l i a j).1)]) →
    aD.wp C (.region YQ) (gU 3 (jT C (aD.wp C (.region YR)) (lO (λ(t:Nat × PV × PH)=>gI o o4 o6 n left i t.2.1 t.1) (λt=>t.2.2) (λt=>t.1≤n∧aT t.2.2 ((o,bL v (eA l i a t.1).2)::B) (L++[(t.2.1,3,hZ (eA l i a t.1).1)])) (λt=>n-t.1) (n-j) K))) e H':=by
   intro e H' d J R;have f0:e 0=some (.ptr o 2 0 0):=d 0 _ (by unfold gI;simp only[go_sem]);have f4:e 4=some (.ptr o4 4 0 0):=d 4 _ (by unfold gI;simp only[go_sem]);have f5:e 5=some (.int .i64 n):=d 5 _ (by unfold gI;simp only[go_sem]);have f6:e 6=some (.ptr o6 4 0 0):=d 6 _ (by unfold gI;simp only[go_sem]);have f7:e 7=some (.int .i64 left):=d 7 _ (by unfold gI;simp only[go_sem]);have f8:e 8=some (.int .i64 i):=d 8 _ (by unfold gI;simp only[go_sem]);have f13:e 13=some w:=d 13 _ (by unfold gI;simp only[go_sem]);have f14:e 14=some (.int .i64 j):=d 14 _ (by unfold gI;simp only[go_sem]);have γ:H' p=some (.rows 3 [(kB l i j (eA l i a j).2).1.cells]):=R.box (p,.rows 3 [(kB l i j (eA l i a j).2).1.cells]) aY;have Y:(1:Nat)*3≤16777216:=by decide
   simp only[go_sem,YQ,f13,J,γ,Y];refine R.append (v:=w) (s:=3) (rows:=hZ (eA l i a j).1) L.length (src:=[(kB l i j (eA l i a j).2).1.cells]) aY rfl (YH Om) λw' H2 h2 _=>?_;rw[yX,azT _ _ (awP _),azP]at h2;simp only[go_sem,YR,f14,wZz j];refine aP (α:=Nat × PV × PH) (j+1,w',H2) ⟨hlt,h2.sub (List.sublist_append_left ..) (ayV.refl _)⟩ (by simp only;omega) ?_ b_;unfold gI;exact Lq
  simp only[aD.wp,go_sem]at fin;have V:∀x:RF,PH.set (PH.set H0 p (.rows 3 [kW.cells])) p (.rows 3 [x.cells])=PH.set H0 p (.rows 3 [x.cells]):=λx=>PH.set_set p _ _;have draw:∀(e:PF)(S:PH)(a1:Nat),a1≤Z' l→(gI o o4 o6 n left i w j).le e→e 15=some (.ptr p 3 0 0)→aT S ((o,bL v a1)::B++[(p,.rows 3 [kW.cells])]) (L++[(w,3,hZ (eA l i a j).1)])→kB l i j (eA l i a j).2=fX l a1→∀K',(∀N H2,(gI o o4 o6 n left i w j).le N→N 15=some (.ptr p 3 0 0)→aT H2 ((o,bL v (kB l i j (eA l i a j).2).2)::B++[(p,.rows 3 [(kB l i j (eA l i a j).2).1.cells])]) (L++[(w,3,hZ (eA l i a j).1)])→K' N H2) →
    wpOps C YP K' e S:=by
   intro e S a1 β d J y M K' Z;have f0:e 0=some (.ptr o 2 0 0):=d 0 _ (by unfold gI;simp only[go_sem]);simp only[go_sem,YP,f0];refine mT (W.frac l v T o a1 β) (y.at 0 rfl) rfl ?_;have A:aT (S.set o (bL v (fX l a1).2)) ((o,bL v (fX l a1).2)::B++[(p,.rows 3 [kW.cells])]) (L++[(w,3,hZ (eA l i a j).1)]):=y.set 0 rfl _;have δ:=A.NJ;simp only[go_sem,J,δ];refine Z _ _ ?_ (by simp only[go_sem,J]) ?_
   ·have g:=λ(q:Nat) u h=>d q u h;unfold gI at g ⊢;refine c_ (c_ (c_ (c_ (c_ (c_ (c_ (c_ d_ ?_) ?_) ?_) ?_) ?_) ?_) ?_) ?_
    ·simp only[go_sem,f0]
    ·simp only[go_sem,g 4 _ rfl]
    ·simp only[go_sem,g 5 _ rfl]
    ·simp only[go_sem,g 6 _ rfl]
    ·simp only[go_sem,g 7 _ rfl]
    ·simp only[go_sem,g 8 _ rfl]
    ·simp only[go_sem,g 13 _ rfl]
    ·simp only[go_sem,g 14 _ rfl]
   ·rw[M];exact A.nz (.rows 3 [(fX l a1).1.cells])
  by_cases U:j=i+1
  ·have M:kB l i j (eA l i a j).2=fX l (eA l i a j).2:=by unfold kB;rw[aF U]
   simp only[go_sem,cH (Om:(j:Int)=((i+1:Nat):Int))];refine draw _ _ _ O (by unfold gI;exact Lq) rfl y M _ ?_;intro N H2 k1 k2 k3;exact fin N H2 k1 k2 k3
  ·simp only[go_sem,bO (Om:¬(j:Int)=((i+1:Nat):Int))];by_cases X:j=i
   ·have M:kB l i j (eA l i a j).2=(kW,(eA l i a j).2):=by unfold kB;rw[aC U,aF X]
    simp only[go_sem,dO (Om:(j:Int)=(i:Int))];exact fin _ _ (by unfold gI;exact Lq) rfl (by rw[M];exact y)
   ·simp only[go_sem,fJ (Om:¬(j:Int)=(i:Int))];refine dP W.toHF T (o:=o) (n:=3) (a:=(eA l i a j).2) aV O rfl (y.at 0 rfl) ?_;have A:aT _ ((o,bL v (aE l 3 (eA l i a j).2).2)::B++[(p,.rows 3 [kW.cells])]) (L++[(w,3,hZ (eA l i a j).1)]):=y.set 0 rfl _;by_cases c3:(aE l 3 (eA l i a j).2).1=0
    ·have M:kB l i j (eA l i a j).2=fX l (aE l 3 (eA l i a j).2).2:=by unfold kB;rw[aC U,aC X];simp only[c3,if_true]
     simp only[go_sem,cH (show(((aE l 3 (eA l i a j).2).1:Nat):Int)=0 by omega)];refine draw _ _ _ (bR l 3 O) (by unfold gI;exact Lq) rfl A M _ ?_;intro N H2 k1 k2 k3;exact fin N H2 k1 k2 k3
    ·have M:kB l i j (eA l i a j).2=(kW,(aE l 3 (eA l i a j).2).2):=by unfold kB;rw[aC U,aC X];simp only[c3,if_false]
     simp only[go_sem,bO (show ¬(((aE l 3 (eA l i a j).2).1:Nat):Int)=0 by omega)];exact fin _ _ (by unfold gI;exact Lq) rfl (by rw[M];exact A)
 ·have E:¬(j:Int)<(n:Nat):=Om;have:j=n:=Om;subst this;simp only[go_sem,E];exact hK w _ _ (by unfold gI;exact Lq) Q
abbrev sV(o o4 o6:Nat)(v d e i:PV)(a:Nat):List BX:=[(o,bL v a),(o4,Dn),(o6,YB d e i)]
abbrev wY(s:DO)(d e i:PV):List LI:=[(d,3,hZ s.start),(e,1,wS s.avF),(i,3,hZ s.exit)]
theorem Yv{C:Ctx}(J:uI C){l:List Nat}{v:PV}(T:Tp l v)(o o4 o6 n i:Nat)(s:DO)(E:s.a≤Z' l)(U:s.left≤8)(V:n≤100)(hi:i<n)(B:List BX)(L:List LI)(rest:aD)(K:cJ)(F:PF)(H:PH)
  (d:(dC o o4 o6 n s.left i).le F) (x:aT H ((o,bL v s.a)::B) L)
  (p:∀u H',(dC o o4 o6 n (s.left-(dZ l n i s).1) i).le u→u 9=some (.int .i64 ((dZ l n i s).1:Nat))→aT H' ((o,bL v (dZ l n i s).2)::B) L→aD.wp C rest K u H') :
  aD.wp C (.seq (.region mh) (.seq (.seq (.region mi) (.cond (.tmp 29) (.region mj) .skip)) (.seq (.region TG) rest))) K F H:=by
 have f0:F 0=some (.ptr o 2 0 0):=d 0 _ (by unfold dC;simp only[go_sem]);have R:F 4=some (.ptr o4 4 0 0):=d 4 _ (by unfold dC;simp only[go_sem]);have O:F 5=some (.int .i64 n):=d 5 _ (by unfold dC;simp only[go_sem]);have f6:F 6=some (.ptr o6 4 0 0):=d 6 _ (by unfold dC;simp only[go_sem]);have f7:F 7=some (.int .i64 s.left):=d 7 _ (by unfold dC;simp only[go_sem]);have Q:F 8=some (.int .i64 i):=d 8 _ (by unfold dC;simp only[go_sem]);have M:IntKind.i64.wrap ((i:Int)+1)=((i+1:Nat):Int):=dT Om;have S:=(YD l n i s E).2;have e:IntKind.i64.wrap ((s.left:Int)-((dZ l n i s).1:Int))=((s.left-(dZ l n i s).1:Nat):Int):=by rw[wrap_i64 Om Om];omega
 simp only[go_sem,mh,f7,mi,Q,O,M];by_cases c:i+1<n
 ·have w:((i+1:Nat):Int)<(n:Nat):=Om;have A:dZ l n i s=aE l (s.left+1) s.a:=by unfold dZ;rw[aF c]
  have N:IntKind.i64.wrap ((s.left:Int)+1)=((s.left+1:Nat):Int):=dT Om;rw[A]at p e;simp only[go_sem,w,mj,f0,f7,N];refine dP J.toHF T (o:=o) (n:=s.left+1) (a:=s.a) Om E rfl x.alK ?_;have y:=x.akG (bL v (aE l (s.left+1) s.a).2);simp only[go_sem,TG,f7,e];refine p _ _ ?_ rfl y;unfold dC;exact Lq
 ·have w:¬((i+1:Nat):Int)<(n:Nat):=Om;have A:dZ l n i s=(s.left,s.a):=by unfold dZ;rw[aC c]
  rw[A]at p e;simp only at p e;simp only[go_sem,w,TG,f7,e];refine p _ _ ?_ rfl x;unfold dC;exact Lq
theorem U7{C:Ctx}(Q:uI C){l:List Nat}{v:PV}(o o4 o6 n i left k a:Nat)(hk:k≤8)(hi:i<n)(hn:n≤100)(s:DO)(hs:Z' s.start=i)(O w x:PV)(B:List BX)(rest:aD)(K:cJ)(F:PF)(H:PH)
  (u:(dC o o4 o6 n left i).le F) (R:F 9=some (.int .i64 k)) (W:aT H (sV o o4 o6 v O w x a++B) (wY s O w x))
  (X:∀e N H' B',(dC o o4 o6 n left i).le N→aT H' (sV o o4 o6 v e w x a++B') (wY { s with start:=s.start++[mkT (k:Nat) 8] } e w x)→aD.wp C rest K N H') :
  aD.wp C (.seq (.region YI) (.seq (.region YJ) rest)) K F H:=by
 have f0:F 0=some (.ptr o 2 0 0):=u 0 _ (by unfold dC;simp only[go_sem]);have Z:F 4=some (.ptr o4 4 0 0):=u 4 _ (by unfold dC;simp only[go_sem]);have f5:F 5=some (.int .i64 n):=u 5 _ (by unfold dC;simp only[go_sem]);have f6:F 6=some (.ptr o6 4 0 0):=u 6 _ (by unfold dC;simp only[go_sem]);have f7:F 7=some (.int .i64 left):=u 7 _ (by unfold dC;simp only[go_sem]);have f8:F 8=some (.int .i64 i):=u 8 _ (by unfold dC;simp only[go_sem]);simp only[go_sem,YI,R];refine aB (Q.fmk (k:Int) 8 (by unfold dX;omega) (by unfold dX;omega)) rfl ?_;unfold yE;rw[aC aV];simp only[go_sem];refine aW λp hp=>?_;have d:=W.new hp (.rows 3 [(mkT (k:Nat) 8).cells]);have S:=d.at 2 rfl;have U:=d.NJ;have E:(1:Nat)*3≤16777216:=by decide
 have Y:∀y,PH.set (PH.set H p (.rows 3 [[PV.bool false,PV.aH,PV.aH]])) p y=PH.set H p y:=λy=>PH.set_set p _ _;simp only[go_sem,YJ,f6,S,U,E];refine d.append 0 (src:=[(mkT (k:Nat) 8).cells]) rfl rfl (YH Om) λe H2 J M=>?_;rw[yX]at J M;rw[nZ]at M;obtain⟨q,rfl⟩:=M aY;have A:=J.at 2 rfl;simp only[go_sem,A,awT,axD,or_false,forall_eq];have V:=J.set 2 rfl (YB (.osl q 3 0 (s.start++[mkT (k:Nat) 8]).length) w x);refine X _ _ _ (B++[(p,.rows 3 [(mkT (k:Nat) 8).cells])]) ?_ V;unfold dC;exact Lq
theorem Yu{C:Ctx}(O:uI C){l:List Nat}{v:PV}(T:Tp l v)(o o4 o6 n i left a:Nat)(ha:a≤Z' l)(hi:i<n)(hn:n≤100)(s:DO)(hs:Z' s.exit=i)(u w M:PV)(B:List BX)(rest:aD)(K:cJ)(F:PF)(H:PH)
  (J:(dC o o4 o6 n left i).le F) (hH:aT H (sV o o4 o6 v u w M a++B) (wY s u w M))
  (hK:∀E d H' B',(dC o o4 o6 n left i).le d→aT H' (sV o o4 o6 v u w E (fH l n i a).2++B') (wY { s with exit:=s.exit++[(fH l n i a).1] } u w E)→aD.wp C rest K d H') :
  aD.wp C (.seq (.region YK) (.seq (.seq (.region YL) (.cond (.tmp 58) (.region YM) .skip)) (.seq (.region KC) rest))) K F H:=by
 have f0:F 0=some (.ptr o 2 0 0):=J 0 _ (by unfold dC;simp only[go_sem]);have f4:F 4=some (.ptr o4 4 0 0):=J 4 _ (by unfold dC;simp only[go_sem]);have f5:F 5=some (.int .i64 n):=J 5 _ (by unfold dC;simp only[go_sem]);have f6:F 6=some (.ptr o6 4 0 0):=J 6 _ (by unfold dC;simp only[go_sem]);have f7:F 7=some (.int .i64 left):=J 7 _ (by unfold dC;simp only[go_sem]);have f8:F 8=some (.int .i64 i):=J 8 _ (by unfold dC;simp only[go_sem]);have e1:IntKind.i64.wrap ((i:Int)+1)=((i+1:Nat):Int):=dT Om;simp only[go_sem,YK,f0];refine mT (O.frac l v T o a ha) (hH.at 0 rfl) rfl ?_;have X:=hH.set 0 rfl (bL v (fX l a).2);simp only[go_sem];refine aW λp hp=>?_;have y:=X.new hp (.rows 3 [(fX l a).1.cells]);simp only[go_sem,YL,f8,f5,e1];have fin:∀(d:PF)(H':PH),(dC o o4 o6 n left i).le d→d 12=some (.ptr p 3 0 0)→aT H' (sV o o4 o6 v u w M (fH l n i a).2++B++[(p,.rows 3 [(fH l n i a).1.cells])]) (wY s u w M)→wpOps C KC (aD.wp C rest K) d H':=by
  intro d H' e R x;have q0:d 0=some (.ptr o 2 0 0):=e 0 _ (by unfold dC;simp only[go_sem]);have q4:d 4=some (.ptr o4 4 0 0):=e 4 _ (by unfold dC;simp only[go_sem]);have q5:d 5=some (.int .i64 n):=e 5 _ (by unfold dC;simp only[go_sem]);have q6:d 6=some (.ptr o6 4 0 0):=e 6 _ (by unfold dC;simp only[go_sem]);have q7:d 7=some (.int .i64 left):=e 7 _ (by unfold dC;simp only[go_sem]);have q8:d 8=some (.int .i64 i):=e 8 _ (by unfold dC;simp only[go_sem]);have g6:=x.at 2 rfl;have U:=x.NJ;have V:(1:Nat)*3≤16777216:=by decide
  simp only[go_sem,KC,q6,g6,R,U,V];refine x.append 2 (src:=[(fH l n i a).1.cells]) rfl rfl (YH Om) λE H2 W Z=>?_;rw[yX]at W Z;rw[nZ]at Z;obtain⟨q,rfl⟩:=Z aY;have S:=W.at 2 rfl;simp only[go_sem,S,awT,axD,or_false,forall_eq];have h3:=W.set 2 rfl (YB u w (.osl q 3 0 (s.exit++[(fH l n i a).1]).length));refine hK _ _ _ (B++[(p,.rows 3 [(fH l n i a).1.cells])]) ?_ h3;unfold dC;exact Lq
 by_cases c:i+1<n
 ·have Q:((i+1:Nat):Int)<(n:Nat):=Om;have Y:=wH l ha;simp only[go_sem,Q,f0];refine dP O.toHF T (o:=o) (n:=3) (a:=(fX l a).2) aV Y rfl (y.at 0 rfl) ?_;have A:=y.set 0 rfl (bL v (aE l 3 (fX l a).2).2);by_cases c3:(aE l 3 (fX l a).2).1=0
  ·have N:fH l n i a=(kW,(aE l 3 (fX l a).2).2):=by unfold fH;simp only[aF c,c3,if_true]
   have U:=aT.NJ (B:=sV o o4 o6 v u w M (aE l 3 (fX l a).2).2++B) A;simp only[go_sem,cH (show(((aE l 3 (fX l a).2).1:Nat):Int)=0 by omega),YM];refine aB (O.int 0 (by unfold dX;omega)) rfl ?_;simp only[go_sem,U];refine fin _ _ ?_ rfl ?_
   ·unfold dC;exact Lq
   ·rw[N];exact aT.nz (B:=sV o o4 o6 v u w M (aE l 3 (fX l a).2).2++B) A (.rows 3 [kW.cells])
  ·have N:fH l n i a=((fX l a).1,(aE l 3 (fX l a).2).2):=by unfold fH;simp only[aF c,c3,if_false]
   simp only[go_sem,bO (show ¬(((aE l 3 (fX l a).2).1:Nat):Int)=0 by omega)];refine fin _ _ ?_ rfl ?_
   ·unfold dC;exact Lq
   ·rw[N];exact A
 ·have Q:¬((i+1:Nat):Int)<(n:Nat):=Om;have N:fH l n i a=fX l a:=by unfold fH;simp only[aC c]
  simp only[go_sem,Q];refine fin _ _ ?_ rfl ?_
  ·unfold dC;exact Lq
  ·rw[N];exact y
def aaZ(l:List Nat)(v:PV)(o eQ a:Nat)(r:PV)(H:PH):Prop:=r=.agg (sE l eQ a).1.cells∧H=PH.nil.set o (bL v (sE l eQ a).2)
theorem Zy{l:List (List RF)}(h:Z' l≤1000):roomFor (wS l).length 1 24:=by
 unfold roomFor;simp only[awL,maxLen];omega
theorem Zz(l:List (List RF))(x:List RF):wS l++[[frs x]]=wS (l++[x]):=by simp[wS]
theorem U6{C:Ctx}(Lb:uI C){l:List Nat}{v:PV}(T:Tp l v)(o o4 o6 n left i a:Nat)(ha:a≤Z' l)(hn:n≤100)(hi:i<n)(s:DO)(hs:Z' s.avF=i)(x N E:PV)(B:List BX)(K:cJ)(F:PF)(H:PH)
  (J:(dC o o4 o6 n left i).le F) (hH:aT H (sV o o4 o6 v x N E a++B) (wY s x N E))
  (hK:∀A y V H' B',(dC o o4 o6 n left i).le V→(∃q,y=.osl q 3 0 n)→aT H' (sV o o4 o6 v x A E (eA l i a n).2++B') [(x,3,hZ s.start),(A,1,wS s.avF++[[y]]),(E,3,hZ s.exit),(y,3,hZ (eA l i a n).1)]→K .normal V H') :
  aD.wp C (.seq (.region YN) (.seq (.seq (.region YO) (.block 2 (.loop KB))) (.region YS))) K F H:=by
 have f0:F 0=some (.ptr o 2 0 0):=J 0 _ (by unfold dC;simp only[go_sem]);have f4:F 4=some (.ptr o4 4 0 0):=J 4 _ (by unfold dC;simp only[go_sem]);have f5:F 5=some (.int .i64 n):=J 5 _ (by unfold dC;simp only[go_sem]);have f6:F 6=some (.ptr o6 4 0 0):=J 6 _ (by unfold dC;simp only[go_sem]);have f7:F 7=some (.int .i64 left):=J 7 _ (by unfold dC;simp only[go_sem]);have f8:F 8=some (.int .i64 i):=J 8 _ (by unfold dC;simp only[go_sem]);simp only[go_sem,YN,YO];refine adZ (C:=C) Lb T o o4 o6 n left i a ha hn hi ([(o4,Dn),(o6,YB x N E)]++B) (wY s x N E) _ _ H ?_ hH ?_
 ·unfold gI
  (repeat' (first|exact d_|refine c_ ?_ ?_))<;>first|(simp only[go_sem,f0,f4,f5,f6,f7,f8]<;>rfl)|rfl
 intro w p H1 d u;have e:=ZW l i a n;have hw:∃q,w=.osl q 3 0 n:=by
  rcases u.own (v:=w) 3 rfl with⟨M,_⟩|⟨q,rs,M,_⟩
  ·have:=congrArg List.length M;rw[nZ,e]at this;simp at this;omega
  ·rw[nZ,e]at M;exact⟨q,M⟩
 obtain⟨q,rfl⟩:=hw;have g0:p 0=some (.ptr o 2 0 0):=d 0 _ (by unfold gI;simp only[go_sem]);have g4:p 4=some (.ptr o4 4 0 0):=d 4 _ (by unfold gI;simp only[go_sem]);have g5:p 5=some (.int .i64 n):=d 5 _ (by unfold gI;simp only[go_sem]);have W:p 6=some (.ptr o6 4 0 0):=d 6 _ (by unfold gI;simp only[go_sem]);have g7:p 7=some (.int .i64 left):=d 7 _ (by unfold gI;simp only[go_sem]);have g8:p 8=some (.int .i64 i):=d 8 _ (by unfold gI;simp only[go_sem]);have Q:p 13=some (.osl q 3 0 n):=d 13 _ (by unfold gI;simp only[go_sem]);have b6:=u.at 2 rfl;have R:(1:Nat)*1≤16777216:=by decide
 simp only[go_sem,YS,W,b6,Q,R,awT,axD,or_false,forall_eq];refine u.append 1 (src:=[[.osl q 3 0 n]]) rfl Sq (Zy Om) λA H2 X U=>?_;obtain⟨Z,rfl⟩:=U aY;have O:=X.at 2 rfl;simp only[go_sem,O,awT,axD,or_false,forall_eq];have Y:=X.set 2 rfl (YB x (.osl Z 1 0 (wS s.avF++[[PV.osl q 3 0 n]]).length) E);have S:(wS s.avF++[[(PV.osl q 3 0 n:PV)]]).length=Z' s.avF+1:=by simp
 rw[S]at Y ⊢;refine hK (.osl Z 1 0 (Z' s.avF+1)) (.osl q 3 0 n) _ _ B ?_ ⟨q,rfl⟩ Y;unfold dC
 (repeat' (first|exact d_|refine c_ ?_ ?_))<;>first|(simp only[go_sem,g0,g4,g5,W,g7,g8]<;>rfl)|rfl
theorem ajE{C:Ctx}(K:uI C){l:List Nat}{v:PV}(T:Tp l v)(o eQ a:Nat)(hm:0<eQ)(δ:eQ≤50)(ha:a≤Z' l):PQ.wp C (bD adY.res (aaZ l v o eQ a)) (PF.args [.ptr o 2 0 0,.int .i64 eQ]) (PH.nil.set o (bL v a)):=by
 have h0:aT (PH.nil.set o (bL v a)) [(o,bL v a)] []:=aT.nil.new (H:=PH.nil) rfl (bL v a);simp only[go_sem,PQ,Oo,adY];refine aW λo4 β=>?_;have J:=h0.new β Dn;simp only[go_sem,Oq];refine dP K.toHF T (o:=o) (n:=eQ) (a:=a) Om ha Sq (J.at 0 rfl) ?_;have h2:=J.set 0 rfl (bL v (aE l eQ a).2);have hN:=cL l hm a;have Y:=bR l eQ ha;have e1:IntKind.i64.wrap (1+((aE l eQ a).1:Int))=((1+(aE l eQ a).1:Nat):Int):=by rw[wrap_i64 Om Om];omega
 have Z:∀s:DO,s=gV l (1+(aE l eQ a).1) (aE l eQ a).2 (1+(aE l eQ a).1)→sE l eQ a=(⟨[],s.start,s.avF,s.exit⟩,s.a):=λs hs=>by rw[hs];rfl
 have X:∀r H,aaZ l v o eQ a r H↔r=.agg (sE l eQ a).1.cells∧H=PH.nil.set o (bL v (sE l eQ a).2):=λ_ _=>Iff.rfl;generalize hn:1+(aE l eQ a).1=n at *
 generalize hb:(aE l eQ a).2=b at *
 have ε:0<n:=Om;have d:n≤100:=Om;simp only[go_sem,e1,Ot];refine aW λo6 γ=>?_;have h3:=((h2.new γ Dn).wO 3).wO 1;have h4:=h3.wO 3;simp only[go_sem,Ou,Ov];refine wp_loop (α:=Nat × PV × PV × PV × PH) (λt=>dC o o4 o6 n (gV l n b t.1).left t.1) (λt=>t.2.2.2.2)
  (λt=>t.1≤n∧aT t.2.2.2.2 (sV o o4 o6 v t.2.1 t.2.2.1 t.2.2.2.1 (gV l n b t.1).a) (wY (gV l n b t.1) t.2.1 t.2.2.1 t.2.2.2.1)) (λt=>n-t.1) (0,.aH,.aH,.aH,_) ⟨axB _,h4⟩ ?_ b_ ?_
 ·unfold dC
  (repeat' (first|exact d_|refine c_ ?_ ?_))<;>first|(simp only[go_sem,gV]<;>rfl)|rfl
 rintro⟨i,w1,M,N,H0⟩ ⟨hi,E⟩;simp only at hi E ⊢;obtain⟨k1,k2,k3,k4,k5⟩:=mb l n Y i;simp only[go_sem,Et,Ow,dC];by_cases hlt:i<n
 ·have A:(i:Int)<(n:Nat):=Om;have B:gV l n b (i+1)=⟨(gV l n b i).start++[mkT ((dZ l n i (gV l n b i)).1:Nat) 8],(gV l n b i).exit++[(fH l n i (dZ l n i (gV l n b i)).2).1],(gV l n b i).avF++[(eA l i (fH l n i (dZ l n i (gV l n b i)).2).2 n).1],(gV l n b i).left-(dZ l n i (gV l n b i)).1,(eA l i (fH l n i (dZ l n i (gV l n b i)).2).2 n).2⟩:=rfl;have kl:=YD l n i (gV l n b i) k1;have ke:=Ah l n i kl.1;generalize hs:gV l n b i=s at *
  simp only[go_sem,A];refine Yv (C:=C) K T o o4 o6 n i s k1 k2 d hlt [(o4,Dn),(o6,YB w1 M N)] (wY s w1 M N) _ _ _ H0 (by unfold dC;exact Lq) E ?_;intro F1 H1 O f9 S;refine U7 (C:=C) (l:=l) K o o4 o6 n i _ (dZ l n i s).1 (dZ l n i s).2 Om hlt d s k3 w1 M N [] _ _ F1 H1 O f9 S ?_;intro e F2 H2 B2 Q U;refine Yu (C:=C) K T o o4 o6 n i _ (dZ l n i s).2 kl.1 hlt d { s with start:=s.start++[mkT ((dZ l n i s).1:Nat) 8] } k4 e M N B2 _ _ F2 H2 Q U ?_;intro p F3 H3 B3 R V;refine U6 (C:=C) K T o o4 o6 n _ i (fH l n i (dZ l n i s).2).2 ke d hlt { s with start:=s.start++[mkT ((dZ l n i s).1:Nat) 8],exit:=s.exit++[(fH l n i (dZ l n i s).2).1] } k5 e M p B3 _ F3 H3 R V ?_;rintro y ζ F H4 B4 u ⟨q,rfl⟩ W;have g0:F 0=some (.ptr o 2 0 0):=u 0 _ (by unfold dC;simp only[go_sem]);have g4:F 4=some (.ptr o4 4 0 0):=u 4 _ (by unfold dC;simp only[go_sem]);have g5:F 5=some (.int .i64 n):=u 5 _ (by unfold dC;simp only[go_sem]);have g6:F 6=some (.ptr o6 4 0 0):=u 6 _ (by unfold dC;simp only[go_sem]);have g7:F 7=some (.int .i64 (s.left-(dZ l n i s).1:Nat)):=u 7 _ (by unfold dC;simp only[go_sem]);have g8:F 8=some (.int .i64 i):=u 8 _ (by unfold dC;simp only[go_sem]);obtain⟨rs,z1,z2,z3,z4,z5⟩:=W.frz 3 rfl;have y1:=z4 0 _ aV rfl;have y2:=z4 1 _ aV rfl;have y3:=z4 2 _ aV rfl;simp only at y1 y2 y3;have y4:=T.frz q 3 rs;simp only[go_sem,Ey,g8,wZz i];refine s9 (i+1,e,y,p,H4.frz q 3 rs) z1 ⟨hlt,?_⟩ (by simp only;omega) ?_ b_
  ·rw[B];have eB:(sV o o4 o6 v e y p (eA l i (fH l n i (dZ l n i s).2).2 n).2).map (λb=>(b.1,b.2.frz q 3 rs))=sV o o4 o6 v e y p (eA l i (fH l n i (dZ l n i s).2).2 n).2:=by simp only[axL,ayI,aR.frz,y1,y2,y3,y4];rfl
   have eL:([(e,3,hZ (s.start++[mkT ((dZ l n i s).1:Nat) 8])),(y,1,wS s.avF++[[.osl q 3 0 n]]),(p,3,hZ (s.exit++[(fH l n i (dZ l n i s).2).1]))]:List LI).map (λx=>(x.1,x.2.1,x.2.2.map λr=>r.map (PV.dB q 3 rs))) =
     wY ⟨s.start++[mkT ((dZ l n i s).1:Nat) 8],s.exit++[(fH l n i (dZ l n i s).2).1],s.avF++[(eA l i (fH l n i (dZ l n i s).2).2 n).1],s.left-(dZ l n i s).1,(eA l i (fH l n i (dZ l n i s).2).2 n).2⟩ e y p:=by
    have e2:(wS s.avF++[[PV.osl q 3 0 n]]).map (λr=>r.map (PV.dB q 3 rs))=wS (s.avF++[(eA l i (fH l n i (dZ l n i s).2).2 n).1]):=by rw[axQ,vd,axL,ayI,axL,ayI,z2,Zz]
    show([(e,3,(hZ (s.start++[mkT ((dZ l n i s).1:Nat) 8])).map (λr=>r.map (PV.dB q 3 rs))),(y,1,(wS s.avF++[[PV.osl q 3 0 n]]).map (λr=>r.map (PV.dB q 3 rs))),(p,3,(hZ (s.exit++[(fH l n i (dZ l n i s).2).1])).map (λr=>r.map (PV.dB q 3 rs)))]:List LI)=_;rw[IK,e2,IK]
   rw[←eB,←eL];exact z5.sub (by rw[axQ];exact List.sublist_append_left ..) (ayV.refl _)
  ·rw[B]
   (repeat' (first|exact d_|refine c_ ?_ ?_))<;>first|(simp only[go_sem,g0,g4,g5,g6,g7,g8]<;>rfl)|rfl
 ·have A:¬(i:Int)<(n:Nat):=Om;have:i=n:=Om;subst this;simp only[go_sem,A,Ez];have b4:=E.at 1 rfl;have b6:=E.at 2 rfl;have osl:∀{w:PV}{z:Nat}{rows:List (List PV)},Z' rows=i→bX H0 z w rows→∃q,w=.osl q z 0 i:=by
   intro w z rows hr hO;rcases hO with⟨J,_⟩|⟨q,rs,J,_⟩
   ·rw[J]at hr;simp at hr;omega
   ·exact⟨q,by rw[J,hr]⟩
  obtain⟨q1,rfl⟩:=osl (by rw[nZ,k3]) (E.own 0 rfl);obtain⟨q2,rfl⟩:=osl (by rw[awL,k5]) (E.own 1 rfl);obtain⟨q3,rfl⟩:=osl (by rw[nZ,k4]) (E.own 2 rfl);have hR:=Z (gV l i b i) rfl;simp only[go_sem,b6,b4,awT,axD,or_false,forall_eq,forall_eq_or_imp];have x1:=E.set 1 rfl (YB (.osl q1 3 0 i) (.osl q2 1 0 i) (.osl q3 3 0 i));obtain⟨r1,s1,s2,s3,s4,s5⟩:=x1.frz 0 rfl;have u2:=s4 1 _ aV rfl;have u3:=s4 2 _ aV rfl;simp only at u2 u3;have u4:=T.frz q1 3 r1;obtain⟨r2,t1,t2,t3,t4,t5⟩:=s5.frz 0 rfl;have m3:=t4 1 _ aV rfl;simp only at m3;have m4:=T.frz q2 1 r2;obtain⟨r3,n1,n2,n3,n4,n5⟩:=t5.frz 0 rfl;have n4:=T.frz q3 3 r3;refine GU (vs:=[.agg [.str [],.osl q1 3 0 i,.osl q2 1 0 i,.osl q3 3 0 i]]) (.inr rfl) ?_ (.step s1 (.step t1 (.step n1 (.done (H2:=PH.nil.set o (bL v (gV l i b i).a)) ?_ (PH.aN a_ ?_)))))
  ·simp only[go_sem]
  ·rw[X,hR];refine⟨?_,rfl⟩;simp only[cR,PV.frz,PV.pL,axL,ayI,s2,u2,u3,t2,m3,n2];simp only[PV.dB,IK _ _ _ _,vd _ _ _ _]
  ·have:=n5.at 0 rfl;rw[this];simp only[aR.frz,axL,ayI,u4,m4,n4];rfl
structure oS(C:Ctx):Prop extends uI C where
 law:∀(l:List Nat)(v:PV),Tp l v→∀(o eQ a:Nat),0<eQ→eQ≤50→a≤Z' l→aJ C 2 [.ptr o 2 0 0,.int .i64 eQ] (PH.nil.set o (bL v a)) (aaZ l v o eQ a)
structure GOk(l:List Nat)(avA:Nat)(s:GS):Prop where
 avJ:Z' s.avJ≤35
 avT:Z' s.avT≤avA
 a:s.a≤Z' l
theorem XI{l:List Nat}{mc avA dom:Nat}{s:GS}(h:GOk l avA s):∀i,GOk l avA (kV l mc avA dom s i)∧(kV l mc avA dom s i).avJ=s.avJ
 |0=>⟨h,rfl⟩
 |i+1=>by
  obtain⟨⟨d,u,e⟩,p⟩:=XI (mc:=mc) (dom:=dom) h i;simp only[kV];split
  ·exact⟨⟨d,by simp only[awQ,awV];omega,bR l mc e⟩,p⟩
  ·exact⟨⟨d,u,e⟩,p⟩
theorem Md{l:List Nat}{level dom avA:Nat}{s:GS}(h:GOk l avA s)(d:rO avA s=false):GOk l avA (oU l level dom s)∧∃x:cX,(oU l level dom s).avJ=s.avJ++[x]∧x.level=(level:Int)∧x.parent=(dom:Int):=by
 obtain⟨p,e,i⟩:=h;unfold rO at d;rw[Bool.or_eq_false_iff]at d;have u:=of_decide_eq_false d.2;refine⟨⟨?_,e,?_⟩,_,rfl,rfl,rfl⟩
 ·simp only[oU,awQ,awV];omega
 ·have a1:=bR l 3 (bR l 16 i);simp only[oU];split
  ·exact bR l 6 a1
  ·exact a1
theorem XJ{l:List Nat}{level avA dom:Nat}{rec:Nat→GS→GS}(e:∀d t,GOk l avA t→GOk l avA (rec d t)∧∃u,(rec d t).avJ=t.avJ++u){s:GS}(h:GOk l avA s) :
  ∀i,GOk l avA (iU l level avA dom rec s i)∧∃u,(iU l level avA dom rec s i).avJ=s.avJ++u
 |0=>⟨h,[],by simp[iU]⟩
 |i+1=>by
  obtain⟨p,u,w⟩:=XJ e h i;simp only[iU];split
  ·exact⟨p,u,w⟩
  ·rename_i y;obtain⟨g1,x,g2,-⟩:=Md (level:=level) (dom:=dom) p (by simpa using y);obtain⟨k1,A,k2⟩:=e ((oU l level dom (iU l level avA dom rec s i)).avJ.length-1) _ g1;exact⟨k1,u++[x]++A,by rw[k2,g2,w];simp⟩
theorem XK{l:List Nat}{mc avA:Nat}:∀(k dom:Nat){s:GS},GOk l avA s→GOk l avA (fE l mc avA k dom s)∧∃u,(fE l mc avA k dom s).avJ=s.avJ++u
 |0,dom,s,h=>by have e:GOk l avA { s with a:=(aE l 2 s.a).2 }:=⟨h.avJ,h.avT,bR l 2 h.a⟩;obtain⟨i,p⟩:=XI (mc:=mc) (dom:=dom) e (1+(aE l 2 s.a).1);exact⟨i,[],by simp only[fE];rw[p];simp⟩
 |k+1,dom,s,h=>by have e:GOk l avA { s with a:=(aE l 2 s.a).2 }:=⟨h.avJ,h.avT,bR l 2 h.a⟩;exact XJ (level:=4-k) (dom:=dom) (λd t w=>XK k d w) e (if 4-k=2 then 1 else 1+(aE l 2 s.a).1)
theorem Ug {l : List Nat} {level avA dom : Nat} {rec : Nat → GS → GS} {s : GS} {i : Nat} (h : rO avA (iU l level avA dom rec s i) = true) : ∀ n, i ≤ n → iU l level avA dom rec s n = iU l level avA dom rec s i := by
  intro n hn
  induction n with
  | zero => have : i = 0 := Om
            subst this; rfl
  | succ n ih =>
    rcases axA n i with h' | h'
    · have : i = n + 1 := Om
      subst this; rfl
    · have e := ih h'
      simp only [iU];rw [e, aF h]
def mkS(l:List Nat)(v:PV):Spec:=λname vs=>match name,vs with
 |29,[.str s,.int _ i]=>some ([],λ_=>aQ (.str (s++cB i.toNat)))
 |47,[.int _ n]=>some ([],λ_=>aQ (.agg (mkT n 1).cells))
 |4,[.ptr o _ _ _,.int _ n]=>some ([o],λd r H'=>∀a,d o=some (bL v a)→bg l v o n.toNat a r H')
 |_,_=>none
section
variable {C:Ctx} {F:PF} {H Hs:PH} {l:List Nat} {v:PV} {o a:Nat}
theorem sZ(u:HF C)(T:Tp l v){n:Nat}{st:Bool}{args:List aO}{d:Option Nat}{K:PF→PH→Prop}(B:n≤1000000)(w:a≤Z' l)(e:aO.evs F args=some [.ptr o 2 0 0,.int .i64 n])(E:H o=some (bL v a))
  (i:Hs.le (H.set o (bL v (aE l n a).2))) (A:K (F.put d (.int .i64 ((aE l n a).1:Nat))) (H.set o (bL v (aE l n a).2))):dOp C Hs (mkS l v) st (.call 4 args) d K F H:=by
 refine abY (x:=bL v a) (y:=bL v (aE l n a).2) (r:=.int .i64 ((aE l n a).1:Nat)) (R:=λp r H'=>∀a,p o=some (bL v a)→bg l v o n a r H') rfl E (u.next l v T o n a B w) ?_ ?_ e i A
 ·intro b hb;rw[dA]at hb;injection hb with hb
  injection hb with _ hb
  injection hb with hb _
  injection hb with _ hb
  injection hb with hb _
  injection hb with _ hb
  have:a=b:=Om;subst this;exact⟨rfl,rfl⟩
 ·intro r' H' J;exact J a (by rw[dA])
theorem IB(p:uI C){s:List UInt8}{n:Nat}{st:Bool}{args:List aO}{d:Option Nat}{K:PF→PH→Prop}(x:Z' s≤100)(w:n<100)(e:aO.evs F args=some [.str s,.int .i64 n])(i:Hs.le H)(u:K (F.put d (.str (s++cB n))) H) :
  dOp C Hs (mkS l v) st (.call 29 args) d K F H:=
 eI (v:=.str (s++cB n)) rfl (p.name s n x w) e i u
theorem ahQ(p:HF C){n:Int}{st:Bool}{args:List aO}{d:Option Nat}{K:PF→PH→Prop}(w:dX n)(e:aO.evs F args=some [.int .i64 n])(i:Hs.le H)(u:K (F.put d (.agg (mkT n 1).cells)) H) :
  dOp C Hs (mkS l v) st (.call 47 args) d K F H:=
 eI (v:=.agg (mkT n 1).cells) rfl (p.int n w) e i u
end
theorem bX.qD{H:PH}{s:Nat}{v:PV}{rows:List (List PV)}(h:bX H s v rows):PV.qD v=some (.int .i64 (Z' rows:Nat)):=by
 rcases h with⟨rfl,rfl⟩|⟨q,rs,rfl,_⟩<;>rfl
abbrev lH(l:List cX):List (List PV):=l.map cX.cells
abbrev nU(l:List dQ):List (List PV):=l.map dQ.cells
abbrev flB(ext wl e d i wp wv:PV):aR:=.rows 7 [[ext,wl,e,d,i,wp,wv]]
structure GE where
 o:Nat
 fo:Nat
 qm:Nat
 ext:PV
 wl:PV
 wp:PV
 wv:PV
abbrev GE.boxes(G:GE)(v:PV)(mc:Nat)(d e:PV)(a:Nat):List BX:=[(G.o,bL v a),(G.fo,flB G.ext G.wl (.osl G.qm 4 0 mc) d e G.wp G.wv)]
abbrev nI(s:GS)(d e:PV):List LI:=[(d,7,lH s.avJ),(e,3,nU s.avT)]
def fI(G:GE)(dom avA level n i:Nat):PF:=(((((((PF.nil.set 0 (.ptr G.o 2 0 0)).set 1 (.ptr G.fo 7 0 0)).set 2 (.int .i64 dom)).set 3 (.int .i64 avA)).set 8 (.int .i64 level)).set 9 (.int .i64 n)).set 10 (.int .i64 i))
theorem bX.one{H:PH}{s:Nat}{v:PV}{rows:List (List PV)}(h:bX H s v rows)(d:0<Z' rows):∃q,v=.osl q s 0 rows.length:=by
 rcases h with⟨rfl,_⟩|⟨q,rs,rfl,_⟩
 ·simp at d
 ·exact⟨q,rfl⟩
theorem Ef{C:Ctx}(R:oS C){l:List Nat}{v:PV}(T:Tp l v)(G:GE)(mc avA dom n:Nat)(γ:0<mc)(X:mc≤1000)(β:avA≤60)(hn:n≤10)(s:GS)(hs:GOk l avA s)(u x:PV)(K:cJ)(F:PF)(H:PH)
  (hF:(fI G dom avA 5 n 0).le F) (w:aT H (G.boxes v mc u x s.a) (nI s u x))
  (hK:∀J A Y H',aT H' (G.boxes v mc J A (kV l mc avA dom s n).a) (nI (kV l mc avA dom s n) J A)→K (.exit 0) Y H') :
  aD.wp C (.loop xW) K F H:=by
 refine wp_loop (α:=Nat × PV × PV × PH) (λt=>fI G dom avA 5 n t.1) (λt=>t.2.2.2) (λt=>t.1≤n∧aT t.2.2.2 (G.boxes v mc t.2.1 t.2.2.1 (kV l mc avA dom s t.1).a) (nI (kV l mc avA dom s t.1) t.2.1 t.2.2.1)) (λt=>n-t.1) (0,u,x,H) ⟨axB _,w⟩ hF b_ ?_;rintro⟨i,u,x,Q⟩ ⟨hi,w⟩;simp only at hi w ⊢;obtain⟨N,-⟩:=XI (mc:=mc) (dom:=dom) hs i;have d:kV l mc avA dom s (i+1)=(if(kV l mc avA dom s i).avT.length<avA then{ kV l mc avA dom s i with avT:=(kV l mc avA dom s i).avT++[⟨[100]++cB (kV l mc avA dom s i).avT.length,((aE l mc (kV l mc avA dom s i).a).1:Nat),(dom:Nat)⟩],a:=(aE l mc (kV l mc avA dom s i).a).2 }else kV l mc avA dom s i):=rfl;simp only[go_sem,xW,YF,fI];by_cases hlt:i<n
 ·have p:(i:Int)<(n:Nat):=Om;generalize hg:kV l mc avA dom s i=g at *
  have b1:=w.at 1 rfl;have O:=(w.own 1 rfl).qD;rw[awL]at O;have S:=wZz i;simp only[go_sem,p,YG,show(((5:Nat):Int)==5)=true from rfl,El,b1,O];by_cases W:Z' g.avT<avA
  ·have y:(Z' g.avT:Int)<(avA:Nat):=Om;rw[aF W]at d;simp only[go_sem,y];have E:(PH.nil.set G.fo (flB G.ext G.wl (.osl G.qm 4 0 mc) u x G.wp G.wv)).le Q:=PH.aN a_ b1;refine dH (PH.nil.set G.fo (flB G.ext G.wl (.osl G.qm 4 0 mc) u x G.wp G.wv)) (mkS l v) E ?_;simp only[go_sem,Em,b1,O];refine IB R.touI (s:=[100]) (n:=Z' g.avT) aV (by have:=N.avT;omega) rfl E ?_;simp only[go_sem];have ho:=w.at 0 rfl;have U:=w.set 0 rfl (bL v (aE l mc g.a).2);have M:=U.at 1 rfl;refine sZ R.toHF T (o:=G.o) (n:=mc) (a:=g.a) Om N.a rfl ho (PH.aN a_ M) ?_;have B:(1:Nat)*3≤16777216:=by decide
   simp only[go_sem,B,awT,axD,or_false,forall_eq,forall_eq_or_imp];refine U.append 1 (src:=[(⟨[100]++cB g.avT.length,((aE l mc g.a).1:Nat),(dom:Nat)⟩:dQ).cells]) rfl rfl (by unfold roomFor;rw[awL];have:=N.avT;simp only[awV,maxLen];omega) λA H2 V hw=>?_;obtain⟨q,rfl⟩:=hw aY;have b2:=V.at 1 rfl;refine⟨PH.aN a_ b2,?_⟩;refine dH .nil gX a_ ?_;simp only[go_sem,En,b2,awT,axD,or_false,forall_eq];have Z:=V.set 1 rfl (flB G.ext G.wl (.osl G.qm 4 0 mc) u (.osl q 3 0 (nU g.avT++[(⟨[100]++cB g.avT.length,((aE l mc g.a).1:Nat),(dom:Nat)⟩:dQ).cells]).length) G.wp G.wv);refine⟨a_,?_⟩;simp only[go_sem,xX,S];refine aP (i+1,u,.osl q 3 0 (nU g.avT++[(⟨[100]++cB g.avT.length,((aE l mc g.a).1:Nat),(dom:Nat)⟩:dQ).cells]).length,_) ⟨hlt,?_⟩ (by simp only;omega) ?_ b_
   ·rw[d];have e:nU (g.avT++[(⟨[100]++cB g.avT.length,((aE l mc g.a).1:Nat),(dom:Nat)⟩:dQ)])=nU g.avT++[(⟨[100]++cB g.avT.length,((aE l mc g.a).1:Nat),(dom:Nat)⟩:dQ).cells]:=by simp[nU]
    unfold nI;simp only;rw[e];exact Z
   ·exact Lq
  ·have y:¬(Z' g.avT:Int)<(avA:Nat):=Om;rw[aC W]at d;simp only[go_sem,y,xX,S];refine aP (i+1,u,x,Q) ⟨hlt,by rw[d];exact w⟩ (by simp only;omega) ?_ b_;exact Lq
 ·have p:¬(i:Int)<(n:Nat):=Om;have:i=n:=Om;subst this;simp only[go_sem,p];exact hK u x _ _ w
def Ru(G:GE)(v:PV)(mc:Nat)(s':GS)(r:PV)(B':List BX)(L':List LI):Prop:=r=.tup []∧∃d e,B'=G.boxes v mc d e s'.a∧L'=nI s' d e
def be(C:Ctx)(l:List Nat)(v:PV)(mc avA k:Nat):Prop:=
 ∀(G:GE)(e i:PV)(s:GS)(dom:Nat)(x:cX),GOk l avA s→s.avJ[dom]?=some x→x.level=4-(k:Int)→∀d,aT d (G.boxes v mc e i s.a) (nI s e i) →
  aJ C 7 [.ptr G.o 2 0 0,.ptr G.fo 7 0 0,.int .i64 dom,.int .i64 avA] d (λr H'=>∃B' L',Ru G v mc (fE l mc avA k dom s) r B' L'∧aT H' B' L')
theorem Ym{lv:Nat}(h:lv≤4):([45,115,114,107,109]:List UInt8)[lv]?=some (mU lv):=by
 match lv,h with
 |0,_=>rfl
 |1,_=>rfl
 |2,_=>rfl
 |3,_=>rfl
 |4,_=>rfl
theorem UQ{C:Ctx}{l:List Nat}{v:PV}(G:GE)(mc avA dom lv n i k p:Nat)(γ:lv=4-k)(hk:k<4)(y:be C l v mc avA k)(g:GS)(x:cX)(a:Nat)(V:GOk l avA { g with avJ:=g.avJ++[x],a:=a })(hx:x.level=(lv:Nat))(W w:PV)(β:avA≤60)(K:cJ)(F:PF)(H:PH)
  (d:(fI G dom avA lv n i).le F) (f11:F 11=some (.ptr p 7 0 0)) (J:aT H (G.boxes v mc W w a++[(p,.rows 7 [x.cells])]) (nI g W w))
  (hK:∀u A S H',(fI G dom avA lv n i).le S→aT H' (G.boxes v mc u A (fE l mc avA k g.avJ.length { g with avJ:=g.avJ++[x],a:=a }).a) (nI (fE l mc avA k g.avJ.length { g with avJ:=g.avJ++[x],a:=a }) u A)→K .normal S H') :
  aD.wp C (.draw PO) (jT C (aD.wp C (.region PP)) K) F H:=by
 have f0:F 0=some (.ptr G.o 2 0 0):=d 0 _ (by unfold fI;simp only[go_sem]);have f1:F 1=some (.ptr G.fo 7 0 0):=d 1 _ (by unfold fI;simp only[go_sem]);have f2:F 2=some (.int .i64 dom):=d 2 _ (by unfold fI;simp only[go_sem]);have f3:F 3=some (.int .i64 avA):=d 3 _ (by unfold fI;simp only[go_sem]);have f8:F 8=some (.int .i64 lv):=d 8 _ (by unfold fI;simp only[go_sem]);have f9:F 9=some (.int .i64 n):=d 9 _ (by unfold fI;simp only[go_sem]);have α:F 10=some (.int .i64 i):=d 10 _ (by unfold fI;simp only[go_sem]);have O:=V.avJ;simp only[awQ,awV]at O;have b1:=J.at 1 rfl;have b2:=J.at 2 rfl;have B:(1:Nat)*7≤16777216:=by decide
 refine dH .nil gX a_ ?_;simp only[go_sem,PO,f1,f11,b1,b2,B,awT,axD,or_false,forall_eq,forall_eq_or_imp];refine J.append 0 (src:=[x.cells]) rfl rfl (by unfold roomFor;rw[awL];simp only[awV,maxLen];omega) λu H2 E hw=>?_;obtain⟨q,rfl⟩:=hw aY;have hl:(lH g.avJ++[x.cells]).length=Z' g.avJ+1:=by simp
 rw[hl]at E ⊢;have Y:=E.at 1 rfl;refine⟨a_,?_⟩;simp only[go_sem,Y,awT,axD,or_false,forall_eq];have U:=E.set 1 rfl (flB G.ext G.wl (.osl G.qm 4 0 mc) (.osl q 7 0 (Z' g.avJ+1)) w G.wp G.wv);have c2:=U.at 1 rfl;refine⟨a_,?_⟩;have e:lH (g.avJ++[x])=lH g.avJ++[x.cells]:=by simp[lH]
 have Z:IntKind.i64.wrap (((Z' g.avJ+1:Nat):Int)-1)=(Z' g.avJ:Int):=by rw[wrap_i64 Om Om];omega
 simp only[go_sem,PP,f0,f1,f3,Z];have h4:aT (H2.set G.fo (flB G.ext G.wl (.osl G.qm 4 0 mc) (.osl q 7 0 (Z' g.avJ+1)) w G.wp G.wv)) (G.boxes v mc (.osl q 7 0 (Z' g.avJ+1)) w a++[(p,.rows 7 [x.cells])]) (nI { g with avJ:=g.avJ++[x],a:=a } (.osl q 7 0 (Z' g.avJ+1)) w++[]):=by unfold nI;simp only;rw[e];exact U
 refine WL h4 (λX N=>y G _ w { g with avJ:=g.avJ++[x],a:=a } g.avJ.length x V aY (by rw[hx];omega) X N) rfl ?_;rintro r B' L' H' ⟨rfl,Q,R,rfl,rfl⟩ M;refine hK Q R _ _ ?_ (M.sub (List.sublist_append_left ..) (by rw[ayO];exact ayV.refl _));unfold fI;exact Lq
theorem MV{C:Ctx}(V:oS C){l:List Nat}{v:PV}(T:Tp l v)(G:GE)(mc avA dom n k:Nat)(hk:k<4)(X:avA≤60)(hn:n≤10)(R:be C l v mc avA k)(s:GS)(hs:GOk l avA s)(ζ:0<Z' s.avJ)(O Q:PV)(K:cJ)(F:PF)(H:PH)
  (hF:(fI G dom avA (4-k) n 0).le F) (E:aT H (G.boxes v mc O Q s.a) (nI s O Q))
  (hK:∀e A B y H',(e=.exit 0∨e=.ret)→aT H' (G.boxes v mc A B (iU l (4-k) avA dom (fE l mc avA k) s n).a) (nI (iU l (4-k) avA dom (fE l mc avA k) s n) A B)→K e y H') :
  aD.wp C (.loop xW) K F H:=by
 obtain⟨lv,U⟩:∃lv,lv=4-k:=⟨_,rfl⟩;rw[←U]at hF hK;refine wp_loop (α:=Nat × PV × PV × PH) (λt=>fI G dom avA lv n t.1) (λt=>t.2.2.2) (λt=>t.1≤n∧aT t.2.2.2 (G.boxes v mc t.2.1 t.2.2.1 (iU l lv avA dom (fE l mc avA k) s t.1).a) (nI (iU l lv avA dom (fE l mc avA k) s t.1) t.2.1 t.2.2.1)) (λt=>n-t.1) (0,O,Q,H) ⟨axB _,E⟩ hF b_ ?_;rintro⟨i,O,Q,H0⟩ ⟨hi,E⟩;simp only at hi E ⊢;obtain⟨Z,u,gu⟩:=XJ (level:=lv) (dom:=dom) (λd t ht=>XK (mc:=mc) k d ht) hs i;have M:=λh=>Ug (l:=l) (level:=lv) (avA:=avA) (dom:=dom) (rec:=fE l mc avA k) (s:=s) (i:=i) h n hi;have x:iU l lv avA dom (fE l mc avA k) s (i+1)=(if rO avA (iU l lv avA dom (fE l mc avA k) s i)then iU l lv avA dom (fE l mc avA k) s i else fE l mc avA k ((oU l lv dom (iU l lv avA dom (fE l mc avA k) s i)).avJ.length-1) (oU l lv dom (iU l lv avA dom (fE l mc avA k) s i))):=rfl;simp only[go_sem,xW,YF,fI];by_cases hlt:i<n
 ·have N:(i:Int)<(n:Nat):=Om;generalize hg:iU l lv avA dom (fE l mc avA k) s i=g at *
  have ε:0<Z' g.avJ:=by rw[gu,awQ];omega
  have b1:=E.at 1 rfl;have lr:=(E.own 1 rfl).qD;have ld:=(E.own 0 rfl).qD;rw[awL]at lr ld;have ei:=wZz i;simp only[go_sem,N,YG,bO (Om:((lv:Nat):Int)≠5),tt,b1,lr];by_cases c1:avA≤Z' g.avT
  ·have W:rO avA g=true:=by unfold rO;simp[c1]
   simp only[go_sem,show(Z' g.avT:Int)≥(avA:Nat) by omega];exact hK _ O Q _ _ (.inr rfl) (by rw[M W];exact E)
  simp only[go_sem,show ¬(Z' g.avT:Int)≥(avA:Nat) by omega,b1,ld];by_cases c2:35≤Z' g.avJ
  ·have W:rO avA g=true:=by unfold rO;simp[c2]
   simp only[go_sem,show(Z' g.avJ:Int)≥35 by omega];exact hK _ O Q _ _ (.inr rfl) (by rw[M W];exact E)
  have W:rO avA g=false:=by unfold rO;simp[c1,c2]
  rw[aC (by rw[W];decide)]at x;simp only[go_sem,show ¬(Z' g.avJ:Int)≥35 by omega];have ls:=Ym (Om:lv≤4);refine dH .nil (mkS l v) a_ ?_;have γ:gR [[PV.int IntKind.u8 (((mU lv).toNat:Nat):Int)]]=some [mU lv]:=by simp[gR]
  obtain⟨Y,x0,β,-⟩:=Md (level:=lv) (dom:=dom) Z W;have δ:(oU l lv dom g).avJ.length-1=Z' g.avJ:=by rw[β];simp
  rw[δ]at x;have h1:=E.set 0 rfl (bL v (aE l 16 g.a).2);have a1:=bR l 16 Z.a;have n1:=cL l (show 0<16 by decide) g.a;have e1:IntKind.i64.wrap (1+((aE l 16 g.a).1:Int))=((1+(aE l 16 g.a).1:Nat):Int):=by rw[wrap_i64 Om Om];omega
  simp only[go_sem,tu,ls,γ,b1,ld];refine IB V.touI (s:=[mU lv]) (n:=Z' g.avJ) aY (by have:=Z.avJ;omega) rfl a_ ?_;simp only[go_sem];refine sZ V.toHF T (o:=G.o) (n:=16) (a:=g.a) Om Z.a rfl (E.at 0 rfl) a_ ?_;simp only[go_sem,e1];refine ahQ V.toHF (n:=0) (by unfold dX;omega) rfl a_ ?_;simp only[go_sem,awT,axD,or_false,forall_eq,forall_eq_or_imp];refine aW λp hp=>?_;have h2:=h1.new hp (.rows 7 [(⟨[mU lv]++cB g.avJ.length,(lv:Nat),(dom:Nat),(1+(aE l 16 g.a).1:Nat),kW⟩:cX).cells]);simp only[go_sem,awT,axD,or_false,forall_eq,forall_eq_or_imp];refine⟨a_,?_⟩;simp only[go_sem,tv];refine dP V.toHF T (o:=G.o) (n:=3) (a:=(aE l 16 g.a).2) aV a1 rfl (h2.at 0 rfl) ?_;have h3:=h2.set 0 rfl (bL v (aE l 3 (aE l 16 g.a).2).2);have a2:=bR l 3 a1;by_cases c3:(aE l 3 (aE l 16 g.a).2).1=0
  ·have hd:oU l lv dom g={ g with avJ:=g.avJ++[⟨[mU lv]++cB g.avJ.length,(lv:Nat),(dom:Nat),(1+(aE l 16 g.a).1:Nat),mkT 1 ((2+(aE l 6 (aE l 3 (aE l 16 g.a).2).2).1:Nat):Int)⟩],a:=(aE l 6 (aE l 3 (aE l 16 g.a).2).2).2 }:=by unfold oU;simp only[c3,if_true]
   rw[hd]at x Y;have n2:=cL l (show 0<6 by decide) (aE l 3 (aE l 16 g.a).2).2;have e2:IntKind.i64.wrap (2+((aE l 6 (aE l 3 (aE l 16 g.a).2).2).1:Int))=((2+(aE l 6 (aE l 3 (aE l 16 g.a).2).2).1:Nat):Int):=by rw[wrap_i64 Om Om];omega
   simp only[go_sem,cH (show(((aE l 3 (aE l 16 g.a).2).1:Nat):Int)=0 by omega),tw];refine dP V.toHF T (o:=G.o) (n:=6) (a:=(aE l 3 (aE l 16 g.a).2).2) aV a2 rfl (h3.at 0 rfl) ?_;have h4:=h3.set 0 rfl (bL v (aE l 6 (aE l 3 (aE l 16 g.a).2).2).2);rw[PH.set_set]at h4;simp only[go_sem,e2];refine aB (V.fmk 1 ((2+(aE l 6 (aE l 3 (aE l 16 g.a).2).2).1:Nat):Int) (by unfold dX;omega) (by unfold dX;omega)) rfl ?_;unfold yE;rw[aC Om];simp only[go_sem,show ¬p=G.o from h4.ne 2 0 rfl rfl aV];have h5:=h4.set 2 rfl (.rows 7 [(⟨[mU lv]++cB g.avJ.length,(lv:Nat),(dom:Nat),(1+(aE l 16 g.a).1:Nat),mkT 1 ((2+(aE l 6 (aE l 3 (aE l 16 g.a).2).2).1:Nat):Int)⟩:cX).cells])
   try simp only[oi]
   refine UQ G mc avA dom lv n i k p U hk R g _ _ Y rfl O Q X _ _ _ (by unfold fI;exact Lq) rfl h5 ?_;intro A B y H' w J;rw[←x]at J;have S:y 10=some (.int .i64 i):=w 10 _ (by unfold fI;simp only[go_sem]);have g0:y 0=some (.ptr G.o 2 0 0):=w 0 _ (by unfold fI;simp only[go_sem]);have g1:y 1=some (.ptr G.fo 7 0 0):=w 1 _ (by unfold fI;simp only[go_sem]);have g2:y 2=some (.int .i64 dom):=w 2 _ (by unfold fI;simp only[go_sem]);have g3:y 3=some (.int .i64 avA):=w 3 _ (by unfold fI;simp only[go_sem]);have g8:y 8=some (.int .i64 lv):=w 8 _ (by unfold fI;simp only[go_sem]);have g9:y 9=some (.int .i64 n):=w 9 _ (by unfold fI;simp only[go_sem]);simp only[go_sem,xX,S,ei];refine aP (i+1,A,B,H') ⟨hlt,J⟩ (by simp only;omega) ?_ b_;exact Lq
  ·have hd:oU l lv dom g={ g with avJ:=g.avJ++[⟨[mU lv]++cB g.avJ.length,(lv:Nat),(dom:Nat),(1+(aE l 16 g.a).1:Nat),kW⟩],a:=(aE l 3 (aE l 16 g.a).2).2 }:=by unfold oU;simp only[c3,if_false]
   rw[hd]at x Y;simp only[go_sem,bO (show ¬(((aE l 3 (aE l 16 g.a).2).1:Nat):Int)=0 by omega)]
   try simp only[oi]
   refine UQ G mc avA dom lv n i k p U hk R g _ _ Y rfl O Q X _ _ _ (by unfold fI;exact Lq) rfl h3 ?_;intro A B y H' w J;rw[←x]at J;have S:y 10=some (.int .i64 i):=w 10 _ (by unfold fI;simp only[go_sem]);have g0:y 0=some (.ptr G.o 2 0 0):=w 0 _ (by unfold fI;simp only[go_sem]);have g1:y 1=some (.ptr G.fo 7 0 0):=w 1 _ (by unfold fI;simp only[go_sem]);have g2:y 2=some (.int .i64 dom):=w 2 _ (by unfold fI;simp only[go_sem]);have g3:y 3=some (.int .i64 avA):=w 3 _ (by unfold fI;simp only[go_sem]);have g8:y 8=some (.int .i64 lv):=w 8 _ (by unfold fI;simp only[go_sem]);have g9:y 9=some (.int .i64 n):=w 9 _ (by unfold fI;simp only[go_sem]);simp only[go_sem,xX,S,ei];refine aP (i+1,A,B,H') ⟨hlt,J⟩ (by simp only;omega) ?_ b_;exact Lq
 ·have N:¬(i:Int)<(n:Nat):=Om;have:i=n:=Om;subst this;simp only[go_sem,N];exact hK _ O Q _ _ (.inl rfl) E
theorem Eg{C:Ctx}(N:oS C){l:List Nat}{v:PV}(T:Tp l v)(mc avA k:Nat)(S:0<mc)(H:mc≤1000)(A:avA≤60)(hk:k≤4)(K:∀Y,k=Y+1→be C l v mc avA Y)(G:GE)(V M:PV)(s:GS)(dom:Nat)(x:cX)
  (O:GOk l avA s) (X:s.avJ[dom]?=some x) (hl:x.level=4-(k:Int)) (Q:PH) (E:aT Q (G.boxes v mc V M s.a) (nI s V M)) :
  zH.wp C (bD xl.res (λr H'=>∃B' L',Ru G v mc (fE l mc avA k dom s) r B' L'∧aT H' B' L')) (PF.args [.ptr G.o 2 0 0,.ptr G.fo 7 0 0,.int .i64 dom,.int .i64 avA]) Q:=by
 have y:dom<Z' s.avJ:=(axO.1 X).1;have b1:=E.at 1 rfl;have fin:∀(e:kZ)(d i:PV)(u:PF)(H':PH),(e=.exit 0∨e=.ret)→aT H' (G.boxes v mc d i (fE l mc avA k dom s).a) (nI (fE l mc avA k dom s) d i) →
   gU 0 (bD xl.res (λr H'=>∃B' L',Ru G v mc (fE l mc avA k dom s) r B' L'∧aT H' B' L')) e u H':=by
  intro e d i u H' F p;rcases F with rfl|rfl
  ·rw[DQ,aF rfl];exact bF (vs:=[]) (.inl rfl) H' rfl b_ ⟨_,_,⟨rfl,d,i,rfl,rfl⟩,p⟩
  ·exact bF (vs:=[]) (.inr rfl) H' rfl b_ ⟨_,_,⟨rfl,d,i,rfl,rfl⟩,p⟩
 obtain⟨q,rs,e1,e2,e3,e4⟩:∃q rs,V=.osl q 7 0 s.avJ.length∧Q q=some (.rows 7 rs)∧Z' s.avJ≤Z' rs∧rs.take s.avJ.length=lH s.avJ:=by
  rcases E.own 0 rfl with⟨w,_⟩|⟨q,rs,w,h2,h3,h4⟩
  ·have:=congrArg List.length w;rw[awL]at this;simp at this;rw[this]at y;simp at y
  ·rw[awL]at w h3 h4;exact⟨q,rs,w,h2,h3,h4⟩
 have U:rs[dom]?=some x.cells:=by
  have:(lH s.avJ)[dom]?=some x.cells:=by simp[lH,X]
  rw[←e4,List.getElem?_take_of_lt y]at this;exact this
 subst e1;have Z:(dom:Int)<(Z' s.avJ:Nat):=Om;have ew:IntKind.i64.wrap (x.level+1)=((5-k:Nat):Int):=by rw[hl,wrap_i64 Om Om];omega
 have β:=cL l (show 0<2 by decide) s.a;have en:IntKind.i64.wrap (1+((aE l 2 s.a).1:Int))=((1+(aE l 2 s.a).1:Nat):Int):=by rw[wrap_i64 Om Om];omega
 have w:=E.set 0 rfl (bL v (aE l 2 s.a).2);have B:GOk l avA { s with a:=(aE l 2 s.a).2 }:=⟨O.avJ,O.avT,bR l 2 O.a⟩;have α:¬q=G.o:=λh=>E.neL 0 0 rfl rfl rfl h.symm;simp only[go_sem,zH,Eh,b1,Z,e2,U,ew,Ei];refine dP N.toHF T (o:=G.o) (n:=2) (a:=s.a) aV O.a (by simp only[go_sem];rfl) (E.at 0 rfl) ?_;simp only[go_sem,en,Ej];cases k with
 |zero=>
  simp only[go_sem,bO (Om:¬((5-0:Nat):Int)=2),JZ];refine Ef (C:=C) N T G mc avA dom (1+(aE l 2 s.a).1) S H A Om { s with a:=(aE l 2 s.a).2 } B _ M _ _ _ ?_ w ?_
  ·unfold fI;exact Lq
  ·intro d i u H' p;exact fin _ d i u H' (.inl rfl) p
 |succ k=>
  have J:=K k rfl;by_cases W:4-k=2
  ·have R:fE l mc avA (k+1) dom s=iU l (4-k) avA dom (fE l mc avA k) { s with a:=(aE l 2 s.a).2 } 1:=by simp only[fE,aF W]
   simp only[go_sem,cH (show((5-(k+1):Nat):Int)=2 by omega),Ek,JZ];refine MV (C:=C) N T G mc avA dom 1 k Om A aV J { s with a:=(aE l 2 s.a).2 } B (by simp only;omega) _ M _ _ _ ?_ w ?_
   ·unfold fI
    (repeat' (first|exact d_|refine c_ ?_ ?_))<;>first|(simp only[go_sem,show 4-k=5-(k+1) by omega]<;>rfl)|rfl
   ·intro e d i u H' F p;rw[←R]at p;exact fin e d i u H' F p
  ·have R:fE l mc avA (k+1) dom s=iU l (4-k) avA dom (fE l mc avA k) { s with a:=(aE l 2 s.a).2 } (1+(aE l 2 s.a).1):=by simp only[fE,aC W]
   simp only[go_sem,bO (show ¬((5-(k+1):Nat):Int)=2 by omega),JZ];refine MV (C:=C) N T G mc avA dom (1+(aE l 2 s.a).1) k Om A Om J { s with a:=(aE l 2 s.a).2 } B (by simp only;omega) _ M _ _ _ ?_ w ?_
   ·unfold fI
    (repeat' (first|exact d_|refine c_ ?_ ?_))<;>first|(simp only[go_sem,show 4-k=5-(k+1) by omega]<;>rfl)|rfl
   ·intro e d i u H' F p;rw[←R]at p;exact fin e d i u H' F p
theorem Cq{C:Ctx}(w:oS C){l:List Nat}{v:PV}(T:Tp l v)(mc avA:Nat)(p:0<mc)(d:mc≤1000)(i:avA≤60)
  (y:∀(args:List PV)(H:PH)(R:PV→PH→Prop),Z' args=4→zH.wp C (bD xl.res R) (PF.args args) H→aJ C 7 args H R):∀k,k≤4→be C l v mc avA k
 |0,h=>λG J K s dom x E F B u A=>y _ _ _ rfl (Eg w T mc avA 0 p d i h (λ_ e=>by omega) G J K s dom x E F B u A)
 |k+1,h=>λG J K s dom x E F B u A=>y _ _ _ rfl (Eg w T mc avA (k+1) p d i h (λM e=>by have:M=k:=Om;subst this;exact Cq w T mc avA p d i y M Om) G J K s dom x E F B u A)
theorem aiZ(l:List Nat)(eQ:Nat){a:Nat}(h:a≤Z' l):(sE l eQ a).2≤Z' l:=(mb l (1+(aE l eQ a).1) (bR l eQ h) (1+(aE l eQ a).1)).1
theorem YC(l:List Nat){a:Nat}(h:a≤Z' l):∀k,(jP l a k).2≤Z' l∧(jP l a k).1.length=k
 |0=>⟨h,rfl⟩
 |k+1=>by obtain⟨d,e⟩:=YC l h k;exact⟨aiZ l 2 d,by simp only[jP,awQ,awV,e]⟩
theorem KF(l:List Nat)(avH:Nat){a:Nat}(h:a≤Z' l):∀k,(eU l avH a k).2≤Z' l∧(eU l avH a k).1.length=k
 |0=>⟨h,rfl⟩
 |k+1=>by obtain⟨d,e⟩:=KF l avH h k;exact⟨bR l avH (bR l 8 (bR l 4 d)),by simp only[eU,awQ,awV,e]⟩
structure FE where
 o:Nat
 o6:Nat
 o7:Nat
 avA:Nat
 avC:Nat
abbrev flZ:aR:=flB (.int .i64 0) .aH .aH .aH .aH .aH .aH
abbrev FE.boxes(E:FE)(v ext d e i l p u:PV)(a:Nat):List BX:=[(E.o,bL v a),(E.o7,flB ext d e i l p u),(E.o6,flZ)]
def gT(E:FE):PF:=(((((PF.nil.set 0 (.ptr E.o 2 0 0)).set 1 (.int .i64 E.avA)).set 2 (.int .i64 E.avC)).set 6 (.ptr E.o6 7 0 0)).set 7 (.ptr E.o7 7 0 0))
abbrev jO(l:List dE):List (List PV):=l.map dE.cells
abbrev kX(l:List eF):List (List PV):=l.map eF.cells
theorem TF{E:FE}{F:PF}(d:F 0=some (.ptr E.o 2 0 0))(e:F 1=some (.int .i64 E.avA))(i:F 2=some (.int .i64 E.avC))(l:F 6=some (.ptr E.o6 7 0 0))(h7:F 7=some (.ptr E.o7 7 0 0)):(gT E).le F:=
 c_ (c_ (c_ (c_ (c_ d_ d) e) i) l) h7
theorem adS{C:Ctx}(O:oS C){l:List Nat}{v:PV}(T:Tp l v)(E:FE)(n a:Nat)(hn:n≤10)(W:a≤Z' l)(ext:PV)(K:cJ)(F:PF)(H:PH)
  (U:(((gT E).set 8 (.int .i64 n)).set 9 (.int .i64 0)).le F) (x:aT H (E.boxes v ext .aH .aH .aH .aH .aH .aH a) [])
  (V:∀J N H',(gT E).le N→aT H' (E.boxes v ext J .aH .aH .aH .aH .aH (jP l a n).2) [(J,4,jO (jP l a n).1)]→K (.exit 0) N H') :
  aD.wp C (.loop PN) K F H:=by
 refine wp_loop (α:=Nat × PV × PH) (λt=>((gT E).set 8 (.int .i64 n)).set 9 (.int .i64 t.1)) (λt=>t.2.2) (λt=>t.1≤n∧aT t.2.2 (E.boxes v ext t.2.1 .aH .aH .aH .aH .aH (jP l a t.1).2) [(t.2.1,4,jO (jP l a t.1).1)]) (λt=>n-t.1) (0,.aH,H) ⟨axB _,x.wO 4⟩ U b_ ?_;rintro⟨i,J,Y⟩ ⟨hi,x⟩;simp only at hi x ⊢;obtain⟨k1,k2⟩:=YC l W i;have w:jP l a (i+1)=((jP l a i).1++[{ (sE l 2 (jP l a i).2).1 with name:=[108,97,119]++cB i }],(sE l 2 (jP l a i).2).2):=rfl;simp only[go_sem,PN,tj,gT];by_cases hlt:i<n
 ·have d:(i:Int)<(n:Nat):=Om;generalize Z:jP l a i=g at *
  simp only[go_sem,d,tk];refine mT (O.law l v T E.o 2 g.2 aV aV k1) (x.at 0 rfl) rfl ?_;have R:=x.set 0 rfl (bL v (sE l 2 g.2).2);generalize hz:sE l 2 g.2=z at *
  simp only[go_sem];refine aW λp hp=>?_;have S:=R.new hp (.rows 4 [z.1.cells]);simp only[go_sem,tp,awT,axD,or_false,forall_eq,forall_eq_or_imp];refine aB (O.name [108,97,119] i aV Om) rfl ?_;have y:=S.set 3 rfl (.rows 4 [({ z.1 with name:=[108,97,119]++cB i }:dE).cells]);rw[PH.set_set]at y;have b1:=y.at 1 rfl;have A:¬E.o7=p:=y.ne 1 3 rfl rfl aV;have u:¬E.o7=E.o:=y.ne 1 0 rfl rfl aV;simp only[aU,aC A,aC u]at b1;have M:(1:Nat)*4≤16777216:=by decide
  simp only[go_sem,tq,A,u,b1,M,awT,axD,or_false,forall_eq,forall_eq_or_imp];refine y.append 0 (src:=[({ z.1 with name:=[108,97,119]++cB i }:dE).cells]) rfl rfl (by unfold roomFor;rw[awL];simp only[awV,maxLen];omega) λw' H2 Q X=>?_;obtain⟨q,rfl⟩:=X aY;have b2:=Q.at 1 rfl;simp only[go_sem,b2,awT,axD,or_false,forall_eq];have h5:=Q.set 1 rfl (flB ext (.osl q 4 0 (jO g.1++[({ z.1 with name:=[108,97,119]++cB i }:dE).cells]).length) .aH .aH .aH .aH .aH);simp only[go_sem,tr,wZz i];refine aP (i+1,.osl q 4 0 (jO g.1++[({ z.1 with name:=[108,97,119]++cB i }:dE).cells]).length,_) ⟨hlt,?_⟩ (by simp only;omega) ?_ b_
  ·rw[w];have e:jO (g.1++[{ z.1 with name:=[108,97,119]++cB i }])=jO g.1++[({ z.1 with name:=[108,97,119]++cB i }:dE).cells]:=by simp[jO]
   simp only;rw[e];exact h5.dropLast (B:=E.boxes v ext _ .aH .aH .aH .aH .aH z.2)
  ·exact Lq
 ·have d:¬(i:Int)<(n:Nat):=Om;have:i=n:=Om;subst this;simp only[go_sem,d];exact V J _ _ (TF rfl rfl rfl rfl rfl) x
theorem U3{C:Ctx}(Q:oS C){l:List Nat}{v:PV}(T:Tp l v)(E:FE)(n a nl:Nat)(hn:n≤10)(β:nl≤1000)(ha:a≤Z' l)(ext p:PV)(avH:List dE)(V:Z' avH=nl)(K:cJ)(F:PF)(H:PH)
  (hF:(((gT E).set 11 (.int .i64 n)).set 12 (.int .i64 0)).le F) (u:aT H (E.boxes v ext p .aH .aH .aH .aH .aH a) [(p,4,jO avH)])
  (hK:∀B R H',(gT E).le R→R 11=some (.int .i64 n)→aT H' (E.boxes v ext p B .aH .aH .aH .aH (eU l nl a n).2) [(p,4,jO avH),(B,4,kX (eU l nl a n).1)]→K (.exit 2) R H') :
  aD.wp C (.loop JN) K F H:=by
 refine wp_loop (α:=Nat × PV × PH) (λt=>((gT E).set 11 (.int .i64 n)).set 12 (.int .i64 t.1)) (λt=>t.2.2) (λt=>t.1≤n∧aT t.2.2 (E.boxes v ext p t.2.1 .aH .aH .aH .aH (eU l nl a t.1).2) [(p,4,jO avH),(t.2.1,4,kX (eU l nl a t.1).1)]) (λt=>n-t.1) (0,.aH,H) ⟨axB _,u.wO 4⟩ hF b_ ?_;rintro⟨i,B,H0⟩ ⟨hi,u⟩;simp only at hi u ⊢;obtain⟨k1,k2⟩:=KF l nl ha i;have w:eU l nl a (i+1)=((eU l nl a i).1++[⟨[109]++cB i,(1+(aE l 4 (eU l nl a i).2).1:Nat),(1+(aE l 8 (aE l 4 (eU l nl a i).2).2).1:Nat),((aE l nl (aE l 8 (aE l 4 (eU l nl a i).2).2).2).1:Nat)⟩],(aE l nl (aE l 8 (aE l 4 (eU l nl a i).2).2).2).2):=rfl;simp only[go_sem,JN,gm,gT];by_cases hlt:i<n
 ·have d:(i:Int)<(n:Nat):=Om;generalize hg:eU l nl a i=g at *
  have hx:=cL l (show 0<4 by decide) g.2;have W:=bR l 4 k1;have hy:=cL l (show 0<8 by decide) (aE l 4 g.2).2;have X:=bR l 8 W;have az:=bR l nl X;have S:=u.set 0 rfl (bL v (aE l 4 g.2).2);have A:=S.set 0 rfl (bL v (aE l 8 (aE l 4 g.2).2).2);have h3:=A.set 0 rfl (bL v (aE l nl (aE l 8 (aE l 4 g.2).2).2).2);generalize M:aE l 4 g.2=x at *
  generalize N:aE l 8 x.2=y at *
  generalize O:aE l nl y.2=z at *
  have b1:=u.at 1 rfl;have Z:=(u.own 0 rfl).qD;rw[awL,V]at Z;have J:(PH.nil.set E.o7 (flB ext p B .aH .aH .aH .aH)).le H0:=PH.aN a_ b1;have ex:IntKind.i64.wrap (1+(x.1:Int))=((1+x.1:Nat):Int):=by rw[wrap_i64 Om Om];omega
  have ey:IntKind.i64.wrap (1+(y.1:Int))=((1+y.1:Nat):Int):=by rw[wrap_i64 Om Om];omega
  simp only[go_sem,d];refine dH (PH.nil.set E.o7 (flB ext p B .aH .aH .aH .aH)) (mkS l v) J ?_;simp only[go_sem,gn];refine IB Q.touI (s:=[109]) (n:=i) aV Om rfl J ?_;simp only[go_sem];refine sZ Q.toHF T (o:=E.o) (n:=4) (a:=g.2) aV k1 rfl (u.at 0 rfl) ?_ ?_
  ·rw[M];exact PH.aN a_ (S.at 1 rfl)
  rw[M];simp only[go_sem,ex];refine sZ Q.toHF T (o:=E.o) (n:=8) (a:=x.2) aV W rfl (S.at 0 rfl) ?_ ?_
  ·rw[N];exact PH.aN a_ (A.at 1 rfl)
  rw[N];simp only[go_sem,ey,Z];rw[PH.set_set]at A;refine sZ Q.toHF T (o:=E.o) (n:=nl) (a:=y.2) Om X rfl (A.at 0 rfl) ?_ ?_
  ·rw[O];exact PH.aN a_ ((A.set 0 rfl (bL v z.2)).at 1 rfl)
  rw[O];have Y:=A.set 0 rfl (bL v z.2);have U:(1:Nat)*4≤16777216:=by decide
  simp only[go_sem,U,awT,axD,or_false,forall_eq,forall_eq_or_imp];rw[PH.set_set]at Y;refine Y.append 1 (src:=[(⟨[109]++cB i,(1+x.1:Nat),(1+y.1:Nat),(z.1:Nat)⟩:eF).cells]) rfl rfl (by unfold roomFor;rw[awL];simp only[awV,maxLen];omega) λw' H2 h5 hw=>?_;obtain⟨q,rfl⟩:=hw aY;have b2:=h5.at 1 rfl;refine⟨PH.aN a_ b2,?_⟩;refine dH .nil gX a_ ?_;simp only[go_sem,gp,b2,awT,axD,or_false,forall_eq];have h6:=h5.set 1 rfl (flB ext p (.osl q 4 0 (kX g.1++[(⟨[109]++cB i,(1+x.1:Nat),(1+y.1:Nat),(z.1:Nat)⟩:eF).cells]).length) .aH .aH .aH .aH);refine⟨a_,?_⟩;simp only[go_sem,gr,wZz i];refine aP (i+1,.osl q 4 0 (kX g.1++[(⟨[109]++cB i,(1+x.1:Nat),(1+y.1:Nat),(z.1:Nat)⟩:eF).cells]).length,_) ⟨hlt,?_⟩ (by simp only;omega) ?_ b_
  ·rw[w];have e:kX (g.1++[⟨[109]++cB i,(1+x.1:Nat),(1+y.1:Nat),(z.1:Nat)⟩])=kX g.1++[(⟨[109]++cB i,(1+x.1:Nat),(1+y.1:Nat),(z.1:Nat)⟩:eF).cells]:=by simp[kX]
   simp only;rw[e];exact h6
  ·exact Lq
 ·have d:¬(i:Int)<(n:Nat):=Om;have:i=n:=Om;subst this;simp only[go_sem,d];exact hK B _ _ (TF rfl rfl rfl rfl rfl) rfl u
abbrev yM(x:cO)(w:PV):List PV:=[.str x.name,.int .i64 x.k,.int .i64 x.m,.int .i64 x.avY,.int .i64 x.s0,.int .i64 x.s1,.int .i64 x.s2,.int .i64 x.s3,.int .i64 x.s4,w,frs x.repair,
 .bool x.target.neg,aI x.target.num,aI x.target.den,.bool x.avK.neg,aI x.avK.num,aI x.avK.den]
def mf(E:FE)(mc n i:Nat):PF:=(((gT E).set 11 (.int .i64 mc)).set 13 (.int .i64 n)).set 14 (.int .i64 i)
structure PAt(E:FE)(mc n i:Nat)(F:PF):Prop where
 f0:F 0=some (.ptr E.o 2 0 0)
 f1:F 1=some (.int .i64 E.avA)
 f2:F 2=some (.int .i64 E.avC)
 f6:F 6=some (.ptr E.o6 7 0 0)
 f7:F 7=some (.ptr E.o7 7 0 0)
 f11:F 11=some (.int .i64 mc)
 f13:F 13=some (.int .i64 n)
 f14:F 14=some (.int .i64 i)
def sH(l:List Nat)(a:Nat):Nat→List Int × Nat
 |0=>([],a)
 |j+1=>let s:=sH l a j
  let t:=jE l s.2
  (s.1++[t.1],t.2)
theorem vS(l:List Nat){a:Nat}(h:a≤Z' l):(jE l a).2≤Z' l:=by
 unfold jE;simp only;split
 ·exact bR l 3 (bR l 3 h)
 ·exact bR l 3 h
theorem n8(l:List Nat){a:Nat}(h:a≤Z' l):∀j,(sH l a j).2≤Z' l∧(sH l a j).1.length=j
 |0=>⟨h,rfl⟩
 |j+1=>by obtain⟨d,e⟩:=n8 l h j;exact⟨vS l d,by simp only[sH,awQ,awV,e]⟩
abbrev sG(pre post:List PV)(s:List Int):List PV:=pre++(s.map λx=>PV.int .i64 x)++awO (4-Z' s) (.int .i64 0)++post
theorem akJ{pre post:List PV}{s:List Int}(hp:Z' pre=5)(e:Z' s<4)(x:Int):(sG pre post s).set (5+Z' s) (.int .i64 x)=sG pre post (s++[x]):=by
 obtain⟨k,d⟩:∃k,4-Z' s=k+1:=⟨3-Z' s,by omega⟩;unfold sG;rw[awQ,awV,show 4-(Z' s+1)=k by omega,d,List.replicate_succ,axQ,axL,ayI];rw[List.set_append_left _ _ (by simp[hp]),azT _ _ (by simp[hp])];have:5+Z' s-(pre++s.map λx=>PV.int .i64 x).length=0:=by simp[hp]
 rw[this,aAG];simp
theorem afJ{pre post:List PV}{s:List Int}(hp:Z' pre=5)(e:Z' s<4):sG pre post s=sG pre post (s++[0]):=by
 obtain⟨k,d⟩:∃k,4-Z' s=k+1:=⟨3-Z' s,by omega⟩;unfold sG;rw[awQ,awV,show 4-(Z' s+1)=k by omega,d,List.replicate_succ,axQ,axL,ayI];simp
theorem U4{C:Ctx}(Z:oS C){l:List Nat}{v:PV}(T:Tp l v)(E:FE)(mc n i a p:Nat)(ha:a≤Z' l)(B:List BX)(L:List LI)(pre post:List PV)(d:Z' pre=5)(y:Z' post=8)(K:cJ)(F:PF)(H:PH)
  (u:PAt E mc n i F) (S:F 15=some (.ptr p 17 0 0)) (U:F 16=some (.int .i64 1)) (A:aT H ((E.o,bL v a)::B++[(p,.rows 17 [sG pre post []])]) L)
  (hK:∀Q H',PAt E mc n i Q→Q 15=some (.ptr p 17 0 0)→aT H' ((E.o,bL v (sH l a 4).2)::B++[(p,.rows 17 [sG pre post (sH l a 4).1])]) L→K (.exit 6) Q H') :
  aD.wp C (.loop zA) K F H:=by
 refine wp_loop (α:=Nat × PH) (λt=>((mf E mc n i).set 15 (.ptr p 17 0 0)).set 16 (.int .i64 (t.1+1:Nat))) (λt=>t.2) (λt=>t.1≤4∧aT t.2 ((E.o,bL v (sH l a t.1).2)::B++[(p,.rows 17 [sG pre post (sH l a t.1).1])]) L) (λt=>4-t.1) (0,H) ⟨axB _,A⟩ ?_ b_ ?_
 ·unfold mf gT
  (repeat' (first|exact d_|refine c_ ?_ ?_))<;>first|(simp only[go_sem,u.f0,u.f1,u.f2,u.f6,u.f7,u.f11,u.f13,u.f14,S,U]<;>rfl)|rfl
 rintro⟨j,H0⟩ ⟨hj,A⟩;simp only at hj A ⊢;obtain⟨k1,k2⟩:=n8 l ha j;have e:sH l a (j+1)=((sH l a j).1++[(jE l (sH l a j).2).1],(jE l (sH l a j).2).2):=rfl;simp only[go_sem,zA,gy,mf,gT];by_cases hlt:j<4
 ·generalize hg:sH l a j=g at *
  have ei:=dT (Om:j+1<9223372036854775807);simp only[go_sem,show((j+1:Nat):Int)<5 by omega,gz];refine dP Z.toHF T (o:=E.o) (n:=3) (a:=g.2) aV k1 (by simp only[go_sem];rfl) (A.at 0 rfl) ?_;have N:aT _ ((E.o,bL v (aE l 3 g.2).2)::B++[(p,.rows 17 [sG pre post g.1])]) L:=A.set 0 rfl (bL v (aE l 3 g.2).2);by_cases c:(aE l 3 g.2).1=0
  ·have Y:jE l g.2=(((1+(aE l 3 (aE l 3 g.2).2).1:Nat):Int),(aE l 3 (aE l 3 g.2).2).2):=by unfold jE;simp only[c,if_true]
   have n2:=cL l (show 0<3 by decide) (aE l 3 g.2).2;have e2:IntKind.i64.wrap (1+((aE l 3 (aE l 3 g.2).2).1:Int))=((1+(aE l 3 (aE l 3 g.2).2).1:Nat):Int):=by rw[wrap_i64 Om Om];omega
   simp only[go_sem,cH (show(((aE l 3 g.2).1:Nat):Int)=0 by omega),ia];refine dP Z.toHF T (o:=E.o) (n:=3) (a:=(aE l 3 g.2).2) aV (bR l 3 k1) (by simp only[go_sem];rfl) (N.at 0 rfl) ?_;have O:aT _ ((E.o,bL v (aE l 3 (aE l 3 g.2).2).2)::B++[(p,.rows 17 [sG pre post g.1])]) L:=N.set 0 rfl (bL v (aE l 3 (aE l 3 g.2).2).2);have R:=O.NJ;rw[PH.set_set]at R O;have M:¬p=E.o:=λh=>by have X:=O.ndB;simp[fA,h]at X
   simp only[aU,aC M]at R;have W:((j+1:Nat):Int)<((5:Nat):Int):=Om;have V:(0:Int)≤((j+1:Nat):Int):=Om;have β:(sG pre post g.1).length=17:=by simp[sG,d,y,k2];omega
   have w:=akJ (pre:=pre) (post:=post) (s:=g.1) d Om ((1+(aE l 3 (aE l 3 g.2).2).1:Nat):Int);rw[k2]at w;have J:4+(j+1)*1=5+j:=Om;have x:5+j+1≤17:=Om;simp only[go_sem,e2,W,V,J,M,R,x,awT,axD,or_false,forall_eq,w,JS,ei];refine aP (j+1,_) ⟨hlt,?_⟩ (by simp only;omega) ?_ b_
   ·rw[e,Y];exact O.nz _
   ·exact Lq
  ·have Y:jE l g.2=(0,(aE l 3 g.2).2):=by unfold jE;simp only[c,if_false]
   simp only[go_sem,bO (show ¬(((aE l 3 g.2).1:Nat):Int)=0 by omega),JS,ei];refine aP (j+1,_) ⟨hlt,?_⟩ (by simp only;omega) ?_ b_
   ·rw[afJ (pre:=pre) (post:=post) (s:=g.1) d Om]at N;rw[e,Y];exact N
   ·exact Lq
 ·have:j=4:=Om;subst this;simp only[go_sem,show ¬((4+1:Nat):Int)<5 by decide];exact hK _ _ ⟨by simp only[go_sem],by simp only[go_sem],by simp only[go_sem],by simp only[go_sem],by simp only[go_sem],by simp only[go_sem],by simp only[go_sem],by simp only[go_sem]⟩ Sq A
theorem aT.qP{E:FE}{v ext d e i l p u:PV}{a:Nat}{H:PH}{B:List BX}{L:List LI}(h:aT H (E.boxes v ext d e i l p u a++B) L)(b:Nat):aT (H.set E.o (bL v b)) (E.boxes v ext d e i l p u b++B) L:=h.set 0 rfl _
abbrev ZU(s:List UInt8)(k m q:Int)(w r d e i:PV)(h:RF):List PV:=[.str s,.int .i64 k,.int .i64 m,.int .i64 q,.int .i64 0,.int .i64 0,.int .i64 0,.int .i64 0,.int .i64 0,w,r,d,e,i,.bool h.neg,aI h.num,aI h.den]
theorem adT {C : Ctx} (Lb : oS C) {l : List Nat} {v : PV} (T : Tp l v) (E : FE) (mc n i a : Nat) (ha : a ≤ l.length) (hi : i < 50) (ext w1 w2 w3 w4 w5 w6 : PV) (L : List LI) (rest : aD) (K : cJ) (F : PF) (H : PH)
    (hF : PAt E mc n i F) (hH : aT H (E.boxes v ext w1 w2 w3 w4 w5 w6 a) L)
    (hK : ∀ p F' H', PAt E mc n i F' → F' 15 = some (.ptr p 17 0 0) →
      (let k := aE l 2 a; let m := aE l 3 k.2; let h := aE l 4 m.2; let q := aE l (m.1 + 1) h.2; let r := lN l q.2 (max m.1 1); let g := aE l 9 r.2
       aT H' (E.boxes v ext w1 w2 w3 w4 w5 w6 g.2 ++ [(p, .rows 17 [sG [.str ([112] ++ cB i), .int .i64 (1 + k.1 : Nat), .int .i64 (m.1 : Nat), .int .i64 (1 + k.1 + q.1 : Nat), .int .i64 0]
        ([.aH, frs r.1] ++ (mkT (g.1 : Nat) 8).cells ++ (mkT ((1 + h.1 : Nat) : Int) 1).cells) []])]) L) → aD.wp C rest K F' H') :
    aD.wp C (.seq (.region JQ) (.seq (.seq (.draw zC) (.draw zD)) (.seq (.region zE) (.seq (.region zF) rest)))) K F H := by
  obtain ⟨f0, f1, f2, f6, f7, f11, f13, f14⟩ := hF;have nk := cL l (show 0 < 2 by decide) a;have ak := bR l 2 ha;have nm := cL l (show 0 < 3 by decide) (aE l 2 a).2;have am := bR l 3 ak;simp only at hK;generalize hk : aE l 2 a = k at *
  generalize hm : aE l 3 k.2 = m at *
  have nh := cL l (show 0 < 4 by decide) m.2;have ah := bR l 4 am;generalize hh : aE l 4 m.2 = h at *
  have nq := cL l (Om : 0 < m.1 + 1) h.2;have aq := bR l (m.1 + 1) ah;generalize hq : aE l (m.1 + 1) h.2 = q at *
  have ar := GT l aq (max m.1 1);generalize hr : lN l q.2 (max m.1 1) = r at *
  have ng := cL l (show 0 < 9 by decide) r.2;have ag := bR l 9 ar;generalize hg : aE l 9 r.2 = g at *
  have ek : IntKind.i64.wrap (1 + (k.1 : Int)) = ((1 + k.1 : Nat) : Int) := by rw [wrap_i64 Om Om]; omega
  have eh : IntKind.i64.wrap (1 + (h.1 : Int)) = ((1 + h.1 : Nat) : Int) := by rw [wrap_i64 Om Om]; omega
  have em : IntKind.i64.wrap ((m.1 : Int) + 1) = ((m.1 + 1 : Nat) : Int) := dT Om;have eq' : IntKind.i64.wrap (((1 + k.1 : Nat) : Int) + (q.1 : Int)) = ((1 + k.1 + q.1 : Nat) : Int) := by rw [wrap_i64 Om Om]; omega
  have h0 : aT H (E.boxes v ext w1 w2 w3 w4 w5 w6 a ++ []) L := by rw [ayO]; exact hH
  simp only[go_sem,JQ,f14];refine aB (Lb.name [112] i aV Om) rfl ?_;simp only[go_sem,f0];refine dP Lb.toHF T (o := E.o) (n := 2) (a := a) aV ha rfl (h0.at 0 rfl) ?_;have g1 := h0.qP k.2;rw [hk];simp only[go_sem,ek,f0];refine dP Lb.toHF T (o := E.o) (n := 3) (a := k.2) aV ak rfl (g1.at 0 rfl) ?_;have g2 := g1.qP m.2;rw [hm];rw [PH.set_set] at g2;simp only[go_sem,f0];refine dP Lb.toHF T (o := E.o) (n := 4) (a := m.2) aV am rfl (g2.at 0 rfl) ?_;have g3 := g2.qP h.2;rw [hh];rw [PH.set_set] at g3;simp only[go_sem,eh];refine aB (Lb.int ((1 + h.1 : Nat) : Int) (by unfold dX; omega)) rfl ?_;simp only[go_sem,awT,axD,or_false,forall_eq,forall_eq_or_imp];refine aW fun p hp => ?_;have g4 := g3.new hp (.rows 17 [ZU ([112] ++ cB i) (1 + k.1 : Nat) (m.1 : Nat) 0 .aH .aH (.bool false) .aH .aH (mkT ((1 + h.1 : Nat) : Int) 1)]);have hpo : ¬ p = E.o := g4.ne 3 0 rfl rfl aV;have hop : ¬ E.o = p := fun e => hpo e.symm;have q2 : ∀ (F2 : PF) (H2 : PH), PAt E mc n i F2 → F2 15 = some (.ptr p 17 0 0) → aT H2 (E.boxes v ext w1 w2 w3 w4 w5 w6 h.2 ++ [(p, .rows 17 [ZU ([112] ++ cB i) (1 + k.1 : Nat) (m.1 : Nat) 0 .aH .aH (.bool false) .aH .aH (mkT ((1 + h.1 : Nat) : Int) 1)])]) L →
      aD.wp C (.seq (.seq (.draw zC) (.draw zD)) (.seq (.region zE) (.seq (.region zF) rest))) K F2 H2 := by
    intro F2 H2 hF2 f15 hH2;obtain ⟨f0, f1, f2, f6, f7, f11, f13, f14⟩ := hF2;have bp := hH2.at 3 rfl;have hHs : (PH.nil.set p (.rows 17 [ZU ([112] ++ cB i) (1 + k.1 : Nat) (m.1 : Nat) 0 .aH .aH (.bool false) .aH .aH (mkT ((1 + h.1 : Nat) : Int) 1)])).le H2 := PH.aN a_ bp;simp only[go_sem];refine dH _ (mkS l v) hHs ?_;simp only[go_sem,zC,f15,bp,em,f0];refine sZ Lb.toHF T (o := E.o) (n := m.1 + 1) (a := h.2) Om ah rfl (hH2.at 0 rfl) ?_ ?_
    · rw [hq]; exact PH.aN a_ ((hH2.qP q.2).at 3 rfl)
    rw [hq];have g5 := hH2.qP q.2;simp only[go_sem,eq',f15];refine dH .nil gX a_ ?_;simp only[go_sem,zD,hpo,bp];refine ⟨a_, ?_⟩;have g6 : aT _ (E.boxes v ext w1 w2 w3 w4 w5 w6 q.2 ++ [(p, .rows 17 [ZU ([112] ++ cB i) (1 + k.1 : Nat) (m.1 : Nat) (1 + k.1 + q.1 : Nat) .aH .aH (.bool false) .aH .aH (mkT ((1 + h.1 : Nat) : Int) 1)])]) L := g5.set 3 rfl (.rows 17 [ZU ([112] ++ cB i) (1 + k.1 : Nat) (m.1 : Nat) (1 + k.1 + q.1 : Nat) .aH .aH (.bool false) .aH .aH (mkT ((1 + h.1 : Nat) : Int) 1)]);have bq := g6.at 3 rfl;simp only[go_sem,zE,f0,f15];refine mT (Lb.rep l v T E.o q.2 m.1 Om aq) (g6.at 0 rfl) rfl ?_;have g7 := g6.qP r.2;rw [hr];simp only[go_sem,hpo,f15];have g8 : aT _ (E.boxes v ext w1 w2 w3 w4 w5 w6 r.2 ++ [(p, .rows 17 [ZU ([112] ++ cB i) (1 + k.1 : Nat) (m.1 : Nat) (1 + k.1 + q.1 : Nat) .aH (frs r.1) (.bool false) .aH .aH (mkT ((1 + h.1 : Nat) : Int) 1)])]) L := g7.set 3 rfl (.rows 17 [ZU ([112] ++ cB i) (1 + k.1 : Nat) (m.1 : Nat) (1 + k.1 + q.1 : Nat) .aH (frs r.1) (.bool false) .aH .aH (mkT ((1 + h.1 : Nat) : Int) 1)]);simp only[go_sem,zF,f0];refine dP Lb.toHF T (o := E.o) (n := 9) (a := r.2) aV ar rfl (g8.at 0 rfl) ?_;have g9 := g8.qP g.2;rw [hg];simp only[go_sem];refine aB (Lb.fmk (g.1 : Int) 8 (by unfold dX; omega) (by unfold dX; omega)) rfl ?_;unfold yE;rw [aC aV];simp only[go_sem,f15,hpo];have g10 := g9.set 3 rfl (.rows 17 [sG [.str ([112] ++ cB i), .int .i64 (1 + k.1 : Nat), .int .i64 (m.1 : Nat), .int .i64 (1 + k.1 + q.1 : Nat), .int .i64 0]
        ([.aH, frs r.1] ++ (mkT (g.1 : Nat) 8).cells ++ (mkT ((1 + h.1 : Nat) : Int) 1).cells) []])
    refine hK p _ _ ⟨by simp only[go_sem,f0], by simp only[go_sem,f1], by simp only[go_sem,f2], by simp only[go_sem,f6], by simp only[go_sem,f7], by simp only[go_sem,f11], by simp only[go_sem,f13], by simp only[go_sem,f14]⟩ (by simp only[go_sem,f15]) g10
  simp only [aD.wp, go_sem] at q2;simp only[go_sem,awT,axD,or_false,forall_eq,forall_eq_or_imp];exact q2 _ _ ⟨by simp only[go_sem,f0], by simp only[go_sem,f1], by simp only[go_sem,f2], by simp only[go_sem,f6], by simp only[go_sem,f7], by simp only[go_sem,f11], by simp only[go_sem,f13], by simp only[go_sem,f14]⟩ rfl g4
abbrev FE.lists(u w x y A:PV)(i:List dE)(l:List eF)(d:List cX)(e:List dQ)(p:List (List PV)):List LI:=[(u,4,jO i),(w,4,kX l),(x,7,lH d),(y,3,nU e),(A,17,p)]
theorem adU{C:Ctx}(Lb:oS C){l:List Nat}{v:PV}(T:Tp l v)(E:FE)(mc n i a:Nat)(ha:a≤Z' l)(η:0<mc)(μ:mc≤50)(ext y A B J w5:PV)(lw:List dE)(md:List eF)(dm:List cX)(dv:List dQ)(pr:List (List PV))(ρ:Z' pr≤50)
  (s:List UInt8) (k m q:Int) (r t h:RF) (N:List RF) (p:Nat) (K:cJ) (F:PF) (H:PH)
  (hF:PAt E mc n i F) (u:F 15=some (.ptr p 17 0 0))
  (hH:aT H (E.boxes v ext y A B J w5 .aH a++[(p,.rows 17 [sG [.str s,.int .i64 k,.int .i64 m,.int .i64 q,.int .i64 0] ([.aH,frs N]++t.cells++h.cells) []])]) (FE.lists y A B J w5 lw md dm dv pr))
  (V:(let M:=sH l a 4;let f:=aE l mc M.2;let b:=aE l 2 f.2
   let ms:List Int × Nat:=if 1<mc then(if b.1=0 then([(f.1:Int),1-(f.1:Int)],b.2)else([(f.1:Int)],b.2))else([(f.1:Int)],f.2)
   ∀(w d:PV)(W:PF)(H':PH)(B':List BX),PAt E mc n i W→(∃o,w=.osl o 1 0 ms.1.length)→aT H' (E.boxes v ext y A B J d .aH ms.2++B')
    (FE.lists y A B J d lw md dm dv (pr++[yM ⟨s,k,m,q,0,(M.1.getD 0 0),(M.1.getD 1 0),(M.1.getD 2 0),(M.1.getD 3 0),ms.1,N,t,h⟩ w])++[(w,1,bC ms.1)])→K .normal W H')) :
  aD.wp C (.seq (.seq (.region JR) (.block 6 (.loop zA))) (.seq (.region JT) (.seq (.region JU) (.seq (.seq (.region JV) (.cond (.tmp 143) (.region JW) .skip)) (.region zG))))) K F H:=by
 obtain⟨f0,f1,f2,f6,f7,f11,f13,f14⟩:=hF;simp only[go_sem,JR];refine U4 (C:=C) Lb T E mc n i a p ha [(E.o7,flB ext y A B J w5 .aH),(E.o6,flZ)] _ _ _ rfl rfl _ _ H ⟨by simp only[go_sem,f0],by simp only[go_sem,f1],by simp only[go_sem,f2],by simp only[go_sem,f6],by simp only[go_sem,f7],by simp only[go_sem,f11],by simp only[go_sem,f13],by simp only[go_sem,f14]⟩ (by simp only[go_sem,u]) rfl hH ?_;clear f0 f1 f2 f6 f7 f11 f13 f14 u hH;intro F1 H1 ε u x;obtain⟨f0,f1,f2,f6,f7,f11,f13,f14⟩:=ε;obtain⟨α,ls⟩:=n8 l ha 4;have ι:∃O Q R S,(sH l a 4).1=[O,Q,R,S]:=⟨_,_,_,_,rfl⟩;simp only at V;generalize ν:sH l a 4=M at *
 obtain⟨O,Q,R,S,hx⟩:=ι;rw[hx]at V x;replace x:aT H1 (E.boxes v ext y A B J w5 .aH M.2++[(p,.rows 17 [yM ⟨s,k,m,q,0,O,Q,R,S,[],N,t,h⟩ .aH])]) (FE.lists y A B J w5 lw md dm dv pr):=x;have nf:=cL l η M.2;have af:=bR l mc α;generalize hf:aE l mc M.2=f at *
 have ab:=bR l 2 af;generalize hb:aE l 2 f.2=b at *
 have Z:¬p=E.o:=x.ne 3 0 rfl rfl aV;have θ:¬p=E.o7:=x.ne 3 1 rfl rfl aV;have ο:¬E.o7=p:=λe=>θ e.symm;have ξ:¬E.o7=E.o:=x.ne 1 0 rfl rfl aV;simp only[go_sem,JT,f0,f11];refine dP Lb.toHF T (o:=E.o) (n:=mc) (a:=M.2) Om α rfl (x.at 0 rfl) ?_;have h2:=x.set 0 rfl (bL v f.2);rw[hf];simp only[go_sem,JU];refine aW λo ho=>?_;have h3:=h2.aeJ (s:=1) (rows:=bC [(f.1:Int)]) ho;have b3:=h3.at 3 rfl;have ob:¬p=o:=h3.neL 3 5 rfl rfl rfl;have σ:¬E.o7=o:=h3.neL 1 5 rfl rfl rfl;have τ:¬E.o=o:=h3.neL 0 5 rfl rfl rfl;simp only[aU,aC ob,aC Z]at b3;simp only[go_sem,u,ob,Z,b3,awT,axD,or_false,forall_eq];have h4:=h3.set 3 rfl (.rows 17 [yM ⟨s,k,m,q,0,O,Q,R,S,[],N,t,h⟩ (.osl o 1 0 1)]);have fin:∀(w:PV)(ms:List Int)(a':Nat)(W:PF)(H':PH),PAt E mc n i W→W 15=some (.ptr p 17 0 0)→(∃o,w=.osl o 1 0 ms.length) →
   aT H' (E.boxes v ext y A B J w5 .aH a'++[(p,.rows 17 [yM ⟨s,k,m,q,0,O,Q,R,S,ms,N,t,h⟩ w])]) (FE.lists y A B J w5 lw md dm dv pr++[(w,1,bC ms)]) →
   (∀(d:PV)(U:PF)(H2:PH),PAt E mc n i U→aT H2 (E.boxes v ext y A B J d .aH a'++[(p,.rows 17 [yM ⟨s,k,m,q,0,O,Q,R,S,ms,N,t,h⟩ w])]) (FE.lists y A B J d lw md dm dv (pr++[yM ⟨s,k,m,q,0,O,Q,R,S,ms,N,t,h⟩ w])++[(w,1,bC ms)])→K .normal U H2) →
   wpOps C zG (K .normal) W H':=by
  intro w ms a' W H' δ u hw Y ζ;obtain⟨wo,rfl⟩:=hw;obtain⟨f0,f1,f2,f6,f7,f11,f13,f14⟩:=δ;have c1:=Y.at 1 rfl;have c3:=Y.at 3 rfl;have γ:(1:Nat)*17≤16777216:=by decide
  simp only[go_sem,zG,f7,u,c1,c3,γ,awT,axD,or_false,forall_eq,forall_eq_or_imp];refine Y.append 4 (src:=[yM ⟨s,k,m,q,0,O,Q,R,S,ms,N,t,h⟩ (.osl wo 1 0 ms.length)]) rfl rfl (by unfold roomFor;simp only[awV,maxLen];omega) λd H2 h5 κ=>?_;obtain⟨q5,rfl⟩:=κ aY;have c2:=h5.at 1 rfl;simp only[go_sem,c2,awT,axD,or_false,forall_eq];exact ζ _ _ _ ⟨by simp only[go_sem,f0],by simp only[go_sem,f1],by simp only[go_sem,f2],by simp only[go_sem,f6],by simp only[go_sem,f7],by simp only[go_sem,f11],by simp only[go_sem,f13],by simp only[go_sem,f14]⟩ (h5.set 1 rfl (flB ext y A B J _ .aH))
 simp only[go_sem,JV,f11];by_cases c:1<mc
 ·have c':(mc:Int)>1:=Om;simp only[go_sem,c',f0];refine dP Lb.toHF T (o:=E.o) (n:=2) (a:=f.2) aV af rfl (h4.at 0 rfl) ?_;have h5:=h4.set 0 rfl (bL v b.2);rw[hb];by_cases c2:b.1=0
  ·have X:(b.1:Int)=0:=Om;rw[aF c,aF c2]at V;have e1:IntKind.i64.wrap (1-(f.1:Int))=1-(f.1:Int):=wrap_i64 Om Om;have c3:=h5.at 3 rfl;have β:(1:Nat)*1≤16777216:=by decide
   simp only[go_sem,cH X,JW,u,Z,e1,β];refine h5.append 5 (src:=[[.int .i64 (1-(f.1:Int))]]) rfl rfl (by unfold roomFor;simp only[bC,awL,awV,maxLen];omega) λw' H2 h6 hw=>?_;obtain⟨q2,rfl⟩:=hw aY;have c4:=h6.at 3 rfl;simp only[go_sem,c4,u,awT,axD,or_false,forall_eq];have h7:=h6.set 3 rfl (.rows 17 [yM ⟨s,k,m,q,0,O,Q,R,S,[(f.1:Int),1-(f.1:Int)],N,t,h⟩ (.osl q2 1 0 2)]);exact fin (.osl q2 1 0 2) [(f.1:Int),1-(f.1:Int)] b.2 _ _ ⟨by simp only[go_sem,f0],by simp only[go_sem,f1],by simp only[go_sem,f2],by simp only[go_sem,f6],by simp only[go_sem,f7],by simp only[go_sem,f11],by simp only[go_sem,f13],by simp only[go_sem,f14]⟩ (by simp only[go_sem,u]) ⟨q2,rfl⟩ h7 (λd U H2 g1 g2=>V _ d U H2 _ g1 ⟨q2,rfl⟩ g2)
  ·have X:¬(b.1:Int)=0:=Om;rw[aF c,aC c2]at V;simp only[go_sem,bO X];exact fin (.osl o 1 0 1) [(f.1:Int)] b.2 _ _ ⟨by simp only[go_sem,f0],by simp only[go_sem,f1],by simp only[go_sem,f2],by simp only[go_sem,f6],by simp only[go_sem,f7],by simp only[go_sem,f11],by simp only[go_sem,f13],by simp only[go_sem,f14]⟩ (by simp only[go_sem,u]) ⟨o,rfl⟩ h5 (λd U H2 g1 g2=>V _ d U H2 _ g1 ⟨o,rfl⟩ g2)
 ·have c':¬(mc:Int)>1:=Om;rw[aC c]at V;simp only[go_sem,c'];exact fin (.osl o 1 0 1) [(f.1:Int)] f.2 _ _ ⟨by simp only[go_sem,f0],by simp only[go_sem,f1],by simp only[go_sem,f2],by simp only[go_sem,f6],by simp only[go_sem,f7],by simp only[go_sem,f11],by simp only[go_sem,f13],by simp only[go_sem,f14]⟩ (by simp only[go_sem,u]) ⟨o,rfl⟩ h4 (λd U H2 g1 g2=>V _ d U H2 _ g1 ⟨o,rfl⟩ g2)
abbrev nJ(l:List cO):List (List PV):=l.map cO.cells
abbrev pU(l:List kD):List (List PV):=l.map kD.cells
theorem rX{rows:List (List PV)}(h:∀r∈rows,∀c∈r,c.oid=none):Flat rows:=Flat.of λr e c d q s rs=>ep (h r e c d) q s rs
theorem Oh(l:List dE):Flat (jO l):=rX λr e c d=>by
 obtain⟨x,_,rfl⟩:=axG.1 e;simp only[dE.cells,awT,axD,or_false]at d;rcases d with rfl|rfl|rfl|rfl<;>rfl
theorem Ol(l:List eF):Flat (kX l):=rX λr e c d=>by
 obtain⟨x,_,rfl⟩:=axG.1 e;simp only[eF.cells,awT,axD,or_false]at d;rcases d with rfl|rfl|rfl|rfl<;>rfl
theorem Mc(l:List cX):Flat (lH l):=rX λr e c d=>by
 obtain⟨x,_,rfl⟩:=axG.1 e;simp only[cX.cells,awT,axD,or_false]at d;rcases d with rfl|rfl|rfl|rfl|rfl|rfl|rfl<;>rfl
theorem Me(l:List dQ):Flat (nU l):=rX λr e c d=>by
 obtain⟨x,_,rfl⟩:=axG.1 e;simp only[dQ.cells,awT,axD,or_false]at d;rcases d with rfl|rfl|rfl<;>rfl
theorem akS(l:List kD):Flat (pU l):=rX λr e c d=>by
 obtain⟨x,_,rfl⟩:=axG.1 e;simp only[kD.cells,awT,axD,or_false]at d;rcases d with rfl|rfl<;>rfl
theorem Qk(l:List cO):Flat (nJ l):=rX λr e c d=>by
 obtain⟨x,_,rfl⟩:=axG.1 e;simp only[cO.cells,awT,axD,or_false]at d;rcases d with rfl|rfl|rfl|rfl|rfl|rfl|rfl|rfl|rfl|rfl|rfl|rfl|rfl|rfl|rfl|rfl|rfl<;>rfl
theorem Vw(l:List Nat)(mc i:Nat){a:Nat}(h:a≤Z' l):(nO l mc i a).2≤Z' l:=by
 have e:=bR l 9 (GT l (bR l ((aE l 3 (aE l 2 a).2).1+1) (bR l 4 (bR l 3 (bR l 2 h)))) (max (aE l 3 (aE l 2 a).2).1 1));have d:=bR l mc (vS l (vS l (vS l (vS l e))));unfold nO;simp only;split
 ·split
  ·exact bR l 2 d
  ·exact bR l 2 d
 ·exact d
theorem BQ(l:List Nat)(mc:Nat){a:Nat}(h:a≤Z' l):∀k,(eD l mc a k).2≤Z' l∧(eD l mc a k).1.length=k
 |0=>⟨h,rfl⟩
 |k+1=>by obtain⟨d,e⟩:=BQ l mc h k;exact⟨Vw l mc k d,by simp only[eD,awQ,awV,e]⟩
theorem WK(l:List Nat)(pc:Nat){a:Nat}(h:a≤Z' l):∀k,(eX l pc a k).2≤Z' l∧(eX l pc a k).1.length=k
 |0=>⟨h,rfl⟩
 |k+1=>by obtain⟨d,e⟩:=WK l pc h k;exact⟨bR l pc d,by simp only[eX,awQ,awV,e]⟩
theorem Ea{C:Ctx}(Lb:oS C){l:List Nat}{v:PV}(T:Tp l v)(E:FE)(mc n a:Nat)(hn:n≤10)(θ:0<mc)(Z:mc≤50)(ha:a≤Z' l)(O:Int)(e u y A:PV)(S:List dE)(U:List eF)(Q:List cX)(R:List dQ)(K:cJ)(F:PF)(H:PH)
  (M:PAt E mc n 0 F) (W:aT H (E.boxes v (.int .i64 O) e u y A .aH .aH a) [(e,4,jO S),(u,4,kX U),(y,7,lH Q),(A,3,nU R)])
  (hK:∀V F' H',(gT E).le F'→aT H' (E.boxes v (.int .i64 O) e u y A V .aH (eD l mc a n).2) (FE.lists e u y A V S U Q R (nJ (eD l mc a n).1))→K (.exit 4) F' H') :
  aD.wp C (.loop JO) K F H:=by
 refine wp_loop (α:=Nat × PV × PH) (λt=>mf E mc n t.1) (λt=>t.2.2) (λt=>t.1≤n∧aT t.2.2 (E.boxes v (.int .i64 O) e u y A t.2.1 .aH (eD l mc a t.1).2) (FE.lists e u y A t.2.1 S U Q R (nJ (eD l mc a t.1).1))) (λt=>n-t.1) (0,.aH,H) ⟨axB _,W.wO 17⟩ ?_ b_ ?_
 ·unfold mf gT
  (repeat' (first|exact d_|refine c_ ?_ ?_))<;>first|(simp only[go_sem,M.f0,M.f1,M.f2,M.f6,M.f7,M.f11,M.f13,M.f14]<;>rfl)|rfl
 rintro⟨i,V,H0⟩ ⟨hi,W⟩;simp only at hi W ⊢;obtain⟨k1,k2⟩:=BQ l mc ha i;have J:eD l mc a (i+1)=((eD l mc a i).1++[(nO l mc i (eD l mc a i).2).1],(nO l mc i (eD l mc a i).2).2):=rfl;simp only[go_sem,JO,gx,mf,gT];by_cases hlt:i<n
 ·have B:(i:Int)<(n:Nat):=Om;generalize hg:eD l mc a i=g at *
  simp only[go_sem,B];refine adT (C:=C) Lb T E mc n i g.2 k1 Om (.int .i64 O) e u y A V .aH _ _ _ _ H0 ⟨by simp only[go_sem],by simp only[go_sem],by simp only[go_sem],by simp only[go_sem],by simp only[go_sem],by simp only[go_sem],by simp only[go_sem],by simp only[go_sem]⟩ W ?_;intro p F1 H1 γ β X;simp only at X;have ι:nO l mc i g.2=_:=rfl;have Y:=bR l 9 (GT l (bR l ((aE l 3 (aE l 2 g.2).2).1+1) (bR l 4 (bR l 3 (bR l 2 k1)))) (max (aE l 3 (aE l 2 g.2).2).1 1));refine adU (C:=C) Lb T E mc n i _ Y θ Z (.int .i64 O) e u y A V S U Q R _ (by rw[awL,k2];omega) _ _ _ _ (mkT 0 1) _ _ _ p _ F1 H1 γ β X ?_;intro N f b ms w d F2 H2 B' δ hw ε;obtain⟨o,rfl⟩:=hw;have hP:nO l mc i g.2=(⟨[112]++cB i,(1+(aE l 2 g.2).1:Nat),((aE l 3 (aE l 2 g.2).2).1:Nat),(1+(aE l 2 g.2).1+(aE l ((aE l 3 (aE l 2 g.2).2).1+1) (aE l 4 (aE l 3 (aE l 2 g.2).2).2).2).1:Nat),0,N.1.getD 0 0,N.1.getD 1 0,N.1.getD 2 0,N.1.getD 3 0,ms.1,(lN l (aE l ((aE l 3 (aE l 2 g.2).2).1+1) (aE l 4 (aE l 3 (aE l 2 g.2).2).2).2).2 (max (aE l 3 (aE l 2 g.2).2).1 1)).1,mkT ((aE l 9 (lN l (aE l ((aE l 3 (aE l 2 g.2).2).1+1) (aE l 4 (aE l 3 (aE l 2 g.2).2).2).2).2 (max (aE l 3 (aE l 2 g.2).2).1 1)).2).1:Nat) 8,mkT ((1+(aE l 4 (aE l 3 (aE l 2 g.2).2).2).1:Nat):Int) 1⟩,ms.2):=rfl;rw[hP]at J;generalize ζ:(⟨[112]++cB i,(1+(aE l 2 g.2).1:Nat),((aE l 3 (aE l 2 g.2).2).1:Nat),(1+(aE l 2 g.2).1+(aE l ((aE l 3 (aE l 2 g.2).2).1+1) (aE l 4 (aE l 3 (aE l 2 g.2).2).2).2).1:Nat),0,N.1.getD 0 0,N.1.getD 1 0,N.1.getD 2 0,N.1.getD 3 0,ms.1,(lN l (aE l ((aE l 3 (aE l 2 g.2).2).1+1) (aE l 4 (aE l 3 (aE l 2 g.2).2).2).2).2 (max (aE l 3 (aE l 2 g.2).2).1 1)).1,mkT ((aE l 9 (lN l (aE l ((aE l 3 (aE l 2 g.2).2).1+1) (aE l 4 (aE l 3 (aE l 2 g.2).2).2).2).2 (max (aE l 3 (aE l 2 g.2).2).1 1)).2).1:Nat) 8,mkT ((1+(aE l 4 (aE l 3 (aE l 2 g.2).2).2).1:Nat):Int) 1⟩:cO)=P at *
  have η:P.avB=ms.1:=by rw[←ζ]
  obtain⟨rs,z1,z2,z3,z4,z5⟩:=ε.frz 5 rfl;have y1:=z4 0 _ aV rfl;have y2:=z4 1 _ aV rfl;have y3:=z4 2 _ aV rfl;have y4:=z4 3 _ aV rfl;have y5:=z4 4 _ aV rfl;simp only at y1 y2 y3 y4 y5;have y0:=T.frz o 1 rs;obtain⟨f0,f1,f2,f6,f7,f11,f13,f14⟩:=δ;simp only[go_sem,ib,f14,wZz i];refine s9 (i+1,d,H2.frz o 1 rs) z1 ⟨hlt,?_⟩ (by simp only;omega) ?_ b_
  ·rw[J];have eB:(E.boxes v (.int .i64 O) e u y A d .aH ms.2).map (λb=>(b.1,b.2.frz o 1 rs))=E.boxes v (.int .i64 O) e u y A d .aH ms.2:=by show[(E.o,aR.rows 2 [[PV.dB o 1 rs v,.int .i64 ms.2]]),(E.o7,aR.rows 7 [[.int .i64 O,PV.dB o 1 rs e,PV.dB o 1 rs u,PV.dB o 1 rs y,PV.dB o 1 rs A,PV.dB o 1 rs d,.aH]]),(E.o6,flZ)]=_;rw[y0,y1,y2,y3,y4,y5]
   have e5:(nJ g.1++[yM P (.osl o 1 0 ms.1.length)]).map (λr=>r.map (PV.dB o 1 rs))=nJ (g.1++[P]):=by
    rw[axQ,Qk];have:([yM P (.osl o 1 0 ms.1.length)]:List (List PV)).map (λr=>r.map (PV.dB o 1 rs))=[P.cells]:=by show[[PV.str P.name,.int .i64 P.k,.int .i64 P.m,.int .i64 P.avY,.int .i64 P.s0,.int .i64 P.s1,.int .i64 P.s2,.int .i64 P.s3,.int .i64 P.s4,PV.dB o 1 rs (.osl o 1 0 ms.1.length),frs P.repair,.bool P.target.neg,aI P.target.num,aI P.target.den,.bool P.avK.neg,aI P.avK.num,aI P.avK.den]]=_;rw[z2,←η];rfl
    rw[this];simp[nJ]
   have eL:(FE.lists e u y A d S U Q R (nJ g.1++[yM P (.osl o 1 0 ms.1.length)])).map (λx=>(x.1,x.2.1,x.2.2.map λr=>r.map (PV.dB o 1 rs)))=FE.lists e u y A d S U Q R (nJ (g.1++[P])):=by show[(e,4,(jO S).map _),(u,4,(kX U).map _),(y,7,(lH Q).map _),(A,3,(nU R).map _),(d,17,(nJ g.1++[yM P (.osl o 1 0 ms.1.length)]).map _)]=_;rw[Oh,Ol,Mc,Me,e5]
   rw[←eB,←eL];exact z5.sub (by rw[axQ];exact List.sublist_append_left ..) (ayV.refl _)
  ·(repeat' (first|exact d_|refine c_ ?_ ?_))<;>first|(simp only[go_sem,f0,f1,f2,f6,f7,f11,f13]<;>rfl)|rfl
 ·have B:¬(i:Int)<(n:Nat):=Om;have:i=n:=Om;subst this;simp only[go_sem,B];exact hK V _ _ (TF Sq Sq Sq Sq Sq) W
theorem Kv{C:Ctx}(U:oS C){l:List Nat}{v:PV}(T:Tp l v)(E:FE)(pc n a:Nat)(hn:n≤60)(β:pc≤50)(ha:a≤Z' l)(ext A B J M d:PV)(y:List cO)(R:Z' y=pc)(L:List LI)(K:cJ)(F:PF)(H:PH)
  (Z:(((gT E).set 18 (.int .i64 n)).set 19 (.int .i64 0)).le F) (w:aT H (E.boxes v ext A B J M d .aH a) ((d,17,nJ y)::L))
  (hK:∀u S H',(gT E).le S→aT H' (E.boxes v ext A B J M d u (eX l pc a n).2) ((d,17,nJ y)::L++[(u,2,pU (eX l pc a n).1)])→K (.exit 8) S H') :
  aD.wp C (.loop JP) K F H:=by
 refine wp_loop (α:=Nat × PV × PH) (λt=>((gT E).set 18 (.int .i64 n)).set 19 (.int .i64 t.1)) (λt=>t.2.2) (λt=>t.1≤n∧aT t.2.2 (E.boxes v ext A B J M d t.2.1 (eX l pc a t.1).2) ((d,17,nJ y)::L++[(t.2.1,2,pU (eX l pc a t.1).1)])) (λt=>n-t.1) (0,.aH,H) ⟨axB _,w.wO 2⟩ Z b_ ?_;rintro⟨i,u,X⟩ ⟨hi,w⟩;simp only at hi w ⊢;obtain⟨k1,k2⟩:=WK l pc ha i;have x:eX l pc a (i+1)=((eX l pc a i).1++[⟨[118]++cB i,((aE l pc (eX l pc a i).2).1:Nat)⟩],(aE l pc (eX l pc a i).2).2):=rfl;simp only[go_sem,JP,ig,gT];by_cases hlt:i<n
 ·have p:(i:Int)<(n:Nat):=Om;generalize hg:eX l pc a i=g at *
  have V:=w.set 0 rfl (bL v (aE l pc g.2).2);generalize O:aE l pc g.2=z at *
  have b1:=w.at 1 rfl;have W:=(w.own 0 rfl).qD;rw[awL,R]at W;have N:(PH.nil.set E.o7 (flB ext A B J M d u)).le X:=PH.aN a_ b1;simp only[go_sem,p];refine dH (PH.nil.set E.o7 (flB ext A B J M d u)) (mkS l v) N ?_;simp only[go_sem,ii];refine IB U.touI (s:=[118]) (n:=i) aV Om rfl N ?_;simp only[go_sem,W];refine sZ U.toHF T (o:=E.o) (n:=pc) (a:=g.2) Om k1 rfl (w.at 0 rfl) ?_ ?_
  ·rw[O];exact PH.aN a_ (V.at 1 rfl)
  rw[O];have Q:(1:Nat)*2≤16777216:=by decide
  simp only[go_sem,Q,awT,axD,or_false,forall_eq,forall_eq_or_imp];refine V.append (v:=u) (s:=2) (rows:=pU g.1) (Z' L+1) (src:=[(⟨[118]++cB i,(z.1:Nat)⟩:kD).cells]) aY rfl (by unfold roomFor;rw[awL];simp only[awV,maxLen];omega) λw' H2 h5 hw=>?_;obtain⟨q,rfl⟩:=hw aY;rw[show((d,17,nJ y)::L++[(u,2,pU g.1)])=((d,17,nJ y)::L)++[(u,2,pU g.1)]from rfl,azT _ _ aY,show L.length+1-((d,17,nJ y)::L).length=0 by simp]at h5;have b2:=h5.at 1 rfl;refine⟨PH.aN a_ b2,?_⟩;refine dH .nil gX a_ ?_;simp only[go_sem,ij,b2,awT,axD,or_false,forall_eq];have Y:=h5.set 1 rfl (flB ext A B J M d (.osl q 2 0 (pU g.1++[(⟨[118]++cB i,(z.1:Nat)⟩:kD).cells]).length));refine⟨a_,?_⟩;simp only[go_sem,ik,wZz i];refine aP (i+1,.osl q 2 0 (pU g.1++[(⟨[118]++cB i,(z.1:Nat)⟩:kD).cells]).length,_) ⟨hlt,?_⟩ (by simp only;omega) ?_ b_
  ·rw[x];have e:pU (g.1++[⟨[118]++cB i,(z.1:Nat)⟩])=pU g.1++[(⟨[118]++cB i,(z.1:Nat)⟩:kD).cells]:=by simp[pU]
   simp only;rw[e];exact Y
  ·exact Lq
 ·have p:¬(i:Int)<(n:Nat):=Om;have:i=n:=Om;subst this;simp only[go_sem,p];exact hK u _ _ (TF rfl rfl rfl rfl rfl) w
def ND(l:List Nat)(v:PV)(o avA avC a:Nat)(r:PV)(H:PH):Prop:=Co r (.agg (jV l avA avC a).1.cells)∧H=PH.nil.set o (bL v (jV l avA avC a).2)
structure x9(C:Ctx):Prop extends oS C where
 grow:∀(l:List Nat)(v:PV),Tp l v→∀(mc avA:Nat),0<mc→mc≤1000→avA≤60→be C l v mc avA 4
theorem Yt{C:Ctx}(O:x9 C){l:List Nat}{v:PV}(T:Tp l v)(o avA avC a:Nat)(Γ:avA≤60)(Φ:avC≤50)(ha:a≤Z' l) :
  EL.wp C (bD Eb.res (ND l v o avA avC a)) (PF.args [.ptr o 2 0 0,.int .i64 avA,.int .i64 avC]) (PH.nil.set o (bL v a)):=by
 have hT:jV l avA avC a=jV l avA avC a:=rfl
 conv at hT=>rhs;unfold jV
 dsimp only at hT;have hR:∀r H,ND l v o avA avC a r H↔Co r (.agg (jV l avA avC a).1.cells)∧H=PH.nil.set o (bL v (jV l avA avC a).2):=λ_ _=>Iff.rfl;have ne:=cL l (show 0<2 by decide) a;have ae:=bR l 2 ha;generalize he:aE l 2 a=e at *
 have Ψ:=cL l (show 0<2 by decide) e.2;have ε:=bR l 2 ae;generalize Δ:aE l 2 e.2=N at *
 obtain⟨Q,γ⟩:=YC l ε (1+N.1);generalize Z:jP l N.2 (1+N.1)=avH at *
 have Ω:=cL l (show 0<2 by decide) avH.2;have ζ:=bR l 2 Q;generalize Θ:aE l 2 avH.2=i at *
 obtain⟨R,W⟩:=KF l (1+N.1) ζ (1+i.1);generalize U:eU l (1+N.1) i.2 (1+i.1)=avB at *
 have ι:GOk l avA ⟨[oJ],[],avB.2⟩:=⟨by simp,axB _,R⟩;obtain⟨hG,-⟩:=XK (mc:=1+i.1) 4 0 ι;generalize hg:fE l (1+i.1) avA 4 0 ⟨[oJ],[],avB.2⟩=g at *
 have a':=cL l (show 0<2 by decide) g.a;have η:=bR l 2 hG.a;generalize Ξ:aE l 2 g.a=pl at *
 obtain⟨S,δ⟩:=BQ l (1+i.1) η (1+pl.1);generalize α:eD l (1+i.1) pl.2 (1+pl.1)=pols at *
 have b':=cL l (Om:0<avC+1) pols.2;have ρ:=bR l (avC+1) S;generalize ξ:aE l (avC+1) pols.2=vo at *
 generalize β:eX l (1+pl.1) vo.2 vo.1=vols at *
 have ee:IntKind.i64.wrap (1+(e.1:Int))=((1+e.1:Nat):Int):=by rw[wrap_i64 Om Om];omega
 have σ:IntKind.i64.wrap (1+(N.1:Int))=((1+N.1:Nat):Int):=by rw[wrap_i64 Om Om];omega
 have τ:IntKind.i64.wrap (1+(i.1:Int))=((1+i.1:Nat):Int):=by rw[wrap_i64 Om Om];omega
 have υ:IntKind.i64.wrap (1+(pl.1:Int))=((1+pl.1:Nat):Int):=by rw[wrap_i64 Om Om];omega
 have χ:IntKind.i64.wrap ((avC:Int)+1)=((avC+1:Nat):Int):=dT Om;have h0:aT (PH.nil.set o (bL v a)) [(o,bL v a)] []:=aT.nil.new (H:=PH.nil) rfl (bL v a);simp only[go_sem,EL,tf,Eb];refine aW λo6 κ=>?_;have p:=h0.new κ flZ;simp only[go_sem,tg];refine dP O.toHF T (o:=o) (n:=2) (a:=a) aV ha rfl (p.at 0 rfl) ?_;have w:=p.set 0 rfl (bL v e.2);rw[he];simp only[go_sem,ee];refine aW λo7 μ=>?_;have F:=w.new μ (flB (.int .i64 (1+e.1:Nat)) .aH .aH .aH .aH .aH .aH);simp only[go_sem,th,awT,axD,or_false,forall_eq,forall_eq_or_imp];refine dP O.toHF T (o:=o) (n:=2) (a:=e.2) aV ae rfl (F.at 0 rfl) ?_;have h4:=F.set 0 rfl (bL v N.2);rw[Δ];have h5:=h4.perm (B':=FE.boxes ⟨o,o6,o7,avA,avC⟩ v (.int .i64 (1+e.1:Nat)) .aH .aH .aH .aH .aH .aH N.2) (L':=[]) (List.Perm.cons _ (List.Perm.swap _ _ _)) (List.Perm.refl _);obtain⟨E,d⟩:∃E:FE,E=⟨o,o6,o7,avA,avC⟩:=⟨_,rfl⟩;rw[←d]at h5;simp only[go_sem,σ,ti];refine adS (C:=C) O.tooS T E (1+N.1) N.2 Om ε _ _ _ _ ?_ h5 ?_
 ·rw[d];unfold gT;exact Lq
 clear h5 h4 F w p h0 κ μ;intro u F1 H1 J p;rw[Z]at p;have f0:F1 0=some (.ptr o 2 0 0):=J 0 _ (by rw[d];unfold gT;simp only[go_sem]);have f1:F1 1=some (.int .i64 avA):=J 1 _ (by rw[d];unfold gT;simp only[go_sem]);have f2:F1 2=some (.int .i64 avC):=J 2 _ (by rw[d];unfold gT;simp only[go_sem]);have f6:F1 6=some (.ptr o6 7 0 0):=J 6 _ (by rw[d];unfold gT;simp only[go_sem]);have f7:F1 7=some (.ptr o7 7 0 0):=J 7 _ (by rw[d];unfold gT;simp only[go_sem]);have X:=p.at 0 rfl;rw[d]at X;simp only[go_sem,gk,f0];refine dP O.toHF T (o:=o) (n:=2) (a:=avH.2) aV Q rfl X ?_;have w:=p.set 0 rfl (bL v i.2);rw[Θ];simp only[go_sem,τ,gl];refine U3 (C:=C) O.tooS T E (1+i.1) i.2 (1+N.1) Om Om ζ (.int .i64 (1+e.1:Nat)) u avH.1 γ _ _ _ ?_ (by rw[d]at w ⊢;exact w) ?_
 ·rw[d];unfold gT;exact Lq
 clear X w p f0 f1 f2 f6 f7 J;intro w2 F2 H2 K f11 w;rw[U]at w;have f0:F2 0=some (.ptr o 2 0 0):=K 0 _ (by rw[d];unfold gT;simp only[go_sem]);have f1:F2 1=some (.int .i64 avA):=K 1 _ (by rw[d];unfold gT;simp only[go_sem]);have f2:F2 2=some (.int .i64 avC):=K 2 _ (by rw[d];unfold gT;simp only[go_sem]);have f6:F2 6=some (.ptr o6 7 0 0):=K 6 _ (by rw[d];unfold gT;simp only[go_sem]);have f7:F2 7=some (.ptr o7 7 0 0):=K 7 _ (by rw[d];unfold gT;simp only[go_sem]);obtain⟨qm,ν⟩:=(w.own 1 rfl).one (by rw[awL];omega);rw[awL,W]at ν;subst ν;have ψ:(1:Nat)*7≤16777216:=by decide
 simp only[go_sem,gs];refine aB (O.int 0 (by unfold dX;omega)) rfl ?_;simp only[go_sem,awT,axD,or_false,forall_eq,forall_eq_or_imp,ψ];refine aW λod Λ=>?_;have F:=w.aeJ (s:=7) (rows:=lH [oJ]) Λ;have b7:=w.at 1 rfl;rw[d]at b7;have n7:¬o7=od:=by have:=F.neL 1 2 rfl rfl rfl;rw[d]at this;exact this
 simp only[go_sem,f7,b7,n7,awT,axD,or_false,forall_eq];have h4:=(F.set 1 rfl (flB (.int .i64 (1+e.1:Nat)) u (.osl qm 4 0 (1+i.1)) (.osl od 7 0 1) .aH .aH .aH)).wO 3;rw[d]at h4;have h5:=h4.perm (B':=(GE.mk o o7 qm (.int .i64 (1+e.1:Nat)) u .aH .aH).boxes v (1+i.1) (.osl od 7 0 1) .aH avB.2++[(o6,flZ)]) (L':=nI ⟨[oJ],[],avB.2⟩ (.osl od 7 0 1) .aH++[(u,4,jO avH.1),(.osl qm 4 0 (1+i.1),4,kX avB.1)]) (List.Perm.refl _)
  (List.perm_append_comm (l₁:=[(u,4,jO avH.1),(.osl qm 4 0 (1+i.1),4,kX avB.1)]) (l₂:=nI ⟨[oJ],[],avB.2⟩ (.osl od 7 0 1) .aH))
 simp only[go_sem,gt,f0,f1,f7];refine WL h5 (λH0 ω=>O.grow l v T (1+i.1) avA Om Om Γ (GE.mk o o7 qm (.int .i64 (1+e.1:Nat)) u .aH .aH) (.osl od 7 0 1) .aH ⟨[oJ],[],avB.2⟩ 0 oJ ι rfl rfl H0 ω) (by simp only[go_sem,f0,f1,f7];rfl) ?_;rintro r B' L' H3 ⟨rfl,A,B,rfl,rfl⟩ h6;rw[hg]at h6;have h7:=h6.perm (B':=E.boxes v (.int .i64 (1+e.1:Nat)) u (.osl qm 4 0 (1+i.1)) A B .aH .aH g.a) (L':=[(u,4,jO avH.1),(.osl qm 4 0 (1+i.1),4,kX avB.1),(A,7,lH g.avJ),(B,3,nU g.avT)]) (by rw[d];exact List.Perm.refl _)
  (List.perm_append_comm (l₁:=nI g A B) (l₂:=[(u,4,jO avH.1),(.osl qm 4 0 (1+i.1),4,kX avB.1)]))
 have X:=h7.at 0 rfl;rw[d]at X;simp only[go_sem,gv,f0];refine dP O.toHF T (o:=o) (n:=2) (a:=g.a) aV hG.a rfl X ?_;have h8:=h7.set 0 rfl (bL v pl.2);rw[Ξ];simp only[go_sem,υ,gw];refine Ea (C:=C) O.tooS T E (1+i.1) (1+pl.1) pl.2 Om Om Om η ((1+e.1:Nat):Int) u (.osl qm 4 0 (1+i.1)) A B avH.1 avB.1 g.avJ g.avT _ _ _ (by rw[d];exact⟨by simp only[go_sem,f0],by simp only[go_sem,f1],by simp only[go_sem,f2],by simp only[go_sem,f6],by simp only[go_sem,f7],by simp only[go_sem,f11],by simp only[go_sem],by simp only[go_sem];rfl⟩) (by rw[d]at h8 ⊢;exact h8) ?_;clear h8 h7 h6 h5 h4 F w X b7 f0 f1 f2 f6 f7 K;intro Y F4 H4 M p;rw[α]at p;have f0:F4 0=some (.ptr o 2 0 0):=M 0 _ (by rw[d];unfold gT;simp only[go_sem]);have f1:F4 1=some (.int .i64 avA):=M 1 _ (by rw[d];unfold gT;simp only[go_sem]);have f2:F4 2=some (.int .i64 avC):=M 2 _ (by rw[d];unfold gT;simp only[go_sem]);have f6:F4 6=some (.ptr o6 7 0 0):=M 6 _ (by rw[d];unfold gT;simp only[go_sem]);have f7:F4 7=some (.ptr o7 7 0 0):=M 7 _ (by rw[d];unfold gT;simp only[go_sem]);have X:=p.at 0 rfl;rw[d]at X;simp only[go_sem,ic,f0,f2,χ];refine dP O.toHF T (o:=o) (n:=avC+1) (a:=pols.2) Om S rfl X ?_;have w:=p.set 0 rfl (bL v vo.2);rw[ξ];have F:=w.perm (B':=E.boxes v (.int .i64 (1+e.1:Nat)) u (.osl qm 4 0 (1+i.1)) A B Y .aH vo.2) (L':=(Y,17,nJ pols.1)::[(u,4,jO avH.1),(.osl qm 4 0 (1+i.1),4,kX avB.1),(A,7,lH g.avJ),(B,3,nU g.avT)]) (List.Perm.refl _)
  (List.perm_append_comm (l₁:=[(u,4,jO avH.1),(.osl qm 4 0 (1+i.1),4,kX avB.1),(A,7,lH g.avJ),(B,3,nU g.avT)]) (l₂:=[(Y,17,nJ pols.1)]))
 simp only[go_sem,ie];refine Kv (C:=C) O.tooS T E (1+pl.1) vo.1 vo.2 Om Om ρ _ _ _ _ _ Y pols.1 δ _ _ _ _ ?_ (by rw[d]at F ⊢;exact F) ?_
 ·rw[d];unfold gT;exact Lq
 clear F w p X f0 f1 f2 f6 f7 M;intro w6 F5 H5 θ p;rw[β]at p;have f6:F5 6=some (.ptr o6 7 0 0):=θ 6 _ (by rw[d];unfold gT;simp only[go_sem]);have f7:F5 7=some (.ptr o7 7 0 0):=θ 7 _ (by rw[d];unfold gT;simp only[go_sem]);rw[d]at p;have b7:=p.at 1 rfl;have b6:=p.at 2 rfl;have one:∀(x:PV),x∈[u,A,B,Y,w6]→(∃q s n,x=.osl q s 0 n)∨x=.aH:=by
  intro x hx;have V:∀{s:Nat}{rows:List (List PV)},bX H5 s x rows→(∃q s n,x=.osl q s 0 n)∨x=.aH:=by
   rintro s rows (⟨_,h⟩|⟨q,rs,h,_⟩)
   ·exact .inr h
   ·exact .inl ⟨q,s,_,h⟩
  simp only[awT,axD,or_false]at hx;rcases hx with rfl|rfl|rfl|rfl|rfl
  ·exact V (p.own 1 rfl)
  ·exact V (p.own 3 rfl)
  ·exact V (p.own 4 rfl)
  ·exact V (p.own 0 rfl)
  ·exact V (p.own 5 rfl)
 have y:∀(x:PV),x∈[u,A,B,Y,w6]→PV.one x=true:=λx hx=>by rcases one x hx with⟨q,s,n,rfl⟩|rfl<;>rfl
 have o1:=y u aY;have o3:=y A aY;have o4:=y B aY;have o5:=y Y aY;have ο:=y w6 aY;simp only[PV.one]at o1 o3 o4 o5 ο;simp only[go_sem,im,f6,f7,b7,b6,awT,axD,or_false,forall_eq,forall_eq_or_imp,o1,o3,o4,o5,ο];have w:=p.set 2 rfl (flB (.int .i64 (1+e.1:Nat)) u (.osl qm 4 0 (1+i.1)) A B Y w6);have F:=w.sub (B':=[(o,bL v vols.2)]) (ayV.cons_cons _ (List.nil_sublist _)) (ayV.refl _);obtain⟨φ,H6,k1,k2,k3,k4⟩:=aT.giveUp _ F (λx hx=>by
  simp only[List.cons_append,List.nil_append,awT,axD,or_false]at hx;rcases hx with rfl|rfl|rfl|rfl|rfl|rfl
  ·exact Qk _
  ·exact Oh _
  ·exact Ol _
  ·exact Mc _
  ·exact Me _
  ·exact akS _) (λb hb q s rs=>by
  simp only[awT,axD,or_false]at hb;subst hb;simp only[aR.frz,axL,ayI,T.frz];rfl)
 refine GU (vs:=[.agg [.int .i64 (1+e.1:Nat),u,.osl qm 4 0 (1+i.1),A,B,Y,w6]]) (.inr rfl) (by simp only[go_sem,f6]) (k4 _ _ (.done (H2:=PH.nil.set o (bL v vols.2)) ?_ (PH.aN a_ (k3.at 0 rfl))));rw[hR,hT];refine⟨CoL.agg ?_,rfl⟩;have s5:=k1 (Y,17,nJ pols.1) aY;have s1:=k1 (u,4,jO avH.1) aY;have s2:=k1 (.osl qm 4 0 (1+i.1),4,kX avB.1) aY;have s3:=k1 (A,7,lH g.avJ) aY;have s4:=k1 (B,3,nU g.avT) aY;have s6:=k1 (w6,2,pU vols.1) aY;have s0:φ (.int .i64 (1+e.1:Nat))=.int .i64 (1+e.1:Nat):=k2 _ rfl;show CoL [φ (.int .i64 (1+e.1:Nat)),φ u,φ (.osl qm 4 0 (1+i.1)),φ A,φ B,φ Y,φ w6] _;rw[s0];exact CoL.cons (.refl _) (CoL.cons s1.co (CoL.cons s2.co (CoL.cons s3.co (CoL.cons s4.co (CoL.cons s5.co (CoL.cons s6.co .nil))))))
structure W2(C:Ctx):Prop extends x9 C where
 new:∀(l:List Nat),(∀x∈l,x<256)→Z' l≤9223372036854775807→aJ C 28 [.sl 1 (lF l)] .nil (Rw l)
 fleet:∀(l:List Nat)(v:PV),Tp l v→∀(o avA avC a:Nat),avA≤60→avC≤50→a≤Z' l →
  aJ C 0 [.ptr o 2 0 0,.int .i64 avA,.int .i64 avC] (PH.nil.set o (bL v a)) (λr H=>r=.agg (jV l avA avC a).1.cells∧H=PH.nil.set o (bL v (jV l avA avC a).2))
theorem ND.exact{C:Ctx}{name:Nat}{args:List PV}{H:PH}{l:List Nat}{v:PV}{o avA avC a:Nat}(h:aJ C name args H (ND l v o avA avC a)):aJ C name args H (λr H=>r=.agg (jV l avA avC a).1.cells∧H=PH.nil.set o (bL v (jV l avA avC a).2)):=
 h.post λr H' d=>⟨_,d.1,rfl,d.2⟩
theorem Yr{C:Ctx}(u:W2 C)(l:List Nat)(hb:∀x∈l,x<256)(y:Z' l≤9223372036854775807)(avA avC:Nat)(d:avA≤60)(p:avC≤50) :
  EK.wp C (bD D2.res (cV (.agg (jV (l.take 400) avA avC 0).1.cells))) (PF.args [.sl 1 (lF l),.int .i64 avA,.int .i64 avC]) .nil:=by
 simp only[go_sem,EK,ta,D2];refine aW λo6 A=>?_;simp only[go_sem,tc];refine oK (u.new l hb y) rfl a_ ?_;rintro r H' ⟨o,v,rfl,T,rfl⟩ w;have i:¬o6=o:=by intro e;subst e;have:=w o6 (bL v 0) (by rw[aU,aF rfl]) rfl;rw[aU,aF rfl]at this;cases this
 rw[PH.rA];simp only[go_sem];refine mT (u.fleet _ v T o avA avC 0 d p (axB _)) (by rw[aU,aF rfl]) rfl ?_;simp only[go_sem,i];exact bF (vs:=[.agg (jV (l.take 400) avA avC 0).1.cells]) (.inr rfl) .nil Sq a_ ⟨.refl _,rfl⟩
theorem CoL.asK:CoL [] []:=⟨rfl,λj p q h=>by simp at h⟩
theorem CoL.Sh{p q:PV}{ps e:List PV}(h:Co p q)(d:CoL ps e):CoL (p::ps) (q::e):=by
 refine⟨by simp[d.len],λj x y a b=>?_⟩;cases j with
 |zero =>simp only[List.getElem?_cons_zero,axZ.injEq]at a b;subst a;subst b;exact h
 |succ j=>exact d.at_ j x y (by simpa using a) (by simpa using b)
theorem aJ.seen{C:Ctx}{name:Nat}{args:List PV}{H:PH}{v:PV}(h:aJ C name args H (cV v)):aJ C name args H (aQ v):=
 h.post λr H' d=>⟨v,d.1,rfl,d.2⟩
def TQ(x:RF):Bool:=(x.num.all (λn=>decide (n<4294967296))&&x.den.all λn=>decide (n<4294967296))&&(decide (Z' x.num≤9)&&decide (Z' x.den≤9))
theorem LH{x:RF}(h:TQ x=true):x.Ok:=by
 simp only[TQ,awN,axK,decide_eq_true_eq]at h;exact⟨h.1.1,h.1.2,by omega,by omega⟩
def GW(l:List RF):Bool:=decide (Z' l≤9)&&l.all TQ
theorem DB{l:List RF}(h:GW l=true):tL l:=by
 simp only[GW,awN,axK,decide_eq_true_eq]at h;exact⟨by unfold Fits;omega,λx d=>LH (h.2 x d)⟩
def Dm(x:dE):Bool:=(GW x.start&&GW x.exit)&&(decide (Z' x.avF≤9)&&x.avF.all GW)
theorem Yi{x:dE}(h:Dm x=true):x.Ok:=by
 simp only[Dm,awN,axK,decide_eq_true_eq]at h;exact⟨DB h.1.1,DB h.1.2,by unfold Fits;omega,λr d=>DB (h.2.2 r d)⟩
def Ha(x:cO):Bool:=(decide (dX x.k∧dX x.m∧dX x.avY)&&(decide (Z' x.avB≤9)&&x.avB.all λm=>decide (dX m)))&&(GW x.repair&&(TQ x.target&&TQ x.avK))
theorem Zp{x:cO}(h:Ha x=true):x.Ok:=by
 simp only[Ha,awN,axK,decide_eq_true_eq]at h;exact⟨h.1.1.1,h.1.1.2.1,h.1.1.2.2,by unfold Fits;omega,h.1.2.2,DB h.2.1,LH h.2.2.1,LH h.2.2.2⟩
def okB(f:aM):Bool:=(decide (Z' f.avH≤99∧Z' f.avB≤99∧Z' f.avD≤99∧Z' f.avA≤99∧Z' f.avE≤99∧Z' f.avC≤99)&&(f.avH.all Dm&&f.avE.all Ha)) &&
 (f.avD.all (λx=>TQ x.avP&&decide (dX x.level∧dX x.parent))&&(f.avA.all (λx=>decide (dX x.model∧dX x.machine))&&f.avC.all λx=>decide (dX x.avM)))
theorem amC{f:aM}(h:okB f=true):f.Ok:=by
 simp only[okB,awN,axK,decide_eq_true_eq]at h;obtain⟨⟨⟨u,w,y,A,B,E⟩,i,l⟩,e,p,h5⟩:=h;exact⟨by unfold Fits;omega,by unfold Fits;omega,by unfold Fits;omega,by unfold Fits;omega,by unfold Fits;omega,by unfold Fits;omega,λx d=>Yi (i x d),λx d=>⟨LH (e x d).1,(e x d).2⟩,p,λx d=>Zp (l x d),h5⟩
def fC:=cP [43] Proofs.Tryz.f178
def vp:=aA fC 0
def vq:=aA fC 1
def vr:=aA fC 2
def vt:=aA fC 3
def vu:=aA fC 4
def vw:=aA fC 5
def vx:=aA fC 6
def vy:=aA fC 7
def RT:=aA fC 8
def RU:=aA fC 9
def LZ:=aA fC 10
def MA:=aA fC 11
def MB:=aA fC 12
def zR:=aA fC 13
def zS:=aA fC 14
def j6:aD:=(gW vu 13 0 zS (sq vw (gE vx 20 (.region vy) (sq RT (sq RU (gE LZ 35 (sq MA (.region MB)) (.region zR)))))))
def j7:=aA fC 15
def FY:aD:=(sq vp (sq vq (sq vr (.seq (dK vt 0 j6) (sq j7 .ret)))))
def I4:bH:=⟨2,47,FY,[.tmp 4]⟩
def iJ:=cP [51] Proofs.Tryz.f177
def Ja:=aA iJ 0
def Jb:=aA iJ 1
def Jc:=aA iJ 2
def Jd:=aA iJ 3
def Je:=aA iJ 4
def al:=aA iJ 5
def an:=aA iJ 6
def ao:=aA iJ 7
def MD:=aA iJ 8
def MF:=aA iJ 9
def DK:=aA iJ 10
def DL:=aA iJ 11
def DM:=aA iJ 12
def v6:aD:=(gW Je 22 0 DM (sq al (gE an 29 (.region ao) (gE MD 40 (.region MF) (sq DK (.region DL))))))
def RX:=aA iJ 13
def MC:aD:=(sq Ja (sq Jb (sq Jc (.seq (dK Jd 0 v6) (sq RX .ret)))))
def Wo:bH:=⟨2,57,MC,[.tmp 4]⟩
def gJ:=cP [] Proofs.Tryz.f183
def v7:=aA gJ 0
def v8:=aA gJ 1
def wa:=aA gJ 2
def wb:=aA gJ 3
def RZ:=aA gJ 4
def SA:=aA gJ 5
def wc:=aA gJ 6
def wd:=eE gJ 0
def we:=aA gJ 7
def wg:=aA gJ 8
def kb:=aA gJ 9
def MG:aD:=(gW wc 25 2 kb (dq wd (sq we (.region wg))))
def MH:=aA gJ 10
def kc:=aA gJ 11
def ka:aD:=(gW wb 19 0 kc (sq RZ (.seq (dK SA 2 MG) (.region MH))))
def kd:=aA gJ 12
def FZ:aD:=(sq v7 (sq v8 (.seq (dK wa 0 ka) (sq kd .ret))))
def Jf:bH:=⟨2,68,FZ,[.tmp 4]⟩
def lE:=cP [] Proofs.Tryz.f185
def Ie:=aA lE 0
def If:=aA lE 1
def Ig:=aA lE 2
def Ih:=aA lE 3
def Ii:=aA lE 4
def Ij:=aA lE 5
def Ik:=aA lE 6
def Il:=aA lE 7
def Im:=aA lE 8
def Ic:aD:=(gW Ik 21 0 Im (.region Il))
def vi:=aA lE 9
def LP:aD:=(sq Ie (sq If (eS Ig 9 Ih (sq Ii (.seq (dK Ij 0 Ic) (sq vi .ret))))))
def Wf:bH:=⟨1,27,LP,[.tmp 2]⟩
def mC:=cP [35,42] Proofs.Tryz.f186
def aaJ:=aA mC 0
def aaK:=aA mC 1
def aaL:=aA mC 2
def aaM:=aA mC 3
def aaN:=aA mC 4
def aaO:=aA mC 5
def aaP:=aA mC 6
def aaQ:=aA mC 7
def aaR:=aA mC 8
def aaS:=aA mC 9
def Rm:=aA mC 10
def Rk:aD:=(gW aaP 18 0 Rm (sq aaQ (sq aaR (.region aaS))))
def Rn:=aA mC 11
def av:aD:=(sq aaJ (eS aaK 11 aaL (sq aaM (sq aaN (.seq (dK aaO 0 Rk) (sq Rn .ret))))))
def uup:bH:=⟨2,45,av,[.tmp 4]⟩
def jS:=cP [47] Proofs.Tryz.f187
def Is:=aA jS 0
def It:=aA jS 1
def Iu:=aA jS 2
def Iv:=aA jS 3
def Iw:=aA jS 4
def Ix:=aA jS 5
def Iy:=aA jS 6
def Iz:=aA jS 7
def I0:=aA jS 8
def aj:=aA jS 9
def RR:=aA jS 10
def vj:aD:=(gW Ix 18 0 RR (sq Iy (gE Iz 30 (.region I0) (.region aj))))
def vk:=aA jS 11
def LX:aD:=(sq Is (eS It 12 Iu (sq Iv (.seq (dK Iw 0 vj) (sq vk .ret)))))
def Wj:bH:=⟨2,51,LX,[.tmp 4]⟩
theorem rW(P:List Nat)(v:Nat):aG P++[[.int .u32 (v:Int)]]=aG (P++[v]):=by simp[aG]
theorem rV{P:List Nat}(h:Z' P≤35184372087808):roomFor (aG P).length 1 4:=by
 unfold roomFor;rw[cD];simp only[maxLen];omega
def TU(a b:List Nat)(v:PV)(c i:Nat):PF:=(((((PF.nil.set 0 (aI a)).set 1 (aI b)).set 5 (v)).set 6 (.int .u64 c)).set 7 (.int .i64 i))
theorem aaE{C:Ctx}(L:rH C)(a b:List Nat)(ha:Lim a)(hb:Lim b)(η:val b≤val a)(hl:Z' b≤Z' a)(h1:Z' a≤35184372087808) :
  FY.wp C (bD I4.res (cV (aI (aK (val a-val b))))) (PF.args [aI a,aI b]) .nil:=by
 simp only[go_sem,FY,vp,vq,vr,vt,I4];refine wp_loop (α:=List Nat × Nat × PV × PH) (λs=>TU a b s.2.2.1 s.2.1 s.1.length) (λs=>s.2.2.2)
  (λs=>s.1.length≤Z' a∧Lim s.1∧s.2.1≤1∧val (a.take s.1.length)+4294967296^s.1.length*s.2.1=val s.1+val (b.take s.1.length)∧bX s.2.2.2 1 s.2.2.1 (aG s.1)) (λs=>Z' a-s.1.length) ([],0,.aH,.nil) ⟨by simp,by simp[Lim],by simp,by simp[val],.nil⟩ ?_ a_ ?_
 ·unfold TU;exact Lq
 rintro⟨P,c,v,H0⟩ ⟨hP,i,hc,A,S⟩;simp only at hP i hc A S ⊢;simp only[go_sem,j6,vu,TU];by_cases U:Z' P<Z' a
 ·have E:(Z' P:Int)<(Z' a:Nat):=Om;have ε:=ha _ (awS U);have δ:=cF a U;have β:(aG a)[Z' P]?=some [.int .u32 ((a[Z' P]:Nat):Int)]:=bS a U;generalize hx:a[Z' P]=x at *
  have ex:IntKind.u64.wrap ((x:Nat):Int)=((x:Nat):Int):=bE Om;have fin:∀(t:Nat)(B:PF),t<4294967296→val (b.take (Z' P+1))=val (b.take P.length)+4294967296^P.length*t →
    B 0=some (aI a)→B 1=some (aI b)→B 5=some v→B 8=some (.int .u64 (c+t:Nat))→B 7=some (.int .i64 P.length) →
    ∀K:cJ,(∀w l v' R H2,Z' w=Z' P+1→Lim w→l≤1→val (a.take (Z' P+1))+4294967296^w.length*l=val w+val (b.take (Z' P+1))→(TU a b v' l w.length).le R→bX H2 1 v' (aG w)→K .normal R H2) →
    aD.wp C (.seq (.region RT) (.seq (.region RU) (.seq (.seq (.region LZ) (.cond (.tmp 35) (.seq (.region MA) (.region MB)) .skip)) (.region zR)))) (gU 1 (jT C (aD.wp C (.region zS)) K)) B H0:=by
   intro t B ht u g0 g1 g5 Z Y K hK;have step:∀(d l:Nat),d<4294967296→l≤1→x+4294967296*l=d+(c+t)→val (a.take (Z' P+1))+4294967296^(Z' P+1)*l=val (P++[d])+val (b.take (Z' P+1)):=by
    intro d l hd ζ he;have h2:4294967296^P.length*(x+4294967296*l)=4294967296^P.length*(d+(c+t)):=by rw[he]
    rw[awW,awW,awW]at h2;rw[kL,ayH,axI,δ,u];omega
   simp only[go_sem,RT,g0,Y,β,ex,RU,LZ,Z];by_cases c2:x<c+t
   ·have F:((x:Nat):Int)<((c+t:Nat):Int):=Om;have N:IntKind.u64.wrap ((x:Int)+4294967296)=((x+4294967296:Nat):Int):=by rw[show(x:Int)+4294967296=((x+4294967296:Nat):Int) by omega];exact bE Om
    have e2:IntKind.u64.wrap (((x+4294967296:Nat):Int)-((c+t:Nat):Int))=((x+4294967296-(c+t):Nat):Int):=by rw[show((x+4294967296:Nat):Int)-((c+t:Nat):Int)=((x+4294967296-(c+t):Nat):Int) by omega];exact bE Om
    have J:IntKind.u32.wrap ((x+4294967296-(c+t):Nat):Int)=((x+4294967296-(c+t):Nat):Int):=by rw[cN,axW Om]
    have M:(1:Nat)*1≤16777216:=by decide
    simp only[go_sem,F,MA,N,MB,zR,g5,Z,e2,J,M];refine jN (src:=[[.int .u32 ((x+4294967296-(c+t):Nat):Int)]]) S rfl (rV Om) λv' H' p _=>?_;rw[rW]at p;simp only[go_sem,zS,Y,dT (Om:Z' P<9223372036854775807)];refine hK _ 1 v' _ H' aY (i.app λy Q=>by simp at Q;subst Q;omega) (awP _) ?_ ?_ p
    ·rw[awQ,awV];exact step _ 1 Om (awP _) Om
    ·unfold TU;rw[awQ,awV];exact Lq
   ·have F:¬((x:Nat):Int)<((c+t:Nat):Int):=Om;have e2:IntKind.u64.wrap (((x:Nat):Int)-((c+t:Nat):Int))=((x-(c+t):Nat):Int):=by rw[show((x:Nat):Int)-((c+t:Nat):Int)=((x-(c+t):Nat):Int) by omega];exact bE Om
    have J:IntKind.u32.wrap ((x-(c+t):Nat):Int)=((x-(c+t):Nat):Int):=by rw[cN,axW Om]
    have M:(1:Nat)*1≤16777216:=by decide
    simp only[go_sem,F,zR,g5,Z,e2,J,M];refine jN (src:=[[.int .u32 ((x-(c+t):Nat):Int)]]) S rfl (rV Om) λv' H' p _=>?_;rw[rW]at p;simp only[go_sem,zS,Y,dT (Om:Z' P<9223372036854775807)];refine hK _ 0 v' _ H' aY (i.app λy Q=>by simp at Q;subst Q;omega) aV ?_ ?_ p
    ·rw[awQ,awV];exact step _ 0 Om aV Om
    ·unfold TU;rw[awQ,awV];exact Lq
  simp only[aD.wp,go_sem]at fin;simp only[go_sem,E,vw,vx];by_cases V:Z' P<Z' b
  ·have H:(Z' P:Int)<(Z' b:Nat):=Om;have γ:=hb _ (awS V);have u:=cF b V;have eb:IntKind.u64.wrap ((b[Z' P]:Nat):Int)=((b[Z' P]:Nat):Int):=bE Om;have es:IntKind.u64.wrap ((c:Int)+(b[Z' P]:Int))=((c+b[Z' P]:Nat):Int):=fR Om;simp only[go_sem,H,vy,bS b V,eb,es];refine fin b[Z' P] _ γ u rfl rfl rfl rfl rfl _ ?_;intro w l v' R H2 N e2 J O W X;rw[←N]at O;exact aP (α:=List Nat × Nat × PV × PH) (w,l,v',H2) ⟨by simp only;omega,e2,J,O,X⟩ (by simp only;omega) W b_
  ·have H:¬(Z' P:Int)<(Z' b:Nat):=Om;have u:val (b.take (Z' P+1))=val (b.take P.length)+4294967296^P.length*0:=by rw[axE Om,axE Om];simp
   simp only[go_sem,H];refine fin 0 _ aV u rfl rfl rfl rfl rfl _ ?_;intro w l v' R H2 N e2 J O W X;rw[←N]at O;exact aP (α:=List Nat × Nat × PV × PH) (w,l,v',H2) ⟨by simp only;omega,e2,J,O,X⟩ (by simp only;omega) W b_
 ·have e:Z' P=Z' a:=Om;have E:¬(Z' P:Int)<(Z' a:Nat):=Om;have hV:val P=val a-val b:=by
   rw[e,ayC,axE hl]at A;have hlt:=fQ i;rw[e]at hlt;rcases azE c with h|h
   ·subst h;omega
   ·have:c=1:=Om;subst this;omega
  simp only[go_sem,E,j7];have hs:=L.trim _ i Om;rw[hV]at hs;refine wB hs S rfl λF1 H1 _=>?_;simp only[go_sem];exact bF (.inr rfl) .nil rfl a_ ⟨.refl _,rfl⟩
def tK(a b:List Nat)(o i:Nat):PF:=((((PF.nil.set 0 (aI a)).set 1 (aI b)).set 5 (.osl o 1 0 (Z' a+Z' b))).set 6 (.int .i64 i))
def utG(a b:List Nat)(o i c j:Nat):PF:=((((((PF.nil.set 0 (aI a)).set 1 (aI b)).set 5 (.osl o 1 0 (Z' a+Z' b))).set 6 (.int .i64 i)).set 7 (.int .u64 c)).set 8 (.int .i64 j))
theorem Wp{C:Ctx}(a b:List Nat)(ha:Lim a)(hb:Lim b)(h1:Z' a≤35184372087808)(h2:Z' b≤35184372087808)(L:List Nat)(i:Nat)(hi:i<Z' a)(N:GC a b L i)(q:Nat)(K:cJ)(F:PF)(H:PH)(J:(tK a b q i).le F)(hH:H q=some (.rows 1 (aG L)))
  (hK:∀L' F' H',GC a b L' (i+1)→(tK a b q i).le F'→H' q=some (.rows 1 (aG L'))→K .normal F' H') :
  aD.wp C (.block 1 (.seq (.region RZ) (.seq (.seq (.region SA) (.block 2 (.loop MG))) (.region MH)))) K F H:=by
 have f0:=J 0 _ (by unfold tK;simp only[go_sem];rfl);have f1:=J 1 _ (by unfold tK;simp only[go_sem];rfl);have f5:=J 5 _ (by unfold tK;simp only[go_sem];rfl);have f6:=J 6 _ (by unfold tK;simp only[go_sem];rfl);have hx:=ha _ (awS hi);have Y:=cF a hi;generalize β:a[i]=x at *
 have V:(aG a)[i]?=some [.int .u32 ((x:Nat):Int)]:=by rw[bS a hi,β]
 simp only[go_sem,RZ,SA];refine wp_loop (α:=List Nat × Nat × Nat) (λt=>utG a b q i t.2.1 t.2.2) (λt=>PH.nil.set q (.rows 1 (aG t.1)))
  (λt=>t.2.2≤Z' b∧t.1.length=Z' a+Z' b∧Lim t.1∧t.2.1<4294967296∧val t.1+4294967296^(i+t.2.2)*t.2.1=val (a.take i)*val b+4294967296^i*(x*val (b.take t.2.2))∧∀j y,i+Z' b≤j→t.1[j]?=some y→y=0) (λt=>Z' b-t.2.2) (L,0,0)
  ⟨by simp,N.len,N.lim,by simp,by simp[val,N.v],N.z⟩ ?_ (PH.aN a_ hH) ?_
 ·unfold utG;exact Lq
 rintro⟨M,c,j⟩ ⟨hj,U,e,X,u,Q⟩;simp only at hj U e X u Q;simp only[go_sem,MG,wc,utG];by_cases R:j<Z' b
 ·have w:(j:Int)<(Z' b:Nat):=Om;have O:=hb _ (awS R);have Z:=cF b R;generalize γ:b[j]=y at *
  have W:(aG b)[j]?=some [.int .u32 ((y:Nat):Int)]:=by rw[bS b R,γ]
  have d:i+j<Z' M:=Om;have E:=e _ (awS d);have p:=GZ d;generalize δ:M[i+j]=z at *
  have B:(aG M)[i+j]?=some [.int .u32 ((z:Nat):Int)]:=by rw[bS M d,δ]
  have ex:IntKind.u64.wrap ((x:Nat):Int)=((x:Nat):Int):=bE Om;have ey:IntKind.u64.wrap ((y:Nat):Int)=((y:Nat):Int):=bE Om;have ez:IntKind.u64.wrap ((z:Nat):Int)=((z:Nat):Int):=bE Om;have em:=O8 hx O;have ζ:x*y≤4294967295*4294967295:=azY Om Om;have e1:IntKind.u64.wrap (((x*y:Nat):Int)+(z:Int))=((x*y+z:Nat):Int):=fR Om;have e2:IntKind.u64.wrap (((x*y+z:Nat):Int)+(c:Int))=((x*y+z+c:Nat):Int):=fR Om;have A:IntKind.i64.wrap ((i:Int)+(j:Int))=((i+j:Nat):Int):=jC Om;have hlt:((i+j:Nat):Int)<((Z' a+Z' b:Nat):Int):=Om;generalize ht:x*y+z+c=t at *
  have ε:t<4294967296*4294967296:=Om;have l:(aG M).set (i+j) [.int .u32 ((t%4294967296:Nat):Int)]=aG (M.set (i+j) (t%4294967296)):=gQ M (i+j) _;simp only[go_sem,w];refine dH .nil gX a_ ?_;simp only[go_sem,wd,V,W,ex,ey,em,A,hlt,B,ez,e1,e2,we,cN,l,wg,zP,kb,wZz j];refine aP (M.set (i+j) (t%4294967296),t/4294967296,j+1) ⟨by simp only;omega,by simp only[ayM];exact U,e.set _ (ayD _ aV),by simp only;omega,?_,kr Q _ _ Om⟩ (by simp only;omega) ?_ (PH.aN a_ Sq)
  ·simp only;have S:=p (t%4294967296);have h4:4294967296^(i+(j+1))*(t/4294967296)+4294967296^(i+j)*(t%4294967296)=4294967296^(i+j)*t:=by rw[←ayY,ayH,axI,←awW,aAA]
   have h5:4294967296^(i+j)*t=4294967296^(i+j)*(x*y)+4294967296^(i+j)*z+4294967296^(i+j)*c:=by rw[←ht,awW,awW]
   have h6:4294967296^i*(x*val (b.take (j+1)))=4294967296^i*(x*val (b.take j))+4294967296^(i+j)*(x*y):=by rw[Z,awW,awW,Nat.pow_add];congr 1;rw[Nat.mul_left_comm x,axI]
   omega
  ·exact Lq
 ·have he:j=Z' b:=Om;have w:¬(j:Int)<(Z' b:Nat):=Om;subst he;have d:i+Z' b<Z' M:=Om;have E:M[i+Z' b]=0:=Q _ _ (awP _) (awX d);have p:=GZ d;have B:(aG M)[i+Z' b]?=some [.int .u32 ((0:Nat):Int)]:=by rw[bS M d,E]
  have A:IntKind.i64.wrap ((i:Int)+(Z' b:Int))=((i+Z' b:Nat):Int):=jC Om;have hlt:((i+Z' b:Nat):Int)<((Z' a+Z' b:Nat):Int):=Om;have l:(aG M).set (i+Z' b) [.int .u32 ((c%4294967296:Nat):Int)]=aG (M.set (i+Z' b) c):=by rw[axW X];exact gQ M _ _
  simp only[go_sem,w,MH,A,cN,hlt,B,l];refine hK (M.set (i+Z' b) c) _ _ ⟨by rw[ayM];exact U,e.set _ X,?_,λj y hj O=>?_⟩ (by unfold tK;exact Lq) Sq
  ·have S:=p c;rw[E,Nat.mul_zero,ayT]at S;rw[S,u,ayC,Y,axR,axI]
  ·rw[List.getElem?_set_ne Om]at O;exact Q j y Om O
theorem aaI{C:Ctx}(L:rH C)(a b:List Nat)(K:Lim a)(hb:Lim b)(S:Z' a≤8388608)(U:Z' b≤8388608) :
  FZ.wp C (bD Jf.res (cV (aI (aK (val a*val b))))) (PF.args [aI a,aI b]) .nil:=by
 have p:IntKind.i64.wrap ((Z' a:Int)+(Z' b:Int))=((Z' a+Z' b:Nat):Int):=jC Om;have A:((Z' a+Z' b:Nat):Int)*((4:Nat):Int)≤140737488355328:=Om;have B:((Z' a+Z' b:Nat):Int)≤9223372036854775807:=Om;have O:awO (Z' a+Z' b) [PV.int .u32 0]=aG (awO (Z' a+Z' b) 0):=by simp[aG]
 simp only[go_sem,FZ,v7,v8,Jf,awL,p,A,B,O];refine aW λo V=>?_;simp only[go_sem,wa];refine wp_loop (α:=List Nat × Nat) (λt=>tK a b o t.2) (λt=>PH.nil.set o (.rows 1 (aG t.1))) (λt=>t.2≤Z' a∧GC a b t.1 t.2) (λt=>Z' a-t.2) (awO (Z' a+Z' b) 0,0)
  ⟨by simp,by simp,xU _,by simp[val,uE],λj x _ F=>by rw[List.getElem?_replicate]at F;split at F<;>simp_all⟩ ?_ (PH.aN a_ Sq) ?_
 ·unfold tK;exact Lq
 rintro⟨M,i⟩ ⟨hi,e⟩;simp only at hi e;simp only[go_sem,ka,wb,tK];by_cases H:i<Z' a
 ·have l:(i:Int)<(Z' a:Nat):=Om;have u:=Wp (C:=C) a b K hb Om Om M i H e o;simp only[go_sem]at u;simp only[go_sem,l];refine u _ _ _ (by unfold tK;exact Lq) Sq ?_;intro L' Q H' y d w;have J:=d 6 _ (by unfold tK;simp only[go_sem];rfl);have g0:=d 0 _ (by unfold tK;simp only[go_sem];rfl);have g1:=d 1 _ (by unfold tK;simp only[go_sem];rfl);have R:=d 5 _ (by unfold tK;simp only[go_sem];rfl);simp only[go_sem,kc,J,wZz i];refine aP (L',i+1) ⟨by simp only;omega,y⟩ (by simp only;omega) ?_ (PH.aN a_ w);exact Lq
 ·have N:i=Z' a:=Om;subst N;have l:¬(Z' a:Int)<(Z' a:Nat):=Om;have hV:val M=val a*val b:=by rw[e.v,ayC]
  simp only[go_sem,kd];have E:=L.trim _ e.lim (by rw[e.len];omega);rw[hV]at E;refine sB (o:=o) (s:=1) (k:=Z' a+Z' b) (rs:=aG M) (v:=aI (aK (val a*val b))) ?_ rfl Sq (by rw[cD,e.len];exact awP _) ?_
  ·rw[axE (by rw[cD,e.len];exact awP _)];exact E
  ·simp only[go_sem];exact bF (.inr rfl) .nil rfl a_ ⟨.refl _,rfl⟩
structure W3(C:Ctx):Prop extends yb C where
 minus:∀a b,Lim a→Lim b→val b≤val a→Z' b≤Z' a→Z' a≤35184372087808→aJ C 42 [aI a,aI b] .nil (aQ (aI (aK (val a-val b))))
 times:∀a b,Lim a→Lim b→Z' a≤8388608→Z' b≤8388608→aJ C 44 [aI a,aI b] .nil (aQ (aI (aK (val a*val b))))
def yS(a:List Nat)(i:Nat):Nat:=a.getD i 0
theorem z8{a:List Nat}(h:Lim a)(i:Nat):yS a i<4294967296:=by
 unfold yS;rw[axY];rcases axA i a.length with h1|h1
 ·rw[awX h1];exact h _ (awS h1)
 ·rw[axV h1];decide
theorem WX{a:List Nat}{i:Nat}(h:i<Z' a):yS a i=a[i]:=by simp[yS,axY,h]
theorem OH{a:List Nat}{i:Nat}(h:¬i<Z' a):yS a i=0:=by simp[yS,axY,h]
theorem SB(a:List Nat)(i:Nat):val (a.take (i+1))=val (a.take i)+4294967296^i*yS a i:=by
 rcases axA i a.length with h|h
 ·rw[WX h];exact cF a h
 ·rw[OH Om,axE Om,axE Om];simp
def vW(a b:List Nat)(v:PV)(c i:Nat):PF:=(((((PF.nil.set 0 (aI a)).set 1 (aI b)).set 5 (v)).set 6 (.int .u64 c)).set 7 (.int .i64 i))
theorem agC{C:Ctx}(L:rH C)(a b:List Nat)(ha:Lim a)(hb:Lim b)(h1:Z' a≤8388608)(h2:Z' b≤8388608) :
  MC.wp C (bD Wo.res (cV (aI (aK (val a+val b))))) (PF.args [aI a,aI b]) .nil:=by
 simp only[go_sem,MC,Ja,Jb,Jc,Jd,Wo];refine wp_loop (α:=List Nat × Nat × PV × PH) (λs=>vW a b s.2.2.1 s.2.1 s.1.length) (λs=>s.2.2.2)
  (λs=>s.1.length≤max a.length b.length+1∧(s.1.length≤max a.length b.length∨s.2.1=0)∧Lim s.1∧s.2.1≤1∧val s.1+4294967296^s.1.length*s.2.1=val (a.take s.1.length)+val (b.take s.1.length)∧bX s.2.2.2 1 s.2.2.1 (aG s.1)) (λs=>max a.length b.length+1-s.1.length) ([],0,.aH,.nil)
  ⟨by simp,by simp,by simp[Lim],by simp,by simp[val],.nil⟩ ?_ a_ ?_
 ·unfold vW;exact Lq
 rintro⟨P,c,v,H0⟩ ⟨hP,δ,l,hc,E,hO⟩;simp only at hP δ l hc E hO ⊢;have ι:=z8 ha P.length;have κ:=z8 hb P.length;have η:=SB a P.length;have θ:=SB b P.length;generalize hx:yS a P.length=x at *
 generalize Z:yS b P.length=y at *
 have ex:IntKind.u64.wrap ((x:Nat):Int)=((x:Nat):Int):=bE Om;have ey:IntKind.u64.wrap ((y:Nat):Int)=((y:Nat):Int):=bE Om;have N:IntKind.u64.wrap ((c:Int)+(x:Int))=((c+x:Nat):Int):=fR Om;have e2:IntKind.u64.wrap (((c+x:Nat):Int)+(y:Int))=((c+x+y:Nat):Int):=fR Om;have ζ:Z' P<Z' a→(aG a)[Z' P]?=some [.int .u32 ((x:Nat):Int)]:=λh=>by rw[bS a h,←hx,WX h]
 have X:Z' P<Z' b→(aG b)[Z' P]?=some [.int .u32 ((y:Nat):Int)]:=λh=>by rw[bS b h,←Z,WX h]
 have Y:¬Z' P<Z' a→x=0:=λh=>by rw[←hx,OH h]
 have O:¬Z' P<Z' b→y=0:=λh=>by rw[←Z,OH h]
 have body:(Z' P≤max a.length b.length)→∀K:cJ,(∀i u v' Q H2,Z' i=Z' P+1→Lim i→u≤1→(Z' P+1≤max a.length b.length∨u=0)→val i+4294967296^i.length*u=val (a.take (Z' P+1))+val (b.take (Z' P+1))→(vW a b v' u i.length).le Q→bX H2 1 v' (aG i)→K .normal Q H2) →
   ∀F:PF,(vW a b v c P.length).le F→aD.wp C (.seq (.block 1 (.seq (.region al) (.seq (.seq (.region an) (.cond (.tmp 29) (.region ao) .skip)) (.seq (.seq (.region MD) (.cond (.tmp 40) (.region MF) .skip)) (.seq (.region DK) (.region DL)))))) (.region DM)) K F H0:=by
  intro μ K hK F V;have g0:F 0=some (aI a):=V 0 _ (by unfold vW;simp only[go_sem]);have g1:F 1=some (aI b):=V 1 _ (by unfold vW;simp only[go_sem]);have g5:F 5=some v:=V 5 _ (by unfold vW;simp only[go_sem]);have g6:F 6=some (.int .u64 c):=V 6 _ (by unfold vW;simp only[go_sem]);have w:F 7=some (.int .i64 P.length):=V 7 _ (by unfold vW;simp only[go_sem]);have fin:∀H:PF,H 0=some (aI a)→H 1=some (aI b)→H 5=some v→H 7=some (.int .i64 P.length)→H 8=some (.int .u64 (c+x+y:Nat)) →
    aD.wp C (.seq (.region DK) (.region DL)) (gU 1 (jT C (aD.wp C (.region DM)) K)) H H0:=by
   intro H q0 q1 q5 q7 q8;have ε:(1:Nat)*1≤16777216:=by decide
   generalize ht:c+x+y=t at *
   have ν:t<2*4294967296:=Om;simp only[go_sem,DK,q5,q8,ε,cN];refine jN (src:=[[.int .u32 ((t%4294967296:Nat):Int)]]) hO rfl (rV Om) λv' H' W _=>?_;rw[rW]at W;simp only[go_sem,DL,q8,zP,DM,q7,dT (Om:Z' P<9223372036854775807)];refine hK (P++[t%4294967296]) (t/4294967296) v' _ H' aY (l.app λy Z=>by simp at Z;subst Z;omega) Om ?_ ?_ ?_ W
   ·rcases axA P.length (max a.length b.length)with h|h
    ·exact .inl h
    ·right;have h1:=Y Om;have h2:=O Om;omega
   ·rw[kL,awQ,awV,η,θ,ayH,axI,ayY,←awW];rw[show t%4294967296+4294967296*(t/4294967296)=t from Nat.mod_add_div t 4294967296];have h3:4294967296^P.length*t=4294967296^P.length*c+4294967296^P.length*x+4294967296^P.length*y:=by rw[←ht,awW,awW]
    omega
   ·unfold vW;rw[awQ,awV];exact Lq
  simp only[aD.wp,go_sem]at fin;simp only[go_sem,al,g6,an,w,g0];by_cases c1:Z' P<Z' a
  ·have e:(Z' P:Int)<(Z' a:Nat):=Om;simp only[go_sem,e,ao,g0,w,ζ c1,ex,N,MD,g1];by_cases J:Z' P<Z' b
   ·have d:(Z' P:Int)<(Z' b:Nat):=Om;simp only[go_sem,d,MF,g1,w,X J,ey,e2];exact fin _ (by simp only[go_sem,g0]) (by simp only[go_sem,g1]) (by simp only[go_sem,g5]) (by simp only[go_sem,w]) rfl
   ·have d:¬(Z' P:Int)<(Z' b:Nat):=Om;have h0:=O J;simp only[go_sem,d];exact fin _ (by simp only[go_sem,g0]) (by simp only[go_sem,g1]) (by simp only[go_sem,g5]) (by simp only[go_sem,w]) (by simp only[go_sem,h0])
  ·have e:¬(Z' P:Int)<(Z' a:Nat):=Om;have h0:=Y c1;simp only[go_sem,e,MD,g1,w];by_cases J:Z' P<Z' b
   ·have d:(Z' P:Int)<(Z' b:Nat):=Om;have β:IntKind.u64.wrap ((c:Int)+(y:Int))=((c+x+y:Nat):Int):=by rw[h0];exact fR Om
    simp only[go_sem,d,MF,g1,w,X J,ey,β];exact fin _ (by simp only[go_sem,g0]) (by simp only[go_sem,g1]) (by simp only[go_sem,g5]) (by simp only[go_sem,w]) rfl
   ·have d:¬(Z' P:Int)<(Z' b:Nat):=Om;have γ:=O J;simp only[go_sem,d];exact fin _ (by simp only[go_sem,g0]) (by simp only[go_sem,g1]) (by simp only[go_sem,g5]) (by simp only[go_sem,w]) (by simp only[go_sem,h0,γ])
 simp only[aD.wp,go_sem]at body;have p:¬Z' P<Z' a→¬Z' P<Z' b→c=0→∀F:PF,F 5=some v→aD.wp C (.seq (.region RX) .ret) (bD [.tmp 4] (cV (aI (aK (val a+val b))))) F H0:=by
  intro n1 n2 n3 F f5;have hV:val P=val a+val b:=by rw[n3,axE Om,axE Om]at E;omega
  have hs:=L.trim _ l Om;rw[hV]at hs;simp only[go_sem,RX,f5];refine wB hs hO rfl λF1 H1 _=>?_;simp only[go_sem];exact bF (.inr rfl) .nil rfl a_ ⟨.refl _,rfl⟩
 simp only[aD.wp,go_sem]at p;simp only[go_sem,v6,Je,vW];by_cases c1:Z' P<Z' a
 ·have e:(Z' P:Int)<(Z' a:Nat):=Om;simp only[go_sem,e];refine body Om _ ?_ _ (by unfold vW;exact Lq);intro i u v' Q H2 N e2 R A B S U;rw[←N]at B A;exact aP (α:=List Nat × Nat × PV × PH) (i,u,v',H2) ⟨by simp only;omega,A,e2,R,B,U⟩ (by simp only;omega) S b_
 ·have e:¬(Z' P:Int)<(Z' a:Nat):=Om;simp only[go_sem,e];by_cases J:Z' P<Z' b
  ·have d:(Z' P:Int)<(Z' b:Nat):=Om;simp only[go_sem,d];refine body Om _ ?_ _ (by unfold vW;exact Lq);intro i u v' Q H2 N e2 R A B S U;rw[←N]at B A;exact aP (α:=List Nat × Nat × PV × PH) (i,u,v',H2) ⟨by simp only;omega,A,e2,R,B,U⟩ (by simp only;omega) S b_
  ·have d:¬(Z' P:Int)<(Z' b:Nat):=Om;simp only[go_sem,d];by_cases c3:c=0
   ·have M:¬(c:Int)>0:=Om;simp only[go_sem,M];exact p c1 J c3 _ rfl
   ·have M:(c:Int)>0:=Om;simp only[go_sem,M];refine body Om _ ?_ _ (by unfold vW;exact Lq);intro i u v' Q H2 N e2 R A B S U;rw[←N]at B A;exact aP (α:=List Nat × Nat × PV × PH) (i,u,v',H2) ⟨by simp only;omega,A,e2,R,B,U⟩ (by simp only;omega) S b_
structure W4(C:Ctx):Prop extends W3 C where
 plus:∀a b,Lim a→Lim b→Z' a≤8388608→Z' b≤8388608→aJ C 43 [aI a,aI b] .nil (aQ (aI (aK (val a+val b))))
def Ib(k:Nat)(v:Nat):PF:=((PF.nil.set 3 (.int .i64 k)).set 4 (.int .u32 v))
theorem afP{C:Ctx}(L:rH C)(xs:List Nat)(J:Lim xs)(Q:Z' xs≤35184372087808) :
  LP.wp C (bD Wf.res (aQ (.int .i64 (cS (val xs):Nat)))) (PF.args [aI xs]) .nil:=by
 simp only[go_sem,LP,Ie,If,Wf];refine aB (L.trim xs J Q) rfl ?_;have R:=gP J;simp only[go_sem,Ig,awL,bP,DJ];by_cases x:nl (val xs)=0
 ·simp only[go_sem,bQ x,Ih];refine cY (.inr rfl) rfl ?_;have:val xs=0:=mL.1 x;simp[cR,this,mO]
 obtain⟨n,N⟩:∃n,nl (val xs)=n+1:=⟨nl (val xs)-1,by omega⟩;obtain⟨t,w,A⟩:=Ia (xs:=aK (val xs)) (bG _) (by rw[bB];exact N);have p:t<4294967296:=bG _ t (ayN w);have O:val xs=val ((aK (val xs)).take n)+4294967296^n*t:=by
  have:=bB (val xs);have d:n<(aK (val xs)).length:=by rw[bP];omega
  have M:(aK (val xs))[n]=t:=by rw[awX d]at w;exact axZ.inj w
  conv=>lhs;rw[←this,←axE (l:=aK (val xs)) (i:=n+1) (by rw[bP];omega)]
  rw[cF _ d,M]
 have hb:cS (val xs)=32*n+cS t:=by have F:=fQ ((bG (val xs)).take n);rw[axC,bP,ayZ Om]at F;have u:=yq (lo:=val ((aK (val xs)).take n)) (k:=32*n) (hi:=t) (by rw[Nat.pow_mul];exact F) A;rw[←u,Nat.pow_mul];exact congrArg cS O
 have e:(aG (aK (val xs)))[n]?=some [.int .u32 (t:Nat)]:=by simp[aG,w]
 have K:IntKind.i64.wrap (((nl (val xs):Nat):Int)-1)=(n:Int):=by rw[wrap_i64 Om Om];omega
 have e2:IntKind.i64.wrap (32*(n:Int))=((32*n:Nat):Int):=by rw[wrap_i64 Om Om];omega
 simp only[go_sem,cU x,Ii,Ij,awL,bP,K,e2,e];refine wp_loop (α:=Nat × Nat) (λa=>Ib a.1 a.2) (λ_=>.nil) (λa=>a.1+cS a.2=32*n+cS t∧a.2<4294967296) (λa=>a.2) (32*n,t) ⟨rfl,p⟩ ?_ a_ ?_
 ·unfold Ib;exact Lq
 rintro⟨k,v⟩ ⟨u,hlt⟩;simp only at u hlt;have H:cS t≤32:=(nN t 32).2 p;simp only[go_sem,Ic,Ik,Ib];by_cases E:(v:Int)>0
 ·have B:v≠0:=Om;have y:IntKind.u32.wrap (Int.tdiv (v:Int) 2)=((v/2:Nat):Int):=by rw[show Int.tdiv (v:Int) 2=((v/2:Nat):Int)from Int.ofNat_tdiv v 2,cN,axW Om]
  simp only[go_sem,E,Il,Im,y,wZz k];refine aP (k+1,v/2) ⟨?_,?_⟩ (Nat.div_lt_self Om aV) ?_ a_
  ·have:=sY B;simp only;omega
  ·simp only;omega
  ·exact Lq
 ·have:v=0:=Om;subst this;simp only[go_sem,E,vi];refine cY (.inr rfl) rfl ?_;rw[mO]at u;simp only[cR,PV.int.injEq,true_and];omega
theorem u7(n:Nat):4294967296^(n/32)*2^(n%32)=2^n:=by
 rw[show(4294967296:Nat)=2^32 by decide,←Nat.pow_mul,←Nat.pow_add];congr 1;omega
theorem Z8(n:Nat):IntKind.i64.wrap (Int.tdiv (n:Int) 32)=IntKind.i64.wrap ((n/32:Nat):Int):=by
 rw[show Int.tdiv (n:Int) 32=((n/32:Nat):Int)from Int.ofNat_tdiv n 32]
theorem aaA(n:Nat):Int.tmod (n:Int) 32=((n%32:Nat):Int):=Int.ofNat_tmod n 32
def agF(a:List Nat)(n:Nat)(v:PV)(c i:Nat):PF:=(((((PF.nil.set 0 (aI a)).set 1 (.int .i64 n)).set 5 (v)).set 6 (.int .u64 c)).set 7 (.int .i64 i))
theorem amY{C:Ctx}(L:rH C)(a:List Nat)(n:Nat)(ha:Lim a)(h1:Z' a≤8388608)(hn:n≤8388608)(h0:Z' a=0→val a=0) :
  av.wp C (bD uup.res (qF 1 (aG (aK (val a*2^n))))) (PF.args [aI a,.int .i64 n]) .nil:=by
 simp only[go_sem,av,aaJ,aaK,uup,awL,DJ];by_cases E:Z' a=0
 ·simp only[go_sem,bQ E,aaL];rw[h0 E,Nat.zero_mul,iD];exact nt (.inr rfl) rfl
 have ez:IntKind.i64.wrap (Int.tdiv (n:Int) 32)=((n/32:Nat):Int):=by rw[Z8,aw Om]
 have em:=aaA n;have eu:IntKind.u64.wrap ((n%32:Nat):Int)=((n%32:Nat):Int):=bE Om;have U:=u7 n;have S:n%32<32:=ayD _ aV;have hz:n/32≤8388608:=Om;generalize ζ:n/32=z at *
 generalize δ:n%32=s at *
 have Q:((z:Nat):Int)*((4:Nat):Int)≤140737488355328:=Om;have R:((z:Nat):Int)≤9223372036854775807:=Om;have W:awO z [PV.int .u32 0]=aG (awO z 0):=by simp[aG]
 have K:2^s≤2147483648:=Nat.pow_le_pow_right (show 0<2 by decide) (Om:s≤31);have A:0<2^s:=azJ aV;simp only[go_sem,cU E,aaM,ez,Q,R,W];refine aW λo ho=>?_;simp only[go_sem,aaN,aaO];refine wp_loop (α:=List Nat × Nat × Nat × PV × PH) (λt=>agF a n t.2.2.2.1 t.2.1 t.2.2.1) (λt=>t.2.2.2.2)
  (λt=>t.2.2.1≤Z' a∧t.1.length=z+t.2.2.1∧Lim t.1∧t.2.1<2^s∧val t.1+4294967296^t.1.length*t.2.1=val (a.take t.2.2.1)*2^n∧bX t.2.2.2.2 1 t.2.2.2.1 (aG t.1)) (λt=>Z' a-t.2.2.1) (awO z 0,0,0,.osl o 1 0 z,PH.nil.set o (.rows 1 (aG (awO z 0))))
  ⟨by simp,by simp,xU _,A,by simp[val,uE],.inr ⟨o,aG (awO z 0),by rw[cD,List.length_replicate],by simp only[go_sem],by rw[cD];exact awP _,ayC⟩⟩ ?_ b_ ?_
 ·unfold agF;exact Lq
 rintro⟨P,c,i,v,H0⟩ ⟨hi,X,d,Y,p,N⟩;simp only at hi X d Y p N ⊢;simp only[go_sem,Rk,aaP,agF];by_cases F:i<Z' a
 ·have u:(i:Int)<(Z' a:Nat):=Om;have γ:=ha _ (awS F);have V:=cF a F;have O:=bS a F;generalize Z:a[i]=x at *
  have ε:x*2^s≤4294967295*2147483648:=azY Om K;have ex:IntKind.u64.wrap ((x:Nat):Int)=((x:Nat):Int):=bE Om;have β:2^s*x=x*2^s:=axM _ _;have J:shift .shl .u64 (x:Int) (s:Int)=some (.int .u64 ((2^s*x:Nat):Int)):=LL Om Om;have H:=orI (a:=2^s*x) (b:=c) (n:=c+2^s*x) Om Om (by rw[Nat.or_comm];exact G1 Y Om) Om;have B:(c+2^s*x)/4294967296<2^s:=by rw[azR aV];have:2^s*(x+1)≤2^s*4294967296:=azA _ Om;rw[awW,Nat.mul_one]at this;omega
  have w:(1:Nat)*1≤16777216:=by decide
  simp only[go_sem,u,aaQ,O,ex,em,eu,J,H,aaR,cN,w];refine jN (src:=[[.int .u32 (((c+2^s*x)%4294967296:Nat):Int)]]) N rfl (rV Om) λv' H' l _=>?_;rw[rW]at l;simp only[go_sem,aaS,zP,Rm,wZz i];refine aP (P++[(c+2^s*x)%4294967296],(c+2^s*x)/4294967296,i+1,v',H') ⟨by simp only;omega,by simp;omega,d.app λy hy=>by simp at hy;subst hy;exact ayD _ aV,B,?_,l⟩ (by simp only;omega) ?_ b_
  ·simp only;have hp:4294967296^P.length*(2^s*x)=4294967296^i*x*2^n:=by rw[X,Nat.pow_add,←U];rw[axI,Nat.mul_left_comm (4294967296^i),←axI (4294967296^z),axM (4294967296^z*2^s),axI,axM x]
   rw[kL,awQ,awV,ayH,axI,ayY,←awW,Nat.mod_add_div,V,awW,axR,←ayY,p,hp]
  ·exact Lq
 ·have e:i=Z' a:=Om;subst e;have u:¬(Z' a:Int)<(Z' a:Nat):=Om;have w:(1:Nat)*1≤16777216:=by decide
  have hV:val (P++[c])=val a*2^n:=by rw[kL,p,ayC]
  have M:Lim (P++[c]):=d.app λx Z=>by simp at Z;omega
  have ec:IntKind.u32.wrap ((c:Nat):Int)=((c:Nat):Int):=by rw[cN,axW Om]
  simp only[go_sem,u,Rn,ec,w];refine jN (src:=[[.int .u32 ((c:Nat):Int)]]) N rfl (rV Om) λv' H' l _=>?_;rw[rW]at l;have S:=L.trimM _ M (by simp;omega);rw[hV]at S;refine xa S l rfl λF1 H1 _ r H2 hr _=>?_;simp only[go_sem];exact Zv (.inr rfl) hr rfl
def RQ(a:List Nat)(n:Nat)(v:PV)(i:Nat):PF:=((((PF.nil.set 0 (aI a)).set 1 (.int .i64 n)).set 5 (v)).set 6 (.int .i64 i))
theorem afT{C:Ctx}(L:rH C)(a:List Nat)(n:Nat)(J:Lim a)(h1:Z' a≤8388608)(hn:n≤1000000000) :
  LX.wp C (bD Wj.res (cV (aI (aK (val a/2^n))))) (PF.args [aI a,.int .i64 n]) .nil:=by
 have ez:IntKind.i64.wrap (Int.tdiv (n:Int) 32)=((n/32:Nat):Int):=by rw[Z8,aw Om]
 have em:=aaA n;have eu:IntKind.u64.wrap ((n%32:Nat):Int)=((n%32:Nat):Int):=bE Om;have N:=u7 n;have R:n%32<32:=ayD _ aV;have hz:n/32≤1000000000:=Om;generalize ι:n/32=z at *
 generalize θ:n%32=s at *
 simp only[go_sem,LX,Is,It,Wj,awL,ez];by_cases c0:Z' a≤z
 ·have p:((z:Nat):Int)≥(Z' a:Nat):=Om;have hq:val a/2^n=0:=by refine aAB (Nat.lt_of_lt_of_le (fQ J) ?_);rw[←N];exact axT (Nat.pow_le_pow_right aV c0) (Nat.le_mul_of_pos_right _ (azJ aV))
  simp only[go_sem,p,Iu];rw[hq,iD];exact bF (vs:=[.aH]) (.inr rfl) .nil rfl a_ ⟨.nil 1,rfl⟩
 have p:¬((z:Nat):Int)≥(Z' a:Nat):=Om;have hR:val a/2^n=val (a.drop z)/2^s:=by rw[wV J Om,←N,Nat.div_div_eq_div_mul]
 have E:Lim (a.drop z):=J.drop z;simp only[go_sem,p,Iv,Iw,ez];refine wp_loop (α:=List Nat × PV × PH) (λt=>RQ a n t.2.1 (z+t.1.length)) (λt=>t.2.2)
  (λt=>z+t.1.length≤Z' a∧t.1=eG t.1.length (val (a.drop z)/2^s)∧bX t.2.2 1 t.2.1 (aG t.1)) (λt=>Z' a-t.1.length) ([],.aH,.nil)
  ⟨by simp;omega,rfl,.nil⟩ ?_ a_ ?_
 ·unfold RQ
  (repeat' (first|exact d_|refine c_ ?_ ?_))<;>first|(simp only[go_sem,azB]<;>rfl)|rfl
 rintro⟨P,v,H0⟩ ⟨hP,hD,Z⟩;simp only at hP hD Z ⊢;simp only[go_sem,vj,Ix,RQ];have B:Lim P:=by rw[hD];exact oM _ _
 by_cases S:z+Z' P<Z' a
 ·have u:((z+Z' P:Nat):Int)<(Z' a:Nat):=Om;have η:=J _ (awS S);have β:=bS a S;have δ:Z' P≤(a.drop z).length:=by rw[ayL];omega
  have O:=wV E δ;have d:(a.drop z).drop P.length=a[z+Z' P]::a.drop (z+Z' P+1):=by rw[List.drop_drop,ayS S]
  generalize hx:a[z+Z' P]=x at *
  have ex:IntKind.u64.wrap ((x:Nat):Int)=((x:Nat):Int):=bE Om;have γ:(1:Nat)*1≤16777216:=by decide
  have Y:IntKind.i64.wrap (((z+Z' P:Nat):Int)+1)=((z+Z' P+1:Nat):Int):=dT Om;have fin:∀(t:Nat)(F:PF),t<18446744073709551616→val (a.drop z)/4294967296^P.length%(4294967296*4294967296)=t→F 0=some (aI a)→F 1=some (.int .i64 n)→F 5=some v→F 6=some (.int .i64 (z+Z' P:Nat))→F 7=some (.int .u64 t) →
    ∀K:cJ,(∀v' Q H2,(RQ a n v' (z+(Z' P+1))).le Q→bX H2 1 v' (aG (P++[t/2^s%4294967296]))→(P++[t/2^s%4294967296])=eG (Z' P+1) (val (a.drop z)/2^s)→K .normal Q H2) →
    aD.wp C (.region aj) (gU 1 (jT C (aD.wp C (.region RR)) K)) F H0:=by
   intro t F ht ε f0 f1 f5 f6 f7 K hK;have A:shift .shr .u64 (t:Int) (s:Int)=some (.int .u64 ((t/2^s:Nat):Int)):=amS Om;simp only[go_sem,aj,f5,f7,f1,em,eu,A,cN,γ];refine jN (src:=[[.int .u32 ((t/2^s%4294967296:Nat):Int)]]) Z rfl (rV Om) λv' H' H _=>?_;rw[rW]at H;simp only[go_sem,RR,f6,Y];refine hK v' _ H' ?_ H ?_
   ·unfold RQ;exact Lq
   ·rw[xO,←hD];congr 2;have e:val (a.drop z)/4294967296^P.length=t%4294967296+4294967296*(t/4294967296+4294967296*(val (a.drop z)/4294967296^P.length/(4294967296*4294967296))):=by have:=Nat.mod_add_div (val (a.drop z)/4294967296^P.length) (4294967296*4294967296);rw[ε]at this;have h2:=Nat.mod_add_div t 4294967296;rw[awW,←ayY,h2,←axI];exact this.symm
    have:=VS R e;rw[this];congr 2;have h2:=Nat.mod_add_div t 4294967296;omega
  simp only[aD.wp,go_sem]at fin;simp only[go_sem,u,Iy,β,ex,Iz,Y];by_cases U:z+Z' P+1<Z' a
  ·have w:((z+Z' P+1:Nat):Int)<(Z' a:Nat):=Om;have ζ:=J _ (awS U);have M:=bS a U;rw[ayS U]at d;generalize hy:a[z+Z' P+1]=y at *
   have ey:IntKind.u64.wrap ((y:Nat):Int)=((y:Nat):Int):=bE Om;have A:shift .shl .u64 (y:Int) ((32:Nat):Int)=some (.int .u64 ((2^32*y:Nat):Int)):=LL aV Om;have X:=orI (a:=x) (b:=2^32*y) (n:=x+2^32*y) Om Om (G1 Om Om) Om;simp only[go_sem,w,I0,Y,M,ey,show shift .shl .u64 (y:Int) 32=_ from A,X];refine fin (x+2^32*y) _ Om ?_ rfl rfl rfl rfl rfl _ ?_
   ·rw[←O,d];simp only[val];omega
   ·intro v' Q H2 V e2 W;refine aP (α:=List Nat × PV × PH) (P++[(x+2^32*y)/2^s%4294967296],v',H2) ⟨by simp;omega,by simpa using W,e2⟩ (by simp;omega) ?_ b_;simp only[awQ,awV];exact V
  ·have w:¬((z+Z' P+1:Nat):Int)<(Z' a:Nat):=Om;rw[aAE (l:=a) (i:=z+Z' P+1) Om]at d;simp only[go_sem,w];refine fin x _ Om ?_ rfl rfl rfl rfl rfl _ ?_
   ·rw[←O,d];simp only[val];omega
   ·intro v' Q H2 V e2 W;refine aP (α:=List Nat × PV × PH) (P++[x/2^s%4294967296],v',H2) ⟨by simp;omega,by simpa using W,e2⟩ (by simp;omega) ?_ b_;simp only[awQ,awV];exact V
 ·have e:z+Z' P=Z' a:=Om;have u:¬((z+Z' P:Nat):Int)<(Z' a:Nat):=Om;have hV:val P=val (a.drop z)/2^s:=by rw[hD];refine qC (Nat.lt_of_le_of_lt (azO _ _) ?_);have:=fQ E;rw[ayL]at this;rw[show P.length=Z' a-z by omega];exact this
  have R:=L.trim _ B Om;rw[hV,←hR]at R;simp only[go_sem,u,vk];refine wB R Z rfl λF1 H1 _=>?_;simp only[go_sem];exact bF (.inr rfl) .nil rfl a_ ⟨.refl _,rfl⟩
structure NG(C:Ctx):Prop extends W4 C where
 bits:∀xs,Lim xs→Z' xs≤35184372087808→aJ C 31 [aI xs] .nil (aQ (.int .i64 (cS (val xs):Nat)))
 upM:∀(a:List Nat)(n:Nat),Lim a→Z' a≤8388608→n≤8388608→(Z' a=0→val a=0)→aJ C 45 [aI a,.int .i64 n] .nil (qF 1 (aG (aK (val a*2^n))))
 down:∀(a:List Nat)(n:Nat),Lim a→Z' a≤8388608→n≤1000000000→aJ C 40 [aI a,.int .i64 n] .nil (aQ (aI (aK (val a/2^n))))
def udS:Spec:=λname vs=>match name,vs with
 |35,[.int _ v]=>some ([],λ_=>aQ (aI (aK v.toNat)))
 |44,[x,y]=>some ([],λ_=>aQ (aI (aK (val (mX x)*val (mX y)))))
 |32,[x,.osl q _ _ _]=>some ([q],λd r H'=>H'=d∧∀xs,Lim xs→d q=some (.rows 1 (aG xs))→r=.int .i64 (eT (val (mX x)) (val xs)))
 |_,_=>none
theorem afS(v:Nat):udS 35 [.int .u64 v]=some ([],λ_=>aQ (aI (aK v))):=rfl
theorem aaB(x y:List Nat):udS 44 [aI x,aI y]=some ([],λ_=>aQ (aI (aK (val x*val y)))):=by
 show some ([],λ_=>aQ (aI (aK (val (mX (aI x))*val (mX (aI y))))))=_;rw[fV,fV]
theorem abP(q:Nat)(x L:List Nat):(PH.nil.set q (.rows 1 (aG L)))=(PH.nil.set q (.rows 1 (aG L)))∧∀xs,Lim xs→(PH.nil.set q (.rows 1 (aG L))) q=some (.rows 1 (aG xs))→(PV.int .i64 (eT (val x) (val L)))=.int .i64 (eT (val (mX (aI x))) (val xs)):=by
 refine⟨rfl,λxs d e=>?_⟩;rw[dA]at e;have:aG L=aG xs:=(aR.rows.inj (axZ.inj e)).2;rw[QD this,fV]
def duF(n o e:Nat)(y:List Nat)(top i d:Nat)(k:Int):PF:=
 ((((((PF.nil.set 10 (.int .i64 n)).set 11 (.osl o 1 0 e)).set 12 (aI y)).set 13 (.int .u64 top)).set 14 (.osl i 1 0 d)).set 15 (.int .i64 k))
abbrev eK(X:List Nat)(Z:List (List PV)):List (List PV):=aG X++Z
theorem MP{X:List Nat}{Z:List (List PV)}{i:Nat}(h:i<Z' X):(eK X Z)[i]?=some [.int .u32 ((X[i]:Nat):Int)]:=by
 rw[eK,azD (by rw[cD];exact h),bS X h]
theorem wk{X:List Nat}{Z:List (List PV)}{i:Nat}(h:i<Z' X)(v:Nat):(eK X Z).set i [.int .u32 (v:Int)]=eK (X.set i v) Z:=by
 rw[eK,List.set_append_left _ _ (by rw[cD];exact h),gQ]
theorem wj{X:List Nat}{Z:List (List PV)}{j m:Nat}(h:j+m≤Z' X):((eK X Z).drop j).take m=aG ((X.drop j).take m):=by
 rw[eK,List.drop_append_of_le_length (by rw[cD];omega),List.take_append_of_le_length (by rw[ayL,cD];omega)];unfold aG;rw[←List.map_drop,←azM]
theorem amW{C:Ctx}(L:NG C)(n o p:Nat)(y:List Nat)(top l S j:Nat)(X:List Nat)(Z:List (List PV))(Q:l≠o)(hy:Lim y)(hX:Lim X)(γ:Z' X=p)(hl:p≤5000)(hj:j+(Z' y+1)≤p)(B:0<val y)
  (Y:aR) (g0:Nat) (hg:val ((X.drop j).take (Z' y+1))/val y≤g0) (O:g0<4294967296) (K:cJ) (F:PF) (H:PH) (hF:((duF n o p y top l S j).set 17 (.int .u64 g0)).le F) (hH:((PH.nil.set o (.rows 1 (eK X Z))).set l Y).le H)
  (hK:∀F' H',((duF n o p y top l S j).set 17 (.int .u64 (val ((X.drop j).take (Z' y+1))/val y:Nat))).le F'→((PH.nil.set o (.rows 1 (eK X Z))).set l Y).le H'→K .normal F' H') :
  aD.wp C (.block 4 (.loop xF)) K F H:=by
 have d:¬o=l:=λh=>Q h.symm;have e:((X.drop j).take (Z' y+1)).length=Z' y+1:=by rw[axC,ayL];omega
 have u:Lim ((X.drop j).take (Z' y+1)):=(hX.drop _).take _;have w:=wj (X:=X) (Z:=Z) (j:=j) (m:=Z' y+1) Om;have x:j+(Z' y+1)≤(eK X Z).length:=by rw[eK,awQ,cD];omega
 have M:aG ((X.drop j).take (Z' y+1))≠[]:=λh=>by have:=congrArg List.length h;rw[cD,e]at this;simp at this
 generalize hW:(X.drop j).take (Z' y+1)=W at *
 generalize A:val W/val y=J at *
 simp only[go_sem];refine wp_loop (α:=Nat) (λg=>(duF n o p y top l S j).set 17 (.int .u64 g)) (λ_=>(PH.nil.set o (.rows 1 (eK X Z))).set l Y) (λg=>J≤g∧g<4294967296) (λg=>g) g0 ⟨hg,O⟩ hF hH ?_;rintro g ⟨β,hlt⟩;have e1:IntKind.i64.wrap ((j:Int)+(Z' y:Int))=((j+Z' y:Nat):Int):=jC Om;have e2:IntKind.i64.wrap (((j+Z' y:Nat):Int)+1)=((j+Z' y+1:Nat):Int):=dT Om;have b1:(j:Int)≤((j+Z' y+1:Nat):Int):=Om;have b2:((j+Z' y+1:Nat):Int)≤(p:Nat):=Om;have b3:j+Z' y+1-j=Z' y+1:=Om;have mk:=L.make g Om;have tm:=L.times y (aK g) hy (bG _) Om (by have E:nl g≤1:=qV (by rw[Nat.pow_one];exact hlt);rw[bP];omega)
 rw[bB]at tm;have R:(aK (val y*g)).length≤35184372087808:=by have E:nl g≤1:=qV (by rw[Nat.pow_one];exact hlt);have h2:=xY (a:=val y) (b:=g) (gP hy) E;rw[bP];omega
 have cm:=L.cmp (aK (val y*g)) W (bG _) u R Om;rw[bB]at cm;simp only[go_sem,xF];refine dH .nil udS a_ ?_;simp only[go_sem,WD,duF];refine eI (afS g) mk Sq a_ ?_;simp only[go_sem];have tS:=aaB y (aK g);rw[bB]at tS;refine eI tS tm Sq a_ ?_;simp only[go_sem,awL,e1,e2,b1,b2,b3];refine wA (src:=aG W) ?_ ?_ (λh=>absurd h M) λ_ o' i=>?_
 ·simp only[go_sem,d,x,w]
 ·unfold roomFor;rw[cD,e];simp only[maxLen];omega
 refine⟨a_,?_⟩;rw[cD,e];have n1:¬o'=l:=(iW.1 i).1;refine abX (o:=o') (s:=1) (rs:=aG W) (vs:=[aI (aK (val y*g)),.osl o' 1 0 (Z' y+1)]) (v:=.int .i64 (eT (val y*g) (val W))) rfl (.int _ _) Sq ?_ ?_ ?_ Sq a_ ?_
 ·rw[axL,axL,ayI,AE (by rw[cD,e];exact awP _),axE (by rw[cD,e];exact awP _)];exact cm
 ·have:=abP o' (aK (val y*g)) W;rw[bB]at this;exact this
 ·rintro r H' ⟨E,h2⟩;have:=h2 W u (by rw[dA]);rw[fV,bB]at this;exact⟨this,E⟩
 simp only[go_sem];by_cases c:val W<val y*g
 ·have N:eT (val y*g) (val W)=1:=by unfold eT;rw[aC Om,aF c]
  have hq:J<g:=by rw[←A];exact(azR B).2 (by rw[axM];exact c)
  have ew:IntKind.u64.wrap ((g:Int)-1)=((g-1:Nat):Int):=by rw[wrap_u64 Om Om];omega
  simp only[go_sem,N,show(1:Int)>0 by decide,WE,ew];refine aP (g-1) ⟨by omega,by omega⟩ Om ?_ ?_
  ·exact Lq
  ·refine PH.aN (PH.aN a_ ?_) ?_
   ·have U:¬o=o':=λh=>by subst h;rw[aU,aC d,dA]at i;cases i
    simp only[go_sem,U,d]
   ·have V:¬l=o':=λh=>n1 h.symm;simp only[go_sem,V]
 ·have N:¬eT (val y*g) (val W)>0:=by unfold eT;rw[aC c];split<;>decide
  have hq:g=J:=by
   have:g≤J:=by rw[←A];exact(Nat.le_div_iff_mul_le B).2 (by rw[axM];omega)
   omega
  simp only[go_sem,N];refine hK _ _ ?_ ?_
  ·unfold duF
   (repeat' (first|exact d_|refine c_ ?_ ?_))<;>first|(simp only[go_sem,←hq]<;>rfl)|rfl
  ·refine PH.aN (PH.aN a_ ?_) ?_
   ·have U:¬o=o':=λh=>by subst h;rw[aU,aC d,dA]at i;cases i
    simp only[go_sem,U,d]
   ·have V:¬l=o':=λh=>n1 h.symm;simp only[go_sem,V]
theorem ajC(R k:Nat)(h:k<nl R):∃l:k<(aK R).length,(aK R)[k]=R/4294967296^k%4294967296:=by
 have d:k<(aK R).length:=by rw[bP];exact h
 refine⟨d,?_⟩;have e:=wV (bG R) (Nat.le_of_lt d);rw[bB,ayS d]at e;have i:=bG R _ (awS d);simp only[val]at e;rw[←e,Nat.add_mul_mod_self_left,axW i]
theorem adM(R k:Nat)(h:nl R≤k):R/4294967296^k%4294967296=0:=by
 rw[aAB ((kC R k).1 h)]
theorem akF{A P W Z:List Nat}{i:Nat}(d:Z' P=i)(hi:i<Z' W)(v:Nat):(A++(P++W.drop i)++Z).set (Z' A+i) v=A++((P++[v])++W.drop (i+1))++Z:=
 QD (by rw[←gQ];exact GX d hi v)
theorem apM{C:Ctx}(n o x:Nat)(y:List Nat)(top u S j:Nat)(X:List Nat)(Z:List (List PV))(E:u≠o)(O:Z' X=x)(hl:x≤5000)(hj:j+(Z' y+1)≤x)
  (U:aR) (g R:Nat) (K:cJ) (F:PF) (H:PH) (hF:((((duF n o x y top u S j).set 17 (.int .u64 g)).set 18 (aI (aK R))).set 19 (.int .i64 0)).le F) (hH:((PH.nil.set o (.rows 1 (eK X Z))).set u U).le H)
  (hK:∀V H',((duF n o x y top u S j).set 17 (.int .u64 g)).le V→((PH.nil.set o (.rows 1 (eK (X.take j++eG (Z' y+1) R++X.drop (j+(Z' y+1))) Z))).set u U).le H'→K .normal V H') :
  aD.wp C (.block 6 (.loop xG)) K F H:=by
 have l:¬o=u:=λh=>E h.symm;have hA:(X.take j).length=j:=by rw[axC];omega
 have ε:((X.drop j).take (Z' y+1)).length=Z' y+1:=by rw[axC,ayL];omega
 have θ:(X.drop (j+(Z' y+1))).length=x-(j+(Z' y+1)):=by rw[ayL,O]
 have w:X.take j++(X.drop j).take (Z' y+1)++X.drop (j+(Z' y+1))=X:=by rw[axX,←List.drop_drop,azN,azN]
 rw[←w]at hH;generalize γ:X.take j=A at *
 generalize δ:(X.drop j).take (Z' y+1)=W at *
 generalize η:X.drop (j+(Z' y+1))=p at *
 simp only[go_sem];refine wp_loop (α:=List Nat) (λP=>(((duF n o x y top u S j).set 17 (.int .u64 g)).set 18 (aI (aK R))).set 19 (.int .i64 P.length)) (λP=>(PH.nil.set o (.rows 1 (eK (A++(P++W.drop P.length)++p) Z))).set u U)
  (λP=>Z' P≤Z' y+1∧P=eG P.length R) (λP=>Z' y+1-Z' P) [] ⟨axB _,rfl⟩ hF (by simpa using hH) ?_
 rintro P ⟨hP,hD⟩;simp only[go_sem,xG,WF,duF];by_cases c:Z' P<Z' y+1
 ·have M:(Z' P:Int)≤(Z' y:Nat):=Om;have Y:IntKind.i64.wrap ((j:Int)+(Z' P:Int))=((j+Z' P:Nat):Int):=jC Om;have β:(A++(P++W.drop P.length)++p).length=x:=by simp only[awQ,ayL];omega
  have hi:j+Z' P<(A++(P++W.drop P.length)++p).length:=Om;have b1:((j+Z' P:Nat):Int)<(x:Nat):=Om;have r1:=MP (Z:=Z) hi;have s1:=wk (Z:=Z) hi 0;have J:j+Z' P<((A++(P++W.drop P.length)++p).set (j+Z' P) 0).length:=by rw[ayM];exact hi
  have d:=λv=>akF (A:=A) (P:=P) (W:=W) (Z:=p) (i:=Z' P) rfl Om v;rw[hA]at d;generalize ζ:A++(P++W.drop P.length)++p=XX at *
  have r2:(eK (A++((P++[0])++W.drop (Z' P+1))++p) Z)[j+Z' P]?=some [.int .u32 ((0:Nat):Int)]:=by rw[←d 0,MP J,List.getElem_set_self]
  have s2:∀v,(eK (A++((P++[0])++W.drop (Z' P+1))++p) Z).set (j+Z' P) [.int .u32 ((v:Nat):Int)]=eK (A++((P++[v])++W.drop (Z' P+1))++p) Z:=by intro v;rw[←d 0,wk J,List.set_set,d]
  have avW:=xO P.length R;rw[←hD]at avW;have ew:IntKind.i64.wrap ((Z' P:Int)+1)=((Z' P+1:Nat):Int):=dT Om;simp only[go_sem,M,WG,Y,b1,l,r1,show([PV.int .u32 (0:Int)])=[PV.int .u32 ((0:Nat):Int)]from rfl,s1,WH,bP];by_cases c2:Z' P<nl R
  ·have B:(Z' P:Int)<(nl R:Nat):=Om;obtain⟨N,Q⟩:=ajC R P.length c2;have hr:=bS (aK R) N;rw[Q]at hr;simp only[go_sem,B,WI,hr,Y,b1,l,r2,s2,List.set_set,d,FS,ew];refine aP (P++[R/4294967296^P.length%4294967296]) ⟨by simp;omega,by rw[awQ,awV];exact avW.symm⟩ (by simp;omega) ?_ ?_
   ·rw[awQ,awV];exact Lq
   ·rw[awQ,awV];refine PH.aN (PH.aN a_ ?_) ?_<;>simp only[go_sem,l,show ¬u=o from E]
  ·have B:¬(Z' P:Int)<(nl R:Nat):=Om;have Q:=adM R P.length Om;rw[Q]at avW;simp only[go_sem,B,d,FS,ew];refine aP (P++[0]) ⟨by simp;omega,by rw[awQ,awV];exact avW.symm⟩ (by simp;omega) ?_ ?_
   ·rw[awQ,awV];exact Lq
   ·rw[awQ,awV];refine PH.aN (PH.aN a_ ?_) ?_<;>simp only[go_sem,l,show ¬u=o from E]
 ·have M:¬(Z' P:Int)≤(Z' y:Nat):=Om;have e:Z' P=Z' y+1:=Om;simp only[go_sem,M];refine hK _ _ (by unfold duF;exact Lq) ?_;have h2:A++eG (Z' y+1) R++p=A++(P++W.drop P.length)++p:=by rw[aAE Om,ayO,←e,←hD]
  rw[h2];exact b_
theorem adB{y W:List Nat}{m:Nat}(A:Lim y)(hW:Lim W)(w:Z' y=m+1)(u:Z' W=m+2)(x:0<y[m]):val W/val y≤(4294967296*W[m+1]+W[m])/y[m]:=by
 have p:=cF y (Om:m<Z' y);rw[axE Om]at p;have i:=cF W (Om:m+1<Z' W);rw[axE Om,cF W (Om:m<Z' W)]at i;have l:=fQ (hW.take m);rw[axC,ayZ Om]at l;have hp:0<4294967296^m:=azJ aV;have hb:4294967296^m*y[m]≤val y:=Om;have d:0<4294967296^m*y[m]:=Nat.mul_pos hp x;have e:val W=val (W.take m)+4294967296^m*(4294967296*W[m+1]+W[m]):=by rw[i,ayH,awW,axI];omega
 refine axT (Nat.div_le_div_left hb d) ?_;rw[←Nat.div_div_eq_div_mul,e,Nat.add_mul_div_left _ _ hp,aAB l,axJ];exact awP _
theorem aaC{C:Ctx}(L:NG C)(U0 n o i d e m:Nat)(y z:List Nat)(N:e≠o)(hy:Lim y)(E:Z' y=m+1)(ht:0<y[m])(d':i=d+(m+1))(R:i≤5000)(X:List Nat)(B:qM U0 (val y) (m+1) i d d X (awO d 0))(K:cJ)(F:PF)(H:PH)
  (hF:(duF n o i y (y[m]) e d ((d:Int)-1)).le F) (hH:((PH.nil.set o (.rows 1 (eK X (aG z)))).set e (.rows 1 (aG (awO d 0)))).le H)
  (hK:∀X' Q' F' H',qM U0 (val y) (m+1) i d 0 X' Q'→(duF n o i y (y[m]) e d (-1)).le F'→((PH.nil.set o (.rows 1 (eK X' (aG z)))).set e (.rows 1 (aG Q'))).le H'→K .normal F' H') :
  aD.wp C (.block 2 (.loop xH)) K F H:=by
 have l:¬o=e:=λh=>N h.symm;have m':¬e=o:=N;have hV:val y<4294967296^(m+1):=by have:=fQ hy;rw[E]at this;exact this
 have κ:0<val y:=by have h1:=cF y (Om:m<Z' y);rw[axE Om]at h1;have:0<4294967296^m*y[m]:=Nat.mul_pos (azJ aV) ht;omega
 have s':=hy _ (awS (Om:m<Z' y));generalize htop:y[m]=top at *
 simp only[go_sem];refine wp_loop (α:=Nat × List Nat × List Nat) (λt=>duF n o i y top e d ((t.1:Int)-1)) (λt=>(PH.nil.set o (.rows 1 (eK t.2.1 (aG z)))).set e (.rows 1 (aG t.2.2)))
  (λt=>t.1≤d∧qM U0 (val y) (m+1) i d t.1 t.2.1 t.2.2) (λt=>t.1) (d,X,awO d 0) ⟨awP _,B⟩ hF hH ?_
 rintro⟨k,X,Q⟩ ⟨hk,B⟩;simp only at hk B;simp only[go_sem,xH,VY,duF];by_cases h0:0<k
 ·obtain⟨j,rfl⟩:∃j,k=j+1:=⟨k-1,by omega⟩;have hz:((j+1:Nat):Int)-1=(j:Int):=Om;have Ω:(j:Int)≥0:=Om;have dst:=Ac B hV Om d';rw[show m+1+1=m+2 from rfl]at dst;obtain⟨hlt,Γ⟩:=dst;have μ:=B.lu';have n':=B.lq';have M:((X.drop j).take (m+2)).length=m+2:=by rw[axC,ayL];omega
  have Y:Lim ((X.drop j).take (m+2)):=(B.limU.drop _).take _;have q':m+1<((X.drop j).take (m+2)).length:=Om;have p':m<((X.drop j).take (m+2)).length:=Om;have a1:j+(m+1)<Z' X:=Om;have a0:j+m<Z' X:=Om;have w1:((X.drop j).take (m+2))[m+1]=X[j+(m+1)]:=by simp
  have w0:((X.drop j).take (m+2))[m]=X[j+m]:=by simp
  have ξ:=adB hy Y E M (by rw[htop];exact ht);rw[w1,w0,htop]at ξ;have r1:=MP (Z:=aG z) a1;have r0:=MP (Z:=aG z) a0;have l1:=B.limU _ (awS a1);have l0:=B.limU _ (awS a0);generalize u':X[j+(m+1)]=w at *
  generalize t':X[j+m]=A at *
  have e1:IntKind.i64.wrap ((j:Int)+(Z' y:Int))=((j+(m+1):Nat):Int):=by rw[E];exact jC Om
  have e0:IntKind.i64.wrap (((j+(m+1):Nat):Int)-1)=((j+m:Nat):Int):=by rw[wrap_i64 Om Om];omega
  have b1:((j+(m+1):Nat):Int)<(i:Nat):=Om;have b0:((j+m:Nat):Int)<(i:Nat):=Om;have ψ:IntKind.u64.wrap ((w:Nat):Int)=((w:Nat):Int):=bE Om;have χ:IntKind.u64.wrap ((A:Nat):Int)=((A:Nat):Int):=bE Om;have ε:shift .shl .u64 (w:Int) 32=some (.int .u64 ((2^32*w:Nat):Int)):=LL (s:=32) Om Om;have φ:(2:Nat)^32=4294967296:=by decide
  have γ:=orI (a:=2^32*w) (b:=A) (n:=2^32*w+A) Om Om (Nat.two_pow_add_eq_or_of_lt Om w).symm Om;rw[φ]at ε γ;have Λ:¬((top:Nat):Int)=0:=Om;have σ:(4294967296*w+A)/top<18446744073709551616:=Nat.lt_of_le_of_lt (azO _ _) Om;have δ:IntKind.u64.wrap (Int.tdiv ((4294967296*w+A:Nat):Int) ((top:Nat):Int))=(((4294967296*w+A)/top:Nat):Int):=by rw[show Int.tdiv ((4294967296*w+A:Nat):Int) ((top:Nat):Int)=(((4294967296*w+A)/top:Nat):Int)from rfl];exact bE σ
  have τ:val ((X.drop j).take (m+2))/val y<4294967296:=(azR κ).2 (by rw[axM];exact hlt);have ν:=wj (X:=X) (Z:=aG z) (j:=j) (m:=m+2) Om;have ο:j+(m+2)≤(eK X (aG z)).length:=by rw[eK,awQ,cD];omega
  have β:val ((X.drop j).take (m+2))-val y*(val ((X.drop j).take (m+2))/val y)=val ((X.drop j).take (m+2))%val y:=by have:=aAA (val ((X.drop j).take (m+2))) (val y);omega
  have x:val y*(val ((X.drop j).take (m+2))/val y)≤val ((X.drop j).take (m+2)):=Nat.mul_div_le _ _;clear w1 w0;have gu:=λg0=>amW (C:=C) L n o i y top e d j X (aG z) N hy B.limU μ R Om κ (.rows 1 (aG Q)) g0;rw[E,show m+1+1=m+2 from rfl]at gu;generalize hW:(X.drop j).take (m+2)=W at *
  generalize r':val W/val y=J at *
  have Δ:aG W≠[]:=λh=>by have:=congrArg List.length h;rw[cD,M]at this;simp at this
  have tail:∀(g0:Nat)(F:PF)(H:PH),J≤g0→g0<4294967296→((duF n o i y top e d j).set 17 (.int .u64 g0)).le F→((PH.nil.set o (.rows 1 (eK X (aG z)))).set e (.rows 1 (aG Q))).le H →
    aD.wp C (.seq (.block 4 (.loop xF)) (.seq (.region FP) (.seq (.seq (.region FQ) (.block 6 (.loop xG))) (.region FT)))) (gU 3 (jT C (aD.wp C (.region FU)) (lO (λ(t:Nat × List Nat × List Nat)=>duF n o i y top e d ((t.1:Int)-1)) (λt=>(PH.nil.set o (.rows 1 (eK t.2.1 (aG z)))).set e (.rows 1 (aG t.2.2))) (λt=>t.1≤d∧qM U0 (val y) (m+1) i d t.1 t.2.1 t.2.2) (λt=>t.1) (j+1) (gU 2 K)))) F H:=by
   intro g0 F H hg Ψ hF hH;have gu:=gu g0 hg Ψ;simp only[go_sem]at gu;simp only[go_sem];refine gu _ F H hF hH ?_;intro S H1 p θ;have f11:S 11=some (.osl o 1 0 i):=p 11 _ (by unfold duF;simp only[go_sem]);have V:S 12=some (aI y):=p 12 _ (by unfold duF;simp only[go_sem]);have ζ:S 15=some (.int .i64 j):=p 15 _ (by unfold duF;simp only[go_sem]);have η:S 17=some (.int .u64 (J:Nat)):=p 17 _ (by unfold duF;simp only[go_sem]);have ω:S 10=some (.int .i64 n):=p 10 _ (by unfold duF;simp only[go_sem]);have f13:S 13=some (.int .u64 top):=p 13 _ (by unfold duF;simp only[go_sem]);have f14:S 14=some (.osl e 1 0 d):=p 14 _ (by unfold duF;simp only[go_sem]);have ho:H1 o=some (.rows 1 (eK X (aG z))):=θ o _ (by simp only[go_sem,l]);have ρ:H1 e=some (.rows 1 (aG Q)):=θ e _ Sq;have b3:(j:Int)≤((j+(m+1)+1:Nat):Int):=Om;have b4:((j+(m+1)+1:Nat):Int)≤(i:Nat):=Om;have b5:j+(m+1)+1-j=m+2:=Om;have e2:IntKind.i64.wrap (((j+(m+1):Nat):Int)+1)=((j+(m+1)+1:Nat):Int):=dT Om;simp only[go_sem,FP,f11,ζ,V,awL,e1,e2,b3,b4,b5];refine wA (src:=aG W) ?_ ?_ (λh=>absurd h Δ) λ_ o' O=>?_
   ·simp only[go_sem,ho,ο,ν]
   ·unfold roomFor;rw[cD,M];simp only[maxLen];omega
   rw[cD,M];have n1:¬e=o':=λh=>by subst h;rw[ρ]at O;cases O
   have n2:¬o=o':=λh=>by subst h;rw[ho]at O;cases O
   have nq:nl J≤1:=qV (by rw[Nat.pow_one];exact τ);have tm:=L.times y (aK J) hy (bG _) Om (by rw[bP];omega);rw[bB]at tm;have nW:=gP Y;have mn:=L.minus W (aK (val y*J)) Y (bG _) (by rw[bB];exact x) (by rw[bP];exact axT (kR x) nW) Om;rw[bB,β]at mn;have Θ:(aG W).take (m+2)=aG W:=axE (by rw[cD];omega);simp only[go_sem,η];refine aB (L.make J Om) Sq ?_;simp only[go_sem,V];refine aB tm Sq ?_;simp only[go_sem];refine sS (o:=o') (s:=1) (rs:=aG W) mn Sq (by simp only[go_sem,show m+2≤W.length by omega,Θ]) ?_;simp only[go_sem,FQ];have Φ:(eK X (aG z)).map (λr=>r.map (PV.dB o' 1 (aG W)))=eK X (aG z):=by
    have:eK X (aG z)=aG (X++z):=by simp[eK,aG]
    rw[this];exact tQ _ _ _ _
   have Ξ:(aG Q).map (λr=>r.map (PV.dB o' 1 (aG W)))=aG Q:=tQ _ _ _ _;have ur:=apM (C:=C) n o i y top e d j X (aG z) N μ R Om (.rows 1 (aG Q)) J (val W%val y);rw[E,show m+1+1=m+2 from rfl]at ur;simp only[go_sem]at ur;refine ur _ _ _ ?_ ?_ ?_
   ·unfold duF
    (repeat' (first|exact d_|refine c_ ?_ ?_))<;>first|(simp only[go_sem,ω,f11,V,f13,f14,ζ,η,n1,n2]<;>rfl)|rfl
   ·refine PH.aN (PH.aN a_ ?_) ?_
    ·simp only[go_sem,l,n2,ho,aR.frz,Φ]
    ·simp only[go_sem,n1,ρ,aR.frz,Ξ]
   intro U H3 u ι;have g':U 10=some (.int .i64 n):=u 10 _ (by unfold duF;simp only[go_sem]);have h':U 11=some (.osl o 1 0 i):=u 11 _ (by unfold duF;simp only[go_sem]);have i':U 12=some (aI y):=u 12 _ (by unfold duF;simp only[go_sem]);have j':U 13=some (.int .u64 top):=u 13 _ (by unfold duF;simp only[go_sem]);have υ:U 14=some (.osl e 1 0 d):=u 14 _ (by unfold duF;simp only[go_sem]);have k':U 15=some (.int .i64 j):=u 15 _ (by unfold duF;simp only[go_sem]);have l':U 17=some (.int .u64 J):=u 17 _ (by unfold duF;simp only[go_sem]);have e':H3 o=some (.rows 1 (eK (X.take j++eG (m+2) (val W%val y)++X.drop (j+(m+2))) (aG z))):=ι o _ (by simp only[go_sem,l]);have f':H3 e=some (.rows 1 (aG Q)):=ι e _ Sq;have b':j<Z' Q:=Om;have rq:=bS Q b';have a':(j:Int)<(d:Nat):=Om;have sq:=gQ Q j J;have ec:IntKind.u32.wrap ((J:Nat):Int)=((J:Nat):Int):=by rw[cN,axW τ]
   have ej:IntKind.i64.wrap ((j:Int)-1)=(j:Int)-1:=wrap_i64 Om Om;simp only[go_sem,FT,υ,k',l',a',f',rq,ec,sq,FU,ej];refine aP (α:=Nat × List Nat × List Nat) (j,_,_) ⟨by simp only;omega,Γ⟩ (by simp only;omega) ?_ ?_
   ·unfold duF
    (repeat' (first|exact d_|refine c_ ?_ ?_))<;>first|(simp only[go_sem,g',h',i',j',υ]<;>rfl)|rfl
   ·refine PH.aN (PH.aN a_ ?_) ?_
    ·simp only[go_sem,l,e']
    ·simp only[go_sem]
  simp only[aD.wp,go_sem]at tail;simp only[go_sem,hz,Ω];refine dH .nil gX a_ ?_;simp only[go_sem,VZ,e1,e0,b1,b0,l,r1,r0,ψ,χ,ε,γ,WA,Λ,δ,WB];by_cases c:(4294967296*w+A)/top>4294967295
  ·have c':(((4294967296*w+A)/top:Nat):Int)>4294967295:=Om;simp only[go_sem,c',WC];exact tail 4294967295 _ _ Om aV (by unfold duF;exact Lq) b_
  ·have c':¬(((4294967296*w+A)/top:Nat):Int)>4294967295:=Om;simp only[go_sem,c'];exact tail _ _ _ ξ Om (by unfold duF;exact Lq) b_
 ·have:k=0:=Om;subst this;have hz:¬((0:Nat):Int)-1≥0:=by decide
  simp only[go_sem,hz];refine hK X Q _ _ B ?_ b_;unfold duF
  (repeat' (first|exact d_|refine c_ ?_ ?_))<;>first|(simp only[go_sem,show((0:Nat):Int)-1=-1 from rfl]<;>rfl)|rfl
def afR(a:List Nat)(d q k r:Nat):PF:=(((((PF.nil.set 0 (aI a)).set 1 (aI [d])).set 6 (.osl q 1 0 a.length)).set 7 (.int .u64 r)).set 8 (.int .i64 ((k:Int)-1)))
theorem Wh{C:Ctx}(L:NG C)(a:List Nat)(d:Nat)(ha:Lim a)(l:0<d)(hd:d<4294967296)(h1:Z' a≤1000)(F:PF)(f0:F 0=some (aI a))(f1:F 1=some (aI [d])) :
  aD.wp C (.seq (.region LQ) (.seq (.region LS) (.seq (.seq (.region LW) (.block 0 (.loop FI))) (.seq (.region FJ) .ret)))) (bD [.tmp 4,.tmp 5] (cV (sD (val a) d))) F .nil:=by
 have X:(Z' a:Int)*((4:Nat):Int)≤140737488355328:=Om;have Y:(Z' a:Int)≤9223372036854775807:=Om;have hz:awO a.length [PV.int .u32 0]=aG (awO a.length 0++[]):=by simp[aG]
 simp only[go_sem,LQ,f0,awL,X,Y,hz];refine aW λo ho=>?_;simp only[go_sem,LS,LW,f0,awL];refine wp_loop (α:=Nat × List Nat × Nat) (λt=>afR a d o t.1 t.2.2) (λt=>PH.nil.set o (.rows 1 (aG (awO t.1 0++t.2.1))))
  (λt=>t.1+t.2.1.length=Z' a∧Lim t.2.1∧t.2.2<d∧val t.2.1*d+t.2.2=val (a.drop t.1)) (λt=>t.1) (Z' a,[],0) ⟨by simp,by simp[Lim],l,by simp[val]⟩ ?_ ?_ ?_
 ·unfold afR
  (repeat' (first|exact d_|refine c_ ?_ ?_))<;>first|(simp only[go_sem,f0,f1,wrap_i64 (Om:-9223372036854775808≤(Z' a:Int)-1) (Om:(Z' a:Int)-1≤9223372036854775807)]<;>rfl)|rfl
 ·exact PH.aN a_ Sq
 rintro⟨k,S,r⟩ ⟨hk,i,N,e⟩;simp only at hk i N e;simp only[go_sem,FI,j2,afR];by_cases h0:0<k
 ·obtain⟨m,rfl⟩:∃m,k=m+1:=⟨k-1,by omega⟩;have w:((m+1:Nat):Int)-1=(m:Int):=Om;have V:(m:Int)≥0:=Om;have u:m<Z' a:=Om;have hlt:(m:Int)<(Z' a:Nat):=Om;have β:=ha _ (awS u);have p:val (a.drop m)=a[m]+4294967296*val (a.drop (m+1)):=by rw[ayS u];rfl
  have R:=bS a u;generalize hx:a[m]=x at *
  have ex:IntKind.u64.wrap ((x:Nat):Int)=((x:Nat):Int):=bE Om;have ed:IntKind.u64.wrap ((d:Nat):Int)=((d:Nat):Int):=bE Om;have H:shift .shl .u64 (r:Int) 32=some (.int .u64 ((2^32*r:Nat):Int)):=LL (s:=32) Om Om;have O:(2:Nat)^32=4294967296:=by decide
  have A:=orI (a:=2^32*r) (b:=x) (n:=2^32*r+x) Om Om (Nat.two_pow_add_eq_or_of_lt Om r).symm Om;rw[O]at H A;have M:(4294967296*r+x)/d<4294967296:=by rw[azR l];have:4294967296*(r+1)≤4294967296*d:=azA _ N;omega
  have U:¬((d:Nat):Int)=0:=Om;have B:IntKind.u64.wrap (Int.tdiv ((4294967296*r+x:Nat):Int) ((d:Nat):Int))=(((4294967296*r+x)/d:Nat):Int):=by rw[show Int.tdiv ((4294967296*r+x:Nat):Int) ((d:Nat):Int)=(((4294967296*r+x)/d:Nat):Int)from rfl];exact bE Om
  have E:Int.tmod ((4294967296*r+x:Nat):Int) ((d:Nat):Int)=(((4294967296*r+x)%d:Nat):Int):=rfl;have ec:IntKind.u32.wrap (((4294967296*r+x)/d:Nat):Int)=(((4294967296*r+x)/d:Nat):Int):=by rw[cN,axW M]
  have J:awO (m+1) 0++S=awO m 0++(0::S):=by rw[List.replicate_succ',axX];rfl
  have W:(aG (awO m 0++(0::S)))[m]?=some [.int .u32 ((0:Nat):Int)]:=by rw[bS _ aY];simp
  have K:(aG (awO m 0++(0::S))).set m [.int .u32 (((4294967296*r+x)/d:Nat):Int)]=aG (awO m 0++(((4294967296*r+x)/d)::S)):=by rw[gQ,azT _ _ aY];simp
  simp only[go_sem,w,V,j3,H,R,ex,A,j4,ed,U,B,ec,hlt,J,W,K,VU,E,VV];refine aP (m,((4294967296*r+x)/d)::S,(4294967296*r+x)%d) ⟨by simp only[ayF];omega,λy hy=>?_,ayD _ l,?_⟩ (by simp only;omega) ?_ (PH.aN a_ Sq)
  ·rw[awT]at hy;rcases hy with rfl|hy
   ·exact M
   ·exact i y hy
  ·simp only[val];rw[p,←e,axR,awW,axI];have:=aAA (4294967296*r+x) d;rw[axM d]at this;omega
  ·(repeat' (first|exact d_|refine c_ ?_ ?_))<;>first|(simp only[go_sem,wrap_i64 (Om:-9223372036854775808≤(m:Int)-1) (Om:(m:Int)-1≤9223372036854775807)]<;>rfl)|rfl
 ·have:k=0:=Om;subst this;have w:¬((0:Nat):Int)-1≥0:=by decide
  rw[axU]at e;have hS:Z' S=Z' a:=Om;have M:val S=val a/d:=by rw[←e,axM,Nat.mul_add_div l,aAB N,ayT]
  have Z:r=val a%d:=by rw[←e,axM,Nat.mul_add_mod,axW N]
  have γ:awO 0 0++S=S:=by simp
  have hl:=L.trim S i Om;have Q:(aG S).take a.length=aG S:=axE (by rw[cD];omega);simp only[go_sem,w,FJ,List.nil_append];refine sS (o:=o) (s:=1) (rs:=aG S) hl Sq (by simp only[go_sem,Q,show a.length≤S.length by omega]) ?_;simp only[go_sem];refine aB (L.make r Om) Sq ?_;simp only[go_sem];refine bF (vs:=[aI (aK (val S)),aI (aK r)]) (.inr rfl) .nil Ev a_ ⟨?_,rfl⟩;rw[M,Z];exact .refl _
theorem ahH{B m:Nat}(h:nl B=m+1):32*m<cS B∧cS B≤32*(m+1):=by
 refine⟨?_,(zY B (m+1)).2 Om⟩;rcases axA (32*m) (cS B)with h1|h1
 ·exact h1
 ·have:=(zY B m).1 h1;omega
theorem ahI{B:Nat}(h:B≠0):2^(cS B-1)≤B:=by
 rcases axA B (2^(cS B-1))with h1|h1
 ·have d:=(nN B _).2 h1;have i:cS B≠0:=λe=>h (lG.1 e);omega
 ·exact h1
theorem Wi{C:Ctx}(L:NG C)(A B:Nat)(hB:B≠0)(hA:nl A≤512)(Φ:nl B≤512) :
  CA.wp C (bD oa.res (cV (sD A B))) (PF.args [aI (aK A),aI (aK B)]) .nil:=by
 have R:=bG A;have LB:=bG B;have vA:=bB A;have vB:=bB B;have lA:(aK A).length=nl A:=rfl;have lB:(aK B).length=nl B:=rfl;simp only[go_sem,CA,jw,jx,oa];refine aB (L.cmp _ _ R LB Om Om) rfl ?_;rw[vA,vB];by_cases c1:A<B
 ·have hc:eT A B<0:=by simp[eT,c1]
  simp only[go_sem,hc,jy];refine aB (L.trim _ R Om) rfl ?_;rw[vA];simp only[go_sem];refine bF (vs:=[.aH,aI (aK A)]) (.inr rfl) .nil rfl a_ ⟨?_,rfl⟩;rw[sD,aAB c1,axW c1,iD];exact CoL.tup (CoL.cons (.nil 1) (CoL.cons (.refl _) .nil))
 have hc:¬eT A B<0:=by unfold eT;rw[aC c1];split<;>decide
 have σ:0<B:=azI hB;have d':nl B≠0:=λh=>hB (mL.1 h);simp only[go_sem,hc,jz,awL,lB];by_cases c2:nl B=1
 ·have S:B<4294967296:=by have:=(kC B 1).1 Om;simpa using this
  have ψ:aK B=[B]:=pX hB S;have sh:=Wh (C:=C) L (aK A) B R σ S Om;rw[vA]at sh;simp only[aD.wp,go_sem]at sh;simp only[go_sem,cH (Om:((nl B:Nat):Int)=1)];exact sh _ rfl (by simp only[go_sem,ψ])
 obtain⟨m,hm⟩:∃m,nl B=m+1:=⟨nl B-1,by omega⟩;have c':1≤m:=Om;obtain⟨a',β⟩:=ahH hm;obtain⟨n,hn⟩:∃n,n+cS B=32*(m+1):=⟨32*(m+1)-cS B,by omega⟩;have δ:n<32:=Om;have K:0<2^n:=azJ aV;have V:B<2^cS B:=(nN B _).1 (awP _);have U:=ahI hB;have Y:B*2^n<4294967296^(m+1):=by have:B*2^n<2^cS B*2^n:=Nat.mul_lt_mul_of_pos_right V K;rw[←Nat.pow_add,show cS B+n=32*(m+1) by omega,Nat.pow_mul]at this;exact this
 have Λ:4294967296^m*2147483648≤B*2^n:=by have:2^(cS B-1)*2^n≤B*2^n:=axS _ U;rw[←Nat.pow_add,show cS B-1+n=32*m+31 by omega,Nat.pow_add,Nat.pow_mul]at this;exact this
 have nV:nl (B*2^n)=m+1:=by
  have E:=(kC (B*2^n) (m+1)).2 Y;rcases axA (nl (B*2^n)) (m+1)with h|h
  ·have:=(kC (B*2^n) m).1 Om;have Γ:0<4294967296^m:=azJ aV;omega
  ·omega
 have Ω:B*2^n≠0:=Nat.mul_ne_zero hB Om;have f':nl (A*2^n)≤nl A+1:=xY (awP _) (qV (by rw[Nat.pow_one];exact Nat.pow_lt_pow_right (a:=2) (m:=n) (n:=32) aV δ));have φ:B*2^n≤A*2^n:=axS _ Om;have g':m+1≤nl (A*2^n):=by rw[←nV];exact kR φ
 have Ψ:A*2^n≠0:=Om;have κ:IntKind.i64.wrap (32*((nl B:Nat):Int))=((32*(m+1):Nat):Int):=by rw[wrap_i64 Om Om];omega
 have en:IntKind.i64.wrap (((32*(m+1):Nat):Int)-((cS B:Nat):Int))=(n:Int):=by rw[wrap_i64 Om Om];omega
 have bt:=L.bits (aK B) LB Om;rw[vB]at bt;have ua:=L.upM (aK A) n R Om Om (λh=>by have:=fQ R;rw[h]at this;omega);have ub:=(L.upM (aK B) n LB Om Om (λh=>by have:=fQ LB;rw[h]at this;omega)).freeze;rw[vA]at ua;rw[vB]at ub;have tail:∀(o:Nat)(F:PF)(H:PH),F 0=some (aI (aK A))→F 1=some (aI (aK B))→F 10=some (.int .i64 n)→F 11=some (.osl o 1 0 (nl (A*2^n)+2))→F 12=some (aI (aK (B*2^n)))→H o=some (.rows 1 (aG (aK (A*2^n))++[[.int .u32 0],[.int .u32 0]])) →
   aD.wp C (.seq (.region FK) (.seq (.region FL) (.seq (.region FN) (.seq (.seq (.region FO) (.block 2 (.loop xH))) (.seq (.region FW) .ret))))) (bD [.tmp 4,.tmp 5] (cV (sD A B))) F H:=by
  intro o F H f0 f1 μ f11 ν hH;have LU:=bG (A*2^n);have LV:=bG (B*2^n);have vU:=bB (A*2^n);have vV:=bB (B*2^n);have lU:(aK (A*2^n)).length=nl (A*2^n):=rfl;have lV:(aK (B*2^n)).length=m+1:=nV;have eu:IntKind.i64.wrap (((nl (A*2^n):Nat):Int)+1)=((nl (A*2^n)+1:Nat):Int):=dT Om;have b1:((nl (A*2^n)+1:Nat):Int)≤((nl (A*2^n)+2:Nat):Int):=Om;simp only[go_sem,FK,f11,f0,μ];refine aB ua.freeze rfl ?_;obtain⟨d,b'⟩:∃d,nl (A*2^n)+1-(m+1)=d:=⟨_,rfl⟩;have ω:nl (A*2^n)+1=d+(m+1):=Om;have em:IntKind.i64.wrap (((m+1:Nat):Int)-1)=((m:Nat):Int):=by rw[wrap_i64 Om Om];omega
  have p:m<(aK (B*2^n)).length:=Om;have rm:=bS (aK (B*2^n)) p;have tl:=LV _ (awS p);have htop:0<(aK (B*2^n))[m]:=by
   have E:=cF (aK (B*2^n)) p;rw[axE Om,vV]at E;have h2:=fQ (LV.take m);rw[axC,ayZ Om]at h2;have Γ:0<4294967296^m:=azJ aV;rcases azE (aK (B*2^n))[m]with h|h
   ·rw[h]at E;omega
   ·exact h
  have ι:2147483648≤(aK (B*2^n))[m]:=by
   have E:=cF (aK (B*2^n)) p;rw[axE Om,vV]at E;have h2:=fQ (LV.take m);rw[axC,ayZ Om]at h2;rcases axA (aK (B*2^n))[m] 2147483648 with h|h
   ·exfalso;have h3:4294967296^m*((aK (B*2^n))[m]+1)≤4294967296^m*2147483648:=azA _ h;rw[awW,Nat.mul_one]at h3;omega
   ·exact h
  have w:=aaC (C:=C) L (A*2^n) n o (nl (A*2^n)+1) d;have hI:qM (A*2^n) (val (aK (B*2^n))) (m+1) (nl (A*2^n)+1) d d (aK (A*2^n)++[0]) (awO d 0):=by
   refine⟨by rw[awQ,lU];rfl,List.length_replicate,LU.app λx O=>by simp at O;omega,xU _,?_,?_,λi x _ O=>Jy O⟩
   ·rw[iR,vU,uE];simp[val]
   ·have Ξ:(aK (A*2^n)++[0]).length=nl (A*2^n)+1:=by rw[awQ,lU];rfl
    have Θ:val (aK (A*2^n)++[0])=A*2^n:=by rw[iR,vU];simp[val]
    rw[wV (LU.app λx O=>by simp at O;omega) Om,Θ,vV,azR (azJ aV)];have E:A*2^n<4294967296^nl (A*2^n):=(kC _ _).1 (awP _);have O:nl (A*2^n)=m+d:=Om;rw[O,Nat.pow_add]at E;have h2:4294967296^m*4294967296^d≤(B*2^n)*4294967296^d:=axS _ Om;omega
  have M:aG (aK (A*2^n))++[[PV.int .u32 0],[PV.int .u32 0]]=eK (aK (A*2^n)++[0]) (aG [0]):=by simp[eK,aG]
  rw[M]at hH;generalize θ:(aK (B*2^n))[m]=top at *
  have et:IntKind.u64.wrap ((top:Nat):Int)=((top:Nat):Int):=bE Om;have k2:IntKind.i64.wrap (((nl (A*2^n)+1:Nat):Int)-((m+1:Nat):Int))=((d:Nat):Int):=by rw[wrap_i64 Om Om];omega
  have k3:((d:Nat):Int)*((4:Nat):Int)≤140737488355328:=Om;have k4:((d:Nat):Int)≤9223372036854775807:=Om;have hz:awO d [PV.int .u32 0]=aG (awO d 0):=by simp[aG]
  have jq:IntKind.i64.wrap ((d:Int)-1)=(d:Int)-1:=wrap_i64 Om Om;simp only[go_sem,awL,lU,eu,b1,FL,ν,lV,em,rm,et,FN,k2,k3,k4,hz];refine aW λy η=>?_;have ε:y≠o:=by rintro rfl;rw[hH]at η;cases η
  have l:¬o=y:=λh=>ε h.symm;have u:=w y m (aK (B*2^n)) [0] ε LV lV (by rw[θ];exact htop) ω Om _ hI;rw[θ]at u;simp only[go_sem]at u;simp only[go_sem,FO,jq];refine u _ _ _ ?_ ?_ ?_
  ·unfold duF;exact Lq
  ·refine PH.aN (PH.aN a_ ?_) ?_
   ·simp only[go_sem,l,hH]
   ·simp only[go_sem]
  clear u w;intro X Q F1 H1 e J W;have ξ:F1 10=some (.int .i64 n):=J 10 _ (by unfold duF;simp only[go_sem]);have ο:F1 11=some (.osl o 1 0 (nl (A*2^n)+1)):=J 11 _ (by unfold duF;simp only[go_sem]);have ρ:F1 14=some (.osl y 1 0 d):=J 14 _ (by unfold duF;simp only[go_sem]);have ζ:H1 o=some (.rows 1 (eK X (aG [0]))):=W o _ (by simp only[go_sem,l]);have Δ:H1 y=some (.rows 1 (aG Q)):=W y _ Sq;have hu:val X<val (aK (B*2^n)):=by have:=e.r;rwa[axU]at this
  have N:=e.v;rw[vV]at hu N;have υ:val Q=A/B:=by
   have:A*2^n/(B*2^n)=val Q:=by rw[←N,Nat.add_mul_div_right _ _ Om,aAB hu,axJ]
   rw[←this,Nat.mul_div_mul_right _ _ K]
  have χ:val X/2^n=A%B:=by
   have:A*2^n%(B*2^n)=val X:=by rw[←N,Nat.add_mul_mod_self_right,axW hu]
   rw[←this,Nat.mul_mod_mul_right,Nat.mul_div_cancel _ K]
  have lX:=e.lu';have lQ:=e.lq';have τ:(aG Q).take d=aG Q:=axE (by rw[cD];omega);have α:(eK X (aG [0])).take (nl (A*2^n)+1)=aG X:=by rw[eK,List.take_append_of_le_length (by rw[cD];omega),axE (by rw[cD];omega)]
  have Z:nl (A*2^n)+1≤(eK X (aG [0])).length:=by rw[eK,awQ,cD];omega
  have γ:(eK X (aG [0])).map (λr=>r.map (PV.dB y 1 (aG Q)))=eK X (aG [0]):=by
   have:eK X (aG [0])=aG (X++[0]):=by simp[eK,aG]
   rw[this];exact tQ _ _ _ _
  have nX:=gP e.limU;have t1:=L.trim Q e.limQ Om;have t2:=L.trim X e.limU Om;have dn:=L.down (aK (val X)) n (bG _) (by rw[bP];omega) Om;rw[bB,χ]at dn;rw[υ]at t1;generalize aG [0]=Z0 at ζ α Z γ;simp only[go_sem,FW,ρ];refine sS (o:=y) (s:=1) (rs:=aG Q) t1 Δ (by simp only[go_sem,τ,show d≤Q.length by omega]) ?_;simp only[go_sem,ο,l];refine sS (o:=o) (s:=1) (rs:=eK X Z0) t2 (by simp only[go_sem,l,ζ,aR.frz,γ]) (by simp only[go_sem,α,Z]) ?_;simp only[go_sem,ξ];refine aB dn rfl ?_;simp only[go_sem];exact bF (vs:=[aI (aK (A/B)),aI (aK (A%B))]) (.inr rfl) .nil rfl a_ ⟨.refl _,rfl⟩
 simp only[aD.wp,go_sem]at tail;simp only[go_sem,bO (Om:¬((nl B:Nat):Int)=1),VW,awL,lB];refine aB bt rfl ?_;simp only[go_sem,κ,en,VX];refine oK ua rfl a_ λr H1 hr _=>?_;have β:(2:Nat)*1≤16777216:=by decide
 rcases hr with⟨h0,_⟩|⟨o,rs,rfl,rfl,hrl,hrt⟩
 ·exfalso;have:=congrArg List.length h0;rw[cD,bP]at this;simp at this;omega
 rw[PH.rA];rw[cD,bP]at hrl hrt;simp only[go_sem,β,cD,bP];refine Jv (src:=[[.int .u32 0],[.int .u32 0]]) (rs:=rs) rfl ?_ Sq hrl ?_ λo' e'=>?_
 ·unfold roomFor;simp only[maxLen,ayF,azB];omega
 ·rw[hrt];simp only[go_sem];refine aB ub rfl ?_;simp only[go_sem];exact tail o _ _ rfl rfl rfl rfl rfl Sq
 ·rw[hrt];simp only[go_sem];refine aB ub rfl ?_;simp only[go_sem];exact tail o' _ _ rfl rfl rfl rfl rfl Sq
def cK(C:Ctx)(k:Nat)(pf:bH):Prop:=∀(args:List PV)(H:PH)(R:PV→PH→Prop),Z' args≤pf.ntmps→pf.body.wp C (bD pf.res R) (PF.args args) H→aJ C k args H R
theorem cK.go{C:Ctx}{k:Nat}{pf:bH}(r:cK C k pf){args:List PV}{H:PH}{R:PV→PH→Prop}(h:pf.body.wp C (bD pf.res R) (PF.args args) H)(d:Nat.ble args.length pf.ntmps=true):aJ C k args H R:=r args H R (Nat.le_of_ble_eq_true d) h
abbrev yI(C:Ctx):Prop:=∀n:Nat,n<100→aJ C 195 [.int .i64 n] .nil (aQ (.str (cB n)))
end Go.PM
