/-
  Texts of ours, joined. No condition.
-/
import Derived.Test.YtkknafmijabgaaaGreatDoorFD1
import Derived.Test.YtkknafmijabgaaaGreatDoorFD2
import Derived.Lib.ItoaNum
set_option linter.unusedSimpArgs false
set_option linter.unusedVariables false
open Nat renaming reduceEqDiff→γ,reduceAdd→δ,reduceSub→ε,reduceMul→ζ,reduceLT→η,reduceLeDiff→θ,reduceBEq→τ
open Int renaming reduceLT→ι,reduceLE→κ,reduceEq→μ,reduceToNat→ν,reduceAdd→ξ,reduceNeg→ο,reduceBEq→ρ,reduceBNe→σ
open List renaming reduceReplicate→υ
open List renaming length_map→bfY,range→bfZ,replicate→bgA,length_append→bgB,getElem_mem→bgD,getD_eq_getElem?_getD→bgF,getElem?_eq_getElem→bgH,length_singleton→bgI,mem_cons→bgN,length_take→bgP,take_of_length_le→bgR,getElem?_map→bgT,mem_range→bgW,append_assoc→bgX,all_eq_true→bgY,not_mem_nil→bgZ,take_length→bhA,mem_map→bhC,getElem?_eq_some_iff→bhG,append_nil→bhH,mem_singleton→bhI,map_cons→bhJ,mem_append→bhK,map_append→bhM,drop_zero→bhP,getElem?_eq_none→bhQ,getElem_of_mem→bhV,take_succ_eq_append_getElem→bhW,mem_of_getElem?→bhX,getElem_map→bhY,getElem?_range→biH,map_congr_left→biI,Sublist→biK,drop_eq_getElem_cons→biL,length_nil→biM,range_succ→biO,map_nil→biS,Perm→biT,take_append_drop→biZ,nodup_append→bjA,map_map→bjF,nil_append→bjH,ext_getElem→bjN,cons_append→bjR,getElem?_set→bjT,set_append_right→bjU,drop_of_length_le→bkA,flatMap_append→bkB,sublist_append_left→bkD
open Nat renaming gcd→bgC,zero_le→bgE,le_refl→bgG,zero_add→bgL,mul_add→bgQ,lt_or_ge→bgV,mul_assoc→bhB,add_zero→bhL,mod_eq_of_lt→bhS,mod_lt→bhZ,eq_zero_or_pos→biC,pow_succ→biD,le_trans→biJ,min_eq_left→biP,pos_of_ne_zero→biX,mul_one→bjB
open Bool renaming not_true→bgJ,false_and→bgK,true_and→bgO,not_false→bgS,and_eq_true→bgU,and_false→bhO,and_true→biG,false_eq_true→bjE,and_assoc→bjM
open Option renaming map_some→bhD,getD_some→biE,some→biQ
open Array renaming getElem?_eq_some_iff→bkE
open Int renaming toNat_natCast→biR
open List renaming length→Z'
set_option maxRecDepth 100000
set_option maxHeartbeats 800000
noncomputable section
namespace Go.PM
open Go Go.Na
structure ya(C:Ctx):Prop extends Vc C where
 ends:∀l:dN,l.Ok→KK l→aI C 102 [.agg l.cells] .nil (aK (.bool (vO l)))
def zJ(l:dN)(i:Nat):Bool:=decide ((l.beP.getD i []).length=Z' l.start)&&(l.beP.getD i []).all eG&&!((l.beP.getD i []).map cC).getD i false
def DC(l:dN):Bool:=match tZ (l.start.map RF.v)with
 | .ok (n,a,b)=>decide (wJ n a b false 1 1=0)
 | .error _=>false
theorem avV(l:dN):pN l=(within l.start.length 1 4&&decide (Z' l.exit=Z' l.start)&&decide (Z' l.beP=Z' l.start)&&l.start.all eG&&l.exit.all eG&&(bfZ l.beP.length).all (zJ l)&&DC l&&vO l):=rfl
theorem akF{l:List FV}{e:Int}(h:tZ l=.error e):e≠0:=by
 have:∀(l:List FV)(b:FV)(e:Int),l.foldlM mE b=.error e→e≠0:=by
  intro l
  induction l with
  |nil=>intro b e h;cases h
  |cons x t w=>
   intro b e h;rw[List.foldlM_cons]at h;cases j:mE b x with
   |error u=>
    rw[j]at h;have:u=e:=by injection h
    subst this;obtain⟨E,a1,A⟩:=b;obtain⟨F,a2,B⟩:=x;simp only[mE]at j;split at j
    ·split at j
     ·rw[TR j];decide
     ·split at j
      ·rw[TR j];decide
      ·rw[TR j];decide
    ·injection j with j;subst j;decide
   |ok y=>rw[j]at h;exact w y e h
 exact this l _ e h
theorem aBX{l:List FV}{r:FV}(h:tZ l=.ok r):r.rf.Ok:=by
 have:∀(l:List FV)(b r:FV),b.rf.Ok→l.foldlM mE b=.ok r→r.rf.Ok:=by
  intro l
  induction l with
  |nil=>intro b r hb h;injection h with h;subst h;exact hb
  |cons x t j=>
   intro b r hb h;rw[List.foldlM_cons]at h;cases e:mE b x with
   |error u=>rw[e]at h;cases h
   |ok y=>rw[e]at h;exact j y r (Gp e) h
 refine this l _ r ⟨bC _,bC _,?_,?_⟩ h
 ·show(aM 0).length≤_;rw[kO];simp
 ·show(aM 1).length≤_;rw[vF aV aV];simp
theorem TS{neg:Bool}{a b:Nat}{r:FV}(hb:b≠0)(h:nB neg a b=.ok r):eJ r.2.1 r.2.2=true:=by
 unfold nB at h;split at h
 ·cases h
 ·rename_i u;injection h with h
  subst h;have e:bgC a b ∣ b:=Nat.gcd_dvd_right _ _;have j:b/bgC a b≠0:=by have:=Nat.div_pos (Nat.le_of_dvd (biX hb) e) (biX λh=>hb (Nat.gcd_eq_zero_iff.1 h).2);omega
  have l:=@pJ (b/bgC a b);simp only[eJ,bgU,decide_eq_true_eq];omega
theorem aFQ{x y r:FV}(h:mE x y=.ok r):eJ r.2.1 r.2.2=true:=by
 obtain⟨w,a1,l⟩:=x;obtain⟨A,a2,u⟩:=y;simp only[mE]at h;split at h
 ·rename_i j;rw[bgU]at j;have e:l*u≠0:=Nat.mul_ne_zero (kR.1 j.1).1 (kR.1 j.2).1;split at h
  ·exact TS e h
  ·split at h
   ·exact TS e h
   ·exact TS e h
 ·cases h
theorem aKQ:eJ 0 1=true:=by
 have:dZ 1=1:=by rw[vY aV,oN]
 simp[eJ,this,oN]
theorem Do{l:List FV}{r:FV}(h:tZ l=.ok r):eJ r.2.1 r.2.2=true:=by
 have:∀(l:List FV)(b r:FV),eJ b.2.1 b.2.2=true→l.foldlM mE b=.ok r→eJ r.2.1 r.2.2=true:=by
  intro l
  induction l with
  |nil=>intro b r hb h;injection h with h;subst h;exact hb
  |cons x t j=>
   intro b r hb h;rw[List.foldlM_cons]at h;cases e:mE b x with
   |error u=>rw[e]at h;cases h
   |ok y=>rw[e]at h;exact j y r (aFQ e) h
 exact this l _ r aKQ h
theorem aSZ:(⟨false,[],[]⟩:RF).Ok:=⟨λ_ h=>absurd h (bgZ),λ_ h=>absurd h (bgZ),show 0≤35184372087808 by decide,show 0≤35184372087808 by decide⟩
def aUJ(l:dN)(k:Nat):PF:=(((((PF.nil.set 1 (.bE l.cells)).set 3 (.int .i64 (Z' l.start:Nat))).set 45 (aJP l.beP)).set 46 (.int .i64 (Z' l.beP:Nat))).set 47 (.int .i64 k))
theorem aMY{C:Ctx}(L:ya C)(l:dN)(E:l.Ok)(he:KK l)(F:PF)(B:F 1=some (.bE l.cells)) :
  aC.wp C (.seq (.region r9) (.seq (.region SX) (.seq (.region SY) (.seq (.region CM) .ret)))) (aW [.tmp 2] (cT (.bool (DC l&&vO l)))) F .nil:=by
 simp only[go_sem,r9,B];refine aB (L.tot l.start E.start) rfl ?_;obtain⟨I,x,y,e,S⟩:=CI (tZ (l.start.map RF.v));have go:∀(z:RF)(e:Int),z.Ok→(e=0→(KP z.neg (val z.num) (val z.den) false 1 1=.tup [.int .i64 (wJ z.neg (val z.num) (val z.den) false 1 1),.int .i64 0])∧DC l=decide (wJ z.neg (val z.num) (val z.den) false 1 1=0))→(e≠0→DC l=false) →
   frV (tZ (l.start.map RF.v))=.tup [.agg z.cells,.int .i64 e] →
   wpOps C [⟨(some 69),.mv (.tmp 72),none⟩,⟨(some 73),.extract (.tmp 69) 0,none⟩,⟨(some 74),.extract (.tmp 69) 1,none⟩,⟨(some 6),.alloc [(.bool false),.aH,.aH],none⟩,⟨none,.store 3 (.tmp 6) (.tmp 73),none⟩,⟨(some 7),.mv (.tmp 74),none⟩]
    (aC.wp C (.seq (.region SX) (.seq (.region SY) (.seq (.region CM) .ret))) (aW [.tmp 2] (cT (.bool (DC l&&vO l))))) ((((F.set 70 (.bE [frs l.start,aJP l.beP,frs l.exit])).set 71 (frs l.start))).set 72 (.tup [.agg z.cells,.int .i64 e])) .nil:=by
  intro z e O J K _;simp only[go_sem];refine aQ λo6 M=>?_;simp only[go_sem,SX];refine aB (L.frac 1 1 aV aV) rfl ?_;rw[abM];simp only[go_sem,frV];refine aQ λo8 u=>?_;have R:o6≠o8:=by rintro rfl;simp only[aR,if_true]at u;cases u
  simp only[go_sem,SY,R];refine aB (L.ord z (FV.rf (false,1,1)) O aON) rfl ?_;rw[show val (FV.rf (false,1,1)).num=1 from aZ 1,show val (FV.rf (false,1,1)).den=1 from aZ 1,show(FV.rf (false,1,1)).neg=false from rfl];by_cases c:e=0
  ·obtain⟨g1,g2⟩:=J c;rw[g1,g2];by_cases d:wJ z.neg (val z.num) (val z.den) false 1 1=0
   ·simp only[go_sem,CM,bT c,bT d,B];refine aB (L.ends l E he) rfl ?_;simp only[go_sem];exact bM rfl (by rw[bX d,bgO])
   ·simp only[go_sem,CM,bT c,bD d];exact bM rfl (by rw[bV d,bgK])
  ·rw[K c];have:∃v w,KP z.neg (val z.num) (val z.den) false 1 1=.tup [.int .i64 v,.int .i64 w]:=by
    unfold KP;split
    ·exact⟨_,_,rfl⟩
    ·exact⟨_,_,rfl⟩
   obtain⟨v,w,A⟩:=this;rw[A];simp only[go_sem,CM,bD c];exact bM rfl rfl
 cases j:tZ (l.start.map RF.v)with
 |error e =>rw[j]at go;exact go ⟨false,[],[]⟩ e aSZ (λh=>absurd h (akF j)) (λ_=>by rw[DC,j]) rfl
 |ok r =>obtain⟨n,a,b⟩:=r;rw[j]at go;have N:=aBX j;refine go (FV.rf (n,a,b)) 0 N (λ_=>?_) (λh=>absurd rfl h) rfl;rw[show val (FV.rf (n,a,b)).num=a from aZ a,show val (FV.rf (n,a,b)).den=b from aZ b,show(FV.rf (n,a,b)).neg=n from rfl];refine⟨?_,by rw[DC,j]⟩;have A:eJ a b=true:=Do j;rw[KP,A,Sr];rfl
theorem a0Z{C:Ctx}(L:ya C)(l:dN)(A:l.Ok):ba.wp C (aW aTV.res (cT (.bool (pN l)))) (PF.args [.agg l.cells]) .nil:=by
 rw[avV];simp only[go_sem,ba,auP,auQ,aTV,auR,bfY];refine aB (L.inn l.start.length 1 4) rfl ?_;cases O:within l.start.length 1 4 with
 |false =>simp only[go_sem,bgS,HY];exact bM rfl (by simp only[bgK])
 |true=>
  obtain⟨W,X⟩:=within_iff.1 O;by_cases F:Z' l.exit=Z' l.start
  ·rw[bX F];by_cases I:Z' l.beP=Z' l.start
   ·rw[bX I];simp only[go_sem,bgJ,bfY,bR (Om:(Z' l.exit:Int)=(Z' l.start:Nat)),bR (Om:(Z' l.beP:Int)=(Z' l.start:Nat))];refine aB (L.aUN l.start A.start) rfl ?_;cases S:l.start.all eG with
    |false =>simp only[go_sem,bgS,HY];exact bM rfl (by simp only[bgK])
    |true=>
     simp only[go_sem,bgJ];refine aB (L.aUN l.exit A.exit) rfl ?_;cases U:l.exit.all eG with
     |false =>simp only[go_sem,bgS,HY];exact bM rfl (by simp only[bgK])
     |true=>
      simp only[go_sem,bgJ,auS,bfY];have y:∀k (h:k<Z' l.beP),zJ l k=(decide ((l.beP[k]).length=Z' l.start)&&(l.beP[k]).all eG&&!((l.beP[k]).map cC).getD k false):=by
       intro k h;have:l.beP.getD k []=l.beP[k]:=by simp[bgF,h]
       rw[zJ,this]
      refine wp_loop (α:=Nat) (λk=>aUJ l k) (λ_=>.nil) (λk=>k≤Z' l.beP∧yL (zJ l) k) (λk=>Z' l.beP-k) 0 ⟨bgE _,.zero⟩ ?_ a_ ?_
      ·unfold aUJ
       (repeat' (first|exact c_|refine d_ ?_ ?_))<;>first|(simp only[go_sem,bfY]<;>rfl)|rfl
      rintro k ⟨V,N⟩;simp only[go_sem,Zk,auT,aUJ];by_cases hlt:k<Z' l.beP
      ·have j:(k:Int)<(Z' l.beP:Nat):=Om;have E:(l.beP.map λr=>[frs r])[k]?=some [frs l.beP[k]]:=by simp[hlt]
       have e:=y k hlt;have w:=A.row l.beP[k] (bgD hlt);simp only[go_sem,j,auU,E,auV,bfY];by_cases J:(l.beP[k]).length=Z' l.start
       ·rw[bX J,bgO]at e;simp only[go_sem,bR (show(((l.beP[k]).length:Nat):Int)=(Z' l.start:Nat) by omega)];refine aB (L.aUN _ w) rfl ?_;cases K:(l.beP[k]).all eG with
        |false =>rw[K,bgK]at e;simp only[go_sem,bgS,ji];refine bM (b:=false) rfl ?_;have:(bfZ l.beP.length).all (zJ l)=false:=jL hlt e;rw[this];simp only[bgK,bhO]
        |true=>
         have x:k<(l.beP[k]).length:=Om;have R:((l.beP[k]).map RF.cells)[k]?=some ((l.beP[k])[k]).cells:=by simp[x]
         have B:((l.beP[k]).map cC).getD k false=cC (l.beP[k])[k]:=by simp[bgF,x]
         rw[K,bgO,B]at e;simp only[go_sem,bgJ,R];refine aB (L.wY _ (w.all _ (bgD x))) rfl ?_;cases M:cC (l.beP[k])[k]with
         |true =>rw[M]at e;simp only[go_sem,ji];refine bM (b:=false) rfl ?_;have:(bfZ l.beP.length).all (zJ l)=false:=jL hlt e;rw[this];simp only[bgK,bhO]
         |false =>rw[M]at e;simp only[go_sem,auW,wZz k];refine aG (k+1) ⟨hlt,N.step e⟩ Om ?_ a_;exact Lq
       ·simp only[bV J,bgK]at e;simp only[go_sem,cP (show(((l.beP[k]).length:Nat):Int)≠(Z' l.start:Nat) by omega),ji];refine bM (b:=false) rfl ?_;have:(bfZ l.beP.length).all (zJ l)=false:=jL hlt e;rw[this];simp only[bgK,bhO]
      ·have j:¬(k:Int)<(Z' l.beP:Nat):=Om;have:k=Z' l.beP:=Om;subst this;have u:(bfZ l.beP.length).all (zJ l)=true:=N;have he:KK l:=⟨by omega,by omega,λr E=>by obtain⟨i,hi,rfl⟩:=bhV E;have:=bgY.1 u i (bgW.2 hi);rw[y i hi]at this;simp only[bgU,decide_eq_true_eq]at this;omega⟩
       have tail:=aMY L l A he;simp only[aC.wp,go_sem]at tail;rw[u];simp only[go_sem,j,bgO,biG];exact tail _ rfl
   ·simp only[go_sem,bgJ,bfY,bR (Om:(Z' l.exit:Int)=(Z' l.start:Nat)),cP (Om:(Z' l.beP:Int)≠(Z' l.start:Nat)),HY];exact bM rfl (by rw[bV I];simp only[bgK,bhO])
  ·simp only[go_sem,bgJ,bfY,cP (Om:(Z' l.exit:Int)≠(Z' l.start:Nat)),HY];exact bM rfl (by rw[bV F];simp only[bgK,bhO])
structure qI(C:Ctx):Prop extends ya C where
 law:∀l:dN,l.Ok→aI C 95 [.agg l.cells] .nil (aK (.bool (pN l)))
 pol:∀(p:dV)(n:Nat),p.Ok→n≤4→aI C 112 [.agg p.cells,.int .i64 n] .nil (aK (.bool (oA n p)))
 beU:∀f:aD,f.Ok→aI C 111 [.agg f.cells] .nil (aK (.bool (uJ f)))
abbrev jT(l:List (List UInt8)):List (List PV):=l.map λs=>[PV.str s]
theorem EQ(l:List (List UInt8)){k:Nat}(h:k<Z' l):jT (l.take k)++[[.str l[k]]]=jT (l.take (k+1)):=by
 unfold jT;rw[bhW h,bhM];rfl
theorem AC{l:List (List UInt8)}(h:Z' l≤1000):roomFor (jT l).length 1 16:=by
 unfold roomFor jT;simp only[bfY,maxLen];omega
def nG{α:Type}(l:List α)(p:α→Bool)(k:Nat):Bool:=(l.take k).all p
theorem AO{α:Type}(l:List α)(p:α→Bool):nG l p 0=true:=rfl
theorem AN{α:Type}(l:List α)(p:α→Bool){k:Nat}(h:k<Z' l):nG l p (k+1)=(nG l p k&&p l[k]):=by
 unfold nG;rw[bhW h,List.all_append];simp
theorem DY{α:Type}(l:List α)(p:α→Bool):nG l p l.length=l.all p:=by unfold nG;rw[bhA]
def nK(f:aD)(e j l u w:PV)(ok:Bool):PF:=(((((((PF.nil.set 1 (.bE f.cells)).set 3 (e)).set 4 (j)).set 5 (l)).set 6 (u)).set 7 (w)).set 8 (.bool ok))
structure qP(F:PF)(f:aD)(w3 w4 w5 w6 w7:PV)(ok:Bool):Prop where
 a1:F 1=some (.bE f.cells)
 a3:F 3=some w3
 a4:F 4=some w4
 a5:F 5=some w5
 a6:F 6=some w6
 a7:F 7=some w7
 a8:F 8=some (.bool ok)
theorem aHJ{C:Ctx}(L:qI C)(f:aD)(S:f.Ok)(X:Z' f.beS≤4)(I J M N:PV)(K:cQ)(F:PF)(H:PH)(u:qP F f .aH I J M N true)
  (A:F 67=some (.sl 4 (f.beS.map dN.cells))) (B:F 68=some (.int .i64 (Z' f.beS:Nat))) (E:F 69=some (.int .i64 0))
  (R:∀v O H',qP O f v I J M N (f.beS.all pN)→bH H' 1 v (jT (f.beS.map dN.name))→K (.exit 0) O H') :
  aC.wp C (.loop TD) K F H:=by
 refine wp_loop (α:=Nat × PV × PH) (λt=>(((nK f t.2.1 I J M N (nG f.beS pN t.1)).set 67 (.sl 4 (f.beS.map dN.cells))).set 68 (.int .i64 (Z' f.beS:Nat))).set 69 (.int .i64 t.1)) (λt=>t.2.2)
  (λt=>t.1≤Z' f.beS∧bH t.2.2 1 t.2.1 (jT ((f.beS.map dN.name).take t.1))) (λt=>Z' f.beS-t.1) (0,.aH,.nil) ⟨bgE _,.nil⟩ ?_ a_ ?_
 ·unfold nK
  (repeat' (first|exact c_|refine d_ ?_ ?_))<;>first|(simp only[go_sem,u.a1,u.a3,u.a4,u.a5,u.a6,u.a7,u.a8,A,B,E,AO]<;>rfl)|rfl
 rintro⟨k,v,H0⟩ ⟨U,y⟩;simp only at U y ⊢;simp only[go_sem,TD,avR,nK];by_cases hlt:k<Z' f.beS
 ·have j:(k:Int)<(Z' f.beS:Nat):=Om;have W:(f.beS.map dN.cells)[k]?=some (f.beS[k]).cells:=by simp[hlt]
  have x:=EQ (f.beS.map dN.name) (k:=k) (by simpa using hlt);rw[bhY]at x;simp only[go_sem,j,avS,W];refine aQ λo V=>?_;simp only[go_sem,avT];refine tN y V (AC (by simp;omega)) λv' H' l w=>?_;rw[x]at l;have e:=AN f.beS pN hlt;cases hb:nG f.beS pN k with
  |false =>rw[hb,bgK]at e;simp only[go_sem,Hd,w,se,wZz k];refine aG (k+1,v',H') ⟨hlt,l⟩ (by simp only;omega) ?_ b_;simp only[e];exact Lq
  |true =>rw[hb,bgO]at e;simp only[go_sem,Hd,w];refine aB (L.law _ (S.law _ (bgD hlt))) Ev ?_;simp only[go_sem,se,wZz k];refine aG (k+1,v',H') ⟨hlt,l⟩ (by simp only;omega) ?_ b_;simp only[e];exact Lq
 ·have j:¬(k:Int)<(Z' f.beS:Nat):=Om;have:k=Z' f.beS:=Om;subst this;rw[bgR aY]at y;rw[DY];simp only[go_sem,j];exact R v _ _ ⟨by simp only[go_sem],by simp only[go_sem],by simp only[go_sem],by simp only[go_sem],by simp only[go_sem],by simp only[go_sem],by simp only[go_sem]⟩ y
theorem MR{n:Nat}(h:n≤1000):IntKind.i64.wrap ((n:Int)-1)=(n:Int)-1:=wrap_i64 Om Om
theorem aHK{C:Ctx}(L:qI C)(f:aD)(hs:Z' f.beL≤4)(hl:Z' f.beS≤4)(x:Bool)(E I J M:PV)(K:cQ)(F:PF)(H:PH)(u:qP F f E .aH I J M x)
  (R:F 85=some (.sl 4 (f.beL.map eE.cells))) (S:F 86=some (.int .i64 (Z' f.beL:Nat))) (U:F 87=some (.int .i64 0))
  (X:∀v w H',qP w f E v I J M (x&&f.beL.all (pQ f))→bH H' 1 v (jT (f.beL.map eE.name))→K (.exit 2) w H') :
  aC.wp C (.loop TE) K F H:=by
 refine wp_loop (α:=Nat × PV × PH) (λt=>(((nK f E t.2.1 I J M (x&&nG f.beL (pQ f) t.1)).set 85 (.sl 4 (f.beL.map eE.cells))).set 86 (.int .i64 (Z' f.beL:Nat))).set 87 (.int .i64 t.1)) (λt=>t.2.2)
  (λt=>t.1≤Z' f.beL∧bH t.2.2 1 t.2.1 (jT ((f.beL.map eE.name).take t.1))) (λt=>Z' f.beL-t.1) (0,.aH,.nil) ⟨bgE _,.nil⟩ ?_ a_ ?_
 ·unfold nK
  (repeat' (first|exact c_|refine d_ ?_ ?_))<;>first|(simp only[go_sem,u.a1,u.a3,u.a4,u.a5,u.a6,u.a7,u.a8,R,S,U,AO,biG]<;>rfl)|rfl
 rintro⟨k,v,H0⟩ ⟨Z,N⟩;simp only at Z N ⊢;simp only[go_sem,TE,Z7,nK];by_cases hlt:k<Z' f.beL
 ·have e:(k:Int)<(Z' f.beL:Nat):=Om;have hr:(f.beL.map eE.cells)[k]?=some (f.beL[k]).cells:=by simp[hlt]
  have B:=EQ (f.beL.map eE.name) (k:=k) (by simpa using hlt);rw[bhY]at B;simp only[go_sem,e,Z8,hr];refine aQ λo ho=>?_;simp only[go_sem,Z9];refine tN N ho (AC (by simp;omega)) λv' H' y j=>?_;rw[B]at y;have l:=AN f.beL (pQ f) hlt;have fin:∀(c:Bool)(w:PF),c=(x&&nG f.beL (pQ f) (k+1))→((((nK f E v' I J M c).set 85 (.sl 4 (f.beL.map eE.cells))).set 86 (.int .i64 (Z' f.beL:Nat))).set 87 (.int .i64 (k+1:Nat))).le w →
    fZ (λ(t:Nat × PV × PH)=>(((nK f E t.2.1 I J M (x&&nG f.beL (pQ f) t.1)).set 85 (.sl 4 (f.beL.map eE.cells))).set 86 (.int .i64 (Z' f.beL:Nat))).set 87 (.int .i64 t.1)) (λ(t:Nat × PV × PH)=>t.2.2)  (λ(t:Nat × PV × PH)=>t.1≤Z' f.beL∧bH t.2.2 1 t.2.1 (jT ((f.beL.map eE.name).take t.1))) (λ(t:Nat × PV × PH)=>Z' f.beL-t.1) (Z' f.beL-k) K .normal w H':=by
   intro c w Y A;refine aG (α:=Nat × PV × PH) (k+1,v',H') ⟨hlt,y⟩ (by simp only;omega) ?_ b_;rw[Y]at A;exact A
  unfold nK at fin;rw[l,←bjM]at fin;have V:pQ f f.beL[k]=(within (f.beL[k]).bfB 1 16&&within (f.beL[k]).port 1 64&&within (f.beL[k]).law 0 ((Z' f.beS:Int)-1)):=rfl;cases hb:(x&&nG f.beL (pQ f) k)with
  |false =>rw[hb,bgK]at fin;simp only[go_sem,sg,j,JC,wZz k];refine fin false _ rfl ?_;exact Lq
  |true=>
   rw[hb,bgO]at fin;simp only[go_sem,sg,j];refine aB (L.inn _ 1 16) Ev ?_;cases O:within (f.beL[k]).bfB 1 16 with
   |false =>simp only[go_sem,JC,wZz k];refine fin false _ (by rw[V,O];simp only[bgK]) ?_;exact Lq
   |true=>
    simp only[go_sem,j];refine aB (L.inn _ 1 64) Ev ?_;cases W:within (f.beL[k]).port 1 64 with
    |false =>simp only[go_sem,JC,wZz k];refine fin false _ (by rw[V,O,W];simp only[bgK,bhO]) ?_;exact Lq
    |true =>simp only[go_sem,j,bfY,MR (Om:Z' f.beS≤1000)];refine aB (L.inn _ 0 _) Ev ?_;simp only[go_sem,JC,wZz k];refine fin (within (f.beL[k]).law 0 ((Z' f.beS:Int)-1)) _ (by rw[V,O,W];simp only[bgO]) ?_;exact Lq
 ·have e:¬(k:Int)<(Z' f.beL:Nat):=Om;have:k=Z' f.beL:=Om;subst this;rw[bgR aY]at N;rw[DY];simp only[go_sem,e];exact X v _ _ ⟨by simp only[go_sem],by simp only[go_sem],by simp only[go_sem],by simp only[go_sem],by simp only[go_sem],by simp only[go_sem],by simp only[go_sem]⟩ N
theorem aHL{C:Ctx}(L:qI C)(f:aD)(t:List dQ)(W:Z' t≤40)(x:Bool)(E I J M:PV)(K:cQ)(F:PF)(H:PH)(j:qP F f E I .aH J M x)
  (y:F 119=some (.sl 7 (t.map dQ.cells))) (A:F 120=some (.int .i64 (Z' t:Nat))) (B:F 121=some (.int .i64 0))
  (O:∀v N H',qP N f E I v J M x→bH H' 1 v (jT (t.map dQ.name))→K (.exit 4) N H') :
  aC.wp C (.loop TF) K F H:=by
 refine wp_loop (α:=Nat × PV × PH) (λa=>(((nK f E I a.2.1 J M x).set 119 (.sl 7 (t.map dQ.cells))).set 120 (.int .i64 (Z' t:Nat))).set 121 (.int .i64 a.1)) (λa=>a.2.2)
  (λa=>a.1≤Z' t∧bH a.2.2 1 a.2.1 (jT ((t.map dQ.name).take a.1))) (λa=>Z' t-a.1) (0,.aH,.nil) ⟨bgE _,.nil⟩ ?_ a_ ?_
 ·unfold nK
  (repeat' (first|exact c_|refine d_ ?_ ?_))<;>first|(simp only[go_sem,j.a1,j.a3,j.a4,j.a5,j.a6,j.a7,j.a8,y,A,B]<;>rfl)|rfl
 rintro⟨k,v,H0⟩ ⟨R,w⟩;simp only at R w ⊢;simp only[go_sem,TF,aaA,nK];by_cases hlt:k<Z' t
 ·have e:(k:Int)<(Z' t:Nat):=Om;have V:(t.map dQ.cells)[k]?=some (t[k]).cells:=by simp[hlt]
  have u:=EQ (t.map dQ.name) (k:=k) (by simpa using hlt);rw[bhY]at u;simp only[go_sem,e,aaB,V];refine aQ λo S=>?_;simp only[go_sem,aaC];refine tN w S (AC (by simp;omega)) λv' H' l U=>?_;rw[u]at l;simp only[go_sem,aaD,wZz k];refine aG (k+1,v',H') ⟨hlt,l⟩ (by simp only;omega) ?_ b_;exact Lq
 ·have e:¬(k:Int)<(Z' t:Nat):=Om;have:k=Z' t:=Om;subst this;rw[bgR aY]at w;simp only[go_sem,e];exact O v _ _ ⟨by simp only[go_sem],by simp only[go_sem],by simp only[go_sem],by simp only[go_sem],by simp only[go_sem],by simp only[go_sem],by simp only[go_sem]⟩ w
theorem aHM{C:Ctx}(L:qI C)(f:aD)(e:List (List UInt8))(hn:Z' e≤40)(hs:Z' f.beK≤24)(hm:Z' f.beL≤4)(hd:Z' f.beN≤40)(A:Bool)(J M v0 N O:PV)(K:cQ)(F:PF)(H:PH)(x:qP F f J M v0 N O A)
  (h0:bH H 1 v0 (jT e))
  (W:F 132=some (.sl 3 (f.beK.map fC.cells))) (X:F 133=some (.int .i64 (Z' f.beK:Nat))) (Y:F 134=some (.int .i64 0))
  (hK:∀v y H',qP y f J M v N O (A&&f.beK.all (nC f))→bH H' 1 v (jT (e++f.beK.map fC.name))→K (.exit 6) y H') :
  aC.wp C (.loop TG) K F H:=by
 refine wp_loop (α:=Nat × PV × PH) (λt=>(((nK f J M t.2.1 N O (A&&nG f.beK (nC f) t.1)).set 132 (.sl 3 (f.beK.map fC.cells))).set 133 (.int .i64 (Z' f.beK:Nat))).set 134 (.int .i64 t.1)) (λt=>t.2.2)
  (λt=>t.1≤Z' f.beK∧bH t.2.2 1 t.2.1 (jT (e++(f.beK.map fC.name).take t.1))) (λt=>Z' f.beK-t.1) (0,v0,H) ⟨bgE _,by rw[List.take_zero,bhH];exact h0⟩ ?_ b_ ?_
 ·unfold nK
  (repeat' (first|exact c_|refine d_ ?_ ?_))<;>first|(simp only[go_sem,x.a1,x.a3,x.a4,x.a5,x.a6,x.a7,x.a8,W,X,Y,AO,biG]<;>rfl)|rfl
 rintro⟨k,v,H0⟩ ⟨hk,V⟩;simp only at hk V ⊢;simp only[go_sem,TG,aaE,nK];by_cases hlt:k<Z' f.beK
 ·have j:(k:Int)<(Z' f.beK:Nat):=Om;have hr:(f.beK.map fC.cells)[k]?=some (f.beK[k]).cells:=by simp[hlt]
  have β:jT (e++(f.beK.map fC.name).take k)++[[.str (f.beK[k]).name]]=jT (e++(f.beK.map fC.name).take (k+1)):=by rw[bhW (by simpa using hlt),←bgX,bhY];unfold jT;simp only[bhM,bhJ,biS]
  simp only[go_sem,j,aaF,hr];refine aQ λo ho=>?_;simp only[go_sem,aaG];refine tN V ho (AC (by simp;omega)) λv' H' B u=>?_;rw[β]at B;have w:=AN f.beK (nC f) hlt;have fin:∀(c:Bool)(y:PF),c=(A&&nG f.beK (nC f) (k+1))→((((nK f J M v' N O c).set 132 (.sl 3 (f.beK.map fC.cells))).set 133 (.int .i64 (Z' f.beK:Nat))).set 134 (.int .i64 (k+1:Nat))).le y →
    fZ (λ(t:Nat × PV × PH)=>(((nK f J M t.2.1 N O (A&&nG f.beK (nC f) t.1)).set 132 (.sl 3 (f.beK.map fC.cells))).set 133 (.int .i64 (Z' f.beK:Nat))).set 134 (.int .i64 t.1)) (λ(t:Nat × PV × PH)=>t.2.2)  (λ(t:Nat × PV × PH)=>t.1≤Z' f.beK∧bH t.2.2 1 t.2.1 (jT (e++(f.beK.map fC.name).take t.1))) (λ(t:Nat × PV × PH)=>Z' f.beK-t.1) (Z' f.beK-k) K .normal y H':=by
   intro c y hc E;refine aG (α:=Nat × PV × PH) (k+1,v',H') ⟨hlt,B⟩ (by simp only;omega) ?_ b_;rw[hc]at E;exact E
  unfold nK at fin;rw[w,←bjM]at fin;have l:nC f f.beK[k]=(within (f.beK[k]).model 0 ((Z' f.beL:Int)-1)&&within (f.beK[k]).machine 0 ((Z' f.beN:Int)-1)&&decide ((f.beN.map dQ.level).getD (f.beK[k]).machine.toNat 0=4)):=rfl;cases hb:(A&&nG f.beK (nC f) k)with
  |false =>rw[hb,bgK]at fin;simp only[go_sem,sn,u,CN,wZz k];refine fin false _ rfl ?_;exact Lq
  |true=>
   rw[hb,bgO]at fin;simp only[go_sem,sn,u,bfY,MR (Om:Z' f.beL≤1000)];refine aB (L.inn _ 0 _) Ev ?_;cases R:within (f.beK[k]).model 0 ((Z' f.beL:Int)-1)with
   |false =>simp only[go_sem,CN,wZz k];refine fin false _ (by rw[l,R];simp only[bgK]) ?_;exact Lq
   |true=>
    simp only[go_sem,u,bfY,MR (Om:Z' f.beN≤1000)];refine aB (L.inn _ 0 _) Ev ?_;cases S:within (f.beK[k]).machine 0 ((Z' f.beN:Int)-1)with
    |false =>simp only[go_sem,CN,wZz k];refine fin false _ (by rw[l,R,S];simp only[bgK,bhO]) ?_;exact Lq
    |true=>
     obtain⟨i1,i2⟩:=within_iff.1 S;have i3:(f.beK[k]).machine.toNat<Z' f.beN:=Om;have I:(f.beN.map dQ.cells)[(f.beK[k]).machine.toNat]?=some (f.beN[(f.beK[k]).machine.toNat]).cells:=by simp[i3]
     have Z:(f.beN.map dQ.level).getD (f.beK[k]).machine.toNat 0=(f.beN[(f.beK[k]).machine.toNat]).level:=by simp[i3]
     rw[Z]at l;by_cases U:(f.beN[(f.beK[k]).machine.toNat]).level=4
     ·simp only[go_sem,u,i1,I,bT U,CN,wZz k];refine fin true _ (by rw[l,R,S,bX U];rfl) ?_;exact Lq
     ·simp only[go_sem,u,i1,I,bD U,CN,wZz k];refine fin false _ (by rw[l,R,S,bV U];rfl) ?_;exact Lq
 ·have j:¬(k:Int)<(Z' f.beK:Nat):=Om;have:k=Z' f.beK:=Om;subst this;rw[bgR aY]at V;rw[DY];simp only[go_sem,j];exact hK v _ _ ⟨by simp only[go_sem],by simp only[go_sem],by simp only[go_sem],by simp only[go_sem],by simp only[go_sem],by simp only[go_sem],by simp only[go_sem]⟩ V
theorem aHN{C:Ctx}(L:qI C)(f:aD)(W:f.Ok)(hs:Z' f.beO≤4)(Y:Z' f.beL≤4)(w:Bool)(E I J M:PV)(K:cQ)(F:PF)(H:PH)(l:qP F f E I J .aH M w)
  (O:F 174=some (.sl 17 (f.beO.map dV.cells))) (R:F 175=some (.int .i64 (Z' f.beO:Nat))) (S:F 176=some (.int .i64 0))
  (U:∀v u H',qP u f E I J v M (w&&f.beO.all (oA f.beL.length))→bH H' 1 v (jT (f.beO.map dV.name))→K (.exit 8) u H') :
  aC.wp C (.loop TH) K F H:=by
 refine wp_loop (α:=Nat × PV × PH) (λt=>(((nK f E I J t.2.1 M (w&&nG f.beO (oA f.beL.length) t.1)).set 174 (.sl 17 (f.beO.map dV.cells))).set 175 (.int .i64 (Z' f.beO:Nat))).set 176 (.int .i64 t.1)) (λt=>t.2.2)
  (λt=>t.1≤Z' f.beO∧bH t.2.2 1 t.2.1 (jT ((f.beO.map dV.name).take t.1))) (λt=>Z' f.beO-t.1) (0,.aH,.nil) ⟨bgE _,.nil⟩ ?_ a_ ?_
 ·unfold nK
  (repeat' (first|exact c_|refine d_ ?_ ?_))<;>first|(simp only[go_sem,l.a1,l.a3,l.a4,l.a5,l.a6,l.a7,l.a8,O,R,S,AO,biG]<;>rfl)|rfl
 rintro⟨k,v,H0⟩ ⟨X,N⟩;simp only at X N ⊢;simp only[go_sem,TH,aaH,nK];by_cases hlt:k<Z' f.beO
 ·have e:(k:Int)<(Z' f.beO:Nat):=Om;have hr:(f.beO.map dV.cells)[k]?=some (f.beO[k]).cells:=by simp[hlt]
  have B:=EQ (f.beO.map dV.name) (k:=k) (by simpa using hlt);rw[bhY]at B;simp only[go_sem,e,aaI,hr];refine aQ λo Z=>?_;simp only[go_sem,aaJ];refine tN N Z (AC (by simp;omega)) λv' H' x A=>?_;rw[B]at x;have j:=AN f.beO (oA f.beL.length) hlt;have fin:∀(c:Bool)(u:PF),c=(w&&nG f.beO (oA f.beL.length) (k+1))→((((nK f E I J v' M c).set 174 (.sl 17 (f.beO.map dV.cells))).set 175 (.int .i64 (Z' f.beO:Nat))).set 176 (.int .i64 (k+1:Nat))).le u →
    fZ (λ(t:Nat × PV × PH)=>(((nK f E I J t.2.1 M (w&&nG f.beO (oA f.beL.length) t.1)).set 174 (.sl 17 (f.beO.map dV.cells))).set 175 (.int .i64 (Z' f.beO:Nat))).set 176 (.int .i64 t.1)) (λ(t:Nat × PV × PH)=>t.2.2)  (λ(t:Nat × PV × PH)=>t.1≤Z' f.beO∧bH t.2.2 1 t.2.1 (jT ((f.beO.map dV.name).take t.1))) (λ(t:Nat × PV × PH)=>Z' f.beO-t.1) (Z' f.beO-k) K .normal u H':=by
   intro c u V y;refine aG (α:=Nat × PV × PH) (k+1,v',H') ⟨hlt,x⟩ (by simp only;omega) ?_ b_;rw[V]at y;exact y
  unfold nK at fin;rw[j,←bjM]at fin;cases hb:(w&&nG f.beO (oA f.beL.length) k)with
  |false =>rw[hb,bgK]at fin;simp only[go_sem,ss,A,su,wZz k];refine fin false _ rfl ?_;exact Lq
  |true =>rw[hb,bgO]at fin;simp only[go_sem,ss,A,bfY];refine aB (L.pol _ _ (W.beX _ (bgD hlt)) Y) Ev ?_;simp only[go_sem,su,wZz k];refine fin _ _ rfl ?_;exact Lq
 ·have e:¬(k:Int)<(Z' f.beO:Nat):=Om;have:k=Z' f.beO:=Om;subst this;rw[bgR aY]at N;rw[DY];simp only[go_sem,e];exact U v _ _ ⟨by simp only[go_sem],by simp only[go_sem],by simp only[go_sem],by simp only[go_sem],by simp only[go_sem],by simp only[go_sem],by simp only[go_sem]⟩ N
theorem aHO{C:Ctx}(L:qI C)(f:aD)(hs:Z' f.beM≤12)(hl:Z' f.beO≤4)(w:Bool)(E I J M:PV)(K:cQ)(F:PF)(H:PH)(l:qP F f E I J M .aH w)
  (O:F 195=some (.sl 2 (f.beM.map iY.cells))) (R:F 196=some (.int .i64 (Z' f.beM:Nat))) (S:F 197=some (.int .i64 0))
  (U:∀v u H',qP u f E I J M v (w&&f.beM.all (uU f))→bH H' 1 v (jT (f.beM.map iY.name))→K (.exit 10) u H') :
  aC.wp C (.loop TI) K F H:=by
 refine wp_loop (α:=Nat × PV × PH) (λt=>(((nK f E I J M t.2.1 (w&&nG f.beM (uU f) t.1)).set 195 (.sl 2 (f.beM.map iY.cells))).set 196 (.int .i64 (Z' f.beM:Nat))).set 197 (.int .i64 t.1)) (λt=>t.2.2)
  (λt=>t.1≤Z' f.beM∧bH t.2.2 1 t.2.1 (jT ((f.beM.map iY.name).take t.1))) (λt=>Z' f.beM-t.1) (0,.aH,.nil) ⟨bgE _,.nil⟩ ?_ a_ ?_
 ·unfold nK
  (repeat' (first|exact c_|refine d_ ?_ ?_))<;>first|(simp only[go_sem,l.a1,l.a3,l.a4,l.a5,l.a6,l.a7,l.a8,O,R,S,AO,biG]<;>rfl)|rfl
 rintro⟨k,v,H0⟩ ⟨W,N⟩;simp only at W N ⊢;simp only[go_sem,TI,aaK,nK];by_cases hlt:k<Z' f.beM
 ·have e:(k:Int)<(Z' f.beM:Nat):=Om;have Z:(f.beM.map iY.cells)[k]?=some (f.beM[k]).cells:=by simp[hlt]
  have B:=EQ (f.beM.map iY.name) (k:=k) (by simpa using hlt);rw[bhY]at B;simp only[go_sem,e,aaL,Z];refine aQ λo Y=>?_;simp only[go_sem,aaM];refine tN N Y (AC (by simp;omega)) λv' H' x A=>?_;rw[B]at x;have j:=AN f.beM (uU f) hlt;have fin:∀(c:Bool)(u:PF),c=(w&&nG f.beM (uU f) (k+1))→((((nK f E I J M v' c).set 195 (.sl 2 (f.beM.map iY.cells))).set 196 (.int .i64 (Z' f.beM:Nat))).set 197 (.int .i64 (k+1:Nat))).le u →
    fZ (λ(t:Nat × PV × PH)=>(((nK f E I J M t.2.1 (w&&nG f.beM (uU f) t.1)).set 195 (.sl 2 (f.beM.map iY.cells))).set 196 (.int .i64 (Z' f.beM:Nat))).set 197 (.int .i64 t.1)) (λ(t:Nat × PV × PH)=>t.2.2)  (λ(t:Nat × PV × PH)=>t.1≤Z' f.beM∧bH t.2.2 1 t.2.1 (jT ((f.beM.map iY.name).take t.1))) (λ(t:Nat × PV × PH)=>Z' f.beM-t.1) (Z' f.beM-k) K .normal u H':=by
   intro c u V y;refine aG (α:=Nat × PV × PH) (k+1,v',H') ⟨hlt,x⟩ (by simp only;omega) ?_ b_;rw[V]at y;exact y
  unfold nK at fin;rw[j,←bjM]at fin;have X:uU f f.beM[k]=within (f.beM[k]).beX 0 ((Z' f.beO:Int)-1):=rfl;cases hb:(w&&nG f.beM (uU f) k)with
  |false =>rw[hb,bgK]at fin;simp only[go_sem,sw,A,sx,wZz k];refine fin false _ rfl ?_;exact Lq
  |true =>rw[hb,bgO,X]at fin;simp only[go_sem,sw,A,bfY,MR (Om:Z' f.beO≤1000)];refine aB (L.inn _ 0 _) Ev ?_;simp only[go_sem,sx,wZz k];refine fin _ _ rfl ?_;exact Lq
 ·have e:¬(k:Int)<(Z' f.beM:Nat):=Om;have:k=Z' f.beM:=Om;subst this;rw[bgR aY]at N;rw[DY];simp only[go_sem,e];exact U v _ _ ⟨by simp only[go_sem],by simp only[go_sem],by simp only[go_sem],by simp only[go_sem],by simp only[go_sem],by simp only[go_sem],by simp only[go_sem]⟩ N
theorem tY{f:aD}(h:¬(Z' f.beS≤4∧Z' f.beL≤4∧Z' f.beN≤40∧Z' f.beK≤24∧Z' f.beO≤4∧Z' f.beM≤12)):tX f=false:=by
 rw[←Bool.not_eq_true];intro e;simp only[tX,bgU,decide_eq_true_eq]at e;omega
theorem aqU{f:aD}(h:Z' f.beS≤4∧Z' f.beL≤4∧Z' f.beN≤40∧Z' f.beK≤24∧Z' f.beO≤4∧Z' f.beM≤12):tX f=within f.bfQ 1 4:=by
 obtain⟨e,j,l,u,h5,w⟩:=h;simp[tX,e,j,l,u,h5,w]
theorem tE{t:Nat}{n m:Int}{F:PF}{H:PH}(h:F t=some (.int .i64 n))(e:n=m):aW [.tmp t] (cT (.int .i64 m)) .ret F H:=by
 subst e;exact bB (.inr rfl) .nil (vs:=[.int .i64 n]) (by rw[qE,tV,h,vJ]) a_ ⟨.refl _,rfl⟩
def FJ(f:aD):Int:=if dU f then 0 else 1
theorem Ea{f:aD}(h:dU f=false):FJ f=1:=by rw[FJ,h];rfl
theorem BY{C:Ctx}{F:PF}{H:PH}{name t s:Nat}{v r:PV}{rows:List (List PV)}{d:Option Nat}{K:PF→PH→Prop}(h:aI C name [.sl s rows] .nil (aK r))(x:bH H s v rows)(l:F t=some v)
  (j:∀(e:PF)(w:PH),(∀i u,F i=some u→Pure u→e i=some u)→K (e.put d r) w):kF C name [.tmp t] [] d K F H:=by
 rcases x with⟨rfl,rfl⟩|⟨q,rs,rfl,h1,h2,h3⟩
 ·refine aB (h.aJQ (.inl ⟨rfl,rfl⟩)) (by rw[IV,zc,l,je]) ?_;exact j F H λi u hi _=>hi
 ·rw[←h3]at h;refine xT (k:=Z' rows) h l h1 h2 (j _ _ λi u hi y=>?_);rw[tT,hi,bhD,y q s rs]
theorem Seen.pure{s:Nat}{v:PV}{rows:List (List PV)}(h:Seen s v rows):Pure v:=by
 rcases h with⟨_,rfl⟩|rfl
 ·exact λ_ _ _=>rfl
 ·exact λ_ _ _=>rfl
def bI(b:Bool):Int:=if b then 0 else 1
abbrev jv(f:aD):List (List UInt8):=(f.beN.drop 1).map dQ.name++f.beK.map fC.name
def DU(f:aD):Bool:=distinct (f.beS.map dN.name)&&distinct (f.beL.map eE.name)&&distinct (jv f)&&distinct (f.beO.map dV.name)&&distinct (f.beM.map iY.name)
structure Small(f:aD):Prop where
 beS:Z' f.beS≤4
 beL:Z' f.beL≤4
 beN:Z' f.beN≤40
 beK:Z' f.beK≤24
 beO:Z' f.beO≤4
 beM:Z' f.beM≤12
theorem LW{C:Ctx}(L:qI C){v:PV}{l:List (List UInt8)}(h:Seen 1 v (jT l))(e:Z' l≤1000):aI C 110 [v] .nil (aK (.bool (distinct l))):=
 (L.uniq l (Om:Z' l≤9223372036854775807)).aJQ h
theorem aUE{C:Ctx}(L:qI C)(f:aD)(J:Small f)(j l u w x:PV)(ok:Bool)(F:PF)(H:PH)(e:qP F f j l u w x ok)
  (A:Seen 1 j (jT (f.beS.map dN.name))) (B:Seen 1 l (jT (f.beL.map eE.name))) (h5:Seen 1 u (jT (jv f))) (E:Seen 1 w (jT (f.beO.map dV.name))) (h7:bH H 1 x (jT (f.beM.map iY.name))) :
  aC.wp C (.seq (.seq (.region JD) (.cond (.tmp 243) (.seq (.region uM) .ret) .skip)) (.seq (.region TJ) .ret)) (aW [.tmp 2] (cT (.int .i64 (bI (ok&&DU f))))) F H:=by
 obtain⟨s1,s2,s3,s4,Z,s6⟩:=J;have K:(f.beS.map dN.name).length≤1000:=by simp;omega
 have M:(f.beL.map eE.name).length≤1000:=by simp;omega
 have N:(jv f).length≤1000:=by simp;omega
 have O:(f.beO.map dV.name).length≤1000:=by simp;omega
 have R:(f.beM.map iY.name).length≤9223372036854775807:=by simp;omega
 cases ok with
 |false =>simp only[go_sem,JD,e.a8,uM];exact tE rfl rfl
 |true=>
  simp only[go_sem,JD,e.a8,e.a3];refine aB (LW L A K) rfl ?_;unfold DU;cases U:distinct (f.beS.map dN.name)with
  |false =>simp only[go_sem,uM,bgS];exact tE rfl rfl
  |true=>
   simp only[go_sem,e.a4,bgJ];refine aB (LW L B M) rfl ?_;cases V:distinct (f.beL.map eE.name)with
   |false =>simp only[go_sem,uM,bgS];exact tE rfl rfl
   |true=>
    simp only[go_sem,e.a5,bgJ];refine aB (LW L h5 N) rfl ?_;cases W:distinct (jv f)with
    |false =>simp only[go_sem,uM,bgS];exact tE rfl rfl
    |true=>
     simp only[go_sem,e.a6,bgJ];refine aB (LW L E O) rfl ?_;cases X:distinct (f.beO.map dV.name)with
     |false =>simp only[go_sem,uM,bgS];exact tE rfl rfl
     |true=>
      simp only[go_sem,e.a7,bgJ];refine BY (L.uniq _ R) h7 rfl λy S I=>?_;have g:y 239=some (.bool false):=I 239 _ rfl λ_ _ _=>rfl;cases Y:distinct (f.beM.map iY.name)with
      |false =>simp only[go_sem,uM,bgS,g];exact tE rfl rfl
      |true =>simp only[go_sem,TJ,bgJ,g];exact tE rfl rfl
abbrev Jd(b:Bool):cQ:=aW [.tmp 2] (cT (.int .i64 (bI b)))
def U6:aC:=.seq (.seq (.region sv) (.block 10 (.loop TI))) (.seq (.seq (.region JD) (.cond (.tmp 243) (.seq (.region uM) .ret) .skip)) (.seq (.region TJ) .ret))
def U5:aC:=.seq (.seq (.region sr) (.block 8 (.loop TH))) U6
def U4:aC:=.seq (.seq (.region sm) (.block 6 (.loop TG))) U5
def U3:aC:=.seq (.seq (.region sk) (.block 4 (.loop TF))) U4
def U2:aC:=.seq (.seq (.region sf) (.block 2 (.loop TE))) U3
def aKP:aC:=.seq (.seq (.region Hc) (.block 0 (.loop TD))) U2
theorem a1L{C:Ctx}(L:qI C)(f:aD)(y:Small f)(u w x K:PV)(ok:Bool)(F:PF)(H:PH)(l:qP F f u w x K .aH ok)
  (E:Seen 1 u (jT (f.beS.map dN.name))) (I:Seen 1 w (jT (f.beL.map eE.name))) (h5:Seen 1 x (jT (jv f))) (R:bH H 1 K (jT (f.beO.map dV.name))) :
  aC.wp C U6 (Jd (ok&&f.beM.all (uU f)&&DU f)) F H:=by
 unfold U6;simp only[go_sem,sv,l.a1,bfY];refine xU R λJ B N O U j=>?_;refine aHO L f y.beM y.beO ok u w x J _ N O ⟨j 1 _ (by simp only[go_sem,l.a1]) λ_ _ _=>rfl,j 3 _ (by simp only[go_sem,l.a3]) E.pure,j 4 _ (by simp only[go_sem,l.a4]) I.pure,j 5 _ (by simp only[go_sem,l.a5]) h5.pure,U 6 (by simp only[go_sem,l.a6]),j 7 _ (by simp only[go_sem,l.a7]) λ_ _ _=>rfl,j 8 _ (by simp only[go_sem,l.a8]) λ_ _ _=>rfl⟩
  (j 195 _ rfl λ_ _ _=>rfl) (j 196 _ rfl λ_ _ _=>rfl) (j 197 _ rfl λ_ _ _=>rfl) λv M H' A S=>?_
 have e:=aUE L f y u w x J v _ M H' A E I h5 B S;simp only[aC.wp,go_sem]at e;simp only[go_sem];exact e
theorem a1K{C:Ctx}(L:qI C)(f:aD)(O:f.Ok)(w:Small f)(l u I:PV)(ok:Bool)(F:PF)(H:PH)(j:qP F f l u I .aH .aH ok)
  (A:Seen 1 l (jT (f.beS.map dN.name))) (B:Seen 1 u (jT (f.beL.map eE.name))) (h5:bH H 1 I (jT (jv f))) :
  aC.wp C U5 (Jd (ok&&f.beO.all (oA f.beL.length)&&f.beM.all (uU f)&&DU f)) F H:=by
 unfold U5;simp only[go_sem,sr,j.a1,bfY];refine xU h5 λE y K M R e=>?_;refine aHN L f O w.beO w.beL ok l u E .aH _ K M ⟨e 1 _ (by simp only[go_sem,j.a1]) λ_ _ _=>rfl,e 3 _ (by simp only[go_sem,j.a3]) A.pure,e 4 _ (by simp only[go_sem,j.a4]) B.pure,R 5 (by simp only[go_sem,j.a5]),e 6 _ (by simp only[go_sem,j.a6]) λ_ _ _=>rfl,e 7 _ (by simp only[go_sem,j.a7]) λ_ _ _=>rfl,e 8 _ (by simp only[go_sem,j.a8]) λ_ _ _=>rfl⟩
  (e 174 _ rfl λ_ _ _=>rfl) (e 175 _ rfl λ_ _ _=>rfl) (e 176 _ rfl λ_ _ _=>rfl) λv J H' x N=>?_
 simp only[go_sem];exact a1L L f w l u E v _ J H' x A B y N
theorem a1J{C:Ctx}(L:qI C)(f:aD)(I:f.Ok)(j:Small f)(l u x:PV)(ok:Bool)(F:PF)(H:PH)(e:qP F f l u x .aH .aH ok)
  (A:Seen 1 l (jT (f.beS.map dN.name))) (B:Seen 1 u (jT (f.beL.map eE.name))) (h5:bH H 1 x (jT ((f.beN.drop 1).map dQ.name))) :
  aC.wp C U4 (Jd (ok&&f.beK.all (nC f)&&f.beO.all (oA f.beL.length)&&f.beM.all (uU f)&&DU f)) F H:=by
 unfold U4;simp only[go_sem,sm,e.a1,bfY];refine aHM L f ((f.beN.drop 1).map dQ.name) (by have:=j.beN;simp;omega) j.beK j.beL j.beN ok l u x .aH .aH _ _ H ⟨by simp only[go_sem,e.a1],by simp only[go_sem,e.a3],by simp only[go_sem,e.a4],by simp only[go_sem,e.a5],by simp only[go_sem,e.a6],by simp only[go_sem,e.a7],by simp only[go_sem,e.a8]⟩ h5
  rfl rfl rfl λv y H' w E=>?_
 simp only[go_sem];exact a1K L f I j l u v _ y H' w A B E
theorem a1I{C:Ctx}(L:qI C)(f:aD)(R:f.Ok)(B:Small f)(V:0<Z' f.beN)(u I:PV)(ok:Bool)(F:PF)(H:PH)(j:qP F f u I .aH .aH .aH ok)
  (A:Seen 1 u (jT (f.beS.map dN.name))) (N:bH H 1 I (jT (f.beL.map eE.name))) :
  aC.wp C U3 (Jd (ok&&f.beK.all (nC f)&&f.beO.all (oA f.beL.length)&&f.beM.all (uU f)&&DU f)) F H:=by
 unfold U3;have w:(1:Int)≤(Z' f.beN:Nat):=Om;have S:=B.beN;have l:((f.beN.map dQ.cells).take f.beN.length).drop 1=(f.beN.drop 1).map dQ.cells:=by rw[bgR aY,List.map_drop]
 simp only[go_sem,sk,j.a1,bfY,w,biR,l];refine xU N λE y K M U e=>?_;refine aHL L f (f.beN.drop 1) (by simp;omega) ok u E .aH .aH _ K M ⟨e 1 _ (by simp only[go_sem,j.a1]) λ_ _ _=>rfl,e 3 _ (by simp only[go_sem,j.a3]) A.pure,U 4 (by simp only[go_sem,j.a4]),e 5 _ (by simp only[go_sem,j.a5]) λ_ _ _=>rfl,e 6 _ (by simp only[go_sem,j.a6]) λ_ _ _=>rfl,e 7 _ (by simp only[go_sem,j.a7]) λ_ _ _=>rfl,e 8 _ (by simp only[go_sem,j.a8]) λ_ _ _=>rfl⟩
  (e 119 _ rfl λ_ _ _=>rfl) (e 120 _ rfl λ_ _ _=>rfl) (e 121 _ rfl λ_ _ _=>rfl) λv J H' x O=>?_
 simp only[go_sem];exact a1J L f R B u E v _ J H' x A y O
theorem a1H{C:Ctx}(L:qI C)(f:aD)(M:f.Ok)(l:Small f)(K:0<Z' f.beN)(y:PV)(ok:Bool)(F:PF)(H:PH)(j:qP F f y .aH .aH .aH .aH ok)
  (I:bH H 1 y (jT (f.beS.map dN.name))) :
  aC.wp C U2 (Jd (ok&&f.beL.all (pQ f)&&f.beK.all (nC f)&&f.beO.all (oA f.beL.length)&&f.beM.all (uU f)&&DU f)) F H:=by
 unfold U2;simp only[go_sem,sf,j.a1,bfY];refine xU I λx w B E N e=>?_;refine aHK L f l.beL l.beS ok x .aH .aH .aH _ B E ⟨e 1 _ (by simp only[go_sem,j.a1]) λ_ _ _=>rfl,N 3 (by simp only[go_sem,j.a3]),e 4 _ (by simp only[go_sem,j.a4]) λ_ _ _=>rfl,e 5 _ (by simp only[go_sem,j.a5]) λ_ _ _=>rfl,e 6 _ (by simp only[go_sem,j.a6]) λ_ _ _=>rfl,e 7 _ (by simp only[go_sem,j.a7]) λ_ _ _=>rfl,e 8 _ (by simp only[go_sem,j.a8]) λ_ _ _=>rfl⟩
  (e 85 _ rfl λ_ _ _=>rfl) (e 86 _ rfl λ_ _ _=>rfl) (e 87 _ rfl λ_ _ _=>rfl) λv A H' u J=>?_
 simp only[go_sem];exact a1I L f M l K x v _ A H' u w J
theorem a1G{C:Ctx}(L:qI C)(f:aD)(l:f.Ok)(u:Small f)(y:0<Z' f.beN)(F:PF)(H:PH)(e:qP F f .aH .aH .aH .aH .aH true) :
  aC.wp C aKP (Jd (f.beS.all pN&&f.beL.all (pQ f)&&f.beK.all (nC f)&&f.beO.all (oA f.beL.length)&&f.beM.all (uU f)&&DU f)) F H:=by
 unfold aKP;simp only[go_sem,Hc,e.a1,bfY];refine aHJ L f l u.beS .aH .aH .aH .aH _ _ H ⟨by simp only[go_sem,e.a1],by simp only[go_sem,e.a3],by simp only[go_sem,e.a4],by simp only[go_sem,e.a5],by simp only[go_sem,e.a6],by simp only[go_sem,e.a7],by simp only[go_sem,e.a8]⟩ rfl rfl rfl λv w H' j x=>?_;simp only[go_sem];exact a1H L f l u y v _ w H' j x
theorem a1F{C:Ctx}(L:qI C)(f:aD)(I:f.Ok):bi.wp C (aW aUD.res (cT (.int .i64 (FJ f)))) (PF.args [.agg f.cells]) .nil:=by
 have he:dU f=(tX f&&uJ f&&(f.beS.all pN&&f.beL.all (pQ f)&&f.beK.all (nC f)&&f.beO.all (oA f.beL.length)&&f.beM.all (uU f))&&DU f):=rfl;simp only[go_sem,bi,avN,avO,aUD];refine aB (L.inn f.bfQ 1 4) rfl ?_;have bad:∀(F:PF)(H:PH),dU f=false→F 2=some (.int .i64 1)→aW [.tmp 2] (cT (.int .i64 (FJ f))) .ret F H:=λF H M N=>tE N (Ea M).symm;cases E:within f.bfQ 1 4 with
 |false=>
  have:tX f=false:=by simp[tX,E]
  simp only[go_sem,bgS,xC];exact bad _ _ (by rw[he,this];simp only[bgK]) rfl
 |true=>
  by_cases s1:Z' f.beS≤4
  ·have j:¬(Z' f.beS:Int)>4:=Om;by_cases s2:Z' f.beL≤4
   ·have l:¬(Z' f.beL:Int)>4:=Om;by_cases s3:Z' f.beN≤40
    ·have u:¬(Z' f.beN:Int)>40:=Om;by_cases s4:Z' f.beK≤24
     ·have w:¬(Z' f.beK:Int)>24:=Om;by_cases J:Z' f.beO≤4
      ·have x:¬(Z' f.beO:Int)>4:=Om;by_cases K:Z' f.beM≤12
       ·have y:¬(Z' f.beM:Int)>12:=Om;have A:=aqU ⟨s1,s2,s3,s4,J,K⟩;rw[E]at A;simp only[go_sem,bgJ,bfY,j,l,u,w,x,y];refine aB (L.beU f I) rfl ?_;cases B:uJ f with
        |false =>simp only[go_sem,bgS,xC];exact bad _ _ (by rw[he,B];simp only[bhO,bgK]) rfl
        |true=>
         have O:0<Z' f.beN:=by
          rcases biC f.beN.length with h|h
          ·have:f.beN=[]:=List.eq_nil_of_length_eq_zero h;rw[uJ,this]at B;cases B
          ·exact h
         have S:FJ f=bI (f.beS.all pN&&f.beL.all (pQ f)&&f.beK.all (nC f)&&f.beO.all (oA f.beL.length)&&f.beM.all (uU f)&&DU f):=by rw[FJ,he,A,B];rfl
         rw[S];simp only[go_sem,bgJ,avP,avQ];have e:=λF H R=>a1G L f I ⟨s1,s2,s3,s4,J,K⟩ O F H R;simp only[aKP,U2,U3,U4,U5,U6,aC.wp,go_sem]at e;exact e _ _ ⟨by simp only[go_sem],by simp only[go_sem],by simp only[go_sem],by simp only[go_sem],by simp only[go_sem],by simp only[go_sem],by simp only[go_sem]⟩
       ·have y:(Z' f.beM:Int)>12:=Om;simp only[go_sem,bgJ,bfY,j,l,u,w,x,y,xC];exact bad _ _ (by rw[he,tY Om];simp only[bgK]) rfl
      ·have x:(Z' f.beO:Int)>4:=Om;simp only[go_sem,bgJ,bfY,j,l,u,w,x,xC];exact bad _ _ (by rw[he,tY Om];simp only[bgK]) rfl
     ·have w:(Z' f.beK:Int)>24:=Om;simp only[go_sem,bgJ,bfY,j,l,u,w,xC];exact bad _ _ (by rw[he,tY Om];simp only[bgK]) rfl
    ·have u:(Z' f.beN:Int)>40:=Om;simp only[go_sem,bgJ,bfY,j,l,u,xC];exact bad _ _ (by rw[he,tY Om];simp only[bgK]) rfl
   ·have l:(Z' f.beL:Int)>4:=Om;simp only[go_sem,bgJ,bfY,j,l,xC];exact bad _ _ (by rw[he,tY Om];simp only[bgK]) rfl
  ·have j:(Z' f.beS:Int)>4:=Om;simp only[go_sem,bgJ,bfY,j,xC];exact bad _ _ (by rw[he,tY Om];simp only[bgK]) rfl
def lvl(f:aD)(i:Nat):Int:=(f.beN.map dQ.level).getD i 0
def par(f:aD)(i:Nat):Int:=(f.beN.map dQ.parent).getD i 0
def lF(f:aD)(i:Nat):Nat:=(par f i).toNat
def eO(f:aD)(d:Nat):Nat:=((f.beK.map fC.machine).getD d 0).toNat
def mdl(f:aD)(d:Nat):Nat:=((f.beK.map fC.model).getD d 0).toNat
def ext(f:aD)(d:Nat):Int:=(f.beL.map eE.bfB).getD (mdl f d) 0
def FH(f:aD)(v:Nat):Nat:=((f.beM.map iY.beX).getD v 0).toNat
def a8W:dV:=⟨[],0,0,0,0,0,0,0,0,[],[],⟨false,[],[]⟩,⟨false,[],[]⟩⟩
def cL(f:aD)(v:Nat):dV:=f.beO.getD (FH f v) a8W
def upN(f:aD):Nat→Nat→Nat
 |0,i=>i
 |k+1,i=>lF f (upN f k i)
theorem getD_at{α β:Type}{l:List α}{g:α→β}{i:Nat}{b:β}(h:i<Z' l):(l.map g).getD i b=g l[i]:=by
 simp[bgF,h]
structure VF(f:aD):Prop where
 small:Small f
 root:0<Z' f.beN∧lvl f 0=0∧par f 0=-1
 dom:∀i,0<i→i<Z' f.beN→0≤par f i∧lF f i<i∧lvl f (lF f i)=lvl f i-1∧1≤lvl f i∧lvl f i≤4
 drive:∀d (h:d<Z' f.beK),0≤(f.beK[d]).model∧mdl f d<Z' f.beL∧0≤(f.beK[d]).machine∧eO f d<Z' f.beN∧lvl f (eO f d)=4
 beX:∀p∈f.beO,1≤p.k∧p.k≤6∧0≤p.m∧p.m≤4∧p.k+p.m≤8∧p.s0=0∧(∀l,0≤p.spread l∧p.spread l≤8)∧∀m∈p.beL,0≤m∧m<Z' f.beL
 volume:∀v (h:v<Z' f.beM),0≤(f.beM[v]).beX∧FH f v<Z' f.beO
 model:∀m∈f.beL,1≤m.bfB∧m.bfB≤16
theorem a2T{p:dV}{n:Nat}(h:oA n p=true):∀m∈p.beL,0≤m∧m<n:=by
 intro m j;simp only[oA,bgU]at h;obtain⟨i,hi,rfl⟩:=bhV j;have:=bgY.1 h.2 i (bgW.2 hi);rw[bgU]at this;have e:=within_iff.1 this.1;simp only[bgF,bgH hi,biE]at e;omega
theorem E9{x:Int}(e:1≤x)(j:x≤4):IntKind.i64.wrap (x-1)=x-1:=wrap_i64 Om Om
theorem VF.of{f:aD}(h:dU f=true):VF f:=by
 simp only[dU,bgU]at h;obtain⟨⟨⟨U,j⟩,⟨⟨⟨R,A⟩,y⟩,B⟩,E⟩,-⟩:=h;simp only[tX,bgU,decide_eq_true_eq]at U;obtain⟨⟨⟨⟨⟨⟨s0,s1⟩,s2⟩,s3⟩,s4⟩,s5⟩,s6⟩:=U;cases e:f.beN with
 |nil=>rw[uJ,e]at j;cases j
 |cons r t=>
  rw[uJ,e]at j;simp only[KN,bgU,decide_eq_true_eq]at j;obtain⟨⟨⟨⟨⟨⟨r1,r2⟩,r3⟩,r4⟩,r5⟩,r6⟩,x⟩:=j;have S:Z' f.beN=Z' t+1:=by rw[e];rfl
  refine⟨⟨s1,s2,s3,s4,s5,s6⟩,⟨by omega,by rw[lvl,e];exact r2,by rw[par,e];exact r3⟩,?_,?_,?_,?_,?_⟩
  ·intro i h0 hi;obtain⟨k,rfl⟩:∃k,i=k+1:=⟨i-1,by omega⟩;have I:k<Z' t:=Om;have:=bgY.1 x k (bgW.2 I);rw[bgH I]at this;simp only[SC,bgU,decide_eq_true_eq]at this;obtain⟨⟨⟨⟨J,F⟩,K⟩,d4⟩,d5⟩:=this;obtain⟨p0,p1⟩:=within_iff.1 J;obtain⟨W,X⟩:=within_iff.1 K;have u:par f (k+1)=(t[k]).parent:=by rw[par,e];simp[bgF,I]
   have w:lvl f (k+1)=(t[k]).level:=by rw[lvl,e];simp[bgF,I]
   rw[E9 W X]at F;have Y:lvl f (t[k]).parent.toNat=(t[k]).level-1:=F;refine⟨by rw[u];exact p0,?_,?_,by rw[w];exact W,by rw[w];exact X⟩
   ·rw[lF,u];omega
   ·rw[lF,u,w];exact Y
  ·intro d j;have:=bgY.1 y _ (bgD j);simp only[nC,bgU,decide_eq_true_eq]at this;obtain⟨⟨J,F⟩,K⟩:=this;have a1:=within_iff.1 J;have a2:=within_iff.1 F;have u:mdl f d=(f.beK[d]).model.toNat:=by rw[mdl,getD_at j]
   have w:eO f d=(f.beK[d]).machine.toNat:=by rw[eO,getD_at j]
   refine⟨a1.1,by rw[u];omega,a2.1,by rw[w];omega,by rw[w];exact K⟩
  ·intro p hp;have M:=bgY.1 B p hp;have Z:=a2T M;simp only[oA,VA,bgU,decide_eq_true_eq,List.all_cons,List.all_nil,biG]at M;obtain⟨⟨⟨⟨⟨⟨⟨⟨k1,m1⟩,km⟩,q1⟩,z0⟩,sp⟩,-⟩,-⟩,-⟩:=M;obtain⟨g0,g1,g2,g3,g4⟩:=sp;have N:=within_iff.1 k1;have O:=within_iff.1 m1;have b3:=within_iff.1 g0;have b4:=within_iff.1 g1;have b5:=within_iff.1 g2;have b6:=within_iff.1 g3;have b7:=within_iff.1 g4;refine⟨N.1,N.2,O.1,O.2,km,z0,λl=>?_,Z⟩;unfold dV.spread;split<;>omega
  ·intro v V;have:=bgY.1 E _ (bgD V);have a1:=within_iff.1 this;have u:FH f v=(f.beM[v]).beX.toNat:=by rw[FH,getD_at V]
   exact⟨a1.1,by rw[u];omega⟩
  ·intro m hm;have:=bgY.1 A m hm;simp only[pQ,bgU]at this;exact within_iff.1 this.1.1
theorem JX{f:aD}(h:VF f){d:Nat}(j:d<Z' f.beK):∀{k:Nat},k≤4→upN f k (eO f d)<Z' f.beN∧lvl f (upN f k (eO f d))=4-(k:Int)
 |0,_=>⟨(h.drive d j).2.2.2.1,by rw[upN,(h.drive d j).2.2.2.2];rfl⟩
 |k+1,y=>by
  obtain⟨w,u⟩:=JX h j (k:=k) Om;have l:0<upN f k (eO f d):=by
   rcases biC (upN f k (eO f d))with e|e
   ·rw[e,h.root.2.1]at u;omega
   ·exact e
  obtain⟨g1,g2,g3,g4,x⟩:=h.dom _ l w;refine⟨by rw[upN];omega,?_⟩;rw[upN,g3,u];omega
def jE(f:aD)(d:Nat)(level:Int):Nat:=upN f (4-level.toNat) (eO f d)
def nI(f:aD)(v:Nat):Int:=(cL f v).k+(cL f v).m
def n0:=bO [1] Proofs.Tryz.f54
def Q1:=aA n0 0
def Q3:=aA n0 1
def OT:aC:=(sq Q1 (sq Q3 .ret))
def alM:aX:=⟨1,6,OT,[.tmp 2]⟩
def WQ:=bO [2] Proofs.Tryz.f115
def akS:=aA WQ 0
def akT:=cA WQ 0
def akU:=aA WQ 1
def WP:aC:=(sq akS (dq akT (sq akU .ret)))
def aKB:aX:=⟨2,21,WP,[.tmp 4]⟩
def mY:=bO [2] Proofs.Tryz.f25
def alC:=aA mY 0
def alD:=aA mY 1
def alE:=aA mY 2
def alF:=aA mY 3
def alG:=aA mY 4
def alH:=aA mY 5
def alI:=aA mY 6
def alJ:=cA mY 0
def alK:=aA mY 7
def alL:=cA mY 1
def fv:=aA mY 8
def Qs:aC:=(fH alH 17 0 fv (sq alI (dq alJ (sq alK (.cond (Tm 37) (.draw alL) .skip)))))
def Qt:=aA mY 9
def WT:aC:=(sq alC (dA alD 9 alE (sq alF (.seq (cE alG 0 Qs) (sq Qt .ret)))))
def kc:aX:=⟨2,53,WT,[.tmp 4]⟩
def kY:=bO [2] Proofs.Tryz.f85
def Qk:=aA kY 0
def Ql:=aA kY 1
def Qm:=aA kY 2
def Qn:=aA kY 3
def Qo:=aA kY 4
def Qp:=aA kY 5
def Qq:=aA kY 6
def MB:=aA kY 7
def MC:=aA kY 8
def Qr:=aA kY 9
def HB:=aA kY 10
def Dr:aC:=(fH Qq 23 2 HB (sq MB (sq MC (.cond (Tm 33) (.region Qr) .skip))))
def WR:=aA kY 11
def Ds:aC:=(fH Qn 17 0 WR (sq Qo (cE Qp 2 Dr)))
def WS:=aA kY 12
def OR:aC:=(sq Qk (sq Ql (.seq (cE Qm 0 Ds) (sq WS .ret))))
def akW:aX:=⟨2,43,OR,[.tmp 4]⟩
def nN:=bO [3] Proofs.Tryz.f83
def Qv:=aA nN 0
def Qw:=cA nN 0
def Qx:=aA nN 1
def Qy:=aA nN 2
def Qz:=aA nN 3
def MD:=aA nN 4
def MF:=aA nN 5
def fx:=aA nN 6
def Q0:=aA nN 7
def Qu:aC:=(fH Qz 32 0 Q0 (sq MD (sq MF (.cond (Tm 44) (sq fx .ret) .skip))))
def Du:=aA nN 8
def OS:aC:=(sq Qv (.seq (dq Qw (.cond (Tm 18) (sq Qx .ret) .skip)) (.seq (cE Qy 0 Qu) (sq Du .ret))))
def fw:aX:=⟨3,50,OS,[.cell 6 (some 3),.tmp 7]⟩
def n6:=bO [] Proofs.Tryz.f116
def Rf:=aA n6 0
def Rh:=aA n6 1
def OU:aC:=(sq Rf (sq Rh .ret))
def alW:aX:=⟨2,10,OU,[.cell 5 (some 3)]⟩
def dB:=bO [3,75,91,134,167] Proofs.Tryz.f84
def alY:=aA dB 0
def alZ:=cA dB 0
def amA:=aA dB 1
def amB:=aA dB 2
def amC:=aA dB 3
def amD:=aA dB 4
def amE:=aA dB 5
def amF:=aA dB 6
def alX:aC:=(fH amC 43 0 amF (sq amD (.region amE)))
def amG:=aA dB 7
def Ri:=aA dB 8
def Rj:=cA dB 1
def Rk:=aA dB 9
def ER:=aA dB 10
def MH:=aA dB 11
def MI:=aA dB 12
def Rl:=aA dB 13
def gg:=aA dB 14
def Rm:=aA dB 15
def gh:=aA dB 16
def gi:=aA dB 17
def Rn:=aA dB 18
def Ro:=aA dB 19
def Rp:=aA dB 20
def MG:aC:=(dD Rn 106 4 Rp (.region Ro))
def MJ:=aA dB 21
def AD:aC:=(fH ER 65 2 MJ (sq MH (jA MI 70 (sq Rl (.exit 3)) (jA gg 86 (.region Rm) (sq gh (cE gi 4 MG))))))
def Rq:=aA dB 22
def Rr:=aA dB 23
def Rs:=aA dB 24
def Rt:=aA dB 25
def Ru:=aA dB 26
def Rv:=aA dB 27
def gj:=aA dB 28
def ge:aC:=(fH Rs 124 6 gj (sq Rt (sq Ru (.cond (Tm 129) (.region Rv) .skip))))
def Rw:=aA dB 29
def Rx:=aA dB 30
def Ry:=aA dB 31
def Rz:=aA dB 32
def gk:=aA dB 33
def MK:=aA dB 34
def R0:=aA dB 35
def ML:=aA dB 36
def gf:aC:=(fH Ry 143 8 ML (sq Rz (sq gk (sq MK (.cond (Tm 162) (.region R0) .skip)))))
def R1:=aA dB 37
def WW:aC:=(sq alY (dq alZ (sq amA (.seq (cE amB 0 alX) (sq amG (sq Ri (dq Rj (.seq (cE Rk 2 AD) (sq Rq (.seq (cE Rr 6 ge) (sq Rw (.seq (cE Rx 8 gf) (sq R1 .ret)))))))))))))
def aZP:aX:=⟨3,171,WW,[.tmp 6]⟩
def gD:=bO [3,28,44,74] Proofs.Tryz.f55
def alN:=aA gD 0
def alO:=aA gD 1
def alP:=aA gD 2
def xn:=aA gD 3
def alQ:=aA gD 4
def alR:=aA gD 5
def alS:=aA gD 6
def alT:=aA gD 7
def alU:=aA gD 8
def alV:=aA gD 9
def fz:=aA gD 10
def Q5:=aA gD 11
def Q6:=aA gD 12
def ga:=aA gD 13
def Q4:aC:=(fH alT 32 1 ga (sq alU (.seq (sq alV (sq fz (.cond (Tm 41) (sq Q5 (.exit 2)) .skip))) (.region Q6))))
def Q7:=aA gD 14
def Q8:=aA gD 15
def Q9:=aA gD 16
def Ra:=aA gD 17
def Rb:=aA gD 18
def Rc:=aA gD 19
def gb:=aA gD 20
def fy:aC:=(fH Q9 61 3 gb (sq Ra (sq Rb (.cond (Tm 70) (.region Rc) .skip))))
def Re:=aA gD 21
def WV:aC:=(sq alN (.seq (.block 0 (sq alO (.cond (Tm 14) (sq alP .ret) (sq xn (.cond (Tm 18) (sq alQ .ret) .skip))))) (sq alR (.seq (cE alS 1 Q4) (sq Q7 (.seq (cE Q8 3 fy) (sq Re .ret)))))))
def aKC:aX:=⟨3,78,WV,[.tmp 6]⟩
def nz:=bO [3] Proofs.Tryz.f28
def Qi:=aA nz 0
def Qj:=aA nz 1
def OQ:aC:=(sq Qi (sq Qj .ret))
def akV:aX:=⟨3,17,OQ,[.tmp 6]⟩
theorem aQR{C:Ctx}(h:∀f:aD,f.Ok→aI C 96 [.agg f.cells] .nil (aK (.int .i64 (FJ f))))(f:aD)(e:f.Ok) :
  OT.wp C (aW alM.res (cT (.bool (dU f)))) (PF.args [.agg f.cells]) .nil:=by
 simp only[go_sem,OT,Q1,Q3,alM];refine aB (h f e) Ev ?_;simp only[go_sem];refine bM Ev ?_;unfold FJ;cases dU f<;>rfl
theorem oO{f:aD}{d:Nat}(h:d<Z' f.beK):(f.beK.map fC.cells)[d]?=some (f.beK[d]).cells:=by simp[h]
theorem lZ{f:aD}{d:Nat}(h:d<Z' f.beN):(f.beN.map dQ.cells)[d]?=some (f.beN[d]).cells:=by simp[h]
theorem uV{f:aD}{d:Nat}(h:d<Z' f.beM):(f.beM.map iY.cells)[d]?=some (f.beM[d]).cells:=by simp[h]
theorem rD{f:aD}{d:Nat}(h:d<Z' f.beO):(f.beO.map dV.cells)[d]?=some (f.beO[d]).cells:=by simp[h]
theorem Ly{f:aD}{d:Nat}(h:d<Z' f.beL):(f.beL.map eE.cells)[d]?=some (f.beL[d]).cells:=by simp[h]
theorem QX{f:aD}{d:Nat}(h:d<Z' f.beN):(f.beN[d]).level=lvl f d:=by rw[lvl,getD_at h]
theorem C8{f:aD}{d:Nat}(h:d<Z' f.beN):(f.beN[d]).parent=par f d:=by rw[par,getD_at h]
theorem VF.QY{f:aD}(h:VF f){d:Nat}(e:d<Z' f.beK):(f.beK[d]).machine=((eO f d:Nat):Int):=by
 have:=(h.drive d e).2.2.1;rw[eO,getD_at e];omega
theorem VF.JI{f:aD}(h:VF f){d:Nat}(e:d<Z' f.beK):(f.beK[d]).model=((mdl f d:Nat):Int):=by
 have:=(h.drive d e).1;rw[mdl,getD_at e];omega
theorem VF.JL{f:aD}(h:VF f){v:Nat}(e:v<Z' f.beM):(f.beM[v]).beX=((FH f v:Nat):Int):=by
 have:=(h.volume v e).1;rw[FH,getD_at e];omega
theorem VF.j5{f:aD}(h:VF f){i:Nat}(e:0<i)(hi:i<Z' f.beN):par f i=((lF f i:Nat):Int):=by
 have:=(h.dom i e hi).1;rw[lF];omega
theorem qB{f:aD}(h:VF f){v:Nat}(j:v<Z' f.beM):∃e:FH f v<Z' f.beO,f.beO[FH f v]=cL f v:=by
 have e:=(h.volume v j).2;exact⟨e,by simp[cL,bgF,e]⟩
theorem aXH{C:Ctx}(f:aD)(j:VF f)(v:Nat)(h:v<Z' f.beM) :
  WP.wp C (aW aKB.res (cT (.int .i64 (nI f v)))) (PF.args [.agg f.cells,.int .i64 v]) .nil:=by
 obtain⟨l,he⟩:=qB j h;have e:=j.beX _ (bgD l);rw[he]at e;have u:IntKind.i64.wrap ((cL f v).k+(cL f v).m)=(cL f v).k+(cL f v).m:=wrap_i64 Om Om;simp only[go_sem,WP,akS,aKB];refine bA .nil cK a_ ?_;simp only[go_sem,akT,uV h,j.JL h,rD l,he];refine aQ λo w=>?_;simp only[go_sem,akU,u];refine⟨a_,?_⟩;exact tE (n:=(cL f v).k+(cL f v).m) Ev rfl
structure aFO(C:Ctx):Prop where
 valid:∀f:aD,f.Ok→aI C 161 [.agg f.cells] .nil (aK (.bool (dU f)))
 ri:∀(f:aD)(v:Nat),VF f→v<Z' f.beM→aI C 156 [.agg f.cells,.int .i64 v] .nil (aK (.int .i64 (nI f v)))
def pick(n:Nat)(p:Nat→Bool):List Int:=((bfZ n).filter p).map λ(i:Nat)=>(i:Int)
theorem aHU(l:List Int)(x:Int):bS l++[[.int .i64 x]]=bS (l++[x]):=by unfold bS;rw[bhM];rfl
theorem gV(l:List Int):(bS l).length=Z' l:=by unfold bS;rw[bfY]
theorem Iv{t:Nat}{H:PH}{v:PV}{l:List Int}{F:PF}(h:bH H 1 v (bS l))(e:F t=some v):aW [.tmp t] (cT (ints l)) .ret F H:=qW (.inr rfl) h e
theorem d8{t:Nat}{H:PH}{F:PF}(e:F t=some .aH):aW [.tmp t] (cT (ints [])) .ret F H:=qW (rows:=[]) (.inr rfl) .nil e
def toS(f:aD):Spec:=λname vs=>match name,vs with
 |155,[_,.int _ d,.int _ l]=>some ([],λ_=>aK (.int .i64 (jE f d.toNat l:Nat)))
 |156,[_,.int _ v]=>some ([],λ_=>aK (.int .i64 (nI f v.toNat)))
 |_,_=>none
theorem aXJ(f:aD)(v:Nat):toS f 156 [.agg f.cells,.int .i64 v]=some ([],λ_=>aK (.int .i64 (nI f v))):=rfl
section
variable (o s:Nat) (rs:List (List PV))
@[go_sem] theorem bbN(k:IntKind)(n:Int):PV.frz o s rs (.int k n)=.int k n:=(rfl)
@[go_sem] theorem a9U(b:Bool):PV.frz o s rs (.bool b)=.bool b:=(rfl)
@[go_sem] theorem bbR(l:List UInt8):PV.frz o s rs (.str l)=.str l:=(rfl)
@[go_sem] theorem a9V:PV.frz o s rs .aH=.aH:=(rfl)
@[go_sem] theorem bcU(n:Nat)(r:List (List PV)):PV.frz o s rs (.sl n r)=.sl n r:=(rfl)
@[go_sem] theorem a9W(c:List PV):PV.frz o s rs (.bE c)=.bE c:=(rfl)
@[go_sem] theorem bbQ(q z i c:Nat):PV.frz o s rs (.ptr q z i c)=.ptr q z i c:=(rfl)
@[go_sem] theorem bcT(n:Nat)(c:List PV):PV.frz o s rs (.fn n c)=.fn n c:=(rfl)
@[go_sem] theorem bbO(q:Nat):PV.frz o s rs (.map q)=.map q:=(rfl)
@[go_sem] theorem bbP(q z e len:Nat):PV.frz o s rs (.osl q z e len)=if q=o then(if z=s∧e+len≤rs.length then .sl s ((rs.drop e).take len)else .junk)else .osl q z e len:=(rfl)
end
def tH(s:Nat)(rows:List (List PV))(r:PV)(H:PH):Prop:=
 (rows=[]∧r=.aH∧H=PH.nil)∨∃q rs,r=.osl q s 0 rows.length∧H=PH.nil.set q (.rows s rs)∧Z' rows≤Z' rs∧rs.take rows.length=rows
theorem G5(q s:Nat)(rs:List (List PV)):(PH.nil.set q (.rows s rs)).frz q s rs=PH.nil:=PH.ext λo=>by
 rw[IA];by_cases e:o=q
 ·rw[aL e];rfl
 ·rw[aE e,aR,aE e];rfl
section
variable {C:Ctx} {K:cQ} {F:PF} {H:PH} {s:Nat} {v:PV} {rows:List (List PV)}
theorem tH.over{r:PV}{H':PH}(h:tH s rows r H')(u:qM H .nil H'):bH (H.over .nil H') s r rows∧∀o x,H o=some x→(H.over .nil H') o=some x:=by
 rcases h with⟨e,l,rfl⟩|⟨q,rs,e,rfl,h3,h4⟩
 ·rw[PH.nZ];exact⟨.inl ⟨e,l⟩,λo x h=>h⟩
 ·rw[PH.tU];have hq:H q=none:=u q (.rows s rs) (by simp only[aR,if_true]) rfl;refine⟨.inr ⟨q,rs,e,by simp only[aR,if_true],h3,h4⟩,λo x j=>?_⟩;have:o≠q:=by rintro rfl;rw[hq]at j;cases j
  simp only[aR,aE this,j]
theorem VR{t:Nat}{e:oW}(he:e=.normal∨e=.ret)(h:bH H s v rows)(j:F t=some v):aW [.tmp t] (tH s rows) e F H:=by
 rcases h with⟨rfl,rfl⟩|⟨q,rs,rfl,h1,h2,h3⟩
 ·exact bB (vs:=[.aH]) he .nil (by rw[qE,tV,j,vJ]) a_ (.inl ⟨rfl,rfl,rfl⟩)
 ·exact bB (vs:=[.osl q s 0 rows.length]) he (PH.nil.set q (.rows s rs)) (by rw[qE,tV,j,vJ]) (e_ a_ h1) (.inr ⟨q,rs,rfl,rfl,h2,h3⟩)
theorem RJ{t:Nat}{e:oW}(he:e=.normal∨e=.ret)(j:F t=some .aH):aW [.tmp t] (tH s []) e F H:=VR he .nil j
theorem aPQ{t:Nat}{e:oW}{r:PV}{H':PH}(he:e=.normal∨e=.ret)(h:tH s rows r H')(l:F t=some r):aW [.tmp t] (tH s rows) e F (H.over .nil H'):=by
 refine bB (vs:=[r]) he H' (by rw[qE,tV,l,vJ]) (λo x j=>?_) h;rw[vH,j]
theorem aI.freeze{name:Nat}{args:List PV}(h:aI C name args H (tH s rows)):aI C name args H (aK (.sl s rows)):=
 ⟨h.1,λE w vs J hW x=>(h.2 E w vs J hW x).mono λe R he=>by
  obtain⟨u,pv,B,H',rfl,j,A,y,M⟩:=he;rcases M with⟨rfl,rfl,rfl⟩|⟨q,rs,rfl,rfl,h3,h4⟩
  ·exact⟨u,_,B,_,rfl,j,(Co.nil s).sound A,y,rfl,rfl⟩
  ·have N:mP (PF.nil.set 0 (.osl q s 0 rows.length)) (PH.nil.set q (.rows s rs)) _ _:=.step q (s:=s) (rs:=rs) (by simp only[aR,if_true]) (.refl _ _);obtain⟨I,k1,k2,O⟩:=N.sound j;have l:=O (λ_=>u) (λi p hi=>by
    rw[qK]at hi;split at hi
    ·cases hi;exact A
    ·cases hi) 0 (.sl s rows) (by rw[tT,qK,aL rfl,bhD,zV h3,h4])
   rw[G5]at k1 k2;exact⟨u,_,I,_,rfl,k1,l,y.trans k2,rfl,rfl⟩⟩
theorem iH.of:∀{E:Env}(ps:List PV)(vs:List Value),Z' vs=Z' ps→(∀(i:Nat) p v,ps[i]?=some p→vs[i]?=some v→bF E p v)→iH E ps vs
 |_,[],[],_,_=>.nil
 |_,[],_::_,h,_=>by simp at h
 |_,_::_,[],h,_=>by simp at h
 |_,p::ps,v::vs,h,k=>.cons (k 0 p v rfl rfl) (iH.of ps vs (by simpa using h) λi q u a b=>k (i+1) q u (by simpa using a) (by simpa using b))
theorem cS.same{E:Env}{w y:World}(hW:cS E H w)(J:w.heap.size≤y.heap.size)(hb:∀b,b<w.heap.size→H b=none→y.heap[b]?=w.heap[b]?)(I:∀o x,H o=some x→y.heap[o]?=w.heap[o]?):cS E H y:=by
 have l:∀b,b<w.heap.size→y.heap[b]?=w.heap[b]?:=λb hlt=>by
  cases e:H b with
  |none=>exact hb b hlt e
  |some x=>exact I b x e
 refine⟨λb cs h=>?_,λo x h=>?_,λo n h=>?_⟩
 ·obtain⟨j,ty,B,u⟩:=hW.g b cs h;exact⟨j,ty,B,(l b (bkE.1 u).1).trans u⟩
 ·obtain⟨j,u⟩:=hW.h o x h;exact⟨Nat.lt_of_lt_of_le j J,u.mono (.refl E) (l o j)⟩
 ·obtain⟨A,ty,B,j,u⟩:=hW.s o n h;exact⟨A,ty,B,(l o (bkE.1 j).1).trans j,u⟩
inductive Plain:PV→Prop
 |int (k:IntKind) (n:Int):Plain (.int k n)
 |bool (b:Bool):Plain (.bool b)
 |str (l:List UInt8):Plain (.str l)
theorem Plain.rep{v:PV}(h:Plain v){E e:Env}{u:Value}(r:bF E v u):bF e v u:=by
 cases h<;>cases r
 ·exact .int _ _
 ·exact .bool _
 ·exact .str _
theorem aI.a5P{name o:Nat}{rs:List (List PV)}{args:List PV}(X:Plain v)(h:aI C name (args.map (PV.frz o s rs)) .nil (aK v)) :
  aI C name args (PH.nil.set o (.rows s rs)) (λr H'=>r=v∧H'=PH.nil.set o (.rows s rs)):=by
 refine⟨h.1,λE w vs O hW I=>?_⟩;have Y:mP (PF.args args) (PH.nil.set o (.rows s rs)) _ _:=.step o (s:=s) (rs:=rs) (by simp only[aR,if_true]) (.refl _ _);obtain⟨M,k1,k2,Z⟩:=Y.sound hW;rw[G5]at k1 k2;have B:=I.len;have J:iH M (args.map (PV.frz o s rs)) vs.toList:=by
  refine iH.of _ _ (by rw[bfY];exact B) λi p u U W=>?_;have:=Z (λi=>(vs.toList[i]?).getD undef) (λj q N=>by have S:=(bhG.1 N).1;have A:j<Z' vs.toList:=Om;simp only[bgH A,biE];exact I.at_ j q _ N (bgH A)) i p (by rw[tT,args_at,←bgT];exact U)
  simp only[W,biE]at this;exact this
 refine(h.2 M w vs (k2.env.num.trans O) k1 J).mono λe w' he=>?_;obtain⟨u,pv,E2,H2,rfl,R,V,y,rfl,rfl⟩:=he;have l:∀b,b<w.heap.size→w'.heap[b]?=w.heap[b]?:=λb hb=>y.block b hb rfl;refine⟨u,pv,E,_,rfl,hW.same y.size (λb hb _=>l b hb) (λq x hq=>l q (hW.h q x hq).1),X.rep V,⟨.refl E,y.os,y.tape,y.output,y.size,λb hb _=>l b hb,λq x hq=>.inl ⟨x,hq⟩,λb cs hb=>.inl hb⟩,rfl,rfl⟩
theorem aqY{name o:Nat}{rs:List (List PV)}{args:List aS}{vs:List PV}{d:Option Nat}{K:PF→PH→Prop}(u:Plain v)(h:aI C name (vs.map (PV.frz o s rs)) .nil (aK v))(e:H o=some (.rows s rs))(j:aS.evs F args=some vs)
  (l:K (F.put d v) H):kF C name args [] d K F H:=by
 refine eR (h.a5P u) j (e_ a_ e) ?_;rintro r H' ⟨rfl,rfl⟩ -;rw[PH.over_self _ (e_ a_ e)];exact l
theorem aST{Hs:PH}{S:Spec}{name o:Nat}{rs:List (List PV)}{vs:List PV}{R:PH→PV→PH→Prop}{args:List aS}{st:Bool}{d:Option Nat}{K:PF→PH→Prop}(u:S name vs=some ([o],R))(A:Plain v)(y:H o=some (.rows s rs))
  (h:aI C name (vs.map (PV.frz o s rs)) .nil (aK v)) (e:R (PH.nil.set o (.rows s rs)) v (PH.nil.set o (.rows s rs))) (j:∀r H',R (PH.nil.set o (.rows s rs)) r H'→r=v∧H'=PH.nil.set o (.rows s rs)) (w:aS.evs F args=some vs) (l:Hs.le H) (x:K (F.put d v) H) :
  dOp C Hs S st (.call name args) d K F H:=SA u y (h.a5P A) e j w l x
theorem Ul{name t:Nat}{R:PV→PH→Prop}{d:Option Nat}{K:PF→PH→Prop}(h:aI C name [.sl s rows] .nil R)(x:bH H s v rows)(w:F t=some v)
  (l:∀(e:PF)(j:PH),(∀i u,F i=some u→Pure u→e i=some u)→∀r H',R r H'→qM j .nil H'→K (e.put d r) (j.over .nil H')):kF C name [.tmp t] [] d K F H:=by
 rcases x with⟨rfl,rfl⟩|⟨q,rs,rfl,h1,h2,h3⟩
 ·exact .inl ⟨[.aH],.nil,R,by rw[IV,zc,w,je];rfl,a_,h.aJQ (.inl ⟨rfl,rfl⟩),l F H λi u hi _=>hi⟩
 ·refine .inr ⟨_,_,.step q h1 (.refl _ _),[.sl s rows],.nil,R,?_,a_,h,l _ _ λi u hi y=>?_⟩
  ·simp only[IV,je,zc,tT,w,bhD,zV h2,h3,bhH]
  ·rw[tT,hi,bhD,y q s rs]
end
def tR(A:List Int)(k:Nat):List Int:=A.take k++bgA (Z' A-k) 0
theorem aqF(A:List Int):tR A 0=bgA A.length 0:=by simp[tR]
theorem aGM(A:List Int):tR A A.length=A:=by simp[tR]
theorem T9(A:List Int){k:Nat}(h:k≤Z' A):(tR A k).length=Z' A:=by simp[tR];omega
theorem aGN(A:List Int){k:Nat}(h:k<Z' A):(tR A k).set k A[k]=tR A (k+1):=by
 unfold tR;rw[bjU _ _ (by simp;omega),bgP,biP Om,Nat.sub_self,show A.length-k=(Z' A-(k+1))+1 by omega,List.replicate_succ,List.set_cons_zero,
  bhW h,bgX]
 rfl
theorem oS(l:List Int)(i:Nat)(x:Int):(bS l).set i [.int .i64 x]=bS (l.set i x):=by unfold bS;rw[List.map_set]
theorem yF(n:Nat):bgA n [PV.int .i64 0]=bS (bgA n 0):=by simp[bS]
theorem rU{l:List Int}{i:Nat}(h:i<Z' l):(bS l)[i]?=some [.int .i64 l[i]]:=by simp[bS,h]
theorem Ai(l:List Int):ints l=.sl 1 (bS l):=rfl
def rZ(f:aD)(room:List Int)(d:Nat):Int:=if room.length=f.beK.length then min (max (room.getD d 0) 0) (ext f d)else ext f d
def jG(f:aD)(room:List Int):List Int:=(bfZ f.beK.length).map (rZ f room)
def uR(f:aD)(room:List Int):List Int:=if dU f then jG f room else[]
theorem pS(f:aD)(room:List Int):(jG f room).length=Z' f.beK:=by simp[jG]
theorem VT(f:aD)(room:List Int){d:Nat}(h:d<(jG f room).length):(jG f room)[d]=rZ f room d:=by simp[jG]
theorem VF.Wg{f:aD}(h:VF f){d:Nat}(j:d<Z' f.beK):∃e:mdl f d<Z' f.beL,(f.beL[mdl f d]).bfB=ext f d:=by
 have e:=(h.drive d j).2.1;exact⟨e,by rw[ext,getD_at e]⟩
def trF(f:aD)(room:List Int)(o k:Nat):PF:=(((((PF.nil.set 1 (ints room)).set 2 (.bE f.cells)).set 5 (.osl o 1 0 f.beK.length)).set 15 (.int .i64 (Z' f.beK:Nat))).set 16 (.int .i64 k))
theorem awQ(a b:Int):(if b<a then b else a)=min a b:=by
 rw[Int.min_def];by_cases h:b<a
 ·rw[aL h,aE Om]
 ·rw[aE h,aL Om]
theorem alB{C:Ctx}(L:aFO C)(f:aD)(N:f.Ok)(room:List Int) :
  WT.wp C (aW kc.res (tH 1 (bS (uR f room)))) (PF.args [.agg f.cells,ints room]) .nil:=by
 simp only[go_sem,WT,alC,alD,kc];refine aB (L.valid f N) Ev ?_;unfold uR;cases S:dU f with
 |false =>simp only[go_sem,bgS,alE];exact RJ (.inr rfl) Ev
 |true=>
  have hV:=VF.of S;have M:=hV.small.beK;have F:(Z' f.beK:Int)*((8:Nat):Int)≤140737488355328:=Om;have I:(Z' f.beK:Int)≤9223372036854775807:=Om;simp only[go_sem,bgJ,alF,bfY,F,I];refine aQ λo X=>?_;simp only[go_sem,alG];have u:=pS f room;have E:=λd h=>VT f room (d:=d) h;generalize V:jG f room=A at *
  refine wp_loop (α:=Nat) (λk=>trF f room o k) (λk=>PH.nil.set o (.rows 1 (bS (tR A k)))) (λk=>k≤Z' f.beK) (λk=>Z' f.beK-k) 0 (bgE _) ?_ ?_ ?_
  ·unfold trF;exact Lq
  ·refine e_ a_ ?_;simp only[go_sem];rw[aqF,u,yF]
  intro k W;simp only[go_sem,Qs,alH,trF];by_cases hlt:k<Z' f.beK
  ·have e:(k:Int)<(Z' f.beK:Nat):=Om;obtain⟨R,he⟩:=hV.Wg hlt;have O:=T9 A (k:=k) Om;have w:k<Z' A:=Om;have U:=rU (l:=tR A k) (i:=k) Om;have j:=aGN A w;rw[E k w]at j;simp only[go_sem,e,alI];refine bA .nil cK a_ ?_;simp only[go_sem,alJ,oO hlt,hV.JI hlt,Ly R,he,e,bgL,U];refine⟨a_,?_⟩;simp only[go_sem,alK,bfY];by_cases c:Z' room=Z' f.beK
   ·have y:((Z' room:Int)==(Z' f.beK:Int))=true:=bT Om;have x:k<Z' room:=Om;have J:(room.map λn=>[PV.int .i64 n])[k]?=some [.int .i64 room[k]]:=by simp[x]
    simp only[go_sem,y];refine bA .nil cK a_ ?_;have K:(bS ((tR A k).set k (ext f k)))[k]?=some [.int .i64 (ext f k)]:=by rw[←oS,List.getElem?_set_self (by rw[gV];omega)]
    simp only[go_sem,alL,J,e,bgL,K,max_eq,awQ,List.set_set,oS];refine⟨a_,?_⟩;simp only[go_sem,fv,wZz k];refine aG (k+1) hlt Om ?_ ?_
    ·exact Lq
    ·refine e_ a_ ?_;rw[←j,rZ,aL c,bgF,bgH x,biE];simp only[go_sem]
   ·have y:((Z' room:Int)==(Z' f.beK:Int))=false:=bD Om;simp only[go_sem,y,fv,wZz k,oS];refine aG (k+1) hlt Om ?_ ?_
    ·exact Lq
    ·refine e_ a_ ?_;rw[←j,rZ,aE c];simp only[go_sem]
  ·have e:¬(k:Int)<(Z' f.beK:Nat):=Om;have:k=Z' f.beK:=Om;subst this;simp only[go_sem,e,Qt];have B:tR A f.beK.length=A:=by rw[←u,aGM]
   rw[B];exact VR (.inr rfl) (v:=.osl o 1 0 f.beK.length) (.inr ⟨o,bS A,by rw[gV,u],by simp only[go_sem],bgG _,bgR (bgG _)⟩) Sq
abbrev lay(l:List (List Int)):PV:=.sl 1 (l.map λr=>[ints r])
def gI(n:Nat)(xs:List Int):List Int:=(bfZ n).map λ(d:Nat)=>((xs.count (d:Int):Nat):Int)
theorem lN(n:Nat)(xs:List Int):(gI n xs).length=n:=by simp[gI]
theorem ql(n:Nat):gI n []=bgA n 0:=by
 refine bjN (by simp[gI]) λi e j=>by simp[gI]
theorem ja{n:Nat}(xs:List Int){d:Nat}(h:d<n):(gI n xs)[d]'(by rw[lN];exact h)=((xs.count (d:Int):Nat):Int):=by simp[gI]
theorem Gw{n:Nat}(xs:List Int){d:Nat}(h:d<n):(gI n xs).set d (((xs.count (d:Int):Nat):Int)+1)=gI n (xs++[(d:Int)]):=by
 refine bjN (by simp[gI]) λi j l=>?_;simp only[gI,List.getElem_set,bhY,List.getElem_range,List.count_append];by_cases e:d=i
 ·subst e;simp
 ·have:((d:Nat):Int)≠(i:Int):=Om;rw[aE e];simp[List.count_cons,this]
theorem IT{n:Nat}(xs:List Int){x:Int}(h:¬(0≤x∧x<n)):gI n (xs++[x])=gI n xs:=by
 refine bjN (by simp[gI]) λi j e=>?_;simp only[gI,bhY,List.getElem_range,List.count_append];have hi:i<n:=by simpa[gI]using e
 have:x≠(i:Int):=Om;simp[List.count_cons,this]
def kE(f:aD)(l:List (List Int)):List Int:=gI f.beK.length l.flatten
structure qO(l:List (List Int)):Prop where
 rows:Z' l≤16777216
 all:Z' l.flatten≤16777216
theorem zT(l:List (List Int)){i:Nat}(h:i<Z' l):(l.take (i+1)).flatten=(l.take i).flatten++l[i]:=by
 rw[bhW h,List.flatten_append];simp only[List.flatten_cons,List.flatten_nil,bhH]
theorem IW(l:List (List Int))(i:Nat):(l.take i).flatten.length≤Z' l.flatten:=by
 have:l.flatten=(l.take i).flatten++(l.drop i).flatten:=by rw[←List.flatten_append,biZ]
 rw[this,bgB];omega
def abG(l:List (List Int))(n o i:Nat):PF:=((((PF.nil.set 5 (.osl o 1 0 n)).set 14 (lay l)).set 15 (.int .i64 (Z' l:Nat))).set 16 (.int .i64 i))
def Hh(l:List (List Int))(n o i:Nat)(row:List Int)(k:Nat):PF:=(((((((PF.nil.set 5 (.osl o 1 0 n)).set 14 (lay l)).set 15 (.int .i64 (Z' l:Nat))).set 16 (.int .i64 i)).set 20 (ints row)).set 21 (.int .i64 (Z' row:Nat))).set 22 (.int .i64 k))
theorem aQO{C:Ctx}(f:aD)(hd:Z' f.beK≤24)(l:List (List Int))(X:qO l) :
  OR.wp C (aW akW.res (cT (ints (kE f l)))) (PF.args [.agg f.cells,lay l]) .nil:=by
 have M:(Z' f.beK:Int)*((8:Nat):Int)≤140737488355328:=Om;have N:(Z' f.beK:Int)≤9223372036854775807:=Om;obtain⟨Y,Z⟩:=X;simp only[go_sem,OR,Qk,Ql,akW,bfY,M,N];refine aQ λo ho=>?_;simp only[go_sem,Qm];generalize hn:Z' f.beK=n at *
 refine wp_loop (α:=Nat) (λi=>abG l n o i) (λi=>PH.nil.set o (.rows 1 (bS (gI n (l.take i).flatten)))) (λi=>i≤Z' l) (λi=>Z' l-i) 0 (bgE _) ?_ ?_ ?_
 ·unfold abG
  (repeat' (first|exact c_|refine d_ ?_ ?_))<;>first|(simp only[go_sem,bfY]<;>rfl)|rfl
 ·refine e_ a_ ?_;simp only[go_sem,List.take_zero,List.flatten_nil];rw[ql,yF]
 intro i hi;simp only[go_sem,Ds,Qn,abG];by_cases hlt:i<Z' l
 ·have j:(i:Int)<(Z' l:Nat):=Om;have hr:(l.map λr=>[ints r])[i]?=some [ints l[i]]:=by simp[hlt]
  have I:=zT l hlt;have O:=IW l (i+1);rw[I,bgB]at O;generalize S:l[i]=row at *
  simp only[go_sem,j,Qo,hr,Qp,bfY];refine wp_loop (α:=Nat) (λk=>Hh l n o i row k) (λk=>PH.nil.set o (.rows 1 (bS (gI n ((l.take i).flatten++row.take k))))) (λk=>k≤Z' row) (λk=>Z' row-k) 0 (bgE _) ?_ ?_ ?_
  ·unfold Hh
   (repeat' (first|exact c_|refine d_ ?_ ?_))<;>first|(simp only[go_sem,bfY]<;>rfl)|rfl
  ·rw[List.take_zero,bhH];exact b_
  intro k hk;simp only[go_sem,Dr,Qq,Hh];by_cases y:k<Z' row
  ·have e:(k:Int)<(Z' row:Nat):=Om;have A:(row.map λn=>[PV.int .i64 n])[k]?=some [.int .i64 row[k]]:=by simp[y]
   have B:(l.take i).flatten++row.take (k+1)=((l.take i).flatten++row.take k)++[row[k]]:=by rw[bhW y,bgX]
   have fin:∀(F:PF),(Hh l n o i row (k+1)).le F→∀H:PH,H o=some (.rows 1 (bS (gI n ((l.take i).flatten++row.take (k+1))))) →
     fZ (λk=>Hh l n o i row k) (λk=>PH.nil.set o (.rows 1 (bS (gI n ((l.take i).flatten++row.take k))))) (λk=>k≤Z' row) (λk=>Z' row-k) (Z' row-k)
      (fN 2 (fN 1 (kJ C (aC.wp C (.region WR)) (fZ (λi=>abG l n o i) (λi=>PH.nil.set o (.rows 1 (bS (gI n (l.take i).flatten)))) (λi=>i≤Z' l) (λi=>Z' l-i) (Z' l-i) (fN 0 (kJ C (aC.wp C (.seq (.region WS) .ret)) (aW [.tmp 4] (cT (ints (kE f l)))))))))) .normal F H:=by
    intro F U H V;exact aG (k+1) y Om U (e_ a_ V)
   unfold Hh abG at fin;generalize hx:row[k]=x at *
   by_cases K:x≥0
   ·by_cases R:x<(n:Nat)
    ·obtain⟨d,rfl⟩:∃d:Nat,x=d:=⟨x.toNat,by omega⟩;have w:d<n:=Om;have E:=rU (l:=gI n ((l.take i).flatten++row.take k)) (i:=d) (by rw[lN];exact w);rw[ja _ w]at E;have W:((l.take i).flatten++row.take k).count (d:Int)≤16777216:=by refine biJ (List.count_le_length ..) ?_;rw[bgB,bgP];omega
     have J:=Gw ((l.take i).flatten++row.take k) w;rw[←B]at J;have hw:IntKind.i64.wrap (((((l.take i).flatten++row.take k).count (d:Int):Nat):Int)+1)=((((l.take i).flatten++row.take k).count (d:Int):Nat):Int)+1:=wrap_i64 Om Om;simp only[go_sem,e,MB,A,MC,K,R,Qr,bgL,E,hw,HB,oS,J,wZz k];exact fin _ Lq _ Sq
    ·have u:=IT (n:=n) ((l.take i).flatten++row.take k) (x:=x) Om;simp only[go_sem,e,MB,A,MC,K,R,HB,wZz k];exact fin _ Lq _ (by rw[B,u];simp only[go_sem])
   ·have u:=IT (n:=n) ((l.take i).flatten++row.take k) (x:=x) Om;simp only[go_sem,e,MB,A,MC,K,HB,wZz k];exact fin _ Lq _ (by rw[B,u];simp only[go_sem])
  ·have e:¬(k:Int)<(Z' row:Nat):=Om;have:k=Z' row:=Om;subst this;simp only[go_sem,e,WR,wZz i,bhA];refine aG (i+1) hlt Om ?_ ?_
   ·exact Lq
   ·refine e_ a_ ?_;rw[I];simp only[go_sem]
 ·have j:¬(i:Int)<(Z' l:Nat):=Om;have:i=Z' l:=Om;subst this;simp only[go_sem,j,WS,bhA];refine wk (.inr rfl) (o:=o) (s:=1) (k:=n) (rs:=bS (gI n l.flatten)) Sq Sq (by rw[gV,lN];omega) ⟨?_,rfl⟩;rw[Ai,bgR (by rw[gV,lN];omega),kE,hn];exact .refl _
structure Vm(C:Ctx):Prop extends aFO C where
 room:∀(f:aD)(room:List Int),f.Ok→aI C 152 [.agg f.cells,ints room] .nil (aK (ints (uR f room)))
 loads:∀(f:aD)(l:List (List Int)),Z' f.beK≤24→qO l→aI C 157 [.agg f.cells,lay l] .nil (aK (ints (kE f l)))
def JG(f:aD)(l:List (List Int)):List Int:=if dU f then kE f l else[]
structure lK where
 kind:Int
 vol:Int
 wher:Int
abbrev lK.cells(x:lK):List PV:=[.int .i64 x.kind,.int .i64 x.vol,.int .i64 x.wher]
abbrev PO(l:List lK):PV:=.sl 3 (l.map lK.cells)
def jI(p:Int→Bool):List Int→Nat→Option Nat
 |[],_=>none
 |x::t,i=>if p x then some i else jI p t (i+1)
def nP(f:aD)(d:Int):Bool:=decide (d < -1)||decide (d≥(Z' f.beK:Nat))
def yJ(f:aD)(l:List (List Int))(v:Nat):Option lK:=
 if((l.getD v []).length:Int)=nI f v then(jI (nP f) (l.getD v []) 0).map λ(i:Nat)=>⟨1,v,i⟩else some ⟨1,v,((l.getD v []).length:Nat)⟩
def shV:Option lK→PV
 |some x=>.tup [.agg x.cells,.bool true]
 |none=>.tup [.agg [.int .i64 0,.int .i64 0,.int .i64 0],.bool false]
def aXM(f:aD)(o:Nat)(v:Nat)(row:List Int)(k:Nat):PF:=((((((PF.nil.set 2 (.int .i64 v)).set 3 (.bE f.cells)).set 6 (.ptr o 3 0 0)).set 29 (ints row)).set 30 (.int .i64 (Z' row:Nat))).set 31 (.int .i64 k))
theorem aQQ{C:Ctx}(L:Vm C)(f:aD)(hV:VF f)(l:List (List Int))(O:qO l)(v:Nat)(E:v<Z' l)(I:v<Z' f.beM) :
  OS.wp C (aW fw.res (cT (shV (yJ f l v)))) (PF.args [.agg f.cells,lay l,.int .i64 v]) .nil:=by
 have B:(l.map λr=>[ints r])[v]?=some [ints l[v]]:=by simp[E]
 have N:l.getD v []=l[v]:=by simp[bgF,E]
 have R:(l[v]).length≤16777216:=by have J:=IW l (v+1);have:=O.all;rw[zT l E,bgB]at J;omega
 unfold yJ;rw[N];simp only[go_sem,OS,Qv];refine aQ λo U=>?_;simp only[go_sem];refine bA .nil (toS f) a_ ?_;generalize l[v]=row at *
 have fin:∀(x:lK)(F:PF)(H:PH),F 6=some (.ptr o 3 0 0)→F 7=some (.bool true)→H o=some (.rows 3 [x.cells])→aW fw.res (cT (shV (some x))) .ret F H:=by intro x F H K h7 M;refine bB (.inr rfl) .nil (vs:=[.agg x.cells,.bool true]) ?_ a_ ⟨.refl _,rfl⟩;simp only[go_sem,fw,K,h7,M]
 simp only[go_sem,Qw,B,bfY];refine cO (aXJ f v) (L.ri f v hV I) rfl a_ ?_;by_cases c:(Z' row:Int)=nI f v
 ·rw[aL c];simp only[go_sem,bR c,Qy,B,bfY];refine wp_loop (α:=Nat) (λk=>aXM f o v row k) (λk=>PH.nil.set o (.rows 3 [[.int .i64 0,.int .i64 0,.int .i64 0]])) (λk=>k≤Z' row∧jI (nP f) row 0=jI (nP f) (row.drop k) k) (λk=>Z' row-k) 0 ⟨bgE _,rfl⟩ ?_ b_ ?_
  ·unfold aXM
   (repeat' (first|exact c_|refine d_ ?_ ?_))<;>first|(simp only[go_sem,bfY]<;>rfl)|rfl
  rintro k ⟨S,hb⟩;simp only[go_sem,Qu,Qz,aXM];by_cases hlt:k<Z' row
  ·have e:(k:Int)<(Z' row:Nat):=Om;have u:(row.map λn=>[PV.int .i64 n])[k]?=some [.int .i64 row[k]]:=by simp[hlt]
   have A:jI (nP f) (row.drop k) k=if nP f row[k]then some k else jI (nP f) (row.drop (k+1)) (k+1):=by rw[biL hlt,jI]
   rw[A]at hb;by_cases w:row[k] < -1
   ·have j:nP f row[k]=true:=by simp[nP,w]
    rw[j]at hb;simp only[go_sem,e,MD,u,MF,w,fx];rw[hb];exact fin ⟨1,v,k⟩ _ _ rfl rfl Sq
   ·by_cases y:row[k]≥(Z' f.beK:Nat)
    ·have j:nP f row[k]=true:=by simp[nP,y]
     rw[j]at hb;simp only[go_sem,e,MD,u,MF,w,bfY,y,fx];rw[hb];exact fin ⟨1,v,k⟩ _ _ rfl rfl Sq
    ·have j:nP f row[k]=false:=by simp[nP];omega
     rw[j]at hb;simp only[go_sem,e,MD,u,MF,w,bfY,y,Q0,wZz k];refine aG (k+1) ⟨hlt,hb⟩ Om ?_ b_;exact Lq
  ·have e:¬(k:Int)<(Z' row:Nat):=Om;have:k=Z' row:=Om;subst this;rw[List.drop_length,jI]at hb;simp only[go_sem,e,Du];rw[hb];refine bB (.inr rfl) .nil (vs:=[.agg [.int .i64 0,.int .i64 0,.int .i64 0],.bool false]) ?_ a_ ⟨.refl _,rfl⟩;simp only[go_sem,fw]
 ·rw[aE c];simp only[go_sem,cP c,Qx,B,bfY];exact fin ⟨1,v,(Z' row:Nat)⟩ _ _ rfl rfl Sq
structure aLS(C:Ctx):Prop extends Vm C where
 shape:∀(f:aD)(l:List (List Int)) (v:Nat),VF f→qO l→v<Z' l→v<Z' f.beM→aI C 160 [.agg f.cells,lay l,.int .i64 v] .nil (aK (shV (yJ f l v)))
section
variable {C:Ctx} {F:PF} {H:PH}
theorem HK{name:Nat}{vs cs:List PV}{r:PV}{H0:PH}{args:List aS}{d:Option Nat}{K:PF→PH→Prop}(h:aI C name (vs++cs) H0 (λj H'=>j=r∧H'=H0))(l:aS.evs F args=some vs)(e:H0.le H)
  (u:K (F.put d r) H):kF C name args cs d K F H:=by
 refine .inl ⟨vs++cs,H0,_,by rw[l];rfl,e,h,?_⟩;rintro j H' ⟨rfl,rfl⟩ -;rw[PH.over_self _ e];exact u
theorem bH.ne{s s':Nat}{v:PV}{rows:List (List PV)}{o:Nat}{y:List (List PV)}(h:bH H s v rows)(w:H o=some (.rows s' y))(x:s≠s'):∀l,v≠.osl o s 0 l:=by
 intro l e;rcases h with⟨_,j⟩|⟨q,rs,h1,j,_⟩
 ·rw[j]at e;cases e
 ·rw[h1]at e;injection e with u
  subst u;rw[w]at j;injection j with j
  injection j with j
  exact x j.symm
theorem bH.set{s s':Nat}{v:PV}{rows:List (List PV)}{o:Nat}{y:List (List PV)}{x:cI}(h:bH H s v rows)(u:H o=some (.rows s' y))(w:s≠s'):bH (H.set o x) s v rows:=by
 have l:=h.ne u w;rcases h with⟨e,j⟩|⟨q,rs,e,j,h3,h4⟩
 ·exact .inl ⟨e,j⟩
 ·refine .inr ⟨q,rs,e,?_,h3,h4⟩;have:q≠o:=by rintro rfl;exact l _ e
  simp only[aR,aE this,j]
def Dis(s:Nat)(v u:PV):Prop:=∀q l e j,v=.osl q s 0 l→u=.osl e s 0 j→q≠e
theorem Dis.nil{s:Nat}:Dis s .aH .aH:=λ_ _ _ _ h=>by cases h
theorem Dis.symm{s:Nat}{v u:PV}(h:Dis s v u):Dis s u v:=λq l x w e j=>(h x w q l j e).symm
theorem sL{s b:Nat}{v u y:PV}{rows rows' src:List (List PV)}{K:PV→PH→Prop}(h:bH H s v rows)(N:bH H s u rows')(R:Dis s v u)(X:fA H s y=some src)(W:roomFor rows.length src.length b)
  (S:∀v' H',bH H' s v' (rows++src)→bH H' s u rows'→Dis s v' u→(∀o s' z,s≠s'→H o=some (.rows s' z)→H' o=some (.rows s' z))→K v' H'):pF H s b v y K:=by
 have A:∀{H':PH}{t:PV}{r:List (List PV)},bH H s t r→(∀o x,H o=some x→(∀l,t=.osl o s 0 l→False)∨H' o=some x)→bH H' s t r:=by
  intro H' t r ht hp;rcases ht with⟨a,b⟩|⟨q,rs,a,b,c,d⟩
  ·exact .inl ⟨a,b⟩
  ·refine .inr ⟨q,rs,a,?_,c,d⟩;rcases hp q _ b with e|e
   ·exact(e _ a).elim
   ·exact e
 have gone:∀{o:Nat}{x:cI},H o=none→H o=some x→False:=λa b=>by rw[a]at b;cases b
 have O:∀{o:Nat}{l:Nat},u=.osl o s 0 l→∃x,H o=some x:=by
  intro o l e;rcases N with⟨a,b⟩|⟨q,rs,a,b,c,d⟩
  ·rw[b]at e;cases e
  ·rw[a]at e;injection e with e;subst e;exact⟨_,b⟩
 rcases h with⟨rfl,rfl⟩|⟨q,rs,rfl,h1,h2,h3⟩
 ·refine⟨src,X,W,λe=>?_,λe o M=>?_⟩
  ·subst e;exact S _ _ (.inl ⟨rfl,rfl⟩) N R λo s' z _ j=>j
  ·refine S _ _ (.inr ⟨o,src,rfl,by simp only[aR,if_true],bgG _,by simp⟩) (A N λw x E=>.inr ?_) ?_ λw s' z _ j=>?_
   ·have:w≠o:=by rintro rfl;exact gone M E
    simp only[aR,aE this,E]
   ·intro q l Z Y B I;injection B with B
    subst B;rintro rfl;obtain⟨x,E⟩:=O I;exact gone M E
   ·have:w≠o:=by rintro rfl;exact gone M j
    simp only[aR,aE this,j]
 ·have J:(rows++src).length=Z' rows+Z' src:=bgB;refine⟨src,X,rfl,rfl,W,rs,h1,h2,?_,λo M=>?_⟩
  ·rw[h3];refine S _ _ (.inr ⟨q,rows++src,by rw[J],by simp only[aR,if_true],bgG _,bhA⟩) (A N λw x E=>?_) ?_ λw s' z V j=>?_
   ·by_cases e:w=q
    ·exact .inl λl U=>R q _ w l rfl U e.symm
    ·exact .inr (by simp only[aR,aE e,E])
   ·intro q1 l Z Y B I;injection B with B
    subst B;exact R _ _ _ _ rfl I
   ·have:w≠q:=by
     rintro rfl;rw[h1]at j;injection j with j
     injection j with j
     exact V j
    simp only[aR,aE this,j]
  ·rw[h3];refine S _ _ (.inr ⟨o,rows++src,by rw[J],by simp only[aR,if_true],bgG _,bhA⟩) (A N λw x E=>?_) ?_ λw s' z V j=>?_
   ·by_cases e:w=q
    ·exact .inl λl U=>R q _ w l rfl U e.symm
    ·have I:w≠o:=by rintro rfl;exact gone M E
     exact .inr (by simp only[aR,aE e,aE I,E])
   ·intro q1 l Z Y B I;injection B with B
    subst B;rintro rfl;obtain⟨x,E⟩:=O I;exact gone M E
   ·have B:w≠q:=by
     rintro rfl;rw[h1]at j;injection j with j
     injection j with j
     exact V j
    have I:w≠o:=by rintro rfl;exact gone M j
    simp only[aR,aE B,aE I,j]
end
abbrev eK(l:List lK):List (List PV):=l.map lK.cells
def cM(kind v:Int)(n:Nat)(p:Nat→Bool):List lK:=((bfZ n).filter p).map λ(i:Nat)=>⟨kind,v,i⟩
theorem lS(kind v:Int)(n:Nat)(p:Nat→Bool):cM kind v (n+1) p=if p n then cM kind v n p++[⟨kind,v,n⟩]else cM kind v n p:=by
 unfold cM;rw[biO,List.filter_append,bhM];by_cases h:p n
 ·rw[aL h];simp[h]
 ·rw[aE h];simp[h]
theorem fY(kind v:Int)(n:Nat)(p:Nat→Bool):(cM kind v n p).length≤n:=by
 unfold cM;rw[bfY];exact biJ (List.length_filter_le _ _) aY
theorem kN(l:List lK):(eK l).length=Z' l:=by simp[eK]
theorem oJ(l:List lK)(x:lK):eK l++[x.cells]=eK (l++[x]):=by simp[eK]
def agA(o5:Nat)(v:Nat):PH:=PH.nil.set o5 (.rows 1 [[.int .i64 v]])
theorem aQS{C:Ctx}(o5 v:Nat)(k w:Int):OU.wp C (aW alW.res (λr H'=>r=.agg [.int .i64 k,.int .i64 v,.int .i64 w]∧H'=agA o5 v)) (PF.args [.int .i64 k,.int .i64 w,.ptr o5 1 0 0]) (agA o5 v):=by
 simp only[go_sem,OU,Rf,agA];refine aQ λo j=>?_;have e:o5≠o:=by rintro rfl;simp only[aR,if_true]at j;cases j
 simp only[go_sem,Rh,e];refine bB (.inr rfl) (PH.nil.set o5 (.rows 1 [[.int .i64 v]])) (vs:=[.agg [.int .i64 k,.int .i64 v,.int .i64 w]]) ?_ (e_ a_ ?_) ⟨rfl,rfl⟩
 ·simp only[go_sem,alW]
 ·simp only[go_sem,e]
def mA(f:aD)(i:Nat)(d:Int):Bool:=decide (0≤d)&&decide (jE f d.toNat (lvl f i)=i)
def qQ(f:aD)(xs:List Int)(i:Nat):Int:=if i=0 then 0 else((xs.countP (mA f i):Nat):Int)
def gW(f:aD)(xs:List Int):List Int:=(bfZ f.beN.length).map (qQ f xs)
def yY(f:aD)(xs:List Int)(d:Nat)(k:Nat):List Int:=(bfZ f.beN.length).map λi=>if 4-(k:Int)<lvl f i then qQ f (xs++[(d:Int)]) i else qQ f xs i
theorem EC(f:aD)(xs:List Int):(gW f xs).length=Z' f.beN:=by simp[gW]
theorem VF.uD{f:aD}(h:VF f){i:Nat}(hi:i<Z' f.beN):0≤lvl f i∧lvl f i≤4∧(lvl f i=0↔i=0):=by
 rcases biC i with e|e
 ·subst e;rw[h.root.2.1];simp
 ·have:=h.dom i e hi;omega
theorem aME{f:aD}(h:VF f)(xs:List Int)(d:Nat):yY f xs d 0=gW f xs:=by
 refine bjN (by simp[yY,gW]) λi j e=>?_;simp only[yY,gW,bhY,List.getElem_range];have hi:i<Z' f.beN:=by simpa[gW]using e
 have:=h.uD hi;rw[aE Om]
theorem aMD{f:aD}(h:VF f)(xs:List Int)(d:Nat):yY f xs d 4=gW f (xs++[(d:Int)]):=by
 refine bjN (by simp[yY,gW]) λi l j=>?_;simp only[yY,gW,bhY,List.getElem_range];have hi:i<Z' f.beN:=by simpa[gW]using j
 have:=h.uD hi;by_cases e:i=0
 ·subst e;rw[aE Om];simp[qQ]
 ·rw[aL Om]
theorem Ju(f:aD)(xs:List Int)(d:Nat){i:Nat}(hi:i≠0):qQ f (xs++[(d:Int)]) i=qQ f xs i+if jE f d (lvl f i)=i then 1 else 0:=by
 unfold qQ;rw[aE hi,aE hi,List.countP_append];by_cases h:jE f d (lvl f i)=i
 ·rw[aL h];simp[mA,h]
 ·rw[aE h];simp[mA,h]
theorem a0G{f:aD}(h:VF f)(xs:List Int){d:Nat}(y:d<Z' f.beK){k:Nat}(E:k<4) :
  (yY f xs d k)[upN f k (eO f d)]?=some (qQ f xs (upN f k (eO f d))) ∧
  (yY f xs d k).set (upN f k (eO f d)) (qQ f xs (upN f k (eO f d))+1)=yY f xs d (k+1):=by
 obtain⟨A,w⟩:=JX h y (k:=k) Om;constructor
 ·simp only[yY,bgT,biH A,bhD];rw[aE Om]
 ·refine bjN (by simp[yY]) λi B x=>?_;have hi:i<Z' f.beN:=by simpa[yY]using x
  simp only[yY,List.getElem_set,bhY,List.getElem_range];have I:=h.uD hi;by_cases e:upN f k (eO f d)=i
  ·rw[aL e];subst e;rw[aL Om];have j:upN f k (eO f d)≠0:=by intro e;rw[e,h.root.2.1]at w;omega
   rw[Ju f xs d j,jE,w];have:4-(4-(k:Int)).toNat=k:=Om;rw[this,aL rfl]
  ·rw[aE e];by_cases c:4-(k:Int)<lvl f i
   ·rw[aL c,aL Om]
   ·rw[aE c];by_cases l:4-((k+1:Nat):Int)<lvl f i
    ·rw[aL l];have u:lvl f i=4-(k:Int):=Om;have j:i≠0:=by intro e;subst e;rw[h.root.2.1]at u;omega
     rw[Ju f xs d j,jE,u];have:4-(4-(k:Int)).toNat=k:=Om;rw[this,aE e];simp
    ·rw[aE l]
theorem a0F(f:aD)(xs:List Int)(i:Nat):0≤qQ f xs i∧qQ f xs i≤Z' xs:=by
 unfold qQ;have:=List.countP_le_length (p:=mA f i) (l:=xs);split<;>omega
structure QK(C:Ctx):Prop extends aLS C where
 bad:∀(o5 v:Nat)(k w:Int),aI C 159 [.int .i64 k,.int .i64 w,.ptr o5 1 0 0] (agA o5 v) (λr H'=>r=.agg [.int .i64 k,.int .i64 v,.int .i64 w]∧H'=agA o5 v)
structure Obs where
 o5:Nat
 o7:Nat
 o8:Nat
 oD:Nat
 oB:Nat
structure Obs.Ne(o:Obs):Prop where
 a1:o.o5≠o.oD
 a2:o.o5≠o.oB
 a3:o.o7≠o.oD
 a4:o.o7≠o.oB
 a5:o.o8≠o.oD
 a6:o.o8≠o.oB
 a7:o.oD≠o.oB
structure pY(H:PH)(o:Obs)(v:Nat)(p:dV)(A:List Bool)(D B:List Int):Prop where
 h5:H o.o5=some (.rows 1 [[.int .i64 v]])
 h7:H o.o7=some (.rows 17 [p.cells])
 h8:H o.o8=some (.rows 1 (bK A))
 hD:H o.oD=some (.rows 1 (bS D))
 hB:H o.oB=some (.rows 1 (bS B))
theorem pY.keep{H H':PH}{o:Obs}{v:Nat}{p:dV}{A:List Bool}{D B:List Int}(h:pY H o v p A D B)(e:∀q s' z,3≠s'→H q=some (.rows s' z)→H' q=some (.rows s' z)):pY H' o v p A D B:=
 ⟨e _ _ _ aV h.h5,e _ _ _ aV h.h7,e _ _ _ aV h.h8,e _ _ _ aV h.hD,e _ _ _ aV h.hB⟩
theorem pY.bcC{H:PH}{o:Obs}{v:Nat}{p:dV}{A:List Bool}{D B:List Int}(h:pY H o v p A D B)(e:o.Ne)(B':List Int):pY (H.set o.oB (.rows 1 (bS B'))) o v p A D B':=
 ⟨by simp only[aR,aE e.a2,h.h5],by simp only[aR,aE e.a4,h.h7],by simp only[aR,aE e.a6,h.h8],by simp only[aR,aE e.a7,h.hD],by simp only[aR,if_true]⟩
theorem pY.bcD{H:PH}{o:Obs}{v:Nat}{p:dV}{A:List Bool}{D B:List Int}(h:pY H o v p A D B)(e:o.Ne)(j:List Int):pY (H.set o.oD (.rows 1 (bS j))) o v p A j B:=
 ⟨by simp only[aR,aE e.a1,h.h5],by simp only[aR,aE e.a3,h.h7],by simp only[aR,aE e.a5,h.h8],by simp only[aR,if_true],by simp only[aR,aE (Ne.symm e.a7),h.hB]⟩
def qY(f:aD)(o:Obs)(e j:PV)(row:List Int)(k:Nat):PF:=
 ((((((((((((PF.nil.set 3 (.bE f.cells)).set 5 (.ptr o.o5 1 0 0)).set 7 (.ptr o.o7 17 0 0)).set 8 (.osl o.o8 1 0 f.beL.length)).set 11 (.fn 159 [.ptr o.o5 1 0 0])).set 12 (e)).set 13 (j)).set 14 (.osl o.oD 1 0 f.beK.length)).set 15 (.osl o.oB 1 0 f.beN.length)).set 62 (ints row)).set 63 (.int .i64 (Z' row:Nat))).set 64 (.int .i64 k))
def aJN(f:aD)(o:Obs)(e j:PV)(row:List Int)(k:Nat)(at_:Nat):PF:=
 (((((((((((((PF.nil.set 3 (.bE f.cells)).set 5 (.ptr o.o5 1 0 0)).set 7 (.ptr o.o7 17 0 0)).set 8 (.osl o.o8 1 0 f.beL.length)).set 11 (.fn 159 [.ptr o.o5 1 0 0])).set 12 (e)).set 13 (j)).set 14 (.osl o.oD 1 0 f.beK.length)).set 15 (.osl o.oB 1 0 f.beN.length)).set 62 (ints row)).set 63 (.int .i64 (Z' row:Nat))).set 64 (.int .i64 k)).set 18 (.int .i64 at_))
theorem a6E{C:Ctx}(f:aD)(hV:VF f)(o:Obs)(hn:o.Ne)(v:Nat)(p:dV)(A:List Bool)(D:List Int)(l u:PV)(w x:List (List PV))(row:List Int)(k:Nat)(xs:List Int)(γ:Z' xs≤16777216)(d:Nat)(V:d<Z' f.beK)(K:cQ)(F:PF)(H:PH)
  (Z:(aJN f o l u row k (eO f d)).le F) (hH:pY H o v p A D (gW f xs)) (J:bH H 3 l w) (M:bH H 3 u x)
  (hK:∀U H',(qY f o l u row k).le U→pY H' o v p A D (gW f (xs++[(d:Int)]))→bH H' 3 l w→bH H' 3 u x→K .normal U H') :
  aC.wp C (.block 4 (.loop MG)) K F H:=by
 simp only[go_sem];refine wp_loop (α:=Nat × PH) (λt=>aJN f o l u row k (upN f t.1 (eO f d))) (λt=>t.2) (λt=>t.1≤4∧pY t.2 o v p A D (yY f xs d t.1)∧bH t.2 3 l w∧bH t.2 3 u x) (λt=>4-t.1) (0,H) ⟨bgE _,by rw[aME hV];exact hH,J,M⟩ (by rw[upN];exact Z) b_ ?_;rintro⟨j,H0⟩ ⟨W,E,y,B⟩;simp only at W E y B ⊢;obtain⟨I,u2⟩:=JX hV V (k:=j) W;simp only[go_sem,MG,Rn,aJN];by_cases hlt:j<4
 ·have S:0<upN f j (eO f d):=by
   rcases biC (upN f j (eO f d))with e|e
   ·rw[e,hV.root.2.1]at u2;omega
   ·exact e
  have O:((upN f j (eO f d):Nat):Int)>0:=Om;obtain⟨X,Y⟩:=a0G hV xs V hlt;have N:(bS (yY f xs d j))[upN f j (eO f d)]?=some [.int .i64 (qQ f xs (upN f j (eO f d)))]:=by unfold bS;rw[bgT,X];rfl
  have β:=a0F f xs (upN f j (eO f d));have hw:IntKind.i64.wrap (qQ f xs (upN f j (eO f d))+1)=qQ f xs (upN f j (eO f d))+1:=wrap_i64 Om Om;have R:((upN f j (eO f d):Nat):Int)<(Z' f.beN:Nat):=Om;simp only[go_sem,O,Ro,R,bgL,E.hB,N,hw,oS,Y,Rp,lZ I,C8 I,hV.j5 S I];refine aG (j+1,_) ⟨hlt,E.bcC hn _,y.set E.hB aV,B.set E.hB aV⟩ (by simp only;omega) ?_ b_
  (repeat' (first|exact c_|refine d_ ?_ ?_))<;>first|(simp only[go_sem,upN]<;>rfl)|rfl
 ·have:j=4:=Om;subst this;have h0:upN f 4 (eO f d)=0:=by have:=hV.uD I;omega
  have O:¬((upN f 4 (eO f d):Nat):Int)>0:=Om;simp only[go_sem,O];rw[aMD hV]at E;refine hK _ _ ?_ E y B;unfold qY;exact Lq
structure DG(f:aD)(row:List Int):Prop where
 len:Z' row≤16777216
 at_:∀x∈row,-1≤x∧x<(Z' f.beK:Nat)
def home(row:List Int)(i:Nat):Bool:=decide (row.getD i 0<0)
def eM(f:aD)(p:dV)(row:List Int)(i:Nat):Bool:=decide (0≤row.getD i 0)&&!p.beL.contains ((mdl f (row.getD i 0).toNat:Nat):Int)
theorem aMC(f:aD)(xs:List Int){x:Int}(h:x<0):gW f (xs++[x])=gW f xs:=by
 refine bjN (by simp[gW]) λi e j=>?_;simp only[gW,bhY,List.getElem_range,qQ,List.countP_append];have:mA f i x=false:=by simp[mA];omega
 simp[this]
theorem aWT{C:Ctx}(L:QK C)(f:aD)(hV:VF f)(o:Obs)(hn:o.Ne)(v:Nat)(p:dV)(hp:∀m∈p.beL,0≤m∧m<Z' f.beL)(row:List Int)(hr:DG f row)(K:cQ)(F:PF)(H:PH)
  (U:(qY f o .aH .aH row 0).le F) (hH:pY H o v p (marks f.beL.length p.beL) (gI f.beK.length []) (gW f []))
  (hK:∀w B F' H',(qY f o w B row row.length).le F'→pY H' o v p (marks f.beL.length p.beL) (gI f.beK.length row) (gW f row)→bH H' 3 w (eK (cM 2 v row.length (home row)))→bH H' 3 B (eK (cM 4 v row.length (eM f p row)))→Dis 3 w B→K (.exit 2) F' H') :
  aC.wp C (.loop AD) K F H:=by
 obtain⟨ρ,ν⟩:=hr;refine wp_loop (α:=Nat × PV × PV × PH) (λt=>qY f o t.2.1 t.2.2.1 row t.1) (λt=>t.2.2.2)
  (λt=>t.1≤Z' row∧pY t.2.2.2 o v p (marks f.beL.length p.beL) (gI f.beK.length (row.take t.1)) (gW f (row.take t.1))∧bH t.2.2.2 3 t.2.1 (eK (cM 2 v t.1 (home row)))∧bH t.2.2.2 3 t.2.2.1 (eK (cM 4 v t.1 (eM f p row)))∧Dis 3 t.2.1 t.2.2.1)
  (λt=>Z' row-t.1) (0,.aH,.aH,H) ⟨bgE _,by rw[List.take_zero];exact hH,.nil,.nil,.nil⟩ U b_ ?_
 rintro⟨k,w,B,H0⟩ ⟨hk,I,J,M,hd⟩;simp only at hk I J M hd ⊢;by_cases hlt:k<Z' row
 ·have y:(k:Int)<(Z' row:Nat):=Om;have W:(row.map λn=>[PV.int .i64 n])[k]?=some [.int .i64 row[k]]:=by simp[hlt]
  have hg:row.getD k 0=row[k]:=by simp[bgF,hlt]
  have ε:row.take (k+1)=row.take k++[row[k]]:=bhW hlt;have hx:=ν row[k] (bgD hlt);have e2:=lS 2 v k (home row);have X:=lS 4 v k (eM f p row);have hh:home row k=decide (row[k]<0):=by rw[home,hg]
  have Y:eM f p row k=(decide (0≤row[k])&&!p.beL.contains ((mdl f (row[k]).toNat:Nat):Int)):=by rw[eM,hg]
  have l2:=fY 2 v k (home row);have l4:=fY 4 v k (eM f p row);have fin:∀A e (F:PF) (E:PH),(qY f o A e row (k+1)).le F→pY E o v p (marks f.beL.length p.beL) (gI f.beK.length (row.take (k+1))) (gW f (row.take (k+1)))→bH E 3 A (eK (cM 2 v (k+1) (home row)))→bH E 3 e (eK (cM 4 v (k+1) (eM f p row)))→Dis 3 A e →
    fZ (λ(t:Nat × PV × PV × PH)=>qY f o t.2.1 t.2.2.1 row t.1) (λt=>t.2.2.2)
     (λt=>t.1≤Z' row∧pY t.2.2.2 o v p (marks f.beL.length p.beL) (gI f.beK.length (row.take t.1)) (gW f (row.take t.1))∧bH t.2.2.2 3 t.2.1 (eK (cM 2 v t.1 (home row)))∧bH t.2.2.2 3 t.2.2.1 (eK (cM 4 v t.1 (eM f p row)))∧Dis 3 t.2.1 t.2.2.1)
     (λt=>Z' row-t.1) (Z' row-k) K .normal F E:=
   λA e F E U I h1 h2 h3=>aG (α:=Nat × PV × PV × PH) (k+1,A,e,E) ⟨hlt,I,h1,h2,h3⟩ (by simp only;omega) U b_
  generalize σ:row[k]=x at *
  by_cases c:x<0
  ·have o1:=IT (n:=Z' f.beK) (row.take k) (x:=x) Om;have o2:=aMC f (row.take k) c;rw[ε,o1,o2]at fin;rw[aL (by rw[hh];simp[c])]at e2;rw[aE (by rw[Y];simp;omega)]at X;rw[e2,X]at fin;simp only[go_sem,AD,ER,qY,y,MH,W,MI,c,Rl];refine HK (vs:=[.int .i64 2,.int .i64 k]) (L.bad o.o5 v 2 k) Sq (e_ a_ I.h5) ?_;have N:(1:Nat)*3≤16777216:=by decide
   simp only[go_sem,N];refine sL (src:=[(⟨2,v,k⟩:lK).cells]) J M hd Sq (by unfold roomFor;rw[kN];simp only[bgI,maxLen];omega) λv' H' g1 g2 g3 g4=>?_;rw[oJ]at g1;unfold qY at fin;simp only[go_sem,MJ,wZz k];exact fin v' B _ H' Lq (I.keep g4) g1 g2 g3
  ·obtain⟨d,rfl⟩:∃d:Nat,x=d:=⟨x.toNat,by omega⟩;have j:d<Z' f.beK:=Om;have δ:(d:Int)<(Z' f.beK:Nat):=Om;obtain⟨w1,w2,w3,w4,w5⟩:=hV.drive d j;have c0:(0:Int)≤(d:Int):=Om;rw[aE (by rw[hh];simp)]at e2;rw[bX c0,bgO,biR]at Y;have ο:(row.take k).count (d:Int)≤16777216:=biJ (List.count_le_length ..) (by rw[bgP];omega);have hw:IntKind.i64.wrap ((((row.take k).count (d:Int):Nat):Int)+1)=(((row.take k).count (d:Int):Nat):Int)+1:=wrap_i64 Om Om;have S:=rU (l:=gI f.beK.length (row.take k)) (i:=d) (by rw[lN];exact j);rw[ja _ j]at S;have γ:=Gw (row.take k) j;have ξ:(row.take k).length≤16777216:=by rw[bgP];omega
   rw[e2,ε]at fin;have tail:∀e (F:PF) (E:PH),(qY f o w e row k).le F→F 17=some (.int .i64 d)→pY E o v p (marks f.beL.length p.beL) (gI f.beK.length (row.take k)) (gW f (row.take k))→bH E 3 w (eK (cM 2 v k (home row)))→bH E 3 e (eK (cM 4 v (k+1) (eM f p row)))→Dis 3 w e →
     aC.wp C (.seq (.region gh) (.seq (.region gi) (.block 4 (.loop MG)))) (fN 3 (kJ C (aC.wp C (.region MJ)) (fZ (λ(t:Nat × PV × PV × PH)=>qY f o t.2.1 t.2.2.1 row t.1) (λt=>t.2.2.2)
     (λt=>t.1≤Z' row∧pY t.2.2.2 o v p (marks f.beL.length p.beL) (gI f.beK.length (row.take t.1)) (gW f (row.take t.1))∧bH t.2.2.2 3 t.2.1 (eK (cM 2 v t.1 (home row)))∧bH t.2.2.2 3 t.2.2.1 (eK (cM 4 v t.1 (eM f p row)))∧Dis 3 t.2.1 t.2.2.1)
     (λt=>Z' row-t.1) (Z' row-k) K))) F E:=by
    intro e F E U ζ O θ ι gd;have f3:F 3=some (.bE f.cells):=U 3 _ (by unfold qY;simp only[go_sem]);have f14:F 14=some (.osl o.oD 1 0 f.beK.length):=U 14 _ (by unfold qY;simp only[go_sem]);simp only[go_sem,gh,f14,ζ,δ,bgL,O.hD,S,hw,oS,γ,gi,f3,oO j,hV.QY j];have up:=a6E (C:=C) f hV o hn v p (marks f.beL.length p.beL) (gI f.beK.length (row.take k++[(d:Int)])) w e (eK (cM 2 v k (home row))) (eK (cM 4 v (k+1) (eM f p row))) row k (row.take k) ξ d j;simp only[aC.wp,go_sem]at up;refine up _ _ _ ?_ (O.bcD hn _) (θ.set O.hD aV) (ι.set O.hD aV) ?_
    ·have g:=λ(q:Nat) u h=>U q u h;unfold qY at g;unfold aJN;refine d_ (d_ (d_ (d_ (d_ (d_ (d_ (d_ (d_ (d_ (d_ (d_ (d_ c_ ?_) ?_) ?_) ?_) ?_) ?_) ?_) ?_) ?_) ?_) ?_) ?_) ?_
     ·simp only[go_sem];exact g 3 _ Sq
     ·simp only[go_sem];exact g 5 _ Sq
     ·simp only[go_sem];exact g 7 _ Sq
     ·simp only[go_sem];exact g 8 _ Sq
     ·simp only[go_sem];exact g 11 _ Sq
     ·simp only[go_sem];exact g 12 _ Sq
     ·simp only[go_sem];exact g 13 _ Sq
     ·simp only[go_sem];exact g 14 _ Sq
     ·simp only[go_sem];exact g 15 _ Sq
     ·simp only[go_sem];exact g 62 _ Sq
     ·simp only[go_sem];exact g 63 _ Sq
     ·simp only[go_sem];exact g 64 _ Sq
     ·simp only[go_sem]
    ·intro F' H' κ μ Z β;have g:=λ(q:Nat) u h=>κ q u h;unfold qY at g;have η:F' 64=some (.int .i64 k):=g 64 _ Sq;simp only[go_sem,MJ,η,wZz k];refine fin w e _ H' ?_ μ Z β gd;unfold qY;refine d_ (d_ (d_ (d_ (d_ (d_ (d_ (d_ (d_ (d_ (d_ (d_ c_ ?_) ?_) ?_) ?_) ?_) ?_) ?_) ?_) ?_) ?_) ?_) ?_
     ·simp only[go_sem];exact g 3 _ Sq
     ·simp only[go_sem];exact g 5 _ Sq
     ·simp only[go_sem];exact g 7 _ Sq
     ·simp only[go_sem];exact g 8 _ Sq
     ·simp only[go_sem];exact g 11 _ Sq
     ·simp only[go_sem];exact g 12 _ Sq
     ·simp only[go_sem];exact g 13 _ Sq
     ·simp only[go_sem];exact g 14 _ Sq
     ·simp only[go_sem];exact g 15 _ Sq
     ·simp only[go_sem];exact g 62 _ Sq
     ·simp only[go_sem];exact g 63 _ Sq
     ·simp only[go_sem]
   simp only[aC.wp,go_sem]at tail;have V:((mdl f d:Nat):Int)<(Z' f.beL:Nat):=Om;have R:(bK (marks f.beL.length p.beL))[mdl f d]?=some [.bool (p.beL.contains ((mdl f d:Nat):Int))]:=by have:=JH (n:=Z' f.beL) (l:=p.beL) (m:=((mdl f d:Nat):Int)) Om V;rw[biR]at this;unfold bK;rw[bgT,this];rfl
   cases hb:p.beL.contains ((mdl f d:Nat):Int)with
   |true =>rw[hb]at R Y;rw[aE (by rw[Y];simp)]at X;rw[X]at tail;simp only[go_sem,AD,ER,qY,y,MH,W,MI,c,gg,oO j,hV.JI j,V,bgL,I.h8,R,bgJ];exact tail B _ H0 (by unfold qY;exact Lq) Sq I J M hd
   |false=>
    rw[hb]at R Y;rw[aL (by rw[Y];simp)]at X;rw[X]at tail;simp only[go_sem,AD,ER,qY,y,MH,W,MI,c,gg,oO j,hV.JI j,V,bgL,I.h8,R,bgS,Rm];refine HK (vs:=[.int .i64 4,.int .i64 k]) (L.bad o.o5 v 4 k) Sq (e_ a_ I.h5) ?_;have N:(1:Nat)*3≤16777216:=by decide
    simp only[go_sem,N];refine sL (src:=[(⟨4,v,k⟩:lK).cells]) M J hd.symm Sq (by unfold roomFor;rw[kN];simp only[bgI,maxLen];omega) λv' H' g1 g2 g3 g4=>?_;rw[oJ]at g1;exact tail v' _ H' (by unfold qY;exact Lq) Sq (I.keep g4) g2 g1 g3.symm
 ·have y:¬(k:Int)<(Z' row:Nat):=Om;have:k=Z' row:=Om;subst this;rw[bhA]at I;simp only[go_sem,AD,ER,qY,y];exact hK w B _ _ (by unfold qY;exact Lq) I J M hd
def oF(f:aD)(row:List Int)(d:Nat):Bool:=decide ((gI f.beK.length row).getD d 0>1)
def fK(f:aD)(p:dV)(i:Nat):Int:=p.spread (lvl f i).toNat
def pT(f:aD)(p:dV)(row:List Int)(i:Nat):Bool:=decide (fK f p i>0)&&decide ((gW f row).getD i 0>fK f p i)
def uB(f:aD)(p:dV)(v:Nat)(row:List Int):List lK:=
 cM 2 v row.length (home row)++cM 3 v f.beK.length (oF f row)++cM 4 v row.length (eM f p row)++cM 5 v f.beN.length (pT f p row)
def VV(f:aD)(o:Obs)(e j:PV)(k:Nat):PF:=
 ((((((((((PF.nil.set 3 (.bE f.cells)).set 5 (.ptr o.o5 1 0 0)).set 7 (.ptr o.o7 17 0 0)).set 11 (.fn 159 [.ptr o.o5 1 0 0])).set 13 (e)).set 15 (.osl o.oB 1 0 f.beN.length)).set 19 (j)).set 121 (.osl o.oD 1 0 f.beK.length)).set 122 (.int .i64 (Z' f.beK:Nat))).set 123 (.int .i64 k))
def U1(f:aD)(o:Obs)(e:PV)(k:Nat):PF:=
 ((((((((PF.nil.set 3 (.bE f.cells)).set 5 (.ptr o.o5 1 0 0)).set 7 (.ptr o.o7 17 0 0)).set 11 (.fn 159 [.ptr o.o5 1 0 0])).set 19 (e)).set 140 (.osl o.oB 1 0 f.beN.length)).set 141 (.int .i64 (Z' f.beN:Nat))).set 142 (.int .i64 k))
theorem aPU{C:Ctx}(L:QK C)(f:aD)(hV:VF f)(o:Obs)(v:Nat)(p:dV)(A:List Bool)(B:List Int)(row:List Int)(N:List lK)(β:Z' N≤16777216)(e x:PV)(y:List (List PV))(K:cQ)(F:PF)(H:PH)
  (X:(VV f o e x 0).le F) (Y:pY H o v p A (gI f.beK.length row) B) (R:bH H 3 x (eK N)) (O:bH H 3 e y) (hd:Dis 3 x e)
  (Z:∀v' V H',(VV f o e v' f.beK.length).le V→pY H' o v p A (gI f.beK.length row) B→bH H' 3 v' (eK (N++cM 3 v f.beK.length (oF f row)))→bH H' 3 e y→Dis 3 v' e→K (.exit 6) V H') :
  aC.wp C (.loop ge) K F H:=by
 have hs:=hV.small.beK;refine wp_loop (α:=Nat × PV × PH) (λt=>VV f o e t.2.1 t.1) (λt=>t.2.2) (λt=>t.1≤Z' f.beK∧pY t.2.2 o v p A (gI f.beK.length row) B∧bH t.2.2 3 t.2.1 (eK (N++cM 3 v t.1 (oF f row)))∧bH t.2.2 3 e y∧Dis 3 t.2.1 e) (λt=>Z' f.beK-t.1) (0,x,H)
  ⟨bgE _,Y,by rw[show cM 3 v 0 (oF f row)=[]from rfl,bhH];exact R,O,hd⟩ X b_ ?_
 rintro⟨k,v',H0⟩ ⟨hk,E,j,w,M⟩;simp only at hk E j w M ⊢;simp only[go_sem,ge,Rs,VV];by_cases hlt:k<Z' f.beK
 ·have u:(k:Int)<(Z' f.beK:Nat):=Om;have S:=rU (l:=gI f.beK.length row) (i:=k) (by rw[lN];exact hlt);have U:(gI f.beK.length row).getD k 0=(gI f.beK.length row)[k]'(by rw[lN];exact hlt):=by rw[bgF,bgH (by rw[lN];exact hlt)];rfl
  have J:=lS 3 v k (oF f row);have W:oF f row k=decide ((gI f.beK.length row)[k]'(by rw[lN];exact hlt)>1):=by rw[oF,U]
  have γ:=fY 3 v k (oF f row);simp only[go_sem,u,Rt,bgL,E.hD,S,Ru];by_cases c:(gI f.beK.length row)[k]'(by rw[lN];exact hlt)>1
  ·rw[aL (by rw[W];simp[c])]at J;simp only[go_sem,c,Rv];refine HK (vs:=[.int .i64 3,.int .i64 k]) (L.bad o.o5 v 3 k) Sq (e_ a_ E.h5) ?_;have I:(1:Nat)*3≤16777216:=by decide
   simp only[go_sem,I];refine sL (src:=[(⟨3,v,k⟩:lK).cells]) j w M Sq (by unfold roomFor;rw[kN,bgB];simp only[bgI,maxLen];omega) λv' H' k1 k2 k3 k4=>?_;rw[oJ,bgX,←J]at k1;simp only[go_sem,gj,wZz k];refine aG (k+1,v',H') ⟨hlt,E.keep k4,k1,k2,k3⟩ (by simp only;omega) ?_ b_;exact Lq
  ·rw[aE (by rw[W];simp;omega)]at J;rw[←J]at j;simp only[go_sem,c,gj,wZz k];refine aG (k+1,v',H0) ⟨hlt,E,j,w,M⟩ (by simp only;omega) ?_ b_;exact Lq
 ·have u:¬(k:Int)<(Z' f.beK:Nat):=Om;have:k=Z' f.beK:=Om;subst this;simp only[go_sem,u];exact Z v' _ _ (by unfold VV;exact Lq) E j w M
theorem aJO{C:Ctx}(f:aD)(hV:VF f)(o:Obs)(v:Nat)(p:dV)(A:List Bool)(D B:List Int)(i:Nat)(hi:i<Z' f.beN)(K:PF→PH→Prop)(F:PF)(H:PH)
  (y:pY H o v p A D B) (x:F 3=some (.bE f.cells)) (f7:F 7=some (.ptr o.o7 17 0 0)) (l:F 22=some (.int .i64 i))
  (w:∀e:PF,e 24=some (.int .i64 (fK f p i))→(∀j,j<147→j≠24→e j=F j)→K e H):wpOps C gk K F H:=by
 obtain⟨J,Y,-⟩:=hV.uD hi;have h5:((lvl f i)<((5:Nat):Int)):=Om;unfold fK at w;simp only[go_sem,gk,x,f7,l,lZ hi,QX hi,J,h5,bjB];have E:lvl f i=0∨lvl f i=1∨lvl f i=2∨lvl f i=3∨lvl f i=4:=Om;have fin:∀(e:PF),e 24=some (.int .i64 (p.spread (lvl f i).toNat))→(∀j,j<147→j≠24→e j=F j)→K e H:=w;have low:∀(j:Nat),j<147→j≠147∧j≠148∧j≠149∧j≠150∧j≠151∧j≠152∧j≠153∧j≠154∧j≠155:=Om;rcases E with h|h|h|h|h
 all_goals
  rw[h]at fin ⊢;simp only[go_sem,y.h7];refine fin _ (by simp only[go_sem];rfl) λj I u=>?_;obtain⟨M,N,O,R,S,U,V,W,X⟩:=low j I;simp only[go_sem,u,M,N,O,R,S,U,V,W,X]
theorem aPT{C:Ctx}(L:QK C)(f:aD)(hV:VF f)(o:Obs)(v:Nat)(p:dV)(A:List Bool)(D:List Int)(row:List Int)(W:List lK)(ζ:Z' W≤100000000)(N:PV)(K:cQ)(F:PF)(H:PH)
  (hF:(U1 f o N 0).le F) (hH:pY H o v p A D (gW f row)) (γ:bH H 3 N (eK W))
  (hK:∀v' F' H',F' 19=some v'→bH H' 3 v' (eK (W++cM 5 v f.beN.length (pT f p row)))→K (.exit 8) F' H') :
  aC.wp C (.loop gf) K F H:=by
 have hs:=hV.small.beN;refine wp_loop (α:=Nat × PV × PH) (λt=>U1 f o t.2.1 t.1) (λt=>t.2.2) (λt=>t.1≤Z' f.beN∧pY t.2.2 o v p A D (gW f row)∧bH t.2.2 3 t.2.1 (eK (W++cM 5 v t.1 (pT f p row)))) (λt=>Z' f.beN-t.1) (0,N,H)
  ⟨bgE _,hH,by rw[show cM 5 v 0 (pT f p row)=[]from rfl,bhH];exact γ⟩ hF b_ ?_
 rintro⟨k,v',H0⟩ ⟨hk,M,e⟩;simp only at hk M e ⊢;simp only[go_sem,gf,Ry,U1];by_cases hlt:k<Z' f.beN
 ·have y:(k:Int)<(Z' f.beN:Nat):=Om;have δ:=rU (l:=gW f row) (i:=k) (by rw[EC];exact hlt);have ε:(gW f row).getD k 0=(gW f row)[k]'(by rw[EC];exact hlt):=by rw[bgF,bgH (by rw[EC];exact hlt)];rfl
  have O:=lS 5 v k (pT f p row);have η:=fY 5 v k (pT f p row);have ht:pT f p row k=(decide (fK f p k>0)&&decide ((gW f row)[k]'(by rw[EC];exact hlt)>fK f p k)):=by rw[pT,ε]
  generalize(gW f row)[k]'(by rw[EC];exact hlt)=β at *
  simp only[go_sem,y,Rz,bgL,M.hB,δ];refine aJO f hV o v p A D (gW f row) k hlt _ _ _ M Sq Sq Sq λF' J R=>?_;have g:=λ(q:Nat)(h1:q<147)(h2:q≠24)=>R q h1 h2;have X:=g 3 aV aV;have Y:=g 5 aV aV;have Z:=g 7 aV aV;have B:=g 11 aV aV;have E:=g 19 aV aV;have j:=g 140 aV aV;have w:=g 141 aV aV;have x:=g 142 aV aV;have U:=g 22 aV aV;have I:=g 23 aV aV;simp only[go_sem,Nat.reduceEqDiff,reduceIte]at X Y Z B E j w x U I;by_cases V:fK f p k>0
  ·by_cases c2:β>fK f p k
   ·rw[aL (by rw[ht];simp[V,c2])]at O;simp only[go_sem,MK,J,I,V,c2,R0,E,B,U];refine HK (vs:=[.int .i64 5,.int .i64 k]) (L.bad o.o5 v 5 k) Sq (e_ a_ M.h5) ?_;have S:(1:Nat)*3≤16777216:=by decide
    simp only[go_sem,S];refine sL (rows':=[]) (u:=.aH) (src:=[(⟨5,v,k⟩:lK).cells]) e .nil (λ_ _ _ _ _ h=>by cases h) Sq (by unfold roomFor;rw[kN,bgB];simp only[bgI,maxLen];omega) λv' H' k1 k2 k3 k4=>?_;rw[oJ,bgX,←O]at k1;simp only[go_sem,ML,x,wZz k];refine aG (k+1,v',H') ⟨hlt,M.keep k4,k1⟩ (by simp only;omega) ?_ b_
    (repeat' (first|exact c_|refine d_ ?_ ?_))<;>first|(simp only[go_sem,X,Y,Z,B,j,w]<;>rfl)|rfl
   ·rw[aE (by rw[ht];simp;omega)]at O;rw[←O]at e;simp only[go_sem,MK,J,I,V,c2,ML,x,wZz k];refine aG (k+1,v',H0) ⟨hlt,M,e⟩ (by simp only;omega) ?_ b_
    (repeat' (first|exact c_|refine d_ ?_ ?_))<;>first|(simp only[go_sem,X,Y,Z,B,E,j,w]<;>rfl)|rfl
  ·rw[aE (by rw[ht];simp;omega)]at O;rw[←O]at e;simp only[go_sem,MK,J,I,V,ML,x,wZz k];refine aG (k+1,v',H0) ⟨hlt,M,e⟩ (by simp only;omega) ?_ b_
   (repeat' (first|exact c_|refine d_ ?_ ?_))<;>first|(simp only[go_sem,X,Y,Z,B,E,j,w]<;>rfl)|rfl
 ·have y:¬(k:Int)<(Z' f.beN:Nat):=Om;have:k=Z' f.beN:=Om;subst this;simp only[go_sem,y];exact hK v' _ _ Sq e
theorem ZQ(n:Nat):bgA n [PV.bool false]=bK (marks n []):=by rw[Lg];simp[bK]
theorem aLG(n:Nat):bgA n [PV.int .i64 0]=bS (gI n []):=by rw[ql,yF]
theorem aRU(f:aD):bgA f.beN.length [PV.int .i64 0]=bS (gW f []):=by
 have:gW f []=bgA f.beN.length 0:=by refine bjN (by simp[gW]) λi e j=>?_;simp[gW,qQ]
 rw[this,yF]
def aJM(f:aD)(l:List (List Int))(o5 o7 o8:Nat)(ms:List Int)(k:Nat):PF:=
 ((((((((PF.nil.set 1 (lay l)).set 3 (.bE f.cells)).set 5 (.ptr o5 1 0 0)).set 7 (.ptr o7 17 0 0)).set 8 (.osl o8 1 0 f.beL.length)).set 40 (ints ms)).set 41 (.int .i64 (Z' ms:Nat))).set 42 (.int .i64 k))
theorem aXO{C:Ctx}(L:QK C)(f:aD)(hV:VF f)(S:∀p∈f.beO,Fits p.beL)(l:List (List Int))(v:Nat)(hv:v<Z' l)(F:v<Z' f.beM)(hr:DG f l[v]) :
  WW.wp C (aW aZP.res (cT (PO (uB f (cL f v) v l[v])))) (PF.args [.agg f.cells,lay l,.int .i64 v]) .nil:=by
 obtain⟨hp,he⟩:=qB hV F;have B:=hV.beX _ (bgD hp);have υ:=S _ (bgD hp);rw[he]at B υ;generalize Ψ:cL f v=p at *
 have U:=B.2.2.2.2.2.2.2;have V:(l.map λr=>[ints r])[v]?=some [ints l[v]]:=by simp[hv]
 generalize l[v]=row at *
 have E:=hV.small;have ο:(Z' f.beL:Int)*((1:Nat):Int)≤140737488355328:=by have:=E.beL;omega
 have ρ:(Z' f.beL:Int)≤9223372036854775807:=by have:=E.beL;omega
 have M:(Z' f.beK:Int)*((8:Nat):Int)≤140737488355328:=by have:=E.beK;omega
 have N:(Z' f.beK:Int)≤9223372036854775807:=by have:=E.beK;omega
 have O:(Z' f.beN:Int)*((8:Nat):Int)≤140737488355328:=by have:=E.beN;omega
 have R:(Z' f.beN:Int)≤9223372036854775807:=by have:=E.beN;omega
 simp only[go_sem,WW,alY];refine aQ λo5 h5=>?_;simp only[go_sem];refine bA (PH.nil.set o5 (.rows 1 [[.int .i64 v]])) cK (e_ a_ Sq) ?_;simp only[go_sem,alZ,uV F,hV.JL F,rD hp,he];refine aQ λo7 h7=>?_;have e:o5≠o7:=by rintro rfl;simp only[aR,if_true]at h7;cases h7
 simp only[go_sem,e];refine⟨e_ a_ (by simp only[go_sem,e]),?_⟩;simp only[go_sem,amA,bfY,ο,ρ];refine aQ λo8 h8=>?_;have j:o5≠o8:=by rintro rfl;simp only[aR,e,if_true,if_false]at h8;cases h8
 have w:o7≠o8:=by rintro rfl;simp only[aR,if_true]at h8;cases h8
 simp only[go_sem,amB,w,bfY];rw[ZQ];refine wp_loop (α:=Nat) (λk=>aJM f l o5 o7 o8 p.beL k) (λk=>((PH.nil.set o5 (.rows 1 [[.int .i64 v]])).set o7 (.rows 17 [p.cells])).set o8 (.rows 1 (bK (marks f.beL.length (p.beL.take k))))) (λk=>k≤Z' p.beL) (λk=>Z' p.beL-k) 0 (bgE _) ?_ ?_ ?_
 ·unfold aJM
  (repeat' (first|exact c_|refine d_ ?_ ?_))<;>first|(simp only[go_sem,bfY]<;>rfl)|rfl
 ·refine e_ (e_ (e_ a_ ?_) ?_) ?_
  ·simp only[go_sem,e,j]
  ·simp only[go_sem,w]
  ·simp only[go_sem,List.take_zero]
 intro k hk;simp only[go_sem,alX,amC,aJM];by_cases hlt:k<Z' p.beL
 ·have x:(k:Int)<(Z' p.beL:Nat):=Om;have τ:(p.beL.map λn=>[PV.int .i64 n])[k]?=some [.int .i64 p.beL[k]]:=by simp[hlt]
  obtain⟨m1,m2⟩:=U _ (bgD hlt);have Φ:(p.beL[k]).toNat<(bK (marks f.beL.length (p.beL.take k))).length:=by rw[jZ,Lf];omega
  have σ:(bK (marks f.beL.length (p.beL.take k)))[(p.beL[k]).toNat]?=some [.bool ((p.beL.take k).contains p.beL[k])]:=by unfold bK;rw[bgT,JH m1 m2];rfl
  simp only[go_sem,x,amD,τ,amE,m1,m2,bgL,σ,jM,bs m1 m2,amF,wZz k];refine aG (k+1) hlt Om ?_ ?_
  ·exact Lq
  ·rw[bhW hlt];refine e_ (e_ (e_ a_ ?_) ?_) ?_
   ·simp only[go_sem,e,j]
   ·simp only[go_sem,w]
   ·simp only[go_sem]
 ·have x:¬(k:Int)<(Z' p.beL:Nat):=Om;have:k=Z' p.beL:=Om;subst this;simp only[go_sem,x,amG,Ri,bhA];refine bA .nil cK a_ ?_;simp only[go_sem,Rj,bfY,M,N,O,R];refine aQ λoD hD=>?_;have y:o5≠oD:=by rintro rfl;simp only[aR,e,j,if_true,if_false]at hD;cases hD
  have J:o7≠oD:=by rintro rfl;simp only[aR,w,if_true,if_false]at hD;cases hD
  have K:o8≠oD:=by rintro rfl;simp only[aR,if_true]at hD;cases hD
  simp only[go_sem,bfY,M,N,O,R];refine aQ λoB hB=>?_;have I:o5≠oB:=by rintro rfl;simp only[aR,e,j,y,if_true,if_false]at hB;cases hB
  have W:o7≠oB:=by rintro rfl;simp only[aR,w,J,if_true,if_false]at hB;cases hB
  have X:o8≠oB:=by rintro rfl;simp only[aR,K,if_true,if_false]at hB;cases hB
  have Y:oD≠oB:=by rintro rfl;simp only[aR,if_true]at hB;cases hB
  rw[aLG,aRU];simp only[go_sem,Rk,e,j,y,I,V,bfY];have φ:(⟨o5,o7,o8,oD,oB⟩:Obs).Ne:=⟨y,I,J,W,K,X,Y⟩;refine aWT L f hV ⟨o5,o7,o8,oD,oB⟩ φ v p U row hr _ _ _ ?_ ⟨?_,?_,?_,?_,?_⟩ ?_
  ·unfold qY;exact Lq
  ·simp only[go_sem,e,j,y,I]
  ·simp only[go_sem,w,J,W]
  ·simp only[go_sem,K,X]
  ·simp only[go_sem,Y]
  ·simp only[go_sem]
  intro Θ Λ F1 H1 θ ν δ ε gd;have g:=λ(q:Nat) u h=>θ q u h;unfold qY at g;have q3:=g 3 _ rfl;have q5:=g 5 _ rfl;have q7:=g 7 _ rfl;have ψ:=g 11 _ rfl;have ω:=g 12 _ rfl;have Z:=g 13 _ rfl;have Γ:=g 14 _ rfl;have β:=g 15 _ rfl;simp only[go_sem,Rq,ω,Rr,Γ];have l2:=fY 2 v row.length (home row);have l3:=fY 3 v f.beK.length (oF f row);have l4:=fY 4 v row.length (eM f p row);have Ω:=hr.len;have Ξ:=E.beK;refine aPU L f hV ⟨o5,o7,o8,oD,oB⟩ v p _ _ row (cM 2 v row.length (home row)) Om Λ Θ _ _ _ H1 ?_ ν δ ε gd ?_
  ·unfold VV;exact Lq
  intro a' F2 H2 ι ξ ζ A η;have g:=λ(q:Nat) u h=>ι q u h;unfold VV at g;have q3:=g 3 _ rfl;have q5:=g 5 _ rfl;have q7:=g 7 _ rfl;have ψ:=g 11 _ rfl;have Z:=g 13 _ rfl;have β:=g 15 _ rfl;have Δ:=g 19 _ rfl;simp only[go_sem,Rw,Δ,Z];refine sL ζ A η A.view (by unfold roomFor;rw[kN,kN,bgB];simp only[maxLen];omega) λγ H3 k1 k2 k3 k4=>?_;simp only[go_sem,Rx,β];have χ:eK (cM 2 v row.length (home row)++cM 3 v f.beK.length (oF f row))++eK (cM 4 v row.length (eM f p row))=eK (cM 2 v row.length (home row)++cM 3 v f.beK.length (oF f row)++cM 4 v row.length (eM f p row)):=by simp only[eK,bhM]
  rw[χ]at k1;refine aPT L f hV ⟨o5,o7,o8,oD,oB⟩ v p _ _ row _ (by simp only[bgB];omega) γ _ _ H3 ?_ (ξ.keep k4) k1 ?_
  ·unfold U1;exact Lq
  intro b' F4 H4 κ μ;simp only[go_sem,R1,κ];exact qW (.inr rfl) μ rfl
structure Vn(C:Ctx):Prop extends QK C where
 row:∀(f:aD)(l:List (List Int)) (v:Nat),VF f→(∀p∈f.beO,Fits p.beL)→(h:v<Z' l)→v<Z' f.beM→DG f l[v]→aI C 158 [.agg f.cells,lay l,.int .i64 v] .nil (aK (PO (uB f (cL f v) v l[v])))
def xZ(f:aD)(l:List (List Int))(v:Nat):List lK:=match yJ f l v with
 |some x=>[x]
 |none=>uB f (cL f v) v (l.getD v [])
def tI(f:aD)(l:List (List Int))(n:Nat):List lK:=(bfZ n).flatMap (xZ f l)
def over(f:aD)(l:List (List Int))(room:List Int)(d:Nat):Bool:=decide ((kE f l).getD d 0>(jG f room).getD d 0)
def aZQ(f:aD)(l:List (List Int))(room:List Int):List lK:=tI f l l.length++cM 6 (-1) f.beK.length (over f l room)
def uT(f:aD)(l:List (List Int))(room:List Int):List lK:=
 if dU f then(if l.length=f.beM.length then aZQ f l room else[⟨1,-1,(Z' l:Nat)⟩])else[]
theorem FB{p:Int→Bool}:∀{l:List Int}{i:Nat},jI p l i=none→∀x∈l,p x=false
 |[],_,_,x,hx=>absurd hx (bgZ)
 |y::t,i,h,x,hx=>by
  rw[jI]at h;split at h
  ·cases h
  ·rename_i e;rcases bgN.1 hx with rfl|hx
   ·simpa using e
   ·exact FB h x hx
theorem Px{f:aD}{l:List (List Int)}(w:qO l){v:Nat}(e:v<Z' l)(h:yJ f l v=none):DG f l[v]:=by
 have u:l.getD v []=l[v]:=by simp[bgF,e]
 unfold yJ at h;rw[u]at h;split at h
 ·rw[Option.map_eq_none_iff]at h;refine⟨?_,λx y=>?_⟩
  ·have j:=IW l (v+1);have:=w.all;rw[zT l e,bgB]at j;omega
  ·have:=FB h x y;simp[nP]at this;omega
 ·cases h
theorem aKT(f:aD)(p:dV)(v:Nat)(row:List Int):(uB f p v row).length≤2*Z' row+Z' f.beK+Z' f.beN:=by
 unfold uB;have e:=fY 2 v row.length (home row);have j:=fY 3 v f.beK.length (oF f row);have l:=fY 4 v row.length (eM f p row);have u:=fY 5 v f.beN.length (pT f p row);simp only[bgB];omega
theorem va{f:aD}(e:Small f){l:List (List Int)}(w:qO l){v:Nat}(j:v<Z' l):(xZ f l v).length≤100000000:=by
 unfold xZ;split
 ·simp
 ·rename_i h;have u:l.getD v []=l[v]:=by simp[bgF,j]
  have:=aKT f (cL f v) v (l.getD v []);have x:=(Px w j h).len;have:=e.beK;have:=e.beN;rw[u]at *
  omega
theorem SI(f:aD)(l:List (List Int))(n:Nat):tI f l (n+1)=tI f l n++xZ f l n:=by
 unfold tI;rw[biO,bkB];simp
theorem EE{f:aD}(j:Small f){l:List (List Int)}(e:qO l):∀{n:Nat},n≤Z' l→(tI f l n).length≤n*100000000
 |0,_=>by simp[tI]
 |n+1,h=>by rw[SI,bgB];have:=EE j e (n:=n) Om;have:=va j e (v:=n) Om;omega
def viF(f:aD)(l:List (List Int))(room:List Int)(e:PV)(k:Nat):PF:=((((((PF.nil.set 1 (lay l)).set 2 (ints room)).set 3 (.bE f.cells)).set 7 (e)).set 30 (.int .i64 (Z' l:Nat))).set 31 (.int .i64 k))
def viG(f:aD)(l:List (List Int))(room:List Int)(e:PV)(k:Nat):PF:=(((((PF.nil.set 7 (e)).set 11 (ints (jG f room))).set 58 (ints (kE f l))).set 59 (.int .i64 (Z' f.beK:Nat))).set 60 (.int .i64 k))
theorem aRK{C:Ctx}(f:aD)(hV:VF f)(l:List (List Int))(room:List Int)(B:List lK)(S:Z' B≤2000000000)(E:PV)(K:cQ)(F:PF)(H:PH)
  (M:(viG f l room E 0).le F) (O:bH H 3 E (eK B))
  (N:∀v' I H',I 7=some v'→bH H' 3 v' (eK (B++cM 6 (-1) f.beK.length (over f l room)))→K (.exit 3) I H'):aC.wp C (.loop fy) K F H:=by
 have U:=hV.small.beK;refine wp_loop (α:=Nat × PV × PH) (λt=>viG f l room t.2.1 t.1) (λt=>t.2.2) (λt=>t.1≤Z' f.beK∧bH t.2.2 3 t.2.1 (eK (B++cM 6 (-1) t.1 (over f l room)))) (λt=>Z' f.beK-t.1) (0,E,H)
  ⟨bgE _,by rw[show cM 6 (-1) 0 (over f l room)=[]from rfl,bhH];exact O⟩ M b_ ?_
 rintro⟨k,v',H0⟩ ⟨R,j⟩;simp only at R j ⊢;simp only[go_sem,fy,Q9,viG];by_cases hlt:k<Z' f.beK
 ·have e:(k:Int)<(Z' f.beK:Nat):=Om;have w:k<(kE f l).length:=by rw[kE,lN];exact hlt
  have x:k<(jG f room).length:=by rw[pS];exact hlt
  have a1:((kE f l).map λn=>[PV.int .i64 n])[k]?=some [.int .i64 (kE f l)[k]]:=by simp[w]
  have a2:((jG f room).map λn=>[PV.int .i64 n])[k]?=some [.int .i64 (jG f room)[k]]:=by simp[x]
  have J:over f l room k=decide ((kE f l)[k]>(jG f room)[k]):=by simp only[over,bgF,bgH w,bgH x,biE]
  have A:=lS 6 (-1) k (over f l room);have X:=fY 6 (-1) k (over f l room);simp only[go_sem,e,Ra,a1,Rb,a2];by_cases c:(kE f l)[k]>(jG f room)[k]
  ·rw[aL (by rw[J];simp[c])]at A;have y:(1:Nat)*3≤16777216:=by decide
   simp only[go_sem,c,Rc,y];refine sL (rows':=[]) (u:=.aH) (src:=[(⟨6,-1,k⟩:lK).cells]) j .nil (λ_ _ _ _ _ h=>by cases h) rfl (by unfold roomFor;rw[kN,bgB];simp only[bgI,maxLen];omega) λv' H' k1 k2 V W=>?_;rw[oJ,bgX,←A]at k1;simp only[go_sem,gb,wZz k];refine aG (k+1,v',H') ⟨hlt,k1⟩ (by simp only;omega) ?_ b_;exact Lq
  ·rw[aE (by rw[J];simp;omega)]at A;rw[←A]at j;simp only[go_sem,c,gb,wZz k];refine aG (k+1,v',H0) ⟨hlt,j⟩ (by simp only;omega) ?_ b_;exact Lq
 ·have e:¬(k:Int)<(Z' f.beK:Nat):=Om;have:k=Z' f.beK:=Om;subst this;simp only[go_sem,e];exact N v' _ _ rfl j
theorem aXN{C:Ctx}(L:Vn C)(f:aD)(R:f.Ok)(l:List (List Int))(E:qO l)(room:List Int) :
  WV.wp C (aW aKC.res (cT (PO (uT f l room)))) (PF.args [.agg f.cells,lay l,ints room]) .nil:=by
 simp only[go_sem,WV,alN,alO,aKC];refine aB (L.valid f R) rfl ?_;unfold uT;have β:=E.rows;have I:∀p∈f.beO,Fits p.beL:=λp hp=>(R.beX p hp).beL;cases X:dU f with
 |false =>simp only[go_sem,bgS,alP];exact qW (rows:=[]) (.inr rfl) .nil rfl
 |true=>
  have hV:=VF.of X;by_cases c:Z' l=Z' f.beM
  ·have N:((Z' l:Int) != (Z' f.beM:Int))=false:=bR Om;rw[aL c];have Y:=hV.small.beM;simp only[go_sem,bgJ,xn,bfY,N,alR,alS];refine wp_loop (α:=Nat × PV × PH) (λt=>viF f l room t.2.1 t.1) (λt=>t.2.2) (λt=>t.1≤Z' l∧bH t.2.2 3 t.2.1 (eK (tI f l t.1))) (λt=>Z' l-t.1) (0,.aH,.nil) ⟨bgE _,.nil⟩ ?_ a_ ?_
   ·unfold viF
    (repeat' (first|exact c_|refine d_ ?_ ?_))<;>first|(simp only[go_sem,bfY]<;>rfl)|rfl
   rintro⟨k,v7,H0⟩ ⟨hk,M⟩;simp only at hk M ⊢;simp only[go_sem,Q4,alT,viF];by_cases hlt:k<Z' l
   ·have j:(k:Int)<(Z' l:Nat):=Om;have S:=EE hV.small E (n:=k) Om;have e:=SI f l k;simp only[go_sem,j,alU,alV];refine aB (L.shape f l k hV E hlt Om) rfl ?_;cases F:yJ f l k with
    |some x=>
     have w:xZ f l k=[x]:=by rw[xZ,F]
     rw[w]at e;simp only[go_sem,shV];refine aQ λo V=>?_;have B:(1:Nat)*3≤16777216:=by decide
     simp only[go_sem,fz,Q5,B];refine sL (rows':=[]) (u:=.aH) (src:=[x.cells]) (M.fresh V _).1 .nil (λ_ _ _ _ _ h=>by cases h) rfl (by unfold roomFor;rw[kN];simp only[bgI,maxLen];omega) λv' H' k1 k2 k3 k4=>?_;rw[oJ,←e]at k1;simp only[go_sem,ga,wZz k];refine aG (k+1,v',H') ⟨hlt,k1⟩ (by simp only;omega) ?_ b_;exact Lq
    |none=>
     have Z:l.getD k []=l[k]:=by simp[bgF,hlt]
     have w:xZ f l k=uB f (cL f k) k l[k]:=by rw[xZ,F,Z]
     have K:=Px E hlt F;have J:=va hV.small E hlt;rw[w]at e J;simp only[go_sem,shV];refine aQ λo V=>?_;simp only[go_sem,fz,Q6];refine aB (L.row f l k hV I hlt Om K) rfl ?_;simp only[go_sem];refine sL (rows':=[]) (u:=.aH) (src:=eK (uB f (cL f k) k l[k])) (M.fresh V _).1 .nil (λ_ _ _ _ _ h=>by cases h) rfl (by unfold roomFor;rw[kN,kN];simp only[maxLen];omega) λv' H' k1 k2 k3 k4=>?_;have W:eK (tI f l k)++eK (uB f (cL f k) k l[k])=eK (tI f l (k+1)):=by rw[e];simp only[eK,bhM]
     rw[W]at k1;simp only[go_sem,ga,wZz k];refine aG (k+1,v',H') ⟨hlt,k1⟩ (by simp only;omega) ?_ b_;exact Lq
   ·have j:¬(k:Int)<(Z' l:Nat):=Om;have:k=Z' l:=Om;subst this;have S:=EE hV.small E (n:=Z' l) (bgG _);have y:=L.room f room R;rw[uR,X]at y;have A:=L.loads f l hV.small.beK E;simp only[go_sem,j,Q7];refine aB y rfl ?_;simp only[go_sem,Q8];refine aB A rfl ?_;have U:(kE f l).length=Z' f.beK:=by rw[kE,lN]
    simp only[go_sem,bfY,U];refine aRK f hV l room (tI f l l.length) Om v7 _ _ H0 ?_ M ?_
    ·unfold viG;exact Lq
    intro v' F' H' h7 O;simp only[go_sem,Re,h7];exact qW (.inr rfl) O rfl
  ·have N:((Z' l:Int) != (Z' f.beM:Int))=true:=cP Om;have B:(1:Nat)*3≤16777216:=by decide
   rw[aE c];simp only[go_sem,bgJ,xn,bfY,N,alQ,B];exact bB (.inr rfl) .nil rfl a_ ⟨.refl _,rfl⟩
structure aZE(C:Ctx):Prop extends Vn C where
 viol:∀(f:aD)(l:List (List Int)) (room:List Int),f.Ok→qO l→aI C 154 [.agg f.cells,lay l,ints room] .nil (aK (PO (uT f l room)))
def sS(f:aD)(l:List (List Int))(room:List Int):Bool:=dU f&&decide ((uT f l room).length=0)
theorem aQN{C:Ctx}(L:aZE C)(f:aD)(e:f.Ok)(l:List (List Int))(j:qO l)(room:List Int) :
  OQ.wp C (aW akV.res (cT (.bool (sS f l room)))) (PF.args [.agg f.cells,lay l,ints room]) .nil:=by
 simp only[go_sem,OQ,Qi,Qj,akV];refine aB (L.valid f e) rfl ?_;unfold sS;cases u:dU f with
 |false =>simp only[go_sem];exact bM rfl rfl
 |true=>
  simp only[go_sem];refine aB (L.viol f l room e j) rfl ?_;by_cases c:(uT f l room).length=0
  ·simp only[go_sem,bfY,bT (show(((uT f l room).length:Nat):Int)=0 by omega)];exact bM rfl (by simp[c])
  ·simp only[go_sem,bfY,bD (show(((uT f l room).length:Nat):Int)≠0 by omega)];exact bM rfl (by rw[bV c])
def LF:=bO [] Proofs.Tryz.f21
def awY:=aA LF 0
def awZ:=aA LF 1
def axA:=aA LF 2
def Ho:=aA LF 3
def cb:aC:=(sq awY (jA awZ 5 (.region axA) (sq Ho .ret)))
def aVD:aX:=⟨1,12,cb,[.tmp 2]⟩
def BB:=bO [] Proofs.Tryz.f26
def ue:=aA BB 0
def UK:=cA BB 0
def ug:=aA BB 1
def adG:=aA BB 2
def adH:=cA BB 1
def GK:aC:=(sq ue (.seq (dq UK (.cond (Tm 18) (sq ug .ret) .skip)) (sq adG (dq adH .ret))))
def Ux:aX:=⟨2,40,GK,[.tmp 4]⟩
def UF:=bO [] Proofs.Tryz.f78
def acG:=aA UF 0
def acH:=aA UF 1
def acI:=aA UF 2
def UE:aC:=(sq acG (sq acH (sq acI .ret)))
def aIB:aX:=⟨1,16,UE,[.cell 2 (some 3)]⟩
def fG:=bO [45,63,90,95] Proofs.Tryz.f48
def awS:=aA fG 0
def awT:=aA fG 1
def awU:=aA fG 2
def awV:=aA fG 3
def awW:=aA fG 4
def awX:=aA fG 5
def Hl:=aA fG 6
def Hm:=aA fG 7
def Hn:=aA fG 8
def ju:=aA fG 9
def tt:=aA fG 10
def tu:=aA fG 11
def tv:=aA fG 12
def tw:=aA fG 13
def tx:=aA fG 14
def UI:=aA fG 15
def tz:=aA fG 16
def t6:=aA fG 17
def acZ:=aA fG 18
def adA:=aA fG 19
def adB:=aA fG 20
def t7:=aA fG 21
def t8:=aA fG 22
def uc:=aA fG 23
def UH:aC:=(dD acZ 68 2 uc (sq adA (jA adB 85 (.region t7) (.region t8))))
def ud:=aA fG 24
def adC:=aA fG 25
def acY:aC:=(dD awX 22 0 adC (sq Hl (jA Hm 29 (.region Hn) (sq ju (sq tt (sq tu (sq tv (jA tw 58 (.region tx) (sq UI (sq tz (.seq (cE t6 2 UH) (.region ud))))))))))))
def adD:=aA fG 26
def ca:aC:=(sq awS (sq awT (sq awU (sq awV (.seq (cE awW 0 acY) (sq adD .ret))))))
def aVA:aX:=⟨2,99,ca,[.cell 4 (some 4)]⟩
def wF:=bO [16] Proofs.Tryz.f52
def axC:=aA wF 0
def axD:=aA wF 1
def axE:=aA wF 2
def axF:=aA wF 3
def axG:=aA wF 4
def axH:=aA wF 5
def axB:aC:=(dD axF 10 0 axH (.region axG))
def axI:=aA wF 6
def cc:aC:=(sq axC (sq axD (.seq (cE axE 0 axB) (sq axI .ret))))
def aVG:aX:=⟨2,19,cc,[.tmp 4]⟩
def Bd:=bO [] Proofs.Tryz.f49
def adE:=aA Bd 0
def adF:=aA Bd 1
def UJ:aC:=(sq adE (sq adF .ret))
def aIE:aX:=⟨2,9,UJ,[.tmp 4]⟩
def jP:=bO [60,81,113] Proofs.Tryz.f51
def acL:=aA jP 0
def acM:=aA jP 1
def acN:=aA jP 2
def acO:=aA jP 3
def UG:=aA jP 4
def tk:=aA jP 5
def tp:=aA jP 6
def acP:=aA jP 7
def acQ:=cA jP 0
def acR:=cA jP 1
def Ls:=aA jP 8
def Lt:=cA jP 2
def Lu:=aA jP 9
def Lw:=aA jP 10
def b8:=cA jP 3
def b9:=aA jP 11
def EK:=aA jP 12
def EJ:aC:=(dD tk 28 0 EK (jA tp 32 (jA acP 39 (dq acQ (.draw acR)) (.exit 1)) (jA Ls 78 .ret (dq Lt (jA Lu 98 (.region Lw) (dq b8 (.region b9)))))))
def GJ:aC:=(sq acL (sq acM (jA acN 25 (.region acO) (cE UG 0 EJ))))
def Uw:aX:=⟨4,127,GJ,[]⟩
def cJ:=bO [40,67,148,154,176] Proofs.Tryz.f22
def Li:=aA cJ 0
def Lj:=aA cJ 1
def Lk:=aA cJ 2
def Ll:=aA cJ 3
def Lm:=aA cJ 4
def Ln:=aA cJ 5
def Lo:=aA cJ 6
def Lp:=aA cJ 7
def Lr:=aA cJ 8
def bz:aC:=(dD Lm 29 0 Lr (sq Ln (sq Lo (.region Lp))))
def Aq:=aA cJ 9
def Ar:=aA cJ 10
def As:=aA cJ 11
def Au:=cA cJ 0
def Av:=cA cJ 1
def Aw:=aA cJ 12
def TU:aC:=(dD As 48 2 Aw (dq Au (.draw Av)))
def Ax:=aA cJ 13
def Ay:=aA cJ 14
def Az:=aA cJ 15
def A0:=aA cJ 16
def A1:=aA cJ 17
def TX:=aA cJ 18
def GD:=cA cJ 2
def GF:=cA cJ 3
def GG:=aA cJ 19
def GH:=aA cJ 20
def TY:=aA cJ 21
def A2:=aA cJ 22
def A3:=aA cJ 23
def A4:=aA cJ 24
def TZ:=aA cJ 25
def GC:aC:=(dD A2 119 6 TZ (sq A3 (.cond (Tm 124) (.region A4) .skip)))
def UA:=aA cJ 26
def UB:=aA cJ 27
def UC:=aA cJ 28
def UD:=aA cJ 29
def GI:=aA cJ 30
def A5:=aA cJ 31
def TV:aC:=(dD A1 82 4 A5 (sq TX (.seq (dq GD (.draw GF)) (sq GG (sq GH (.seq (cE TY 6 GC) (sq UA (sq UB (jA UC 143 (.region UD) (.region GI))))))))))
def A6:=aA cJ 32
def A7:=aA cJ 33
def A8:=aA cJ 34
def A9:=cA cJ 4
def Ba:=cA cJ 5
def Bb:=aA cJ 35
def TW:aC:=(dD A8 163 8 Bb (dq A9 (.draw Ba)))
def Bc:=aA cJ 36
def NK:aC:=(sq Li (sq Lj (sq Lk (.seq (cE Ll 0 bz) (sq Aq (.seq (cE Ar 2 TU) (sq Ax (sq Ay (sq Az (.seq (cE A0 4 TV) (sq A6 (.seq (cE A7 8 TW) (sq Bc .ret)))))))))))))
def acF:aX:=⟨3,180,NK,[.cell 6 (some 7)]⟩
def l7:=bO [] Proofs.Tryz.f10
def Lc:=aA l7 0
def Ld:=aA l7 1
def NI:aC:=(sq Lc (sq Ld .ret))
def abL:aX:=⟨3,12,NI,[.cell 6 (some 7)]⟩
def qT:=bO [3,21] Proofs.Tryz.f23
def adN:=aA qT 0
def adO:=aA qT 1
def adP:=aA qT 2
def adQ:=aA qT 3
def adR:=aA qT 4
def adS:=aA qT 5
def adT:=aA qT 6
def adU:=aA qT 7
def adM:aC:=(dD adS 14 0 adU (.region adT))
def adV:=aA qT 8
def UM:aC:=(sq adN (dA adO 9 adP (sq adQ (.seq (cE adR 0 adM) (sq adV .ret)))))
def aIH:aX:=⟨2,24,UM,[.tmp 4]⟩
def WB:=bO [2] Proofs.Tryz.f57
def aiV:=aA WB 0
def aiW:=cA WB 0
def aiX:=aA WB 1
def WA:aC:=(sq aiV (dq aiW (sq aiX .ret)))
def aJS:aX:=⟨2,21,WA,[.tmp 4]⟩
def BT:=bO [] Proofs.Tryz.f103
def anS:=aA BT 0
def anT:=aA BT 1
def anU:=aA BT 2
def anV:=aA BT 3
def anR:aC:=(.seq (sq anU (.cond (Tm 15) .skip (.exit 0))) (.block 1 (.region anV)))
def xt:=aA BT 4
def XL:aC:=(sq anS (sq anT (.seq (.block 0 (.loop anR)) (sq xt .ret))))
def aKN:aX:=⟨1,22,XL,[.tmp 2]⟩
def D2:=bO [8] Proofs.Tryz.f81
def anH:=aA D2 0
def anI:=aA D2 1
def XC:aC:=(sq anH (sq anI .ret))
def aKJ:aX:=⟨1,10,XC,[.tmp 2]⟩
def pe:=bO [] Proofs.Tryz.f143
def R5:=aA pe 0
def R6:=aA pe 1
def PJ:aC:=(sq R5 (sq R6 .ret))
def anG:aX:=⟨1,7,PJ,[.tmp 2]⟩
def mN:=bO [] Proofs.Tryz.f141
def aCI:=aA mN 0
def aCJ:=aA mN 1
def aCK:=aA mN 2
def aCL:=aA mN 3
def aCM:=aA mN 4
def aCN:=aA mN 5
def aCO:=aA mN 6
def aCP:=aA mN 7
def aCQ:=cA mN 0
def aCR:=aA mN 8
def amT:=cA mN 1
def amU:=aA mN 9
def amV:=aA mN 10
def amS:aC:=(dD aCP 24 0 amV (.seq (dq aCQ (.cond (Tm 35) (sq aCR .ret) .skip)) (dq amT (.cond (Tm 44) (sq amU .ret) .skip))))
def amW:=aA mN 11
def gm:aC:=(sq aCI (sq aCJ (jA aCK 14 (dA aCL 19 aCM (sq aCN .ret)) (.seq (cE aCO 0 amS) (sq amW .ret)))))
def aXS:aX:=⟨2,45,gm,[.tmp 4]⟩
def cV:=bO [76] Proofs.Tryz.f144
def Dv:=aA cV 0
def Dw:=aA cV 1
def Dx:=aA cV 2
def Dy:=aA cV 3
def WY:=aA cV 4
def WZ:=aA cV 5
def XA:=aA cV 6
def Dz:=aA cV 7
def D0:=aA cV 8
def D1:=aA cV 9
def n8:=aA cV 10
def n9:=aA cV 11
def OV:aC:=(dD Dz 36 0 n9 (sq D0 (sq D1 (.region n8))))
def OW:=aA cV 12
def oa:=aA cV 13
def oc:=aA cV 14
def OX:=aA cV 15
def OY:=aA cV 16
def OZ:=aA cV 17
def PA:=aA cV 18
def oe:=aA cV 19
def og:=cA cV 0
def oi:=aA cV 20
def oj:=aA cV 21
def oq:=aA cV 22
def ot:=cA cV 1
def ou:=aA cV 23
def DR:aC:=(.seq (dq ot (.cond (Tm 146) .skip (.exit 4))) (.block 5 (.region ou)))
def PB:=aA cV 24
def PC:=aA cV 25
def ov:=aA cV 26
def ow:=aA cV 27
def oz:=aA cV 28
def pd:=aA cV 29
def PD:=aA cV 30
def DS:aC:=(dD ov 166 6 PD (sq ow (sq oz (.cond (Tm 177) (.region pd) .skip))))
def PE:=aA cV 31
def PG:=aA cV 32
def DT:aC:=(dD oe 105 2 PG (dq og (sq oi (jA oj 131 (.region oq) (.seq (.block 4 (.loop DR)) (sq PB (.seq (cE PC 6 DS) (.region PE))))))))
def PI:=aA cV 33
def JW:aC:=(sq Dv (dA Dw 23 Dx (jA Dy 28 (sq WY (sq WZ (.seq (cE XA 0 OV) (sq OW .ret)))) (sq oa (sq oc (sq OX (sq OY (sq OZ (.seq (cE PA 2 DT) (sq PI .ret))))))))))
def I8:aX:=⟨2,198,JW,[.tmp 4,.tmp 5]⟩
def wR:=bO [] Proofs.Tryz.f114
def aCS:=aA wR 0
def aCT:=aA wR 1
def I7:=aA wR 2
def aCU:=aA wR 3
def aCV:=aA wR 4
def aCW:=aA wR 5
def aCX:=aA wR 6
def gn:aC:=(sq aCS (dA aCT 14 I7 (dA aCU 18 aCV (sq aCW (sq aCX .ret)))))
def udiv:aX:=⟨2,29,gn,[.tmp 4,.tmp 5,.tmp 6]⟩
def uG:=bO [] Proofs.Tryz.f113
def aCZ:=aA uG 0
def aDA:=aA uG 1
def I9:=aA uG 2
def aDB:=aA uG 3
def aDC:=aA uG 4
def aDD:=aA uG 5
def aDE:=aA uG 6
def aCY:aC:=(.seq (sq aDC (.cond (Tm 22) .skip (.exit 0))) (.block 1 (sq aDD (.region aDE))))
def aDF:=aA uG 7
def gr:aC:=(sq aCZ (dA aDA 15 I9 (sq aDB (.seq (.block 0 (.loop aCY)) (sq aDF .ret)))))
def aXW:aX:=⟨2,32,gr,[.tmp 4,.tmp 5]⟩
def oH:=bO [16] Proofs.Tryz.f80
def Ed:=aA oH 0
def Ee:=aA oH 1
def Ef:=aA oH 2
def Eg:=aA oH 3
def Eh:=aA oH 4
def Ei:=aA oH 5
def XP:=aA oH 6
def XQ:=aA oH 7
def HF:=aA oH 8
def JZ:aC:=(sq Ed (sq Ee (dA Ef 15 Eg (.seq (sq Eh (sq Ei (.cond (Tm 32) (sq XP (.region XQ)) .skip))) (sq HF .ret)))))
def Je:aX:=⟨3,51,JZ,[.cell 6 (some 3)]⟩
def HI:=bO [] Proofs.Tryz.f82
def aoT:=aA HI 0
def aoU:=aA HI 1
def aoV:=aA HI 2
def aoW:=aA HI 3
def XU:aC:=(sq aoT (dA aoU 4 aoV (sq aoW .ret)))
def aKZ:aX:=⟨1,12,XU,[.tmp 2]⟩
def HG:=bO [] Proofs.Tryz.f53
def aoI:=aA HG 0
def aoJ:=aA HG 1
def aoK:=aA HG 2
def aoL:=aA HG 3
def XR:aC:=(sq aoI (dA aoJ 7 aoK (sq aoL .ret)))
def U7:aX:=⟨2,21,XR,[.cell 4 (some 3),.tmp 5]⟩
def ig:=bO [] Proofs.Tryz.f50
def aEE:=aA ig 0
def aEF:=aA ig 1
def aEG:=aA ig 2
def ie:aC:=(sq aEE (sq aEF (sq aEG .ret)))
def aYK:aX:=⟨1,11,ie,[.cell 2 (some 3)]⟩
def utF(xs:List Nat)(n:Nat):PF:=((PF.nil.set 0 (aN xs)).set 3 (.int .i64 n))
theorem aYG{C:Ctx}(xs:List Nat)(R:Lim xs)(S:Z' xs≤35184372087808):XL.wp C (aW aKN.res (tH 1 (aP (aM (val xs))))) (PF.args [aN xs]) .nil:=by
 simp only[go_sem,XL,anS,anT,aKN,bfY];refine wp_loop (α:=Nat) (λn=>utF xs n) (λ_=>.nil) (λn=>n≤Z' xs∧∀j x,n≤j→xs[j]?=some x→x=0) (λn=>n) xs.length ⟨bgG _,λj x B l=>?_⟩ ?_ a_ ?_
 ·rw[bhQ B]at l;cases l
 ·unfold utF;exact Lq
 rintro n ⟨N,J⟩;have done:(0<n→∀h:n-1<Z' xs,xs[n-1]≠0)→∀F:PF,(utF xs n).le F→aC.wp C (.seq (.region xt) .ret) (aW [.tmp 2] (tH 1 (aP (aM (val xs))))) F .nil:=by
  intro h F A;have f0:F 0=some (aN xs):=A 0 _ (by unfold utF;simp only[go_sem]);have K:F 3=some (.int .i64 n):=A 3 _ (by unfold utF;simp only[go_sem]);have E:xs.take n=aM (val xs):=WN R N J λx w l=>by
   rw[bgH Om]at l;injection l with l
   subst l;exact h w Om
  have M:((n:Nat):Int)≤(Z' xs:Nat):=Om;simp only[go_sem,xt,f0,K,bfY,M,or_true,bhP];refine hY (rows:=[]) (src:=aP (aM (val xs))) .nil ?_ ?_ λv H' O _=>?_
  ·simp only[go_sem];rw[←E,←List.map_take]
  ·unfold roomFor;rw[dK,←E,bgP];simp only[biM,maxLen];omega
  ·exact VR (.inr rfl) (by simpa using O) rfl
 simp only[aC.wp,go_sem]at done;simp only[go_sem,anR,anU,utF];by_cases w:0<n
 ·have u:((n:Nat):Int)>0:=Om;have hlt:n-1<Z' xs:=Om;have y:=cU xs hlt;have I:IntKind.i64.wrap ((n:Int)-1)=((n-1:Nat):Int):=EW Om w;simp only[go_sem,u,I,y];by_cases c:xs[n-1]=0
  ·simp only[go_sem,bT (Om:((xs[n-1]:Nat):Int)=0),anV,I];refine aG (n-1) ⟨by omega,λj x B l=>?_⟩ Om ?_ a_
   ·by_cases e:j=n-1
    ·subst e;rw[bgH hlt]at l;injection l with l
     omega
    ·exact J j x Om l
   ·exact Lq
  ·simp only[go_sem,bD (Om:((xs[n-1]:Nat):Int)≠0)];exact done (λ_ _=>c) _ (by unfold utF;exact Lq)
 ·have u:¬((n:Nat):Int)>0:=Om;simp only[go_sem,u];exact done (λh=>absurd h w) _ (by unfold utF;exact Lq)
structure wX(C:Ctx):Prop where
 trimM:∀xs,Lim xs→Z' xs≤35184372087808→aI C 38 [aN xs] .nil (tH 1 (aP (aM (val xs))))
theorem wX.trim{C:Ctx}(L:wX C)(xs:List Nat)(j:Lim xs)(e:Z' xs≤35184372087808):aI C 38 [aN xs] .nil (aK (aN (aM (val xs)))):=(L.trimM xs j e).freeze
theorem aXX{C:Ctx}(L:wX C)(v:Nat)(E:v<18446744073709551616):XC.wp C (aW aKJ.res (cT (aN (aM v)))) (PF.args [.int .u64 v]) .nil:=by
 have y:IntKind.u32.wrap ((v:Nat):Int)=((v%4294967296:Nat):Int):=dY v;have l:v/4294967296<4294967296:=Om;have A:IntKind.u32.wrap ((v/4294967296:Nat):Int)=((v/4294967296:Nat):Int):=by rw[dY,bhS l]
 have B:Lim [v%4294967296,v/4294967296]:=by
  intro x w;simp only[bgN,List.mem_nil_iff,or_false]at w;rcases w with rfl|rfl
  ·exact bhZ _ aV
  ·exact l
 have e:val [v%4294967296,v/4294967296]=v:=by simp only[val,Nat.mul_zero,bhL];exact Nat.mod_add_div v 4294967296
 have j:shift .shr .u64 (v:Int) 32=some (.int .u64 ((v/4294967296:Nat):Int)):=GX;have hb:(2:Nat)*1≤16777216:=by decide
 simp only[go_sem,XC,anH,anI,aKJ,y,j,A,hb];have u:=L.trim [v%4294967296,v/4294967296] B aY;rw[e]at u;refine aB u rfl ?_;simp only[go_sem];exact bB (.inr rfl) .nil rfl a_ ⟨.refl _,rfl⟩
theorem aQV{C:Ctx}(L:wX C)(xs:List Nat)(j:Lim xs)(e:Z' xs≤35184372087808):PJ.wp C (aW anG.res (cT (.bool (decide (nl (val xs)>512))))) (PF.args [aN xs]) .nil:=by
 simp only[go_sem,PJ,R5,R6,anG];refine aB (L.trim xs j e) rfl ?_;simp only[go_sem,bfY,bJ];refine bM rfl ?_;rw[decide_eq_decide];omega
theorem aGF{a b:Nat}(h:nl a<nl b):fJ a b=-1:=by
 have:a<b:=by
  rcases bgV a b with h'|h'
  ·exact h'
  ·have:=kW h';omega
 simp[fJ,this]
theorem aGE{a b:Nat}(h:nl b<nl a):fJ a b=1:=by
 have:b<a:=by
  rcases bgV b a with h'|h'
  ·exact h'
  ·have:=kW h';omega
 have e:¬a<b:=Om;simp[fJ,this,e]
def aKE(X Y:List Nat)(i:Int):PF:=(((PF.nil.set 0 (aN X)).set 1 (aN Y)).set 5 (.int .i64 i))
theorem a3T{C:Ctx}(L:wX C)(xs e:List Nat)(B:Lim xs)(E:Lim e)(W:Z' xs≤35184372087808)(Z:Z' e≤35184372087808) :
  gm.wp C (aW aXS.res (aK (.int .i64 (fJ (val xs) (val e))))) (PF.args [aN xs,aN e]) .nil:=by
 simp only[go_sem,gm,aCI,aCJ,aXS];refine aB (L.trim xs B W) Ev ?_;simp only[go_sem];refine aB (L.trim e E Z) Ev ?_;have bx:=kL B;have J:=kL E;simp only[go_sem,aCK,bfY,bJ];by_cases w:nl (val xs)≠nl (val e)
 ·simp only[go_sem,cP (show((nl (val xs):Nat):Int)≠(nl (val e):Nat) by omega),aCL];by_cases K:nl (val xs)<nl (val e)
  ·simp only[go_sem,bfY,bJ,show((nl (val xs):Nat):Int)<(nl (val e):Nat) by omega,aCM];refine aU (.inr rfl) Ev ?_;rw[aGF K];rfl
  ·simp only[go_sem,bfY,bJ,show ¬((nl (val xs):Nat):Int)<(nl (val e):Nat) by omega,aCN];refine aU (.inr rfl) Ev ?_;rw[aGE Om];rfl
 replace w:=Decidable.of_not_not w;simp only[go_sem,bR (show((nl (val xs):Nat):Int)=(nl (val e):Nat) by omega),aCO,bfY,bJ];have ex:=aZ (val xs);have x:=aZ (val e);have F:=bC (val xs);have I:=bC (val e);generalize R:aM (val xs)=X at *
 generalize S:aM (val e)=Y at *
 have U:Z' X=nl (val xs):=by rw[←R];rfl
 have V:Z' Y=nl (val xs):=by rw[w,←S];rfl
 refine wp_loop (α:=Nat) (λk=>aKE X Y ((k:Int)-1)) (λ_=>.nil) (λk=>k≤nl (val xs)∧X.drop k=Y.drop k) (λk=>k) (nl (val xs)) ⟨bgG _,?_⟩ ?_ a_ ?_
 ·rw[bkA Om,bkA Om]
 ·unfold aKE
  (repeat' (first|exact c_|refine d_ ?_ ?_))<;>first|(simp only[go_sem,wrap_i64 (show -9223372036854775808≤((nl (val xs):Nat):Int)-1 by omega) (show((nl (val xs):Nat):Int)-1≤9223372036854775807 by omega)]<;>rfl)|rfl
 rintro k ⟨hk,j⟩;simp only[go_sem,amS,aCP,aKE];by_cases h0:0<k
 ·obtain⟨m,rfl⟩:∃m,k=m+1:=⟨k-1,by omega⟩;have A:((m+1:Nat):Int)-1=(m:Int):=Om;have y:(m:Int)≥0:=Om;have l:m<Z' X:=Om;have u:m<Z' Y:=Om;simp only[go_sem,A,y];refine bA .nil cK a_ ?_;simp only[go_sem,aCQ,cU X l,cU Y u];by_cases M:X[m]<Y[m]
  ·simp only[go_sem,show((X[m]:Nat):Int)<(Y[m]:Nat) by omega,aCR];refine aU (.inr rfl) Ev ?_;have:=y7 F l u j M;rw[ex,x]at this;simp[cF,fJ,this]
  ·simp only[go_sem,show ¬((X[m]:Nat):Int)<(Y[m]:Nat) by omega];refine bA .nil cK a_ ?_;simp only[go_sem,amT,cU X l,cU Y u];by_cases N:X[m]>Y[m]
   ·simp only[go_sem,show((X[m]:Nat):Int)>(Y[m]:Nat) by omega,amU];refine aU (.inr rfl) Ev ?_;have:=y7 I u l j.symm N;rw[ex,x]at this;have O:¬val xs<val e:=Om;simp[cF,fJ,this,O]
   ·simp only[go_sem,show ¬((X[m]:Nat):Int)>(Y[m]:Nat) by omega,amV];refine aG m ⟨by omega,Jx l u j Om⟩ Om ?_ a_
    (repeat' (first|exact c_|refine d_ ?_ ?_))<;>first|(simp only[go_sem,wrap_i64 (Om:-9223372036854775808≤(m:Int)-1) (Om:(m:Int)-1≤9223372036854775807)]<;>rfl)|rfl
 ·have:k=0:=Om;subst this;have A:¬((0:Nat):Int)-1≥0:=by decide
  simp only[go_sem,A,amW];refine aU (.inr rfl) Ev ?_;rw[bhP,bhP]at j;have:val xs=val e:=by rw[←ex,←x,j]
  simp[cF,fJ,this]
theorem MM(n:Nat):(((n:Nat):Int)==0)=decide (n=0):=by
 by_cases h:n=0
 ·subst h;rfl
 ·rw[bD Om,bV h]
structure Vh(C:Ctx):Prop extends wX C where
 make:∀v:Nat,v<18446744073709551616→aI C 35 [.int .u64 v] .nil (aK (aN (aM v)))
 large:∀xs,Lim xs→Z' xs≤35184372087808→aI C 41 [aN xs] .nil (aK (.bool (decide (nl (val xs)>512))))
 cmp:∀xs ys,Lim xs→Lim ys→Z' xs≤35184372087808→Z' ys≤35184372087808→aI C 32 [aN xs,aN ys] .nil (aK (.int .i64 (fJ (val xs) (val ys))))
def aKI(a b:Nat):PF:=((PF.nil.set 6 (aN (aM a))).set 7 (aN (aM b)))
structure yi(C:Ctx):Prop extends Vh C where
 divide:∀A B:Nat,B≠0→nl A≤512→nl B≤512→aI C 39 [aN (aM A),aN (aM B)] .nil (aK (xX A B))
def aGZ(a b:Nat):PV:=if gJ a b then .tup [aN [],.int .i64 2]else .tup [aN (aM (bgC a b)),.int .i64 0]
theorem a3V{C:Ctx}(L:yi C)(a b:List Nat)(w:Lim a)(hb:Lim b)(B:Z' a≤35184372087808)(E:Z' b≤35184372087808) :
  gr.wp C (aW aXW.res (cT (aGZ (val a) (val b)))) (PF.args [aN a,aN b]) .nil:=by
 unfold aGZ;simp only[go_sem,gr,aCZ,aDA,aXW];refine aB (L.large a w B) rfl ?_;by_cases e:nl (val a)>512
 ·simp only[go_sem,e,I9];rw[aL (by simp[gJ,e])];exact jB rfl
 simp only[go_sem,e];refine aB (L.large b hb E) rfl ?_;by_cases j:nl (val b)>512
 ·simp only[go_sem,j,I9];rw[aL (by simp[gJ,j])];exact jB rfl
 rw[aE (by simp[gJ,e,j])];simp only[go_sem,j,aDB];refine aB (L.trim a w B) rfl ?_;simp only[go_sem];refine aB (L.trim b hb E) rfl ?_;simp only[go_sem];refine wp_loop (α:=Nat × Nat) (λt=>aKI t.1 t.2) (λ_=>.nil) (λt=>bgC t.1 t.2=bgC (val a) (val b)∧nl t.1≤512∧nl t.2≤512) (λt=>t.2) (val a,val b) ⟨rfl,by simp only;omega,by simp only;omega⟩ ?_ a_ ?_
 ·unfold aKI;exact Lq
 rintro⟨x,y⟩ ⟨u,F,A⟩;simp only at u F A;simp only[go_sem,aCY,aDC,aKI,bJ];by_cases l:y=0
 ·subst l;have:¬((nl 0:Nat):Int)>0:=by rw[IF];decide
  simp only[go_sem,this,aDF];refine bB (vs:=[aN (aM x),.int .i64 0]) (.inr rfl) .nil rfl a_ ⟨?_,rfl⟩;rw[←u,Nat.gcd_zero_right];exact .refl _
 ·have I:nl y≠0:=λh=>l (mV.1 h);have:((nl y:Nat):Int)>0:=Om;simp only[go_sem,this,aDD];refine aB (L.divide x y l Om Om) rfl ?_;simp only[go_sem,xX,aDE];have hlt:x%y<y:=bhZ _ (biX l);refine aG (y,x%y) ⟨?_,A,?_⟩ hlt ?_ a_
  ·simp only;rw[←u,Nat.gcd_comm y,←Nat.gcd_rec y x,Nat.gcd_comm]
  ·have:=kW (Nat.le_of_lt hlt);simp only;omega
  ·exact Lq
theorem a3U{C:Ctx}(L:yi C)(a b:List Nat)(w:Lim a)(hb:Lim b)(x:Z' a≤35184372087808)(u:Z' b≤35184372087808) :
  gn.wp C (aW udiv.res (cT (tJ (val a) (val b)))) (PF.args [aN a,aN b]) .nil:=by
 unfold tJ;simp only[go_sem,gn,aCS,aCT,udiv];refine aB (L.large a w x) rfl ?_;by_cases j:nl (val a)>512
 ·simp only[go_sem,j,I7];rw[aL (by simp[gJ,j])];exact zX rfl
 simp only[go_sem,j];refine aB (L.large b hb u) rfl ?_;by_cases l:nl (val b)>512
 ·simp only[go_sem,l,I7];rw[aL (by simp[gJ,l])];exact zX rfl
 rw[aE (by simp[gJ,j,l])];simp only[go_sem,l,aCU];refine aB (L.trim b hb u) rfl ?_;simp only[go_sem,bfY,bJ,MM,mV];by_cases e:val b=0
 ·rw[aL e];simp only[go_sem,bX e,aCV];exact zX rfl
 rw[aE e];simp only[go_sem,bV e,aCW];refine aB (L.trim a w x) rfl ?_;simp only[go_sem];refine aB (L.trim b hb u) rfl ?_;simp only[go_sem];refine aB (L.divide (val a) (val b) e Om Om) rfl ?_;simp only[go_sem,xX,aCX];exact bB (.inr rfl) .nil rfl a_ ⟨.refl _,rfl⟩
def tB(neg:Bool)(a b:Nat):FV:=(neg&&decide (a/bgC a b≠0),a/bgC a b,b/bgC a b)
structure Vi(C:Ctx):Prop extends yi C where
 gcd:∀a b,Lim a→Lim b→Z' a≤35184372087808→Z' b≤35184372087808→aI C 34 [aN a,aN b] .nil (aK (aGZ (val a) (val b)))
 div:∀a b,Lim a→Lim b→Z' a≤35184372087808→Z' b≤35184372087808→aI C 33 [aN a,aN b] .nil (aK (tJ (val a) (val b)))
theorem BD{n:Nat}(h:nl n≤512):(aM n).length≤35184372087808:=by rw[bJ];omega
theorem EI:aM 1=[1]:=vF aV aV
theorem Ae{n:Nat}(h:n≠0):aM n=n%4294967296::aM (n/4294967296):=zW h
theorem JA{n:Nat}(h:n≠0):(nl n>1∨n%4294967296>1)↔n≠1:=by
 constructor
 ·rintro h1 rfl;rcases h1 with h1|h1
  ·rw[nl,EI]at h1;simp at h1
  ·omega
 ·intro h1;by_cases c:nl n>1
  ·exact .inl c
  ·have:n<4294967296^1:=(nJ n 1).1 Om;rw[Nat.pow_one]at this;rw[bhS this];exact .inr Om
theorem aKV{C:Ctx}(L:Vi C)(neg:Bool)(a b:List Nat)(Y:Lim a)(hb:Lim b)(la:Z' a≤35184372087808)(lb:Z' b≤35184372087808)(E:nl (val a)≤512)(A:nl (val b)≤512)(I:val b≠0) :
  JZ.wp C (aW Je.res (cT (.agg (tB neg (val a) (val b)).rf.cells))) (PF.args [.bool neg,aN a,aN b]) .nil:=by
 have j:bgC (val a) (val b)≠0:=λh=>I (Nat.eq_zero_of_gcd_eq_zero_right h);have M:bgC (val a) (val b)≤val b:=Nat.gcd_le_right _ (biX I);have R:nl (bgC (val a) (val b))≤512:=biJ (kW M) A;have N:gJ (val a) (val b)=false:=mT E A;simp only[go_sem,JZ,Ed,Ee,Je];refine aQ λo ho=>?_;simp only[go_sem];refine aB (L.trim a Y la) rfl ?_;simp only[go_sem];refine aB (L.trim b hb lb) rfl ?_;simp only[go_sem,Ef,bfY,bJ,MM,mV];by_cases B:val a=0
 ·simp only[go_sem,bX B,Eg];have e:(tB neg (val a) (val b)).rf=⟨false,[],[1]⟩:=by rw[B];unfold tB FV.rf;simp[kO,Nat.div_self (biX I),EI]
  rw[e];refine bB (vs:=[.agg [.bool false,.aH,aN [1]]]) (.inr rfl) .nil ?_ a_ ⟨show Co (.agg _) (.agg _)from CoL.agg (CoL.cons (.refl _) (CoL.cons (.nil 1) (CoL.cons (.refl _) .nil))),rfl⟩;simp only[go_sem];rfl
 have l:=L.gcd (aM (val a)) (aM (val b)) (bC _) (bC _) (BD E) (BD A);rw[aZ,aZ,aGZ,N]at l;simp only[go_sem,bV B,Eh];refine aB l rfl ?_;have fin:∀x y:Nat,x=val a/bgC (val a) (val b)→y=val b/bgC (val a) (val b)→∀(F:PF)(H:PH),F 0=some (.bool neg)→F 1=some (aN (aM x))→F 2=some (aN (aM y))→F 6=some (.ptr o 3 0 0)→H o=some (.rows 3 [[.bool false,.aH,.aH]]) →
   aC.wp C (.seq (.region HF) .ret) (aW [.cell 6 (some 3)] (cT (.agg (tB neg (val a) (val b)).rf.cells))) F H:=by
  intro x y O Z F H f0 f1 f2 f6 J;subst O;subst Z;simp only[go_sem,HF,f0,f1,f2,f6,J];have hq:val a/bgC (val a) (val b)≠0:=by have:=Nat.div_pos (Nat.gcd_le_left (val b) (biX B)) (biX j);omega
  have e:(tB neg (val a) (val b)).rf=⟨neg,aM (val a/bgC (val a) (val b)),aM (val b/bgC (val a) (val b))⟩:=by unfold tB FV.rf;simp only[hq,ne_eq,not_false_eq_true,decide_true,biG]
  rw[e];refine bB (vs:=[.agg (hZ neg (aM (val a/bgC (val a) (val b))) (aM (val b/bgC (val a) (val b))))]) (.inr rfl) .nil ?_ a_ ⟨.refl _,rfl⟩;simp only[go_sem,f6]
 simp only[aC.wp,go_sem]at fin;have K:=λx (O:nl x≤512)=>L.div (aM x) (aM (bgC (val a) (val b))) (bC _) (bC _) (BD O) (BD R);simp only[aZ,tJ]at K;have tail:bgC (val a) (val b)≠1→∀(F:PF)(H:PH),F 0=some (.bool neg)→F 1=some (aN (aM (val a)))→F 2=some (aN (aM (val b)))→F 6=some (.ptr o 3 0 0)→F 7=some (aN (aM (bgC (val a) (val b))))→H o=some (.rows 3 [[.bool false,.aH,.aH]]) →
   aC.wp C (.seq (.seq (.region XP) (.region XQ)) (.seq (.region HF) .ret)) (aW [.cell 6 (some 3)] (cT (.agg (tB neg (val a) (val b)).rf.cells))) F H:=by
  intro _ F H f0 f1 f2 f6 f7 J;have V:=K (val a) E;have W:=K (val b) A;rw[mT E R,aE j]at V;rw[mT A R,aE j]at W;simp only[go_sem,XP,f1,f7];refine aB V rfl ?_;simp only[go_sem,bjE,XQ,f2,f7];refine aB W rfl ?_;simp only[go_sem,bjE];exact fin _ _ rfl rfl _ _ (by simp only[go_sem,f0]) rfl rfl (by simp only[go_sem,f6]) J
 simp only[aC.wp,go_sem]at tail;simp only[go_sem,bjE,Ei,bfY,bJ];by_cases S:nl (bgC (val a) (val b))>1
 ·have u:((nl (bgC (val a) (val b)):Nat):Int)>1:=Om;simp only[go_sem,u];exact tail ((JA j).1 (.inl S)) _ _ rfl rfl rfl rfl rfl Sq
 ·have u:¬((nl (bgC (val a) (val b)):Nat):Int)>1:=Om;simp only[go_sem,u,Ae j];by_cases U:bgC (val a) (val b)%4294967296>1
  ·have w:((bgC (val a) (val b)%4294967296:Nat):Int)>1:=Om;simp only[go_sem,w];exact tail ((JA j).1 (.inr U)) _ _ rfl rfl rfl rfl (by simp only[go_sem,Ae j]) Sq
  ·have w:¬((bgC (val a) (val b)%4294967296:Nat):Int)>1:=Om;have X:bgC (val a) (val b)=1:=by
    rcases Decidable.em (bgC (val a) (val b)=1)with h|h
    ·exact h
    ·rcases(JA j).2 h with h|h
     ·exact absurd h S
     ·exact absurd h U
   simp only[go_sem,w];exact fin (val a) (val b) (by rw[X,Nat.div_one]) (by rw[X,Nat.div_one]) _ _ rfl rfl rfl rfl Sq
theorem aYP{C:Ctx}(v:Int)(w:-9223372036854775808≤v)(x:v≤9223372036854775807) :
  XU.wp C (aW aKZ.res (aK (.int .u64 (v.natAbs:Nat)))) (PF.args [.int .i64 v]) .nil:=by
 simp only[go_sem,XU,aoT,aoU,aKZ];by_cases c:v<0
 ·have j:IntKind.i64.wrap (v+1)=v+1:=wrap_i64 Om Om;have l:IntKind.i64.wrap (0-(v+1))=-(v+1):=by rw[wrap_i64 Om Om];omega
  have u:IntKind.u64.wrap (IntKind.u64.wrap (-(v+1))+1)=(v.natAbs:Int):=by rw[kZ,kZ];omega
  simp only[go_sem,c,aoV,j,l,u];refine aU (.inr rfl) rfl ?_;rfl
 ·have e:IntKind.u64.wrap v=(v.natAbs:Int):=by rw[kZ];omega
  simp only[go_sem,c,aoW,e];refine aU (.inr rfl) rfl ?_;rfl
structure aFM(C:Ctx):Prop extends Vi C where
 lowest:∀neg a b,Lim a→Lim b→Z' a≤35184372087808→Z' b≤35184372087808→nl (val a)≤512→nl (val b)≤512→val b≠0→aI C 58 [.bool neg,aN a,aN b] .nil (aK (.agg (tB neg (val a) (val b)).rf.cells))
 size:∀v:Int,eX v→aI C 59 [.int .i64 v] .nil (aK (.int .u64 (v.natAbs:Nat)))
def mkT(n d:Int):RF:=(tB (decide (n<0) != decide (d<0)) n.natAbs d.natAbs).rf
def ET(n d:Int):PV:=if d=0 then KR 3 else .tup [.agg (mkT n d).cells,.int .i64 0]
theorem aYM{C:Ctx}(L:aFM C)(n d:Int)(e:eX n)(j:eX d) :
  XR.wp C (aW U7.res (cT (ET n d))) (PF.args [.int .i64 n,.int .i64 d]) .nil:=by
 simp only[go_sem,XR,aoI,aoJ];refine aQ λo l=>?_;unfold ET;by_cases c:d=0
 ·subst c;simp only[go_sem,aoK];refine mU ?_;simp only[go_sem,U7]
 ·rw[aE c];simp only[go_sem,bD c,aoL];refine aB (L.size n e) rfl ?_;simp only[go_sem];refine aB (L.make n.natAbs Om) rfl ?_;simp only[go_sem];refine aB (L.size d j) rfl ?_;simp only[go_sem];refine aB (L.make d.natAbs Om) rfl ?_;simp only[go_sem];have u:nl n.natAbs≤2:=uQ Om;have w:nl d.natAbs≤2:=uQ Om;have low:=L.lowest (decide (n<0) != decide (d<0)) (aM n.natAbs) (aM d.natAbs) (bC _) (bC _) (by rw[bJ];omega) (by rw[bJ];omega);rw[aZ,aZ]at low;have low:=low Om Om Om;refine aB low rfl ?_;simp only[go_sem];exact bB (.inr rfl) .nil (vs:=[.agg (mkT n d).cells,.int .i64 0]) (by simp only[go_sem,U7];rfl) a_ ⟨.refl _,rfl⟩
structure yj(C:Ctx):Prop extends aFM C where
 fmk:∀n d:Int,eX n→eX d→aI C 50 [.int .i64 n,.int .i64 d] .nil (aK (ET n d))
theorem aED{C:Ctx}(L:yj C)(n:Int)(u:eX n) :
  ie.wp C (aW aYK.res (cT (.agg (mkT n 1).cells))) (PF.args [.int .i64 n]) .nil:=by
 simp only[go_sem,ie,aEE,aEF,aYK];refine aQ λo w=>?_;simp only[go_sem];refine aB (L.fmk n 1 u (by unfold eX;omega)) rfl ?_;unfold ET;rw[aE aV];simp only[go_sem];refine aQ λp l=>?_;have e:o≠p:=by rintro rfl;simp only[aR,if_true]at l;cases l
 have j:p≠o:=λh=>e h.symm;simp only[go_sem,e,aEG];refine bB (vs:=[.agg (mkT n 1).cells]) (.inr rfl) .nil ?_ a_ ⟨.refl _,rfl⟩;simp only[go_sem,j]
def aJ(l:List Nat)(n a:Nat):Nat × Nat:=if l.length≤a∨n<2 then(0,a)else(l.getD a 0%n,a+1)
theorem dT(l:List Nat){n:Nat}(h:0<n)(a:Nat):(aJ l n a).1<n:=by
 unfold aJ;split
 ·exact h
 ·exact bhZ _ h
theorem cG(l:List Nat)(n:Nat){a:Nat}(h:a≤Z' l):(aJ l n a).2≤Z' l:=by
 unfold aJ;split
 ·exact h
 ·simp only;omega
def kB(l:List Nat)(a:Nat):RF × Nat:=
 let x:=aJ l 6 a
 let y:=aJ l 8 x.2
 (mkT ((1+x.1:Nat):Int) ((1+y.1:Nat):Int),y.2)
abbrev pB:RF:=mkT 0 1
def nH(l:List Nat)(i j a:Nat):RF × Nat:=
 if j=i+1 then kB l a
 else if j=i then(pB,a)
 else let t:=aJ l 3 a
  if t.1=0 then kB l t.2 else(pB,t.2)
def fQ(l:List Nat)(i a:Nat):Nat→List RF × Nat
 |0=>([],a)
 |j+1=>let s:=fQ l i a j
  let z:=nH l i j s.2
  (s.1++[z.1],z.2)
structure MU where
 start:List RF
 exit:List RF
 beP:List (List RF)
 left:Nat
 a:Nat
def fO(l:List Nat)(n i:Nat)(s:MU):Nat × Nat:=if i+1<n then aJ l (s.left+1) s.a else(s.left,s.a)
def jN(l:List Nat)(n i a:Nat):RF × Nat:=
 let e:=kB l a
 if i+1<n then(let t:=aJ l 3 e.2;(if t.1=0 then pB else e.1,t.2))else e
def kS(l:List Nat)(n a:Nat):Nat→MU
 |0=>⟨[],[],[],8,a⟩
 |i+1=>let s:=kS l n a i
  let k:=fO l n i s
  let e:=jN l n i k.2
  let r:=fQ l i e.2 n
  ⟨s.start++[mkT (k.1:Nat) 8],s.exit++[e.1],s.beP++[r.1],s.left-k.1,r.2⟩
def xY(l:List Nat)(fK a:Nat):dN × Nat:=
 let t:=aJ l fK a
 let s:=kS l (1+t.1) t.2 (1+t.1)
 (⟨[],s.start,s.beP,s.exit⟩,s.a)
def pR(l:List Nat)(a:Nat):Nat→List RF × Nat
 |0=>([],a)
 |k+1=>let s:=pR l a k
  let z:=kB l s.2
  (s.1++[z.1],z.2)
abbrev dH(n:Nat):List UInt8:=Lib.decDigits n
def mB(l:List Nat)(a:Nat):Nat→List dN × Nat
 |0=>([],a)
 |k+1=>let s:=mB l a k
  let z:=xY l 2 s.2
  (s.1++[{ z.1 with name:=[108,97,119]++dH k }],z.2)
def iD(l:List Nat)(beS a:Nat):Nat→List eE × Nat
 |0=>([],a)
 |k+1=>let s:=iD l beS a k
  let x:=aJ l 4 s.2
  let y:=aJ l 8 x.2
  let z:=aJ l beS y.2
  (s.1++[⟨[109]++dH k,(1+x.1:Nat),(1+y.1:Nat),(z.1:Nat)⟩],z.2)
structure GS where
 beU:List dQ
 bfE:List fC
 a:Nat
def oY(l:List Nat)(mc beK e:Nat)(s:GS):Nat→GS
 |0=>s
 |i+1=>let s:=oY l mc beK e s i
  if s.bfE.length<beK then
   let t:=aJ l mc s.a
   { s with bfE:=s.bfE++[⟨[100]++dH s.bfE.length,(t.1:Nat),(e:Nat)⟩],a:=t.2 }
  else s
def rJ(level:Nat):UInt8:=match level with
 |0=>45
 |1=>115
 |2=>114
 |3=>107
 |_=>109
def tQ(l:List Nat)(level e:Nat)(s:GS):GS:=
 let u:=aJ l 16 s.a
 let t:=aJ l 3 u.2
 let k:=aJ l 6 t.2
 let sh:RF × Nat:=if t.1=0 then(mkT 1 ((2+k.1:Nat):Int),k.2)else(pB,t.2)
 { s with beU:=s.beU++[⟨[rJ level]++dH s.beU.length,(level:Nat),(e:Nat),(1+u.1:Nat),sh.1⟩],a:=sh.2 }
def xB(beK:Nat)(s:GS):Bool:=decide (beK≤Z' s.bfE)||decide (35≤Z' s.beU)
def lM(l:List Nat)(level beK e:Nat)(rec:Nat→GS→GS)(s:GS):Nat→GS
 |0=>s
 |i+1=>let s:=lM l level beK e rec s i
  if xB beK s then s else(let s':=tQ l level e s;rec (Z' s'.beU-1) s')
def jF(l:List Nat)(mc beK:Nat):Nat→Nat→GS→GS
 |0,e,s=>let t:=aJ l 2 s.a
  oY l mc beK e { s with a:=t.2 } (1+t.1)
 |k+1,e,s=>let t:=aJ l 2 s.a
  lM l (4-k) beK e (jF l mc beK k) { s with a:=t.2 } (if 4-k=2 then 1 else 1+t.1)
def sC:dQ:=⟨[],0,-1,0,pB⟩
def mC(l:List Nat)(a:Nat):Int × Nat:=
 let t:=aJ l 3 a
 let k:=aJ l 3 t.2
 if t.1=0 then((1+k.1:Nat),k.2)else(0,t.2)
def sI(l:List Nat)(beL i a:Nat):dV × Nat:=
 let k:=aJ l 2 a
 let m:=aJ l 3 k.2
 let h:=aJ l 4 m.2
 let q:=aJ l (m.1+1) h.2
 let r:=pR l q.2 (max m.1 1)
 let g:=aJ l 9 r.2
 let s1:=mC l g.2
 let s2:=mC l s1.2
 let s3:=mC l s2.2
 let s4:=mC l s3.2
 let f:=aJ l beL s4.2
 let b:=aJ l 2 f.2
 let ms:List Int × Nat:=if 1<beL then(if b.1=0 then([(f.1:Int),1-(f.1:Int)],b.2)else([(f.1:Int)],b.2))else([(f.1:Int)],f.2)
 (⟨[112]++dH i,(1+k.1:Nat),(m.1:Nat),(1+k.1+q.1:Nat),0,s1.1,s2.1,s3.1,s4.1,ms.1,r.1,mkT (g.1:Nat) 8,mkT ((1+h.1:Nat):Int) 1⟩,ms.2)
def fR(l:List Nat)(beL a:Nat):Nat→List dV × Nat
 |0=>([],a)
 |k+1=>let s:=fR l beL a k
  let z:=sI l beL k s.2
  (s.1++[z.1],z.2)
def iJ(l:List Nat)(pols a:Nat):Nat→List iY × Nat
 |0=>([],a)
 |k+1=>let s:=iJ l pols a k
  let z:=aJ l pols s.2
  (s.1++[⟨[118]++dH k,(z.1:Nat)⟩],z.2)
def lO(l:List Nat)(beK beM a:Nat):aD × Nat:=
 let e:=aJ l 2 a
 let u:=aJ l 2 e.2
 let beS:=mB l u.2 (1+u.1)
 let j:=aJ l 2 beS.2
 let beL:=iD l (1+u.1) j.2 (1+j.1)
 let g:=jF l (1+j.1) beK 4 0 ⟨[sC],[],beL.2⟩
 let pl:=aJ l 2 g.a
 let pols:=fR l (1+j.1) pl.2 (1+pl.1)
 let w:=aJ l (beM+1) pols.2
 let vols:=iJ l (1+pl.1) w.2 w.1
 (⟨(1+e.1:Nat),beS.1,beL.1,g.beU,g.bfE,pols.1,vols.1⟩,vols.2)
def sV(l:List Nat)(a:Nat):Nat→List Int × Nat
 |0=>([],a)
 |k+1=>let s:=sV l a k
  let z:=aJ l 7 s.2
  (s.1++[(z.1:Int)-1],z.2)
def qX(l:List Nat)(f:aD)(a:Nat):List Int × Nat:=
 let t:=aJ l 4 a
 if t.1=0 then([],t.2)else sV l t.2 f.beK.length
abbrev pA(l:List Nat):List (List PV):=l.map λ(n:Nat)=>[PV.int .u8 (n:Int)]
theorem gy(l:List Nat):(pA l).length=Z' l:=by simp
theorem aYE(l:List Nat){i:Nat}(h:i<Z' l):(pA l)[i]?=some [.int .u8 (l[i]:Nat)]:=by simp[h]
abbrev bU(v:PV)(a:Nat):cI:=.rows 2 [[v,.int .i64 a]]
structure Tp(l:List Nat)(v:PV):Prop where
 seen:Seen 1 v (pA l)
 byte:∀x∈l,x<256
 len:Z' l≤400
def Gh(l:List Nat)(r:PV)(H:PH):Prop:=∃o v,r=.ptr o 2 0 0∧Tp (l.take 400) v∧H=PH.nil.set o (bU v 0)
theorem Ue{t q s:Nat}{rs:List (List PV)}{F:PF}{H H2:PH}{R:PV→PH→Prop}{v:PV}{e:oW}(he:e=.normal∨e=.ret)(A:F t=some v)(hq:H q=some (.rows s rs))(x:H2.le (H.frz q s rs))(y:R (PV.frz q s rs v) H2):aW [.tmp t] R e F H:=by
 have j:∃vs,fL.evs F H [.tmp t]=some vs∧∃l w H2,mP (PF.nil.set 0 (cF vs)) H l w∧H2.le w∧∃u,l 0=some u∧R u H2:=by refine⟨[v],by rw[qE,tV,A,vJ],_,_,H2,.step q hq (.refl _ _),x,PV.frz q s rs v,?_,y⟩;rw[tT,qK,aL rfl,bhD];rfl
 rcases he with rfl|rfl<;>exact j
theorem a1Y{C:Ctx}(l:List Nat)(hb:∀x∈l,x<256)(O:Z' l≤9223372036854775807):cb.wp C (aW aVD.res (Gh l)) (PF.args [.sl 1 (pA l)]) .nil:=by
 simp only[go_sem,cb,awY,awZ,aVD,bfY];have fin:∀F:PF,F 0=some (.sl 1 (pA (l.take 400)))→aC.wp C (.seq (.region Ho) .ret) (aW [.tmp 2] (Gh l)) F .nil:=by
  intro F f0;have y:(l.take 400).length≤400:=by rw[bgP];omega
  have w:∀x∈l.take 400,x<256:=λx M=>hb x (List.mem_of_mem_take M);have A:∀o v,Seen 1 v (pA (l.take 400))→Gh l (.ptr o 2 0 0) (PH.nil.set o (bU v 0)):=λo v K=>⟨o,v,rfl,⟨K,w,y⟩,rfl⟩;generalize N:l.take 400=L at *
  simp only[go_sem,Ho,f0];refine KG (src:=pA L) rfl ?_ (λh=>?_) λh o I=>?_
  ·unfold roomFor;rw[gy];simp only[maxLen];omega
  ·simp only[go_sem,bgN,bgZ,or_false,forall_eq];refine aQ λo I=>?_;simp only[go_sem];exact bB (vs:=[.ptr o 2 0 0]) (.inr rfl) (PH.nil.set o (bU .aH 0)) rfl b_ (A o .aH (.inl ⟨h,rfl⟩))
  ·simp only[go_sem,bgN,bgZ,or_false,forall_eq];refine aQ λp J=>?_;have e:¬p=o:=(nE.1 J).1;have j:¬o=p:=λh=>e h.symm;simp only[go_sem];refine Ue (v:=.ptr p 2 0 0) (q:=o) (s:=1) (rs:=pA L) (H2:=PH.nil.set p (bU (.sl 1 (pA L)) 0)) (.inr rfl) rfl (by simp only[go_sem,j]) (e_ a_ ?_) (A p _ (.inr rfl));have E:(pA L).take L.length=pA L:=bgR (by rw[gy];exact bgG _);simp only[go_sem,e,cI.frz,PV.dM,bfY,E];rfl
 simp only[aC.wp,go_sem]at fin;by_cases c:Z' l>400
 ·have u:(Z' l:Int)>400:=Om;have B:(400:Int)≤(Z' l:Int):=Om;simp only[go_sem,u,axA,bfY,B];refine fin _ ?_;rw[qK,aL rfl];simp[pA]
 ·have u:¬(Z' l:Int)>400:=Om;simp only[go_sem,u];refine fin _ ?_;rw[bgR Om];simp only[go_sem]
def yd(l:List Nat)(v:PV)(o n a:Nat)(r:PV)(H:PH):Prop:=r=.int .i64 ((aJ l n a).1:Nat)∧H=PH.nil.set o (bU v (aJ l n a).2)
theorem aVE{C:Ctx}{l:List Nat}{v:PV}(T:Tp l v)(o n a:Nat)(U:n≤1000000)(R:a≤Z' l):GK.wp C (aW Ux.res (yd l v o n a)) (PF.args [.ptr o 2 0 0,.int .i64 n]) (PH.nil.set o (bU v a)):=by
 obtain⟨N,hb,S⟩:=T;have zero:(Z' l≤a∨n<2)→∀F,aC.wp C (.seq (.region ug) .ret) (aW [.tmp 4] (yd l v o n a)) F (PH.nil.set o (bU v a)):=by
  intro h F;have e:aJ l n a=(0,a):=by unfold aJ;rw[aL h]
  simp only[go_sem,ug];exact bB (vs:=[.int .i64 0]) (.inr rfl) _ rfl b_ ⟨by rw[e];rfl,by rw[e]⟩
 simp only[aC.wp,go_sem]at zero;rcases N with⟨K,rfl⟩|rfl
 ·have O:Z' l=0:=by rw[←gy,K];rfl
  have x:(a:Int)≥0:=Om;simp only[go_sem,GK,ue,Ux];refine bA .nil cK a_ ?_;simp only[go_sem,UK,x];exact zero (.inl Om) _
 simp only[go_sem,GK,ue,Ux];refine bA .nil cK a_ ?_;by_cases A:Z' l≤a
 ·have j:(a:Int)≥(Z' l:Nat):=Om;simp only[go_sem,UK,bfY,j];exact zero (.inl A) _
 have j:¬(a:Int)≥(Z' l:Nat):=Om;simp only[go_sem,UK,bfY,j];by_cases B:n<2
 ·have u:(n:Int)<2:=Om;simp only[go_sem,u];exact zero (.inr B) _
 have u:¬(n:Int)<2:=Om;have w:a<Z' l:=Om;have e:aJ l n a=(l[a]%n,a+1):=by unfold aJ;rw[aE Om];simp[bgF,w]
 have J:IntKind.i64.wrap ((a:Int)+1)=((a+1:Nat):Int):=eT Om;have I:IntKind.i64.wrap (((a+1:Nat):Int)-1)=((a:Nat):Int):=by rw[wrap_i64 Om Om];omega
 have M:=aYE l w;have V:=hb _ (bgD w);have E:IntKind.i64.wrap ((l[a]:Nat):Int)=((l[a]:Nat):Int):=xv Om;have y:¬((n:Nat):Int)=0:=Om;have em:Int.tmod ((l[a]:Nat):Int) ((n:Nat):Int)=((l[a]%n:Nat):Int):=rfl;simp only[go_sem,u,adG,J];refine bA .nil cK a_ ?_;simp only[go_sem,adH,I,M,E,y,em];exact bB (vs:=[.int .i64 (l[a]%n:Nat)]) (.inr rfl) _ rfl b_ ⟨by rw[e];rfl,by rw[e]⟩
def PV.oid:PV→Option Nat
 | .osl q _ _ _=>some q
 |_=>none
abbrev LI:=PV × Nat × List (List PV)
abbrev BX:=Nat × cI
def fW(B:List BX):List Nat:=B.map (·.1)
def fB(L:List LI):List Nat:=L.filterMap λx=>x.1.oid
structure aO(H:PH)(B:List BX)(L:List LI):Prop where
 box:∀b∈B,H b.1=some b.2
 lst:∀x∈L,bH H x.2.1 x.1 x.2.2
 nd:(fW B++fB L).Nodup
section
variable {C:Ctx} {H:PH} {B:List BX} {L:List LI} {K:PV→PH→Prop}
theorem bH.id{s q:Nat}{v:PV}{rows:List (List PV)}(h:bH H s v rows)(hq:v.oid=some q):∃rs,H q=some (.rows s rs)∧v=.osl q s 0 rows.length∧Z' rows≤Z' rs∧rs.take rows.length=rows:=by
 rcases h with⟨_,rfl⟩|⟨p,rs,rfl,h1,h2,h3⟩
 ·cases hq
 ·cases hq;exact⟨rs,h1,rfl,h2,h3⟩
theorem bH.same{s:Nat}{v:PV}{rows:List (List PV)}{H':PH}(h:bH H s v rows)(e:∀q,v.oid=some q→H' q=H q):bH H' s v rows:=by
 rcases h with h|⟨p,rs,rfl,h1,h2,h3⟩
 ·exact .inl h
 ·exact .inr ⟨p,rs,rfl,by rw[e p rfl];exact h1,h2,h3⟩
theorem rX{x:LI}{q:Nat}(h:x∈L)(hq:x.1.oid=some q):q∈fB L:=List.mem_filterMap.2 ⟨x,h,hq⟩
theorem CO{b:BX}(h:b∈B):b.1∈fW B:=bhC.2 ⟨b,h,rfl⟩
theorem aO.nil:aO H [] []:=⟨by simp,by simp,by simp[fW,fB]⟩
theorem aO.at(h:aO H B L)(i:Nat){o:Nat}{x:cI}(hi:B[i]?=some (o,x)):H o=some x:=h.box _ (bhX hi)
theorem aO.own(h:aO H B L)(i:Nat){s:Nat}{v:PV}{rows:List (List PV)}(hi:L[i]?=some (v,s,rows)):bH H s v rows:=h.lst _ (bhX hi)
theorem aO.ndB(h:aO H B L):(fW B).Nodup:=(bjA.1 h.nd).1
theorem aO.ndL(h:aO H B L):(fB L).Nodup:=(bjA.1 h.nd).2.1
theorem aO.ndX(h:aO H B L){o q:Nat}(e:o∈fW B)(hq:q∈fB L):o≠q:=(bjA.1 h.nd).2.2 o e q hq
theorem aO.ne(h:aO H B L)(i j:Nat){o p:Nat}{x y:cI}(hi:B[i]?=some (o,x))(M:B[j]?=some (p,y))(l:i≠j):o≠p:=by
 intro e;have I:(fW B)[i]?=some o:=by unfold fW;rw[bgT,hi];rfl
 have J:(fW B)[j]?=some p:=by unfold fW;rw[bgT,M];rfl
 obtain⟨E,u⟩:=bhG.1 I;obtain⟨F,w⟩:=bhG.1 J;have A:=List.pairwise_iff_getElem.1 h.ndB;rcases Nat.lt_or_gt_of_ne l with g|g
 ·exact A i j E F g (by rw[u,w,e])
 ·exact A j i F E g (by rw[u,w,e])
theorem aO.neL(h:aO H B L)(i j:Nat){o q:Nat}{x:cI}{y:LI}(hi:B[i]?=some (o,x))(e:L[j]?=some y)(hq:y.1.oid=some q):o≠q:=
 h.ndX (CO (bhX hi)) (rX (bhX e) hq)
theorem aO.fresh(h:aO H B L){o:Nat}(j:H o=none):o ∉ fW B∧o ∉ fB L:=by
 refine⟨λl=>?_,λl=>?_⟩
 ·obtain⟨b,hb,rfl⟩:=bhC.1 l;rw[h.box b hb]at j;cases j
 ·obtain⟨x,w,e⟩:=List.mem_filterMap.1 l;obtain⟨rs,u,_⟩:=(h.lst x w).id e;rw[u]at j;cases j
theorem aO.keep(h:aO H B L){H':PH}(e:∀q,q∈fW B∨q∈fB L→H' q=H q):aO H' B L:=
 ⟨λb hb=>by rw[e _ (.inl (CO hb))];exact h.box b hb,λx j=>(h.lst x j).same λq hq=>e q (.inr (rX j hq)),h.nd⟩
theorem aUF{i:Nat}{o:Nat}{x y:cI}(hi:B[i]?=some (o,x)):fW (B.set i (o,y))=fW B:=by
 unfold fW;rw[List.map_set];refine List.ext_getElem? λj=>?_;rw[bjT];split
 ·rename_i e;subst e;rw[bgT,hi];have:=(bhG.1 hi).1;simp[this]
 ·rfl
theorem aO.set(h:aO H B L)(i:Nat){o:Nat}{x:cI}(hi:B[i]?=some (o,x))(y:cI):aO (H.set o y) (B.set i (o,y)) L:=by
 have w:o∈fW B:=CO (bhX hi);refine⟨λb hb=>?_,λz A=>(h.lst z A).same λq hq=>?_,by rw[aUF hi];exact h.nd⟩
 ·obtain⟨j,l⟩:=List.mem_iff_getElem?.1 hb;rw[bjT]at l;split at l
  ·split at l
   ·cases l;simp only[aR,if_true]
   ·cases l
  ·rename_i u;have:b.1≠o:=λe=>h.ne i j hi (show B[j]?=some (b.1,b.2)from l) u e.symm;rw[aR,aE this];exact h.box b (bhX l)
 ·have:q≠o:=λe=>h.ndX w (rX A hq) e.symm;rw[aR,aE this]
theorem aO.new(h:aO H B L){o:Nat}(u:H o=none)(y:cI):aO (H.set o y) (B++[(o,y)]) L:=by
 obtain⟨f1,f2⟩:=h.fresh u;refine⟨λb hb=>?_,λz l=>(h.lst z l).same λq hq=>?_,?_⟩
 ·rw[bhK,bhI]at hb;rcases hb with hb|rfl
  ·have:b.1≠o:=λe=>f1 (e ▸ CO hb);rw[aR,aE this];exact h.box b hb
  ·simp only[aR,if_true]
 ·have:q≠o:=λe=>f2 (e ▸ rX l hq);rw[aR,aE this]
 ·have:=h.nd;simp only[fW,bhM,bhJ,biS]at *
  rw[bgX,bjA]at *
  obtain⟨a,b,c⟩:=this;refine⟨a,?_,λp j q hq=>?_⟩
  ·rw[List.singleton_append,List.nodup_cons];exact⟨f2,b⟩
  ·rw[List.singleton_append,bgN]at hq;rcases hq with rfl|hq
   ·intro e;subst e;exact f1 j
   ·exact c p j q hq
theorem rA(L1 L2:List LI):fB (L1++L2)=fB L1++fB L2:=List.filterMap_append ..
theorem aO.oV(h:aO H B L)(s:Nat):aO H B (L++[(.aH,s,[])]):=by
 refine⟨h.box,λz e=>?_,?_⟩
 ·rw[bhK,bhI]at e;rcases e with e|rfl
  ·exact h.lst z e
  ·exact .nil
 ·rw[rA,show fB [((.aH:PV),s,([]:List (List PV)))]=[]from rfl,bhH];exact h.nd
theorem aO.Ib(h:aO H B L){o s:Nat}{rows:List (List PV)}(l:H o=none):aO (H.set o (.rows s rows)) B (L++[(.osl o s 0 rows.length,s,rows)]):=by
 obtain⟨f1,f2⟩:=h.fresh l;have j:=h.keep (H':=H.set o (.rows s rows)) λq hq=>by
  have:q≠o:=by rintro rfl;exact hq.elim f1 f2
  rw[aR,aE this]
 refine⟨j.box,λz e=>?_,?_⟩
 ·rw[bhK,bhI]at e;rcases e with e|rfl
  ·exact j.lst z e
  ·exact .inr ⟨o,rows,rfl,by simp only[aR,if_true],bgG _,bhA⟩
 ·rw[rA,show fB [((.osl o s 0 rows.length:PV),s,rows)]=[o]from rfl,←bgX,bjA];refine⟨h.nd,by simp,λp hp q hq=>?_⟩;rw[bhI]at hq;subst hq;rintro rfl;rcases bhK.1 hp with hp|hp
  ·exact f1 hp
  ·exact f2 hp
theorem aaN{i:Nat}{v v':PV}{s s':Nat}{rows rows':List (List PV)}(hi:L[i]?=some (v,s,rows)):∃L1 L2,L=L1++(v,s,rows)::L2∧L.set i (v',s',rows')=L1++(v',s',rows')::L2:=by
 obtain⟨e,he⟩:=bhG.1 hi;refine⟨L.take i,L.drop (i+1),?_,?_⟩
 ·rw[←he,←biL e,biZ]
 ·rw[List.set_eq_take_append_cons_drop,aL e]
theorem aO.WU(h:aO H B L)(i:Nat){s:Nat}{v:PV}{rows:List (List PV)}(hi:L[i]?=some (v,s,rows)){s':Nat}{v':PV}{rows':List (List PV)}{H':PH}(R:bH H' s' v' rows')
  (I:∀q,v'.oid=some q→v.oid=some q∨H q=none) (O:∀q,q∈fW B∨q∈fB L→(∀p,v.oid=some p→q≠p)→H' q=H q):aO H' B (L.set i (v',s',rows')):=by
 obtain⟨L1,L2,M,N⟩:=aaN (v':=v') (s':=s') (rows':=rows') hi;rw[N];subst M;have j:=h.nd;have E:fB (L1++(v,s,rows)::L2)=fB L1++(v.oid.toList++fB L2):=by rw[rA];congr 1;unfold fB;rw[List.filterMap_cons];cases e:v.oid<;>simp
 have F:fB (L1++(v',s',rows')::L2)=fB L1++(v'.oid.toList++fB L2):=by rw[rA];congr 1;unfold fB;rw[List.filterMap_cons];cases e:v'.oid<;>simp
 rw[E]at j;have x:∀q,q∈fW B∨q∈fB L1∨q∈fB L2→∀p,v.oid=some p→q≠p:=by
  intro q hq p w e;subst e;rw[w]at j;simp only[Option.toList_some]at j;rw[bjA]at j;obtain⟨a,b,c⟩:=j;rw[bjA]at b;obtain⟨J,y,A⟩:=b;rw[List.singleton_append,List.nodup_cons]at y;rcases hq with hq|hq|hq
  ·exact c q hq q aY rfl
  ·exact A q hq q aY rfl
  ·exact y.1 hq
 have l:∀q,q∈fW B∨q∈fB L1∨q∈fB L2→H' q=H q:=by
  intro q hq;refine O q ?_ (x q hq);rw[E];simp only[bhK];rcases hq with hq|hq|hq
  ·exact .inl hq
  ·exact .inr (.inl hq)
  ·exact .inr (.inr (.inr hq))
 refine⟨λb hb=>by rw[l _ (.inl (CO hb))];exact h.box b hb,λz hz=>?_,?_⟩
 ·rw[bhK,bgN]at hz;rcases hz with hz|rfl|hz
  ·exact(h.lst z (by simp[hz])).same λq hq=>l q (.inr (.inl (rX hz hq)))
  ·exact R
  ·exact(h.lst z (by simp[hz])).same λq hq=>l q (.inr (.inr (rX hz hq)))
 ·rw[F];cases e:v'.oid with
  |none =>simp only[Option.toList_none,bjH];refine List.Nodup.sublist ?_ j;exact biK.append (biK.refl _) (biK.append (biK.refl _) (List.sublist_append_right _ _))
  |some q=>
   rcases I q e with S|hn
   ·rw[S]at j;exact j
   ·obtain⟨f1,f2⟩:=h.fresh hn;rw[E]at f2;simp only[bhK,not_or]at f2;have u:(fW B++(fB L1++fB L2)).Nodup:=List.Nodup.sublist (biK.append (biK.refl _) (biK.append (biK.refl _) (List.sublist_append_right _ _))) j;simp only[Option.toList_some];rw[bjA]at u ⊢;obtain⟨a,b,c⟩:=u;rw[bjA]at b;obtain⟨J,y,A⟩:=b;refine⟨a,?_,?_⟩
    ·rw[bjA];refine⟨J,by rw[List.singleton_append,List.nodup_cons];exact⟨f2.2.2,y⟩,λp w r hr=>?_⟩;rw[List.singleton_append,bgN]at hr;rcases hr with rfl|hr
     ·rintro rfl;exact f2.1 w
     ·exact A p w r hr
    ·intro p w r hr;rw[bhK,List.singleton_append,bgN]at hr;rcases hr with hr|rfl|hr
     ·exact c p w r (by simp[hr])
     ·rintro rfl;exact f1 w
     ·exact c p w r (by simp[hr])
theorem aO.append(h:aO H B L)(i:Nat){s b:Nat}{v y:PV}{rows src:List (List PV)}(hi:L[i]?=some (v,s,rows))(E:fA H s y=some src)(A:roomFor rows.length src.length b)
  (w:∀v' H',aO H' B (L.set i (v',s,rows++src))→(src≠[]→∃q,v'=.osl q s 0 (rows++src).length)→K v' H'):pF H s b v y K:=by
 rcases h.own i hi with⟨rfl,rfl⟩|⟨q,rs,rfl,h1,h2,h3⟩
 ·refine⟨src,E,A,λe=>?_,λe o u=>?_⟩
  ·subst e;refine w _ _ ?_ λh=>absurd rfl h;exact h.WU i hi (.inl ⟨rfl,rfl⟩) (λq hq=>by cases hq) λq _ _=>rfl
  ·refine w _ _ (h.WU i hi (.inr ⟨o,src,rfl,by simp only[aR,if_true],bgG _,bhA⟩) (λq hq=>by cases hq;exact .inr u) λq hq _=>?_) λ_=>⟨o,rfl⟩;obtain⟨f1,f2⟩:=h.fresh u;have:q≠o:=by rintro rfl;exact hq.elim f1 f2
   rw[aR,aE this]
 ·have j:(rows++src).length=Z' rows+Z' src:=bgB;refine⟨src,E,rfl,rfl,A,rs,h1,h2,?_,λo u=>?_⟩
  ·rw[h3];refine w _ _ (h.WU i hi (.inr ⟨q,rows++src,by rw[j],by simp only[aR,if_true],bgG _,bhA⟩) (λp l=>by cases l;exact .inl rfl) λp _ l=>?_) λ_=>⟨q,by rw[j]⟩;rw[aR,aE (l q rfl)]
  ·rw[h3];refine w _ _ (h.WU i hi (.inr ⟨o,rows++src,by rw[j],by simp only[aR,if_true],bgG _,bhA⟩) (λp l=>by cases l;exact .inr u) λp x l=>?_) λ_=>⟨o,by rw[j]⟩;obtain⟨f1,f2⟩:=h.fresh u;have F:p≠o:=by rintro rfl;exact x.elim f1 f2
   rw[aR,aE F]
theorem aO.sub(h:aO H B L){B':List BX}{L':List LI}(hB:B'.Sublist B)(e:L'.Sublist L):aO H B' L':=
 ⟨λb hb=>h.box b (hB.subset hb),λx j=>h.lst x (e.subset j),List.Nodup.sublist (biK.append (hB.map _) (e.filterMap _)) h.nd⟩
theorem aO.yN(h:aO H B L)(i:Nat):aO H (B.eraseIdx i) L:=h.sub (List.eraseIdx_sublist ..) (biK.refl _)
theorem aO.za(h:aO H B L)(i:Nat):aO H B (L.eraseIdx i):=h.sub (biK.refl _) (List.eraseIdx_sublist ..)
end
section
variable {C:Ctx} {F:PF} {H:PH} {B:List BX} {L:List LI}
theorem aO.IJ(h:aO H B L){q:Nat}(hq:q∈fW B∨q∈fB L):∃x,H q=some x:=by
 rcases hq with hq|hq
 ·obtain⟨b,hb,rfl⟩:=bhC.1 hq;exact⟨_,h.box b hb⟩
 ·obtain⟨x,l,e⟩:=List.mem_filterMap.1 hq;obtain⟨rs,j,_⟩:=(h.lst x l).id e;exact⟨_,j⟩
theorem aO.perm(h:aO H B L){B':List BX}{L':List LI}(hB:B.Perm B')(e:L.Perm L'):aO H B' L':=
 ⟨λb hb=>h.box b (hB.mem_iff.2 hb),λx j=>h.lst x (e.mem_iff.2 j),(biT.nodup_iff ((hB.map _).append (e.filterMap _))).1 h.nd⟩
theorem aO.only(h:aO H B L){B1:List BX}{L1:List LI}(hB:B1.Sublist B)(e:L1.Sublist L):aO (H.only (fW B1++fB L1)) B1 L1:=by
 refine(h.sub hB e).keep λq hq=>?_;rw[xL];rw[aL (bhK.2 hq)]
theorem a5S{a b c d:List Nat}(j:(a++c).Nodup)(l:(b++d).Nodup)(u:∀q,q∈a∨q∈c→q∈b∨q∈d→False):((a++b)++(c++d)).Nodup:=by
 have e:biT ((a++b)++(c++d)) ((a++c)++(b++d)):=by rw[bgX,bgX];exact biT.append_left a (by rw[←bgX,←bgX];exact biT.append_right d List.perm_append_comm)
 rw[e.nodup_iff,bjA];refine⟨j,l,λp w q hq=>?_⟩;rintro rfl;exact u p (bhK.1 w) (bhK.1 hq)
theorem aO.frame{H':PH}{B1 B2 B':List BX}{L1 L2 L':List LI}(h:aO H (B1++B2) (L1++L2))(w:aO H' B' L')(J:qM H (H.only (fW B1++fB L1)) H'):aO (H.over (H.only (fW B1++fB L1)) H') (B'++B2) (L'++L2):=by
 have E:aO H B2 L2:=h.sub (List.sublist_append_right ..) (List.sublist_append_right ..);have l:∀q,q∈fW B2∨q∈fB L2→¬(q∈fW B1++fB L1):=by
  intro q hq K;have j:=h.nd;rw[show fW (B1++B2)=fW B1++fW B2 from bhM,rA]at j;have e:biT ((fW B1++fW B2)++(fB L1++fB L2)) ((fW B1++fB L1)++(fW B2++fB L2)):=by rw[bgX,bgX];exact biT.append_left _ (by rw[←bgX,←bgX];exact biT.append_right _ List.perm_append_comm)
  rw[e.nodup_iff,bjA]at j;exact j.2.2 q K q (bhK.2 hq) rfl
 have new:∀q,q∈fW B'∨q∈fB L'→(H.over (H.only (fW B1++fB L1)) H') q=H' q:=by intro q hq;obtain⟨x,hx⟩:=w.IJ hq;rw[vH,hx]
 have I:∀q,q∈fW B2∨q∈fB L2→(H.over (H.only (fW B1++fB L1)) H') q=H q:=by
  intro q hq;obtain⟨x,hx⟩:=E.IJ hq;have A:(H.only (fW B1++fB L1)) q=none:=by rw[xL,aE (l q hq)]
  rw[vH];cases e:H' q with
  |none=>simp only[A]
  |some y =>have:=J q y e A;rw[hx]at this;cases this
 have k1:=w.keep new;have k2:=E.keep I;refine⟨λb hb=>?_,λx hx=>?_,?_⟩
 ·rcases bhK.1 hb with hb|hb
  ·exact k1.box b hb
  ·exact k2.box b hb
 ·rcases bhK.1 hx with hx|hx
  ·exact k1.lst x hx
  ·exact k2.lst x hx
 ·rw[show fW (B'++B2)=fW B'++fW B2 from bhM,rA];refine a5S w.nd E.nd λq hq u=>?_;obtain⟨x,hx⟩:=w.IJ hq;obtain⟨y,M⟩:=E.IJ u;have A:(H.only (fW B1++fB L1)) q=none:=by rw[xL,aE (l q u)]
  have:=J q x hx A;rw[M]at this;cases this
theorem PY{name:Nat}{vs:List PV}{args:List aS}{d:Option Nat}{K:PF→PH→Prop}{B1 B2:List BX}{L1 L2:List LI}{Q:PV→List BX→List LI→Prop}(h:aO H (B1++B2) (L1++L2))
  (u:∀H0,aO H0 B1 L1→aI C name vs H0 (λr H'=>∃B' L',Q r B' L'∧aO H' B' L')) (l:aS.evs F args=some vs)
  (w:∀r B' L' H',Q r B' L'→aO H' (B'++B2) (L'++L2)→K (F.put d r) H'):kF C name args [] d K F H:=by
 refine eR (u (H.only (fW B1++fB L1)) (h.only (bkD ..) (bkD ..))) l (jz H _) ?_;rintro r H' ⟨B',L',hq,j⟩ e;exact w r B' L' _ hq (h.frame j e)
theorem aO.rP{B:List BX}{o:Nat}{x:cI}(h:aO H (B++[(o,x)]) L):H o=some x:=h.box (o,x) aY
theorem aO.xR{B:List BX}{o:Nat}{x:cI}(h:aO H (B++[(o,x)]) L)(y:cI):aO (H.set o y) (B++[(o,y)]) L:=by
 have:=h.set B.length (o:=o) (x:=x) aY y
 rwa[bjU _ _ (bgG _),Nat.sub_self]at this
theorem aO.dropLast{B:List BX}{b:BX}(h:aO H (B++[b]) L):aO H B L:=h.sub (bkD ..) (biK.refl _)
theorem aO.a3J{B:List BX}{o:Nat}{x:cI}(h:aO H ((o,x)::B) L)(y:cI):aO (H.set o y) ((o,y)::B) L:=h.set 0 rfl y
theorem aO.a5C{B:List BX}{o:Nat}{x:cI}(h:aO H ((o,x)::B) L):H o=some x:=h.at 0 rfl
theorem rI{name o:Nat}{x y:cI}{r:PV}{vs:List PV}{args:List aS}{d:Option Nat}{K:PF→PH→Prop}(h:aI C name vs (PH.nil.set o x) (λe H'=>e=r∧H'=PH.nil.set o y))(u:H o=some x)(j:aS.evs F args=some vs)
  (l:K (F.put d r) (H.set o y)):kF C name args [] d K F H:=by
 refine eR h j (e_ a_ u) ?_;rintro e H' ⟨rfl,rfl⟩ -;rw[PH.wL];exact l
theorem aSU{Hs:PH}{S:Spec}{name o:Nat}{x y:cI}{r:PV}{vs:List PV}{R:PH→PV→PH→Prop}{args:List aS}{st:Bool}{d:Option Nat}{K:PF→PH→Prop}(N:S name vs=some ([o],R))(M:H o=some x)
  (h:aI C name vs (PH.nil.set o x) (λj H'=>j=r∧H'=PH.nil.set o y)) (l:R (PH.nil.set o x) r (PH.nil.set o y)) (A:∀j H',R (PH.nil.set o x) j H'→j=r∧H'=PH.nil.set o y) (O:aS.evs F args=some vs)
  (E:Hs.le (H.set o y)) (U:K (F.put d r) (H.set o y)):dOp C Hs S st (.call name args) d K F H:=by
 have e:=agB M;refine⟨vs,[o],_,O,N,λq hq=>?_,?_,λG=>⟨r,_,by rw[e];exact l,λq z J w=>?_⟩,λj H' u _=>?_⟩
 ·simp at hq;subst hq;exact⟨x,M⟩
 ·rw[e];exact h.post λj H' u=>⟨j,.refl _,by rw[u.1,u.2];exact l⟩
 ·rw[e]at w;rw[aR]at J w;split at w
  ·cases w
  ·rename_i I;rw[aE I]at J;cases J
 ·rw[e]at u;obtain⟨rfl,rfl⟩:=A j H' u;rw[e,PH.wL];exact⟨E,U⟩
theorem aXG{s:Nat}{q z:Nat}{rs:List (List PV)}{v:PV}{rows:List (List PV)}(h:bH H s v rows)(l:v.oid≠some q):bH (H.frz q z rs) s v (rows.map λr=>r.map (PV.dM q z rs)):=by
 rcases h with⟨rfl,rfl⟩|⟨p,rs',rfl,h1,h2,h3⟩
 ·exact .inl ⟨rfl,rfl⟩
 ·have j:¬p=q:=λe=>l (by rw[e];rfl);refine .inr ⟨p,rs'.map λr=>r.map (PV.dM q z rs),by rw[bfY],?_,by simpa using h2,?_⟩
  ·rw[IA,aE j,h1];rfl
  ·rw[bfY,←List.map_take,h3]
theorem aO.frz(h:aO H B L)(i:Nat){q s k:Nat}{rows:List (List PV)}(hi:L[i]?=some (.osl q s 0 k,s,rows)):∃rs,H q=some (.rows s rs)∧PV.dM q s rs (.osl q s 0 k)=.sl s rows∧PV.frz q s rs (.osl q s 0 k)=.sl s rows∧(∀j x,j≠i→L[j]?=some x→PV.dM q s rs x.1=x.1) ∧
  aO (H.frz q s rs) (B.map λb=>(b.1,b.2.frz q s rs)) ((L.eraseIdx i).map λx=>(x.1,x.2.1,x.2.2.map λr=>r.map (PV.dM q s rs))):=by
 obtain⟨rs,U,V,W,X⟩:=(h.own i hi).id rfl;injection V with _ _ _ hk
 subst hk;have e:PV.frz q s rs (.osl q s 0 rows.length)=.sl s rows:=by rw[zV W,X]
 refine⟨rs,U,e,e,?_⟩;refine⟨λj x J R=>?_,?_⟩
 ·have u:x.1.oid≠some q:=by
   intro u;obtain⟨K,he⟩:=bhG.1 hi;obtain⟨α,Y⟩:=bhG.1 R;have w:x∈L.eraseIdx i:=List.mem_eraseIdx_iff_getElem?.2 ⟨j,J,R⟩;have l:=h.ndL;have N:L=L.take i++(L[i]::L.drop (i+1)):=by rw[←biL K,biZ]
   rw[List.eraseIdx_eq_take_drop_succ]at w;rw[N,rA]at l;have I:fB (L[i]::L.drop (i+1))=q::fB (L.drop (i+1)):=by rw[he];rfl
   rw[I,bjA]at l;obtain⟨a,b,c⟩:=l;rcases bhK.1 w with hx|hx
   ·exact c q (rX hx u) q aY rfl
   ·exact(List.nodup_cons.1 b).1 (rX hx u)
  cases hx:x.1<;>try rfl
  rename_i p z β len;have:¬p=q:=λe=>u (by rw[hx,e];rfl);simp only[PV.dM,aE this]
 obtain⟨L1,L2,e1,e2⟩:=aaN (v':=.aH) (s':=s) (rows':=rows) hi;have Z:i=Z' L1∨True:=.inr trivial;have y:(L.eraseIdx i).Sublist L:=List.eraseIdx_sublist ..;have M:∀x∈L.eraseIdx i,x.1.oid≠some q:=by
  intro x hx u;obtain⟨K,he⟩:=bhG.1 hi;have l:=h.ndL;have N:L=L.take i++(L[i]::L.drop (i+1)):=by rw[←biL K,biZ]
  rw[List.eraseIdx_eq_take_drop_succ]at hx;rw[N,rA]at l;have I:fB (L[i]::L.drop (i+1))=q::fB (L.drop (i+1)):=by rw[he];rfl
  rw[I,bjA]at l;obtain⟨a,b,c⟩:=l;rcases bhK.1 hx with hx|hx
  ·exact c q (rX hx u) q aY rfl
  ·exact(List.nodup_cons.1 b).1 (rX hx u)
 refine⟨λb hb=>?_,λx hx=>?_,?_⟩
 ·obtain⟨O,A,rfl⟩:=bhC.1 hb;have:¬O.1=q:=h.ndX (CO A) (rX (bhX hi) rfl);simp only;rw[IA,aE this,h.box O A];rfl
 ·obtain⟨S,E,rfl⟩:=bhC.1 hx;exact aXG (h.lst S (y.subset E)) (M S E)
 ·have i1:fW (B.map λb=>(b.1,b.2.frz q s rs))=fW B:=by unfold fW;rw[bjF];rfl
  have i2:fB ((L.eraseIdx i).map λx=>(x.1,x.2.1,x.2.2.map λr=>r.map (PV.dM q s rs)))=fB (L.eraseIdx i):=by unfold fB;rw[List.filterMap_map];rfl
  rw[i1,i2];exact List.Nodup.sublist (biK.append (biK.refl _) (y.filterMap _)) h.nd
def Flat(rows:List (List PV)):Prop:=∀q s rs,rows.map (λr=>r.map (PV.dM q s rs))=rows
theorem Flat.nil:Flat []:=λ_ _ _=>rfl
theorem Flat.of{rows:List (List PV)}(h:∀r∈rows,∀c∈r,∀q s rs,PV.dM q s rs c=c):Flat rows:=λq s rs=>by
 conv=>rhs;rw[←List.map_id rows]
 refine biI λr j=>?_
 conv=>rhs;rw[id,←List.map_id r]
 exact biI λc e=>h r j c e q s rs
theorem Flat.map{α:Type}{f:α→List PV}(l:List α)(h:∀x,∀c∈f x,∀q s rs,PV.dM q s rs c=c):Flat (l.map f):=Flat.of λr e=>by
 obtain⟨x,_,rfl⟩:=bhC.1 e;exact h x
theorem Flat.append{r1 r2:List (List PV)}(e:Flat r1)(j:Flat r2):Flat (r1++r2):=λq s rs=>by rw[bhM,e,j]
theorem aO.flat{φ:PV→List (List PV)}(h:aO H B L):aO H B L:=h
def uH(v:PV)(H:PH)(R:PV→PH→Prop):Prop:=∃e j H2,mP (PF.nil.set 0 v) H e j∧H2.le j∧∃u,e 0=some u∧R u H2
theorem uH.done{v:PV}{H2:PH}{R:PV→PH→Prop}(j:R v H2)(e:H2.le H):uH v H R:=⟨_,_,H2,.refl _ _,e,v,by rw[qK,aL rfl],j⟩
theorem uH.step{v:PV}{q s:Nat}{rs:List (List PV)}{R:PV→PH→Prop}(hq:H q=some (.rows s rs))(h:uH (PV.frz q s rs v) (H.frz q s rs) R):uH v H R:=by
 obtain⟨j,l,H2,u,w,x⟩:=h;have e:(PF.nil.set 0 v).frz q s rs=PF.nil.set 0 (PV.frz q s rs v):=by funext i;rw[tT,qK,qK];split<;>rfl
 exact⟨j,l,H2,.step q hq (by rw[e];exact u),w,x⟩
theorem pU{res:List fL}{R:PV→PH→Prop}{vs:List PV}{e:oW}(he:e=.normal∨e=.ret)(h:fL.evs F H res=some vs)(x:uH (cF vs) H R):aW res R e F H:=by
 have j:∃vs,fL.evs F H res=some vs∧∃l w H2,mP (PF.nil.set 0 (cF vs)) H l w∧H2.le w∧∃u,l 0=some u∧R u H2:=⟨vs,h,x⟩;rcases he with rfl|rfl<;>exact j
theorem SQ{u:PV}(h:u.oid=none)(q s:Nat)(rs:List (List PV)):PV.dM q s rs u=u:=by
 cases u<;>first|rfl|(simp[PV.oid]at h)
theorem Seen.co{s:Nat}{v:PV}{rows:List (List PV)}(h:Seen s v rows):Co v (.sl s rows):=by
 rcases h with⟨rfl,rfl⟩|rfl
 ·exact .nil s
 ·exact .refl _
theorem aO.giveUp:∀(L:List LI){H:PH}{B:List BX},aO H B L→(∀x∈L,Flat x.2.2)→(∀b∈B,∀q s rs,cI.frz q s rs b.2=b.2) →
  ∃(φ:PV→PV)(y:PH),(∀x∈L,Seen x.2.1 (φ x.1) x.2.2)∧(∀u,u.oid=none→φ u=u)∧aO y B []∧∀cs R,uH (.agg (cs.map φ)) y R→uH (.agg cs) H R
 |[],H,B,h,_,_=>⟨id,H,by simp,λ_ _=>rfl,h,λcs R I=>by rwa[List.map_id]at I⟩
 |(w,s,rows)::L,H,B,h,E,hB=>by
  have l:∀q z rs,(L.map λx=>(x.1,x.2.1,x.2.2.map λr=>r.map (PV.dM q z rs)))=L:=λq z rs=>by
   conv=>rhs;rw[←List.map_id L]
   refine biI λx hx=>?_;rw[E x (by simp[hx]) q z rs];rfl
  rcases h.own 0 rfl with⟨A,S⟩|⟨q,rs,A,_⟩
  ·obtain⟨φ,y,k1,k2,J,K⟩:=aO.giveUp L (h.za 0) (λx hx=>E x (by simp[hx])) hB;refine⟨φ,y,λx hx=>?_,k2,J,K⟩;rw[bgN]at hx;rcases hx with rfl|hx
   ·exact .inl ⟨A,by simp only;rw[S];exact k2 _ rfl⟩
   ·exact k1 x hx
  ·subst A;obtain⟨rs,V,W,Z,X,N⟩:=h.frz 0 rfl;have Y:aO (H.frz q s rs) B L:=by
    have O:(B.map λb=>(b.1,b.2.frz q s rs))=B:=by
     conv=>rhs;rw[←List.map_id B]
     refine biI λb hb=>?_;rw[hB b hb q s rs];rfl
    rw[O]at N;have:=N;simp only[List.eraseIdx_cons_zero]at this
    rwa[l q s rs]at this
   obtain⟨φ,y,k1,k2,J,K⟩:=aO.giveUp L Y (λx hx=>E x (by simp[hx])) hB;refine⟨λu=>φ (PV.dM q s rs u),y,λx hx=>?_,λu M=>?_,J,λcs R I=>?_⟩
   ·rw[bgN]at hx;rcases hx with rfl|hx
    ·simp only;rw[W];exact .inr (k2 _ rfl)
    ·obtain⟨j,U⟩:=List.mem_iff_getElem?.1 hx;have:=X (j+1) x Om (by simpa using U);simp only;rw[this];exact k1 x hx
   ·simp only;rw[SQ M,k2 u M]
   ·refine .step V ?_;have e:PV.frz q s rs (.agg cs)=.agg (cs.map (PV.dM q s rs)):=rfl;rw[e];refine K _ R ?_;rw[bjF];exact I
theorem br{K:cQ}{α:Type}{e:α→PF}{Hs:α→PH}{j:α→Prop}{m:α→Nat}{n q s:Nat}{rs:List (List PV)}(a:α)(hq:H q=some (.rows s rs))(l:j a)(x:m a<n)(u:(e a).le (F.frz q s rs))(w:(Hs a).le (H.frz q s rs)):fZ e Hs j m n K .normal F H:=
 ⟨a,_,_,.step q hq (.refl _ _),l,x,u,w⟩
end
structure KL(C:Ctx):Prop extends yj C where
 int:∀n:Int,eX n→aI C 47 [.int .i64 n] .nil (aK (.agg (mkT n 1).cells))
 itoa:∀n:Nat,n<100→aI C 195 [.int .i64 n] .nil (aK (.str (dH n)))
 next:∀(l:List Nat)(v:PV),Tp l v→∀(o n a:Nat),n≤1000000→a≤Z' l→aI C 4 [.ptr o 2 0 0,.int .i64 n] (PH.nil.set o (bU v a)) (yd l v o n a)
section
variable {C:Ctx} {F:PF} {H:PH} {l:List Nat} {v:PV} {o a:Nat}
theorem eY(j:KL C)(T:Tp l v){n:Nat}{args:List aS}{d:Option Nat}{K:PF→PH→Prop}(x:n≤1000000)(u:a≤Z' l)(e:aS.evs F args=some [.ptr o 2 0 0,.int .i64 n])(y:H o=some (bU v a))
  (w:K (F.put d (.int .i64 ((aJ l n a).1:Nat))) (H.set o (bU v (aJ l n a).2))):kF C 4 args [] d K F H:=
 rI (j.next l v T o n a x u) y e w
end
def aZB(l:List Nat)(v:PV)(o a:Nat)(r:PV)(H:PH):Prop:=r=.agg (kB l a).1.cells∧H=PH.nil.set o (bU v (kB l a).2)
theorem CJ(l:List Nat){a:Nat}(h:a≤Z' l):(kB l a).2≤Z' l:=cG l 8 (cG l 6 h)
theorem aUY{C:Ctx}(j:KL C){l:List Nat}{v:PV}(T:Tp l v)(o a:Nat)(x:a≤Z' l):UE.wp C (aW aIB.res (aZB l v o a)) (PF.args [.ptr o 2 0 0]) (PH.nil.set o (bU v a)):=by
 simp only[go_sem,UE,acG,aIB];refine aQ λp K=>?_;have y:¬p=o:=(nE.1 K).1;have e:¬o=p:=λh=>y h.symm;have M:=dT l (show 0<6 by decide) a;have a1:=cG l 6 x;simp only[go_sem,acH];refine eY j T (o:=o) (n:=6) (a:=a) aV x rfl (by simp only[go_sem,e]) ?_;have E:IntKind.i64.wrap (1+((aJ l 6 a).1:Int))=((1+(aJ l 6 a).1:Nat):Int):=by rw[wrap_i64 Om Om];omega
 simp only[go_sem,E];have N:=dT l (show 0<8 by decide) (aJ l 6 a).2;refine eY j T (o:=o) (n:=8) (a:=(aJ l 6 a).2) aV a1 rfl Sq ?_;have I:IntKind.i64.wrap (1+((aJ l 8 (aJ l 6 a).2).1:Int))=((1+(aJ l 8 (aJ l 6 a).2).1:Nat):Int):=by rw[wrap_i64 Om Om];omega
 simp only[go_sem,I];refine aB (j.fmk ((1+(aJ l 6 a).1:Nat):Int) ((1+(aJ l 8 (aJ l 6 a).2).1:Nat):Int) (by unfold eX;omega) (by unfold eX;omega)) rfl ?_;have J:¬((1+(aJ l 8 (aJ l 6 a).2).1:Nat):Int)=0:=Om;unfold ET;rw[aE J];simp only[go_sem];refine aQ λq hq=>?_;have A:¬q=o:=(nE.1 hq).1;have B:¬q=p:=(nE.1 (nE.1 hq).2).1;have w:¬p=q:=λh=>B h.symm;have u:¬o=q:=λh=>A h.symm;simp only[go_sem,acI,y,e,A,B,w];refine bB (vs:=[.agg (kB l a).1.cells]) (.inr rfl) (PH.nil.set o (bU v (kB l a).2)) ?_ (e_ a_ ?_) ⟨rfl,rfl⟩
 ·simp only[go_sem];rfl
 ·simp only[go_sem,e,u];rfl
structure Ve(C:Ctx):Prop extends KL C where
 frac:∀(l:List Nat)(v:PV),Tp l v→∀(o a:Nat),a≤Z' l→aI C 1 [.ptr o 2 0 0] (PH.nil.set o (bU v a)) (aZB l v o a)
abbrev lH(l:List RF):List (List PV):=l.map RF.cells
theorem FW(l:List RF)(x:RF):lH l++[x.cells]=lH (l++[x]):=by simp[lH]
theorem SP(l:List RF):Flat (lH l):=Flat.map l λx c e q s rs=>by
 simp only[RF.cells,hZ,bgN,bgZ,or_false]at e;rcases e with rfl|rfl|rfl<;>rfl
theorem sO(l:List RF):(lH l).length=Z' l:=by simp[lH]
theorem Tp.frz{l:List Nat}{v:PV}(T:Tp l v)(q s:Nat)(rs:List (List PV)):PV.dM q s rs v=v:=by
 rcases T.seen with⟨_,rfl⟩|rfl<;>rfl
theorem RI(l:List Nat){a:Nat}(h:a≤Z' l):∀k,(pR l a k).2≤Z' l
 |0=>h
 |k+1=>CJ l (RI l h k)
theorem aiF(l:List Nat)(a:Nat):∀k,(pR l a k).1.length=k
 |0=>rfl
 |k+1=>by simp only[pR,bgB,bgI,aiF l a k]
def a4V(l:List Nat)(v:PV)(o a k:Nat)(r:PV)(H:PH):Prop:=r=frs (pR l a k).1∧H=PH.nil.set o (bU v (pR l a k).2)
def aIG(o:Nat)(m:Nat)(w:PV)(i:Nat):PF:=((((PF.nil.set 0 (.ptr o 2 0 0)).set 1 (.int .i64 m)).set 5 (w)).set 6 (.int .i64 i))
theorem a1Z{C:Ctx}(K:Ve C){l:List Nat}{v:PV}(T:Tp l v)(o a m:Nat)(U:m≤1000)(O:a≤Z' l):cc.wp C (aW aVG.res (a4V l v o a (max m 1))) (PF.args [.ptr o 2 0 0,.int .i64 m]) (PH.nil.set o (bU v a)):=by
 have x:∀i:Nat,((i:Int)<(if(m:Int)<1 then 1 else(m:Int)))↔i<max m 1:=by intro i;split<;>omega
 simp only[go_sem,cc,axC,axD,axE,aVG];have M:aO (PH.nil.set o (bU v a)) [(o,bU v a)] [(.aH,3,lH [])]:=(aO.nil.new (H:=PH.nil) rfl (bU v a)).oV 3;refine wp_loop (α:=Nat × PV × PH) (λt=>aIG o m t.2.1 t.1) (λt=>t.2.2) (λt=>t.1≤max m 1∧aO t.2.2 [(o,bU v (pR l a t.1).2)] [(t.2.1,3,lH (pR l a t.1).1)]) (λt=>max m 1-t.1) (0,.aH,PH.nil.set o (bU v a)) ⟨bgE _,M⟩ ?_ b_ ?_
 ·unfold aIG;exact Lq
 rintro⟨k,w,H0⟩ ⟨R,u⟩;simp only at R u ⊢;simp only[go_sem,axB,axF,aIG];have E:=RI l O k;have j:=aiF l a k;by_cases hlt:k<max m 1
 ·have B:=(x k).2 hlt;simp only[go_sem,B,axG];refine rI (K.frac l v T o _ E) (u.at 0 rfl) rfl ?_;have A:=u.set 0 rfl (bU v (kB l (pR l a k).2).2);have y:(1:Nat)*3≤16777216:=by decide
  simp only[go_sem,y];refine A.append 0 (src:=[(kB l (pR l a k).2).1.cells]) rfl rfl (by unfold roomFor;rw[sO,j];simp only[bgI,maxLen];omega) λS H' J _=>?_;rw[FW]at J;simp only[go_sem,axH,wZz k];refine aG (k+1,S,H') ⟨hlt,J⟩ (by simp only;omega) ?_ b_;exact Lq
 ·have B:¬((k:Int)<(if(m:Int)<1 then 1 else(m:Int))):=λh=>hlt ((x k).1 h);have e:k=max m 1:=Om;subst e;simp only[go_sem,B,axI];have I:lH (pR l a (max m 1)).1≠[]:=λh=>by have:=congrArg List.length h;rw[sO,j]at this;simp at this
  rcases u.own 0 rfl with⟨N,_⟩|⟨q,rs,rfl,_⟩
  ·exact absurd N I
  obtain⟨rs,g1,g2,g3,-,g4⟩:=u.frz 0 rfl;refine pU (vs:=[.osl q 3 0 (lH (pR l a (max m 1)).1).length]) (.inr rfl) rfl (.step g1 (.done (H2:=PH.nil.set o (bU v (pR l a (max m 1)).2)) ?_ (e_ a_ ?_)))
  ·rw[cF,g3];exact⟨rfl,rfl⟩
  ·have:=g4.at 0 rfl;rw[this];simp only[cI.frz,bhJ,biS,T.frz];rfl
theorem aVC{C:Ctx}(j:KL C)(s:List UInt8)(n:Nat)(x:Z' s≤100)(u:n<100):UJ.wp C (aW aIE.res (aK (.str (s++dH n)))) (PF.args [.str s,.int .i64 n]) .nil:=by
 have w:(dH n).length≤2:=by
  unfold dH;rw[Lib.decDigits];split
  ·simp
  ·rw[Lib.decDigits,dif_pos Om];simp
 have e:¬(((Z' s+(dH n).length:Nat):Int)>9223372036854775807):=Om;simp only[go_sem,UJ,adE,adF,aIE];refine aB (j.itoa n u) rfl ?_;simp only[go_sem,aFZ,e];refine aU (.inr rfl) rfl ?_;rfl
structure AL(C:Ctx):Prop extends Ve C where
 rep:∀(l:List Nat)(v:PV),Tp l v→∀(o a m:Nat),m≤1000→a≤Z' l→aI C 5 [.ptr o 2 0 0,.int .i64 m] (PH.nil.set o (bU v a)) (a4V l v o a (max m 1))
 name:∀(s:List UInt8)(n:Nat),Z' s≤100→n<100→aI C 29 [.str s,.int .i64 n] .nil (aK (.str (s++dH n)))
theorem aSK(l:List Nat)(i j:Nat){a:Nat}(h:a≤Z' l):(nH l i j a).2≤Z' l:=by
 unfold nH;split
 ·exact CJ l h
 ·split
  ·exact h
  ·simp only;split
   ·exact CJ l (cG l 3 h)
   ·exact cG l 3 h
theorem Ix(l:List Nat)(i:Nat){a:Nat}(h:a≤Z' l):∀j,(fQ l i a j).2≤Z' l
 |0=>h
 |j+1=>aSK l i j (Ix l i h j)
theorem wn(l:List Nat)(i a:Nat):∀j,(fQ l i a j).1.length=j
 |0=>rfl
 |j+1=>by simp only[fQ,bgB,bgI,wn l i a j]
theorem ta(l:List Nat)(n i:Nat)(s:MU)(h:s.a≤Z' l):(fO l n i s).2≤Z' l∧(fO l n i s).1≤s.left:=by
 unfold fO;split
 ·exact⟨cG l _ h,by have:=dT l (Om:0<s.left+1) s.a;omega⟩
 ·exact⟨h,bgG _⟩
theorem Wf(l:List Nat)(n i:Nat){a:Nat}(h:a≤Z' l):(jN l n i a).2≤Z' l:=by
 unfold jN;simp only;split
 ·exact cG l 3 (CJ l h)
 ·exact CJ l h
theorem Hg(l:List Nat)(n:Nat){a:Nat}(h:a≤Z' l):∀i,(kS l n a i).a≤Z' l∧(kS l n a i).left≤8∧(kS l n a i).start.length=i∧(kS l n a i).exit.length=i∧(kS l n a i).beP.length=i
 |0=>⟨h,bgG _,rfl,rfl,rfl⟩
 |i+1=>by
  obtain⟨e,x,j,u,h5⟩:=Hg l n h i;have w:=ta l n i (kS l n a i) e;refine⟨?_,?_,?_,?_,?_⟩
  ·exact Ix l i (Wf l n i w.1) n
  ·simp only[kS];omega
  ·simp only[kS,bgB,bgI,j]
  ·simp only[kS,bgB,bgI,u]
  ·simp only[kS,bgB,bgI,h5]
abbrev CV(l:List (List RF)):List (List PV):=l.map λr=>[frs r]
theorem Pj(l:List (List RF)):Flat (CV l):=Flat.map l λx c e q s rs=>by
 simp only[bgN,bgZ,or_false]at e;subst e;rfl
abbrev s8(e j l:PV):cI:=.rows 4 [[.str [],e,j,l]]
abbrev aaT:cI:=.rows 4 [[.str [],.aH,.aH,.aH]]
def kG(o o4 o6 n left i:Nat)(w:PV)(j:Nat):PF:=((((((((PF.nil.set 0 (.ptr o 2 0 0)).set 4 (.ptr o4 4 0 0)).set 5 (.int .i64 n)).set 6 (.ptr o6 4 0 0)).set 7 (.int .i64 left)).set 8 (.int .i64 i)).set 13 (w)).set 14 (.int .i64 j))
def eQ(o o4 o6 n left i:Nat):PF:=((((((PF.nil.set 0 (.ptr o 2 0 0)).set 4 (.ptr o4 4 0 0)).set 5 (.int .i64 n)).set 6 (.ptr o6 4 0 0)).set 7 (.int .i64 left)).set 8 (.int .i64 i))
theorem tr{l:List RF}(h:Z' l≤1000):roomFor (lH l).length 1 56:=by
 unfold roomFor;rw[sO];simp only[maxLen];omega
theorem aVB{C:Ctx}(W:AL C){l:List Nat}{v:PV}(T:Tp l v)(o o4 o6 n left i a:Nat)(ha:a≤Z' l)(hn:n≤100)(hi:i<n)(B:List BX)(L:List LI)(K:cQ)(F:PF)(H:PH)
  (hF:(kG o o4 o6 n left i .aH 0).le F) (O:aO H ((o,bU v a)::B) L)
  (hK:∀w y H',(kG o o4 o6 n left i w n).le y→aO H' ((o,bU v (fQ l i a n).2)::B) (L++[(w,3,lH (fQ l i a n).1)])→K (.exit 2) y H') :
  aC.wp C (.loop UH) K F H:=by
 refine wp_loop (α:=Nat × PV × PH) (λt=>kG o o4 o6 n left i t.2.1 t.1) (λt=>t.2.2) (λt=>t.1≤n∧aO t.2.2 ((o,bU v (fQ l i a t.1).2)::B) (L++[(t.2.1,3,lH (fQ l i a t.1).1)])) (λt=>n-t.1) (0,.aH,H) ⟨bgE _,O.oV 3⟩ hF b_ ?_;rintro⟨j,w,H0⟩ ⟨hj,O⟩;simp only at hj O ⊢;have N:=Ix l i ha j;have ε:=wn l i a j;have e1:IntKind.i64.wrap ((i:Int)+1)=((i+1:Nat):Int):=eT Om;simp only[go_sem,UH,acZ,kG];by_cases hlt:j<n
 ·have I:(j:Int)<(n:Nat):=Om;simp only[go_sem,I,adA];refine aB (W.int 0 (by unfold eX;omega)) rfl ?_;simp only[go_sem];refine aQ λp hp=>?_;have A:=O.new hp (.rows 3 [pB.cells]);simp only[go_sem,adB,e1];have fin:∀(y:PF)(H':PH),(kG o o4 o6 n left i w j).le y→y 15=some (.ptr p 3 0 0)→aO H' ((o,bU v (nH l i j (fQ l i a j).2).2)::B++[(p,.rows 3 [(nH l i j (fQ l i a j).2).1.cells])]) (L++[(w,3,lH (fQ l i a j).1)]) →
    aC.wp C (.region t8) (fN 3 (kJ C (aC.wp C (.region uc)) (fZ (λ(t:Nat × PV × PH)=>kG o o4 o6 n left i t.2.1 t.1) (λt=>t.2.2) (λt=>t.1≤n∧aO t.2.2 ((o,bU v (fQ l i a t.1).2)::B) (L++[(t.2.1,3,lH (fQ l i a t.1).1)])) (λt=>n-t.1) (n-j) K))) y H':=by
   intro y H' e J R;have f0:y 0=some (.ptr o 2 0 0):=e 0 _ (by unfold kG;simp only[go_sem]);have f4:y 4=some (.ptr o4 4 0 0):=e 4 _ (by unfold kG;simp only[go_sem]);have f5:y 5=some (.int .i64 n):=e 5 _ (by unfold kG;simp only[go_sem]);have f6:y 6=some (.ptr o6 4 0 0):=e 6 _ (by unfold kG;simp only[go_sem]);have f7:y 7=some (.int .i64 left):=e 7 _ (by unfold kG;simp only[go_sem]);have f8:y 8=some (.int .i64 i):=e 8 _ (by unfold kG;simp only[go_sem]);have f13:y 13=some w:=e 13 _ (by unfold kG;simp only[go_sem]);have f14:y 14=some (.int .i64 j):=e 14 _ (by unfold kG;simp only[go_sem]);have γ:H' p=some (.rows 3 [(nH l i j (fQ l i a j).2).1.cells]):=R.box (p,.rows 3 [(nH l i j (fQ l i a j).2).1.cells]) aY;have Y:(1:Nat)*3≤16777216:=by decide
   simp only[go_sem,t8,f13,J,γ,Y];refine R.append (v:=w) (s:=3) (rows:=lH (fQ l i a j).1) L.length (src:=[(nH l i j (fQ l i a j).2).1.cells]) aY rfl (tr Om) λw' H2 h2 _=>?_;rw[FW,bjU _ _ (bgG _),Nat.sub_self]at h2;simp only[go_sem,uc,f14,wZz j];refine aG (α:=Nat × PV × PH) (j+1,w',H2) ⟨hlt,h2.sub (bkD ..) (biK.refl _)⟩ (by simp only;omega) ?_ b_;unfold kG;exact Lq
  simp only[aC.wp,go_sem]at fin;have V:∀x:RF,PH.set (PH.set H0 p (.rows 3 [pB.cells])) p (.rows 3 [x.cells])=PH.set H0 p (.rows 3 [x.cells]):=λx=>PH.set_set p _ _;have draw:∀(y:PF)(S:PH)(a1:Nat),a1≤Z' l→(kG o o4 o6 n left i w j).le y→y 15=some (.ptr p 3 0 0)→aO S ((o,bU v a1)::B++[(p,.rows 3 [pB.cells])]) (L++[(w,3,lH (fQ l i a j).1)])→nH l i j (fQ l i a j).2=kB l a1→∀K',(∀M H2,(kG o o4 o6 n left i w j).le M→M 15=some (.ptr p 3 0 0)→aO H2 ((o,bU v (nH l i j (fQ l i a j).2).2)::B++[(p,.rows 3 [(nH l i j (fQ l i a j).2).1.cells])]) (L++[(w,3,lH (fQ l i a j).1)])→K' M H2) →
    wpOps C t7 K' y S:=by
   intro y S a1 β e J A he K' Z;have f0:y 0=some (.ptr o 2 0 0):=e 0 _ (by unfold kG;simp only[go_sem]);simp only[go_sem,t7,f0];refine rI (W.frac l v T o a1 β) (A.at 0 rfl) rfl ?_;have E:aO (S.set o (bU v (kB l a1).2)) ((o,bU v (kB l a1).2)::B++[(p,.rows 3 [pB.cells])]) (L++[(w,3,lH (fQ l i a j).1)]):=A.set 0 rfl _;have δ:=E.rP;simp only[go_sem,J,δ];refine Z _ _ ?_ (by simp only[go_sem,J]) ?_
   ·have g:=λ(q:Nat) u h=>e q u h;unfold kG at g ⊢;refine d_ (d_ (d_ (d_ (d_ (d_ (d_ (d_ c_ ?_) ?_) ?_) ?_) ?_) ?_) ?_) ?_
    ·simp only[go_sem,f0]
    ·simp only[go_sem,g 4 _ rfl]
    ·simp only[go_sem,g 5 _ rfl]
    ·simp only[go_sem,g 6 _ rfl]
    ·simp only[go_sem,g 7 _ rfl]
    ·simp only[go_sem,g 8 _ rfl]
    ·simp only[go_sem,g 13 _ rfl]
    ·simp only[go_sem,g 14 _ rfl]
   ·rw[he];exact E.xR (.rows 3 [(kB l a1).1.cells])
  by_cases U:j=i+1
  ·have he:nH l i j (fQ l i a j).2=kB l (fQ l i a j).2:=by unfold nH;rw[aL U]
   simp only[go_sem,bT (Om:(j:Int)=((i+1:Nat):Int))];refine draw _ _ _ N (by unfold kG;exact Lq) rfl A he _ ?_;intro M H2 k1 k2 k3;exact fin M H2 k1 k2 k3
  ·simp only[go_sem,bD (Om:¬(j:Int)=((i+1:Nat):Int))];by_cases X:j=i
   ·have he:nH l i j (fQ l i a j).2=(pB,(fQ l i a j).2):=by unfold nH;rw[aE U,aL X]
    simp only[go_sem,bR (Om:(j:Int)=(i:Int))];exact fin _ _ (by unfold kG;exact Lq) rfl (by rw[he];exact A)
   ·simp only[go_sem,cP (Om:¬(j:Int)=(i:Int))];refine eY W.toKL T (o:=o) (n:=3) (a:=(fQ l i a j).2) aV N rfl (A.at 0 rfl) ?_;have E:aO _ ((o,bU v (aJ l 3 (fQ l i a j).2).2)::B++[(p,.rows 3 [pB.cells])]) (L++[(w,3,lH (fQ l i a j).1)]):=A.set 0 rfl _;by_cases c3:(aJ l 3 (fQ l i a j).2).1=0
    ·have he:nH l i j (fQ l i a j).2=kB l (aJ l 3 (fQ l i a j).2).2:=by unfold nH;rw[aE U,aE X];simp only[c3,if_true]
     simp only[go_sem,bT (show(((aJ l 3 (fQ l i a j).2).1:Nat):Int)=0 by omega)];refine draw _ _ _ (cG l 3 N) (by unfold kG;exact Lq) rfl E he _ ?_;intro M H2 k1 k2 k3;exact fin M H2 k1 k2 k3
    ·have he:nH l i j (fQ l i a j).2=(pB,(aJ l 3 (fQ l i a j).2).2):=by unfold nH;rw[aE U,aE X];simp only[c3,if_false]
     simp only[go_sem,bD (show ¬(((aJ l 3 (fQ l i a j).2).1:Nat):Int)=0 by omega)];exact fin _ _ (by unfold kG;exact Lq) rfl (by rw[he];exact E)
 ·have I:¬(j:Int)<(n:Nat):=Om;have:j=n:=Om;subst this;simp only[go_sem,I];exact hK w _ _ (by unfold kG;exact Lq) O
abbrev yO(o o4 o6:Nat)(v e j l:PV)(a:Nat):List BX:=[(o,bU v a),(o4,aaT),(o6,s8 e j l)]
abbrev DK(s:MU)(e j l:PV):List LI:=[(e,3,lH s.start),(j,1,CV s.beP),(l,3,lH s.exit)]
theorem aNL{C:Ctx}(J:AL C){l:List Nat}{v:PV}(T:Tp l v)(o o4 o6 n i:Nat)(s:MU)(I:s.a≤Z' l)(V:s.left≤8)(W:n≤100)(hi:i<n)(B:List BX)(L:List LI)(e:aC)(K:cQ)(F:PF)(H:PH)
  (j:(eQ o o4 o6 n s.left i).le F) (A:aO H ((o,bU v s.a)::B) L)
  (w:∀x H',(eQ o o4 o6 n (s.left-(fO l n i s).1) i).le x→x 9=some (.int .i64 ((fO l n i s).1:Nat))→aO H' ((o,bU v (fO l n i s).2)::B) L→aC.wp C e K x H') :
  aC.wp C (.seq (.region Hl) (.seq (.seq (.region Hm) (.cond (.tmp 29) (.region Hn) .skip)) (.seq (.region ju) e))) K F H:=by
 have f0:F 0=some (.ptr o 2 0 0):=j 0 _ (by unfold eQ;simp only[go_sem]);have S:F 4=some (.ptr o4 4 0 0):=j 4 _ (by unfold eQ;simp only[go_sem]);have O:F 5=some (.int .i64 n):=j 5 _ (by unfold eQ;simp only[go_sem]);have f6:F 6=some (.ptr o6 4 0 0):=j 6 _ (by unfold eQ;simp only[go_sem]);have f7:F 7=some (.int .i64 s.left):=j 7 _ (by unfold eQ;simp only[go_sem]);have R:F 8=some (.int .i64 i):=j 8 _ (by unfold eQ;simp only[go_sem]);have M:IntKind.i64.wrap ((i:Int)+1)=((i+1:Nat):Int):=eT Om;have U:=(ta l n i s I).2;have u:IntKind.i64.wrap ((s.left:Int)-((fO l n i s).1:Int))=((s.left-(fO l n i s).1:Nat):Int):=by rw[wrap_i64 Om Om];omega
 simp only[go_sem,Hl,f7,Hm,R,O,M];by_cases c:i+1<n
 ·have y:((i+1:Nat):Int)<(n:Nat):=Om;have he:fO l n i s=aJ l (s.left+1) s.a:=by unfold fO;rw[aL c]
  have N:IntKind.i64.wrap ((s.left:Int)+1)=((s.left+1:Nat):Int):=eT Om;rw[he]at w u;simp only[go_sem,y,Hn,f0,f7,N];refine eY J.toKL T (o:=o) (n:=s.left+1) (a:=s.a) Om I rfl A.a5C ?_;have E:=A.a3J (bU v (aJ l (s.left+1) s.a).2);simp only[go_sem,ju,f7,u];refine w _ _ ?_ rfl E;unfold eQ;exact Lq
 ·have y:¬((i+1:Nat):Int)<(n:Nat):=Om;have he:fO l n i s=(s.left,s.a):=by unfold fO;rw[aE c]
  rw[he]at w u;simp only at w u;simp only[go_sem,y,ju,f7,u];refine w _ _ ?_ rfl A;unfold eQ;exact Lq
theorem aID{C:Ctx}(R:AL C){l:List Nat}{v:PV}(o o4 o6 n i left k a:Nat)(hk:k≤8)(hi:i<n)(hn:n≤100)(s:MU)(hs:Z' s.start=i)(O x A:PV)(B:List BX)(e:aC)(K:cQ)(F:PF)(H:PH)
  (w:(eQ o o4 o6 n left i).le F) (S:F 9=some (.int .i64 k)) (X:aO H (yO o o4 o6 v O x A a++B) (DK s O x A))
  (Y:∀u N H' B',(eQ o o4 o6 n left i).le N→aO H' (yO o o4 o6 v u x A a++B') (DK { s with start:=s.start++[mkT (k:Nat) 8] } u x A)→aC.wp C e K N H') :
  aC.wp C (.seq (.region tt) (.seq (.region tu) e)) K F H:=by
 have f0:F 0=some (.ptr o 2 0 0):=w 0 _ (by unfold eQ;simp only[go_sem]);have f4:F 4=some (.ptr o4 4 0 0):=w 4 _ (by unfold eQ;simp only[go_sem]);have f5:F 5=some (.int .i64 n):=w 5 _ (by unfold eQ;simp only[go_sem]);have f6:F 6=some (.ptr o6 4 0 0):=w 6 _ (by unfold eQ;simp only[go_sem]);have f7:F 7=some (.int .i64 left):=w 7 _ (by unfold eQ;simp only[go_sem]);have f8:F 8=some (.int .i64 i):=w 8 _ (by unfold eQ;simp only[go_sem]);simp only[go_sem,tt,S];refine aB (R.fmk (k:Int) 8 (by unfold eX;omega) (by unfold eX;omega)) rfl ?_;unfold ET;rw[aE aV];simp only[go_sem];refine aQ λp Z=>?_;have j:=X.new Z (.rows 3 [(mkT (k:Nat) 8).cells]);have U:=j.at 2 rfl;have V:=j.rP;have I:(1:Nat)*3≤16777216:=by decide
 have α:∀y,PH.set (PH.set H p (.rows 3 [[PV.bool false,PV.aH,PV.aH]])) p y=PH.set H p y:=λy=>PH.set_set p _ _;simp only[go_sem,tu,f6,U,V,I];refine j.append 0 (src:=[(mkT (k:Nat) 8).cells]) rfl rfl (tr Om) λu H2 J M=>?_;rw[FW]at J M;rw[sO]at M;obtain⟨q,rfl⟩:=M aY;have E:=J.at 2 rfl;simp only[go_sem,E,bgN,bgZ,or_false,forall_eq];have W:=J.set 2 rfl (s8 (.osl q 3 0 (s.start++[mkT (k:Nat) 8]).length) x A);refine Y _ _ _ (B++[(p,.rows 3 [(mkT (k:Nat) 8).cells])]) ?_ W;unfold eQ;exact Lq
theorem aNK{C:Ctx}(N:AL C){l:List Nat}{v:PV}(T:Tp l v)(o o4 o6 n i left a:Nat)(ha:a≤Z' l)(hi:i<n)(hn:n≤100)(s:MU)(hs:Z' s.exit=i)(w x M:PV)(B:List BX)(u:aC)(K:cQ)(F:PF)(H:PH)
  (J:(eQ o o4 o6 n left i).le F) (hH:aO H (yO o o4 o6 v w x M a++B) (DK s w x M))
  (hK:∀I e H' B',(eQ o o4 o6 n left i).le e→aO H' (yO o o4 o6 v w x I (jN l n i a).2++B') (DK { s with exit:=s.exit++[(jN l n i a).1] } w x I)→aC.wp C u K e H') :
  aC.wp C (.seq (.region tv) (.seq (.seq (.region tw) (.cond (.tmp 58) (.region tx) .skip)) (.seq (.region UI) u))) K F H:=by
 have f0:F 0=some (.ptr o 2 0 0):=J 0 _ (by unfold eQ;simp only[go_sem]);have f4:F 4=some (.ptr o4 4 0 0):=J 4 _ (by unfold eQ;simp only[go_sem]);have f5:F 5=some (.int .i64 n):=J 5 _ (by unfold eQ;simp only[go_sem]);have f6:F 6=some (.ptr o6 4 0 0):=J 6 _ (by unfold eQ;simp only[go_sem]);have f7:F 7=some (.int .i64 left):=J 7 _ (by unfold eQ;simp only[go_sem]);have f8:F 8=some (.int .i64 i):=J 8 _ (by unfold eQ;simp only[go_sem]);have e1:IntKind.i64.wrap ((i:Int)+1)=((i+1:Nat):Int):=eT Om;simp only[go_sem,tv,f0];refine rI (N.frac l v T o a ha) (hH.at 0 rfl) rfl ?_;have X:=hH.set 0 rfl (bU v (kB l a).2);simp only[go_sem];refine aQ λp hp=>?_;have A:=X.new hp (.rows 3 [(kB l a).1.cells]);simp only[go_sem,tw,f8,f5,e1];have fin:∀(e:PF)(H':PH),(eQ o o4 o6 n left i).le e→e 12=some (.ptr p 3 0 0)→aO H' (yO o o4 o6 v w x M (jN l n i a).2++B++[(p,.rows 3 [(jN l n i a).1.cells])]) (DK s w x M)→wpOps C UI (aC.wp C u K) e H':=by
  intro e H' j R y;have q0:e 0=some (.ptr o 2 0 0):=j 0 _ (by unfold eQ;simp only[go_sem]);have q4:e 4=some (.ptr o4 4 0 0):=j 4 _ (by unfold eQ;simp only[go_sem]);have q5:e 5=some (.int .i64 n):=j 5 _ (by unfold eQ;simp only[go_sem]);have q6:e 6=some (.ptr o6 4 0 0):=j 6 _ (by unfold eQ;simp only[go_sem]);have q7:e 7=some (.int .i64 left):=j 7 _ (by unfold eQ;simp only[go_sem]);have q8:e 8=some (.int .i64 i):=j 8 _ (by unfold eQ;simp only[go_sem]);have g6:=y.at 2 rfl;have U:=y.rP;have V:(1:Nat)*3≤16777216:=by decide
  simp only[go_sem,UI,q6,g6,R,U,V];refine y.append 2 (src:=[(jN l n i a).1.cells]) rfl rfl (tr Om) λI H2 W Z=>?_;rw[FW]at W Z;rw[sO]at Z;obtain⟨q,rfl⟩:=Z aY;have S:=W.at 2 rfl;simp only[go_sem,S,bgN,bgZ,or_false,forall_eq];have h3:=W.set 2 rfl (s8 w x (.osl q 3 0 (s.exit++[(jN l n i a).1]).length));refine hK _ _ _ (B++[(p,.rows 3 [(jN l n i a).1.cells])]) ?_ h3;unfold eQ;exact Lq
 by_cases c:i+1<n
 ·have O:((i+1:Nat):Int)<(n:Nat):=Om;have Y:=CJ l ha;simp only[go_sem,O,f0];refine eY N.toKL T (o:=o) (n:=3) (a:=(kB l a).2) aV Y rfl (A.at 0 rfl) ?_;have E:=A.set 0 rfl (bU v (aJ l 3 (kB l a).2).2);by_cases c3:(aJ l 3 (kB l a).2).1=0
  ·have he:jN l n i a=(pB,(aJ l 3 (kB l a).2).2):=by unfold jN;simp only[aL c,c3,if_true]
   have U:=aO.rP (B:=yO o o4 o6 v w x M (aJ l 3 (kB l a).2).2++B) E;simp only[go_sem,bT (show(((aJ l 3 (kB l a).2).1:Nat):Int)=0 by omega),tx];refine aB (N.int 0 (by unfold eX;omega)) rfl ?_;simp only[go_sem,U];refine fin _ _ ?_ rfl ?_
   ·unfold eQ;exact Lq
   ·rw[he];exact aO.xR (B:=yO o o4 o6 v w x M (aJ l 3 (kB l a).2).2++B) E (.rows 3 [pB.cells])
  ·have he:jN l n i a=((kB l a).1,(aJ l 3 (kB l a).2).2):=by unfold jN;simp only[aL c,c3,if_false]
   simp only[go_sem,bD (show ¬(((aJ l 3 (kB l a).2).1:Nat):Int)=0 by omega)];refine fin _ _ ?_ rfl ?_
   ·unfold eQ;exact Lq
   ·rw[he];exact E
 ·have O:¬((i+1:Nat):Int)<(n:Nat):=Om;have he:jN l n i a=kB l a:=by unfold jN;simp only[aE c]
  simp only[go_sem,O];refine fin _ _ ?_ rfl ?_
  ·unfold eQ;exact Lq
  ·rw[he];exact A
def aSD(l:List Nat)(v:PV)(o fK a:Nat)(r:PV)(H:PH):Prop:=r=.agg (xY l fK a).1.cells∧H=PH.nil.set o (bU v (xY l fK a).2)
theorem aPV{l:List (List RF)}(h:Z' l≤1000):roomFor (CV l).length 1 24:=by
 unfold roomFor;simp only[bfY,maxLen];omega
theorem aPW(l:List (List RF))(x:List RF):CV l++[[frs x]]=CV (l++[x]):=by simp[CV]
theorem aIC{C:Ctx}(Lb:AL C){l:List Nat}{v:PV}(T:Tp l v)(o o4 o6 n left i a:Nat)(ha:a≤Z' l)(hn:n≤100)(hi:i<n)(s:MU)(hs:Z' s.beP=i)(y N I:PV)(B:List BX)(K:cQ)(F:PF)(H:PH)
  (J:(eQ o o4 o6 n left i).le F) (hH:aO H (yO o o4 o6 v y N I a++B) (DK s y N I))
  (hK:∀E A W H' B',(eQ o o4 o6 n left i).le W→(∃q,A=.osl q 3 0 n)→aO H' (yO o o4 o6 v y E I (fQ l i a n).2++B') [(y,3,lH s.start),(E,1,CV s.beP++[[A]]),(I,3,lH s.exit),(A,3,lH (fQ l i a n).1)]→K .normal W H') :
  aC.wp C (.seq (.region tz) (.seq (.seq (.region t6) (.block 2 (.loop UH))) (.region ud))) K F H:=by
 have f0:F 0=some (.ptr o 2 0 0):=J 0 _ (by unfold eQ;simp only[go_sem]);have f4:F 4=some (.ptr o4 4 0 0):=J 4 _ (by unfold eQ;simp only[go_sem]);have f5:F 5=some (.int .i64 n):=J 5 _ (by unfold eQ;simp only[go_sem]);have f6:F 6=some (.ptr o6 4 0 0):=J 6 _ (by unfold eQ;simp only[go_sem]);have f7:F 7=some (.int .i64 left):=J 7 _ (by unfold eQ;simp only[go_sem]);have f8:F 8=some (.int .i64 i):=J 8 _ (by unfold eQ;simp only[go_sem]);simp only[go_sem,tz,t6];refine aVB (C:=C) Lb T o o4 o6 n left i a ha hn hi ([(o4,aaT),(o6,s8 y N I)]++B) (DK s y N I) _ _ H ?_ hH ?_
 ·unfold kG
  (repeat' (first|exact c_|refine d_ ?_ ?_))<;>first|(simp only[go_sem,f0,f4,f5,f6,f7,f8]<;>rfl)|rfl
 intro w u H1 e x;have j:=wn l i a n;have hw:∃q,w=.osl q 3 0 n:=by
  rcases x.own (v:=w) 3 rfl with⟨M,_⟩|⟨q,rs,M,_⟩
  ·have:=congrArg List.length M;rw[sO,j]at this;simp at this;omega
  ·rw[sO,j]at M;exact⟨q,M⟩
 obtain⟨q,rfl⟩:=hw;have g0:u 0=some (.ptr o 2 0 0):=e 0 _ (by unfold kG;simp only[go_sem]);have g4:u 4=some (.ptr o4 4 0 0):=e 4 _ (by unfold kG;simp only[go_sem]);have g5:u 5=some (.int .i64 n):=e 5 _ (by unfold kG;simp only[go_sem]);have X:u 6=some (.ptr o6 4 0 0):=e 6 _ (by unfold kG;simp only[go_sem]);have g7:u 7=some (.int .i64 left):=e 7 _ (by unfold kG;simp only[go_sem]);have g8:u 8=some (.int .i64 i):=e 8 _ (by unfold kG;simp only[go_sem]);have R:u 13=some (.osl q 3 0 n):=e 13 _ (by unfold kG;simp only[go_sem]);have b6:=x.at 2 rfl;have S:(1:Nat)*1≤16777216:=by decide
 simp only[go_sem,ud,X,b6,R,S,bgN,bgZ,or_false,forall_eq];refine x.append 1 (src:=[[.osl q 3 0 n]]) rfl Sq (aPV Om) λE H2 Y V=>?_;obtain⟨q2,rfl⟩:=V aY;have O:=Y.at 2 rfl;simp only[go_sem,O,bgN,bgZ,or_false,forall_eq];have Z:=Y.set 2 rfl (s8 y (.osl q2 1 0 (CV s.beP++[[PV.osl q 3 0 n]]).length) I);have U:(CV s.beP++[[(PV.osl q 3 0 n:PV)]]).length=Z' s.beP+1:=by simp
 rw[U]at Z ⊢;refine hK (.osl q2 1 0 (Z' s.beP+1)) (.osl q 3 0 n) _ _ B ?_ ⟨q,rfl⟩ Z;unfold eQ
 (repeat' (first|exact c_|refine d_ ?_ ?_))<;>first|(simp only[go_sem,g0,g4,g5,X,g7,g8]<;>rfl)|rfl
theorem a1X{C:Ctx}(K:AL C){l:List Nat}{v:PV}(T:Tp l v)(o fK a:Nat)(hm:0<fK)(ε:fK≤50)(ha:a≤Z' l):ca.wp C (aW aVA.res (aSD l v o fK a)) (PF.args [.ptr o 2 0 0,.int .i64 fK]) (PH.nil.set o (bU v a)):=by
 have h0:aO (PH.nil.set o (bU v a)) [(o,bU v a)] []:=aO.nil.new (H:=PH.nil) rfl (bU v a);simp only[go_sem,ca,awS,aVA];refine aQ λo4 γ=>?_;have J:=h0.new γ aaT;simp only[go_sem,awT];refine eY K.toKL T (o:=o) (n:=fK) (a:=a) Om ha Sq (J.at 0 rfl) ?_;have h2:=J.set 0 rfl (bU v (aJ l fK a).2);have hN:=dT l hm a;have Z:=cG l fK ha;have e1:IntKind.i64.wrap (1+((aJ l fK a).1:Int))=((1+(aJ l fK a).1:Nat):Int):=by rw[wrap_i64 Om Om];omega
 have β:∀s:MU,s=kS l (1+(aJ l fK a).1) (aJ l fK a).2 (1+(aJ l fK a).1)→xY l fK a=(⟨[],s.start,s.beP,s.exit⟩,s.a):=λs hs=>by rw[hs];rfl
 have Y:∀r H,aSD l v o fK a r H↔r=.agg (xY l fK a).1.cells∧H=PH.nil.set o (bU v (xY l fK a).2):=λ_ _=>Iff.rfl;generalize hn:1+(aJ l fK a).1=n at *
 generalize hb:(aJ l fK a).2=b at *
 have ζ:0<n:=Om;have e:n≤100:=Om;simp only[go_sem,e1,awU];refine aQ λo6 δ=>?_;have h3:=((h2.new δ aaT).oV 3).oV 1;have h4:=h3.oV 3;simp only[go_sem,awV,awW];refine wp_loop (α:=Nat × PV × PV × PV × PH) (λt=>eQ o o4 o6 n (kS l n b t.1).left t.1) (λt=>t.2.2.2.2)
  (λt=>t.1≤n∧aO t.2.2.2.2 (yO o o4 o6 v t.2.1 t.2.2.1 t.2.2.2.1 (kS l n b t.1).a) (DK (kS l n b t.1) t.2.1 t.2.2.1 t.2.2.2.1)) (λt=>n-t.1) (0,.aH,.aH,.aH,_) ⟨bgE _,h4⟩ ?_ b_ ?_
 ·unfold eQ
  (repeat' (first|exact c_|refine d_ ?_ ?_))<;>first|(simp only[go_sem,kS]<;>rfl)|rfl
 rintro⟨i,w1,M,N,H0⟩ ⟨hi,F⟩;simp only at hi F ⊢;obtain⟨k1,k2,k3,k4,k5⟩:=Hg l n Z i;simp only[go_sem,acY,awX,eQ];by_cases hlt:i<n
 ·have B:(i:Int)<(n:Nat):=Om;have E:kS l n b (i+1)=⟨(kS l n b i).start++[mkT ((fO l n i (kS l n b i)).1:Nat) 8],(kS l n b i).exit++[(jN l n i (fO l n i (kS l n b i)).2).1],(kS l n b i).beP++[(fQ l i (jN l n i (fO l n i (kS l n b i)).2).2 n).1],(kS l n b i).left-(fO l n i (kS l n b i)).1,(fQ l i (jN l n i (fO l n i (kS l n b i)).2).2 n).2⟩:=rfl;have kl:=ta l n i (kS l n b i) k1;have ke:=Wf l n i kl.1;generalize hs:kS l n b i=s at *
  simp only[go_sem,B];refine aNL (C:=C) K T o o4 o6 n i s k1 k2 e hlt [(o4,aaT),(o6,s8 w1 M N)] (DK s w1 M N) _ _ _ H0 (by unfold eQ;exact Lq) F ?_;intro F1 H1 O f9 U;refine aID (C:=C) (l:=l) K o o4 o6 n i _ (fO l n i s).1 (fO l n i s).2 Om hlt e s k3 w1 M N [] _ _ F1 H1 O f9 U ?_;intro j F2 H2 B2 R V;refine aNK (C:=C) K T o o4 o6 n i _ (fO l n i s).2 kl.1 hlt e { s with start:=s.start++[mkT ((fO l n i s).1:Nat) 8] } k4 j M N B2 _ _ F2 H2 R V ?_;intro u F3 H3 B3 S W;refine aIC (C:=C) K T o o4 o6 n _ i (jN l n i (fO l n i s).2).2 ke e hlt { s with start:=s.start++[mkT ((fO l n i s).1:Nat) 8],exit:=s.exit++[(jN l n i (fO l n i s).2).1] } k5 j M u B3 _ F3 H3 S W ?_;rintro A η I H4 B4 y ⟨q,rfl⟩ X;have g0:I 0=some (.ptr o 2 0 0):=y 0 _ (by unfold eQ;simp only[go_sem]);have g4:I 4=some (.ptr o4 4 0 0):=y 4 _ (by unfold eQ;simp only[go_sem]);have g5:I 5=some (.int .i64 n):=y 5 _ (by unfold eQ;simp only[go_sem]);have g6:I 6=some (.ptr o6 4 0 0):=y 6 _ (by unfold eQ;simp only[go_sem]);have g7:I 7=some (.int .i64 (s.left-(fO l n i s).1:Nat)):=y 7 _ (by unfold eQ;simp only[go_sem]);have g8:I 8=some (.int .i64 i):=y 8 _ (by unfold eQ;simp only[go_sem]);obtain⟨rs,z1,z2,z3,z4,z5⟩:=X.frz 3 rfl;have y1:=z4 0 _ aV rfl;have y2:=z4 1 _ aV rfl;have y3:=z4 2 _ aV rfl;simp only at y1 y2 y3;have y4:=T.frz q 3 rs;simp only[go_sem,adC,g8,wZz i];refine br (i+1,j,A,u,H4.frz q 3 rs) z1 ⟨hlt,?_⟩ (by simp only;omega) ?_ b_
  ·rw[E];have eB:(yO o o4 o6 v j A u (fQ l i (jN l n i (fO l n i s).2).2 n).2).map (λb=>(b.1,b.2.frz q 3 rs))=yO o o4 o6 v j A u (fQ l i (jN l n i (fO l n i s).2).2 n).2:=by simp only[bhJ,biS,cI.frz,y1,y2,y3,y4];rfl
   have eL:([(j,3,lH (s.start++[mkT ((fO l n i s).1:Nat) 8])),(A,1,CV s.beP++[[.osl q 3 0 n]]),(u,3,lH (s.exit++[(jN l n i (fO l n i s).2).1]))]:List LI).map (λx=>(x.1,x.2.1,x.2.2.map λr=>r.map (PV.dM q 3 rs))) =
     DK ⟨s.start++[mkT ((fO l n i s).1:Nat) 8],s.exit++[(jN l n i (fO l n i s).2).1],s.beP++[(fQ l i (jN l n i (fO l n i s).2).2 n).1],s.left-(fO l n i s).1,(fQ l i (jN l n i (fO l n i s).2).2 n).2⟩ j A u:=by
    have e2:(CV s.beP++[[PV.osl q 3 0 n]]).map (λr=>r.map (PV.dM q 3 rs))=CV (s.beP++[(fQ l i (jN l n i (fO l n i s).2).2 n).1]):=by rw[bhM,Pj,bhJ,biS,bhJ,biS,z2,aPW]
    show([(j,3,(lH (s.start++[mkT ((fO l n i s).1:Nat) 8])).map (λr=>r.map (PV.dM q 3 rs))),(A,1,(CV s.beP++[[PV.osl q 3 0 n]]).map (λr=>r.map (PV.dM q 3 rs))),(u,3,(lH (s.exit++[(jN l n i (fO l n i s).2).1])).map (λr=>r.map (PV.dM q 3 rs)))]:List LI)=_;rw[SP,e2,SP]
   rw[←eB,←eL];exact z5.sub (by rw[bhM];exact bkD ..) (biK.refl _)
  ·rw[E]
   (repeat' (first|exact c_|refine d_ ?_ ?_))<;>first|(simp only[go_sem,g0,g4,g5,g6,g7,g8]<;>rfl)|rfl
 ·have B:¬(i:Int)<(n:Nat):=Om;have:i=n:=Om;subst this;simp only[go_sem,B,adD];have b4:=F.at 1 rfl;have b6:=F.at 2 rfl;have osl:∀{w:PV}{z:Nat}{rows:List (List PV)},Z' rows=i→bH H0 z w rows→∃q,w=.osl q z 0 i:=by
   intro w z rows hr hO;rcases hO with⟨J,_⟩|⟨q,rs,J,_⟩
   ·rw[J]at hr;simp at hr;omega
   ·exact⟨q,by rw[J,hr]⟩
  obtain⟨q1,rfl⟩:=osl (by rw[sO,k3]) (F.own 0 rfl);obtain⟨q2,rfl⟩:=osl (by rw[bfY,k5]) (F.own 1 rfl);obtain⟨q3,rfl⟩:=osl (by rw[sO,k4]) (F.own 2 rfl);have hR:=β (kS l i b i) rfl;simp only[go_sem,b6,b4,bgN,bgZ,or_false,forall_eq,forall_eq_or_imp];have x1:=F.set 1 rfl (s8 (.osl q1 3 0 i) (.osl q2 1 0 i) (.osl q3 3 0 i));obtain⟨r1,s1,s2,s3,s4,s5⟩:=x1.frz 0 rfl;have u2:=s4 1 _ aV rfl;have u3:=s4 2 _ aV rfl;simp only at u2 u3;have u4:=T.frz q1 3 r1;obtain⟨r2,t1,t2,t3,t4,t5⟩:=s5.frz 0 rfl;have m3:=t4 1 _ aV rfl;simp only at m3;have m4:=T.frz q2 1 r2;obtain⟨r3,n1,n2,n3,n4,n5⟩:=t5.frz 0 rfl;have n4:=T.frz q3 3 r3;refine pU (vs:=[.agg [.str [],.osl q1 3 0 i,.osl q2 1 0 i,.osl q3 3 0 i]]) (.inr rfl) ?_ (.step s1 (.step t1 (.step n1 (.done (H2:=PH.nil.set o (bU v (kS l i b i).a)) ?_ (e_ a_ ?_)))))
  ·simp only[go_sem]
  ·rw[Y,hR];refine⟨?_,rfl⟩;simp only[cF,PV.frz,PV.wE,bhJ,biS,s2,u2,u3,t2,m3,n2];simp only[PV.dM,SP _ _ _ _,Pj _ _ _ _]
  ·have:=n5.at 0 rfl;rw[this];simp only[cI.frz,bhJ,biS,u4,m4,n4];rfl
structure tM(C:Ctx):Prop extends AL C where
 law:∀(l:List Nat)(v:PV),Tp l v→∀(o fK a:Nat),0<fK→fK≤50→a≤Z' l→aI C 2 [.ptr o 2 0 0,.int .i64 fK] (PH.nil.set o (bU v a)) (aSD l v o fK a)
structure GOk(l:List Nat)(beK:Nat)(s:GS):Prop where
 beU:Z' s.beU≤35
 bfE:Z' s.bfE≤beK
 a:s.a≤Z' l
theorem sa{l:List Nat}{mc beK dom:Nat}{s:GS}(h:GOk l beK s):∀i,GOk l beK (oY l mc beK dom s i)∧(oY l mc beK dom s i).beU=s.beU
 |0=>⟨h,rfl⟩
 |i+1=>by
  obtain⟨⟨e,w,j⟩,u⟩:=sa (mc:=mc) (dom:=dom) h i;simp only[oY];split
  ·exact⟨⟨e,by simp only[bgB,bgI];omega,cG l mc j⟩,u⟩
  ·exact⟨⟨e,w,j⟩,u⟩
theorem arW{l:List Nat}{level dom beK:Nat}{s:GS}(h:GOk l beK s)(e:xB beK s=false):GOk l beK (tQ l level dom s)∧∃x:dQ,(tQ l level dom s).beU=s.beU++[x]∧x.level=(level:Int)∧x.parent=(dom:Int):=by
 obtain⟨w,j,u⟩:=h;unfold xB at e;rw[Bool.or_eq_false_iff]at e;have y:=of_decide_eq_false e.2;refine⟨⟨?_,j,?_⟩,_,rfl,rfl,rfl⟩
 ·simp only[tQ,bgB,bgI];omega
 ·have a1:=cG l 3 (cG l 16 u);simp only[tQ];split
  ·exact cG l 6 a1
  ·exact a1
theorem sb{l:List Nat}{level beK dom:Nat}{rec:Nat→GS→GS}(e:∀d t,GOk l beK t→GOk l beK (rec d t)∧∃u,(rec d t).beU=t.beU++u){s:GS}(h:GOk l beK s) :
  ∀i,GOk l beK (lM l level beK dom rec s i)∧∃u,(lM l level beK dom rec s i).beU=s.beU++u
 |0=>⟨h,[],by simp[lM]⟩
 |i+1=>by
  obtain⟨j,u,w⟩:=sb e h i;simp only[lM];split
  ·exact⟨j,u,w⟩
  ·rename_i y;obtain⟨g1,x,g2,-⟩:=arW (level:=level) (dom:=dom) j (by simpa using y);obtain⟨k1,A,k2⟩:=e ((tQ l level dom (lM l level beK dom rec s i)).beU.length-1) _ g1;exact⟨k1,u++[x]++A,by rw[k2,g2,w];simp⟩
theorem TB{l:List Nat}{mc beK:Nat}:∀(k dom:Nat){s:GS},GOk l beK s→GOk l beK (jF l mc beK k dom s)∧∃u,(jF l mc beK k dom s).beU=s.beU++u
 |0,dom,s,h=>by have e:GOk l beK { s with a:=(aJ l 2 s.a).2 }:=⟨h.beU,h.bfE,cG l 2 h.a⟩;obtain⟨j,w⟩:=sa (mc:=mc) (dom:=dom) e (1+(aJ l 2 s.a).1);exact⟨j,[],by simp only[jF];rw[w];simp⟩
 |k+1,dom,s,h=>by have e:GOk l beK { s with a:=(aJ l 2 s.a).2 }:=⟨h.beU,h.bfE,cG l 2 h.a⟩;exact sb (level:=4-k) (dom:=dom) (λd t x=>TB k d x) e (if 4-k=2 then 1 else 1+(aJ l 2 s.a).1)
theorem aHG {l : List Nat} {level beK dom : Nat} {rec : Nat → GS → GS} {s : GS} {i : Nat} (h : xB beK (lM l level beK dom rec s i) = true) : ∀ n, i ≤ n → lM l level beK dom rec s n = lM l level beK dom rec s i := by
  intro n hn
  induction n with
  | zero => have : i = 0 := Om
            subst this; rfl
  | succ n ih =>
    rcases bgV n i with h' | h'
    · have : i = n + 1 := Om
      subst this; rfl
    · have e := ih h'
      simp only [lM];rw [e, aL h]
def mkS(l:List Nat)(v:PV):Spec:=λname vs=>match name,vs with
 |29,[.str s,.int _ i]=>some ([],λ_=>aK (.str (s++dH i.toNat)))
 |47,[.int _ n]=>some ([],λ_=>aK (.agg (mkT n 1).cells))
 |4,[.ptr o _ _ _,.int _ n]=>some ([o],λH0 r H'=>∀a,H0 o=some (bU v a)→yd l v o n.toNat a r H')
 |_,_=>none
section
variable {C:Ctx} {F:PF} {H Hs:PH} {l:List Nat} {v:PV} {o a:Nat}
theorem yX(u:KL C)(T:Tp l v){n:Nat}{st:Bool}{args:List aS}{d:Option Nat}{K:PF→PH→Prop}(B:n≤1000000)(w:a≤Z' l)(e:aS.evs F args=some [.ptr o 2 0 0,.int .i64 n])(E:H o=some (bU v a))
  (j:Hs.le (H.set o (bU v (aJ l n a).2))) (A:K (F.put d (.int .i64 ((aJ l n a).1:Nat))) (H.set o (bU v (aJ l n a).2))):dOp C Hs (mkS l v) st (.call 4 args) d K F H:=by
 refine aSU (x:=bU v a) (y:=bU v (aJ l n a).2) (r:=.int .i64 ((aJ l n a).1:Nat)) (R:=λH0 r H'=>∀a,H0 o=some (bU v a)→yd l v o n a r H') rfl E (u.next l v T o n a B w) ?_ ?_ e j A
 ·intro b hb;rw[cB]at hb;injection hb with hb
  injection hb with _ hb
  injection hb with hb _
  injection hb with _ hb
  injection hb with hb _
  injection hb with _ hb
  have:a=b:=Om;subst this;exact⟨rfl,rfl⟩
 ·intro J H' I;exact I a (by rw[cB])
theorem RY(u:AL C){s:List UInt8}{n:Nat}{st:Bool}{args:List aS}{d:Option Nat}{K:PF→PH→Prop}(y:Z' s≤100)(x:n<100)(e:aS.evs F args=some [.str s,.int .i64 n])(j:Hs.le H)(w:K (F.put d (.str (s++dH n))) H) :
  dOp C Hs (mkS l v) st (.call 29 args) d K F H:=
 cO (v:=.str (s++dH n)) rfl (u.name s n y x) e j w
theorem a0D(u:KL C){n:Int}{st:Bool}{args:List aS}{d:Option Nat}{K:PF→PH→Prop}(x:eX n)(e:aS.evs F args=some [.int .i64 n])(j:Hs.le H)(w:K (F.put d (.agg (mkT n 1).cells)) H) :
  dOp C Hs (mkS l v) st (.call 47 args) d K F H:=
 cO (v:=.agg (mkT n 1).cells) rfl (u.int n x) e j w
end
theorem bH.AW{H:PH}{s:Nat}{v:PV}{rows:List (List PV)}(h:bH H s v rows):PV.AW v=some (.int .i64 (Z' rows:Nat)):=by
 rcases h with⟨rfl,rfl⟩|⟨q,rs,rfl,_⟩<;>rfl
abbrev pK(l:List dQ):List (List PV):=l.map dQ.cells
abbrev sN(l:List fC):List (List PV):=l.map fC.cells
abbrev flB(ext wl j e l wp wv:PV):cI:=.rows 7 [[ext,wl,j,e,l,wp,wv]]
structure GE where
 o:Nat
 fo:Nat
 qm:Nat
 ext:PV
 wl:PV
 wp:PV
 wv:PV
abbrev GE.boxes(G:GE)(v:PV)(mc:Nat)(e j:PV)(a:Nat):List BX:=[(G.o,bU v a),(G.fo,flB G.ext G.wl (.osl G.qm 4 0 mc) e j G.wp G.wv)]
abbrev sA(s:GS)(e j:PV):List LI:=[(e,7,pK s.beU),(j,3,sN s.bfE)]
def jO(G:GE)(dom beK level n i:Nat):PF:=(((((((PF.nil.set 0 (.ptr G.o 2 0 0)).set 1 (.ptr G.fo 7 0 0)).set 2 (.int .i64 dom)).set 3 (.int .i64 beK)).set 8 (.int .i64 level)).set 9 (.int .i64 n)).set 10 (.int .i64 i))
theorem bH.one{H:PH}{s:Nat}{v:PV}{rows:List (List PV)}(h:bH H s v rows)(e:0<Z' rows):∃q,v=.osl q s 0 rows.length:=by
 rcases h with⟨rfl,_⟩|⟨q,rs,rfl,_⟩
 ·simp at e
 ·exact⟨q,rfl⟩
theorem acJ{C:Ctx}(S:tM C){l:List Nat}{v:PV}(T:Tp l v)(G:GE)(mc beK dom n:Nat)(γ:0<mc)(Z:mc≤1000)(β:beK≤60)(hn:n≤10)(s:GS)(hs:GOk l beK s)(w y:PV)(K:cQ)(F:PF)(H:PH)
  (hF:(jO G dom beK 5 n 0).le F) (x:aO H (G.boxes v mc w y s.a) (sA s w y))
  (hK:∀J B F' H',aO H' (G.boxes v mc J B (oY l mc beK dom s n).a) (sA (oY l mc beK dom s n) J B)→K (.exit 0) F' H') :
  aC.wp C (.loop EJ) K F H:=by
 refine wp_loop (α:=Nat × PV × PV × PH) (λt=>jO G dom beK 5 n t.1) (λt=>t.2.2.2) (λt=>t.1≤n∧aO t.2.2.2 (G.boxes v mc t.2.1 t.2.2.1 (oY l mc beK dom s t.1).a) (sA (oY l mc beK dom s t.1) t.2.1 t.2.2.1)) (λt=>n-t.1) (0,w,y,H) ⟨bgE _,x⟩ hF b_ ?_;rintro⟨i,w,y,H0⟩ ⟨hi,x⟩;simp only at hi x ⊢;obtain⟨O,-⟩:=sa (mc:=mc) (dom:=dom) hs i;have j:oY l mc beK dom s (i+1)=(if(oY l mc beK dom s i).bfE.length<beK then{ oY l mc beK dom s i with bfE:=(oY l mc beK dom s i).bfE++[⟨[100]++dH (oY l mc beK dom s i).bfE.length,((aJ l mc (oY l mc beK dom s i).a).1:Nat),(dom:Nat)⟩],a:=(aJ l mc (oY l mc beK dom s i).a).2 }else oY l mc beK dom s i):=rfl;simp only[go_sem,EJ,tk,jO];by_cases hlt:i<n
 ·have u:(i:Int)<(n:Nat):=Om;generalize hg:oY l mc beK dom s i=g at *
  have M:=x.at 1 rfl;have R:=(x.own 1 rfl).AW;rw[bfY]at R;have V:=wZz i;simp only[go_sem,u,tp,show(((5:Nat):Int)==5)=true from rfl,acP,M,R];by_cases Y:Z' g.bfE<beK
  ·have A:(Z' g.bfE:Int)<(beK:Nat):=Om;rw[aL Y]at j;simp only[go_sem,A];have I:(PH.nil.set G.fo (flB G.ext G.wl (.osl G.qm 4 0 mc) w y G.wp G.wv)).le H0:=e_ a_ M;refine bA (PH.nil.set G.fo (flB G.ext G.wl (.osl G.qm 4 0 mc) w y G.wp G.wv)) (mkS l v) I ?_;simp only[go_sem,acQ,M,R];refine RY S.toAL (s:=[100]) (n:=Z' g.bfE) aV (by have:=O.bfE;omega) rfl I ?_;simp only[go_sem];have ho:=x.at 0 rfl;have W:=x.set 0 rfl (bU v (aJ l mc g.a).2);have N:=W.at 1 rfl;refine yX S.toKL T (o:=G.o) (n:=mc) (a:=g.a) Om O.a rfl ho (e_ a_ N) ?_;have E:(1:Nat)*3≤16777216:=by decide
   simp only[go_sem,E,bgN,bgZ,or_false,forall_eq,forall_eq_or_imp];refine W.append 1 (src:=[(⟨[100]++dH g.bfE.length,((aJ l mc g.a).1:Nat),(dom:Nat)⟩:fC).cells]) rfl rfl (by unfold roomFor;rw[bfY];have:=O.bfE;simp only[bgI,maxLen];omega) λB H2 X hw=>?_;obtain⟨q,rfl⟩:=hw aY;have U:=X.at 1 rfl;refine⟨e_ a_ U,?_⟩;refine bA .nil cK a_ ?_;simp only[go_sem,acR,U,bgN,bgZ,or_false,forall_eq];have h3:=X.set 1 rfl (flB G.ext G.wl (.osl G.qm 4 0 mc) w (.osl q 3 0 (sN g.bfE++[(⟨[100]++dH g.bfE.length,((aJ l mc g.a).1:Nat),(dom:Nat)⟩:fC).cells]).length) G.wp G.wv);refine⟨a_,?_⟩;simp only[go_sem,EK,V];refine aG (i+1,w,.osl q 3 0 (sN g.bfE++[(⟨[100]++dH g.bfE.length,((aJ l mc g.a).1:Nat),(dom:Nat)⟩:fC).cells]).length,_) ⟨hlt,?_⟩ (by simp only;omega) ?_ b_
   ·rw[j];have e:sN (g.bfE++[(⟨[100]++dH g.bfE.length,((aJ l mc g.a).1:Nat),(dom:Nat)⟩:fC)])=sN g.bfE++[(⟨[100]++dH g.bfE.length,((aJ l mc g.a).1:Nat),(dom:Nat)⟩:fC).cells]:=by simp[sN]
    unfold sA;simp only;rw[e];exact h3
   ·exact Lq
  ·have A:¬(Z' g.bfE:Int)<(beK:Nat):=Om;rw[aE Y]at j;simp only[go_sem,A,EK,V];refine aG (i+1,w,y,H0) ⟨hlt,by rw[j];exact x⟩ (by simp only;omega) ?_ b_;exact Lq
 ·have u:¬(i:Int)<(n:Nat):=Om;have:i=n:=Om;subst this;simp only[go_sem,u];exact hK w y _ _ x
def aFL(G:GE)(v:PV)(mc:Nat)(s':GS)(r:PV)(B':List BX)(L':List LI):Prop:=r=.tup []∧∃e j,B'=G.boxes v mc e j s'.a∧L'=sA s' e j
def yc(C:Ctx)(l:List Nat)(v:PV)(mc beK k:Nat):Prop:=
 ∀(G:GE)(e j:PV)(s:GS)(dom:Nat)(x:dQ),GOk l beK s→s.beU[dom]?=some x→x.level=4-(k:Int)→∀H0,aO H0 (G.boxes v mc e j s.a) (sA s e j) →
  aI C 7 [.ptr G.o 2 0 0,.ptr G.fo 7 0 0,.int .i64 dom,.int .i64 beK] H0 (λr H'=>∃B' L',aFL G v mc (jF l mc beK k dom s) r B' L'∧aO H' B' L')
theorem aNF{e:Nat}(h:e≤4):([45,115,114,107,109]:List UInt8)[e]?=some (rJ e):=by
 match e,h with
 |0,_=>rfl
 |1,_=>rfl
 |2,_=>rfl
 |3,_=>rfl
 |4,_=>rfl
theorem l9{C:Ctx}{l:List Nat}{v:PV}(G:GE)(mc beK dom A n i k p:Nat)(γ:A=4-k)(hk:k<4)(y:yc C l v mc beK k)(g:GS)(x:dQ)(a:Nat)(W:GOk l beK { g with beU:=g.beU++[x],a:=a })(hx:x.level=(A:Nat))(X w:PV)(β:beK≤60)(K:cQ)(F:PF)(H:PH)
  (j:(jO G dom beK A n i).le F) (f11:F 11=some (.ptr p 7 0 0)) (J:aO H (G.boxes v mc X w a++[(p,.rows 7 [x.cells])]) (sA g X w))
  (hK:∀u B U H',(jO G dom beK A n i).le U→aO H' (G.boxes v mc u B (jF l mc beK k g.beU.length { g with beU:=g.beU++[x],a:=a }).a) (sA (jF l mc beK k g.beU.length { g with beU:=g.beU++[x],a:=a }) u B)→K .normal U H') :
  aC.wp C (.draw b8) (kJ C (aC.wp C (.region b9)) K) F H:=by
 have f0:F 0=some (.ptr G.o 2 0 0):=j 0 _ (by unfold jO;simp only[go_sem]);have f1:F 1=some (.ptr G.fo 7 0 0):=j 1 _ (by unfold jO;simp only[go_sem]);have f2:F 2=some (.int .i64 dom):=j 2 _ (by unfold jO;simp only[go_sem]);have f3:F 3=some (.int .i64 beK):=j 3 _ (by unfold jO;simp only[go_sem]);have f8:F 8=some (.int .i64 A):=j 8 _ (by unfold jO;simp only[go_sem]);have f9:F 9=some (.int .i64 n):=j 9 _ (by unfold jO;simp only[go_sem]);have α:F 10=some (.int .i64 i):=j 10 _ (by unfold jO;simp only[go_sem]);have O:=W.beU;simp only[bgB,bgI]at O;have Y:=J.at 1 rfl;have Z:=J.at 2 rfl;have E:(1:Nat)*7≤16777216:=by decide
 refine bA .nil cK a_ ?_;simp only[go_sem,b8,f1,f11,Y,Z,E,bgN,bgZ,or_false,forall_eq,forall_eq_or_imp];refine J.append 0 (src:=[x.cells]) rfl rfl (by unfold roomFor;rw[bfY];simp only[bgI,maxLen];omega) λu H2 I hw=>?_;obtain⟨q,rfl⟩:=hw aY;have hl:(pK g.beU++[x.cells]).length=Z' g.beU+1:=by simp
 rw[hl]at I ⊢;have c1:=I.at 1 rfl;refine⟨a_,?_⟩;simp only[go_sem,c1,bgN,bgZ,or_false,forall_eq];have V:=I.set 1 rfl (flB G.ext G.wl (.osl G.qm 4 0 mc) (.osl q 7 0 (Z' g.beU+1)) w G.wp G.wv);have c2:=V.at 1 rfl;refine⟨a_,?_⟩;have e:pK (g.beU++[x])=pK g.beU++[x.cells]:=by simp[pK]
 have ew:IntKind.i64.wrap (((Z' g.beU+1:Nat):Int)-1)=(Z' g.beU:Int):=by rw[wrap_i64 Om Om];omega
 simp only[go_sem,b9,f0,f1,f3,ew];have h4:aO (H2.set G.fo (flB G.ext G.wl (.osl G.qm 4 0 mc) (.osl q 7 0 (Z' g.beU+1)) w G.wp G.wv)) (G.boxes v mc (.osl q 7 0 (Z' g.beU+1)) w a++[(p,.rows 7 [x.cells])]) (sA { g with beU:=g.beU++[x],a:=a } (.osl q 7 0 (Z' g.beU+1)) w++[]):=by unfold sA;simp only;rw[e];exact V
 refine PY h4 (λH0 N=>y G _ w { g with beU:=g.beU++[x],a:=a } g.beU.length x W aY (by rw[hx];omega) H0 N) rfl ?_;rintro r B' L' H' ⟨rfl,R,S,rfl,rfl⟩ M;refine hK R S _ _ ?_ (M.sub (bkD ..) (by rw[bhH];exact biK.refl _));unfold jO;exact Lq
theorem YY{C:Ctx}(V:tM C){l:List Nat}{v:PV}(T:Tp l v)(G:GE)(mc beK dom n k:Nat)(hk:k<4)(X:beK≤60)(hn:n≤10)(R:yc C l v mc beK k)(s:GS)(hs:GOk l beK s)(ζ:0<Z' s.beU)(N O:PV)(K:cQ)(F:PF)(H:PH)
  (hF:(jO G dom beK (4-k) n 0).le F) (E:aO H (G.boxes v mc N O s.a) (sA s N O))
  (hK:∀e A B y H',(e=.exit 0∨e=.ret)→aO H' (G.boxes v mc A B (lM l (4-k) beK dom (jF l mc beK k) s n).a) (sA (lM l (4-k) beK dom (jF l mc beK k) s n) A B)→K e y H') :
  aC.wp C (.loop EJ) K F H:=by
 obtain⟨j,U⟩:∃j,j=4-k:=⟨_,rfl⟩;rw[←U]at hF hK;refine wp_loop (α:=Nat × PV × PV × PH) (λt=>jO G dom beK j n t.1) (λt=>t.2.2.2) (λt=>t.1≤n∧aO t.2.2.2 (G.boxes v mc t.2.1 t.2.2.1 (lM l j beK dom (jF l mc beK k) s t.1).a) (sA (lM l j beK dom (jF l mc beK k) s t.1) t.2.1 t.2.2.1)) (λt=>n-t.1) (0,N,O,H) ⟨bgE _,E⟩ hF b_ ?_;rintro⟨i,N,O,H0⟩ ⟨hi,E⟩;simp only at hi E ⊢;obtain⟨Z,u,gu⟩:=sb (level:=j) (dom:=dom) (λd t ht=>TB (mc:=mc) k d ht) hs i;have J:=λh=>aHG (l:=l) (level:=j) (beK:=beK) (dom:=dom) (rec:=jF l mc beK k) (s:=s) (i:=i) h n hi;have x:lM l j beK dom (jF l mc beK k) s (i+1)=(if xB beK (lM l j beK dom (jF l mc beK k) s i)then lM l j beK dom (jF l mc beK k) s i else jF l mc beK k ((tQ l j dom (lM l j beK dom (jF l mc beK k) s i)).beU.length-1) (tQ l j dom (lM l j beK dom (jF l mc beK k) s i))):=rfl;simp only[go_sem,EJ,tk,jO];by_cases hlt:i<n
 ·have M:(i:Int)<(n:Nat):=Om;generalize hg:lM l j beK dom (jF l mc beK k) s i=g at *
  have ε:0<Z' g.beU:=by rw[gu,bgB];omega
  have b1:=E.at 1 rfl;have lr:=(E.own 1 rfl).AW;have ld:=(E.own 0 rfl).AW;rw[bfY]at lr ld;have ei:=wZz i;simp only[go_sem,M,tp,bD (Om:((j:Nat):Int)≠5),Ls,b1,lr];by_cases c1:beK≤Z' g.bfE
  ·have W:xB beK g=true:=by unfold xB;simp[c1]
   simp only[go_sem,show(Z' g.bfE:Int)≥(beK:Nat) by omega];exact hK _ N O _ _ (.inr rfl) (by rw[J W];exact E)
  simp only[go_sem,show ¬(Z' g.bfE:Int)≥(beK:Nat) by omega,b1,ld];by_cases c2:35≤Z' g.beU
  ·have W:xB beK g=true:=by unfold xB;simp[c2]
   simp only[go_sem,show(Z' g.beU:Int)≥35 by omega];exact hK _ N O _ _ (.inr rfl) (by rw[J W];exact E)
  have W:xB beK g=false:=by unfold xB;simp[c1,c2]
  rw[aE (by rw[W];decide)]at x;simp only[go_sem,show ¬(Z' g.beU:Int)≥35 by omega];have ls:=aNF (Om:j≤4);refine bA .nil (mkS l v) a_ ?_;have γ:wA [[PV.int IntKind.u8 (((rJ j).toNat:Nat):Int)]]=some [rJ j]:=by simp[wA]
  obtain⟨Y,x0,β,-⟩:=arW (level:=j) (dom:=dom) Z W;have δ:(tQ l j dom g).beU.length-1=Z' g.beU:=by rw[β];simp
  rw[δ]at x;have h1:=E.set 0 rfl (bU v (aJ l 16 g.a).2);have a1:=cG l 16 Z.a;have n1:=dT l (show 0<16 by decide) g.a;have e1:IntKind.i64.wrap (1+((aJ l 16 g.a).1:Int))=((1+(aJ l 16 g.a).1:Nat):Int):=by rw[wrap_i64 Om Om];omega
  simp only[go_sem,Lt,ls,γ,b1,ld];refine RY V.toAL (s:=[rJ j]) (n:=Z' g.beU) aY (by have:=Z.beU;omega) rfl a_ ?_;simp only[go_sem];refine yX V.toKL T (o:=G.o) (n:=16) (a:=g.a) Om Z.a rfl (E.at 0 rfl) a_ ?_;simp only[go_sem,e1];refine a0D V.toKL (n:=0) (by unfold eX;omega) rfl a_ ?_;simp only[go_sem,bgN,bgZ,or_false,forall_eq,forall_eq_or_imp];refine aQ λp hp=>?_;have h2:=h1.new hp (.rows 7 [(⟨[rJ j]++dH g.beU.length,(j:Nat),(dom:Nat),(1+(aJ l 16 g.a).1:Nat),pB⟩:dQ).cells]);simp only[go_sem,bgN,bgZ,or_false,forall_eq,forall_eq_or_imp];refine⟨a_,?_⟩;simp only[go_sem,Lu];refine eY V.toKL T (o:=G.o) (n:=3) (a:=(aJ l 16 g.a).2) aV a1 rfl (h2.at 0 rfl) ?_;have h3:=h2.set 0 rfl (bU v (aJ l 3 (aJ l 16 g.a).2).2);have a2:=cG l 3 a1;by_cases c3:(aJ l 3 (aJ l 16 g.a).2).1=0
  ·have hd:tQ l j dom g={ g with beU:=g.beU++[⟨[rJ j]++dH g.beU.length,(j:Nat),(dom:Nat),(1+(aJ l 16 g.a).1:Nat),mkT 1 ((2+(aJ l 6 (aJ l 3 (aJ l 16 g.a).2).2).1:Nat):Int)⟩],a:=(aJ l 6 (aJ l 3 (aJ l 16 g.a).2).2).2 }:=by unfold tQ;simp only[c3,if_true]
   rw[hd]at x Y;have n2:=dT l (show 0<6 by decide) (aJ l 3 (aJ l 16 g.a).2).2;have e2:IntKind.i64.wrap (2+((aJ l 6 (aJ l 3 (aJ l 16 g.a).2).2).1:Int))=((2+(aJ l 6 (aJ l 3 (aJ l 16 g.a).2).2).1:Nat):Int):=by rw[wrap_i64 Om Om];omega
   simp only[go_sem,bT (show(((aJ l 3 (aJ l 16 g.a).2).1:Nat):Int)=0 by omega),Lw];refine eY V.toKL T (o:=G.o) (n:=6) (a:=(aJ l 3 (aJ l 16 g.a).2).2) aV a2 rfl (h3.at 0 rfl) ?_;have h4:=h3.set 0 rfl (bU v (aJ l 6 (aJ l 3 (aJ l 16 g.a).2).2).2);rw[PH.set_set]at h4;simp only[go_sem,e2];refine aB (V.fmk 1 ((2+(aJ l 6 (aJ l 3 (aJ l 16 g.a).2).2).1:Nat):Int) (by unfold eX;omega) (by unfold eX;omega)) rfl ?_;unfold ET;rw[aE Om];simp only[go_sem,show ¬p=G.o from h4.ne 2 0 rfl rfl aV];have h5:=h4.set 2 rfl (.rows 7 [(⟨[rJ j]++dH g.beU.length,(j:Nat),(dom:Nat),(1+(aJ l 16 g.a).1:Nat),mkT 1 ((2+(aJ l 6 (aJ l 3 (aJ l 16 g.a).2).2).1:Nat):Int)⟩:dQ).cells])
   try simp only[Jm]
   refine l9 G mc beK dom j n i k p U hk R g _ _ Y rfl N O X _ _ _ (by unfold jO;exact Lq) rfl h5 ?_;intro A B y H' w I;rw[←x]at I;have S:y 10=some (.int .i64 i):=w 10 _ (by unfold jO;simp only[go_sem]);have g0:y 0=some (.ptr G.o 2 0 0):=w 0 _ (by unfold jO;simp only[go_sem]);have g1:y 1=some (.ptr G.fo 7 0 0):=w 1 _ (by unfold jO;simp only[go_sem]);have g2:y 2=some (.int .i64 dom):=w 2 _ (by unfold jO;simp only[go_sem]);have g3:y 3=some (.int .i64 beK):=w 3 _ (by unfold jO;simp only[go_sem]);have g8:y 8=some (.int .i64 j):=w 8 _ (by unfold jO;simp only[go_sem]);have g9:y 9=some (.int .i64 n):=w 9 _ (by unfold jO;simp only[go_sem]);simp only[go_sem,EK,S,ei];refine aG (i+1,A,B,H') ⟨hlt,I⟩ (by simp only;omega) ?_ b_;exact Lq
  ·have hd:tQ l j dom g={ g with beU:=g.beU++[⟨[rJ j]++dH g.beU.length,(j:Nat),(dom:Nat),(1+(aJ l 16 g.a).1:Nat),pB⟩],a:=(aJ l 3 (aJ l 16 g.a).2).2 }:=by unfold tQ;simp only[c3,if_false]
   rw[hd]at x Y;simp only[go_sem,bD (show ¬(((aJ l 3 (aJ l 16 g.a).2).1:Nat):Int)=0 by omega)]
   try simp only[Jm]
   refine l9 G mc beK dom j n i k p U hk R g _ _ Y rfl N O X _ _ _ (by unfold jO;exact Lq) rfl h3 ?_;intro A B y H' w I;rw[←x]at I;have S:y 10=some (.int .i64 i):=w 10 _ (by unfold jO;simp only[go_sem]);have g0:y 0=some (.ptr G.o 2 0 0):=w 0 _ (by unfold jO;simp only[go_sem]);have g1:y 1=some (.ptr G.fo 7 0 0):=w 1 _ (by unfold jO;simp only[go_sem]);have g2:y 2=some (.int .i64 dom):=w 2 _ (by unfold jO;simp only[go_sem]);have g3:y 3=some (.int .i64 beK):=w 3 _ (by unfold jO;simp only[go_sem]);have g8:y 8=some (.int .i64 j):=w 8 _ (by unfold jO;simp only[go_sem]);have g9:y 9=some (.int .i64 n):=w 9 _ (by unfold jO;simp only[go_sem]);simp only[go_sem,EK,S,ei];refine aG (i+1,A,B,H') ⟨hlt,I⟩ (by simp only;omega) ?_ b_;exact Lq
 ·have M:¬(i:Int)<(n:Nat):=Om;have:i=n:=Om;subst this;simp only[go_sem,M];exact hK _ N O _ _ (.inl rfl) E
theorem acK{C:Ctx}(O:tM C){l:List Nat}{v:PV}(T:Tp l v)(mc beK k:Nat)(U:0<mc)(J:mc≤1000)(E:beK≤60)(hk:k≤4)(M:∀Z,k=Z+1→yc C l v mc beK Z)(G:GE)(W N:PV)(s:GS)(dom:Nat)(x:dQ)
  (R:GOk l beK s) (Y:s.beU[dom]?=some x) (hl:x.level=4-(k:Int)) (H0:PH) (I:aO H0 (G.boxes v mc W N s.a) (sA s W N)) :
  GJ.wp C (aW Uw.res (λr H'=>∃B' L',aFL G v mc (jF l mc beK k dom s) r B' L'∧aO H' B' L')) (PF.args [.ptr G.o 2 0 0,.ptr G.fo 7 0 0,.int .i64 dom,.int .i64 beK]) H0:=by
 have B:dom<Z' s.beU:=(bhG.1 Y).1;have b1:=I.at 1 rfl;have fin:∀(e:oW)(j u:PV)(y:PF)(H':PH),(e=.exit 0∨e=.ret)→aO H' (G.boxes v mc j u (jF l mc beK k dom s).a) (sA (jF l mc beK k dom s) j u) →
   fN 0 (aW Uw.res (λr H'=>∃B' L',aFL G v mc (jF l mc beK k dom s) r B' L'∧aO H' B' L')) e y H':=by
  intro e j u y H' he w;rcases he with rfl|rfl
  ·rw[MV,aL rfl];exact bB (vs:=[]) (.inl rfl) H' rfl b_ ⟨_,_,⟨rfl,j,u,rfl,rfl⟩,w⟩
  ·exact bB (vs:=[]) (.inr rfl) H' rfl b_ ⟨_,_,⟨rfl,j,u,rfl,rfl⟩,w⟩
 obtain⟨q,rs,e1,e2,e3,e4⟩:∃q rs,W=.osl q 7 0 s.beU.length∧H0 q=some (.rows 7 rs)∧Z' s.beU≤Z' rs∧rs.take s.beU.length=pK s.beU:=by
  rcases I.own 0 rfl with⟨A,_⟩|⟨q,rs,A,h2,h3,h4⟩
  ·have:=congrArg List.length A;rw[bfY]at this;simp at this;rw[this]at B;simp at B
  ·rw[bfY]at A h3 h4;exact⟨q,rs,A,h2,h3,h4⟩
 have V:rs[dom]?=some x.cells:=by
  have:(pK s.beU)[dom]?=some x.cells:=by simp[pK,Y]
  rw[←e4,List.getElem?_take_of_lt B]at this;exact this
 subst e1;have c1:(dom:Int)<(Z' s.beU:Nat):=Om;have ew:IntKind.i64.wrap (x.level+1)=((5-k:Nat):Int):=by rw[hl,wrap_i64 Om Om];omega
 have β:=dT l (show 0<2 by decide) s.a;have en:IntKind.i64.wrap (1+((aJ l 2 s.a).1:Int))=((1+(aJ l 2 s.a).1:Nat):Int):=by rw[wrap_i64 Om Om];omega
 have A:=I.set 0 rfl (bU v (aJ l 2 s.a).2);have F:GOk l beK { s with a:=(aJ l 2 s.a).2 }:=⟨R.beU,R.bfE,cG l 2 R.a⟩;have α:¬q=G.o:=λh=>I.neL 0 0 rfl rfl rfl h.symm;simp only[go_sem,GJ,acL,b1,c1,e2,V,ew,acM];refine eY O.toKL T (o:=G.o) (n:=2) (a:=s.a) aV R.a (by simp only[go_sem];rfl) (I.at 0 rfl) ?_;simp only[go_sem,en,acN];cases k with
 |zero=>
  simp only[go_sem,bD (Om:¬((5-0:Nat):Int)=2),UG];refine acJ (C:=C) O T G mc beK dom (1+(aJ l 2 s.a).1) U J E Om { s with a:=(aJ l 2 s.a).2 } F _ N _ _ _ ?_ A ?_
  ·unfold jO;exact Lq
  ·intro j u y H' w;exact fin _ j u y H' (.inl rfl) w
 |succ k=>
  have K:=M k rfl;by_cases X:4-k=2
  ·have S:jF l mc beK (k+1) dom s=lM l (4-k) beK dom (jF l mc beK k) { s with a:=(aJ l 2 s.a).2 } 1:=by simp only[jF,aL X]
   simp only[go_sem,bT (show((5-(k+1):Nat):Int)=2 by omega),acO,UG];refine YY (C:=C) O T G mc beK dom 1 k Om E aV K { s with a:=(aJ l 2 s.a).2 } F (by simp only;omega) _ N _ _ _ ?_ A ?_
   ·unfold jO
    (repeat' (first|exact c_|refine d_ ?_ ?_))<;>first|(simp only[go_sem,show 4-k=5-(k+1) by omega]<;>rfl)|rfl
   ·intro e j u y H' he w;rw[←S]at w;exact fin e j u y H' he w
  ·have S:jF l mc beK (k+1) dom s=lM l (4-k) beK dom (jF l mc beK k) { s with a:=(aJ l 2 s.a).2 } (1+(aJ l 2 s.a).1):=by simp only[jF,aE X]
   simp only[go_sem,bD (show ¬((5-(k+1):Nat):Int)=2 by omega),UG];refine YY (C:=C) O T G mc beK dom (1+(aJ l 2 s.a).1) k Om E Om K { s with a:=(aJ l 2 s.a).2 } F (by simp only;omega) _ N _ _ _ ?_ A ?_
   ·unfold jO
    (repeat' (first|exact c_|refine d_ ?_ ?_))<;>first|(simp only[go_sem,show 4-k=5-(k+1) by omega]<;>rfl)|rfl
   ·intro e j u y H' he w;rw[←S]at w;exact fin e j u y H' he w
theorem Zw{C:Ctx}(y:tM C){l:List Nat}{v:PV}(T:Tp l v)(mc beK:Nat)(w:0<mc)(j:mc≤1000)(u:beK≤60)
  (A:∀(args:List PV)(H:PH)(R:PV→PH→Prop),Z' args=4→GJ.wp C (aW Uw.res R) (PF.args args) H→aI C 7 args H R):∀k,k≤4→yc C l v mc beK k
 |0,h=>λG J K s dom x F I E H0 B=>A _ _ _ rfl (acK y T mc beK 0 w j u h (λ_ e=>by omega) G J K s dom x F I E H0 B)
 |k+1,h=>λG J K s dom x F I E H0 B=>A _ _ _ rfl (acK y T mc beK (k+1) w j u h (λM e=>by have:M=k:=Om;subst this;exact Zw y T mc beK w j u A M Om) G J K s dom x F I E H0 B)
theorem a1O(l:List Nat)(fK:Nat){a:Nat}(h:a≤Z' l):(xY l fK a).2≤Z' l:=(Hg l (1+(aJ l fK a).1) (cG l fK h) (1+(aJ l fK a).1)).1
theorem TM(l:List Nat){a:Nat}(h:a≤Z' l):∀k,(mB l a k).2≤Z' l∧(mB l a k).1.length=k
 |0=>⟨h,rfl⟩
 |k+1=>by obtain⟨e,j⟩:=TM l h k;exact⟨a1O l 2 e,by simp only[mB,bgB,bgI,j]⟩
theorem GL(l:List Nat)(beS:Nat){a:Nat}(h:a≤Z' l):∀k,(iD l beS a k).2≤Z' l∧(iD l beS a k).1.length=k
 |0=>⟨h,rfl⟩
 |k+1=>by obtain⟨e,j⟩:=GL l beS h k;exact⟨cG l beS (cG l 8 (cG l 4 e)),by simp only[iD,bgB,bgI,j]⟩
structure FE where
 o:Nat
 o6:Nat
 o7:Nat
 beK:Nat
 beM:Nat
abbrev flZ:cI:=flB (.int .i64 0) .aH .aH .aH .aH .aH .aH
abbrev FE.boxes(E:FE)(v ext e j l u w x:PV)(a:Nat):List BX:=[(E.o,bU v a),(E.o7,flB ext e j l u w x),(E.o6,flZ)]
def kP(E:FE):PF:=(((((PF.nil.set 0 (.ptr E.o 2 0 0)).set 1 (.int .i64 E.beK)).set 2 (.int .i64 E.beM)).set 6 (.ptr E.o6 7 0 0)).set 7 (.ptr E.o7 7 0 0))
abbrev mR(l:List dN):List (List PV):=l.map dN.cells
abbrev pC(l:List eE):List (List PV):=l.map eE.cells
theorem js{E:FE}{F:PF}(e:F 0=some (.ptr E.o 2 0 0))(j:F 1=some (.int .i64 E.beK))(l:F 2=some (.int .i64 E.beM))(u:F 6=some (.ptr E.o6 7 0 0))(h7:F 7=some (.ptr E.o7 7 0 0)):(kP E).le F:=
 d_ (d_ (d_ (d_ (d_ c_ e) j) l) u) h7
theorem aUV{C:Ctx}(N:tM C){l:List Nat}{v:PV}(T:Tp l v)(E:FE)(n a:Nat)(hn:n≤10)(Y:a≤Z' l)(ext:PV)(K:cQ)(F:PF)(H:PH)
  (W:(((kP E).set 8 (.int .i64 n)).set 9 (.int .i64 0)).le F) (x:aO H (E.boxes v ext .aH .aH .aH .aH .aH .aH a) [])
  (X:∀I M H',(kP E).le M→aO H' (E.boxes v ext I .aH .aH .aH .aH .aH (mB l a n).2) [(I,4,mR (mB l a n).1)]→K (.exit 0) M H') :
  aC.wp C (.loop bz) K F H:=by
 refine wp_loop (α:=Nat × PV × PH) (λt=>((kP E).set 8 (.int .i64 n)).set 9 (.int .i64 t.1)) (λt=>t.2.2) (λt=>t.1≤n∧aO t.2.2 (E.boxes v ext t.2.1 .aH .aH .aH .aH .aH (mB l a t.1).2) [(t.2.1,4,mR (mB l a t.1).1)]) (λt=>n-t.1) (0,.aH,H) ⟨bgE _,x.oV 4⟩ W b_ ?_;rintro⟨i,I,H0⟩ ⟨hi,x⟩;simp only at hi x ⊢;obtain⟨k1,k2⟩:=TM l Y i;have w:mB l a (i+1)=((mB l a i).1++[{ (xY l 2 (mB l a i).2).1 with name:=[108,97,119]++dH i }],(xY l 2 (mB l a i).2).2):=rfl;simp only[go_sem,bz,Lm,kP];by_cases hlt:i<n
 ·have j:(i:Int)<(n:Nat):=Om;generalize hg:mB l a i=g at *
  simp only[go_sem,j,Ln];refine rI (N.law l v T E.o 2 g.2 aV aV k1) (x.at 0 rfl) rfl ?_;have U:=x.set 0 rfl (bU v (xY l 2 g.2).2);generalize hz:xY l 2 g.2=z at *
  simp only[go_sem];refine aQ λp Z=>?_;have V:=U.new Z (.rows 4 [z.1.cells]);simp only[go_sem,Lo,bgN,bgZ,or_false,forall_eq,forall_eq_or_imp];refine aB (N.name [108,97,119] i aV Om) rfl ?_;have y:=V.set 3 rfl (.rows 4 [({ z.1 with name:=[108,97,119]++dH i }:dN).cells]);rw[PH.set_set]at y;have O:=y.at 1 rfl;have A:¬E.o7=p:=y.ne 1 3 rfl rfl aV;have u:¬E.o7=E.o:=y.ne 1 0 rfl rfl aV;simp only[aR,aE A,aE u]at O;have J:(1:Nat)*4≤16777216:=by decide
  simp only[go_sem,Lp,A,u,O,J,bgN,bgZ,or_false,forall_eq,forall_eq_or_imp];refine y.append 0 (src:=[({ z.1 with name:=[108,97,119]++dH i }:dN).cells]) rfl rfl (by unfold roomFor;rw[bfY];simp only[bgI,maxLen];omega) λw' H2 R hw=>?_;obtain⟨q,rfl⟩:=hw aY;have S:=R.at 1 rfl;simp only[go_sem,S,bgN,bgZ,or_false,forall_eq];have h5:=R.set 1 rfl (flB ext (.osl q 4 0 (mR g.1++[({ z.1 with name:=[108,97,119]++dH i }:dN).cells]).length) .aH .aH .aH .aH .aH);simp only[go_sem,Lr,wZz i];refine aG (i+1,.osl q 4 0 (mR g.1++[({ z.1 with name:=[108,97,119]++dH i }:dN).cells]).length,_) ⟨hlt,?_⟩ (by simp only;omega) ?_ b_
  ·rw[w];have e:mR (g.1++[{ z.1 with name:=[108,97,119]++dH i }])=mR g.1++[({ z.1 with name:=[108,97,119]++dH i }:dN).cells]:=by simp[mR]
   simp only;rw[e];exact h5.dropLast (B:=E.boxes v ext _ .aH .aH .aH .aH .aH z.2)
  ·exact Lq
 ·have j:¬(i:Int)<(n:Nat):=Om;have:i=n:=Om;subst this;simp only[go_sem,j];exact X I _ _ (js rfl rfl rfl rfl rfl) x
theorem aHZ{C:Ctx}(R:tM C){l:List Nat}{v:PV}(T:Tp l v)(E:FE)(n a nl:Nat)(hn:n≤10)(β:nl≤1000)(ha:a≤Z' l)(ext u:PV)(beS:List dN)(W:Z' beS=nl)(K:cQ)(F:PF)(H:PH)
  (hF:(((kP E).set 11 (.int .i64 n)).set 12 (.int .i64 0)).le F) (w:aO H (E.boxes v ext u .aH .aH .aH .aH .aH a) [(u,4,mR beS)])
  (hK:∀I S H',(kP E).le S→S 11=some (.int .i64 n)→aO H' (E.boxes v ext u I .aH .aH .aH .aH (iD l nl a n).2) [(u,4,mR beS),(I,4,pC (iD l nl a n).1)]→K (.exit 2) S H') :
  aC.wp C (.loop TU) K F H:=by
 refine wp_loop (α:=Nat × PV × PH) (λt=>((kP E).set 11 (.int .i64 n)).set 12 (.int .i64 t.1)) (λt=>t.2.2) (λt=>t.1≤n∧aO t.2.2 (E.boxes v ext u t.2.1 .aH .aH .aH .aH (iD l nl a t.1).2) [(u,4,mR beS),(t.2.1,4,pC (iD l nl a t.1).1)]) (λt=>n-t.1) (0,.aH,H) ⟨bgE _,w.oV 4⟩ hF b_ ?_;rintro⟨i,I,H0⟩ ⟨hi,w⟩;simp only at hi w ⊢;obtain⟨k1,k2⟩:=GL l nl ha i;have A:iD l nl a (i+1)=((iD l nl a i).1++[⟨[109]++dH i,(1+(aJ l 4 (iD l nl a i).2).1:Nat),(1+(aJ l 8 (aJ l 4 (iD l nl a i).2).2).1:Nat),((aJ l nl (aJ l 8 (aJ l 4 (iD l nl a i).2).2).2).1:Nat)⟩],(aJ l nl (aJ l 8 (aJ l 4 (iD l nl a i).2).2).2).2):=rfl;simp only[go_sem,TU,As,kP];by_cases hlt:i<n
 ·have j:(i:Int)<(n:Nat):=Om;generalize hg:iD l nl a i=g at *
  have hx:=dT l (show 0<4 by decide) g.2;have X:=cG l 4 k1;have hy:=dT l (show 0<8 by decide) (aJ l 4 g.2).2;have Y:=cG l 8 X;have az:=cG l nl Y;have U:=w.set 0 rfl (bU v (aJ l 4 g.2).2);have B:=U.set 0 rfl (bU v (aJ l 8 (aJ l 4 g.2).2).2);have h3:=B.set 0 rfl (bU v (aJ l nl (aJ l 8 (aJ l 4 g.2).2).2).2);generalize M:aJ l 4 g.2=x at *
  generalize N:aJ l 8 x.2=y at *
  generalize O:aJ l nl y.2=z at *
  have b1:=w.at 1 rfl;have lw:=(w.own 0 rfl).AW;rw[bfY,W]at lw;have J:(PH.nil.set E.o7 (flB ext u I .aH .aH .aH .aH)).le H0:=e_ a_ b1;have ex:IntKind.i64.wrap (1+(x.1:Int))=((1+x.1:Nat):Int):=by rw[wrap_i64 Om Om];omega
  have ey:IntKind.i64.wrap (1+(y.1:Int))=((1+y.1:Nat):Int):=by rw[wrap_i64 Om Om];omega
  simp only[go_sem,j];refine bA (PH.nil.set E.o7 (flB ext u I .aH .aH .aH .aH)) (mkS l v) J ?_;simp only[go_sem,Au];refine RY R.toAL (s:=[109]) (n:=i) aV Om rfl J ?_;simp only[go_sem];refine yX R.toKL T (o:=E.o) (n:=4) (a:=g.2) aV k1 rfl (w.at 0 rfl) ?_ ?_
  ·rw[M];exact e_ a_ (U.at 1 rfl)
  rw[M];simp only[go_sem,ex];refine yX R.toKL T (o:=E.o) (n:=8) (a:=x.2) aV X rfl (U.at 0 rfl) ?_ ?_
  ·rw[N];exact e_ a_ (B.at 1 rfl)
  rw[N];simp only[go_sem,ey,lw];rw[PH.set_set]at B;refine yX R.toKL T (o:=E.o) (n:=nl) (a:=y.2) Om Y rfl (B.at 0 rfl) ?_ ?_
  ·rw[O];exact e_ a_ ((B.set 0 rfl (bU v z.2)).at 1 rfl)
  rw[O];have h4:=B.set 0 rfl (bU v z.2);have V:(1:Nat)*4≤16777216:=by decide
  simp only[go_sem,V,bgN,bgZ,or_false,forall_eq,forall_eq_or_imp];rw[PH.set_set]at h4;refine h4.append 1 (src:=[(⟨[109]++dH i,(1+x.1:Nat),(1+y.1:Nat),(z.1:Nat)⟩:eE).cells]) rfl rfl (by unfold roomFor;rw[bfY];simp only[bgI,maxLen];omega) λw' H2 h5 hw=>?_;obtain⟨q,rfl⟩:=hw aY;have Z:=h5.at 1 rfl;refine⟨e_ a_ Z,?_⟩;refine bA .nil cK a_ ?_;simp only[go_sem,Av,Z,bgN,bgZ,or_false,forall_eq];have h6:=h5.set 1 rfl (flB ext u (.osl q 4 0 (pC g.1++[(⟨[109]++dH i,(1+x.1:Nat),(1+y.1:Nat),(z.1:Nat)⟩:eE).cells]).length) .aH .aH .aH .aH);refine⟨a_,?_⟩;simp only[go_sem,Aw,wZz i];refine aG (i+1,.osl q 4 0 (pC g.1++[(⟨[109]++dH i,(1+x.1:Nat),(1+y.1:Nat),(z.1:Nat)⟩:eE).cells]).length,_) ⟨hlt,?_⟩ (by simp only;omega) ?_ b_
  ·rw[A];have e:pC (g.1++[⟨[109]++dH i,(1+x.1:Nat),(1+y.1:Nat),(z.1:Nat)⟩])=pC g.1++[(⟨[109]++dH i,(1+x.1:Nat),(1+y.1:Nat),(z.1:Nat)⟩:eE).cells]:=by simp[pC]
   simp only;rw[e];exact h6
  ·exact Lq
 ·have j:¬(i:Int)<(n:Nat):=Om;have:i=n:=Om;subst this;simp only[go_sem,j];exact hK I _ _ (js rfl rfl rfl rfl rfl) rfl w
abbrev FG(x:dV)(w:PV):List PV:=[.str x.name,.int .i64 x.k,.int .i64 x.m,.int .i64 x.bfJ,.int .i64 x.s0,.int .i64 x.s1,.int .i64 x.s2,.int .i64 x.s3,.int .i64 x.s4,w,frs x.repair,
 .bool x.target.neg,aN x.target.num,aN x.target.den,.bool x.beV.neg,aN x.beV.num,aN x.beV.den]
def Hk(E:FE)(mc n i:Nat):PF:=(((kP E).set 11 (.int .i64 mc)).set 13 (.int .i64 n)).set 14 (.int .i64 i)
structure PAt(E:FE)(mc n i:Nat)(F:PF):Prop where
 f0:F 0=some (.ptr E.o 2 0 0)
 f1:F 1=some (.int .i64 E.beK)
 f2:F 2=some (.int .i64 E.beM)
 f6:F 6=some (.ptr E.o6 7 0 0)
 f7:F 7=some (.ptr E.o7 7 0 0)
 f11:F 11=some (.int .i64 mc)
 f13:F 13=some (.int .i64 n)
 f14:F 14=some (.int .i64 i)
def yC(l:List Nat)(a:Nat):Nat→List Int × Nat
 |0=>([],a)
 |j+1=>let s:=yC l a j
  let t:=mC l s.2
  (s.1++[t.1],t.2)
theorem BR(l:List Nat){a:Nat}(h:a≤Z' l):(mC l a).2≤Z' l:=by
 unfold mC;simp only;split
 ·exact cG l 3 (cG l 3 h)
 ·exact cG l 3 h
theorem I2(l:List Nat){a:Nat}(h:a≤Z' l):∀j,(yC l a j).2≤Z' l∧(yC l a j).1.length=j
 |0=>⟨h,rfl⟩
 |j+1=>by obtain⟨e,u⟩:=I2 l h j;exact⟨BR l e,by simp only[yC,bgB,bgI,u]⟩
abbrev yB(pre post:List PV)(s:List Int):List PV:=pre++(s.map λx=>PV.int .i64 x)++bgA (4-Z' s) (.int .i64 0)++post
theorem a3M{pre post:List PV}{s:List Int}(e:Z' pre=5)(l:Z' s<4)(x:Int):(yB pre post s).set (5+Z' s) (.int .i64 x)=yB pre post (s++[x]):=by
 obtain⟨k,j⟩:∃k,4-Z' s=k+1:=⟨3-Z' s,by omega⟩;unfold yB;rw[bgB,bgI,show 4-(Z' s+1)=k by omega,j,List.replicate_succ,bhM,bhJ,biS];rw[List.set_append_left _ _ (by simp[e]),bjU _ _ (by simp[e])];have:5+Z' s-(pre++s.map λx=>PV.int .i64 x).length=0:=by simp[e]
 rw[this,List.set_cons_zero];simp
theorem aXC{pre post:List PV}{s:List Int}(j:Z' pre=5)(l:Z' s<4):yB pre post s=yB pre post (s++[0]):=by
 obtain⟨k,e⟩:∃k,4-Z' s=k+1:=⟨3-Z' s,by omega⟩;unfold yB;rw[bgB,bgI,show 4-(Z' s+1)=k by omega,e,List.replicate_succ,bhM,bhJ,biS];simp
theorem aIA{C:Ctx}(Lb:tM C){l:List Nat}{v:PV}(T:Tp l v)(E:FE)(mc n i a p:Nat)(ha:a≤Z' l)(B:List BX)(L:List LI)(pre post:List PV)(e:Z' pre=5)(A:Z' post=8)(K:cQ)(F:PF)(H:PH)
  (w:PAt E mc n i F) (U:F 15=some (.ptr p 17 0 0)) (V:F 16=some (.int .i64 1)) (I:aO H ((E.o,bU v a)::B++[(p,.rows 17 [yB pre post []])]) L)
  (hK:∀R H',PAt E mc n i R→R 15=some (.ptr p 17 0 0)→aO H' ((E.o,bU v (yC l a 4).2)::B++[(p,.rows 17 [yB pre post (yC l a 4).1])]) L→K (.exit 6) R H') :
  aC.wp C (.loop GC) K F H:=by
 refine wp_loop (α:=Nat × PH) (λt=>((Hk E mc n i).set 15 (.ptr p 17 0 0)).set 16 (.int .i64 (t.1+1:Nat))) (λt=>t.2) (λt=>t.1≤4∧aO t.2 ((E.o,bU v (yC l a t.1).2)::B++[(p,.rows 17 [yB pre post (yC l a t.1).1])]) L) (λt=>4-t.1) (0,H) ⟨bgE _,I⟩ ?_ b_ ?_
 ·unfold Hk kP
  (repeat' (first|exact c_|refine d_ ?_ ?_))<;>first|(simp only[go_sem,w.f0,w.f1,w.f2,w.f6,w.f7,w.f11,w.f13,w.f14,U,V]<;>rfl)|rfl
 rintro⟨j,H0⟩ ⟨hj,I⟩;simp only at hj I ⊢;obtain⟨k1,k2⟩:=I2 l ha j;have u:yC l a (j+1)=((yC l a j).1++[(mC l (yC l a j).2).1],(mC l (yC l a j).2).2):=rfl;simp only[go_sem,GC,A2,Hk,kP];by_cases hlt:j<4
 ·generalize hg:yC l a j=g at *
  have ei:=eT (Om:j+1<9223372036854775807);simp only[go_sem,show((j+1:Nat):Int)<5 by omega,A3];refine eY Lb.toKL T (o:=E.o) (n:=3) (a:=g.2) aV k1 (by simp only[go_sem];rfl) (I.at 0 rfl) ?_;have N:aO _ ((E.o,bU v (aJ l 3 g.2).2)::B++[(p,.rows 17 [yB pre post g.1])]) L:=I.set 0 rfl (bU v (aJ l 3 g.2).2);by_cases c:(aJ l 3 g.2).1=0
  ·have Z:mC l g.2=(((1+(aJ l 3 (aJ l 3 g.2).2).1:Nat):Int),(aJ l 3 (aJ l 3 g.2).2).2):=by unfold mC;simp only[c,if_true]
   have n2:=dT l (show 0<3 by decide) (aJ l 3 g.2).2;have e2:IntKind.i64.wrap (1+((aJ l 3 (aJ l 3 g.2).2).1:Int))=((1+(aJ l 3 (aJ l 3 g.2).2).1:Nat):Int):=by rw[wrap_i64 Om Om];omega
   simp only[go_sem,bT (show(((aJ l 3 g.2).1:Nat):Int)=0 by omega),A4];refine eY Lb.toKL T (o:=E.o) (n:=3) (a:=(aJ l 3 g.2).2) aV (cG l 3 k1) (by simp only[go_sem];rfl) (N.at 0 rfl) ?_;have O:aO _ ((E.o,bU v (aJ l 3 (aJ l 3 g.2).2).2)::B++[(p,.rows 17 [yB pre post g.1])]) L:=N.set 0 rfl (bU v (aJ l 3 (aJ l 3 g.2).2).2);have S:=O.rP;rw[PH.set_set]at S O;have M:¬p=E.o:=λh=>by have Y:=O.ndB;simp[fW,h]at Y
   simp only[aR,aE M]at S;have X:((j+1:Nat):Int)<((5:Nat):Int):=Om;have W:(0:Int)≤((j+1:Nat):Int):=Om;have β:(yB pre post g.1).length=17:=by simp[yB,e,A,k2];omega
   have x:=a3M (pre:=pre) (post:=post) (s:=g.1) e Om ((1+(aJ l 3 (aJ l 3 g.2).2).1:Nat):Int);rw[k2]at x;have J:4+(j+1)*1=5+j:=Om;have y:5+j+1≤17:=Om;simp only[go_sem,e2,X,W,J,M,S,y,bgN,bgZ,or_false,forall_eq,x,TZ,ei];refine aG (j+1,_) ⟨hlt,?_⟩ (by simp only;omega) ?_ b_
   ·rw[u,Z];exact O.xR _
   ·exact Lq
  ·have Z:mC l g.2=(0,(aJ l 3 g.2).2):=by unfold mC;simp only[c,if_false]
   simp only[go_sem,bD (show ¬(((aJ l 3 g.2).1:Nat):Int)=0 by omega),TZ,ei];refine aG (j+1,_) ⟨hlt,?_⟩ (by simp only;omega) ?_ b_
   ·rw[aXC (pre:=pre) (post:=post) (s:=g.1) e Om]at N;rw[u,Z];exact N
   ·exact Lq
 ·have:j=4:=Om;subst this;simp only[go_sem,show ¬((4+1:Nat):Int)<5 by decide];exact hK _ _ ⟨by simp only[go_sem],by simp only[go_sem],by simp only[go_sem],by simp only[go_sem],by simp only[go_sem],by simp only[go_sem],by simp only[go_sem],by simp only[go_sem]⟩ Sq I
theorem aO.vZ{E:FE}{v ext e j l u w x:PV}{a:Nat}{H:PH}{B:List BX}{L:List LI}(h:aO H (E.boxes v ext e j l u w x a++B) L)(b:Nat):aO (H.set E.o (bU v b)) (E.boxes v ext e j l u w x b++B) L:=h.set 0 rfl _
abbrev vd(s:List UInt8)(k m q:Int)(w r e j l:PV)(h:RF):List PV:=[.str s,.int .i64 k,.int .i64 m,.int .i64 q,.int .i64 0,.int .i64 0,.int .i64 0,.int .i64 0,.int .i64 0,w,r,e,j,l,.bool h.neg,aN h.num,aN h.den]
theorem aUW {C : Ctx} (Lb : tM C) {l : List Nat} {v : PV} (T : Tp l v) (E : FE) (mc n i a : Nat) (ha : a ≤ l.length) (hi : i < 50) (ext w1 w2 w3 w4 w5 w6 : PV) (L : List LI) (rest : aC) (K : cQ) (F : PF) (H : PH)
    (hF : PAt E mc n i F) (hH : aO H (E.boxes v ext w1 w2 w3 w4 w5 w6 a) L)
    (hK : ∀ p F' H', PAt E mc n i F' → F' 15 = some (.ptr p 17 0 0) →
      (let k := aJ l 2 a; let m := aJ l 3 k.2; let h := aJ l 4 m.2; let q := aJ l (m.1 + 1) h.2; let r := pR l q.2 (max m.1 1); let g := aJ l 9 r.2
       aO H' (E.boxes v ext w1 w2 w3 w4 w5 w6 g.2 ++ [(p, .rows 17 [yB [.str ([112] ++ dH i), .int .i64 (1 + k.1 : Nat), .int .i64 (m.1 : Nat), .int .i64 (1 + k.1 + q.1 : Nat), .int .i64 0]
        ([.aH, frs r.1] ++ (mkT (g.1 : Nat) 8).cells ++ (mkT ((1 + h.1 : Nat) : Int) 1).cells) []])]) L) → aC.wp C rest K F' H') :
    aC.wp C (.seq (.region TX) (.seq (.seq (.draw GD) (.draw GF)) (.seq (.region GG) (.seq (.region GH) rest)))) K F H := by
  obtain ⟨f0, f1, f2, f6, f7, f11, f13, f14⟩ := hF;have nk := dT l (show 0 < 2 by decide) a;have ak := cG l 2 ha;have nm := dT l (show 0 < 3 by decide) (aJ l 2 a).2;have am := cG l 3 ak;simp only at hK;generalize hk : aJ l 2 a = k at *
  generalize hm : aJ l 3 k.2 = m at *
  have nh := dT l (show 0 < 4 by decide) m.2;have ah := cG l 4 am;generalize hh : aJ l 4 m.2 = h at *
  have nq := dT l (Om : 0 < m.1 + 1) h.2;have aq := cG l (m.1 + 1) ah;generalize hq : aJ l (m.1 + 1) h.2 = q at *
  have ar := RI l aq (max m.1 1);generalize hr : pR l q.2 (max m.1 1) = r at *
  have ng := dT l (show 0 < 9 by decide) r.2;have ag := cG l 9 ar;generalize hg : aJ l 9 r.2 = g at *
  have ek : IntKind.i64.wrap (1 + (k.1 : Int)) = ((1 + k.1 : Nat) : Int) := by rw [wrap_i64 Om Om]; omega
  have eh : IntKind.i64.wrap (1 + (h.1 : Int)) = ((1 + h.1 : Nat) : Int) := by rw [wrap_i64 Om Om]; omega
  have em : IntKind.i64.wrap ((m.1 : Int) + 1) = ((m.1 + 1 : Nat) : Int) := eT Om;have eq' : IntKind.i64.wrap (((1 + k.1 : Nat) : Int) + (q.1 : Int)) = ((1 + k.1 + q.1 : Nat) : Int) := by rw [wrap_i64 Om Om]; omega
  have h0 : aO H (E.boxes v ext w1 w2 w3 w4 w5 w6 a ++ []) L := by rw [bhH]; exact hH
  simp only[go_sem,TX,f14];refine aB (Lb.name [112] i aV Om) rfl ?_;simp only[go_sem,f0];refine eY Lb.toKL T (o := E.o) (n := 2) (a := a) aV ha rfl (h0.at 0 rfl) ?_;have g1 := h0.vZ k.2;rw [hk];simp only[go_sem,ek,f0];refine eY Lb.toKL T (o := E.o) (n := 3) (a := k.2) aV ak rfl (g1.at 0 rfl) ?_;have g2 := g1.vZ m.2;rw [hm];rw [PH.set_set] at g2;simp only[go_sem,f0];refine eY Lb.toKL T (o := E.o) (n := 4) (a := m.2) aV am rfl (g2.at 0 rfl) ?_;have g3 := g2.vZ h.2;rw [hh];rw [PH.set_set] at g3;simp only[go_sem,eh];refine aB (Lb.int ((1 + h.1 : Nat) : Int) (by unfold eX; omega)) rfl ?_;simp only[go_sem,bgN,bgZ,or_false,forall_eq,forall_eq_or_imp];refine aQ fun p hp => ?_;have g4 := g3.new hp (.rows 17 [vd ([112] ++ dH i) (1 + k.1 : Nat) (m.1 : Nat) 0 .aH .aH (.bool false) .aH .aH (mkT ((1 + h.1 : Nat) : Int) 1)]);have hpo : ¬ p = E.o := g4.ne 3 0 rfl rfl aV;have hop : ¬ E.o = p := fun e => hpo e.symm;have q2 : ∀ (F2 : PF) (H2 : PH), PAt E mc n i F2 → F2 15 = some (.ptr p 17 0 0) → aO H2 (E.boxes v ext w1 w2 w3 w4 w5 w6 h.2 ++ [(p, .rows 17 [vd ([112] ++ dH i) (1 + k.1 : Nat) (m.1 : Nat) 0 .aH .aH (.bool false) .aH .aH (mkT ((1 + h.1 : Nat) : Int) 1)])]) L →
      aC.wp C (.seq (.seq (.draw GD) (.draw GF)) (.seq (.region GG) (.seq (.region GH) rest))) K F2 H2 := by
    intro F2 H2 hF2 f15 hH2;obtain ⟨f0, f1, f2, f6, f7, f11, f13, f14⟩ := hF2;have bp := hH2.at 3 rfl;have hHs : (PH.nil.set p (.rows 17 [vd ([112] ++ dH i) (1 + k.1 : Nat) (m.1 : Nat) 0 .aH .aH (.bool false) .aH .aH (mkT ((1 + h.1 : Nat) : Int) 1)])).le H2 := e_ a_ bp;simp only[go_sem];refine bA _ (mkS l v) hHs ?_;simp only[go_sem,GD,f15,bp,em,f0];refine yX Lb.toKL T (o := E.o) (n := m.1 + 1) (a := h.2) Om ah rfl (hH2.at 0 rfl) ?_ ?_
    · rw [hq]; exact e_ a_ ((hH2.vZ q.2).at 3 rfl)
    rw [hq];have g5 := hH2.vZ q.2;simp only[go_sem,eq',f15];refine bA .nil cK a_ ?_;simp only[go_sem,GF,hpo,bp];refine ⟨a_, ?_⟩;have g6 : aO _ (E.boxes v ext w1 w2 w3 w4 w5 w6 q.2 ++ [(p, .rows 17 [vd ([112] ++ dH i) (1 + k.1 : Nat) (m.1 : Nat) (1 + k.1 + q.1 : Nat) .aH .aH (.bool false) .aH .aH (mkT ((1 + h.1 : Nat) : Int) 1)])]) L := g5.set 3 rfl (.rows 17 [vd ([112] ++ dH i) (1 + k.1 : Nat) (m.1 : Nat) (1 + k.1 + q.1 : Nat) .aH .aH (.bool false) .aH .aH (mkT ((1 + h.1 : Nat) : Int) 1)]);have bq := g6.at 3 rfl;simp only[go_sem,GG,f0,f15];refine rI (Lb.rep l v T E.o q.2 m.1 Om aq) (g6.at 0 rfl) rfl ?_;have g7 := g6.vZ r.2;rw [hr];simp only[go_sem,hpo,f15];have g8 : aO _ (E.boxes v ext w1 w2 w3 w4 w5 w6 r.2 ++ [(p, .rows 17 [vd ([112] ++ dH i) (1 + k.1 : Nat) (m.1 : Nat) (1 + k.1 + q.1 : Nat) .aH (frs r.1) (.bool false) .aH .aH (mkT ((1 + h.1 : Nat) : Int) 1)])]) L := g7.set 3 rfl (.rows 17 [vd ([112] ++ dH i) (1 + k.1 : Nat) (m.1 : Nat) (1 + k.1 + q.1 : Nat) .aH (frs r.1) (.bool false) .aH .aH (mkT ((1 + h.1 : Nat) : Int) 1)]);simp only[go_sem,GH,f0];refine eY Lb.toKL T (o := E.o) (n := 9) (a := r.2) aV ar rfl (g8.at 0 rfl) ?_;have g9 := g8.vZ g.2;rw [hg];simp only[go_sem];refine aB (Lb.fmk (g.1 : Int) 8 (by unfold eX; omega) (by unfold eX; omega)) rfl ?_;unfold ET;rw [aE aV];simp only[go_sem,f15,hpo];have g10 := g9.set 3 rfl (.rows 17 [yB [.str ([112] ++ dH i), .int .i64 (1 + k.1 : Nat), .int .i64 (m.1 : Nat), .int .i64 (1 + k.1 + q.1 : Nat), .int .i64 0]
        ([.aH, frs r.1] ++ (mkT (g.1 : Nat) 8).cells ++ (mkT ((1 + h.1 : Nat) : Int) 1).cells) []])
    refine hK p _ _ ⟨by simp only[go_sem,f0], by simp only[go_sem,f1], by simp only[go_sem,f2], by simp only[go_sem,f6], by simp only[go_sem,f7], by simp only[go_sem,f11], by simp only[go_sem,f13], by simp only[go_sem,f14]⟩ (by simp only[go_sem,f15]) g10
  simp only [aC.wp, go_sem] at q2;simp only[go_sem,bgN,bgZ,or_false,forall_eq,forall_eq_or_imp];exact q2 _ _ ⟨by simp only[go_sem,f0], by simp only[go_sem,f1], by simp only[go_sem,f2], by simp only[go_sem,f6], by simp only[go_sem,f7], by simp only[go_sem,f11], by simp only[go_sem,f13], by simp only[go_sem,f14]⟩ rfl g4
abbrev FE.lists(x y A B E:PV)(l:List dN)(u:List eE)(e:List dQ)(j:List fC)(w:List (List PV)):List LI:=[(x,4,mR l),(y,4,pC u),(A,7,pK e),(B,3,sN j),(E,17,w)]
theorem aUX{C:Ctx}(Lb:tM C){l:List Nat}{v:PV}(T:Tp l v)(E:FE)(mc n i a:Nat)(ha:a≤Z' l)(η:0<mc)(μ:mc≤50)(ext y A B I w5:PV)(lw:List dN)(md:List eE)(dm:List dQ)(dv:List fC)(pr:List (List PV))(ρ:Z' pr≤50)
  (s:List UInt8) (k m q:Int) (r t h:RF) (M:List RF) (p:Nat) (K:cQ) (F:PF) (H:PH)
  (hF:PAt E mc n i F) (u:F 15=some (.ptr p 17 0 0))
  (hH:aO H (E.boxes v ext y A B I w5 .aH a++[(p,.rows 17 [yB [.str s,.int .i64 k,.int .i64 m,.int .i64 q,.int .i64 0] ([.aH,frs M]++t.cells++h.cells) []])]) (FE.lists y A B I w5 lw md dm dv pr))
  (V:(let J:=yC l a 4;let f:=aJ l mc J.2;let b:=aJ l 2 f.2
   let ms:List Int × Nat:=if 1<mc then(if b.1=0 then([(f.1:Int),1-(f.1:Int)],b.2)else([(f.1:Int)],b.2))else([(f.1:Int)],f.2)
   ∀(w j:PV)(W:PF)(H':PH)(B':List BX),PAt E mc n i W→(∃o,w=.osl o 1 0 ms.1.length)→aO H' (E.boxes v ext y A B I j .aH ms.2++B')
    (FE.lists y A B I j lw md dm dv (pr++[FG ⟨s,k,m,q,0,(J.1.getD 0 0),(J.1.getD 1 0),(J.1.getD 2 0),(J.1.getD 3 0),ms.1,M,t,h⟩ w])++[(w,1,bS ms.1)])→K .normal W H')) :
  aC.wp C (.seq (.seq (.region TY) (.block 6 (.loop GC))) (.seq (.region UA) (.seq (.region UB) (.seq (.seq (.region UC) (.cond (.tmp 143) (.region UD) .skip)) (.region GI))))) K F H:=by
 obtain⟨f0,f1,f2,f6,f7,f11,f13,f14⟩:=hF;simp only[go_sem,TY];refine aIA (C:=C) Lb T E mc n i a p ha [(E.o7,flB ext y A B I w5 .aH),(E.o6,flZ)] _ _ _ rfl rfl _ _ H ⟨by simp only[go_sem,f0],by simp only[go_sem,f1],by simp only[go_sem,f2],by simp only[go_sem,f6],by simp only[go_sem,f7],by simp only[go_sem,f11],by simp only[go_sem,f13],by simp only[go_sem,f14]⟩ (by simp only[go_sem,u]) rfl hH ?_;clear f0 f1 f2 f6 f7 f11 f13 f14 u hH;intro F1 H1 ε u x;obtain⟨f0,f1,f2,f6,f7,f11,f13,f14⟩:=ε;obtain⟨α,ls⟩:=I2 l ha 4;have ι:∃N O R S,(yC l a 4).1=[N,O,R,S]:=⟨_,_,_,_,rfl⟩;simp only at V;generalize ν:yC l a 4=J at *
 obtain⟨N,O,R,S,hx⟩:=ι;rw[hx]at V x;replace x:aO H1 (E.boxes v ext y A B I w5 .aH J.2++[(p,.rows 17 [FG ⟨s,k,m,q,0,N,O,R,S,[],M,t,h⟩ .aH])]) (FE.lists y A B I w5 lw md dm dv pr):=x;have nf:=dT l η J.2;have af:=cG l mc α;generalize hf:aJ l mc J.2=f at *
 have ab:=cG l 2 af;generalize hb:aJ l 2 f.2=b at *
 have Z:¬p=E.o:=x.ne 3 0 rfl rfl aV;have θ:¬p=E.o7:=x.ne 3 1 rfl rfl aV;have ο:¬E.o7=p:=λe=>θ e.symm;have ξ:¬E.o7=E.o:=x.ne 1 0 rfl rfl aV;simp only[go_sem,UA,f0,f11];refine eY Lb.toKL T (o:=E.o) (n:=mc) (a:=J.2) Om α rfl (x.at 0 rfl) ?_;have h2:=x.set 0 rfl (bU v f.2);rw[hf];simp only[go_sem,UB];refine aQ λo ho=>?_;have h3:=h2.Ib (s:=1) (rows:=bS [(f.1:Int)]) ho;have b3:=h3.at 3 rfl;have ob:¬p=o:=h3.neL 3 5 rfl rfl rfl;have σ:¬E.o7=o:=h3.neL 1 5 rfl rfl rfl;have τ:¬E.o=o:=h3.neL 0 5 rfl rfl rfl;simp only[aR,aE ob,aE Z]at b3;simp only[go_sem,u,ob,Z,b3,bgN,bgZ,or_false,forall_eq];have h4:=h3.set 3 rfl (.rows 17 [FG ⟨s,k,m,q,0,N,O,R,S,[],M,t,h⟩ (.osl o 1 0 1)]);have fin:∀(w:PV)(ms:List Int)(a':Nat)(W:PF)(H':PH),PAt E mc n i W→W 15=some (.ptr p 17 0 0)→(∃o,w=.osl o 1 0 ms.length) →
   aO H' (E.boxes v ext y A B I w5 .aH a'++[(p,.rows 17 [FG ⟨s,k,m,q,0,N,O,R,S,ms,M,t,h⟩ w])]) (FE.lists y A B I w5 lw md dm dv pr++[(w,1,bS ms)]) →
   (∀(j:PV)(U:PF)(H2:PH),PAt E mc n i U→aO H2 (E.boxes v ext y A B I j .aH a'++[(p,.rows 17 [FG ⟨s,k,m,q,0,N,O,R,S,ms,M,t,h⟩ w])]) (FE.lists y A B I j lw md dm dv (pr++[FG ⟨s,k,m,q,0,N,O,R,S,ms,M,t,h⟩ w])++[(w,1,bS ms)])→K .normal U H2) →
   wpOps C GI (K .normal) W H':=by
  intro w ms a' W H' δ u hw Y ζ;obtain⟨wo,rfl⟩:=hw;obtain⟨f0,f1,f2,f6,f7,f11,f13,f14⟩:=δ;have c1:=Y.at 1 rfl;have c3:=Y.at 3 rfl;have γ:(1:Nat)*17≤16777216:=by decide
  simp only[go_sem,GI,f7,u,c1,c3,γ,bgN,bgZ,or_false,forall_eq,forall_eq_or_imp];refine Y.append 4 (src:=[FG ⟨s,k,m,q,0,N,O,R,S,ms,M,t,h⟩ (.osl wo 1 0 ms.length)]) rfl rfl (by unfold roomFor;simp only[bgI,maxLen];omega) λj H2 h5 κ=>?_;obtain⟨q5,rfl⟩:=κ aY;have c2:=h5.at 1 rfl;simp only[go_sem,c2,bgN,bgZ,or_false,forall_eq];exact ζ _ _ _ ⟨by simp only[go_sem,f0],by simp only[go_sem,f1],by simp only[go_sem,f2],by simp only[go_sem,f6],by simp only[go_sem,f7],by simp only[go_sem,f11],by simp only[go_sem,f13],by simp only[go_sem,f14]⟩ (h5.set 1 rfl (flB ext y A B I _ .aH))
 simp only[go_sem,UC,f11];by_cases c:1<mc
 ·have c':(mc:Int)>1:=Om;simp only[go_sem,c',f0];refine eY Lb.toKL T (o:=E.o) (n:=2) (a:=f.2) aV af rfl (h4.at 0 rfl) ?_;have h5:=h4.set 0 rfl (bU v b.2);rw[hb];by_cases c2:b.1=0
  ·have X:(b.1:Int)=0:=Om;rw[aL c,aL c2]at V;have e1:IntKind.i64.wrap (1-(f.1:Int))=1-(f.1:Int):=wrap_i64 Om Om;have c3:=h5.at 3 rfl;have β:(1:Nat)*1≤16777216:=by decide
   simp only[go_sem,bT X,UD,u,Z,e1,β];refine h5.append 5 (src:=[[.int .i64 (1-(f.1:Int))]]) rfl rfl (by unfold roomFor;simp only[bS,bfY,bgI,maxLen];omega) λw' H2 h6 hw=>?_;obtain⟨q2,rfl⟩:=hw aY;have c4:=h6.at 3 rfl;simp only[go_sem,c4,u,bgN,bgZ,or_false,forall_eq];have h7:=h6.set 3 rfl (.rows 17 [FG ⟨s,k,m,q,0,N,O,R,S,[(f.1:Int),1-(f.1:Int)],M,t,h⟩ (.osl q2 1 0 2)]);exact fin (.osl q2 1 0 2) [(f.1:Int),1-(f.1:Int)] b.2 _ _ ⟨by simp only[go_sem,f0],by simp only[go_sem,f1],by simp only[go_sem,f2],by simp only[go_sem,f6],by simp only[go_sem,f7],by simp only[go_sem,f11],by simp only[go_sem,f13],by simp only[go_sem,f14]⟩ (by simp only[go_sem,u]) ⟨q2,rfl⟩ h7 (λj U H2 g1 g2=>V _ j U H2 _ g1 ⟨q2,rfl⟩ g2)
  ·have X:¬(b.1:Int)=0:=Om;rw[aL c,aE c2]at V;simp only[go_sem,bD X];exact fin (.osl o 1 0 1) [(f.1:Int)] b.2 _ _ ⟨by simp only[go_sem,f0],by simp only[go_sem,f1],by simp only[go_sem,f2],by simp only[go_sem,f6],by simp only[go_sem,f7],by simp only[go_sem,f11],by simp only[go_sem,f13],by simp only[go_sem,f14]⟩ (by simp only[go_sem,u]) ⟨o,rfl⟩ h5 (λj U H2 g1 g2=>V _ j U H2 _ g1 ⟨o,rfl⟩ g2)
 ·have c':¬(mc:Int)>1:=Om;rw[aE c]at V;simp only[go_sem,c'];exact fin (.osl o 1 0 1) [(f.1:Int)] f.2 _ _ ⟨by simp only[go_sem,f0],by simp only[go_sem,f1],by simp only[go_sem,f2],by simp only[go_sem,f6],by simp only[go_sem,f7],by simp only[go_sem,f11],by simp only[go_sem,f13],by simp only[go_sem,f14]⟩ (by simp only[go_sem,u]) ⟨o,rfl⟩ h4 (λj U H2 g1 g2=>V _ j U H2 _ g1 ⟨o,rfl⟩ g2)
abbrev sB(l:List dV):List (List PV):=l.map dV.cells
abbrev vD(l:List iY):List (List PV):=l.map iY.cells
theorem xM{rows:List (List PV)}(h:∀r∈rows,∀c∈r,c.oid=none):Flat rows:=Flat.of λr j c e q s rs=>SQ (h r j c e) q s rs
theorem avZ(l:List dN):Flat (mR l):=xM λr j c e=>by
 obtain⟨x,_,rfl⟩:=bhC.1 j;simp only[dN.cells,bgN,bgZ,or_false]at e;rcases e with rfl|rfl|rfl|rfl<;>rfl
theorem awP(l:List eE):Flat (pC l):=xM λr j c e=>by
 obtain⟨x,_,rfl⟩:=bhC.1 j;simp only[eE.cells,bgN,bgZ,or_false]at e;rcases e with rfl|rfl|rfl|rfl<;>rfl
theorem arV(l:List dQ):Flat (pK l):=xM λr j c e=>by
 obtain⟨x,_,rfl⟩:=bhC.1 j;simp only[dQ.cells,bgN,bgZ,or_false]at e;rcases e with rfl|rfl|rfl|rfl|rfl|rfl|rfl<;>rfl
theorem arY(l:List fC):Flat (sN l):=xM λr j c e=>by
 obtain⟨x,_,rfl⟩:=bhC.1 j;simp only[fC.cells,bgN,bgZ,or_false]at e;rcases e with rfl|rfl|rfl<;>rfl
theorem a4B(l:List iY):Flat (vD l):=xM λr j c e=>by
 obtain⟨x,_,rfl⟩:=bhC.1 j;simp only[iY.cells,bgN,bgZ,or_false]at e;rcases e with rfl|rfl<;>rfl
theorem azY(l:List dV):Flat (sB l):=xM λr j c e=>by
 obtain⟨x,_,rfl⟩:=bhC.1 j;simp only[dV.cells,bgN,bgZ,or_false]at e;rcases e with rfl|rfl|rfl|rfl|rfl|rfl|rfl|rfl|rfl|rfl|rfl|rfl|rfl|rfl|rfl|rfl|rfl<;>rfl
theorem aJE(l:List Nat)(mc i:Nat){a:Nat}(h:a≤Z' l):(sI l mc i a).2≤Z' l:=by
 have j:=cG l 9 (RI l (cG l ((aJ l 3 (aJ l 2 a).2).1+1) (cG l 4 (cG l 3 (cG l 2 h)))) (max (aJ l 3 (aJ l 2 a).2).1 1));have e:=cG l mc (BR l (BR l (BR l (BR l j))));unfold sI;simp only;split
 ·split
  ·exact cG l 2 e
  ·exact cG l 2 e
 ·exact e
theorem BK(l:List Nat)(mc:Nat){a:Nat}(h:a≤Z' l):∀k,(fR l mc a k).2≤Z' l∧(fR l mc a k).1.length=k
 |0=>⟨h,rfl⟩
 |k+1=>by obtain⟨e,j⟩:=BK l mc h k;exact⟨aJE l mc k e,by simp only[fR,bgB,bgI,j]⟩
theorem PQ(l:List Nat)(pc:Nat){a:Nat}(h:a≤Z' l):∀k,(iJ l pc a k).2≤Z' l∧(iJ l pc a k).1.length=k
 |0=>⟨h,rfl⟩
 |k+1=>by obtain⟨e,j⟩:=PQ l pc h k;exact⟨cG l pc e,by simp only[iJ,bgB,bgI,j]⟩
theorem acE{C:Ctx}(Lb:tM C){l:List Nat}{v:PV}(T:Tp l v)(E:FE)(mc n a:Nat)(hn:n≤10)(θ:0<mc)(Z:mc≤50)(ha:a≤Z' l)(N:Int)(j u y A:PV)(S:List dN)(U:List eE)(O:List dQ)(R:List fC)(K:cQ)(F:PF)(H:PH)
  (J:PAt E mc n 0 F) (W:aO H (E.boxes v (.int .i64 N) j u y A .aH .aH a) [(j,4,mR S),(u,4,pC U),(y,7,pK O),(A,3,sN R)])
  (hK:∀V F' H',(kP E).le F'→aO H' (E.boxes v (.int .i64 N) j u y A V .aH (fR l mc a n).2) (FE.lists j u y A V S U O R (sB (fR l mc a n).1))→K (.exit 4) F' H') :
  aC.wp C (.loop TV) K F H:=by
 refine wp_loop (α:=Nat × PV × PH) (λt=>Hk E mc n t.1) (λt=>t.2.2) (λt=>t.1≤n∧aO t.2.2 (E.boxes v (.int .i64 N) j u y A t.2.1 .aH (fR l mc a t.1).2) (FE.lists j u y A t.2.1 S U O R (sB (fR l mc a t.1).1))) (λt=>n-t.1) (0,.aH,H) ⟨bgE _,W.oV 17⟩ ?_ b_ ?_
 ·unfold Hk kP
  (repeat' (first|exact c_|refine d_ ?_ ?_))<;>first|(simp only[go_sem,J.f0,J.f1,J.f2,J.f6,J.f7,J.f11,J.f13,J.f14]<;>rfl)|rfl
 rintro⟨i,V,H0⟩ ⟨hi,W⟩;simp only at hi W ⊢;obtain⟨k1,k2⟩:=BK l mc ha i;have I:fR l mc a (i+1)=((fR l mc a i).1++[(sI l mc i (fR l mc a i).2).1],(sI l mc i (fR l mc a i).2).2):=rfl;simp only[go_sem,TV,A1,Hk,kP];by_cases hlt:i<n
 ·have B:(i:Int)<(n:Nat):=Om;generalize hg:fR l mc a i=g at *
  simp only[go_sem,B];refine aUW (C:=C) Lb T E mc n i g.2 k1 Om (.int .i64 N) j u y A V .aH _ _ _ _ H0 ⟨by simp only[go_sem],by simp only[go_sem],by simp only[go_sem],by simp only[go_sem],by simp only[go_sem],by simp only[go_sem],by simp only[go_sem],by simp only[go_sem]⟩ W ?_;intro p F1 H1 γ β X;simp only at X;have ι:sI l mc i g.2=_:=rfl;have Y:=cG l 9 (RI l (cG l ((aJ l 3 (aJ l 2 g.2).2).1+1) (cG l 4 (cG l 3 (cG l 2 k1)))) (max (aJ l 3 (aJ l 2 g.2).2).1 1));refine aUX (C:=C) Lb T E mc n i _ Y θ Z (.int .i64 N) j u y A V S U O R _ (by rw[bfY,k2];omega) _ _ _ _ (mkT 0 1) _ _ _ p _ F1 H1 γ β X ?_;intro M f b ms w e F2 H2 B' δ hw ε;obtain⟨o,rfl⟩:=hw;have hP:sI l mc i g.2=(⟨[112]++dH i,(1+(aJ l 2 g.2).1:Nat),((aJ l 3 (aJ l 2 g.2).2).1:Nat),(1+(aJ l 2 g.2).1+(aJ l ((aJ l 3 (aJ l 2 g.2).2).1+1) (aJ l 4 (aJ l 3 (aJ l 2 g.2).2).2).2).1:Nat),0,M.1.getD 0 0,M.1.getD 1 0,M.1.getD 2 0,M.1.getD 3 0,ms.1,(pR l (aJ l ((aJ l 3 (aJ l 2 g.2).2).1+1) (aJ l 4 (aJ l 3 (aJ l 2 g.2).2).2).2).2 (max (aJ l 3 (aJ l 2 g.2).2).1 1)).1,mkT ((aJ l 9 (pR l (aJ l ((aJ l 3 (aJ l 2 g.2).2).1+1) (aJ l 4 (aJ l 3 (aJ l 2 g.2).2).2).2).2 (max (aJ l 3 (aJ l 2 g.2).2).1 1)).2).1:Nat) 8,mkT ((1+(aJ l 4 (aJ l 3 (aJ l 2 g.2).2).2).1:Nat):Int) 1⟩,ms.2):=rfl;rw[hP]at I;generalize ζ:(⟨[112]++dH i,(1+(aJ l 2 g.2).1:Nat),((aJ l 3 (aJ l 2 g.2).2).1:Nat),(1+(aJ l 2 g.2).1+(aJ l ((aJ l 3 (aJ l 2 g.2).2).1+1) (aJ l 4 (aJ l 3 (aJ l 2 g.2).2).2).2).1:Nat),0,M.1.getD 0 0,M.1.getD 1 0,M.1.getD 2 0,M.1.getD 3 0,ms.1,(pR l (aJ l ((aJ l 3 (aJ l 2 g.2).2).1+1) (aJ l 4 (aJ l 3 (aJ l 2 g.2).2).2).2).2 (max (aJ l 3 (aJ l 2 g.2).2).1 1)).1,mkT ((aJ l 9 (pR l (aJ l ((aJ l 3 (aJ l 2 g.2).2).1+1) (aJ l 4 (aJ l 3 (aJ l 2 g.2).2).2).2).2 (max (aJ l 3 (aJ l 2 g.2).2).1 1)).2).1:Nat) 8,mkT ((1+(aJ l 4 (aJ l 3 (aJ l 2 g.2).2).2).1:Nat):Int) 1⟩:dV)=P at *
  have η:P.beL=ms.1:=by rw[←ζ]
  obtain⟨rs,z1,z2,z3,z4,z5⟩:=ε.frz 5 rfl;have y1:=z4 0 _ aV rfl;have y2:=z4 1 _ aV rfl;have y3:=z4 2 _ aV rfl;have y4:=z4 3 _ aV rfl;have y5:=z4 4 _ aV rfl;simp only at y1 y2 y3 y4 y5;have y0:=T.frz o 1 rs;obtain⟨f0,f1,f2,f6,f7,f11,f13,f14⟩:=δ;simp only[go_sem,A5,f14,wZz i];refine br (i+1,e,H2.frz o 1 rs) z1 ⟨hlt,?_⟩ (by simp only;omega) ?_ b_
  ·rw[I];have eB:(E.boxes v (.int .i64 N) j u y A e .aH ms.2).map (λb=>(b.1,b.2.frz o 1 rs))=E.boxes v (.int .i64 N) j u y A e .aH ms.2:=by show[(E.o,cI.rows 2 [[PV.dM o 1 rs v,.int .i64 ms.2]]),(E.o7,cI.rows 7 [[.int .i64 N,PV.dM o 1 rs j,PV.dM o 1 rs u,PV.dM o 1 rs y,PV.dM o 1 rs A,PV.dM o 1 rs e,.aH]]),(E.o6,flZ)]=_;rw[y0,y1,y2,y3,y4,y5]
   have e5:(sB g.1++[FG P (.osl o 1 0 ms.1.length)]).map (λr=>r.map (PV.dM o 1 rs))=sB (g.1++[P]):=by
    rw[bhM,azY];have:([FG P (.osl o 1 0 ms.1.length)]:List (List PV)).map (λr=>r.map (PV.dM o 1 rs))=[P.cells]:=by show[[PV.str P.name,.int .i64 P.k,.int .i64 P.m,.int .i64 P.bfJ,.int .i64 P.s0,.int .i64 P.s1,.int .i64 P.s2,.int .i64 P.s3,.int .i64 P.s4,PV.dM o 1 rs (.osl o 1 0 ms.1.length),frs P.repair,.bool P.target.neg,aN P.target.num,aN P.target.den,.bool P.beV.neg,aN P.beV.num,aN P.beV.den]]=_;rw[z2,←η];rfl
    rw[this];simp[sB]
   have eL:(FE.lists j u y A e S U O R (sB g.1++[FG P (.osl o 1 0 ms.1.length)])).map (λx=>(x.1,x.2.1,x.2.2.map λr=>r.map (PV.dM o 1 rs)))=FE.lists j u y A e S U O R (sB (g.1++[P])):=by show[(j,4,(mR S).map _),(u,4,(pC U).map _),(y,7,(pK O).map _),(A,3,(sN R).map _),(e,17,(sB g.1++[FG P (.osl o 1 0 ms.1.length)]).map _)]=_;rw[avZ,awP,arV,arY,e5]
   rw[←eB,←eL];exact z5.sub (by rw[bhM];exact bkD ..) (biK.refl _)
  ·(repeat' (first|exact c_|refine d_ ?_ ?_))<;>first|(simp only[go_sem,f0,f1,f2,f6,f7,f11,f13]<;>rfl)|rfl
 ·have B:¬(i:Int)<(n:Nat):=Om;have:i=n:=Om;subst this;simp only[go_sem,B];exact hK V _ _ (js Sq Sq Sq Sq Sq) W
theorem aqN{C:Ctx}(V:tM C){l:List Nat}{v:PV}(T:Tp l v)(E:FE)(pc n a:Nat)(hn:n≤60)(β:pc≤50)(ha:a≤Z' l)(ext B I J M j:PV)(A:List dV)(S:Z' A=pc)(L:List LI)(K:cQ)(F:PF)(H:PH)
  (hF:(((kP E).set 18 (.int .i64 n)).set 19 (.int .i64 0)).le F) (x:aO H (E.boxes v ext B I J M j .aH a) ((j,17,sB A)::L))
  (hK:∀w U H',(kP E).le U→aO H' (E.boxes v ext B I J M j w (iJ l pc a n).2) ((j,17,sB A)::L++[(w,2,vD (iJ l pc a n).1)])→K (.exit 8) U H') :
  aC.wp C (.loop TW) K F H:=by
 refine wp_loop (α:=Nat × PV × PH) (λt=>((kP E).set 18 (.int .i64 n)).set 19 (.int .i64 t.1)) (λt=>t.2.2) (λt=>t.1≤n∧aO t.2.2 (E.boxes v ext B I J M j t.2.1 (iJ l pc a t.1).2) ((j,17,sB A)::L++[(t.2.1,2,vD (iJ l pc a t.1).1)])) (λt=>n-t.1) (0,.aH,H) ⟨bgE _,x.oV 2⟩ hF b_ ?_;rintro⟨i,w,H0⟩ ⟨hi,x⟩;simp only at hi x ⊢;obtain⟨k1,k2⟩:=PQ l pc ha i;have y:iJ l pc a (i+1)=((iJ l pc a i).1++[⟨[118]++dH i,((aJ l pc (iJ l pc a i).2).1:Nat)⟩],(aJ l pc (iJ l pc a i).2).2):=rfl;simp only[go_sem,TW,A8,kP];by_cases hlt:i<n
 ·have u:(i:Int)<(n:Nat):=Om;generalize hg:iJ l pc a i=g at *
  have X:=x.set 0 rfl (bU v (aJ l pc g.2).2);generalize O:aJ l pc g.2=z at *
  have Z:=x.at 1 rfl;have Y:=(x.own 0 rfl).AW;rw[bfY,S]at Y;have N:(PH.nil.set E.o7 (flB ext B I J M j w)).le H0:=e_ a_ Z;simp only[go_sem,u];refine bA (PH.nil.set E.o7 (flB ext B I J M j w)) (mkS l v) N ?_;simp only[go_sem,A9];refine RY V.toAL (s:=[118]) (n:=i) aV Om rfl N ?_;simp only[go_sem,Y];refine yX V.toKL T (o:=E.o) (n:=pc) (a:=g.2) Om k1 rfl (x.at 0 rfl) ?_ ?_
  ·rw[O];exact e_ a_ (X.at 1 rfl)
  rw[O];have R:(1:Nat)*2≤16777216:=by decide
  simp only[go_sem,R,bgN,bgZ,or_false,forall_eq,forall_eq_or_imp];refine X.append (v:=w) (s:=2) (rows:=vD g.1) (Z' L+1) (src:=[(⟨[118]++dH i,(z.1:Nat)⟩:iY).cells]) aY rfl (by unfold roomFor;rw[bfY];simp only[bgI,maxLen];omega) λw' H2 h5 hw=>?_;obtain⟨q,rfl⟩:=hw aY;rw[show((j,17,sB A)::L++[(w,2,vD g.1)])=((j,17,sB A)::L)++[(w,2,vD g.1)]from rfl,bjU _ _ aY,show L.length+1-((j,17,sB A)::L).length=0 by simp]at h5;have W:=h5.at 1 rfl;refine⟨e_ a_ W,?_⟩;refine bA .nil cK a_ ?_;simp only[go_sem,Ba,W,bgN,bgZ,or_false,forall_eq];have h6:=h5.set 1 rfl (flB ext B I J M j (.osl q 2 0 (vD g.1++[(⟨[118]++dH i,(z.1:Nat)⟩:iY).cells]).length));refine⟨a_,?_⟩;simp only[go_sem,Bb,wZz i];refine aG (i+1,.osl q 2 0 (vD g.1++[(⟨[118]++dH i,(z.1:Nat)⟩:iY).cells]).length,_) ⟨hlt,?_⟩ (by simp only;omega) ?_ b_
  ·rw[y];have e:vD (g.1++[⟨[118]++dH i,(z.1:Nat)⟩])=vD g.1++[(⟨[118]++dH i,(z.1:Nat)⟩:iY).cells]:=by simp[vD]
   simp only;rw[e];exact h6
  ·exact Lq
 ·have u:¬(i:Int)<(n:Nat):=Om;have:i=n:=Om;subst this;simp only[go_sem,u];exact hK w _ _ (js rfl rfl rfl rfl rfl) x
def ZF(l:List Nat)(v:PV)(o beK beM a:Nat)(r:PV)(H:PH):Prop:=Co r (.agg (lO l beK beM a).1.cells)∧H=PH.nil.set o (bU v (lO l beK beM a).2)
structure Vf(C:Ctx):Prop extends tM C where
 grow:∀(l:List Nat)(v:PV),Tp l v→∀(mc beK:Nat),0<mc→mc≤1000→beK≤60→yc C l v mc beK 4
theorem aNJ{C:Ctx}(R:Vf C){l:List Nat}{v:PV}(T:Tp l v)(o beK beM a:Nat)(Δ:beK≤60)(Ψ:beM≤50)(ha:a≤Z' l) :
  NK.wp C (aW acF.res (ZF l v o beK beM a)) (PF.args [.ptr o 2 0 0,.int .i64 beK,.int .i64 beM]) (PH.nil.set o (bU v a)):=by
 have hT:lO l beK beM a=lO l beK beM a:=rfl
 conv at hT=>rhs;unfold lO
 dsimp only at hT;have hR:∀r H,ZF l v o beK beM a r H↔Co r (.agg (lO l beK beM a).1.cells)∧H=PH.nil.set o (bU v (lO l beK beM a).2):=λ_ _=>Iff.rfl;have ne:=dT l (show 0<2 by decide) a;have ae:=cG l 2 ha;generalize he:aJ l 2 a=e at *
 have Ω:=dT l (show 0<2 by decide) e.2;have ζ:=cG l 2 ae;generalize Θ:aJ l 2 e.2=O at *
 obtain⟨S,δ⟩:=TM l ζ (1+O.1);generalize α:mB l O.2 (1+O.1)=beS at *
 have a':=dT l (show 0<2 by decide) beS.2;have η:=cG l 2 S;generalize Λ:aJ l 2 beS.2=u at *
 obtain⟨U,Y⟩:=GL l (1+O.1) η (1+u.1);generalize W:iD l (1+O.1) u.2 (1+u.1)=beL at *
 have κ:GOk l beK ⟨[sC],[],beL.2⟩:=⟨by simp,bgE _,U⟩;obtain⟨hG,-⟩:=TB (mc:=1+u.1) 4 0 κ;generalize hg:jF l (1+u.1) beK 4 0 ⟨[sC],[],beL.2⟩=g at *
 have b':=dT l (show 0<2 by decide) g.a;have θ:=cG l 2 hG.a;generalize Φ:aJ l 2 g.a=pl at *
 obtain⟨V,ε⟩:=BK l (1+u.1) θ (1+pl.1);generalize β:fR l (1+u.1) pl.2 (1+pl.1)=pols at *
 have c':=dT l (Om:0<beM+1) pols.2;have σ:=cG l (beM+1) V;generalize ο:aJ l (beM+1) pols.2=vo at *
 generalize γ:iJ l (1+pl.1) vo.2 vo.1=vols at *
 have ee:IntKind.i64.wrap (1+(e.1:Int))=((1+e.1:Nat):Int):=by rw[wrap_i64 Om Om];omega
 have τ:IntKind.i64.wrap (1+(O.1:Int))=((1+O.1:Nat):Int):=by rw[wrap_i64 Om Om];omega
 have υ:IntKind.i64.wrap (1+(u.1:Int))=((1+u.1:Nat):Int):=by rw[wrap_i64 Om Om];omega
 have χ:IntKind.i64.wrap (1+(pl.1:Int))=((1+pl.1:Nat):Int):=by rw[wrap_i64 Om Om];omega
 have ψ:IntKind.i64.wrap ((beM:Int)+1)=((beM+1:Nat):Int):=eT Om;have h0:aO (PH.nil.set o (bU v a)) [(o,bU v a)] []:=aO.nil.new (H:=PH.nil) rfl (bU v a);simp only[go_sem,NK,Li,acF];refine aQ λo6 μ=>?_;have w:=h0.new μ flZ;simp only[go_sem,Lj];refine eY R.toKL T (o:=o) (n:=2) (a:=a) aV ha rfl (w.at 0 rfl) ?_;have A:=w.set 0 rfl (bU v e.2);rw[he];simp only[go_sem,ee];refine aQ λo7 ν=>?_;have J:=A.new ν (flB (.int .i64 (1+e.1:Nat)) .aH .aH .aH .aH .aH .aH);simp only[go_sem,Lk,bgN,bgZ,or_false,forall_eq,forall_eq_or_imp];refine eY R.toKL T (o:=o) (n:=2) (a:=e.2) aV ae rfl (J.at 0 rfl) ?_;have h4:=J.set 0 rfl (bU v O.2);rw[Θ];have h5:=h4.perm (B':=FE.boxes ⟨o,o6,o7,beK,beM⟩ v (.int .i64 (1+e.1:Nat)) .aH .aH .aH .aH .aH .aH O.2) (L':=[]) (biT.cons _ (biT.swap _ _ _)) (biT.refl _);obtain⟨E,j⟩:∃E:FE,E=⟨o,o6,o7,beK,beM⟩:=⟨_,rfl⟩;rw[←j]at h5;simp only[go_sem,τ,Ll];refine aUV (C:=C) R.totM T E (1+O.1) O.2 Om ζ _ _ _ _ ?_ h5 ?_
 ·rw[j];unfold kP;exact Lq
 clear h5 h4 J A w h0 μ ν;intro y F1 H1 K w;rw[α]at w;have f0:F1 0=some (.ptr o 2 0 0):=K 0 _ (by rw[j];unfold kP;simp only[go_sem]);have f1:F1 1=some (.int .i64 beK):=K 1 _ (by rw[j];unfold kP;simp only[go_sem]);have f2:F1 2=some (.int .i64 beM):=K 2 _ (by rw[j];unfold kP;simp only[go_sem]);have f6:F1 6=some (.ptr o6 7 0 0):=K 6 _ (by rw[j];unfold kP;simp only[go_sem]);have f7:F1 7=some (.ptr o7 7 0 0):=K 7 _ (by rw[j];unfold kP;simp only[go_sem]);have Z:=w.at 0 rfl;rw[j]at Z;simp only[go_sem,Aq,f0];refine eY R.toKL T (o:=o) (n:=2) (a:=beS.2) aV S rfl Z ?_;have A:=w.set 0 rfl (bU v u.2);rw[Λ];simp only[go_sem,υ,Ar];refine aHZ (C:=C) R.totM T E (1+u.1) u.2 (1+O.1) Om Om η (.int .i64 (1+e.1:Nat)) y beS.1 δ _ _ _ ?_ (by rw[j]at A ⊢;exact A) ?_
 ·rw[j];unfold kP;exact Lq
 clear Z A w f0 f1 f2 f6 f7 K;intro w2 F2 H2 M f11 A;rw[W]at A;have f0:F2 0=some (.ptr o 2 0 0):=M 0 _ (by rw[j];unfold kP;simp only[go_sem]);have f1:F2 1=some (.int .i64 beK):=M 1 _ (by rw[j];unfold kP;simp only[go_sem]);have f2:F2 2=some (.int .i64 beM):=M 2 _ (by rw[j];unfold kP;simp only[go_sem]);have f6:F2 6=some (.ptr o6 7 0 0):=M 6 _ (by rw[j];unfold kP;simp only[go_sem]);have f7:F2 7=some (.ptr o7 7 0 0):=M 7 _ (by rw[j];unfold kP;simp only[go_sem]);obtain⟨qm,ξ⟩:=(A.own 1 rfl).one (by rw[bfY];omega);rw[bfY,Y]at ξ;subst ξ;have ω:(1:Nat)*7≤16777216:=by decide
 simp only[go_sem,Ax];refine aB (R.int 0 (by unfold eX;omega)) rfl ?_;simp only[go_sem,bgN,bgZ,or_false,forall_eq,forall_eq_or_imp,ω];refine aQ λod Ξ=>?_;have J:=A.Ib (s:=7) (rows:=pK [sC]) Ξ;have b7:=A.at 1 rfl;rw[j]at b7;have n7:¬o7=od:=by have:=J.neL 1 2 rfl rfl rfl;rw[j]at this;exact this
 simp only[go_sem,f7,b7,n7,bgN,bgZ,or_false,forall_eq];have h4:=(J.set 1 rfl (flB (.int .i64 (1+e.1:Nat)) y (.osl qm 4 0 (1+u.1)) (.osl od 7 0 1) .aH .aH .aH)).oV 3;rw[j]at h4;have h5:=h4.perm (B':=(GE.mk o o7 qm (.int .i64 (1+e.1:Nat)) y .aH .aH).boxes v (1+u.1) (.osl od 7 0 1) .aH beL.2++[(o6,flZ)]) (L':=sA ⟨[sC],[],beL.2⟩ (.osl od 7 0 1) .aH++[(y,4,mR beS.1),(.osl qm 4 0 (1+u.1),4,pC beL.1)]) (biT.refl _)
  (List.perm_append_comm (l₁:=[(y,4,mR beS.1),(.osl qm 4 0 (1+u.1),4,pC beL.1)]) (l₂:=sA ⟨[sC],[],beL.2⟩ (.osl od 7 0 1) .aH))
 simp only[go_sem,Ay,f0,f1,f7];refine PY h5 (λH0 Γ=>R.grow l v T (1+u.1) beK Om Om Δ (GE.mk o o7 qm (.int .i64 (1+e.1:Nat)) y .aH .aH) (.osl od 7 0 1) .aH ⟨[sC],[],beL.2⟩ 0 sC κ rfl rfl H0 Γ) (by simp only[go_sem,f0,f1,f7];rfl) ?_;rintro r B' L' H3 ⟨rfl,F,I,rfl,rfl⟩ h6;rw[hg]at h6;have h7:=h6.perm (B':=E.boxes v (.int .i64 (1+e.1:Nat)) y (.osl qm 4 0 (1+u.1)) F I .aH .aH g.a) (L':=[(y,4,mR beS.1),(.osl qm 4 0 (1+u.1),4,pC beL.1),(F,7,pK g.beU),(I,3,sN g.bfE)]) (by rw[j];exact biT.refl _)
  (List.perm_append_comm (l₁:=sA g F I) (l₂:=[(y,4,mR beS.1),(.osl qm 4 0 (1+u.1),4,pC beL.1)]))
 have Z:=h7.at 0 rfl;rw[j]at Z;simp only[go_sem,Az,f0];refine eY R.toKL T (o:=o) (n:=2) (a:=g.a) aV hG.a rfl Z ?_;have h8:=h7.set 0 rfl (bU v pl.2);rw[Φ];simp only[go_sem,χ,A0];refine acE (C:=C) R.totM T E (1+u.1) (1+pl.1) pl.2 Om Om Om θ ((1+e.1:Nat):Int) y (.osl qm 4 0 (1+u.1)) F I beS.1 beL.1 g.beU g.bfE _ _ _ (by rw[j];exact⟨by simp only[go_sem,f0],by simp only[go_sem,f1],by simp only[go_sem,f2],by simp only[go_sem,f6],by simp only[go_sem,f7],by simp only[go_sem,f11],by simp only[go_sem],by simp only[go_sem];rfl⟩) (by rw[j]at h8 ⊢;exact h8) ?_;clear h8 h7 h6 h5 h4 J A Z b7 f0 f1 f2 f6 f7 M;intro w5 F4 H4 N w;rw[β]at w;have f0:F4 0=some (.ptr o 2 0 0):=N 0 _ (by rw[j];unfold kP;simp only[go_sem]);have f1:F4 1=some (.int .i64 beK):=N 1 _ (by rw[j];unfold kP;simp only[go_sem]);have f2:F4 2=some (.int .i64 beM):=N 2 _ (by rw[j];unfold kP;simp only[go_sem]);have f6:F4 6=some (.ptr o6 7 0 0):=N 6 _ (by rw[j];unfold kP;simp only[go_sem]);have f7:F4 7=some (.ptr o7 7 0 0):=N 7 _ (by rw[j];unfold kP;simp only[go_sem]);have Z:=w.at 0 rfl;rw[j]at Z;simp only[go_sem,A6,f0,f2,ψ];refine eY R.toKL T (o:=o) (n:=beM+1) (a:=pols.2) Om V rfl Z ?_;have A:=w.set 0 rfl (bU v vo.2);rw[ο];have J:=A.perm (B':=E.boxes v (.int .i64 (1+e.1:Nat)) y (.osl qm 4 0 (1+u.1)) F I w5 .aH vo.2) (L':=(w5,17,sB pols.1)::[(y,4,mR beS.1),(.osl qm 4 0 (1+u.1),4,pC beL.1),(F,7,pK g.beU),(I,3,sN g.bfE)]) (biT.refl _)
  (List.perm_append_comm (l₁:=[(y,4,mR beS.1),(.osl qm 4 0 (1+u.1),4,pC beL.1),(F,7,pK g.beU),(I,3,sN g.bfE)]) (l₂:=[(w5,17,sB pols.1)]))
 simp only[go_sem,A7];refine aqN (C:=C) R.totM T E (1+pl.1) vo.1 vo.2 Om Om σ _ _ _ _ _ w5 pols.1 ε _ _ _ _ ?_ (by rw[j]at J ⊢;exact J) ?_
 ·rw[j];unfold kP;exact Lq
 clear J A w Z f0 f1 f2 f6 f7 N;intro w6 F5 H5 ι w;rw[γ]at w;have f6:F5 6=some (.ptr o6 7 0 0):=ι 6 _ (by rw[j];unfold kP;simp only[go_sem]);have f7:F5 7=some (.ptr o7 7 0 0):=ι 7 _ (by rw[j];unfold kP;simp only[go_sem]);rw[j]at w;have b7:=w.at 1 rfl;have b6:=w.at 2 rfl;have one:∀(x:PV),x∈[y,F,I,w5,w6]→(∃q s n,x=.osl q s 0 n)∨x=.aH:=by
  intro x hx;have X:∀{s:Nat}{rows:List (List PV)},bH H5 s x rows→(∃q s n,x=.osl q s 0 n)∨x=.aH:=by
   rintro s rows (⟨_,h⟩|⟨q,rs,h,_⟩)
   ·exact .inr h
   ·exact .inl ⟨q,s,_,h⟩
  simp only[bgN,bgZ,or_false]at hx;rcases hx with rfl|rfl|rfl|rfl|rfl
  ·exact X (w.own 1 rfl)
  ·exact X (w.own 3 rfl)
  ·exact X (w.own 4 rfl)
  ·exact X (w.own 0 rfl)
  ·exact X (w.own 5 rfl)
 have B:∀(x:PV),x∈[y,F,I,w5,w6]→PV.one x=true:=λx hx=>by rcases one x hx with⟨q,s,n,rfl⟩|rfl<;>rfl
 have o1:=B y aY;have o3:=B F aY;have o4:=B I aY;have o5:=B w5 aY;have ρ:=B w6 aY;simp only[PV.one]at o1 o3 o4 o5 ρ;simp only[go_sem,Bc,f6,f7,b7,b6,bgN,bgZ,or_false,forall_eq,forall_eq_or_imp,o1,o3,o4,o5,ρ];have A:=w.set 2 rfl (flB (.int .i64 (1+e.1:Nat)) y (.osl qm 4 0 (1+u.1)) F I w5 w6);have J:=A.sub (B':=[(o,bU v vols.2)]) (biK.cons_cons _ (List.nil_sublist _)) (biK.refl _);obtain⟨φ,H6,k1,k2,k3,k4⟩:=aO.giveUp _ J (λx hx=>by
  simp only[bjR,bjH,bgN,bgZ,or_false]at hx;rcases hx with rfl|rfl|rfl|rfl|rfl|rfl
  ·exact azY _
  ·exact avZ _
  ·exact awP _
  ·exact arV _
  ·exact arY _
  ·exact a4B _) (λb hb q s rs=>by
  simp only[bgN,bgZ,or_false]at hb;subst hb;simp only[cI.frz,bhJ,biS,T.frz];rfl)
 refine pU (vs:=[.agg [.int .i64 (1+e.1:Nat),y,.osl qm 4 0 (1+u.1),F,I,w5,w6]]) (.inr rfl) (by simp only[go_sem,f6]) (k4 _ _ (.done (H2:=PH.nil.set o (bU v vols.2)) ?_ (e_ a_ (k3.at 0 rfl))));rw[hR,hT];refine⟨CoL.agg ?_,rfl⟩;have s5:=k1 (w5,17,sB pols.1) aY;have s1:=k1 (y,4,mR beS.1) aY;have s2:=k1 (.osl qm 4 0 (1+u.1),4,pC beL.1) aY;have s3:=k1 (F,7,pK g.beU) aY;have s4:=k1 (I,3,sN g.bfE) aY;have s6:=k1 (w6,2,vD vols.1) aY;have s0:φ (.int .i64 (1+e.1:Nat))=.int .i64 (1+e.1:Nat):=k2 _ rfl;show CoL [φ (.int .i64 (1+e.1:Nat)),φ y,φ (.osl qm 4 0 (1+u.1)),φ F,φ I,φ w5,φ w6] _;rw[s0];exact CoL.cons (.refl _) (CoL.cons s1.co (CoL.cons s2.co (CoL.cons s3.co (CoL.cons s4.co (CoL.cons s5.co (CoL.cons s6.co .nil))))))
structure aLM(C:Ctx):Prop extends Vf C where
 new:∀(l:List Nat),(∀x∈l,x<256)→Z' l≤9223372036854775807→aI C 28 [.sl 1 (pA l)] .nil (Gh l)
 fleet:∀(l:List Nat)(v:PV),Tp l v→∀(o beK beM a:Nat),beK≤60→beM≤50→a≤Z' l →
  aI C 0 [.ptr o 2 0 0,.int .i64 beK,.int .i64 beM] (PH.nil.set o (bU v a)) (λr H=>r=.agg (lO l beK beM a).1.cells∧H=PH.nil.set o (bU v (lO l beK beM a).2))
theorem ZF.exact{C:Ctx}{name:Nat}{args:List PV}{H:PH}{l:List Nat}{v:PV}{o beK beM a:Nat}(h:aI C name args H (ZF l v o beK beM a)):aI C name args H (λr H=>r=.agg (lO l beK beM a).1.cells∧H=PH.nil.set o (bU v (lO l beK beM a).2)):=
 h.post λr H' e=>⟨_,e.1,rfl,e.2⟩
theorem aNI{C:Ctx}(y:aLM C)(l:List Nat)(hb:∀x∈l,x<256)(B:Z' l≤9223372036854775807)(beK beM:Nat)(j:beK≤60)(w:beM≤50) :
  NI.wp C (aW abL.res (cT (.agg (lO (l.take 400) beK beM 0).1.cells))) (PF.args [.sl 1 (pA l),.int .i64 beK,.int .i64 beM]) .nil:=by
 simp only[go_sem,NI,Lc,abL];refine aQ λo6 E=>?_;simp only[go_sem,Ld];refine eR (y.new l hb B) rfl a_ ?_;rintro r H' ⟨o,v,rfl,T,rfl⟩ A;have u:¬o6=o:=by intro e;subst e;have:=A o6 (bU v 0) (by rw[aR,aL rfl]) rfl;rw[aR,aL rfl]at this;cases this
 rw[PH.tU];simp only[go_sem];refine rI (y.fleet _ v T o beK beM 0 j w (bgE _)) (by rw[aR,aL rfl]) rfl ?_;simp only[go_sem,u];exact bB (vs:=[.agg (lO (l.take 400) beK beM 0).1.cells]) (.inr rfl) .nil Sq a_ ⟨.refl _,rfl⟩
theorem CoL.aVR:CoL [] []:=⟨rfl,λj p q h=>by simp at h⟩
theorem CoL.KM{p q:PV}{ps l:List PV}(h:Co p q)(e:CoL ps l):CoL (p::ps) (q::l):=by
 refine⟨by simp[e.len],λj x y a b=>?_⟩;cases j with
 |zero =>simp only[List.getElem?_cons_zero,biQ.injEq]at a b;subst a;subst b;exact h
 |succ j=>exact e.at_ j x y (by simpa using a) (by simpa using b)
theorem aI.seen{C:Ctx}{name:Nat}{args:List PV}{H:PH}{v:PV}(h:aI C name args H (cT v)):aI C name args H (aK v):=
 h.post λr H' e=>⟨v,e.1,rfl,e.2⟩
def j9(x:RF):Bool:=(x.num.all (λn=>decide (n<4294967296))&&x.den.all λn=>decide (n<4294967296))&&(decide (Z' x.num≤9)&&decide (Z' x.den≤9))
theorem VS{x:RF}(h:j9 x=true):x.Ok:=by
 simp only[j9,bgU,bgY,decide_eq_true_eq]at h;exact⟨h.1.1,h.1.2,by omega,by omega⟩
def RK(l:List RF):Bool:=decide (Z' l≤9)&&l.all j9
theorem LP{l:List RF}(h:RK l=true):pD l:=by
 simp only[RK,bgU,bgY,decide_eq_true_eq]at h;exact⟨by unfold Fits;omega,λx e=>VS (h.2 x e)⟩
def aaS(x:dN):Bool:=(RK x.start&&RK x.exit)&&(decide (Z' x.beP≤9)&&x.beP.all RK)
theorem aNB{x:dN}(h:aaS x=true):x.Ok:=by
 simp only[aaS,bgU,bgY,decide_eq_true_eq]at h;exact⟨LP h.1.1,LP h.1.2,by unfold Fits;omega,λr e=>LP (h.2.2 r e)⟩
def agL(x:dV):Bool:=(decide (eX x.k∧eX x.m∧eX x.bfJ)&&(decide (Z' x.beL≤9)&&x.beL.all λm=>decide (eX m)))&&(RK x.repair&&(j9 x.target&&j9 x.beV))
theorem aPB{x:dV}(h:agL x=true):x.Ok:=by
 simp only[agL,bgU,bgY,decide_eq_true_eq]at h;exact⟨h.1.1.1,h.1.1.2.1,h.1.1.2.2,by unfold Fits;omega,h.1.2.2,LP h.2.1,VS h.2.2.1,VS h.2.2.2⟩
def okB(f:aD):Bool:=(decide (Z' f.beS≤99∧Z' f.beL≤99∧Z' f.beN≤99∧Z' f.beK≤99∧Z' f.beO≤99∧Z' f.beM≤99)&&(f.beS.all aaS&&f.beO.all agL)) &&
 (f.beN.all (λx=>j9 x.bfA&&decide (eX x.level∧eX x.parent))&&(f.beK.all (λx=>decide (eX x.model∧eX x.machine))&&f.beM.all λx=>decide (eX x.beX)))
theorem a5V{f:aD}(h:okB f=true):f.Ok:=by
 simp only[okB,bgU,bgY,decide_eq_true_eq]at h;obtain⟨⟨⟨y,A,B,E,F,I⟩,l,u⟩,j,w,h5⟩:=h;exact⟨by unfold Fits;omega,by unfold Fits;omega,by unfold Fits;omega,by unfold Fits;omega,by unfold Fits;omega,by unfold Fits;omega,λx e=>aNB (l x e),λx e=>⟨VS (j x e).1,(j x e).2⟩,w,λx e=>aPB (u x e),h5⟩
noncomputable def iU:aD:={ (lO [] 1 0 0).1 with beM:=[⟨[118,48],0⟩] }
theorem oE:dU iU=true:=by decide +kernel
theorem AA:iU.Ok:=a5V (by decide +kernel)
theorem aqV:sS iU [[0]] []=true:=by
 unfold sS uT;rw[oE,aL rfl,aL (by decide +kernel)];decide +kernel
def jD:=bO [43] Proofs.Tryz.f166
def R7:=aA jD 0
def R8:=aA jD 1
def R9:=aA jD 2
def Sa:=aA jD 3
def Sb:=aA jD 4
def Sd:=aA jD 5
def Se:=aA jD 6
def Sf:=aA jD 7
def gs:=aA jD 8
def gt:=aA jD 9
def XD:=aA jD 10
def XE:=aA jD 11
def XF:=aA jD 12
def HC:=aA jD 13
def HD:=aA jD 14
def D3:aC:=(dD Sb 13 0 HD (sq Sd (jA Se 20 (.region Sf) (sq gs (sq gt (jA XD 35 (sq XE (.region XF)) (.region HC)))))))
def D4:=aA jD 15
def PK:aC:=(sq R7 (sq R8 (sq R9 (.seq (cE Sa 0 D3) (sq D4 .ret)))))
def anJ:aX:=⟨2,47,PK,[.tmp 4]⟩
def lI:=bO [51] Proofs.Tryz.f171
def anL:=aA lI 0
def anM:=aA lI 1
def anN:=aA lI 2
def anO:=aA lI 3
def anP:=aA lI 4
def xp:=aA lI 5
def xq:=aA lI 6
def xr:=aA lI 7
def XH:=aA lI 8
def XI:=aA lI 9
def MN:=aA lI 10
def MO:=aA lI 11
def MP:=aA lI 12
def Sg:aC:=(dD anP 22 0 MP (sq xp (jA xq 29 (.region xr) (jA XH 40 (.region XI) (sq MN (.region MO))))))
def gx:=aA lI 13
def XG:aC:=(sq anL (sq anM (sq anN (.seq (cE anO 0 Sg) (sq gx .ret)))))
def aKL:aX:=⟨2,57,XG,[.tmp 4]⟩
def kI:=bO [] Proofs.Tryz.f165
def Sh:=aA kI 0
def Si:=aA kI 1
def Sj:=aA kI 2
def Sk:=aA kI 3
def ia:=aA kI 4
def ib:=aA kI 5
def Sl:=aA kI 6
def Sm:=cA kI 0
def Sn:=aA kI 7
def So:=aA kI 8
def D7:=aA kI 9
def XJ:aC:=(dD Sl 25 2 D7 (dq Sm (sq Sn (.region So))))
def XK:=aA kI 10
def D8:=aA kI 11
def D6:aC:=(dD Sk 19 0 D8 (sq ia (.seq (cE ib 2 XJ) (.region XK))))
def D9:=aA kI 12
def PL:aC:=(sq Sh (sq Si (.seq (cE Sj 0 D6) (sq D9 .ret))))
def anQ:aX:=⟨2,68,PL,[.tmp 4]⟩
def wQ:=bO [] Proofs.Tryz.f155
def aCC:=aA wQ 0
def aCD:=aA wQ 1
def I6:=aA wQ 2
def aCE:=aA wQ 3
def aCF:=aA wQ 4
def aCG:=aA wQ 5
def aCH:=aA wQ 6
def gl:aC:=(sq aCC (dA aCD 12 I6 (sq aCE (dA aCF 19 aCG (sq aCH .ret)))))
def aXQ:aX:=⟨2,21,gl,[.tmp 4,.tmp 5]⟩
def AE:=bO [] Proofs.Tryz.f157
def aDM:=aA AE 0
def aDN:=aA AE 1
def Jb:=aA AE 2
def aDO:=aA AE 3
def aDP:=aA AE 4
def aDQ:=aA AE 5
def gz:aC:=(sq aDM (dA aDN 11 Jb (dA aDO 15 aDP (sq aDQ .ret))))
def aYF:aX:=⟨2,21,gz,[.tmp 4,.tmp 5]⟩
def wS:=bO [] Proofs.Tryz.f158
def aDG:=aA wS 0
def aDH:=aA wS 1
def Ja:=aA wS 2
def aDI:=aA wS 3
def aDJ:=aA wS 4
def aDK:=aA wS 5
def aDL:=aA wS 6
def gv:aC:=(sq aDG (dA aDH 12 Ja (sq aDI (dA aDJ 19 aDK (sq aDL .ret)))))
def aXY:aX:=⟨2,21,gv,[.tmp 4,.tmp 5]⟩
def pI:=bO [] Proofs.Tryz.f163
def amJ:=aA pI 0
def amK:=aA pI 1
def amL:=aA pI 2
def amM:=aA pI 3
def amN:=aA pI 4
def amO:=aA pI 5
def amP:=aA pI 6
def amQ:=aA pI 7
def amR:=aA pI 8
def amI:aC:=(dD amP 21 0 amR (.region amQ))
def R2:=aA pI 9
def WX:aC:=(sq amJ (sq amK (dA amL 9 amM (sq amN (.seq (cE amO 0 amI) (sq R2 .ret))))))
def aKD:aX:=⟨1,27,WX,[.tmp 2]⟩
def qH:=bO [35,42] Proofs.Tryz.f164
def aQY:=aA qH 0
def aQZ:=aA qH 1
def aRA:=aA qH 2
def aRB:=aA qH 3
def aRC:=aA qH 4
def aRD:=aA qH 5
def aRE:=aA qH 6
def aRF:=aA qH 7
def aRG:=aA qH 8
def aRH:=aA qH 9
def aDS:=aA qH 10
def aDR:aC:=(dD aRE 18 0 aDS (sq aRF (sq aRG (.region aRH))))
def aDT:=aA qH 11
def xu:aC:=(sq aQY (dA aQZ 11 aRA (sq aRB (sq aRC (.seq (cE aRD 0 aDR) (sq aDT .ret))))))
def uup:aX:=⟨2,45,xu,[.tmp 4]⟩
def mZ:=bO [47] Proofs.Tryz.f167
def amX:=aA mZ 0
def amY:=aA mZ 1
def amZ:=aA mZ 2
def anA:=aA mZ 3
def anB:=aA mZ 4
def anC:=aA mZ 5
def anD:=aA mZ 6
def anE:=aA mZ 7
def anF:=aA mZ 8
def xo:=aA mZ 9
def gq:=aA mZ 10
def R3:aC:=(dD anC 18 0 gq (sq anD (jA anE 30 (.region anF) (.region xo))))
def R4:=aA mZ 11
def XB:aC:=(sq amX (dA amY 12 amZ (sq anA (.seq (cE anB 0 R3) (sq R4 .ret)))))
def aKH:aX:=⟨2,51,XB,[.tmp 4]⟩
def pi:=bO [1] Proofs.Tryz.f67
def S8:=aA pi 0
def S9:=aA pi 1
def PU:aC:=(sq S8 (sq S9 .ret))
def aoZ:aX:=⟨1,22,PU,[.tmp 2]⟩
def pg:=bO [1] Proofs.Tryz.f172
def Ss:=aA pg 0
def St:=aA pg 1
def PP:aC:=(sq Ss (sq St .ret))
def aoF:aX:=⟨1,13,PP,[.tmp 2]⟩
def HE:=bO [1] Proofs.Tryz.f156
def aoA:=aA HE 0
def aoB:=aA HE 1
def aoC:=aA HE 2
def aoD:=aA HE 3
def XM:aC:=(sq aoA (dA aoB 5 aoC (sq aoD .ret)))
def aKR:aX:=⟨1,8,XM,[.cell 2 (some 3),.tmp 3]⟩
def BV:=bO [1] Proofs.Tryz.f105
def Ek:=aA BV 0
def El:=aA BV 1
def Em:=aA BV 2
def En:=aA BV 3
def KB:aC:=(sq Ek (dA El 6 Em (sq En .ret)))
def Jf:aX:=⟨1,15,KB,[.cell 2 (some 3),.tmp 3]⟩
def PT:=bO [] Proofs.Tryz.f140
def S5:=aA PT 0
def S6:=aA PT 1
def S7:=aA PT 2
def PS:aC:=(sq S5 (sq S6 (sq S7 .ret)))
def aoY:aX:=⟨2,14,PS,[.tmp 4]⟩
def nO:=bO [2,3] Proofs.Tryz.f104
def Su:=aA nO 0
def Sv:=cA nO 0
def Sw:=aA nO 1
def Sx:=aA nO 2
def Sy:=aA nO 3
def Sz:=aA nO 4
def S0:=aA nO 5
def S1:=aA nO 6
def S3:=aA nO 7
def S4:=aA nO 8
def PR:aC:=(sq Su (dq Sv (sq Sw (.seq (.block 0 (sq Sx (.cond (Tm 33) (sq Sy .ret) (sq Sz (.cond (Tm 39) (sq S0 .ret) (sq S1 (.cond (Tm 45) (sq S3 .ret) .skip))))))) (sq S4 .ret)))))
def aoO:aX:=⟨2,53,PR,[.tmp 4]⟩
def Ec:=bO [2,3] Proofs.Tryz.f108
def aoG:=aA Ec 0
def aoH:=aA Ec 1
def XO:aC:=(sq aoG (sq aoH .ret))
def aKU:aX:=⟨2,9,XO,[.tmp 4]⟩
def Eo:=bO [2,3] Proofs.Tryz.f102
def aoP:=aA Eo 0
def aoQ:=aA Eo 1
def XS:aC:=(sq aoP (sq aoQ .ret))
def aKX:aX:=⟨2,9,XS,[.tmp 4]⟩
def Ep:=bO [1] Proofs.Tryz.f68
def aoR:=aA Ep 0
def aoS:=cA Ep 0
def XT:aC:=(sq aoR (dq aoS .ret))
def aKY:aX:=⟨1,6,XT,[.tmp 2]⟩
def oT:=bO [2,3] Proofs.Tryz.f139
def aDU:=aA oT 0
def aDV:=aA oT 1
def Jc:=aA oT 2
def aDW:=cA oT 0
def aDX:=aA oT 3
def aDY:=aA oT 4
def aDZ:=aA oT 5
def aEA:=aA oT 6
def aEB:=aA oT 7
def aEC:=aA oT 8
def anW:=aA oT 9
def anX:=aA oT 10
def MQ:aC:=(sq aDU (dA aDV 22 Jc (dq aDW (jA aDX 43 (sq aDY (sq aDZ .ret)) (jA aEA 61 (sq aEB (sq aEC .ret)) (sq anW (sq anX .ret)))))))
def aKO:aX:=⟨2,90,MQ,[.cell 4 (some 3),.tmp 5]⟩
def rH:=bO [] Proofs.Tryz.f101
def aEI:=aA rH 0
def aEJ:=aA rH 1
def aEK:=aA rH 2
def aEL:=aA rH 3
def aEM:=cA rH 0
def Jg:=aA rH 4
def aEN:=aA rH 5
def aEO:=aA rH 6
def aEP:=aA rH 7
def aEH:aC:=(dD aEL 12 0 aEP (dq aEM (dA Jg 25 aEN (.region aEO))))
def aoX:=aA rH 8
def ii:aC:=(sq aEI (sq aEJ (.seq (cE aEK 0 aEH) (sq aoX .ret))))
def aYQ:aX:=⟨1,30,ii,[.cell 2 (some 3),.tmp 3]⟩
def Df:=bO [] Proofs.Tryz.f106
def CX:=aA Df 0
def CY:=aA Df 1
def uS:aC:=(sq CX (sq CY .ret))
def VY:aX:=⟨2,25,uS,[.tmp 4]⟩
def im:=bO [] Proofs.Tryz.f137
def E6:=aA im 0
def E7:=aA im 1
def KF:aC:=(sq E6 (sq E7 .ret))
def Jl:aX:=⟨1,17,KF,[.tmp 2]⟩
def pj:=bO [] Proofs.Tryz.f154
def Ta:=aA pj 0
def Tb:=aA pj 1
def PX:aC:=(sq Ta (sq Tb .ret))
def apA:aX:=⟨1,9,PX,[.tmp 2]⟩
def ik:=bO [] Proofs.Tryz.f138
def Er:=aA ik 0
def Es:=aA ik 1
def KD:aC:=(sq Er (sq Es .ret))
def Jj:aX:=⟨1,17,KD,[.tmp 2]⟩
def oK:=bO [] Proofs.Tryz.f98
def Eu:=aA oK 0
def Ew:=aA oK 1
def HJ:=aA oK 2
def Ex:=aA oK 3
def Ey:=aA oK 4
def Ez:=aA oK 5
def E0:=aA oK 6
def E4:=aA oK 7
def Et:aC:=(dD Ey 21 0 E4 (sq Ez (.cond (Tm 28) (sq E0 .ret) .skip)))
def E5:=aA oK 8
def KE:aC:=(sq Eu (dA Ew 17 HJ (.seq (cE Ex 0 Et) (sq E5 .ret))))
def Jk:aX:=⟨1,29,KE,[.tmp 2]⟩
theorem xK(P:List Nat)(v:Nat):aP P++[[.int .u32 (v:Int)]]=aP (P++[v]):=by simp[aP]
theorem xJ{P:List Nat}(h:Z' P≤35184372087808):roomFor (aP P).length 1 4:=by
 unfold roomFor;rw[dK];simp only[maxLen];omega
def kd(a b:List Nat)(v:PV)(c i:Nat):PF:=(((((PF.nil.set 0 (aN a)).set 1 (aN b)).set 5 (v)).set 6 (.int .u64 c)).set 7 (.int .i64 i))
theorem aQW{C:Ctx}(L:wX C)(a b:List Nat)(ha:Lim a)(hb:Lim b)(η:val b≤val a)(hl:Z' b≤Z' a)(h1:Z' a≤35184372087808) :
  PK.wp C (aW anJ.res (cT (aN (aM (val a-val b))))) (PF.args [aN a,aN b]) .nil:=by
 simp only[go_sem,PK,R7,R8,R9,Sa,anJ];refine wp_loop (α:=List Nat × Nat × PV × PH) (λs=>kd a b s.2.2.1 s.2.1 s.1.length) (λs=>s.2.2.2)
  (λs=>s.1.length≤Z' a∧Lim s.1∧s.2.1≤1∧val (a.take s.1.length)+4294967296^s.1.length*s.2.1=val s.1+val (b.take s.1.length)∧bH s.2.2.2 1 s.2.2.1 (aP s.1)) (λs=>Z' a-s.1.length) ([],0,.aH,.nil) ⟨by simp,by simp[Lim],by simp,by simp[val],.nil⟩ ?_ a_ ?_
 ·unfold kd;exact Lq
 rintro⟨P,c,v,H0⟩ ⟨hP,j,hc,B,W⟩;simp only at hP j hc B W ⊢;simp only[go_sem,D3,Sb,kd];by_cases X:Z' P<Z' a
 ·have F:(Z' P:Int)<(Z' a:Nat):=Om;have ε:=ha _ (bgD X);have δ:=dP a X;have β:(aP a)[Z' P]?=some [.int .u32 ((a[Z' P]:Nat):Int)]:=cU a X;generalize hx:a[Z' P]=x at *
  have ex:IntKind.u64.wrap ((x:Nat):Int)=((x:Nat):Int):=bW Om;have fin:∀(t:Nat)(E:PF),t<4294967296→val (b.take (Z' P+1))=val (b.take P.length)+4294967296^P.length*t →
    E 0=some (aN a)→E 1=some (aN b)→E 5=some v→E 8=some (.int .u64 (c+t:Nat))→E 7=some (.int .i64 P.length) →
    ∀K:cQ,(∀A l v' V H2,Z' A=Z' P+1→Lim A→l≤1→val (a.take (Z' P+1))+4294967296^A.length*l=val A+val (b.take (Z' P+1))→(kd a b v' l A.length).le V→bH H2 1 v' (aP A)→K .normal V H2) →
    aC.wp C (.seq (.region gs) (.seq (.region gt) (.seq (.seq (.region XD) (.cond (.tmp 35) (.seq (.region XE) (.region XF)) .skip)) (.region HC)))) (fN 1 (kJ C (aC.wp C (.region HD)) K)) E H0:=by
   intro t E ht w g0 g1 g5 g8 g7 K hK;have step:∀(d l:Nat),d<4294967296→l≤1→x+4294967296*l=d+(c+t)→val (a.take (Z' P+1))+4294967296^(Z' P+1)*l=val (P++[d])+val (b.take (Z' P+1)):=by
    intro d l hd ζ he;have h2:4294967296^P.length*(x+4294967296*l)=4294967296^P.length*(d+(c+t)):=by rw[he]
    rw[bgQ,bgQ,bgQ]at h2;rw[oG,biD,bhB,δ,w];omega
   simp only[go_sem,gs,g0,g7,β,ex,gt,XD,g8];by_cases c2:x<c+t
   ·have I:((x:Nat):Int)<((c+t:Nat):Int):=Om;have R:IntKind.u64.wrap ((x:Int)+4294967296)=((x+4294967296:Nat):Int):=by rw[show(x:Int)+4294967296=((x+4294967296:Nat):Int) by omega];exact bW Om
    have M:IntKind.u64.wrap (((x+4294967296:Nat):Int)-((c+t:Nat):Int))=((x+4294967296-(c+t):Nat):Int):=by rw[show((x+4294967296:Nat):Int)-((c+t:Nat):Int)=((x+4294967296-(c+t):Nat):Int) by omega];exact bW Om
    have N:IntKind.u32.wrap ((x+4294967296-(c+t):Nat):Int)=((x+4294967296-(c+t):Nat):Int):=by rw[dY,bhS Om]
    have O:(1:Nat)*1≤16777216:=by decide
    simp only[go_sem,I,XE,R,XF,HC,g5,g8,M,N,O];refine hY (src:=[[.int .u32 ((x+4294967296-(c+t):Nat):Int)]]) W rfl (xJ Om) λv' H' u _=>?_;rw[xK]at u;simp only[go_sem,HD,g7,eT (Om:Z' P<9223372036854775807)];refine hK _ 1 v' _ H' aY (j.app λy U=>by simp at U;subst U;omega) (bgG _) ?_ ?_ u
    ·rw[bgB,bgI];exact step _ 1 Om (bgG _) Om
    ·unfold kd;rw[bgB,bgI];exact Lq
   ·have I:¬((x:Nat):Int)<((c+t:Nat):Int):=Om;have M:IntKind.u64.wrap (((x:Nat):Int)-((c+t:Nat):Int))=((x-(c+t):Nat):Int):=by rw[show((x:Nat):Int)-((c+t:Nat):Int)=((x-(c+t):Nat):Int) by omega];exact bW Om
    have N:IntKind.u32.wrap ((x-(c+t):Nat):Int)=((x-(c+t):Nat):Int):=by rw[dY,bhS Om]
    have O:(1:Nat)*1≤16777216:=by decide
    simp only[go_sem,I,HC,g5,g8,M,N,O];refine hY (src:=[[.int .u32 ((x-(c+t):Nat):Int)]]) W rfl (xJ Om) λv' H' u _=>?_;rw[xK]at u;simp only[go_sem,HD,g7,eT (Om:Z' P<9223372036854775807)];refine hK _ 0 v' _ H' aY (j.app λy U=>by simp at U;subst U;omega) aV ?_ ?_ u
    ·rw[bgB,bgI];exact step _ 0 Om aV Om
    ·unfold kd;rw[bgB,bgI];exact Lq
  simp only[aC.wp,go_sem]at fin;simp only[go_sem,F,Sd,Se];by_cases Y:Z' P<Z' b
  ·have J:(Z' P:Int)<(Z' b:Nat):=Om;have γ:=hb _ (bgD Y);have w:=dP b Y;have eb:IntKind.u64.wrap ((b[Z' P]:Nat):Int)=((b[Z' P]:Nat):Int):=bW Om;have es:IntKind.u64.wrap ((c:Int)+(b[Z' P]:Int))=((c+b[Z' P]:Nat):Int):=jV Om;simp only[go_sem,J,Sf,cU b Y,eb,es];refine fin b[Z' P] _ γ w rfl rfl rfl rfl rfl _ ?_;intro A l v' V H2 R M N S Z e6;rw[←R]at S;exact aG (α:=List Nat × Nat × PV × PH) (A,l,v',H2) ⟨by simp only;omega,M,N,S,e6⟩ (by simp only;omega) Z b_
  ·have J:¬(Z' P:Int)<(Z' b:Nat):=Om;have w:val (b.take (Z' P+1))=val (b.take P.length)+4294967296^P.length*0:=by rw[bgR Om,bgR Om];simp
   simp only[go_sem,J];refine fin 0 _ aV w rfl rfl rfl rfl rfl _ ?_;intro A l v' V H2 R M N S Z e6;rw[←R]at S;exact aG (α:=List Nat × Nat × PV × PH) (A,l,v',H2) ⟨by simp only;omega,M,N,S,e6⟩ (by simp only;omega) Z b_
 ·have e:Z' P=Z' a:=Om;have F:¬(Z' P:Int)<(Z' a:Nat):=Om;have hV:val P=val a-val b:=by
   rw[e,bhA,bgR hl]at B;have hlt:=jU j;rw[e]at hlt;rcases biC c with h|h
   ·subst h;omega
   ·have:c=1:=Om;subst this;omega
  simp only[go_sem,F,D4];have hs:=L.trim _ j Om;rw[hV]at hs;refine BY hs W rfl λF1 H1 _=>?_;simp only[go_sem];exact bB (.inr rfl) .nil rfl a_ ⟨.refl _,rfl⟩
end Go.PM
