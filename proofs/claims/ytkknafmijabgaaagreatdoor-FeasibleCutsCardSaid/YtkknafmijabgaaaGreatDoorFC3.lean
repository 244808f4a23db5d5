/-
  Texts of ours, joined. No condition.
-/
import Derived.Test.YtkknafmijabgaaaGreatDoorFC1
import Derived.Test.YtkknafmijabgaaaGreatDoorFC2
import Derived.Lib.ItoaNum
set_option linter.unusedSimpArgs false
set_option linter.unusedVariables false
open Nat renaming reduceEqDiff→γ,reduceAdd→δ,reduceSub→ε,reduceMul→ζ,reduceLT→η,reduceLeDiff→θ,reduceBEq→τ
open Int renaming reduceLT→ι,reduceLE→κ,reduceEq→μ,reduceToNat→ν,reduceAdd→ξ,reduceNeg→ο,reduceBEq→ρ,reduceBNe→σ
open List renaming reduceReplicate→υ
open List renaming range→a3U,length_map→a3V,replicate→a3W,getElem_mem→a3Y,length_append→a3Z,getElem?_eq_getElem→a4C,getD_eq_getElem?_getD→a4D,length_singleton→a4E,mem_cons→a4J,length_take→a4M,take_of_length_le→a4N,getElem?_map→a4Q,mem_range→a4S,all_eq_true→a4T,not_mem_nil→a4U,mem_map→a4W,mem_singleton→a4X,getElem?_eq_some_iff→a5A,append_assoc→a5C,map_cons→a5D,mem_append→a5E,take_length→a5F,drop_zero→a5J,getElem?_eq_none→a5K,map_append→a5L,length_drop→a5M,append_nil→a5O,length_set→a5Q,getElem_of_mem→a5R,mem_of_getElem?→a5S,getElem?_append_left→a5U,take_succ_eq_append_getElem→a5W,map_congr_left→a6A,Sublist→a6B,getElem_map→a6E,length_nil→a6F,Perm→a6I,drop_eq_getElem_cons→a6J,map_nil→a6L,nodup_append→a6V,take_append_drop→a6W,map_map→a7A,nil_append→a7C,length_replicate→a7J,cons_append→a7L,getElem?_set→a7N,set_append_right→a7O,drop_of_length_le→a7U,getElem?_replicate→a7V,sublist_append_left→a7W
open Nat renaming gcd→a3X,zero_le→a4A,le_refl→a4B,zero_add→a4I,mul_add→a4L,lt_or_ge→a4R,mul_assoc→a4V,mul_comm→a4Y,add_mul→a5G,add_zero→a5H,mod_eq_of_lt→a5N,mod_lt→a5T,pow_succ→a5X,eq_zero_or_pos→a6C,min_eq_left→a6G,add_assoc→a6O,mul_le_mul_left→a6P,pos_of_ne_zero→a6Q,le_trans→a6T,pow_pos→a6X,div_eq_of_lt→a7D,div_le_self→a7E,div_lt_iff_lt_mul→a7F,mul_le_mul→a7G,div_add_mod→a7P
open Bool renaming false_and→a4F,not_true→a4H,true_and→a4K,not_false→a4O,and_eq_true→a4P,and_false→a5I,and_true→a5Z,false_eq_true→a6Z,and_assoc→a7H
open Option renaming map_some→a5B,some→a6H,getD_some→a6R
open Array renaming getElem?_eq_some_iff→a7X
open Int renaming toNat_natCast→a6U
open List renaming length→Z'
set_option maxRecDepth 100000
set_option maxHeartbeats 800000
noncomputable section
namespace Go.PM
open Go Go.Na
structure rx(C:Ctx):Prop extends Ob C where
 ends:∀l:dJ,l.Ok→HY l→aJ C 102 [.agg l.cells] .nil (aK (.bool (tZ l)))
def xP(l:dJ)(i:Nat):Bool:=decide ((l.a2L.getD i []).length=Z' l.start)&&(l.a2L.getD i []).all eC&&!((l.a2L.getD i []).map bV).getD i false
def BF(l:dJ):Bool:=match sN (l.start.map RF.v)with
 | .ok (n,a,b)=>decide (uT n a b false 1 1=0)
 | .error _=>false
theorem alN(l:dJ):oK l=(within l.start.length 1 4&&decide (Z' l.exit=Z' l.start)&&decide (Z' l.a2L=Z' l.start)&&l.start.all eC&&l.exit.all eC&&(a3U l.a2L.length).all (xP l)&&BF l&&tZ l):=rfl
theorem aaQ{l:List FV}{e:Int}(h:sN l=.error e):e≠0:=by
 have:∀(l:List FV)(b:FV)(e:Int),l.foldlM lC b=.error e→e≠0:=by
  intro l
  induction l with
  |nil=>intro b e h;cases h
  |cons x t w=>
   intro b e h;rw[List.foldlM_cons]at h;cases j:lC b x with
   |error u=>
    rw[j]at h;have:u=e:=by injection h
    subst this;obtain⟨E,a1,A⟩:=b;obtain⟨F,a2,B⟩:=x;simp only[lC]at j;split at j
    ·split at j
     ·rw[QF j];decide
     ·split at j
      ·rw[QF j];decide
      ·rw[QF j];decide
    ·injection j with j;subst j;decide
   |ok y=>rw[j]at h;exact w y e h
 exact this l _ e h
theorem arA{l:List FV}{r:FV}(h:sN l=.ok r):r.rf.Ok:=by
 have:∀(l:List FV)(b r:FV),b.rf.Ok→l.foldlM lC b=.ok r→r.rf.Ok:=by
  intro l
  induction l with
  |nil=>intro b r hb h;injection h with h;subst h;exact hb
  |cons x t j=>
   intro b r hb h;rw[List.foldlM_cons]at h;cases e:lC b x with
   |error u=>rw[e]at h;cases h
   |ok y=>rw[e]at h;exact j y r (Bl e) h
 refine this l _ r ⟨bB _,bB _,?_,?_⟩ h
 ·show(aM 0).length≤_;rw[jY];simp
 ·show(aM 1).length≤_;rw[tO aX aX];simp
theorem QG{neg:Bool}{a b:Nat}{r:FV}(hb:b≠0)(h:mH neg a b=.ok r):eF r.2.1 r.2.2=true:=by
 unfold mH at h;split at h
 ·cases h
 ·rename_i u;injection h with h
  subst h;have e:a3X a b ∣ b:=Nat.gcd_dvd_right _ _;have j:b/a3X a b≠0:=by have:=Nat.div_pos (Nat.le_of_dvd (a6Q hb) e) (a6Q λh=>hb (Nat.gcd_eq_zero_iff.1 h).2);omega
  have l:=@oG (b/a3X a b);simp only[eF,a4P,decide_eq_true_eq];omega
theorem auT{x y r:FV}(h:lC x y=.ok r):eF r.2.1 r.2.2=true:=by
 obtain⟨w,a1,l⟩:=x;obtain⟨A,a2,u⟩:=y;simp only[lC]at h;split at h
 ·rename_i j;rw[a4P]at j;have e:l*u≠0:=Nat.mul_ne_zero (kA.1 j.1).1 (kA.1 j.2).1;split at h
  ·exact QG e h
  ·split at h
   ·exact QG e h
   ·exact QG e h
 ·cases h
theorem azQ:eF 0 1=true:=by
 have:dV 1=1:=by rw[uH aX,nH]
 simp[eF,this,nH]
theorem yk{l:List FV}{r:FV}(h:sN l=.ok r):eF r.2.1 r.2.2=true:=by
 have:∀(l:List FV)(b r:FV),eF b.2.1 b.2.2=true→l.foldlM lC b=.ok r→eF r.2.1 r.2.2=true:=by
  intro l
  induction l with
  |nil=>intro b r hb h;injection h with h;subst h;exact hb
  |cons x t j=>
   intro b r hb h;rw[List.foldlM_cons]at h;cases e:lC b x with
   |error u=>rw[e]at h;cases h
   |ok y=>rw[e]at h;exact j y r (auT e) h
 exact this l _ r azQ h
theorem aHE:(⟨false,[],[]⟩:RF).Ok:=⟨λ_ h=>absurd h (a4U),λ_ h=>absurd h (a4U),show 0≤35184372087808 by decide,show 0≤35184372087808 by decide⟩
def aIP(l:dJ)(k:Nat):PF:=(((((PF.nil.set 1 (.bU l.cells)).set 3 (.int .i64 (Z' l.start:Nat))).set 45 (ayR l.a2L)).set 46 (.int .i64 (Z' l.a2L:Nat))).set 47 (.int .i64 k))
theorem aBV{C:Ctx}(L:rx C)(l:dJ)(E:l.Ok)(he:HY l)(F:PF)(B:F 1=some (.bU l.cells)) :
  aC.wp C (.seq (.region ko) (.seq (.region PI) (.seq (.region PJ) (.seq (.region AQ) .ret)))) (aV [.tmp 2] (cY (.bool (BF l&&tZ l)))) F .nil:=by
 simp only[go_sem,ko,B];refine aB (L.tot l.start E.start) rfl ?_;obtain⟨I,x,y,e,S⟩:=AM (sN (l.start.map RF.v));have go:∀(z:RF)(e:Int),z.Ok→(e=0→(ID z.neg (val z.num) (val z.den) false 1 1=.tup [.int .i64 (uT z.neg (val z.num) (val z.den) false 1 1),.int .i64 0])∧BF l=decide (uT z.neg (val z.num) (val z.den) false 1 1=0))→(e≠0→BF l=false) →
   frV (sN (l.start.map RF.v))=.tup [.agg z.cells,.int .i64 e] →
   wpOps C [⟨(some 69),.mv (.tmp 72),none⟩,⟨(some 73),.extract (.tmp 69) 0,none⟩,⟨(some 74),.extract (.tmp 69) 1,none⟩,⟨(some 6),.alloc [(.bool false),.aE,.aE],none⟩,⟨none,.store 3 (.tmp 6) (.tmp 73),none⟩,⟨(some 7),.mv (.tmp 74),none⟩]
    (aC.wp C (.seq (.region PI) (.seq (.region PJ) (.seq (.region AQ) .ret))) (aV [.tmp 2] (cY (.bool (BF l&&tZ l))))) ((((F.set 70 (.bU [frs l.start,ayR l.a2L,frs l.exit])).set 71 (frs l.start))).set 72 (.tup [.agg z.cells,.int .i64 e])) .nil:=by
  intro z e O J K _;simp only[go_sem];refine aQ λo6 M=>?_;simp only[go_sem,PI];refine aB (L.frac 1 1 aX aX) rfl ?_;rw[Ut];simp only[go_sem,frV];refine aQ λo8 u=>?_;have R:o6≠o8:=by rintro rfl;simp only[aU,if_true]at u;cases u
  simp only[go_sem,PJ,R];refine aB (L.ord z (FV.rf (false,1,1)) O aDL) rfl ?_;rw[show val (FV.rf (false,1,1)).num=1 from aY 1,show val (FV.rf (false,1,1)).den=1 from aY 1,show(FV.rf (false,1,1)).neg=false from rfl];by_cases c:e=0
  ·obtain⟨g1,g2⟩:=J c;rw[g1,g2];by_cases d:uT z.neg (val z.num) (val z.den) false 1 1=0
   ·simp only[go_sem,AQ,cA c,cA d,B];refine aB (L.ends l E he) rfl ?_;simp only[go_sem];exact bM rfl (by rw[cB d,a4K])
   ·simp only[go_sem,AQ,cA c,bJ d];exact bM rfl (by rw[cF d,a4F])
  ·rw[K c];have:∃v w,ID z.neg (val z.num) (val z.den) false 1 1=.tup [.int .i64 v,.int .i64 w]:=by
    unfold ID;split
    ·exact⟨_,_,rfl⟩
    ·exact⟨_,_,rfl⟩
   obtain⟨v,w,A⟩:=this;rw[A];simp only[go_sem,AQ,bJ c];exact bM rfl rfl
 cases j:sN (l.start.map RF.v)with
 |error e =>rw[j]at go;exact go ⟨false,[],[]⟩ e aHE (λh=>absurd h (aaQ j)) (λ_=>by rw[BF,j]) rfl
 |ok r =>obtain⟨n,a,b⟩:=r;rw[j]at go;have N:=arA j;refine go (FV.rf (n,a,b)) 0 N (λ_=>?_) (λh=>absurd rfl h) rfl;rw[show val (FV.rf (n,a,b)).num=a from aY a,show val (FV.rf (n,a,b)).den=b from aY b,show(FV.rf (n,a,b)).neg=n from rfl];refine⟨?_,by rw[BF,j]⟩;have A:eF a b=true:=yk j;rw[ID,A,Li];rfl
theorem aOX{C:Ctx}(L:rx C)(l:dJ)(A:l.Ok):WU.wp C (aV aIB.res (cY (.bool (oK l)))) (PF.args [.agg l.cells]) .nil:=by
 rw[alN];simp only[go_sem,WU,akH,akI,aIB,akJ,a3V];refine aB (L.inn l.start.length 1 4) rfl ?_;cases O:within l.start.length 1 4 with
 |false =>simp only[go_sem,a4O,FN];exact bM rfl (by simp only[a4F])
 |true=>
  obtain⟨W,X⟩:=within_iff.1 O;by_cases F:Z' l.exit=Z' l.start
  ·rw[cB F];by_cases I:Z' l.a2L=Z' l.start
   ·rw[cB I];simp only[go_sem,a4H,a3V,bW (Om:(Z' l.exit:Int)=(Z' l.start:Nat)),bW (Om:(Z' l.a2L:Int)=(Z' l.start:Nat))];refine aB (L.aIT l.start A.start) rfl ?_;cases S:l.start.all eC with
    |false =>simp only[go_sem,a4O,FN];exact bM rfl (by simp only[a4F])
    |true=>
     simp only[go_sem,a4H];refine aB (L.aIT l.exit A.exit) rfl ?_;cases U:l.exit.all eC with
     |false =>simp only[go_sem,a4O,FN];exact bM rfl (by simp only[a4F])
     |true=>
      simp only[go_sem,a4H,akK,a3V];have y:∀k (h:k<Z' l.a2L),xP l k=(decide ((l.a2L[k]).length=Z' l.start)&&(l.a2L[k]).all eC&&!((l.a2L[k]).map bV).getD k false):=by
       intro k h;have:l.a2L.getD k []=l.a2L[k]:=by simp[a4D,h]
       rw[xP,this]
      refine wp_loop (α:=Nat) (λk=>aIP l k) (λ_=>.nil) (λk=>k≤Z' l.a2L∧wU (xP l) k) (λk=>Z' l.a2L-k) 0 ⟨a4A _,.zero⟩ ?_ a_ ?_
      ·unfold aIP
       (repeat' (first|exact c_|refine d_ ?_ ?_))<;>first|(simp only[go_sem,a3V]<;>rfl)|rfl
      rintro k ⟨V,N⟩;simp only[go_sem,Sv,akL,aIP];by_cases hlt:k<Z' l.a2L
      ·have j:(k:Int)<(Z' l.a2L:Nat):=Om;have E:(l.a2L.map λr=>[frs r])[k]?=some [frs l.a2L[k]]:=by simp[hlt]
       have e:=y k hlt;have w:=A.row l.a2L[k] (a3Y hlt);simp only[go_sem,j,akM,E,akN,a3V];by_cases J:(l.a2L[k]).length=Z' l.start
       ·rw[cB J,a4K]at e;simp only[go_sem,bW (show(((l.a2L[k]).length:Nat):Int)=(Z' l.start:Nat) by omega)];refine aB (L.aIT _ w) rfl ?_;cases K:(l.a2L[k]).all eC with
        |false =>rw[K,a4F]at e;simp only[go_sem,a4O,cn];refine bM (b:=false) rfl ?_;have:(a3U l.a2L.length).all (xP l)=false:=iY hlt e;rw[this];simp only[a4F,a5I]
        |true=>
         have x:k<(l.a2L[k]).length:=Om;have R:((l.a2L[k]).map RF.cells)[k]?=some ((l.a2L[k])[k]).cells:=by simp[x]
         have B:((l.a2L[k]).map bV).getD k false=bV (l.a2L[k])[k]:=by simp[a4D,x]
         rw[K,a4K,B]at e;simp only[go_sem,a4H,R];refine aB (L.wW _ (w.all _ (a3Y x))) rfl ?_;cases M:bV (l.a2L[k])[k]with
         |true =>rw[M]at e;simp only[go_sem,cn];refine bM (b:=false) rfl ?_;have:(a3U l.a2L.length).all (xP l)=false:=iY hlt e;rw[this];simp only[a4F,a5I]
         |false =>rw[M]at e;simp only[go_sem,akO,wZz k];refine aH (k+1) ⟨hlt,N.step e⟩ Om ?_ a_;exact Lq
       ·simp only[cF J,a4F]at e;simp only[go_sem,cU (show(((l.a2L[k]).length:Nat):Int)≠(Z' l.start:Nat) by omega),cn];refine bM (b:=false) rfl ?_;have:(a3U l.a2L.length).all (xP l)=false:=iY hlt e;rw[this];simp only[a4F,a5I]
      ·have j:¬(k:Int)<(Z' l.a2L:Nat):=Om;have:k=Z' l.a2L:=Om;subst this;have u:(a3U l.a2L.length).all (xP l)=true:=N;have he:HY l:=⟨by omega,by omega,λr E=>by obtain⟨i,hi,rfl⟩:=a5R E;have:=a4T.1 u i (a4S.2 hi);rw[y i hi]at this;simp only[a4P,decide_eq_true_eq]at this;omega⟩
       have tail:=aBV L l A he;simp only[aC.wp,go_sem]at tail;rw[u];simp only[go_sem,j,a4K,a5Z];exact tail _ rfl
   ·simp only[go_sem,a4H,a3V,bW (Om:(Z' l.exit:Int)=(Z' l.start:Nat)),cU (Om:(Z' l.a2L:Int)≠(Z' l.start:Nat)),FN];exact bM rfl (by rw[cF I];simp only[a4F,a5I])
  ·simp only[go_sem,a4H,a3V,cU (Om:(Z' l.exit:Int)≠(Z' l.start:Nat)),FN];exact bM rfl (by rw[cF F];simp only[a4F,a5I])
structure pD(C:Ctx):Prop extends rx C where
 law:∀l:dJ,l.Ok→aJ C 95 [.agg l.cells] .nil (aK (.bool (oK l)))
 pol:∀(p:eG)(n:Nat),p.Ok→n≤4→aJ C 112 [.agg p.cells,.int .i64 n] .nil (aK (.bool (mY n p)))
 a2Q:∀f:aD,f.Ok→aJ C 111 [.agg f.cells] .nil (aK (.bool (sX f)))
abbrev jG(l:List (List UInt8)):List (List PV):=l.map λs=>[PV.str s]
theorem CQ(l:List (List UInt8)){k:Nat}(h:k<Z' l):jG (l.take k)++[[.str l[k]]]=jG (l.take (k+1)):=by
 unfold jG;rw[a5W h,a5L];rfl
theorem yH{l:List (List UInt8)}(h:Z' l≤1000):roomFor (jG l).length 1 16:=by
 unfold roomFor jG;simp only[a3V,maxLen];omega
def mM{α:Type}(l:List α)(p:α→Bool)(k:Nat):Bool:=(l.take k).all p
theorem yT{α:Type}(l:List α)(p:α→Bool):mM l p 0=true:=rfl
theorem yS{α:Type}(l:List α)(p:α→Bool){k:Nat}(h:k<Z' l):mM l p (k+1)=(mM l p k&&p l[k]):=by
 unfold mM;rw[a5W h,List.all_append];simp
theorem CB{α:Type}(l:List α)(p:α→Bool):mM l p l.length=l.all p:=by unfold mM;rw[a5F]
def mP(f:aD)(e j l u w:PV)(ok:Bool):PF:=(((((((PF.nil.set 1 (.bU f.cells)).set 3 (e)).set 4 (j)).set 5 (l)).set 6 (u)).set 7 (w)).set 8 (.bool ok))
structure pH(F:PF)(f:aD)(w3 w4 w5 w6 w7:PV)(ok:Bool):Prop where
 a1:F 1=some (.bU f.cells)
 a3:F 3=some w3
 a4:F 4=some w4
 a5:F 5=some w5
 a6:F 6=some w6
 a7:F 7=some w7
 a8:F 8=some (.bool ok)
theorem awO{C:Ctx}(L:pD C)(f:aD)(S:f.Ok)(X:Z' f.a2O≤4)(I J M N:PV)(K:cP)(F:PF)(H:PH)(u:pH F f .aE I J M N true)
  (A:F 67=some (.sl 4 (f.a2O.map dJ.cells))) (B:F 68=some (.int .i64 (Z' f.a2O:Nat))) (E:F 69=some (.int .i64 0))
  (R:∀v O H',pH O f v I J M N (f.a2O.all oK)→cZ H' 1 v (jG (f.a2O.map dJ.name))→K (.exit 0) O H') :
  aC.wp C (.loop PP) K F H:=by
 refine wp_loop (α:=Nat × PV × PH) (λt=>(((mP f t.2.1 I J M N (mM f.a2O oK t.1)).set 67 (.sl 4 (f.a2O.map dJ.cells))).set 68 (.int .i64 (Z' f.a2O:Nat))).set 69 (.int .i64 t.1)) (λt=>t.2.2)
  (λt=>t.1≤Z' f.a2O∧cZ t.2.2 1 t.2.1 (jG ((f.a2O.map dJ.name).take t.1))) (λt=>Z' f.a2O-t.1) (0,.aE,.nil) ⟨a4A _,.nil⟩ ?_ a_ ?_
 ·unfold mP
  (repeat' (first|exact c_|refine d_ ?_ ?_))<;>first|(simp only[go_sem,u.a1,u.a3,u.a4,u.a5,u.a6,u.a7,u.a8,A,B,E,yT]<;>rfl)|rfl
 rintro⟨k,v,H0⟩ ⟨U,y⟩;simp only at U y ⊢;simp only[go_sem,PP,alJ,mP];by_cases hlt:k<Z' f.a2O
 ·have j:(k:Int)<(Z' f.a2O:Nat):=Om;have W:(f.a2O.map dJ.cells)[k]?=some (f.a2O[k]).cells:=by simp[hlt]
  have x:=CQ (f.a2O.map dJ.name) (k:=k) (by simpa using hlt);rw[a6E]at x;simp only[go_sem,j,alK,W];refine aQ λo V=>?_;simp only[go_sem,alL];refine sC y V (yH (by simp;omega)) λv' H' l w=>?_;rw[x]at l;have e:=yS f.a2O oK hlt;cases hb:mM f.a2O oK k with
  |false =>rw[hb,a4F]at e;simp only[go_sem,Ce,w,ku,wZz k];refine aH (k+1,v',H') ⟨hlt,l⟩ (by simp only;omega) ?_ b_;simp only[e];exact Lq
  |true =>rw[hb,a4K]at e;simp only[go_sem,Ce,w];refine aB (L.law _ (S.law _ (a3Y hlt))) Ev ?_;simp only[go_sem,ku,wZz k];refine aH (k+1,v',H') ⟨hlt,l⟩ (by simp only;omega) ?_ b_;simp only[e];exact Lq
 ·have j:¬(k:Int)<(Z' f.a2O:Nat):=Om;have:k=Z' f.a2O:=Om;subst this;rw[a4N aW]at y;rw[CB];simp only[go_sem,j];exact R v _ _ ⟨by simp only[go_sem],by simp only[go_sem],by simp only[go_sem],by simp only[go_sem],by simp only[go_sem],by simp only[go_sem],by simp only[go_sem]⟩ y
theorem JM{n:Nat}(h:n≤1000):IntKind.i64.wrap ((n:Int)-1)=(n:Int)-1:=wrap_i64 Om Om
theorem awP{C:Ctx}(L:pD C)(f:aD)(hs:Z' f.a2H≤4)(hl:Z' f.a2O≤4)(x:Bool)(E I J M:PV)(K:cP)(F:PF)(H:PH)(u:pH F f E .aE I J M x)
  (R:F 85=some (.sl 4 (f.a2H.map dZ.cells))) (S:F 86=some (.int .i64 (Z' f.a2H:Nat))) (U:F 87=some (.int .i64 0))
  (X:∀v w H',pH w f E v I J M (x&&f.a2H.all (oN f))→cZ H' 1 v (jG (f.a2H.map dZ.name))→K (.exit 2) w H') :
  aC.wp C (.loop PQ) K F H:=by
 refine wp_loop (α:=Nat × PV × PH) (λt=>(((mP f E t.2.1 I J M (x&&mM f.a2H (oN f) t.1)).set 85 (.sl 4 (f.a2H.map dZ.cells))).set 86 (.int .i64 (Z' f.a2H:Nat))).set 87 (.int .i64 t.1)) (λt=>t.2.2)
  (λt=>t.1≤Z' f.a2H∧cZ t.2.2 1 t.2.1 (jG ((f.a2H.map dZ.name).take t.1))) (λt=>Z' f.a2H-t.1) (0,.aE,.nil) ⟨a4A _,.nil⟩ ?_ a_ ?_
 ·unfold mP
  (repeat' (first|exact c_|refine d_ ?_ ?_))<;>first|(simp only[go_sem,u.a1,u.a3,u.a4,u.a5,u.a6,u.a7,u.a8,R,S,U,yT,a5Z]<;>rfl)|rfl
 rintro⟨k,v,H0⟩ ⟨Z,N⟩;simp only at Z N ⊢;simp only[go_sem,PQ,Ti,mP];by_cases hlt:k<Z' f.a2H
 ·have e:(k:Int)<(Z' f.a2H:Nat):=Om;have hr:(f.a2H.map dZ.cells)[k]?=some (f.a2H[k]).cells:=by simp[hlt]
  have B:=CQ (f.a2H.map dZ.name) (k:=k) (by simpa using hlt);rw[a6E]at B;simp only[go_sem,e,Tj,hr];refine aQ λo ho=>?_;simp only[go_sem,Tk];refine sC N ho (yH (by simp;omega)) λv' H' y j=>?_;rw[B]at y;have l:=yS f.a2H (oN f) hlt;have fin:∀(c:Bool)(w:PF),c=(x&&mM f.a2H (oN f) (k+1))→((((mP f E v' I J M c).set 85 (.sl 4 (f.a2H.map dZ.cells))).set 86 (.int .i64 (Z' f.a2H:Nat))).set 87 (.int .i64 (k+1:Nat))).le w →
    iR (λ(t:Nat × PV × PH)=>(((mP f E t.2.1 I J M (x&&mM f.a2H (oN f) t.1)).set 85 (.sl 4 (f.a2H.map dZ.cells))).set 86 (.int .i64 (Z' f.a2H:Nat))).set 87 (.int .i64 t.1)) (λ(t:Nat × PV × PH)=>t.2.2)  (λ(t:Nat × PV × PH)=>t.1≤Z' f.a2H∧cZ t.2.2 1 t.2.1 (jG ((f.a2H.map dZ.name).take t.1))) (λ(t:Nat × PV × PH)=>Z' f.a2H-t.1) (Z' f.a2H-k) K .normal w H':=by
   intro c w Y A;refine aH (α:=Nat × PV × PH) (k+1,v',H') ⟨hlt,y⟩ (by simp only;omega) ?_ b_;rw[Y]at A;exact A
  unfold mP at fin;rw[l,←a7H]at fin;have V:oN f f.a2H[k]=(within (f.a2H[k]).a2X 1 16&&within (f.a2H[k]).port 1 64&&within (f.a2H[k]).law 0 ((Z' f.a2O:Int)-1)):=rfl;cases hb:(x&&mM f.a2H (oN f) k)with
  |false =>rw[hb,a4F]at fin;simp only[go_sem,kx,j,GW,wZz k];refine fin false _ rfl ?_;exact Lq
  |true=>
   rw[hb,a4K]at fin;simp only[go_sem,kx,j];refine aB (L.inn _ 1 16) Ev ?_;cases O:within (f.a2H[k]).a2X 1 16 with
   |false =>simp only[go_sem,GW,wZz k];refine fin false _ (by rw[V,O];simp only[a4F]) ?_;exact Lq
   |true=>
    simp only[go_sem,j];refine aB (L.inn _ 1 64) Ev ?_;cases W:within (f.a2H[k]).port 1 64 with
    |false =>simp only[go_sem,GW,wZz k];refine fin false _ (by rw[V,O,W];simp only[a4F,a5I]) ?_;exact Lq
    |true =>simp only[go_sem,j,a3V,JM (Om:Z' f.a2O≤1000)];refine aB (L.inn _ 0 _) Ev ?_;simp only[go_sem,GW,wZz k];refine fin (within (f.a2H[k]).law 0 ((Z' f.a2O:Int)-1)) _ (by rw[V,O,W];simp only[a4K]) ?_;exact Lq
 ·have e:¬(k:Int)<(Z' f.a2H:Nat):=Om;have:k=Z' f.a2H:=Om;subst this;rw[a4N aW]at N;rw[CB];simp only[go_sem,e];exact X v _ _ ⟨by simp only[go_sem],by simp only[go_sem],by simp only[go_sem],by simp only[go_sem],by simp only[go_sem],by simp only[go_sem],by simp only[go_sem]⟩ N
theorem awQ{C:Ctx}(L:pD C)(f:aD)(t:List dM)(W:Z' t≤40)(x:Bool)(E I J M:PV)(K:cP)(F:PF)(H:PH)(j:pH F f E I .aE J M x)
  (y:F 119=some (.sl 7 (t.map dM.cells))) (A:F 120=some (.int .i64 (Z' t:Nat))) (B:F 121=some (.int .i64 0))
  (O:∀v N H',pH N f E I v J M x→cZ H' 1 v (jG (t.map dM.name))→K (.exit 4) N H') :
  aC.wp C (.loop PR) K F H:=by
 refine wp_loop (α:=Nat × PV × PH) (λa=>(((mP f E I a.2.1 J M x).set 119 (.sl 7 (t.map dM.cells))).set 120 (.int .i64 (Z' t:Nat))).set 121 (.int .i64 a.1)) (λa=>a.2.2)
  (λa=>a.1≤Z' t∧cZ a.2.2 1 a.2.1 (jG ((t.map dM.name).take a.1))) (λa=>Z' t-a.1) (0,.aE,.nil) ⟨a4A _,.nil⟩ ?_ a_ ?_
 ·unfold mP
  (repeat' (first|exact c_|refine d_ ?_ ?_))<;>first|(simp only[go_sem,j.a1,j.a3,j.a4,j.a5,j.a6,j.a7,j.a8,y,A,B]<;>rfl)|rfl
 rintro⟨k,v,H0⟩ ⟨R,w⟩;simp only at R w ⊢;simp only[go_sem,PR,Tl,mP];by_cases hlt:k<Z' t
 ·have e:(k:Int)<(Z' t:Nat):=Om;have V:(t.map dM.cells)[k]?=some (t[k]).cells:=by simp[hlt]
  have u:=CQ (t.map dM.name) (k:=k) (by simpa using hlt);rw[a6E]at u;simp only[go_sem,e,Tn,V];refine aQ λo S=>?_;simp only[go_sem,To];refine sC w S (yH (by simp;omega)) λv' H' l U=>?_;rw[u]at l;simp only[go_sem,Tq,wZz k];refine aH (k+1,v',H') ⟨hlt,l⟩ (by simp only;omega) ?_ b_;exact Lq
 ·have e:¬(k:Int)<(Z' t:Nat):=Om;have:k=Z' t:=Om;subst this;rw[a4N aW]at w;simp only[go_sem,e];exact O v _ _ ⟨by simp only[go_sem],by simp only[go_sem],by simp only[go_sem],by simp only[go_sem],by simp only[go_sem],by simp only[go_sem],by simp only[go_sem]⟩ w
theorem awR{C:Ctx}(L:pD C)(f:aD)(e:List (List UInt8))(hn:Z' e≤40)(hs:Z' f.a2G≤24)(hm:Z' f.a2H≤4)(hd:Z' f.a2J≤40)(A:Bool)(J M v0 N O:PV)(K:cP)(F:PF)(H:PH)(x:pH F f J M v0 N O A)
  (h0:cZ H 1 v0 (jG e))
  (W:F 132=some (.sl 3 (f.a2G.map eS.cells))) (X:F 133=some (.int .i64 (Z' f.a2G:Nat))) (Y:F 134=some (.int .i64 0))
  (hK:∀v y H',pH y f J M v N O (A&&f.a2G.all (mI f))→cZ H' 1 v (jG (e++f.a2G.map eS.name))→K (.exit 6) y H') :
  aC.wp C (.loop PS) K F H:=by
 refine wp_loop (α:=Nat × PV × PH) (λt=>(((mP f J M t.2.1 N O (A&&mM f.a2G (mI f) t.1)).set 132 (.sl 3 (f.a2G.map eS.cells))).set 133 (.int .i64 (Z' f.a2G:Nat))).set 134 (.int .i64 t.1)) (λt=>t.2.2)
  (λt=>t.1≤Z' f.a2G∧cZ t.2.2 1 t.2.1 (jG (e++(f.a2G.map eS.name).take t.1))) (λt=>Z' f.a2G-t.1) (0,v0,H) ⟨a4A _,by rw[List.take_zero,a5O];exact h0⟩ ?_ b_ ?_
 ·unfold mP
  (repeat' (first|exact c_|refine d_ ?_ ?_))<;>first|(simp only[go_sem,x.a1,x.a3,x.a4,x.a5,x.a6,x.a7,x.a8,W,X,Y,yT,a5Z]<;>rfl)|rfl
 rintro⟨k,v,H0⟩ ⟨hk,V⟩;simp only at hk V ⊢;simp only[go_sem,PS,Tr,mP];by_cases hlt:k<Z' f.a2G
 ·have j:(k:Int)<(Z' f.a2G:Nat):=Om;have hr:(f.a2G.map eS.cells)[k]?=some (f.a2G[k]).cells:=by simp[hlt]
  have β:jG (e++(f.a2G.map eS.name).take k)++[[.str (f.a2G[k]).name]]=jG (e++(f.a2G.map eS.name).take (k+1)):=by rw[a5W (by simpa using hlt),←a5C,a6E];unfold jG;simp only[a5L,a5D,a6L]
  simp only[go_sem,j,Ts,hr];refine aQ λo ho=>?_;simp only[go_sem,Tt];refine sC V ho (yH (by simp;omega)) λv' H' B u=>?_;rw[β]at B;have w:=yS f.a2G (mI f) hlt;have fin:∀(c:Bool)(y:PF),c=(A&&mM f.a2G (mI f) (k+1))→((((mP f J M v' N O c).set 132 (.sl 3 (f.a2G.map eS.cells))).set 133 (.int .i64 (Z' f.a2G:Nat))).set 134 (.int .i64 (k+1:Nat))).le y →
    iR (λ(t:Nat × PV × PH)=>(((mP f J M t.2.1 N O (A&&mM f.a2G (mI f) t.1)).set 132 (.sl 3 (f.a2G.map eS.cells))).set 133 (.int .i64 (Z' f.a2G:Nat))).set 134 (.int .i64 t.1)) (λ(t:Nat × PV × PH)=>t.2.2)  (λ(t:Nat × PV × PH)=>t.1≤Z' f.a2G∧cZ t.2.2 1 t.2.1 (jG (e++(f.a2G.map eS.name).take t.1))) (λ(t:Nat × PV × PH)=>Z' f.a2G-t.1) (Z' f.a2G-k) K .normal y H':=by
   intro c y hc E;refine aH (α:=Nat × PV × PH) (k+1,v',H') ⟨hlt,B⟩ (by simp only;omega) ?_ b_;rw[hc]at E;exact E
  unfold mP at fin;rw[w,←a7H]at fin;have l:mI f f.a2G[k]=(within (f.a2G[k]).model 0 ((Z' f.a2H:Int)-1)&&within (f.a2G[k]).machine 0 ((Z' f.a2J:Int)-1)&&decide ((f.a2J.map dM.level).getD (f.a2G[k]).machine.toNat 0=4)):=rfl;cases hb:(A&&mM f.a2G (mI f) k)with
  |false =>rw[hb,a4F]at fin;simp only[go_sem,k6,u,AR,wZz k];refine fin false _ rfl ?_;exact Lq
  |true=>
   rw[hb,a4K]at fin;simp only[go_sem,k6,u,a3V,JM (Om:Z' f.a2H≤1000)];refine aB (L.inn _ 0 _) Ev ?_;cases R:within (f.a2G[k]).model 0 ((Z' f.a2H:Int)-1)with
   |false =>simp only[go_sem,AR,wZz k];refine fin false _ (by rw[l,R];simp only[a4F]) ?_;exact Lq
   |true=>
    simp only[go_sem,u,a3V,JM (Om:Z' f.a2J≤1000)];refine aB (L.inn _ 0 _) Ev ?_;cases S:within (f.a2G[k]).machine 0 ((Z' f.a2J:Int)-1)with
    |false =>simp only[go_sem,AR,wZz k];refine fin false _ (by rw[l,R,S];simp only[a4F,a5I]) ?_;exact Lq
    |true=>
     obtain⟨i1,i2⟩:=within_iff.1 S;have i3:(f.a2G[k]).machine.toNat<Z' f.a2J:=Om;have I:(f.a2J.map dM.cells)[(f.a2G[k]).machine.toNat]?=some (f.a2J[(f.a2G[k]).machine.toNat]).cells:=by simp[i3]
     have Z:(f.a2J.map dM.level).getD (f.a2G[k]).machine.toNat 0=(f.a2J[(f.a2G[k]).machine.toNat]).level:=by simp[i3]
     rw[Z]at l;by_cases U:(f.a2J[(f.a2G[k]).machine.toNat]).level=4
     ·simp only[go_sem,u,i1,I,cA U,AR,wZz k];refine fin true _ (by rw[l,R,S,cB U];rfl) ?_;exact Lq
     ·simp only[go_sem,u,i1,I,bJ U,AR,wZz k];refine fin false _ (by rw[l,R,S,cF U];rfl) ?_;exact Lq
 ·have j:¬(k:Int)<(Z' f.a2G:Nat):=Om;have:k=Z' f.a2G:=Om;subst this;rw[a4N aW]at V;rw[CB];simp only[go_sem,j];exact hK v _ _ ⟨by simp only[go_sem],by simp only[go_sem],by simp only[go_sem],by simp only[go_sem],by simp only[go_sem],by simp only[go_sem],by simp only[go_sem]⟩ V
theorem awS{C:Ctx}(L:pD C)(f:aD)(W:f.Ok)(hs:Z' f.a2K≤4)(Y:Z' f.a2H≤4)(w:Bool)(E I J M:PV)(K:cP)(F:PF)(H:PH)(l:pH F f E I J .aE M w)
  (O:F 174=some (.sl 17 (f.a2K.map eG.cells))) (R:F 175=some (.int .i64 (Z' f.a2K:Nat))) (S:F 176=some (.int .i64 0))
  (U:∀v u H',pH u f E I J v M (w&&f.a2K.all (mY f.a2H.length))→cZ H' 1 v (jG (f.a2K.map eG.name))→K (.exit 8) u H') :
  aC.wp C (.loop PT) K F H:=by
 refine wp_loop (α:=Nat × PV × PH) (λt=>(((mP f E I J t.2.1 M (w&&mM f.a2K (mY f.a2H.length) t.1)).set 174 (.sl 17 (f.a2K.map eG.cells))).set 175 (.int .i64 (Z' f.a2K:Nat))).set 176 (.int .i64 t.1)) (λt=>t.2.2)
  (λt=>t.1≤Z' f.a2K∧cZ t.2.2 1 t.2.1 (jG ((f.a2K.map eG.name).take t.1))) (λt=>Z' f.a2K-t.1) (0,.aE,.nil) ⟨a4A _,.nil⟩ ?_ a_ ?_
 ·unfold mP
  (repeat' (first|exact c_|refine d_ ?_ ?_))<;>first|(simp only[go_sem,l.a1,l.a3,l.a4,l.a5,l.a6,l.a7,l.a8,O,R,S,yT,a5Z]<;>rfl)|rfl
 rintro⟨k,v,H0⟩ ⟨X,N⟩;simp only at X N ⊢;simp only[go_sem,PT,Tu,mP];by_cases hlt:k<Z' f.a2K
 ·have e:(k:Int)<(Z' f.a2K:Nat):=Om;have hr:(f.a2K.map eG.cells)[k]?=some (f.a2K[k]).cells:=by simp[hlt]
  have B:=CQ (f.a2K.map eG.name) (k:=k) (by simpa using hlt);rw[a6E]at B;simp only[go_sem,e,Tv,hr];refine aQ λo Z=>?_;simp only[go_sem,Tw];refine sC N Z (yH (by simp;omega)) λv' H' x A=>?_;rw[B]at x;have j:=yS f.a2K (mY f.a2H.length) hlt;have fin:∀(c:Bool)(u:PF),c=(w&&mM f.a2K (mY f.a2H.length) (k+1))→((((mP f E I J v' M c).set 174 (.sl 17 (f.a2K.map eG.cells))).set 175 (.int .i64 (Z' f.a2K:Nat))).set 176 (.int .i64 (k+1:Nat))).le u →
    iR (λ(t:Nat × PV × PH)=>(((mP f E I J t.2.1 M (w&&mM f.a2K (mY f.a2H.length) t.1)).set 174 (.sl 17 (f.a2K.map eG.cells))).set 175 (.int .i64 (Z' f.a2K:Nat))).set 176 (.int .i64 t.1)) (λ(t:Nat × PV × PH)=>t.2.2)  (λ(t:Nat × PV × PH)=>t.1≤Z' f.a2K∧cZ t.2.2 1 t.2.1 (jG ((f.a2K.map eG.name).take t.1))) (λ(t:Nat × PV × PH)=>Z' f.a2K-t.1) (Z' f.a2K-k) K .normal u H':=by
   intro c u V y;refine aH (α:=Nat × PV × PH) (k+1,v',H') ⟨hlt,x⟩ (by simp only;omega) ?_ b_;rw[V]at y;exact y
  unfold mP at fin;rw[j,←a7H]at fin;cases hb:(w&&mM f.a2K (mY f.a2H.length) k)with
  |false =>rw[hb,a4F]at fin;simp only[go_sem,lf,A,lg,wZz k];refine fin false _ rfl ?_;exact Lq
  |true =>rw[hb,a4K]at fin;simp only[go_sem,lf,A,a3V];refine aB (L.pol _ _ (W.a2T _ (a3Y hlt)) Y) Ev ?_;simp only[go_sem,lg,wZz k];refine fin _ _ rfl ?_;exact Lq
 ·have e:¬(k:Int)<(Z' f.a2K:Nat):=Om;have:k=Z' f.a2K:=Om;subst this;rw[a4N aW]at N;rw[CB];simp only[go_sem,e];exact U v _ _ ⟨by simp only[go_sem],by simp only[go_sem],by simp only[go_sem],by simp only[go_sem],by simp only[go_sem],by simp only[go_sem],by simp only[go_sem]⟩ N
theorem awT{C:Ctx}(L:pD C)(f:aD)(hs:Z' f.a2I≤12)(hl:Z' f.a2K≤4)(w:Bool)(E I J M:PV)(K:cP)(F:PF)(H:PH)(l:pH F f E I J M .aE w)
  (O:F 195=some (.sl 2 (f.a2I.map hC.cells))) (R:F 196=some (.int .i64 (Z' f.a2I:Nat))) (S:F 197=some (.int .i64 0))
  (U:∀v u H',pH u f E I J M v (w&&f.a2I.all (tI f))→cZ H' 1 v (jG (f.a2I.map hC.name))→K (.exit 10) u H') :
  aC.wp C (.loop PU) K F H:=by
 refine wp_loop (α:=Nat × PV × PH) (λt=>(((mP f E I J M t.2.1 (w&&mM f.a2I (tI f) t.1)).set 195 (.sl 2 (f.a2I.map hC.cells))).set 196 (.int .i64 (Z' f.a2I:Nat))).set 197 (.int .i64 t.1)) (λt=>t.2.2)
  (λt=>t.1≤Z' f.a2I∧cZ t.2.2 1 t.2.1 (jG ((f.a2I.map hC.name).take t.1))) (λt=>Z' f.a2I-t.1) (0,.aE,.nil) ⟨a4A _,.nil⟩ ?_ a_ ?_
 ·unfold mP
  (repeat' (first|exact c_|refine d_ ?_ ?_))<;>first|(simp only[go_sem,l.a1,l.a3,l.a4,l.a5,l.a6,l.a7,l.a8,O,R,S,yT,a5Z]<;>rfl)|rfl
 rintro⟨k,v,H0⟩ ⟨W,N⟩;simp only at W N ⊢;simp only[go_sem,PU,Tx,mP];by_cases hlt:k<Z' f.a2I
 ·have e:(k:Int)<(Z' f.a2I:Nat):=Om;have Z:(f.a2I.map hC.cells)[k]?=some (f.a2I[k]).cells:=by simp[hlt]
  have B:=CQ (f.a2I.map hC.name) (k:=k) (by simpa using hlt);rw[a6E]at B;simp only[go_sem,e,Tz,Z];refine aQ λo Y=>?_;simp only[go_sem,T0];refine sC N Y (yH (by simp;omega)) λv' H' x A=>?_;rw[B]at x;have j:=yS f.a2I (tI f) hlt;have fin:∀(c:Bool)(u:PF),c=(w&&mM f.a2I (tI f) (k+1))→((((mP f E I J M v' c).set 195 (.sl 2 (f.a2I.map hC.cells))).set 196 (.int .i64 (Z' f.a2I:Nat))).set 197 (.int .i64 (k+1:Nat))).le u →
    iR (λ(t:Nat × PV × PH)=>(((mP f E I J M t.2.1 (w&&mM f.a2I (tI f) t.1)).set 195 (.sl 2 (f.a2I.map hC.cells))).set 196 (.int .i64 (Z' f.a2I:Nat))).set 197 (.int .i64 t.1)) (λ(t:Nat × PV × PH)=>t.2.2)  (λ(t:Nat × PV × PH)=>t.1≤Z' f.a2I∧cZ t.2.2 1 t.2.1 (jG ((f.a2I.map hC.name).take t.1))) (λ(t:Nat × PV × PH)=>Z' f.a2I-t.1) (Z' f.a2I-k) K .normal u H':=by
   intro c u V y;refine aH (α:=Nat × PV × PH) (k+1,v',H') ⟨hlt,x⟩ (by simp only;omega) ?_ b_;rw[V]at y;exact y
  unfold mP at fin;rw[j,←a7H]at fin;have X:tI f f.a2I[k]=within (f.a2I[k]).a2T 0 ((Z' f.a2K:Int)-1):=rfl;cases hb:(w&&mM f.a2I (tI f) k)with
  |false =>rw[hb,a4F]at fin;simp only[go_sem,lj,A,lk,wZz k];refine fin false _ rfl ?_;exact Lq
  |true =>rw[hb,a4K,X]at fin;simp only[go_sem,lj,A,a3V,JM (Om:Z' f.a2K≤1000)];refine aB (L.inn _ 0 _) Ev ?_;simp only[go_sem,lk,wZz k];refine fin _ _ rfl ?_;exact Lq
 ·have e:¬(k:Int)<(Z' f.a2I:Nat):=Om;have:k=Z' f.a2I:=Om;subst this;rw[a4N aW]at N;rw[CB];simp only[go_sem,e];exact U v _ _ ⟨by simp only[go_sem],by simp only[go_sem],by simp only[go_sem],by simp only[go_sem],by simp only[go_sem],by simp only[go_sem],by simp only[go_sem]⟩ N
theorem sM{f:aD}(h:¬(Z' f.a2O≤4∧Z' f.a2H≤4∧Z' f.a2J≤40∧Z' f.a2G≤24∧Z' f.a2K≤4∧Z' f.a2I≤12)):sL f=false:=by
 rw[←Bool.not_eq_true];intro e;simp only[sL,a4P,decide_eq_true_eq]at e;omega
theorem agR{f:aD}(h:Z' f.a2O≤4∧Z' f.a2H≤4∧Z' f.a2J≤40∧Z' f.a2G≤24∧Z' f.a2K≤4∧Z' f.a2I≤12):sL f=within f.a3M 1 4:=by
 obtain⟨e,j,l,u,h5,w⟩:=h;simp[sL,e,j,l,u,h5,w]
theorem rV{t:Nat}{n m:Int}{F:PF}{H:PH}(h:F t=some (.int .i64 n))(e:n=m):aV [.tmp t] (cY (.int .i64 m)) .ret F H:=by
 subst e;exact bD (.inr rfl) .nil (vs:=[.int .i64 n]) (by rw[oY,sJ,h,tU]) a_ ⟨.refl _,rfl⟩
def DF(f:aD):Int:=if dX f then 0 else 1
theorem zc{f:aD}(h:dX f=false):DF f=1:=by rw[DF,h];rfl
theorem AD{C:Ctx}{F:PF}{H:PH}{name t s:Nat}{v r:PV}{rows:List (List PV)}{d:Option Nat}{K:PF→PH→Prop}(h:aJ C name [.sl s rows] .nil (aK r))(x:cZ H s v rows)(l:F t=some v)
  (j:∀(e:PF)(w:PH),(∀i u,F i=some u→Pure u→e i=some u)→K (e.put d r) w):jX C name [.tmp t] [] d K F H:=by
 rcases x with⟨rfl,rfl⟩|⟨q,rs,rfl,h1,h2,h3⟩
 ·refine aB (h.ayS (.inl ⟨rfl,rfl⟩)) (by rw[GO,s9,l,ci]) ?_;exact j F H λi u hi _=>hi
 ·rw[←h3]at h;refine wF (k:=Z' rows) h l h1 h2 (j _ _ λi u hi y=>?_);rw[sG,hi,a5B,y q s rs]
theorem Seen.pure{s:Nat}{v:PV}{rows:List (List PV)}(h:Seen s v rows):Pure v:=by
 rcases h with⟨_,rfl⟩|rfl
 ·exact λ_ _ _=>rfl
 ·exact λ_ _ _=>rfl
def bI(b:Bool):Int:=if b then 0 else 1
abbrev dd(f:aD):List (List UInt8):=(f.a2J.drop 1).map dM.name++f.a2G.map eS.name
def BY(f:aD):Bool:=distinct (f.a2O.map dJ.name)&&distinct (f.a2H.map dZ.name)&&distinct (dd f)&&distinct (f.a2K.map eG.name)&&distinct (f.a2I.map hC.name)
structure Small(f:aD):Prop where
 a2O:Z' f.a2O≤4
 a2H:Z' f.a2H≤4
 a2J:Z' f.a2J≤40
 a2G:Z' f.a2G≤24
 a2K:Z' f.a2K≤4
 a2I:Z' f.a2I≤12
theorem JD{C:Ctx}(L:pD C){v:PV}{l:List (List UInt8)}(h:Seen 1 v (jG l))(e:Z' l≤1000):aJ C 110 [v] .nil (aK (.bool (distinct l))):=
 (L.uniq l (Om:Z' l≤9223372036854775807)).ayS h
theorem aIK{C:Ctx}(L:pD C)(f:aD)(J:Small f)(j l u w x:PV)(ok:Bool)(F:PF)(H:PH)(e:pH F f j l u w x ok)
  (A:Seen 1 j (jG (f.a2O.map dJ.name))) (B:Seen 1 l (jG (f.a2H.map dZ.name))) (h5:Seen 1 u (jG (dd f))) (E:Seen 1 w (jG (f.a2K.map eG.name))) (h7:cZ H 1 x (jG (f.a2I.map hC.name))) :
  aC.wp C (.seq (.seq (.region GX) (.cond (.tmp 243) (.seq (.region tA) .ret) .skip)) (.seq (.region PW) .ret)) (aV [.tmp 2] (cY (.int .i64 (bI (ok&&BY f))))) F H:=by
 obtain⟨s1,s2,s3,s4,Z,s6⟩:=J;have K:(f.a2O.map dJ.name).length≤1000:=by simp;omega
 have M:(f.a2H.map dZ.name).length≤1000:=by simp;omega
 have N:(dd f).length≤1000:=by simp;omega
 have O:(f.a2K.map eG.name).length≤1000:=by simp;omega
 have R:(f.a2I.map hC.name).length≤9223372036854775807:=by simp;omega
 cases ok with
 |false =>simp only[go_sem,GX,e.a8,tA];exact rV rfl rfl
 |true=>
  simp only[go_sem,GX,e.a8,e.a3];refine aB (JD L A K) rfl ?_;unfold BY;cases U:distinct (f.a2O.map dJ.name)with
  |false =>simp only[go_sem,tA,a4O];exact rV rfl rfl
  |true=>
   simp only[go_sem,e.a4,a4H];refine aB (JD L B M) rfl ?_;cases V:distinct (f.a2H.map dZ.name)with
   |false =>simp only[go_sem,tA,a4O];exact rV rfl rfl
   |true=>
    simp only[go_sem,e.a5,a4H];refine aB (JD L h5 N) rfl ?_;cases W:distinct (dd f)with
    |false =>simp only[go_sem,tA,a4O];exact rV rfl rfl
    |true=>
     simp only[go_sem,e.a6,a4H];refine aB (JD L E O) rfl ?_;cases X:distinct (f.a2K.map eG.name)with
     |false =>simp only[go_sem,tA,a4O];exact rV rfl rfl
     |true=>
      simp only[go_sem,e.a7,a4H];refine AD (L.uniq _ R) h7 rfl λy S I=>?_;have g:y 239=some (.bool false):=I 239 _ rfl λ_ _ _=>rfl;cases Y:distinct (f.a2I.map hC.name)with
      |false =>simp only[go_sem,tA,a4O,g];exact rV rfl rfl
      |true =>simp only[go_sem,PW,a4H,g];exact rV rfl rfl
abbrev D3(b:Bool):cP:=aV [.tmp 2] (cY (.int .i64 (bI b)))
def N4:aC:=.seq (.seq (.region lh) (.block 10 (.loop PU))) (.seq (.seq (.region GX) (.cond (.tmp 243) (.seq (.region tA) .ret) .skip)) (.seq (.region PW) .ret))
def N3:aC:=.seq (.seq (.region k7) (.block 8 (.loop PT))) N4
def N2:aC:=.seq (.seq (.region kz) (.block 6 (.loop PS))) N3
def N1:aC:=.seq (.seq (.region ky) (.block 4 (.loop PR))) N2
def N0:aC:=.seq (.seq (.region kw) (.block 2 (.loop PQ))) N1
def azP:aC:=.seq (.seq (.region Cd) (.block 0 (.loop PP))) N0
theorem aPJ{C:Ctx}(L:pD C)(f:aD)(y:Small f)(u w x K:PV)(ok:Bool)(F:PF)(H:PH)(l:pH F f u w x K .aE ok)
  (E:Seen 1 u (jG (f.a2O.map dJ.name))) (I:Seen 1 w (jG (f.a2H.map dZ.name))) (h5:Seen 1 x (jG (dd f))) (R:cZ H 1 K (jG (f.a2K.map eG.name))) :
  aC.wp C N4 (D3 (ok&&f.a2I.all (tI f)&&BY f)) F H:=by
 unfold N4;simp only[go_sem,lh,l.a1,a3V];refine wG R λJ B N O U j=>?_;refine awT L f y.a2I y.a2K ok u w x J _ N O ⟨j 1 _ (by simp only[go_sem,l.a1]) λ_ _ _=>rfl,j 3 _ (by simp only[go_sem,l.a3]) E.pure,j 4 _ (by simp only[go_sem,l.a4]) I.pure,j 5 _ (by simp only[go_sem,l.a5]) h5.pure,U 6 (by simp only[go_sem,l.a6]),j 7 _ (by simp only[go_sem,l.a7]) λ_ _ _=>rfl,j 8 _ (by simp only[go_sem,l.a8]) λ_ _ _=>rfl⟩
  (j 195 _ rfl λ_ _ _=>rfl) (j 196 _ rfl λ_ _ _=>rfl) (j 197 _ rfl λ_ _ _=>rfl) λv M H' A S=>?_
 have e:=aIK L f y u w x J v _ M H' A E I h5 B S;simp only[aC.wp,go_sem]at e;simp only[go_sem];exact e
theorem aPI{C:Ctx}(L:pD C)(f:aD)(O:f.Ok)(w:Small f)(l u I:PV)(ok:Bool)(F:PF)(H:PH)(j:pH F f l u I .aE .aE ok)
  (A:Seen 1 l (jG (f.a2O.map dJ.name))) (B:Seen 1 u (jG (f.a2H.map dZ.name))) (h5:cZ H 1 I (jG (dd f))) :
  aC.wp C N3 (D3 (ok&&f.a2K.all (mY f.a2H.length)&&f.a2I.all (tI f)&&BY f)) F H:=by
 unfold N3;simp only[go_sem,k7,j.a1,a3V];refine wG h5 λE y K M R e=>?_;refine awS L f O w.a2K w.a2H ok l u E .aE _ K M ⟨e 1 _ (by simp only[go_sem,j.a1]) λ_ _ _=>rfl,e 3 _ (by simp only[go_sem,j.a3]) A.pure,e 4 _ (by simp only[go_sem,j.a4]) B.pure,R 5 (by simp only[go_sem,j.a5]),e 6 _ (by simp only[go_sem,j.a6]) λ_ _ _=>rfl,e 7 _ (by simp only[go_sem,j.a7]) λ_ _ _=>rfl,e 8 _ (by simp only[go_sem,j.a8]) λ_ _ _=>rfl⟩
  (e 174 _ rfl λ_ _ _=>rfl) (e 175 _ rfl λ_ _ _=>rfl) (e 176 _ rfl λ_ _ _=>rfl) λv J H' x N=>?_
 simp only[go_sem];exact aPJ L f w l u E v _ J H' x A B y N
theorem aPH{C:Ctx}(L:pD C)(f:aD)(I:f.Ok)(j:Small f)(l u x:PV)(ok:Bool)(F:PF)(H:PH)(e:pH F f l u x .aE .aE ok)
  (A:Seen 1 l (jG (f.a2O.map dJ.name))) (B:Seen 1 u (jG (f.a2H.map dZ.name))) (h5:cZ H 1 x (jG ((f.a2J.drop 1).map dM.name))) :
  aC.wp C N2 (D3 (ok&&f.a2G.all (mI f)&&f.a2K.all (mY f.a2H.length)&&f.a2I.all (tI f)&&BY f)) F H:=by
 unfold N2;simp only[go_sem,kz,e.a1,a3V];refine awR L f ((f.a2J.drop 1).map dM.name) (by have:=j.a2J;simp;omega) j.a2G j.a2H j.a2J ok l u x .aE .aE _ _ H ⟨by simp only[go_sem,e.a1],by simp only[go_sem,e.a3],by simp only[go_sem,e.a4],by simp only[go_sem,e.a5],by simp only[go_sem,e.a6],by simp only[go_sem,e.a7],by simp only[go_sem,e.a8]⟩ h5
  rfl rfl rfl λv y H' w E=>?_
 simp only[go_sem];exact aPI L f I j l u v _ y H' w A B E
theorem aPG{C:Ctx}(L:pD C)(f:aD)(R:f.Ok)(B:Small f)(V:0<Z' f.a2J)(u I:PV)(ok:Bool)(F:PF)(H:PH)(j:pH F f u I .aE .aE .aE ok)
  (A:Seen 1 u (jG (f.a2O.map dJ.name))) (N:cZ H 1 I (jG (f.a2H.map dZ.name))) :
  aC.wp C N1 (D3 (ok&&f.a2G.all (mI f)&&f.a2K.all (mY f.a2H.length)&&f.a2I.all (tI f)&&BY f)) F H:=by
 unfold N1;have w:(1:Int)≤(Z' f.a2J:Nat):=Om;have S:=B.a2J;have l:((f.a2J.map dM.cells).take f.a2J.length).drop 1=(f.a2J.drop 1).map dM.cells:=by rw[a4N aW,List.map_drop]
 simp only[go_sem,ky,j.a1,a3V,w,a6U,l];refine wG N λE y K M U e=>?_;refine awQ L f (f.a2J.drop 1) (by simp;omega) ok u E .aE .aE _ K M ⟨e 1 _ (by simp only[go_sem,j.a1]) λ_ _ _=>rfl,e 3 _ (by simp only[go_sem,j.a3]) A.pure,U 4 (by simp only[go_sem,j.a4]),e 5 _ (by simp only[go_sem,j.a5]) λ_ _ _=>rfl,e 6 _ (by simp only[go_sem,j.a6]) λ_ _ _=>rfl,e 7 _ (by simp only[go_sem,j.a7]) λ_ _ _=>rfl,e 8 _ (by simp only[go_sem,j.a8]) λ_ _ _=>rfl⟩
  (e 119 _ rfl λ_ _ _=>rfl) (e 120 _ rfl λ_ _ _=>rfl) (e 121 _ rfl λ_ _ _=>rfl) λv J H' x O=>?_
 simp only[go_sem];exact aPH L f R B u E v _ J H' x A y O
theorem aPF{C:Ctx}(L:pD C)(f:aD)(M:f.Ok)(l:Small f)(K:0<Z' f.a2J)(y:PV)(ok:Bool)(F:PF)(H:PH)(j:pH F f y .aE .aE .aE .aE ok)
  (I:cZ H 1 y (jG (f.a2O.map dJ.name))) :
  aC.wp C N0 (D3 (ok&&f.a2H.all (oN f)&&f.a2G.all (mI f)&&f.a2K.all (mY f.a2H.length)&&f.a2I.all (tI f)&&BY f)) F H:=by
 unfold N0;simp only[go_sem,kw,j.a1,a3V];refine wG I λx w B E N e=>?_;refine awP L f l.a2H l.a2O ok x .aE .aE .aE _ B E ⟨e 1 _ (by simp only[go_sem,j.a1]) λ_ _ _=>rfl,N 3 (by simp only[go_sem,j.a3]),e 4 _ (by simp only[go_sem,j.a4]) λ_ _ _=>rfl,e 5 _ (by simp only[go_sem,j.a5]) λ_ _ _=>rfl,e 6 _ (by simp only[go_sem,j.a6]) λ_ _ _=>rfl,e 7 _ (by simp only[go_sem,j.a7]) λ_ _ _=>rfl,e 8 _ (by simp only[go_sem,j.a8]) λ_ _ _=>rfl⟩
  (e 85 _ rfl λ_ _ _=>rfl) (e 86 _ rfl λ_ _ _=>rfl) (e 87 _ rfl λ_ _ _=>rfl) λv A H' u J=>?_
 simp only[go_sem];exact aPG L f M l K x v _ A H' u w J
theorem aPE{C:Ctx}(L:pD C)(f:aD)(l:f.Ok)(u:Small f)(y:0<Z' f.a2J)(F:PF)(H:PH)(e:pH F f .aE .aE .aE .aE .aE true) :
  aC.wp C azP (D3 (f.a2O.all oK&&f.a2H.all (oN f)&&f.a2G.all (mI f)&&f.a2K.all (mY f.a2H.length)&&f.a2I.all (tI f)&&BY f)) F H:=by
 unfold azP;simp only[go_sem,Cd,e.a1,a3V];refine awO L f l u.a2O .aE .aE .aE .aE _ _ H ⟨by simp only[go_sem,e.a1],by simp only[go_sem,e.a3],by simp only[go_sem,e.a4],by simp only[go_sem,e.a5],by simp only[go_sem,e.a6],by simp only[go_sem,e.a7],by simp only[go_sem,e.a8]⟩ rfl rfl rfl λv w H' j x=>?_;simp only[go_sem];exact aPF L f l u y v _ w H' j x
theorem aPD{C:Ctx}(L:pD C)(f:aD)(J:f.Ok):XA.wp C (aV aIJ.res (cY (.int .i64 (DF f)))) (PF.args [.agg f.cells]) .nil:=by
 have he:dX f=(sL f&&sX f&&(f.a2O.all oK&&f.a2H.all (oN f)&&f.a2G.all (mI f)&&f.a2K.all (mY f.a2H.length)&&f.a2I.all (tI f))&&BY f):=rfl;simp only[go_sem,XA,alF,alG,aIJ];refine aB (L.inn f.a3M 1 4) rfl ?_;have j:∀(F:PF)(H:PH),dX f=false→F 2=some (.int .i64 1)→aV [.tmp 2] (cY (.int .i64 (DF f))) .ret F H:=λF H N O=>rV O (zc N).symm;cases I:within f.a3M 1 4 with
 |false=>
  have:sL f=false:=by simp[sL,I]
  simp only[go_sem,a4O,vL];exact j _ _ (by rw[he,this];simp only[a4F]) rfl
 |true=>
  by_cases s1:Z' f.a2O≤4
  ·have l:¬(Z' f.a2O:Int)>4:=Om;by_cases s2:Z' f.a2H≤4
   ·have u:¬(Z' f.a2H:Int)>4:=Om;by_cases s3:Z' f.a2J≤40
    ·have w:¬(Z' f.a2J:Int)>40:=Om;by_cases s4:Z' f.a2G≤24
     ·have x:¬(Z' f.a2G:Int)>24:=Om;by_cases K:Z' f.a2K≤4
      ·have y:¬(Z' f.a2K:Int)>4:=Om;by_cases M:Z' f.a2I≤12
       ·have A:¬(Z' f.a2I:Int)>12:=Om;have B:=agR ⟨s1,s2,s3,s4,K,M⟩;rw[I]at B;simp only[go_sem,a4H,a3V,l,u,w,x,y,A];refine aB (L.a2Q f J) rfl ?_;cases E:sX f with
        |false =>simp only[go_sem,a4O,vL];exact j _ _ (by rw[he,E];simp only[a5I,a4F]) rfl
        |true=>
         have R:0<Z' f.a2J:=by
          rcases a6C f.a2J.length with h|h
          ·have:f.a2J=[]:=List.eq_nil_of_length_eq_zero h;rw[sX,this]at E;cases E
          ·exact h
         have U:DF f=bI (f.a2O.all oK&&f.a2H.all (oN f)&&f.a2G.all (mI f)&&f.a2K.all (mY f.a2H.length)&&f.a2I.all (tI f)&&BY f):=by rw[DF,he,B,E];rfl
         rw[U];simp only[go_sem,a4H,alH,alI];have e:=λF H S=>aPE L f J ⟨s1,s2,s3,s4,K,M⟩ R F H S;simp only[azP,N0,N1,N2,N3,N4,aC.wp,go_sem]at e;exact e _ _ ⟨by simp only[go_sem],by simp only[go_sem],by simp only[go_sem],by simp only[go_sem],by simp only[go_sem],by simp only[go_sem],by simp only[go_sem]⟩
       ·have A:(Z' f.a2I:Int)>12:=Om;simp only[go_sem,a4H,a3V,l,u,w,x,y,A,vL];exact j _ _ (by rw[he,sM Om];simp only[a4F]) rfl
      ·have y:(Z' f.a2K:Int)>4:=Om;simp only[go_sem,a4H,a3V,l,u,w,x,y,vL];exact j _ _ (by rw[he,sM Om];simp only[a4F]) rfl
     ·have x:(Z' f.a2G:Int)>24:=Om;simp only[go_sem,a4H,a3V,l,u,w,x,vL];exact j _ _ (by rw[he,sM Om];simp only[a4F]) rfl
    ·have w:(Z' f.a2J:Int)>40:=Om;simp only[go_sem,a4H,a3V,l,u,w,vL];exact j _ _ (by rw[he,sM Om];simp only[a4F]) rfl
   ·have u:(Z' f.a2H:Int)>4:=Om;simp only[go_sem,a4H,a3V,l,u,vL];exact j _ _ (by rw[he,sM Om];simp only[a4F]) rfl
  ·have l:(Z' f.a2O:Int)>4:=Om;simp only[go_sem,a4H,a3V,l,vL];exact j _ _ (by rw[he,sM Om];simp only[a4F]) rfl
def lvl(f:aD)(i:Nat):Int:=(f.a2J.map dM.level).getD i 0
def par(f:aD)(i:Nat):Int:=(f.a2J.map dM.parent).getD i 0
def kK(f:aD)(i:Nat):Nat:=(par f i).toNat
def fR(f:aD)(d:Nat):Nat:=((f.a2G.map eS.machine).getD d 0).toNat
def mdl(f:aD)(d:Nat):Nat:=((f.a2G.map eS.model).getD d 0).toNat
def ext(f:aD)(d:Nat):Int:=(f.a2H.map dZ.a2X).getD (mdl f d) 0
def DD(f:aD)(v:Nat):Nat:=((f.a2I.map hC.a2T).getD v 0).toNat
def aWU:eG:=⟨[],0,0,0,0,0,0,0,0,[],[],⟨false,[],[]⟩,⟨false,[],[]⟩⟩
def cX(f:aD)(v:Nat):eG:=f.a2K.getD (DD f v) aWU
def upN(f:aD):Nat→Nat→Nat
 |0,i=>i
 |k+1,i=>kK f (upN f k i)
theorem getD_at{α β:Type}{l:List α}{g:α→β}{i:Nat}{b:β}(h:i<Z' l):(l.map g).getD i b=g l[i]:=by
 simp[a4D,h]
structure VF(f:aD):Prop where
 small:Small f
 root:0<Z' f.a2J∧lvl f 0=0∧par f 0=-1
 dom:∀i,0<i→i<Z' f.a2J→0≤par f i∧kK f i<i∧lvl f (kK f i)=lvl f i-1∧1≤lvl f i∧lvl f i≤4
 drive:∀d (h:d<Z' f.a2G),0≤(f.a2G[d]).model∧mdl f d<Z' f.a2H∧0≤(f.a2G[d]).machine∧fR f d<Z' f.a2J∧lvl f (fR f d)=4
 a2T:∀p∈f.a2K,1≤p.k∧p.k≤6∧0≤p.m∧p.m≤4∧p.k+p.m≤8∧p.s0=0∧(∀l,0≤p.spread l∧p.spread l≤8)∧∀m∈p.a2H,0≤m∧m<Z' f.a2H
 volume:∀v (h:v<Z' f.a2I),0≤(f.a2I[v]).a2T∧DD f v<Z' f.a2K
 model:∀m∈f.a2H,1≤m.a2X∧m.a2X≤16
theorem aQR{p:eG}{n:Nat}(h:mY n p=true):∀m∈p.a2H,0≤m∧m<n:=by
 intro m j;simp only[mY,a4P]at h;obtain⟨i,hi,rfl⟩:=a5R j;have:=a4T.1 h.2 i (a4S.2 hi);rw[a4P]at this;have e:=within_iff.1 this.1;simp only[a4D,a4C hi,a6R]at e;omega
theorem Ah{x:Int}(e:1≤x)(j:x≤4):IntKind.i64.wrap (x-1)=x-1:=wrap_i64 Om Om
theorem VF.of{f:aD}(h:dX f=true):VF f:=by
 simp only[dX,a4P]at h;obtain⟨⟨⟨U,j⟩,⟨⟨⟨R,A⟩,y⟩,B⟩,E⟩,-⟩:=h;simp only[sL,a4P,decide_eq_true_eq]at U;obtain⟨⟨⟨⟨⟨⟨s0,s1⟩,s2⟩,s3⟩,s4⟩,s5⟩,s6⟩:=U;cases e:f.a2J with
 |nil=>rw[sX,e]at j;cases j
 |cons r t=>
  rw[sX,e]at j;simp only[IB,a4P,decide_eq_true_eq]at j;obtain⟨⟨⟨⟨⟨⟨r1,r2⟩,r3⟩,r4⟩,r5⟩,r6⟩,x⟩:=j;have S:Z' f.a2J=Z' t+1:=by rw[e];rfl
  refine⟨⟨s1,s2,s3,s4,s5,s6⟩,⟨by omega,by rw[lvl,e];exact r2,by rw[par,e];exact r3⟩,?_,?_,?_,?_,?_⟩
  ·intro i h0 hi;obtain⟨k,rfl⟩:∃k,i=k+1:=⟨i-1,by omega⟩;have I:k<Z' t:=Om;have:=a4T.1 x k (a4S.2 I);rw[a4C I]at this;simp only[ON,a4P,decide_eq_true_eq]at this;obtain⟨⟨⟨⟨J,F⟩,K⟩,d4⟩,d5⟩:=this;obtain⟨p0,p1⟩:=within_iff.1 J;obtain⟨W,X⟩:=within_iff.1 K;have u:par f (k+1)=(t[k]).parent:=by rw[par,e];simp[a4D,I]
   have w:lvl f (k+1)=(t[k]).level:=by rw[lvl,e];simp[a4D,I]
   rw[Ah W X]at F;have Y:lvl f (t[k]).parent.toNat=(t[k]).level-1:=F;refine⟨by rw[u];exact p0,?_,?_,by rw[w];exact W,by rw[w];exact X⟩
   ·rw[kK,u];omega
   ·rw[kK,u,w];exact Y
  ·intro d j;have:=a4T.1 y _ (a3Y j);simp only[mI,a4P,decide_eq_true_eq]at this;obtain⟨⟨J,F⟩,K⟩:=this;have a1:=within_iff.1 J;have a2:=within_iff.1 F;have u:mdl f d=(f.a2G[d]).model.toNat:=by rw[mdl,getD_at j]
   have w:fR f d=(f.a2G[d]).machine.toNat:=by rw[fR,getD_at j]
   refine⟨a1.1,by rw[u];omega,a2.1,by rw[w];omega,by rw[w];exact K⟩
  ·intro p hp;have M:=a4T.1 B p hp;have Z:=aQR M;simp only[mY,RQ,a4P,decide_eq_true_eq,List.all_cons,List.all_nil,a5Z]at M;obtain⟨⟨⟨⟨⟨⟨⟨⟨k1,m1⟩,km⟩,q1⟩,z0⟩,sp⟩,-⟩,-⟩,-⟩:=M;obtain⟨g0,g1,g2,g3,g4⟩:=sp;have N:=within_iff.1 k1;have O:=within_iff.1 m1;have b3:=within_iff.1 g0;have b4:=within_iff.1 g1;have b5:=within_iff.1 g2;have b6:=within_iff.1 g3;have b7:=within_iff.1 g4;refine⟨N.1,N.2,O.1,O.2,km,z0,λl=>?_,Z⟩;unfold eG.spread;split<;>omega
  ·intro v V;have:=a4T.1 E _ (a3Y V);have a1:=within_iff.1 this;have u:DD f v=(f.a2I[v]).a2T.toNat:=by rw[DD,getD_at V]
   exact⟨a1.1,by rw[u];omega⟩
  ·intro m hm;have:=a4T.1 A m hm;simp only[oN,a4P]at this;exact within_iff.1 this.1.1
theorem aa{f:aD}(h:VF f){d:Nat}(j:d<Z' f.a2G):∀{k:Nat},k≤4→upN f k (fR f d)<Z' f.a2J∧lvl f (upN f k (fR f d))=4-(k:Int)
 |0,_=>⟨(h.drive d j).2.2.2.1,by rw[upN,(h.drive d j).2.2.2.2];rfl⟩
 |k+1,y=>by
  obtain⟨w,u⟩:=aa h j (k:=k) Om;have l:0<upN f k (fR f d):=by
   rcases a6C (upN f k (fR f d))with e|e
   ·rw[e,h.root.2.1]at u;omega
   ·exact e
  obtain⟨g1,g2,g3,g4,x⟩:=h.dom _ l w;refine⟨by rw[upN];omega,?_⟩;rw[upN,g3,u];omega
def mT(f:aD)(d:Nat)(level:Int):Nat:=upN f (4-level.toNat) (fR f d)
def qO(f:aD)(v:Nat):Int:=(cX f v).k+(cX f v).m
def ik:=bP [1] Proofs.Tryz.f54
def Kq:=aA ik 0
def Kr:=aA ik 1
def LO:aC:=(sq Kq (sq Kr .ret))
def abI:bA:=⟨1,6,LO,[.tmp 2]⟩
def TB:=bP [2] Proofs.Tryz.f115
def aaU:=aA TB 0
def aaV:=bY TB 0
def aaW:=aA TB 1
def TA:aC:=(sq aaU (dq aaV (sq aaW .ret)))
def azC:bA:=⟨2,21,TA,[.tmp 4]⟩
def mD:=bP [2] Proofs.Tryz.f25
def aaY:=aA mD 0
def aaZ:=aA mD 1
def abA:=aA mD 2
def abB:=aA mD 3
def abC:=aA mD 4
def abD:=aA mD 5
def abE:=aA mD 6
def abF:=bY mD 0
def abG:=aA mD 7
def abH:=bY mD 1
def ZQ:=aA mD 8
def Ko:aC:=(gJ abD 17 0 ZQ (sq abE (dq abF (sq abG (.cond (Tm 37) (.draw abH) .skip)))))
def Kp:=aA mD 9
def TC:aC:=(sq aaY (dN aaZ 9 abA (sq abB (.seq (cL abC 0 Ko) (sq Kp .ret)))))
def dr:bA:=⟨2,53,TC,[.tmp 4]⟩
theorem aFB{C:Ctx}(h:∀f:aD,f.Ok→aJ C 96 [.agg f.cells] .nil (aK (.int .i64 (DF f))))(f:aD)(e:f.Ok) :
  LO.wp C (aV abI.res (cY (.bool (dX f)))) (PF.args [.agg f.cells]) .nil:=by
 simp only[go_sem,LO,Kq,Kr,abI];refine aB (h f e) Ev ?_;simp only[go_sem];refine bM Ev ?_;unfold DF;cases dX f<;>rfl
theorem rE{f:aD}{d:Nat}(h:d<Z' f.a2G):(f.a2G.map eS.cells)[d]?=some (f.a2G[d]).cells:=by simp[h]
theorem pI{f:aD}{d:Nat}(h:d<Z' f.a2J):(f.a2J.map dM.cells)[d]?=some (f.a2J[d]).cells:=by simp[h]
theorem AA{f:aD}{d:Nat}(h:d<Z' f.a2I):(f.a2I.map hC.cells)[d]?=some (f.a2I[d]).cells:=by simp[h]
theorem tR{f:aD}{d:Nat}(h:d<Z' f.a2K):(f.a2K.map eG.cells)[d]?=some (f.a2K[d]).cells:=by simp[h]
theorem Gx{f:aD}{d:Nat}(h:d<Z' f.a2H):(f.a2H.map dZ.cells)[d]?=some (f.a2H[d]).cells:=by simp[h]
theorem Ur{f:aD}{d:Nat}(h:d<Z' f.a2J):(f.a2J[d]).level=lvl f d:=by rw[lvl,getD_at h]
theorem Yd{f:aD}{d:Nat}(h:d<Z' f.a2J):(f.a2J[d]).parent=par f d:=by rw[par,getD_at h]
theorem VF.cz{f:aD}(h:VF f){d:Nat}(e:d<Z' f.a2G):(f.a2G[d]).machine=((fR f d:Nat):Int):=by
 have:=(h.drive d e).2.2.1;rw[fR,getD_at e];omega
theorem VF.XI{f:aD}(h:VF f){d:Nat}(e:d<Z' f.a2G):(f.a2G[d]).model=((mdl f d:Nat):Int):=by
 have:=(h.drive d e).1;rw[mdl,getD_at e];omega
theorem VF.YV{f:aD}(h:VF f){v:Nat}(e:v<Z' f.a2I):(f.a2I[v]).a2T=((DD f v:Nat):Int):=by
 have:=(h.volume v e).1;rw[DD,getD_at e];omega
theorem VF.Dg{f:aD}(h:VF f){i:Nat}(e:0<i)(hi:i<Z' f.a2J):par f i=((kK f i:Nat):Int):=by
 have:=(h.dom i e hi).1;rw[kK];omega
theorem rT{f:aD}(h:VF f){v:Nat}(j:v<Z' f.a2I):∃e:DD f v<Z' f.a2K,f.a2K[DD f v]=cX f v:=by
 have e:=(h.volume v j).2;exact⟨e,by simp[cX,a4D,e]⟩
theorem aLG{C:Ctx}(f:aD)(j:VF f)(v:Nat)(h:v<Z' f.a2I) :
  TA.wp C (aV azC.res (cY (.int .i64 (qO f v)))) (PF.args [.agg f.cells,.int .i64 v]) .nil:=by
 obtain⟨l,he⟩:=rT j h;have e:=j.a2T _ (a3Y l);rw[he]at e;have u:IntKind.i64.wrap ((cX f v).k+(cX f v).m)=(cX f v).k+(cX f v).m:=wrap_i64 Om Om;simp only[go_sem,TA,aaU,azC];refine aZ .nil cI a_ ?_;simp only[go_sem,aaV,AA h,j.YV h,tR l,he];refine aQ λo w=>?_;simp only[go_sem,aaW,u];refine⟨a_,?_⟩;exact rV (n:=(cX f v).k+(cX f v).m) Ev rfl
structure aNC(C:Ctx):Prop where
 valid:∀f:aD,f.Ok→aJ C 161 [.agg f.cells] .nil (aK (.bool (dX f)))
 Qw:∀(f:aD)(v:Nat),VF f→v<Z' f.a2I→aJ C 156 [.agg f.cells,.int .i64 v] .nil (aK (.int .i64 (qO f v)))
def pick(n:Nat)(p:Nat→Bool):List Int:=((a3U n).filter p).map λ(i:Nat)=>(i:Int)
theorem awZ(l:List Int)(x:Int):cC l++[[.int .i64 x]]=cC (l++[x]):=by unfold cC;rw[a5L];rfl
theorem jR(l:List Int):(cC l).length=Z' l:=by unfold cC;rw[a3V]
theorem Dp{t:Nat}{H:PH}{v:PV}{l:List Int}{F:PF}(h:cZ H 1 v (cC l))(e:F t=some v):aV [.tmp t] (cY (ints l)) .ret F H:=SI (.inr rfl) h e
theorem Zv{t:Nat}{H:PH}{F:PF}(e:F t=some .aE):aV [.tmp t] (cY (ints [])) .ret F H:=SI (rows:=[]) (.inr rfl) .nil e
section
variable (o s:Nat) (rs:List (List PV))
@[go_sem] theorem aZL(k:IntKind)(n:Int):PV.frz o s rs (.int k n)=.int k n:=(rfl)
@[go_sem] theorem aXS(b:Bool):PV.frz o s rs (.bool b)=.bool b:=(rfl)
@[go_sem] theorem aZP(l:List UInt8):PV.frz o s rs (.str l)=.str l:=(rfl)
@[go_sem] theorem aXT:PV.frz o s rs .aE=.aE:=(rfl)
@[go_sem] theorem a0Q(n:Nat)(r:List (List PV)):PV.frz o s rs (.sl n r)=.sl n r:=(rfl)
@[go_sem] theorem aXU(c:List PV):PV.frz o s rs (.bU c)=.bU c:=(rfl)
@[go_sem] theorem aZO(q z i c:Nat):PV.frz o s rs (.ptr q z i c)=.ptr q z i c:=(rfl)
@[go_sem] theorem a0P(n:Nat)(c:List PV):PV.frz o s rs (.fn n c)=.fn n c:=(rfl)
@[go_sem] theorem aZM(q:Nat):PV.frz o s rs (.map q)=.map q:=(rfl)
@[go_sem] theorem aZN(q z e len:Nat):PV.frz o s rs (.osl q z e len)=if q=o then(if z=s∧e+len≤rs.length then .sl s ((rs.drop e).take len)else .junk)else .osl q z e len:=(rfl)
end
def rY(s:Nat)(rows:List (List PV))(r:PV)(H:PH):Prop:=
 (rows=[]∧r=.aE∧H=PH.nil)∨∃q rs,r=.osl q s 0 rows.length∧H=PH.nil.set q (.rows s rs)∧Z' rows≤Z' rs∧rs.take rows.length=rows
theorem B6(q s:Nat)(rs:List (List PV)):(PH.nil.set q (.rows s rs)).frz q s rs=PH.nil:=PH.ext λo=>by
 rw[FP];by_cases e:o=q
 ·rw[aL e];rfl
 ·rw[aG e,aU,aG e];rfl
section
variable {C:Ctx} {K:cP} {F:PF} {H:PH} {s:Nat} {v:PV} {rows:List (List PV)}
theorem rY.over{r:PV}{H':PH}(h:rY s rows r H')(u:oP H .nil H'):cZ (H.over .nil H') s r rows∧∀o x,H o=some x→(H.over .nil H') o=some x:=by
 rcases h with⟨e,l,rfl⟩|⟨q,rs,e,rfl,h3,h4⟩
 ·rw[PH.qK];exact⟨.inl ⟨e,l⟩,λo x h=>h⟩
 ·rw[PH.qL];have hq:H q=none:=u q (.rows s rs) (by simp only[aU,if_true]) rfl;refine⟨.inr ⟨q,rs,e,by simp only[aU,if_true],h3,h4⟩,λo x j=>?_⟩;have:o≠q:=by rintro rfl;rw[hq]at j;cases j
  simp only[aU,aG this,j]
theorem SH{t:Nat}{e:nN}(he:e=.normal∨e=.ret)(h:cZ H s v rows)(j:F t=some v):aV [.tmp t] (rY s rows) e F H:=by
 rcases h with⟨rfl,rfl⟩|⟨q,rs,rfl,h1,h2,h3⟩
 ·exact bD (vs:=[.aE]) he .nil (by rw[oY,sJ,j,tU]) a_ (.inl ⟨rfl,rfl,rfl⟩)
 ·exact bD (vs:=[.osl q s 0 rows.length]) he (PH.nil.set q (.rows s rs)) (by rw[oY,sJ,j,tU]) (e_ a_ h1) (.inr ⟨q,rs,rfl,rfl,h2,h3⟩)
theorem NV{t:Nat}{e:nN}(he:e=.normal∨e=.ret)(j:F t=some .aE):aV [.tmp t] (rY s []) e F H:=SH he .nil j
theorem aEK{t:Nat}{e:nN}{r:PV}{H':PH}(he:e=.normal∨e=.ret)(h:rY s rows r H')(l:F t=some r):aV [.tmp t] (rY s rows) e F (H.over .nil H'):=by
 refine bD (vs:=[r]) he H' (by rw[oY,sJ,l,tU]) (λo x j=>?_) h;rw[tQ,j]
theorem aJ.freeze{name:Nat}{args:List PV}(h:aJ C name args H (rY s rows)):aJ C name args H (aK (.sl s rows)):=
 ⟨h.1,λE w vs J hW x=>(h.2 E w vs J hW x).mono λe R he=>by
  obtain⟨u,pv,B,H',rfl,j,A,y,M⟩:=he;rcases M with⟨rfl,rfl,rfl⟩|⟨q,rs,rfl,rfl,h3,h4⟩
  ·exact⟨u,_,B,_,rfl,j,(Co.nil s).sound A,y,rfl,rfl⟩
  ·have N:lN (PF.nil.set 0 (.osl q s 0 rows.length)) (PH.nil.set q (.rows s rs)) _ _:=.step q (s:=s) (rs:=rs) (by simp only[aU,if_true]) (.refl _ _);obtain⟨I,k1,k2,O⟩:=N.sound j;have l:=O (λ_=>u) (λi p hi=>by
    rw[pF]at hi;split at hi
    ·cases hi;exact A
    ·cases hi) 0 (.sl s rows) (by rw[sG,pF,aL rfl,a5B,yA h3,h4])
   rw[B6]at k1 k2;exact⟨u,_,I,_,rfl,k1,l,y.trans k2,rfl,rfl⟩⟩
theorem gS.of:∀{E:Env}(ps:List PV)(vs:List Value),Z' vs=Z' ps→(∀(i:Nat) p v,ps[i]?=some p→vs[i]?=some v→bF E p v)→gS E ps vs
 |_,[],[],_,_=>.nil
 |_,[],_::_,h,_=>by simp at h
 |_,_::_,[],h,_=>by simp at h
 |_,p::ps,v::vs,h,k=>.cons (k 0 p v rfl rfl) (gS.of ps vs (by simpa using h) λi q u a b=>k (i+1) q u (by simpa using a) (by simpa using b))
theorem cK.same{E:Env}{w y:World}(hW:cK E H w)(J:w.heap.size≤y.heap.size)(hb:∀b,b<w.heap.size→H b=none→y.heap[b]?=w.heap[b]?)(I:∀o x,H o=some x→y.heap[o]?=w.heap[o]?):cK E H y:=by
 have l:∀b,b<w.heap.size→y.heap[b]?=w.heap[b]?:=λb hlt=>by
  cases e:H b with
  |none=>exact hb b hlt e
  |some x=>exact I b x e
 refine⟨λb cs h=>?_,λo x h=>?_,λo n h=>?_⟩
 ·obtain⟨j,ty,B,u⟩:=hW.g b cs h;exact⟨j,ty,B,(l b (a7X.1 u).1).trans u⟩
 ·obtain⟨j,u⟩:=hW.h o x h;exact⟨Nat.lt_of_lt_of_le j J,u.mono (.refl E) (l o j)⟩
 ·obtain⟨A,ty,B,j,u⟩:=hW.s o n h;exact⟨A,ty,B,(l o (a7X.1 j).1).trans j,u⟩
inductive Plain:PV→Prop
 |int (k:IntKind) (n:Int):Plain (.int k n)
 |bool (b:Bool):Plain (.bool b)
 |str (l:List UInt8):Plain (.str l)
theorem Plain.rep{v:PV}(h:Plain v){E e:Env}{u:Value}(r:bF E v u):bF e v u:=by
 cases h<;>cases r
 ·exact .int _ _
 ·exact .bool _
 ·exact .str _
theorem aJ.aTO{name o:Nat}{rs:List (List PV)}{args:List PV}(X:Plain v)(h:aJ C name (args.map (PV.frz o s rs)) .nil (aK v)) :
  aJ C name args (PH.nil.set o (.rows s rs)) (λr H'=>r=v∧H'=PH.nil.set o (.rows s rs)):=by
 refine⟨h.1,λE w vs O hW I=>?_⟩;have Y:lN (PF.args args) (PH.nil.set o (.rows s rs)) _ _:=.step o (s:=s) (rs:=rs) (by simp only[aU,if_true]) (.refl _ _);obtain⟨M,k1,k2,Z⟩:=Y.sound hW;rw[B6]at k1 k2;have B:=I.len;have J:gS M (args.map (PV.frz o s rs)) vs.toList:=by
  refine gS.of _ _ (by rw[a3V];exact B) λi p u U W=>?_;have:=Z (λi=>(vs.toList[i]?).getD undef) (λj q N=>by have S:=(a5A.1 N).1;have A:j<Z' vs.toList:=Om;simp only[a4C A,a6R];exact I.at_ j q _ N (a4C A)) i p (by rw[sG,args_at,←a4Q];exact U)
  simp only[W,a6R]at this;exact this
 refine(h.2 M w vs (k2.env.num.trans O) k1 J).mono λe w' he=>?_;obtain⟨u,pv,E2,H2,rfl,R,V,y,rfl,rfl⟩:=he;have l:∀b,b<w.heap.size→w'.heap[b]?=w.heap[b]?:=λb hb=>y.block b hb rfl;refine⟨u,pv,E,_,rfl,hW.same y.size (λb hb _=>l b hb) (λq x hq=>l q (hW.h q x hq).1),X.rep V,⟨.refl E,y.os,y.tape,y.output,y.size,λb hb _=>l b hb,λq x hq=>.inl ⟨x,hq⟩,λb cs hb=>.inl hb⟩,rfl,rfl⟩
theorem agV{name o:Nat}{rs:List (List PV)}{args:List aR}{vs:List PV}{d:Option Nat}{K:PF→PH→Prop}(u:Plain v)(h:aJ C name (vs.map (PV.frz o s rs)) .nil (aK v))(e:H o=some (.rows s rs))(j:aR.evs F args=some vs)
  (l:K (F.put d v) H):jX C name args [] d K F H:=by
 refine eY (h.aTO u) j (e_ a_ e) ?_;rintro r H' ⟨rfl,rfl⟩ -;rw[PH.over_self _ (e_ a_ e)];exact l
theorem aGZ{Hs:PH}{S:Spec}{name o:Nat}{rs:List (List PV)}{vs:List PV}{R:PH→PV→PH→Prop}{args:List aR}{st:Bool}{d:Option Nat}{K:PF→PH→Prop}(u:S name vs=some ([o],R))(A:Plain v)(y:H o=some (.rows s rs))
  (h:aJ C name (vs.map (PV.frz o s rs)) .nil (aK v)) (e:R (PH.nil.set o (.rows s rs)) v (PH.nil.set o (.rows s rs))) (j:∀r H',R (PH.nil.set o (.rows s rs)) r H'→r=v∧H'=PH.nil.set o (.rows s rs)) (w:aR.evs F args=some vs) (l:Hs.le H) (x:K (F.put d v) H) :
  dOp C Hs S st (.call name args) d K F H:=OL u y (h.aTO A) e j w l x
theorem Nm{name t:Nat}{R:PV→PH→Prop}{d:Option Nat}{K:PF→PH→Prop}(h:aJ C name [.sl s rows] .nil R)(x:cZ H s v rows)(w:F t=some v)
  (l:∀(e:PF)(j:PH),(∀i u,F i=some u→Pure u→e i=some u)→∀r H',R r H'→oP j .nil H'→K (e.put d r) (j.over .nil H')):jX C name [.tmp t] [] d K F H:=by
 rcases x with⟨rfl,rfl⟩|⟨q,rs,rfl,h1,h2,h3⟩
 ·exact .inl ⟨[.aE],.nil,R,by rw[GO,s9,w,ci];rfl,a_,h.ayS (.inl ⟨rfl,rfl⟩),l F H λi u hi _=>hi⟩
 ·refine .inr ⟨_,_,.step q h1 (.refl _ _),[.sl s rows],.nil,R,?_,a_,h,l _ _ λi u hi y=>?_⟩
  ·simp only[GO,ci,s9,sG,w,a5B,yA h2,h3,a5O]
  ·rw[sG,hi,a5B,y q s rs]
end
def sF(A:List Int)(k:Nat):List Int:=A.take k++a3W (Z' A-k) 0
theorem agA(A:List Int):sF A 0=a3W A.length 0:=by simp[sF]
theorem avQ(A:List Int):sF A A.length=A:=by simp[sF]
theorem M8(A:List Int){k:Nat}(h:k≤Z' A):(sF A k).length=Z' A:=by simp[sF];omega
theorem avR(A:List Int){k:Nat}(h:k<Z' A):(sF A k).set k A[k]=sF A (k+1):=by
 unfold sF;rw[a7O _ _ (by simp;omega),a4M,a6G Om,Nat.sub_self,show A.length-k=(Z' A-(k+1))+1 by omega,List.replicate_succ,List.set_cons_zero,
  a5W h,a5C]
 rfl
theorem sQ(l:List Int)(i:Nat)(x:Int):(cC l).set i [.int .i64 x]=cC (l.set i x):=by unfold cC;rw[List.map_set]
theorem agF(n:Nat):a3W n [PV.int .i64 0]=cC (a3W n 0):=by simp[cC]
theorem AS{l:List Int}{i:Nat}(h:i<Z' l):(cC l)[i]?=some [.int .i64 l[i]]:=by simp[cC,h]
def qM(f:aD)(room:List Int)(d:Nat):Int:=if room.length=f.a2G.length then min (max (room.getD d 0) 0) (ext f d)else ext f d
def nP(f:aD)(room:List Int):List Int:=(a3U f.a2G.length).map (qM f room)
def JB(f:aD)(room:List Int):List Int:=if dX f then nP f room else[]
theorem sS(f:aD)(room:List Int):(nP f room).length=Z' f.a2G:=by simp[nP]
theorem SK(f:aD)(room:List Int){d:Nat}(h:d<(nP f room).length):(nP f room)[d]=qM f room d:=by simp[nP]
theorem VF.Pl{f:aD}(h:VF f){d:Nat}(j:d<Z' f.a2G):∃e:mdl f d<Z' f.a2H,(f.a2H[mdl f d]).a2X=ext f d:=by
 have e:=(h.drive d j).2.1;exact⟨e,by rw[ext,getD_at e]⟩
def trF(f:aD)(room:List Int)(o k:Nat):PF:=(((((PF.nil.set 1 (ints room)).set 2 (.bU f.cells)).set 5 (.osl o 1 0 f.a2G.length)).set 15 (.int .i64 (Z' f.a2G:Nat))).set 16 (.int .i64 k))
theorem amI(a b:Int):(if b<a then b else a)=min a b:=by
 rw[Int.min_def];by_cases h:b<a
 ·rw[aL h,aG Om]
 ·rw[aG h,aL Om]
theorem aLJ{C:Ctx}(L:aNC C)(f:aD)(N:f.Ok)(room:List Int) :
  TC.wp C (aV dr.res (rY 1 (cC (JB f room)))) (PF.args [.agg f.cells,ints room]) .nil:=by
 simp only[go_sem,TC,aaY,aaZ,dr];refine aB (L.valid f N) Ev ?_;unfold JB;cases S:dX f with
 |false =>simp only[go_sem,a4O,abA];exact NV (.inr rfl) Ev
 |true=>
  have hV:=VF.of S;have M:=hV.small.a2G;have F:(Z' f.a2G:Int)*((8:Nat):Int)≤140737488355328:=Om;have I:(Z' f.a2G:Int)≤9223372036854775807:=Om;simp only[go_sem,a4H,abB,a3V,F,I];refine aQ λo X=>?_;simp only[go_sem,abC];have u:=sS f room;have E:=λd h=>SK f room (d:=d) h;generalize V:nP f room=A at *
  refine wp_loop (α:=Nat) (λk=>trF f room o k) (λk=>PH.nil.set o (.rows 1 (cC (sF A k)))) (λk=>k≤Z' f.a2G) (λk=>Z' f.a2G-k) 0 (a4A _) ?_ ?_ ?_
  ·unfold trF;exact Lq
  ·refine e_ a_ ?_;simp only[go_sem];rw[agA,u,agF]
  intro k W;simp only[go_sem,Ko,abD,trF];by_cases hlt:k<Z' f.a2G
  ·have e:(k:Int)<(Z' f.a2G:Nat):=Om;obtain⟨R,he⟩:=hV.Pl hlt;have O:=M8 A (k:=k) Om;have w:k<Z' A:=Om;have U:=AS (l:=sF A k) (i:=k) Om;have j:=avR A w;rw[E k w]at j;simp only[go_sem,e,abE];refine aZ .nil cI a_ ?_;simp only[go_sem,abF,rE hlt,hV.XI hlt,Gx R,he,e,a4I,U];refine⟨a_,?_⟩;simp only[go_sem,abG,a3V];by_cases c:Z' room=Z' f.a2G
   ·have y:((Z' room:Int)==(Z' f.a2G:Int))=true:=cA Om;have x:k<Z' room:=Om;have J:(room.map λn=>[PV.int .i64 n])[k]?=some [.int .i64 room[k]]:=by simp[x]
    simp only[go_sem,y];refine aZ .nil cI a_ ?_;have K:(cC ((sF A k).set k (ext f k)))[k]?=some [.int .i64 (ext f k)]:=by rw[←sQ,List.getElem?_set_self (by rw[jR];omega)]
    simp only[go_sem,abH,J,e,a4I,K,max_eq,amI,List.set_set,sQ];refine⟨a_,?_⟩;simp only[go_sem,ZQ,wZz k];refine aH (k+1) hlt Om ?_ ?_
    ·exact Lq
    ·refine e_ a_ ?_;rw[←j,qM,aL c,a4D,a4C x,a6R];simp only[go_sem]
   ·have y:((Z' room:Int)==(Z' f.a2G:Int))=false:=bJ Om;simp only[go_sem,y,ZQ,wZz k,sQ];refine aH (k+1) hlt Om ?_ ?_
    ·exact Lq
    ·refine e_ a_ ?_;rw[←j,qM,aG c];simp only[go_sem]
  ·have e:¬(k:Int)<(Z' f.a2G:Nat):=Om;have:k=Z' f.a2G:=Om;subst this;simp only[go_sem,e,Kp];have B:sF A f.a2G.length=A:=by rw[←u,avQ]
   rw[B];exact SH (.inr rfl) (v:=.osl o 1 0 f.a2G.length) (.inr ⟨o,cC A,by rw[jR,u],by simp only[go_sem],a4B _,a4N (a4B _)⟩) Sq
def O6(n:Nat)(xs:List Int):List Int:=(a3U n).map λ(d:Nat)=>((xs.count (d:Int):Nat):Int)
def Ul(f:aD)(l:List (List Int)):List Int:=O6 f.a2G.length l.flatten
structure aVK(l:List (List Int)):Prop where
 rows:Z' l≤16777216
 all:Z' l.flatten≤16777216
theorem aBJ(l:List (List Int)){i:Nat}(h:i<Z' l):(l.take (i+1)).flatten=(l.take i).flatten++l[i]:=by
 rw[a5W h,List.flatten_append];simp only[List.flatten_cons,List.flatten_nil,a5O]
structure OF where
 kind:Int
 vol:Int
 wher:Int
abbrev OF.cells(x:OF):List PV:=[.int .i64 x.kind,.int .i64 x.vol,.int .i64 x.wher]
def OS(p:Int→Bool):List Int→Nat→Option Nat
 |[],_=>none
 |x::t,i=>if p x then some i else OS p t (i+1)
def aTB(f:aD)(d:Int):Bool:=decide (d < -1)||decide (d≥(Z' f.a2G:Nat))
def aaB(f:aD)(l:List (List Int))(v:Nat):Option OF:=
 if((l.getD v []).length:Int)=qO f v then(OS (aTB f) (l.getD v []) 0).map λ(i:Nat)=>⟨1,v,i⟩else some ⟨1,v,((l.getD v []).length:Nat)⟩
section
variable {C:Ctx} {F:PF} {H:PH}
theorem cZ.ne{s s':Nat}{v:PV}{rows:List (List PV)}{o:Nat}{y:List (List PV)}(h:cZ H s v rows)(w:H o=some (.rows s' y))(x:s≠s'):∀l,v≠.osl o s 0 l:=by
 intro l e;rcases h with⟨_,j⟩|⟨q,rs,h1,j,_⟩
 ·rw[j]at e;cases e
 ·rw[h1]at e;injection e with u
  subst u;rw[w]at j;injection j with j
  injection j with j
  exact x j.symm
theorem cZ.set{s s':Nat}{v:PV}{rows:List (List PV)}{o:Nat}{y:List (List PV)}{x:cD}(h:cZ H s v rows)(u:H o=some (.rows s' y))(w:s≠s'):cZ (H.set o x) s v rows:=by
 have l:=h.ne u w;rcases h with⟨e,j⟩|⟨q,rs,e,j,h3,h4⟩
 ·exact .inl ⟨e,j⟩
 ·refine .inr ⟨q,rs,e,?_,h3,h4⟩;have:q≠o:=by rintro rfl;exact l _ e
  simp only[aU,aG this,j]
def Dis(s:Nat)(v u:PV):Prop:=∀q l e j,v=.osl q s 0 l→u=.osl e s 0 j→q≠e
theorem Dis.nil{s:Nat}:Dis s .aE .aE:=λ_ _ _ _ h=>by cases h
theorem Dis.symm{s:Nat}{v u:PV}(h:Dis s v u):Dis s u v:=λq l x w e j=>(h x w q l j e).symm
end
def BH(kind v:Int)(n:Nat)(p:Nat→Bool):List OF:=((a3U n).filter p).map λ(i:Nat)=>⟨kind,v,i⟩
def PX(f:aD)(i:Nat)(d:Int):Bool:=decide (0≤d)&&decide (mT f d.toNat (lvl f i)=i)
def Bu(f:aD)(xs:List Int)(i:Nat):Int:=if i=0 then 0 else((xs.countP (PX f i):Nat):Int)
def avL(f:aD)(xs:List Int):List Int:=(a3U f.a2J.length).map (Bu f xs)
theorem VF.Gb{f:aD}(h:VF f){i:Nat}(hi:i<Z' f.a2J):0≤lvl f i∧lvl f i≤4∧(lvl f i=0↔i=0):=by
 rcases a6C i with e|e
 ·subst e;rw[h.root.2.1];simp
 ·have:=h.dom i e hi;omega
structure Obs where
 o5:Nat
 o7:Nat
 o8:Nat
 oD:Nat
 oB:Nat
structure Obs.Ne(o:Obs):Prop where
 a1:o.o5≠o.oD
 a2:o.o5≠o.oB
 a3:o.o7≠o.oD
 a4:o.o7≠o.oB
 a5:o.o8≠o.oD
 a6:o.o8≠o.oB
 a7:o.oD≠o.oB
structure aGM(H:PH)(o:Obs)(v:Nat)(p:eG)(A:List Bool)(D B:List Int):Prop where
 h5:H o.o5=some (.rows 1 [[.int .i64 v]])
 h7:H o.o7=some (.rows 17 [p.cells])
 h8:H o.o8=some (.rows 1 (bC A))
 hD:H o.oD=some (.rows 1 (cC D))
 hB:H o.oB=some (.rows 1 (cC B))
theorem aGM.keep{H H':PH}{o:Obs}{v:Nat}{p:eG}{A:List Bool}{D B:List Int}(h:aGM H o v p A D B)(e:∀q s' z,3≠s'→H q=some (.rows s' z)→H' q=some (.rows s' z)):aGM H' o v p A D B:=
 ⟨e _ _ _ aX h.h5,e _ _ _ aX h.h7,e _ _ _ aX h.h8,e _ _ _ aX h.hD,e _ _ _ aX h.hB⟩
def home(row:List Int)(i:Nat):Bool:=decide (row.getD i 0<0)
def w9(f:aD)(p:eG)(row:List Int)(i:Nat):Bool:=decide (0≤row.getD i 0)&&!p.a2H.contains ((mdl f (row.getD i 0).toNat:Nat):Int)
def aNP(f:aD)(row:List Int)(d:Nat):Bool:=decide ((O6 f.a2G.length row).getD d 0>1)
def gZ(f:aD)(p:eG)(i:Nat):Int:=p.spread (lvl f i).toNat
def aNG(f:aD)(p:eG)(row:List Int)(i:Nat):Bool:=decide (gZ f p i>0)&&decide ((avL f row).getD i 0>gZ f p i)
def aw(f:aD)(p:eG)(v:Nat)(row:List Int):List OF:=
 BH 2 v row.length (home row)++BH 3 v f.a2G.length (aNP f row)++BH 4 v row.length (w9 f p row)++BH 5 v f.a2J.length (aNG f p row)
theorem O2(n:Nat):a3W n [PV.bool false]=bC (marks n []):=by rw[Gf];simp[bC]
def aKF(f:aD)(l:List (List Int))(v:Nat):List OF:=match aaB f l v with
 |some x=>[x]
 |none=>aw f (cX f v) v (l.getD v [])
def avS(f:aD)(l:List (List Int))(n:Nat):List OF:=(a3U n).flatMap (aKF f l)
def over(f:aD)(l:List (List Int))(room:List Int)(d:Nat):Bool:=decide ((Ul f l).getD d 0>(nP f room).getD d 0)
def aNQ(f:aD)(l:List (List Int))(room:List Int):List OF:=avS f l l.length++BH 6 (-1) f.a2G.length (over f l room)
def azT(f:aD)(l:List (List Int))(room:List Int):List OF:=
 if dX f then(if l.length=f.a2I.length then aNQ f l room else[⟨1,-1,(Z' l:Nat)⟩])else[]
def CI(f:aD)(l:List (List Int))(room:List Int):Bool:=dX f&&decide ((azT f l room).length=0)
def IR:=bP [] Proofs.Tryz.f21
def amQ:=aA IR 0
def amR:=aA IR 1
def amS:=aA IR 2
def Cq:=aA IR 3
def XN:aC:=(sq amQ (jA amR 5 (.region amS) (sq Cq .ret)))
def aJJ:bA:=⟨1,12,XN,[.tmp 2]⟩
def zG:=bP [] Proofs.Tryz.f26
def m6:=aA zG 0
def QZ:=bY zG 0
def m7:=aA zG 1
def V6:=aA zG 2
def V7:=bY zG 1
def EC:aC:=(sq m6 (.seq (dq QZ (.cond (Tm 18) (sq m7 .ret) .skip)) (sq V6 (dq V7 .ret))))
def Ny:bA:=⟨2,40,EC,[.tmp 4]⟩
def QU:=bP [] Proofs.Tryz.f78
def Ve:=aA QU 0
def Vf:=aA QU 1
def Vg:=aA QU 2
def QT:aC:=(sq Ve (sq Vf (sq Vg .ret)))
def axG:bA:=⟨1,16,QT,[.cell 2 (some 3)]⟩
def eZ:=bP [45,63,90,95] Proofs.Tryz.f48
def amK:=aA eZ 0
def amL:=aA eZ 1
def amM:=aA eZ 2
def amN:=aA eZ 3
def amO:=aA eZ 4
def amP:=aA eZ 5
def Cm:=aA eZ 6
def Cn:=aA eZ 7
def Cp:=aA eZ 8
def dc:=aA eZ 9
def ml:=aA eZ 10
def mm:=aA eZ 11
def mo:=aA eZ 12
def mp:=aA eZ 13
def mq:=aA eZ 14
def QX:=aA eZ 15
def mr:=aA eZ 16
def mu:=aA eZ 17
def Vy:=aA eZ 18
def Vz:=aA eZ 19
def V0:=aA eZ 20
def mw:=aA eZ 21
def my:=aA eZ 22
def mz:=aA eZ 23
def QW:aC:=(dS Vy 68 2 mz (sq Vz (jA V0 85 (.region mw) (.region my))))
def m5:=aA eZ 24
def V1:=aA eZ 25
def Vx:aC:=(dS amP 22 0 V1 (sq Cm (jA Cn 29 (.region Cp) (sq dc (sq ml (sq mm (sq mo (jA mp 58 (.region mq) (sq QX (sq mr (.seq (cL mu 2 QW) (.region m5))))))))))))
def V2:=aA eZ 26
def XM:aC:=(sq amK (sq amL (sq amM (sq amN (.seq (cL amO 0 Vx) (sq V2 .ret))))))
def aJG:bA:=⟨2,99,XM,[.cell 4 (some 4)]⟩
def uP:=bP [16] Proofs.Tryz.f52
def amU:=aA uP 0
def amV:=aA uP 1
def amW:=aA uP 2
def amX:=aA uP 3
def amY:=aA uP 4
def amZ:=aA uP 5
def amT:aC:=(dS amX 10 0 amZ (.region amY))
def anA:=aA uP 6
def XO:aC:=(sq amU (sq amV (.seq (cL amW 0 amT) (sq anA .ret))))
def aJL:bA:=⟨2,19,XO,[.tmp 4]⟩
def vn:=bP [] Proofs.Tryz.f49
def V3:=aA vn 0
def V4:=aA vn 1
def QY:aC:=(sq V3 (sq V4 .ret))
def axJ:bA:=⟨2,9,QY,[.tmp 4]⟩
def jD:=bP [60,81,113] Proofs.Tryz.f51
def Vj:=aA jD 0
def Vk:=aA jD 1
def Vl:=aA jD 2
def Vm:=aA jD 3
def QV:=aA jD 4
def mg:=aA jD 5
def mh:=aA jD 6
def Vn:=aA jD 7
def Vo:=bY jD 0
def Vp:=bY jD 1
def Gs:=aA jD 8
def Gt:=bY jD 2
def Gu:=aA jD 9
def Gv:=aA jD 10
def XK:=bY jD 3
def XL:=aA jD 11
def CM:=aA jD 12
def CL:aC:=(dS mg 28 0 CM (jA mh 32 (jA Vn 39 (dq Vo (.draw Vp)) (.exit 1)) (jA Gs 78 .ret (dq Gt (jA Gu 98 (.region Gv) (dq XK (.region XL)))))))
def EB:aC:=(sq Vj (sq Vk (jA Vl 25 (.region Vm) (cL QV 0 CL))))
def Nx:bA:=⟨4,127,EB,[]⟩
def cG:=bP [40,67,148,154,176] Proofs.Tryz.f22
def Gi:=aA cG 0
def Gj:=aA cG 1
def Gk:=aA cG 2
def Gl:=aA cG 3
def Gm:=aA cG 4
def Gn:=aA cG 5
def Gp:=aA cG 6
def Gq:=aA cG 7
def Gr:=aA cG 8
def XJ:aC:=(dS Gm 29 0 Gr (sq Gn (sq Gp (.region Gq))))
def uv:=aA cG 9
def uw:=aA cG 10
def ux:=aA cG 11
def uy:=bY cG 0
def uz:=bY cG 1
def u0:=aA cG 12
def QI:aC:=(dS ux 48 2 u0 (dq uy (.draw uz)))
def u5:=aA cG 13
def u6:=aA cG 14
def u7:=aA cG 15
def u9:=aA cG 16
def va:=aA cG 17
def QL:=aA cG 18
def DW:=bY cG 2
def DX:=bY cG 3
def DY:=aA cG 19
def DZ:=aA cG 20
def QM:=aA cG 21
def vb:=aA cG 22
def vd:=aA cG 23
def ve:=aA cG 24
def QN:=aA cG 25
def DU:aC:=(dS vb 119 6 QN (sq vd (.cond (Tm 124) (.region ve) .skip)))
def QP:=aA cG 26
def QQ:=aA cG 27
def QR:=aA cG 28
def QS:=aA cG 29
def EA:=aA cG 30
def vf:=aA cG 31
def QJ:aC:=(dS va 82 4 vf (sq QL (.seq (dq DW (.draw DX)) (sq DY (sq DZ (.seq (cL QM 6 DU) (sq QP (sq QQ (jA QR 143 (.region QS) (.region EA))))))))))
def vg:=aA cG 32
def vh:=aA cG 33
def vi:=aA cG 34
def vj:=bY cG 4
def vk:=bY cG 5
def vl:=aA cG 35
def QK:aC:=(dS vi 163 8 vl (dq vj (.draw vk)))
def vm:=aA cG 36
def KI:aC:=(sq Gi (sq Gj (sq Gk (.seq (cL Gl 0 XJ) (sq uv (.seq (cL uw 2 QI) (sq u5 (sq u6 (sq u7 (.seq (cL u9 4 QJ) (sq vg (.seq (cL vh 8 QK) (sq vm .ret)))))))))))))
def Vd:bA:=⟨3,180,KI,[.cell 6 (some 7)]⟩
def ft:=bP [] Proofs.Tryz.f10
def Gc:=aA ft 0
def Gd:=aA ft 1
def KF:aC:=(sq Gc (sq Gd .ret))
def Us:bA:=⟨3,12,KF,[.cell 6 (some 7)]⟩
def pK:=bP [3,21] Proofs.Tryz.f23
def Wd:=aA pK 0
def We:=aA pK 1
def Wf:=aA pK 2
def Wg:=aA pK 3
def Wh:=aA pK 4
def Wi:=aA pK 5
def Wj:=aA pK 6
def Wk:=aA pK 7
def Wc:aC:=(dS Wi 14 0 Wk (.region Wj))
def Wl:=aA pK 8
def RB:aC:=(sq Wd (dN We 9 Wf (sq Wg (.seq (cL Wh 0 Wc) (sq Wl .ret)))))
def axM:bA:=⟨2,24,RB,[.tmp 4]⟩
def SR:=bP [2] Proofs.Tryz.f57
def Z8:=aA SR 0
def Z9:=bY SR 0
def aaA:=aA SR 1
def SQ:aC:=(sq Z8 (dq Z9 (sq aaA .ret)))
def ayU:bA:=⟨2,21,SQ,[.tmp 4]⟩
def zY:=bP [] Proofs.Tryz.f103
def acU:=aA zY 0
def acV:=aA zY 1
def acW:=aA zY 2
def acX:=aA zY 3
def acT:aC:=(.seq (sq acW (.cond (Tm 15) .skip (.exit 0))) (.block 1 (.region acX)))
def qt:=aA zY 4
def TS:aC:=(sq acU (sq acV (.seq (.block 0 (.loop acT)) (sq qt .ret))))
def azN:bA:=⟨1,22,TS,[.tmp 2]⟩
def yy:=bP [8] Proofs.Tryz.f81
def acJ:=aA yy 0
def acK:=aA yy 1
def TJ:aC:=(sq acJ (sq acK .ret))
def azJ:bA:=⟨1,10,TJ,[.tmp 2]⟩
def i8:=bP [] Proofs.Tryz.f143
def Kv:=aA i8 0
def Kw:=aA i8 1
def MG:aC:=(sq Kv (sq Kw .ret))
def acI:bA:=⟨1,7,MG,[.tmp 2]⟩
def lL:=bP [] Proofs.Tryz.f141
def arL:=aA lL 0
def arM:=aA lL 1
def arN:=aA lL 2
def arO:=aA lL 3
def arP:=aA lL 4
def arQ:=aA lL 5
def arR:=aA lL 6
def arS:=aA lL 7
def arT:=bY lL 0
def arU:=aA lL 8
def abV:=bY lL 1
def abW:=aA lL 9
def abX:=aA lL 10
def abU:aC:=(dS arS 24 0 abX (.seq (dq arT (.cond (Tm 35) (sq arU .ret) .skip)) (dq abV (.cond (Tm 44) (sq abW .ret) .skip))))
def abY:=aA lL 11
def ZS:aC:=(sq arL (sq arM (jA arN 14 (dN arO 19 arP (sq arQ .ret)) (.seq (cL arR 0 abU) (sq abY .ret)))))
def aLN:bA:=⟨2,45,ZS,[.tmp 4]⟩
def cN:=bP [76] Proofs.Tryz.f144
def yo:=aA cN 0
def yq:=aA cN 1
def yr:=aA cN 2
def yu:=aA cN 3
def TF:=aA cN 4
def TG:=aA cN 5
def TH:=aA cN 6
def yv:=aA cN 7
def yw:=aA cN 8
def yx:=aA cN 9
def im:=aA cN 10
def io:=aA cN 11
def LP:aC:=(dS yv 36 0 io (sq yw (sq yx (.region im))))
def LQ:=aA cN 12
def ip:=aA cN 13
def iq:=aA cN 14
def LS:=aA cN 15
def LW:=aA cN 16
def LX:=aA cN 17
def LY:=aA cN 18
def ir:=aA cN 19
def iu:=bY cN 0
def iv:=aA cN 20
def iw:=aA cN 21
def ix:=aA cN 22
def iy:=bY cN 1
def iz:=aA cN 23
def BU:aC:=(.seq (dq iy (.cond (Tm 146) .skip (.exit 4))) (.block 5 (.region iz)))
def LZ:=aA cN 24
def MA:=aA cN 25
def i0:=aA cN 26
def i5:=aA cN 27
def i6:=aA cN 28
def i7:=aA cN 29
def MB:=aA cN 30
def BV:aC:=(dS i0 166 6 MB (sq i5 (sq i6 (.cond (Tm 177) (.region i7) .skip))))
def MC:=aA cN 31
def MD:=aA cN 32
def BW:aC:=(dS ir 105 2 MD (dq iu (sq iv (jA iw 131 (.region ix) (.seq (.block 4 (.loop BU)) (sq LZ (.seq (cL MA 6 BV) (.region MC))))))))
def MF:=aA cN 33
def HN:aC:=(sq yo (dN yq 23 yr (jA yu 28 (sq TF (sq TG (.seq (cL TH 0 LP) (sq LQ .ret)))) (sq ip (sq iq (sq LS (sq LW (sq LX (.seq (cL LY 2 BW) (sq MF .ret))))))))))
def Dy:bA:=⟨2,198,HN,[.tmp 4,.tmp 5]⟩
def uY:=bP [] Proofs.Tryz.f114
def arV:=aA uY 0
def arW:=aA uY 1
def Dx:=aA uY 2
def arX:=aA uY 3
def arY:=aA uY 4
def arZ:=aA uY 5
def asA:=aA uY 6
def ZT:aC:=(sq arV (dN arW 14 Dx (dN arX 18 arY (sq arZ (sq asA .ret)))))
def udiv:bA:=⟨2,29,ZT,[.tmp 4,.tmp 5,.tmp 6]⟩
def sU:=bP [] Proofs.Tryz.f113
def asC:=aA sU 0
def asD:=aA sU 1
def Dz:=aA sU 2
def asE:=aA sU 3
def asF:=aA sU 4
def asG:=aA sU 5
def asH:=aA sU 6
def asB:aC:=(.seq (sq asF (.cond (Tm 22) .skip (.exit 0))) (.block 1 (sq asG (.region asH))))
def asI:=aA sU 7
def ZW:aC:=(sq asC (dN asD 15 Dz (sq asE (.seq (.block 0 (.loop asB)) (sq asI .ret)))))
def aLR:bA:=⟨2,32,ZW,[.tmp 4,.tmp 5]⟩
def nC:=bP [16] Proofs.Tryz.f80
def zf:=aA nC 0
def zg:=aA nC 1
def zh:=aA nC 2
def zi:=aA nC 3
def zj:=aA nC 4
def zk:=aA nC 5
def TW:=aA nC 6
def TX:=aA nC 7
def ET:=aA nC 8
def HP:aC:=(sq zf (sq zg (dN zh 15 zi (.seq (sq zj (sq zk (.cond (Tm 32) (sq TW (.region TX)) .skip))) (sq ET .ret)))))
def D4:bA:=⟨3,51,HP,[.cell 6 (some 3)]⟩
def EW:=bP [] Proofs.Tryz.f82
def adV:=aA EW 0
def adW:=aA EW 1
def adX:=aA EW 2
def adY:=aA EW 3
def UB:aC:=(sq adV (dN adW 4 adX (sq adY .ret)))
def azZ:bA:=⟨1,12,UB,[.tmp 2]⟩
def EU:=bP [] Proofs.Tryz.f53
def adK:=aA EU 0
def adL:=aA EU 1
def adM:=aA EU 2
def adN:=aA EU 3
def TY:aC:=(sq adK (dN adL 7 adM (sq adN .ret)))
def N5:bA:=⟨2,21,TY,[.cell 4 (some 3),.tmp 5]⟩
def av:=bP [] Proofs.Tryz.f50
def atH:=aA av 0
def atI:=aA av 1
def atJ:=aA av 2
def au:aC:=(sq atH (sq atI (sq atJ .ret)))
def aMF:bA:=⟨1,11,au,[.cell 2 (some 3)]⟩
def utF(xs:List Nat)(n:Nat):PF:=((PF.nil.set 0 (aO xs)).set 3 (.int .i64 n))
theorem aMB{C:Ctx}(xs:List Nat)(R:Lim xs)(S:Z' xs≤35184372087808):TS.wp C (aV azN.res (rY 1 (aP (aM (val xs))))) (PF.args [aO xs]) .nil:=by
 simp only[go_sem,TS,acU,acV,azN,a3V];refine wp_loop (α:=Nat) (λn=>utF xs n) (λ_=>.nil) (λn=>n≤Z' xs∧∀j x,n≤j→xs[j]?=some x→x=0) (λn=>n) xs.length ⟨a4B _,λj x B l=>?_⟩ ?_ a_ ?_
 ·rw[a5K B]at l;cases l
 ·unfold utF;exact Lq
 rintro n ⟨N,J⟩;have done:(0<n→∀h:n-1<Z' xs,xs[n-1]≠0)→∀F:PF,(utF xs n).le F→aC.wp C (.seq (.region qt) .ret) (aV [.tmp 2] (rY 1 (aP (aM (val xs))))) F .nil:=by
  intro h F A;have f0:F 0=some (aO xs):=A 0 _ (by unfold utF;simp only[go_sem]);have K:F 3=some (.int .i64 n):=A 3 _ (by unfold utF;simp only[go_sem]);have E:xs.take n=aM (val xs):=SZ R N J λx w l=>by
   rw[a4C Om]at l;injection l with l
   subst l;exact h w Om
  have M:((n:Nat):Int)≤(Z' xs:Nat):=Om;simp only[go_sem,qt,f0,K,a3V,M,or_true,a5J];refine lO (rows:=[]) (src:=aP (aM (val xs))) .nil ?_ ?_ λv H' O _=>?_
  ·simp only[go_sem];rw[←E,←List.map_take]
  ·unfold roomFor;rw[dE,←E,a4M];simp only[a6F,maxLen];omega
  ·exact SH (.inr rfl) (by simpa using O) rfl
 simp only[aC.wp,go_sem]at done;simp only[go_sem,acT,acW,utF];by_cases w:0<n
 ·have u:((n:Nat):Int)>0:=Om;have hlt:n-1<Z' xs:=Om;have y:=cM xs hlt;have I:IntKind.i64.wrap ((n:Int)-1)=((n-1:Nat):Int):=CW Om w;simp only[go_sem,u,I,y];by_cases c:xs[n-1]=0
  ·simp only[go_sem,cA (Om:((xs[n-1]:Nat):Int)=0),acX,I];refine aH (n-1) ⟨by omega,λj x B l=>?_⟩ Om ?_ a_
   ·by_cases e:j=n-1
    ·subst e;rw[a4C hlt]at l;injection l with l
     omega
    ·exact J j x Om l
   ·exact Lq
  ·simp only[go_sem,bJ (Om:((xs[n-1]:Nat):Int)≠0)];exact done (λ_ _=>c) _ (by unfold utF;exact Lq)
 ·have u:¬((n:Nat):Int)>0:=Om;simp only[go_sem,u];exact done (λh=>absurd h w) _ (by unfold utF;exact Lq)
structure vF(C:Ctx):Prop where
 trimM:∀xs,Lim xs→Z' xs≤35184372087808→aJ C 38 [aO xs] .nil (rY 1 (aP (aM (val xs))))
theorem vF.trim{C:Ctx}(L:vF C)(xs:List Nat)(j:Lim xs)(e:Z' xs≤35184372087808):aJ C 38 [aO xs] .nil (aK (aO (aM (val xs)))):=(L.trimM xs j e).freeze
theorem aLS{C:Ctx}(L:vF C)(v:Nat)(E:v<18446744073709551616):TJ.wp C (aV azJ.res (cY (aO (aM v)))) (PF.args [.int .u64 v]) .nil:=by
 have y:IntKind.u32.wrap ((v:Nat):Int)=((v%4294967296:Nat):Int):=dU v;have l:v/4294967296<4294967296:=Om;have A:IntKind.u32.wrap ((v/4294967296:Nat):Int)=((v/4294967296:Nat):Int):=by rw[dU,a5N l]
 have B:Lim [v%4294967296,v/4294967296]:=by
  intro x w;simp only[a4J,List.mem_nil_iff,or_false]at w;rcases w with rfl|rfl
  ·exact a5T _ aX
  ·exact l
 have e:val [v%4294967296,v/4294967296]=v:=by simp only[val,Nat.mul_zero,a5H];exact Nat.mod_add_div v 4294967296
 have j:shift .shr .u64 (v:Int) 32=some (.int .u64 ((v/4294967296:Nat):Int)):=EN;have hb:(2:Nat)*1≤16777216:=by decide
 simp only[go_sem,TJ,acJ,acK,azJ,y,j,A,hb];have u:=L.trim [v%4294967296,v/4294967296] B aW;rw[e]at u;refine aB u rfl ?_;simp only[go_sem];exact bD (.inr rfl) .nil rfl a_ ⟨.refl _,rfl⟩
theorem aFE{C:Ctx}(L:vF C)(xs:List Nat)(j:Lim xs)(e:Z' xs≤35184372087808):MG.wp C (aV acI.res (cY (.bool (decide (nl (val xs)>512))))) (PF.args [aO xs]) .nil:=by
 simp only[go_sem,MG,Kv,Kw,acI];refine aB (L.trim xs j e) rfl ?_;simp only[go_sem,a3V,bH];refine bM rfl ?_;rw[decide_eq_decide];omega
theorem avI{a b:Nat}(h:nl a<nl b):fB a b=-1:=by
 have:a<b:=by
  rcases a4R a b with h'|h'
  ·exact h'
  ·have:=kF h';omega
 simp[fB,this]
theorem avH{a b:Nat}(h:nl b<nl a):fB a b=1:=by
 have:b<a:=by
  rcases a4R b a with h'|h'
  ·exact h'
  ·have:=kF h';omega
 have e:¬a<b:=Om;simp[fB,this,e]
def azE(X Y:List Nat)(i:Int):PF:=(((PF.nil.set 0 (aO X)).set 1 (aO Y)).set 5 (.int .i64 i))
theorem aRO{C:Ctx}(L:vF C)(xs e:List Nat)(B:Lim xs)(E:Lim e)(W:Z' xs≤35184372087808)(Z:Z' e≤35184372087808) :
  ZS.wp C (aV aLN.res (aK (.int .i64 (fB (val xs) (val e))))) (PF.args [aO xs,aO e]) .nil:=by
 simp only[go_sem,ZS,arL,arM,aLN];refine aB (L.trim xs B W) Ev ?_;simp only[go_sem];refine aB (L.trim e E Z) Ev ?_;have bx:=jV B;have J:=jV E;simp only[go_sem,arN,a3V,bH];by_cases w:nl (val xs)≠nl (val e)
 ·simp only[go_sem,cU (show((nl (val xs):Nat):Int)≠(nl (val e):Nat) by omega),arO];by_cases K:nl (val xs)<nl (val e)
  ·simp only[go_sem,a3V,bH,show((nl (val xs):Nat):Int)<(nl (val e):Nat) by omega,arP];refine aT (.inr rfl) Ev ?_;rw[avI K];rfl
  ·simp only[go_sem,a3V,bH,show ¬((nl (val xs):Nat):Int)<(nl (val e):Nat) by omega,arQ];refine aT (.inr rfl) Ev ?_;rw[avH Om];rfl
 replace w:=Decidable.of_not_not w;simp only[go_sem,bW (show((nl (val xs):Nat):Int)=(nl (val e):Nat) by omega),arR,a3V,bH];have ex:=aY (val xs);have x:=aY (val e);have F:=bB (val xs);have I:=bB (val e);generalize R:aM (val xs)=X at *
 generalize S:aM (val e)=Y at *
 have U:Z' X=nl (val xs):=by rw[←R];rfl
 have V:Z' Y=nl (val xs):=by rw[w,←S];rfl
 refine wp_loop (α:=Nat) (λk=>azE X Y ((k:Int)-1)) (λ_=>.nil) (λk=>k≤nl (val xs)∧X.drop k=Y.drop k) (λk=>k) (nl (val xs)) ⟨a4B _,?_⟩ ?_ a_ ?_
 ·rw[a7U Om,a7U Om]
 ·unfold azE
  (repeat' (first|exact c_|refine d_ ?_ ?_))<;>first|(simp only[go_sem,wrap_i64 (show -9223372036854775808≤((nl (val xs):Nat):Int)-1 by omega) (show((nl (val xs):Nat):Int)-1≤9223372036854775807 by omega)]<;>rfl)|rfl
 rintro k ⟨hk,j⟩;simp only[go_sem,abU,arS,azE];by_cases h0:0<k
 ·obtain⟨m,rfl⟩:∃m,k=m+1:=⟨k-1,by omega⟩;have A:((m+1:Nat):Int)-1=(m:Int):=Om;have y:(m:Int)≥0:=Om;have l:m<Z' X:=Om;have u:m<Z' Y:=Om;simp only[go_sem,A,y];refine aZ .nil cI a_ ?_;simp only[go_sem,arT,cM X l,cM Y u];by_cases M:X[m]<Y[m]
  ·simp only[go_sem,show((X[m]:Nat):Int)<(Y[m]:Nat) by omega,arU];refine aT (.inr rfl) Ev ?_;have:=sx F l u j M;rw[ex,x]at this;simp[cE,fB,this]
  ·simp only[go_sem,show ¬((X[m]:Nat):Int)<(Y[m]:Nat) by omega];refine aZ .nil cI a_ ?_;simp only[go_sem,abV,cM X l,cM Y u];by_cases N:X[m]>Y[m]
   ·simp only[go_sem,show((X[m]:Nat):Int)>(Y[m]:Nat) by omega,abW];refine aT (.inr rfl) Ev ?_;have:=sx I u l j.symm N;rw[ex,x]at this;have O:¬val xs<val e:=Om;simp[cE,fB,this,O]
   ·simp only[go_sem,show ¬((X[m]:Nat):Int)>(Y[m]:Nat) by omega,abX];refine aH m ⟨by omega,En l u j Om⟩ Om ?_ a_
    (repeat' (first|exact c_|refine d_ ?_ ?_))<;>first|(simp only[go_sem,wrap_i64 (Om:-9223372036854775808≤(m:Int)-1) (Om:(m:Int)-1≤9223372036854775807)]<;>rfl)|rfl
 ·have:k=0:=Om;subst this;have A:¬((0:Nat):Int)-1≥0:=by decide
  simp only[go_sem,A,abY];refine aT (.inr rfl) Ev ?_;rw[a5J,a5J]at j;have:val xs=val e:=by rw[←ex,←x,j]
  simp[cE,fB,this]
theorem JH(n:Nat):(((n:Nat):Int)==0)=decide (n=0):=by
 by_cases h:n=0
 ·subst h;rfl
 ·rw[bJ Om,cF h]
structure Oi(C:Ctx):Prop extends vF C where
 make:∀v:Nat,v<18446744073709551616→aJ C 35 [.int .u64 v] .nil (aK (aO (aM v)))
 large:∀xs,Lim xs→Z' xs≤35184372087808→aJ C 41 [aO xs] .nil (aK (.bool (decide (nl (val xs)>512))))
 cmp:∀xs ys,Lim xs→Lim ys→Z' xs≤35184372087808→Z' ys≤35184372087808→aJ C 32 [aO xs,aO ys] .nil (aK (.int .i64 (fB (val xs) (val ys))))
def azI(a b:Nat):PF:=((PF.nil.set 6 (aO (aM a))).set 7 (aO (aM b)))
structure sa(C:Ctx):Prop extends Oi C where
 divide:∀A B:Nat,B≠0→nl A≤512→nl B≤512→aJ C 39 [aO (aM A),aO (aM B)] .nil (aK (wJ A B))
def awE(a b:Nat):PV:=if fP a b then .tup [aO [],.int .i64 2]else .tup [aO (aM (a3X a b)),.int .i64 0]
theorem aRQ{C:Ctx}(L:sa C)(a b:List Nat)(w:Lim a)(hb:Lim b)(B:Z' a≤35184372087808)(E:Z' b≤35184372087808) :
  ZW.wp C (aV aLR.res (cY (awE (val a) (val b)))) (PF.args [aO a,aO b]) .nil:=by
 unfold awE;simp only[go_sem,ZW,asC,asD,aLR];refine aB (L.large a w B) rfl ?_;by_cases e:nl (val a)>512
 ·simp only[go_sem,e,Dz];rw[aL (by simp[fP,e])];exact hY rfl
 simp only[go_sem,e];refine aB (L.large b hb E) rfl ?_;by_cases j:nl (val b)>512
 ·simp only[go_sem,j,Dz];rw[aL (by simp[fP,j])];exact hY rfl
 rw[aG (by simp[fP,e,j])];simp only[go_sem,j,asE];refine aB (L.trim a w B) rfl ?_;simp only[go_sem];refine aB (L.trim b hb E) rfl ?_;simp only[go_sem];refine wp_loop (α:=Nat × Nat) (λt=>azI t.1 t.2) (λ_=>.nil) (λt=>a3X t.1 t.2=a3X (val a) (val b)∧nl t.1≤512∧nl t.2≤512) (λt=>t.2) (val a,val b) ⟨rfl,by simp only;omega,by simp only;omega⟩ ?_ a_ ?_
 ·unfold azI;exact Lq
 rintro⟨x,y⟩ ⟨u,F,A⟩;simp only at u F A;simp only[go_sem,asB,asF,azI,bH];by_cases l:y=0
 ·subst l;have:¬((nl 0:Nat):Int)>0:=by rw[FY];decide
  simp only[go_sem,this,asI];refine bD (vs:=[aO (aM x),.int .i64 0]) (.inr rfl) .nil rfl a_ ⟨?_,rfl⟩;rw[←u,Nat.gcd_zero_right];exact .refl _
 ·have I:nl y≠0:=λh=>l (mA.1 h);have:((nl y:Nat):Int)>0:=Om;simp only[go_sem,this,asG];refine aB (L.divide x y l Om Om) rfl ?_;simp only[go_sem,wJ,asH];have hlt:x%y<y:=a5T _ (a6Q l);refine aH (y,x%y) ⟨?_,A,?_⟩ hlt ?_ a_
  ·simp only;rw[←u,Nat.gcd_comm y,←Nat.gcd_rec y x,Nat.gcd_comm]
  ·have:=kF (Nat.le_of_lt hlt);simp only;omega
  ·exact Lq
theorem aRP{C:Ctx}(L:sa C)(a b:List Nat)(w:Lim a)(hb:Lim b)(x:Z' a≤35184372087808)(u:Z' b≤35184372087808) :
  ZT.wp C (aV udiv.res (cY (rZ (val a) (val b)))) (PF.args [aO a,aO b]) .nil:=by
 unfold rZ;simp only[go_sem,ZT,arV,arW,udiv];refine aB (L.large a w x) rfl ?_;by_cases j:nl (val a)>512
 ·simp only[go_sem,j,Dx];rw[aL (by simp[fP,j])];exact yC rfl
 simp only[go_sem,j];refine aB (L.large b hb u) rfl ?_;by_cases l:nl (val b)>512
 ·simp only[go_sem,l,Dx];rw[aL (by simp[fP,l])];exact yC rfl
 rw[aG (by simp[fP,j,l])];simp only[go_sem,l,arX];refine aB (L.trim b hb u) rfl ?_;simp only[go_sem,a3V,bH,JH,mA];by_cases e:val b=0
 ·rw[aL e];simp only[go_sem,cB e,arY];exact yC rfl
 rw[aG e];simp only[go_sem,cF e,arZ];refine aB (L.trim a w x) rfl ?_;simp only[go_sem];refine aB (L.trim b hb u) rfl ?_;simp only[go_sem];refine aB (L.divide (val a) (val b) e Om Om) rfl ?_;simp only[go_sem,wJ,asA];exact bD (.inr rfl) .nil rfl a_ ⟨.refl _,rfl⟩
def rR(neg:Bool)(a b:Nat):FV:=(neg&&decide (a/a3X a b≠0),a/a3X a b,b/a3X a b)
structure Oj(C:Ctx):Prop extends sa C where
 gcd:∀a b,Lim a→Lim b→Z' a≤35184372087808→Z' b≤35184372087808→aJ C 34 [aO a,aO b] .nil (aK (awE (val a) (val b)))
 div:∀a b,Lim a→Lim b→Z' a≤35184372087808→Z' b≤35184372087808→aJ C 33 [aO a,aO b] .nil (aK (rZ (val a) (val b)))
theorem zH{n:Nat}(h:nl n≤512):(aM n).length≤35184372087808:=by rw[bH];omega
theorem CK:aM 1=[1]:=tO aX aX
theorem ug{n:Nat}(h:n≠0):aM n=n%4294967296::aM (n/4294967296):=yB h
theorem GT{n:Nat}(h:n≠0):(nl n>1∨n%4294967296>1)↔n≠1:=by
 constructor
 ·rintro h1 rfl;rcases h1 with h1|h1
  ·rw[nl,CK]at h1;simp at h1
  ·omega
 ·intro h1;by_cases c:nl n>1
  ·exact .inl c
  ·have:n<4294967296^1:=(mO n 1).1 Om;rw[Nat.pow_one]at this;rw[a5N this];exact .inr Om
theorem azV{C:Ctx}(L:Oj C)(neg:Bool)(a b:List Nat)(Y:Lim a)(hb:Lim b)(la:Z' a≤35184372087808)(lb:Z' b≤35184372087808)(E:nl (val a)≤512)(A:nl (val b)≤512)(I:val b≠0) :
  HP.wp C (aV D4.res (cY (.agg (rR neg (val a) (val b)).rf.cells))) (PF.args [.bool neg,aO a,aO b]) .nil:=by
 have j:a3X (val a) (val b)≠0:=λh=>I (Nat.eq_zero_of_gcd_eq_zero_right h);have M:a3X (val a) (val b)≤val b:=Nat.gcd_le_right _ (a6Q I);have R:nl (a3X (val a) (val b))≤512:=a6T (kF M) A;have N:fP (val a) (val b)=false:=lY E A;simp only[go_sem,HP,zf,zg,D4];refine aQ λo ho=>?_;simp only[go_sem];refine aB (L.trim a Y la) rfl ?_;simp only[go_sem];refine aB (L.trim b hb lb) rfl ?_;simp only[go_sem,zh,a3V,bH,JH,mA];by_cases B:val a=0
 ·simp only[go_sem,cB B,zi];have e:(rR neg (val a) (val b)).rf=⟨false,[],[1]⟩:=by rw[B];unfold rR FV.rf;simp[jY,Nat.div_self (a6Q I),CK]
  rw[e];refine bD (vs:=[.agg [.bool false,.aE,aO [1]]]) (.inr rfl) .nil ?_ a_ ⟨show Co (.agg _) (.agg _)from CoL.agg (CoL.cons (.refl _) (CoL.cons (.nil 1) (CoL.cons (.refl _) .nil))),rfl⟩;simp only[go_sem];rfl
 have l:=L.gcd (aM (val a)) (aM (val b)) (bB _) (bB _) (zH E) (zH A);rw[aY,aY,awE,N]at l;simp only[go_sem,cF B,zj];refine aB l rfl ?_;have fin:∀x y:Nat,x=val a/a3X (val a) (val b)→y=val b/a3X (val a) (val b)→∀(F:PF)(H:PH),F 0=some (.bool neg)→F 1=some (aO (aM x))→F 2=some (aO (aM y))→F 6=some (.ptr o 3 0 0)→H o=some (.rows 3 [[.bool false,.aE,.aE]]) →
   aC.wp C (.seq (.region ET) .ret) (aV [.cell 6 (some 3)] (cY (.agg (rR neg (val a) (val b)).rf.cells))) F H:=by
  intro x y O Z F H f0 f1 f2 f6 J;subst O;subst Z;simp only[go_sem,ET,f0,f1,f2,f6,J];have hq:val a/a3X (val a) (val b)≠0:=by have:=Nat.div_pos (Nat.gcd_le_left (val b) (a6Q B)) (a6Q j);omega
  have e:(rR neg (val a) (val b)).rf=⟨neg,aM (val a/a3X (val a) (val b)),aM (val b/a3X (val a) (val b))⟩:=by unfold rR FV.rf;simp only[hq,ne_eq,not_false_eq_true,decide_true,a5Z]
  rw[e];refine bD (vs:=[.agg (gQ neg (aM (val a/a3X (val a) (val b))) (aM (val b/a3X (val a) (val b))))]) (.inr rfl) .nil ?_ a_ ⟨.refl _,rfl⟩;simp only[go_sem,f6]
 simp only[aC.wp,go_sem]at fin;have K:=λx (O:nl x≤512)=>L.div (aM x) (aM (a3X (val a) (val b))) (bB _) (bB _) (zH O) (zH R);simp only[aY,rZ]at K;have tail:a3X (val a) (val b)≠1→∀(F:PF)(H:PH),F 0=some (.bool neg)→F 1=some (aO (aM (val a)))→F 2=some (aO (aM (val b)))→F 6=some (.ptr o 3 0 0)→F 7=some (aO (aM (a3X (val a) (val b))))→H o=some (.rows 3 [[.bool false,.aE,.aE]]) →
   aC.wp C (.seq (.seq (.region TW) (.region TX)) (.seq (.region ET) .ret)) (aV [.cell 6 (some 3)] (cY (.agg (rR neg (val a) (val b)).rf.cells))) F H:=by
  intro _ F H f0 f1 f2 f6 f7 J;have V:=K (val a) E;have W:=K (val b) A;rw[lY E R,aG j]at V;rw[lY A R,aG j]at W;simp only[go_sem,TW,f1,f7];refine aB V rfl ?_;simp only[go_sem,a6Z,TX,f2,f7];refine aB W rfl ?_;simp only[go_sem,a6Z];exact fin _ _ rfl rfl _ _ (by simp only[go_sem,f0]) rfl rfl (by simp only[go_sem,f6]) J
 simp only[aC.wp,go_sem]at tail;simp only[go_sem,a6Z,zk,a3V,bH];by_cases S:nl (a3X (val a) (val b))>1
 ·have u:((nl (a3X (val a) (val b)):Nat):Int)>1:=Om;simp only[go_sem,u];exact tail ((GT j).1 (.inl S)) _ _ rfl rfl rfl rfl rfl Sq
 ·have u:¬((nl (a3X (val a) (val b)):Nat):Int)>1:=Om;simp only[go_sem,u,ug j];by_cases U:a3X (val a) (val b)%4294967296>1
  ·have w:((a3X (val a) (val b)%4294967296:Nat):Int)>1:=Om;simp only[go_sem,w];exact tail ((GT j).1 (.inr U)) _ _ rfl rfl rfl rfl (by simp only[go_sem,ug j]) Sq
  ·have w:¬((a3X (val a) (val b)%4294967296:Nat):Int)>1:=Om;have X:a3X (val a) (val b)=1:=by
    rcases Decidable.em (a3X (val a) (val b)=1)with h|h
    ·exact h
    ·rcases(GT j).2 h with h|h
     ·exact absurd h S
     ·exact absurd h U
   simp only[go_sem,w];exact fin (val a) (val b) (by rw[X,Nat.div_one]) (by rw[X,Nat.div_one]) _ _ rfl rfl rfl rfl Sq
theorem aMK{C:Ctx}(v:Int)(w:-9223372036854775808≤v)(x:v≤9223372036854775807) :
  UB.wp C (aV azZ.res (aK (.int .u64 (v.natAbs:Nat)))) (PF.args [.int .i64 v]) .nil:=by
 simp only[go_sem,UB,adV,adW,azZ];by_cases c:v<0
 ·have j:IntKind.i64.wrap (v+1)=v+1:=wrap_i64 Om Om;have l:IntKind.i64.wrap (0-(v+1))=-(v+1):=by rw[wrap_i64 Om Om];omega
  have u:IntKind.u64.wrap (IntKind.u64.wrap (-(v+1))+1)=(v.natAbs:Int):=by rw[kG,kG];omega
  simp only[go_sem,c,adX,j,l,u];refine aT (.inr rfl) rfl ?_;rfl
 ·have e:IntKind.u64.wrap v=(v.natAbs:Int):=by rw[kG];omega
  simp only[go_sem,c,adY,e];refine aT (.inr rfl) rfl ?_;rfl
structure auQ(C:Ctx):Prop extends Oj C where
 lowest:∀neg a b,Lim a→Lim b→Z' a≤35184372087808→Z' b≤35184372087808→nl (val a)≤512→nl (val b)≤512→val b≠0→aJ C 58 [.bool neg,aO a,aO b] .nil (aK (.agg (rR neg (val a) (val b)).rf.cells))
 size:∀v:Int,eP v→aJ C 59 [.int .i64 v] .nil (aK (.int .u64 (v.natAbs:Nat)))
def mkT(n d:Int):RF:=(rR (decide (n<0) != decide (d<0)) n.natAbs d.natAbs).rf
def CS(n d:Int):PV:=if d=0 then IF 3 else .tup [.agg (mkT n d).cells,.int .i64 0]
theorem aMH{C:Ctx}(L:auQ C)(n d:Int)(e:eP n)(j:eP d) :
  TY.wp C (aV N5.res (cY (CS n d))) (PF.args [.int .i64 n,.int .i64 d]) .nil:=by
 simp only[go_sem,TY,adK,adL];refine aQ λo l=>?_;unfold CS;by_cases c:d=0
 ·subst c;simp only[go_sem,adM];refine lZ ?_;simp only[go_sem,N5]
 ·rw[aG c];simp only[go_sem,bJ c,adN];refine aB (L.size n e) rfl ?_;simp only[go_sem];refine aB (L.make n.natAbs Om) rfl ?_;simp only[go_sem];refine aB (L.size d j) rfl ?_;simp only[go_sem];refine aB (L.make d.natAbs Om) rfl ?_;simp only[go_sem];have u:nl n.natAbs≤2:=tF Om;have w:nl d.natAbs≤2:=tF Om;have low:=L.lowest (decide (n<0) != decide (d<0)) (aM n.natAbs) (aM d.natAbs) (bB _) (bB _) (by rw[bH];omega) (by rw[bH];omega);rw[aY,aY]at low;have low:=low Om Om Om;refine aB low rfl ?_;simp only[go_sem];exact bD (.inr rfl) .nil (vs:=[.agg (mkT n d).cells,.int .i64 0]) (by simp only[go_sem,N5];rfl) a_ ⟨.refl _,rfl⟩
structure sb(C:Ctx):Prop extends auQ C where
 fmk:∀n d:Int,eP n→eP d→aJ C 50 [.int .i64 n,.int .i64 d] .nil (aK (CS n d))
theorem atG{C:Ctx}(L:sb C)(n:Int)(u:eP n) :
  au.wp C (aV aMF.res (cY (.agg (mkT n 1).cells))) (PF.args [.int .i64 n]) .nil:=by
 simp only[go_sem,au,atH,atI,aMF];refine aQ λo w=>?_;simp only[go_sem];refine aB (L.fmk n 1 u (by unfold eP;omega)) rfl ?_;unfold CS;rw[aG aX];simp only[go_sem];refine aQ λp l=>?_;have e:o≠p:=by rintro rfl;simp only[aU,if_true]at l;cases l
 have j:p≠o:=λh=>e h.symm;simp only[go_sem,e,atJ];refine bD (vs:=[.agg (mkT n 1).cells]) (.inr rfl) .nil ?_ a_ ⟨.refl _,rfl⟩;simp only[go_sem,j]
def aI(l:List Nat)(n a:Nat):Nat × Nat:=if l.length≤a∨n<2 then(0,a)else(l.getD a 0%n,a+1)
theorem dQ(l:List Nat){n:Nat}(h:0<n)(a:Nat):(aI l n a).1<n:=by
 unfold aI;split
 ·exact h
 ·exact a5T _ h
theorem bZ(l:List Nat)(n:Nat){a:Nat}(h:a≤Z' l):(aI l n a).2≤Z' l:=by
 unfold aI;split
 ·exact h
 ·simp only;omega
def jP(l:List Nat)(a:Nat):RF × Nat:=
 let x:=aI l 6 a
 let y:=aI l 8 x.2
 (mkT ((1+x.1:Nat):Int) ((1+y.1:Nat):Int),y.2)
abbrev nT:RF:=mkT 0 1
def mN(l:List Nat)(i j a:Nat):RF × Nat:=
 if j=i+1 then jP l a
 else if j=i then(nT,a)
 else let t:=aI l 3 a
  if t.1=0 then jP l t.2 else(nT,t.2)
def fG(l:List Nat)(i a:Nat):Nat→List RF × Nat
 |0=>([],a)
 |j+1=>let s:=fG l i a j
  let z:=mN l i j s.2
  (s.1++[z.1],z.2)
structure JP where
 start:List RF
 exit:List RF
 a2L:List (List RF)
 left:Nat
 a:Nat
def fE(l:List Nat)(n i:Nat)(s:JP):Nat × Nat:=if i+1<n then aI l (s.left+1) s.a else(s.left,s.a)
def jB(l:List Nat)(n i a:Nat):RF × Nat:=
 let e:=jP l a
 if i+1<n then(let t:=aI l 3 e.2;(if t.1=0 then nT else e.1,t.2))else e
def kB(l:List Nat)(n a:Nat):Nat→JP
 |0=>⟨[],[],[],8,a⟩
 |i+1=>let s:=kB l n a i
  let k:=fE l n i s
  let e:=jB l n i k.2
  let r:=fG l i e.2 n
  ⟨s.start++[mkT (k.1:Nat) 8],s.exit++[e.1],s.a2L++[r.1],s.left-k.1,r.2⟩
def wK(l:List Nat)(gZ a:Nat):dJ × Nat:=
 let t:=aI l gZ a
 let s:=kB l (1+t.1) t.2 (1+t.1)
 (⟨[],s.start,s.a2L,s.exit⟩,s.a)
def oO(l:List Nat)(a:Nat):Nat→List RF × Nat
 |0=>([],a)
 |k+1=>let s:=oO l a k
  let z:=jP l s.2
  (s.1++[z.1],z.2)
abbrev dC(n:Nat):List UInt8:=Lib.decDigits n
def kX(l:List Nat)(a:Nat):Nat→List dJ × Nat
 |0=>([],a)
 |k+1=>let s:=kX l a k
  let z:=wK l 2 s.2
  (s.1++[{ z.1 with name:=[108,97,119]++dC k }],z.2)
def gR(l:List Nat)(a2O a:Nat):Nat→List dZ × Nat
 |0=>([],a)
 |k+1=>let s:=gR l a2O a k
  let x:=aI l 4 s.2
  let y:=aI l 8 x.2
  let z:=aI l a2O y.2
  (s.1++[⟨[109]++dC k,(1+x.1:Nat),(1+y.1:Nat),(z.1:Nat)⟩],z.2)
structure GS where
 a2Q:List dM
 a3A:List eS
 a:Nat
def nO(l:List Nat)(mc a2G e:Nat)(s:GS):Nat→GS
 |0=>s
 |i+1=>let s:=nO l mc a2G e s i
  if s.a3A.length<a2G then
   let t:=aI l mc s.a
   { s with a3A:=s.a3A++[⟨[100]++dC s.a3A.length,(t.1:Nat),(e:Nat)⟩],a:=t.2 }
  else s
def pV(level:Nat):UInt8:=match level with
 |0=>45
 |1=>115
 |2=>114
 |3=>107
 |_=>109
def sE(l:List Nat)(level e:Nat)(s:GS):GS:=
 let u:=aI l 16 s.a
 let t:=aI l 3 u.2
 let k:=aI l 6 t.2
 let sh:RF × Nat:=if t.1=0 then(mkT 1 ((2+k.1:Nat):Int),k.2)else(nT,t.2)
 { s with a2Q:=s.a2Q++[⟨[pV level]++dC s.a2Q.length,(level:Nat),(e:Nat),(1+u.1:Nat),sh.1⟩],a:=sh.2 }
def vK(a2G:Nat)(s:GS):Bool:=decide (a2G≤Z' s.a3A)||decide (35≤Z' s.a2Q)
def kR(l:List Nat)(level a2G e:Nat)(rec:Nat→GS→GS)(s:GS):Nat→GS
 |0=>s
 |i+1=>let s:=kR l level a2G e rec s i
  if vK a2G s then s else(let s':=sE l level e s;rec (Z' s'.a2Q-1) s')
def iJ(l:List Nat)(mc a2G:Nat):Nat→Nat→GS→GS
 |0,e,s=>let t:=aI l 2 s.a
  nO l mc a2G e { s with a:=t.2 } (1+t.1)
 |k+1,e,s=>let t:=aI l 2 s.a
  kR l (4-k) a2G e (iJ l mc a2G k) { s with a:=t.2 } (if 4-k=2 then 1 else 1+t.1)
def qS:dM:=⟨[],0,-1,0,nT⟩
def kY(l:List Nat)(a:Nat):Int × Nat:=
 let t:=aI l 3 a
 let k:=aI l 3 t.2
 if t.1=0 then((1+k.1:Nat),k.2)else(0,t.2)
def qZ(l:List Nat)(a2H i a:Nat):eG × Nat:=
 let k:=aI l 2 a
 let m:=aI l 3 k.2
 let h:=aI l 4 m.2
 let q:=aI l (m.1+1) h.2
 let r:=oO l q.2 (max m.1 1)
 let g:=aI l 9 r.2
 let s1:=kY l g.2
 let s2:=kY l s1.2
 let s3:=kY l s2.2
 let s4:=kY l s3.2
 let f:=aI l a2H s4.2
 let b:=aI l 2 f.2
 let ms:List Int × Nat:=if 1<a2H then(if b.1=0 then([(f.1:Int),1-(f.1:Int)],b.2)else([(f.1:Int)],b.2))else([(f.1:Int)],f.2)
 (⟨[112]++dC i,(1+k.1:Nat),(m.1:Nat),(1+k.1+q.1:Nat),0,s1.1,s2.1,s3.1,s4.1,ms.1,r.1,mkT (g.1:Nat) 8,mkT ((1+h.1:Nat):Int) 1⟩,ms.2)
def fH(l:List Nat)(a2H a:Nat):Nat→List eG × Nat
 |0=>([],a)
 |k+1=>let s:=fH l a2H a k
  let z:=qZ l a2H k s.2
  (s.1++[z.1],z.2)
def gU(l:List Nat)(pols a:Nat):Nat→List hC × Nat
 |0=>([],a)
 |k+1=>let s:=gU l pols a k
  let z:=aI l pols s.2
  (s.1++[⟨[118]++dC k,(z.1:Nat)⟩],z.2)
def iH(l:List Nat)(a2G a2I a:Nat):aD × Nat:=
 let e:=aI l 2 a
 let u:=aI l 2 e.2
 let a2O:=kX l u.2 (1+u.1)
 let j:=aI l 2 a2O.2
 let a2H:=gR l (1+u.1) j.2 (1+j.1)
 let g:=iJ l (1+j.1) a2G 4 0 ⟨[qS],[],a2H.2⟩
 let pl:=aI l 2 g.a
 let pols:=fH l (1+j.1) pl.2 (1+pl.1)
 let w:=aI l (a2I+1) pols.2
 let vols:=gU l (1+pl.1) w.2 w.1
 (⟨(1+e.1:Nat),a2O.1,a2H.1,g.a2Q,g.a3A,pols.1,vols.1⟩,vols.2)
def rM(l:List Nat)(a:Nat):Nat→List Int × Nat
 |0=>([],a)
 |k+1=>let s:=rM l a k
  let z:=aI l 7 s.2
  (s.1++[(z.1:Int)-1],z.2)
def tG(l:List Nat)(f:aD)(a:Nat):List Int × Nat:=
 let t:=aI l 4 a
 if t.1=0 then([],t.2)else rM l t.2 f.a2G.length
abbrev mF(l:List Nat):List (List PV):=l.map λ(n:Nat)=>[PV.int .u8 (n:Int)]
theorem aj(l:List Nat):(mF l).length=Z' l:=by simp
theorem aLZ(l:List Nat){i:Nat}(h:i<Z' l):(mF l)[i]?=some [.int .u8 (l[i]:Nat)]:=by simp[h]
abbrev bE(v:PV)(a:Nat):cD:=.rows 2 [[v,.int .i64 a]]
structure Tp(l:List Nat)(v:PV):Prop where
 seen:Seen 1 v (mF l)
 byte:∀x∈l,x<256
 len:Z' l≤400
def OE(l:List Nat)(r:PV)(H:PH):Prop:=∃o v,r=.ptr o 2 0 0∧Tp (l.take 400) v∧H=PH.nil.set o (bE v 0)
theorem Nf{t q s:Nat}{rs:List (List PV)}{F:PF}{H H2:PH}{R:PV→PH→Prop}{v:PV}{e:nN}(he:e=.normal∨e=.ret)(A:F t=some v)(hq:H q=some (.rows s rs))(x:H2.le (H.frz q s rs))(y:R (PV.frz q s rs v) H2):aV [.tmp t] R e F H:=by
 have j:∃vs,fC.evs F H [.tmp t]=some vs∧∃l w H2,lN (PF.nil.set 0 (cE vs)) H l w∧H2.le w∧∃u,l 0=some u∧R u H2:=by refine⟨[v],by rw[oY,sJ,A,tU],_,_,H2,.step q hq (.refl _ _),x,PV.frz q s rs v,?_,y⟩;rw[sG,pF,aL rfl,a5B];rfl
 rcases he with rfl|rfl<;>exact j
theorem aPW{C:Ctx}(l:List Nat)(hb:∀x∈l,x<256)(O:Z' l≤9223372036854775807):XN.wp C (aV aJJ.res (OE l)) (PF.args [.sl 1 (mF l)]) .nil:=by
 simp only[go_sem,XN,amQ,amR,aJJ,a3V];have fin:∀F:PF,F 0=some (.sl 1 (mF (l.take 400)))→aC.wp C (.seq (.region Cq) .ret) (aV [.tmp 2] (OE l)) F .nil:=by
  intro F f0;have y:(l.take 400).length≤400:=by rw[a4M];omega
  have w:∀x∈l.take 400,x<256:=λx M=>hb x (List.mem_of_mem_take M);have A:∀o v,Seen 1 v (mF (l.take 400))→OE l (.ptr o 2 0 0) (PH.nil.set o (bE v 0)):=λo v K=>⟨o,v,rfl,⟨K,w,y⟩,rfl⟩;generalize N:l.take 400=L at *
  simp only[go_sem,Cq,f0];refine HV (src:=mF L) rfl ?_ (λh=>?_) λh o I=>?_
  ·unfold roomFor;rw[aj];simp only[maxLen];omega
  ·simp only[go_sem,a4J,a4U,or_false,forall_eq];refine aQ λo I=>?_;simp only[go_sem];exact bD (vs:=[.ptr o 2 0 0]) (.inr rfl) (PH.nil.set o (bE .aE 0)) rfl b_ (A o .aE (.inl ⟨h,rfl⟩))
  ·simp only[go_sem,a4J,a4U,or_false,forall_eq];refine aQ λp J=>?_;have e:¬p=o:=(mK.1 J).1;have j:¬o=p:=λh=>e h.symm;simp only[go_sem];refine Nf (v:=.ptr p 2 0 0) (q:=o) (s:=1) (rs:=mF L) (H2:=PH.nil.set p (bE (.sl 1 (mF L)) 0)) (.inr rfl) rfl (by simp only[go_sem,j]) (e_ a_ ?_) (A p _ (.inr rfl));have E:(mF L).take L.length=mF L:=a4N (by rw[aj];exact a4B _);simp only[go_sem,e,cD.frz,PV.cT,a3V,E];rfl
 simp only[aC.wp,go_sem]at fin;by_cases c:Z' l>400
 ·have u:(Z' l:Int)>400:=Om;have B:(400:Int)≤(Z' l:Int):=Om;simp only[go_sem,u,amS,a3V,B];refine fin _ ?_;rw[pF,aL rfl];simp[mF]
 ·have u:¬(Z' l:Int)>400:=Om;simp only[go_sem,u];refine fin _ ?_;rw[a4N Om];simp only[go_sem]
def cb(l:List Nat)(v:PV)(o n a:Nat)(r:PV)(H:PH):Prop:=r=.int .i64 ((aI l n a).1:Nat)∧H=PH.nil.set o (bE v (aI l n a).2)
theorem V5{C:Ctx}{l:List Nat}{v:PV}(T:Tp l v)(o n a:Nat)(U:n≤1000000)(R:a≤Z' l):EC.wp C (aV Ny.res (cb l v o n a)) (PF.args [.ptr o 2 0 0,.int .i64 n]) (PH.nil.set o (bE v a)):=by
 obtain⟨N,hb,S⟩:=T;have zero:(Z' l≤a∨n<2)→∀F,aC.wp C (.seq (.region m7) .ret) (aV [.tmp 4] (cb l v o n a)) F (PH.nil.set o (bE v a)):=by
  intro h F;have e:aI l n a=(0,a):=by unfold aI;rw[aL h]
  simp only[go_sem,m7];exact bD (vs:=[.int .i64 0]) (.inr rfl) _ rfl b_ ⟨by rw[e];rfl,by rw[e]⟩
 simp only[aC.wp,go_sem]at zero;rcases N with⟨K,rfl⟩|rfl
 ·have O:Z' l=0:=by rw[←aj,K];rfl
  have x:(a:Int)≥0:=Om;simp only[go_sem,EC,m6,Ny];refine aZ .nil cI a_ ?_;simp only[go_sem,QZ,x];exact zero (.inl Om) _
 simp only[go_sem,EC,m6,Ny];refine aZ .nil cI a_ ?_;by_cases A:Z' l≤a
 ·have j:(a:Int)≥(Z' l:Nat):=Om;simp only[go_sem,QZ,a3V,j];exact zero (.inl A) _
 have j:¬(a:Int)≥(Z' l:Nat):=Om;simp only[go_sem,QZ,a3V,j];by_cases B:n<2
 ·have u:(n:Int)<2:=Om;simp only[go_sem,u];exact zero (.inr B) _
 have u:¬(n:Int)<2:=Om;have w:a<Z' l:=Om;have e:aI l n a=(l[a]%n,a+1):=by unfold aI;rw[aG Om];simp[a4D,w]
 have J:IntKind.i64.wrap ((a:Int)+1)=((a+1:Nat):Int):=eI Om;have I:IntKind.i64.wrap (((a+1:Nat):Int)-1)=((a:Nat):Int):=by rw[wrap_i64 Om Om];omega
 have M:=aLZ l w;have V:=hb _ (a3Y w);have E:IntKind.i64.wrap ((l[a]:Nat):Int)=((l[a]:Nat):Int):=qw Om;have y:¬((n:Nat):Int)=0:=Om;have em:Int.tmod ((l[a]:Nat):Int) ((n:Nat):Int)=((l[a]%n:Nat):Int):=rfl;simp only[go_sem,u,V6,J];refine aZ .nil cI a_ ?_;simp only[go_sem,V7,I,M,E,y,em];exact bD (vs:=[.int .i64 (l[a]%n:Nat)]) (.inr rfl) _ rfl b_ ⟨by rw[e];rfl,by rw[e]⟩
def PV.oid:PV→Option Nat
 | .osl q _ _ _=>some q
 |_=>none
abbrev LI:=PV × Nat × List (List PV)
abbrev BX:=Nat × cD
def fK(B:List BX):List Nat:=B.map (·.1)
def eR(L:List LI):List Nat:=L.filterMap λx=>x.1.oid
structure aN(H:PH)(B:List BX)(L:List LI):Prop where
 box:∀b∈B,H b.1=some b.2
 lst:∀x∈L,cZ H x.2.1 x.1 x.2.2
 nd:(fK B++eR L).Nodup
section
variable {C:Ctx} {H:PH} {B:List BX} {L:List LI} {K:PV→PH→Prop}
theorem cZ.id{s q:Nat}{v:PV}{rows:List (List PV)}(h:cZ H s v rows)(hq:v.oid=some q):∃rs,H q=some (.rows s rs)∧v=.osl q s 0 rows.length∧Z' rows≤Z' rs∧rs.take rows.length=rows:=by
 rcases h with⟨_,rfl⟩|⟨p,rs,rfl,h1,h2,h3⟩
 ·cases hq
 ·cases hq;exact⟨rs,h1,rfl,h2,h3⟩
theorem cZ.same{s:Nat}{v:PV}{rows:List (List PV)}{H':PH}(h:cZ H s v rows)(e:∀q,v.oid=some q→H' q=H q):cZ H' s v rows:=by
 rcases h with h|⟨p,rs,rfl,h1,h2,h3⟩
 ·exact .inl h
 ·exact .inr ⟨p,rs,rfl,by rw[e p rfl];exact h1,h2,h3⟩
theorem qI{x:LI}{q:Nat}(h:x∈L)(hq:x.1.oid=some q):q∈eR L:=List.mem_filterMap.2 ⟨x,h,hq⟩
theorem AU{b:BX}(h:b∈B):b.1∈fK B:=a4W.2 ⟨b,h,rfl⟩
theorem aN.nil:aN H [] []:=⟨by simp,by simp,by simp[fK,eR]⟩
theorem aN.at(h:aN H B L)(i:Nat){o:Nat}{x:cD}(hi:B[i]?=some (o,x)):H o=some x:=h.box _ (a5S hi)
theorem aN.own(h:aN H B L)(i:Nat){s:Nat}{v:PV}{rows:List (List PV)}(hi:L[i]?=some (v,s,rows)):cZ H s v rows:=h.lst _ (a5S hi)
theorem aN.ndB(h:aN H B L):(fK B).Nodup:=(a6V.1 h.nd).1
theorem aN.ndL(h:aN H B L):(eR L).Nodup:=(a6V.1 h.nd).2.1
theorem aN.ndX(h:aN H B L){o q:Nat}(e:o∈fK B)(hq:q∈eR L):o≠q:=(a6V.1 h.nd).2.2 o e q hq
theorem aN.ne(h:aN H B L)(i j:Nat){o p:Nat}{x y:cD}(hi:B[i]?=some (o,x))(M:B[j]?=some (p,y))(l:i≠j):o≠p:=by
 intro e;have I:(fK B)[i]?=some o:=by unfold fK;rw[a4Q,hi];rfl
 have J:(fK B)[j]?=some p:=by unfold fK;rw[a4Q,M];rfl
 obtain⟨E,u⟩:=a5A.1 I;obtain⟨F,w⟩:=a5A.1 J;have A:=List.pairwise_iff_getElem.1 h.ndB;rcases Nat.lt_or_gt_of_ne l with g|g
 ·exact A i j E F g (by rw[u,w,e])
 ·exact A j i F E g (by rw[u,w,e])
theorem aN.neL(h:aN H B L)(i j:Nat){o q:Nat}{x:cD}{y:LI}(hi:B[i]?=some (o,x))(e:L[j]?=some y)(hq:y.1.oid=some q):o≠q:=
 h.ndX (AU (a5S hi)) (qI (a5S e) hq)
theorem aN.fresh(h:aN H B L){o:Nat}(j:H o=none):o ∉ fK B∧o ∉ eR L:=by
 refine⟨λl=>?_,λl=>?_⟩
 ·obtain⟨b,hb,rfl⟩:=a4W.1 l;rw[h.box b hb]at j;cases j
 ·obtain⟨x,w,e⟩:=List.mem_filterMap.1 l;obtain⟨rs,u,_⟩:=(h.lst x w).id e;rw[u]at j;cases j
theorem aN.keep(h:aN H B L){H':PH}(e:∀q,q∈fK B∨q∈eR L→H' q=H q):aN H' B L:=
 ⟨λb hb=>by rw[e _ (.inl (AU hb))];exact h.box b hb,λx j=>(h.lst x j).same λq hq=>e q (.inr (qI j hq)),h.nd⟩
theorem aIL{i:Nat}{o:Nat}{x y:cD}(hi:B[i]?=some (o,x)):fK (B.set i (o,y))=fK B:=by
 unfold fK;rw[List.map_set];refine List.ext_getElem? λj=>?_;rw[a7N];split
 ·rename_i e;subst e;rw[a4Q,hi];have:=(a5A.1 hi).1;simp[this]
 ·rfl
theorem aN.set(h:aN H B L)(i:Nat){o:Nat}{x:cD}(hi:B[i]?=some (o,x))(y:cD):aN (H.set o y) (B.set i (o,y)) L:=by
 have w:o∈fK B:=AU (a5S hi);refine⟨λb hb=>?_,λz A=>(h.lst z A).same λq hq=>?_,by rw[aIL hi];exact h.nd⟩
 ·obtain⟨j,l⟩:=List.mem_iff_getElem?.1 hb;rw[a7N]at l;split at l
  ·split at l
   ·cases l;simp only[aU,if_true]
   ·cases l
  ·rename_i u;have:b.1≠o:=λe=>h.ne i j hi (show B[j]?=some (b.1,b.2)from l) u e.symm;rw[aU,aG this];exact h.box b (a5S l)
 ·have:q≠o:=λe=>h.ndX w (qI A hq) e.symm;rw[aU,aG this]
theorem aN.new(h:aN H B L){o:Nat}(u:H o=none)(y:cD):aN (H.set o y) (B++[(o,y)]) L:=by
 obtain⟨f1,f2⟩:=h.fresh u;refine⟨λb hb=>?_,λz l=>(h.lst z l).same λq hq=>?_,?_⟩
 ·rw[a5E,a4X]at hb;rcases hb with hb|rfl
  ·have:b.1≠o:=λe=>f1 (e ▸ AU hb);rw[aU,aG this];exact h.box b hb
  ·simp only[aU,if_true]
 ·have:q≠o:=λe=>f2 (e ▸ qI l hq);rw[aU,aG this]
 ·have:=h.nd;simp only[fK,a5L,a5D,a6L]at *
  rw[a5C,a6V]at *
  obtain⟨a,b,c⟩:=this;refine⟨a,?_,λp j q hq=>?_⟩
  ·rw[List.singleton_append,List.nodup_cons];exact⟨f2,b⟩
  ·rw[List.singleton_append,a4J]at hq;rcases hq with rfl|hq
   ·intro e;subst e;exact f1 j
   ·exact c p j q hq
theorem pP(L1 L2:List LI):eR (L1++L2)=eR L1++eR L2:=List.filterMap_append ..
theorem aN.lW(h:aN H B L)(s:Nat):aN H B (L++[(.aE,s,[])]):=by
 refine⟨h.box,λz e=>?_,?_⟩
 ·rw[a5E,a4X]at e;rcases e with e|rfl
  ·exact h.lst z e
  ·exact .nil
 ·rw[pP,show eR [((.aE:PV),s,([]:List (List PV)))]=[]from rfl,a5O];exact h.nd
theorem aN.C2(h:aN H B L){o s:Nat}{rows:List (List PV)}(l:H o=none):aN (H.set o (.rows s rows)) B (L++[(.osl o s 0 rows.length,s,rows)]):=by
 obtain⟨f1,f2⟩:=h.fresh l;have j:=h.keep (H':=H.set o (.rows s rows)) λq hq=>by
  have:q≠o:=by rintro rfl;exact hq.elim f1 f2
  rw[aU,aG this]
 refine⟨j.box,λz e=>?_,?_⟩
 ·rw[a5E,a4X]at e;rcases e with e|rfl
  ·exact j.lst z e
  ·exact .inr ⟨o,rows,rfl,by simp only[aU,if_true],a4B _,a5F⟩
 ·rw[pP,show eR [((.osl o s 0 rows.length:PV),s,rows)]=[o]from rfl,←a5C,a6V];refine⟨h.nd,by simp,λp hp q hq=>?_⟩;rw[a4X]at hq;subst hq;rintro rfl;rcases a5E.1 hp with hp|hp
  ·exact f1 hp
  ·exact f2 hp
theorem T1{i:Nat}{v v':PV}{s s':Nat}{rows rows':List (List PV)}(hi:L[i]?=some (v,s,rows)):∃L1 L2,L=L1++(v,s,rows)::L2∧L.set i (v',s',rows')=L1++(v',s',rows')::L2:=by
 obtain⟨e,he⟩:=a5A.1 hi;refine⟨L.take i,L.drop (i+1),?_,?_⟩
 ·rw[←he,←a6J e,a6W]
 ·rw[List.set_eq_take_append_cons_drop,aL e]
theorem aN.TD(h:aN H B L)(i:Nat){s:Nat}{v:PV}{rows:List (List PV)}(hi:L[i]?=some (v,s,rows)){s':Nat}{v':PV}{rows':List (List PV)}{H':PH}(R:cZ H' s' v' rows')
  (I:∀q,v'.oid=some q→v.oid=some q∨H q=none) (O:∀q,q∈fK B∨q∈eR L→(∀p,v.oid=some p→q≠p)→H' q=H q):aN H' B (L.set i (v',s',rows')):=by
 obtain⟨L1,L2,M,N⟩:=T1 (v':=v') (s':=s') (rows':=rows') hi;rw[N];subst M;have j:=h.nd;have E:eR (L1++(v,s,rows)::L2)=eR L1++(v.oid.toList++eR L2):=by rw[pP];congr 1;unfold eR;rw[List.filterMap_cons];cases e:v.oid<;>simp
 have F:eR (L1++(v',s',rows')::L2)=eR L1++(v'.oid.toList++eR L2):=by rw[pP];congr 1;unfold eR;rw[List.filterMap_cons];cases e:v'.oid<;>simp
 rw[E]at j;have x:∀q,q∈fK B∨q∈eR L1∨q∈eR L2→∀p,v.oid=some p→q≠p:=by
  intro q hq p w e;subst e;rw[w]at j;simp only[Option.toList_some]at j;rw[a6V]at j;obtain⟨a,b,c⟩:=j;rw[a6V]at b;obtain⟨J,y,A⟩:=b;rw[List.singleton_append,List.nodup_cons]at y;rcases hq with hq|hq|hq
  ·exact c q hq q aW rfl
  ·exact A q hq q aW rfl
  ·exact y.1 hq
 have l:∀q,q∈fK B∨q∈eR L1∨q∈eR L2→H' q=H q:=by
  intro q hq;refine O q ?_ (x q hq);rw[E];simp only[a5E];rcases hq with hq|hq|hq
  ·exact .inl hq
  ·exact .inr (.inl hq)
  ·exact .inr (.inr (.inr hq))
 refine⟨λb hb=>by rw[l _ (.inl (AU hb))];exact h.box b hb,λz hz=>?_,?_⟩
 ·rw[a5E,a4J]at hz;rcases hz with hz|rfl|hz
  ·exact(h.lst z (by simp[hz])).same λq hq=>l q (.inr (.inl (qI hz hq)))
  ·exact R
  ·exact(h.lst z (by simp[hz])).same λq hq=>l q (.inr (.inr (qI hz hq)))
 ·rw[F];cases e:v'.oid with
  |none =>simp only[Option.toList_none,a7C];refine List.Nodup.sublist ?_ j;exact a6B.append (a6B.refl _) (a6B.append (a6B.refl _) (List.sublist_append_right _ _))
  |some q=>
   rcases I q e with S|hn
   ·rw[S]at j;exact j
   ·obtain⟨f1,f2⟩:=h.fresh hn;rw[E]at f2;simp only[a5E,not_or]at f2;have u:(fK B++(eR L1++eR L2)).Nodup:=List.Nodup.sublist (a6B.append (a6B.refl _) (a6B.append (a6B.refl _) (List.sublist_append_right _ _))) j;simp only[Option.toList_some];rw[a6V]at u ⊢;obtain⟨a,b,c⟩:=u;rw[a6V]at b;obtain⟨J,y,A⟩:=b;refine⟨a,?_,?_⟩
    ·rw[a6V];refine⟨J,by rw[List.singleton_append,List.nodup_cons];exact⟨f2.2.2,y⟩,λp w r hr=>?_⟩;rw[List.singleton_append,a4J]at hr;rcases hr with rfl|hr
     ·rintro rfl;exact f2.1 w
     ·exact A p w r hr
    ·intro p w r hr;rw[a5E,List.singleton_append,a4J]at hr;rcases hr with hr|rfl|hr
     ·exact c p w r (by simp[hr])
     ·rintro rfl;exact f1 w
     ·exact c p w r (by simp[hr])
theorem aN.append(h:aN H B L)(i:Nat){s b:Nat}{v y:PV}{rows src:List (List PV)}(hi:L[i]?=some (v,s,rows))(E:fY H s y=some src)(A:roomFor rows.length src.length b)
  (w:∀v' H',aN H' B (L.set i (v',s,rows++src))→(src≠[]→∃q,v'=.osl q s 0 (rows++src).length)→K v' H'):pC H s b v y K:=by
 rcases h.own i hi with⟨rfl,rfl⟩|⟨q,rs,rfl,h1,h2,h3⟩
 ·refine⟨src,E,A,λe=>?_,λe o u=>?_⟩
  ·subst e;refine w _ _ ?_ λh=>absurd rfl h;exact h.TD i hi (.inl ⟨rfl,rfl⟩) (λq hq=>by cases hq) λq _ _=>rfl
  ·refine w _ _ (h.TD i hi (.inr ⟨o,src,rfl,by simp only[aU,if_true],a4B _,a5F⟩) (λq hq=>by cases hq;exact .inr u) λq hq _=>?_) λ_=>⟨o,rfl⟩;obtain⟨f1,f2⟩:=h.fresh u;have:q≠o:=by rintro rfl;exact hq.elim f1 f2
   rw[aU,aG this]
 ·have j:(rows++src).length=Z' rows+Z' src:=a3Z;refine⟨src,E,rfl,rfl,A,rs,h1,h2,?_,λo u=>?_⟩
  ·rw[h3];refine w _ _ (h.TD i hi (.inr ⟨q,rows++src,by rw[j],by simp only[aU,if_true],a4B _,a5F⟩) (λp l=>by cases l;exact .inl rfl) λp _ l=>?_) λ_=>⟨q,by rw[j]⟩;rw[aU,aG (l q rfl)]
  ·rw[h3];refine w _ _ (h.TD i hi (.inr ⟨o,rows++src,by rw[j],by simp only[aU,if_true],a4B _,a5F⟩) (λp l=>by cases l;exact .inr u) λp x l=>?_) λ_=>⟨o,by rw[j]⟩;obtain⟨f1,f2⟩:=h.fresh u;have F:p≠o:=by rintro rfl;exact x.elim f1 f2
   rw[aU,aG F]
theorem aN.sub(h:aN H B L){B':List BX}{L':List LI}(hB:B'.Sublist B)(e:L'.Sublist L):aN H B' L':=
 ⟨λb hb=>h.box b (hB.subset hb),λx j=>h.lst x (e.subset j),List.Nodup.sublist (a6B.append (hB.map _) (e.filterMap _)) h.nd⟩
theorem aN.wX(h:aN H B L)(i:Nat):aN H (B.eraseIdx i) L:=h.sub (List.eraseIdx_sublist ..) (a6B.refl _)
theorem aN.cg(h:aN H B L)(i:Nat):aN H B (L.eraseIdx i):=h.sub (a6B.refl _) (List.eraseIdx_sublist ..)
end
section
variable {C:Ctx} {F:PF} {H:PH} {B:List BX} {L:List LI}
theorem aN.GC(h:aN H B L){q:Nat}(hq:q∈fK B∨q∈eR L):∃x,H q=some x:=by
 rcases hq with hq|hq
 ·obtain⟨b,hb,rfl⟩:=a4W.1 hq;exact⟨_,h.box b hb⟩
 ·obtain⟨x,l,e⟩:=List.mem_filterMap.1 hq;obtain⟨rs,j,_⟩:=(h.lst x l).id e;exact⟨_,j⟩
theorem aN.perm(h:aN H B L){B':List BX}{L':List LI}(hB:B.Perm B')(e:L.Perm L'):aN H B' L':=
 ⟨λb hb=>h.box b (hB.mem_iff.2 hb),λx j=>h.lst x (e.mem_iff.2 j),(a6I.nodup_iff ((hB.map _).append (e.filterMap _))).1 h.nd⟩
theorem aN.only(h:aN H B L){B1:List BX}{L1:List LI}(hB:B1.Sublist B)(e:L1.Sublist L):aN (H.only (fK B1++eR L1)) B1 L1:=by
 refine(h.sub hB e).keep λq hq=>?_;rw[vX];rw[aL (a5E.2 hq)]
theorem aTR{a b c d:List Nat}(j:(a++c).Nodup)(l:(b++d).Nodup)(u:∀q,q∈a∨q∈c→q∈b∨q∈d→False):((a++b)++(c++d)).Nodup:=by
 have e:a6I ((a++b)++(c++d)) ((a++c)++(b++d)):=by rw[a5C,a5C];exact a6I.append_left a (by rw[←a5C,←a5C];exact a6I.append_right d List.perm_append_comm)
 rw[e.nodup_iff,a6V];refine⟨j,l,λp w q hq=>?_⟩;rintro rfl;exact u p (a5E.1 w) (a5E.1 hq)
theorem aN.frame{H':PH}{B1 B2 B':List BX}{L1 L2 L':List LI}(h:aN H (B1++B2) (L1++L2))(w:aN H' B' L')(J:oP H (H.only (fK B1++eR L1)) H'):aN (H.over (H.only (fK B1++eR L1)) H') (B'++B2) (L'++L2):=by
 have E:aN H B2 L2:=h.sub (List.sublist_append_right ..) (List.sublist_append_right ..);have l:∀q,q∈fK B2∨q∈eR L2→¬(q∈fK B1++eR L1):=by
  intro q hq K;have j:=h.nd;rw[show fK (B1++B2)=fK B1++fK B2 from a5L,pP]at j;have e:a6I ((fK B1++fK B2)++(eR L1++eR L2)) ((fK B1++eR L1)++(fK B2++eR L2)):=by rw[a5C,a5C];exact a6I.append_left _ (by rw[←a5C,←a5C];exact a6I.append_right _ List.perm_append_comm)
  rw[e.nodup_iff,a6V]at j;exact j.2.2 q K q (a5E.2 hq) rfl
 have new:∀q,q∈fK B'∨q∈eR L'→(H.over (H.only (fK B1++eR L1)) H') q=H' q:=by intro q hq;obtain⟨x,hx⟩:=w.GC hq;rw[tQ,hx]
 have I:∀q,q∈fK B2∨q∈eR L2→(H.over (H.only (fK B1++eR L1)) H') q=H q:=by
  intro q hq;obtain⟨x,hx⟩:=E.GC hq;have A:(H.only (fK B1++eR L1)) q=none:=by rw[vX,aG (l q hq)]
  rw[tQ];cases e:H' q with
  |none=>simp only[A]
  |some y =>have:=J q y e A;rw[hx]at this;cases this
 have k1:=w.keep new;have k2:=E.keep I;refine⟨λb hb=>?_,λx hx=>?_,?_⟩
 ·rcases a5E.1 hb with hb|hb
  ·exact k1.box b hb
  ·exact k2.box b hb
 ·rcases a5E.1 hx with hx|hx
  ·exact k1.lst x hx
  ·exact k2.lst x hx
 ·rw[show fK (B'++B2)=fK B'++fK B2 from a5L,pP];refine aTR w.nd E.nd λq hq u=>?_;obtain⟨x,hx⟩:=w.GC hq;obtain⟨y,M⟩:=E.GC u;have A:(H.only (fK B1++eR L1)) q=none:=by rw[vX,aG (l q u)]
  have:=J q x hx A;rw[M]at this;cases this
theorem MS{name:Nat}{vs:List PV}{args:List aR}{d:Option Nat}{K:PF→PH→Prop}{B1 B2:List BX}{L1 L2:List LI}{Q:PV→List BX→List LI→Prop}(h:aN H (B1++B2) (L1++L2))
  (u:∀H0,aN H0 B1 L1→aJ C name vs H0 (λr H'=>∃B' L',Q r B' L'∧aN H' B' L')) (l:aR.evs F args=some vs)
  (w:∀r B' L' H',Q r B' L'→aN H' (B'++B2) (L'++L2)→K (F.put d r) H'):jX C name args [] d K F H:=by
 refine eY (u (H.only (fK B1++eR L1)) (h.only (a7W ..) (a7W ..))) l (dh H _) ?_;rintro r H' ⟨B',L',hq,j⟩ e;exact w r B' L' _ hq (h.frame j e)
theorem aN.qA{B:List BX}{o:Nat}{x:cD}(h:aN H (B++[(o,x)]) L):H o=some x:=h.box (o,x) aW
theorem aN.wD{B:List BX}{o:Nat}{x:cD}(h:aN H (B++[(o,x)]) L)(y:cD):aN (H.set o y) (B++[(o,y)]) L:=by
 have:=h.set B.length (o:=o) (x:=x) aW y
 rwa[a7O _ _ (a4B _),Nat.sub_self]at this
theorem aN.dropLast{B:List BX}{b:BX}(h:aN H (B++[b]) L):aN H B L:=h.sub (a7W ..) (a6B.refl _)
theorem aN.aRG{B:List BX}{o:Nat}{x:cD}(h:aN H ((o,x)::B) L)(y:cD):aN (H.set o y) ((o,y)::B) L:=h.set 0 rfl y
theorem aN.aTA{B:List BX}{o:Nat}{x:cD}(h:aN H ((o,x)::B) L):H o=some x:=h.at 0 rfl
theorem pU{name o:Nat}{x y:cD}{r:PV}{vs:List PV}{args:List aR}{d:Option Nat}{K:PF→PH→Prop}(h:aJ C name vs (PH.nil.set o x) (λe H'=>e=r∧H'=PH.nil.set o y))(u:H o=some x)(j:aR.evs F args=some vs)
  (l:K (F.put d r) (H.set o y)):jX C name args [] d K F H:=by
 refine eY h j (e_ a_ u) ?_;rintro e H' ⟨rfl,rfl⟩ -;rw[PH.sI];exact l
theorem O8{Hs:PH}{S:Spec}{name o:Nat}{x y:cD}{r:PV}{vs:List PV}{R:PH→PV→PH→Prop}{args:List aR}{st:Bool}{d:Option Nat}{K:PF→PH→Prop}(N:S name vs=some ([o],R))(M:H o=some x)
  (h:aJ C name vs (PH.nil.set o x) (λj H'=>j=r∧H'=PH.nil.set o y)) (l:R (PH.nil.set o x) r (PH.nil.set o y)) (A:∀j H',R (PH.nil.set o x) j H'→j=r∧H'=PH.nil.set o y) (O:aR.evs F args=some vs)
  (E:Hs.le (H.set o y)) (U:K (F.put d r) (H.set o y)):dOp C Hs S st (.call name args) d K F H:=by
 have e:=oc M;refine⟨vs,[o],_,O,N,λq hq=>?_,?_,λG=>⟨r,_,by rw[e];exact l,λq z J w=>?_⟩,λj H' u _=>?_⟩
 ·simp at hq;subst hq;exact⟨x,M⟩
 ·rw[e];exact h.post λj H' u=>⟨j,.refl _,by rw[u.1,u.2];exact l⟩
 ·rw[e]at w;rw[aU]at J w;split at w
  ·cases w
  ·rename_i I;rw[aG I]at J;cases J
 ·rw[e]at u;obtain⟨rfl,rfl⟩:=A j H' u;rw[e,PH.sI];exact⟨E,U⟩
theorem aLF{s:Nat}{q z:Nat}{rs:List (List PV)}{v:PV}{rows:List (List PV)}(h:cZ H s v rows)(l:v.oid≠some q):cZ (H.frz q z rs) s v (rows.map λr=>r.map (PV.cT q z rs)):=by
 rcases h with⟨rfl,rfl⟩|⟨p,rs',rfl,h1,h2,h3⟩
 ·exact .inl ⟨rfl,rfl⟩
 ·have j:¬p=q:=λe=>l (by rw[e];rfl);refine .inr ⟨p,rs'.map λr=>r.map (PV.cT q z rs),by rw[a3V],?_,by simpa using h2,?_⟩
  ·rw[FP,aG j,h1];rfl
  ·rw[a3V,←List.map_take,h3]
theorem aN.frz(h:aN H B L)(i:Nat){q s k:Nat}{rows:List (List PV)}(hi:L[i]?=some (.osl q s 0 k,s,rows)):∃rs,H q=some (.rows s rs)∧PV.cT q s rs (.osl q s 0 k)=.sl s rows∧PV.frz q s rs (.osl q s 0 k)=.sl s rows∧(∀j x,j≠i→L[j]?=some x→PV.cT q s rs x.1=x.1) ∧
  aN (H.frz q s rs) (B.map λb=>(b.1,b.2.frz q s rs)) ((L.eraseIdx i).map λx=>(x.1,x.2.1,x.2.2.map λr=>r.map (PV.cT q s rs))):=by
 obtain⟨rs,U,V,W,X⟩:=(h.own i hi).id rfl;injection V with _ _ _ hk
 subst hk;have e:PV.frz q s rs (.osl q s 0 rows.length)=.sl s rows:=by rw[yA W,X]
 refine⟨rs,U,e,e,?_⟩;refine⟨λj x J R=>?_,?_⟩
 ·have u:x.1.oid≠some q:=by
   intro u;obtain⟨K,he⟩:=a5A.1 hi;obtain⟨α,Y⟩:=a5A.1 R;have w:x∈L.eraseIdx i:=List.mem_eraseIdx_iff_getElem?.2 ⟨j,J,R⟩;have l:=h.ndL;have N:L=L.take i++(L[i]::L.drop (i+1)):=by rw[←a6J K,a6W]
   rw[List.eraseIdx_eq_take_drop_succ]at w;rw[N,pP]at l;have I:eR (L[i]::L.drop (i+1))=q::eR (L.drop (i+1)):=by rw[he];rfl
   rw[I,a6V]at l;obtain⟨a,b,c⟩:=l;rcases a5E.1 w with hx|hx
   ·exact c q (qI hx u) q aW rfl
   ·exact(List.nodup_cons.1 b).1 (qI hx u)
  cases hx:x.1<;>try rfl
  rename_i p z β len;have:¬p=q:=λe=>u (by rw[hx,e];rfl);simp only[PV.cT,aG this]
 obtain⟨L1,L2,e1,e2⟩:=T1 (v':=.aE) (s':=s) (rows':=rows) hi;have Z:i=Z' L1∨True:=.inr trivial;have y:(L.eraseIdx i).Sublist L:=List.eraseIdx_sublist ..;have M:∀x∈L.eraseIdx i,x.1.oid≠some q:=by
  intro x hx u;obtain⟨K,he⟩:=a5A.1 hi;have l:=h.ndL;have N:L=L.take i++(L[i]::L.drop (i+1)):=by rw[←a6J K,a6W]
  rw[List.eraseIdx_eq_take_drop_succ]at hx;rw[N,pP]at l;have I:eR (L[i]::L.drop (i+1))=q::eR (L.drop (i+1)):=by rw[he];rfl
  rw[I,a6V]at l;obtain⟨a,b,c⟩:=l;rcases a5E.1 hx with hx|hx
  ·exact c q (qI hx u) q aW rfl
  ·exact(List.nodup_cons.1 b).1 (qI hx u)
 refine⟨λb hb=>?_,λx hx=>?_,?_⟩
 ·obtain⟨O,A,rfl⟩:=a4W.1 hb;have:¬O.1=q:=h.ndX (AU A) (qI (a5S hi) rfl);simp only;rw[FP,aG this,h.box O A];rfl
 ·obtain⟨S,E,rfl⟩:=a4W.1 hx;exact aLF (h.lst S (y.subset E)) (M S E)
 ·have i1:fK (B.map λb=>(b.1,b.2.frz q s rs))=fK B:=by unfold fK;rw[a7A];rfl
  have i2:eR ((L.eraseIdx i).map λx=>(x.1,x.2.1,x.2.2.map λr=>r.map (PV.cT q s rs)))=eR (L.eraseIdx i):=by unfold eR;rw[List.filterMap_map];rfl
  rw[i1,i2];exact List.Nodup.sublist (a6B.append (a6B.refl _) (y.filterMap _)) h.nd
def Flat(rows:List (List PV)):Prop:=∀q s rs,rows.map (λr=>r.map (PV.cT q s rs))=rows
theorem Flat.nil:Flat []:=λ_ _ _=>rfl
theorem Flat.of{rows:List (List PV)}(h:∀r∈rows,∀c∈r,∀q s rs,PV.cT q s rs c=c):Flat rows:=λq s rs=>by
 conv=>rhs;rw[←List.map_id rows]
 refine a6A λr j=>?_
 conv=>rhs;rw[id,←List.map_id r]
 exact a6A λc e=>h r j c e q s rs
theorem Flat.map{α:Type}{f:α→List PV}(l:List α)(h:∀x,∀c∈f x,∀q s rs,PV.cT q s rs c=c):Flat (l.map f):=Flat.of λr e=>by
 obtain⟨x,_,rfl⟩:=a4W.1 e;exact h x
theorem Flat.append{r1 r2:List (List PV)}(e:Flat r1)(j:Flat r2):Flat (r1++r2):=λq s rs=>by rw[a5L,e,j]
theorem aN.flat{φ:PV→List (List PV)}(h:aN H B L):aN H B L:=h
def sV(v:PV)(H:PH)(R:PV→PH→Prop):Prop:=∃e j H2,lN (PF.nil.set 0 v) H e j∧H2.le j∧∃u,e 0=some u∧R u H2
theorem sV.done{v:PV}{H2:PH}{R:PV→PH→Prop}(j:R v H2)(e:H2.le H):sV v H R:=⟨_,_,H2,.refl _ _,e,v,by rw[pF,aL rfl],j⟩
theorem sV.step{v:PV}{q s:Nat}{rs:List (List PV)}{R:PV→PH→Prop}(hq:H q=some (.rows s rs))(h:sV (PV.frz q s rs v) (H.frz q s rs) R):sV v H R:=by
 obtain⟨j,l,H2,u,w,x⟩:=h;have e:(PF.nil.set 0 v).frz q s rs=PF.nil.set 0 (PV.frz q s rs v):=by funext i;rw[sG,pF,pF];split<;>rfl
 exact⟨j,l,H2,.step q hq (by rw[e];exact u),w,x⟩
theorem oA{res:List fC}{R:PV→PH→Prop}{vs:List PV}{e:nN}(he:e=.normal∨e=.ret)(h:fC.evs F H res=some vs)(x:sV (cE vs) H R):aV res R e F H:=by
 have j:∃vs,fC.evs F H res=some vs∧∃l w H2,lN (PF.nil.set 0 (cE vs)) H l w∧H2.le w∧∃u,l 0=some u∧R u H2:=⟨vs,h,x⟩;rcases he with rfl|rfl<;>exact j
theorem PA{u:PV}(h:u.oid=none)(q s:Nat)(rs:List (List PV)):PV.cT q s rs u=u:=by
 cases u<;>first|rfl|(simp[PV.oid]at h)
theorem Seen.co{s:Nat}{v:PV}{rows:List (List PV)}(h:Seen s v rows):Co v (.sl s rows):=by
 rcases h with⟨rfl,rfl⟩|rfl
 ·exact .nil s
 ·exact .refl _
theorem aN.giveUp:∀(L:List LI){H:PH}{B:List BX},aN H B L→(∀x∈L,Flat x.2.2)→(∀b∈B,∀q s rs,cD.frz q s rs b.2=b.2) →
  ∃(φ:PV→PV)(y:PH),(∀x∈L,Seen x.2.1 (φ x.1) x.2.2)∧(∀u,u.oid=none→φ u=u)∧aN y B []∧∀cs R,sV (.agg (cs.map φ)) y R→sV (.agg cs) H R
 |[],H,B,h,_,_=>⟨id,H,by simp,λ_ _=>rfl,h,λcs R I=>by rwa[List.map_id]at I⟩
 |(w,s,rows)::L,H,B,h,E,hB=>by
  have l:∀q z rs,(L.map λx=>(x.1,x.2.1,x.2.2.map λr=>r.map (PV.cT q z rs)))=L:=λq z rs=>by
   conv=>rhs;rw[←List.map_id L]
   refine a6A λx hx=>?_;rw[E x (by simp[hx]) q z rs];rfl
  rcases h.own 0 rfl with⟨A,S⟩|⟨q,rs,A,_⟩
  ·obtain⟨φ,y,k1,k2,J,K⟩:=aN.giveUp L (h.cg 0) (λx hx=>E x (by simp[hx])) hB;refine⟨φ,y,λx hx=>?_,k2,J,K⟩;rw[a4J]at hx;rcases hx with rfl|hx
   ·exact .inl ⟨A,by simp only;rw[S];exact k2 _ rfl⟩
   ·exact k1 x hx
  ·subst A;obtain⟨rs,V,W,Z,X,N⟩:=h.frz 0 rfl;have Y:aN (H.frz q s rs) B L:=by
    have O:(B.map λb=>(b.1,b.2.frz q s rs))=B:=by
     conv=>rhs;rw[←List.map_id B]
     refine a6A λb hb=>?_;rw[hB b hb q s rs];rfl
    rw[O]at N;have:=N;simp only[List.eraseIdx_cons_zero]at this
    rwa[l q s rs]at this
   obtain⟨φ,y,k1,k2,J,K⟩:=aN.giveUp L Y (λx hx=>E x (by simp[hx])) hB;refine⟨λu=>φ (PV.cT q s rs u),y,λx hx=>?_,λu M=>?_,J,λcs R I=>?_⟩
   ·rw[a4J]at hx;rcases hx with rfl|hx
    ·simp only;rw[W];exact .inr (k2 _ rfl)
    ·obtain⟨j,U⟩:=List.mem_iff_getElem?.1 hx;have:=X (j+1) x Om (by simpa using U);simp only;rw[this];exact k1 x hx
   ·simp only;rw[PA M,k2 u M]
   ·refine .step V ?_;have e:PV.frz q s rs (.agg cs)=.agg (cs.map (PV.cT q s rs)):=rfl;rw[e];refine K _ R ?_;rw[a7A];exact I
theorem IQ{K:cP}{α:Type}{e:α→PF}{Hs:α→PH}{j:α→Prop}{m:α→Nat}{n q s:Nat}{rs:List (List PV)}(a:α)(hq:H q=some (.rows s rs))(l:j a)(x:m a<n)(u:(e a).le (F.frz q s rs))(w:(Hs a).le (H.frz q s rs)):iR e Hs j m n K .normal F H:=
 ⟨a,_,_,.step q hq (.refl _ _),l,x,u,w⟩
end
structure HZ(C:Ctx):Prop extends sb C where
 int:∀n:Int,eP n→aJ C 47 [.int .i64 n] .nil (aK (.agg (mkT n 1).cells))
 itoa:∀n:Nat,n<100→aJ C 195 [.int .i64 n] .nil (aK (.str (dC n)))
 next:∀(l:List Nat)(v:PV),Tp l v→∀(o n a:Nat),n≤1000000→a≤Z' l→aJ C 4 [.ptr o 2 0 0,.int .i64 n] (PH.nil.set o (bE v a)) (cb l v o n a)
section
variable {C:Ctx} {F:PF} {H:PH} {l:List Nat} {v:PV} {o a:Nat}
theorem eQ(j:HZ C)(T:Tp l v){n:Nat}{args:List aR}{d:Option Nat}{K:PF→PH→Prop}(x:n≤1000000)(u:a≤Z' l)(e:aR.evs F args=some [.ptr o 2 0 0,.int .i64 n])(y:H o=some (bE v a))
  (w:K (F.put d (.int .i64 ((aI l n a).1:Nat))) (H.set o (bE v (aI l n a).2))):jX C 4 args [] d K F H:=
 pU (j.next l v T o n a x u) y e w
end
def aMZ(l:List Nat)(v:PV)(o a:Nat)(r:PV)(H:PH):Prop:=r=.agg (jP l a).1.cells∧H=PH.nil.set o (bE v (jP l a).2)
theorem AN(l:List Nat){a:Nat}(h:a≤Z' l):(jP l a).2≤Z' l:=bZ l 8 (bZ l 6 h)
theorem aJE{C:Ctx}(j:HZ C){l:List Nat}{v:PV}(T:Tp l v)(o a:Nat)(x:a≤Z' l):QT.wp C (aV axG.res (aMZ l v o a)) (PF.args [.ptr o 2 0 0]) (PH.nil.set o (bE v a)):=by
 simp only[go_sem,QT,Ve,axG];refine aQ λp K=>?_;have y:¬p=o:=(mK.1 K).1;have e:¬o=p:=λh=>y h.symm;have M:=dQ l (show 0<6 by decide) a;have a1:=bZ l 6 x;simp only[go_sem,Vf];refine eQ j T (o:=o) (n:=6) (a:=a) aX x rfl (by simp only[go_sem,e]) ?_;have E:IntKind.i64.wrap (1+((aI l 6 a).1:Int))=((1+(aI l 6 a).1:Nat):Int):=by rw[wrap_i64 Om Om];omega
 simp only[go_sem,E];have N:=dQ l (show 0<8 by decide) (aI l 6 a).2;refine eQ j T (o:=o) (n:=8) (a:=(aI l 6 a).2) aX a1 rfl Sq ?_;have I:IntKind.i64.wrap (1+((aI l 8 (aI l 6 a).2).1:Int))=((1+(aI l 8 (aI l 6 a).2).1:Nat):Int):=by rw[wrap_i64 Om Om];omega
 simp only[go_sem,I];refine aB (j.fmk ((1+(aI l 6 a).1:Nat):Int) ((1+(aI l 8 (aI l 6 a).2).1:Nat):Int) (by unfold eP;omega) (by unfold eP;omega)) rfl ?_;have J:¬((1+(aI l 8 (aI l 6 a).2).1:Nat):Int)=0:=Om;unfold CS;rw[aG J];simp only[go_sem];refine aQ λq hq=>?_;have A:¬q=o:=(mK.1 hq).1;have B:¬q=p:=(mK.1 (mK.1 hq).2).1;have w:¬p=q:=λh=>B h.symm;have u:¬o=q:=λh=>A h.symm;simp only[go_sem,Vg,y,e,A,B,w];refine bD (vs:=[.agg (jP l a).1.cells]) (.inr rfl) (PH.nil.set o (bE v (jP l a).2)) ?_ (e_ a_ ?_) ⟨rfl,rfl⟩
 ·simp only[go_sem];rfl
 ·simp only[go_sem,e,u];rfl
structure Od(C:Ctx):Prop extends HZ C where
 frac:∀(l:List Nat)(v:PV),Tp l v→∀(o a:Nat),a≤Z' l→aJ C 1 [.ptr o 2 0 0] (PH.nil.set o (bE v a)) (aMZ l v o a)
abbrev kN(l:List RF):List (List PV):=l.map RF.cells
theorem DO(l:List RF)(x:RF):kN l++[x.cells]=kN (l++[x]):=by simp[kN]
theorem OZ(l:List RF):Flat (kN l):=Flat.map l λx c e q s rs=>by
 simp only[RF.cells,gQ,a4J,a4U,or_false]at e;rcases e with rfl|rfl|rfl<;>rfl
theorem rG(l:List RF):(kN l).length=Z' l:=by simp[kN]
theorem Tp.frz{l:List Nat}{v:PV}(T:Tp l v)(q s:Nat)(rs:List (List PV)):PV.cT q s rs v=v:=by
 rcases T.seen with⟨_,rfl⟩|rfl<;>rfl
theorem NU(l:List Nat){a:Nat}(h:a≤Z' l):∀k,(oO l a k).2≤Z' l
 |0=>h
 |k+1=>AN l (NU l h k)
theorem Zs(l:List Nat)(a:Nat):∀k,(oO l a k).1.length=k
 |0=>rfl
 |k+1=>by simp only[oO,a3Z,a4E,Zs l a k]
def aSS(l:List Nat)(v:PV)(o a k:Nat)(r:PV)(H:PH):Prop:=r=frs (oO l a k).1∧H=PH.nil.set o (bE v (oO l a k).2)
def axL(o:Nat)(m:Nat)(w:PV)(i:Nat):PF:=((((PF.nil.set 0 (.ptr o 2 0 0)).set 1 (.int .i64 m)).set 5 (w)).set 6 (.int .i64 i))
theorem aPX{C:Ctx}(K:Od C){l:List Nat}{v:PV}(T:Tp l v)(o a m:Nat)(U:m≤1000)(O:a≤Z' l):XO.wp C (aV aJL.res (aSS l v o a (max m 1))) (PF.args [.ptr o 2 0 0,.int .i64 m]) (PH.nil.set o (bE v a)):=by
 have x:∀i:Nat,((i:Int)<(if(m:Int)<1 then 1 else(m:Int)))↔i<max m 1:=by intro i;split<;>omega
 simp only[go_sem,XO,amU,amV,amW,aJL];have M:aN (PH.nil.set o (bE v a)) [(o,bE v a)] [(.aE,3,kN [])]:=(aN.nil.new (H:=PH.nil) rfl (bE v a)).lW 3;refine wp_loop (α:=Nat × PV × PH) (λt=>axL o m t.2.1 t.1) (λt=>t.2.2) (λt=>t.1≤max m 1∧aN t.2.2 [(o,bE v (oO l a t.1).2)] [(t.2.1,3,kN (oO l a t.1).1)]) (λt=>max m 1-t.1) (0,.aE,PH.nil.set o (bE v a)) ⟨a4A _,M⟩ ?_ b_ ?_
 ·unfold axL;exact Lq
 rintro⟨k,w,H0⟩ ⟨R,u⟩;simp only at R u ⊢;simp only[go_sem,amT,amX,axL];have E:=NU l O k;have j:=Zs l a k;by_cases hlt:k<max m 1
 ·have B:=(x k).2 hlt;simp only[go_sem,B,amY];refine pU (K.frac l v T o _ E) (u.at 0 rfl) rfl ?_;have A:=u.set 0 rfl (bE v (jP l (oO l a k).2).2);have y:(1:Nat)*3≤16777216:=by decide
  simp only[go_sem,y];refine A.append 0 (src:=[(jP l (oO l a k).2).1.cells]) rfl rfl (by unfold roomFor;rw[rG,j];simp only[a4E,maxLen];omega) λS H' J _=>?_;rw[DO]at J;simp only[go_sem,amZ,wZz k];refine aH (k+1,S,H') ⟨hlt,J⟩ (by simp only;omega) ?_ b_;exact Lq
 ·have B:¬((k:Int)<(if(m:Int)<1 then 1 else(m:Int))):=λh=>hlt ((x k).1 h);have e:k=max m 1:=Om;subst e;simp only[go_sem,B,anA];have I:kN (oO l a (max m 1)).1≠[]:=λh=>by have:=congrArg List.length h;rw[rG,j]at this;simp at this
  rcases u.own 0 rfl with⟨N,_⟩|⟨q,rs,rfl,_⟩
  ·exact absurd N I
  obtain⟨rs,g1,g2,g3,-,g4⟩:=u.frz 0 rfl;refine oA (vs:=[.osl q 3 0 (kN (oO l a (max m 1)).1).length]) (.inr rfl) rfl (.step g1 (.done (H2:=PH.nil.set o (bE v (oO l a (max m 1)).2)) ?_ (e_ a_ ?_)))
  ·rw[cE,g3];exact⟨rfl,rfl⟩
  ·have:=g4.at 0 rfl;rw[this];simp only[cD.frz,a5D,a6L,T.frz];rfl
theorem aJI{C:Ctx}(j:HZ C)(s:List UInt8)(n:Nat)(x:Z' s≤100)(u:n<100):QY.wp C (aV axJ.res (aK (.str (s++dC n)))) (PF.args [.str s,.int .i64 n]) .nil:=by
 have w:(dC n).length≤2:=by
  unfold dC;rw[Lib.decDigits];split
  ·simp
  ·rw[Lib.decDigits,dif_pos Om];simp
 have e:¬(((Z' s+(dC n).length:Nat):Int)>9223372036854775807):=Om;simp only[go_sem,QY,V3,V4,axJ];refine aB (j.itoa n u) rfl ?_;simp only[go_sem,avC,e];refine aT (.inr rfl) rfl ?_;rfl
structure yP(C:Ctx):Prop extends Od C where
 rep:∀(l:List Nat)(v:PV),Tp l v→∀(o a m:Nat),m≤1000→a≤Z' l→aJ C 5 [.ptr o 2 0 0,.int .i64 m] (PH.nil.set o (bE v a)) (aSS l v o a (max m 1))
 name:∀(s:List UInt8)(n:Nat),Z' s≤100→n<100→aJ C 29 [.str s,.int .i64 n] .nil (aK (.str (s++dC n)))
theorem aGR(l:List Nat)(i j:Nat){a:Nat}(h:a≤Z' l):(mN l i j a).2≤Z' l:=by
 unfold mN;split
 ·exact AN l h
 ·split
  ·exact h
  ·simp only;split
   ·exact AN l (bZ l 3 h)
   ·exact bZ l 3 h
theorem Dr(l:List Nat)(i:Nat){a:Nat}(h:a≤Z' l):∀j,(fG l i a j).2≤Z' l
 |0=>h
 |j+1=>aGR l i j (Dr l i h j)
theorem qc(l:List Nat)(i a:Nat):∀j,(fG l i a j).1.length=j
 |0=>rfl
 |j+1=>by simp only[fG,a3Z,a4E,qc l i a j]
theorem l3(l:List Nat)(n i:Nat)(s:JP)(h:s.a≤Z' l):(fE l n i s).2≤Z' l∧(fE l n i s).1≤s.left:=by
 unfold fE;split
 ·exact⟨bZ l _ h,by have:=dQ l (Om:0<s.left+1) s.a;omega⟩
 ·exact⟨h,a4B _⟩
theorem Pk(l:List Nat)(n i:Nat){a:Nat}(h:a≤Z' l):(jB l n i a).2≤Z' l:=by
 unfold jB;simp only;split
 ·exact bZ l 3 (AN l h)
 ·exact AN l h
theorem Ch(l:List Nat)(n:Nat){a:Nat}(h:a≤Z' l):∀i,(kB l n a i).a≤Z' l∧(kB l n a i).left≤8∧(kB l n a i).start.length=i∧(kB l n a i).exit.length=i∧(kB l n a i).a2L.length=i
 |0=>⟨h,a4B _,rfl,rfl,rfl⟩
 |i+1=>by
  obtain⟨e,x,j,u,h5⟩:=Ch l n h i;have w:=l3 l n i (kB l n a i) e;refine⟨?_,?_,?_,?_,?_⟩
  ·exact Dr l i (Pk l n i w.1) n
  ·simp only[kB];omega
  ·simp only[kB,a3Z,a4E,j]
  ·simp only[kB,a3Z,a4E,u]
  ·simp only[kB,a3Z,a4E,h5]
abbrev AY(l:List (List RF)):List (List PV):=l.map λr=>[frs r]
theorem Kc(l:List (List RF)):Flat (AY l):=Flat.map l λx c e q s rs=>by
 simp only[a4J,a4U,or_false]at e;subst e;rfl
abbrev ln(e j l:PV):cD:=.rows 4 [[.str [],e,j,l]]
abbrev T8:cD:=.rows 4 [[.str [],.aE,.aE,.aE]]
def jS(o o4 o6 n left i:Nat)(w:PV)(j:Nat):PF:=((((((((PF.nil.set 0 (.ptr o 2 0 0)).set 4 (.ptr o4 4 0 0)).set 5 (.int .i64 n)).set 6 (.ptr o6 4 0 0)).set 7 (.int .i64 left)).set 8 (.int .i64 i)).set 13 (w)).set 14 (.int .i64 j))
def eK(o o4 o6 n left i:Nat):PF:=((((((PF.nil.set 0 (.ptr o 2 0 0)).set 4 (.ptr o4 4 0 0)).set 5 (.int .i64 n)).set 6 (.ptr o6 4 0 0)).set 7 (.int .i64 left)).set 8 (.int .i64 i))
theorem mj{l:List RF}(h:Z' l≤1000):roomFor (kN l).length 1 56:=by
 unfold roomFor;rw[rG];simp only[maxLen];omega
theorem aJH{C:Ctx}(W:yP C){l:List Nat}{v:PV}(T:Tp l v)(o o4 o6 n left i a:Nat)(ha:a≤Z' l)(hn:n≤100)(hi:i<n)(B:List BX)(L:List LI)(K:cP)(F:PF)(H:PH)
  (hF:(jS o o4 o6 n left i .aE 0).le F) (O:aN H ((o,bE v a)::B) L)
  (hK:∀w y H',(jS o o4 o6 n left i w n).le y→aN H' ((o,bE v (fG l i a n).2)::B) (L++[(w,3,kN (fG l i a n).1)])→K (.exit 2) y H') :
  aC.wp C (.loop QW) K F H:=by
 refine wp_loop (α:=Nat × PV × PH) (λt=>jS o o4 o6 n left i t.2.1 t.1) (λt=>t.2.2) (λt=>t.1≤n∧aN t.2.2 ((o,bE v (fG l i a t.1).2)::B) (L++[(t.2.1,3,kN (fG l i a t.1).1)])) (λt=>n-t.1) (0,.aE,H) ⟨a4A _,O.lW 3⟩ hF b_ ?_;rintro⟨j,w,H0⟩ ⟨hj,O⟩;simp only at hj O ⊢;have N:=Dr l i ha j;have ε:=qc l i a j;have e1:IntKind.i64.wrap ((i:Int)+1)=((i+1:Nat):Int):=eI Om;simp only[go_sem,QW,Vy,jS];by_cases hlt:j<n
 ·have I:(j:Int)<(n:Nat):=Om;simp only[go_sem,I,Vz];refine aB (W.int 0 (by unfold eP;omega)) rfl ?_;simp only[go_sem];refine aQ λp hp=>?_;have A:=O.new hp (.rows 3 [nT.cells]);simp only[go_sem,V0,e1];have fin:∀(y:PF)(H':PH),(jS o o4 o6 n left i w j).le y→y 15=some (.ptr p 3 0 0)→aN H' ((o,bE v (mN l i j (fG l i a j).2).2)::B++[(p,.rows 3 [(mN l i j (fG l i a j).2).1.cells])]) (L++[(w,3,kN (fG l i a j).1)]) →
    aC.wp C (.region my) (gP 3 (kT C (aC.wp C (.region mz)) (iR (λ(t:Nat × PV × PH)=>jS o o4 o6 n left i t.2.1 t.1) (λt=>t.2.2) (λt=>t.1≤n∧aN t.2.2 ((o,bE v (fG l i a t.1).2)::B) (L++[(t.2.1,3,kN (fG l i a t.1).1)])) (λt=>n-t.1) (n-j) K))) y H':=by
   intro y H' e J R;have f0:y 0=some (.ptr o 2 0 0):=e 0 _ (by unfold jS;simp only[go_sem]);have f4:y 4=some (.ptr o4 4 0 0):=e 4 _ (by unfold jS;simp only[go_sem]);have f5:y 5=some (.int .i64 n):=e 5 _ (by unfold jS;simp only[go_sem]);have f6:y 6=some (.ptr o6 4 0 0):=e 6 _ (by unfold jS;simp only[go_sem]);have f7:y 7=some (.int .i64 left):=e 7 _ (by unfold jS;simp only[go_sem]);have f8:y 8=some (.int .i64 i):=e 8 _ (by unfold jS;simp only[go_sem]);have f13:y 13=some w:=e 13 _ (by unfold jS;simp only[go_sem]);have f14:y 14=some (.int .i64 j):=e 14 _ (by unfold jS;simp only[go_sem]);have γ:H' p=some (.rows 3 [(mN l i j (fG l i a j).2).1.cells]):=R.box (p,.rows 3 [(mN l i j (fG l i a j).2).1.cells]) aW;have Y:(1:Nat)*3≤16777216:=by decide
   simp only[go_sem,my,f13,J,γ,Y];refine R.append (v:=w) (s:=3) (rows:=kN (fG l i a j).1) L.length (src:=[(mN l i j (fG l i a j).2).1.cells]) aW rfl (mj Om) λw' H2 h2 _=>?_;rw[DO,a7O _ _ (a4B _),Nat.sub_self]at h2;simp only[go_sem,mz,f14,wZz j];refine aH (α:=Nat × PV × PH) (j+1,w',H2) ⟨hlt,h2.sub (a7W ..) (a6B.refl _)⟩ (by simp only;omega) ?_ b_;unfold jS;exact Lq
  simp only[aC.wp,go_sem]at fin;have V:∀x:RF,PH.set (PH.set H0 p (.rows 3 [nT.cells])) p (.rows 3 [x.cells])=PH.set H0 p (.rows 3 [x.cells]):=λx=>PH.set_set p _ _;have draw:∀(y:PF)(S:PH)(a1:Nat),a1≤Z' l→(jS o o4 o6 n left i w j).le y→y 15=some (.ptr p 3 0 0)→aN S ((o,bE v a1)::B++[(p,.rows 3 [nT.cells])]) (L++[(w,3,kN (fG l i a j).1)])→mN l i j (fG l i a j).2=jP l a1→∀K',(∀M H2,(jS o o4 o6 n left i w j).le M→M 15=some (.ptr p 3 0 0)→aN H2 ((o,bE v (mN l i j (fG l i a j).2).2)::B++[(p,.rows 3 [(mN l i j (fG l i a j).2).1.cells])]) (L++[(w,3,kN (fG l i a j).1)])→K' M H2) →
    wpOps C mw K' y S:=by
   intro y S a1 β e J A he K' Z;have f0:y 0=some (.ptr o 2 0 0):=e 0 _ (by unfold jS;simp only[go_sem]);simp only[go_sem,mw,f0];refine pU (W.frac l v T o a1 β) (A.at 0 rfl) rfl ?_;have E:aN (S.set o (bE v (jP l a1).2)) ((o,bE v (jP l a1).2)::B++[(p,.rows 3 [nT.cells])]) (L++[(w,3,kN (fG l i a j).1)]):=A.set 0 rfl _;have δ:=E.qA;simp only[go_sem,J,δ];refine Z _ _ ?_ (by simp only[go_sem,J]) ?_
   ·have g:=λ(q:Nat) u h=>e q u h;unfold jS at g ⊢;refine d_ (d_ (d_ (d_ (d_ (d_ (d_ (d_ c_ ?_) ?_) ?_) ?_) ?_) ?_) ?_) ?_
    ·simp only[go_sem,f0]
    ·simp only[go_sem,g 4 _ rfl]
    ·simp only[go_sem,g 5 _ rfl]
    ·simp only[go_sem,g 6 _ rfl]
    ·simp only[go_sem,g 7 _ rfl]
    ·simp only[go_sem,g 8 _ rfl]
    ·simp only[go_sem,g 13 _ rfl]
    ·simp only[go_sem,g 14 _ rfl]
   ·rw[he];exact E.wD (.rows 3 [(jP l a1).1.cells])
  by_cases U:j=i+1
  ·have he:mN l i j (fG l i a j).2=jP l (fG l i a j).2:=by unfold mN;rw[aL U]
   simp only[go_sem,cA (Om:(j:Int)=((i+1:Nat):Int))];refine draw _ _ _ N (by unfold jS;exact Lq) rfl A he _ ?_;intro M H2 k1 k2 k3;exact fin M H2 k1 k2 k3
  ·simp only[go_sem,bJ (Om:¬(j:Int)=((i+1:Nat):Int))];by_cases X:j=i
   ·have he:mN l i j (fG l i a j).2=(nT,(fG l i a j).2):=by unfold mN;rw[aG U,aL X]
    simp only[go_sem,bW (Om:(j:Int)=(i:Int))];exact fin _ _ (by unfold jS;exact Lq) rfl (by rw[he];exact A)
   ·simp only[go_sem,cU (Om:¬(j:Int)=(i:Int))];refine eQ W.toHZ T (o:=o) (n:=3) (a:=(fG l i a j).2) aX N rfl (A.at 0 rfl) ?_;have E:aN _ ((o,bE v (aI l 3 (fG l i a j).2).2)::B++[(p,.rows 3 [nT.cells])]) (L++[(w,3,kN (fG l i a j).1)]):=A.set 0 rfl _;by_cases c3:(aI l 3 (fG l i a j).2).1=0
    ·have he:mN l i j (fG l i a j).2=jP l (aI l 3 (fG l i a j).2).2:=by unfold mN;rw[aG U,aG X];simp only[c3,if_true]
     simp only[go_sem,cA (show(((aI l 3 (fG l i a j).2).1:Nat):Int)=0 by omega)];refine draw _ _ _ (bZ l 3 N) (by unfold jS;exact Lq) rfl E he _ ?_;intro M H2 k1 k2 k3;exact fin M H2 k1 k2 k3
    ·have he:mN l i j (fG l i a j).2=(nT,(aI l 3 (fG l i a j).2).2):=by unfold mN;rw[aG U,aG X];simp only[c3,if_false]
     simp only[go_sem,bJ (show ¬(((aI l 3 (fG l i a j).2).1:Nat):Int)=0 by omega)];exact fin _ _ (by unfold jS;exact Lq) rfl (by rw[he];exact E)
 ·have I:¬(j:Int)<(n:Nat):=Om;have:j=n:=Om;subst this;simp only[go_sem,I];exact hK w _ _ (by unfold jS;exact Lq) O
abbrev wY(o o4 o6:Nat)(v e j l:PV)(a:Nat):List BX:=[(o,bE v a),(o4,T8),(o6,ln e j l)]
abbrev BN(s:JP)(e j l:PV):List LI:=[(e,3,kN s.start),(j,1,AY s.a2L),(l,3,kN s.exit)]
theorem aCJ{C:Ctx}(J:yP C){l:List Nat}{v:PV}(T:Tp l v)(o o4 o6 n i:Nat)(s:JP)(I:s.a≤Z' l)(V:s.left≤8)(W:n≤100)(hi:i<n)(B:List BX)(L:List LI)(e:aC)(K:cP)(F:PF)(H:PH)
  (j:(eK o o4 o6 n s.left i).le F) (A:aN H ((o,bE v s.a)::B) L)
  (w:∀x H',(eK o o4 o6 n (s.left-(fE l n i s).1) i).le x→x 9=some (.int .i64 ((fE l n i s).1:Nat))→aN H' ((o,bE v (fE l n i s).2)::B) L→aC.wp C e K x H') :
  aC.wp C (.seq (.region Cm) (.seq (.seq (.region Cn) (.cond (.tmp 29) (.region Cp) .skip)) (.seq (.region dc) e))) K F H:=by
 have f0:F 0=some (.ptr o 2 0 0):=j 0 _ (by unfold eK;simp only[go_sem]);have S:F 4=some (.ptr o4 4 0 0):=j 4 _ (by unfold eK;simp only[go_sem]);have O:F 5=some (.int .i64 n):=j 5 _ (by unfold eK;simp only[go_sem]);have f6:F 6=some (.ptr o6 4 0 0):=j 6 _ (by unfold eK;simp only[go_sem]);have f7:F 7=some (.int .i64 s.left):=j 7 _ (by unfold eK;simp only[go_sem]);have R:F 8=some (.int .i64 i):=j 8 _ (by unfold eK;simp only[go_sem]);have M:IntKind.i64.wrap ((i:Int)+1)=((i+1:Nat):Int):=eI Om;have U:=(l3 l n i s I).2;have u:IntKind.i64.wrap ((s.left:Int)-((fE l n i s).1:Int))=((s.left-(fE l n i s).1:Nat):Int):=by rw[wrap_i64 Om Om];omega
 simp only[go_sem,Cm,f7,Cn,R,O,M];by_cases c:i+1<n
 ·have y:((i+1:Nat):Int)<(n:Nat):=Om;have he:fE l n i s=aI l (s.left+1) s.a:=by unfold fE;rw[aL c]
  have N:IntKind.i64.wrap ((s.left:Int)+1)=((s.left+1:Nat):Int):=eI Om;rw[he]at w u;simp only[go_sem,y,Cp,f0,f7,N];refine eQ J.toHZ T (o:=o) (n:=s.left+1) (a:=s.a) Om I rfl A.aTA ?_;have E:=A.aRG (bE v (aI l (s.left+1) s.a).2);simp only[go_sem,dc,f7,u];refine w _ _ ?_ rfl E;unfold eK;exact Lq
 ·have y:¬((i+1:Nat):Int)<(n:Nat):=Om;have he:fE l n i s=(s.left,s.a):=by unfold fE;rw[aG c]
  rw[he]at w u;simp only at w u;simp only[go_sem,y,dc,f7,u];refine w _ _ ?_ rfl A;unfold eK;exact Lq
theorem axI{C:Ctx}(R:yP C){l:List Nat}{v:PV}(o o4 o6 n i left k a:Nat)(hk:k≤8)(hi:i<n)(hn:n≤100)(s:JP)(hs:Z' s.start=i)(O x A:PV)(B:List BX)(e:aC)(K:cP)(F:PF)(H:PH)
  (w:(eK o o4 o6 n left i).le F) (S:F 9=some (.int .i64 k)) (X:aN H (wY o o4 o6 v O x A a++B) (BN s O x A))
  (Y:∀u N H' B',(eK o o4 o6 n left i).le N→aN H' (wY o o4 o6 v u x A a++B') (BN { s with start:=s.start++[mkT (k:Nat) 8] } u x A)→aC.wp C e K N H') :
  aC.wp C (.seq (.region ml) (.seq (.region mm) e)) K F H:=by
 have f0:F 0=some (.ptr o 2 0 0):=w 0 _ (by unfold eK;simp only[go_sem]);have f4:F 4=some (.ptr o4 4 0 0):=w 4 _ (by unfold eK;simp only[go_sem]);have f5:F 5=some (.int .i64 n):=w 5 _ (by unfold eK;simp only[go_sem]);have f6:F 6=some (.ptr o6 4 0 0):=w 6 _ (by unfold eK;simp only[go_sem]);have f7:F 7=some (.int .i64 left):=w 7 _ (by unfold eK;simp only[go_sem]);have f8:F 8=some (.int .i64 i):=w 8 _ (by unfold eK;simp only[go_sem]);simp only[go_sem,ml,S];refine aB (R.fmk (k:Int) 8 (by unfold eP;omega) (by unfold eP;omega)) rfl ?_;unfold CS;rw[aG aX];simp only[go_sem];refine aQ λp Z=>?_;have j:=X.new Z (.rows 3 [(mkT (k:Nat) 8).cells]);have U:=j.at 2 rfl;have V:=j.qA;have I:(1:Nat)*3≤16777216:=by decide
 have α:∀y,PH.set (PH.set H p (.rows 3 [[PV.bool false,PV.aE,PV.aE]])) p y=PH.set H p y:=λy=>PH.set_set p _ _;simp only[go_sem,mm,f6,U,V,I];refine j.append 0 (src:=[(mkT (k:Nat) 8).cells]) rfl rfl (mj Om) λu H2 J M=>?_;rw[DO]at J M;rw[rG]at M;obtain⟨q,rfl⟩:=M aW;have E:=J.at 2 rfl;simp only[go_sem,E,a4J,a4U,or_false,forall_eq];have W:=J.set 2 rfl (ln (.osl q 3 0 (s.start++[mkT (k:Nat) 8]).length) x A);refine Y _ _ _ (B++[(p,.rows 3 [(mkT (k:Nat) 8).cells])]) ?_ W;unfold eK;exact Lq
theorem aCI{C:Ctx}(N:yP C){l:List Nat}{v:PV}(T:Tp l v)(o o4 o6 n i left a:Nat)(ha:a≤Z' l)(hi:i<n)(hn:n≤100)(s:JP)(hs:Z' s.exit=i)(w x M:PV)(B:List BX)(u:aC)(K:cP)(F:PF)(H:PH)
  (J:(eK o o4 o6 n left i).le F) (hH:aN H (wY o o4 o6 v w x M a++B) (BN s w x M))
  (hK:∀I e H' B',(eK o o4 o6 n left i).le e→aN H' (wY o o4 o6 v w x I (jB l n i a).2++B') (BN { s with exit:=s.exit++[(jB l n i a).1] } w x I)→aC.wp C u K e H') :
  aC.wp C (.seq (.region mo) (.seq (.seq (.region mp) (.cond (.tmp 58) (.region mq) .skip)) (.seq (.region QX) u))) K F H:=by
 have f0:F 0=some (.ptr o 2 0 0):=J 0 _ (by unfold eK;simp only[go_sem]);have f4:F 4=some (.ptr o4 4 0 0):=J 4 _ (by unfold eK;simp only[go_sem]);have f5:F 5=some (.int .i64 n):=J 5 _ (by unfold eK;simp only[go_sem]);have f6:F 6=some (.ptr o6 4 0 0):=J 6 _ (by unfold eK;simp only[go_sem]);have f7:F 7=some (.int .i64 left):=J 7 _ (by unfold eK;simp only[go_sem]);have f8:F 8=some (.int .i64 i):=J 8 _ (by unfold eK;simp only[go_sem]);have e1:IntKind.i64.wrap ((i:Int)+1)=((i+1:Nat):Int):=eI Om;simp only[go_sem,mo,f0];refine pU (N.frac l v T o a ha) (hH.at 0 rfl) rfl ?_;have X:=hH.set 0 rfl (bE v (jP l a).2);simp only[go_sem];refine aQ λp hp=>?_;have A:=X.new hp (.rows 3 [(jP l a).1.cells]);simp only[go_sem,mp,f8,f5,e1];have fin:∀(e:PF)(H':PH),(eK o o4 o6 n left i).le e→e 12=some (.ptr p 3 0 0)→aN H' (wY o o4 o6 v w x M (jB l n i a).2++B++[(p,.rows 3 [(jB l n i a).1.cells])]) (BN s w x M)→wpOps C QX (aC.wp C u K) e H':=by
  intro e H' j R y;have q0:e 0=some (.ptr o 2 0 0):=j 0 _ (by unfold eK;simp only[go_sem]);have q4:e 4=some (.ptr o4 4 0 0):=j 4 _ (by unfold eK;simp only[go_sem]);have q5:e 5=some (.int .i64 n):=j 5 _ (by unfold eK;simp only[go_sem]);have q6:e 6=some (.ptr o6 4 0 0):=j 6 _ (by unfold eK;simp only[go_sem]);have q7:e 7=some (.int .i64 left):=j 7 _ (by unfold eK;simp only[go_sem]);have q8:e 8=some (.int .i64 i):=j 8 _ (by unfold eK;simp only[go_sem]);have g6:=y.at 2 rfl;have U:=y.qA;have V:(1:Nat)*3≤16777216:=by decide
  simp only[go_sem,QX,q6,g6,R,U,V];refine y.append 2 (src:=[(jB l n i a).1.cells]) rfl rfl (mj Om) λI H2 W Z=>?_;rw[DO]at W Z;rw[rG]at Z;obtain⟨q,rfl⟩:=Z aW;have S:=W.at 2 rfl;simp only[go_sem,S,a4J,a4U,or_false,forall_eq];have h3:=W.set 2 rfl (ln w x (.osl q 3 0 (s.exit++[(jB l n i a).1]).length));refine hK _ _ _ (B++[(p,.rows 3 [(jB l n i a).1.cells])]) ?_ h3;unfold eK;exact Lq
 by_cases c:i+1<n
 ·have O:((i+1:Nat):Int)<(n:Nat):=Om;have Y:=AN l ha;simp only[go_sem,O,f0];refine eQ N.toHZ T (o:=o) (n:=3) (a:=(jP l a).2) aX Y rfl (A.at 0 rfl) ?_;have E:=A.set 0 rfl (bE v (aI l 3 (jP l a).2).2);by_cases c3:(aI l 3 (jP l a).2).1=0
  ·have he:jB l n i a=(nT,(aI l 3 (jP l a).2).2):=by unfold jB;simp only[aL c,c3,if_true]
   have U:=aN.qA (B:=wY o o4 o6 v w x M (aI l 3 (jP l a).2).2++B) E;simp only[go_sem,cA (show(((aI l 3 (jP l a).2).1:Nat):Int)=0 by omega),mq];refine aB (N.int 0 (by unfold eP;omega)) rfl ?_;simp only[go_sem,U];refine fin _ _ ?_ rfl ?_
   ·unfold eK;exact Lq
   ·rw[he];exact aN.wD (B:=wY o o4 o6 v w x M (aI l 3 (jP l a).2).2++B) E (.rows 3 [nT.cells])
  ·have he:jB l n i a=((jP l a).1,(aI l 3 (jP l a).2).2):=by unfold jB;simp only[aL c,c3,if_false]
   simp only[go_sem,bJ (show ¬(((aI l 3 (jP l a).2).1:Nat):Int)=0 by omega)];refine fin _ _ ?_ rfl ?_
   ·unfold eK;exact Lq
   ·rw[he];exact E
 ·have O:¬((i+1:Nat):Int)<(n:Nat):=Om;have he:jB l n i a=jP l a:=by unfold jB;simp only[aG c]
  simp only[go_sem,O];refine fin _ _ ?_ rfl ?_
  ·unfold eK;exact Lq
  ·rw[he];exact A
def aGL(l:List Nat)(v:PV)(o gZ a:Nat)(r:PV)(H:PH):Prop:=r=.agg (wK l gZ a).1.cells∧H=PH.nil.set o (bE v (wK l gZ a).2)
theorem aEN{l:List (List RF)}(h:Z' l≤1000):roomFor (AY l).length 1 24:=by
 unfold roomFor;simp only[a3V,maxLen];omega
theorem aEO(l:List (List RF))(x:List RF):AY l++[[frs x]]=AY (l++[x]):=by simp[AY]
theorem axH{C:Ctx}(Lb:yP C){l:List Nat}{v:PV}(T:Tp l v)(o o4 o6 n left i a:Nat)(ha:a≤Z' l)(hn:n≤100)(hi:i<n)(s:JP)(hs:Z' s.a2L=i)(y N I:PV)(B:List BX)(K:cP)(F:PF)(H:PH)
  (J:(eK o o4 o6 n left i).le F) (hH:aN H (wY o o4 o6 v y N I a++B) (BN s y N I))
  (hK:∀E A W H' B',(eK o o4 o6 n left i).le W→(∃q,A=.osl q 3 0 n)→aN H' (wY o o4 o6 v y E I (fG l i a n).2++B') [(y,3,kN s.start),(E,1,AY s.a2L++[[A]]),(I,3,kN s.exit),(A,3,kN (fG l i a n).1)]→K .normal W H') :
  aC.wp C (.seq (.region mr) (.seq (.seq (.region mu) (.block 2 (.loop QW))) (.region m5))) K F H:=by
 have f0:F 0=some (.ptr o 2 0 0):=J 0 _ (by unfold eK;simp only[go_sem]);have f4:F 4=some (.ptr o4 4 0 0):=J 4 _ (by unfold eK;simp only[go_sem]);have f5:F 5=some (.int .i64 n):=J 5 _ (by unfold eK;simp only[go_sem]);have f6:F 6=some (.ptr o6 4 0 0):=J 6 _ (by unfold eK;simp only[go_sem]);have f7:F 7=some (.int .i64 left):=J 7 _ (by unfold eK;simp only[go_sem]);have f8:F 8=some (.int .i64 i):=J 8 _ (by unfold eK;simp only[go_sem]);simp only[go_sem,mr,mu];refine aJH (C:=C) Lb T o o4 o6 n left i a ha hn hi ([(o4,T8),(o6,ln y N I)]++B) (BN s y N I) _ _ H ?_ hH ?_
 ·unfold jS
  (repeat' (first|exact c_|refine d_ ?_ ?_))<;>first|(simp only[go_sem,f0,f4,f5,f6,f7,f8]<;>rfl)|rfl
 intro w u H1 e x;have j:=qc l i a n;have hw:∃q,w=.osl q 3 0 n:=by
  rcases x.own (v:=w) 3 rfl with⟨M,_⟩|⟨q,rs,M,_⟩
  ·have:=congrArg List.length M;rw[rG,j]at this;simp at this;omega
  ·rw[rG,j]at M;exact⟨q,M⟩
 obtain⟨q,rfl⟩:=hw;have g0:u 0=some (.ptr o 2 0 0):=e 0 _ (by unfold jS;simp only[go_sem]);have g4:u 4=some (.ptr o4 4 0 0):=e 4 _ (by unfold jS;simp only[go_sem]);have g5:u 5=some (.int .i64 n):=e 5 _ (by unfold jS;simp only[go_sem]);have X:u 6=some (.ptr o6 4 0 0):=e 6 _ (by unfold jS;simp only[go_sem]);have g7:u 7=some (.int .i64 left):=e 7 _ (by unfold jS;simp only[go_sem]);have g8:u 8=some (.int .i64 i):=e 8 _ (by unfold jS;simp only[go_sem]);have R:u 13=some (.osl q 3 0 n):=e 13 _ (by unfold jS;simp only[go_sem]);have b6:=x.at 2 rfl;have S:(1:Nat)*1≤16777216:=by decide
 simp only[go_sem,m5,X,b6,R,S,a4J,a4U,or_false,forall_eq];refine x.append 1 (src:=[[.osl q 3 0 n]]) rfl Sq (aEN Om) λE H2 Y V=>?_;obtain⟨q2,rfl⟩:=V aW;have O:=Y.at 2 rfl;simp only[go_sem,O,a4J,a4U,or_false,forall_eq];have Z:=Y.set 2 rfl (ln y (.osl q2 1 0 (AY s.a2L++[[PV.osl q 3 0 n]]).length) I);have U:(AY s.a2L++[[(PV.osl q 3 0 n:PV)]]).length=Z' s.a2L+1:=by simp
 rw[U]at Z ⊢;refine hK (.osl q2 1 0 (Z' s.a2L+1)) (.osl q 3 0 n) _ _ B ?_ ⟨q,rfl⟩ Z;unfold eK
 (repeat' (first|exact c_|refine d_ ?_ ?_))<;>first|(simp only[go_sem,g0,g4,g5,X,g7,g8]<;>rfl)|rfl
theorem aPV{C:Ctx}(K:yP C){l:List Nat}{v:PV}(T:Tp l v)(o gZ a:Nat)(hm:0<gZ)(ε:gZ≤50)(ha:a≤Z' l):XM.wp C (aV aJG.res (aGL l v o gZ a)) (PF.args [.ptr o 2 0 0,.int .i64 gZ]) (PH.nil.set o (bE v a)):=by
 have h0:aN (PH.nil.set o (bE v a)) [(o,bE v a)] []:=aN.nil.new (H:=PH.nil) rfl (bE v a);simp only[go_sem,XM,amK,aJG];refine aQ λo4 γ=>?_;have J:=h0.new γ T8;simp only[go_sem,amL];refine eQ K.toHZ T (o:=o) (n:=gZ) (a:=a) Om ha Sq (J.at 0 rfl) ?_;have h2:=J.set 0 rfl (bE v (aI l gZ a).2);have hN:=dQ l hm a;have Z:=bZ l gZ ha;have e1:IntKind.i64.wrap (1+((aI l gZ a).1:Int))=((1+(aI l gZ a).1:Nat):Int):=by rw[wrap_i64 Om Om];omega
 have β:∀s:JP,s=kB l (1+(aI l gZ a).1) (aI l gZ a).2 (1+(aI l gZ a).1)→wK l gZ a=(⟨[],s.start,s.a2L,s.exit⟩,s.a):=λs hs=>by rw[hs];rfl
 have Y:∀r H,aGL l v o gZ a r H↔r=.agg (wK l gZ a).1.cells∧H=PH.nil.set o (bE v (wK l gZ a).2):=λ_ _=>Iff.rfl;generalize hn:1+(aI l gZ a).1=n at *
 generalize hb:(aI l gZ a).2=b at *
 have ζ:0<n:=Om;have e:n≤100:=Om;simp only[go_sem,e1,amM];refine aQ λo6 δ=>?_;have h3:=((h2.new δ T8).lW 3).lW 1;have h4:=h3.lW 3;simp only[go_sem,amN,amO];refine wp_loop (α:=Nat × PV × PV × PV × PH) (λt=>eK o o4 o6 n (kB l n b t.1).left t.1) (λt=>t.2.2.2.2)
  (λt=>t.1≤n∧aN t.2.2.2.2 (wY o o4 o6 v t.2.1 t.2.2.1 t.2.2.2.1 (kB l n b t.1).a) (BN (kB l n b t.1) t.2.1 t.2.2.1 t.2.2.2.1)) (λt=>n-t.1) (0,.aE,.aE,.aE,_) ⟨a4A _,h4⟩ ?_ b_ ?_
 ·unfold eK
  (repeat' (first|exact c_|refine d_ ?_ ?_))<;>first|(simp only[go_sem,kB]<;>rfl)|rfl
 rintro⟨i,w1,M,N,H0⟩ ⟨hi,F⟩;simp only at hi F ⊢;obtain⟨k1,k2,k3,k4,k5⟩:=Ch l n Z i;simp only[go_sem,Vx,amP,eK];by_cases hlt:i<n
 ·have B:(i:Int)<(n:Nat):=Om;have E:kB l n b (i+1)=⟨(kB l n b i).start++[mkT ((fE l n i (kB l n b i)).1:Nat) 8],(kB l n b i).exit++[(jB l n i (fE l n i (kB l n b i)).2).1],(kB l n b i).a2L++[(fG l i (jB l n i (fE l n i (kB l n b i)).2).2 n).1],(kB l n b i).left-(fE l n i (kB l n b i)).1,(fG l i (jB l n i (fE l n i (kB l n b i)).2).2 n).2⟩:=rfl;have kl:=l3 l n i (kB l n b i) k1;have ke:=Pk l n i kl.1;generalize hs:kB l n b i=s at *
  simp only[go_sem,B];refine aCJ (C:=C) K T o o4 o6 n i s k1 k2 e hlt [(o4,T8),(o6,ln w1 M N)] (BN s w1 M N) _ _ _ H0 (by unfold eK;exact Lq) F ?_;intro F1 H1 O f9 U;refine axI (C:=C) (l:=l) K o o4 o6 n i _ (fE l n i s).1 (fE l n i s).2 Om hlt e s k3 w1 M N [] _ _ F1 H1 O f9 U ?_;intro j F2 H2 B2 R V;refine aCI (C:=C) K T o o4 o6 n i _ (fE l n i s).2 kl.1 hlt e { s with start:=s.start++[mkT ((fE l n i s).1:Nat) 8] } k4 j M N B2 _ _ F2 H2 R V ?_;intro u F3 H3 B3 S W;refine axH (C:=C) K T o o4 o6 n _ i (jB l n i (fE l n i s).2).2 ke e hlt { s with start:=s.start++[mkT ((fE l n i s).1:Nat) 8],exit:=s.exit++[(jB l n i (fE l n i s).2).1] } k5 j M u B3 _ F3 H3 S W ?_;rintro A η I H4 B4 y ⟨q,rfl⟩ X;have g0:I 0=some (.ptr o 2 0 0):=y 0 _ (by unfold eK;simp only[go_sem]);have g4:I 4=some (.ptr o4 4 0 0):=y 4 _ (by unfold eK;simp only[go_sem]);have g5:I 5=some (.int .i64 n):=y 5 _ (by unfold eK;simp only[go_sem]);have g6:I 6=some (.ptr o6 4 0 0):=y 6 _ (by unfold eK;simp only[go_sem]);have g7:I 7=some (.int .i64 (s.left-(fE l n i s).1:Nat)):=y 7 _ (by unfold eK;simp only[go_sem]);have g8:I 8=some (.int .i64 i):=y 8 _ (by unfold eK;simp only[go_sem]);obtain⟨rs,z1,z2,z3,z4,z5⟩:=X.frz 3 rfl;have y1:=z4 0 _ aX rfl;have y2:=z4 1 _ aX rfl;have y3:=z4 2 _ aX rfl;simp only at y1 y2 y3;have y4:=T.frz q 3 rs;simp only[go_sem,V1,g8,wZz i];refine IQ (i+1,j,A,u,H4.frz q 3 rs) z1 ⟨hlt,?_⟩ (by simp only;omega) ?_ b_
  ·rw[E];have eB:(wY o o4 o6 v j A u (fG l i (jB l n i (fE l n i s).2).2 n).2).map (λb=>(b.1,b.2.frz q 3 rs))=wY o o4 o6 v j A u (fG l i (jB l n i (fE l n i s).2).2 n).2:=by simp only[a5D,a6L,cD.frz,y1,y2,y3,y4];rfl
   have eL:([(j,3,kN (s.start++[mkT ((fE l n i s).1:Nat) 8])),(A,1,AY s.a2L++[[.osl q 3 0 n]]),(u,3,kN (s.exit++[(jB l n i (fE l n i s).2).1]))]:List LI).map (λx=>(x.1,x.2.1,x.2.2.map λr=>r.map (PV.cT q 3 rs))) =
     BN ⟨s.start++[mkT ((fE l n i s).1:Nat) 8],s.exit++[(jB l n i (fE l n i s).2).1],s.a2L++[(fG l i (jB l n i (fE l n i s).2).2 n).1],s.left-(fE l n i s).1,(fG l i (jB l n i (fE l n i s).2).2 n).2⟩ j A u:=by
    have e2:(AY s.a2L++[[PV.osl q 3 0 n]]).map (λr=>r.map (PV.cT q 3 rs))=AY (s.a2L++[(fG l i (jB l n i (fE l n i s).2).2 n).1]):=by rw[a5L,Kc,a5D,a6L,a5D,a6L,z2,aEO]
    show([(j,3,(kN (s.start++[mkT ((fE l n i s).1:Nat) 8])).map (λr=>r.map (PV.cT q 3 rs))),(A,1,(AY s.a2L++[[PV.osl q 3 0 n]]).map (λr=>r.map (PV.cT q 3 rs))),(u,3,(kN (s.exit++[(jB l n i (fE l n i s).2).1])).map (λr=>r.map (PV.cT q 3 rs)))]:List LI)=_;rw[OZ,e2,OZ]
   rw[←eB,←eL];exact z5.sub (by rw[a5L];exact a7W ..) (a6B.refl _)
  ·rw[E]
   (repeat' (first|exact c_|refine d_ ?_ ?_))<;>first|(simp only[go_sem,g0,g4,g5,g6,g7,g8]<;>rfl)|rfl
 ·have B:¬(i:Int)<(n:Nat):=Om;have:i=n:=Om;subst this;simp only[go_sem,B,V2];have b4:=F.at 1 rfl;have b6:=F.at 2 rfl;have osl:∀{w:PV}{z:Nat}{rows:List (List PV)},Z' rows=i→cZ H0 z w rows→∃q,w=.osl q z 0 i:=by
   intro w z rows hr hO;rcases hO with⟨J,_⟩|⟨q,rs,J,_⟩
   ·rw[J]at hr;simp at hr;omega
   ·exact⟨q,by rw[J,hr]⟩
  obtain⟨q1,rfl⟩:=osl (by rw[rG,k3]) (F.own 0 rfl);obtain⟨q2,rfl⟩:=osl (by rw[a3V,k5]) (F.own 1 rfl);obtain⟨q3,rfl⟩:=osl (by rw[rG,k4]) (F.own 2 rfl);have hR:=β (kB l i b i) rfl;simp only[go_sem,b6,b4,a4J,a4U,or_false,forall_eq,forall_eq_or_imp];have x1:=F.set 1 rfl (ln (.osl q1 3 0 i) (.osl q2 1 0 i) (.osl q3 3 0 i));obtain⟨r1,s1,s2,s3,s4,s5⟩:=x1.frz 0 rfl;have u2:=s4 1 _ aX rfl;have u3:=s4 2 _ aX rfl;simp only at u2 u3;have u4:=T.frz q1 3 r1;obtain⟨r2,t1,t2,t3,t4,t5⟩:=s5.frz 0 rfl;have m3:=t4 1 _ aX rfl;simp only at m3;have m4:=T.frz q2 1 r2;obtain⟨r3,n1,n2,n3,n4,n5⟩:=t5.frz 0 rfl;have n4:=T.frz q3 3 r3;refine oA (vs:=[.agg [.str [],.osl q1 3 0 i,.osl q2 1 0 i,.osl q3 3 0 i]]) (.inr rfl) ?_ (.step s1 (.step t1 (.step n1 (.done (H2:=PH.nil.set o (bE v (kB l i b i).a)) ?_ (e_ a_ ?_)))))
  ·simp only[go_sem]
  ·rw[Y,hR];refine⟨?_,rfl⟩;simp only[cE,PV.frz,PV.uO,a5D,a6L,s2,u2,u3,t2,m3,n2];simp only[PV.cT,OZ _ _ _ _,Kc _ _ _ _]
  ·have:=n5.at 0 rfl;rw[this];simp only[cD.frz,a5D,a6L,u4,m4,n4];rfl
structure sB(C:Ctx):Prop extends yP C where
 law:∀(l:List Nat)(v:PV),Tp l v→∀(o gZ a:Nat),0<gZ→gZ≤50→a≤Z' l→aJ C 2 [.ptr o 2 0 0,.int .i64 gZ] (PH.nil.set o (bE v a)) (aGL l v o gZ a)
structure GOk(l:List Nat)(a2G:Nat)(s:GS):Prop where
 a2Q:Z' s.a2Q≤35
 a3A:Z' s.a3A≤a2G
 a:s.a≤Z' l
theorem kp{l:List Nat}{mc a2G dom:Nat}{s:GS}(h:GOk l a2G s):∀i,GOk l a2G (nO l mc a2G dom s i)∧(nO l mc a2G dom s i).a2Q=s.a2Q
 |0=>⟨h,rfl⟩
 |i+1=>by
  obtain⟨⟨e,w,j⟩,u⟩:=kp (mc:=mc) (dom:=dom) h i;simp only[nO];split
  ·exact⟨⟨e,by simp only[a3Z,a4E];omega,bZ l mc j⟩,u⟩
  ·exact⟨⟨e,w,j⟩,u⟩
theorem ahP{l:List Nat}{level dom a2G:Nat}{s:GS}(h:GOk l a2G s)(e:vK a2G s=false):GOk l a2G (sE l level dom s)∧∃x:dM,(sE l level dom s).a2Q=s.a2Q++[x]∧x.level=(level:Int)∧x.parent=(dom:Int):=by
 obtain⟨w,j,u⟩:=h;unfold vK at e;rw[Bool.or_eq_false_iff]at e;have y:=of_decide_eq_false e.2;refine⟨⟨?_,j,?_⟩,_,rfl,rfl,rfl⟩
 ·simp only[sE,a3Z,a4E];omega
 ·have a1:=bZ l 3 (bZ l 16 u);simp only[sE];split
  ·exact bZ l 6 a1
  ·exact a1
theorem kq{l:List Nat}{level a2G dom:Nat}{rec:Nat→GS→GS}(e:∀d t,GOk l a2G t→GOk l a2G (rec d t)∧∃u,(rec d t).a2Q=t.a2Q++u){s:GS}(h:GOk l a2G s) :
  ∀i,GOk l a2G (kR l level a2G dom rec s i)∧∃u,(kR l level a2G dom rec s i).a2Q=s.a2Q++u
 |0=>⟨h,[],by simp[kR]⟩
 |i+1=>by
  obtain⟨j,u,w⟩:=kq e h i;simp only[kR];split
  ·exact⟨j,u,w⟩
  ·rename_i y;obtain⟨g1,x,g2,-⟩:=ahP (level:=level) (dom:=dom) j (by simpa using y);obtain⟨k1,A,k2⟩:=e ((sE l level dom (kR l level a2G dom rec s i)).a2Q.length-1) _ g1;exact⟨k1,u++[x]++A,by rw[k2,g2,w];simp⟩
theorem PN{l:List Nat}{mc a2G:Nat}:∀(k dom:Nat){s:GS},GOk l a2G s→GOk l a2G (iJ l mc a2G k dom s)∧∃u,(iJ l mc a2G k dom s).a2Q=s.a2Q++u
 |0,dom,s,h=>by have e:GOk l a2G { s with a:=(aI l 2 s.a).2 }:=⟨h.a2Q,h.a3A,bZ l 2 h.a⟩;obtain⟨j,w⟩:=kp (mc:=mc) (dom:=dom) e (1+(aI l 2 s.a).1);exact⟨j,[],by simp only[iJ];rw[w];simp⟩
 |k+1,dom,s,h=>by have e:GOk l a2G { s with a:=(aI l 2 s.a).2 }:=⟨h.a2Q,h.a3A,bZ l 2 h.a⟩;exact kq (level:=4-k) (dom:=dom) (λd t x=>PN k d x) e (if 4-k=2 then 1 else 1+(aI l 2 s.a).1)
theorem awL {l : List Nat} {level a2G dom : Nat} {rec : Nat → GS → GS} {s : GS} {i : Nat} (h : vK a2G (kR l level a2G dom rec s i) = true) : ∀ n, i ≤ n → kR l level a2G dom rec s n = kR l level a2G dom rec s i := by
  intro n hn
  induction n with
  | zero => have : i = 0 := Om
            subst this; rfl
  | succ n ih =>
    rcases a4R n i with h' | h'
    · have : i = n + 1 := Om
      subst this; rfl
    · have e := ih h'
      simp only [kR];rw [e, aL h]
def mkS(l:List Nat)(v:PV):Spec:=λname vs=>match name,vs with
 |29,[.str s,.int _ i]=>some ([],λ_=>aK (.str (s++dC i.toNat)))
 |47,[.int _ n]=>some ([],λ_=>aK (.agg (mkT n 1).cells))
 |4,[.ptr o _ _ _,.int _ n]=>some ([o],λH0 r H'=>∀a,H0 o=some (bE v a)→cb l v o n.toNat a r H')
 |_,_=>none
section
variable {C:Ctx} {F:PF} {H Hs:PH} {l:List Nat} {v:PV} {o a:Nat}
theorem xG(u:HZ C)(T:Tp l v){n:Nat}{st:Bool}{args:List aR}{d:Option Nat}{K:PF→PH→Prop}(B:n≤1000000)(w:a≤Z' l)(e:aR.evs F args=some [.ptr o 2 0 0,.int .i64 n])(E:H o=some (bE v a))
  (j:Hs.le (H.set o (bE v (aI l n a).2))) (A:K (F.put d (.int .i64 ((aI l n a).1:Nat))) (H.set o (bE v (aI l n a).2))):dOp C Hs (mkS l v) st (.call 4 args) d K F H:=by
 refine O8 (x:=bE v a) (y:=bE v (aI l n a).2) (r:=.int .i64 ((aI l n a).1:Nat)) (R:=λH0 r H'=>∀a,H0 o=some (bE v a)→cb l v o n a r H') rfl E (u.next l v T o n a B w) ?_ ?_ e j A
 ·intro b hb;rw[bT]at hb;injection hb with hb
  injection hb with _ hb
  injection hb with hb _
  injection hb with _ hb
  injection hb with hb _
  injection hb with _ hb
  have:a=b:=Om;subst this;exact⟨rfl,rfl⟩
 ·intro J H' I;exact I a (by rw[bT])
theorem OJ(u:yP C){s:List UInt8}{n:Nat}{st:Bool}{args:List aR}{d:Option Nat}{K:PF→PH→Prop}(y:Z' s≤100)(x:n<100)(e:aR.evs F args=some [.str s,.int .i64 n])(j:Hs.le H)(w:K (F.put d (.str (s++dC n))) H) :
  dOp C Hs (mkS l v) st (.call 29 args) d K F H:=
 cS (v:=.str (s++dC n)) rfl (u.name s n y x) e j w
theorem aOD(u:HZ C){n:Int}{st:Bool}{args:List aR}{d:Option Nat}{K:PF→PH→Prop}(x:eP n)(e:aR.evs F args=some [.int .i64 n])(j:Hs.le H)(w:K (F.put d (.agg (mkT n 1).cells)) H) :
  dOp C Hs (mkS l v) st (.call 47 args) d K F H:=
 cS (v:=.agg (mkT n 1).cells) rfl (u.int n x) e j w
end
theorem cZ.zA{H:PH}{s:Nat}{v:PV}{rows:List (List PV)}(h:cZ H s v rows):PV.zA v=some (.int .i64 (Z' rows:Nat)):=by
 rcases h with⟨rfl,rfl⟩|⟨q,rs,rfl,_⟩<;>rfl
abbrev oH(l:List dM):List (List PV):=l.map dM.cells
abbrev rF(l:List eS):List (List PV):=l.map eS.cells
abbrev flB(ext wl j e l wp wv:PV):cD:=.rows 7 [[ext,wl,j,e,l,wp,wv]]
structure GE where
 o:Nat
 fo:Nat
 qm:Nat
 ext:PV
 wl:PV
 wp:PV
 wv:PV
abbrev GE.boxes(G:GE)(v:PV)(mc:Nat)(e j:PV)(a:Nat):List BX:=[(G.o,bE v a),(G.fo,flB G.ext G.wl (.osl G.qm 4 0 mc) e j G.wp G.wv)]
abbrev qP(s:GS)(e j:PV):List LI:=[(e,7,oH s.a2Q),(j,3,rF s.a3A)]
def jC(G:GE)(dom a2G level n i:Nat):PF:=(((((((PF.nil.set 0 (.ptr G.o 2 0 0)).set 1 (.ptr G.fo 7 0 0)).set 2 (.int .i64 dom)).set 3 (.int .i64 a2G)).set 8 (.int .i64 level)).set 9 (.int .i64 n)).set 10 (.int .i64 i))
theorem cZ.one{H:PH}{s:Nat}{v:PV}{rows:List (List PV)}(h:cZ H s v rows)(e:0<Z' rows):∃q,v=.osl q s 0 rows.length:=by
 rcases h with⟨rfl,_⟩|⟨q,rs,rfl,_⟩
 ·simp at e
 ·exact⟨q,rfl⟩
theorem Vh{C:Ctx}(S:sB C){l:List Nat}{v:PV}(T:Tp l v)(G:GE)(mc a2G dom n:Nat)(γ:0<mc)(Z:mc≤1000)(β:a2G≤60)(hn:n≤10)(s:GS)(hs:GOk l a2G s)(w y:PV)(K:cP)(F:PF)(H:PH)
  (hF:(jC G dom a2G 5 n 0).le F) (x:aN H (G.boxes v mc w y s.a) (qP s w y))
  (hK:∀J B F' H',aN H' (G.boxes v mc J B (nO l mc a2G dom s n).a) (qP (nO l mc a2G dom s n) J B)→K (.exit 0) F' H') :
  aC.wp C (.loop CL) K F H:=by
 refine wp_loop (α:=Nat × PV × PV × PH) (λt=>jC G dom a2G 5 n t.1) (λt=>t.2.2.2) (λt=>t.1≤n∧aN t.2.2.2 (G.boxes v mc t.2.1 t.2.2.1 (nO l mc a2G dom s t.1).a) (qP (nO l mc a2G dom s t.1) t.2.1 t.2.2.1)) (λt=>n-t.1) (0,w,y,H) ⟨a4A _,x⟩ hF b_ ?_;rintro⟨i,w,y,H0⟩ ⟨hi,x⟩;simp only at hi x ⊢;obtain⟨O,-⟩:=kp (mc:=mc) (dom:=dom) hs i;have j:nO l mc a2G dom s (i+1)=(if(nO l mc a2G dom s i).a3A.length<a2G then{ nO l mc a2G dom s i with a3A:=(nO l mc a2G dom s i).a3A++[⟨[100]++dC (nO l mc a2G dom s i).a3A.length,((aI l mc (nO l mc a2G dom s i).a).1:Nat),(dom:Nat)⟩],a:=(aI l mc (nO l mc a2G dom s i).a).2 }else nO l mc a2G dom s i):=rfl;simp only[go_sem,CL,mg,jC];by_cases hlt:i<n
 ·have u:(i:Int)<(n:Nat):=Om;generalize hg:nO l mc a2G dom s i=g at *
  have M:=x.at 1 rfl;have R:=(x.own 1 rfl).zA;rw[a3V]at R;have V:=wZz i;simp only[go_sem,u,mh,show(((5:Nat):Int)==5)=true from rfl,Vn,M,R];by_cases Y:Z' g.a3A<a2G
  ·have A:(Z' g.a3A:Int)<(a2G:Nat):=Om;rw[aL Y]at j;simp only[go_sem,A];have I:(PH.nil.set G.fo (flB G.ext G.wl (.osl G.qm 4 0 mc) w y G.wp G.wv)).le H0:=e_ a_ M;refine aZ (PH.nil.set G.fo (flB G.ext G.wl (.osl G.qm 4 0 mc) w y G.wp G.wv)) (mkS l v) I ?_;simp only[go_sem,Vo,M,R];refine OJ S.toyP (s:=[100]) (n:=Z' g.a3A) aX (by have:=O.a3A;omega) rfl I ?_;simp only[go_sem];have ho:=x.at 0 rfl;have W:=x.set 0 rfl (bE v (aI l mc g.a).2);have N:=W.at 1 rfl;refine xG S.toHZ T (o:=G.o) (n:=mc) (a:=g.a) Om O.a rfl ho (e_ a_ N) ?_;have E:(1:Nat)*3≤16777216:=by decide
   simp only[go_sem,E,a4J,a4U,or_false,forall_eq,forall_eq_or_imp];refine W.append 1 (src:=[(⟨[100]++dC g.a3A.length,((aI l mc g.a).1:Nat),(dom:Nat)⟩:eS).cells]) rfl rfl (by unfold roomFor;rw[a3V];have:=O.a3A;simp only[a4E,maxLen];omega) λB H2 X hw=>?_;obtain⟨q,rfl⟩:=hw aW;have U:=X.at 1 rfl;refine⟨e_ a_ U,?_⟩;refine aZ .nil cI a_ ?_;simp only[go_sem,Vp,U,a4J,a4U,or_false,forall_eq];have h3:=X.set 1 rfl (flB G.ext G.wl (.osl G.qm 4 0 mc) w (.osl q 3 0 (rF g.a3A++[(⟨[100]++dC g.a3A.length,((aI l mc g.a).1:Nat),(dom:Nat)⟩:eS).cells]).length) G.wp G.wv);refine⟨a_,?_⟩;simp only[go_sem,CM,V];refine aH (i+1,w,.osl q 3 0 (rF g.a3A++[(⟨[100]++dC g.a3A.length,((aI l mc g.a).1:Nat),(dom:Nat)⟩:eS).cells]).length,_) ⟨hlt,?_⟩ (by simp only;omega) ?_ b_
   ·rw[j];have e:rF (g.a3A++[(⟨[100]++dC g.a3A.length,((aI l mc g.a).1:Nat),(dom:Nat)⟩:eS)])=rF g.a3A++[(⟨[100]++dC g.a3A.length,((aI l mc g.a).1:Nat),(dom:Nat)⟩:eS).cells]:=by simp[rF]
    unfold qP;simp only;rw[e];exact h3
   ·exact Lq
  ·have A:¬(Z' g.a3A:Int)<(a2G:Nat):=Om;rw[aG Y]at j;simp only[go_sem,A,CM,V];refine aH (i+1,w,y,H0) ⟨hlt,by rw[j];exact x⟩ (by simp only;omega) ?_ b_;exact Lq
 ·have u:¬(i:Int)<(n:Nat):=Om;have:i=n:=Om;subst this;simp only[go_sem,u];exact hK w y _ _ x
def auP(G:GE)(v:PV)(mc:Nat)(s':GS)(r:PV)(B':List BX)(L':List LI):Prop:=r=.tup []∧∃e j,B'=G.boxes v mc e j s'.a∧L'=qP s' e j
def rz(C:Ctx)(l:List Nat)(v:PV)(mc a2G k:Nat):Prop:=
 ∀(G:GE)(e j:PV)(s:GS)(dom:Nat)(x:dM),GOk l a2G s→s.a2Q[dom]?=some x→x.level=4-(k:Int)→∀H0,aN H0 (G.boxes v mc e j s.a) (qP s e j) →
  aJ C 7 [.ptr G.o 2 0 0,.ptr G.fo 7 0 0,.int .i64 dom,.int .i64 a2G] H0 (λr H'=>∃B' L',auP G v mc (iJ l mc a2G k dom s) r B' L'∧aN H' B' L')
theorem aCC{e:Nat}(h:e≤4):([45,115,114,107,109]:List UInt8)[e]?=some (pV e):=by
 match e,h with
 |0,_=>rfl
 |1,_=>rfl
 |2,_=>rfl
 |3,_=>rfl
 |4,_=>rfl
theorem fw{C:Ctx}{l:List Nat}{v:PV}(G:GE)(mc a2G dom A n i k p:Nat)(γ:A=4-k)(hk:k<4)(y:rz C l v mc a2G k)(g:GS)(x:dM)(a:Nat)(W:GOk l a2G { g with a2Q:=g.a2Q++[x],a:=a })(hx:x.level=(A:Nat))(X w:PV)(β:a2G≤60)(K:cP)(F:PF)(H:PH)
  (j:(jC G dom a2G A n i).le F) (f11:F 11=some (.ptr p 7 0 0)) (J:aN H (G.boxes v mc X w a++[(p,.rows 7 [x.cells])]) (qP g X w))
  (hK:∀u B U H',(jC G dom a2G A n i).le U→aN H' (G.boxes v mc u B (iJ l mc a2G k g.a2Q.length { g with a2Q:=g.a2Q++[x],a:=a }).a) (qP (iJ l mc a2G k g.a2Q.length { g with a2Q:=g.a2Q++[x],a:=a }) u B)→K .normal U H') :
  aC.wp C (.draw XK) (kT C (aC.wp C (.region XL)) K) F H:=by
 have f0:F 0=some (.ptr G.o 2 0 0):=j 0 _ (by unfold jC;simp only[go_sem]);have f1:F 1=some (.ptr G.fo 7 0 0):=j 1 _ (by unfold jC;simp only[go_sem]);have f2:F 2=some (.int .i64 dom):=j 2 _ (by unfold jC;simp only[go_sem]);have f3:F 3=some (.int .i64 a2G):=j 3 _ (by unfold jC;simp only[go_sem]);have f8:F 8=some (.int .i64 A):=j 8 _ (by unfold jC;simp only[go_sem]);have f9:F 9=some (.int .i64 n):=j 9 _ (by unfold jC;simp only[go_sem]);have α:F 10=some (.int .i64 i):=j 10 _ (by unfold jC;simp only[go_sem]);have O:=W.a2Q;simp only[a3Z,a4E]at O;have Y:=J.at 1 rfl;have Z:=J.at 2 rfl;have E:(1:Nat)*7≤16777216:=by decide
 refine aZ .nil cI a_ ?_;simp only[go_sem,XK,f1,f11,Y,Z,E,a4J,a4U,or_false,forall_eq,forall_eq_or_imp];refine J.append 0 (src:=[x.cells]) rfl rfl (by unfold roomFor;rw[a3V];simp only[a4E,maxLen];omega) λu H2 I hw=>?_;obtain⟨q,rfl⟩:=hw aW;have hl:(oH g.a2Q++[x.cells]).length=Z' g.a2Q+1:=by simp
 rw[hl]at I ⊢;have c1:=I.at 1 rfl;refine⟨a_,?_⟩;simp only[go_sem,c1,a4J,a4U,or_false,forall_eq];have V:=I.set 1 rfl (flB G.ext G.wl (.osl G.qm 4 0 mc) (.osl q 7 0 (Z' g.a2Q+1)) w G.wp G.wv);have c2:=V.at 1 rfl;refine⟨a_,?_⟩;have e:oH (g.a2Q++[x])=oH g.a2Q++[x.cells]:=by simp[oH]
 have ew:IntKind.i64.wrap (((Z' g.a2Q+1:Nat):Int)-1)=(Z' g.a2Q:Int):=by rw[wrap_i64 Om Om];omega
 simp only[go_sem,XL,f0,f1,f3,ew];have h4:aN (H2.set G.fo (flB G.ext G.wl (.osl G.qm 4 0 mc) (.osl q 7 0 (Z' g.a2Q+1)) w G.wp G.wv)) (G.boxes v mc (.osl q 7 0 (Z' g.a2Q+1)) w a++[(p,.rows 7 [x.cells])]) (qP { g with a2Q:=g.a2Q++[x],a:=a } (.osl q 7 0 (Z' g.a2Q+1)) w++[]):=by unfold qP;simp only;rw[e];exact V
 refine MS h4 (λH0 N=>y G _ w { g with a2Q:=g.a2Q++[x],a:=a } g.a2Q.length x W aW (by rw[hx];omega) H0 N) rfl ?_;rintro r B' L' H' ⟨rfl,R,S,rfl,rfl⟩ M;refine hK R S _ _ ?_ (M.sub (a7W ..) (by rw[a5O];exact a6B.refl _));unfold jC;exact Lq
theorem VG{C:Ctx}(V:sB C){l:List Nat}{v:PV}(T:Tp l v)(G:GE)(mc a2G dom n k:Nat)(hk:k<4)(X:a2G≤60)(hn:n≤10)(R:rz C l v mc a2G k)(s:GS)(hs:GOk l a2G s)(ζ:0<Z' s.a2Q)(N O:PV)(K:cP)(F:PF)(H:PH)
  (hF:(jC G dom a2G (4-k) n 0).le F) (E:aN H (G.boxes v mc N O s.a) (qP s N O))
  (hK:∀e A B y H',(e=.exit 0∨e=.ret)→aN H' (G.boxes v mc A B (kR l (4-k) a2G dom (iJ l mc a2G k) s n).a) (qP (kR l (4-k) a2G dom (iJ l mc a2G k) s n) A B)→K e y H') :
  aC.wp C (.loop CL) K F H:=by
 obtain⟨j,U⟩:∃j,j=4-k:=⟨_,rfl⟩;rw[←U]at hF hK;refine wp_loop (α:=Nat × PV × PV × PH) (λt=>jC G dom a2G j n t.1) (λt=>t.2.2.2) (λt=>t.1≤n∧aN t.2.2.2 (G.boxes v mc t.2.1 t.2.2.1 (kR l j a2G dom (iJ l mc a2G k) s t.1).a) (qP (kR l j a2G dom (iJ l mc a2G k) s t.1) t.2.1 t.2.2.1)) (λt=>n-t.1) (0,N,O,H) ⟨a4A _,E⟩ hF b_ ?_;rintro⟨i,N,O,H0⟩ ⟨hi,E⟩;simp only at hi E ⊢;obtain⟨Z,u,gu⟩:=kq (level:=j) (dom:=dom) (λd t ht=>PN (mc:=mc) k d ht) hs i;have J:=λh=>awL (l:=l) (level:=j) (a2G:=a2G) (dom:=dom) (rec:=iJ l mc a2G k) (s:=s) (i:=i) h n hi;have x:kR l j a2G dom (iJ l mc a2G k) s (i+1)=(if vK a2G (kR l j a2G dom (iJ l mc a2G k) s i)then kR l j a2G dom (iJ l mc a2G k) s i else iJ l mc a2G k ((sE l j dom (kR l j a2G dom (iJ l mc a2G k) s i)).a2Q.length-1) (sE l j dom (kR l j a2G dom (iJ l mc a2G k) s i))):=rfl;simp only[go_sem,CL,mg,jC];by_cases hlt:i<n
 ·have M:(i:Int)<(n:Nat):=Om;generalize hg:kR l j a2G dom (iJ l mc a2G k) s i=g at *
  have ε:0<Z' g.a2Q:=by rw[gu,a3Z];omega
  have b1:=E.at 1 rfl;have lr:=(E.own 1 rfl).zA;have ld:=(E.own 0 rfl).zA;rw[a3V]at lr ld;have ei:=wZz i;simp only[go_sem,M,mh,bJ (Om:((j:Nat):Int)≠5),Gs,b1,lr];by_cases c1:a2G≤Z' g.a3A
  ·have W:vK a2G g=true:=by unfold vK;simp[c1]
   simp only[go_sem,show(Z' g.a3A:Int)≥(a2G:Nat) by omega];exact hK _ N O _ _ (.inr rfl) (by rw[J W];exact E)
  simp only[go_sem,show ¬(Z' g.a3A:Int)≥(a2G:Nat) by omega,b1,ld];by_cases c2:35≤Z' g.a2Q
  ·have W:vK a2G g=true:=by unfold vK;simp[c2]
   simp only[go_sem,show(Z' g.a2Q:Int)≥35 by omega];exact hK _ N O _ _ (.inr rfl) (by rw[J W];exact E)
  have W:vK a2G g=false:=by unfold vK;simp[c1,c2]
  rw[aG (by rw[W];decide)]at x;simp only[go_sem,show ¬(Z' g.a2Q:Int)≥35 by omega];have ls:=aCC (Om:j≤4);refine aZ .nil (mkS l v) a_ ?_;have γ:uK [[PV.int IntKind.u8 (((pV j).toNat:Nat):Int)]]=some [pV j]:=by simp[uK]
  obtain⟨Y,x0,β,-⟩:=ahP (level:=j) (dom:=dom) Z W;have δ:(sE l j dom g).a2Q.length-1=Z' g.a2Q:=by rw[β];simp
  rw[δ]at x;have h1:=E.set 0 rfl (bE v (aI l 16 g.a).2);have a1:=bZ l 16 Z.a;have n1:=dQ l (show 0<16 by decide) g.a;have e1:IntKind.i64.wrap (1+((aI l 16 g.a).1:Int))=((1+(aI l 16 g.a).1:Nat):Int):=by rw[wrap_i64 Om Om];omega
  simp only[go_sem,Gt,ls,γ,b1,ld];refine OJ V.toyP (s:=[pV j]) (n:=Z' g.a2Q) aW (by have:=Z.a2Q;omega) rfl a_ ?_;simp only[go_sem];refine xG V.toHZ T (o:=G.o) (n:=16) (a:=g.a) Om Z.a rfl (E.at 0 rfl) a_ ?_;simp only[go_sem,e1];refine aOD V.toHZ (n:=0) (by unfold eP;omega) rfl a_ ?_;simp only[go_sem,a4J,a4U,or_false,forall_eq,forall_eq_or_imp];refine aQ λp hp=>?_;have h2:=h1.new hp (.rows 7 [(⟨[pV j]++dC g.a2Q.length,(j:Nat),(dom:Nat),(1+(aI l 16 g.a).1:Nat),nT⟩:dM).cells]);simp only[go_sem,a4J,a4U,or_false,forall_eq,forall_eq_or_imp];refine⟨a_,?_⟩;simp only[go_sem,Gu];refine eQ V.toHZ T (o:=G.o) (n:=3) (a:=(aI l 16 g.a).2) aX a1 rfl (h2.at 0 rfl) ?_;have h3:=h2.set 0 rfl (bE v (aI l 3 (aI l 16 g.a).2).2);have a2:=bZ l 3 a1;by_cases c3:(aI l 3 (aI l 16 g.a).2).1=0
  ·have hd:sE l j dom g={ g with a2Q:=g.a2Q++[⟨[pV j]++dC g.a2Q.length,(j:Nat),(dom:Nat),(1+(aI l 16 g.a).1:Nat),mkT 1 ((2+(aI l 6 (aI l 3 (aI l 16 g.a).2).2).1:Nat):Int)⟩],a:=(aI l 6 (aI l 3 (aI l 16 g.a).2).2).2 }:=by unfold sE;simp only[c3,if_true]
   rw[hd]at x Y;have n2:=dQ l (show 0<6 by decide) (aI l 3 (aI l 16 g.a).2).2;have e2:IntKind.i64.wrap (2+((aI l 6 (aI l 3 (aI l 16 g.a).2).2).1:Int))=((2+(aI l 6 (aI l 3 (aI l 16 g.a).2).2).1:Nat):Int):=by rw[wrap_i64 Om Om];omega
   simp only[go_sem,cA (show(((aI l 3 (aI l 16 g.a).2).1:Nat):Int)=0 by omega),Gv];refine eQ V.toHZ T (o:=G.o) (n:=6) (a:=(aI l 3 (aI l 16 g.a).2).2) aX a2 rfl (h3.at 0 rfl) ?_;have h4:=h3.set 0 rfl (bE v (aI l 6 (aI l 3 (aI l 16 g.a).2).2).2);rw[PH.set_set]at h4;simp only[go_sem,e2];refine aB (V.fmk 1 ((2+(aI l 6 (aI l 3 (aI l 16 g.a).2).2).1:Nat):Int) (by unfold eP;omega) (by unfold eP;omega)) rfl ?_;unfold CS;rw[aG Om];simp only[go_sem,show ¬p=G.o from h4.ne 2 0 rfl rfl aX];have h5:=h4.set 2 rfl (.rows 7 [(⟨[pV j]++dC g.a2Q.length,(j:Nat),(dom:Nat),(1+(aI l 16 g.a).1:Nat),mkT 1 ((2+(aI l 6 (aI l 3 (aI l 16 g.a).2).2).1:Nat):Int)⟩:dM).cells])
   try simp only[Ec]
   refine fw G mc a2G dom j n i k p U hk R g _ _ Y rfl N O X _ _ _ (by unfold jC;exact Lq) rfl h5 ?_;intro A B y H' w I;rw[←x]at I;have S:y 10=some (.int .i64 i):=w 10 _ (by unfold jC;simp only[go_sem]);have g0:y 0=some (.ptr G.o 2 0 0):=w 0 _ (by unfold jC;simp only[go_sem]);have g1:y 1=some (.ptr G.fo 7 0 0):=w 1 _ (by unfold jC;simp only[go_sem]);have g2:y 2=some (.int .i64 dom):=w 2 _ (by unfold jC;simp only[go_sem]);have g3:y 3=some (.int .i64 a2G):=w 3 _ (by unfold jC;simp only[go_sem]);have g8:y 8=some (.int .i64 j):=w 8 _ (by unfold jC;simp only[go_sem]);have g9:y 9=some (.int .i64 n):=w 9 _ (by unfold jC;simp only[go_sem]);simp only[go_sem,CM,S,ei];refine aH (i+1,A,B,H') ⟨hlt,I⟩ (by simp only;omega) ?_ b_;exact Lq
  ·have hd:sE l j dom g={ g with a2Q:=g.a2Q++[⟨[pV j]++dC g.a2Q.length,(j:Nat),(dom:Nat),(1+(aI l 16 g.a).1:Nat),nT⟩],a:=(aI l 3 (aI l 16 g.a).2).2 }:=by unfold sE;simp only[c3,if_false]
   rw[hd]at x Y;simp only[go_sem,bJ (show ¬(((aI l 3 (aI l 16 g.a).2).1:Nat):Int)=0 by omega)]
   try simp only[Ec]
   refine fw G mc a2G dom j n i k p U hk R g _ _ Y rfl N O X _ _ _ (by unfold jC;exact Lq) rfl h3 ?_;intro A B y H' w I;rw[←x]at I;have S:y 10=some (.int .i64 i):=w 10 _ (by unfold jC;simp only[go_sem]);have g0:y 0=some (.ptr G.o 2 0 0):=w 0 _ (by unfold jC;simp only[go_sem]);have g1:y 1=some (.ptr G.fo 7 0 0):=w 1 _ (by unfold jC;simp only[go_sem]);have g2:y 2=some (.int .i64 dom):=w 2 _ (by unfold jC;simp only[go_sem]);have g3:y 3=some (.int .i64 a2G):=w 3 _ (by unfold jC;simp only[go_sem]);have g8:y 8=some (.int .i64 j):=w 8 _ (by unfold jC;simp only[go_sem]);have g9:y 9=some (.int .i64 n):=w 9 _ (by unfold jC;simp only[go_sem]);simp only[go_sem,CM,S,ei];refine aH (i+1,A,B,H') ⟨hlt,I⟩ (by simp only;omega) ?_ b_;exact Lq
 ·have M:¬(i:Int)<(n:Nat):=Om;have:i=n:=Om;subst this;simp only[go_sem,M];exact hK _ N O _ _ (.inl rfl) E
theorem Vi{C:Ctx}(O:sB C){l:List Nat}{v:PV}(T:Tp l v)(mc a2G k:Nat)(U:0<mc)(J:mc≤1000)(E:a2G≤60)(hk:k≤4)(M:∀Z,k=Z+1→rz C l v mc a2G Z)(G:GE)(W N:PV)(s:GS)(dom:Nat)(x:dM)
  (R:GOk l a2G s) (Y:s.a2Q[dom]?=some x) (hl:x.level=4-(k:Int)) (H0:PH) (I:aN H0 (G.boxes v mc W N s.a) (qP s W N)) :
  EB.wp C (aV Nx.res (λr H'=>∃B' L',auP G v mc (iJ l mc a2G k dom s) r B' L'∧aN H' B' L')) (PF.args [.ptr G.o 2 0 0,.ptr G.fo 7 0 0,.int .i64 dom,.int .i64 a2G]) H0:=by
 have B:dom<Z' s.a2Q:=(a5A.1 Y).1;have b1:=I.at 1 rfl;have fin:∀(e:nN)(j u:PV)(y:PF)(H':PH),(e=.exit 0∨e=.ret)→aN H' (G.boxes v mc j u (iJ l mc a2G k dom s).a) (qP (iJ l mc a2G k dom s) j u) →
   gP 0 (aV Nx.res (λr H'=>∃B' L',auP G v mc (iJ l mc a2G k dom s) r B' L'∧aN H' B' L')) e y H':=by
  intro e j u y H' he w;rcases he with rfl|rfl
  ·rw[JQ,aL rfl];exact bD (vs:=[]) (.inl rfl) H' rfl b_ ⟨_,_,⟨rfl,j,u,rfl,rfl⟩,w⟩
  ·exact bD (vs:=[]) (.inr rfl) H' rfl b_ ⟨_,_,⟨rfl,j,u,rfl,rfl⟩,w⟩
 obtain⟨q,rs,e1,e2,e3,e4⟩:∃q rs,W=.osl q 7 0 s.a2Q.length∧H0 q=some (.rows 7 rs)∧Z' s.a2Q≤Z' rs∧rs.take s.a2Q.length=oH s.a2Q:=by
  rcases I.own 0 rfl with⟨A,_⟩|⟨q,rs,A,h2,h3,h4⟩
  ·have:=congrArg List.length A;rw[a3V]at this;simp at this;rw[this]at B;simp at B
  ·rw[a3V]at A h3 h4;exact⟨q,rs,A,h2,h3,h4⟩
 have V:rs[dom]?=some x.cells:=by
  have:(oH s.a2Q)[dom]?=some x.cells:=by simp[oH,Y]
  rw[←e4,List.getElem?_take_of_lt B]at this;exact this
 subst e1;have c1:(dom:Int)<(Z' s.a2Q:Nat):=Om;have ew:IntKind.i64.wrap (x.level+1)=((5-k:Nat):Int):=by rw[hl,wrap_i64 Om Om];omega
 have β:=dQ l (show 0<2 by decide) s.a;have en:IntKind.i64.wrap (1+((aI l 2 s.a).1:Int))=((1+(aI l 2 s.a).1:Nat):Int):=by rw[wrap_i64 Om Om];omega
 have A:=I.set 0 rfl (bE v (aI l 2 s.a).2);have F:GOk l a2G { s with a:=(aI l 2 s.a).2 }:=⟨R.a2Q,R.a3A,bZ l 2 R.a⟩;have α:¬q=G.o:=λh=>I.neL 0 0 rfl rfl rfl h.symm;simp only[go_sem,EB,Vj,b1,c1,e2,V,ew,Vk];refine eQ O.toHZ T (o:=G.o) (n:=2) (a:=s.a) aX R.a (by simp only[go_sem];rfl) (I.at 0 rfl) ?_;simp only[go_sem,en,Vl];cases k with
 |zero=>
  simp only[go_sem,bJ (Om:¬((5-0:Nat):Int)=2),QV];refine Vh (C:=C) O T G mc a2G dom (1+(aI l 2 s.a).1) U J E Om { s with a:=(aI l 2 s.a).2 } F _ N _ _ _ ?_ A ?_
  ·unfold jC;exact Lq
  ·intro j u y H' w;exact fin _ j u y H' (.inl rfl) w
 |succ k=>
  have K:=M k rfl;by_cases X:4-k=2
  ·have S:iJ l mc a2G (k+1) dom s=kR l (4-k) a2G dom (iJ l mc a2G k) { s with a:=(aI l 2 s.a).2 } 1:=by simp only[iJ,aL X]
   simp only[go_sem,cA (show((5-(k+1):Nat):Int)=2 by omega),Vm,QV];refine VG (C:=C) O T G mc a2G dom 1 k Om E aX K { s with a:=(aI l 2 s.a).2 } F (by simp only;omega) _ N _ _ _ ?_ A ?_
   ·unfold jC
    (repeat' (first|exact c_|refine d_ ?_ ?_))<;>first|(simp only[go_sem,show 4-k=5-(k+1) by omega]<;>rfl)|rfl
   ·intro e j u y H' he w;rw[←S]at w;exact fin e j u y H' he w
  ·have S:iJ l mc a2G (k+1) dom s=kR l (4-k) a2G dom (iJ l mc a2G k) { s with a:=(aI l 2 s.a).2 } (1+(aI l 2 s.a).1):=by simp only[iJ,aG X]
   simp only[go_sem,bJ (show ¬((5-(k+1):Nat):Int)=2 by omega),QV];refine VG (C:=C) O T G mc a2G dom (1+(aI l 2 s.a).1) k Om E Om K { s with a:=(aI l 2 s.a).2 } F (by simp only;omega) _ N _ _ _ ?_ A ?_
   ·unfold jC
    (repeat' (first|exact c_|refine d_ ?_ ?_))<;>first|(simp only[go_sem,show 4-k=5-(k+1) by omega]<;>rfl)|rfl
   ·intro e j u y H' he w;rw[←S]at w;exact fin e j u y H' he w
theorem S8{C:Ctx}(y:sB C){l:List Nat}{v:PV}(T:Tp l v)(mc a2G:Nat)(w:0<mc)(j:mc≤1000)(u:a2G≤60)
  (A:∀(args:List PV)(H:PH)(R:PV→PH→Prop),Z' args=4→EB.wp C (aV Nx.res R) (PF.args args) H→aJ C 7 args H R):∀k,k≤4→rz C l v mc a2G k
 |0,h=>λG J K s dom x F I E H0 B=>A _ _ _ rfl (Vi y T mc a2G 0 w j u h (λ_ e=>by omega) G J K s dom x F I E H0 B)
 |k+1,h=>λG J K s dom x F I E H0 B=>A _ _ _ rfl (Vi y T mc a2G (k+1) w j u h (λM e=>by have:M=k:=Om;subst this;exact S8 y T mc a2G w j u A M Om) G J K s dom x F I E H0 B)
theorem aPM(l:List Nat)(gZ:Nat){a:Nat}(h:a≤Z' l):(wK l gZ a).2≤Z' l:=(Ch l (1+(aI l gZ a).1) (bZ l gZ h) (1+(aI l gZ a).1)).1
theorem QA(l:List Nat){a:Nat}(h:a≤Z' l):∀k,(kX l a k).2≤Z' l∧(kX l a k).1.length=k
 |0=>⟨h,rfl⟩
 |k+1=>by obtain⟨e,j⟩:=QA l h k;exact⟨aPM l 2 e,by simp only[kX,a3Z,a4E,j]⟩
theorem ED(l:List Nat)(a2O:Nat){a:Nat}(h:a≤Z' l):∀k,(gR l a2O a k).2≤Z' l∧(gR l a2O a k).1.length=k
 |0=>⟨h,rfl⟩
 |k+1=>by obtain⟨e,j⟩:=ED l a2O h k;exact⟨bZ l a2O (bZ l 8 (bZ l 4 e)),by simp only[gR,a3Z,a4E,j]⟩
structure FE where
 o:Nat
 o6:Nat
 o7:Nat
 a2G:Nat
 a2I:Nat
abbrev flZ:cD:=flB (.int .i64 0) .aE .aE .aE .aE .aE .aE
abbrev FE.boxes(E:FE)(v ext e j l u w x:PV)(a:Nat):List BX:=[(E.o,bE v a),(E.o7,flB ext e j l u w x),(E.o6,flZ)]
def jZ(E:FE):PF:=(((((PF.nil.set 0 (.ptr E.o 2 0 0)).set 1 (.int .i64 E.a2G)).set 2 (.int .i64 E.a2I)).set 6 (.ptr E.o6 7 0 0)).set 7 (.ptr E.o7 7 0 0))
abbrev lS(l:List dJ):List (List PV):=l.map dJ.cells
abbrev nU(l:List dZ):List (List PV):=l.map dZ.cells
theorem da{E:FE}{F:PF}(e:F 0=some (.ptr E.o 2 0 0))(j:F 1=some (.int .i64 E.a2G))(l:F 2=some (.int .i64 E.a2I))(u:F 6=some (.ptr E.o6 7 0 0))(h7:F 7=some (.ptr E.o7 7 0 0)):(jZ E).le F:=
 d_ (d_ (d_ (d_ (d_ c_ e) j) l) u) h7
theorem aJB{C:Ctx}(N:sB C){l:List Nat}{v:PV}(T:Tp l v)(E:FE)(n a:Nat)(hn:n≤10)(Y:a≤Z' l)(ext:PV)(K:cP)(F:PF)(H:PH)
  (W:(((jZ E).set 8 (.int .i64 n)).set 9 (.int .i64 0)).le F) (x:aN H (E.boxes v ext .aE .aE .aE .aE .aE .aE a) [])
  (X:∀I M H',(jZ E).le M→aN H' (E.boxes v ext I .aE .aE .aE .aE .aE (kX l a n).2) [(I,4,lS (kX l a n).1)]→K (.exit 0) M H') :
  aC.wp C (.loop XJ) K F H:=by
 refine wp_loop (α:=Nat × PV × PH) (λt=>((jZ E).set 8 (.int .i64 n)).set 9 (.int .i64 t.1)) (λt=>t.2.2) (λt=>t.1≤n∧aN t.2.2 (E.boxes v ext t.2.1 .aE .aE .aE .aE .aE (kX l a t.1).2) [(t.2.1,4,lS (kX l a t.1).1)]) (λt=>n-t.1) (0,.aE,H) ⟨a4A _,x.lW 4⟩ W b_ ?_;rintro⟨i,I,H0⟩ ⟨hi,x⟩;simp only at hi x ⊢;obtain⟨k1,k2⟩:=QA l Y i;have w:kX l a (i+1)=((kX l a i).1++[{ (wK l 2 (kX l a i).2).1 with name:=[108,97,119]++dC i }],(wK l 2 (kX l a i).2).2):=rfl;simp only[go_sem,XJ,Gm,jZ];by_cases hlt:i<n
 ·have j:(i:Int)<(n:Nat):=Om;generalize hg:kX l a i=g at *
  simp only[go_sem,j,Gn];refine pU (N.law l v T E.o 2 g.2 aX aX k1) (x.at 0 rfl) rfl ?_;have U:=x.set 0 rfl (bE v (wK l 2 g.2).2);generalize hz:wK l 2 g.2=z at *
  simp only[go_sem];refine aQ λp Z=>?_;have V:=U.new Z (.rows 4 [z.1.cells]);simp only[go_sem,Gp,a4J,a4U,or_false,forall_eq,forall_eq_or_imp];refine aB (N.name [108,97,119] i aX Om) rfl ?_;have y:=V.set 3 rfl (.rows 4 [({ z.1 with name:=[108,97,119]++dC i }:dJ).cells]);rw[PH.set_set]at y;have O:=y.at 1 rfl;have A:¬E.o7=p:=y.ne 1 3 rfl rfl aX;have u:¬E.o7=E.o:=y.ne 1 0 rfl rfl aX;simp only[aU,aG A,aG u]at O;have J:(1:Nat)*4≤16777216:=by decide
  simp only[go_sem,Gq,A,u,O,J,a4J,a4U,or_false,forall_eq,forall_eq_or_imp];refine y.append 0 (src:=[({ z.1 with name:=[108,97,119]++dC i }:dJ).cells]) rfl rfl (by unfold roomFor;rw[a3V];simp only[a4E,maxLen];omega) λw' H2 R hw=>?_;obtain⟨q,rfl⟩:=hw aW;have S:=R.at 1 rfl;simp only[go_sem,S,a4J,a4U,or_false,forall_eq];have h5:=R.set 1 rfl (flB ext (.osl q 4 0 (lS g.1++[({ z.1 with name:=[108,97,119]++dC i }:dJ).cells]).length) .aE .aE .aE .aE .aE);simp only[go_sem,Gr,wZz i];refine aH (i+1,.osl q 4 0 (lS g.1++[({ z.1 with name:=[108,97,119]++dC i }:dJ).cells]).length,_) ⟨hlt,?_⟩ (by simp only;omega) ?_ b_
  ·rw[w];have e:lS (g.1++[{ z.1 with name:=[108,97,119]++dC i }])=lS g.1++[({ z.1 with name:=[108,97,119]++dC i }:dJ).cells]:=by simp[lS]
   simp only;rw[e];exact h5.dropLast (B:=E.boxes v ext _ .aE .aE .aE .aE .aE z.2)
  ·exact Lq
 ·have j:¬(i:Int)<(n:Nat):=Om;have:i=n:=Om;subst this;simp only[go_sem,j];exact X I _ _ (da rfl rfl rfl rfl rfl) x
theorem axE{C:Ctx}(R:sB C){l:List Nat}{v:PV}(T:Tp l v)(E:FE)(n a nl:Nat)(hn:n≤10)(β:nl≤1000)(ha:a≤Z' l)(ext u:PV)(a2O:List dJ)(W:Z' a2O=nl)(K:cP)(F:PF)(H:PH)
  (hF:(((jZ E).set 11 (.int .i64 n)).set 12 (.int .i64 0)).le F) (w:aN H (E.boxes v ext u .aE .aE .aE .aE .aE a) [(u,4,lS a2O)])
  (hK:∀I S H',(jZ E).le S→S 11=some (.int .i64 n)→aN H' (E.boxes v ext u I .aE .aE .aE .aE (gR l nl a n).2) [(u,4,lS a2O),(I,4,nU (gR l nl a n).1)]→K (.exit 2) S H') :
  aC.wp C (.loop QI) K F H:=by
 refine wp_loop (α:=Nat × PV × PH) (λt=>((jZ E).set 11 (.int .i64 n)).set 12 (.int .i64 t.1)) (λt=>t.2.2) (λt=>t.1≤n∧aN t.2.2 (E.boxes v ext u t.2.1 .aE .aE .aE .aE (gR l nl a t.1).2) [(u,4,lS a2O),(t.2.1,4,nU (gR l nl a t.1).1)]) (λt=>n-t.1) (0,.aE,H) ⟨a4A _,w.lW 4⟩ hF b_ ?_;rintro⟨i,I,H0⟩ ⟨hi,w⟩;simp only at hi w ⊢;obtain⟨k1,k2⟩:=ED l nl ha i;have A:gR l nl a (i+1)=((gR l nl a i).1++[⟨[109]++dC i,(1+(aI l 4 (gR l nl a i).2).1:Nat),(1+(aI l 8 (aI l 4 (gR l nl a i).2).2).1:Nat),((aI l nl (aI l 8 (aI l 4 (gR l nl a i).2).2).2).1:Nat)⟩],(aI l nl (aI l 8 (aI l 4 (gR l nl a i).2).2).2).2):=rfl;simp only[go_sem,QI,ux,jZ];by_cases hlt:i<n
 ·have j:(i:Int)<(n:Nat):=Om;generalize hg:gR l nl a i=g at *
  have hx:=dQ l (show 0<4 by decide) g.2;have X:=bZ l 4 k1;have hy:=dQ l (show 0<8 by decide) (aI l 4 g.2).2;have Y:=bZ l 8 X;have az:=bZ l nl Y;have U:=w.set 0 rfl (bE v (aI l 4 g.2).2);have B:=U.set 0 rfl (bE v (aI l 8 (aI l 4 g.2).2).2);have h3:=B.set 0 rfl (bE v (aI l nl (aI l 8 (aI l 4 g.2).2).2).2);generalize M:aI l 4 g.2=x at *
  generalize N:aI l 8 x.2=y at *
  generalize O:aI l nl y.2=z at *
  have b1:=w.at 1 rfl;have lw:=(w.own 0 rfl).zA;rw[a3V,W]at lw;have J:(PH.nil.set E.o7 (flB ext u I .aE .aE .aE .aE)).le H0:=e_ a_ b1;have ex:IntKind.i64.wrap (1+(x.1:Int))=((1+x.1:Nat):Int):=by rw[wrap_i64 Om Om];omega
  have ey:IntKind.i64.wrap (1+(y.1:Int))=((1+y.1:Nat):Int):=by rw[wrap_i64 Om Om];omega
  simp only[go_sem,j];refine aZ (PH.nil.set E.o7 (flB ext u I .aE .aE .aE .aE)) (mkS l v) J ?_;simp only[go_sem,uy];refine OJ R.toyP (s:=[109]) (n:=i) aX Om rfl J ?_;simp only[go_sem];refine xG R.toHZ T (o:=E.o) (n:=4) (a:=g.2) aX k1 rfl (w.at 0 rfl) ?_ ?_
  ·rw[M];exact e_ a_ (U.at 1 rfl)
  rw[M];simp only[go_sem,ex];refine xG R.toHZ T (o:=E.o) (n:=8) (a:=x.2) aX X rfl (U.at 0 rfl) ?_ ?_
  ·rw[N];exact e_ a_ (B.at 1 rfl)
  rw[N];simp only[go_sem,ey,lw];rw[PH.set_set]at B;refine xG R.toHZ T (o:=E.o) (n:=nl) (a:=y.2) Om Y rfl (B.at 0 rfl) ?_ ?_
  ·rw[O];exact e_ a_ ((B.set 0 rfl (bE v z.2)).at 1 rfl)
  rw[O];have h4:=B.set 0 rfl (bE v z.2);have V:(1:Nat)*4≤16777216:=by decide
  simp only[go_sem,V,a4J,a4U,or_false,forall_eq,forall_eq_or_imp];rw[PH.set_set]at h4;refine h4.append 1 (src:=[(⟨[109]++dC i,(1+x.1:Nat),(1+y.1:Nat),(z.1:Nat)⟩:dZ).cells]) rfl rfl (by unfold roomFor;rw[a3V];simp only[a4E,maxLen];omega) λw' H2 h5 hw=>?_;obtain⟨q,rfl⟩:=hw aW;have Z:=h5.at 1 rfl;refine⟨e_ a_ Z,?_⟩;refine aZ .nil cI a_ ?_;simp only[go_sem,uz,Z,a4J,a4U,or_false,forall_eq];have h6:=h5.set 1 rfl (flB ext u (.osl q 4 0 (nU g.1++[(⟨[109]++dC i,(1+x.1:Nat),(1+y.1:Nat),(z.1:Nat)⟩:dZ).cells]).length) .aE .aE .aE .aE);refine⟨a_,?_⟩;simp only[go_sem,u0,wZz i];refine aH (i+1,.osl q 4 0 (nU g.1++[(⟨[109]++dC i,(1+x.1:Nat),(1+y.1:Nat),(z.1:Nat)⟩:dZ).cells]).length,_) ⟨hlt,?_⟩ (by simp only;omega) ?_ b_
  ·rw[A];have e:nU (g.1++[⟨[109]++dC i,(1+x.1:Nat),(1+y.1:Nat),(z.1:Nat)⟩])=nU g.1++[(⟨[109]++dC i,(1+x.1:Nat),(1+y.1:Nat),(z.1:Nat)⟩:dZ).cells]:=by simp[nU]
   simp only;rw[e];exact h6
  ·exact Lq
 ·have j:¬(i:Int)<(n:Nat):=Om;have:i=n:=Om;subst this;simp only[go_sem,j];exact hK I _ _ (da rfl rfl rfl rfl rfl) rfl w
abbrev DC(x:eG)(w:PV):List PV:=[.str x.name,.int .i64 x.k,.int .i64 x.m,.int .i64 x.a3F,.int .i64 x.s0,.int .i64 x.s1,.int .i64 x.s2,.int .i64 x.s3,.int .i64 x.s4,w,frs x.repair,
 .bool x.target.neg,aO x.target.num,aO x.target.den,.bool x.a2R.neg,aO x.a2R.num,aO x.a2R.den]
def Cl(E:FE)(mc n i:Nat):PF:=(((jZ E).set 11 (.int .i64 mc)).set 13 (.int .i64 n)).set 14 (.int .i64 i)
structure PAt(E:FE)(mc n i:Nat)(F:PF):Prop where
 f0:F 0=some (.ptr E.o 2 0 0)
 f1:F 1=some (.int .i64 E.a2G)
 f2:F 2=some (.int .i64 E.a2I)
 f6:F 6=some (.ptr E.o6 7 0 0)
 f7:F 7=some (.ptr E.o7 7 0 0)
 f11:F 11=some (.int .i64 mc)
 f13:F 13=some (.int .i64 n)
 f14:F 14=some (.int .i64 i)
def wN(l:List Nat)(a:Nat):Nat→List Int × Nat
 |0=>([],a)
 |j+1=>let s:=wN l a j
  let t:=kY l s.2
  (s.1++[t.1],t.2)
theorem zW(l:List Nat){a:Nat}(h:a≤Z' l):(kY l a).2≤Z' l:=by
 unfold kY;simp only;split
 ·exact bZ l 3 (bZ l 3 h)
 ·exact bZ l 3 h
theorem Dv(l:List Nat){a:Nat}(h:a≤Z' l):∀j,(wN l a j).2≤Z' l∧(wN l a j).1.length=j
 |0=>⟨h,rfl⟩
 |j+1=>by obtain⟨e,u⟩:=Dv l h j;exact⟨zW l e,by simp only[wN,a3Z,a4E,u]⟩
abbrev wM(pre post:List PV)(s:List Int):List PV:=pre++(s.map λx=>PV.int .i64 x)++a3W (4-Z' s) (.int .i64 0)++post
theorem aRJ{pre post:List PV}{s:List Int}(e:Z' pre=5)(l:Z' s<4)(x:Int):(wM pre post s).set (5+Z' s) (.int .i64 x)=wM pre post (s++[x]):=by
 obtain⟨k,j⟩:∃k,4-Z' s=k+1:=⟨3-Z' s,by omega⟩;unfold wM;rw[a3Z,a4E,show 4-(Z' s+1)=k by omega,j,List.replicate_succ,a5L,a5D,a6L];rw[List.set_append_left _ _ (by simp[e]),a7O _ _ (by simp[e])];have:5+Z' s-(pre++s.map λx=>PV.int .i64 x).length=0:=by simp[e]
 rw[this,List.set_cons_zero];simp
theorem aLC{pre post:List PV}{s:List Int}(j:Z' pre=5)(l:Z' s<4):wM pre post s=wM pre post (s++[0]):=by
 obtain⟨k,e⟩:∃k,4-Z' s=k+1:=⟨3-Z' s,by omega⟩;unfold wM;rw[a3Z,a4E,show 4-(Z' s+1)=k by omega,e,List.replicate_succ,a5L,a5D,a6L];simp
theorem axF{C:Ctx}(Lb:sB C){l:List Nat}{v:PV}(T:Tp l v)(E:FE)(mc n i a p:Nat)(ha:a≤Z' l)(B:List BX)(L:List LI)(pre post:List PV)(e:Z' pre=5)(A:Z' post=8)(K:cP)(F:PF)(H:PH)
  (w:PAt E mc n i F) (U:F 15=some (.ptr p 17 0 0)) (V:F 16=some (.int .i64 1)) (I:aN H ((E.o,bE v a)::B++[(p,.rows 17 [wM pre post []])]) L)
  (hK:∀R H',PAt E mc n i R→R 15=some (.ptr p 17 0 0)→aN H' ((E.o,bE v (wN l a 4).2)::B++[(p,.rows 17 [wM pre post (wN l a 4).1])]) L→K (.exit 6) R H') :
  aC.wp C (.loop DU) K F H:=by
 refine wp_loop (α:=Nat × PH) (λt=>((Cl E mc n i).set 15 (.ptr p 17 0 0)).set 16 (.int .i64 (t.1+1:Nat))) (λt=>t.2) (λt=>t.1≤4∧aN t.2 ((E.o,bE v (wN l a t.1).2)::B++[(p,.rows 17 [wM pre post (wN l a t.1).1])]) L) (λt=>4-t.1) (0,H) ⟨a4A _,I⟩ ?_ b_ ?_
 ·unfold Cl jZ
  (repeat' (first|exact c_|refine d_ ?_ ?_))<;>first|(simp only[go_sem,w.f0,w.f1,w.f2,w.f6,w.f7,w.f11,w.f13,w.f14,U,V]<;>rfl)|rfl
 rintro⟨j,H0⟩ ⟨hj,I⟩;simp only at hj I ⊢;obtain⟨k1,k2⟩:=Dv l ha j;have u:wN l a (j+1)=((wN l a j).1++[(kY l (wN l a j).2).1],(kY l (wN l a j).2).2):=rfl;simp only[go_sem,DU,vb,Cl,jZ];by_cases hlt:j<4
 ·generalize hg:wN l a j=g at *
  have ei:=eI (Om:j+1<9223372036854775807);simp only[go_sem,show((j+1:Nat):Int)<5 by omega,vd];refine eQ Lb.toHZ T (o:=E.o) (n:=3) (a:=g.2) aX k1 (by simp only[go_sem];rfl) (I.at 0 rfl) ?_;have N:aN _ ((E.o,bE v (aI l 3 g.2).2)::B++[(p,.rows 17 [wM pre post g.1])]) L:=I.set 0 rfl (bE v (aI l 3 g.2).2);by_cases c:(aI l 3 g.2).1=0
  ·have Z:kY l g.2=(((1+(aI l 3 (aI l 3 g.2).2).1:Nat):Int),(aI l 3 (aI l 3 g.2).2).2):=by unfold kY;simp only[c,if_true]
   have n2:=dQ l (show 0<3 by decide) (aI l 3 g.2).2;have e2:IntKind.i64.wrap (1+((aI l 3 (aI l 3 g.2).2).1:Int))=((1+(aI l 3 (aI l 3 g.2).2).1:Nat):Int):=by rw[wrap_i64 Om Om];omega
   simp only[go_sem,cA (show(((aI l 3 g.2).1:Nat):Int)=0 by omega),ve];refine eQ Lb.toHZ T (o:=E.o) (n:=3) (a:=(aI l 3 g.2).2) aX (bZ l 3 k1) (by simp only[go_sem];rfl) (N.at 0 rfl) ?_;have O:aN _ ((E.o,bE v (aI l 3 (aI l 3 g.2).2).2)::B++[(p,.rows 17 [wM pre post g.1])]) L:=N.set 0 rfl (bE v (aI l 3 (aI l 3 g.2).2).2);have S:=O.qA;rw[PH.set_set]at S O;have M:¬p=E.o:=λh=>by have Y:=O.ndB;simp[fK,h]at Y
   simp only[aU,aG M]at S;have X:((j+1:Nat):Int)<((5:Nat):Int):=Om;have W:(0:Int)≤((j+1:Nat):Int):=Om;have β:(wM pre post g.1).length=17:=by simp[wM,e,A,k2];omega
   have x:=aRJ (pre:=pre) (post:=post) (s:=g.1) e Om ((1+(aI l 3 (aI l 3 g.2).2).1:Nat):Int);rw[k2]at x;have J:4+(j+1)*1=5+j:=Om;have y:5+j+1≤17:=Om;simp only[go_sem,e2,X,W,J,M,S,y,a4J,a4U,or_false,forall_eq,x,QN,ei];refine aH (j+1,_) ⟨hlt,?_⟩ (by simp only;omega) ?_ b_
   ·rw[u,Z];exact O.wD _
   ·exact Lq
  ·have Z:kY l g.2=(0,(aI l 3 g.2).2):=by unfold kY;simp only[c,if_false]
   simp only[go_sem,bJ (show ¬(((aI l 3 g.2).1:Nat):Int)=0 by omega),QN,ei];refine aH (j+1,_) ⟨hlt,?_⟩ (by simp only;omega) ?_ b_
   ·rw[aLC (pre:=pre) (post:=post) (s:=g.1) e Om]at N;rw[u,Z];exact N
   ·exact Lq
 ·have:j=4:=Om;subst this;simp only[go_sem,show ¬((4+1:Nat):Int)<5 by decide];exact hK _ _ ⟨by simp only[go_sem],by simp only[go_sem],by simp only[go_sem],by simp only[go_sem],by simp only[go_sem],by simp only[go_sem],by simp only[go_sem],by simp only[go_sem]⟩ Sq I
theorem aN.uJ{E:FE}{v ext e j l u w x:PV}{a:Nat}{H:PH}{B:List BX}{L:List LI}(h:aN H (E.boxes v ext e j l u w x a++B) L)(b:Nat):aN (H.set E.o (bE v b)) (E.boxes v ext e j l u w x b++B) L:=h.set 0 rfl _
abbrev og(s:List UInt8)(k m q:Int)(w r e j l:PV)(h:RF):List PV:=[.str s,.int .i64 k,.int .i64 m,.int .i64 q,.int .i64 0,.int .i64 0,.int .i64 0,.int .i64 0,.int .i64 0,w,r,e,j,l,.bool h.neg,aO h.num,aO h.den]
theorem aJC {C : Ctx} (Lb : sB C) {l : List Nat} {v : PV} (T : Tp l v) (E : FE) (mc n i a : Nat) (ha : a ≤ l.length) (hi : i < 50) (ext w1 w2 w3 w4 w5 w6 : PV) (L : List LI) (rest : aC) (K : cP) (F : PF) (H : PH)
    (hF : PAt E mc n i F) (hH : aN H (E.boxes v ext w1 w2 w3 w4 w5 w6 a) L)
    (hK : ∀ p F' H', PAt E mc n i F' → F' 15 = some (.ptr p 17 0 0) →
      (let k := aI l 2 a; let m := aI l 3 k.2; let h := aI l 4 m.2; let q := aI l (m.1 + 1) h.2; let r := oO l q.2 (max m.1 1); let g := aI l 9 r.2
       aN H' (E.boxes v ext w1 w2 w3 w4 w5 w6 g.2 ++ [(p, .rows 17 [wM [.str ([112] ++ dC i), .int .i64 (1 + k.1 : Nat), .int .i64 (m.1 : Nat), .int .i64 (1 + k.1 + q.1 : Nat), .int .i64 0]
        ([.aE, frs r.1] ++ (mkT (g.1 : Nat) 8).cells ++ (mkT ((1 + h.1 : Nat) : Int) 1).cells) []])]) L) → aC.wp C rest K F' H') :
    aC.wp C (.seq (.region QL) (.seq (.seq (.draw DW) (.draw DX)) (.seq (.region DY) (.seq (.region DZ) rest)))) K F H := by
  obtain ⟨f0, f1, f2, f6, f7, f11, f13, f14⟩ := hF;have nk := dQ l (show 0 < 2 by decide) a;have ak := bZ l 2 ha;have nm := dQ l (show 0 < 3 by decide) (aI l 2 a).2;have am := bZ l 3 ak;simp only at hK;generalize hk : aI l 2 a = k at *
  generalize hm : aI l 3 k.2 = m at *
  have nh := dQ l (show 0 < 4 by decide) m.2;have ah := bZ l 4 am;generalize hh : aI l 4 m.2 = h at *
  have nq := dQ l (Om : 0 < m.1 + 1) h.2;have aq := bZ l (m.1 + 1) ah;generalize hq : aI l (m.1 + 1) h.2 = q at *
  have ar := NU l aq (max m.1 1);generalize hr : oO l q.2 (max m.1 1) = r at *
  have ng := dQ l (show 0 < 9 by decide) r.2;have ag := bZ l 9 ar;generalize hg : aI l 9 r.2 = g at *
  have ek : IntKind.i64.wrap (1 + (k.1 : Int)) = ((1 + k.1 : Nat) : Int) := by rw [wrap_i64 Om Om]; omega
  have eh : IntKind.i64.wrap (1 + (h.1 : Int)) = ((1 + h.1 : Nat) : Int) := by rw [wrap_i64 Om Om]; omega
  have em : IntKind.i64.wrap ((m.1 : Int) + 1) = ((m.1 + 1 : Nat) : Int) := eI Om;have eq' : IntKind.i64.wrap (((1 + k.1 : Nat) : Int) + (q.1 : Int)) = ((1 + k.1 + q.1 : Nat) : Int) := by rw [wrap_i64 Om Om]; omega
  have h0 : aN H (E.boxes v ext w1 w2 w3 w4 w5 w6 a ++ []) L := by rw [a5O]; exact hH
  simp only[go_sem,QL,f14];refine aB (Lb.name [112] i aX Om) rfl ?_;simp only[go_sem,f0];refine eQ Lb.toHZ T (o := E.o) (n := 2) (a := a) aX ha rfl (h0.at 0 rfl) ?_;have g1 := h0.uJ k.2;rw [hk];simp only[go_sem,ek,f0];refine eQ Lb.toHZ T (o := E.o) (n := 3) (a := k.2) aX ak rfl (g1.at 0 rfl) ?_;have g2 := g1.uJ m.2;rw [hm];rw [PH.set_set] at g2;simp only[go_sem,f0];refine eQ Lb.toHZ T (o := E.o) (n := 4) (a := m.2) aX am rfl (g2.at 0 rfl) ?_;have g3 := g2.uJ h.2;rw [hh];rw [PH.set_set] at g3;simp only[go_sem,eh];refine aB (Lb.int ((1 + h.1 : Nat) : Int) (by unfold eP; omega)) rfl ?_;simp only[go_sem,a4J,a4U,or_false,forall_eq,forall_eq_or_imp];refine aQ fun p hp => ?_;have g4 := g3.new hp (.rows 17 [og ([112] ++ dC i) (1 + k.1 : Nat) (m.1 : Nat) 0 .aE .aE (.bool false) .aE .aE (mkT ((1 + h.1 : Nat) : Int) 1)]);have hpo : ¬ p = E.o := g4.ne 3 0 rfl rfl aX;have hop : ¬ E.o = p := fun e => hpo e.symm;have q2 : ∀ (F2 : PF) (H2 : PH), PAt E mc n i F2 → F2 15 = some (.ptr p 17 0 0) → aN H2 (E.boxes v ext w1 w2 w3 w4 w5 w6 h.2 ++ [(p, .rows 17 [og ([112] ++ dC i) (1 + k.1 : Nat) (m.1 : Nat) 0 .aE .aE (.bool false) .aE .aE (mkT ((1 + h.1 : Nat) : Int) 1)])]) L →
      aC.wp C (.seq (.seq (.draw DW) (.draw DX)) (.seq (.region DY) (.seq (.region DZ) rest))) K F2 H2 := by
    intro F2 H2 hF2 f15 hH2;obtain ⟨f0, f1, f2, f6, f7, f11, f13, f14⟩ := hF2;have bp := hH2.at 3 rfl;have hHs : (PH.nil.set p (.rows 17 [og ([112] ++ dC i) (1 + k.1 : Nat) (m.1 : Nat) 0 .aE .aE (.bool false) .aE .aE (mkT ((1 + h.1 : Nat) : Int) 1)])).le H2 := e_ a_ bp;simp only[go_sem];refine aZ _ (mkS l v) hHs ?_;simp only[go_sem,DW,f15,bp,em,f0];refine xG Lb.toHZ T (o := E.o) (n := m.1 + 1) (a := h.2) Om ah rfl (hH2.at 0 rfl) ?_ ?_
    · rw [hq]; exact e_ a_ ((hH2.uJ q.2).at 3 rfl)
    rw [hq];have g5 := hH2.uJ q.2;simp only[go_sem,eq',f15];refine aZ .nil cI a_ ?_;simp only[go_sem,DX,hpo,bp];refine ⟨a_, ?_⟩;have g6 : aN _ (E.boxes v ext w1 w2 w3 w4 w5 w6 q.2 ++ [(p, .rows 17 [og ([112] ++ dC i) (1 + k.1 : Nat) (m.1 : Nat) (1 + k.1 + q.1 : Nat) .aE .aE (.bool false) .aE .aE (mkT ((1 + h.1 : Nat) : Int) 1)])]) L := g5.set 3 rfl (.rows 17 [og ([112] ++ dC i) (1 + k.1 : Nat) (m.1 : Nat) (1 + k.1 + q.1 : Nat) .aE .aE (.bool false) .aE .aE (mkT ((1 + h.1 : Nat) : Int) 1)]);have bq := g6.at 3 rfl;simp only[go_sem,DY,f0,f15];refine pU (Lb.rep l v T E.o q.2 m.1 Om aq) (g6.at 0 rfl) rfl ?_;have g7 := g6.uJ r.2;rw [hr];simp only[go_sem,hpo,f15];have g8 : aN _ (E.boxes v ext w1 w2 w3 w4 w5 w6 r.2 ++ [(p, .rows 17 [og ([112] ++ dC i) (1 + k.1 : Nat) (m.1 : Nat) (1 + k.1 + q.1 : Nat) .aE (frs r.1) (.bool false) .aE .aE (mkT ((1 + h.1 : Nat) : Int) 1)])]) L := g7.set 3 rfl (.rows 17 [og ([112] ++ dC i) (1 + k.1 : Nat) (m.1 : Nat) (1 + k.1 + q.1 : Nat) .aE (frs r.1) (.bool false) .aE .aE (mkT ((1 + h.1 : Nat) : Int) 1)]);simp only[go_sem,DZ,f0];refine eQ Lb.toHZ T (o := E.o) (n := 9) (a := r.2) aX ar rfl (g8.at 0 rfl) ?_;have g9 := g8.uJ g.2;rw [hg];simp only[go_sem];refine aB (Lb.fmk (g.1 : Int) 8 (by unfold eP; omega) (by unfold eP; omega)) rfl ?_;unfold CS;rw [aG aX];simp only[go_sem,f15,hpo];have g10 := g9.set 3 rfl (.rows 17 [wM [.str ([112] ++ dC i), .int .i64 (1 + k.1 : Nat), .int .i64 (m.1 : Nat), .int .i64 (1 + k.1 + q.1 : Nat), .int .i64 0]
        ([.aE, frs r.1] ++ (mkT (g.1 : Nat) 8).cells ++ (mkT ((1 + h.1 : Nat) : Int) 1).cells) []])
    refine hK p _ _ ⟨by simp only[go_sem,f0], by simp only[go_sem,f1], by simp only[go_sem,f2], by simp only[go_sem,f6], by simp only[go_sem,f7], by simp only[go_sem,f11], by simp only[go_sem,f13], by simp only[go_sem,f14]⟩ (by simp only[go_sem,f15]) g10
  simp only [aC.wp, go_sem] at q2;simp only[go_sem,a4J,a4U,or_false,forall_eq,forall_eq_or_imp];exact q2 _ _ ⟨by simp only[go_sem,f0], by simp only[go_sem,f1], by simp only[go_sem,f2], by simp only[go_sem,f6], by simp only[go_sem,f7], by simp only[go_sem,f11], by simp only[go_sem,f13], by simp only[go_sem,f14]⟩ rfl g4
abbrev FE.lists(x y A B E:PV)(l:List dJ)(u:List dZ)(e:List dM)(j:List eS)(w:List (List PV)):List LI:=[(x,4,lS l),(y,4,nU u),(A,7,oH e),(B,3,rF j),(E,17,w)]
theorem aJD{C:Ctx}(Lb:sB C){l:List Nat}{v:PV}(T:Tp l v)(E:FE)(mc n i a:Nat)(ha:a≤Z' l)(η:0<mc)(μ:mc≤50)(ext y A B I w5:PV)(lw:List dJ)(md:List dZ)(dm:List dM)(dv:List eS)(pr:List (List PV))(ρ:Z' pr≤50)
  (s:List UInt8) (k m q:Int) (r t h:RF) (M:List RF) (p:Nat) (K:cP) (F:PF) (H:PH)
  (hF:PAt E mc n i F) (u:F 15=some (.ptr p 17 0 0))
  (hH:aN H (E.boxes v ext y A B I w5 .aE a++[(p,.rows 17 [wM [.str s,.int .i64 k,.int .i64 m,.int .i64 q,.int .i64 0] ([.aE,frs M]++t.cells++h.cells) []])]) (FE.lists y A B I w5 lw md dm dv pr))
  (V:(let J:=wN l a 4;let f:=aI l mc J.2;let b:=aI l 2 f.2
   let ms:List Int × Nat:=if 1<mc then(if b.1=0 then([(f.1:Int),1-(f.1:Int)],b.2)else([(f.1:Int)],b.2))else([(f.1:Int)],f.2)
   ∀(w j:PV)(W:PF)(H':PH)(B':List BX),PAt E mc n i W→(∃o,w=.osl o 1 0 ms.1.length)→aN H' (E.boxes v ext y A B I j .aE ms.2++B')
    (FE.lists y A B I j lw md dm dv (pr++[DC ⟨s,k,m,q,0,(J.1.getD 0 0),(J.1.getD 1 0),(J.1.getD 2 0),(J.1.getD 3 0),ms.1,M,t,h⟩ w])++[(w,1,cC ms.1)])→K .normal W H')) :
  aC.wp C (.seq (.seq (.region QM) (.block 6 (.loop DU))) (.seq (.region QP) (.seq (.region QQ) (.seq (.seq (.region QR) (.cond (.tmp 143) (.region QS) .skip)) (.region EA))))) K F H:=by
 obtain⟨f0,f1,f2,f6,f7,f11,f13,f14⟩:=hF;simp only[go_sem,QM];refine axF (C:=C) Lb T E mc n i a p ha [(E.o7,flB ext y A B I w5 .aE),(E.o6,flZ)] _ _ _ rfl rfl _ _ H ⟨by simp only[go_sem,f0],by simp only[go_sem,f1],by simp only[go_sem,f2],by simp only[go_sem,f6],by simp only[go_sem,f7],by simp only[go_sem,f11],by simp only[go_sem,f13],by simp only[go_sem,f14]⟩ (by simp only[go_sem,u]) rfl hH ?_;clear f0 f1 f2 f6 f7 f11 f13 f14 u hH;intro F1 H1 ε u x;obtain⟨f0,f1,f2,f6,f7,f11,f13,f14⟩:=ε;obtain⟨α,ls⟩:=Dv l ha 4;have ι:∃N O R S,(wN l a 4).1=[N,O,R,S]:=⟨_,_,_,_,rfl⟩;simp only at V;generalize ν:wN l a 4=J at *
 obtain⟨N,O,R,S,hx⟩:=ι;rw[hx]at V x;replace x:aN H1 (E.boxes v ext y A B I w5 .aE J.2++[(p,.rows 17 [DC ⟨s,k,m,q,0,N,O,R,S,[],M,t,h⟩ .aE])]) (FE.lists y A B I w5 lw md dm dv pr):=x;have nf:=dQ l η J.2;have af:=bZ l mc α;generalize hf:aI l mc J.2=f at *
 have ab:=bZ l 2 af;generalize hb:aI l 2 f.2=b at *
 have Z:¬p=E.o:=x.ne 3 0 rfl rfl aX;have θ:¬p=E.o7:=x.ne 3 1 rfl rfl aX;have ο:¬E.o7=p:=λe=>θ e.symm;have ξ:¬E.o7=E.o:=x.ne 1 0 rfl rfl aX;simp only[go_sem,QP,f0,f11];refine eQ Lb.toHZ T (o:=E.o) (n:=mc) (a:=J.2) Om α rfl (x.at 0 rfl) ?_;have h2:=x.set 0 rfl (bE v f.2);rw[hf];simp only[go_sem,QQ];refine aQ λo ho=>?_;have h3:=h2.C2 (s:=1) (rows:=cC [(f.1:Int)]) ho;have b3:=h3.at 3 rfl;have ob:¬p=o:=h3.neL 3 5 rfl rfl rfl;have σ:¬E.o7=o:=h3.neL 1 5 rfl rfl rfl;have τ:¬E.o=o:=h3.neL 0 5 rfl rfl rfl;simp only[aU,aG ob,aG Z]at b3;simp only[go_sem,u,ob,Z,b3,a4J,a4U,or_false,forall_eq];have h4:=h3.set 3 rfl (.rows 17 [DC ⟨s,k,m,q,0,N,O,R,S,[],M,t,h⟩ (.osl o 1 0 1)]);have fin:∀(w:PV)(ms:List Int)(a':Nat)(W:PF)(H':PH),PAt E mc n i W→W 15=some (.ptr p 17 0 0)→(∃o,w=.osl o 1 0 ms.length) →
   aN H' (E.boxes v ext y A B I w5 .aE a'++[(p,.rows 17 [DC ⟨s,k,m,q,0,N,O,R,S,ms,M,t,h⟩ w])]) (FE.lists y A B I w5 lw md dm dv pr++[(w,1,cC ms)]) →
   (∀(j:PV)(U:PF)(H2:PH),PAt E mc n i U→aN H2 (E.boxes v ext y A B I j .aE a'++[(p,.rows 17 [DC ⟨s,k,m,q,0,N,O,R,S,ms,M,t,h⟩ w])]) (FE.lists y A B I j lw md dm dv (pr++[DC ⟨s,k,m,q,0,N,O,R,S,ms,M,t,h⟩ w])++[(w,1,cC ms)])→K .normal U H2) →
   wpOps C EA (K .normal) W H':=by
  intro w ms a' W H' δ u hw Y ζ;obtain⟨wo,rfl⟩:=hw;obtain⟨f0,f1,f2,f6,f7,f11,f13,f14⟩:=δ;have c1:=Y.at 1 rfl;have c3:=Y.at 3 rfl;have γ:(1:Nat)*17≤16777216:=by decide
  simp only[go_sem,EA,f7,u,c1,c3,γ,a4J,a4U,or_false,forall_eq,forall_eq_or_imp];refine Y.append 4 (src:=[DC ⟨s,k,m,q,0,N,O,R,S,ms,M,t,h⟩ (.osl wo 1 0 ms.length)]) rfl rfl (by unfold roomFor;simp only[a4E,maxLen];omega) λj H2 h5 κ=>?_;obtain⟨q5,rfl⟩:=κ aW;have c2:=h5.at 1 rfl;simp only[go_sem,c2,a4J,a4U,or_false,forall_eq];exact ζ _ _ _ ⟨by simp only[go_sem,f0],by simp only[go_sem,f1],by simp only[go_sem,f2],by simp only[go_sem,f6],by simp only[go_sem,f7],by simp only[go_sem,f11],by simp only[go_sem,f13],by simp only[go_sem,f14]⟩ (h5.set 1 rfl (flB ext y A B I _ .aE))
 simp only[go_sem,QR,f11];by_cases c:1<mc
 ·have c':(mc:Int)>1:=Om;simp only[go_sem,c',f0];refine eQ Lb.toHZ T (o:=E.o) (n:=2) (a:=f.2) aX af rfl (h4.at 0 rfl) ?_;have h5:=h4.set 0 rfl (bE v b.2);rw[hb];by_cases c2:b.1=0
  ·have X:(b.1:Int)=0:=Om;rw[aL c,aL c2]at V;have e1:IntKind.i64.wrap (1-(f.1:Int))=1-(f.1:Int):=wrap_i64 Om Om;have c3:=h5.at 3 rfl;have β:(1:Nat)*1≤16777216:=by decide
   simp only[go_sem,cA X,QS,u,Z,e1,β];refine h5.append 5 (src:=[[.int .i64 (1-(f.1:Int))]]) rfl rfl (by unfold roomFor;simp only[cC,a3V,a4E,maxLen];omega) λw' H2 h6 hw=>?_;obtain⟨q2,rfl⟩:=hw aW;have c4:=h6.at 3 rfl;simp only[go_sem,c4,u,a4J,a4U,or_false,forall_eq];have h7:=h6.set 3 rfl (.rows 17 [DC ⟨s,k,m,q,0,N,O,R,S,[(f.1:Int),1-(f.1:Int)],M,t,h⟩ (.osl q2 1 0 2)]);exact fin (.osl q2 1 0 2) [(f.1:Int),1-(f.1:Int)] b.2 _ _ ⟨by simp only[go_sem,f0],by simp only[go_sem,f1],by simp only[go_sem,f2],by simp only[go_sem,f6],by simp only[go_sem,f7],by simp only[go_sem,f11],by simp only[go_sem,f13],by simp only[go_sem,f14]⟩ (by simp only[go_sem,u]) ⟨q2,rfl⟩ h7 (λj U H2 g1 g2=>V _ j U H2 _ g1 ⟨q2,rfl⟩ g2)
  ·have X:¬(b.1:Int)=0:=Om;rw[aL c,aG c2]at V;simp only[go_sem,bJ X];exact fin (.osl o 1 0 1) [(f.1:Int)] b.2 _ _ ⟨by simp only[go_sem,f0],by simp only[go_sem,f1],by simp only[go_sem,f2],by simp only[go_sem,f6],by simp only[go_sem,f7],by simp only[go_sem,f11],by simp only[go_sem,f13],by simp only[go_sem,f14]⟩ (by simp only[go_sem,u]) ⟨o,rfl⟩ h5 (λj U H2 g1 g2=>V _ j U H2 _ g1 ⟨o,rfl⟩ g2)
 ·have c':¬(mc:Int)>1:=Om;rw[aG c]at V;simp only[go_sem,c'];exact fin (.osl o 1 0 1) [(f.1:Int)] f.2 _ _ ⟨by simp only[go_sem,f0],by simp only[go_sem,f1],by simp only[go_sem,f2],by simp only[go_sem,f6],by simp only[go_sem,f7],by simp only[go_sem,f11],by simp only[go_sem,f13],by simp only[go_sem,f14]⟩ (by simp only[go_sem,u]) ⟨o,rfl⟩ h4 (λj U H2 g1 g2=>V _ j U H2 _ g1 ⟨o,rfl⟩ g2)
abbrev qQ(l:List eG):List (List PV):=l.map eG.cells
abbrev tM(l:List hC):List (List PV):=l.map hC.cells
theorem vY{rows:List (List PV)}(h:∀r∈rows,∀c∈r,c.oid=none):Flat rows:=Flat.of λr j c e q s rs=>PA (h r j c e) q s rs
theorem alR(l:List dJ):Flat (lS l):=vY λr j c e=>by
 obtain⟨x,_,rfl⟩:=a4W.1 j;simp only[dJ.cells,a4J,a4U,or_false]at e;rcases e with rfl|rfl|rfl|rfl<;>rfl
theorem amH(l:List dZ):Flat (nU l):=vY λr j c e=>by
 obtain⟨x,_,rfl⟩:=a4W.1 j;simp only[dZ.cells,a4J,a4U,or_false]at e;rcases e with rfl|rfl|rfl|rfl<;>rfl
theorem ahO(l:List dM):Flat (oH l):=vY λr j c e=>by
 obtain⟨x,_,rfl⟩:=a4W.1 j;simp only[dM.cells,a4J,a4U,or_false]at e;rcases e with rfl|rfl|rfl|rfl|rfl|rfl|rfl<;>rfl
theorem ahR(l:List eS):Flat (rF l):=vY λr j c e=>by
 obtain⟨x,_,rfl⟩:=a4W.1 j;simp only[eS.cells,a4J,a4U,or_false]at e;rcases e with rfl|rfl|rfl<;>rfl
theorem aRW(l:List hC):Flat (tM l):=vY λr j c e=>by
 obtain⟨x,_,rfl⟩:=a4W.1 j;simp only[hC.cells,a4J,a4U,or_false]at e;rcases e with rfl|rfl<;>rfl
theorem apQ(l:List eG):Flat (qQ l):=vY λr j c e=>by
 obtain⟨x,_,rfl⟩:=a4W.1 j;simp only[eG.cells,a4J,a4U,or_false]at e;rcases e with rfl|rfl|rfl|rfl|rfl|rfl|rfl|rfl|rfl|rfl|rfl|rfl|rfl|rfl|rfl|rfl|rfl<;>rfl
theorem ayJ(l:List Nat)(mc i:Nat){a:Nat}(h:a≤Z' l):(qZ l mc i a).2≤Z' l:=by
 have j:=bZ l 9 (NU l (bZ l ((aI l 3 (aI l 2 a).2).1+1) (bZ l 4 (bZ l 3 (bZ l 2 h)))) (max (aI l 3 (aI l 2 a).2).1 1));have e:=bZ l mc (zW l (zW l (zW l (zW l j))));unfold qZ;simp only;split
 ·split
  ·exact bZ l 2 e
  ·exact bZ l 2 e
 ·exact e
theorem zP(l:List Nat)(mc:Nat){a:Nat}(h:a≤Z' l):∀k,(fH l mc a k).2≤Z' l∧(fH l mc a k).1.length=k
 |0=>⟨h,rfl⟩
 |k+1=>by obtain⟨e,j⟩:=zP l mc h k;exact⟨ayJ l mc k e,by simp only[fH,a3Z,a4E,j]⟩
theorem ML(l:List Nat)(pc:Nat){a:Nat}(h:a≤Z' l):∀k,(gU l pc a k).2≤Z' l∧(gU l pc a k).1.length=k
 |0=>⟨h,rfl⟩
 |k+1=>by obtain⟨e,j⟩:=ML l pc h k;exact⟨bZ l pc e,by simp only[gU,a3Z,a4E,j]⟩
theorem Vc{C:Ctx}(Lb:sB C){l:List Nat}{v:PV}(T:Tp l v)(E:FE)(mc n a:Nat)(hn:n≤10)(θ:0<mc)(Z:mc≤50)(ha:a≤Z' l)(N:Int)(j u y A:PV)(S:List dJ)(U:List dZ)(O:List dM)(R:List eS)(K:cP)(F:PF)(H:PH)
  (J:PAt E mc n 0 F) (W:aN H (E.boxes v (.int .i64 N) j u y A .aE .aE a) [(j,4,lS S),(u,4,nU U),(y,7,oH O),(A,3,rF R)])
  (hK:∀V F' H',(jZ E).le F'→aN H' (E.boxes v (.int .i64 N) j u y A V .aE (fH l mc a n).2) (FE.lists j u y A V S U O R (qQ (fH l mc a n).1))→K (.exit 4) F' H') :
  aC.wp C (.loop QJ) K F H:=by
 refine wp_loop (α:=Nat × PV × PH) (λt=>Cl E mc n t.1) (λt=>t.2.2) (λt=>t.1≤n∧aN t.2.2 (E.boxes v (.int .i64 N) j u y A t.2.1 .aE (fH l mc a t.1).2) (FE.lists j u y A t.2.1 S U O R (qQ (fH l mc a t.1).1))) (λt=>n-t.1) (0,.aE,H) ⟨a4A _,W.lW 17⟩ ?_ b_ ?_
 ·unfold Cl jZ
  (repeat' (first|exact c_|refine d_ ?_ ?_))<;>first|(simp only[go_sem,J.f0,J.f1,J.f2,J.f6,J.f7,J.f11,J.f13,J.f14]<;>rfl)|rfl
 rintro⟨i,V,H0⟩ ⟨hi,W⟩;simp only at hi W ⊢;obtain⟨k1,k2⟩:=zP l mc ha i;have I:fH l mc a (i+1)=((fH l mc a i).1++[(qZ l mc i (fH l mc a i).2).1],(qZ l mc i (fH l mc a i).2).2):=rfl;simp only[go_sem,QJ,va,Cl,jZ];by_cases hlt:i<n
 ·have B:(i:Int)<(n:Nat):=Om;generalize hg:fH l mc a i=g at *
  simp only[go_sem,B];refine aJC (C:=C) Lb T E mc n i g.2 k1 Om (.int .i64 N) j u y A V .aE _ _ _ _ H0 ⟨by simp only[go_sem],by simp only[go_sem],by simp only[go_sem],by simp only[go_sem],by simp only[go_sem],by simp only[go_sem],by simp only[go_sem],by simp only[go_sem]⟩ W ?_;intro p F1 H1 γ β X;simp only at X;have ι:qZ l mc i g.2=_:=rfl;have Y:=bZ l 9 (NU l (bZ l ((aI l 3 (aI l 2 g.2).2).1+1) (bZ l 4 (bZ l 3 (bZ l 2 k1)))) (max (aI l 3 (aI l 2 g.2).2).1 1));refine aJD (C:=C) Lb T E mc n i _ Y θ Z (.int .i64 N) j u y A V S U O R _ (by rw[a3V,k2];omega) _ _ _ _ (mkT 0 1) _ _ _ p _ F1 H1 γ β X ?_;intro M f b ms w e F2 H2 B' δ hw ε;obtain⟨o,rfl⟩:=hw;have hP:qZ l mc i g.2=(⟨[112]++dC i,(1+(aI l 2 g.2).1:Nat),((aI l 3 (aI l 2 g.2).2).1:Nat),(1+(aI l 2 g.2).1+(aI l ((aI l 3 (aI l 2 g.2).2).1+1) (aI l 4 (aI l 3 (aI l 2 g.2).2).2).2).1:Nat),0,M.1.getD 0 0,M.1.getD 1 0,M.1.getD 2 0,M.1.getD 3 0,ms.1,(oO l (aI l ((aI l 3 (aI l 2 g.2).2).1+1) (aI l 4 (aI l 3 (aI l 2 g.2).2).2).2).2 (max (aI l 3 (aI l 2 g.2).2).1 1)).1,mkT ((aI l 9 (oO l (aI l ((aI l 3 (aI l 2 g.2).2).1+1) (aI l 4 (aI l 3 (aI l 2 g.2).2).2).2).2 (max (aI l 3 (aI l 2 g.2).2).1 1)).2).1:Nat) 8,mkT ((1+(aI l 4 (aI l 3 (aI l 2 g.2).2).2).1:Nat):Int) 1⟩,ms.2):=rfl;rw[hP]at I;generalize ζ:(⟨[112]++dC i,(1+(aI l 2 g.2).1:Nat),((aI l 3 (aI l 2 g.2).2).1:Nat),(1+(aI l 2 g.2).1+(aI l ((aI l 3 (aI l 2 g.2).2).1+1) (aI l 4 (aI l 3 (aI l 2 g.2).2).2).2).1:Nat),0,M.1.getD 0 0,M.1.getD 1 0,M.1.getD 2 0,M.1.getD 3 0,ms.1,(oO l (aI l ((aI l 3 (aI l 2 g.2).2).1+1) (aI l 4 (aI l 3 (aI l 2 g.2).2).2).2).2 (max (aI l 3 (aI l 2 g.2).2).1 1)).1,mkT ((aI l 9 (oO l (aI l ((aI l 3 (aI l 2 g.2).2).1+1) (aI l 4 (aI l 3 (aI l 2 g.2).2).2).2).2 (max (aI l 3 (aI l 2 g.2).2).1 1)).2).1:Nat) 8,mkT ((1+(aI l 4 (aI l 3 (aI l 2 g.2).2).2).1:Nat):Int) 1⟩:eG)=P at *
  have η:P.a2H=ms.1:=by rw[←ζ]
  obtain⟨rs,z1,z2,z3,z4,z5⟩:=ε.frz 5 rfl;have y1:=z4 0 _ aX rfl;have y2:=z4 1 _ aX rfl;have y3:=z4 2 _ aX rfl;have y4:=z4 3 _ aX rfl;have y5:=z4 4 _ aX rfl;simp only at y1 y2 y3 y4 y5;have y0:=T.frz o 1 rs;obtain⟨f0,f1,f2,f6,f7,f11,f13,f14⟩:=δ;simp only[go_sem,vf,f14,wZz i];refine IQ (i+1,e,H2.frz o 1 rs) z1 ⟨hlt,?_⟩ (by simp only;omega) ?_ b_
  ·rw[I];have eB:(E.boxes v (.int .i64 N) j u y A e .aE ms.2).map (λb=>(b.1,b.2.frz o 1 rs))=E.boxes v (.int .i64 N) j u y A e .aE ms.2:=by show[(E.o,cD.rows 2 [[PV.cT o 1 rs v,.int .i64 ms.2]]),(E.o7,cD.rows 7 [[.int .i64 N,PV.cT o 1 rs j,PV.cT o 1 rs u,PV.cT o 1 rs y,PV.cT o 1 rs A,PV.cT o 1 rs e,.aE]]),(E.o6,flZ)]=_;rw[y0,y1,y2,y3,y4,y5]
   have e5:(qQ g.1++[DC P (.osl o 1 0 ms.1.length)]).map (λr=>r.map (PV.cT o 1 rs))=qQ (g.1++[P]):=by
    rw[a5L,apQ];have:([DC P (.osl o 1 0 ms.1.length)]:List (List PV)).map (λr=>r.map (PV.cT o 1 rs))=[P.cells]:=by show[[PV.str P.name,.int .i64 P.k,.int .i64 P.m,.int .i64 P.a3F,.int .i64 P.s0,.int .i64 P.s1,.int .i64 P.s2,.int .i64 P.s3,.int .i64 P.s4,PV.cT o 1 rs (.osl o 1 0 ms.1.length),frs P.repair,.bool P.target.neg,aO P.target.num,aO P.target.den,.bool P.a2R.neg,aO P.a2R.num,aO P.a2R.den]]=_;rw[z2,←η];rfl
    rw[this];simp[qQ]
   have eL:(FE.lists j u y A e S U O R (qQ g.1++[DC P (.osl o 1 0 ms.1.length)])).map (λx=>(x.1,x.2.1,x.2.2.map λr=>r.map (PV.cT o 1 rs)))=FE.lists j u y A e S U O R (qQ (g.1++[P])):=by show[(j,4,(lS S).map _),(u,4,(nU U).map _),(y,7,(oH O).map _),(A,3,(rF R).map _),(e,17,(qQ g.1++[DC P (.osl o 1 0 ms.1.length)]).map _)]=_;rw[alR,amH,ahO,ahR,e5]
   rw[←eB,←eL];exact z5.sub (by rw[a5L];exact a7W ..) (a6B.refl _)
  ·(repeat' (first|exact c_|refine d_ ?_ ?_))<;>first|(simp only[go_sem,f0,f1,f2,f6,f7,f11,f13]<;>rfl)|rfl
 ·have B:¬(i:Int)<(n:Nat):=Om;have:i=n:=Om;subst this;simp only[go_sem,B];exact hK V _ _ (da Sq Sq Sq Sq Sq) W
theorem agJ{C:Ctx}(V:sB C){l:List Nat}{v:PV}(T:Tp l v)(E:FE)(pc n a:Nat)(hn:n≤60)(β:pc≤50)(ha:a≤Z' l)(ext B I J M j:PV)(A:List eG)(S:Z' A=pc)(L:List LI)(K:cP)(F:PF)(H:PH)
  (hF:(((jZ E).set 18 (.int .i64 n)).set 19 (.int .i64 0)).le F) (x:aN H (E.boxes v ext B I J M j .aE a) ((j,17,qQ A)::L))
  (hK:∀w U H',(jZ E).le U→aN H' (E.boxes v ext B I J M j w (gU l pc a n).2) ((j,17,qQ A)::L++[(w,2,tM (gU l pc a n).1)])→K (.exit 8) U H') :
  aC.wp C (.loop QK) K F H:=by
 refine wp_loop (α:=Nat × PV × PH) (λt=>((jZ E).set 18 (.int .i64 n)).set 19 (.int .i64 t.1)) (λt=>t.2.2) (λt=>t.1≤n∧aN t.2.2 (E.boxes v ext B I J M j t.2.1 (gU l pc a t.1).2) ((j,17,qQ A)::L++[(t.2.1,2,tM (gU l pc a t.1).1)])) (λt=>n-t.1) (0,.aE,H) ⟨a4A _,x.lW 2⟩ hF b_ ?_;rintro⟨i,w,H0⟩ ⟨hi,x⟩;simp only at hi x ⊢;obtain⟨k1,k2⟩:=ML l pc ha i;have y:gU l pc a (i+1)=((gU l pc a i).1++[⟨[118]++dC i,((aI l pc (gU l pc a i).2).1:Nat)⟩],(aI l pc (gU l pc a i).2).2):=rfl;simp only[go_sem,QK,vi,jZ];by_cases hlt:i<n
 ·have u:(i:Int)<(n:Nat):=Om;generalize hg:gU l pc a i=g at *
  have X:=x.set 0 rfl (bE v (aI l pc g.2).2);generalize O:aI l pc g.2=z at *
  have Z:=x.at 1 rfl;have Y:=(x.own 0 rfl).zA;rw[a3V,S]at Y;have N:(PH.nil.set E.o7 (flB ext B I J M j w)).le H0:=e_ a_ Z;simp only[go_sem,u];refine aZ (PH.nil.set E.o7 (flB ext B I J M j w)) (mkS l v) N ?_;simp only[go_sem,vj];refine OJ V.toyP (s:=[118]) (n:=i) aX Om rfl N ?_;simp only[go_sem,Y];refine xG V.toHZ T (o:=E.o) (n:=pc) (a:=g.2) Om k1 rfl (x.at 0 rfl) ?_ ?_
  ·rw[O];exact e_ a_ (X.at 1 rfl)
  rw[O];have R:(1:Nat)*2≤16777216:=by decide
  simp only[go_sem,R,a4J,a4U,or_false,forall_eq,forall_eq_or_imp];refine X.append (v:=w) (s:=2) (rows:=tM g.1) (Z' L+1) (src:=[(⟨[118]++dC i,(z.1:Nat)⟩:hC).cells]) aW rfl (by unfold roomFor;rw[a3V];simp only[a4E,maxLen];omega) λw' H2 h5 hw=>?_;obtain⟨q,rfl⟩:=hw aW;rw[show((j,17,qQ A)::L++[(w,2,tM g.1)])=((j,17,qQ A)::L)++[(w,2,tM g.1)]from rfl,a7O _ _ aW,show L.length+1-((j,17,qQ A)::L).length=0 by simp]at h5;have W:=h5.at 1 rfl;refine⟨e_ a_ W,?_⟩;refine aZ .nil cI a_ ?_;simp only[go_sem,vk,W,a4J,a4U,or_false,forall_eq];have h6:=h5.set 1 rfl (flB ext B I J M j (.osl q 2 0 (tM g.1++[(⟨[118]++dC i,(z.1:Nat)⟩:hC).cells]).length));refine⟨a_,?_⟩;simp only[go_sem,vl,wZz i];refine aH (i+1,.osl q 2 0 (tM g.1++[(⟨[118]++dC i,(z.1:Nat)⟩:hC).cells]).length,_) ⟨hlt,?_⟩ (by simp only;omega) ?_ b_
  ·rw[y];have e:tM (g.1++[⟨[118]++dC i,(z.1:Nat)⟩])=tM g.1++[(⟨[118]++dC i,(z.1:Nat)⟩:hC).cells]:=by simp[tM]
   simp only;rw[e];exact h6
  ·exact Lq
 ·have u:¬(i:Int)<(n:Nat):=Om;have:i=n:=Om;subst this;simp only[go_sem,u];exact hK w _ _ (da rfl rfl rfl rfl rfl) x
def VN(l:List Nat)(v:PV)(o a2G a2I a:Nat)(r:PV)(H:PH):Prop:=Co r (.agg (iH l a2G a2I a).1.cells)∧H=PH.nil.set o (bE v (iH l a2G a2I a).2)
structure Oe(C:Ctx):Prop extends sB C where
 grow:∀(l:List Nat)(v:PV),Tp l v→∀(mc a2G:Nat),0<mc→mc≤1000→a2G≤60→rz C l v mc a2G 4
theorem aCH{C:Ctx}(R:Oe C){l:List Nat}{v:PV}(T:Tp l v)(o a2G a2I a:Nat)(Δ:a2G≤60)(Ψ:a2I≤50)(ha:a≤Z' l) :
  KI.wp C (aV Vd.res (VN l v o a2G a2I a)) (PF.args [.ptr o 2 0 0,.int .i64 a2G,.int .i64 a2I]) (PH.nil.set o (bE v a)):=by
 have hT:iH l a2G a2I a=iH l a2G a2I a:=rfl
 conv at hT=>rhs;unfold iH
 dsimp only at hT;have hR:∀r H,VN l v o a2G a2I a r H↔Co r (.agg (iH l a2G a2I a).1.cells)∧H=PH.nil.set o (bE v (iH l a2G a2I a).2):=λ_ _=>Iff.rfl;have ne:=dQ l (show 0<2 by decide) a;have ae:=bZ l 2 ha;generalize he:aI l 2 a=e at *
 have Ω:=dQ l (show 0<2 by decide) e.2;have ζ:=bZ l 2 ae;generalize Θ:aI l 2 e.2=O at *
 obtain⟨S,δ⟩:=QA l ζ (1+O.1);generalize α:kX l O.2 (1+O.1)=a2O at *
 have a':=dQ l (show 0<2 by decide) a2O.2;have η:=bZ l 2 S;generalize Λ:aI l 2 a2O.2=u at *
 obtain⟨U,Y⟩:=ED l (1+O.1) η (1+u.1);generalize W:gR l (1+O.1) u.2 (1+u.1)=a2H at *
 have κ:GOk l a2G ⟨[qS],[],a2H.2⟩:=⟨by simp,a4A _,U⟩;obtain⟨hG,-⟩:=PN (mc:=1+u.1) 4 0 κ;generalize hg:iJ l (1+u.1) a2G 4 0 ⟨[qS],[],a2H.2⟩=g at *
 have b':=dQ l (show 0<2 by decide) g.a;have θ:=bZ l 2 hG.a;generalize Φ:aI l 2 g.a=pl at *
 obtain⟨V,ε⟩:=zP l (1+u.1) θ (1+pl.1);generalize β:fH l (1+u.1) pl.2 (1+pl.1)=pols at *
 have c':=dQ l (Om:0<a2I+1) pols.2;have σ:=bZ l (a2I+1) V;generalize ο:aI l (a2I+1) pols.2=vo at *
 generalize γ:gU l (1+pl.1) vo.2 vo.1=vols at *
 have ee:IntKind.i64.wrap (1+(e.1:Int))=((1+e.1:Nat):Int):=by rw[wrap_i64 Om Om];omega
 have τ:IntKind.i64.wrap (1+(O.1:Int))=((1+O.1:Nat):Int):=by rw[wrap_i64 Om Om];omega
 have υ:IntKind.i64.wrap (1+(u.1:Int))=((1+u.1:Nat):Int):=by rw[wrap_i64 Om Om];omega
 have χ:IntKind.i64.wrap (1+(pl.1:Int))=((1+pl.1:Nat):Int):=by rw[wrap_i64 Om Om];omega
 have ψ:IntKind.i64.wrap ((a2I:Int)+1)=((a2I+1:Nat):Int):=eI Om;have h0:aN (PH.nil.set o (bE v a)) [(o,bE v a)] []:=aN.nil.new (H:=PH.nil) rfl (bE v a);simp only[go_sem,KI,Gi,Vd];refine aQ λo6 μ=>?_;have w:=h0.new μ flZ;simp only[go_sem,Gj];refine eQ R.toHZ T (o:=o) (n:=2) (a:=a) aX ha rfl (w.at 0 rfl) ?_;have A:=w.set 0 rfl (bE v e.2);rw[he];simp only[go_sem,ee];refine aQ λo7 ν=>?_;have J:=A.new ν (flB (.int .i64 (1+e.1:Nat)) .aE .aE .aE .aE .aE .aE);simp only[go_sem,Gk,a4J,a4U,or_false,forall_eq,forall_eq_or_imp];refine eQ R.toHZ T (o:=o) (n:=2) (a:=e.2) aX ae rfl (J.at 0 rfl) ?_;have h4:=J.set 0 rfl (bE v O.2);rw[Θ];have h5:=h4.perm (B':=FE.boxes ⟨o,o6,o7,a2G,a2I⟩ v (.int .i64 (1+e.1:Nat)) .aE .aE .aE .aE .aE .aE O.2) (L':=[]) (a6I.cons _ (a6I.swap _ _ _)) (a6I.refl _);obtain⟨E,j⟩:∃E:FE,E=⟨o,o6,o7,a2G,a2I⟩:=⟨_,rfl⟩;rw[←j]at h5;simp only[go_sem,τ,Gl];refine aJB (C:=C) R.tosB T E (1+O.1) O.2 Om ζ _ _ _ _ ?_ h5 ?_
 ·rw[j];unfold jZ;exact Lq
 clear h5 h4 J A w h0 μ ν;intro y F1 H1 K w;rw[α]at w;have f0:F1 0=some (.ptr o 2 0 0):=K 0 _ (by rw[j];unfold jZ;simp only[go_sem]);have f1:F1 1=some (.int .i64 a2G):=K 1 _ (by rw[j];unfold jZ;simp only[go_sem]);have f2:F1 2=some (.int .i64 a2I):=K 2 _ (by rw[j];unfold jZ;simp only[go_sem]);have f6:F1 6=some (.ptr o6 7 0 0):=K 6 _ (by rw[j];unfold jZ;simp only[go_sem]);have f7:F1 7=some (.ptr o7 7 0 0):=K 7 _ (by rw[j];unfold jZ;simp only[go_sem]);have Z:=w.at 0 rfl;rw[j]at Z;simp only[go_sem,uv,f0];refine eQ R.toHZ T (o:=o) (n:=2) (a:=a2O.2) aX S rfl Z ?_;have A:=w.set 0 rfl (bE v u.2);rw[Λ];simp only[go_sem,υ,uw];refine axE (C:=C) R.tosB T E (1+u.1) u.2 (1+O.1) Om Om η (.int .i64 (1+e.1:Nat)) y a2O.1 δ _ _ _ ?_ (by rw[j]at A ⊢;exact A) ?_
 ·rw[j];unfold jZ;exact Lq
 clear Z A w f0 f1 f2 f6 f7 K;intro w2 F2 H2 M f11 A;rw[W]at A;have f0:F2 0=some (.ptr o 2 0 0):=M 0 _ (by rw[j];unfold jZ;simp only[go_sem]);have f1:F2 1=some (.int .i64 a2G):=M 1 _ (by rw[j];unfold jZ;simp only[go_sem]);have f2:F2 2=some (.int .i64 a2I):=M 2 _ (by rw[j];unfold jZ;simp only[go_sem]);have f6:F2 6=some (.ptr o6 7 0 0):=M 6 _ (by rw[j];unfold jZ;simp only[go_sem]);have f7:F2 7=some (.ptr o7 7 0 0):=M 7 _ (by rw[j];unfold jZ;simp only[go_sem]);obtain⟨qm,ξ⟩:=(A.own 1 rfl).one (by rw[a3V];omega);rw[a3V,Y]at ξ;subst ξ;have ω:(1:Nat)*7≤16777216:=by decide
 simp only[go_sem,u5];refine aB (R.int 0 (by unfold eP;omega)) rfl ?_;simp only[go_sem,a4J,a4U,or_false,forall_eq,forall_eq_or_imp,ω];refine aQ λod Ξ=>?_;have J:=A.C2 (s:=7) (rows:=oH [qS]) Ξ;have b7:=A.at 1 rfl;rw[j]at b7;have n7:¬o7=od:=by have:=J.neL 1 2 rfl rfl rfl;rw[j]at this;exact this
 simp only[go_sem,f7,b7,n7,a4J,a4U,or_false,forall_eq];have h4:=(J.set 1 rfl (flB (.int .i64 (1+e.1:Nat)) y (.osl qm 4 0 (1+u.1)) (.osl od 7 0 1) .aE .aE .aE)).lW 3;rw[j]at h4;have h5:=h4.perm (B':=(GE.mk o o7 qm (.int .i64 (1+e.1:Nat)) y .aE .aE).boxes v (1+u.1) (.osl od 7 0 1) .aE a2H.2++[(o6,flZ)]) (L':=qP ⟨[qS],[],a2H.2⟩ (.osl od 7 0 1) .aE++[(y,4,lS a2O.1),(.osl qm 4 0 (1+u.1),4,nU a2H.1)]) (a6I.refl _)
  (List.perm_append_comm (l₁:=[(y,4,lS a2O.1),(.osl qm 4 0 (1+u.1),4,nU a2H.1)]) (l₂:=qP ⟨[qS],[],a2H.2⟩ (.osl od 7 0 1) .aE))
 simp only[go_sem,u6,f0,f1,f7];refine MS h5 (λH0 Γ=>R.grow l v T (1+u.1) a2G Om Om Δ (GE.mk o o7 qm (.int .i64 (1+e.1:Nat)) y .aE .aE) (.osl od 7 0 1) .aE ⟨[qS],[],a2H.2⟩ 0 qS κ rfl rfl H0 Γ) (by simp only[go_sem,f0,f1,f7];rfl) ?_;rintro r B' L' H3 ⟨rfl,F,I,rfl,rfl⟩ h6;rw[hg]at h6;have h7:=h6.perm (B':=E.boxes v (.int .i64 (1+e.1:Nat)) y (.osl qm 4 0 (1+u.1)) F I .aE .aE g.a) (L':=[(y,4,lS a2O.1),(.osl qm 4 0 (1+u.1),4,nU a2H.1),(F,7,oH g.a2Q),(I,3,rF g.a3A)]) (by rw[j];exact a6I.refl _)
  (List.perm_append_comm (l₁:=qP g F I) (l₂:=[(y,4,lS a2O.1),(.osl qm 4 0 (1+u.1),4,nU a2H.1)]))
 have Z:=h7.at 0 rfl;rw[j]at Z;simp only[go_sem,u7,f0];refine eQ R.toHZ T (o:=o) (n:=2) (a:=g.a) aX hG.a rfl Z ?_;have h8:=h7.set 0 rfl (bE v pl.2);rw[Φ];simp only[go_sem,χ,u9];refine Vc (C:=C) R.tosB T E (1+u.1) (1+pl.1) pl.2 Om Om Om θ ((1+e.1:Nat):Int) y (.osl qm 4 0 (1+u.1)) F I a2O.1 a2H.1 g.a2Q g.a3A _ _ _ (by rw[j];exact⟨by simp only[go_sem,f0],by simp only[go_sem,f1],by simp only[go_sem,f2],by simp only[go_sem,f6],by simp only[go_sem,f7],by simp only[go_sem,f11],by simp only[go_sem],by simp only[go_sem];rfl⟩) (by rw[j]at h8 ⊢;exact h8) ?_;clear h8 h7 h6 h5 h4 J A Z b7 f0 f1 f2 f6 f7 M;intro w5 F4 H4 N w;rw[β]at w;have f0:F4 0=some (.ptr o 2 0 0):=N 0 _ (by rw[j];unfold jZ;simp only[go_sem]);have f1:F4 1=some (.int .i64 a2G):=N 1 _ (by rw[j];unfold jZ;simp only[go_sem]);have f2:F4 2=some (.int .i64 a2I):=N 2 _ (by rw[j];unfold jZ;simp only[go_sem]);have f6:F4 6=some (.ptr o6 7 0 0):=N 6 _ (by rw[j];unfold jZ;simp only[go_sem]);have f7:F4 7=some (.ptr o7 7 0 0):=N 7 _ (by rw[j];unfold jZ;simp only[go_sem]);have Z:=w.at 0 rfl;rw[j]at Z;simp only[go_sem,vg,f0,f2,ψ];refine eQ R.toHZ T (o:=o) (n:=a2I+1) (a:=pols.2) Om V rfl Z ?_;have A:=w.set 0 rfl (bE v vo.2);rw[ο];have J:=A.perm (B':=E.boxes v (.int .i64 (1+e.1:Nat)) y (.osl qm 4 0 (1+u.1)) F I w5 .aE vo.2) (L':=(w5,17,qQ pols.1)::[(y,4,lS a2O.1),(.osl qm 4 0 (1+u.1),4,nU a2H.1),(F,7,oH g.a2Q),(I,3,rF g.a3A)]) (a6I.refl _)
  (List.perm_append_comm (l₁:=[(y,4,lS a2O.1),(.osl qm 4 0 (1+u.1),4,nU a2H.1),(F,7,oH g.a2Q),(I,3,rF g.a3A)]) (l₂:=[(w5,17,qQ pols.1)]))
 simp only[go_sem,vh];refine agJ (C:=C) R.tosB T E (1+pl.1) vo.1 vo.2 Om Om σ _ _ _ _ _ w5 pols.1 ε _ _ _ _ ?_ (by rw[j]at J ⊢;exact J) ?_
 ·rw[j];unfold jZ;exact Lq
 clear J A w Z f0 f1 f2 f6 f7 N;intro w6 F5 H5 ι w;rw[γ]at w;have f6:F5 6=some (.ptr o6 7 0 0):=ι 6 _ (by rw[j];unfold jZ;simp only[go_sem]);have f7:F5 7=some (.ptr o7 7 0 0):=ι 7 _ (by rw[j];unfold jZ;simp only[go_sem]);rw[j]at w;have b7:=w.at 1 rfl;have b6:=w.at 2 rfl;have one:∀(x:PV),x∈[y,F,I,w5,w6]→(∃q s n,x=.osl q s 0 n)∨x=.aE:=by
  intro x hx;have X:∀{s:Nat}{rows:List (List PV)},cZ H5 s x rows→(∃q s n,x=.osl q s 0 n)∨x=.aE:=by
   rintro s rows (⟨_,h⟩|⟨q,rs,h,_⟩)
   ·exact .inr h
   ·exact .inl ⟨q,s,_,h⟩
  simp only[a4J,a4U,or_false]at hx;rcases hx with rfl|rfl|rfl|rfl|rfl
  ·exact X (w.own 1 rfl)
  ·exact X (w.own 3 rfl)
  ·exact X (w.own 4 rfl)
  ·exact X (w.own 0 rfl)
  ·exact X (w.own 5 rfl)
 have B:∀(x:PV),x∈[y,F,I,w5,w6]→PV.one x=true:=λx hx=>by rcases one x hx with⟨q,s,n,rfl⟩|rfl<;>rfl
 have o1:=B y aW;have o3:=B F aW;have o4:=B I aW;have o5:=B w5 aW;have ρ:=B w6 aW;simp only[PV.one]at o1 o3 o4 o5 ρ;simp only[go_sem,vm,f6,f7,b7,b6,a4J,a4U,or_false,forall_eq,forall_eq_or_imp,o1,o3,o4,o5,ρ];have A:=w.set 2 rfl (flB (.int .i64 (1+e.1:Nat)) y (.osl qm 4 0 (1+u.1)) F I w5 w6);have J:=A.sub (B':=[(o,bE v vols.2)]) (a6B.cons_cons _ (List.nil_sublist _)) (a6B.refl _);obtain⟨φ,H6,k1,k2,k3,k4⟩:=aN.giveUp _ J (λx hx=>by
  simp only[a7L,a7C,a4J,a4U,or_false]at hx;rcases hx with rfl|rfl|rfl|rfl|rfl|rfl
  ·exact apQ _
  ·exact alR _
  ·exact amH _
  ·exact ahO _
  ·exact ahR _
  ·exact aRW _) (λb hb q s rs=>by
  simp only[a4J,a4U,or_false]at hb;subst hb;simp only[cD.frz,a5D,a6L,T.frz];rfl)
 refine oA (vs:=[.agg [.int .i64 (1+e.1:Nat),y,.osl qm 4 0 (1+u.1),F,I,w5,w6]]) (.inr rfl) (by simp only[go_sem,f6]) (k4 _ _ (.done (H2:=PH.nil.set o (bE v vols.2)) ?_ (e_ a_ (k3.at 0 rfl))));rw[hR,hT];refine⟨CoL.agg ?_,rfl⟩;have s5:=k1 (w5,17,qQ pols.1) aW;have s1:=k1 (y,4,lS a2O.1) aW;have s2:=k1 (.osl qm 4 0 (1+u.1),4,nU a2H.1) aW;have s3:=k1 (F,7,oH g.a2Q) aW;have s4:=k1 (I,3,rF g.a3A) aW;have s6:=k1 (w6,2,tM vols.1) aW;have s0:φ (.int .i64 (1+e.1:Nat))=.int .i64 (1+e.1:Nat):=k2 _ rfl;show CoL [φ (.int .i64 (1+e.1:Nat)),φ y,φ (.osl qm 4 0 (1+u.1)),φ F,φ I,φ w5,φ w6] _;rw[s0];exact CoL.cons (.refl _) (CoL.cons s1.co (CoL.cons s2.co (CoL.cons s3.co (CoL.cons s4.co (CoL.cons s5.co (CoL.cons s6.co .nil))))))
structure aAN(C:Ctx):Prop extends Oe C where
 new:∀(l:List Nat),(∀x∈l,x<256)→Z' l≤9223372036854775807→aJ C 28 [.sl 1 (mF l)] .nil (OE l)
 fleet:∀(l:List Nat)(v:PV),Tp l v→∀(o a2G a2I a:Nat),a2G≤60→a2I≤50→a≤Z' l →
  aJ C 0 [.ptr o 2 0 0,.int .i64 a2G,.int .i64 a2I] (PH.nil.set o (bE v a)) (λr H=>r=.agg (iH l a2G a2I a).1.cells∧H=PH.nil.set o (bE v (iH l a2G a2I a).2))
theorem VN.exact{C:Ctx}{name:Nat}{args:List PV}{H:PH}{l:List Nat}{v:PV}{o a2G a2I a:Nat}(h:aJ C name args H (VN l v o a2G a2I a)):aJ C name args H (λr H=>r=.agg (iH l a2G a2I a).1.cells∧H=PH.nil.set o (bE v (iH l a2G a2I a).2)):=
 h.post λr H' e=>⟨_,e.1,rfl,e.2⟩
theorem aCF{C:Ctx}(y:aAN C)(l:List Nat)(hb:∀x∈l,x<256)(B:Z' l≤9223372036854775807)(a2G a2I:Nat)(j:a2G≤60)(w:a2I≤50) :
  KF.wp C (aV Us.res (cY (.agg (iH (l.take 400) a2G a2I 0).1.cells))) (PF.args [.sl 1 (mF l),.int .i64 a2G,.int .i64 a2I]) .nil:=by
 simp only[go_sem,KF,Gc,Us];refine aQ λo6 E=>?_;simp only[go_sem,Gd];refine eY (y.new l hb B) rfl a_ ?_;rintro r H' ⟨o,v,rfl,T,rfl⟩ A;have u:¬o6=o:=by intro e;subst e;have:=A o6 (bE v 0) (by rw[aU,aL rfl]) rfl;rw[aU,aL rfl]at this;cases this
 rw[PH.qL];simp only[go_sem];refine pU (y.fleet _ v T o a2G a2I 0 j w (a4A _)) (by rw[aU,aL rfl]) rfl ?_;simp only[go_sem,u];exact bD (vs:=[.agg (iH (l.take 400) a2G a2I 0).1.cells]) (.inr rfl) .nil Sq a_ ⟨.refl _,rfl⟩
theorem CoL.aJW:CoL [] []:=⟨rfl,λj p q h=>by simp at h⟩
theorem CoL.IA{p q:PV}{ps l:List PV}(h:Co p q)(e:CoL ps l):CoL (p::ps) (q::l):=by
 refine⟨by simp[e.len],λj x y a b=>?_⟩;cases j with
 |zero =>simp only[List.getElem?_cons_zero,a6H.injEq]at a b;subst a;subst b;exact h
 |succ j=>exact e.at_ j x y (by simpa using a) (by simpa using b)
theorem aJ.seen{C:Ctx}{name:Nat}{args:List PV}{H:PH}{v:PV}(h:aJ C name args H (cY v)):aJ C name args H (aK v):=
 h.post λr H' e=>⟨v,e.1,rfl,e.2⟩
def dl(x:RF):Bool:=(x.num.all (λn=>decide (n<4294967296))&&x.den.all λn=>decide (n<4294967296))&&(decide (Z' x.num≤9)&&decide (Z' x.den≤9))
theorem SJ{x:RF}(h:dl x=true):x.Ok:=by
 simp only[dl,a4P,a4T,decide_eq_true_eq]at h;exact⟨h.1.1,h.1.2,by omega,by omega⟩
def NW(l:List RF):Bool:=decide (Z' l≤9)&&l.all dl
theorem JA{l:List RF}(h:NW l=true):nY l:=by
 simp only[NW,a4P,a4T,decide_eq_true_eq]at h;exact⟨by unfold Fits;omega,λx e=>SJ (h.2 x e)⟩
def T7(x:dJ):Bool:=(NW x.start&&NW x.exit)&&(decide (Z' x.a2L≤9)&&x.a2L.all NW)
theorem aBY{x:dJ}(h:T7 x=true):x.Ok:=by
 simp only[T7,a4P,a4T,decide_eq_true_eq]at h;exact⟨JA h.1.1,JA h.1.2,by unfold Fits;omega,λr e=>JA (h.2.2 r e)⟩
def Yi(x:eG):Bool:=(decide (eP x.k∧eP x.m∧eP x.a3F)&&(decide (Z' x.a2H≤9)&&x.a2H.all λm=>decide (eP m)))&&(NW x.repair&&(dl x.target&&dl x.a2R))
theorem aDY{x:eG}(h:Yi x=true):x.Ok:=by
 simp only[Yi,a4P,a4T,decide_eq_true_eq]at h;exact⟨h.1.1.1,h.1.1.2.1,h.1.1.2.2,by unfold Fits;omega,h.1.2.2,JA h.2.1,SJ h.2.2.1,SJ h.2.2.2⟩
def okB(f:aD):Bool:=(decide (Z' f.a2O≤99∧Z' f.a2H≤99∧Z' f.a2J≤99∧Z' f.a2G≤99∧Z' f.a2K≤99∧Z' f.a2I≤99)&&(f.a2O.all T7&&f.a2K.all Yi)) &&
 (f.a2J.all (λx=>dl x.a2W&&decide (eP x.level∧eP x.parent))&&(f.a2G.all (λx=>decide (eP x.model∧eP x.machine))&&f.a2I.all λx=>decide (eP x.a2T)))
theorem aTU{f:aD}(h:okB f=true):f.Ok:=by
 simp only[okB,a4P,a4T,decide_eq_true_eq]at h;obtain⟨⟨⟨y,A,B,E,F,I⟩,l,u⟩,j,w,h5⟩:=h;exact⟨by unfold Fits;omega,by unfold Fits;omega,by unfold Fits;omega,by unfold Fits;omega,by unfold Fits;omega,by unfold Fits;omega,λx e=>aBY (l x e),λx e=>⟨SJ (j x e).1,(j x e).2⟩,w,λx e=>aDY (u x e),h5⟩
noncomputable def gX:aD:={ (iH [] 1 0 0).1 with a2I:=[⟨[118,48],0⟩] }
theorem nA:dX gX=true:=by decide +kernel
theorem yF:gX.Ok:=aTU (by decide +kernel)
theorem agS:CI gX [[0]] []=true:=by
 unfold CI azT;rw[nA,aL rfl,aL (by decide +kernel)];decide +kernel
def iD:=bP [43] Proofs.Tryz.f166
def Kx:=aA iD 0
def Ky:=aA iD 1
def Kz:=aA iD 2
def K0:=aA iD 3
def K3:=aA iD 4
def K4:=aA iD 5
def K5:=aA iD 6
def K6:=aA iD 7
def ZX:=aA iD 8
def ZY:=aA iD 9
def TK:=aA iD 10
def TL:=aA iD 11
def TM:=aA iD 12
def EQ:=aA iD 13
def ER:=aA iD 14
def yz:aC:=(dS K3 13 0 ER (sq K4 (jA K5 20 (.region K6) (sq ZX (sq ZY (jA TK 35 (sq TL (.region TM)) (.region EQ)))))))
def y6:=aA iD 15
def MH:aC:=(sq Kx (sq Ky (sq Kz (.seq (cL K0 0 yz) (sq y6 .ret)))))
def acL:bA:=⟨2,47,MH,[.tmp 4]⟩
def kO:=bP [51] Proofs.Tryz.f171
def acN:=aA kO 0
def acO:=aA kO 1
def acP:=aA kO 2
def acQ:=aA kO 3
def acR:=aA kO 4
def qo:=aA kO 5
def qp:=aA kO 6
def qq:=aA kO 7
def TO:=aA kO 8
def TP:=aA kO 9
def JI:=aA kO 10
def JJ:=aA kO 11
def JK:=aA kO 12
def K7:aC:=(dS acR 22 0 JK (sq qo (jA qp 29 (.region qq) (jA TO 40 (.region TP) (sq JI (.region JJ))))))
def ai:=aA kO 13
def TN:aC:=(sq acN (sq acO (sq acP (.seq (cL acQ 0 K7) (sq ai .ret)))))
def azL:bA:=⟨2,57,TN,[.tmp 4]⟩
def jT:=bP [] Proofs.Tryz.f165
def K8:=aA jT 0
def K9:=aA jT 1
def La:=aA jT 2
def Lc:=aA jT 3
def an:=aA jT 4
def ao:=aA jT 5
def Ld:=aA jT 6
def Le:=bY jT 0
def Lf:=aA jT 7
def Lg:=aA jT 8
def y9:=aA jT 9
def TQ:aC:=(dS Ld 25 2 y9 (dq Le (sq Lf (.region Lg))))
def TR:=aA jT 10
def za:=aA jT 11
def y8:aC:=(dS Lc 19 0 za (sq an (.seq (cL ao 2 TQ) (.region TR))))
def zb:=aA jT 12
def MI:aC:=(sq K8 (sq K9 (.seq (cL La 0 y8) (sq zb .ret))))
def acS:bA:=⟨2,68,MI,[.tmp 4]⟩
def uX:=bP [] Proofs.Tryz.f155
def arF:=aA uX 0
def arG:=aA uX 1
def Dw:=aA uX 2
def arH:=aA uX 3
def arI:=aA uX 4
def arJ:=aA uX 5
def arK:=aA uX 6
def ZR:aC:=(sq arF (dN arG 12 Dw (sq arH (dN arI 19 arJ (sq arK .ret)))))
def aLL:bA:=⟨2,21,ZR,[.tmp 4,.tmp 5]⟩
def yI:=bP [] Proofs.Tryz.f157
def asP:=aA yI 0
def asQ:=aA yI 1
def D1:=aA yI 2
def asR:=aA yI 3
def asS:=aA yI 4
def asT:=aA yI 5
def al:aC:=(sq asP (dN asQ 11 D1 (dN asR 15 asS (sq asT .ret))))
def aMA:bA:=⟨2,21,al,[.tmp 4,.tmp 5]⟩
def uZ:=bP [] Proofs.Tryz.f158
def asJ:=aA uZ 0
def asK:=aA uZ 1
def D0:=aA uZ 2
def asL:=aA uZ 3
def asM:=aA uZ 4
def asN:=aA uZ 5
def asO:=aA uZ 6
def ZZ:aC:=(sq asJ (dN asK 12 D0 (sq asL (dN asM 19 asN (sq asO .ret)))))
def aLT:bA:=⟨2,21,ZZ,[.tmp 4,.tmp 5]⟩
def oF:=bP [] Proofs.Tryz.f163
def abL:=aA oF 0
def abM:=aA oF 1
def abN:=aA oF 2
def abO:=aA oF 3
def abP:=aA oF 4
def abQ:=aA oF 5
def abR:=aA oF 6
def abS:=aA oF 7
def abT:=aA oF 8
def abK:aC:=(dS abR 21 0 abT (.region abS))
def Ks:=aA oF 9
def TE:aC:=(sq abL (sq abM (dN abN 9 abO (sq abP (.seq (cL abQ 0 abK) (sq Ks .ret))))))
def azD:bA:=⟨1,27,TE,[.tmp 2]⟩
def pB:=bP [35,42] Proofs.Tryz.f164
def aFH:=aA pB 0
def aFI:=aA pB 1
def aFJ:=aA pB 2
def aFK:=aA pB 3
def aFL:=aA pB 4
def aFM:=aA pB 5
def aFN:=aA pB 6
def aFO:=aA pB 7
def aFP:=aA pB 8
def aFQ:=aA pB 9
def asV:=aA pB 10
def asU:aC:=(dS aFN 18 0 asV (sq aFO (sq aFP (.region aFQ))))
def asW:=aA pB 11
def qu:aC:=(sq aFH (dN aFI 11 aFJ (sq aFK (sq aFL (.seq (cL aFM 0 asU) (sq asW .ret))))))
def uup:bA:=⟨2,45,qu,[.tmp 4]⟩
def mE:=bP [47] Proofs.Tryz.f167
def abZ:=aA mE 0
def acA:=aA mE 1
def acB:=aA mE 2
def acC:=aA mE 3
def acD:=aA mE 4
def acE:=aA mE 5
def acF:=aA mE 6
def acG:=aA mE 7
def acH:=aA mE 8
def qn:=aA mE 9
def ZV:=aA mE 10
def Kt:aC:=(dS acE 18 0 ZV (sq acF (jA acG 30 (.region acH) (.region qn))))
def Ku:=aA mE 11
def TI:aC:=(sq abZ (dN acA 12 acB (sq acC (.seq (cL acD 0 Kt) (sq Ku .ret)))))
def azH:bA:=⟨2,51,TI,[.tmp 4]⟩
def ja:=bP [1] Proofs.Tryz.f67
def L3:=aA ja 0
def L4:=aA ja 1
def MP:aC:=(sq L3 (sq L4 .ret))
def aeB:bA:=⟨1,22,MP,[.tmp 2]⟩
def i9:=bP [1] Proofs.Tryz.f172
def Lj:=aA i9 0
def Lk:=aA i9 1
def MK:aC:=(sq Lj (sq Lk .ret))
def adH:bA:=⟨1,13,MK,[.tmp 2]⟩
def ES:=bP [1] Proofs.Tryz.f156
def adC:=aA ES 0
def adD:=aA ES 1
def adE:=aA ES 2
def adF:=aA ES 3
def TT:aC:=(sq adC (dN adD 5 adE (sq adF .ret)))
def azR:bA:=⟨1,8,TT,[.cell 2 (some 3),.tmp 3]⟩
def AB:=bP [1] Proofs.Tryz.f105
def zm:=aA AB 0
def zn:=aA AB 1
def zo:=aA AB 2
def zp:=aA AB 3
def HQ:aC:=(sq zm (dN zn 6 zo (sq zp .ret)))
def D5:bA:=⟨1,15,HQ,[.cell 2 (some 3),.tmp 3]⟩
def MO:=bP [] Proofs.Tryz.f140
def Lx:=aA MO 0
def Ly:=aA MO 1
def Lz:=aA MO 2
def MN:aC:=(sq Lx (sq Ly (sq Lz .ret)))
def aeA:bA:=⟨2,14,MN,[.tmp 4]⟩
def mS:=bP [2,3] Proofs.Tryz.f104
def Ll:=aA mS 0
def Lm:=bY mS 0
def Ln:=aA mS 1
def Lo:=aA mS 2
def Lp:=aA mS 3
def Lr:=aA mS 4
def Ls:=aA mS 5
def Lt:=aA mS 6
def Lu:=aA mS 7
def Lw:=aA mS 8
def MM:aC:=(sq Ll (dq Lm (sq Ln (.seq (.block 0 (sq Lo (.cond (Tm 33) (sq Lp .ret) (sq Lr (.cond (Tm 39) (sq Ls .ret) (sq Lt (.cond (Tm 45) (sq Lu .ret) .skip))))))) (sq Lw .ret)))))
def adQ:bA:=⟨2,53,MM,[.tmp 4]⟩
def ze:=bP [2,3] Proofs.Tryz.f108
def adI:=aA ze 0
def adJ:=aA ze 1
def TV:aC:=(sq adI (sq adJ .ret))
def azU:bA:=⟨2,9,TV,[.tmp 4]⟩
def zq:=bP [2,3] Proofs.Tryz.f102
def adR:=aA zq 0
def adS:=aA zq 1
def TZ:aC:=(sq adR (sq adS .ret))
def azX:bA:=⟨2,9,TZ,[.tmp 4]⟩
def zr:=bP [1] Proofs.Tryz.f68
def adT:=aA zr 0
def adU:=bY zr 0
def UA:aC:=(sq adT (dq adU .ret))
def azY:bA:=⟨1,6,UA,[.tmp 2]⟩
def nL:=bP [2,3] Proofs.Tryz.f139
def asX:=aA nL 0
def asY:=aA nL 1
def D2:=aA nL 2
def asZ:=bY nL 0
def atA:=aA nL 3
def atB:=aA nL 4
def atC:=aA nL 5
def atD:=aA nL 6
def atE:=aA nL 7
def atF:=aA nL 8
def acY:=aA nL 9
def acZ:=aA nL 10
def JL:aC:=(sq asX (dN asY 22 D2 (dq asZ (jA atA 43 (sq atB (sq atC .ret)) (jA atD 61 (sq atE (sq atF .ret)) (sq acY (sq acZ .ret)))))))
def azO:bA:=⟨2,90,JL,[.cell 4 (some 3),.tmp 5]⟩
def pT:=bP [] Proofs.Tryz.f101
def atL:=aA pT 0
def atM:=aA pT 1
def atN:=aA pT 2
def atO:=aA pT 3
def atP:=bY pT 0
def D6:=aA pT 4
def atQ:=aA pT 5
def atS:=aA pT 6
def atT:=aA pT 7
def atK:aC:=(dS atO 12 0 atT (dq atP (dN D6 25 atQ (.region atS))))
def adZ:=aA pT 8
def ay:aC:=(sq atL (sq atM (.seq (cL atN 0 atK) (sq adZ .ret))))
def aML:bA:=⟨1,30,ay,[.cell 2 (some 3),.tmp 3]⟩
def yd:=bP [] Proofs.Tryz.f106
def BA:=aA yd 0
def BB:=aA yd 1
def tH:aC:=(sq BA (sq BB .ret))
def SO:bA:=⟨2,25,tH,[.tmp 4]⟩
def bd:=bP [] Proofs.Tryz.f137
def Ae:=aA bd 0
def Af:=aA bd 1
def HU:aC:=(sq Ae (sq Af .ret))
def Eb:bA:=⟨1,17,HU,[.tmp 2]⟩
def jb:=bP [] Proofs.Tryz.f154
def L5:=aA jb 0
def L6:=aA jb 1
def MR:aC:=(sq L5 (sq L6 .ret))
def aeC:bA:=⟨1,9,MR,[.tmp 2]⟩
def bc:=bP [] Proofs.Tryz.f138
def zt:=aA bc 0
def zu:=aA bc 1
def HS:aC:=(sq zt (sq zu .ret))
def D9:bA:=⟨1,17,HS,[.tmp 2]⟩
def nE:=bP [] Proofs.Tryz.f98
def zx:=aA nE 0
def zy:=aA nE 1
def EX:=aA nE 2
def zz:=aA nE 3
def z8:=aA nE 4
def Aa:=aA nE 5
def Ab:=aA nE 6
def Ac:=aA nE 7
def zw:aC:=(dS z8 21 0 Ac (sq Aa (.cond (Tm 28) (sq Ab .ret) .skip)))
def Ad:=aA nE 8
def HT:aC:=(sq zx (dN zy 17 EX (.seq (cL zz 0 zw) (sq Ad .ret))))
def Ea:bA:=⟨1,29,HT,[.tmp 2]⟩
theorem vW(P:List Nat)(v:Nat):aP P++[[.int .u32 (v:Int)]]=aP (P++[v]):=by simp[aP]
theorem vT{P:List Nat}(h:Z' P≤35184372087808):roomFor (aP P).length 1 4:=by
 unfold roomFor;rw[dE];simp only[maxLen];omega
def dt(a b:List Nat)(v:PV)(c i:Nat):PF:=(((((PF.nil.set 0 (aO a)).set 1 (aO b)).set 5 (v)).set 6 (.int .u64 c)).set 7 (.int .i64 i))
theorem aFF{C:Ctx}(L:vF C)(a b:List Nat)(ha:Lim a)(hb:Lim b)(η:val b≤val a)(hl:Z' b≤Z' a)(h1:Z' a≤35184372087808) :
  MH.wp C (aV acL.res (cY (aO (aM (val a-val b))))) (PF.args [aO a,aO b]) .nil:=by
 simp only[go_sem,MH,Kx,Ky,Kz,K0,acL];refine wp_loop (α:=List Nat × Nat × PV × PH) (λs=>dt a b s.2.2.1 s.2.1 s.1.length) (λs=>s.2.2.2)
  (λs=>s.1.length≤Z' a∧Lim s.1∧s.2.1≤1∧val (a.take s.1.length)+4294967296^s.1.length*s.2.1=val s.1+val (b.take s.1.length)∧cZ s.2.2.2 1 s.2.2.1 (aP s.1)) (λs=>Z' a-s.1.length) ([],0,.aE,.nil) ⟨by simp,by simp[Lim],by simp,by simp[val],.nil⟩ ?_ a_ ?_
 ·unfold dt;exact Lq
 rintro⟨P,c,v,H0⟩ ⟨hP,j,hc,B,W⟩;simp only at hP j hc B W ⊢;simp only[go_sem,yz,K3,dt];by_cases X:Z' P<Z' a
 ·have F:(Z' P:Int)<(Z' a:Nat):=Om;have ε:=ha _ (a3Y X);have δ:=dL a X;have β:(aP a)[Z' P]?=some [.int .u32 ((a[Z' P]:Nat):Int)]:=cM a X;generalize hx:a[Z' P]=x at *
  have ex:IntKind.u64.wrap ((x:Nat):Int)=((x:Nat):Int):=bO Om;have fin:∀(t:Nat)(E:PF),t<4294967296→val (b.take (Z' P+1))=val (b.take P.length)+4294967296^P.length*t →
    E 0=some (aO a)→E 1=some (aO b)→E 5=some v→E 8=some (.int .u64 (c+t:Nat))→E 7=some (.int .i64 P.length) →
    ∀K:cP,(∀A l v' V H2,Z' A=Z' P+1→Lim A→l≤1→val (a.take (Z' P+1))+4294967296^A.length*l=val A+val (b.take (Z' P+1))→(dt a b v' l A.length).le V→cZ H2 1 v' (aP A)→K .normal V H2) →
    aC.wp C (.seq (.region ZX) (.seq (.region ZY) (.seq (.seq (.region TK) (.cond (.tmp 35) (.seq (.region TL) (.region TM)) .skip)) (.region EQ)))) (gP 1 (kT C (aC.wp C (.region ER)) K)) E H0:=by
   intro t E ht w g0 g1 g5 g8 g7 K hK;have step:∀(d l:Nat),d<4294967296→l≤1→x+4294967296*l=d+(c+t)→val (a.take (Z' P+1))+4294967296^(Z' P+1)*l=val (P++[d])+val (b.take (Z' P+1)):=by
    intro d l hd ζ he;have h2:4294967296^P.length*(x+4294967296*l)=4294967296^P.length*(d+(c+t)):=by rw[he]
    rw[a4L,a4L,a4L]at h2;rw[nB,a5X,a4V,δ,w];omega
   simp only[go_sem,ZX,g0,g7,β,ex,ZY,TK,g8];by_cases c2:x<c+t
   ·have I:((x:Nat):Int)<((c+t:Nat):Int):=Om;have R:IntKind.u64.wrap ((x:Int)+4294967296)=((x+4294967296:Nat):Int):=by rw[show(x:Int)+4294967296=((x+4294967296:Nat):Int) by omega];exact bO Om
    have M:IntKind.u64.wrap (((x+4294967296:Nat):Int)-((c+t:Nat):Int))=((x+4294967296-(c+t):Nat):Int):=by rw[show((x+4294967296:Nat):Int)-((c+t:Nat):Int)=((x+4294967296-(c+t):Nat):Int) by omega];exact bO Om
    have N:IntKind.u32.wrap ((x+4294967296-(c+t):Nat):Int)=((x+4294967296-(c+t):Nat):Int):=by rw[dU,a5N Om]
    have O:(1:Nat)*1≤16777216:=by decide
    simp only[go_sem,I,TL,R,TM,EQ,g5,g8,M,N,O];refine lO (src:=[[.int .u32 ((x+4294967296-(c+t):Nat):Int)]]) W rfl (vT Om) λv' H' u _=>?_;rw[vW]at u;simp only[go_sem,ER,g7,eI (Om:Z' P<9223372036854775807)];refine hK _ 1 v' _ H' aW (j.app λy U=>by simp at U;subst U;omega) (a4B _) ?_ ?_ u
    ·rw[a3Z,a4E];exact step _ 1 Om (a4B _) Om
    ·unfold dt;rw[a3Z,a4E];exact Lq
   ·have I:¬((x:Nat):Int)<((c+t:Nat):Int):=Om;have M:IntKind.u64.wrap (((x:Nat):Int)-((c+t:Nat):Int))=((x-(c+t):Nat):Int):=by rw[show((x:Nat):Int)-((c+t:Nat):Int)=((x-(c+t):Nat):Int) by omega];exact bO Om
    have N:IntKind.u32.wrap ((x-(c+t):Nat):Int)=((x-(c+t):Nat):Int):=by rw[dU,a5N Om]
    have O:(1:Nat)*1≤16777216:=by decide
    simp only[go_sem,I,EQ,g5,g8,M,N,O];refine lO (src:=[[.int .u32 ((x-(c+t):Nat):Int)]]) W rfl (vT Om) λv' H' u _=>?_;rw[vW]at u;simp only[go_sem,ER,g7,eI (Om:Z' P<9223372036854775807)];refine hK _ 0 v' _ H' aW (j.app λy U=>by simp at U;subst U;omega) aX ?_ ?_ u
    ·rw[a3Z,a4E];exact step _ 0 Om aX Om
    ·unfold dt;rw[a3Z,a4E];exact Lq
  simp only[aC.wp,go_sem]at fin;simp only[go_sem,F,K4,K5];by_cases Y:Z' P<Z' b
  ·have J:(Z' P:Int)<(Z' b:Nat):=Om;have γ:=hb _ (a3Y Y);have w:=dL b Y;have eb:IntKind.u64.wrap ((b[Z' P]:Nat):Int)=((b[Z' P]:Nat):Int):=bO Om;have es:IntKind.u64.wrap ((c:Int)+(b[Z' P]:Int))=((c+b[Z' P]:Nat):Int):=jI Om;simp only[go_sem,J,K6,cM b Y,eb,es];refine fin b[Z' P] _ γ w rfl rfl rfl rfl rfl _ ?_;intro A l v' V H2 R M N S Z e6;rw[←R]at S;exact aH (α:=List Nat × Nat × PV × PH) (A,l,v',H2) ⟨by simp only;omega,M,N,S,e6⟩ (by simp only;omega) Z b_
  ·have J:¬(Z' P:Int)<(Z' b:Nat):=Om;have w:val (b.take (Z' P+1))=val (b.take P.length)+4294967296^P.length*0:=by rw[a4N Om,a4N Om];simp
   simp only[go_sem,J];refine fin 0 _ aX w rfl rfl rfl rfl rfl _ ?_;intro A l v' V H2 R M N S Z e6;rw[←R]at S;exact aH (α:=List Nat × Nat × PV × PH) (A,l,v',H2) ⟨by simp only;omega,M,N,S,e6⟩ (by simp only;omega) Z b_
 ·have e:Z' P=Z' a:=Om;have F:¬(Z' P:Int)<(Z' a:Nat):=Om;have hV:val P=val a-val b:=by
   rw[e,a5F,a4N hl]at B;have hlt:=jH j;rw[e]at hlt;rcases a6C c with h|h
   ·subst h;omega
   ·have:c=1:=Om;subst this;omega
  simp only[go_sem,F,y6];have hs:=L.trim _ j Om;rw[hV]at hs;refine AD hs W rfl λF1 H1 _=>?_;simp only[go_sem];exact bD (.inr rfl) .nil rfl a_ ⟨.refl _,rfl⟩
def xU(a b:List Nat)(o i:Nat):PF:=((((PF.nil.set 0 (aO a)).set 1 (aO b)).set 5 (.osl o 1 0 (Z' a+Z' b))).set 6 (.int .i64 i))
def utG(a b:List Nat)(o i c j:Nat):PF:=((((((PF.nil.set 0 (aO a)).set 1 (aO b)).set 5 (.osl o 1 0 (Z' a+Z' b))).set 6 (.int .i64 i)).set 7 (.int .u64 c)).set 8 (.int .i64 j))
theorem azM{C:Ctx}(a b:List Nat)(ha:Lim a)(hb:Lim b)(h1:Z' a≤35184372087808)(h2:Z' b≤35184372087808)(L:List Nat)(i:Nat)(hi:i<Z' a)(O:NB a b L i)(q:Nat)(K:cP)(F:PF)(H:PH)(N:(xU a b q i).le F)(hH:H q=some (.rows 1 (aP L)))
  (hK:∀L' F' H',NB a b L' (i+1)→(xU a b q i).le F'→H' q=some (.rows 1 (aP L'))→K .normal F' H') :
  aC.wp C (.block 1 (.seq (.region an) (.seq (.seq (.region ao) (.block 2 (.loop TQ))) (.region TR)))) K F H:=by
 have f0:=N 0 _ (by unfold xU;simp only[go_sem];rfl);have f1:=N 1 _ (by unfold xU;simp only[go_sem];rfl);have f5:=N 5 _ (by unfold xU;simp only[go_sem];rfl);have f6:=N 6 _ (by unfold xU;simp only[go_sem];rfl);have hx:=ha _ (a3Y hi);have β:=dL a hi;generalize δ:a[i]=x at *
 have X:(aP a)[i]?=some [.int .u32 ((x:Nat):Int)]:=by rw[cM a hi,δ]
 simp only[go_sem,an,ao];refine wp_loop (α:=List Nat × Nat × Nat) (λt=>utG a b q i t.2.1 t.2.2) (λt=>PH.nil.set q (.rows 1 (aP t.1)))
  (λt=>t.2.2≤Z' b∧t.1.length=Z' a+Z' b∧Lim t.1∧t.2.1<4294967296∧val t.1+4294967296^(i+t.2.2)*t.2.1=val (a.take i)*val b+4294967296^i*(x*val (b.take t.2.2))∧∀j y,i+Z' b≤j→t.1[j]?=some y→y=0) (λt=>Z' b-t.2.2) (L,0,0)
  ⟨by simp,O.len,O.lim,by simp,by simp[val,O.v],O.z⟩ ?_ (e_ a_ hH) ?_
 ·unfold utG;exact Lq
 rintro⟨M,c,j⟩ ⟨hj,W,l,Z,A,S⟩;simp only at hj W l Z A S;simp only[go_sem,TQ,Ld,utG];by_cases U:j<Z' b
 ·have B:(j:Int)<(Z' b:Nat):=Om;have R:=hb _ (a3Y U);have γ:=dL b U;generalize ε:b[j]=y at *
  have Y:(aP b)[j]?=some [.int .u32 ((y:Nat):Int)]:=by rw[cM b U,ε]
  have e:i+j<Z' M:=Om;have J:=l _ (a3Y e);have w:=OA e;generalize ζ:M[i+j]=z at *
  have I:(aP M)[i+j]?=some [.int .u32 ((z:Nat):Int)]:=by rw[cM M e,ζ]
  have ex:IntKind.u64.wrap ((x:Nat):Int)=((x:Nat):Int):=bO Om;have ey:IntKind.u64.wrap ((y:Nat):Int)=((y:Nat):Int):=bO Om;have ez:IntKind.u64.wrap ((z:Nat):Int)=((z:Nat):Int):=bO Om;have em:=anB hx R;have θ:x*y≤4294967295*4294967295:=a7G Om Om;have e1:IntKind.u64.wrap (((x*y:Nat):Int)+(z:Int))=((x*y+z:Nat):Int):=jI Om;have e2:IntKind.u64.wrap (((x*y+z:Nat):Int)+(c:Int))=((x*y+z+c:Nat):Int):=jI Om;have E:IntKind.i64.wrap ((i:Int)+(j:Int))=((i+j:Nat):Int):=kU Om;have hlt:((i+j:Nat):Int)<((Z' a+Z' b:Nat):Int):=Om;generalize ht:x*y+z+c=t at *
  have η:t<4294967296*4294967296:=Om;have u:(aP M).set (i+j) [.int .u32 ((t%4294967296:Nat):Int)]=aP (M.set (i+j) (t%4294967296)):=jW M (i+j) _;simp only[go_sem,B];refine aZ .nil cI a_ ?_;simp only[go_sem,Le,X,Y,ex,ey,em,E,hlt,I,ez,e1,e2,Lf,dU,u,Lg,EN,y9,wZz j];refine aH (M.set (i+j) (t%4294967296),t/4294967296,j+1) ⟨by simp only;omega,by simp only[a5Q];exact W,l.set _ (a5T _ aX),by simp only;omega,?_,Ai S _ _ Om⟩ (by simp only;omega) ?_ (e_ a_ Sq)
  ·simp only;have V:=w (t%4294967296);have h4:4294967296^(i+(j+1))*(t/4294967296)+4294967296^(i+j)*(t%4294967296)=4294967296^(i+j)*t:=by rw[←a6O,a5X,a4V,←a4L,a7P]
   have h5:4294967296^(i+j)*t=4294967296^(i+j)*(x*y)+4294967296^(i+j)*z+4294967296^(i+j)*c:=by rw[←ht,a4L,a4L]
   have h6:4294967296^i*(x*val (b.take (j+1)))=4294967296^i*(x*val (b.take j))+4294967296^(i+j)*(x*y):=by rw[γ,a4L,a4L,Nat.pow_add];congr 1;rw[Nat.mul_left_comm x,a4V]
   omega
  ·exact Lq
 ·have he:j=Z' b:=Om;have B:¬(j:Int)<(Z' b:Nat):=Om;subst he;have e:i+Z' b<Z' M:=Om;have J:M[i+Z' b]=0:=S _ _ (a4B _) (a4C e);have w:=OA e;have I:(aP M)[i+Z' b]?=some [.int .u32 ((0:Nat):Int)]:=by rw[cM M e,J]
  have E:IntKind.i64.wrap ((i:Int)+(Z' b:Int))=((i+Z' b:Nat):Int):=kU Om;have hlt:((i+Z' b:Nat):Int)<((Z' a+Z' b:Nat):Int):=Om;have u:(aP M).set (i+Z' b) [.int .u32 ((c%4294967296:Nat):Int)]=aP (M.set (i+Z' b) c):=by rw[a5N Z];exact jW M _ _
  simp only[go_sem,B,TR,E,dU,hlt,I,u];refine hK (M.set (i+Z' b) c) _ _ ⟨by rw[a5Q];exact W,l.set _ Z,?_,λj y hj R=>?_⟩ (by unfold xU;exact Lq) Sq
  ·have V:=w c;rw[J,Nat.mul_zero,a5H]at V;rw[V,A,a5F,β,a5G,a4V]
  ·rw[List.getElem?_set_ne Om]at R;exact S j y Om R
theorem aFG{C:Ctx}(L:vF C)(a b:List Nat)(O:Lim a)(hb:Lim b)(V:Z' a≤8388608)(W:Z' b≤8388608) :
  MI.wp C (aV acS.res (cY (aO (aM (val a*val b))))) (PF.args [aO a,aO b]) .nil:=by
 have w:IntKind.i64.wrap ((Z' a:Int)+(Z' b:Int))=((Z' a+Z' b:Nat):Int):=kU Om;have E:((Z' a+Z' b:Nat):Int)*((4:Nat):Int)≤140737488355328:=Om;have F:((Z' a+Z' b:Nat):Int)≤9223372036854775807:=Om;have R:a3W (Z' a+Z' b) [PV.int .u32 0]=aP (a3W (Z' a+Z' b) 0):=by simp[aP]
 simp only[go_sem,MI,K8,K9,acS,a3V,w,E,F,R];refine aQ λo X=>?_;simp only[go_sem,La];refine wp_loop (α:=List Nat × Nat) (λt=>xU a b o t.2) (λt=>PH.nil.set o (.rows 1 (aP t.1))) (λt=>t.2≤Z' a∧NB a b t.1 t.2) (λt=>Z' a-t.2) (a3W (Z' a+Z' b) 0,0)
  ⟨by simp,by simp,CJ _,by simp[val,yJ],λj x _ J=>by rw[a7V]at J;split at J<;>simp_all⟩ ?_ (e_ a_ Sq) ?_
 ·unfold xU;exact Lq
 rintro⟨M,i⟩ ⟨hi,l⟩;simp only at hi l;simp only[go_sem,y8,Lc,xU];by_cases K:i<Z' a
 ·have u:(i:Int)<(Z' a:Nat):=Om;have y:=azM (C:=C) a b O hb Om Om M i K l o;simp only[go_sem]at y;simp only[go_sem,u];refine y _ _ _ (by unfold xU;exact Lq) Sq ?_;intro L' S H' B e A;have N:=e 6 _ (by unfold xU;simp only[go_sem];rfl);have g0:=e 0 _ (by unfold xU;simp only[go_sem];rfl);have g1:=e 1 _ (by unfold xU;simp only[go_sem];rfl);have U:=e 5 _ (by unfold xU;simp only[go_sem];rfl);simp only[go_sem,za,N,wZz i];refine aH (L',i+1) ⟨by simp only;omega,B⟩ (by simp only;omega) ?_ (e_ a_ A);exact Lq
 ·have he:i=Z' a:=Om;subst he;have u:¬(Z' a:Int)<(Z' a:Nat):=Om;have hV:val M=val a*val b:=by rw[l.v,a5F]
  simp only[go_sem,zb];have I:=L.trim _ l.lim (by rw[l.len];omega);rw[hV]at I;refine wF (o:=o) (s:=1) (k:=Z' a+Z' b) (rs:=aP M) (v:=aO (aM (val a*val b))) ?_ rfl Sq (by rw[dE,l.len];exact a4B _) ?_
  ·rw[a4N (by rw[dE,l.len];exact a4B _)];exact I
  ·simp only[go_sem];exact bD (.inr rfl) .nil rfl a_ ⟨.refl _,rfl⟩
structure Ol(C:Ctx):Prop extends Oi C where
 minus:∀a b,Lim a→Lim b→val b≤val a→Z' b≤Z' a→Z' a≤35184372087808→aJ C 42 [aO a,aO b] .nil (aK (aO (aM (val a-val b))))
 times:∀a b,Lim a→Lim b→Z' a≤8388608→Z' b≤8388608→aJ C 44 [aO a,aO b] .nil (aK (aO (aM (val a*val b))))
theorem aRR{C:Ctx}(L:Ol C)(a b:List Nat)(u:Lim a)(hb:Lim b)(y:Z' a≤35184372087808)(A:Z' b≤35184372087808) :
  ZZ.wp C (aV aLT.res (cY (opV (fP (val a) (val b)) (val a*val b)))) (PF.args [aO a,aO b]) .nil:=by
 unfold opV;simp only[go_sem,ZZ,asJ,asK,aLT];refine aB (L.large a u y) rfl ?_;by_cases j:nl (val a)>512
 ·simp only[go_sem,j,D0];rw[aL (by simp[fP,j])];exact hY rfl
 simp only[go_sem,j];refine aB (L.large b hb A) rfl ?_;by_cases l:nl (val b)>512
 ·simp only[go_sem,l,D0];rw[aL (by simp[fP,l])];exact hY rfl
 rw[aG (by simp[fP,j,l])];simp only[go_sem,l,asL];refine aB (L.trim a u y) rfl ?_;simp only[go_sem];refine aB (L.trim b hb A) rfl ?_;simp only[go_sem];have x:=L.times (aM (val a)) (aM (val b)) (bB _) (bB _) (by rw[bH];omega) (by rw[bH];omega);rw[aY,aY]at x;refine aB x rfl ?_;have B:=qJ (a:=val a) (b:=val b) (m:=512) (n:=512) Om Om;have w:=L.large (aM (val a*val b)) (bB _) (by rw[bH];omega);rw[aY]at w;simp only[go_sem,asM];refine aB w rfl ?_;unfold szV szL szE;by_cases e:nl (val a*val b)>512
 ·rw[aL e,aL e];simp only[go_sem,e,asN];exact hY rfl
 ·rw[aG e,aG e];simp only[go_sem,e,asO];exact bD (.inr rfl) .nil rfl a_ ⟨.refl _,rfl⟩
def DI(a:List Nat)(i:Nat):Nat:=a.getD i 0
theorem Pa{a:List Nat}(h:Lim a)(i:Nat):DI a i<4294967296:=by
 unfold DI;rw[a4D];rcases a4R i a.length with h1|h1
 ·rw[a4C h1];exact h _ (a3Y h1)
 ·rw[a5K h1];decide
theorem ju{a:List Nat}{i:Nat}(h:i<Z' a):DI a i=a[i]:=by simp[DI,a4D,h]
theorem WD{a:List Nat}{i:Nat}(h:¬i<Z' a):DI a i=0:=by simp[DI,a4D,h]
theorem ap(a:List Nat)(i:Nat):val (a.take (i+1))=val (a.take i)+4294967296^i*DI a i:=by
 rcases a4R i a.length with h|h
 ·rw[ju h];exact dL a h
 ·rw[WD Om,a4N Om,a4N Om];simp
def zX(a b:List Nat)(v:PV)(c i:Nat):PF:=(((((PF.nil.set 0 (aO a)).set 1 (aO b)).set 5 (v)).set 6 (.int .u64 c)).set 7 (.int .i64 i))
theorem aLY{C:Ctx}(L:vF C)(a b:List Nat)(ha:Lim a)(hb:Lim b)(h1:Z' a≤8388608)(h2:Z' b≤8388608) :
  TN.wp C (aV azL.res (cY (aO (aM (val a+val b))))) (PF.args [aO a,aO b]) .nil:=by
 simp only[go_sem,TN,acN,acO,acP,acQ,azL];refine wp_loop (α:=List Nat × Nat × PV × PH) (λs=>zX a b s.2.2.1 s.2.1 s.1.length) (λs=>s.2.2.2)
  (λs=>s.1.length≤max a.length b.length+1∧(s.1.length≤max a.length b.length∨s.2.1=0)∧Lim s.1∧s.2.1≤1∧val s.1+4294967296^s.1.length*s.2.1=val (a.take s.1.length)+val (b.take s.1.length)∧cZ s.2.2.2 1 s.2.2.1 (aP s.1)) (λs=>max a.length b.length+1-s.1.length) ([],0,.aE,.nil)
  ⟨by simp,by simp,by simp[Lim],by simp,by simp[val],.nil⟩ ?_ a_ ?_
 ·unfold zX;exact Lq
 rintro⟨P,c,v,H0⟩ ⟨hP,η,u,hc,J,hO⟩;simp only at hP η u hc J hO ⊢;have ν:=Pa ha P.length;have ξ:=Pa hb P.length;have κ:=ap a P.length;have μ:=ap b P.length;generalize hx:DI a P.length=x at *
 generalize hy:DI b P.length=y at *
 have ex:IntKind.u64.wrap ((x:Nat):Int)=((x:Nat):Int):=bO Om;have ey:IntKind.u64.wrap ((y:Nat):Int)=((y:Nat):Int):=bO Om;have R:IntKind.u64.wrap ((c:Int)+(x:Int))=((c+x:Nat):Int):=jI Om;have S:IntKind.u64.wrap (((c+x:Nat):Int)+(y:Int))=((c+x+y:Nat):Int):=jI Om;have ι:Z' P<Z' a→(aP a)[Z' P]?=some [.int .u32 ((x:Nat):Int)]:=λh=>by rw[cM a h,←hx,ju h]
 have γ:Z' P<Z' b→(aP b)[Z' P]?=some [.int .u32 ((y:Nat):Int)]:=λh=>by rw[cM b h,←hy,ju h]
 have δ:¬Z' P<Z' a→x=0:=λh=>by rw[←hx,WD h]
 have U:¬Z' P<Z' b→y=0:=λh=>by rw[←hy,WD h]
 have body:(Z' P≤max a.length b.length)→∀K:cP,(∀l A v' V H2,Z' l=Z' P+1→Lim l→A≤1→(Z' P+1≤max a.length b.length∨A=0)→val l+4294967296^l.length*A=val (a.take (Z' P+1))+val (b.take (Z' P+1))→(zX a b v' A l.length).le V→cZ H2 1 v' (aP l)→K .normal V H2) →
   ∀F:PF,(zX a b v c P.length).le F→aC.wp C (.seq (.block 1 (.seq (.region qo) (.seq (.seq (.region qp) (.cond (.tmp 29) (.region qq) .skip)) (.seq (.seq (.region TO) (.cond (.tmp 40) (.region TP) .skip)) (.seq (.region JI) (.region JJ)))))) (.region JK)) K F H0:=by
  intro ο K hK F Z;have g0:F 0=some (aO a):=Z 0 _ (by unfold zX;simp only[go_sem]);have g1:F 1=some (aO b):=Z 1 _ (by unfold zX;simp only[go_sem]);have g5:F 5=some v:=Z 5 _ (by unfold zX;simp only[go_sem]);have g6:F 6=some (.int .u64 c):=Z 6 _ (by unfold zX;simp only[go_sem]);have B:F 7=some (.int .i64 P.length):=Z 7 _ (by unfold zX;simp only[go_sem]);have fin:∀M:PF,M 0=some (aO a)→M 1=some (aO b)→M 5=some v→M 7=some (.int .i64 P.length)→M 8=some (.int .u64 (c+x+y:Nat)) →
    aC.wp C (.seq (.region JI) (.region JJ)) (gP 1 (kT C (aC.wp C (.region JK)) K)) M H0:=by
   intro M q0 q1 q5 q7 q8;have θ:(1:Nat)*1≤16777216:=by decide
   generalize ht:c+x+y=t at *
   have ρ:t<2*4294967296:=Om;simp only[go_sem,JI,q5,q8,θ,dU];refine lO (src:=[[.int .u32 ((t%4294967296:Nat):Int)]]) hO rfl (vT Om) λv' H' β _=>?_;rw[vW]at β;simp only[go_sem,JJ,q8,EN,JK,q7,eI (Om:Z' P<9223372036854775807)];refine hK (P++[t%4294967296]) (t/4294967296) v' _ H' aW (u.app λy hy=>by simp at hy;subst hy;omega) Om ?_ ?_ ?_ β
   ·rcases a4R P.length (max a.length b.length)with h|h
    ·exact .inl h
    ·right;have h1:=δ Om;have h2:=U Om;omega
   ·rw[nB,a3Z,a4E,κ,μ,a5X,a4V,a6O,←a4L];rw[show t%4294967296+4294967296*(t/4294967296)=t from Nat.mod_add_div t 4294967296];have h3:4294967296^P.length*t=4294967296^P.length*c+4294967296^P.length*x+4294967296^P.length*y:=by rw[←ht,a4L,a4L]
    omega
   ·unfold zX;rw[a3Z,a4E];exact Lq
  simp only[aC.wp,go_sem]at fin;simp only[go_sem,qo,g6,qp,B,g0];by_cases c1:Z' P<Z' a
  ·have j:(Z' P:Int)<(Z' a:Nat):=Om;simp only[go_sem,j,qq,g0,B,ι c1,ex,R,TO,g1];by_cases N:Z' P<Z' b
   ·have e:(Z' P:Int)<(Z' b:Nat):=Om;simp only[go_sem,e,TP,g1,B,γ N,ey,S];exact fin _ (by simp only[go_sem,g0]) (by simp only[go_sem,g1]) (by simp only[go_sem,g5]) (by simp only[go_sem,B]) rfl
   ·have e:¬(Z' P:Int)<(Z' b:Nat):=Om;have h0:=U N;simp only[go_sem,e];exact fin _ (by simp only[go_sem,g0]) (by simp only[go_sem,g1]) (by simp only[go_sem,g5]) (by simp only[go_sem,B]) (by simp only[go_sem,h0])
  ·have j:¬(Z' P:Int)<(Z' a:Nat):=Om;have h0:=δ c1;simp only[go_sem,j,TO,g1,B];by_cases N:Z' P<Z' b
   ·have e:(Z' P:Int)<(Z' b:Nat):=Om;have ε:IntKind.u64.wrap ((c:Int)+(y:Int))=((c+x+y:Nat):Int):=by rw[h0];exact jI Om
    simp only[go_sem,e,TP,g1,B,γ N,ey,ε];exact fin _ (by simp only[go_sem,g0]) (by simp only[go_sem,g1]) (by simp only[go_sem,g5]) (by simp only[go_sem,B]) rfl
   ·have e:¬(Z' P:Int)<(Z' b:Nat):=Om;have ζ:=U N;simp only[go_sem,e];exact fin _ (by simp only[go_sem,g0]) (by simp only[go_sem,g1]) (by simp only[go_sem,g5]) (by simp only[go_sem,B]) (by simp only[go_sem,h0,ζ])
 simp only[aC.wp,go_sem]at body;have w:¬Z' P<Z' a→¬Z' P<Z' b→c=0→∀F:PF,F 5=some v→aC.wp C (.seq (.region ai) .ret) (aV [.tmp 4] (cY (aO (aM (val a+val b))))) F H0:=by
  intro n1 n2 n3 F f5;have hV:val P=val a+val b:=by rw[n3,a4N Om,a4N Om]at J;omega
  have hs:=L.trim _ u Om;rw[hV]at hs;simp only[go_sem,ai,f5];refine AD hs hO rfl λF1 H1 _=>?_;simp only[go_sem];exact bD (.inr rfl) .nil rfl a_ ⟨.refl _,rfl⟩
 simp only[aC.wp,go_sem]at w;simp only[go_sem,K7,acR,zX];by_cases c1:Z' P<Z' a
 ·have j:(Z' P:Int)<(Z' a:Nat):=Om;simp only[go_sem,j];refine body Om _ ?_ _ (by unfold zX;exact Lq);intro l A v' V H2 R S W E I X Y;rw[←R]at I E;exact aH (α:=List Nat × Nat × PV × PH) (l,A,v',H2) ⟨by simp only;omega,E,S,W,I,Y⟩ (by simp only;omega) X b_
 ·have j:¬(Z' P:Int)<(Z' a:Nat):=Om;simp only[go_sem,j];by_cases N:Z' P<Z' b
  ·have e:(Z' P:Int)<(Z' b:Nat):=Om;simp only[go_sem,e];refine body Om _ ?_ _ (by unfold zX;exact Lq);intro l A v' V H2 R S W E I X Y;rw[←R]at I E;exact aH (α:=List Nat × Nat × PV × PH) (l,A,v',H2) ⟨by simp only;omega,E,S,W,I,Y⟩ (by simp only;omega) X b_
  ·have e:¬(Z' P:Int)<(Z' b:Nat):=Om;simp only[go_sem,e];by_cases c3:c=0
   ·have O:¬(c:Int)>0:=Om;simp only[go_sem,O];exact w c1 N c3 _ rfl
   ·have O:(c:Int)>0:=Om;simp only[go_sem,O];refine body Om _ ?_ _ (by unfold zX;exact Lq);intro l A v' V H2 R S W E I X Y;rw[←R]at I E;exact aH (α:=List Nat × Nat × PV × PH) (l,A,v',H2) ⟨by simp only;omega,E,S,W,I,Y⟩ (by simp only;omega) X b_
structure sd(C:Ctx):Prop extends Ol C where
 plus:∀a b,Lim a→Lim b→Z' a≤8388608→Z' b≤8388608→aJ C 43 [aO a,aO b] .nil (aK (aO (aM (val a+val b))))
theorem aRN{C:Ctx}(L:sd C)(a b:List Nat)(u:Lim a)(hb:Lim b)(y:Z' a≤35184372087808)(A:Z' b≤35184372087808) :
  ZR.wp C (aV aLL.res (cY (opV (fP (val a) (val b)) (val a+val b)))) (PF.args [aO a,aO b]) .nil:=by
 unfold opV;simp only[go_sem,ZR,arF,arG,aLL];refine aB (L.large a u y) rfl ?_;by_cases j:nl (val a)>512
 ·simp only[go_sem,j,Dw];rw[aL (by simp[fP,j])];exact hY rfl
 simp only[go_sem,j];refine aB (L.large b hb A) rfl ?_;by_cases l:nl (val b)>512
 ·simp only[go_sem,l,Dw];rw[aL (by simp[fP,l])];exact hY rfl
 rw[aG (by simp[fP,j,l])];simp only[go_sem,l,arH];refine aB (L.trim a u y) rfl ?_;simp only[go_sem];refine aB (L.trim b hb A) rfl ?_;simp only[go_sem];have x:=L.plus (aM (val a)) (aM (val b)) (bB _) (bB _) (by rw[bH];omega) (by rw[bH];omega);rw[aY,aY]at x;refine aB x rfl ?_;have B:=Xf (a:=val a) (b:=val b) (m:=512) Om Om;have w:=L.large (aM (val a+val b)) (bB _) (by rw[bH];omega);rw[aY]at w;simp only[go_sem,arI];refine aB w rfl ?_;unfold szV szL szE;by_cases e:nl (val a+val b)>512
 ·rw[aL e,aL e];simp only[go_sem,e,arJ];exact hY rfl
 ·rw[aG e,aG e];simp only[go_sem,e,arK];exact bD (.inr rfl) .nil rfl a_ ⟨.refl _,rfl⟩
theorem aRU{C:Ctx}(L:sd C)(a b:List Nat)(u:Lim a)(hb:Lim b)(w:Z' a≤35184372087808)(x:Z' b≤35184372087808) :
  al.wp C (aV aMA.res (cY (xT (val a) (val b)))) (PF.args [aO a,aO b]) .nil:=by
 unfold xT;simp only[go_sem,al,asP,asQ,aMA];refine aB (L.large a u w) rfl ?_;by_cases e:nl (val a)>512
 ·simp only[go_sem,e,D1];rw[aL (by simp[fP,e])];exact hY rfl
 simp only[go_sem,e];refine aB (L.large b hb x) rfl ?_;by_cases j:nl (val b)>512
 ·simp only[go_sem,j,D1];rw[aL (by simp[fP,j])];exact hY rfl
 rw[aG (by simp[fP,e,j])];simp only[go_sem,j,asR];refine aB (L.cmp a b u hb w x) rfl ?_;by_cases l:val a<val b
 ·have:fB (val a) (val b)=-1:=by simp[fB,l]
  rw[aL l];simp only[go_sem,this,show((-1:Int)<0) by decide,asS];exact hY rfl
 ·have:¬fB (val a) (val b)<0:=by unfold fB;rw[aG l];split<;>decide
  rw[aG l];have B:=kF (Nat.sub_le (val a) (val b));have A:=kF (Om:val b≤val a);simp only[go_sem,this,asT];refine aB (L.trim a u w) rfl ?_;simp only[go_sem];refine aB (L.trim b hb x) rfl ?_;simp only[go_sem];have y:=L.minus (aM (val a)) (aM (val b)) (bB _) (bB _) (by rw[aY,aY];omega) (by rw[bH,bH];exact A) (by rw[bH];omega);rw[aY,aY]at y;refine aB y rfl ?_;rw[HM Om];simp only[go_sem];exact bD (.inr rfl) .nil rfl a_ ⟨.refl _,rfl⟩
def abJ(k:Nat)(v:Nat):PF:=((PF.nil.set 3 (.int .i64 k)).set 4 (.int .u32 v))
theorem aLM{C:Ctx}(L:vF C)(xs:List Nat)(K:Lim xs)(U:Z' xs≤35184372087808) :
  TE.wp C (aV azD.res (aK (.int .i64 (dV (val xs):Nat)))) (PF.args [aO xs]) .nil:=by
 simp only[go_sem,TE,abL,abM,azD];refine aB (L.trim xs K U) rfl ?_;have V:=jV K;simp only[go_sem,abN,a3V,bH,JH];by_cases y:nl (val xs)=0
 ·simp only[go_sem,cB y,abO];refine aT (.inr rfl) rfl ?_;have:val xs=0:=mA.1 y;simp[cE,this,nH]
 obtain⟨n,R⟩:∃n,nl (val xs)=n+1:=⟨nl (val xs)-1,by omega⟩;obtain⟨t,x,B⟩:=aaX (xs:=aM (val xs)) (bB _) (by rw[aY];exact R);have u:t<4294967296:=bB _ t (a5S x);have S:val xs=val ((aM (val xs)).take n)+4294967296^n*t:=by
  have:=aY (val xs);have e:n<(aM (val xs)).length:=by rw[bH];omega
  have O:(aM (val xs))[n]=t:=by rw[a4C e]at x;exact a6H.inj x
  conv=>lhs;rw[←this,←a4N (l:=aM (val xs)) (i:=n+1) (by rw[bH];omega)]
  rw[dL _ e,O]
 have hb:dV (val xs)=32*n+dV t:=by have I:=jH ((bB (val xs)).take n);rw[a4M,bH,a6G Om]at I;have w:=O0 (lo:=val ((aM (val xs)).take n)) (k:=32*n) (hi:=t) (by rw[Nat.pow_mul];exact I) B;rw[←w,Nat.pow_mul];exact congrArg dV S
 have j:(aP (aM (val xs)))[n]?=some [.int .u32 (t:Nat)]:=by simp[aP,x]
 have M:IntKind.i64.wrap (((nl (val xs):Nat):Int)-1)=(n:Int):=by rw[wrap_i64 Om Om];omega
 have N:IntKind.i64.wrap (32*(n:Int))=((32*n:Nat):Int):=by rw[wrap_i64 Om Om];omega
 simp only[go_sem,cF y,abP,abQ,a3V,bH,M,N,j];refine wp_loop (α:=Nat × Nat) (λa=>abJ a.1 a.2) (λ_=>.nil) (λa=>a.1+dV a.2=32*n+dV t∧a.2<4294967296) (λa=>a.2) (32*n,t) ⟨rfl,u⟩ ?_ a_ ?_
 ·unfold abJ;exact Lq
 rintro⟨k,v⟩ ⟨w,hlt⟩;simp only at w hlt;have J:dV t≤32:=(qV t 32).2 u;simp only[go_sem,abK,abR,abJ];by_cases F:(v:Int)>0
 ·have E:v≠0:=Om;have A:IntKind.u32.wrap (Int.tdiv (v:Int) 2)=((v/2:Nat):Int):=by rw[show Int.tdiv (v:Int) 2=((v/2:Nat):Int)from Int.ofNat_tdiv v 2,dU,a5N Om]
  simp only[go_sem,F,abS,abT,A,wZz k];refine aH (k+1,v/2) ⟨?_,?_⟩ (Nat.div_lt_self Om aX) ?_ a_
  ·have:=uH E;simp only;omega
  ·simp only;omega
  ·exact Lq
 ·have:v=0:=Om;subst this;simp only[go_sem,F,Ks];refine aT (.inr rfl) rfl ?_;rw[nH]at w;simp only[cE,PV.int.injEq,true_and];omega
theorem Js(n:Nat):4294967296^(n/32)*2^(n%32)=2^n:=by
 rw[show(4294967296:Nat)=2^32 by decide,←Nat.pow_mul,←Nat.pow_add];congr 1;omega
theorem aEZ(n:Nat):IntKind.i64.wrap (Int.tdiv (n:Int) 32)=IntKind.i64.wrap ((n/32:Nat):Int):=by
 rw[show Int.tdiv (n:Int) 32=((n/32:Nat):Int)from Int.ofNat_tdiv n 32]
theorem aFA(n:Nat):Int.tmod (n:Int) 32=((n%32:Nat):Int):=Int.ofNat_tmod n 32
def aMC(a:List Nat)(n:Nat)(v:PV)(c i:Nat):PF:=(((((PF.nil.set 0 (aO a)).set 1 (.int .i64 n)).set 5 (v)).set 6 (.int .u64 c)).set 7 (.int .i64 i))
theorem aUH{C:Ctx}(L:vF C)(a:List Nat)(n:Nat)(ha:Lim a)(h1:Z' a≤8388608)(hn:n≤8388608)(h0:Z' a=0→val a=0) :
  qu.wp C (aV uup.res (rY 1 (aP (aM (val a*2^n))))) (PF.args [aO a,.int .i64 n]) .nil:=by
 simp only[go_sem,qu,aFH,aFI,uup,a3V,JH];by_cases F:Z' a=0
 ·simp only[go_sem,cB F,aFJ];rw[h0 F,Nat.zero_mul,jY];exact NV (.inr rfl) rfl
 have ez:IntKind.i64.wrap (Int.tdiv (n:Int) 32)=((n/32:Nat):Int):=by rw[aEZ,qw Om]
 have em:=aFA n;have eu:IntKind.u64.wrap ((n%32:Nat):Int)=((n%32:Nat):Int):=bO Om;have W:=Js n;have V:n%32<32:=a5T _ aX;have hz:n/32≤8388608:=Om;generalize ζ:n/32=z at *
 generalize δ:n%32=s at *
 have S:((z:Nat):Int)*((4:Nat):Int)≤140737488355328:=Om;have U:((z:Nat):Int)≤9223372036854775807:=Om;have Y:a3W z [PV.int .u32 0]=aP (a3W z 0):=by simp[aP]
 have M:2^s≤2147483648:=Nat.pow_le_pow_right (show 0<2 by decide) (Om:s≤31);have B:0<2^s:=a6X aX;simp only[go_sem,cF F,aFK,ez,S,U,Y];refine aQ λo ho=>?_;simp only[go_sem,aFL,aFM];refine wp_loop (α:=List Nat × Nat × Nat × PV × PH) (λt=>aMC a n t.2.2.2.1 t.2.1 t.2.2.1) (λt=>t.2.2.2.2)
  (λt=>t.2.2.1≤Z' a∧t.1.length=z+t.2.2.1∧Lim t.1∧t.2.1<2^s∧val t.1+4294967296^t.1.length*t.2.1=val (a.take t.2.2.1)*2^n∧cZ t.2.2.2.2 1 t.2.2.2.1 (aP t.1)) (λt=>Z' a-t.2.2.1) (a3W z 0,0,0,.osl o 1 0 z,PH.nil.set o (.rows 1 (aP (a3W z 0))))
  ⟨by simp,by simp,CJ _,B,by simp[val,yJ],.inr ⟨o,aP (a3W z 0),by rw[dE,a7J],by simp only[go_sem],by rw[dE];exact a4B _,a5F⟩⟩ ?_ b_ ?_
 ·unfold aMC;exact Lq
 rintro⟨P,c,i,v,H0⟩ ⟨hi,Z,j,hc,u,O⟩;simp only at hi Z j hc u O ⊢;simp only[go_sem,asU,aFN,aMC];by_cases I:i<Z' a
 ·have w:(i:Int)<(Z' a:Nat):=Om;have γ:=ha _ (a3Y I);have X:=dL a I;have R:=cM a I;generalize hx:a[i]=x at *
  have ε:x*2^s≤4294967295*2147483648:=a7G Om M;have ex:IntKind.u64.wrap ((x:Nat):Int)=((x:Nat):Int):=bO Om;have β:2^s*x=x*2^s:=a4Y _ _;have K:shift .shl .u64 (x:Int) (s:Int)=some (.int .u64 ((2^s*x:Nat):Int)):=SS Om Om;have J:=orI (a:=2^s*x) (b:=c) (n:=c+2^s*x) Om Om (by rw[Nat.or_comm];exact X7 hc Om) Om;have E:(c+2^s*x)/4294967296<2^s:=by rw[a7F aX];have:2^s*(x+1)≤2^s*4294967296:=a6P _ Om;rw[a4L,Nat.mul_one]at this;omega
  have A:(1:Nat)*1≤16777216:=by decide
  simp only[go_sem,w,aFO,R,ex,em,eu,K,J,aFP,dU,A];refine lO (src:=[[.int .u32 (((c+2^s*x)%4294967296:Nat):Int)]]) O rfl (vT Om) λv' H' l _=>?_;rw[vW]at l;simp only[go_sem,aFQ,EN,asV,wZz i];refine aH (P++[(c+2^s*x)%4294967296],(c+2^s*x)/4294967296,i+1,v',H') ⟨by simp only;omega,by simp;omega,j.app λy hy=>by simp at hy;subst hy;exact a5T _ aX,E,?_,l⟩ (by simp only;omega) ?_ b_
  ·simp only;have hp:4294967296^P.length*(2^s*x)=4294967296^i*x*2^n:=by rw[Z,Nat.pow_add,←W];rw[a4V,Nat.mul_left_comm (4294967296^i),←a4V (4294967296^z),a4Y (4294967296^z*2^s),a4V,a4Y x]
   rw[nB,a3Z,a4E,a5X,a4V,a6O,←a4L,Nat.mod_add_div,X,a4L,a5G,←a6O,u,hp]
  ·exact Lq
 ·have e:i=Z' a:=Om;subst e;have w:¬(Z' a:Int)<(Z' a:Nat):=Om;have A:(1:Nat)*1≤16777216:=by decide
  have hV:val (P++[c])=val a*2^n:=by rw[nB,u,a5F]
  have N:Lim (P++[c]):=j.app λx hx=>by simp at hx;omega
  have ec:IntKind.u32.wrap ((c:Nat):Int)=((c:Nat):Int):=by rw[dU,a5N Om]
  simp only[go_sem,w,asW,ec,A];refine lO (src:=[[.int .u32 ((c:Nat):Int)]]) O rfl (vT Om) λv' H' l _=>?_;rw[vW]at l;have V:=L.trimM _ N (by simp;omega);rw[hV]at V;refine Nm V l rfl λF1 H1 _ r H2 hr _=>?_;simp only[go_sem];exact aEK (.inr rfl) hr rfl
def ZU(a:List Nat)(n:Nat)(v:PV)(i:Nat):PF:=((((PF.nil.set 0 (aO a)).set 1 (.int .i64 n)).set 5 (v)).set 6 (.int .i64 i))
theorem aLQ{C:Ctx}(L:vF C)(a:List Nat)(n:Nat)(M:Lim a)(h1:Z' a≤8388608)(hn:n≤1000000000) :
  TI.wp C (aV azH.res (cY (aO (aM (val a/2^n))))) (PF.args [aO a,.int .i64 n]) .nil:=by
 have ez:IntKind.i64.wrap (Int.tdiv (n:Int) 32)=((n/32:Nat):Int):=by rw[aEZ,qw Om]
 have em:=aFA n;have eu:IntKind.u64.wrap ((n%32:Nat):Int)=((n%32:Nat):Int):=bO Om;have O:=Js n;have U:n%32<32:=a5T _ aX;have hz:n/32≤1000000000:=Om;generalize κ:n/32=z at *
 generalize ι:n%32=s at *
 simp only[go_sem,TI,abZ,acA,azH,a3V,ez];by_cases c0:Z' a≤z
 ·have u:((z:Nat):Int)≥(Z' a:Nat):=Om;have hq:val a/2^n=0:=by refine a7D (Nat.lt_of_lt_of_le (jH M) ?_);rw[←O];exact a6T (Nat.pow_le_pow_right aX c0) (Nat.le_mul_of_pos_right _ (a6X aX))
  simp only[go_sem,u,acB];rw[hq,jY];exact bD (vs:=[.aE]) (.inr rfl) .nil rfl a_ ⟨.nil 1,rfl⟩
 have u:¬((z:Nat):Int)≥(Z' a:Nat):=Om;have hR:val a/2^n=val (a.drop z)/2^s:=by rw[BG M Om,←O,Nat.div_div_eq_div_mul]
 have I:Lim (a.drop z):=M.drop z;simp only[go_sem,u,acC,acD,ez];refine wp_loop (α:=List Nat × PV × PH) (λt=>ZU a n t.2.1 (z+t.1.length)) (λt=>t.2.2)
  (λt=>z+t.1.length≤Z' a∧t.1=fN t.1.length (val (a.drop z)/2^s)∧cZ t.2.2 1 t.2.1 (aP t.1)) (λt=>Z' a-t.1.length) ([],.aE,.nil)
  ⟨by simp;omega,rfl,.nil⟩ ?_ a_ ?_
 ·unfold ZU
  (repeat' (first|exact c_|refine d_ ?_ ?_))<;>first|(simp only[go_sem,a6F]<;>rfl)|rfl
 rintro⟨P,v,H0⟩ ⟨hP,hD,hO⟩;simp only at hP hD hO ⊢;simp only[go_sem,Kt,acE,ZU];have E:Lim P:=by rw[hD];exact rQ _ _
 by_cases V:z+Z' P<Z' a
 ·have w:((z+Z' P:Nat):Int)<(Z' a:Nat):=Om;have θ:=M _ (a3Y V);have γ:=cM a V;have ε:Z' P≤(a.drop z).length:=by rw[a5M];omega
  have R:=BG I ε;have j:(a.drop z).drop P.length=a[z+Z' P]::a.drop (z+Z' P+1):=by rw[List.drop_drop,a6J V]
  generalize hx:a[z+Z' P]=x at *
  have ex:IntKind.u64.wrap ((x:Nat):Int)=((x:Nat):Int):=bO Om;have δ:(1:Nat)*1≤16777216:=by decide
  have ew:IntKind.i64.wrap (((z+Z' P:Nat):Int)+1)=((z+Z' P+1:Nat):Int):=eI Om;have fin:∀(t:Nat)(F:PF),t<18446744073709551616→val (a.drop z)/4294967296^P.length%(4294967296*4294967296)=t→F 0=some (aO a)→F 1=some (.int .i64 n)→F 5=some v→F 6=some (.int .i64 (z+Z' P:Nat))→F 7=some (.int .u64 t) →
    ∀K:cP,(∀v' S H2,(ZU a n v' (z+(Z' P+1))).le S→cZ H2 1 v' (aP (P++[t/2^s%4294967296]))→(P++[t/2^s%4294967296])=fN (Z' P+1) (val (a.drop z)/2^s)→K .normal S H2) →
    aC.wp C (.region qn) (gP 1 (kT C (aC.wp C (.region ZV)) K)) F H0:=by
   intro t F ht ζ f0 f1 f5 f6 f7 K hK;have B:shift .shr .u64 (t:Int) (s:Int)=some (.int .u64 ((t/2^s:Nat):Int)):=aUE Om;simp only[go_sem,qn,f5,f7,f1,em,eu,B,dU,δ];refine lO (src:=[[.int .u32 ((t/2^s%4294967296:Nat):Int)]]) hO rfl (vT Om) λv' H' J _=>?_;rw[vW]at J;simp only[go_sem,ZV,f6,ew];refine hK v' _ H' ?_ J ?_
   ·unfold ZU;exact Lq
   ·rw[CE,←hD];congr 2;have e:val (a.drop z)/4294967296^P.length=t%4294967296+4294967296*(t/4294967296+4294967296*(val (a.drop z)/4294967296^P.length/(4294967296*4294967296))):=by have:=Nat.mod_add_div (val (a.drop z)/4294967296^P.length) (4294967296*4294967296);rw[ζ]at this;have h2:=Nat.mod_add_div t 4294967296;rw[a4L,←a6O,h2,←a4V];exact this.symm
    have:=ij U e;rw[this];congr 2;have h2:=Nat.mod_add_div t 4294967296;omega
  simp only[aC.wp,go_sem]at fin;simp only[go_sem,w,acF,γ,ex,acG,ew];by_cases W:z+Z' P+1<Z' a
  ·have A:((z+Z' P+1:Nat):Int)<(Z' a:Nat):=Om;have η:=M _ (a3Y W);have N:=cM a W;rw[a6J W]at j;generalize hy:a[z+Z' P+1]=y at *
   have ey:IntKind.u64.wrap ((y:Nat):Int)=((y:Nat):Int):=bO Om;have B:shift .shl .u64 (y:Int) ((32:Nat):Int)=some (.int .u64 ((2^32*y:Nat):Int)):=SS aX Om;have β:=orI (a:=x) (b:=2^32*y) (n:=x+2^32*y) Om Om (X7 Om Om) Om;simp only[go_sem,A,acH,ew,N,ey,show shift .shl .u64 (y:Int) 32=_ from B,β];refine fin (x+2^32*y) _ Om ?_ rfl rfl rfl rfl rfl _ ?_
   ·rw[←R,j];simp only[val];omega
   ·intro v' S H2 X Y Z;refine aH (α:=List Nat × PV × PH) (P++[(x+2^32*y)/2^s%4294967296],v',H2) ⟨by simp;omega,by simpa using Z,Y⟩ (by simp;omega) ?_ b_;simp only[a3Z,a4E];exact X
  ·have A:¬((z+Z' P+1:Nat):Int)<(Z' a:Nat):=Om;rw[a7U (l:=a) (i:=z+Z' P+1) Om]at j;simp only[go_sem,A];refine fin x _ Om ?_ rfl rfl rfl rfl rfl _ ?_
   ·rw[←R,j];simp only[val];omega
   ·intro v' S H2 X Y Z;refine aH (α:=List Nat × PV × PH) (P++[x/2^s%4294967296],v',H2) ⟨by simp;omega,by simpa using Z,Y⟩ (by simp;omega) ?_ b_;simp only[a3Z,a4E];exact X
 ·have e:z+Z' P=Z' a:=Om;have w:¬((z+Z' P:Nat):Int)<(Z' a:Nat):=Om;have hV:val P=val (a.drop z)/2^s:=by rw[hD];refine tW (Nat.lt_of_le_of_lt (a7E _ _) ?_);have:=jH I;rw[a5M]at this;rw[show P.length=Z' a-z by omega];exact this
  have U:=L.trim _ E Om;rw[hV,←hR]at U;simp only[go_sem,w,Ku];refine AD U hO rfl λF1 H1 _=>?_;simp only[go_sem];exact bD (.inr rfl) .nil rfl a_ ⟨.refl _,rfl⟩
structure VQ(C:Ctx):Prop extends sd C where
 bits:∀xs,Lim xs→Z' xs≤35184372087808→aJ C 31 [aO xs] .nil (aK (.int .i64 (dV (val xs):Nat)))
 upM:∀(a:List Nat)(n:Nat),Lim a→Z' a≤8388608→n≤8388608→(Z' a=0→val a=0)→aJ C 45 [aO a,.int .i64 n] .nil (rY 1 (aP (aM (val a*2^n))))
 down:∀(a:List Nat)(n:Nat),Lim a→Z' a≤8388608→n≤1000000000→aJ C 40 [aO a,.int .i64 n] .nil (aK (aO (aM (val a/2^n))))
def udS:Spec:=λname vs=>match name,vs with
 |35,[.int _ v]=>some ([],λ_=>aK (aO (aM v.toNat)))
 |44,[x,y]=>some ([],λ_=>aK (aO (aM (val (mU x)*val (mU y)))))
 |32,[x,.osl q _ _ _]=>some ([q],λH0 r H'=>H'=H0∧∀xs,Lim xs→H0 q=some (.rows 1 (aP xs))→r=.int .i64 (fB (val (mU x)) (val xs)))
 |_,_=>none
theorem aLP(v:Nat):udS 35 [.int .u64 v]=some ([],λ_=>aK (aO (aM v))):=rfl
theorem aFC(x y:List Nat):udS 44 [aO x,aO y]=some ([],λ_=>aK (aO (aM (val x*val y)))):=by
 show some ([],λ_=>aK (aO (aM (val (mU (aO x))*val (mU (aO y))))))=_;rw[gI,gI]
theorem aGV(q:Nat)(x L:List Nat):(PH.nil.set q (.rows 1 (aP L)))=(PH.nil.set q (.rows 1 (aP L)))∧∀xs,Lim xs→(PH.nil.set q (.rows 1 (aP L))) q=some (.rows 1 (aP xs))→(PV.int .i64 (fB (val x) (val L)))=.int .i64 (fB (val (mU (aO x))) (val xs)):=by
 refine⟨rfl,λxs j e=>?_⟩;rw[bT]at e;have:aP L=aP xs:=(cD.rows.inj (a6H.inj e)).2;rw[YA this,gI]
def duF(n o l:Nat)(y:List Nat)(e u j:Nat)(k:Int):PF:=
 ((((((PF.nil.set 10 (.int .i64 n)).set 11 (.osl o 1 0 l)).set 12 (aO y)).set 13 (.int .u64 e)).set 14 (.osl u 1 0 j)).set 15 (.int .i64 k))
abbrev fW(X:List Nat)(Z:List (List PV)):List (List PV):=aP X++Z
theorem UD{X:List Nat}{Z:List (List PV)}{i:Nat}(h:i<Z' X):(fW X Z)[i]?=some [.int .u32 ((X[i]:Nat):Int)]:=by
 rw[fW,a5U (by rw[dE];exact h),cM X h]
theorem L8{X:List Nat}{Z:List (List PV)}{i:Nat}(h:i<Z' X)(v:Nat):(fW X Z).set i [.int .u32 (v:Int)]=fW (X.set i v) Z:=by
 rw[fW,List.set_append_left _ _ (by rw[dE];exact h),jW]
theorem L7{X:List Nat}{Z:List (List PV)}{j m:Nat}(h:j+m≤Z' X):((fW X Z).drop j).take m=aP ((X.drop j).take m):=by
 rw[fW,List.drop_append_of_le_length (by rw[dE];omega),List.take_append_of_le_length (by rw[a5M,dE];omega)];unfold aP;rw[←List.map_drop,←List.map_take]
theorem aUG{C:Ctx}(L:VQ C)(n o A:Nat)(y:List Nat)(B w lq j:Nat)(X:List Nat)(Z:List (List PV))(Y:w≠o)(hy:Lim y)(hX:Lim X)(δ:Z' X=A)(hl:A≤5000)(hj:j+(Z' y+1)≤A)(N:0<val y)
  (qv:cD) (g0:Nat) (hg:val ((X.drop j).take (Z' y+1))/val y≤g0) (V:g0<4294967296) (K:cP) (F:PF) (H:PH) (hF:((duF n o A y B w lq j).set 17 (.int .u64 g0)).le F) (hH:((PH.nil.set o (.rows 1 (fW X Z))).set w qv).le H)
  (hK:∀F' H',((duF n o A y B w lq j).set 17 (.int .u64 (val ((X.drop j).take (Z' y+1))/val y:Nat))).le F'→((PH.nil.set o (.rows 1 (fW X Z))).set w qv).le H'→K .normal F' H') :
  aC.wp C (.block 4 (.loop BU)) K F H:=by
 have e:¬o=w:=λh=>Y h.symm;have l:((X.drop j).take (Z' y+1)).length=Z' y+1:=by rw[a4M,a5M];omega
 have E:Lim ((X.drop j).take (Z' y+1)):=(hX.drop _).take _;have I:=L7 (X:=X) (Z:=Z) (j:=j) (m:=Z' y+1) Om;have J:j+(Z' y+1)≤(fW X Z).length:=by rw[fW,a3Z,dE];omega
 have S:aP ((X.drop j).take (Z' y+1))≠[]:=λh=>by have:=congrArg List.length h;rw[dE,l]at this;simp at this
 generalize hW:(X.drop j).take (Z' y+1)=W at *
 generalize M:val W/val y=R at *
 simp only[go_sem];refine wp_loop (α:=Nat) (λg=>(duF n o A y B w lq j).set 17 (.int .u64 g)) (λ_=>(PH.nil.set o (.rows 1 (fW X Z))).set w qv) (λg=>R≤g∧g<4294967296) (λg=>g) g0 ⟨hg,V⟩ hF hH ?_;rintro g ⟨γ,hlt⟩;have e1:IntKind.i64.wrap ((j:Int)+(Z' y:Int))=((j+Z' y:Nat):Int):=kU Om;have e2:IntKind.i64.wrap (((j+Z' y:Nat):Int)+1)=((j+Z' y+1:Nat):Int):=eI Om;have b1:(j:Int)≤((j+Z' y+1:Nat):Int):=Om;have b2:((j+Z' y+1:Nat):Int)≤(A:Nat):=Om;have b3:j+Z' y+1-j=Z' y+1:=Om;have mk:=L.make g Om;have tm:=L.times y (aM g) hy (bB _) Om (by have O:nl g≤1:=tF (by rw[Nat.pow_one];exact hlt);rw[bH];omega)
 rw[aY]at tm;have β:(aM (val y*g)).length≤35184372087808:=by have O:nl g≤1:=tF (by rw[Nat.pow_one];exact hlt);have h2:=qJ (a:=val y) (b:=g) (jV hy) O;rw[bH];omega
 have cm:=L.cmp (aM (val y*g)) W (bB _) E β Om;rw[aY]at cm;simp only[go_sem,BU];refine aZ .nil udS a_ ?_;simp only[go_sem,iy,duF];refine cS (aLP g) mk Sq a_ ?_;simp only[go_sem];have tS:=aFC y (aM g);rw[aY]at tS;refine cS tS tm Sq a_ ?_;simp only[go_sem,a3V,e1,e2,b1,b2,b3];refine HV (src:=aP W) ?_ ?_ (λh=>absurd h S) λ_ x u=>?_
 ·simp only[go_sem,e,J,I]
 ·unfold roomFor;rw[dE,l];simp only[maxLen];omega
 refine⟨a_,?_⟩;rw[dE,l];have n1:¬x=w:=(mK.1 u).1;refine aGZ (o:=x) (s:=1) (rs:=aP W) (vs:=[aO (aM (val y*g)),.osl x 1 0 (Z' y+1)]) (v:=.int .i64 (fB (val y*g) (val W))) rfl (.int _ _) Sq ?_ ?_ ?_ Sq a_ ?_
 ·rw[a5D,a5D,a6L,yA (by rw[dE,l];exact a4B _),a4N (by rw[dE,l];exact a4B _)];exact cm
 ·have:=aGV x (aM (val y*g)) W;rw[aY]at this;exact this
 ·rintro r H' ⟨O,h2⟩;have:=h2 W E (by rw[bT]);rw[gI,aY]at this;exact⟨this,O⟩
 simp only[go_sem];by_cases c:val W<val y*g
 ·have U:fB (val y*g) (val W)=1:=by unfold fB;rw[aG Om,aL c]
  have hq:R<g:=by rw[←M];exact(a7F N).2 (by rw[a4Y];exact c)
  have ew:IntKind.u64.wrap ((g:Int)-1)=((g-1:Nat):Int):=by rw[wrap_u64 Om Om];omega
  simp only[go_sem,U,show(1:Int)>0 by decide,iz,ew];refine aH (g-1) ⟨by omega,by omega⟩ Om ?_ ?_
  ·exact Lq
  ·refine e_ (e_ a_ ?_) ?_
   ·have n2:¬o=x:=λh=>by subst h;rw[aU,aG e,bT]at u;cases u
    simp only[go_sem,n2,e]
   ·have n3:¬w=x:=λh=>n1 h.symm;simp only[go_sem,n3]
 ·have U:¬fB (val y*g) (val W)>0:=by unfold fB;rw[aG c];split<;>decide
  have hq:g=R:=by
   have:g≤R:=by rw[←M];exact(Nat.le_div_iff_mul_le N).2 (by rw[a4Y];omega)
   omega
  simp only[go_sem,U];refine hK _ _ ?_ ?_
  ·unfold duF
   (repeat' (first|exact c_|refine d_ ?_ ?_))<;>first|(simp only[go_sem,←hq]<;>rfl)|rfl
  ·refine e_ (e_ a_ ?_) ?_
   ·have n2:¬o=x:=λh=>by subst h;rw[aU,aG e,bT]at u;cases u
    simp only[go_sem,n2,e]
   ·have n3:¬w=x:=λh=>n1 h.symm;simp only[go_sem,n3]
theorem aPQ(R k:Nat)(h:k<nl R):∃u:k<(aM R).length,(aM R)[k]=R/4294967296^k%4294967296:=by
 have e:k<(aM R).length:=by rw[bH];exact h
 refine⟨e,?_⟩;have j:=BG (bB R) (Nat.le_of_lt e);rw[aY,a6J e]at j;have l:=bB R _ (a3Y e);simp only[val]at j;rw[←j,Nat.add_mul_mod_self_left,a5N l]
theorem aIS(R k:Nat)(h:nl R≤k):R/4294967296^k%4294967296=0:=by
 rw[a7D ((mO R k).1 h)]
theorem aRF{A P W Z:List Nat}{i:Nat}(e:Z' P=i)(hi:i<Z' W)(v:Nat):(A++(P++W.drop i)++Z).set (Z' A+i) v=A++((P++[v])++W.drop (i+1))++Z:=
 YA (by rw[←jW];exact NY e hi v)
theorem aWY{C:Ctx}(n o E:Nat)(y:List Nat)(M x Y j:Nat)(X:List Nat)(Z:List (List PV))(J:x≠o)(U:Z' X=E)(hl:E≤5000)(hj:j+(Z' y+1)≤E)
  (qv:cD) (g R:Nat) (K:cP) (F:PF) (H:PH) (hF:((((duF n o E y M x Y j).set 17 (.int .u64 g)).set 18 (aO (aM R))).set 19 (.int .i64 0)).le F) (hH:((PH.nil.set o (.rows 1 (fW X Z))).set x qv).le H)
  (hK:∀F' H',((duF n o E y M x Y j).set 17 (.int .u64 g)).le F'→((PH.nil.set o (.rows 1 (fW (X.take j++fN (Z' y+1) R++X.drop (j+(Z' y+1))) Z))).set x qv).le H'→K .normal F' H') :
  aC.wp C (.block 6 (.loop BV)) K F H:=by
 have u:¬o=x:=λh=>J h.symm;have hA:(X.take j).length=j:=by rw[a4M];omega
 have ε:((X.drop j).take (Z' y+1)).length=Z' y+1:=by rw[a4M,a5M];omega
 have θ:(X.drop (j+(Z' y+1))).length=E-(j+(Z' y+1)):=by rw[a5M,U]
 have B:X.take j++(X.drop j).take (Z' y+1)++X.drop (j+(Z' y+1))=X:=by rw[a5C,←List.drop_drop,a6W,a6W]
 rw[←B]at hH;generalize γ:X.take j=A at *
 generalize δ:(X.drop j).take (Z' y+1)=W at *
 generalize η:X.drop (j+(Z' y+1))=w at *
 simp only[go_sem];refine wp_loop (α:=List Nat) (λP=>(((duF n o E y M x Y j).set 17 (.int .u64 g)).set 18 (aO (aM R))).set 19 (.int .i64 P.length)) (λP=>(PH.nil.set o (.rows 1 (fW (A++(P++W.drop P.length)++w) Z))).set x qv)
  (λP=>Z' P≤Z' y+1∧P=fN P.length R) (λP=>Z' y+1-Z' P) [] ⟨a4A _,rfl⟩ hF (by simpa using hH) ?_
 rintro P ⟨hP,hD⟩;simp only[go_sem,BV,i0,duF];by_cases c:Z' P<Z' y+1
 ·have O:(Z' P:Int)≤(Z' y:Nat):=Om;have ei:IntKind.i64.wrap ((j:Int)+(Z' P:Int))=((j+Z' P:Nat):Int):=kU Om;have β:(A++(P++W.drop P.length)++w).length=E:=by simp only[a3Z,a5M];omega
  have hi:j+Z' P<(A++(P++W.drop P.length)++w).length:=Om;have b1:((j+Z' P:Nat):Int)<(E:Nat):=Om;have r1:=UD (Z:=Z) hi;have s1:=L8 (Z:=Z) hi 0;have N:j+Z' P<((A++(P++W.drop P.length)++w).set (j+Z' P) 0).length:=by rw[a5Q];exact hi
  have l:=λv=>aRF (A:=A) (P:=P) (W:=W) (Z:=w) (i:=Z' P) rfl Om v;rw[hA]at l;generalize ζ:A++(P++W.drop P.length)++w=XX at *
  have r2:(fW (A++((P++[0])++W.drop (Z' P+1))++w) Z)[j+Z' P]?=some [.int .u32 ((0:Nat):Int)]:=by rw[←l 0,UD N,List.getElem_set_self]
  have s2:∀v,(fW (A++((P++[0])++W.drop (Z' P+1))++w) Z).set (j+Z' P) [.int .u32 ((v:Nat):Int)]=fW (A++((P++[v])++W.drop (Z' P+1))++w) Z:=by intro v;rw[←l 0,L8 N,List.set_set,l]
  have a3D:=CE P.length R;rw[←hD]at a3D;have ew:IntKind.i64.wrap ((Z' P:Int)+1)=((Z' P+1:Nat):Int):=eI Om;simp only[go_sem,O,i5,ei,b1,u,r1,show([PV.int .u32 (0:Int)])=[PV.int .u32 ((0:Nat):Int)]from rfl,s1,i6,bH];by_cases c2:Z' P<nl R
  ·have I:(Z' P:Int)<(nl R:Nat):=Om;obtain⟨S,V⟩:=aPQ R P.length c2;have hr:=cM (aM R) S;rw[V]at hr;simp only[go_sem,I,i7,hr,ei,b1,u,r2,s2,List.set_set,l,MB,ew];refine aH (P++[R/4294967296^P.length%4294967296]) ⟨by simp;omega,by rw[a3Z,a4E];exact a3D.symm⟩ (by simp;omega) ?_ ?_
   ·rw[a3Z,a4E];exact Lq
   ·rw[a3Z,a4E];refine e_ (e_ a_ ?_) ?_<;>simp only[go_sem,u,show ¬x=o from J]
  ·have I:¬(Z' P:Int)<(nl R:Nat):=Om;have V:=aIS R P.length Om;rw[V]at a3D;simp only[go_sem,I,l,MB,ew];refine aH (P++[0]) ⟨by simp;omega,by rw[a3Z,a4E];exact a3D.symm⟩ (by simp;omega) ?_ ?_
   ·rw[a3Z,a4E];exact Lq
   ·rw[a3Z,a4E];refine e_ (e_ a_ ?_) ?_<;>simp only[go_sem,u,show ¬x=o from J]
 ·have O:¬(Z' P:Int)≤(Z' y:Nat):=Om;have e:Z' P=Z' y+1:=Om;simp only[go_sem,O];refine hK _ _ (by unfold duF;exact Lq) ?_;have h2:A++fN (Z' y+1) R++w=A++(P++W.drop P.length)++w:=by rw[a7U Om,a5O,←e,←hD]
  rw[h2];exact b_
theorem aIH{y W:List Nat}{m:Nat}(F:Lim y)(hW:Lim W)(B:Z' y=m+1)(A:Z' W=m+2)(E:0<y[m]):val W/val y≤(4294967296*W[m+1]+W[m])/y[m]:=by
 have x:=dL y (Om:m<Z' y);rw[a4N Om]at x;have l:=dL W (Om:m+1<Z' W);rw[a4N Om,dL W (Om:m<Z' W)]at l;have u:=jH (hW.take m);rw[a4M,a6G Om]at u;have w:0<4294967296^m:=a6X aX;have hb:4294967296^m*y[m]≤val y:=Om;have j:0<4294967296^m*y[m]:=Nat.mul_pos w E;have e:val W=val (W.take m)+4294967296^m*(4294967296*W[m+1]+W[m]):=by rw[l,a5X,a4L,a4V];omega
 refine a6T (Nat.div_le_div_left hb j) ?_;rw[←Nat.div_div_eq_div_mul,e,Nat.add_mul_div_left _ _ w,a7D u,a4I];exact a4B _
theorem aFD{C:Ctx}(L:VQ C)(U0 n o w l u m:Nat)(y z:List Nat)(S:u≠o)(hy:Lim y)(N:Z' y=m+1)(ht:0<y[m])(f':w=l+(m+1))(V:w≤5000)(X:List Nat)(M:uD U0 (val y) (m+1) w l l X (a3W l 0))(K:cP)(F:PF)(H:PH)
  (hF:(duF n o w y (y[m]) u l ((l:Int)-1)).le F) (hH:((PH.nil.set o (.rows 1 (fW X (aP z)))).set u (.rows 1 (aP (a3W l 0)))).le H)
  (hK:∀X' Q' F' H',uD U0 (val y) (m+1) w l 0 X' Q'→(duF n o w y (y[m]) u l (-1)).le F'→((PH.nil.set o (.rows 1 (fW X' (aP z)))).set u (.rows 1 (aP Q'))).le H'→K .normal F' H') :
  aC.wp C (.block 2 (.loop BW)) K F H:=by
 have x:¬o=u:=λh=>S h.symm;have p':¬u=o:=S;have hV:val y<4294967296^(m+1):=by have:=jH hy;rw[N]at this;exact this
 have ν:0<val y:=by have h1:=dL y (Om:m<Z' y);rw[a4N Om]at h1;have:0<4294967296^m*y[m]:=Nat.mul_pos (a6X aX) ht;omega
 have u':=hy _ (a3Y (Om:m<Z' y));generalize htop:y[m]=e at *
 simp only[go_sem];refine wp_loop (α:=Nat × List Nat × List Nat) (λt=>duF n o w y e u l ((t.1:Int)-1)) (λt=>(PH.nil.set o (.rows 1 (fW t.2.1 (aP z)))).set u (.rows 1 (aP t.2.2)))
  (λt=>t.1≤l∧uD U0 (val y) (m+1) w l t.1 t.2.1 t.2.2) (λt=>t.1) (l,X,a3W l 0) ⟨a4B _,M⟩ hF hH ?_
 rintro⟨k,X,Q⟩ ⟨hk,M⟩;simp only at hk M;simp only[go_sem,BW,ir,duF];by_cases h0:0<k
 ·obtain⟨j,rfl⟩:∃j,k=j+1:=⟨k-1,by omega⟩;have hz:((j+1:Nat):Int)-1=(j:Int):=Om;have b':(j:Int)≥0:=Om;have dst:=Pd M hV Om f';rw[show m+1+1=m+2 from rfl]at dst;obtain⟨hlt,Θ⟩:=dst;have ξ:=M.lu';have q':=M.lq';have R:((X.drop j).take (m+2)).length=m+2:=by rw[a4M,a5M];omega
  have γ:Lim ((X.drop j).take (m+2)):=(M.limU.drop _).take _;have s':m+1<((X.drop j).take (m+2)).length:=Om;have r':m<((X.drop j).take (m+2)).length:=Om;have a1:j+(m+1)<Z' X:=Om;have a0:j+m<Z' X:=Om;have w1:((X.drop j).take (m+2))[m+1]=X[j+(m+1)]:=by simp
  have w0:((X.drop j).take (m+2))[m]=X[j+m]:=by simp
  have ρ:=aIH hy γ N R (by rw[htop];exact ht);rw[w1,w0,htop]at ρ;have r1:=UD (Z:=aP z) a1;have r0:=UD (Z:=aP z) a0;have l1:=M.limU _ (a3Y a1);have l0:=M.limU _ (a3Y a0);generalize w':X[j+(m+1)]=E at *
  generalize v':X[j+m]=J at *
  have e1:IntKind.i64.wrap ((j:Int)+(Z' y:Int))=((j+(m+1):Nat):Int):=by rw[N];exact kU Om
  have e0:IntKind.i64.wrap (((j+(m+1):Nat):Int)-1)=((j+m:Nat):Int):=by rw[wrap_i64 Om Om];omega
  have b1:((j+(m+1):Nat):Int)<(w:Nat):=Om;have b0:((j+m:Nat):Int)<(w:Nat):=Om;have Γ:IntKind.u64.wrap ((E:Nat):Int)=((E:Nat):Int):=bO Om;have ω:IntKind.u64.wrap ((J:Nat):Int)=((J:Nat):Int):=bO Om;have η:shift .shl .u64 (E:Int) 32=some (.int .u64 ((2^32*E:Nat):Int)):=SS (s:=32) Om Om;have ψ:(2:Nat)^32=4294967296:=by decide
  have ε:=orI (a:=2^32*E) (b:=J) (n:=2^32*E+J) Om Om (Nat.two_pow_add_eq_or_of_lt Om E).symm Om;rw[ψ]at η ε;have Φ:¬((e:Nat):Int)=0:=Om;have υ:(4294967296*E+J)/e<18446744073709551616:=Nat.lt_of_le_of_lt (a7E _ _) Om;have ζ:IntKind.u64.wrap (Int.tdiv ((4294967296*E+J:Nat):Int) ((e:Nat):Int))=(((4294967296*E+J)/e:Nat):Int):=by rw[show Int.tdiv ((4294967296*E+J:Nat):Int) ((e:Nat):Int)=(((4294967296*E+J)/e:Nat):Int)from rfl];exact bO υ
  have φ:val ((X.drop j).take (m+2))/val y<4294967296:=(a7F ν).2 (by rw[a4Y];exact hlt);have ο:=L7 (X:=X) (Z:=aP z) (j:=j) (m:=m+2) Om;have σ:j+(m+2)≤(fW X (aP z)).length:=by rw[fW,a3Z,dE];omega
  have δ:val ((X.drop j).take (m+2))-val y*(val ((X.drop j).take (m+2))/val y)=val ((X.drop j).take (m+2))%val y:=by have:=a7P (val ((X.drop j).take (m+2))) (val y);omega
  have I:val y*(val ((X.drop j).take (m+2))/val y)≤val ((X.drop j).take (m+2)):=Nat.mul_div_le _ _;clear w1 w0;have gu:=λg0=>aUG (C:=C) L n o w y e u l j X (aP z) S hy M.limU ξ V Om ν (.rows 1 (aP Q)) g0;rw[N,show m+1+1=m+2 from rfl]at gu;generalize hW:(X.drop j).take (m+2)=W at *
  generalize t':val W/val y=O at *
  have Λ:aP W≠[]:=λh=>by have:=congrArg List.length h;rw[dE,R]at this;simp at this
  have tail:∀(g0:Nat)(F:PF)(H:PH),O≤g0→g0<4294967296→((duF n o w y e u l j).set 17 (.int .u64 g0)).le F→((PH.nil.set o (.rows 1 (fW X (aP z)))).set u (.rows 1 (aP Q))).le H →
    aC.wp C (.seq (.block 4 (.loop BU)) (.seq (.region LZ) (.seq (.seq (.region MA) (.block 6 (.loop BV))) (.region MC)))) (gP 3 (kT C (aC.wp C (.region MD)) (iR (λ(t:Nat × List Nat × List Nat)=>duF n o w y e u l ((t.1:Int)-1)) (λt=>(PH.nil.set o (.rows 1 (fW t.2.1 (aP z)))).set u (.rows 1 (aP t.2.2))) (λt=>t.1≤l∧uD U0 (val y) (m+1) w l t.1 t.2.1 t.2.2) (λt=>t.1) (j+1) (gP 2 K)))) F H:=by
   intro g0 F H hg a' hF hH;have gu:=gu g0 hg a';simp only[go_sem]at gu;simp only[go_sem];refine gu _ F H hF hH ?_;intro Y H1 A κ;have f11:Y 11=some (.osl o 1 0 w):=A 11 _ (by unfold duF;simp only[go_sem]);have β:Y 12=some (aO y):=A 12 _ (by unfold duF;simp only[go_sem]);have θ:Y 15=some (.int .i64 j):=A 15 _ (by unfold duF;simp only[go_sem]);have ι:Y 17=some (.int .u64 (O:Nat)):=A 17 _ (by unfold duF;simp only[go_sem]);have Δ:Y 10=some (.int .i64 n):=A 10 _ (by unfold duF;simp only[go_sem]);have f13:Y 13=some (.int .u64 e):=A 13 _ (by unfold duF;simp only[go_sem]);have f14:Y 14=some (.osl u 1 0 l):=A 14 _ (by unfold duF;simp only[go_sem]);have ho:H1 o=some (.rows 1 (fW X (aP z))):=κ o _ (by simp only[go_sem,x]);have τ:H1 u=some (.rows 1 (aP Q)):=κ u _ Sq;have b3:(j:Int)≤((j+(m+1)+1:Nat):Int):=Om;have b4:((j+(m+1)+1:Nat):Int)≤(w:Nat):=Om;have b5:j+(m+1)+1-j=m+2:=Om;have e2:IntKind.i64.wrap (((j+(m+1):Nat):Int)+1)=((j+(m+1)+1:Nat):Int):=eI Om;simp only[go_sem,LZ,f11,θ,β,a3V,e1,e2,b3,b4,b5];refine HV (src:=aP W) ?_ ?_ (λh=>absurd h Λ) λ_ o' U=>?_
   ·simp only[go_sem,ho,σ,ο]
   ·unfold roomFor;rw[dE,R];simp only[maxLen];omega
   rw[dE,R];have n1:¬u=o':=λh=>by subst h;rw[τ]at U;cases U
   have n2:¬o=o':=λh=>by subst h;rw[ho]at U;cases U
   have nq:nl O≤1:=tF (by rw[Nat.pow_one];exact φ);have tm:=L.times y (aM O) hy (bB _) Om (by rw[bH];omega);rw[aY]at tm;have nW:=jV γ;have mn:=L.minus W (aM (val y*O)) γ (bB _) (by rw[aY];exact I) (by rw[bH];exact a6T (kF I) nW) Om;rw[aY,δ]at mn;have Ξ:(aP W).take (m+2)=aP W:=a4N (by rw[dE];omega);simp only[go_sem,ι];refine aB (L.make O Om) Sq ?_;simp only[go_sem,β];refine aB tm Sq ?_;simp only[go_sem];refine tX (o:=o') (s:=1) (rs:=aP W) mn Sq (by simp only[go_sem,show m+2≤W.length by omega,Ξ]) ?_;simp only[go_sem,MA];have Ω:(fW X (aP z)).map (λr=>r.map (PV.cT o' 1 (aP W)))=fW X (aP z):=by
    have:fW X (aP z)=aP (X++z):=by simp[fW,aP]
    rw[this];exact xZ _ _ _ _
   have Ψ:(aP Q).map (λr=>r.map (PV.cT o' 1 (aP W)))=aP Q:=xZ _ _ _ _;have ur:=aWY (C:=C) n o w y e u l j X (aP z) S ξ V Om (.rows 1 (aP Q)) O (val W%val y);rw[N,show m+1+1=m+2 from rfl]at ur;simp only[go_sem]at ur;refine ur _ _ _ ?_ ?_ ?_
   ·unfold duF
    (repeat' (first|exact c_|refine d_ ?_ ?_))<;>first|(simp only[go_sem,Δ,f11,β,f13,f14,θ,ι,n1,n2]<;>rfl)|rfl
   ·refine e_ (e_ a_ ?_) ?_
    ·simp only[go_sem,x,n2,ho,cD.frz,Ω]
    ·simp only[go_sem,n1,τ,cD.frz,Ψ]
   intro F3 H3 B μ;have i':F3 10=some (.int .i64 n):=B 10 _ (by unfold duF;simp only[go_sem]);have j':F3 11=some (.osl o 1 0 w):=B 11 _ (by unfold duF;simp only[go_sem]);have k':F3 12=some (aO y):=B 12 _ (by unfold duF;simp only[go_sem]);have l':F3 13=some (.int .u64 e):=B 13 _ (by unfold duF;simp only[go_sem]);have χ:F3 14=some (.osl u 1 0 l):=B 14 _ (by unfold duF;simp only[go_sem]);have m':F3 15=some (.int .i64 j):=B 15 _ (by unfold duF;simp only[go_sem]);have n':F3 17=some (.int .u64 O):=B 17 _ (by unfold duF;simp only[go_sem]);have g':H3 o=some (.rows 1 (fW (X.take j++fN (m+2) (val W%val y)++X.drop (j+(m+2))) (aP z))):=μ o _ (by simp only[go_sem,x]);have h':H3 u=some (.rows 1 (aP Q)):=μ u _ Sq;have e':j<Z' Q:=Om;have rq:=cM Q e';have d':(j:Int)<(l:Nat):=Om;have sq:=jW Q j O;have ec:IntKind.u32.wrap ((O:Nat):Int)=((O:Nat):Int):=by rw[dU,a5N φ]
   have ej:IntKind.i64.wrap ((j:Int)-1)=(j:Int)-1:=wrap_i64 Om Om;simp only[go_sem,MC,χ,m',n',d',h',rq,ec,sq,MD,ej];refine aH (α:=Nat × List Nat × List Nat) (j,_,_) ⟨by simp only;omega,Θ⟩ (by simp only;omega) ?_ ?_
   ·unfold duF
    (repeat' (first|exact c_|refine d_ ?_ ?_))<;>first|(simp only[go_sem,i',j',k',l',χ]<;>rfl)|rfl
   ·refine e_ (e_ a_ ?_) ?_
    ·simp only[go_sem,x,g']
    ·simp only[go_sem]
  simp only[aC.wp,go_sem]at tail;simp only[go_sem,hz,b'];refine aZ .nil cI a_ ?_;simp only[go_sem,iu,e1,e0,b1,b0,x,r1,r0,Γ,ω,η,ε,iv,Φ,ζ,iw];by_cases c:(4294967296*E+J)/e>4294967295
  ·have c':(((4294967296*E+J)/e:Nat):Int)>4294967295:=Om;simp only[go_sem,c',ix];exact tail 4294967295 _ _ Om aX (by unfold duF;exact Lq) b_
  ·have c':¬(((4294967296*E+J)/e:Nat):Int)>4294967295:=Om;simp only[go_sem,c'];exact tail _ _ _ ρ Om (by unfold duF;exact Lq) b_
 ·have:k=0:=Om;subst this;have hz:¬((0:Nat):Int)-1≥0:=by decide
  simp only[go_sem,hz];refine hK X Q _ _ M ?_ b_;unfold duF
  (repeat' (first|exact c_|refine d_ ?_ ?_))<;>first|(simp only[go_sem,show((0:Nat):Int)-1=-1 from rfl]<;>rfl)|rfl
end Go.PM
