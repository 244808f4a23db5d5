/-
  Texts of ours, joined. No condition.
-/
import Derived.Test.YtjdkjdadjfbopaaGreatDoorLE1
import Derived.Test.YtjdkjdadjfbopaaGreatDoorLE2
import Derived.Lib.ItoaNum
set_option linter.unusedSimpArgs false
set_option linter.unusedVariables false
open Nat renaming reduceEqDiff→γ,reduceAdd→δ,reduceSub→ε,reduceMul→ζ,reduceLT→η,reduceLeDiff→θ,reduceBEq→τ
open Int renaming reduceLT→ι,reduceLE→κ,reduceEq→μ,reduceToNat→ν,reduceAdd→ξ,reduceNeg→ο,reduceBEq→ρ,reduceBNe→σ
open List renaming reduceReplicate→υ
open List renaming length_map→a7Z,range→a8A,replicate→a8D,length_append→a8F,getElem_mem→a8G,length_singleton→a8J,mem_cons→a8M,getElem?_eq_getElem→a8N,length_take→a8S,take_of_length_le→a8T,all_eq_true→a8U,getD_eq_getElem?_getD→a8V,not_mem_nil→a8W,getElem?_map→a8Y,map_append→a8Z,mem_map→a9B,map_cons→a9D,take_length→a9E,append_assoc→a9G,getElem?_eq_some_iff→a9I,drop_zero→a9L,mem_range→a9M,getElem?_eq_none→a9N,getElem_map→a9Q,mem_append→a9T,append_nil→a9W,getElem_of_mem→a9X,map_nil→baB,take_succ_eq_append_getElem→baC,length_nil→baE,mem_of_getElem?→baH,drop_eq_getElem_cons→baJ,Sublist→baM,mem_singleton→baQ,ext_getElem→baX,map_take→baY,map_congr_left→baZ,nodup_append→bbA,set_append_right→bbB,take_append_drop→bbC,map_map→bbG,all_cons→bbP,map_drop→bbR,nil_append→bbS,range_succ→bbT,set_cons_zero→bbW,drop_of_length_le→bcB,getElem?_set→bcD
open Nat renaming gcd→a8B,le_refl→a8E,zero_le→a8H,mul_add→a8O,zero_add→a8Q,lt_or_ge→a9A,mul_assoc→a9C,le_trans→a9F,mod_eq_of_lt→a9P,add_zero→a9Y,mod_lt→a9Z,pow_succ→baD,eq_zero_or_pos→baR,min_eq_left→baS,pos_of_ne_zero→baU,sub_self→baV
open Bool renaming and_eq_true→a8C,not_true→a8I,false_and→a8L,not_false→a8P,true_and→a8R,and_false→a9S,false_eq_true→baK,and_true→baN,and_assoc→bbK
open Option renaming map_some→a8X,some→a9V,getD_some→bbE
open Int renaming toNat_natCast→baA
open Array renaming getElem?_eq_some_iff→bbO
open List renaming length→Z'
set_option maxRecDepth 100000
set_option maxHeartbeats 800000
noncomputable section
namespace Go.PM
open Go Go.Na
structure ti(C:Ctx):Prop extends Ra C where
 ends:∀l:cY,l.Ok→IU l→aH C 102 [.agg l.cells] .nil (aK (.bool (tC l)))
def xH(l:cY)(i:Nat):Bool:=decide ((l.a6T.getD i []).length=Z' l.start)&&(l.a6T.getD i []).all dT&&!((l.a6T.getD i []).map bT).getD i false
def BH(l:cY):Bool:=match rO (l.start.map RF.v)with
 | .ok (n,a,b)=>decide (tZ n a b false 1 1=0)
 | .error _=>false
theorem anZ(l:cY):nT l=(within l.start.length 1 4&&decide (Z' l.exit=Z' l.start)&&decide (Z' l.a6T=Z' l.start)&&l.start.all dT&&l.exit.all dT&&(a8A l.a6T.length).all (xH l)&&BH l&&tC l):=rfl
theorem acP{l:List FV}{e:Int}(h:rO l=.error e):e≠0:=by
 have:∀(l:List FV)(b:FV)(e:Int),l.foldlM kI b=.error e→e≠0:=by
  intro l
  induction l with
  |nil=>intro b e h;cases h
  |cons x t p=>
   intro b e h;rw[List.foldlM_cons]at h;cases d:kI b x with
   |error i=>
    rw[d]at h;have:i=e:=by injection h
    subst this;obtain⟨u,a1,b1⟩:=b;obtain⟨w,a2,b2⟩:=x;simp only[kI]at d;split at d
    ·split at d
     ·rw[SH d];decide
     ·split at d
      ·rw[SH d];decide
      ·rw[SH d];decide
    ·injection d with d;subst d;decide
   |ok y=>rw[d]at h;exact p y e h
 exact this l _ e h
theorem arI{l:List FV}{r:FV}(h:rO l=.ok r):r.rf.Ok:=by
 have:∀(l:List FV)(b r:FV),b.rf.Ok→l.foldlM kI b=.ok r→r.rf.Ok:=by
  intro l
  induction l with
  |nil=>intro b r hb h;injection h with h;subst h;exact hb
  |cons x t e=>
   intro b r hb h;rw[List.foldlM_cons]at h;cases d:kI b x with
   |error i=>rw[d]at h;cases h
   |ok y=>rw[d]at h;exact e y r (Dl d) h
 refine this l _ r ⟨bB _,bB _,?_,?_⟩ h
 ·show(aM 0).length≤_;rw[jO];simp
 ·show(aM 1).length≤_;rw[sV aV aV];simp
theorem SI{neg:Bool}{a b:Nat}{r:FV}(hb:b≠0)(h:lJ neg a b=.ok r):dV r.2.1 r.2.2=true:=by
 unfold lJ at h;split at h
 ·cases h
 ·rename_i l;injection h with h
  subst h;have d:a8B a b ∣ b:=Nat.gcd_dvd_right _ _;have e:b/a8B a b≠0:=by have:=Nat.div_pos (Nat.le_of_dvd (baU hb) d) (baU λh=>hb (Nat.gcd_eq_zero_iff.1 h).2);omega
  have i:=@nN (b/a8B a b);simp only[dV,a8C,decide_eq_true_eq];omega
theorem avH{x y r:FV}(h:kI x y=.ok r):dV r.2.1 r.2.2=true:=by
 obtain⟨i,a1,b1⟩:=x;obtain⟨l,a2,b2⟩:=y;simp only[kI]at h;split at h
 ·rename_i e;rw[a8C]at e;have d:b1*b2≠0:=Nat.mul_ne_zero (jQ.1 e.1).1 (jQ.1 e.2).1;split at h
  ·exact SI d h
  ·split at h
   ·exact SI d h
   ·exact SI d h
 ·cases h
theorem aCG:dV 0 1=true:=by
 have:dJ 1=1:=by rw[tP aV,mN]
 simp[dV,this,mN]
theorem Av{l:List FV}{r:FV}(h:rO l=.ok r):dV r.2.1 r.2.2=true:=by
 have:∀(l:List FV)(b r:FV),dV b.2.1 b.2.2=true→l.foldlM kI b=.ok r→dV r.2.1 r.2.2=true:=by
  intro l
  induction l with
  |nil=>intro b r hb h;injection h with h;subst h;exact hb
  |cons x t e=>
   intro b r hb h;rw[List.foldlM_cons]at h;cases d:kI b x with
   |error i=>rw[d]at h;cases h
   |ok y=>rw[d]at h;exact e y r (avH d) h
 exact this l _ r aCG h
theorem aLG:(⟨false,[],[]⟩:RF).Ok:=⟨λ_ h=>absurd h (a8W),λ_ h=>absurd h (a8W),show 0≤35184372087808 by decide,show 0≤35184372087808 by decide⟩
def aMN(l:cY)(k:Nat):PF:=(((((PF.nil.set 1 (.bM l.cells)).set 3 (.int .i64 (Z' l.start:Nat))).set 45 (aAZ l.a6T)).set 46 (.int .i64 (Z' l.a6T:Nat))).set 47 (.int .i64 k))
theorem aEQ{C:Ctx}(L:ti C)(l:cY)(B:l.Ok)(K:IU l)(F:PF)(A:F 1=some (.bM l.cells)) :
  aC.wp C (.seq (.region n0) (.seq (.region RJ) (.seq (.region RK) (.seq (.region AS) .ret)))) (aY [.tmp 2] (cN (.bool (BH l&&tC l)))) F .nil:=by
 simp only[go_sem,n0,A];refine aB (L.tot l.start B.start) rfl ?_;obtain⟨E,x,y,e,R⟩:=AN (rO (l.start.map RF.v));have go:∀(z:RF)(e:Int),z.Ok→(e=0→(EE z.neg (val z.num) (val z.den) false 1 1=.tup [.int .i64 (tZ z.neg (val z.num) (val z.den) false 1 1),.int .i64 0])∧BH l=decide (tZ z.neg (val z.num) (val z.den) false 1 1=0))→(e≠0→BH l=false) →
   frV (rO (l.start.map RF.v))=.tup [.agg z.cells,.int .i64 e] →
   wpOps C [⟨(some 69),.mv (.tmp 72),none⟩,⟨(some 73),.extract (.tmp 69) 0,none⟩,⟨(some 74),.extract (.tmp 69) 1,none⟩,⟨(some 6),.alloc [(.bool false),.aF,.aF],none⟩,⟨none,.store 3 (.tmp 6) (.tmp 73),none⟩,⟨(some 7),.mv (.tmp 74),none⟩]
    (aC.wp C (.seq (.region RJ) (.seq (.region RK) (.seq (.region AS) .ret))) (aY [.tmp 2] (cN (.bool (BH l&&tC l))))) ((((F.set 70 (.bM [frs l.start,aAZ l.a6T,frs l.exit])).set 71 (frs l.start))).set 72 (.tup [.agg z.cells,.int .i64 e])) .nil:=by
  intro z e O H J _;simp only[go_sem];refine aR λo6 M=>?_;simp only[go_sem,RJ];refine aB (L.frac 1 1 aV aV) rfl ?_;rw[X8];simp only[go_sem,frV];refine aR λo8 p=>?_;have Q:o6≠o8:=by rintro rfl;simp only[aS,if_true]at p;cases p
  simp only[go_sem,RK,Q];refine aB (L.ord z (FV.rf (false,1,1)) O aGR) rfl ?_;rw[show val (FV.rf (false,1,1)).num=1 from aZ 1,show val (FV.rf (false,1,1)).den=1 from aZ 1,show(FV.rf (false,1,1)).neg=false from rfl];by_cases c:e=0
  ·obtain⟨g1,g2⟩:=H c;rw[g1,g2];by_cases d:tZ z.neg (val z.num) (val z.den) false 1 1=0
   ·simp only[go_sem,AS,cC c,cC d,A];refine aB (L.ends l B K) rfl ?_;simp only[go_sem];exact bK rfl (by rw[bN d,a8R])
   ·simp only[go_sem,AS,cC c,bO d];exact bK rfl (by rw[cB d,a8L])
  ·rw[J c];have:∃v w,EE z.neg (val z.num) (val z.den) false 1 1=.tup [.int .i64 v,.int .i64 w]:=by
    unfold EE;split
    ·exact⟨_,_,rfl⟩
    ·exact⟨_,_,rfl⟩
   obtain⟨v,w,u⟩:=this;rw[u];simp only[go_sem,AS,bO c];exact bK rfl rfl
 cases i:rO (l.start.map RF.v)with
 |error e =>rw[i]at go;exact go ⟨false,[],[]⟩ e aLG (λh=>absurd h (acP i)) (λ_=>by rw[BH,i]) rfl
 |ok r =>obtain⟨n,a,b⟩:=r;rw[i]at go;have N:=arI i;refine go (FV.rf (n,a,b)) 0 N (λ_=>?_) (λh=>absurd rfl h) rfl;rw[show val (FV.rf (n,a,b)).num=a from aZ a,show val (FV.rf (n,a,b)).den=b from aZ b,show(FV.rf (n,a,b)).neg=n from rfl];refine⟨?_,by rw[BH,i]⟩;have u:dV a b=true:=Av i;rw[EE,u,On];rfl
theorem aSY{C:Ctx}(L:ti C)(l:cY)(y:l.Ok):ZB.wp C (aY aLV.res (cN (.bool (nT l)))) (PF.args [.agg l.cells]) .nil:=by
 rw[anZ];simp only[go_sem,ZB,amT,amU,aLV,amV,a7Z];refine aB (L.inn l.start.length 1 4) rfl ?_;cases N:within l.start.length 1 4 with
 |false =>simp only[go_sem,a8P,GC];exact bK rfl (by simp only[a8L])
 |true=>
  obtain⟨V,W⟩:=within_iff.1 N;by_cases E:Z' l.exit=Z' l.start
  ·rw[bN E];by_cases F:Z' l.a6T=Z' l.start
   ·rw[bN F];simp only[go_sem,a8I,a7Z,dL (Om:(Z' l.exit:Int)=(Z' l.start:Nat)),dL (Om:(Z' l.a6T:Int)=(Z' l.start:Nat))];refine aB (L.aMY l.start y.start) rfl ?_;cases R:l.start.all dT with
    |false =>simp only[go_sem,a8P,GC];exact bK rfl (by simp only[a8L])
    |true=>
     simp only[go_sem,a8I];refine aB (L.aMY l.exit y.exit) rfl ?_;cases S:l.exit.all dT with
     |false =>simp only[go_sem,a8P,GC];exact bK rfl (by simp only[a8L])
     |true=>
      simp only[go_sem,a8I,amW,a7Z];have x:∀k (h:k<Z' l.a6T),xH l k=(decide ((l.a6T[k]).length=Z' l.start)&&(l.a6T[k]).all dT&&!((l.a6T[k]).map bT).getD k false):=by
       intro k h;have:l.a6T.getD k []=l.a6T[k]:=by simp[a8V,h]
       rw[xH,this]
      refine wp_loop (α:=Nat) (λk=>aMN l k) (λ_=>.nil) (λk=>k≤Z' l.a6T∧wN (xH l) k) (λk=>Z' l.a6T-k) 0 ⟨a8H _,.zero⟩ ?_ a_ ?_
      ·unfold aMN
       (repeat' (first|exact d_|refine c_ ?_ ?_))<;>first|(simp only[go_sem,a7Z]<;>rfl)|rfl
      rintro k ⟨U,M⟩;simp only[go_sem,Ve,amX,aMN];by_cases hlt:k<Z' l.a6T
      ·have e:(k:Int)<(Z' l.a6T:Nat):=Om;have B:(l.a6T.map λr=>[frs r])[k]?=some [frs l.a6T[k]]:=by simp[hlt]
       have d:=x k hlt;have u:=y.row l.a6T[k] (a8G hlt);simp only[go_sem,e,amY,B,amZ,a7Z];by_cases H:(l.a6T[k]).length=Z' l.start
       ·rw[bN H,a8R]at d;simp only[go_sem,dL (show(((l.a6T[k]).length:Nat):Int)=(Z' l.start:Nat) by omega)];refine aB (L.aMY _ u) rfl ?_;cases J:(l.a6T[k]).all dT with
        |false =>rw[J,a8L]at d;simp only[go_sem,a8P,gm];refine bK (b:=false) rfl ?_;have:(a8A l.a6T.length).all (xH l)=false:=gS hlt d;rw[this];simp only[a8L,a9S]
        |true=>
         have w:k<(l.a6T[k]).length:=Om;have Q:((l.a6T[k]).map RF.cells)[k]?=some ((l.a6T[k])[k]).cells:=by simp[w]
         have A:((l.a6T[k]).map bT).getD k false=bT (l.a6T[k])[k]:=by simp[a8V,w]
         rw[J,a8R,A]at d;simp only[go_sem,a8I,Q];refine aB (L.uO _ (u.all _ (a8G w))) rfl ?_;cases K:bT (l.a6T[k])[k]with
         |true =>rw[K]at d;simp only[go_sem,gm];refine bK (b:=false) rfl ?_;have:(a8A l.a6T.length).all (xH l)=false:=gS hlt d;rw[this];simp only[a8L,a9S]
         |false =>rw[K]at d;simp only[go_sem,anA,wZz k];refine aJ (k+1) ⟨hlt,M.step d⟩ Om ?_ a_;exact Lq
       ·simp only[cB H,a8L]at d;simp only[go_sem,eC (show(((l.a6T[k]).length:Nat):Int)≠(Z' l.start:Nat) by omega),gm];refine bK (b:=false) rfl ?_;have:(a8A l.a6T.length).all (xH l)=false:=gS hlt d;rw[this];simp only[a8L,a9S]
      ·have e:¬(k:Int)<(Z' l.a6T:Nat):=Om;have:k=Z' l.a6T:=Om;subst this;have p:(a8A l.a6T.length).all (xH l)=true:=M;have O:IU l:=⟨by omega,by omega,λr B=>by obtain⟨i,hi,rfl⟩:=a9X B;have:=a8U.1 p i (a9M.2 hi);rw[x i hi]at this;simp only[a8C,decide_eq_true_eq]at this;omega⟩
       have tail:=aEQ L l y O;simp only[aC.wp,go_sem]at tail;rw[p];simp only[go_sem,e,a8R,baN];exact tail _ rfl
   ·simp only[go_sem,a8I,a7Z,dL (Om:(Z' l.exit:Int)=(Z' l.start:Nat)),eC (Om:(Z' l.a6T:Int)≠(Z' l.start:Nat)),GC];exact bK rfl (by rw[cB F];simp only[a8L,a9S])
  ·simp only[go_sem,a8I,a7Z,eC (Om:(Z' l.exit:Int)≠(Z' l.start:Nat)),GC];exact bK rfl (by rw[cB E];simp only[a8L,a9S])
structure oQ(C:Ctx):Prop extends ti C where
 law:∀l:cY,l.Ok→aH C 95 [.agg l.cells] .nil (aK (.bool (nT l)))
 pol:∀(p:cL)(n:Nat),p.Ok→n≤4→aH C 112 [.agg p.cells,.int .i64 n] .nil (aK (.bool (mF n p)))
 a6X:∀f:aE,f.Ok→aH C 111 [.agg f.cells] .nil (aK (.bool (sA f)))
abbrev hL(l:List (List UInt8)):List (List PV):=l.map λs=>[PV.str s]
theorem CZ(l:List (List UInt8)){k:Nat}(h:k<Z' l):hL (l.take k)++[[.str l[k]]]=hL (l.take (k+1)):=by
 unfold hL;rw[baC h,a8Z];rfl
theorem yD{l:List (List UInt8)}(h:Z' l≤1000):roomFor (hL l).length 1 16:=by
 unfold roomFor hL;simp only[a7Z,maxLen];omega
def lO{α:Type}(l:List α)(p:α→Bool)(k:Nat):Bool:=(l.take k).all p
theorem yO{α:Type}(l:List α)(p:α→Bool):lO l p 0=true:=rfl
theorem yN{α:Type}(l:List α)(p:α→Bool){k:Nat}(h:k<Z' l):lO l p (k+1)=(lO l p k&&p l[k]):=by
 unfold lO;rw[baC h,List.all_append];simp
theorem CD{α:Type}(l:List α)(p:α→Bool):lO l p l.length=l.all p:=by unfold lO;rw[a9E]
def lT(f:aE)(d e i l p:PV)(ok:Bool):PF:=(((((((PF.nil.set 1 (.bM f.cells)).set 3 (d)).set 4 (e)).set 5 (i)).set 6 (l)).set 7 (p)).set 8 (.bool ok))
structure oU(F:PF)(f:aE)(w3 w4 w5 w6 w7:PV)(ok:Bool):Prop where
 a1:F 1=some (.bM f.cells)
 a3:F 3=some w3
 a4:F 4=some w4
 a5:F 5=some w5
 a6:F 6=some w6
 a7:F 7=some w7
 a8:F 8=some (.bool ok)
theorem ayQ{C:Ctx}(L:oQ C)(f:aE)(Q:f.Ok)(W:Z' f.a6V≤4)(B E J M:PV)(K:cD)(F:PF)(H:PH)(l:oU F f .aF B E J M true)
  (x:F 67=some (.sl 4 (f.a6V.map cY.cells))) (y:F 68=some (.int .i64 (Z' f.a6V:Nat))) (A:F 69=some (.int .i64 0))
  (O:∀v N H',oU N f v B E J M (f.a6V.all nT)→bJ H' 1 v (hL (f.a6V.map cY.name))→K (.exit 0) N H') :
  aC.wp C (.loop RQ) K F H:=by
 refine wp_loop (α:=Nat × PV × PH) (λt=>(((lT f t.2.1 B E J M (lO f.a6V nT t.1)).set 67 (.sl 4 (f.a6V.map cY.cells))).set 68 (.int .i64 (Z' f.a6V:Nat))).set 69 (.int .i64 t.1)) (λt=>t.2.2)
  (λt=>t.1≤Z' f.a6V∧bJ t.2.2 1 t.2.1 (hL ((f.a6V.map cY.name).take t.1))) (λt=>Z' f.a6V-t.1) (0,.aF,.nil) ⟨a8H _,.nil⟩ ?_ a_ ?_
 ·unfold lT
  (repeat' (first|exact d_|refine c_ ?_ ?_))<;>first|(simp only[go_sem,l.a1,l.a3,l.a4,l.a5,l.a6,l.a7,l.a8,x,y,A,yO]<;>rfl)|rfl
 rintro⟨k,v,V⟩ ⟨R,w⟩;simp only at R w ⊢;simp only[go_sem,RQ,anV,lT];by_cases hlt:k<Z' f.a6V
 ·have e:(k:Int)<(Z' f.a6V:Nat):=Om;have U:(f.a6V.map cY.cells)[k]?=some (f.a6V[k]).cells:=by simp[hlt]
  have u:=CZ (f.a6V.map cY.name) (k:=k) (by simpa using hlt);rw[a9Q]at u;simp only[go_sem,e,anW,U];refine aR λo S=>?_;simp only[go_sem,anX];refine rC w S (yD (by simp;omega)) λv' H' i p=>?_;rw[u]at i;have d:=yN f.a6V nT hlt;cases hb:lO f.a6V nT k with
  |false =>rw[hb,a8L]at d;simp only[go_sem,D4,p,oc,wZz k];refine aJ (k+1,v',H') ⟨hlt,i⟩ (by simp only;omega) ?_ b_;simp only[d];exact Lq
  |true =>rw[hb,a8R]at d;simp only[go_sem,D4,p];refine aB (L.law _ (Q.law _ (a8G hlt))) Ev ?_;simp only[go_sem,oc,wZz k];refine aJ (k+1,v',H') ⟨hlt,i⟩ (by simp only;omega) ?_ b_;simp only[d];exact Lq
 ·have e:¬(k:Int)<(Z' f.a6V:Nat):=Om;have:k=Z' f.a6V:=Om;subst this;rw[a8T bD]at w;rw[CD];simp only[go_sem,e];exact O v _ _ ⟨by simp only[go_sem],by simp only[go_sem],by simp only[go_sem],by simp only[go_sem],by simp only[go_sem],by simp only[go_sem],by simp only[go_sem]⟩ w
theorem KV{n:Nat}(h:n≤1000):IntKind.i64.wrap ((n:Int)-1)=(n:Int)-1:=wrap_i64 Om Om
theorem ayR{C:Ctx}(L:oQ C)(f:aE)(hs:Z' f.a6P≤4)(hl:Z' f.a6V≤4)(u:Bool)(A B E J:PV)(K:cD)(F:PF)(H:PH)(l:oU F f A .aF B E J u)
  (O:F 85=some (.sl 4 (f.a6P.map dR.cells))) (Q:F 86=some (.int .i64 (Z' f.a6P:Nat))) (R:F 87=some (.int .i64 0))
  (U:∀v p H',oU p f A v B E J (u&&f.a6P.all (nY f))→bJ H' 1 v (hL (f.a6P.map dR.name))→K (.exit 2) p H') :
  aC.wp C (.loop RR) K F H:=by
 refine wp_loop (α:=Nat × PV × PH) (λt=>(((lT f A t.2.1 B E J (u&&lO f.a6P (nY f) t.1)).set 85 (.sl 4 (f.a6P.map dR.cells))).set 86 (.int .i64 (Z' f.a6P:Nat))).set 87 (.int .i64 t.1)) (λt=>t.2.2)
  (λt=>t.1≤Z' f.a6P∧bJ t.2.2 1 t.2.1 (hL ((f.a6P.map dR.name).take t.1))) (λt=>Z' f.a6P-t.1) (0,.aF,.nil) ⟨a8H _,.nil⟩ ?_ a_ ?_
 ·unfold lT
  (repeat' (first|exact d_|refine c_ ?_ ?_))<;>first|(simp only[go_sem,l.a1,l.a3,l.a4,l.a5,l.a6,l.a7,l.a8,O,Q,R,yO,baN]<;>rfl)|rfl
 rintro⟨k,v,Z⟩ ⟨W,M⟩;simp only at W M ⊢;simp only[go_sem,RR,V1,lT];by_cases hlt:k<Z' f.a6P
 ·have d:(k:Int)<(Z' f.a6P:Nat):=Om;have Y:(f.a6P.map dR.cells)[k]?=some (f.a6P[k]).cells:=by simp[hlt]
  have y:=CZ (f.a6P.map dR.name) (k:=k) (by simpa using hlt);rw[a9Q]at y;simp only[go_sem,d,V2,Y];refine aR λo X=>?_;simp only[go_sem,V3];refine rC M X (yD (by simp;omega)) λv' H' w e=>?_;rw[y]at w;have i:=yN f.a6P (nY f) hlt;have fin:∀(c:Bool)(p:PF),c=(u&&lO f.a6P (nY f) (k+1))→((((lT f A v' B E J c).set 85 (.sl 4 (f.a6P.map dR.cells))).set 86 (.int .i64 (Z' f.a6P:Nat))).set 87 (.int .i64 (k+1:Nat))).le p →
    gV (λ(t:Nat × PV × PH)=>(((lT f A t.2.1 B E J (u&&lO f.a6P (nY f) t.1)).set 85 (.sl 4 (f.a6P.map dR.cells))).set 86 (.int .i64 (Z' f.a6P:Nat))).set 87 (.int .i64 t.1)) (λ(t:Nat × PV × PH)=>t.2.2)  (λ(t:Nat × PV × PH)=>t.1≤Z' f.a6P∧bJ t.2.2 1 t.2.1 (hL ((f.a6P.map dR.name).take t.1))) (λ(t:Nat × PV × PH)=>Z' f.a6P-t.1) (Z' f.a6P-k) K .normal p H':=by
   intro c p V x;refine aJ (α:=Nat × PV × PH) (k+1,v',H') ⟨hlt,w⟩ (by simp only;omega) ?_ b_;rw[V]at x;exact x
  unfold lT at fin;rw[i,←bbK]at fin;have S:nY f f.a6P[k]=(within (f.a6P[k]).a7E 1 16&&within (f.a6P[k]).port 1 64&&within (f.a6P[k]).law 0 ((Z' f.a6V:Int)-1)):=rfl;cases hb:(u&&lO f.a6P (nY f) k)with
  |false =>rw[hb,a8L]at fin;simp only[go_sem,og,e,HM,wZz k];refine fin false _ rfl ?_;exact Lq
  |true=>
   rw[hb,a8R]at fin;simp only[go_sem,og,e];refine aB (L.inn _ 1 16) Ev ?_;cases N:within (f.a6P[k]).a7E 1 16 with
   |false =>simp only[go_sem,HM,wZz k];refine fin false _ (by rw[S,N];simp only[a8L]) ?_;exact Lq
   |true=>
    simp only[go_sem,e];refine aB (L.inn _ 1 64) Ev ?_;cases e2:within (f.a6P[k]).port 1 64 with
    |false =>simp only[go_sem,HM,wZz k];refine fin false _ (by rw[S,N,e2];simp only[a8L,a9S]) ?_;exact Lq
    |true =>simp only[go_sem,e,a7Z,KV (Om:Z' f.a6V≤1000)];refine aB (L.inn _ 0 _) Ev ?_;simp only[go_sem,HM,wZz k];refine fin (within (f.a6P[k]).law 0 ((Z' f.a6V:Int)-1)) _ (by rw[S,N,e2];simp only[a8R]) ?_;exact Lq
 ·have d:¬(k:Int)<(Z' f.a6P:Nat):=Om;have:k=Z' f.a6P:=Om;subst this;rw[a8T bD]at M;rw[CD];simp only[go_sem,d];exact U v _ _ ⟨by simp only[go_sem],by simp only[go_sem],by simp only[go_sem],by simp only[go_sem],by simp only[go_sem],by simp only[go_sem],by simp only[go_sem]⟩ M
theorem ayS{C:Ctx}(L:oQ C)(f:aE)(t:List cX)(V:Z' t≤40)(u:Bool)(A B E J:PV)(K:cD)(F:PF)(H:PH)(e:oU F f A B .aF E J u)
  (w:F 119=some (.sl 7 (t.map cX.cells))) (x:F 120=some (.int .i64 (Z' t:Nat))) (y:F 121=some (.int .i64 0))
  (N:∀v M H',oU M f A B v E J u→bJ H' 1 v (hL (t.map cX.name))→K (.exit 4) M H') :
  aC.wp C (.loop RS) K F H:=by
 refine wp_loop (α:=Nat × PV × PH) (λa=>(((lT f A B a.2.1 E J u).set 119 (.sl 7 (t.map cX.cells))).set 120 (.int .i64 (Z' t:Nat))).set 121 (.int .i64 a.1)) (λa=>a.2.2)
  (λa=>a.1≤Z' t∧bJ a.2.2 1 a.2.1 (hL ((t.map cX.name).take a.1))) (λa=>Z' t-a.1) (0,.aF,.nil) ⟨a8H _,.nil⟩ ?_ a_ ?_
 ·unfold lT
  (repeat' (first|exact d_|refine c_ ?_ ?_))<;>first|(simp only[go_sem,e.a1,e.a3,e.a4,e.a5,e.a6,e.a7,e.a8,w,x,y]<;>rfl)|rfl
 rintro⟨k,v,U⟩ ⟨O,p⟩;simp only at O p ⊢;simp only[go_sem,RS,V4,lT];by_cases hlt:k<Z' t
 ·have d:(k:Int)<(Z' t:Nat):=Om;have S:(t.map cX.cells)[k]?=some (t[k]).cells:=by simp[hlt]
  have l:=CZ (t.map cX.name) (k:=k) (by simpa using hlt);rw[a9Q]at l;simp only[go_sem,d,V5,S];refine aR λo Q=>?_;simp only[go_sem,V6];refine rC p Q (yD (by simp;omega)) λv' H' i R=>?_;rw[l]at i;simp only[go_sem,V7,wZz k];refine aJ (k+1,v',H') ⟨hlt,i⟩ (by simp only;omega) ?_ b_;exact Lq
 ·have d:¬(k:Int)<(Z' t:Nat):=Om;have:k=Z' t:=Om;subst this;rw[a8T bD]at p;simp only[go_sem,d];exact N v _ _ ⟨by simp only[go_sem],by simp only[go_sem],by simp only[go_sem],by simp only[go_sem],by simp only[go_sem],by simp only[go_sem],by simp only[go_sem]⟩ p
theorem ayT{C:Ctx}(L:oQ C)(f:aE)(d:List (List UInt8))(hn:Z' d≤40)(hs:Z' f.a6O≤24)(hm:Z' f.a6P≤4)(hd:Z' f.a6R≤40)(x:Bool)(E J Y M N:PV)(K:cD)(F:PF)(H:PH)(u:oU F f E J Y M N x)
  (h0:bJ H 1 Y (hL d))
  (S:F 132=some (.sl 3 (f.a6O.map eO.cells))) (U:F 133=some (.int .i64 (Z' f.a6O:Nat))) (V:F 134=some (.int .i64 0))
  (hK:∀v w H',oU w f E J v M N (x&&f.a6O.all (lL f))→bJ H' 1 v (hL (d++f.a6O.map eO.name))→K (.exit 6) w H') :
  aC.wp C (.loop RT) K F H:=by
 refine wp_loop (α:=Nat × PV × PH) (λt=>(((lT f E J t.2.1 M N (x&&lO f.a6O (lL f) t.1)).set 132 (.sl 3 (f.a6O.map eO.cells))).set 133 (.int .i64 (Z' f.a6O:Nat))).set 134 (.int .i64 t.1)) (λt=>t.2.2)
  (λt=>t.1≤Z' f.a6O∧bJ t.2.2 1 t.2.1 (hL (d++(f.a6O.map eO.name).take t.1))) (λt=>Z' f.a6O-t.1) (0,Y,H) ⟨a8H _,by rw[List.take_zero,a9W];exact h0⟩ ?_ b_ ?_
 ·unfold lT
  (repeat' (first|exact d_|refine c_ ?_ ?_))<;>first|(simp only[go_sem,u.a1,u.a3,u.a4,u.a5,u.a6,u.a7,u.a8,S,U,V,yO,baN]<;>rfl)|rfl
 rintro⟨k,v,H0⟩ ⟨hk,R⟩;simp only at hk R ⊢;simp only[go_sem,RT,V8,lT];by_cases hlt:k<Z' f.a6O
 ·have e:(k:Int)<(Z' f.a6O:Nat):=Om;have hr:(f.a6O.map eO.cells)[k]?=some (f.a6O[k]).cells:=by simp[hlt]
  have X:hL (d++(f.a6O.map eO.name).take k)++[[.str (f.a6O[k]).name]]=hL (d++(f.a6O.map eO.name).take (k+1)):=by rw[baC (by simpa using hlt),←a9G,a9Q];unfold hL;simp only[a8Z,a9D,baB]
  simp only[go_sem,e,V9,hr];refine aR λo ho=>?_;simp only[go_sem,Wa];refine rC R ho (yD (by simp;omega)) λv' H' y l=>?_;rw[X]at y;have p:=yN f.a6O (lL f) hlt;have fin:∀(c:Bool)(w:PF),c=(x&&lO f.a6O (lL f) (k+1))→((((lT f E J v' M N c).set 132 (.sl 3 (f.a6O.map eO.cells))).set 133 (.int .i64 (Z' f.a6O:Nat))).set 134 (.int .i64 (k+1:Nat))).le w →
    gV (λ(t:Nat × PV × PH)=>(((lT f E J t.2.1 M N (x&&lO f.a6O (lL f) t.1)).set 132 (.sl 3 (f.a6O.map eO.cells))).set 133 (.int .i64 (Z' f.a6O:Nat))).set 134 (.int .i64 t.1)) (λ(t:Nat × PV × PH)=>t.2.2)  (λ(t:Nat × PV × PH)=>t.1≤Z' f.a6O∧bJ t.2.2 1 t.2.1 (hL (d++(f.a6O.map eO.name).take t.1))) (λ(t:Nat × PV × PH)=>Z' f.a6O-t.1) (Z' f.a6O-k) K .normal w H':=by
   intro c w hc A;refine aJ (α:=Nat × PV × PH) (k+1,v',H') ⟨hlt,y⟩ (by simp only;omega) ?_ b_;rw[hc]at A;exact A
  unfold lT at fin;rw[p,←bbK]at fin;have i:lL f f.a6O[k]=(within (f.a6O[k]).model 0 ((Z' f.a6P:Int)-1)&&within (f.a6O[k]).machine 0 ((Z' f.a6R:Int)-1)&&decide ((f.a6R.map cX.level).getD (f.a6O[k]).machine.toNat 0=4)):=rfl;cases hb:(x&&lO f.a6O (lL f) k)with
  |false =>rw[hb,a8L]at fin;simp only[go_sem,oo,l,AU,wZz k];refine fin false _ rfl ?_;exact Lq
  |true=>
   rw[hb,a8R]at fin;simp only[go_sem,oo,l,a7Z,KV (Om:Z' f.a6P≤1000)];refine aB (L.inn _ 0 _) Ev ?_;cases O:within (f.a6O[k]).model 0 ((Z' f.a6P:Int)-1)with
   |false =>simp only[go_sem,AU,wZz k];refine fin false _ (by rw[i,O];simp only[a8L]) ?_;exact Lq
   |true=>
    simp only[go_sem,l,a7Z,KV (Om:Z' f.a6R≤1000)];refine aB (L.inn _ 0 _) Ev ?_;cases e2:within (f.a6O[k]).machine 0 ((Z' f.a6R:Int)-1)with
    |false =>simp only[go_sem,AU,wZz k];refine fin false _ (by rw[i,O,e2];simp only[a8L,a9S]) ?_;exact Lq
    |true=>
     obtain⟨Z,i2⟩:=within_iff.1 e2;have i3:(f.a6O[k]).machine.toNat<Z' f.a6R:=Om;have B:(f.a6R.map cX.cells)[(f.a6O[k]).machine.toNat]?=some (f.a6R[(f.a6O[k]).machine.toNat]).cells:=by simp[i3]
     have W:(f.a6R.map cX.level).getD (f.a6O[k]).machine.toNat 0=(f.a6R[(f.a6O[k]).machine.toNat]).level:=by simp[i3]
     rw[W]at i;by_cases Q:(f.a6R[(f.a6O[k]).machine.toNat]).level=4
     ·simp only[go_sem,l,Z,B,cC Q,AU,wZz k];refine fin true _ (by rw[i,O,e2,bN Q];rfl) ?_;exact Lq
     ·simp only[go_sem,l,Z,B,bO Q,AU,wZz k];refine fin false _ (by rw[i,O,e2,cB Q];rfl) ?_;exact Lq
 ·have e:¬(k:Int)<(Z' f.a6O:Nat):=Om;have:k=Z' f.a6O:=Om;subst this;rw[a8T bD]at R;rw[CD];simp only[go_sem,e];exact hK v _ _ ⟨by simp only[go_sem],by simp only[go_sem],by simp only[go_sem],by simp only[go_sem],by simp only[go_sem],by simp only[go_sem],by simp only[go_sem]⟩ R
theorem ayU{C:Ctx}(L:oQ C)(f:aE)(U:f.Ok)(hs:Z' f.a6S≤4)(W:Z' f.a6P≤4)(p:Bool)(A B E J:PV)(K:cD)(F:PF)(H:PH)(i:oU F f A B E .aF J p)
  (N:F 174=some (.sl 17 (f.a6S.map cL.cells))) (O:F 175=some (.int .i64 (Z' f.a6S:Nat))) (Q:F 176=some (.int .i64 0))
  (R:∀v l H',oU l f A B E v J (p&&f.a6S.all (mF f.a6P.length))→bJ H' 1 v (hL (f.a6S.map cL.name))→K (.exit 8) l H') :
  aC.wp C (.loop RU) K F H:=by
 refine wp_loop (α:=Nat × PV × PH) (λt=>(((lT f A B E t.2.1 J (p&&lO f.a6S (mF f.a6P.length) t.1)).set 174 (.sl 17 (f.a6S.map cL.cells))).set 175 (.int .i64 (Z' f.a6S:Nat))).set 176 (.int .i64 t.1)) (λt=>t.2.2)
  (λt=>t.1≤Z' f.a6S∧bJ t.2.2 1 t.2.1 (hL ((f.a6S.map cL.name).take t.1))) (λt=>Z' f.a6S-t.1) (0,.aF,.nil) ⟨a8H _,.nil⟩ ?_ a_ ?_
 ·unfold lT
  (repeat' (first|exact d_|refine c_ ?_ ?_))<;>first|(simp only[go_sem,i.a1,i.a3,i.a4,i.a5,i.a6,i.a7,i.a8,N,O,Q,yO,baN]<;>rfl)|rfl
 rintro⟨k,v,Z⟩ ⟨V,M⟩;simp only at V M ⊢;simp only[go_sem,RU,Wb,lT];by_cases hlt:k<Z' f.a6S
 ·have d:(k:Int)<(Z' f.a6S:Nat):=Om;have Y:(f.a6S.map cL.cells)[k]?=some (f.a6S[k]).cells:=by simp[hlt]
  have y:=CZ (f.a6S.map cL.name) (k:=k) (by simpa using hlt);rw[a9Q]at y;simp only[go_sem,d,Wc,Y];refine aR λo X=>?_;simp only[go_sem,Wd];refine rC M X (yD (by simp;omega)) λv' H' u x=>?_;rw[y]at u;have e:=yN f.a6S (mF f.a6P.length) hlt;have fin:∀(c:Bool)(l:PF),c=(p&&lO f.a6S (mF f.a6P.length) (k+1))→((((lT f A B E v' J c).set 174 (.sl 17 (f.a6S.map cL.cells))).set 175 (.int .i64 (Z' f.a6S:Nat))).set 176 (.int .i64 (k+1:Nat))).le l →
    gV (λ(t:Nat × PV × PH)=>(((lT f A B E t.2.1 J (p&&lO f.a6S (mF f.a6P.length) t.1)).set 174 (.sl 17 (f.a6S.map cL.cells))).set 175 (.int .i64 (Z' f.a6S:Nat))).set 176 (.int .i64 t.1)) (λ(t:Nat × PV × PH)=>t.2.2)  (λ(t:Nat × PV × PH)=>t.1≤Z' f.a6S∧bJ t.2.2 1 t.2.1 (hL ((f.a6S.map cL.name).take t.1))) (λ(t:Nat × PV × PH)=>Z' f.a6S-t.1) (Z' f.a6S-k) K .normal l H':=by
   intro c l S w;refine aJ (α:=Nat × PV × PH) (k+1,v',H') ⟨hlt,u⟩ (by simp only;omega) ?_ b_;rw[S]at w;exact w
  unfold lT at fin;rw[e,←bbK]at fin;cases hb:(p&&lO f.a6S (mF f.a6P.length) k)with
  |false =>rw[hb,a8L]at fin;simp only[go_sem,ot,x,ou,wZz k];refine fin false _ rfl ?_;exact Lq
  |true =>rw[hb,a8R]at fin;simp only[go_sem,ot,x,a7Z];refine aB (L.pol _ _ (U.a7A _ (a8G hlt)) W) Ev ?_;simp only[go_sem,ou,wZz k];refine fin _ _ rfl ?_;exact Lq
 ·have d:¬(k:Int)<(Z' f.a6S:Nat):=Om;have:k=Z' f.a6S:=Om;subst this;rw[a8T bD]at M;rw[CD];simp only[go_sem,d];exact R v _ _ ⟨by simp only[go_sem],by simp only[go_sem],by simp only[go_sem],by simp only[go_sem],by simp only[go_sem],by simp only[go_sem],by simp only[go_sem]⟩ M
theorem ayV{C:Ctx}(L:oQ C)(f:aE)(hs:Z' f.a6Q≤12)(Z:Z' f.a6S≤4)(p:Bool)(A B E J:PV)(K:cD)(F:PF)(H:PH)(i:oU F f A B E J .aF p)
  (N:F 195=some (.sl 2 (f.a6Q.map gQ.cells))) (O:F 196=some (.int .i64 (Z' f.a6Q:Nat))) (Q:F 197=some (.int .i64 0))
  (R:∀v l H',oU l f A B E J v (p&&f.a6Q.all (sM f))→bJ H' 1 v (hL (f.a6Q.map gQ.name))→K (.exit 10) l H') :
  aC.wp C (.loop RV) K F H:=by
 refine wp_loop (α:=Nat × PV × PH) (λt=>(((lT f A B E J t.2.1 (p&&lO f.a6Q (sM f) t.1)).set 195 (.sl 2 (f.a6Q.map gQ.cells))).set 196 (.int .i64 (Z' f.a6Q:Nat))).set 197 (.int .i64 t.1)) (λt=>t.2.2)
  (λt=>t.1≤Z' f.a6Q∧bJ t.2.2 1 t.2.1 (hL ((f.a6Q.map gQ.name).take t.1))) (λt=>Z' f.a6Q-t.1) (0,.aF,.nil) ⟨a8H _,.nil⟩ ?_ a_ ?_
 ·unfold lT
  (repeat' (first|exact d_|refine c_ ?_ ?_))<;>first|(simp only[go_sem,i.a1,i.a3,i.a4,i.a5,i.a6,i.a7,i.a8,N,O,Q,yO,baN]<;>rfl)|rfl
 rintro⟨k,v,Y⟩ ⟨U,M⟩;simp only at U M ⊢;simp only[go_sem,RV,We,lT];by_cases hlt:k<Z' f.a6Q
 ·have d:(k:Int)<(Z' f.a6Q:Nat):=Om;have X:(f.a6Q.map gQ.cells)[k]?=some (f.a6Q[k]).cells:=by simp[hlt]
  have y:=CZ (f.a6Q.map gQ.name) (k:=k) (by simpa using hlt);rw[a9Q]at y;simp only[go_sem,d,Wf,X];refine aR λo W=>?_;simp only[go_sem,Wg];refine rC M W (yD (by simp;omega)) λv' H' u x=>?_;rw[y]at u;have e:=yN f.a6Q (sM f) hlt;have fin:∀(c:Bool)(l:PF),c=(p&&lO f.a6Q (sM f) (k+1))→((((lT f A B E J v' c).set 195 (.sl 2 (f.a6Q.map gQ.cells))).set 196 (.int .i64 (Z' f.a6Q:Nat))).set 197 (.int .i64 (k+1:Nat))).le l →
    gV (λ(t:Nat × PV × PH)=>(((lT f A B E J t.2.1 (p&&lO f.a6Q (sM f) t.1)).set 195 (.sl 2 (f.a6Q.map gQ.cells))).set 196 (.int .i64 (Z' f.a6Q:Nat))).set 197 (.int .i64 t.1)) (λ(t:Nat × PV × PH)=>t.2.2)  (λ(t:Nat × PV × PH)=>t.1≤Z' f.a6Q∧bJ t.2.2 1 t.2.1 (hL ((f.a6Q.map gQ.name).take t.1))) (λ(t:Nat × PV × PH)=>Z' f.a6Q-t.1) (Z' f.a6Q-k) K .normal l H':=by
   intro c l S w;refine aJ (α:=Nat × PV × PH) (k+1,v',H') ⟨hlt,u⟩ (by simp only;omega) ?_ b_;rw[S]at w;exact w
  unfold lT at fin;rw[e,←bbK]at fin;have V:sM f f.a6Q[k]=within (f.a6Q[k]).a7A 0 ((Z' f.a6S:Int)-1):=rfl;cases hb:(p&&lO f.a6Q (sM f) k)with
  |false =>rw[hb,a8L]at fin;simp only[go_sem,ow,x,oz,wZz k];refine fin false _ rfl ?_;exact Lq
  |true =>rw[hb,a8R,V]at fin;simp only[go_sem,ow,x,a7Z,KV (Om:Z' f.a6S≤1000)];refine aB (L.inn _ 0 _) Ev ?_;simp only[go_sem,oz,wZz k];refine fin _ _ rfl ?_;exact Lq
 ·have d:¬(k:Int)<(Z' f.a6Q:Nat):=Om;have:k=Z' f.a6Q:=Om;subst this;rw[a8T bD]at M;rw[CD];simp only[go_sem,d];exact R v _ _ ⟨by simp only[go_sem],by simp only[go_sem],by simp only[go_sem],by simp only[go_sem],by simp only[go_sem],by simp only[go_sem],by simp only[go_sem]⟩ M
theorem rN{f:aE}(h:¬(Z' f.a6V≤4∧Z' f.a6P≤4∧Z' f.a6R≤40∧Z' f.a6O≤24∧Z' f.a6S≤4∧Z' f.a6Q≤12)):rM f=false:=by
 rw[←Bool.not_eq_true];intro d;simp only[rM,a8C,decide_eq_true_eq]at d;omega
theorem ajV{f:aE}(h:Z' f.a6V≤4∧Z' f.a6P≤4∧Z' f.a6R≤40∧Z' f.a6O≤24∧Z' f.a6S≤4∧Z' f.a6Q≤12):rM f=within f.a7S 1 4:=by
 obtain⟨d,e,i,l,h5,p⟩:=h;simp[rM,d,e,i,l,h5,p]
theorem sK{t:Nat}{n m:Int}{F:PF}{H:PH}(h:F t=some (.int .i64 n))(e:n=m):aY [.tmp t] (cN (.int .i64 m)) .ret F H:=by
 subst e;exact bE (.inr rfl) .nil (vs:=[.int .i64 n]) (by rw[oM,rK,h,sY]) a_ ⟨.refl _,rfl⟩
def xN(f:aE):Int:=if eP f then 0 else 1
theorem aCF{f:aE}(h:eP f=false):xN f=1:=by rw[xN,h];rfl
theorem AD{C:Ctx}{F:PF}{H:PH}{name t s:Nat}{v r:PV}{rows:List (List PV)}{d:Option Nat}{K:PF→PH→Prop}(h:aH C name [.sl s rows] .nil (aK r))(x:bJ H s v rows)(p:F t=some v)
  (l:∀(e:PF)(w:PH),(∀i u,F i=some u→Pure u→e i=some u)→K (e.put d r) w):kY C name [.tmp t] [] d K F H:=by
 rcases x with⟨rfl,rfl⟩|⟨q,rs,rfl,h1,h2,h3⟩
 ·refine aB (h.aBE (.inl ⟨rfl,rfl⟩)) (by rw[HF,wc,p,gi]) ?_;exact l F H λi u hi _=>hi
 ·rw[←h3]at h;refine vO (k:=Z' rows) h p h1 h2 (l _ _ λi u hi hp=>?_);rw[wD,hi,a8X,hp q s rs]
theorem Seen.pure{s:Nat}{v:PV}{rows:List (List PV)}(h:Seen s v rows):Pure v:=by
 rcases h with⟨_,rfl⟩|rfl
 ·exact λ_ _ _=>rfl
 ·exact λ_ _ _=>rfl
def bI(b:Bool):Int:=if b then 0 else 1
abbrev ib(f:aE):List (List UInt8):=(f.a6R.drop 1).map cX.name++f.a6O.map eO.name
def CA(f:aE):Bool:=distinct (f.a6V.map cY.name)&&distinct (f.a6P.map dR.name)&&distinct (ib f)&&distinct (f.a6S.map cL.name)&&distinct (f.a6Q.map gQ.name)
structure Small(f:aE):Prop where
 a6V:Z' f.a6V≤4
 a6P:Z' f.a6P≤4
 a6R:Z' f.a6R≤40
 a6O:Z' f.a6O≤24
 a6S:Z' f.a6S≤4
 a6Q:Z' f.a6Q≤12
theorem KB{C:Ctx}(L:oQ C){v:PV}{l:List (List UInt8)}(h:Seen 1 v (hL l))(d:Z' l≤1000):aH C 110 [v] .nil (aK (.bool (distinct l))):=
 (L.uniq l (Om:Z' l≤9223372036854775807)).aBE h
theorem aMG{C:Ctx}(L:oQ C)(f:aE)(B:Small f)(e i l p u:PV)(ok:Bool)(F:PF)(H:PH)(d:oU F f e i l p u ok)
  (x:Seen 1 e (hL (f.a6V.map cY.name))) (y:Seen 1 i (hL (f.a6P.map dR.name))) (h5:Seen 1 l (hL (ib f))) (A:Seen 1 p (hL (f.a6S.map cL.name))) (h7:bJ H 1 u (hL (f.a6Q.map gQ.name))) :
  aC.wp C (.seq (.seq (.region HN) (.cond (.tmp 243) (.seq (.region sD) .ret) .skip)) (.seq (.region RW) .ret)) (aY [.tmp 2] (cN (.int .i64 (bI (ok&&CA f))))) F H:=by
 obtain⟨s1,s2,s3,s4,W,X⟩:=B;have E:(f.a6V.map cY.name).length≤1000:=by simp;omega
 have J:(f.a6P.map dR.name).length≤1000:=by simp;omega
 have K:(ib f).length≤1000:=by simp;omega
 have M:(f.a6S.map cL.name).length≤1000:=by simp;omega
 have N:(f.a6Q.map gQ.name).length≤9223372036854775807:=by simp;omega
 cases ok with
 |false =>simp only[go_sem,HN,d.a8,sD];exact sK rfl rfl
 |true=>
  simp only[go_sem,HN,d.a8,d.a3];refine aB (KB L x E) rfl ?_;unfold CA;cases Q:distinct (f.a6V.map cY.name)with
  |false =>simp only[go_sem,sD,a8P];exact sK rfl rfl
  |true=>
   simp only[go_sem,d.a4,a8I];refine aB (KB L y J) rfl ?_;cases R:distinct (f.a6P.map dR.name)with
   |false =>simp only[go_sem,sD,a8P];exact sK rfl rfl
   |true=>
    simp only[go_sem,d.a5,a8I];refine aB (KB L h5 K) rfl ?_;cases S:distinct (ib f)with
    |false =>simp only[go_sem,sD,a8P];exact sK rfl rfl
    |true=>
     simp only[go_sem,d.a6,a8I];refine aB (KB L A M) rfl ?_;cases U:distinct (f.a6S.map cL.name)with
     |false =>simp only[go_sem,sD,a8P];exact sK rfl rfl
     |true=>
      simp only[go_sem,d.a7,a8I];refine AD (L.uniq _ N) h7 rfl λw O hp=>?_;have g:w 239=some (.bool false):=hp 239 _ rfl λ_ _ _=>rfl;cases V:distinct (f.a6Q.map gQ.name)with
      |false =>simp only[go_sem,sD,a8P,g];exact sK rfl rfl
      |true =>simp only[go_sem,RW,a8I,g];exact sK rfl rfl
abbrev Fy(b:Bool):cD:=aY [.tmp 2] (cN (.int .i64 (bI b)))
def Q1:aC:=.seq (.seq (.region ov) (.block 10 (.loop RV))) (.seq (.seq (.region HN) (.cond (.tmp 243) (.seq (.region sD) .ret) .skip)) (.seq (.region RW) .ret))
def Qz:aC:=.seq (.seq (.region oq) (.block 8 (.loop RU))) Q1
def Qy:aC:=.seq (.seq (.region oj) (.block 6 (.loop RT))) Qz
def Qx:aC:=.seq (.seq (.region oi) (.block 4 (.loop RS))) Qy
def Qw:aC:=.seq (.seq (.region oe) (.block 2 (.loop RR))) Qx
def aCE:aC:=.seq (.seq (.region D3) (.block 0 (.loop RQ))) Qw
theorem aTL{C:Ctx}(L:oQ C)(f:aE)(u:Small f)(i l p E:PV)(ok:Bool)(F:PF)(H:PH)(d:oU F f i l p E .aF ok)
  (y:Seen 1 i (hL (f.a6V.map cY.name))) (A:Seen 1 l (hL (f.a6P.map dR.name))) (h5:Seen 1 p (hL (ib f))) (N:bJ H 1 E (hL (f.a6S.map cL.name))) :
  aC.wp C Q1 (Fy (ok&&f.a6Q.all (sM f)&&CA f)) F H:=by
 unfold Q1;simp only[go_sem,ov,d.a1,a7Z];refine vP N λB x K M Q hp=>?_;refine ayV L f u.a6Q u.a6S ok i l p B _ K M ⟨hp 1 _ (by simp only[go_sem,d.a1]) λ_ _ _=>rfl,hp 3 _ (by simp only[go_sem,d.a3]) y.pure,hp 4 _ (by simp only[go_sem,d.a4]) A.pure,hp 5 _ (by simp only[go_sem,d.a5]) h5.pure,Q 6 (by simp only[go_sem,d.a6]),hp 7 _ (by simp only[go_sem,d.a7]) λ_ _ _=>rfl,hp 8 _ (by simp only[go_sem,d.a8]) λ_ _ _=>rfl⟩
  (hp 195 _ rfl λ_ _ _=>rfl) (hp 196 _ rfl λ_ _ _=>rfl) (hp 197 _ rfl λ_ _ _=>rfl) λv J H' w O=>?_
 have e:=aMG L f u i l p B v _ J H' w y A h5 x O;simp only[aC.wp,go_sem]at e;simp only[go_sem];exact e
theorem aTK{C:Ctx}(L:oQ C)(f:aE)(M:f.Ok)(l:Small f)(e i A:PV)(ok:Bool)(F:PF)(H:PH)(d:oU F f e i A .aF .aF ok)
  (w:Seen 1 e (hL (f.a6V.map cY.name))) (x:Seen 1 i (hL (f.a6P.map dR.name))) (h5:bJ H 1 A (hL (ib f))) :
  aC.wp C Qz (Fy (ok&&f.a6S.all (mF f.a6P.length)&&f.a6Q.all (sM f)&&CA f)) F H:=by
 unfold Qz;simp only[go_sem,oq,d.a1,a7Z];refine vP h5 λy u E J N hp=>?_;refine ayU L f M l.a6S l.a6P ok e i y .aF _ E J ⟨hp 1 _ (by simp only[go_sem,d.a1]) λ_ _ _=>rfl,hp 3 _ (by simp only[go_sem,d.a3]) w.pure,hp 4 _ (by simp only[go_sem,d.a4]) x.pure,N 5 (by simp only[go_sem,d.a5]),hp 6 _ (by simp only[go_sem,d.a6]) λ_ _ _=>rfl,hp 7 _ (by simp only[go_sem,d.a7]) λ_ _ _=>rfl,hp 8 _ (by simp only[go_sem,d.a8]) λ_ _ _=>rfl⟩
  (hp 174 _ rfl λ_ _ _=>rfl) (hp 175 _ rfl λ_ _ _=>rfl) (hp 176 _ rfl λ_ _ _=>rfl) λv B H' p K=>?_
 simp only[go_sem];exact aTL L f l e i y v _ B H' p w x u K
theorem aTJ{C:Ctx}(L:oQ C)(f:aE)(B:f.Ok)(e:Small f)(i l u:PV)(ok:Bool)(F:PF)(H:PH)(d:oU F f i l u .aF .aF ok)
  (x:Seen 1 i (hL (f.a6V.map cY.name))) (y:Seen 1 l (hL (f.a6P.map dR.name))) (h5:bJ H 1 u (hL ((f.a6R.drop 1).map cX.name))) :
  aC.wp C Qy (Fy (ok&&f.a6O.all (lL f)&&f.a6S.all (mF f.a6P.length)&&f.a6Q.all (sM f)&&CA f)) F H:=by
 unfold Qy;simp only[go_sem,oj,d.a1,a7Z];refine ayT L f ((f.a6R.drop 1).map cX.name) (by have:=e.a6R;simp;omega) e.a6O e.a6P e.a6R ok i l u .aF .aF _ _ H ⟨by simp only[go_sem,d.a1],by simp only[go_sem,d.a3],by simp only[go_sem,d.a4],by simp only[go_sem,d.a5],by simp only[go_sem,d.a6],by simp only[go_sem,d.a7],by simp only[go_sem,d.a8]⟩ h5
  rfl rfl rfl λv w H' p A=>?_
 simp only[go_sem];exact aTK L f B e i l v _ w H' p x y A
theorem aTI{C:Ctx}(L:oQ C)(f:aE)(N:f.Ok)(x:Small f)(R:0<Z' f.a6R)(i A:PV)(ok:Bool)(F:PF)(H:PH)(d:oU F f i A .aF .aF .aF ok)
  (w:Seen 1 i (hL (f.a6V.map cY.name))) (K:bJ H 1 A (hL (f.a6P.map dR.name))) :
  aC.wp C Qx (Fy (ok&&f.a6O.all (lL f)&&f.a6S.all (mF f.a6P.length)&&f.a6Q.all (sM f)&&CA f)) F H:=by
 unfold Qx;have l:(1:Int)≤(Z' f.a6R:Nat):=Om;have O:=x.a6R;have e:((f.a6R.map cX.cells).take f.a6R.length).drop 1=(f.a6R.drop 1).map cX.cells:=by rw[a8T bD,bbR]
 simp only[go_sem,oi,d.a1,a7Z,l,baA,e];refine vP K λy u E J Q hp=>?_;refine ayS L f (f.a6R.drop 1) (by simp;omega) ok i y .aF .aF _ E J ⟨hp 1 _ (by simp only[go_sem,d.a1]) λ_ _ _=>rfl,hp 3 _ (by simp only[go_sem,d.a3]) w.pure,Q 4 (by simp only[go_sem,d.a4]),hp 5 _ (by simp only[go_sem,d.a5]) λ_ _ _=>rfl,hp 6 _ (by simp only[go_sem,d.a6]) λ_ _ _=>rfl,hp 7 _ (by simp only[go_sem,d.a7]) λ_ _ _=>rfl,hp 8 _ (by simp only[go_sem,d.a8]) λ_ _ _=>rfl⟩
  (hp 119 _ rfl λ_ _ _=>rfl) (hp 120 _ rfl λ_ _ _=>rfl) (hp 121 _ rfl λ_ _ _=>rfl) λv B H' p M=>?_
 simp only[go_sem];exact aTJ L f N x i y v _ B H' p w u M
theorem aTH{C:Ctx}(L:oQ C)(f:aE)(J:f.Ok)(e:Small f)(E:0<Z' f.a6R)(u:PV)(ok:Bool)(F:PF)(H:PH)(d:oU F f u .aF .aF .aF .aF ok)
  (A:bJ H 1 u (hL (f.a6V.map cY.name))) :
  aC.wp C Qw (Fy (ok&&f.a6P.all (nY f)&&f.a6O.all (lL f)&&f.a6S.all (mF f.a6P.length)&&f.a6Q.all (sM f)&&CA f)) F H:=by
 unfold Qw;simp only[go_sem,oe,d.a1,a7Z];refine vP A λp l x y K hp=>?_;refine ayR L f e.a6P e.a6V ok p .aF .aF .aF _ x y ⟨hp 1 _ (by simp only[go_sem,d.a1]) λ_ _ _=>rfl,K 3 (by simp only[go_sem,d.a3]),hp 4 _ (by simp only[go_sem,d.a4]) λ_ _ _=>rfl,hp 5 _ (by simp only[go_sem,d.a5]) λ_ _ _=>rfl,hp 6 _ (by simp only[go_sem,d.a6]) λ_ _ _=>rfl,hp 7 _ (by simp only[go_sem,d.a7]) λ_ _ _=>rfl,hp 8 _ (by simp only[go_sem,d.a8]) λ_ _ _=>rfl⟩
  (hp 85 _ rfl λ_ _ _=>rfl) (hp 86 _ rfl λ_ _ _=>rfl) (hp 87 _ rfl λ_ _ _=>rfl) λv w H' i B=>?_
 simp only[go_sem];exact aTI L f J e E p v _ w H' i l B
theorem aTG{C:Ctx}(L:oQ C)(f:aE)(i:f.Ok)(l:Small f)(w:0<Z' f.a6R)(F:PF)(H:PH)(d:oU F f .aF .aF .aF .aF .aF true) :
  aC.wp C aCE (Fy (f.a6V.all nT&&f.a6P.all (nY f)&&f.a6O.all (lL f)&&f.a6S.all (mF f.a6P.length)&&f.a6Q.all (sM f)&&CA f)) F H:=by
 unfold aCE;simp only[go_sem,D3,d.a1,a7Z];refine ayQ L f i l.a6V .aF .aF .aF .aF _ _ H ⟨by simp only[go_sem,d.a1],by simp only[go_sem,d.a3],by simp only[go_sem,d.a4],by simp only[go_sem,d.a5],by simp only[go_sem,d.a6],by simp only[go_sem,d.a7],by simp only[go_sem,d.a8]⟩ rfl rfl rfl λv p H' e u=>?_;simp only[go_sem];exact aTH L f i l w v _ p H' e u
theorem aTF{C:Ctx}(L:oQ C)(f:aE)(E:f.Ok):ZH.wp C (aY aMF.res (cN (.int .i64 (xN f)))) (PF.args [.agg f.cells]) .nil:=by
 have u:eP f=(rM f&&sA f&&(f.a6V.all nT&&f.a6P.all (nY f)&&f.a6O.all (lL f)&&f.a6S.all (mF f.a6P.length)&&f.a6Q.all (sM f))&&CA f):=rfl;simp only[go_sem,ZH,anR,anS,aMF];refine aB (L.inn f.a7S 1 4) rfl ?_;have bad:∀(F:PF)(H:PH),eP f=false→F 2=some (.int .i64 1)→aY [.tmp 2] (cN (.int .i64 (xN f))) .ret F H:=λF H M N=>sK N (aCF M).symm;cases B:within f.a7S 1 4 with
 |false=>
  have:rM f=false:=by simp[rM,B]
  simp only[go_sem,a8P,uT];exact bad _ _ (by rw[u,this];simp only[a8L]) rfl
 |true=>
  by_cases s1:Z' f.a6V≤4
  ·have d:¬(Z' f.a6V:Int)>4:=Om;by_cases s2:Z' f.a6P≤4
   ·have i:¬(Z' f.a6P:Int)>4:=Om;by_cases s3:Z' f.a6R≤40
    ·have l:¬(Z' f.a6R:Int)>40:=Om;by_cases s4:Z' f.a6O≤24
     ·have p:¬(Z' f.a6O:Int)>24:=Om;by_cases J:Z' f.a6S≤4
      ·have w:¬(Z' f.a6S:Int)>4:=Om;by_cases K:Z' f.a6Q≤12
       ·have x:¬(Z' f.a6Q:Int)>12:=Om;have y:=ajV ⟨s1,s2,s3,s4,J,K⟩;rw[B]at y;simp only[go_sem,a8I,a7Z,d,i,l,p,w,x];refine aB (L.a6X f E) rfl ?_;cases A:sA f with
        |false =>simp only[go_sem,a8P,uT];exact bad _ _ (by rw[u,A];simp only[a9S,a8L]) rfl
        |true=>
         have O:0<Z' f.a6R:=by
          rcases baR f.a6R.length with h|h
          ·have:f.a6R=[]:=List.eq_nil_of_length_eq_zero h;rw[sA,this]at A;cases A
          ·exact h
         have R:xN f=bI (f.a6V.all nT&&f.a6P.all (nY f)&&f.a6O.all (lL f)&&f.a6S.all (mF f.a6P.length)&&f.a6Q.all (sM f)&&CA f):=by rw[xN,u,y,A];rfl
         rw[R];simp only[go_sem,a8I,anT,anU];have e:=λF H Q=>aTG L f E ⟨s1,s2,s3,s4,J,K⟩ O F H Q;simp only[aCE,Qw,Qx,Qy,Qz,Q1,aC.wp,go_sem]at e;exact e _ _ ⟨by simp only[go_sem],by simp only[go_sem],by simp only[go_sem],by simp only[go_sem],by simp only[go_sem],by simp only[go_sem],by simp only[go_sem]⟩
       ·have x:(Z' f.a6Q:Int)>12:=Om;simp only[go_sem,a8I,a7Z,d,i,l,p,w,x,uT];exact bad _ _ (by rw[u,rN Om];simp only[a8L]) rfl
      ·have w:(Z' f.a6S:Int)>4:=Om;simp only[go_sem,a8I,a7Z,d,i,l,p,w,uT];exact bad _ _ (by rw[u,rN Om];simp only[a8L]) rfl
     ·have p:(Z' f.a6O:Int)>24:=Om;simp only[go_sem,a8I,a7Z,d,i,l,p,uT];exact bad _ _ (by rw[u,rN Om];simp only[a8L]) rfl
    ·have l:(Z' f.a6R:Int)>40:=Om;simp only[go_sem,a8I,a7Z,d,i,l,uT];exact bad _ _ (by rw[u,rN Om];simp only[a8L]) rfl
   ·have i:(Z' f.a6P:Int)>4:=Om;simp only[go_sem,a8I,a7Z,d,i,uT];exact bad _ _ (by rw[u,rN Om];simp only[a8L]) rfl
  ·have d:(Z' f.a6V:Int)>4:=Om;simp only[go_sem,a8I,a7Z,d,uT];exact bad _ _ (by rw[u,rN Om];simp only[a8L]) rfl
def lvl(f:aE)(i:Nat):Int:=(f.a6R.map cX.level).getD i 0
def par(f:aE)(i:Nat):Int:=(f.a6R.map cX.parent).getD i 0
def TT(f:aE)(i:Nat):Nat:=(par f i).toNat
def dP(f:aE)(d:Nat):Nat:=((f.a6O.map eO.machine).getD d 0).toNat
def mdl(f:aE)(d:Nat):Nat:=((f.a6O.map eO.model).getD d 0).toNat
def ext(f:aE)(d:Nat):Int:=(f.a6P.map dR.a7E).getD (mdl f d) 0
def DQ(f:aE)(v:Nat):Nat:=((f.a6Q.map gQ.a7A).getD v 0).toNat
def aRM:cL:=⟨[],0,0,0,0,0,0,0,0,[],[],⟨false,[],[]⟩,⟨false,[],[]⟩⟩
def nE(f:aE)(v:Nat):cL:=f.a6S.getD (DQ f v) aRM
def upN(f:aE):Nat→Nat→Nat
 |0,i=>i
 |k+1,i=>TT f (upN f k i)
theorem getD_at{α β:Type}{l:List α}{g:α→β}{i:Nat}{b:β}(h:i<Z' l):(l.map g).getD i b=g l[i]:=by
 simp[a8V,h]
structure VF(f:aE):Prop where
 small:Small f
 root:0<Z' f.a6R∧lvl f 0=0∧par f 0=-1
 dom:∀i,0<i→i<Z' f.a6R→0≤par f i∧TT f i<i∧lvl f (TT f i)=lvl f i-1∧1≤lvl f i∧lvl f i≤4
 drive:∀d (h:d<Z' f.a6O),0≤(f.a6O[d]).model∧mdl f d<Z' f.a6P∧0≤(f.a6O[d]).machine∧dP f d<Z' f.a6R∧lvl f (dP f d)=4
 a7A:∀p∈f.a6S,1≤p.k∧p.k≤6∧0≤p.m∧p.m≤4∧p.k+p.m≤8∧p.s0=0∧(∀l,0≤p.spread l∧p.spread l≤8)∧∀m∈p.a6P,0≤m∧m<Z' f.a6P
 volume:∀v (h:v<Z' f.a6Q),0≤(f.a6Q[v]).a7A∧DQ f v<Z' f.a6S
 model:∀m∈f.a6P,1≤m.a7E∧m.a7E≤16
theorem aUR{p:cL}{n:Nat}(h:mF n p=true):∀m∈p.a6P,0≤m∧m<n:=by
 intro m e;simp only[mF,a8C]at h;obtain⟨i,hi,rfl⟩:=a9X e;have:=a8U.1 h.2 i (a9M.2 hi);rw[a8C]at this;have d:=within_iff.1 this.1;simp only[a8V,a8N hi,bbE]at d;omega
theorem Ch{x:Int}(d:1≤x)(e:x≤4):IntKind.i64.wrap (x-1)=x-1:=wrap_i64 Om Om
theorem VF.of{f:aE}(h:eP f=true):VF f:=by
 simp only[eP,a8C]at h;obtain⟨⟨⟨Q,u⟩,⟨⟨⟨N,A⟩,y⟩,B⟩,E⟩,-⟩:=h;simp only[rM,a8C,decide_eq_true_eq]at Q;obtain⟨⟨⟨⟨⟨⟨s0,s1⟩,s2⟩,s3⟩,s4⟩,s5⟩,s6⟩:=Q;cases e:f.a6R with
 |nil=>rw[sA,e]at u;cases u
 |cons r t=>
  rw[sA,e]at u;simp only[IZ,a8C,decide_eq_true_eq]at u;obtain⟨⟨⟨⟨⟨⟨r1,r2⟩,r3⟩,r4⟩,r5⟩,r6⟩,x⟩:=u;have O:Z' f.a6R=Z' t+1:=by rw[e];rfl
  refine⟨⟨s1,s2,s3,s4,s5,s6⟩,⟨by omega,by rw[lvl,e];exact r2,by rw[par,e];exact r3⟩,?_,?_,?_,?_,?_⟩
  ·intro i h0 hi;obtain⟨k,rfl⟩:∃k,i=k+1:=⟨i-1,by omega⟩;have H:k<Z' t:=Om;have:=a8U.1 x k (a9M.2 H);rw[a8N H]at this;simp only[QT,a8C,decide_eq_true_eq]at this;obtain⟨⟨⟨⟨J,F⟩,K⟩,d4⟩,d5⟩:=this;obtain⟨Z,p1⟩:=within_iff.1 J;obtain⟨S,U⟩:=within_iff.1 K;have w:par f (k+1)=(t[k]).parent:=by rw[par,e];simp[a8V,H]
   have e2:lvl f (k+1)=(t[k]).level:=by rw[lvl,e];simp[a8V,H]
   rw[Ch S U]at F;have V:lvl f (t[k]).parent.toNat=(t[k]).level-1:=F;refine⟨by rw[w];exact Z,?_,?_,by rw[e2];exact S,by rw[e2];exact U⟩
   ·rw[TT,w];omega
   ·rw[TT,w,e2];exact V
  ·intro d u;have:=a8U.1 y _ (a8G u);simp only[lL,a8C,decide_eq_true_eq]at this;obtain⟨⟨J,F⟩,K⟩:=this;have a1:=within_iff.1 J;have a2:=within_iff.1 F;have w:mdl f d=(f.a6O[d]).model.toNat:=by rw[mdl,getD_at u]
   have e2:dP f d=(f.a6O[d]).machine.toNat:=by rw[dP,getD_at u]
   refine⟨a1.1,by rw[w];omega,a2.1,by rw[e2];omega,by rw[e2];exact K⟩
  ·intro p hp;have M:=a8U.1 B p hp;have W:=aUR M;simp only[mF,TN,a8C,decide_eq_true_eq,bbP,List.all_nil,baN]at M;obtain⟨⟨⟨⟨⟨⟨⟨⟨k1,Y⟩,km⟩,q1⟩,z0⟩,sp⟩,-⟩,-⟩,-⟩:=M;obtain⟨g0,g1,g2,g3,g4⟩:=sp;have b1:=within_iff.1 k1;have b2:=within_iff.1 Y;have b3:=within_iff.1 g0;have b4:=within_iff.1 g1;have b5:=within_iff.1 g2;have b6:=within_iff.1 g3;have b7:=within_iff.1 g4;refine⟨b1.1,b1.2,b2.1,b2.2,km,z0,λl=>?_,W⟩;unfold cL.spread;split<;>omega
  ·intro v R;have:=a8U.1 E _ (a8G R);have a1:=within_iff.1 this;have w:DQ f v=(f.a6Q[v]).a7A.toNat:=by rw[DQ,getD_at R]
   exact⟨a1.1,by rw[w];omega⟩
  ·intro m X;have:=a8U.1 A m X;simp only[nY,a8C]at this;exact within_iff.1 this.1.1
theorem IK{f:aE}(h:VF f){d:Nat}(i:d<Z' f.a6O):∀{k:Nat},k≤4→upN f k (dP f d)<Z' f.a6R∧lvl f (upN f k (dP f d))=4-(k:Int)
 |0,_=>⟨(h.drive d i).2.2.2.1,by rw[upN,(h.drive d i).2.2.2.2];rfl⟩
 |k+1,x=>by
  obtain⟨u,p⟩:=IK h i (k:=k) Om;have l:0<upN f k (dP f d):=by
   rcases baR (upN f k (dP f d))with e|e
   ·rw[e,h.root.2.1]at p;omega
   ·exact e
  obtain⟨g1,g2,g3,g4,w⟩:=h.dom _ l u;refine⟨by rw[upN];omega,?_⟩;rw[upN,g3,p];omega
def dS(f:aE)(d:Nat)(level:Int):Nat:=upN f (4-level.toNat) (dP f d)
def wQ(f:aE)(v:Nat):Int:=(nE f v).k+(nE f v).m
def la:=bU [1] Proofs.Tryz.f63
def Mw:=aA la 0
def Mx:=aA la 1
def ND:aC:=(sq Mw (sq Mx .ret))
def adL:bC:=⟨1,6,ND,[.tmp 2]⟩
def UT:=bU [2] Proofs.Tryz.f152
def acS:=aA UT 0
def acT:=dB UT 0
def acU:=aA UT 1
def US:aC:=(sq acS (dq acT (sq acU .ret)))
def aBK:bC:=⟨2,21,US,[.tmp 4]⟩
def lG:=bU [2] Proofs.Tryz.f24
def adB:=aA lG 0
def adC:=aA lG 1
def adD:=aA lG 2
def adE:=aA lG 3
def adF:=aA lG 4
def adG:=aA lG 5
def adH:=aA lG 6
def adI:=dB lG 0
def adJ:=aA lG 7
def adK:=dB lG 1
def c9:=aA lG 8
def Mn:aC:=(eW adG 17 0 c9 (sq adH (dq adI (sq adJ (.cond (Tm 37) (.draw adK) .skip)))))
def Mo:=aA lG 9
def UW:aC:=(sq adB (dM adC 9 adD (sq adE (.seq (cJ adF 0 Mn) (sq Mo .ret)))))
def aBO:bC:=⟨2,53,UW,[.tmp 4]⟩
def jT:=bU [2] Proofs.Tryz.f67
def Mf:=aA jT 0
def Mg:=aA jT 1
def Mh:=aA jT 2
def Mi:=aA jT 3
def Mj:=aA jT 4
def Mk:=aA jT 5
def Ml:=aA jT 6
def KE:=aA jT 7
def KF:=aA jT 8
def Mm:=aA jT 9
def FC:=aA jT 10
def Ay:aC:=(eW Ml 23 2 FC (sq KE (sq KF (.cond (Tm 33) (.region Mm) .skip))))
def UU:=aA jT 11
def Az:aC:=(eW Mi 17 0 UU (sq Mj (cJ Mk 2 Ay)))
def UV:=aA jT 12
def NB:aC:=(sq Mf (sq Mg (.seq (cJ Mh 0 Az) (sq UV .ret))))
def acW:bC:=⟨2,43,NB,[.tmp 4]⟩
def lZ:=bU [3] Proofs.Tryz.f110
def Mq:=aA lZ 0
def Mr:=dB lZ 0
def Ms:=aA lZ 1
def Mt:=aA lZ 2
def Mu:=aA lZ 3
def KG:=aA lZ 4
def KI:=aA lZ 5
def db:=aA lZ 6
def Mv:=aA lZ 7
def Mp:aC:=(eW Mu 32 0 Mv (sq KG (sq KI (.cond (Tm 44) (sq db .ret) .skip))))
def A1:=aA lZ 8
def NC:aC:=(sq Mq (.seq (dq Mr (.cond (Tm 18) (sq Ms .ret) .skip)) (.seq (cJ Mt 0 Mp) (sq A1 .ret))))
def da:bC:=⟨3,50,NC,[.cell 6 (some 3),.tmp 7]⟩
def lf:=bU [] Proofs.Tryz.f153
def M8:=aA lf 0
def M9:=aA lf 1
def NE:aC:=(sq M8 (sq M9 .ret))
def adV:bC:=⟨2,10,NE,[.cell 5 (some 3)]⟩
def cQ:=bU [3,75,91,134,167] Proofs.Tryz.f111
def adX:=aA cQ 0
def adY:=dB cQ 0
def adZ:=aA cQ 1
def aeA:=aA cQ 2
def aeB:=aA cQ 3
def aeC:=aA cQ 4
def aeD:=aA cQ 5
def aeE:=aA cQ 6
def adW:aC:=(eW aeB 43 0 aeE (sq aeC (.region aeD)))
def aeF:=aA cQ 7
def Nb:=aA cQ 8
def Nc:=dB cQ 1
def Nd:=aA cQ 9
def DA:=aA cQ 10
def KK:=aA cQ 11
def KL:=aA cQ 12
def Nf:=aA cQ 13
def dj:=aA cQ 14
def Ng:=aA cQ 15
def dk:=aA cQ 16
def dl:=aA cQ 17
def Nh:=aA cQ 18
def Ni:=aA cQ 19
def Nj:=aA cQ 20
def KJ:aC:=(dY Nh 106 4 Nj (.region Ni))
def KM:=aA cQ 21
def yE:aC:=(eW DA 65 2 KM (sq KK (gE KL 70 (sq Nf (.exit 3)) (gE dj 86 (.region Ng) (sq dk (cJ dl 4 KJ))))))
def Nk:=aA cQ 22
def Nl:=aA cQ 23
def Nm:=aA cQ 24
def Nn:=aA cQ 25
def No:=aA cQ 26
def Np:=aA cQ 27
def dp:=aA cQ 28
def dh:aC:=(eW Nm 124 6 dp (sq Nn (sq No (.cond (Tm 129) (.region Np) .skip))))
def Nq:=aA cQ 29
def Nr:=aA cQ 30
def Ns:=aA cQ 31
def Nt:=aA cQ 32
def dt:=aA cQ 33
def KN:=aA cQ 34
def Nu:=aA cQ 35
def KO:=aA cQ 36
def di:aC:=(eW Ns 143 8 KO (sq Nt (sq dt (sq KN (.cond (Tm 162) (.region Nu) .skip)))))
def Nv:=aA cQ 37
def UZ:aC:=(sq adX (dq adY (sq adZ (.seq (cJ aeA 0 adW) (sq aeF (sq Nb (dq Nc (.seq (cJ Nd 2 yE) (sq Nk (.seq (cJ Nl 6 dh) (sq Nq (.seq (cJ Nr 8 di) (sq Nv .ret)))))))))))))
def aRT:bC:=⟨3,171,UZ,[.tmp 6]⟩
def fG:=bU [3,28,44,74] Proofs.Tryz.f64
def adM:=aA fG 0
def adN:=aA fG 1
def adO:=aA fG 2
def sg:=aA fG 3
def adP:=aA fG 4
def adQ:=aA fG 5
def adR:=aA fG 6
def adS:=aA fG 7
def adT:=aA fG 8
def adU:=aA fG 9
def de:=aA fG 10
def Mz:=aA fG 11
def M0:=aA fG 12
def df:=aA fG 13
def My:aC:=(eW adS 32 1 df (sq adT (.seq (sq adU (sq de (.cond (Tm 41) (sq Mz (.exit 2)) .skip))) (.region M0))))
def M1:=aA fG 14
def M2:=aA fG 15
def M3:=aA fG 16
def M4:=aA fG 17
def M5:=aA fG 18
def M6:=aA fG 19
def dg:=aA fG 20
def dd:aC:=(eW M3 61 3 dg (sq M4 (sq M5 (.cond (Tm 70) (.region M6) .skip))))
def M7:=aA fG 21
def UY:aC:=(sq adM (.seq (.block 0 (sq adN (.cond (Tm 14) (sq adO .ret) (sq sg (.cond (Tm 18) (sq adP .ret) .skip))))) (sq adQ (.seq (cJ adR 1 My) (sq M1 (.seq (cJ M2 3 dd) (sq M7 .ret)))))))
def aBQ:bC:=⟨3,78,UY,[.tmp 6]⟩
def k7:=bU [3] Proofs.Tryz.f20
def Md:=aA k7 0
def Me:=aA k7 1
def NA:aC:=(sq Md (sq Me .ret))
def acV:bC:=⟨3,17,NA,[.tmp 6]⟩
theorem aIJ{C:Ctx}(h:∀f:aE,f.Ok→aH C 96 [.agg f.cells] .nil (aK (.int .i64 (xN f))))(f:aE)(d:f.Ok) :
  ND.wp C (aY adL.res (cN (.bool (eP f)))) (PF.args [.agg f.cells]) .nil:=by
 simp only[go_sem,ND,Mw,Mx,adL];refine aB (h f d) Ev ?_;simp only[go_sem];refine bK Ev ?_;unfold xN;cases eP f<;>rfl
theorem qG{f:aE}{d:Nat}(h:d<Z' f.a6O):(f.a6O.map eO.cells)[d]?=some (f.a6O[d]).cells:=by simp[h]
theorem iY{f:aE}{d:Nat}(h:d<Z' f.a6R):(f.a6R.map cX.cells)[d]?=some (f.a6R[d]).cells:=by simp[h]
theorem Br{f:aE}{d:Nat}(h:d<Z' f.a6Q):(f.a6Q.map gQ.cells)[d]?=some (f.a6Q[d]).cells:=by simp[h]
theorem MU{f:aE}{d:Nat}(h:d<Z' f.a6S):(f.a6S.map cL.cells)[d]?=some (f.a6S[d]).cells:=by simp[h]
theorem aFS{f:aE}{d:Nat}(h:d<Z' f.a6P):(f.a6P.map dR.cells)[d]?=some (f.a6P[d]).cells:=by simp[h]
theorem CS{f:aE}{d:Nat}(h:d<Z' f.a6R):(f.a6R[d]).level=lvl f d:=by rw[lvl,getD_at h]
theorem bw{f:aE}{d:Nat}(h:d<Z' f.a6R):(f.a6R[d]).parent=par f d:=by rw[par,getD_at h]
theorem VF.gx{f:aE}(h:VF f){d:Nat}(e:d<Z' f.a6O):(f.a6O[d]).machine=((dP f d:Nat):Int):=by
 have:=(h.drive d e).2.2.1;rw[dP,getD_at e];omega
theorem VF.ZP{f:aE}(h:VF f){d:Nat}(e:d<Z' f.a6O):(f.a6O[d]).model=((mdl f d:Nat):Int):=by
 have:=(h.drive d e).1;rw[mdl,getD_at e];omega
theorem VF.aHA{f:aE}(h:VF f){v:Nat}(d:v<Z' f.a6Q):(f.a6Q[v]).a7A=((DQ f v:Nat):Int):=by
 have:=(h.volume v d).1;rw[DQ,getD_at d];omega
theorem VF.ij{f:aE}(h:VF f){i:Nat}(d:0<i)(hi:i<Z' f.a6R):par f i=((TT f i:Nat):Int):=by
 have:=(h.dom i d hi).1;rw[TT];omega
theorem rk{f:aE}(h:VF f){v:Nat}(d:v<Z' f.a6Q):∃hp:DQ f v<Z' f.a6S,f.a6S[DQ f v]=nE f v:=by
 have hp:=(h.volume v d).2;exact⟨hp,by simp[nE,a8V,hp]⟩
theorem aPJ{C:Ctx}(f:aE)(e:VF f)(v:Nat)(h:v<Z' f.a6Q) :
  US.wp C (aY aBK.res (cN (.int .i64 (wQ f v)))) (PF.args [.agg f.cells,.int .i64 v]) .nil:=by
 obtain⟨hp,i⟩:=rk e h;have d:=e.a7A _ (a8G hp);rw[i]at d;have l:IntKind.i64.wrap ((nE f v).k+(nE f v).m)=(nE f v).k+(nE f v).m:=wrap_i64 Om Om;simp only[go_sem,US,acS,aBK];refine cP .nil fT a_ ?_;simp only[go_sem,acT,Br h,e.aHA h,MU hp,i];refine aR λo p=>?_;simp only[go_sem,acU,l];refine⟨a_,?_⟩;exact sK (n:=(nE f v).k+(nE f v).m) Ev rfl
structure avG(C:Ctx):Prop where
 valid:∀f:aE,f.Ok→aH C 161 [.agg f.cells] .nil (aK (.bool (eP f)))
 aLO:∀(f:aE)(v:Nat),VF f→v<Z' f.a6Q→aH C 156 [.agg f.cells,.int .i64 v] .nil (aK (.int .i64 (wQ f v)))
def pick(n:Nat)(p:Nat→Bool):List Int:=((a8A n).filter p).map λ(i:Nat)=>(i:Int)
theorem aGX(n:Nat)(p:Nat→Bool):pick (n+1) p=if p n then pick n p++[(n:Int)]else pick n p:=by
 unfold pick;rw[bbT,List.filter_append,a8Z];by_cases h:p n
 ·rw[aG h];simp[h]
 ·rw[aD h];simp[h]
theorem aOM(n:Nat)(p:Nat→Bool):(pick n p).length≤n:=by
 unfold pick;rw[a7Z];exact a9F (List.length_filter_le _ _) bD
theorem azC(l:List Int)(x:Int):bA l++[[.int .i64 x]]=bA (l++[x]):=by unfold bA;rw[a8Z];rfl
theorem dN(l:List Int):(bA l).length=Z' l:=by unfold bA;rw[a7Z]
theorem Fb{t:Nat}{H:PH}{v:PV}{l:List Int}{F:PF}(h:bJ H 1 v (bA l))(d:F t=some v):aY [.tmp t] (cN (ints l)) .ret F H:=oZ (.inr rfl) h d
theorem IA{t:Nat}{H:PH}{F:PF}(d:F t=some .aF):aY [.tmp t] (cN (ints [])) .ret F H:=oZ (rows:=[]) (.inr rfl) .nil d
def OU(f:aE)(dom:Int):List Int:=
 if eP f∧0≤dom∧dom<f.a6R.length then pick f.a6O.length λd=>decide ((dS f d (lvl f dom.toNat):Nat)=dom.toNat)else[]
def toS(f:aE):Spec:=λname vs=>match name,vs with
 |155,[_,.int _ d,.int _ l]=>some ([],λ_=>aK (.int .i64 (dS f d.toNat l:Nat)))
 |156,[_,.int _ v]=>some ([],λ_=>aK (.int .i64 (wQ f v.toNat)))
 |_,_=>none
theorem aPL(f:aE)(v:Nat):toS f 156 [.agg f.cells,.int .i64 v]=some ([],λ_=>aK (.int .i64 (wQ f v))):=rfl
section
variable (o s:Nat) (rs:List (List PV))
@[go_sem] theorem a3L(k:IntKind)(n:Int):PV.frz o s rs (.int k n)=.int k n:=(rfl)
@[go_sem] theorem a1R(b:Bool):PV.frz o s rs (.bool b)=.bool b:=(rfl)
@[go_sem] theorem a3P(l:List UInt8):PV.frz o s rs (.str l)=.str l:=(rfl)
@[go_sem] theorem a1S:PV.frz o s rs .aF=.aF:=(rfl)
@[go_sem] theorem a4Y(n:Nat)(r:List (List PV)):PV.frz o s rs (.sl n r)=.sl n r:=(rfl)
@[go_sem] theorem a1T(c:List PV):PV.frz o s rs (.bM c)=.bM c:=(rfl)
@[go_sem] theorem a3O(q z i c:Nat):PV.frz o s rs (.ptr q z i c)=.ptr q z i c:=(rfl)
@[go_sem] theorem a4X(n:Nat)(c:List PV):PV.frz o s rs (.fn n c)=.fn n c:=(rfl)
@[go_sem] theorem a3M(q:Nat):PV.frz o s rs (.map q)=.map q:=(rfl)
@[go_sem] theorem a3N(q z d len:Nat):PV.frz o s rs (.osl q z d len)=if q=o then(if z=s∧d+len≤rs.length then .sl s ((rs.drop d).take len)else .junk)else .osl q z d len:=(rfl)
end
def rT(s:Nat)(rows:List (List PV))(r:PV)(H:PH):Prop:=
 (rows=[]∧r=.aF∧H=PH.nil)∨∃q rs,r=.osl q s 0 rows.length∧H=PH.nil.set q (.rows s rs)∧Z' rows≤Z' rs∧rs.take rows.length=rows
theorem amD(q s:Nat)(rs:List (List PV)):(PH.nil.set q (.rows s rs)).frz q s rs=PH.nil:=PH.ext λo=>by
 rw[GF];by_cases e:o=q
 ·rw[aG e];rfl
 ·rw[aD e,aS,aD e];rfl
section
variable {C:Ctx} {K:cD} {F:PF} {H:PH} {s:Nat} {v:PV} {rows:List (List PV)}
theorem rT.over{r:PV}{H':PH}(h:rT s rows r H')(l:pU H .nil H'):bJ (H.over .nil H') s r rows∧∀o x,H o=some x→(H.over .nil H') o=some x:=by
 rcases h with⟨d,i,rfl⟩|⟨q,rs,d,rfl,h3,h4⟩
 ·rw[PH.HU];exact⟨.inl ⟨d,i⟩,λo x h=>h⟩
 ·rw[PH.uB];have p:H q=none:=l q (.rows s rs) (by simp only[aS,if_true]) rfl;refine⟨.inr ⟨q,rs,d,by simp only[aS,if_true],h3,h4⟩,λo x e=>?_⟩;have:o≠q:=by rintro rfl;rw[p]at e;cases e
  simp only[aS,aD this,e]
theorem UD{t:Nat}{e:mZ}(d:e=.normal∨e=.ret)(h:bJ H s v rows)(i:F t=some v):aY [.tmp t] (rT s rows) e F H:=by
 rcases h with⟨rfl,rfl⟩|⟨q,rs,rfl,h1,h2,h3⟩
 ·exact bE (vs:=[.aF]) d .nil (by rw[oM,rK,i,sY]) a_ (.inl ⟨rfl,rfl,rfl⟩)
 ·exact bE (vs:=[.osl q s 0 rows.length]) d (PH.nil.set q (.rows s rs)) (by rw[oM,rK,i,sY]) (e_ a_ h1) (.inr ⟨q,rs,rfl,rfl,h2,h3⟩)
theorem PJ{t:Nat}{e:mZ}(d:e=.normal∨e=.ret)(i:F t=some .aF):aY [.tmp t] (rT s []) e F H:=UD d .nil i
theorem aHI{t:Nat}{e:mZ}{r:PV}{H':PH}(d:e=.normal∨e=.ret)(h:rT s rows r H')(l:F t=some r):aY [.tmp t] (rT s rows) e F (H.over .nil H'):=by
 refine bE (vs:=[r]) d H' (by rw[oM,rK,l,sY]) (λo x i=>?_) h;rw[kT,i]
theorem aH.freeze{name:Nat}{args:List PV}(h:aH C name args H (rT s rows)):aH C name args H (aK (.sl s rows)):=
 ⟨h.1,λE w vs M hW x=>(h.2 E w vs M hW x).mono λe R N=>by
  obtain⟨u,pv,B,H',rfl,d,A,y,hp⟩:=N;rcases hp with⟨rfl,rfl,rfl⟩|⟨q,rs,rfl,rfl,h3,h4⟩
  ·exact⟨u,_,B,_,rfl,d,(Co.nil s).sound A,y,rfl,rfl⟩
  ·have O:kC (PF.nil.set 0 (.osl q s 0 rows.length)) (PH.nil.set q (.rows s rs)) _ _:=.step q (s:=s) (rs:=rs) (by simp only[aS,if_true]) (.refl _ _);obtain⟨J,k1,k2,Q⟩:=O.sound d;have l:=Q (λ_=>u) (λi p hi=>by
    rw[oS]at hi;split at hi
    ·cases hi;exact A
    ·cases hi) 0 (.sl s rows) (by rw[wD,oS,aG rfl,a8X,AP h3,h4])
   rw[amD]at k1 k2;exact⟨u,_,J,_,rfl,k1,l,y.trans k2,rfl,rfl⟩⟩
theorem fU.of:∀{E:Env}(ps:List PV)(vs:List Value),Z' vs=Z' ps→(∀(i:Nat) p v,ps[i]?=some p→vs[i]?=some v→bF E p v)→fU E ps vs
 |_,[],[],_,_=>.nil
 |_,[],_::_,h,_=>by simp at h
 |_,_::_,[],h,_=>by simp at h
 |_,p::ps,v::vs,h,k=>.cons (k 0 p v rfl rfl) (fU.of ps vs (by simpa using h) λi q u a b=>k (i+1) q u (by simpa using a) (by simpa using b))
theorem bW.same{E:Env}{w p:World}(hW:bW E H w)(A:w.heap.size≤p.heap.size)(hb:∀b,b<w.heap.size→H b=none→p.heap[b]?=w.heap[b]?)(y:∀o x,H o=some x→p.heap[o]?=w.heap[o]?):bW E H p:=by
 have i:∀b,b<w.heap.size→p.heap[b]?=w.heap[b]?:=λb hlt=>by
  cases e:H b with
  |none=>exact hb b hlt e
  |some x=>exact y b x e
 refine⟨λb cs h=>?_,λo x h=>?_,λo n h=>?_⟩
 ·obtain⟨d,ty,fr,l⟩:=hW.g b cs h;exact⟨d,ty,fr,(i b (bbO.1 l).1).trans l⟩
 ·obtain⟨d,l⟩:=hW.h o x h;exact⟨Nat.lt_of_lt_of_le d A,l.mono (.refl E) (i o d)⟩
 ·obtain⟨u,ty,fr,d,l⟩:=hW.s o n h;exact⟨u,ty,fr,(i o (bbO.1 d).1).trans d,l⟩
inductive Plain:PV→Prop
 |int (k:IntKind) (n:Int):Plain (.int k n)
 |bool (b:Bool):Plain (.bool b)
 |str (l:List UInt8):Plain (.str l)
theorem Plain.rep{v:PV}(h:Plain v){E d:Env}{u:Value}(r:bF E v u):bF d v u:=by
 cases h<;>cases r
 ·exact .int _ _
 ·exact .bool _
 ·exact .str _
theorem aH.aMW{name o:Nat}{rs:List (List PV)}{args:List PV}(X:Plain v)(h:aH C name (args.map (PV.frz o s rs)) .nil (aK v)) :
  aH C name args (PH.nil.set o (.rows s rs)) (λr H'=>r=v∧H'=PH.nil.set o (.rows s rs)):=by
 refine⟨h.1,λE w vs Q hW B=>?_⟩;have Y:kC (PF.args args) (PH.nil.set o (.rows s rs)) _ _:=.step o (s:=s) (rs:=rs) (by simp only[aS,if_true]) (.refl _ _);obtain⟨N,k1,k2,Z⟩:=Y.sound hW;rw[amD]at k1 k2;have A:=B.len;have J:fU N (args.map (PV.frz o s rs)) vs.toList:=by
  refine fU.of _ _ (by rw[a7Z];exact A) λi p u hp W=>?_;have:=Z (λi=>(vs.toList[i]?).getD undef) (λj q O=>by have U:=(a9I.1 O).1;have y:j<Z' vs.toList:=Om;simp only[a8N y,bbE];exact B.at_ j q _ O (a8N y)) i p (by rw[wD,args_at,←a8Y];exact hp)
  simp only[W,bbE]at this;exact this
 refine(h.2 N w vs (k2.env.num.trans Q) k1 J).mono λe w' S=>?_;obtain⟨u,pv,E2,H2,rfl,R,V,l,rfl,rfl⟩:=S;have d:∀b,b<w.heap.size→w'.heap[b]?=w.heap[b]?:=λb hb=>l.block b hb rfl;refine⟨u,pv,E,_,rfl,hW.same l.size (λb hb _=>d b hb) (λq x M=>d q (hW.h q x M).1),X.rep V,⟨.refl E,l.os,l.tape,l.output,l.size,λb hb _=>d b hb,λq x M=>.inl ⟨x,M⟩,λb cs hb=>.inl hb⟩,rfl,rfl⟩
theorem akE{name o:Nat}{rs:List (List PV)}{args:List aQ}{vs:List PV}{d:Option Nat}{K:PF→PH→Prop}(p:Plain v)(h:aH C name (vs.map (PV.frz o s rs)) .nil (aK v))(e:H o=some (.rows s rs))(i:aQ.evs F args=some vs)
  (l:K (F.put d v) H):kY C name args [] d K F H:=by
 refine pB (h.aMW p) i (e_ a_ e) ?_;rintro r H' ⟨rfl,rfl⟩ -;rw[PH.over_self _ (e_ a_ e)];exact l
theorem aKW{Hs:PH}{S:Spec}{name o:Nat}{rs:List (List PV)}{vs:List PV}{R:PH→PV→PH→Prop}{args:List aQ}{st:Bool}{d:Option Nat}{K:PF→PH→Prop}(p:S name vs=some ([o],R))(y:Plain v)(x:H o=some (.rows s rs))
  (h:aH C name (vs.map (PV.frz o s rs)) .nil (aK v)) (e:R (PH.nil.set o (.rows s rs)) v (PH.nil.set o (.rows s rs))) (i:∀r H',R (PH.nil.set o (.rows s rs)) r H'→r=v∧H'=PH.nil.set o (.rows s rs)) (u:aQ.evs F args=some vs) (l:Hs.le H) (w:K (F.put d v) H) :
  dOp C Hs S st (.call name args) d K F H:=ni p x (h.aMW y) e i u l w
theorem Qf{name t:Nat}{R:PV→PH→Prop}{d:Option Nat}{K:PF→PH→Prop}(h:aH C name [.sl s rows] .nil R)(x:bJ H s v rows)(w:F t=some v)
  (p:∀(e:PF)(l:PH),(∀i u,F i=some u→Pure u→e i=some u)→∀r H',R r H'→pU l .nil H'→K (e.put d r) (l.over .nil H')):kY C name [.tmp t] [] d K F H:=by
 rcases x with⟨rfl,rfl⟩|⟨q,rs,rfl,h1,h2,h3⟩
 ·exact .inl ⟨[.aF],.nil,R,by rw[HF,wc,w,gi];rfl,a_,h.aBE (.inl ⟨rfl,rfl⟩),p F H λi u hi _=>hi⟩
 ·refine .inr ⟨_,_,.step q h1 (.refl _ _),[.sl s rows],.nil,R,?_,a_,h,p _ _ λi u hi hp=>?_⟩
  ·simp only[HF,gi,wc,wD,w,a8X,AP h2,h3,a9W]
  ·rw[wD,hi,a8X,hp q s rs]
end
def rE(A:List Int)(k:Nat):List Int:=A.take k++a8D (Z' A-k) 0
theorem aiW(A:List Int):rE A 0=a8D A.length 0:=by simp[rE]
theorem axU(A:List Int):rE A A.length=A:=by simp[rE]
theorem P2(A:List Int){k:Nat}(h:k≤Z' A):(rE A k).length=Z' A:=by simp[rE];omega
theorem axV(A:List Int){k:Nat}(h:k<Z' A):(rE A k).set k A[k]=rE A (k+1):=by
 unfold rE;rw[bbB _ _ (by simp;omega),a8S,baS Om,baV,show A.length-k=(Z' A-(k+1))+1 by omega,List.replicate_succ,bbW,
  baC h,a9G]
 rfl
theorem rQ(l:List Int)(i:Nat)(x:Int):(bA l).set i [.int .i64 x]=bA (l.set i x):=by unfold bA;rw[List.map_set]
theorem wF(n:Nat):a8D n [PV.int .i64 0]=bA (a8D n 0):=by simp[bA]
theorem HQ{l:List Int}{i:Nat}(h:i<Z' l):(bA l)[i]?=some [.int .i64 l[i]]:=by simp[bA,h]
theorem azB(l:List Int):ints l=.sl 1 (bA l):=rfl
def zw(f:aE)(room:List Int)(d:Nat):Int:=if room.length=f.a6O.length then min (max (room.getD d 0) 0) (ext f d)else ext f d
def tG(f:aE)(room:List Int):List Int:=(a8A f.a6O.length).map (zw f room)
def Qu(f:aE)(room:List Int):List Int:=if eP f then tG f room else[]
theorem Kx(f:aE)(room:List Int):(tG f room).length=Z' f.a6O:=by simp[tG]
theorem aOU(f:aE)(room:List Int){d:Nat}(h:d<(tG f room).length):(tG f room)[d]=zw f room d:=by simp[tG]
theorem VF.aWW{f:aE}(h:VF f){d:Nat}(i:d<Z' f.a6O):∃e:mdl f d<Z' f.a6P,(f.a6P[mdl f d]).a7E=ext f d:=by
 have e:=(h.drive d i).2.1;exact⟨e,by rw[ext,getD_at e]⟩
def trF(f:aE)(room:List Int)(o k:Nat):PF:=(((((PF.nil.set 1 (ints room)).set 2 (.bM f.cells)).set 5 (.osl o 1 0 f.a6O.length)).set 15 (.int .i64 (Z' f.a6O:Nat))).set 16 (.int .i64 k))
theorem aTV(a b:Int):(if b<a then b else a)=min a b:=by
 rw[Int.min_def];by_cases h:b<a
 ·rw[aG h,aD Om]
 ·rw[aD h,aG Om]
theorem aPO{C:Ctx}(L:avG C)(f:aE)(O:f.Ok)(room:List Int) :
  UW.wp C (aY aBO.res (rT 1 (bA (Qu f room)))) (PF.args [.agg f.cells,ints room]) .nil:=by
 simp only[go_sem,UW,adB,adC,aBO];refine aB (L.valid f O) Ev ?_;unfold Qu;cases S:eP f with
 |false =>simp only[go_sem,a8P,adD];exact PJ (.inr rfl) Ev
 |true=>
  have hV:=VF.of S;have M:=hV.small.a6O;have F:(Z' f.a6O:Int)*((8:Nat):Int)≤140737488355328:=Om;have H:(Z' f.a6O:Int)≤9223372036854775807:=Om;simp only[go_sem,a8I,adE,a7Z,F,H];refine aR λo X=>?_;simp only[go_sem,adF];have u:=Kx f room;have E:=λd h=>aOU f room (d:=d) h;generalize V:tG f room=A at *
  refine wp_loop (α:=Nat) (λk=>trF f room o k) (λk=>PH.nil.set o (.rows 1 (bA (rE A k)))) (λk=>k≤Z' f.a6O) (λk=>Z' f.a6O-k) 0 (a8H _) ?_ ?_ ?_
  ·unfold trF;exact Lq
  ·refine e_ a_ ?_;simp only[go_sem];rw[aiW,u,wF]
  intro k W;simp only[go_sem,Mn,adG,trF];by_cases hlt:k<Z' f.a6O
  ·have e:(k:Int)<(Z' f.a6O:Nat):=Om;obtain⟨R,N⟩:=hV.aWW hlt;have Q:=P2 A (k:=k) Om;have w:k<Z' A:=Om;have U:=HQ (l:=rE A k) (i:=k) Om;have p:=axV A w;rw[E k w]at p;simp only[go_sem,e,adH];refine cP .nil fT a_ ?_;simp only[go_sem,adI,qG hlt,hV.ZP hlt,aFS R,N,e,a8Q,U];refine⟨a_,?_⟩;simp only[go_sem,adJ,a7Z];by_cases c:Z' room=Z' f.a6O
   ·have y:((Z' room:Int)==(Z' f.a6O:Int))=true:=cC Om;have x:k<Z' room:=Om;have J:(room.map λn=>[PV.int .i64 n])[k]?=some [.int .i64 room[k]]:=by simp[x]
    simp only[go_sem,y];refine cP .nil fT a_ ?_;have K:(bA ((rE A k).set k (ext f k)))[k]?=some [.int .i64 (ext f k)]:=by rw[←rQ,List.getElem?_set_self (by rw[dN];omega)]
    simp only[go_sem,adK,J,e,a8Q,K,max_eq,aTV,List.set_set,rQ];refine⟨a_,?_⟩;simp only[go_sem,c9,wZz k];refine aJ (k+1) hlt Om ?_ ?_
    ·exact Lq
    ·refine e_ a_ ?_;rw[←p,zw,aG c,a8V,a8N x,bbE];simp only[go_sem]
   ·have y:((Z' room:Int)==(Z' f.a6O:Int))=false:=bO Om;simp only[go_sem,y,c9,wZz k,rQ];refine aJ (k+1) hlt Om ?_ ?_
    ·exact Lq
    ·refine e_ a_ ?_;rw[←p,zw,aD c];simp only[go_sem]
  ·have e:¬(k:Int)<(Z' f.a6O:Nat):=Om;have:k=Z' f.a6O:=Om;subst this;simp only[go_sem,e,Mo];have B:rE A f.a6O.length=A:=by rw[←u,axU]
   rw[B];exact UD (.inr rfl) (v:=.osl o 1 0 f.a6O.length) (.inr ⟨o,bA A,by rw[dN,u],by simp only[go_sem],a8E _,a8T (a8E _)⟩) Sq
abbrev lay(l:List (List Int)):PV:=.sl 1 (l.map λr=>[ints r])
def iH(n:Nat)(xs:List Int):List Int:=(a8A n).map λ(d:Nat)=>((xs.count (d:Int):Nat):Int)
theorem oI(n:Nat)(xs:List Int):(iH n xs).length=n:=by simp[iH]
theorem Sg(n:Nat):iH n []=a8D n 0:=by
 refine baX (by simp[iH]) λi d e=>by simp[iH]
theorem alB{n:Nat}(xs:List Int){d:Nat}(h:d<n):(iH n xs)[d]'(by rw[oI];exact h)=((xs.count (d:Int):Nat):Int):=by simp[iH]
theorem alC{n:Nat}(xs:List Int){d:Nat}(h:d<n):(iH n xs).set d (((xs.count (d:Int):Nat):Int)+1)=iH n (xs++[(d:Int)]):=by
 refine baX (by simp[iH]) λi l p=>?_;simp only[iH,List.getElem_set,a9Q,List.getElem_range,List.count_append];by_cases e:d=i
 ·subst e;simp
 ·have:((d:Nat):Int)≠(i:Int):=Om;rw[aD e];simp[List.count_cons,this]
theorem nb{n:Nat}(xs:List Int){x:Int}(h:¬(0≤x∧x<n)):iH n (xs++[x])=iH n xs:=by
 refine baX (by simp[iH]) λi e d=>?_;simp only[iH,a9Q,List.getElem_range,List.count_append];have hi:i<n:=by simpa[iH]using d
 have:x≠(i:Int):=Om;simp[List.count_cons,this]
def qN(f:aE)(l:List (List Int)):List Int:=iH f.a6O.length l.flatten
structure yJ(l:List (List Int)):Prop where
 rows:Z' l≤16777216
 all:Z' l.flatten≤16777216
theorem JD(l:List (List Int)){i:Nat}(h:i<Z' l):(l.take (i+1)).flatten=(l.take i).flatten++l[i]:=by
 rw[baC h,List.flatten_append];simp only[List.flatten_cons,List.flatten_nil,a9W]
theorem nr(l:List (List Int))(i:Nat):(l.take i).flatten.length≤Z' l.flatten:=by
 have:l.flatten=(l.take i).flatten++(l.drop i).flatten:=by rw[←List.flatten_append,bbC]
 rw[this,a8F];omega
def X2(l:List (List Int))(n o i:Nat):PF:=((((PF.nil.set 5 (.osl o 1 0 n)).set 14 (lay l)).set 15 (.int .i64 (Z' l:Nat))).set 16 (.int .i64 i))
def D9(l:List (List Int))(n o i:Nat)(row:List Int)(k:Nat):PF:=(((((((PF.nil.set 5 (.osl o 1 0 n)).set 14 (lay l)).set 15 (.int .i64 (Z' l:Nat))).set 16 (.int .i64 i)).set 20 (ints row)).set 21 (.int .i64 (Z' row:Nat))).set 22 (.int .i64 k))
theorem aIG{C:Ctx}(f:aE)(hd:Z' f.a6O≤24)(l:List (List Int))(X:yJ l) :
  NB.wp C (aY acW.res (cN (ints (qN f l)))) (PF.args [.agg f.cells,lay l]) .nil:=by
 have N:(Z' f.a6O:Int)*((8:Nat):Int)≤140737488355328:=Om;have O:(Z' f.a6O:Int)≤9223372036854775807:=Om;obtain⟨Y,Z⟩:=X;simp only[go_sem,NB,Mf,Mg,acW,a7Z,N,O];refine aR λo ho=>?_;simp only[go_sem,Mh];generalize hn:Z' f.a6O=n at *
 refine wp_loop (α:=Nat) (λi=>X2 l n o i) (λi=>PH.nil.set o (.rows 1 (bA (iH n (l.take i).flatten)))) (λi=>i≤Z' l) (λi=>Z' l-i) 0 (a8H _) ?_ ?_ ?_
 ·unfold X2
  (repeat' (first|exact d_|refine c_ ?_ ?_))<;>first|(simp only[go_sem,a7Z]<;>rfl)|rfl
 ·refine e_ a_ ?_;simp only[go_sem,List.take_zero,List.flatten_nil];rw[Sg,wF]
 intro i hi;simp only[go_sem,Az,Mi,X2];by_cases hlt:i<Z' l
 ·have p:(i:Int)<(Z' l:Nat):=Om;have hr:(l.map λr=>[ints r])[i]?=some [ints l[i]]:=by simp[hlt]
  have J:=JD l hlt;have Q:=nr l (i+1);rw[J,a8F]at Q;generalize S:l[i]=row at *
  simp only[go_sem,p,Mj,hr,Mk,a7Z];refine wp_loop (α:=Nat) (λk=>D9 l n o i row k) (λk=>PH.nil.set o (.rows 1 (bA (iH n ((l.take i).flatten++row.take k))))) (λk=>k≤Z' row) (λk=>Z' row-k) 0 (a8H _) ?_ ?_ ?_
  ·unfold D9
   (repeat' (first|exact d_|refine c_ ?_ ?_))<;>first|(simp only[go_sem,a7Z]<;>rfl)|rfl
  ·rw[List.take_zero,a9W];exact b_
  intro k hk;simp only[go_sem,Ay,Ml,D9];by_cases y:k<Z' row
  ·have e:(k:Int)<(Z' row:Nat):=Om;have A:(row.map λn=>[PV.int .i64 n])[k]?=some [.int .i64 row[k]]:=by simp[y]
   have B:(l.take i).flatten++row.take (k+1)=((l.take i).flatten++row.take k)++[row[k]]:=by rw[baC y,a9G]
   have fin:∀(F:PF),(D9 l n o i row (k+1)).le F→∀H:PH,H o=some (.rows 1 (bA (iH n ((l.take i).flatten++row.take (k+1))))) →
     gV (λk=>D9 l n o i row k) (λk=>PH.nil.set o (.rows 1 (bA (iH n ((l.take i).flatten++row.take k))))) (λk=>k≤Z' row) (λk=>Z' row-k) (Z' row-k)
      (fQ 2 (fQ 1 (jW C (aC.wp C (.region UU)) (gV (λi=>X2 l n o i) (λi=>PH.nil.set o (.rows 1 (bA (iH n (l.take i).flatten)))) (λi=>i≤Z' l) (λi=>Z' l-i) (Z' l-i) (fQ 0 (jW C (aC.wp C (.seq (.region UV) .ret)) (aY [.tmp 4] (cN (ints (qN f l)))))))))) .normal F H:=by
    intro F U H V;exact aJ (k+1) y Om U (e_ a_ V)
   unfold D9 X2 at fin;generalize hx:row[k]=x at *
   by_cases M:x≥0
   ·by_cases R:x<(n:Nat)
    ·obtain⟨d,rfl⟩:∃d:Nat,x=d:=⟨x.toNat,by omega⟩;have w:d<n:=Om;have E:=HQ (l:=iH n ((l.take i).flatten++row.take k)) (i:=d) (by rw[oI];exact w);rw[alB _ w]at E;have W:((l.take i).flatten++row.take k).count (d:Int)≤16777216:=by refine a9F (List.count_le_length ..) ?_;rw[a8F,a8S];omega
     have K:=alC ((l.take i).flatten++row.take k) w;rw[←B]at K;have hw:IntKind.i64.wrap (((((l.take i).flatten++row.take k).count (d:Int):Nat):Int)+1)=((((l.take i).flatten++row.take k).count (d:Int):Nat):Int)+1:=wrap_i64 Om Om;simp only[go_sem,e,KE,A,KF,M,R,Mm,a8Q,E,hw,FC,rQ,K,wZz k];exact fin _ Lq _ Sq
    ·have u:=nb (n:=n) ((l.take i).flatten++row.take k) (x:=x) Om;simp only[go_sem,e,KE,A,KF,M,R,FC,wZz k];exact fin _ Lq _ (by rw[B,u];simp only[go_sem])
   ·have u:=nb (n:=n) ((l.take i).flatten++row.take k) (x:=x) Om;simp only[go_sem,e,KE,A,KF,M,FC,wZz k];exact fin _ Lq _ (by rw[B,u];simp only[go_sem])
  ·have e:¬(k:Int)<(Z' row:Nat):=Om;have:k=Z' row:=Om;subst this;simp only[go_sem,e,UU,wZz i,a9E];refine aJ (i+1) hlt Om ?_ ?_
   ·exact Lq
   ·refine e_ a_ ?_;rw[J];simp only[go_sem]
 ·have p:¬(i:Int)<(Z' l:Nat):=Om;have:i=Z' l:=Om;subst this;simp only[go_sem,p,UV,a9E];refine abO (.inr rfl) (o:=o) (s:=1) (k:=n) (rs:=bA (iH n l.flatten)) Sq Sq (by rw[dN,oI];omega) ⟨?_,rfl⟩;rw[azB,a8T (by rw[dN,oI];omega),qN,hn];exact .refl _
structure Rp(C:Ctx):Prop extends avG C where
 room:∀(f:aE)(room:List Int),f.Ok→aH C 152 [.agg f.cells,ints room] .nil (aK (ints (Qu f room)))
 loads:∀(f:aE)(l:List (List Int)),Z' f.a6O≤24→yJ l→aH C 157 [.agg f.cells,lay l] .nil (aK (ints (qN f l)))
structure nM where
 kind:Int
 vol:Int
 wher:Int
abbrev nM.cells(x:nM):List PV:=[.int .i64 x.kind,.int .i64 x.vol,.int .i64 x.wher]
abbrev aCJ(l:List nM):PV:=.sl 3 (l.map nM.cells)
def oJ(p:Int→Bool):List Int→Nat→Option Nat
 |[],_=>none
 |x::t,i=>if p x then some i else oJ p t (i+1)
def yP(f:aE)(d:Int):Bool:=decide (d < -1)||decide (d≥(Z' f.a6O:Nat))
def zS(f:aE)(l:List (List Int))(v:Nat):Option nM:=
 if((l.getD v []).length:Int)=wQ f v then(oJ (yP f) (l.getD v []) 0).map λ(i:Nat)=>⟨1,v,i⟩else some ⟨1,v,((l.getD v []).length:Nat)⟩
def shV:Option nM→PV
 |some x=>.tup [.agg x.cells,.bool true]
 |none=>.tup [.agg [.int .i64 0,.int .i64 0,.int .i64 0],.bool false]
def aPP(f:aE)(o:Nat)(v:Nat)(row:List Int)(k:Nat):PF:=((((((PF.nil.set 2 (.int .i64 v)).set 3 (.bM f.cells)).set 6 (.ptr o 3 0 0)).set 29 (ints row)).set 30 (.int .i64 (Z' row:Nat))).set 31 (.int .i64 k))
theorem aII{C:Ctx}(L:Rp C)(f:aE)(hV:VF f)(l:List (List Int))(N:yJ l)(v:Nat)(A:v<Z' l)(B:v<Z' f.a6Q) :
  NC.wp C (aY da.res (cN (shV (zS f l v)))) (PF.args [.agg f.cells,lay l,.int .i64 v]) .nil:=by
 have y:(l.map λr=>[ints r])[v]?=some [ints l[v]]:=by simp[A]
 have M:l.getD v []=l[v]:=by simp[a8V,A]
 have O:(l[v]).length≤16777216:=by have E:=nr l (v+1);have:=N.all;rw[JD l A,a8F]at E;omega
 unfold zS;rw[M];simp only[go_sem,NC,Mq];refine aR λo R=>?_;simp only[go_sem];refine cP .nil (toS f) a_ ?_;generalize l[v]=row at *
 have fin:∀(x:nM)(F:PF)(H:PH),F 6=some (.ptr o 3 0 0)→F 7=some (.bool true)→H o=some (.rows 3 [x.cells])→aY da.res (cN (shV (some x))) .ret F H:=by intro x F H J h7 K;refine bE (.inr rfl) .nil (vs:=[.agg x.cells,.bool true]) ?_ a_ ⟨.refl _,rfl⟩;simp only[go_sem,da,J,h7,K]
 simp only[go_sem,Mr,y,a7Z];refine cR (aPL f v) (L.aLO f v hV B) rfl a_ ?_;by_cases c:(Z' row:Int)=wQ f v
 ·rw[aG c];simp only[go_sem,dL c,Mt,y,a7Z];refine wp_loop (α:=Nat) (λk=>aPP f o v row k) (λk=>PH.nil.set o (.rows 3 [[.int .i64 0,.int .i64 0,.int .i64 0]])) (λk=>k≤Z' row∧oJ (yP f) row 0=oJ (yP f) (row.drop k) k) (λk=>Z' row-k) 0 ⟨a8H _,rfl⟩ ?_ b_ ?_
  ·unfold aPP
   (repeat' (first|exact d_|refine c_ ?_ ?_))<;>first|(simp only[go_sem,a7Z]<;>rfl)|rfl
  rintro k ⟨Q,hb⟩;simp only[go_sem,Mp,Mu,aPP];by_cases hlt:k<Z' row
  ·have d:(k:Int)<(Z' row:Nat):=Om;have i:(row.map λn=>[PV.int .i64 n])[k]?=some [.int .i64 row[k]]:=by simp[hlt]
   have w:oJ (yP f) (row.drop k) k=if yP f row[k]then some k else oJ (yP f) (row.drop (k+1)) (k+1):=by rw[baJ hlt,oJ]
   rw[w]at hb;by_cases p:row[k] < -1
   ·have e:yP f row[k]=true:=by simp[yP,p]
    rw[e]at hb;simp only[go_sem,d,KG,i,KI,p,db];rw[hb];exact fin ⟨1,v,k⟩ _ _ rfl rfl Sq
   ·by_cases u:row[k]≥(Z' f.a6O:Nat)
    ·have e:yP f row[k]=true:=by simp[yP,u]
     rw[e]at hb;simp only[go_sem,d,KG,i,KI,p,a7Z,u,db];rw[hb];exact fin ⟨1,v,k⟩ _ _ rfl rfl Sq
    ·have e:yP f row[k]=false:=by simp[yP];omega
     rw[e]at hb;simp only[go_sem,d,KG,i,KI,p,a7Z,u,Mv,wZz k];refine aJ (k+1) ⟨hlt,hb⟩ Om ?_ b_;exact Lq
  ·have d:¬(k:Int)<(Z' row:Nat):=Om;have:k=Z' row:=Om;subst this;rw[List.drop_length,oJ]at hb;simp only[go_sem,d,A1];rw[hb];refine bE (.inr rfl) .nil (vs:=[.agg [.int .i64 0,.int .i64 0,.int .i64 0],.bool false]) ?_ a_ ⟨.refl _,rfl⟩;simp only[go_sem,da]
 ·rw[aD c];simp only[go_sem,eC c,Ms,y,a7Z];exact fin ⟨1,v,(Z' row:Nat)⟩ _ _ rfl rfl Sq
structure aDE(C:Ctx):Prop extends Rp C where
 shape:∀(f:aE)(l:List (List Int)) (v:Nat),VF f→yJ l→v<Z' l→v<Z' f.a6Q→aH C 160 [.agg f.cells,lay l,.int .i64 v] .nil (aK (shV (zS f l v)))
section
variable {C:Ctx} {F:PF} {H:PH}
theorem AC{name:Nat}{vs cs:List PV}{r:PV}{i:PH}{args:List aQ}{d:Option Nat}{K:PF→PH→Prop}(h:aH C name (vs++cs) i (λr' H'=>r'=r∧H'=i))(l:aQ.evs F args=some vs)(e:i.le H)
  (p:K (F.put d r) H):kY C name args cs d K F H:=by
 refine .inl ⟨vs++cs,i,_,by rw[l];rfl,e,h,?_⟩;rintro r' H' ⟨rfl,rfl⟩ -;rw[PH.over_self _ e];exact p
theorem bJ.ne{s s':Nat}{v:PV}{rows:List (List PV)}{o:Nat}{y:List (List PV)}(h:bJ H s v rows)(p:H o=some (.rows s' y))(u:s≠s'):∀l,v≠.osl o s 0 l:=by
 intro l e;rcases h with⟨_,d⟩|⟨q,rs,h1,d,_⟩
 ·rw[d]at e;cases e
 ·rw[h1]at e;injection e with i
  subst i;rw[p]at d;injection d with d
  injection d with d
  exact u d.symm
theorem bJ.set{s s':Nat}{v:PV}{rows:List (List PV)}{o:Nat}{y:List (List PV)}{x:aU}(h:bJ H s v rows)(l:H o=some (.rows s' y))(p:s≠s'):bJ (H.set o x) s v rows:=by
 have i:=h.ne l p;rcases h with⟨d,e⟩|⟨q,rs,d,e,h3,h4⟩
 ·exact .inl ⟨d,e⟩
 ·refine .inr ⟨q,rs,d,?_,h3,h4⟩;have:q≠o:=by rintro rfl;exact i _ d
  simp only[aS,aD this,e]
def Dis(s:Nat)(v u:PV):Prop:=∀q l d e,v=.osl q s 0 l→u=.osl d s 0 e→q≠d
theorem Dis.nil{s:Nat}:Dis s .aF .aF:=λ_ _ _ _ h=>by cases h
theorem Dis.symm{s:Nat}{v u:PV}(h:Dis s v u):Dis s u v:=λq l p i d e=>(h p i q l e d).symm
theorem qE{s b:Nat}{v u y:PV}{rows rows' src:List (List PV)}{K:PV→PH→Prop}(h:bJ H s v rows)(J:bJ H s u rows')(N:Dis s v u)(U:dW H s y=some src)(S:roomFor rows.length src.length b)
  (O:∀v' H',bJ H' s v' (rows++src)→bJ H' s u rows'→Dis s v' u→(∀o s' z,s≠s'→H o=some (.rows s' z)→H' o=some (.rows s' z))→K v' H'):oP H s b v y K:=by
 have p:∀{H':PH}{t:PV}{r:List (List PV)},bJ H s t r→(∀o x,H o=some x→(∀l,t=.osl o s 0 l→False)∨H' o=some x)→bJ H' s t r:=by
  intro H' t r X hp;rcases X with⟨a,b⟩|⟨q,rs,a,b,c,d⟩
  ·exact .inl ⟨a,b⟩
  ·refine .inr ⟨q,rs,a,?_,c,d⟩;rcases hp q _ b with e|e
   ·exact(e _ a).elim
   ·exact e
 have gone:∀{o:Nat}{x:aU},H o=none→H o=some x→False:=λa b=>by rw[a]at b;cases b
 have M:∀{o:Nat}{l:Nat},u=.osl o s 0 l→∃x,H o=some x:=by
  intro o l e;rcases J with⟨a,b⟩|⟨q,rs,a,b,c,d⟩
  ·rw[b]at e;cases e
  ·rw[a]at e;injection e with e;subst e;exact⟨_,b⟩
 rcases h with⟨rfl,rfl⟩|⟨q,rs,rfl,h1,h2,h3⟩
 ·refine⟨src,U,S,λe=>?_,λe o E=>?_⟩
  ·subst e;exact O _ _ (.inl ⟨rfl,rfl⟩) J N λo s' z _ i=>i
  ·refine O _ _ (.inr ⟨o,src,rfl,by simp only[aS,if_true],a8E _,by simp⟩) (p J λo' x A=>.inr ?_) ?_ λo' s' z _ i=>?_
   ·have:o'≠o:=by rintro rfl;exact gone E A
    simp only[aS,aD this,A]
   ·intro q l W V w e2;injection w with w
    subst w;rintro rfl;obtain⟨x,A⟩:=M e2;exact gone E A
   ·have:o'≠o:=by rintro rfl;exact gone E i
    simp only[aS,aD this,i]
 ·have B:(rows++src).length=Z' rows+Z' src:=a8F;refine⟨src,U,rfl,rfl,S,rs,h1,h2,?_,λo E=>?_⟩
  ·rw[h3];refine O _ _ (.inr ⟨q,rows++src,by rw[B],by simp only[aS,if_true],a8E _,a9E⟩) (p J λo' x A=>?_) ?_ λo' s' z R i=>?_
   ·by_cases e:o'=q
    ·exact .inl λl Q=>N q _ o' l rfl Q e.symm
    ·exact .inr (by simp only[aS,aD e,A])
   ·intro Y l W V w e2;injection w with w
    subst w;exact N _ _ _ _ rfl e2
   ·have:o'≠q:=by
     rintro rfl;rw[h1]at i;injection i with i
     injection i with i
     exact R i
    simp only[aS,aD this,i]
  ·rw[h3];refine O _ _ (.inr ⟨o,rows++src,by rw[B],by simp only[aS,if_true],a8E _,a9E⟩) (p J λo' x A=>?_) ?_ λo' s' z R i=>?_
   ·by_cases e:o'=q
    ·exact .inl λl Q=>N q _ o' l rfl Q e.symm
    ·have e2:o'≠o:=by rintro rfl;exact gone E A
     exact .inr (by simp only[aS,aD e,aD e2,A])
   ·intro Y l W V w e2;injection w with w
    subst w;rintro rfl;obtain⟨x,A⟩:=M e2;exact gone E A
   ·have w:o'≠q:=by
     rintro rfl;rw[h1]at i;injection i with i
     injection i with i
     exact R i
    have e2:o'≠o:=by rintro rfl;exact gone E i
    simp only[aS,aD w,aD e2,i]
end
abbrev fZ(l:List nM):List (List PV):=l.map nM.cells
def eF(kind v:Int)(n:Nat)(p:Nat→Bool):List nM:=((a8A n).filter p).map λ(i:Nat)=>⟨kind,v,i⟩
theorem uI(kind v:Int)(n:Nat)(p:Nat→Bool):eF kind v (n+1) p=if p n then eF kind v n p++[⟨kind,v,n⟩]else eF kind v n p:=by
 unfold eF;rw[bbT,List.filter_append,a8Z];by_cases h:p n
 ·rw[aG h];simp[h]
 ·rw[aD h];simp[h]
theorem kG(kind v:Int)(n:Nat)(p:Nat→Bool):(eF kind v n p).length≤n:=by
 unfold eF;rw[a7Z];exact a9F (List.length_filter_le _ _) bD
theorem pH(l:List nM):(fZ l).length=Z' l:=by simp[fZ]
theorem vM(l:List nM)(x:nM):fZ l++[x.cells]=fZ (l++[x]):=by simp[fZ]
def aaQ(o5:Nat)(v:Nat):PH:=PH.nil.set o5 (.rows 1 [[.int .i64 v]])
theorem aIK{C:Ctx}(o5 v:Nat)(k w:Int):NE.wp C (aY adV.res (λr H'=>r=.agg [.int .i64 k,.int .i64 v,.int .i64 w]∧H'=aaQ o5 v)) (PF.args [.int .i64 k,.int .i64 w,.ptr o5 1 0 0]) (aaQ o5 v):=by
 simp only[go_sem,NE,M8,aaQ];refine aR λo e=>?_;have d:o5≠o:=by rintro rfl;simp only[aS,if_true]at e;cases e
 simp only[go_sem,M9,d];refine bE (.inr rfl) (PH.nil.set o5 (.rows 1 [[.int .i64 v]])) (vs:=[.agg [.int .i64 k,.int .i64 v,.int .i64 w]]) ?_ (e_ a_ ?_) ⟨rfl,rfl⟩
 ·simp only[go_sem,adV]
 ·simp only[go_sem,d]
def JM(f:aE)(i:Nat)(d:Int):Bool:=decide (0≤d)&&decide (dS f d.toNat (lvl f i)=i)
def iJ(f:aE)(xs:List Int)(i:Nat):Int:=if i=0 then 0 else((xs.countP (JM f i):Nat):Int)
def fK(f:aE)(xs:List Int):List Int:=(a8A f.a6R.length).map (iJ f xs)
def pO(f:aE)(xs:List Int)(d:Nat)(k:Nat):List Int:=(a8A f.a6R.length).map λi=>if 4-(k:Int)<lvl f i then iJ f (xs++[(d:Int)]) i else iJ f xs i
theorem aLB(f:aE)(xs:List Int)(d k:Nat):(pO f xs d k).length=Z' f.a6R:=by simp[pO]
theorem CK(f:aE)(xs:List Int):(fK f xs).length=Z' f.a6R:=by simp[fK]
theorem VF.nU{f:aE}(h:VF f){i:Nat}(hi:i<Z' f.a6R):0≤lvl f i∧lvl f i≤4∧(lvl f i=0↔i=0):=by
 rcases baR i with e|e
 ·subst e;rw[h.root.2.1];simp
 ·have:=h.dom i e hi;omega
theorem Hx{f:aE}(h:VF f)(xs:List Int)(d:Nat):pO f xs d 0=fK f xs:=by
 refine baX (by simp[pO,fK]) λi l e=>?_;simp only[pO,fK,a9Q,List.getElem_range];have hi:i<Z' f.a6R:=by simpa[fK]using e
 have:=h.nU hi;rw[aD Om]
theorem Hw{f:aE}(h:VF f)(xs:List Int)(d:Nat):pO f xs d 4=fK f (xs++[(d:Int)]):=by
 refine baX (by simp[pO,fK]) λi p l=>?_;simp only[pO,fK,a9Q,List.getElem_range];have hi:i<Z' f.a6R:=by simpa[fK]using l
 have:=h.nU hi;by_cases e:i=0
 ·subst e;rw[aD Om];simp[iJ]
 ·rw[aG Om]
theorem IX(f:aE)(xs:List Int)(d:Nat){i:Nat}(hi:i≠0):iJ f (xs++[(d:Int)]) i=iJ f xs i+if dS f d (lvl f i)=i then 1 else 0:=by
 unfold iJ;rw[aD hi,aD hi,List.countP_append];by_cases h:dS f d (lvl f i)=i
 ·rw[aG h];simp[JM,h]
 ·rw[aD h];simp[JM,h]
theorem alH{f:aE}(h:VF f)(xs:List Int){d:Nat}(y:d<Z' f.a6O){k:Nat}(E:k<4) :
  (pO f xs d k)[upN f k (dP f d)]?=some (iJ f xs (upN f k (dP f d))) ∧
  (pO f xs d k).set (upN f k (dP f d)) (iJ f xs (upN f k (dP f d))+1)=pO f xs d (k+1):=by
 obtain⟨A,w⟩:=IK h y (k:=k) Om;constructor
 ·simp only[pO,a8Y,List.getElem?_range A,a8X];rw[aD Om]
 ·refine baX (by simp[pO]) λi B x=>?_;have hi:i<Z' f.a6R:=by simpa[pO]using x
  simp only[pO,List.getElem_set,a9Q,List.getElem_range];have J:=h.nU hi;by_cases e:upN f k (dP f d)=i
  ·rw[aG e];subst e;rw[aG Om];have l:upN f k (dP f d)≠0:=by intro e;rw[e,h.root.2.1]at w;omega
   rw[IX f xs d l,dS,w];have:4-(4-(k:Int)).toNat=k:=Om;rw[this,aG rfl]
  ·rw[aD e];by_cases c:4-(k:Int)<lvl f i
   ·rw[aG c,aG Om]
   ·rw[aD c];by_cases p:4-((k+1:Nat):Int)<lvl f i
    ·rw[aG p];have u:lvl f i=4-(k:Int):=Om;have l:i≠0:=by intro e;subst e;rw[h.root.2.1]at u;omega
     rw[IX f xs d l,dS,u];have:4-(4-(k:Int)).toNat=k:=Om;rw[this,aD e];simp
    ·rw[aD p]
theorem alG(f:aE)(xs:List Int)(i:Nat):0≤iJ f xs i∧iJ f xs i≤Z' xs:=by
 unfold iJ;have:=List.countP_le_length (p:=JM f i) (l:=xs);split<;>omega
structure OL(C:Ctx):Prop extends aDE C where
 bad:∀(o5 v:Nat)(k w:Int),aH C 159 [.int .i64 k,.int .i64 w,.ptr o5 1 0 0] (aaQ o5 v) (λr H'=>r=.agg [.int .i64 k,.int .i64 v,.int .i64 w]∧H'=aaQ o5 v)
structure Obs where
 o5:Nat
 o7:Nat
 o8:Nat
 oD:Nat
 oB:Nat
structure Obs.Ne(o:Obs):Prop where
 a1:o.o5≠o.oD
 a2:o.o5≠o.oB
 a3:o.o7≠o.oD
 a4:o.o7≠o.oB
 a5:o.o8≠o.oD
 a6:o.o8≠o.oB
 a7:o.oD≠o.oB
structure oH(H:PH)(o:Obs)(v:Nat)(p:cL)(A:List Bool)(D B:List Int):Prop where
 h5:H o.o5=some (.rows 1 [[.int .i64 v]])
 h7:H o.o7=some (.rows 17 [p.cells])
 h8:H o.o8=some (.rows 1 (eA A))
 hD:H o.oD=some (.rows 1 (bA D))
 hB:H o.oB=some (.rows 1 (bA B))
theorem oH.keep{H H':PH}{o:Obs}{v:Nat}{p:cL}{A:List Bool}{D B:List Int}(h:oH H o v p A D B)(d:∀q s' z,3≠s'→H q=some (.rows s' z)→H' q=some (.rows s' z)):oH H' o v p A D B:=
 ⟨d _ _ _ aV h.h5,d _ _ _ aV h.h7,d _ _ _ aV h.h8,d _ _ _ aV h.hD,d _ _ _ aV h.hB⟩
theorem oH.a4G{H:PH}{o:Obs}{v:Nat}{p:cL}{A:List Bool}{D B:List Int}(h:oH H o v p A D B)(d:o.Ne)(B':List Int):oH (H.set o.oB (.rows 1 (bA B'))) o v p A D B':=
 ⟨by simp only[aS,aD d.a2,h.h5],by simp only[aS,aD d.a4,h.h7],by simp only[aS,aD d.a6,h.h8],by simp only[aS,aD d.a7,h.hD],by simp only[aS,if_true]⟩
theorem oH.a4H{H:PH}{o:Obs}{v:Nat}{p:cL}{A:List Bool}{D B:List Int}(h:oH H o v p A D B)(d:o.Ne)(e:List Int):oH (H.set o.oD (.rows 1 (bA e))) o v p A e B:=
 ⟨by simp only[aS,aD d.a1,h.h5],by simp only[aS,aD d.a3,h.h7],by simp only[aS,aD d.a5,h.h8],by simp only[aS,if_true],by simp only[aS,aD (Ne.symm d.a7),h.hB]⟩
def pA(f:aE)(o:Obs)(d e:PV)(row:List Int)(k:Nat):PF:=
 ((((((((((((PF.nil.set 3 (.bM f.cells)).set 5 (.ptr o.o5 1 0 0)).set 7 (.ptr o.o7 17 0 0)).set 8 (.osl o.o8 1 0 f.a6P.length)).set 11 (.fn 159 [.ptr o.o5 1 0 0])).set 12 (d)).set 13 (e)).set 14 (.osl o.oD 1 0 f.a6O.length)).set 15 (.osl o.oB 1 0 f.a6R.length)).set 62 (ints row)).set 63 (.int .i64 (Z' row:Nat))).set 64 (.int .i64 k))
def aAW(f:aE)(o:Obs)(d e:PV)(row:List Int)(k:Nat)(at_:Nat):PF:=
 (((((((((((((PF.nil.set 3 (.bM f.cells)).set 5 (.ptr o.o5 1 0 0)).set 7 (.ptr o.o7 17 0 0)).set 8 (.osl o.o8 1 0 f.a6P.length)).set 11 (.fn 159 [.ptr o.o5 1 0 0])).set 12 (d)).set 13 (e)).set 14 (.osl o.oD 1 0 f.a6O.length)).set 15 (.osl o.oB 1 0 f.a6R.length)).set 62 (ints row)).set 63 (.int .i64 (Z' row:Nat))).set 64 (.int .i64 k)).set 18 (.int .i64 at_))
theorem aXW{C:Ctx}(f:aE)(hV:VF f)(o:Obs)(hn:o.Ne)(v:Nat)(p:cL)(A:List Bool)(D:List Int)(i l:PV)(u w:List (List PV))(row:List Int)(k:Nat)(xs:List Int)(β:Z' xs≤16777216)(d:Nat)(U:d<Z' f.a6O)(K:cD)(F:PF)(H:PH)
  (W:(aAW f o i l row k (dP f d)).le F) (X:oH H o v p A D (fK f xs)) (J:bJ H 3 i u) (M:bJ H 3 l w)
  (Y:∀S H',(pA f o i l row k).le S→oH H' o v p A D (fK f (xs++[(d:Int)]))→bJ H' 3 i u→bJ H' 3 l w→K .normal S H') :
  aC.wp C (.block 4 (.loop KJ)) K F H:=by
 simp only[go_sem];refine wp_loop (α:=Nat × PH) (λt=>aAW f o i l row k (upN f t.1 (dP f d))) (λt=>t.2) (λt=>t.1≤4∧oH t.2 o v p A D (pO f xs d t.1)∧bJ t.2 3 i u∧bJ t.2 3 l w) (λt=>4-t.1) (0,H) ⟨a8H _,by rw[Hx hV];exact X,J,M⟩ (by rw[upN];exact W) b_ ?_;rintro⟨j,H0⟩ ⟨V,B,x,y⟩;simp only at V B x y ⊢;obtain⟨E,u2⟩:=IK hV U (k:=j) V;simp only[go_sem,KJ,Nh,aAW];by_cases hlt:j<4
 ·have R:0<upN f j (dP f d):=by
   rcases baR (upN f j (dP f d))with e|e
   ·rw[e,hV.root.2.1]at u2;omega
   ·exact e
  have O:((upN f j (dP f d):Nat):Int)>0:=Om;obtain⟨b1,b2⟩:=alH hV xs U hlt;have N:(bA (pO f xs d j))[upN f j (dP f d)]?=some [.int .i64 (iJ f xs (upN f j (dP f d)))]:=by unfold bA;rw[a8Y,b1];rfl
  have Z:=alG f xs (upN f j (dP f d));have hw:IntKind.i64.wrap (iJ f xs (upN f j (dP f d))+1)=iJ f xs (upN f j (dP f d))+1:=wrap_i64 Om Om;have Q:((upN f j (dP f d):Nat):Int)<(Z' f.a6R:Nat):=Om;simp only[go_sem,O,Ni,Q,a8Q,B.hB,N,hw,rQ,b2,Nj,iY E,bw E,hV.ij R E];refine aJ (j+1,_) ⟨hlt,B.a4G hn _,x.set B.hB aV,y.set B.hB aV⟩ (by simp only;omega) ?_ b_
  (repeat' (first|exact d_|refine c_ ?_ ?_))<;>first|(simp only[go_sem,upN]<;>rfl)|rfl
 ·have:j=4:=Om;subst this;have h0:upN f 4 (dP f d)=0:=by have:=hV.nU E;omega
  have O:¬((upN f 4 (dP f d):Nat):Int)>0:=Om;simp only[go_sem,O];rw[Hw hV]at B;refine Y _ _ ?_ B x y;unfold pA;exact Lq
structure Qk(f:aE)(row:List Int):Prop where
 len:Z' row≤16777216
 at_:∀x∈row,-1≤x∧x<(Z' f.a6O:Nat)
def home(row:List Int)(i:Nat):Bool:=decide (row.getD i 0<0)
def jC(f:aE)(p:cL)(row:List Int)(i:Nat):Bool:=decide (0≤row.getD i 0)&&!p.a6P.contains ((mdl f (row.getD i 0).toNat:Nat):Int)
theorem aDZ(f:aE)(xs:List Int){x:Int}(h:x<0):fK f (xs++[x])=fK f xs:=by
 refine baX (by simp[fK]) λi d e=>?_;simp only[fK,a9Q,List.getElem_range,iJ,List.countP_append];have:JM f i x=false:=by simp[JM];omega
 simp[this]
theorem aOY{C:Ctx}(L:OL C)(f:aE)(hV:VF f)(o:Obs)(hn:o.Ne)(v:Nat)(p:cL)(hp:∀m∈p.a6P,0≤m∧m<Z' f.a6P)(row:List Int)(hr:Qk f row)(K:cD)(F:PF)(H:PH)
  (V:(pA f o .aF .aF row 0).le F) (hH:oH H o v p (marks f.a6P.length p.a6P) (iH f.a6O.length []) (fK f []))
  (hK:∀y E F' H',(pA f o y E row row.length).le F'→oH H' o v p (marks f.a6P.length p.a6P) (iH f.a6O.length row) (fK f row)→bJ H' 3 y (fZ (eF 2 v row.length (home row)))→bJ H' 3 E (fZ (eF 4 v row.length (jC f p row)))→Dis 3 y E→K (.exit 2) F' H') :
  aC.wp C (.loop yE) K F H:=by
 obtain⟨σ,ξ⟩:=hr;refine wp_loop (α:=Nat × PV × PV × PH) (λt=>pA f o t.2.1 t.2.2.1 row t.1) (λt=>t.2.2.2)
  (λt=>t.1≤Z' row∧oH t.2.2.2 o v p (marks f.a6P.length p.a6P) (iH f.a6O.length (row.take t.1)) (fK f (row.take t.1))∧bJ t.2.2.2 3 t.2.1 (fZ (eF 2 v t.1 (home row)))∧bJ t.2.2.2 3 t.2.2.1 (fZ (eF 4 v t.1 (jC f p row)))∧Dis 3 t.2.1 t.2.2.1)
  (λt=>Z' row-t.1) (0,.aF,.aF,H) ⟨a8H _,by rw[List.take_zero];exact hH,.nil,.nil,.nil⟩ V b_ ?_
 rintro⟨k,y,E,H0⟩ ⟨hk,M,N,O,hd⟩;simp only at hk M N O hd ⊢;by_cases hlt:k<Z' row
 ·have A:(k:Int)<(Z' row:Nat):=Om;have X:(row.map λn=>[PV.int .i64 n])[k]?=some [.int .i64 row[k]]:=by simp[hlt]
  have hg:row.getD k 0=row[k]:=by simp[a8V,hlt]
  have ζ:row.take (k+1)=row.take k++[row[k]]:=baC hlt;have hx:=ξ row[k] (a8G hlt);have e2:=uI 2 v k (home row);have Y:=uI 4 v k (jC f p row);have hh:home row k=decide (row[k]<0):=by rw[home,hg]
  have Z:jC f p row k=(decide (0≤row[k])&&!p.a6P.contains ((mdl f (row[k]).toNat:Nat):Int)):=by rw[jC,hg]
  have l2:=kG 2 v k (home row);have l4:=kG 4 v k (jC f p row);have fin:∀B e (F:PF) (J:PH),(pA f o B e row (k+1)).le F→oH J o v p (marks f.a6P.length p.a6P) (iH f.a6O.length (row.take (k+1))) (fK f (row.take (k+1)))→bJ J 3 B (fZ (eF 2 v (k+1) (home row)))→bJ J 3 e (fZ (eF 4 v (k+1) (jC f p row)))→Dis 3 B e →
    gV (λ(t:Nat × PV × PV × PH)=>pA f o t.2.1 t.2.2.1 row t.1) (λt=>t.2.2.2)
     (λt=>t.1≤Z' row∧oH t.2.2.2 o v p (marks f.a6P.length p.a6P) (iH f.a6O.length (row.take t.1)) (fK f (row.take t.1))∧bJ t.2.2.2 3 t.2.1 (fZ (eF 2 v t.1 (home row)))∧bJ t.2.2.2 3 t.2.2.1 (fZ (eF 4 v t.1 (jC f p row)))∧Dis 3 t.2.1 t.2.2.1)
     (λt=>Z' row-t.1) (Z' row-k) K .normal F J:=
   λB e F J V M h1 h2 h3=>aJ (α:=Nat × PV × PV × PH) (k+1,B,e,J) ⟨hlt,M,h1,h2,h3⟩ (by simp only;omega) V b_
  generalize τ:row[k]=x at *
  by_cases c:x<0
  ·have o1:=nb (n:=Z' f.a6O) (row.take k) (x:=x) Om;have o2:=aDZ f (row.take k) c;rw[ζ,o1,o2]at fin;rw[aG (by rw[hh];simp[c])]at e2;rw[aD (by rw[Z];simp;omega)]at Y;rw[e2,Y]at fin;simp only[go_sem,yE,DA,pA,A,KK,X,KL,c,Nf];refine AC (vs:=[.int .i64 2,.int .i64 k]) (L.bad o.o5 v 2 k) Sq (e_ a_ M.h5) ?_;have Q:(1:Nat)*3≤16777216:=by decide
   simp only[go_sem,Q];refine qE (src:=[(⟨2,v,k⟩:nM).cells]) N O hd Sq (by unfold roomFor;rw[pH];simp only[a8J,maxLen];omega) λv' H' g1 g2 g3 g4=>?_;rw[vM]at g1;unfold pA at fin;simp only[go_sem,KM,wZz k];exact fin v' E _ H' Lq (M.keep g4) g1 g2 g3
  ·obtain⟨d,rfl⟩:∃d:Nat,x=d:=⟨x.toNat,by omega⟩;have w:d<Z' f.a6O:=Om;have ε:(d:Int)<(Z' f.a6O:Nat):=Om;obtain⟨w1,w2,w3,w4,w5⟩:=hV.drive d w;have c0:(0:Int)≤(d:Int):=Om;rw[aD (by rw[hh];simp)]at e2;rw[bN c0,a8R,baA]at Z;have ρ:(row.take k).count (d:Int)≤16777216:=a9F (List.count_le_length ..) (by rw[a8S];omega);have hw:IntKind.i64.wrap ((((row.take k).count (d:Int):Nat):Int)+1)=(((row.take k).count (d:Int):Nat):Int)+1:=wrap_i64 Om Om;have U:=HQ (l:=iH f.a6O.length (row.take k)) (i:=d) (by rw[oI];exact w);rw[alB _ w]at U;have δ:=alC (row.take k) w;have ο:(row.take k).length≤16777216:=by rw[a8S];omega
   rw[e2,ζ]at fin;have tail:∀e (F:PF) (J:PH),(pA f o y e row k).le F→F 17=some (.int .i64 d)→oH J o v p (marks f.a6P.length p.a6P) (iH f.a6O.length (row.take k)) (fK f (row.take k))→bJ J 3 y (fZ (eF 2 v k (home row)))→bJ J 3 e (fZ (eF 4 v (k+1) (jC f p row)))→Dis 3 y e →
     aC.wp C (.seq (.region dk) (.seq (.region dl) (.block 4 (.loop KJ)))) (fQ 3 (jW C (aC.wp C (.region KM)) (gV (λ(t:Nat × PV × PV × PH)=>pA f o t.2.1 t.2.2.1 row t.1) (λt=>t.2.2.2)
     (λt=>t.1≤Z' row∧oH t.2.2.2 o v p (marks f.a6P.length p.a6P) (iH f.a6O.length (row.take t.1)) (fK f (row.take t.1))∧bJ t.2.2.2 3 t.2.1 (fZ (eF 2 v t.1 (home row)))∧bJ t.2.2.2 3 t.2.2.1 (fZ (eF 4 v t.1 (jC f p row)))∧Dis 3 t.2.1 t.2.2.1)
     (λt=>Z' row-t.1) (Z' row-k) K))) F J:=by
    intro e F J V η R ι κ gd;have f3:F 3=some (.bM f.cells):=V 3 _ (by unfold pA;simp only[go_sem]);have f14:F 14=some (.osl o.oD 1 0 f.a6O.length):=V 14 _ (by unfold pA;simp only[go_sem]);simp only[go_sem,dk,f14,η,ε,a8Q,R.hD,U,hw,rQ,δ,dl,f3,qG w,hV.gx w];have up:=aXW (C:=C) f hV o hn v p (marks f.a6P.length p.a6P) (iH f.a6O.length (row.take k++[(d:Int)])) y e (fZ (eF 2 v k (home row))) (fZ (eF 4 v (k+1) (jC f p row))) row k (row.take k) ο d w;simp only[aC.wp,go_sem]at up;refine up _ _ _ ?_ (R.a4H hn _) (ι.set R.hD aV) (κ.set R.hD aV) ?_
    ·have g:=λ(q:Nat) u h=>V q u h;unfold pA at g;unfold aAW;refine c_ (c_ (c_ (c_ (c_ (c_ (c_ (c_ (c_ (c_ (c_ (c_ (c_ d_ ?_) ?_) ?_) ?_) ?_) ?_) ?_) ?_) ?_) ?_) ?_) ?_) ?_
     ·simp only[go_sem];exact g 3 _ Sq
     ·simp only[go_sem];exact g 5 _ Sq
     ·simp only[go_sem];exact g 7 _ Sq
     ·simp only[go_sem];exact g 8 _ Sq
     ·simp only[go_sem];exact g 11 _ Sq
     ·simp only[go_sem];exact g 12 _ Sq
     ·simp only[go_sem];exact g 13 _ Sq
     ·simp only[go_sem];exact g 14 _ Sq
     ·simp only[go_sem];exact g 15 _ Sq
     ·simp only[go_sem];exact g 62 _ Sq
     ·simp only[go_sem];exact g 63 _ Sq
     ·simp only[go_sem];exact g 64 _ Sq
     ·simp only[go_sem]
    ·intro F' H' μ ν β γ;have g:=λ(q:Nat) u h=>μ q u h;unfold pA at g;have θ:F' 64=some (.int .i64 k):=g 64 _ Sq;simp only[go_sem,KM,θ,wZz k];refine fin y e _ H' ?_ ν β γ gd;unfold pA;refine c_ (c_ (c_ (c_ (c_ (c_ (c_ (c_ (c_ (c_ (c_ (c_ d_ ?_) ?_) ?_) ?_) ?_) ?_) ?_) ?_) ?_) ?_) ?_) ?_
     ·simp only[go_sem];exact g 3 _ Sq
     ·simp only[go_sem];exact g 5 _ Sq
     ·simp only[go_sem];exact g 7 _ Sq
     ·simp only[go_sem];exact g 8 _ Sq
     ·simp only[go_sem];exact g 11 _ Sq
     ·simp only[go_sem];exact g 12 _ Sq
     ·simp only[go_sem];exact g 13 _ Sq
     ·simp only[go_sem];exact g 14 _ Sq
     ·simp only[go_sem];exact g 15 _ Sq
     ·simp only[go_sem];exact g 62 _ Sq
     ·simp only[go_sem];exact g 63 _ Sq
     ·simp only[go_sem]
   simp only[aC.wp,go_sem]at tail;have W:((mdl f d:Nat):Int)<(Z' f.a6P:Nat):=Om;have S:(eA (marks f.a6P.length p.a6P))[mdl f d]?=some [.bool (p.a6P.contains ((mdl f d:Nat):Int))]:=by have:=xE (n:=Z' f.a6P) (l:=p.a6P) (m:=((mdl f d:Nat):Int)) Om W;rw[baA]at this;unfold eA;rw[a8Y,this];rfl
   cases hb:p.a6P.contains ((mdl f d:Nat):Int)with
   |true =>rw[hb]at S Z;rw[aD (by rw[Z];simp)]at Y;rw[Y]at tail;simp only[go_sem,yE,DA,pA,A,KK,X,KL,c,dj,qG w,hV.ZP w,W,a8Q,M.h8,S,a8I];exact tail E _ H0 (by unfold pA;exact Lq) Sq M N O hd
   |false=>
    rw[hb]at S Z;rw[aG (by rw[Z];simp)]at Y;rw[Y]at tail;simp only[go_sem,yE,DA,pA,A,KK,X,KL,c,dj,qG w,hV.ZP w,W,a8Q,M.h8,S,a8P,Ng];refine AC (vs:=[.int .i64 4,.int .i64 k]) (L.bad o.o5 v 4 k) Sq (e_ a_ M.h5) ?_;have Q:(1:Nat)*3≤16777216:=by decide
    simp only[go_sem,Q];refine qE (src:=[(⟨4,v,k⟩:nM).cells]) O N hd.symm Sq (by unfold roomFor;rw[pH];simp only[a8J,maxLen];omega) λv' H' g1 g2 g3 g4=>?_;rw[vM]at g1;exact tail v' _ H' (by unfold pA;exact Lq) Sq (M.keep g4) g2 g1 g3.symm
 ·have A:¬(k:Int)<(Z' row:Nat):=Om;have:k=Z' row:=Om;subst this;rw[a9E]at M;simp only[go_sem,yE,DA,pA,A];exact hK y E _ _ (by unfold pA;exact Lq) M N O hd
def wV(f:aE)(row:List Int)(d:Nat):Bool:=decide ((iH f.a6O.length row).getD d 0>1)
def fD(f:aE)(p:cL)(i:Nat):Int:=p.spread (lvl f i).toNat
def DU(f:aE)(p:cL)(row:List Int)(i:Nat):Bool:=decide (fD f p i>0)&&decide ((fK f row).getD i 0>fD f p i)
def DB(f:aE)(p:cL)(v:Nat)(row:List Int):List nM:=
 eF 2 v row.length (home row)++eF 3 v f.a6O.length (wV f row)++eF 4 v row.length (jC f p row)++eF 5 v f.a6R.length (DU f p row)
def UG(f:aE)(o:Obs)(d e:PV)(k:Nat):PF:=
 ((((((((((PF.nil.set 3 (.bM f.cells)).set 5 (.ptr o.o5 1 0 0)).set 7 (.ptr o.o7 17 0 0)).set 11 (.fn 159 [.ptr o.o5 1 0 0])).set 13 (d)).set 15 (.osl o.oB 1 0 f.a6R.length)).set 19 (e)).set 121 (.osl o.oD 1 0 f.a6O.length)).set 122 (.int .i64 (Z' f.a6O:Nat))).set 123 (.int .i64 k))
def Qv(f:aE)(o:Obs)(d:PV)(k:Nat):PF:=
 ((((((((PF.nil.set 3 (.bM f.cells)).set 5 (.ptr o.o5 1 0 0)).set 7 (.ptr o.o7 17 0 0)).set 11 (.fn 159 [.ptr o.o5 1 0 0])).set 19 (d)).set 140 (.osl o.oB 1 0 f.a6R.length)).set 141 (.int .i64 (Z' f.a6R:Nat))).set 142 (.int .i64 k))
theorem aHL{C:Ctx}(L:OL C)(f:aE)(hV:VF f)(o:Obs)(v:Nat)(p:cL)(A:List Bool)(B:List Int)(row:List Int)(O:List nM)(β:Z' O≤16777216)(d x:PV)(y:List (List PV))(K:cD)(F:PF)(H:PH)
  (Y:(UG f o d x 0).le F) (Z:oH H o v p A (iH f.a6O.length row) B) (R:bJ H 3 x (fZ O)) (Q:bJ H 3 d y) (hd:Dis 3 x d)
  (hK:∀v' V H',(UG f o d v' f.a6O.length).le V→oH H' o v p A (iH f.a6O.length row) B→bJ H' 3 v' (fZ (O++eF 3 v f.a6O.length (wV f row)))→bJ H' 3 d y→Dis 3 v' d→K (.exit 6) V H') :
  aC.wp C (.loop dh) K F H:=by
 have hs:=hV.small.a6O;refine wp_loop (α:=Nat × PV × PH) (λt=>UG f o d t.2.1 t.1) (λt=>t.2.2) (λt=>t.1≤Z' f.a6O∧oH t.2.2 o v p A (iH f.a6O.length row) B∧bJ t.2.2 3 t.2.1 (fZ (O++eF 3 v t.1 (wV f row)))∧bJ t.2.2 3 d y∧Dis 3 t.2.1 d) (λt=>Z' f.a6O-t.1) (0,x,H)
  ⟨a8H _,Z,by rw[show eF 3 v 0 (wV f row)=[]from rfl,a9W];exact R,Q,hd⟩ Y b_ ?_
 rintro⟨k,v',X⟩ ⟨hk,E,e,w,N⟩;simp only at hk E e w N ⊢;simp only[go_sem,dh,Nm,UG];by_cases hlt:k<Z' f.a6O
 ·have u:(k:Int)<(Z' f.a6O:Nat):=Om;have S:=HQ (l:=iH f.a6O.length row) (i:=k) (by rw[oI];exact hlt);have U:(iH f.a6O.length row).getD k 0=(iH f.a6O.length row)[k]'(by rw[oI];exact hlt):=by rw[a8V,a8N (by rw[oI];exact hlt)];rfl
  have M:=uI 3 v k (wV f row);have W:wV f row k=decide ((iH f.a6O.length row)[k]'(by rw[oI];exact hlt)>1):=by rw[wV,U]
  have γ:=kG 3 v k (wV f row);simp only[go_sem,u,Nn,a8Q,E.hD,S,No];by_cases c:(iH f.a6O.length row)[k]'(by rw[oI];exact hlt)>1
  ·rw[aG (by rw[W];simp[c])]at M;simp only[go_sem,c,Np];refine AC (vs:=[.int .i64 3,.int .i64 k]) (L.bad o.o5 v 3 k) Sq (e_ a_ E.h5) ?_;have J:(1:Nat)*3≤16777216:=by decide
   simp only[go_sem,J];refine qE (src:=[(⟨3,v,k⟩:nM).cells]) e w N Sq (by unfold roomFor;rw[pH,a8F];simp only[a8J,maxLen];omega) λv' H' k1 k2 k3 k4=>?_;rw[vM,a9G,←M]at k1;simp only[go_sem,dp,wZz k];refine aJ (k+1,v',H') ⟨hlt,E.keep k4,k1,k2,k3⟩ (by simp only;omega) ?_ b_;exact Lq
  ·rw[aD (by rw[W];simp;omega)]at M;rw[←M]at e;simp only[go_sem,c,dp,wZz k];refine aJ (k+1,v',X) ⟨hlt,E,e,w,N⟩ (by simp only;omega) ?_ b_;exact Lq
 ·have u:¬(k:Int)<(Z' f.a6O:Nat):=Om;have:k=Z' f.a6O:=Om;subst this;simp only[go_sem,u];exact hK v' _ _ (by unfold UG;exact Lq) E e w N
theorem aAX{C:Ctx}(f:aE)(hV:VF f)(o:Obs)(v:Nat)(p:cL)(A:List Bool)(D B:List Int)(i:Nat)(hi:i<Z' f.a6R)(K:PF→PH→Prop)(F:PF)(H:PH)
  (x:oH H o v p A D B) (w:F 3=some (.bM f.cells)) (f7:F 7=some (.ptr o.o7 17 0 0)) (e:F 22=some (.int .i64 i))
  (u:∀d:PF,d 24=some (.int .i64 (fD f p i))→(∀j,j<147→j≠24→d j=F j)→K d H):wpOps C dt K F H:=by
 obtain⟨J,X,-⟩:=hV.nU hi;have h5:((lvl f i)<((5:Nat):Int)):=Om;unfold fD at u;simp only[go_sem,dt,w,f7,e,iY hi,CS hi,J,h5,Nat.mul_one];have y:lvl f i=0∨lvl f i=1∨lvl f i=2∨lvl f i=3∨lvl f i=4:=Om;have fin:∀(d:PF),d 24=some (.int .i64 (p.spread (lvl f i).toNat))→(∀j,j<147→j≠24→d j=F j)→K d H:=u;have low:∀(j:Nat),j<147→j≠147∧j≠148∧j≠149∧j≠150∧j≠151∧j≠152∧j≠153∧j≠154∧j≠155:=Om;rcases y with h|h|h|h|h
 all_goals
  rw[h]at fin ⊢;simp only[go_sem,x.h7];refine fin _ (by simp only[go_sem];rfl) λj E l=>?_;obtain⟨M,N,O,Q,R,S,U,V,W⟩:=low j E;simp only[go_sem,l,M,N,O,Q,R,S,U,V,W]
theorem aHK{C:Ctx}(L:OL C)(f:aE)(hV:VF f)(o:Obs)(v:Nat)(p:cL)(A:List Bool)(D:List Int)(row:List Int)(W:List nM)(ζ:Z' W≤100000000)(O:PV)(K:cD)(F:PF)(H:PH)
  (hF:(Qv f o O 0).le F) (hH:oH H o v p A D (fK f row)) (γ:bJ H 3 O (fZ W))
  (hK:∀v' F' H',F' 19=some v'→bJ H' 3 v' (fZ (W++eF 5 v f.a6R.length (DU f p row)))→K (.exit 8) F' H') :
  aC.wp C (.loop di) K F H:=by
 have hs:=hV.small.a6R;refine wp_loop (α:=Nat × PV × PH) (λt=>Qv f o t.2.1 t.1) (λt=>t.2.2) (λt=>t.1≤Z' f.a6R∧oH t.2.2 o v p A D (fK f row)∧bJ t.2.2 3 t.2.1 (fZ (W++eF 5 v t.1 (DU f p row)))) (λt=>Z' f.a6R-t.1) (0,O,H)
  ⟨a8H _,hH,by rw[show eF 5 v 0 (DU f p row)=[]from rfl,a9W];exact γ⟩ hF b_ ?_
 rintro⟨k,v',H0⟩ ⟨hk,N,d⟩;simp only at hk N d ⊢;simp only[go_sem,di,Ns,Qv];by_cases hlt:k<Z' f.a6R
 ·have y:(k:Int)<(Z' f.a6R:Nat):=Om;have δ:=HQ (l:=fK f row) (i:=k) (by rw[CK];exact hlt);have ε:(fK f row).getD k 0=(fK f row)[k]'(by rw[CK];exact hlt):=by rw[a8V,a8N (by rw[CK];exact hlt)];rfl
  have Q:=uI 5 v k (DU f p row);have η:=kG 5 v k (DU f p row);have ht:DU f p row k=(decide (fD f p k>0)&&decide ((fK f row)[k]'(by rw[CK];exact hlt)>fD f p k)):=by rw[DU,ε]
  generalize(fK f row)[k]'(by rw[CK];exact hlt)=β at *
  simp only[go_sem,y,Nt,a8Q,N.hB,δ];refine aAX f hV o v p A D (fK f row) k hlt _ _ _ N Sq Sq Sq λF' M R=>?_;have g:=λ(q:Nat)(h1:q<147)(h2:q≠24)=>R q h1 h2;have X:=g 3 aV aV;have Y:=g 5 aV aV;have Z:=g 7 aV aV;have B:=g 11 aV aV;have E:=g 19 aV aV;have e:=g 140 aV aV;have w:=g 141 aV aV;have x:=g 142 aV aV;have U:=g 22 aV aV;have J:=g 23 aV aV;simp only[go_sem,Nat.reduceEqDiff,reduceIte]at X Y Z B E e w x U J;by_cases V:fD f p k>0
  ·by_cases c2:β>fD f p k
   ·rw[aG (by rw[ht];simp[V,c2])]at Q;simp only[go_sem,KN,M,J,V,c2,Nu,E,B,U];refine AC (vs:=[.int .i64 5,.int .i64 k]) (L.bad o.o5 v 5 k) Sq (e_ a_ N.h5) ?_;have S:(1:Nat)*3≤16777216:=by decide
    simp only[go_sem,S];refine qE (rows':=[]) (u:=.aF) (src:=[(⟨5,v,k⟩:nM).cells]) d .nil (λ_ _ _ _ _ h=>by cases h) Sq (by unfold roomFor;rw[pH,a8F];simp only[a8J,maxLen];omega) λv' H' k1 k2 k3 k4=>?_;rw[vM,a9G,←Q]at k1;simp only[go_sem,KO,x,wZz k];refine aJ (k+1,v',H') ⟨hlt,N.keep k4,k1⟩ (by simp only;omega) ?_ b_
    (repeat' (first|exact d_|refine c_ ?_ ?_))<;>first|(simp only[go_sem,X,Y,Z,B,e,w]<;>rfl)|rfl
   ·rw[aD (by rw[ht];simp;omega)]at Q;rw[←Q]at d;simp only[go_sem,KN,M,J,V,c2,KO,x,wZz k];refine aJ (k+1,v',H0) ⟨hlt,N,d⟩ (by simp only;omega) ?_ b_
    (repeat' (first|exact d_|refine c_ ?_ ?_))<;>first|(simp only[go_sem,X,Y,Z,B,E,e,w]<;>rfl)|rfl
  ·rw[aD (by rw[ht];simp;omega)]at Q;rw[←Q]at d;simp only[go_sem,KN,M,J,V,KO,x,wZz k];refine aJ (k+1,v',H0) ⟨hlt,N,d⟩ (by simp only;omega) ?_ b_
   (repeat' (first|exact d_|refine c_ ?_ ?_))<;>first|(simp only[go_sem,X,Y,Z,B,E,e,w]<;>rfl)|rfl
 ·have y:¬(k:Int)<(Z' f.a6R:Nat):=Om;have:k=Z' f.a6R:=Om;subst this;simp only[go_sem,y];exact hK v' _ _ Sq d
theorem GZ(n:Nat):a8D n [PV.bool false]=eA (marks n []):=by rw[Jh];simp[eA]
theorem aCV(n:Nat):a8D n [PV.int .i64 0]=bA (iH n []):=by rw[Sg,wF]
theorem Pg(f:aE):a8D f.a6R.length [PV.int .i64 0]=bA (fK f []):=by
 have:fK f []=a8D f.a6R.length 0:=by refine baX (by simp[fK]) λi d e=>?_;simp[fK,iJ]
 rw[this,wF]
def aAV(f:aE)(l:List (List Int))(o5 o7 o8:Nat)(ms:List Int)(k:Nat):PF:=
 ((((((((PF.nil.set 1 (lay l)).set 3 (.bM f.cells)).set 5 (.ptr o5 1 0 0)).set 7 (.ptr o7 17 0 0)).set 8 (.osl o8 1 0 f.a6P.length)).set 40 (ints ms)).set 41 (.int .i64 (Z' ms:Nat))).set 42 (.int .i64 k))
theorem aPR{C:Ctx}(L:OL C)(f:aE)(hV:VF f)(Q:∀p∈f.a6S,Fits p.a6P)(l:List (List Int))(v:Nat)(hv:v<Z' l)(E:v<Z' f.a6Q)(hr:Qk f l[v]) :
  UZ.wp C (aY aRT.res (cN (aCJ (DB f (nE f v) v l[v])))) (PF.args [.agg f.cells,lay l,.int .i64 v]) .nil:=by
 obtain⟨hp,he⟩:=rk hV E;have A:=hV.a7A _ (a8G hp);have σ:=Q _ (a8G hp);rw[he]at A σ;generalize Ξ:nE f v=p at *
 have R:=A.2.2.2.2.2.2.2;have S:(l.map λr=>[ints r])[v]?=some [ints l[v]]:=by simp[hv]
 generalize l[v]=row at *
 have B:=hV.small;have ν:(Z' f.a6P:Int)*((1:Nat):Int)≤140737488355328:=by have:=B.a6P;omega
 have ξ:(Z' f.a6P:Int)≤9223372036854775807:=by have:=B.a6P;omega
 have K:(Z' f.a6O:Int)*((8:Nat):Int)≤140737488355328:=by have:=B.a6O;omega
 have M:(Z' f.a6O:Int)≤9223372036854775807:=by have:=B.a6O;omega
 have N:(Z' f.a6R:Int)*((8:Nat):Int)≤140737488355328:=by have:=B.a6R;omega
 have O:(Z' f.a6R:Int)≤9223372036854775807:=by have:=B.a6R;omega
 simp only[go_sem,UZ,adX];refine aR λo5 h5=>?_;simp only[go_sem];refine cP (PH.nil.set o5 (.rows 1 [[.int .i64 v]])) fT (e_ a_ Sq) ?_;simp only[go_sem,adY,Br E,hV.aHA E,MU hp,he];refine aR λo7 h7=>?_;have d:o5≠o7:=by rintro rfl;simp only[aS,if_true]at h7;cases h7
 simp only[go_sem,d];refine⟨e_ a_ (by simp only[go_sem,d]),?_⟩;simp only[go_sem,adZ,a7Z,ν,ξ];refine aR λo8 h8=>?_;have e:o5≠o8:=by rintro rfl;simp only[aS,d,if_true,if_false]at h8;cases h8
 have i:o7≠o8:=by rintro rfl;simp only[aS,if_true]at h8;cases h8
 simp only[go_sem,aeA,i,a7Z];rw[GZ];refine wp_loop (α:=Nat) (λk=>aAV f l o5 o7 o8 p.a6P k) (λk=>((PH.nil.set o5 (.rows 1 [[.int .i64 v]])).set o7 (.rows 17 [p.cells])).set o8 (.rows 1 (eA (marks f.a6P.length (p.a6P.take k))))) (λk=>k≤Z' p.a6P) (λk=>Z' p.a6P-k) 0 (a8H _) ?_ ?_ ?_
 ·unfold aAV
  (repeat' (first|exact d_|refine c_ ?_ ?_))<;>first|(simp only[go_sem,a7Z]<;>rfl)|rfl
 ·refine e_ (e_ (e_ a_ ?_) ?_) ?_
  ·simp only[go_sem,d,e]
  ·simp only[go_sem,i]
  ·simp only[go_sem,List.take_zero]
 intro k hk;simp only[go_sem,adW,aeB,aAV];by_cases hlt:k<Z' p.a6P
 ·have w:(k:Int)<(Z' p.a6P:Nat):=Om;have ρ:(p.a6P.map λn=>[PV.int .i64 n])[k]?=some [.int .i64 p.a6P[k]]:=by simp[hlt]
  obtain⟨m1,m2⟩:=R _ (a8G hlt);have Λ:(p.a6P[k]).toNat<(eA (marks f.a6P.length (p.a6P.take k))).length:=by rw[CG,JQ];omega
  have ο:(eA (marks f.a6P.length (p.a6P.take k)))[(p.a6P[k]).toNat]?=some [.bool ((p.a6P.take k).contains p.a6P[k])]:=by unfold eA;rw[a8Y,xE m1 m2];rfl
  simp only[go_sem,w,aeC,ρ,aeD,m1,m2,a8Q,ο,mO,JR m1 m2,aeE,wZz k];refine aJ (k+1) hlt Om ?_ ?_
  ·exact Lq
  ·rw[baC hlt];refine e_ (e_ (e_ a_ ?_) ?_) ?_
   ·simp only[go_sem,d,e]
   ·simp only[go_sem,i]
   ·simp only[go_sem]
 ·have w:¬(k:Int)<(Z' p.a6P:Nat):=Om;have:k=Z' p.a6P:=Om;subst this;simp only[go_sem,w,aeF,Nb,a9E];refine cP .nil fT a_ ?_;simp only[go_sem,Nc,a7Z,K,M,N,O];refine aR λoD hD=>?_;have x:o5≠oD:=by rintro rfl;simp only[aS,d,e,if_true,if_false]at hD;cases hD
  have H:o7≠oD:=by rintro rfl;simp only[aS,i,if_true,if_false]at hD;cases hD
  have J:o8≠oD:=by rintro rfl;simp only[aS,if_true]at hD;cases hD
  simp only[go_sem,a7Z,K,M,N,O];refine aR λoB hB=>?_;have F:o5≠oB:=by rintro rfl;simp only[aS,d,e,x,if_true,if_false]at hB;cases hB
  have U:o7≠oB:=by rintro rfl;simp only[aS,i,H,if_true,if_false]at hB;cases hB
  have V:o8≠oB:=by rintro rfl;simp only[aS,J,if_true,if_false]at hB;cases hB
  have W:oD≠oB:=by rintro rfl;simp only[aS,if_true]at hB;cases hB
  rw[aCV,Pg];simp only[go_sem,Nd,d,e,x,F,S,a7Z];have τ:(⟨o5,o7,o8,oD,oB⟩:Obs).Ne:=⟨x,F,H,U,J,V,W⟩;refine aOY L f hV ⟨o5,o7,o8,oD,oB⟩ τ v p R row hr _ _ _ ?_ ⟨?_,?_,?_,?_,?_⟩ ?_
  ·unfold pA;exact Lq
  ·simp only[go_sem,d,e,x,F]
  ·simp only[go_sem,i,H,U]
  ·simp only[go_sem,J,V]
  ·simp only[go_sem,W]
  ·simp only[go_sem]
  intro Γ Δ F1 H1 ζ κ β γ gd;have g:=λ(q:Nat) u h=>ζ q u h;unfold pA at g;have q3:=g 3 _ rfl;have q5:=g 5 _ rfl;have q7:=g 7 _ rfl;have φ:=g 11 _ rfl;have χ:=g 12 _ rfl;have X:=g 13 _ rfl;have ψ:=g 14 _ rfl;have Y:=g 15 _ rfl;simp only[go_sem,Nk,χ,Nl,ψ];have l2:=kG 2 v row.length (home row);have l3:=kG 3 v f.a6O.length (wV f row);have l4:=kG 4 v row.length (jC f p row);have Φ:=hr.len;have Θ:=B.a6O;refine aHL L f hV ⟨o5,o7,o8,oD,oB⟩ v p _ _ row (eF 2 v row.length (home row)) Om Δ Γ _ _ _ H1 ?_ κ β γ gd ?_
  ·unfold UG;exact Lq
  intro Ψ F2 H2 η μ δ y ε;have g:=λ(q:Nat) u h=>η q u h;unfold UG at g;have q3:=g 3 _ rfl;have q5:=g 5 _ rfl;have q7:=g 7 _ rfl;have φ:=g 11 _ rfl;have X:=g 13 _ rfl;have Y:=g 15 _ rfl;have ω:=g 19 _ rfl;simp only[go_sem,Nq,ω,X];refine qE δ y ε y.view (by unfold roomFor;rw[pH,pH,a8F];simp only[maxLen];omega) λZ H3 k1 k2 k3 k4=>?_;simp only[go_sem,Nr,Y];have υ:fZ (eF 2 v row.length (home row)++eF 3 v f.a6O.length (wV f row))++fZ (eF 4 v row.length (jC f p row))=fZ (eF 2 v row.length (home row)++eF 3 v f.a6O.length (wV f row)++eF 4 v row.length (jC f p row)):=by simp only[fZ,a8Z]
  rw[υ]at k1;refine aHK L f hV ⟨o5,o7,o8,oD,oB⟩ v p _ _ row _ (by simp only[a8F];omega) Z _ _ H3 ?_ (μ.keep k4) k1 ?_
  ·unfold Qv;exact Lq
  intro Ω F4 H4 θ ι;simp only[go_sem,Nv,θ];exact oZ (.inr rfl) ι rfl
structure Rq(C:Ctx):Prop extends OL C where
 row:∀(f:aE)(l:List (List Int)) (v:Nat),VF f→(∀p∈f.a6S,Fits p.a6P)→(h:v<Z' l)→v<Z' f.a6Q→Qk f l[v]→aH C 158 [.agg f.cells,lay l,.int .i64 v] .nil (aK (aCJ (DB f (nE f v) v l[v])))
def br(f:aE)(l:List (List Int))(v:Nat):List nM:=match zS f l v with
 |some x=>[x]
 |none=>DB f (nE f v) v (l.getD v [])
def BM(f:aE)(l:List (List Int))(n:Nat):List nM:=(a8A n).flatMap (br f l)
def over(f:aE)(l:List (List Int))(room:List Int)(d:Nat):Bool:=decide ((qN f l).getD d 0>(tG f room).getD d 0)
def a0X(f:aE)(l:List (List Int))(room:List Int):List nM:=BM f l l.length++eF 6 (-1) f.a6O.length (over f l room)
def VR(f:aE)(l:List (List Int))(room:List Int):List nM:=
 if eP f then(if l.length=f.a6Q.length then a0X f l room else[⟨1,-1,(Z' l:Nat)⟩])else[]
theorem XB{p:Int→Bool}:∀{l:List Int}{i:Nat},oJ p l i=none→∀x∈l,p x=false
 |[],_,_,x,hx=>absurd hx (a8W)
 |y::t,i,h,x,hx=>by
  rw[oJ]at h;split at h
  ·cases h
  ·rename_i d;rcases a8M.1 hx with rfl|hx
   ·simpa using d
   ·exact XB h x hx
theorem L9{f:aE}{l:List (List Int)}(p:yJ l){v:Nat}(d:v<Z' l)(h:zS f l v=none):Qk f l[v]:=by
 have i:l.getD v []=l[v]:=by simp[a8V,d]
 unfold zS at h;rw[i]at h;split at h
 ·rw[Option.map_eq_none_iff]at h;refine⟨?_,λx u=>?_⟩
  ·have e:=nr l (v+1);have:=p.all;rw[JD l d,a8F]at e;omega
  ·have:=XB h x u;simp[yP]at this;omega
 ·cases h
theorem aCI(f:aE)(p:cL)(v:Nat)(row:List Int):(DB f p v row).length≤2*Z' row+Z' f.a6O+Z' f.a6R:=by
 unfold DB;have d:=kG 2 v row.length (home row);have e:=kG 3 v f.a6O.length (wV f row);have i:=kG 4 v row.length (jC f p row);have l:=kG 5 v f.a6R.length (DU f p row);simp only[a8F];omega
theorem aaR{f:aE}(d:Small f){l:List (List Int)}(p:yJ l){v:Nat}(e:v<Z' l):(br f l v).length≤100000000:=by
 unfold br;split
 ·simp
 ·rename_i h;have i:l.getD v []=l[v]:=by simp[a8V,e]
  have:=aCI f (nE f v) v (l.getD v []);have u:=(L9 p e h).len;have:=d.a6O;have:=d.a6R;rw[i]at *
  omega
theorem wg(f:aE)(l:List (List Int))(n:Nat):BM f l (n+1)=BM f l n++br f l n:=by
 unfold BM;rw[bbT,List.flatMap_append];simp
theorem YW{f:aE}(e:Small f){l:List (List Int)}(d:yJ l):∀{n:Nat},n≤Z' l→(BM f l n).length≤n*100000000
 |0,_=>by simp[BM]
 |n+1,h=>by rw[wg,a8F];have:=YW e d (n:=n) Om;have:=aaR e d (v:=n) Om;omega
def viF(f:aE)(l:List (List Int))(room:List Int)(d:PV)(k:Nat):PF:=((((((PF.nil.set 1 (lay l)).set 2 (ints room)).set 3 (.bM f.cells)).set 7 (d)).set 30 (.int .i64 (Z' l:Nat))).set 31 (.int .i64 k))
def viG(f:aE)(l:List (List Int))(room:List Int)(d:PV)(k:Nat):PF:=(((((PF.nil.set 7 (d)).set 11 (ints (tG f room))).set 58 (ints (qN f l))).set 59 (.int .i64 (Z' f.a6O:Nat))).set 60 (.int .i64 k))
theorem aJE{C:Ctx}(f:aE)(hV:VF f)(l:List (List Int))(room:List Int)(y:List nM)(R:Z' y≤2000000000)(A:PV)(K:cD)(F:PF)(H:PH)
  (M:(viG f l room A 0).le F) (O:bJ H 3 A (fZ y))
  (N:∀v' B H',B 7=some v'→bJ H' 3 v' (fZ (y++eF 6 (-1) f.a6O.length (over f l room)))→K (.exit 3) B H'):aC.wp C (.loop dd) K F H:=by
 have S:=hV.small.a6O;refine wp_loop (α:=Nat × PV × PH) (λt=>viG f l room t.2.1 t.1) (λt=>t.2.2) (λt=>t.1≤Z' f.a6O∧bJ t.2.2 3 t.2.1 (fZ (y++eF 6 (-1) t.1 (over f l room)))) (λt=>Z' f.a6O-t.1) (0,A,H)
  ⟨a8H _,by rw[show eF 6 (-1) 0 (over f l room)=[]from rfl,a9W];exact O⟩ M b_ ?_
 rintro⟨k,v',J⟩ ⟨Q,e⟩;simp only at Q e ⊢;simp only[go_sem,dd,M3,viG];by_cases hlt:k<Z' f.a6O
 ·have d:(k:Int)<(Z' f.a6O:Nat):=Om;have i:k<(qN f l).length:=by rw[qN,oI];exact hlt
  have p:k<(tG f room).length:=by rw[Kx];exact hlt
  have a1:((qN f l).map λn=>[PV.int .i64 n])[k]?=some [.int .i64 (qN f l)[k]]:=by simp[i]
  have a2:((tG f room).map λn=>[PV.int .i64 n])[k]?=some [.int .i64 (tG f room)[k]]:=by simp[p]
  have E:over f l room k=decide ((qN f l)[k]>(tG f room)[k]):=by simp only[over,a8V,a8N i,a8N p,bbE]
  have x:=uI 6 (-1) k (over f l room);have W:=kG 6 (-1) k (over f l room);simp only[go_sem,d,M4,a1,M5,a2];by_cases c:(qN f l)[k]>(tG f room)[k]
  ·rw[aG (by rw[E];simp[c])]at x;have w:(1:Nat)*3≤16777216:=by decide
   simp only[go_sem,c,M6,w];refine qE (rows':=[]) (u:=.aF) (src:=[(⟨6,-1,k⟩:nM).cells]) e .nil (λ_ _ _ _ _ h=>by cases h) rfl (by unfold roomFor;rw[pH,a8F];simp only[a8J,maxLen];omega) λv' H' k1 k2 U V=>?_;rw[vM,a9G,←x]at k1;simp only[go_sem,dg,wZz k];refine aJ (k+1,v',H') ⟨hlt,k1⟩ (by simp only;omega) ?_ b_;exact Lq
  ·rw[aD (by rw[E];simp;omega)]at x;rw[←x]at e;simp only[go_sem,c,dg,wZz k];refine aJ (k+1,v',J) ⟨hlt,e⟩ (by simp only;omega) ?_ b_;exact Lq
 ·have d:¬(k:Int)<(Z' f.a6O:Nat):=Om;have:k=Z' f.a6O:=Om;subst this;simp only[go_sem,d];exact N v' _ _ rfl e
theorem aPQ{C:Ctx}(L:Rq C)(f:aE)(O:f.Ok)(l:List (List Int))(B:yJ l)(room:List Int) :
  UY.wp C (aY aBQ.res (cN (aCJ (VR f l room)))) (PF.args [.agg f.cells,lay l,ints room]) .nil:=by
 simp only[go_sem,UY,adM,adN,aBQ];refine aB (L.valid f O) rfl ?_;unfold VR;have β:=B.rows;have F:∀p∈f.a6S,Fits p.a6P:=λp hp=>(O.a7A p hp).a6P;cases V:eP f with
 |false =>simp only[go_sem,a8P,adO];exact oZ (rows:=[]) (.inr rfl) .nil rfl
 |true=>
  have hV:=VF.of V;by_cases c:Z' l=Z' f.a6Q
  ·have M:((Z' l:Int) != (Z' f.a6Q:Int))=false:=dL Om;rw[aG c];have W:=hV.small.a6Q;simp only[go_sem,a8I,sg,a7Z,M,adQ,adR];refine wp_loop (α:=Nat × PV × PH) (λt=>viF f l room t.2.1 t.1) (λt=>t.2.2) (λt=>t.1≤Z' l∧bJ t.2.2 3 t.2.1 (fZ (BM f l t.1))) (λt=>Z' l-t.1) (0,.aF,.nil) ⟨a8H _,.nil⟩ ?_ a_ ?_
   ·unfold viF
    (repeat' (first|exact d_|refine c_ ?_ ?_))<;>first|(simp only[go_sem,a7Z]<;>rfl)|rfl
   rintro⟨k,v7,X⟩ ⟨Z,K⟩;simp only at Z K ⊢;simp only[go_sem,My,adS,viF];by_cases hlt:k<Z' l
   ·have e:(k:Int)<(Z' l:Nat):=Om;have Q:=YW hV.small B (n:=k) Om;have d:=wg f l k;simp only[go_sem,e,adT,adU];refine aB (L.shape f l k hV B hlt Om) rfl ?_;cases E:zS f l k with
    |some x=>
     have i:br f l k=[x]:=by rw[br,E]
     rw[i]at d;simp only[go_sem,shV];refine aR λo S=>?_;have A:(1:Nat)*3≤16777216:=by decide
     simp only[go_sem,de,Mz,A];refine qE (rows':=[]) (u:=.aF) (src:=[x.cells]) (K.fresh S _).1 .nil (λ_ _ _ _ _ h=>by cases h) rfl (by unfold roomFor;rw[pH];simp only[a8J,maxLen];omega) λv' H' k1 k2 k3 k4=>?_;rw[vM,←d]at k1;simp only[go_sem,df,wZz k];refine aJ (k+1,v',H') ⟨hlt,k1⟩ (by simp only;omega) ?_ b_;exact Lq
    |none=>
     have Y:l.getD k []=l[k]:=by simp[a8V,hlt]
     have i:br f l k=DB f (nE f k) k l[k]:=by rw[br,E,Y]
     have J:=L9 B hlt E;have H:=aaR hV.small B hlt;rw[i]at d H;simp only[go_sem,shV];refine aR λo S=>?_;simp only[go_sem,de,M0];refine aB (L.row f l k hV F hlt Om J) rfl ?_;simp only[go_sem];refine qE (rows':=[]) (u:=.aF) (src:=fZ (DB f (nE f k) k l[k])) (K.fresh S _).1 .nil (λ_ _ _ _ _ h=>by cases h) rfl (by unfold roomFor;rw[pH,pH];simp only[maxLen];omega) λv' H' k1 k2 k3 k4=>?_;have U:fZ (BM f l k)++fZ (DB f (nE f k) k l[k])=fZ (BM f l (k+1)):=by rw[d];simp only[fZ,a8Z]
     rw[U]at k1;simp only[go_sem,df,wZz k];refine aJ (k+1,v',H') ⟨hlt,k1⟩ (by simp only;omega) ?_ b_;exact Lq
   ·have e:¬(k:Int)<(Z' l:Nat):=Om;have:k=Z' l:=Om;subst this;have Q:=YW hV.small B (n:=Z' l) (a8E _);have w:=L.room f room O;rw[Qu,V]at w;have y:=L.loads f l hV.small.a6O B;simp only[go_sem,e,M1];refine aB w rfl ?_;simp only[go_sem,M2];refine aB y rfl ?_;have R:(qN f l).length=Z' f.a6O:=by rw[qN,oI]
    simp only[go_sem,a7Z,R];refine aJE f hV l room (BM f l l.length) Om v7 _ _ X ?_ K ?_
    ·unfold viG;exact Lq
    intro v' F' H' h7 N;simp only[go_sem,M7,h7];exact oZ (.inr rfl) N rfl
  ·have M:((Z' l:Int) != (Z' f.a6Q:Int))=true:=eC Om;have A:(1:Nat)*3≤16777216:=by decide
   rw[aD c];simp only[go_sem,a8I,sg,a7Z,M,adP,A];exact bE (.inr rfl) .nil rfl a_ ⟨.refl _,rfl⟩
structure aRE(C:Ctx):Prop extends Rq C where
 viol:∀(f:aE)(l:List (List Int)) (room:List Int),f.Ok→yJ l→aH C 154 [.agg f.cells,lay l,ints room] .nil (aK (aCJ (VR f l room)))
def xk(f:aE)(l:List (List Int))(room:List Int):Bool:=eP f&&decide ((VR f l room).length=0)
theorem aIE{C:Ctx}(L:aRE C)(f:aE)(d:f.Ok)(l:List (List Int))(e:yJ l)(room:List Int) :
  NA.wp C (aY acV.res (cN (.bool (xk f l room)))) (PF.args [.agg f.cells,lay l,ints room]) .nil:=by
 simp only[go_sem,NA,Md,Me,acV];refine aB (L.valid f d) rfl ?_;unfold xk;cases i:eP f with
 |false =>simp only[go_sem];exact bK rfl rfl
 |true=>
  simp only[go_sem];refine aB (L.viol f l room d e) rfl ?_;by_cases c:(VR f l room).length=0
  ·simp only[go_sem,a7Z,cC (show(((VR f l room).length:Nat):Int)=0 by omega)];exact bK rfl (by simp[c])
  ·simp only[go_sem,a7Z,bO (show(((VR f l room).length:Nat):Int)≠0 by omega)];exact bK rfl (by rw[cB c])
def JT:=bU [] Proofs.Tryz.f11
def aoO:=aA JT 0
def aoP:=aA JT 1
def aoQ:=aA JT 2
def Eg:=aA JT 3
def ZU:aC:=(sq aoO (gE aoP 5 (.region aoQ) (sq Eg .ret)))
def aNS:bC:=⟨1,12,ZU,[.tmp 2]⟩
def zE:=bU [] Proofs.Tryz.f31
def qf:=aA zE 0
def TA:=dB zE 0
def qg:=aA zE 1
def Y7:=aA zE 2
def Y8:=dB zE 1
def ER:aC:=(sq qf (.seq (dq TA (.cond (Tm 18) (sq qg .ret) .skip)) (sq Y7 (dq Y8 .ret))))
def Qr:bC:=⟨2,40,ER,[.tmp 4]⟩
def SV:=bU [] Proofs.Tryz.f73
def Yj:=aA SV 0
def Yk:=aA SV 1
def Yl:=aA SV 2
def SU:aC:=(sq Yj (sq Yk (sq Yl .ret)))
def azP:bC:=⟨1,16,SU,[.cell 2 (some 3)]⟩
def eY:=bU [45,63,90,95] Proofs.Tryz.f32
def aoI:=aA eY 0
def aoJ:=aA eY 1
def aoK:=aA eY 2
def aoL:=aA eY 3
def aoM:=aA eY 4
def aoN:=aA eY 5
def Ed:=aA eY 6
def Ee:=aA eY 7
def Ef:=aA eY 8
def ia:=aA eY 9
def p4:=aA eY 10
def p5:=aA eY 11
def p6:=aA eY 12
def p7:=aA eY 13
def p8:=aA eY 14
def SY:=aA eY 15
def p9:=aA eY 16
def qa:=aA eY 17
def Y0:=aA eY 18
def Y1:=aA eY 19
def Y2:=aA eY 20
def qb:=aA eY 21
def qc:=aA eY 22
def qd:=aA eY 23
def SX:aC:=(dY Y0 68 2 qd (sq Y1 (gE Y2 85 (.region qb) (.region qc))))
def qe:=aA eY 24
def Y3:=aA eY 25
def Yz:aC:=(dY aoN 22 0 Y3 (sq Ed (gE Ee 29 (.region Ef) (sq ia (sq p4 (sq p5 (sq p6 (gE p7 58 (.region p8) (sq SY (sq p9 (.seq (cJ qa 2 SX) (.region qe))))))))))))
def Y4:=aA eY 26
def ZT:aC:=(sq aoI (sq aoJ (sq aoK (sq aoL (.seq (cJ aoM 0 Yz) (sq Y4 .ret))))))
def aNP:bC:=⟨2,99,ZT,[.cell 4 (some 4)]⟩
def tT:=bU [16] Proofs.Tryz.f36
def aoS:=aA tT 0
def aoT:=aA tT 1
def aoU:=aA tT 2
def aoV:=aA tT 3
def aoW:=aA tT 4
def aoX:=aA tT 5
def aoR:aC:=(dY aoV 10 0 aoX (.region aoW))
def aoY:=aA tT 6
def ZV:aC:=(sq aoS (sq aoT (.seq (cJ aoU 0 aoR) (sq aoY .ret))))
def aNU:bC:=⟨2,19,ZV,[.tmp 4]⟩
def yl:=bU [] Proofs.Tryz.f33
def Y5:=aA yl 0
def Y6:=aA yl 1
def SZ:aC:=(sq Y5 (sq Y6 .ret))
def azS:bC:=⟨2,9,SZ,[.tmp 4]⟩
def gW:=bU [60,81,113] Proofs.Tryz.f35
def Yo:=aA gW 0
def Yp:=aA gW 1
def Yq:=aA gW 2
def Yr:=aA gW 3
def SW:=aA gW 4
def pt:=aA gW 5
def pu:=aA gW 6
def Ys:=aA gW 7
def Yt:=dB gW 0
def Yu:=dB gW 1
def Js:=aA gW 8
def Jt:=dB gW 2
def Ju:=aA gW 9
def Jv:=aA gW 10
def ZR:=dB gW 3
def ZS:=aA gW 11
def CV:=aA gW 12
def CU:aC:=(dY pt 28 0 CV (gE pu 32 (gE Ys 39 (dq Yt (.draw Yu)) (.exit 1)) (gE Js 78 .ret (dq Jt (gE Ju 98 (.region Jv) (dq ZR (.region ZS)))))))
def EQ:aC:=(sq Yo (sq Yp (gE Yq 25 (.region Yr) (cJ SW 0 CU))))
def Qq:bC:=⟨4,127,EQ,[]⟩
def bY:=bU [40,67,148,154,176] Proofs.Tryz.f12
def Jj:=aA bY 0
def Jk:=aA bY 1
def Jl:=aA bY 2
def Jm:=aA bY 3
def Jn:=aA bY 4
def Jo:=aA bY 5
def Jp:=aA bY 6
def Jq:=aA bY 7
def Jr:=aA bY 8
def ZQ:aC:=(dY Jn 29 0 Jr (sq Jo (sq Jp (.region Jq))))
def xx:=aA bY 9
def xy:=aA bY 10
def xz:=aA bY 11
def x2:=dB bY 0
def x3:=dB bY 1
def x4:=aA bY 12
def SJ:aC:=(dY xz 48 2 x4 (dq x2 (.draw x3)))
def x5:=aA bY 13
def x6:=aA bY 14
def x7:=aA bY 15
def x8:=aA bY 16
def x9:=aA bY 17
def SM:=aA bY 18
def EL:=dB bY 2
def EM:=dB bY 3
def EN:=aA bY 19
def EO:=aA bY 20
def SN:=aA bY 21
def ya:=aA bY 22
def yb:=aA bY 23
def yc:=aA bY 24
def SO:=aA bY 25
def EK:aC:=(dY ya 119 6 SO (sq yb (.cond (Tm 124) (.region yc) .skip)))
def SP:=aA bY 26
def SQ:=aA bY 27
def SR:=aA bY 28
def SS:=aA bY 29
def EP:=aA bY 30
def yd:=aA bY 31
def SK:aC:=(dY x9 82 4 yd (sq SM (.seq (dq EL (.draw EM)) (sq EN (sq EO (.seq (cJ SN 6 EK) (sq SP (sq SQ (gE SR 143 (.region SS) (.region EP))))))))))
def ye:=aA bY 32
def yf:=aA bY 33
def yg:=aA bY 34
def yh:=dB bY 4
def yi:=dB bY 5
def yj:=aA bY 35
def SL:aC:=(dY yg 163 8 yj (dq yh (.draw yi)))
def yk:=aA bY 36
def MD:aC:=(sq Jj (sq Jk (sq Jl (.seq (cJ Jm 0 ZQ) (sq xx (.seq (cJ xy 2 SJ) (sq x5 (sq x6 (sq x7 (.seq (cJ x8 4 SK) (sq ye (.seq (cJ yf 8 SL) (sq yk .ret)))))))))))))
def Yi:bC:=⟨3,180,MD,[.cell 6 (some 7)]⟩
def jp:=bU [] Proofs.Tryz.f4
def Je:=aA jp 0
def Jf:=aA jp 1
def MB:aC:=(sq Je (sq Jf .ret))
def X7:bC:=⟨3,12,MB,[.cell 6 (some 7)]⟩
def zX:=bU [] Proofs.Tryz.f83
def afV:=aA zX 0
def afW:=aA zX 1
def afX:=aA zX 2
def afY:=aA zX 3
def afU:aC:=(.seq (sq afX (.cond (Tm 15) .skip (.exit 0))) (.block 1 (.region afY)))
def sr:=aA zX 4
def VP:aC:=(sq afV (sq afW (.seq (.block 0 (.loop afU)) (sq sr .ret))))
def aCC:bC:=⟨1,22,VP,[.tmp 2]⟩
def A9:=bU [8] Proofs.Tryz.f76
def afG:=aA A9 0
def afH:=aA A9 1
def VG:aC:=(sq afG (sq afH .ret))
def aBX:bC:=⟨1,10,VG,[.tmp 2]⟩
def me:=bU [] Proofs.Tryz.f164
def Nz:=aA me 0
def N0:=aA me 1
def NR:aC:=(sq Nz (sq N0 .ret))
def afF:bC:=⟨1,7,NR,[.tmp 2]⟩
def kS:=bU [] Proofs.Tryz.f132
def arS:=aA kS 0
def arT:=aA kS 1
def arU:=aA kS 2
def arV:=aA kS 3
def arW:=aA kS 4
def arX:=aA kS 5
def arY:=aA kS 6
def arZ:=aA kS 7
def asA:=dB kS 0
def asB:=aA kS 8
def aeS:=dB kS 1
def aeT:=aA kS 9
def aeU:=aA kS 10
def aeR:aC:=(dY arZ 24 0 aeU (.seq (dq asA (.cond (Tm 35) (sq asB .ret) .skip)) (dq aeS (.cond (Tm 44) (sq aeT .ret) .skip))))
def aeV:=aA kS 11
def dw:aC:=(sq arS (sq arT (gE arU 14 (dM arV 19 arW (sq arX .ret)) (.seq (cJ arY 0 aeR) (sq aeV .ret)))))
def aPU:bC:=⟨2,45,dw,[.tmp 4]⟩
def cH:=bU [76] Proofs.Tryz.f165
def A2:=aA cH 0
def A3:=aA cH 1
def A4:=aA cH 2
def A5:=aA cH 3
def VB:=aA cH 4
def VC:=aA cH 5
def VD:=aA cH 6
def A6:=aA cH 7
def A7:=aA cH 8
def A8:=aA cH 9
def lg:=aA cH 10
def lh:=aA cH 11
def NF:aC:=(dY A6 36 0 lh (sq A7 (sq A8 (.region lg))))
def NG:=aA cH 12
def lj:=aA cH 13
def lk:=aA cH 14
def NH:=aA cH 15
def NI:=aA cH 16
def NJ:=aA cH 17
def NK:=aA cH 18
def ll:=aA cH 19
def lm:=dB cH 0
def ln:=aA cH 20
def lz:=aA cH 21
def l5:=aA cH 22
def l6:=dB cH 1
def l7:=aA cH 23
def BW:aC:=(.seq (dq l6 (.cond (Tm 146) .skip (.exit 4))) (.block 5 (.region l7)))
def NL:=aA cH 24
def NM:=aA cH 25
def l8:=aA cH 26
def l9:=aA cH 27
def ma:=aA cH 28
def mb:=aA cH 29
def NN:=aA cH 30
def BY:aC:=(dY l8 166 6 NN (sq l9 (sq ma (.cond (Tm 177) (.region mb) .skip))))
def NO:=aA cH 31
def NP:=aA cH 32
def BZ:aC:=(dY ll 105 2 NP (dq lm (sq ln (gE lz 131 (.region l5) (.seq (.block 4 (.loop BW)) (sq NL (.seq (cJ NM 6 BY) (.region NO))))))))
def NQ:=aA cH 33
def IJ:aC:=(sq A2 (dM A3 23 A4 (gE A5 28 (sq VB (sq VC (.seq (cJ VD 0 NF) (sq NG .ret)))) (sq lj (sq lk (sq NH (sq NI (sq NJ (.seq (cJ NK 2 BZ) (sq NQ .ret))))))))))
def Fq:bC:=⟨2,198,IJ,[.tmp 4,.tmp 5]⟩
def uG:=bU [] Proofs.Tryz.f127
def asC:=aA uG 0
def asD:=aA uG 1
def Fp:=aA uG 2
def asE:=aA uG 3
def asF:=aA uG 4
def asG:=aA uG 5
def asH:=aA uG 6
def dx:aC:=(sq asC (dM asD 14 Fp (dM asE 18 asF (sq asG (sq asH .ret)))))
def udiv:bC:=⟨2,29,dx,[.tmp 4,.tmp 5,.tmp 6]⟩
def rS:=bU [] Proofs.Tryz.f126
def asJ:=aA rS 0
def asK:=aA rS 1
def Ft:=aA rS 2
def asL:=aA rS 3
def asM:=aA rS 4
def asN:=aA rS 5
def asO:=aA rS 6
def asI:aC:=(.seq (sq asM (.cond (Tm 22) .skip (.exit 0))) (.block 1 (sq asN (.region asO))))
def asP:=aA rS 7
def d3:aC:=(sq asJ (dM asK 15 Ft (sq asL (.seq (.block 0 (.loop asI)) (sq asP .ret)))))
def aPY:bC:=⟨2,32,d3,[.tmp 4,.tmp 5]⟩
def mI:=bU [16] Proofs.Tryz.f75
def Bl:=aA mI 0
def Bm:=aA mI 1
def Bn:=aA mI 2
def Bo:=aA mI 3
def Bp:=aA mI 4
def Bq:=aA mI 5
def VT:=aA mI 6
def VU:=aA mI 7
def FH:=aA mI 8
def IM:aC:=(sq Bl (sq Bm (dM Bn 15 Bo (.seq (sq Bp (sq Bq (.cond (Tm 32) (sq VT (.region VU)) .skip))) (sq FH .ret)))))
def F0:bC:=⟨3,51,IM,[.cell 6 (some 3)]⟩
def FJ:=bU [] Proofs.Tryz.f77
def agU:=aA FJ 0
def agV:=aA FJ 1
def agW:=aA FJ 2
def agX:=aA FJ 3
def VY:aC:=(sq agU (dM agV 4 agW (sq agX .ret)))
def aCP:bC:=⟨1,12,VY,[.tmp 2]⟩
def FI:=bU [] Proofs.Tryz.f37
def agK:=aA FI 0
def agL:=aA FI 1
def agM:=aA FI 2
def agN:=aA FI 3
def VV:aC:=(sq agK (dM agL 7 agM (sq agN .ret)))
def Q2:bC:=⟨2,21,VV,[.cell 4 (some 3),.tmp 5]⟩
def ff:=bU [] Proofs.Tryz.f34
def atS:=aA ff 0
def atT:=aA ff 1
def atU:=aA ff 2
def fe:aC:=(sq atS (sq atT (sq atU .ret)))
def aQN:bC:=⟨1,11,fe,[.cell 2 (some 3)]⟩
def utF(xs:List Nat)(n:Nat):PF:=((PF.nil.set 0 (aN xs)).set 3 (.int .i64 n))
theorem aQJ{C:Ctx}(xs:List Nat)(M:Lim xs)(N:Z' xs≤35184372087808):VP.wp C (aY aCC.res (rT 1 (aO (aM (val xs))))) (PF.args [aN xs]) .nil:=by
 simp only[go_sem,VP,afV,afW,aCC,a7Z];refine wp_loop (α:=Nat) (λn=>utF xs n) (λ_=>.nil) (λn=>n≤Z' xs∧∀j x,n≤j→xs[j]?=some x→x=0) (λn=>n) xs.length ⟨a8E _,λj x w d=>?_⟩ ?_ a_ ?_
 ·rw[a9N w]at d;cases d
 ·unfold utF;exact Lq
 rintro n ⟨J,B⟩;have done:(0<n→∀h:n-1<Z' xs,xs[n-1]≠0)→∀F:PF,(utF xs n).le F→aC.wp C (.seq (.region sr) .ret) (aY [.tmp 2] (rT 1 (aO (aM (val xs))))) F .nil:=by
  intro h F u;have f0:F 0=some (aN xs):=u 0 _ (by unfold utF;simp only[go_sem]);have E:F 3=some (.int .i64 n):=u 3 _ (by unfold utF;simp only[go_sem]);have y:xs.take n=aM (val xs):=UR M J B λx l d=>by
   rw[a8N Om]at d;injection d with d
   subst d;exact h l Om
  have H:((n:Nat):Int)≤(Z' xs:Nat):=Om;simp only[go_sem,sr,f0,E,a7Z,H,or_true,a9L];refine jD (rows:=[]) (src:=aO (aM (val xs))) .nil ?_ ?_ λv H' K _=>?_
  ·simp only[go_sem];rw[←y,←baY]
  ·unfold roomFor;rw[cW,←y,a8S];simp only[baE,maxLen];omega
  ·exact UD (.inr rfl) (by simpa using K) rfl
 simp only[aC.wp,go_sem]at done;simp only[go_sem,afU,afX,utF];by_cases l:0<n
 ·have i:((n:Nat):Int)>0:=Om;have hlt:n-1<Z' xs:=Om;have p:=cF xs hlt;have A:IntKind.i64.wrap ((n:Int)-1)=((n-1:Nat):Int):=DF Om l;simp only[go_sem,i,A,p];by_cases c:xs[n-1]=0
  ·simp only[go_sem,cC (Om:((xs[n-1]:Nat):Int)=0),afY,A];refine aJ (n-1) ⟨by omega,λj x w d=>?_⟩ Om ?_ a_
   ·by_cases e:j=n-1
    ·subst e;rw[a8N hlt]at d;injection d with d
     omega
    ·exact B j x Om d
   ·exact Lq
  ·simp only[go_sem,bO (Om:((xs[n-1]:Nat):Int)≠0)];exact done (λ_ _=>c) _ (by unfold utF;exact Lq)
 ·have i:¬((n:Nat):Int)>0:=Om;simp only[go_sem,i];exact done (λh=>absurd h l) _ (by unfold utF;exact Lq)
structure uN(C:Ctx):Prop where
 trimM:∀xs,Lim xs→Z' xs≤35184372087808→aH C 38 [aN xs] .nil (rT 1 (aO (aM (val xs))))
theorem uN.trim{C:Ctx}(L:uN C)(xs:List Nat)(e:Lim xs)(d:Z' xs≤35184372087808):aH C 38 [aN xs] .nil (aK (aN (aM (val xs)))):=(L.trimM xs e d).freeze
theorem aPZ{C:Ctx}(L:uN C)(v:Nat)(A:v<18446744073709551616):VG.wp C (aY aBX.res (cN (aN (aM v)))) (PF.args [.int .u64 v]) .nil:=by
 have u:IntKind.u32.wrap ((v:Nat):Int)=((v%4294967296:Nat):Int):=dH v;have i:v/4294967296<4294967296:=Om;have w:IntKind.u32.wrap ((v/4294967296:Nat):Int)=((v/4294967296:Nat):Int):=by rw[dH,a9P i]
 have y:Lim [v%4294967296,v/4294967296]:=by
  intro x p;simp only[a8M,List.mem_nil_iff,or_false]at p;rcases p with rfl|rfl
  ·exact a9Z _ aV
  ·exact i
 have d:val [v%4294967296,v/4294967296]=v:=by simp only[val,Nat.mul_zero,a9Y];exact Nat.mod_add_div v 4294967296
 have e:shift .shr .u64 (v:Int) 32=some (.int .u64 ((v/4294967296:Nat):Int)):=FA;have hb:(2:Nat)*1≤16777216:=by decide
 simp only[go_sem,VG,afG,afH,aBX,u,e,w,hb];have l:=L.trim [v%4294967296,v/4294967296] y bD;rw[d]at l;refine aB l rfl ?_;simp only[go_sem];exact bE (.inr rfl) .nil rfl a_ ⟨.refl _,rfl⟩
theorem aIN{C:Ctx}(L:uN C)(xs:List Nat)(e:Lim xs)(d:Z' xs≤35184372087808):NR.wp C (aY afF.res (cN (.bool (decide (nl (val xs)>512))))) (PF.args [aN xs]) .nil:=by
 simp only[go_sem,NR,Nz,N0,afF];refine aB (L.trim xs e d) rfl ?_;simp only[go_sem,a7Z,bG];refine bK rfl ?_;rw[decide_eq_decide];omega
theorem avY{a b:Nat}(h:nl a<nl b):fA a b=-1:=by
 have:a<b:=by
  rcases a9A a b with h'|h'
  ·exact h'
  ·have:=jS h';omega
 simp[fA,this]
theorem avX{a b:Nat}(h:nl b<nl a):fA a b=1:=by
 have:b<a:=by
  rcases a9A b a with h'|h'
  ·exact h'
  ·have:=jS h';omega
 have d:¬a<b:=Om;simp[fA,this,d]
def aBS(X Y:List Nat)(i:Int):PF:=(((PF.nil.set 0 (aN X)).set 1 (aN Y)).set 5 (.int .i64 i))
theorem aVK{C:Ctx}(L:uN C)(xs ys:List Nat)(x:Lim xs)(y:Lim ys)(R:Z' xs≤35184372087808)(S:Z' ys≤35184372087808) :
  dw.wp C (aY aPU.res (aK (.int .i64 (fA (val xs) (val ys))))) (PF.args [aN xs,aN ys]) .nil:=by
 simp only[go_sem,dw,arS,arT,aPU];refine aB (L.trim xs x R) Ev ?_;simp only[go_sem];refine aB (L.trim ys y S) Ev ?_;have U:=jL x;have E:=jL y;simp only[go_sem,arU,a7Z,bG];by_cases l:nl (val xs)≠nl (val ys)
 ·simp only[go_sem,eC (show((nl (val xs):Nat):Int)≠(nl (val ys):Nat) by omega),arV];by_cases F:nl (val xs)<nl (val ys)
  ·simp only[go_sem,a7Z,bG,show((nl (val xs):Nat):Int)<(nl (val ys):Nat) by omega,arW];refine aX (.inr rfl) Ev ?_;rw[avY F];rfl
  ·simp only[go_sem,a7Z,bG,show ¬((nl (val xs):Nat):Int)<(nl (val ys):Nat) by omega,arX];refine aX (.inr rfl) Ev ?_;rw[avX Om];rfl
 replace l:=Decidable.of_not_not l;simp only[go_sem,dL (show((nl (val xs):Nat):Int)=(nl (val ys):Nat) by omega),arY,a7Z,bG];have ex:=aZ (val xs);have p:=aZ (val ys);have A:=bB (val xs);have B:=bB (val ys);generalize M:aM (val xs)=X at *
 generalize N:aM (val ys)=Y at *
 have O:Z' X=nl (val xs):=by rw[←M];rfl
 have Q:Z' Y=nl (val xs):=by rw[l,←N];rfl
 refine wp_loop (α:=Nat) (λk=>aBS X Y ((k:Int)-1)) (λ_=>.nil) (λk=>k≤nl (val xs)∧X.drop k=Y.drop k) (λk=>k) (nl (val xs)) ⟨a8E _,?_⟩ ?_ a_ ?_
 ·rw[bcB Om,bcB Om]
 ·unfold aBS
  (repeat' (first|exact d_|refine c_ ?_ ?_))<;>first|(simp only[go_sem,wrap_i64 (show -9223372036854775808≤((nl (val xs):Nat):Int)-1 by omega) (show((nl (val xs):Nat):Int)-1≤9223372036854775807 by omega)]<;>rfl)|rfl
 rintro k ⟨W,d⟩;simp only[go_sem,aeR,arZ,aBS];by_cases V:0<k
 ·obtain⟨m,rfl⟩:∃m,k=m+1:=⟨k-1,by omega⟩;have w:((m+1:Nat):Int)-1=(m:Int):=Om;have u:(m:Int)≥0:=Om;have e:m<Z' X:=Om;have i:m<Z' Y:=Om;simp only[go_sem,w,u];refine cP .nil fT a_ ?_;simp only[go_sem,asA,cF X e,cF Y i];by_cases H:X[m]<Y[m]
  ·simp only[go_sem,show((X[m]:Nat):Int)<(Y[m]:Nat) by omega,asB];refine aX (.inr rfl) Ev ?_;have:=uy A e i d H;rw[ex,p]at this;simp[bR,fA,this]
  ·simp only[go_sem,show ¬((X[m]:Nat):Int)<(Y[m]:Nat) by omega];refine cP .nil fT a_ ?_;simp only[go_sem,aeS,cF X e,cF Y i];by_cases J:X[m]>Y[m]
   ·simp only[go_sem,show((X[m]:Nat):Int)>(Y[m]:Nat) by omega,aeT];refine aX (.inr rfl) Ev ?_;have:=uy B i e d.symm J;rw[ex,p]at this;have K:¬val xs<val ys:=Om;simp[bR,fA,this,K]
   ·simp only[go_sem,show ¬((X[m]:Nat):Int)>(Y[m]:Nat) by omega,aeU];refine aJ m ⟨by omega,Hy e i d Om⟩ Om ?_ a_
    (repeat' (first|exact d_|refine c_ ?_ ?_))<;>first|(simp only[go_sem,wrap_i64 (Om:-9223372036854775808≤(m:Int)-1) (Om:(m:Int)-1≤9223372036854775807)]<;>rfl)|rfl
 ·have:k=0:=Om;subst this;have w:¬((0:Nat):Int)-1≥0:=by decide
  simp only[go_sem,w,aeV];refine aX (.inr rfl) Ev ?_;rw[a9L,a9L]at d;have:val xs=val ys:=by rw[←ex,←p,d]
  simp[bR,fA,this]
theorem KP(n:Nat):(((n:Nat):Int)==0)=decide (n=0):=by
 by_cases h:n=0
 ·subst h;rfl
 ·rw[bO Om,cB h]
structure Rj(C:Ctx):Prop extends uN C where
 make:∀v:Nat,v<18446744073709551616→aH C 35 [.int .u64 v] .nil (aK (aN (aM v)))
 large:∀xs,Lim xs→Z' xs≤35184372087808→aH C 41 [aN xs] .nil (aK (.bool (decide (nl (val xs)>512))))
 cmp:∀xs ys,Lim xs→Lim ys→Z' xs≤35184372087808→Z' ys≤35184372087808→aH C 32 [aN xs,aN ys] .nil (aK (.int .i64 (fA (val xs) (val ys))))
def aBW(a b:Nat):PF:=((PF.nil.set 6 (aN (aM a))).set 7 (aN (aM b)))
structure tw(C:Ctx):Prop extends Rj C where
 divide:∀A B:Nat,B≠0→nl A≤512→nl B≤512→aH C 39 [aN (aM A),aN (aM B)] .nil (aK (vQ A B))
def ayH(a b:Nat):PV:=if fI a b then .tup [aN [],.int .i64 2]else .tup [aN (aM (a8B a b)),.int .i64 0]
theorem aVM{C:Ctx}(L:tw C)(a b:List Nat)(p:Lim a)(hb:Lim b)(w:Z' a≤35184372087808)(A:Z' b≤35184372087808) :
  d3.wp C (aY aPY.res (cN (ayH (val a) (val b)))) (PF.args [aN a,aN b]) .nil:=by
 unfold ayH;simp only[go_sem,d3,asJ,asK,aPY];refine aB (L.large a p w) rfl ?_;by_cases d:nl (val a)>512
 ·simp only[go_sem,d,Ft];rw[aG (by simp[fI,d])];exact gG rfl
 simp only[go_sem,d];refine aB (L.large b hb A) rfl ?_;by_cases e:nl (val b)>512
 ·simp only[go_sem,e,Ft];rw[aG (by simp[fI,e])];exact gG rfl
 rw[aD (by simp[fI,d,e])];simp only[go_sem,e,asL];refine aB (L.trim a p w) rfl ?_;simp only[go_sem];refine aB (L.trim b hb A) rfl ?_;simp only[go_sem];refine wp_loop (α:=Nat × Nat) (λt=>aBW t.1 t.2) (λ_=>.nil) (λt=>a8B t.1 t.2=a8B (val a) (val b)∧nl t.1≤512∧nl t.2≤512) (λt=>t.2) (val a,val b) ⟨rfl,by simp only;omega,by simp only;omega⟩ ?_ a_ ?_
 ·unfold aBW;exact Lq
 rintro⟨x,y⟩ ⟨l,B,u⟩;simp only at l B u;simp only[go_sem,asI,asM,aBW,bG];by_cases i:y=0
 ·subst i;have:¬((nl 0:Nat):Int)>0:=by rw[GK];decide
  simp only[go_sem,this,asP];refine bE (vs:=[aN (aM x),.int .i64 0]) (.inr rfl) .nil rfl a_ ⟨?_,rfl⟩;rw[←l,Nat.gcd_zero_right];exact .refl _
 ·have E:nl y≠0:=λh=>i (lE.1 h);have:((nl y:Nat):Int)>0:=Om;simp only[go_sem,this,asN];refine aB (L.divide x y i Om Om) rfl ?_;simp only[go_sem,vQ,asO];have hlt:x%y<y:=a9Z _ (baU i);refine aJ (y,x%y) ⟨?_,u,?_⟩ hlt ?_ a_
  ·simp only;rw[←l,Nat.gcd_comm y,←Nat.gcd_rec y x,Nat.gcd_comm]
  ·have:=jS (Nat.le_of_lt hlt);simp only;omega
  ·exact Lq
theorem aVL{C:Ctx}(L:tw C)(a b:List Nat)(p:Lim a)(hb:Lim b)(u:Z' a≤35184372087808)(l:Z' b≤35184372087808) :
  dx.wp C (aY udiv.res (cN (qX (val a) (val b)))) (PF.args [aN a,aN b]) .nil:=by
 unfold qX;simp only[go_sem,dx,asC,asD,udiv];refine aB (L.large a p u) rfl ?_;by_cases e:nl (val a)>512
 ·simp only[go_sem,e,Fp];rw[aG (by simp[fI,e])];exact xV rfl
 simp only[go_sem,e];refine aB (L.large b hb l) rfl ?_;by_cases i:nl (val b)>512
 ·simp only[go_sem,i,Fp];rw[aG (by simp[fI,i])];exact xV rfl
 rw[aD (by simp[fI,e,i])];simp only[go_sem,i,asE];refine aB (L.trim b hb l) rfl ?_;simp only[go_sem,a7Z,bG,KP,lE];by_cases d:val b=0
 ·rw[aG d];simp only[go_sem,bN d,asF];exact xV rfl
 rw[aD d];simp only[go_sem,cB d,asG];refine aB (L.trim a p u) rfl ?_;simp only[go_sem];refine aB (L.trim b hb l) rfl ?_;simp only[go_sem];refine aB (L.divide (val a) (val b) d Om Om) rfl ?_;simp only[go_sem,vQ,asH];exact bE (.inr rfl) .nil rfl a_ ⟨.refl _,rfl⟩
def qV(neg:Bool)(a b:Nat):FV:=(neg&&decide (a/a8B a b≠0),a/a8B a b,b/a8B a b)
structure Rk(C:Ctx):Prop extends tw C where
 gcd:∀a b,Lim a→Lim b→Z' a≤35184372087808→Z' b≤35184372087808→aH C 34 [aN a,aN b] .nil (aK (ayH (val a) (val b)))
 div:∀a b,Lim a→Lim b→Z' a≤35184372087808→Z' b≤35184372087808→aH C 33 [aN a,aN b] .nil (aK (qX (val a) (val b)))
theorem zG{n:Nat}(h:nl n≤512):(aM n).length≤35184372087808:=by rw[bG];omega
theorem CQ:aM 1=[1]:=sV aV aV
theorem xj{n:Nat}(h:n≠0):aM n=n%4294967296::aM (n/4294967296):=xU h
theorem HK{n:Nat}(h:n≠0):(nl n>1∨n%4294967296>1)↔n≠1:=by
 constructor
 ·rintro h1 rfl;rcases h1 with h1|h1
  ·rw[nl,CQ]at h1;simp at h1
  ·omega
 ·intro h1;by_cases c:nl n>1
  ·exact .inl c
  ·have:n<4294967296^1:=(lS n 1).1 Om;rw[Nat.pow_one]at this;rw[a9P this];exact .inr Om
theorem aCL{C:Ctx}(L:Rk C)(neg:Bool)(a b:List Nat)(W:Lim a)(hb:Lim b)(Z:Z' a≤35184372087808)(lb:Z' b≤35184372087808)(A:nl (val a)≤512)(u:nl (val b)≤512)(B:val b≠0) :
  IM.wp C (aY F0.res (cN (.agg (qV neg (val a) (val b)).rf.cells))) (PF.args [.bool neg,aN a,aN b]) .nil:=by
 have d:a8B (val a) (val b)≠0:=λh=>B (Nat.eq_zero_of_gcd_eq_zero_right h);have K:a8B (val a) (val b)≤val b:=Nat.gcd_le_right _ (baU B);have O:nl (a8B (val a) (val b))≤512:=a9F (jS K) u;have M:fI (val a) (val b)=false:=kZ A u;simp only[go_sem,IM,Bl,Bm,F0];refine aR λo ho=>?_;simp only[go_sem];refine aB (L.trim a W Z) rfl ?_;simp only[go_sem];refine aB (L.trim b hb lb) rfl ?_;simp only[go_sem,Bn,a7Z,bG,KP,lE];by_cases w:val a=0
 ·simp only[go_sem,bN w,Bo];have e:(qV neg (val a) (val b)).rf=⟨false,[],[1]⟩:=by rw[w];unfold qV FV.rf;simp[jO,Nat.div_self (baU B),CQ]
  rw[e];refine bE (vs:=[.agg [.bool false,.aF,aN [1]]]) (.inr rfl) .nil ?_ a_ ⟨show Co (.agg _) (.agg _)from CoL.agg (CoL.cons (.refl _) (CoL.cons (.nil 1) (CoL.cons (.refl _) .nil))),rfl⟩;simp only[go_sem];rfl
 have i:=L.gcd (aM (val a)) (aM (val b)) (bB _) (bB _) (zG A) (zG u);rw[aZ,aZ,ayH,M]at i;simp only[go_sem,cB w,Bp];refine aB i rfl ?_;have fin:∀x y:Nat,x=val a/a8B (val a) (val b)→y=val b/a8B (val a) (val b)→∀(F:PF)(H:PH),F 0=some (.bool neg)→F 1=some (aN (aM x))→F 2=some (aN (aM y))→F 6=some (.ptr o 3 0 0)→H o=some (.rows 3 [[.bool false,.aF,.aF]]) →
   aC.wp C (.seq (.region FH) .ret) (aY [.cell 6 (some 3)] (cN (.agg (qV neg (val a) (val b)).rf.cells))) F H:=by
  intro x y N Y F H f0 f1 f2 f6 E;subst N;subst Y;simp only[go_sem,FH,f0,f1,f2,f6,E];have X:val a/a8B (val a) (val b)≠0:=by have:=Nat.div_pos (Nat.gcd_le_left (val b) (baU w)) (baU d);omega
  have e:(qV neg (val a) (val b)).rf=⟨neg,aM (val a/a8B (val a) (val b)),aM (val b/a8B (val a) (val b))⟩:=by unfold qV FV.rf;simp only[X,ne_eq,not_false_eq_true,decide_true,baN]
  rw[e];refine bE (vs:=[.agg (fR neg (aM (val a/a8B (val a) (val b))) (aM (val b/a8B (val a) (val b))))]) (.inr rfl) .nil ?_ a_ ⟨.refl _,rfl⟩;simp only[go_sem,f6]
 simp only[aC.wp,go_sem]at fin;have J:=λx (N:nl x≤512)=>L.div (aM x) (aM (a8B (val a) (val b))) (bB _) (bB _) (zG N) (zG O);simp only[aZ,qX]at J;have tail:a8B (val a) (val b)≠1→∀(F:PF)(H:PH),F 0=some (.bool neg)→F 1=some (aN (aM (val a)))→F 2=some (aN (aM (val b)))→F 6=some (.ptr o 3 0 0)→F 7=some (aN (aM (a8B (val a) (val b))))→H o=some (.rows 3 [[.bool false,.aF,.aF]]) →
   aC.wp C (.seq (.seq (.region VT) (.region VU)) (.seq (.region FH) .ret)) (aY [.cell 6 (some 3)] (cN (.agg (qV neg (val a) (val b)).rf.cells))) F H:=by
  intro _ F H f0 f1 f2 f6 f7 E;have S:=J (val a) A;have U:=J (val b) u;rw[kZ A O,aD d]at S;rw[kZ u O,aD d]at U;simp only[go_sem,VT,f1,f7];refine aB S rfl ?_;simp only[go_sem,baK,VU,f2,f7];refine aB U rfl ?_;simp only[go_sem,baK];exact fin _ _ rfl rfl _ _ (by simp only[go_sem,f0]) rfl rfl (by simp only[go_sem,f6]) E
 simp only[aC.wp,go_sem]at tail;simp only[go_sem,baK,Bq,a7Z,bG];by_cases Q:nl (a8B (val a) (val b))>1
 ·have l:((nl (a8B (val a) (val b)):Nat):Int)>1:=Om;simp only[go_sem,l];exact tail ((HK d).1 (.inl Q)) _ _ rfl rfl rfl rfl rfl Sq
 ·have l:¬((nl (a8B (val a) (val b)):Nat):Int)>1:=Om;simp only[go_sem,l,xj d];by_cases R:a8B (val a) (val b)%4294967296>1
  ·have p:((a8B (val a) (val b)%4294967296:Nat):Int)>1:=Om;simp only[go_sem,p];exact tail ((HK d).1 (.inr R)) _ _ rfl rfl rfl rfl (by simp only[go_sem,xj d]) Sq
  ·have p:¬((a8B (val a) (val b)%4294967296:Nat):Int)>1:=Om;have V:a8B (val a) (val b)=1:=by
    rcases Decidable.em (a8B (val a) (val b)=1)with h|h
    ·exact h
    ·rcases(HK d).2 h with h|h
     ·exact absurd h Q
     ·exact absurd h R
   simp only[go_sem,p];exact fin (val a) (val b) (by rw[V,Nat.div_one]) (by rw[V,Nat.div_one]) _ _ rfl rfl rfl rfl Sq
theorem aQS{C:Ctx}(v:Int)(l:-9223372036854775808≤v)(p:v≤9223372036854775807) :
  VY.wp C (aY aCP.res (aK (.int .u64 (v.natAbs:Nat)))) (PF.args [.int .i64 v]) .nil:=by
 simp only[go_sem,VY,agU,agV,aCP];by_cases c:v<0
 ·have d:IntKind.i64.wrap (v+1)=v+1:=wrap_i64 Om Om;have e2:IntKind.i64.wrap (0-(v+1))=-(v+1):=by rw[wrap_i64 Om Om];omega
  have i:IntKind.u64.wrap (IntKind.u64.wrap (-(v+1))+1)=(v.natAbs:Int):=by rw[jU,jU];omega
  simp only[go_sem,c,agW,d,e2,i];refine aX (.inr rfl) rfl ?_;rfl
 ·have e:IntKind.u64.wrap v=(v.natAbs:Int):=by rw[jU];omega
  simp only[go_sem,c,agX,e];refine aX (.inr rfl) rfl ?_;rfl
structure avE(C:Ctx):Prop extends Rk C where
 lowest:∀neg a b,Lim a→Lim b→Z' a≤35184372087808→Z' b≤35184372087808→nl (val a)≤512→nl (val b)≤512→val b≠0→aH C 58 [.bool neg,aN a,aN b] .nil (aK (.agg (qV neg (val a) (val b)).rf.cells))
 size:∀v:Int,eH v→aH C 59 [.int .i64 v] .nil (aK (.int .u64 (v.natAbs:Nat)))
def mkT(n d:Int):RF:=(qV (decide (n<0) != decide (d<0)) n.natAbs d.natAbs).rf
def DC(n d:Int):PV:=if d=0 then JE 3 else .tup [.agg (mkT n d).cells,.int .i64 0]
theorem aQP{C:Ctx}(L:avE C)(n d:Int)(e:eH n)(i:eH d) :
  VV.wp C (aY Q2.res (cN (DC n d))) (PF.args [.int .i64 n,.int .i64 d]) .nil:=by
 simp only[go_sem,VV,agK,agL];refine aR λo l=>?_;unfold DC;by_cases c:d=0
 ·subst c;simp only[go_sem,agM];refine lC ?_;simp only[go_sem,Q2]
 ·rw[aD c];simp only[go_sem,bO c,agN];refine aB (L.size n e) rfl ?_;simp only[go_sem];refine aB (L.make n.natAbs Om) rfl ?_;simp only[go_sem];refine aB (L.size d i) rfl ?_;simp only[go_sem];refine aB (L.make d.natAbs Om) rfl ?_;simp only[go_sem];have p:nl n.natAbs≤2:=sF Om;have u:nl d.natAbs≤2:=sF Om;have low:=L.lowest (decide (n<0) != decide (d<0)) (aM n.natAbs) (aM d.natAbs) (bB _) (bB _) (by rw[bG];omega) (by rw[bG];omega);rw[aZ,aZ]at low;have low:=low Om Om Om;refine aB low rfl ?_;simp only[go_sem];exact bE (.inr rfl) .nil (vs:=[.agg (mkT n d).cells,.int .i64 0]) (by simp only[go_sem,Q2];rfl) a_ ⟨.refl _,rfl⟩
structure tx(C:Ctx):Prop extends avE C where
 fmk:∀n d:Int,eH n→eH d→aH C 50 [.int .i64 n,.int .i64 d] .nil (aK (DC n d))
theorem atQ{C:Ctx}(L:tx C)(n:Int)(i:eH n) :
  fe.wp C (aY aQN.res (cN (.agg (mkT n 1).cells))) (PF.args [.int .i64 n]) .nil:=by
 simp only[go_sem,fe,atS,atT,aQN];refine aR λo l=>?_;simp only[go_sem];refine aB (L.fmk n 1 i (by unfold eH;omega)) rfl ?_;unfold DC;rw[aD aV];simp only[go_sem];refine aR λp hp=>?_;have d:o≠p:=by rintro rfl;simp only[aS,if_true]at hp;cases hp
 have e:p≠o:=λh=>d h.symm;simp only[go_sem,d,atU];refine bE (vs:=[.agg (mkT n 1).cells]) (.inr rfl) .nil ?_ a_ ⟨.refl _,rfl⟩;simp only[go_sem,e]
def aL(l:List Nat)(n a:Nat):Nat × Nat:=if l.length≤a∨n<2 then(0,a)else(l.getD a 0%n,a+1)
theorem dC(l:List Nat){n:Nat}(h:0<n)(a:Nat):(aL l n a).1<n:=by
 unfold aL;split
 ·exact h
 ·exact a9Z _ h
theorem cE(l:List Nat)(n:Nat){a:Nat}(h:a≤Z' l):(aL l n a).2≤Z' l:=by
 unfold aL;split
 ·exact h
 ·simp only;omega
def jA(l:List Nat)(a:Nat):RF × Nat:=
 let x:=aL l 6 a
 let y:=aL l 8 x.2
 (mkT ((1+x.1:Nat):Int) ((1+y.1:Nat):Int),y.2)
abbrev mV:RF:=mkT 0 1
def lP(l:List Nat)(i j a:Nat):RF × Nat:=
 if j=i+1 then jA l a
 else if j=i then(mV,a)
 else let t:=aL l 3 a
  if t.1=0 then jA l t.2 else(mV,t.2)
def fE(l:List Nat)(i a:Nat):Nat→List RF × Nat
 |0=>([],a)
 |j+1=>let s:=fE l i a j
  let z:=lP l i j s.2
  (s.1++[z.1],z.2)
structure KZ where
 start:List RF
 exit:List RF
 a6T:List (List RF)
 left:Nat
 a:Nat
def fC(l:List Nat)(n i:Nat)(s:KZ):Nat × Nat:=if i+1<n then aL l (s.left+1) s.a else(s.left,s.a)
def gT(l:List Nat)(n i a:Nat):RF × Nat:=
 let e:=jA l a
 if i+1<n then(let t:=aL l 3 e.2;(if t.1=0 then mV else e.1,t.2))else e
def jR(l:List Nat)(n a:Nat):Nat→KZ
 |0=>⟨[],[],[],8,a⟩
 |i+1=>let s:=jR l n a i
  let k:=fC l n i s
  let e:=gT l n i k.2
  let r:=fE l i e.2 n
  ⟨s.start++[mkT (k.1:Nat) 8],s.exit++[e.1],s.a6T++[r.1],s.left-k.1,r.2⟩
def vT(l:List Nat)(fD a:Nat):cY × Nat:=
 let t:=aL l fD a
 let s:=jR l (1+t.1) t.2 (1+t.1)
 (⟨[],s.start,s.a6T,s.exit⟩,s.a)
def oC(l:List Nat)(a:Nat):Nat→List RF × Nat
 |0=>([],a)
 |k+1=>let s:=oC l a k
  let z:=jA l s.2
  (s.1++[z.1],z.2)
abbrev cU(n:Nat):List UInt8:=Lib.decDigits n
def lD(l:List Nat)(a:Nat):Nat→List cY × Nat
 |0=>([],a)
 |k+1=>let s:=lD l a k
  let z:=vT l 2 s.2
  (s.1++[{ z.1 with name:=[108,97,119]++cU k }],z.2)
def fS(l:List Nat)(a6V a:Nat):Nat→List dR × Nat
 |0=>([],a)
 |k+1=>let s:=fS l a6V a k
  let x:=aL l 4 s.2
  let y:=aL l 8 x.2
  let z:=aL l a6V y.2
  (s.1++[⟨[109]++cU k,(1+x.1:Nat),(1+y.1:Nat),(z.1:Nat)⟩],z.2)
structure GS where
 a6X:List cX
 a7H:List eO
 a:Nat
def mU(l:List Nat)(mc a6O d:Nat)(s:GS):Nat→GS
 |0=>s
 |i+1=>let s:=mU l mc a6O d s i
  if s.a7H.length<a6O then
   let t:=aL l mc s.a
   { s with a7H:=s.a7H++[⟨[100]++cU s.a7H.length,(t.1:Nat),(d:Nat)⟩],a:=t.2 }
  else s
def pK(level:Nat):UInt8:=match level with
 |0=>45
 |1=>115
 |2=>114
 |3=>107
 |_=>109
def rD(l:List Nat)(level d:Nat)(s:GS):GS:=
 let u:=aL l 16 s.a
 let t:=aL l 3 u.2
 let k:=aL l 6 t.2
 let sh:RF × Nat:=if t.1=0 then(mkT 1 ((2+k.1:Nat):Int),k.2)else(mV,t.2)
 { s with a6X:=s.a6X++[⟨[pK level]++cU s.a6X.length,(level:Nat),(d:Nat),(1+u.1:Nat),sh.1⟩],a:=sh.2 }
def uS(a6O:Nat)(s:GS):Bool:=decide (a6O≤Z' s.a7H)||decide (35≤Z' s.a6X)
def kB(l:List Nat)(level a6O d:Nat)(rec:Nat→GS→GS)(s:GS):Nat→GS
 |0=>s
 |i+1=>let s:=kB l level a6O d rec s i
  if uS a6O s then s else(let s':=rD l level d s;rec (Z' s'.a6X-1) s')
def gP(l:List Nat)(mc a6O:Nat):Nat→Nat→GS→GS
 |0,d,s=>let t:=aL l 2 s.a
  mU l mc a6O d { s with a:=t.2 } (1+t.1)
 |k+1,d,s=>let t:=aL l 2 s.a
  kB l (4-k) a6O d (gP l mc a6O k) { s with a:=t.2 } (if 4-k=2 then 1 else 1+t.1)
def qP:cX:=⟨[],0,-1,0,mV⟩
def kM(l:List Nat)(a:Nat):Int × Nat:=
 let t:=aL l 3 a
 let k:=aL l 3 t.2
 if t.1=0 then((1+k.1:Nat),k.2)else(0,t.2)
def qB(l:List Nat)(a6P i a:Nat):cL × Nat:=
 let k:=aL l 2 a
 let m:=aL l 3 k.2
 let h:=aL l 4 m.2
 let q:=aL l (m.1+1) h.2
 let r:=oC l q.2 (max m.1 1)
 let g:=aL l 9 r.2
 let s1:=kM l g.2
 let s2:=kM l s1.2
 let s3:=kM l s2.2
 let s4:=kM l s3.2
 let f:=aL l a6P s4.2
 let b:=aL l 2 f.2
 let ms:List Int × Nat:=if 1<a6P then(if b.1=0 then([(f.1:Int),1-(f.1:Int)],b.2)else([(f.1:Int)],b.2))else([(f.1:Int)],f.2)
 (⟨[112]++cU i,(1+k.1:Nat),(m.1:Nat),(1+k.1+q.1:Nat),0,s1.1,s2.1,s3.1,s4.1,ms.1,r.1,mkT (g.1:Nat) 8,mkT ((1+h.1:Nat):Int) 1⟩,ms.2)
def fF(l:List Nat)(a6P a:Nat):Nat→List cL × Nat
 |0=>([],a)
 |k+1=>let s:=fF l a6P a k
  let z:=qB l a6P k s.2
  (s.1++[z.1],z.2)
def fW(l:List Nat)(pols a:Nat):Nat→List gQ × Nat
 |0=>([],a)
 |k+1=>let s:=fW l pols a k
  let z:=aL l pols s.2
  (s.1++[⟨[118]++cU k,(z.1:Nat)⟩],z.2)
def lM(l:List Nat)(a6O a6Q a:Nat):aE × Nat:=
 let e:=aL l 2 a
 let i:=aL l 2 e.2
 let a6V:=lD l i.2 (1+i.1)
 let d:=aL l 2 a6V.2
 let a6P:=fS l (1+i.1) d.2 (1+d.1)
 let g:=gP l (1+d.1) a6O 4 0 ⟨[qP],[],a6P.2⟩
 let pl:=aL l 2 g.a
 let pols:=fF l (1+d.1) pl.2 (1+pl.1)
 let p:=aL l (a6Q+1) pols.2
 let vols:=fW l (1+pl.1) p.2 p.1
 (⟨(1+e.1:Nat),a6V.1,a6P.1,g.a6X,g.a7H,pols.1,vols.1⟩,vols.2)
abbrev nL(l:List Nat):List (List PV):=l.map λ(n:Nat)=>[PV.int .u8 (n:Int)]
theorem el(l:List Nat):(nL l).length=Z' l:=by simp
theorem aQH(l:List Nat){i:Nat}(h:i<Z' l):(nL l)[i]?=some [.int .u8 (l[i]:Nat)]:=by simp[h]
abbrev bX(v:PV)(a:Nat):aU:=.rows 2 [[v,.int .i64 a]]
structure Tp(l:List Nat)(v:PV):Prop where
 seen:Seen 1 v (nL l)
 byte:∀x∈l,x<256
 len:Z' l≤400
def avD(l:List Nat)(r:PV)(H:PH):Prop:=∃o v,r=.ptr o 2 0 0∧Tp (l.take 400) v∧H=PH.nil.set o (bX v 0)
theorem P7{t q s:Nat}{rs:List (List PV)}{F:PF}{H H2:PH}{R:PV→PH→Prop}{v:PV}{e:mZ}(x:e=.normal∨e=.ret)(A:F t=some v)(y:H q=some (.rows s rs))(p:H2.le (H.frz q s rs))(w:R (PV.frz q s rs v) H2):aY [.tmp t] R e F H:=by
 have d:∃vs,eN.evs F H [.tmp t]=some vs∧∃i l H2,kC (PF.nil.set 0 (bR vs)) H i l∧H2.le l∧∃u,i 0=some u∧R u H2:=by refine⟨[v],by rw[oM,rK,A,sY],_,_,H2,.step q y (.refl _ _),p,PV.frz q s rs v,?_,w⟩;rw[wD,oS,aG rfl,a8X];rfl
 rcases x with rfl|rfl<;>exact d
theorem aTX{C:Ctx}(l:List Nat)(hb:∀x∈l,x<256)(M:Z' l≤9223372036854775807):ZU.wp C (aY aNS.res (avD l)) (PF.args [.sl 1 (nL l)]) .nil:=by
 simp only[go_sem,ZU,aoO,aoP,aNS,a7Z];have fin:∀F:PF,F 0=some (.sl 1 (nL (l.take 400)))→aC.wp C (.seq (.region Eg) .ret) (aY [.tmp 2] (avD l)) F .nil:=by
  intro F f0;have w:(l.take 400).length≤400:=by rw[a8S];omega
  have u:∀x∈l.take 400,x<256:=λx J=>hb x (List.mem_of_mem_take J);have y:∀o v,Seen 1 v (nL (l.take 400))→avD l (.ptr o 2 0 0) (PH.nil.set o (bX v 0)):=λo v H=>⟨o,v,rfl,⟨H,u,w⟩,rfl⟩;generalize K:l.take 400=L at *
  simp only[go_sem,Eg,f0];refine AB (src:=nL L) rfl ?_ (λh=>?_) λh o E=>?_
  ·unfold roomFor;rw[el];simp only[maxLen];omega
  ·simp only[go_sem,a8M,a8W,or_false,forall_eq];refine aR λo E=>?_;simp only[go_sem];exact bE (vs:=[.ptr o 2 0 0]) (.inr rfl) (PH.nil.set o (bX .aF 0)) rfl b_ (y o .aF (.inl ⟨h,rfl⟩))
  ·simp only[go_sem,a8M,a8W,or_false,forall_eq];refine aR λp hp=>?_;have d:¬p=o:=(kD.1 hp).1;have e:¬o=p:=λh=>d h.symm;simp only[go_sem];refine P7 (v:=.ptr p 2 0 0) (q:=o) (s:=1) (rs:=nL L) (H2:=PH.nil.set p (bX (.sl 1 (nL L)) 0)) (.inr rfl) rfl (by simp only[go_sem,e]) (e_ a_ ?_) (y p _ (.inr rfl));have B:(nL L).take L.length=nL L:=a8T (by rw[el];exact a8E _);simp only[go_sem,d,aU.frz,PV.dZ,a7Z,B];rfl
 simp only[aC.wp,go_sem]at fin;by_cases c:Z' l>400
 ·have i:(Z' l:Int)>400:=Om;have A:(400:Int)≤(Z' l:Int):=Om;simp only[go_sem,i,aoQ,a7Z,A];refine fin _ ?_;rw[oS,aG rfl];simp[nL]
 ·have i:¬(Z' l:Int)>400:=Om;simp only[go_sem,i];refine fin _ ?_;rw[a8T Om];simp only[go_sem]
def tr(l:List Nat)(v:PV)(o n a:Nat)(r:PV)(H:PH):Prop:=r=.int .i64 ((aL l n a).1:Nat)∧H=PH.nil.set o (bX v (aL l n a).2)
theorem aNT{C:Ctx}{l:List Nat}{v:PV}(T:Tp l v)(o n a:Nat)(Q:n≤1000000)(N:a≤Z' l):ER.wp C (aY Qr.res (tr l v o n a)) (PF.args [.ptr o 2 0 0,.int .i64 n]) (PH.nil.set o (bX v a)):=by
 obtain⟨K,hb,O⟩:=T;have zero:(Z' l≤a∨n<2)→∀F,aC.wp C (.seq (.region qg) .ret) (aY [.tmp 4] (tr l v o n a)) F (PH.nil.set o (bX v a)):=by
  intro h F;have e:aL l n a=(0,a):=by unfold aL;rw[aG h]
  simp only[go_sem,qg];exact bE (vs:=[.int .i64 0]) (.inr rfl) _ rfl b_ ⟨by rw[e];rfl,by rw[e]⟩
 simp only[aC.wp,go_sem]at zero;rcases K with⟨H,rfl⟩|rfl
 ·have M:Z' l=0:=by rw[←el,H];rfl
  have u:(a:Int)≥0:=Om;simp only[go_sem,ER,qf,Qr];refine cP .nil fT a_ ?_;simp only[go_sem,TA,u];exact zero (.inl Om) _
 simp only[go_sem,ER,qf,Qr];refine cP .nil fT a_ ?_;by_cases x:Z' l≤a
 ·have d:(a:Int)≥(Z' l:Nat):=Om;simp only[go_sem,TA,a7Z,d];exact zero (.inl x) _
 have d:¬(a:Int)≥(Z' l:Nat):=Om;simp only[go_sem,TA,a7Z,d];by_cases y:n<2
 ·have i:(n:Int)<2:=Om;simp only[go_sem,i];exact zero (.inr y) _
 have i:¬(n:Int)<2:=Om;have p:a<Z' l:=Om;have e:aL l n a=(l[a]%n,a+1):=by unfold aL;rw[aD Om];simp[a8V,p]
 have E:IntKind.i64.wrap ((a:Int)+1)=((a+1:Nat):Int):=eQ Om;have B:IntKind.i64.wrap (((a+1:Nat):Int)-1)=((a:Nat):Int):=by rw[wrap_i64 Om Om];omega
 have J:=aQH l p;have R:=hb _ (a8G p);have A:IntKind.i64.wrap ((l[a]:Nat):Int)=((l[a]:Nat):Int):=sv Om;have w:¬((n:Nat):Int)=0:=Om;have em:Int.tmod ((l[a]:Nat):Int) ((n:Nat):Int)=((l[a]%n:Nat):Int):=rfl;simp only[go_sem,i,Y7,E];refine cP .nil fT a_ ?_;simp only[go_sem,Y8,B,J,A,w,em];exact bE (vs:=[.int .i64 (l[a]%n:Nat)]) (.inr rfl) _ rfl b_ ⟨by rw[e];rfl,by rw[e]⟩
def PV.oid:PV→Option Nat
 | .osl q _ _ _=>some q
 |_=>none
abbrev LI:=PV × Nat × List (List PV)
abbrev BX:=Nat × aU
def gD(B:List BX):List Nat:=B.map (·.1)
def fN(L:List LI):List Nat:=L.filterMap λx=>x.1.oid
structure aT(H:PH)(B:List BX)(L:List LI):Prop where
 box:∀b∈B,H b.1=some b.2
 lst:∀x∈L,bJ H x.2.1 x.1 x.2.2
 nd:(gD B++fN L).Nodup
section
variable {C:Ctx} {H:PH} {B:List BX} {L:List LI} {K:PV→PH→Prop}
theorem bJ.id{s q:Nat}{v:PV}{rows:List (List PV)}(h:bJ H s v rows)(d:v.oid=some q):∃rs,H q=some (.rows s rs)∧v=.osl q s 0 rows.length∧Z' rows≤Z' rs∧rs.take rows.length=rows:=by
 rcases h with⟨_,rfl⟩|⟨p,rs,rfl,h1,h2,h3⟩
 ·cases d
 ·cases d;exact⟨rs,h1,rfl,h2,h3⟩
theorem bJ.same{s:Nat}{v:PV}{rows:List (List PV)}{H':PH}(h:bJ H s v rows)(d:∀q,v.oid=some q→H' q=H q):bJ H' s v rows:=by
 rcases h with h|⟨p,rs,rfl,h1,h2,h3⟩
 ·exact .inl h
 ·exact .inr ⟨p,rs,rfl,by rw[d p rfl];exact h1,h2,h3⟩
theorem pS{x:LI}{q:Nat}(h:x∈L)(d:x.1.oid=some q):q∈fN L:=List.mem_filterMap.2 ⟨x,h,d⟩
theorem AW{b:BX}(h:b∈B):b.1∈gD B:=a9B.2 ⟨b,h,rfl⟩
theorem aT.nil:aT H [] []:=⟨by simp,by simp,by simp[gD,fN]⟩
theorem aT.at(h:aT H B L)(i:Nat){o:Nat}{x:aU}(hi:B[i]?=some (o,x)):H o=some x:=h.box _ (baH hi)
theorem aT.own(h:aT H B L)(i:Nat){s:Nat}{v:PV}{rows:List (List PV)}(hi:L[i]?=some (v,s,rows)):bJ H s v rows:=h.lst _ (baH hi)
theorem aT.ndB(h:aT H B L):(gD B).Nodup:=(bbA.1 h.nd).1
theorem aT.ndL(h:aT H B L):(fN L).Nodup:=(bbA.1 h.nd).2.1
theorem aT.ndX(h:aT H B L){o q:Nat}(d:o∈gD B)(e:q∈fN L):o≠q:=(bbA.1 h.nd).2.2 o d q e
theorem aT.ne(h:aT H B L)(i j:Nat){o p:Nat}{x y:aU}(hi:B[i]?=some (o,x))(F:B[j]?=some (p,y))(d:i≠j):o≠p:=by
 intro e;have A:(gD B)[i]?=some o:=by unfold gD;rw[a8Y,hi];rfl
 have E:(gD B)[j]?=some p:=by unfold gD;rw[a8Y,F];rfl
 obtain⟨u,l⟩:=a9I.1 A;obtain⟨w,e2⟩:=a9I.1 E;have hp:=List.pairwise_iff_getElem.1 h.ndB;rcases Nat.lt_or_gt_of_ne d with g|g
 ·exact hp i j u w g (by rw[l,e2,e])
 ·exact hp j i w u g (by rw[l,e2,e])
theorem aT.neL(h:aT H B L)(i j:Nat){o q:Nat}{x:aU}{y:LI}(hi:B[i]?=some (o,x))(d:L[j]?=some y)(e:y.1.oid=some q):o≠q:=
 h.ndX (AW (baH hi)) (pS (baH d) e)
theorem aT.fresh(h:aT H B L){o:Nat}(d:H o=none):o ∉ gD B∧o ∉ fN L:=by
 refine⟨λi=>?_,λi=>?_⟩
 ·obtain⟨b,hb,rfl⟩:=a9B.1 i;rw[h.box b hb]at d;cases d
 ·obtain⟨x,p,e⟩:=List.mem_filterMap.1 i;obtain⟨rs,l,_⟩:=(h.lst x p).id e;rw[l]at d;cases d
theorem aT.keep(h:aT H B L){H':PH}(d:∀q,q∈gD B∨q∈fN L→H' q=H q):aT H' B L:=
 ⟨λb hb=>by rw[d _ (.inl (AW hb))];exact h.box b hb,λx e=>(h.lst x e).same λq i=>d q (.inr (pS e i)),h.nd⟩
theorem aMI{i:Nat}{o:Nat}{x y:aU}(hi:B[i]?=some (o,x)):gD (B.set i (o,y))=gD B:=by
 unfold gD;rw[List.map_set];refine List.ext_getElem? λj=>?_;rw[bcD];split
 ·rename_i e;subst e;rw[a8Y,hi];have:=(a9I.1 hi).1;simp[this]
 ·rfl
theorem aT.set(h:aT H B L)(i:Nat){o:Nat}{x:aU}(hi:B[i]?=some (o,x))(y:aU):aT (H.set o y) (B.set i (o,y)) L:=by
 have p:o∈gD B:=AW (baH hi);refine⟨λb hb=>?_,λz u=>(h.lst z u).same λq w=>?_,by rw[aMI hi];exact h.nd⟩
 ·obtain⟨j,d⟩:=List.mem_iff_getElem?.1 hb;rw[bcD]at d;split at d
  ·split at d
   ·cases d;simp only[aS,if_true]
   ·cases d
  ·rename_i l;have:b.1≠o:=λe=>h.ne i j hi (show B[j]?=some (b.1,b.2)from d) l e.symm;rw[aS,aD this];exact h.box b (baH d)
 ·have:q≠o:=λe=>h.ndX p (pS u w) e.symm;rw[aS,aD this]
theorem aT.new(h:aT H B L){o:Nat}(i:H o=none)(y:aU):aT (H.set o y) (B++[(o,y)]) L:=by
 obtain⟨f1,f2⟩:=h.fresh i;refine⟨λb hb=>?_,λz d=>(h.lst z d).same λq hq=>?_,?_⟩
 ·rw[a9T,baQ]at hb;rcases hb with hb|rfl
  ·have:b.1≠o:=λe=>f1 (e ▸ AW hb);rw[aS,aD this];exact h.box b hb
  ·simp only[aS,if_true]
 ·have:q≠o:=λe=>f2 (e ▸ pS d hq);rw[aS,aD this]
 ·have:=h.nd;simp only[gD,a8Z,a9D,baB]at *
  rw[a9G,bbA]at *
  obtain⟨a,b,c⟩:=this;refine⟨a,?_,λp hp q hq=>?_⟩
  ·rw[List.singleton_append,List.nodup_cons];exact⟨f2,b⟩
  ·rw[List.singleton_append,a8M]at hq;rcases hq with rfl|hq
   ·intro e;subst e;exact f1 hp
   ·exact c p hp q hq
theorem pD(L1 L2:List LI):fN (L1++L2)=fN L1++fN L2:=List.filterMap_append ..
theorem aT.sE(h:aT H B L)(s:Nat):aT H B (L++[(.aF,s,[])]):=by
 refine⟨h.box,λz d=>?_,?_⟩
 ·rw[a9T,baQ]at d;rcases d with d|rfl
  ·exact h.lst z d
  ·exact .nil
 ·rw[pD,show fN [((.aF:PV),s,([]:List (List PV)))]=[]from rfl,a9W];exact h.nd
theorem aT.aAB(h:aT H B L){o s:Nat}{rows:List (List PV)}(l:H o=none):aT (H.set o (.rows s rows)) B (L++[(.osl o s 0 rows.length,s,rows)]):=by
 obtain⟨f1,f2⟩:=h.fresh l;have i:=h.keep (H':=H.set o (.rows s rows)) λq d=>by
  have:q≠o:=by rintro rfl;exact d.elim f1 f2
  rw[aS,aD this]
 refine⟨i.box,λz e=>?_,?_⟩
 ·rw[a9T,baQ]at e;rcases e with e|rfl
  ·exact i.lst z e
  ·exact .inr ⟨o,rows,rfl,by simp only[aS,if_true],a8E _,a9E⟩
 ·rw[pD,show fN [((.osl o s 0 rows.length:PV),s,rows)]=[o]from rfl,←a9G,bbA];refine⟨h.nd,by simp,λp hp q d=>?_⟩;rw[baQ]at d;subst d;rintro rfl;rcases a9T.1 hp with hp|hp
  ·exact f1 hp
  ·exact f2 hp
theorem Wi{i:Nat}{v v':PV}{s s':Nat}{rows rows':List (List PV)}(hi:L[i]?=some (v,s,rows)):∃L1 L2,L=L1++(v,s,rows)::L2∧L.set i (v',s',rows')=L1++(v',s',rows')::L2:=by
 obtain⟨d,e⟩:=a9I.1 hi;refine⟨L.take i,L.drop (i+1),?_,?_⟩
 ·rw[←e,←baJ d,bbC]
 ·rw[List.set_eq_take_append_cons_drop,aG d]
theorem aT.UX(h:aT H B L)(i:Nat){s:Nat}{v:PV}{rows:List (List PV)}(hi:L[i]?=some (v,s,rows)){s':Nat}{v':PV}{rows':List (List PV)}{H':PH}(M:bJ H' s' v' rows')
  (E:∀q,v'.oid=some q→v.oid=some q∨H q=none) (J:∀q,q∈gD B∨q∈fN L→(∀p,v.oid=some p→q≠p)→H' q=H q):aT H' B (L.set i (v',s',rows')):=by
 obtain⟨L1,L2,F,e2⟩:=Wi (v':=v') (s':=s') (rows':=rows') hi;rw[e2];subst F;have d:=h.nd;have y:fN (L1++(v,s,rows)::L2)=fN L1++(v.oid.toList++fN L2):=by rw[pD];congr 1;unfold fN;rw[List.filterMap_cons];cases e:v.oid<;>simp
 have A:fN (L1++(v',s',rows')::L2)=fN L1++(v'.oid.toList++fN L2):=by rw[pD];congr 1;unfold fN;rw[List.filterMap_cons];cases e:v'.oid<;>simp
 rw[y]at d;have w:∀q,q∈gD B∨q∈fN L1∨q∈fN L2→∀p,v.oid=some p→q≠p:=by
  intro q hq p hp e;subst e;rw[hp]at d;simp only[Option.toList_some]at d;rw[bbA]at d;obtain⟨a,b,c⟩:=d;rw[bbA]at b;obtain⟨b1,b2,x⟩:=b;rw[List.singleton_append,List.nodup_cons]at b2;rcases hq with hq|hq|hq
  ·exact c q hq q bD rfl
  ·exact x q hq q bD rfl
  ·exact b2.1 hq
 have l:∀q,q∈gD B∨q∈fN L1∨q∈fN L2→H' q=H q:=by
  intro q hq;refine J q ?_ (w q hq);rw[y];simp only[a9T];rcases hq with hq|hq|hq
  ·exact .inl hq
  ·exact .inr (.inl hq)
  ·exact .inr (.inr (.inr hq))
 refine⟨λb hb=>by rw[l _ (.inl (AW hb))];exact h.box b hb,λz hz=>?_,?_⟩
 ·rw[a9T,a8M]at hz;rcases hz with hz|rfl|hz
  ·exact(h.lst z (by simp[hz])).same λq hq=>l q (.inr (.inl (pS hz hq)))
  ·exact M
  ·exact(h.lst z (by simp[hz])).same λq hq=>l q (.inr (.inr (pS hz hq)))
 ·rw[A];cases e:v'.oid with
  |none =>simp only[Option.toList_none,bbS];refine List.Nodup.sublist ?_ d;exact baM.append (baM.refl _) (baM.append (baM.refl _) (List.sublist_append_right _ _))
  |some q=>
   rcases E q e with N|hn
   ·rw[N]at d;exact d
   ·obtain⟨f1,f2⟩:=h.fresh hn;rw[y]at f2;simp only[a9T,not_or]at f2;have u:(gD B++(fN L1++fN L2)).Nodup:=List.Nodup.sublist (baM.append (baM.refl _) (baM.append (baM.refl _) (List.sublist_append_right _ _))) d;simp only[Option.toList_some];rw[bbA]at u ⊢;obtain⟨a,b,c⟩:=u;rw[bbA]at b;obtain⟨b1,b2,x⟩:=b;refine⟨a,?_,?_⟩
    ·rw[bbA];refine⟨b1,by rw[List.singleton_append,List.nodup_cons];exact⟨f2.2.2,b2⟩,λp hp r hr=>?_⟩;rw[List.singleton_append,a8M]at hr;rcases hr with rfl|hr
     ·rintro rfl;exact f2.1 hp
     ·exact x p hp r hr
    ·intro p hp r hr;rw[a9T,List.singleton_append,a8M]at hr;rcases hr with hr|rfl|hr
     ·exact c p hp r (by simp[hr])
     ·rintro rfl;exact f1 hp
     ·exact c p hp r (by simp[hr])
theorem aT.append(h:aT H B L)(i:Nat){s b:Nat}{v y:PV}{rows src:List (List PV)}(hi:L[i]?=some (v,s,rows))(E:dW H s y=some src)(A:roomFor rows.length src.length b)
  (w:∀v' H',aT H' B (L.set i (v',s,rows++src))→(src≠[]→∃q,v'=.osl q s 0 (rows++src).length)→K v' H'):oP H s b v y K:=by
 rcases h.own i hi with⟨rfl,rfl⟩|⟨q,rs,rfl,h1,h2,h3⟩
 ·refine⟨src,E,A,λe=>?_,λe o l=>?_⟩
  ·subst e;refine w _ _ ?_ λh=>absurd rfl h;exact h.UX i hi (.inl ⟨rfl,rfl⟩) (λq u=>by cases u) λq _ _=>rfl
  ·refine w _ _ (h.UX i hi (.inr ⟨o,src,rfl,by simp only[aS,if_true],a8E _,a9E⟩) (λq u=>by cases u;exact .inr l) λq u _=>?_) λ_=>⟨o,rfl⟩;obtain⟨f1,f2⟩:=h.fresh l;have:q≠o:=by rintro rfl;exact u.elim f1 f2
   rw[aS,aD this]
 ·have d:(rows++src).length=Z' rows+Z' src:=a8F;refine⟨src,E,rfl,rfl,A,rs,h1,h2,?_,λo l=>?_⟩
  ·rw[h3];refine w _ _ (h.UX i hi (.inr ⟨q,rows++src,by rw[d],by simp only[aS,if_true],a8E _,a9E⟩) (λp hp=>by cases hp;exact .inl rfl) λp _ hp=>?_) λ_=>⟨q,by rw[d]⟩;rw[aS,aD (hp q rfl)]
  ·rw[h3];refine w _ _ (h.UX i hi (.inr ⟨o,rows++src,by rw[d],by simp only[aS,if_true],a8E _,a9E⟩) (λp hp=>by cases hp;exact .inr l) λp x hp=>?_) λ_=>⟨o,by rw[d]⟩;obtain⟨f1,f2⟩:=h.fresh l;have F:p≠o:=by rintro rfl;exact x.elim f1 f2
   rw[aS,aD F]
theorem aT.sub(h:aT H B L){B':List BX}{L':List LI}(hB:B'.Sublist B)(d:L'.Sublist L):aT H B' L':=
 ⟨λb hb=>h.box b (hB.subset hb),λx e=>h.lst x (d.subset e),List.Nodup.sublist (baM.append (hB.map _) (d.filterMap _)) h.nd⟩
theorem aT.BK(h:aT H B L)(i:Nat):aT H (B.eraseIdx i) L:=h.sub (List.eraseIdx_sublist ..) (baM.refl _)
theorem aT.axP(h:aT H B L)(i:Nat):aT H B (L.eraseIdx i):=h.sub (baM.refl _) (List.eraseIdx_sublist ..)
end
section
variable {C:Ctx} {F:PF} {H:PH} {B:List BX} {L:List LI}
theorem aT.ir(h:aT H B L){q:Nat}(hq:q∈gD B∨q∈fN L):∃x,H q=some x:=by
 rcases hq with hq|hq
 ·obtain⟨b,hb,rfl⟩:=a9B.1 hq;exact⟨_,h.box b hb⟩
 ·obtain⟨x,i,e⟩:=List.mem_filterMap.1 hq;obtain⟨rs,d,_⟩:=(h.lst x i).id e;exact⟨_,d⟩
theorem aT.perm(h:aT H B L){B':List BX}{L':List LI}(hB:B.Perm B')(d:L.Perm L'):aT H B' L':=
 ⟨λb hb=>h.box b (hB.mem_iff.2 hb),λx e=>h.lst x (d.mem_iff.2 e),(List.Perm.nodup_iff ((hB.map _).append (d.filterMap _))).1 h.nd⟩
theorem aT.only(h:aT H B L){B1:List BX}{L1:List LI}(hB:B1.Sublist B)(d:L1.Sublist L):aT (H.only (gD B1++fN L1)) B1 L1:=by
 refine(h.sub hB d).keep λq e=>?_;rw[xW];rw[aG (a9T.2 e)]
theorem aXJ{a b c d:List Nat}(i:(a++c).Nodup)(l:(b++d).Nodup)(u:∀q,q∈a∨q∈c→q∈b∨q∈d→False):((a++b)++(c++d)).Nodup:=by
 have e:List.Perm ((a++b)++(c++d)) ((a++c)++(b++d)):=by rw[a9G,a9G];exact List.Perm.append_left a (by rw[←a9G,←a9G];exact List.Perm.append_right d List.perm_append_comm)
 rw[e.nodup_iff,bbA];refine⟨i,l,λp hp q w=>?_⟩;rintro rfl;exact u p (a9T.1 hp) (a9T.1 w)
theorem aT.frame{H':PH}{B1 B2 B':List BX}{L1 L2 L':List LI}(h:aT H (B1++B2) (L1++L2))(u:aT H' B' L')(J:pU H (H.only (gD B1++fN L1)) H'):aT (H.over (H.only (gD B1++fN L1)) H') (B'++B2) (L'++L2):=by
 have A:aT H B2 L2:=h.sub (List.sublist_append_right ..) (List.sublist_append_right ..);have l:∀q,q∈gD B2∨q∈fN L2→¬(q∈gD B1++fN L1):=by
  intro q d K;have i:=h.nd;rw[show gD (B1++B2)=gD B1++gD B2 from a8Z,pD]at i;have e:List.Perm ((gD B1++gD B2)++(fN L1++fN L2)) ((gD B1++fN L1)++(gD B2++fN L2)):=by rw[a9G,a9G];exact List.Perm.append_left _ (by rw[←a9G,←a9G];exact List.Perm.append_right _ List.perm_append_comm)
  rw[e.nodup_iff,bbA]at i;exact i.2.2 q K q (a9T.2 d) rfl
 have new:∀q,q∈gD B'∨q∈fN L'→(H.over (H.only (gD B1++fN L1)) H') q=H' q:=by intro q d;obtain⟨x,hx⟩:=u.ir d;rw[kT,hx]
 have E:∀q,q∈gD B2∨q∈fN L2→(H.over (H.only (gD B1++fN L1)) H') q=H q:=by
  intro q d;obtain⟨x,hx⟩:=A.ir d;have w:(H.only (gD B1++fN L1)) q=none:=by rw[xW,aD (l q d)]
  rw[kT];cases e:H' q with
  |none=>simp only[w]
  |some y =>have:=J q y e w;rw[hx]at this;cases this
 have k1:=u.keep new;have k2:=A.keep E;refine⟨λb hb=>?_,λx hx=>?_,?_⟩
 ·rcases a9T.1 hb with hb|hb
  ·exact k1.box b hb
  ·exact k2.box b hb
 ·rcases a9T.1 hx with hx|hx
  ·exact k1.lst x hx
  ·exact k2.lst x hx
 ·rw[show gD (B'++B2)=gD B'++gD B2 from a8Z,pD];refine aXJ u.nd A.nd λq d p=>?_;obtain⟨x,hx⟩:=u.ir d;obtain⟨y,M⟩:=A.ir p;have w:(H.only (gD B1++fN L1)) q=none:=by rw[xW,aD (l q p)]
  have:=J q x hx w;rw[M]at this;cases this
theorem OB{name:Nat}{vs:List PV}{args:List aQ}{d:Option Nat}{K:PF→PH→Prop}{B1 B2:List BX}{L1 L2:List LI}{Q:PV→List BX→List LI→Prop}(h:aT H (B1++B2) (L1++L2))
  (u:∀i,aT i B1 L1→aH C name vs i (λr H'=>∃B' L',Q r B' L'∧aT H' B' L')) (p:aQ.evs F args=some vs)
  (w:∀r B' L' H',Q r B' L'→aT H' (B'++B2) (L'++L2)→K (F.put d r) H'):kY C name args [] d K F H:=by
 refine pB (u (H.only (gD B1++fN L1)) (h.only (List.sublist_append_left ..) (List.sublist_append_left ..))) p (ig H _) ?_;rintro r H' ⟨B',L',x,l⟩ e;exact w r B' L' _ x (h.frame l e)
theorem aT.XR{B:List BX}{o:Nat}{x:aU}(h:aT H (B++[(o,x)]) L):H o=some x:=h.box (o,x) bD
theorem aT.Fj{B:List BX}{o:Nat}{x:aU}(h:aT H (B++[(o,x)]) L)(y:aU):aT (H.set o y) (B++[(o,y)]) L:=by
 have:=h.set B.length (o:=o) (x:=x) bD y
 rwa[bbB _ _ (a8E _),baV]at this
theorem aT.dropLast{B:List BX}{b:BX}(h:aT H (B++[b]) L):aT H B L:=h.sub (List.sublist_append_left ..) (baM.refl _)
theorem aT.aVC{B:List BX}{o:Nat}{x:aU}(h:aT H ((o,x)::B) L)(y:aU):aT (H.set o y) ((o,y)::B) L:=h.set 0 rfl y
theorem aT.aWS{B:List BX}{o:Nat}{x:aU}(h:aT H ((o,x)::B) L):H o=some x:=h.at 0 rfl
theorem pJ{name o:Nat}{x y:aU}{r:PV}{vs:List PV}{args:List aQ}{d:Option Nat}{K:PF→PH→Prop}(h:aH C name vs (PH.nil.set o x) (λr' H'=>r'=r∧H'=PH.nil.set o y))(l:H o=some x)(e:aQ.evs F args=some vs)
  (i:K (F.put d r) (H.set o y)):kY C name args [] d K F H:=by
 refine pB h e (e_ a_ l) ?_;rintro r' H' ⟨rfl,rfl⟩ -;rw[PH.zL];exact i
theorem aKX{Hs:PH}{S:Spec}{name o:Nat}{x y:aU}{r:PV}{vs:List PV}{R:PH→PV→PH→Prop}{args:List aQ}{st:Bool}{d:Option Nat}{K:PF→PH→Prop}(N:S name vs=some ([o],R))(J:H o=some x)
  (h:aH C name vs (PH.nil.set o x) (λr' H'=>r'=r∧H'=PH.nil.set o y)) (i:R (PH.nil.set o x) r (PH.nil.set o y)) (u:∀r' H',R (PH.nil.set o x) r' H'→r'=r∧H'=PH.nil.set o y) (O:aQ.evs F args=some vs)
  (w:Hs.le (H.set o y)) (Q:K (F.put d r) (H.set o y)):dOp C Hs S st (.call name args) d K F H:=by
 have e:=ri J;refine⟨vs,[o],_,O,N,λq M=>?_,?_,λG=>⟨r,_,by rw[e];exact i,λq z E p=>?_⟩,λr' H' l _=>?_⟩
 ·simp at M;subst M;exact⟨x,J⟩
 ·rw[e];exact h.post λr' H' l=>⟨r',.refl _,by rw[l.1,l.2];exact i⟩
 ·rw[e]at p;rw[aS]at E p;split at p
  ·cases p
  ·rename_i A;rw[aD A]at E;cases E
 ·rw[e]at l;obtain⟨rfl,rfl⟩:=u r' H' l;rw[e,PH.zL];exact⟨w,Q⟩
theorem aPI{s:Nat}{q z:Nat}{rs:List (List PV)}{v:PV}{rows:List (List PV)}(h:bJ H s v rows)(i:v.oid≠some q):bJ (H.frz q z rs) s v (rows.map λr=>r.map (PV.dZ q z rs)):=by
 rcases h with⟨rfl,rfl⟩|⟨p,rs',rfl,h1,h2,h3⟩
 ·exact .inl ⟨rfl,rfl⟩
 ·have d:¬p=q:=λe=>i (by rw[e];rfl);refine .inr ⟨p,rs'.map λr=>r.map (PV.dZ q z rs),by rw[a7Z],?_,by simpa using h2,?_⟩
  ·rw[GF,aD d,h1];rfl
  ·rw[a7Z,←baY,h3]
theorem aT.frz(h:aT H B L)(i:Nat){q s k:Nat}{rows:List (List PV)}(hi:L[i]?=some (.osl q s 0 k,s,rows)):∃rs,H q=some (.rows s rs)∧PV.dZ q s rs (.osl q s 0 k)=.sl s rows∧PV.frz q s rs (.osl q s 0 k)=.sl s rows∧(∀j x,j≠i→L[j]?=some x→PV.dZ q s rs x.1=x.1) ∧
  aT (H.frz q s rs) (B.map λb=>(b.1,b.2.frz q s rs)) ((L.eraseIdx i).map λx=>(x.1,x.2.1,x.2.2.map λr=>r.map (PV.dZ q s rs))):=by
 obtain⟨rs,U,V,W,X⟩:=(h.own i hi).id rfl;injection V with _ _ _ hk
 subst hk;have e:PV.frz q s rs (.osl q s 0 rows.length)=.sl s rows:=by rw[AP W,X]
 refine⟨rs,U,e,e,?_⟩;refine⟨λj x K R=>?_,?_⟩
 ·have l:x.1.oid≠some q:=by
   intro l;obtain⟨M,J⟩:=a9I.1 hi;obtain⟨α,Y⟩:=a9I.1 R;have u:x∈L.eraseIdx i:=List.mem_eraseIdx_iff_getElem?.2 ⟨j,K,R⟩;have d:=h.ndL;have O:L=L.take i++(L[i]::L.drop (i+1)):=by rw[←baJ M,bbC]
   rw[List.eraseIdx_eq_take_drop_succ]at u;rw[O,pD]at d;have E:fN (L[i]::L.drop (i+1))=q::fN (L.drop (i+1)):=by rw[J];rfl
   rw[E,bbA]at d;obtain⟨a,b,c⟩:=d;rcases a9T.1 u with hx|hx
   ·exact c q (pS hx l) q bD rfl
   ·exact(List.nodup_cons.1 b).1 (pS hx l)
  cases hx:x.1<;>try rfl
  rename_i p z β len;have:¬p=q:=λe=>l (by rw[hx,e];rfl);simp only[PV.dZ,aD this]
 obtain⟨L1,L2,e1,e2⟩:=Wi (v':=.aF) (s':=s) (rows':=rows) hi;have Z:i=Z' L1∨True:=.inr trivial;have w:(L.eraseIdx i).Sublist L:=List.eraseIdx_sublist ..;have N:∀x∈L.eraseIdx i,x.1.oid≠some q:=by
  intro x hx l;obtain⟨M,J⟩:=a9I.1 hi;have d:=h.ndL;have O:L=L.take i++(L[i]::L.drop (i+1)):=by rw[←baJ M,bbC]
  rw[List.eraseIdx_eq_take_drop_succ]at hx;rw[O,pD]at d;have E:fN (L[i]::L.drop (i+1))=q::fN (L.drop (i+1)):=by rw[J];rfl
  rw[E,bbA]at d;obtain⟨a,b,c⟩:=d;rcases a9T.1 hx with hx|hx
  ·exact c q (pS hx l) q bD rfl
  ·exact(List.nodup_cons.1 b).1 (pS hx l)
 refine⟨λb hb=>?_,λx hx=>?_,?_⟩
 ·obtain⟨Q,y,rfl⟩:=a9B.1 hb;have:¬Q.1=q:=h.ndX (AW y) (pS (baH hi) rfl);simp only;rw[GF,aD this,h.box Q y];rfl
 ·obtain⟨S,A,rfl⟩:=a9B.1 hx;exact aPI (h.lst S (w.subset A)) (N S A)
 ·have i1:gD (B.map λb=>(b.1,b.2.frz q s rs))=gD B:=by unfold gD;rw[bbG];rfl
  have i2:fN ((L.eraseIdx i).map λx=>(x.1,x.2.1,x.2.2.map λr=>r.map (PV.dZ q s rs)))=fN (L.eraseIdx i):=by unfold fN;rw[List.filterMap_map];rfl
  rw[i1,i2];exact List.Nodup.sublist (baM.append (baM.refl _) (w.filterMap _)) h.nd
def Flat(rows:List (List PV)):Prop:=∀q s rs,rows.map (λr=>r.map (PV.dZ q s rs))=rows
theorem Flat.nil:Flat []:=λ_ _ _=>rfl
theorem Flat.of{rows:List (List PV)}(h:∀r∈rows,∀c∈r,∀q s rs,PV.dZ q s rs c=c):Flat rows:=λq s rs=>by
 conv=>rhs;rw[←List.map_id rows]
 refine baZ λr e=>?_
 conv=>rhs;rw[id,←List.map_id r]
 exact baZ λc d=>h r e c d q s rs
theorem Flat.map{α:Type}{f:α→List PV}(l:List α)(h:∀x,∀c∈f x,∀q s rs,PV.dZ q s rs c=c):Flat (l.map f):=Flat.of λr d=>by
 obtain⟨x,_,rfl⟩:=a9B.1 d;exact h x
theorem Flat.append{r1 r2:List (List PV)}(d:Flat r1)(e:Flat r2):Flat (r1++r2):=λq s rs=>by rw[a8Z,d,e]
theorem aT.flat{φ:PV→List (List PV)}(h:aT H B L):aT H B L:=h
def IV(v:PV)(H:PH)(R:PV→PH→Prop):Prop:=∃d e H2,kC (PF.nil.set 0 v) H d e∧H2.le e∧∃u,d 0=some u∧R u H2
theorem IV.done{v:PV}{H2:PH}{R:PV→PH→Prop}(e:R v H2)(d:H2.le H):IV v H R:=⟨_,_,H2,.refl _ _,d,v,by rw[oS,aG rfl],e⟩
theorem IV.step{v:PV}{q s:Nat}{rs:List (List PV)}{R:PV→PH→Prop}(x:H q=some (.rows s rs))(h:IV (PV.frz q s rs v) (H.frz q s rs) R):IV v H R:=by
 obtain⟨d,l,H2,p,u,w⟩:=h;have e:(PF.nil.set 0 v).frz q s rs=PF.nil.set 0 (PV.frz q s rs v):=by funext i;rw[wD,oS,oS];split<;>rfl
 exact⟨d,l,H2,.step q x (by rw[e];exact p),u,w⟩
theorem PK{res:List eN}{R:PV→PH→Prop}{vs:List PV}{e:mZ}(p:e=.normal∨e=.ret)(h:eN.evs F H res=some vs)(w:IV (bR vs) H R):aY res R e F H:=by
 have d:∃vs,eN.evs F H res=some vs∧∃i l H2,kC (PF.nil.set 0 (bR vs)) H i l∧H2.le l∧∃u,i 0=some u∧R u H2:=⟨vs,h,w⟩;rcases p with rfl|rfl<;>exact d
theorem w8{u:PV}(h:u.oid=none)(q s:Nat)(rs:List (List PV)):PV.dZ q s rs u=u:=by
 cases u<;>first|rfl|(simp[PV.oid]at h)
theorem Seen.co{s:Nat}{v:PV}{rows:List (List PV)}(h:Seen s v rows):Co v (.sl s rows):=by
 rcases h with⟨rfl,rfl⟩|rfl
 ·exact .nil s
 ·exact .refl _
theorem aT.giveUp:∀(L:List LI){H:PH}{B:List BX},aT H B L→(∀x∈L,Flat x.2.2)→(∀b∈B,∀q s rs,aU.frz q s rs b.2=b.2) →
  ∃(φ:PV→PV)(i:PH),(∀x∈L,Seen x.2.1 (φ x.1) x.2.2)∧(∀u,u.oid=none→φ u=u)∧aT i B []∧∀cs R,IV (.agg (cs.map φ)) i R→IV (.agg cs) H R
 |[],H,B,h,_,_=>⟨id,H,by simp,λ_ _=>rfl,h,λcs R y=>by rwa[List.map_id]at y⟩
 |(w,s,rows)::L,H,B,h,p,hB=>by
  have d:∀q z rs,(L.map λx=>(x.1,x.2.1,x.2.2.map λr=>r.map (PV.dZ q z rs)))=L:=λq z rs=>by
   conv=>rhs;rw[←List.map_id L]
   refine baZ λx hx=>?_;rw[p x (by simp[hx]) q z rs];rfl
  rcases h.own 0 rfl with⟨l,N⟩|⟨q,rs,l,_⟩
  ·obtain⟨φ,i,k1,k2,A,E⟩:=aT.giveUp L (h.axP 0) (λx hx=>p x (by simp[hx])) hB;refine⟨φ,i,λx hx=>?_,k2,A,E⟩;rw[a8M]at hx;rcases hx with rfl|hx
   ·exact .inl ⟨l,by simp only;rw[N];exact k2 _ rfl⟩
   ·exact k1 x hx
  ·subst l;obtain⟨rs,Q,S,W,U,K⟩:=h.frz 0 rfl;have V:aT (H.frz q s rs) B L:=by
    have M:(B.map λb=>(b.1,b.2.frz q s rs))=B:=by
     conv=>rhs;rw[←List.map_id B]
     refine baZ λb hb=>?_;rw[hB b hb q s rs];rfl
    rw[M]at K;have:=K;simp only[List.eraseIdx_cons_zero]at this
    rwa[d q s rs]at this
   obtain⟨φ,i,k1,k2,A,E⟩:=aT.giveUp L V (λx hx=>p x (by simp[hx])) hB;refine⟨λu=>φ (PV.dZ q s rs u),i,λx hx=>?_,λu J=>?_,A,λcs R y=>?_⟩
   ·rw[a8M]at hx;rcases hx with rfl|hx
    ·simp only;rw[S];exact .inr (k2 _ rfl)
    ·obtain⟨j,O⟩:=List.mem_iff_getElem?.1 hx;have:=U (j+1) x Om (by simpa using O);simp only;rw[this];exact k1 x hx
   ·simp only;rw[w8 J,k2 u J]
   ·refine .step Q ?_;have e:PV.frz q s rs (.agg cs)=.agg (cs.map (PV.dZ q s rs)):=rfl;rw[e];refine E _ R ?_;rw[bbG];exact y
theorem I4{K:cD}{α:Type}{d:α→PF}{Hs:α→PH}{e:α→Prop}{m:α→Nat}{n q s:Nat}{rs:List (List PV)}(a:α)(w:H q=some (.rows s rs))(i:e a)(u:m a<n)(l:(d a).le (F.frz q s rs))(p:(Hs a).le (H.frz q s rs)):gV d Hs e m n K .normal F H:=
 ⟨a,_,_,.step q w (.refl _ _),i,u,l,p⟩
end
structure PW(C:Ctx):Prop extends tx C where
 int:∀n:Int,eH n→aH C 47 [.int .i64 n] .nil (aK (.agg (mkT n 1).cells))
 itoa:∀n:Nat,n<100→aH C 195 [.int .i64 n] .nil (aK (.str (cU n)))
 next:∀(l:List Nat)(v:PV),Tp l v→∀(o n a:Nat),n≤1000000→a≤Z' l→aH C 4 [.ptr o 2 0 0,.int .i64 n] (PH.nil.set o (bX v a)) (tr l v o n a)
section
variable {C:Ctx} {F:PF} {H:PH} {l:List Nat} {v:PV} {o a:Nat}
theorem eX(i:PW C)(T:Tp l v){n:Nat}{args:List aQ}{d:Option Nat}{K:PF→PH→Prop}(w:n≤1000000)(p:a≤Z' l)(e:aQ.evs F args=some [.ptr o 2 0 0,.int .i64 n])(x:H o=some (bX v a))
  (u:K (F.put d (.int .i64 ((aL l n a).1:Nat))) (H.set o (bX v (aL l n a).2))):kY C 4 args [] d K F H:=
 pJ (i.next l v T o n a w p) x e u
end
def aRC(l:List Nat)(v:PV)(o a:Nat)(r:PV)(H:PH):Prop:=r=.agg (jA l a).1.cells∧H=PH.nil.set o (bX v (jA l a).2)
theorem AO(l:List Nat){a:Nat}(h:a≤Z' l):(jA l a).2≤Z' l:=cE l 8 (cE l 6 h)
theorem aNM{C:Ctx}(e:PW C){l:List Nat}{v:PV}(T:Tp l v)(o a:Nat)(w:a≤Z' l):SU.wp C (aY azP.res (aRC l v o a)) (PF.args [.ptr o 2 0 0]) (PH.nil.set o (bX v a)):=by
 simp only[go_sem,SU,Yj,azP];refine aR λp hp=>?_;have y:¬p=o:=(kD.1 hp).1;have d:¬o=p:=λh=>y h.symm;have K:=dC l (show 0<6 by decide) a;have a1:=cE l 6 w;simp only[go_sem,Yk];refine eX e T (o:=o) (n:=6) (a:=a) aV w rfl (by simp only[go_sem,d]) ?_;have E:IntKind.i64.wrap (1+((aL l 6 a).1:Int))=((1+(aL l 6 a).1:Nat):Int):=by rw[wrap_i64 Om Om];omega
 simp only[go_sem,E];have M:=dC l (show 0<8 by decide) (aL l 6 a).2;refine eX e T (o:=o) (n:=8) (a:=(aL l 6 a).2) aV a1 rfl Sq ?_;have e2:IntKind.i64.wrap (1+((aL l 8 (aL l 6 a).2).1:Int))=((1+(aL l 8 (aL l 6 a).2).1:Nat):Int):=by rw[wrap_i64 Om Om];omega
 simp only[go_sem,e2];refine aB (e.fmk ((1+(aL l 6 a).1:Nat):Int) ((1+(aL l 8 (aL l 6 a).2).1:Nat):Int) (by unfold eH;omega) (by unfold eH;omega)) rfl ?_;have J:¬((1+(aL l 8 (aL l 6 a).2).1:Nat):Int)=0:=Om;unfold DC;rw[aD J];simp only[go_sem];refine aR λq x=>?_;have A:¬q=o:=(kD.1 x).1;have B:¬q=p:=(kD.1 (kD.1 x).2).1;have u:¬p=q:=λh=>B h.symm;have i:¬o=q:=λh=>A h.symm;simp only[go_sem,Yl,y,d,A,B,u];refine bE (vs:=[.agg (jA l a).1.cells]) (.inr rfl) (PH.nil.set o (bX v (jA l a).2)) ?_ (e_ a_ ?_) ⟨rfl,rfl⟩
 ·simp only[go_sem];rfl
 ·simp only[go_sem,d,i];rfl
structure Rf(C:Ctx):Prop extends PW C where
 frac:∀(l:List Nat)(v:PV),Tp l v→∀(o a:Nat),a≤Z' l→aH C 1 [.ptr o 2 0 0] (PH.nil.set o (bX v a)) (aRC l v o a)
abbrev jX(l:List RF):List (List PV):=l.map RF.cells
theorem EH(l:List RF)(x:RF):jX l++[x.cells]=jX (l++[x]):=by simp[jX]
theorem RB(l:List RF):Flat (jX l):=Flat.map l λx c d q s rs=>by
 simp only[RF.cells,fR,a8M,a8W,or_false]at d;rcases d with rfl|rfl|rfl<;>rfl
theorem qJ(l:List RF):(jX l).length=Z' l:=by simp[jX]
theorem Tp.frz{l:List Nat}{v:PV}(T:Tp l v)(q s:Nat)(rs:List (List PV)):PV.dZ q s rs v=v:=by
 rcases T.seen with⟨_,rfl⟩|rfl<;>rfl
theorem PI(l:List Nat){a:Nat}(h:a≤Z' l):∀k,(oC l a k).2≤Z' l
 |0=>h
 |k+1=>AO l (PI l h k)
theorem abN(l:List Nat)(a:Nat):∀k,(oC l a k).1.length=k
 |0=>rfl
 |k+1=>by simp only[oC,a8F,a8J,abN l a k]
def aWL(l:List Nat)(v:PV)(o a k:Nat)(r:PV)(H:PH):Prop:=r=frs (oC l a k).1∧H=PH.nil.set o (bX v (oC l a k).2)
def azT(o:Nat)(m:Nat)(w:PV)(i:Nat):PF:=((((PF.nil.set 0 (.ptr o 2 0 0)).set 1 (.int .i64 m)).set 5 (w)).set 6 (.int .i64 i))
theorem aTZ{C:Ctx}(K:Rf C){l:List Nat}{v:PV}(T:Tp l v)(o a m:Nat)(U:m≤1000)(O:a≤Z' l):ZV.wp C (aY aNU.res (aWL l v o a (max m 1))) (PF.args [.ptr o 2 0 0,.int .i64 m]) (PH.nil.set o (bX v a)):=by
 have u:∀i:Nat,((i:Int)<(if(m:Int)<1 then 1 else(m:Int)))↔i<max m 1:=by intro i;split<;>omega
 simp only[go_sem,ZV,aoS,aoT,aoU,aNU];have M:aT (PH.nil.set o (bX v a)) [(o,bX v a)] [(.aF,3,jX [])]:=(aT.nil.new (H:=PH.nil) rfl (bX v a)).sE 3;refine wp_loop (α:=Nat × PV × PH) (λt=>azT o m t.2.1 t.1) (λt=>t.2.2) (λt=>t.1≤max m 1∧aT t.2.2 [(o,bX v (oC l a t.1).2)] [(t.2.1,3,jX (oC l a t.1).1)]) (λt=>max m 1-t.1) (0,.aF,PH.nil.set o (bX v a)) ⟨a8H _,M⟩ ?_ b_ ?_
 ·unfold azT;exact Lq
 rintro⟨k,w,S⟩ ⟨Q,p⟩;simp only at Q p ⊢;simp only[go_sem,aoR,aoV,azT];have B:=PI l O k;have d:=abN l a k;by_cases hlt:k<max m 1
 ·have A:=(u k).2 hlt;simp only[go_sem,A,aoW];refine pJ (K.frac l v T o _ B) (p.at 0 rfl) rfl ?_;have y:=p.set 0 rfl (bX v (jA l (oC l a k).2).2);have x:(1:Nat)*3≤16777216:=by decide
  simp only[go_sem,x];refine y.append 0 (src:=[(jA l (oC l a k).2).1.cells]) rfl rfl (by unfold roomFor;rw[qJ,d];simp only[a8J,maxLen];omega) λR H' J _=>?_;rw[EH]at J;simp only[go_sem,aoX,wZz k];refine aJ (k+1,R,H') ⟨hlt,J⟩ (by simp only;omega) ?_ b_;exact Lq
 ·have A:¬((k:Int)<(if(m:Int)<1 then 1 else(m:Int))):=λh=>hlt ((u k).1 h);have e:k=max m 1:=Om;subst e;simp only[go_sem,A,aoY];have E:jX (oC l a (max m 1)).1≠[]:=λh=>by have:=congrArg List.length h;rw[qJ,d]at this;simp at this
  rcases p.own 0 rfl with⟨N,_⟩|⟨q,rs,rfl,_⟩
  ·exact absurd N E
  obtain⟨rs,g1,g2,g3,-,g4⟩:=p.frz 0 rfl;refine PK (vs:=[.osl q 3 0 (jX (oC l a (max m 1)).1).length]) (.inr rfl) rfl (.step g1 (.done (H2:=PH.nil.set o (bX v (oC l a (max m 1)).2)) ?_ (e_ a_ ?_)))
  ·rw[bR,g3];exact⟨rfl,rfl⟩
  ·have:=g4.at 0 rfl;rw[this];simp only[aU.frz,a9D,baB,T.frz];rfl
theorem aNR{C:Ctx}(e:PW C)(s:List UInt8)(n:Nat)(u:Z' s≤100)(i:n<100):SZ.wp C (aY azS.res (aK (.str (s++cU n)))) (PF.args [.str s,.int .i64 n]) .nil:=by
 have p:(cU n).length≤2:=by
  unfold cU;rw[Lib.decDigits];split
  ·simp
  ·rw[Lib.decDigits,dif_pos Om];simp
 have d:¬(((Z' s+(cU n).length:Nat):Int)>9223372036854775807):=Om;simp only[go_sem,SZ,Y5,Y6,azS];refine aB (e.itoa n i) rfl ?_;simp only[go_sem,avQ,d];refine aX (.inr rfl) rfl ?_;rfl
structure yL(C:Ctx):Prop extends Rf C where
 rep:∀(l:List Nat)(v:PV),Tp l v→∀(o a m:Nat),m≤1000→a≤Z' l→aH C 5 [.ptr o 2 0 0,.int .i64 m] (PH.nil.set o (bX v a)) (aWL l v o a (max m 1))
 name:∀(s:List UInt8)(n:Nat),Z' s≤100→n<100→aH C 29 [.str s,.int .i64 n] .nil (aK (.str (s++cU n)))
theorem aKH(l:List Nat)(i j:Nat){a:Nat}(h:a≤Z' l):(lP l i j a).2≤Z' l:=by
 unfold lP;split
 ·exact AO l h
 ·split
  ·exact h
  ·simp only;split
   ·exact AO l (cE l 3 h)
   ·exact cE l 3 h
theorem Fh(l:List Nat)(i:Nat){a:Nat}(h:a≤Z' l):∀j,(fE l i a j).2≤Z' l
 |0=>h
 |j+1=>aKH l i j (Fh l i h j)
theorem r9(l:List Nat)(i a:Nat):∀j,(fE l i a j).1.length=j
 |0=>rfl
 |j+1=>by simp only[fE,a8F,a8J,r9 l i a j]
theorem pj(l:List Nat)(n i:Nat)(s:KZ)(h:s.a≤Z' l):(fC l n i s).2≤Z' l∧(fC l n i s).1≤s.left:=by
 unfold fC;split
 ·exact⟨cE l _ h,by have:=dC l (Om:0<s.left+1) s.a;omega⟩
 ·exact⟨h,a8E _⟩
theorem Tg(l:List Nat)(n i:Nat){a:Nat}(h:a≤Z' l):(gT l n i a).2≤Z' l:=by
 unfold gT;simp only;split
 ·exact cE l 3 (AO l h)
 ·exact AO l h
theorem D8(l:List Nat)(n:Nat){a:Nat}(h:a≤Z' l):∀i,(jR l n a i).a≤Z' l∧(jR l n a i).left≤8∧(jR l n a i).start.length=i∧(jR l n a i).exit.length=i∧(jR l n a i).a6T.length=i
 |0=>⟨h,a8E _,rfl,rfl,rfl⟩
 |i+1=>by
  obtain⟨d,w,e,p,h5⟩:=D8 l n h i;have u:=pj l n i (jR l n a i) d;refine⟨?_,?_,?_,?_,?_⟩
  ·exact Fh l i (Tg l n i u.1) n
  ·simp only[jR];omega
  ·simp only[jR,a8F,a8J,e]
  ·simp only[jR,a8F,a8J,p]
  ·simp only[jR,a8F,a8J,h5]
abbrev BC(l:List (List RF)):List (List PV):=l.map λr=>[frs r]
theorem K0(l:List (List RF)):Flat (BC l):=Flat.map l λx c d q s rs=>by
 simp only[a8M,a8W,or_false]at d;subst d;rfl
abbrev pe(d e i:PV):aU:=.rows 4 [[.str [],d,e,i]]
abbrev Wp:aU:=.rows 4 [[.str [],.aF,.aF,.aF]]
def jH(o o4 o6 n left i:Nat)(w:PV)(j:Nat):PF:=((((((((PF.nil.set 0 (.ptr o 2 0 0)).set 4 (.ptr o4 4 0 0)).set 5 (.int .i64 n)).set 6 (.ptr o6 4 0 0)).set 7 (.int .i64 left)).set 8 (.int .i64 i)).set 13 (w)).set 14 (.int .i64 j))
def eG(o o4 o6 n left i:Nat):PF:=((((((PF.nil.set 0 (.ptr o 2 0 0)).set 4 (.ptr o4 4 0 0)).set 5 (.int .i64 n)).set 6 (.ptr o6 4 0 0)).set 7 (.int .i64 left)).set 8 (.int .i64 i))
theorem pw{l:List RF}(h:Z' l≤1000):roomFor (jX l).length 1 56:=by
 unfold roomFor;rw[qJ];simp only[maxLen];omega
theorem aNQ{C:Ctx}(W:yL C){l:List Nat}{v:PV}(T:Tp l v)(o o4 o6 n left i a:Nat)(ha:a≤Z' l)(hn:n≤100)(hi:i<n)(B:List BX)(L:List LI)(K:cD)(F:PF)(H:PH)
  (hF:(jH o o4 o6 n left i .aF 0).le F) (Q:aT H ((o,bX v a)::B) L)
  (hK:∀w e H',(jH o o4 o6 n left i w n).le e→aT H' ((o,bX v (fE l i a n).2)::B) (L++[(w,3,jX (fE l i a n).1)])→K (.exit 2) e H') :
  aC.wp C (.loop SX) K F H:=by
 refine wp_loop (α:=Nat × PV × PH) (λt=>jH o o4 o6 n left i t.2.1 t.1) (λt=>t.2.2) (λt=>t.1≤n∧aT t.2.2 ((o,bX v (fE l i a t.1).2)::B) (L++[(t.2.1,3,jX (fE l i a t.1).1)])) (λt=>n-t.1) (0,.aF,H) ⟨a8H _,Q.sE 3⟩ hF b_ ?_;rintro⟨j,w,H0⟩ ⟨hj,Q⟩;simp only at hj Q ⊢;have O:=Fh l i ha j;have ε:=r9 l i a j;have e1:IntKind.i64.wrap ((i:Int)+1)=((i+1:Nat):Int):=eQ Om;simp only[go_sem,SX,Y0,jH];by_cases hlt:j<n
 ·have E:(j:Int)<(n:Nat):=Om;simp only[go_sem,E,Y1];refine aB (W.int 0 (by unfold eH;omega)) rfl ?_;simp only[go_sem];refine aR λp hp=>?_;have y:=Q.new hp (.rows 3 [mV.cells]);simp only[go_sem,Y2,e1];have fin:∀(e:PF)(H':PH),(jH o o4 o6 n left i w j).le e→e 15=some (.ptr p 3 0 0)→aT H' ((o,bX v (lP l i j (fE l i a j).2).2)::B++[(p,.rows 3 [(lP l i j (fE l i a j).2).1.cells])]) (L++[(w,3,jX (fE l i a j).1)]) →
    aC.wp C (.region qc) (fQ 3 (jW C (aC.wp C (.region qd)) (gV (λ(t:Nat × PV × PH)=>jH o o4 o6 n left i t.2.1 t.1) (λt=>t.2.2) (λt=>t.1≤n∧aT t.2.2 ((o,bX v (fE l i a t.1).2)::B) (L++[(t.2.1,3,jX (fE l i a t.1).1)])) (λt=>n-t.1) (n-j) K))) e H':=by
   intro e H' d J R;have f0:e 0=some (.ptr o 2 0 0):=d 0 _ (by unfold jH;simp only[go_sem]);have f4:e 4=some (.ptr o4 4 0 0):=d 4 _ (by unfold jH;simp only[go_sem]);have f5:e 5=some (.int .i64 n):=d 5 _ (by unfold jH;simp only[go_sem]);have f6:e 6=some (.ptr o6 4 0 0):=d 6 _ (by unfold jH;simp only[go_sem]);have f7:e 7=some (.int .i64 left):=d 7 _ (by unfold jH;simp only[go_sem]);have f8:e 8=some (.int .i64 i):=d 8 _ (by unfold jH;simp only[go_sem]);have f13:e 13=some w:=d 13 _ (by unfold jH;simp only[go_sem]);have f14:e 14=some (.int .i64 j):=d 14 _ (by unfold jH;simp only[go_sem]);have γ:H' p=some (.rows 3 [(lP l i j (fE l i a j).2).1.cells]):=R.box (p,.rows 3 [(lP l i j (fE l i a j).2).1.cells]) bD;have Y:(1:Nat)*3≤16777216:=by decide
   simp only[go_sem,qc,f13,J,γ,Y];refine R.append (v:=w) (s:=3) (rows:=jX (fE l i a j).1) L.length (src:=[(lP l i j (fE l i a j).2).1.cells]) bD rfl (pw Om) λw' H2 h2 _=>?_;rw[EH,bbB _ _ (a8E _),baV]at h2;simp only[go_sem,qd,f14,wZz j];refine aJ (α:=Nat × PV × PH) (j+1,w',H2) ⟨hlt,h2.sub (List.sublist_append_left ..) (baM.refl _)⟩ (by simp only;omega) ?_ b_;unfold jH;exact Lq
  simp only[aC.wp,go_sem]at fin;have V:∀x:RF,PH.set (PH.set H0 p (.rows 3 [mV.cells])) p (.rows 3 [x.cells])=PH.set H0 p (.rows 3 [x.cells]):=λx=>PH.set_set p _ _;have draw:∀(e:PF)(S:PH)(a1:Nat),a1≤Z' l→(jH o o4 o6 n left i w j).le e→e 15=some (.ptr p 3 0 0)→aT S ((o,bX v a1)::B++[(p,.rows 3 [mV.cells])]) (L++[(w,3,jX (fE l i a j).1)])→lP l i j (fE l i a j).2=jA l a1→∀K',(∀N H2,(jH o o4 o6 n left i w j).le N→N 15=some (.ptr p 3 0 0)→aT H2 ((o,bX v (lP l i j (fE l i a j).2).2)::B++[(p,.rows 3 [(lP l i j (fE l i a j).2).1.cells])]) (L++[(w,3,jX (fE l i a j).1)])→K' N H2) →
    wpOps C qb K' e S:=by
   intro e S a1 β d J y M K' Z;have f0:e 0=some (.ptr o 2 0 0):=d 0 _ (by unfold jH;simp only[go_sem]);simp only[go_sem,qb,f0];refine pJ (W.frac l v T o a1 β) (y.at 0 rfl) rfl ?_;have A:aT (S.set o (bX v (jA l a1).2)) ((o,bX v (jA l a1).2)::B++[(p,.rows 3 [mV.cells])]) (L++[(w,3,jX (fE l i a j).1)]):=y.set 0 rfl _;have δ:=A.XR;simp only[go_sem,J,δ];refine Z _ _ ?_ (by simp only[go_sem,J]) ?_
   ·have g:=λ(q:Nat) u h=>d q u h;unfold jH at g ⊢;refine c_ (c_ (c_ (c_ (c_ (c_ (c_ (c_ d_ ?_) ?_) ?_) ?_) ?_) ?_) ?_) ?_
    ·simp only[go_sem,f0]
    ·simp only[go_sem,g 4 _ rfl]
    ·simp only[go_sem,g 5 _ rfl]
    ·simp only[go_sem,g 6 _ rfl]
    ·simp only[go_sem,g 7 _ rfl]
    ·simp only[go_sem,g 8 _ rfl]
    ·simp only[go_sem,g 13 _ rfl]
    ·simp only[go_sem,g 14 _ rfl]
   ·rw[M];exact A.Fj (.rows 3 [(jA l a1).1.cells])
  by_cases U:j=i+1
  ·have M:lP l i j (fE l i a j).2=jA l (fE l i a j).2:=by unfold lP;rw[aG U]
   simp only[go_sem,cC (Om:(j:Int)=((i+1:Nat):Int))];refine draw _ _ _ O (by unfold jH;exact Lq) rfl y M _ ?_;intro N H2 k1 k2 k3;exact fin N H2 k1 k2 k3
  ·simp only[go_sem,bO (Om:¬(j:Int)=((i+1:Nat):Int))];by_cases X:j=i
   ·have M:lP l i j (fE l i a j).2=(mV,(fE l i a j).2):=by unfold lP;rw[aD U,aG X]
    simp only[go_sem,dL (Om:(j:Int)=(i:Int))];exact fin _ _ (by unfold jH;exact Lq) rfl (by rw[M];exact y)
   ·simp only[go_sem,eC (Om:¬(j:Int)=(i:Int))];refine eX W.toPW T (o:=o) (n:=3) (a:=(fE l i a j).2) aV O rfl (y.at 0 rfl) ?_;have A:aT _ ((o,bX v (aL l 3 (fE l i a j).2).2)::B++[(p,.rows 3 [mV.cells])]) (L++[(w,3,jX (fE l i a j).1)]):=y.set 0 rfl _;by_cases c3:(aL l 3 (fE l i a j).2).1=0
    ·have M:lP l i j (fE l i a j).2=jA l (aL l 3 (fE l i a j).2).2:=by unfold lP;rw[aD U,aD X];simp only[c3,if_true]
     simp only[go_sem,cC (show(((aL l 3 (fE l i a j).2).1:Nat):Int)=0 by omega)];refine draw _ _ _ (cE l 3 O) (by unfold jH;exact Lq) rfl A M _ ?_;intro N H2 k1 k2 k3;exact fin N H2 k1 k2 k3
    ·have M:lP l i j (fE l i a j).2=(mV,(aL l 3 (fE l i a j).2).2):=by unfold lP;rw[aD U,aD X];simp only[c3,if_false]
     simp only[go_sem,bO (show ¬(((aL l 3 (fE l i a j).2).1:Nat):Int)=0 by omega)];exact fin _ _ (by unfold jH;exact Lq) rfl (by rw[M];exact A)
 ·have E:¬(j:Int)<(n:Nat):=Om;have:j=n:=Om;subst this;simp only[go_sem,E];exact hK w _ _ (by unfold jH;exact Lq) Q
abbrev wR(o o4 o6:Nat)(v d e i:PV)(a:Nat):List BX:=[(o,bX v a),(o4,Wp),(o6,pe d e i)]
abbrev BO(s:KZ)(d e i:PV):List LI:=[(d,3,jX s.start),(e,1,BC s.a6T),(i,3,jX s.exit)]
theorem aFR{C:Ctx}(J:yL C){l:List Nat}{v:PV}(T:Tp l v)(o o4 o6 n i:Nat)(s:KZ)(E:s.a≤Z' l)(U:s.left≤8)(V:n≤100)(hi:i<n)(B:List BX)(L:List LI)(rest:aC)(K:cD)(F:PF)(H:PH)
  (d:(eG o o4 o6 n s.left i).le F) (x:aT H ((o,bX v s.a)::B) L)
  (p:∀u H',(eG o o4 o6 n (s.left-(fC l n i s).1) i).le u→u 9=some (.int .i64 ((fC l n i s).1:Nat))→aT H' ((o,bX v (fC l n i s).2)::B) L→aC.wp C rest K u H') :
  aC.wp C (.seq (.region Ed) (.seq (.seq (.region Ee) (.cond (.tmp 29) (.region Ef) .skip)) (.seq (.region ia) rest))) K F H:=by
 have f0:F 0=some (.ptr o 2 0 0):=d 0 _ (by unfold eG;simp only[go_sem]);have R:F 4=some (.ptr o4 4 0 0):=d 4 _ (by unfold eG;simp only[go_sem]);have O:F 5=some (.int .i64 n):=d 5 _ (by unfold eG;simp only[go_sem]);have f6:F 6=some (.ptr o6 4 0 0):=d 6 _ (by unfold eG;simp only[go_sem]);have f7:F 7=some (.int .i64 s.left):=d 7 _ (by unfold eG;simp only[go_sem]);have Q:F 8=some (.int .i64 i):=d 8 _ (by unfold eG;simp only[go_sem]);have M:IntKind.i64.wrap ((i:Int)+1)=((i+1:Nat):Int):=eQ Om;have S:=(pj l n i s E).2;have e:IntKind.i64.wrap ((s.left:Int)-((fC l n i s).1:Int))=((s.left-(fC l n i s).1:Nat):Int):=by rw[wrap_i64 Om Om];omega
 simp only[go_sem,Ed,f7,Ee,Q,O,M];by_cases c:i+1<n
 ·have w:((i+1:Nat):Int)<(n:Nat):=Om;have A:fC l n i s=aL l (s.left+1) s.a:=by unfold fC;rw[aG c]
  have N:IntKind.i64.wrap ((s.left:Int)+1)=((s.left+1:Nat):Int):=eQ Om;rw[A]at p e;simp only[go_sem,w,Ef,f0,f7,N];refine eX J.toPW T (o:=o) (n:=s.left+1) (a:=s.a) Om E rfl x.aWS ?_;have y:=x.aVC (bX v (aL l (s.left+1) s.a).2);simp only[go_sem,ia,f7,e];refine p _ _ ?_ rfl y;unfold eG;exact Lq
 ·have w:¬((i+1:Nat):Int)<(n:Nat):=Om;have A:fC l n i s=(s.left,s.a):=by unfold fC;rw[aD c]
  rw[A]at p e;simp only at p e;simp only[go_sem,w,ia,f7,e];refine p _ _ ?_ rfl x;unfold eG;exact Lq
theorem azR{C:Ctx}(Q:yL C){l:List Nat}{v:PV}(o o4 o6 n i left k a:Nat)(hk:k≤8)(hi:i<n)(hn:n≤100)(s:KZ)(hs:Z' s.start=i)(O w x:PV)(B:List BX)(rest:aC)(K:cD)(F:PF)(H:PH)
  (u:(eG o o4 o6 n left i).le F) (R:F 9=some (.int .i64 k)) (W:aT H (wR o o4 o6 v O w x a++B) (BO s O w x))
  (X:∀e N H' B',(eG o o4 o6 n left i).le N→aT H' (wR o o4 o6 v e w x a++B') (BO { s with start:=s.start++[mkT (k:Nat) 8] } e w x)→aC.wp C rest K N H') :
  aC.wp C (.seq (.region p4) (.seq (.region p5) rest)) K F H:=by
 have f0:F 0=some (.ptr o 2 0 0):=u 0 _ (by unfold eG;simp only[go_sem]);have Z:F 4=some (.ptr o4 4 0 0):=u 4 _ (by unfold eG;simp only[go_sem]);have f5:F 5=some (.int .i64 n):=u 5 _ (by unfold eG;simp only[go_sem]);have f6:F 6=some (.ptr o6 4 0 0):=u 6 _ (by unfold eG;simp only[go_sem]);have f7:F 7=some (.int .i64 left):=u 7 _ (by unfold eG;simp only[go_sem]);have f8:F 8=some (.int .i64 i):=u 8 _ (by unfold eG;simp only[go_sem]);simp only[go_sem,p4,R];refine aB (Q.fmk (k:Int) 8 (by unfold eH;omega) (by unfold eH;omega)) rfl ?_;unfold DC;rw[aD aV];simp only[go_sem];refine aR λp hp=>?_;have d:=W.new hp (.rows 3 [(mkT (k:Nat) 8).cells]);have S:=d.at 2 rfl;have U:=d.XR;have E:(1:Nat)*3≤16777216:=by decide
 have Y:∀y,PH.set (PH.set H p (.rows 3 [[PV.bool false,PV.aF,PV.aF]])) p y=PH.set H p y:=λy=>PH.set_set p _ _;simp only[go_sem,p5,f6,S,U,E];refine d.append 0 (src:=[(mkT (k:Nat) 8).cells]) rfl rfl (pw Om) λe H2 J M=>?_;rw[EH]at J M;rw[qJ]at M;obtain⟨q,rfl⟩:=M bD;have A:=J.at 2 rfl;simp only[go_sem,A,a8M,a8W,or_false,forall_eq];have V:=J.set 2 rfl (pe (.osl q 3 0 (s.start++[mkT (k:Nat) 8]).length) w x);refine X _ _ _ (B++[(p,.rows 3 [(mkT (k:Nat) 8).cells])]) ?_ V;unfold eG;exact Lq
theorem aFQ{C:Ctx}(O:yL C){l:List Nat}{v:PV}(T:Tp l v)(o o4 o6 n i left a:Nat)(ha:a≤Z' l)(hi:i<n)(hn:n≤100)(s:KZ)(hs:Z' s.exit=i)(u w M:PV)(B:List BX)(rest:aC)(K:cD)(F:PF)(H:PH)
  (J:(eG o o4 o6 n left i).le F) (hH:aT H (wR o o4 o6 v u w M a++B) (BO s u w M))
  (hK:∀E d H' B',(eG o o4 o6 n left i).le d→aT H' (wR o o4 o6 v u w E (gT l n i a).2++B') (BO { s with exit:=s.exit++[(gT l n i a).1] } u w E)→aC.wp C rest K d H') :
  aC.wp C (.seq (.region p6) (.seq (.seq (.region p7) (.cond (.tmp 58) (.region p8) .skip)) (.seq (.region SY) rest))) K F H:=by
 have f0:F 0=some (.ptr o 2 0 0):=J 0 _ (by unfold eG;simp only[go_sem]);have f4:F 4=some (.ptr o4 4 0 0):=J 4 _ (by unfold eG;simp only[go_sem]);have f5:F 5=some (.int .i64 n):=J 5 _ (by unfold eG;simp only[go_sem]);have f6:F 6=some (.ptr o6 4 0 0):=J 6 _ (by unfold eG;simp only[go_sem]);have f7:F 7=some (.int .i64 left):=J 7 _ (by unfold eG;simp only[go_sem]);have f8:F 8=some (.int .i64 i):=J 8 _ (by unfold eG;simp only[go_sem]);have e1:IntKind.i64.wrap ((i:Int)+1)=((i+1:Nat):Int):=eQ Om;simp only[go_sem,p6,f0];refine pJ (O.frac l v T o a ha) (hH.at 0 rfl) rfl ?_;have X:=hH.set 0 rfl (bX v (jA l a).2);simp only[go_sem];refine aR λp hp=>?_;have y:=X.new hp (.rows 3 [(jA l a).1.cells]);simp only[go_sem,p7,f8,f5,e1];have fin:∀(d:PF)(H':PH),(eG o o4 o6 n left i).le d→d 12=some (.ptr p 3 0 0)→aT H' (wR o o4 o6 v u w M (gT l n i a).2++B++[(p,.rows 3 [(gT l n i a).1.cells])]) (BO s u w M)→wpOps C SY (aC.wp C rest K) d H':=by
  intro d H' e R x;have q0:d 0=some (.ptr o 2 0 0):=e 0 _ (by unfold eG;simp only[go_sem]);have q4:d 4=some (.ptr o4 4 0 0):=e 4 _ (by unfold eG;simp only[go_sem]);have q5:d 5=some (.int .i64 n):=e 5 _ (by unfold eG;simp only[go_sem]);have q6:d 6=some (.ptr o6 4 0 0):=e 6 _ (by unfold eG;simp only[go_sem]);have q7:d 7=some (.int .i64 left):=e 7 _ (by unfold eG;simp only[go_sem]);have q8:d 8=some (.int .i64 i):=e 8 _ (by unfold eG;simp only[go_sem]);have g6:=x.at 2 rfl;have U:=x.XR;have V:(1:Nat)*3≤16777216:=by decide
  simp only[go_sem,SY,q6,g6,R,U,V];refine x.append 2 (src:=[(gT l n i a).1.cells]) rfl rfl (pw Om) λE H2 W Z=>?_;rw[EH]at W Z;rw[qJ]at Z;obtain⟨q,rfl⟩:=Z bD;have S:=W.at 2 rfl;simp only[go_sem,S,a8M,a8W,or_false,forall_eq];have h3:=W.set 2 rfl (pe u w (.osl q 3 0 (s.exit++[(gT l n i a).1]).length));refine hK _ _ _ (B++[(p,.rows 3 [(gT l n i a).1.cells])]) ?_ h3;unfold eG;exact Lq
 by_cases c:i+1<n
 ·have Q:((i+1:Nat):Int)<(n:Nat):=Om;have Y:=AO l ha;simp only[go_sem,Q,f0];refine eX O.toPW T (o:=o) (n:=3) (a:=(jA l a).2) aV Y rfl (y.at 0 rfl) ?_;have A:=y.set 0 rfl (bX v (aL l 3 (jA l a).2).2);by_cases c3:(aL l 3 (jA l a).2).1=0
  ·have N:gT l n i a=(mV,(aL l 3 (jA l a).2).2):=by unfold gT;simp only[aG c,c3,if_true]
   have U:=aT.XR (B:=wR o o4 o6 v u w M (aL l 3 (jA l a).2).2++B) A;simp only[go_sem,cC (show(((aL l 3 (jA l a).2).1:Nat):Int)=0 by omega),p8];refine aB (O.int 0 (by unfold eH;omega)) rfl ?_;simp only[go_sem,U];refine fin _ _ ?_ rfl ?_
   ·unfold eG;exact Lq
   ·rw[N];exact aT.Fj (B:=wR o o4 o6 v u w M (aL l 3 (jA l a).2).2++B) A (.rows 3 [mV.cells])
  ·have N:gT l n i a=((jA l a).1,(aL l 3 (jA l a).2).2):=by unfold gT;simp only[aG c,c3,if_false]
   simp only[go_sem,bO (show ¬(((aL l 3 (jA l a).2).1:Nat):Int)=0 by omega)];refine fin _ _ ?_ rfl ?_
   ·unfold eG;exact Lq
   ·rw[N];exact A
 ·have Q:¬((i+1:Nat):Int)<(n:Nat):=Om;have N:gT l n i a=jA l a:=by unfold gT;simp only[aD c]
  simp only[go_sem,Q];refine fin _ _ ?_ rfl ?_
  ·unfold eG;exact Lq
  ·rw[N];exact y
def aJW(l:List Nat)(v:PV)(o fD a:Nat)(r:PV)(H:PH):Prop:=r=.agg (vT l fD a).1.cells∧H=PH.nil.set o (bX v (vT l fD a).2)
theorem aHO{l:List (List RF)}(h:Z' l≤1000):roomFor (BC l).length 1 24:=by
 unfold roomFor;simp only[a7Z,maxLen];omega
theorem aHP(l:List (List RF))(x:List RF):BC l++[[frs x]]=BC (l++[x]):=by simp[BC]
theorem azQ{C:Ctx}(Lb:yL C){l:List Nat}{v:PV}(T:Tp l v)(o o4 o6 n left i a:Nat)(ha:a≤Z' l)(hn:n≤100)(hi:i<n)(s:KZ)(hs:Z' s.a6T=i)(x N E:PV)(B:List BX)(K:cD)(F:PF)(H:PH)
  (J:(eG o o4 o6 n left i).le F) (hH:aT H (wR o o4 o6 v x N E a++B) (BO s x N E))
  (hK:∀A y V H' B',(eG o o4 o6 n left i).le V→(∃q,y=.osl q 3 0 n)→aT H' (wR o o4 o6 v x A E (fE l i a n).2++B') [(x,3,jX s.start),(A,1,BC s.a6T++[[y]]),(E,3,jX s.exit),(y,3,jX (fE l i a n).1)]→K .normal V H') :
  aC.wp C (.seq (.region p9) (.seq (.seq (.region qa) (.block 2 (.loop SX))) (.region qe))) K F H:=by
 have f0:F 0=some (.ptr o 2 0 0):=J 0 _ (by unfold eG;simp only[go_sem]);have f4:F 4=some (.ptr o4 4 0 0):=J 4 _ (by unfold eG;simp only[go_sem]);have f5:F 5=some (.int .i64 n):=J 5 _ (by unfold eG;simp only[go_sem]);have f6:F 6=some (.ptr o6 4 0 0):=J 6 _ (by unfold eG;simp only[go_sem]);have f7:F 7=some (.int .i64 left):=J 7 _ (by unfold eG;simp only[go_sem]);have f8:F 8=some (.int .i64 i):=J 8 _ (by unfold eG;simp only[go_sem]);simp only[go_sem,p9,qa];refine aNQ (C:=C) Lb T o o4 o6 n left i a ha hn hi ([(o4,Wp),(o6,pe x N E)]++B) (BO s x N E) _ _ H ?_ hH ?_
 ·unfold jH
  (repeat' (first|exact d_|refine c_ ?_ ?_))<;>first|(simp only[go_sem,f0,f4,f5,f6,f7,f8]<;>rfl)|rfl
 intro w p H1 d u;have e:=r9 l i a n;have hw:∃q,w=.osl q 3 0 n:=by
  rcases u.own (v:=w) 3 rfl with⟨M,_⟩|⟨q,rs,M,_⟩
  ·have:=congrArg List.length M;rw[qJ,e]at this;simp at this;omega
  ·rw[qJ,e]at M;exact⟨q,M⟩
 obtain⟨q,rfl⟩:=hw;have g0:p 0=some (.ptr o 2 0 0):=d 0 _ (by unfold jH;simp only[go_sem]);have g4:p 4=some (.ptr o4 4 0 0):=d 4 _ (by unfold jH;simp only[go_sem]);have g5:p 5=some (.int .i64 n):=d 5 _ (by unfold jH;simp only[go_sem]);have W:p 6=some (.ptr o6 4 0 0):=d 6 _ (by unfold jH;simp only[go_sem]);have g7:p 7=some (.int .i64 left):=d 7 _ (by unfold jH;simp only[go_sem]);have g8:p 8=some (.int .i64 i):=d 8 _ (by unfold jH;simp only[go_sem]);have Q:p 13=some (.osl q 3 0 n):=d 13 _ (by unfold jH;simp only[go_sem]);have b6:=u.at 2 rfl;have R:(1:Nat)*1≤16777216:=by decide
 simp only[go_sem,qe,W,b6,Q,R,a8M,a8W,or_false,forall_eq];refine u.append 1 (src:=[[.osl q 3 0 n]]) rfl Sq (aHO Om) λA H2 X U=>?_;obtain⟨Z,rfl⟩:=U bD;have O:=X.at 2 rfl;simp only[go_sem,O,a8M,a8W,or_false,forall_eq];have Y:=X.set 2 rfl (pe x (.osl Z 1 0 (BC s.a6T++[[PV.osl q 3 0 n]]).length) E);have S:(BC s.a6T++[[(PV.osl q 3 0 n:PV)]]).length=Z' s.a6T+1:=by simp
 rw[S]at Y ⊢;refine hK (.osl Z 1 0 (Z' s.a6T+1)) (.osl q 3 0 n) _ _ B ?_ ⟨q,rfl⟩ Y;unfold eG
 (repeat' (first|exact d_|refine c_ ?_ ?_))<;>first|(simp only[go_sem,g0,g4,g5,W,g7,g8]<;>rfl)|rfl
theorem aTW{C:Ctx}(K:yL C){l:List Nat}{v:PV}(T:Tp l v)(o fD a:Nat)(hm:0<fD)(δ:fD≤50)(ha:a≤Z' l):ZT.wp C (aY aNP.res (aJW l v o fD a)) (PF.args [.ptr o 2 0 0,.int .i64 fD]) (PH.nil.set o (bX v a)):=by
 have h0:aT (PH.nil.set o (bX v a)) [(o,bX v a)] []:=aT.nil.new (H:=PH.nil) rfl (bX v a);simp only[go_sem,ZT,aoI,aNP];refine aR λo4 β=>?_;have J:=h0.new β Wp;simp only[go_sem,aoJ];refine eX K.toPW T (o:=o) (n:=fD) (a:=a) Om ha Sq (J.at 0 rfl) ?_;have h2:=J.set 0 rfl (bX v (aL l fD a).2);have hN:=dC l hm a;have Y:=cE l fD ha;have e1:IntKind.i64.wrap (1+((aL l fD a).1:Int))=((1+(aL l fD a).1:Nat):Int):=by rw[wrap_i64 Om Om];omega
 have Z:∀s:KZ,s=jR l (1+(aL l fD a).1) (aL l fD a).2 (1+(aL l fD a).1)→vT l fD a=(⟨[],s.start,s.a6T,s.exit⟩,s.a):=λs hs=>by rw[hs];rfl
 have X:∀r H,aJW l v o fD a r H↔r=.agg (vT l fD a).1.cells∧H=PH.nil.set o (bX v (vT l fD a).2):=λ_ _=>Iff.rfl;generalize hn:1+(aL l fD a).1=n at *
 generalize hb:(aL l fD a).2=b at *
 have ε:0<n:=Om;have d:n≤100:=Om;simp only[go_sem,e1,aoK];refine aR λo6 γ=>?_;have h3:=((h2.new γ Wp).sE 3).sE 1;have h4:=h3.sE 3;simp only[go_sem,aoL,aoM];refine wp_loop (α:=Nat × PV × PV × PV × PH) (λt=>eG o o4 o6 n (jR l n b t.1).left t.1) (λt=>t.2.2.2.2)
  (λt=>t.1≤n∧aT t.2.2.2.2 (wR o o4 o6 v t.2.1 t.2.2.1 t.2.2.2.1 (jR l n b t.1).a) (BO (jR l n b t.1) t.2.1 t.2.2.1 t.2.2.2.1)) (λt=>n-t.1) (0,.aF,.aF,.aF,_) ⟨a8H _,h4⟩ ?_ b_ ?_
 ·unfold eG
  (repeat' (first|exact d_|refine c_ ?_ ?_))<;>first|(simp only[go_sem,jR]<;>rfl)|rfl
 rintro⟨i,w1,M,N,H0⟩ ⟨hi,E⟩;simp only at hi E ⊢;obtain⟨k1,k2,k3,k4,k5⟩:=D8 l n Y i;simp only[go_sem,Yz,aoN,eG];by_cases hlt:i<n
 ·have A:(i:Int)<(n:Nat):=Om;have B:jR l n b (i+1)=⟨(jR l n b i).start++[mkT ((fC l n i (jR l n b i)).1:Nat) 8],(jR l n b i).exit++[(gT l n i (fC l n i (jR l n b i)).2).1],(jR l n b i).a6T++[(fE l i (gT l n i (fC l n i (jR l n b i)).2).2 n).1],(jR l n b i).left-(fC l n i (jR l n b i)).1,(fE l i (gT l n i (fC l n i (jR l n b i)).2).2 n).2⟩:=rfl;have kl:=pj l n i (jR l n b i) k1;have ke:=Tg l n i kl.1;generalize hs:jR l n b i=s at *
  simp only[go_sem,A];refine aFR (C:=C) K T o o4 o6 n i s k1 k2 d hlt [(o4,Wp),(o6,pe w1 M N)] (BO s w1 M N) _ _ _ H0 (by unfold eG;exact Lq) E ?_;intro F1 H1 O f9 S;refine azR (C:=C) (l:=l) K o o4 o6 n i _ (fC l n i s).1 (fC l n i s).2 Om hlt d s k3 w1 M N [] _ _ F1 H1 O f9 S ?_;intro e F2 H2 B2 Q U;refine aFQ (C:=C) K T o o4 o6 n i _ (fC l n i s).2 kl.1 hlt d { s with start:=s.start++[mkT ((fC l n i s).1:Nat) 8] } k4 e M N B2 _ _ F2 H2 Q U ?_;intro p F3 H3 B3 R V;refine azQ (C:=C) K T o o4 o6 n _ i (gT l n i (fC l n i s).2).2 ke d hlt { s with start:=s.start++[mkT ((fC l n i s).1:Nat) 8],exit:=s.exit++[(gT l n i (fC l n i s).2).1] } k5 e M p B3 _ F3 H3 R V ?_;rintro y ζ F H4 B4 u ⟨q,rfl⟩ W;have g0:F 0=some (.ptr o 2 0 0):=u 0 _ (by unfold eG;simp only[go_sem]);have g4:F 4=some (.ptr o4 4 0 0):=u 4 _ (by unfold eG;simp only[go_sem]);have g5:F 5=some (.int .i64 n):=u 5 _ (by unfold eG;simp only[go_sem]);have g6:F 6=some (.ptr o6 4 0 0):=u 6 _ (by unfold eG;simp only[go_sem]);have g7:F 7=some (.int .i64 (s.left-(fC l n i s).1:Nat)):=u 7 _ (by unfold eG;simp only[go_sem]);have g8:F 8=some (.int .i64 i):=u 8 _ (by unfold eG;simp only[go_sem]);obtain⟨rs,z1,z2,z3,z4,z5⟩:=W.frz 3 rfl;have y1:=z4 0 _ aV rfl;have y2:=z4 1 _ aV rfl;have y3:=z4 2 _ aV rfl;simp only at y1 y2 y3;have y4:=T.frz q 3 rs;simp only[go_sem,Y3,g8,wZz i];refine I4 (i+1,e,y,p,H4.frz q 3 rs) z1 ⟨hlt,?_⟩ (by simp only;omega) ?_ b_
  ·rw[B];have eB:(wR o o4 o6 v e y p (fE l i (gT l n i (fC l n i s).2).2 n).2).map (λb=>(b.1,b.2.frz q 3 rs))=wR o o4 o6 v e y p (fE l i (gT l n i (fC l n i s).2).2 n).2:=by simp only[a9D,baB,aU.frz,y1,y2,y3,y4];rfl
   have eL:([(e,3,jX (s.start++[mkT ((fC l n i s).1:Nat) 8])),(y,1,BC s.a6T++[[.osl q 3 0 n]]),(p,3,jX (s.exit++[(gT l n i (fC l n i s).2).1]))]:List LI).map (λx=>(x.1,x.2.1,x.2.2.map λr=>r.map (PV.dZ q 3 rs))) =
     BO ⟨s.start++[mkT ((fC l n i s).1:Nat) 8],s.exit++[(gT l n i (fC l n i s).2).1],s.a6T++[(fE l i (gT l n i (fC l n i s).2).2 n).1],s.left-(fC l n i s).1,(fE l i (gT l n i (fC l n i s).2).2 n).2⟩ e y p:=by
    have e2:(BC s.a6T++[[PV.osl q 3 0 n]]).map (λr=>r.map (PV.dZ q 3 rs))=BC (s.a6T++[(fE l i (gT l n i (fC l n i s).2).2 n).1]):=by rw[a8Z,K0,a9D,baB,a9D,baB,z2,aHP]
    show([(e,3,(jX (s.start++[mkT ((fC l n i s).1:Nat) 8])).map (λr=>r.map (PV.dZ q 3 rs))),(y,1,(BC s.a6T++[[PV.osl q 3 0 n]]).map (λr=>r.map (PV.dZ q 3 rs))),(p,3,(jX (s.exit++[(gT l n i (fC l n i s).2).1])).map (λr=>r.map (PV.dZ q 3 rs)))]:List LI)=_;rw[RB,e2,RB]
   rw[←eB,←eL];exact z5.sub (by rw[a8Z];exact List.sublist_append_left ..) (baM.refl _)
  ·rw[B]
   (repeat' (first|exact d_|refine c_ ?_ ?_))<;>first|(simp only[go_sem,g0,g4,g5,g6,g7,g8]<;>rfl)|rfl
 ·have A:¬(i:Int)<(n:Nat):=Om;have:i=n:=Om;subst this;simp only[go_sem,A,Y4];have b4:=E.at 1 rfl;have b6:=E.at 2 rfl;have osl:∀{w:PV}{z:Nat}{rows:List (List PV)},Z' rows=i→bJ H0 z w rows→∃q,w=.osl q z 0 i:=by
   intro w z rows hr hO;rcases hO with⟨J,_⟩|⟨q,rs,J,_⟩
   ·rw[J]at hr;simp at hr;omega
   ·exact⟨q,by rw[J,hr]⟩
  obtain⟨q1,rfl⟩:=osl (by rw[qJ,k3]) (E.own 0 rfl);obtain⟨q2,rfl⟩:=osl (by rw[a7Z,k5]) (E.own 1 rfl);obtain⟨q3,rfl⟩:=osl (by rw[qJ,k4]) (E.own 2 rfl);have hR:=Z (jR l i b i) rfl;simp only[go_sem,b6,b4,a8M,a8W,or_false,forall_eq,forall_eq_or_imp];have x1:=E.set 1 rfl (pe (.osl q1 3 0 i) (.osl q2 1 0 i) (.osl q3 3 0 i));obtain⟨r1,s1,s2,s3,s4,s5⟩:=x1.frz 0 rfl;have u2:=s4 1 _ aV rfl;have u3:=s4 2 _ aV rfl;simp only at u2 u3;have u4:=T.frz q1 3 r1;obtain⟨r2,t1,t2,t3,t4,t5⟩:=s5.frz 0 rfl;have m3:=t4 1 _ aV rfl;simp only at m3;have m4:=T.frz q2 1 r2;obtain⟨r3,n1,n2,n3,n4,n5⟩:=t5.frz 0 rfl;have n4:=T.frz q3 3 r3;refine PK (vs:=[.agg [.str [],.osl q1 3 0 i,.osl q2 1 0 i,.osl q3 3 0 i]]) (.inr rfl) ?_ (.step s1 (.step t1 (.step n1 (.done (H2:=PH.nil.set o (bX v (jR l i b i).a)) ?_ (e_ a_ ?_)))))
  ·simp only[go_sem]
  ·rw[X,hR];refine⟨?_,rfl⟩;simp only[bR,PV.frz,PV.sC,a9D,baB,s2,u2,u3,t2,m3,n2];simp only[PV.dZ,RB _ _ _ _,K0 _ _ _ _]
  ·have:=n5.at 0 rfl;rw[this];simp only[aU.frz,a9D,baB,u4,m4,n4];rfl
structure rB(C:Ctx):Prop extends yL C where
 law:∀(l:List Nat)(v:PV),Tp l v→∀(o fD a:Nat),0<fD→fD≤50→a≤Z' l→aH C 2 [.ptr o 2 0 0,.int .i64 fD] (PH.nil.set o (bX v a)) (aJW l v o fD a)
structure GOk(l:List Nat)(a6O:Nat)(s:GS):Prop where
 a6X:Z' s.a6X≤35
 a7H:Z' s.a7H≤a6O
 a:s.a≤Z' l
theorem n6{l:List Nat}{mc a6O dom:Nat}{s:GS}(h:GOk l a6O s):∀i,GOk l a6O (mU l mc a6O dom s i)∧(mU l mc a6O dom s i).a6X=s.a6X
 |0=>⟨h,rfl⟩
 |i+1=>by
  obtain⟨⟨d,u,e⟩,p⟩:=n6 (mc:=mc) (dom:=dom) h i;simp only[mU];split
  ·exact⟨⟨d,by simp only[a8F,a8J];omega,cE l mc e⟩,p⟩
  ·exact⟨⟨d,u,e⟩,p⟩
theorem alI{l:List Nat}{level dom a6O:Nat}{s:GS}(h:GOk l a6O s)(d:uS a6O s=false):GOk l a6O (rD l level dom s)∧∃x:cX,(rD l level dom s).a6X=s.a6X++[x]∧x.level=(level:Int)∧x.parent=(dom:Int):=by
 obtain⟨p,e,i⟩:=h;unfold uS at d;rw[Bool.or_eq_false_iff]at d;have u:=of_decide_eq_false d.2;refine⟨⟨?_,e,?_⟩,_,rfl,rfl,rfl⟩
 ·simp only[rD,a8F,a8J];omega
 ·have a1:=cE l 3 (cE l 16 i);simp only[rD];split
  ·exact cE l 6 a1
  ·exact a1
theorem n8{l:List Nat}{level a6O dom:Nat}{rec:Nat→GS→GS}(e:∀d t,GOk l a6O t→GOk l a6O (rec d t)∧∃u,(rec d t).a6X=t.a6X++u){s:GS}(h:GOk l a6O s) :
  ∀i,GOk l a6O (kB l level a6O dom rec s i)∧∃u,(kB l level a6O dom rec s i).a6X=s.a6X++u
 |0=>⟨h,[],by simp[kB]⟩
 |i+1=>by
  obtain⟨p,u,w⟩:=n8 e h i;simp only[kB];split
  ·exact⟨p,u,w⟩
  ·rename_i y;obtain⟨g1,x,g2,-⟩:=alI (level:=level) (dom:=dom) p (by simpa using y);obtain⟨k1,A,k2⟩:=e ((rD l level dom (kB l level a6O dom rec s i)).a6X.length-1) _ g1;exact⟨k1,u++[x]++A,by rw[k2,g2,w];simp⟩
theorem n9{l:List Nat}{mc a6O:Nat}:∀(k dom:Nat){s:GS},GOk l a6O s→GOk l a6O (gP l mc a6O k dom s)∧∃u,(gP l mc a6O k dom s).a6X=s.a6X++u
 |0,dom,s,h=>by have e:GOk l a6O { s with a:=(aL l 2 s.a).2 }:=⟨h.a6X,h.a7H,cE l 2 h.a⟩;obtain⟨i,p⟩:=n6 (mc:=mc) (dom:=dom) e (1+(aL l 2 s.a).1);exact⟨i,[],by simp only[gP];rw[p];simp⟩
 |k+1,dom,s,h=>by have e:GOk l a6O { s with a:=(aL l 2 s.a).2 }:=⟨h.a6X,h.a7H,cE l 2 h.a⟩;exact n8 (level:=4-k) (dom:=dom) (λd t w=>n9 k d w) e (if 4-k=2 then 1 else 1+(aL l 2 s.a).1)
theorem ayN {l : List Nat} {level a6O dom : Nat} {rec : Nat → GS → GS} {s : GS} {i : Nat} (h : uS a6O (kB l level a6O dom rec s i) = true) : ∀ n, i ≤ n → kB l level a6O dom rec s n = kB l level a6O dom rec s i := by
  intro n hn
  induction n with
  | zero => have : i = 0 := Om
            subst this; rfl
  | succ n ih =>
    rcases a9A n i with h' | h'
    · have : i = n + 1 := Om
      subst this; rfl
    · have e := ih h'
      simp only [kB];rw [e, aG h]
def mkS(l:List Nat)(v:PV):Spec:=λname vs=>match name,vs with
 |29,[.str s,.int _ i]=>some ([],λ_=>aK (.str (s++cU i.toNat)))
 |47,[.int _ n]=>some ([],λ_=>aK (.agg (mkT n 1).cells))
 |4,[.ptr o _ _ _,.int _ n]=>some ([o],λd r H'=>∀a,d o=some (bX v a)→tr l v o n.toNat a r H')
 |_,_=>none
section
variable {C:Ctx} {F:PF} {H Hs:PH} {l:List Nat} {v:PV} {o a:Nat}
theorem wZ(u:PW C)(T:Tp l v){n:Nat}{st:Bool}{args:List aQ}{d:Option Nat}{K:PF→PH→Prop}(B:n≤1000000)(w:a≤Z' l)(e:aQ.evs F args=some [.ptr o 2 0 0,.int .i64 n])(E:H o=some (bX v a))
  (i:Hs.le (H.set o (bX v (aL l n a).2))) (A:K (F.put d (.int .i64 ((aL l n a).1:Nat))) (H.set o (bX v (aL l n a).2))):dOp C Hs (mkS l v) st (.call 4 args) d K F H:=by
 refine aKX (x:=bX v a) (y:=bX v (aL l n a).2) (r:=.int .i64 ((aL l n a).1:Nat)) (R:=λp r H'=>∀a,p o=some (bX v a)→tr l v o n a r H') rfl E (u.next l v T o n a B w) ?_ ?_ e i A
 ·intro b hb;rw[dK]at hb;injection hb with hb
  injection hb with _ hb
  injection hb with hb _
  injection hb with _ hb
  injection hb with hb _
  injection hb with _ hb
  have:a=b:=Om;subst this;exact⟨rfl,rfl⟩
 ·intro r' H' J;exact J a (by rw[dK])
theorem QR(p:yL C){s:List UInt8}{n:Nat}{st:Bool}{args:List aQ}{d:Option Nat}{K:PF→PH→Prop}(x:Z' s≤100)(w:n<100)(e:aQ.evs F args=some [.str s,.int .i64 n])(i:Hs.le H)(u:K (F.put d (.str (s++cU n))) H) :
  dOp C Hs (mkS l v) st (.call 29 args) d K F H:=
 cR (v:=.str (s++cU n)) rfl (p.name s n x w) e i u
theorem aSG(p:PW C){n:Int}{st:Bool}{args:List aQ}{d:Option Nat}{K:PF→PH→Prop}(w:eH n)(e:aQ.evs F args=some [.int .i64 n])(i:Hs.le H)(u:K (F.put d (.agg (mkT n 1).cells)) H) :
  dOp C Hs (mkS l v) st (.call 47 args) d K F H:=
 cR (v:=.agg (mkT n 1).cells) rfl (p.int n w) e i u
end
theorem bJ.tB{H:PH}{s:Nat}{v:PV}{rows:List (List PV)}(h:bJ H s v rows):PV.tB v=some (.int .i64 (Z' rows:Nat)):=by
 rcases h with⟨rfl,rfl⟩|⟨q,rs,rfl,_⟩<;>rfl
abbrev nO(l:List cX):List (List PV):=l.map cX.cells
abbrev qH(l:List eO):List (List PV):=l.map eO.cells
abbrev flB(ext wl e d i wp wv:PV):aU:=.rows 7 [[ext,wl,e,d,i,wp,wv]]
structure GE where
 o:Nat
 fo:Nat
 qm:Nat
 ext:PV
 wl:PV
 wp:PV
 wv:PV
abbrev GE.boxes(G:GE)(v:PV)(mc:Nat)(d e:PV)(a:Nat):List BX:=[(G.o,bX v a),(G.fo,flB G.ext G.wl (.osl G.qm 4 0 mc) d e G.wp G.wv)]
abbrev pV(s:GS)(d e:PV):List LI:=[(d,7,nO s.a6X),(e,3,qH s.a7H)]
def gU(G:GE)(dom a6O level n i:Nat):PF:=(((((((PF.nil.set 0 (.ptr G.o 2 0 0)).set 1 (.ptr G.fo 7 0 0)).set 2 (.int .i64 dom)).set 3 (.int .i64 a6O)).set 8 (.int .i64 level)).set 9 (.int .i64 n)).set 10 (.int .i64 i))
theorem bJ.one{H:PH}{s:Nat}{v:PV}{rows:List (List PV)}(h:bJ H s v rows)(d:0<Z' rows):∃q,v=.osl q s 0 rows.length:=by
 rcases h with⟨rfl,_⟩|⟨q,rs,rfl,_⟩
 ·simp at d
 ·exact⟨q,rfl⟩
theorem Ym{C:Ctx}(R:rB C){l:List Nat}{v:PV}(T:Tp l v)(G:GE)(mc a6O dom n:Nat)(γ:0<mc)(X:mc≤1000)(β:a6O≤60)(hn:n≤10)(s:GS)(hs:GOk l a6O s)(u x:PV)(K:cD)(F:PF)(H:PH)
  (hF:(gU G dom a6O 5 n 0).le F) (w:aT H (G.boxes v mc u x s.a) (pV s u x))
  (hK:∀J A Y H',aT H' (G.boxes v mc J A (mU l mc a6O dom s n).a) (pV (mU l mc a6O dom s n) J A)→K (.exit 0) Y H') :
  aC.wp C (.loop CU) K F H:=by
 refine wp_loop (α:=Nat × PV × PV × PH) (λt=>gU G dom a6O 5 n t.1) (λt=>t.2.2.2) (λt=>t.1≤n∧aT t.2.2.2 (G.boxes v mc t.2.1 t.2.2.1 (mU l mc a6O dom s t.1).a) (pV (mU l mc a6O dom s t.1) t.2.1 t.2.2.1)) (λt=>n-t.1) (0,u,x,H) ⟨a8H _,w⟩ hF b_ ?_;rintro⟨i,u,x,Q⟩ ⟨hi,w⟩;simp only at hi w ⊢;obtain⟨N,-⟩:=n6 (mc:=mc) (dom:=dom) hs i;have d:mU l mc a6O dom s (i+1)=(if(mU l mc a6O dom s i).a7H.length<a6O then{ mU l mc a6O dom s i with a7H:=(mU l mc a6O dom s i).a7H++[⟨[100]++cU (mU l mc a6O dom s i).a7H.length,((aL l mc (mU l mc a6O dom s i).a).1:Nat),(dom:Nat)⟩],a:=(aL l mc (mU l mc a6O dom s i).a).2 }else mU l mc a6O dom s i):=rfl;simp only[go_sem,CU,pt,gU];by_cases hlt:i<n
 ·have p:(i:Int)<(n:Nat):=Om;generalize hg:mU l mc a6O dom s i=g at *
  have b1:=w.at 1 rfl;have O:=(w.own 1 rfl).tB;rw[a7Z]at O;have S:=wZz i;simp only[go_sem,p,pu,show(((5:Nat):Int)==5)=true from rfl,Ys,b1,O];by_cases W:Z' g.a7H<a6O
  ·have y:(Z' g.a7H:Int)<(a6O:Nat):=Om;rw[aG W]at d;simp only[go_sem,y];have E:(PH.nil.set G.fo (flB G.ext G.wl (.osl G.qm 4 0 mc) u x G.wp G.wv)).le Q:=e_ a_ b1;refine cP (PH.nil.set G.fo (flB G.ext G.wl (.osl G.qm 4 0 mc) u x G.wp G.wv)) (mkS l v) E ?_;simp only[go_sem,Yt,b1,O];refine QR R.toyL (s:=[100]) (n:=Z' g.a7H) aV (by have:=N.a7H;omega) rfl E ?_;simp only[go_sem];have ho:=w.at 0 rfl;have U:=w.set 0 rfl (bX v (aL l mc g.a).2);have M:=U.at 1 rfl;refine wZ R.toPW T (o:=G.o) (n:=mc) (a:=g.a) Om N.a rfl ho (e_ a_ M) ?_;have B:(1:Nat)*3≤16777216:=by decide
   simp only[go_sem,B,a8M,a8W,or_false,forall_eq,forall_eq_or_imp];refine U.append 1 (src:=[(⟨[100]++cU g.a7H.length,((aL l mc g.a).1:Nat),(dom:Nat)⟩:eO).cells]) rfl rfl (by unfold roomFor;rw[a7Z];have:=N.a7H;simp only[a8J,maxLen];omega) λA H2 V hw=>?_;obtain⟨q,rfl⟩:=hw bD;have b2:=V.at 1 rfl;refine⟨e_ a_ b2,?_⟩;refine cP .nil fT a_ ?_;simp only[go_sem,Yu,b2,a8M,a8W,or_false,forall_eq];have Z:=V.set 1 rfl (flB G.ext G.wl (.osl G.qm 4 0 mc) u (.osl q 3 0 (qH g.a7H++[(⟨[100]++cU g.a7H.length,((aL l mc g.a).1:Nat),(dom:Nat)⟩:eO).cells]).length) G.wp G.wv);refine⟨a_,?_⟩;simp only[go_sem,CV,S];refine aJ (i+1,u,.osl q 3 0 (qH g.a7H++[(⟨[100]++cU g.a7H.length,((aL l mc g.a).1:Nat),(dom:Nat)⟩:eO).cells]).length,_) ⟨hlt,?_⟩ (by simp only;omega) ?_ b_
   ·rw[d];have e:qH (g.a7H++[(⟨[100]++cU g.a7H.length,((aL l mc g.a).1:Nat),(dom:Nat)⟩:eO)])=qH g.a7H++[(⟨[100]++cU g.a7H.length,((aL l mc g.a).1:Nat),(dom:Nat)⟩:eO).cells]:=by simp[qH]
    unfold pV;simp only;rw[e];exact Z
   ·exact Lq
  ·have y:¬(Z' g.a7H:Int)<(a6O:Nat):=Om;rw[aD W]at d;simp only[go_sem,y,CV,S];refine aJ (i+1,u,x,Q) ⟨hlt,by rw[d];exact w⟩ (by simp only;omega) ?_ b_;exact Lq
 ·have p:¬(i:Int)<(n:Nat):=Om;have:i=n:=Om;subst this;simp only[go_sem,p];exact hK u x _ _ w
def avC(G:GE)(v:PV)(mc:Nat)(s':GS)(r:PV)(B':List BX)(L':List LI):Prop:=r=.tup []∧∃d e,B'=G.boxes v mc d e s'.a∧L'=pV s' d e
def tp(C:Ctx)(l:List Nat)(v:PV)(mc a6O k:Nat):Prop:=
 ∀(G:GE)(e i:PV)(s:GS)(dom:Nat)(x:cX),GOk l a6O s→s.a6X[dom]?=some x→x.level=4-(k:Int)→∀d,aT d (G.boxes v mc e i s.a) (pV s e i) →
  aH C 7 [.ptr G.o 2 0 0,.ptr G.fo 7 0 0,.int .i64 dom,.int .i64 a6O] d (λr H'=>∃B' L',avC G v mc (gP l mc a6O k dom s) r B' L'∧aT H' B' L')
theorem aFH{lv:Nat}(h:lv≤4):([45,115,114,107,109]:List UInt8)[lv]?=some (pK lv):=by
 match lv,h with
 |0,_=>rfl
 |1,_=>rfl
 |2,_=>rfl
 |3,_=>rfl
 |4,_=>rfl
theorem jt{C:Ctx}{l:List Nat}{v:PV}(G:GE)(mc a6O dom lv n i k p:Nat)(γ:lv=4-k)(hk:k<4)(y:tp C l v mc a6O k)(g:GS)(x:cX)(a:Nat)(V:GOk l a6O { g with a6X:=g.a6X++[x],a:=a })(hx:x.level=(lv:Nat))(W w:PV)(β:a6O≤60)(K:cD)(F:PF)(H:PH)
  (d:(gU G dom a6O lv n i).le F) (f11:F 11=some (.ptr p 7 0 0)) (J:aT H (G.boxes v mc W w a++[(p,.rows 7 [x.cells])]) (pV g W w))
  (hK:∀u A S H',(gU G dom a6O lv n i).le S→aT H' (G.boxes v mc u A (gP l mc a6O k g.a6X.length { g with a6X:=g.a6X++[x],a:=a }).a) (pV (gP l mc a6O k g.a6X.length { g with a6X:=g.a6X++[x],a:=a }) u A)→K .normal S H') :
  aC.wp C (.draw ZR) (jW C (aC.wp C (.region ZS)) K) F H:=by
 have f0:F 0=some (.ptr G.o 2 0 0):=d 0 _ (by unfold gU;simp only[go_sem]);have f1:F 1=some (.ptr G.fo 7 0 0):=d 1 _ (by unfold gU;simp only[go_sem]);have f2:F 2=some (.int .i64 dom):=d 2 _ (by unfold gU;simp only[go_sem]);have f3:F 3=some (.int .i64 a6O):=d 3 _ (by unfold gU;simp only[go_sem]);have f8:F 8=some (.int .i64 lv):=d 8 _ (by unfold gU;simp only[go_sem]);have f9:F 9=some (.int .i64 n):=d 9 _ (by unfold gU;simp only[go_sem]);have α:F 10=some (.int .i64 i):=d 10 _ (by unfold gU;simp only[go_sem]);have O:=V.a6X;simp only[a8F,a8J]at O;have b1:=J.at 1 rfl;have b2:=J.at 2 rfl;have B:(1:Nat)*7≤16777216:=by decide
 refine cP .nil fT a_ ?_;simp only[go_sem,ZR,f1,f11,b1,b2,B,a8M,a8W,or_false,forall_eq,forall_eq_or_imp];refine J.append 0 (src:=[x.cells]) rfl rfl (by unfold roomFor;rw[a7Z];simp only[a8J,maxLen];omega) λu H2 E hw=>?_;obtain⟨q,rfl⟩:=hw bD;have hl:(nO g.a6X++[x.cells]).length=Z' g.a6X+1:=by simp
 rw[hl]at E ⊢;have Y:=E.at 1 rfl;refine⟨a_,?_⟩;simp only[go_sem,Y,a8M,a8W,or_false,forall_eq];have U:=E.set 1 rfl (flB G.ext G.wl (.osl G.qm 4 0 mc) (.osl q 7 0 (Z' g.a6X+1)) w G.wp G.wv);have c2:=U.at 1 rfl;refine⟨a_,?_⟩;have e:nO (g.a6X++[x])=nO g.a6X++[x.cells]:=by simp[nO]
 have Z:IntKind.i64.wrap (((Z' g.a6X+1:Nat):Int)-1)=(Z' g.a6X:Int):=by rw[wrap_i64 Om Om];omega
 simp only[go_sem,ZS,f0,f1,f3,Z];have h4:aT (H2.set G.fo (flB G.ext G.wl (.osl G.qm 4 0 mc) (.osl q 7 0 (Z' g.a6X+1)) w G.wp G.wv)) (G.boxes v mc (.osl q 7 0 (Z' g.a6X+1)) w a++[(p,.rows 7 [x.cells])]) (pV { g with a6X:=g.a6X++[x],a:=a } (.osl q 7 0 (Z' g.a6X+1)) w++[]):=by unfold pV;simp only;rw[e];exact U
 refine OB h4 (λX N=>y G _ w { g with a6X:=g.a6X++[x],a:=a } g.a6X.length x V bD (by rw[hx];omega) X N) rfl ?_;rintro r B' L' H' ⟨rfl,Q,R,rfl,rfl⟩ M;refine hK Q R _ _ ?_ (M.sub (List.sublist_append_left ..) (by rw[a9W];exact baM.refl _));unfold gU;exact Lq
theorem XD{C:Ctx}(V:rB C){l:List Nat}{v:PV}(T:Tp l v)(G:GE)(mc a6O dom n k:Nat)(hk:k<4)(X:a6O≤60)(hn:n≤10)(R:tp C l v mc a6O k)(s:GS)(hs:GOk l a6O s)(ζ:0<Z' s.a6X)(O Q:PV)(K:cD)(F:PF)(H:PH)
  (hF:(gU G dom a6O (4-k) n 0).le F) (E:aT H (G.boxes v mc O Q s.a) (pV s O Q))
  (hK:∀e A B y H',(e=.exit 0∨e=.ret)→aT H' (G.boxes v mc A B (kB l (4-k) a6O dom (gP l mc a6O k) s n).a) (pV (kB l (4-k) a6O dom (gP l mc a6O k) s n) A B)→K e y H') :
  aC.wp C (.loop CU) K F H:=by
 obtain⟨lv,U⟩:∃lv,lv=4-k:=⟨_,rfl⟩;rw[←U]at hF hK;refine wp_loop (α:=Nat × PV × PV × PH) (λt=>gU G dom a6O lv n t.1) (λt=>t.2.2.2) (λt=>t.1≤n∧aT t.2.2.2 (G.boxes v mc t.2.1 t.2.2.1 (kB l lv a6O dom (gP l mc a6O k) s t.1).a) (pV (kB l lv a6O dom (gP l mc a6O k) s t.1) t.2.1 t.2.2.1)) (λt=>n-t.1) (0,O,Q,H) ⟨a8H _,E⟩ hF b_ ?_;rintro⟨i,O,Q,H0⟩ ⟨hi,E⟩;simp only at hi E ⊢;obtain⟨Z,u,gu⟩:=n8 (level:=lv) (dom:=dom) (λd t ht=>n9 (mc:=mc) k d ht) hs i;have M:=λh=>ayN (l:=l) (level:=lv) (a6O:=a6O) (dom:=dom) (rec:=gP l mc a6O k) (s:=s) (i:=i) h n hi;have x:kB l lv a6O dom (gP l mc a6O k) s (i+1)=(if uS a6O (kB l lv a6O dom (gP l mc a6O k) s i)then kB l lv a6O dom (gP l mc a6O k) s i else gP l mc a6O k ((rD l lv dom (kB l lv a6O dom (gP l mc a6O k) s i)).a6X.length-1) (rD l lv dom (kB l lv a6O dom (gP l mc a6O k) s i))):=rfl;simp only[go_sem,CU,pt,gU];by_cases hlt:i<n
 ·have N:(i:Int)<(n:Nat):=Om;generalize hg:kB l lv a6O dom (gP l mc a6O k) s i=g at *
  have ε:0<Z' g.a6X:=by rw[gu,a8F];omega
  have b1:=E.at 1 rfl;have lr:=(E.own 1 rfl).tB;have ld:=(E.own 0 rfl).tB;rw[a7Z]at lr ld;have ei:=wZz i;simp only[go_sem,N,pu,bO (Om:((lv:Nat):Int)≠5),Js,b1,lr];by_cases c1:a6O≤Z' g.a7H
  ·have W:uS a6O g=true:=by unfold uS;simp[c1]
   simp only[go_sem,show(Z' g.a7H:Int)≥(a6O:Nat) by omega];exact hK _ O Q _ _ (.inr rfl) (by rw[M W];exact E)
  simp only[go_sem,show ¬(Z' g.a7H:Int)≥(a6O:Nat) by omega,b1,ld];by_cases c2:35≤Z' g.a6X
  ·have W:uS a6O g=true:=by unfold uS;simp[c2]
   simp only[go_sem,show(Z' g.a6X:Int)≥35 by omega];exact hK _ O Q _ _ (.inr rfl) (by rw[M W];exact E)
  have W:uS a6O g=false:=by unfold uS;simp[c1,c2]
  rw[aD (by rw[W];decide)]at x;simp only[go_sem,show ¬(Z' g.a6X:Int)≥35 by omega];have ls:=aFH (Om:lv≤4);refine cP .nil (mkS l v) a_ ?_;have γ:jN [[PV.int IntKind.u8 (((pK lv).toNat:Nat):Int)]]=some [pK lv]:=by simp[jN]
  obtain⟨Y,x0,β,-⟩:=alI (level:=lv) (dom:=dom) Z W;have δ:(rD l lv dom g).a6X.length-1=Z' g.a6X:=by rw[β];simp
  rw[δ]at x;have h1:=E.set 0 rfl (bX v (aL l 16 g.a).2);have a1:=cE l 16 Z.a;have n1:=dC l (show 0<16 by decide) g.a;have e1:IntKind.i64.wrap (1+((aL l 16 g.a).1:Int))=((1+(aL l 16 g.a).1:Nat):Int):=by rw[wrap_i64 Om Om];omega
  simp only[go_sem,Jt,ls,γ,b1,ld];refine QR V.toyL (s:=[pK lv]) (n:=Z' g.a6X) bD (by have:=Z.a6X;omega) rfl a_ ?_;simp only[go_sem];refine wZ V.toPW T (o:=G.o) (n:=16) (a:=g.a) Om Z.a rfl (E.at 0 rfl) a_ ?_;simp only[go_sem,e1];refine aSG V.toPW (n:=0) (by unfold eH;omega) rfl a_ ?_;simp only[go_sem,a8M,a8W,or_false,forall_eq,forall_eq_or_imp];refine aR λp hp=>?_;have h2:=h1.new hp (.rows 7 [(⟨[pK lv]++cU g.a6X.length,(lv:Nat),(dom:Nat),(1+(aL l 16 g.a).1:Nat),mV⟩:cX).cells]);simp only[go_sem,a8M,a8W,or_false,forall_eq,forall_eq_or_imp];refine⟨a_,?_⟩;simp only[go_sem,Ju];refine eX V.toPW T (o:=G.o) (n:=3) (a:=(aL l 16 g.a).2) aV a1 rfl (h2.at 0 rfl) ?_;have h3:=h2.set 0 rfl (bX v (aL l 3 (aL l 16 g.a).2).2);have a2:=cE l 3 a1;by_cases c3:(aL l 3 (aL l 16 g.a).2).1=0
  ·have hd:rD l lv dom g={ g with a6X:=g.a6X++[⟨[pK lv]++cU g.a6X.length,(lv:Nat),(dom:Nat),(1+(aL l 16 g.a).1:Nat),mkT 1 ((2+(aL l 6 (aL l 3 (aL l 16 g.a).2).2).1:Nat):Int)⟩],a:=(aL l 6 (aL l 3 (aL l 16 g.a).2).2).2 }:=by unfold rD;simp only[c3,if_true]
   rw[hd]at x Y;have n2:=dC l (show 0<6 by decide) (aL l 3 (aL l 16 g.a).2).2;have e2:IntKind.i64.wrap (2+((aL l 6 (aL l 3 (aL l 16 g.a).2).2).1:Int))=((2+(aL l 6 (aL l 3 (aL l 16 g.a).2).2).1:Nat):Int):=by rw[wrap_i64 Om Om];omega
   simp only[go_sem,cC (show(((aL l 3 (aL l 16 g.a).2).1:Nat):Int)=0 by omega),Jv];refine eX V.toPW T (o:=G.o) (n:=6) (a:=(aL l 3 (aL l 16 g.a).2).2) aV a2 rfl (h3.at 0 rfl) ?_;have h4:=h3.set 0 rfl (bX v (aL l 6 (aL l 3 (aL l 16 g.a).2).2).2);rw[PH.set_set]at h4;simp only[go_sem,e2];refine aB (V.fmk 1 ((2+(aL l 6 (aL l 3 (aL l 16 g.a).2).2).1:Nat):Int) (by unfold eH;omega) (by unfold eH;omega)) rfl ?_;unfold DC;rw[aD Om];simp only[go_sem,show ¬p=G.o from h4.ne 2 0 rfl rfl aV];have h5:=h4.set 2 rfl (.rows 7 [(⟨[pK lv]++cU g.a6X.length,(lv:Nat),(dom:Nat),(1+(aL l 16 g.a).1:Nat),mkT 1 ((2+(aL l 6 (aL l 3 (aL l 16 g.a).2).2).1:Nat):Int)⟩:cX).cells])
   try simp only[Gc]
   refine jt G mc a6O dom lv n i k p U hk R g _ _ Y rfl O Q X _ _ _ (by unfold gU;exact Lq) rfl h5 ?_;intro A B y H' w J;rw[←x]at J;have S:y 10=some (.int .i64 i):=w 10 _ (by unfold gU;simp only[go_sem]);have g0:y 0=some (.ptr G.o 2 0 0):=w 0 _ (by unfold gU;simp only[go_sem]);have g1:y 1=some (.ptr G.fo 7 0 0):=w 1 _ (by unfold gU;simp only[go_sem]);have g2:y 2=some (.int .i64 dom):=w 2 _ (by unfold gU;simp only[go_sem]);have g3:y 3=some (.int .i64 a6O):=w 3 _ (by unfold gU;simp only[go_sem]);have g8:y 8=some (.int .i64 lv):=w 8 _ (by unfold gU;simp only[go_sem]);have g9:y 9=some (.int .i64 n):=w 9 _ (by unfold gU;simp only[go_sem]);simp only[go_sem,CV,S,ei];refine aJ (i+1,A,B,H') ⟨hlt,J⟩ (by simp only;omega) ?_ b_;exact Lq
  ·have hd:rD l lv dom g={ g with a6X:=g.a6X++[⟨[pK lv]++cU g.a6X.length,(lv:Nat),(dom:Nat),(1+(aL l 16 g.a).1:Nat),mV⟩],a:=(aL l 3 (aL l 16 g.a).2).2 }:=by unfold rD;simp only[c3,if_false]
   rw[hd]at x Y;simp only[go_sem,bO (show ¬(((aL l 3 (aL l 16 g.a).2).1:Nat):Int)=0 by omega)]
   try simp only[Gc]
   refine jt G mc a6O dom lv n i k p U hk R g _ _ Y rfl O Q X _ _ _ (by unfold gU;exact Lq) rfl h3 ?_;intro A B y H' w J;rw[←x]at J;have S:y 10=some (.int .i64 i):=w 10 _ (by unfold gU;simp only[go_sem]);have g0:y 0=some (.ptr G.o 2 0 0):=w 0 _ (by unfold gU;simp only[go_sem]);have g1:y 1=some (.ptr G.fo 7 0 0):=w 1 _ (by unfold gU;simp only[go_sem]);have g2:y 2=some (.int .i64 dom):=w 2 _ (by unfold gU;simp only[go_sem]);have g3:y 3=some (.int .i64 a6O):=w 3 _ (by unfold gU;simp only[go_sem]);have g8:y 8=some (.int .i64 lv):=w 8 _ (by unfold gU;simp only[go_sem]);have g9:y 9=some (.int .i64 n):=w 9 _ (by unfold gU;simp only[go_sem]);simp only[go_sem,CV,S,ei];refine aJ (i+1,A,B,H') ⟨hlt,J⟩ (by simp only;omega) ?_ b_;exact Lq
 ·have N:¬(i:Int)<(n:Nat):=Om;have:i=n:=Om;subst this;simp only[go_sem,N];exact hK _ O Q _ _ (.inl rfl) E
theorem Yn{C:Ctx}(N:rB C){l:List Nat}{v:PV}(T:Tp l v)(mc a6O k:Nat)(S:0<mc)(H:mc≤1000)(A:a6O≤60)(hk:k≤4)(K:∀Y,k=Y+1→tp C l v mc a6O Y)(G:GE)(V M:PV)(s:GS)(dom:Nat)(x:cX)
  (O:GOk l a6O s) (X:s.a6X[dom]?=some x) (hl:x.level=4-(k:Int)) (Q:PH) (E:aT Q (G.boxes v mc V M s.a) (pV s V M)) :
  EQ.wp C (aY Qq.res (λr H'=>∃B' L',avC G v mc (gP l mc a6O k dom s) r B' L'∧aT H' B' L')) (PF.args [.ptr G.o 2 0 0,.ptr G.fo 7 0 0,.int .i64 dom,.int .i64 a6O]) Q:=by
 have y:dom<Z' s.a6X:=(a9I.1 X).1;have b1:=E.at 1 rfl;have fin:∀(e:mZ)(d i:PV)(u:PF)(H':PH),(e=.exit 0∨e=.ret)→aT H' (G.boxes v mc d i (gP l mc a6O k dom s).a) (pV (gP l mc a6O k dom s) d i) →
   fQ 0 (aY Qq.res (λr H'=>∃B' L',avC G v mc (gP l mc a6O k dom s) r B' L'∧aT H' B' L')) e u H':=by
  intro e d i u H' F p;rcases F with rfl|rfl
  ·rw[LC,aG rfl];exact bE (vs:=[]) (.inl rfl) H' rfl b_ ⟨_,_,⟨rfl,d,i,rfl,rfl⟩,p⟩
  ·exact bE (vs:=[]) (.inr rfl) H' rfl b_ ⟨_,_,⟨rfl,d,i,rfl,rfl⟩,p⟩
 obtain⟨q,rs,e1,e2,e3,e4⟩:∃q rs,V=.osl q 7 0 s.a6X.length∧Q q=some (.rows 7 rs)∧Z' s.a6X≤Z' rs∧rs.take s.a6X.length=nO s.a6X:=by
  rcases E.own 0 rfl with⟨w,_⟩|⟨q,rs,w,h2,h3,h4⟩
  ·have:=congrArg List.length w;rw[a7Z]at this;simp at this;rw[this]at y;simp at y
  ·rw[a7Z]at w h3 h4;exact⟨q,rs,w,h2,h3,h4⟩
 have U:rs[dom]?=some x.cells:=by
  have:(nO s.a6X)[dom]?=some x.cells:=by simp[nO,X]
  rw[←e4,List.getElem?_take_of_lt y]at this;exact this
 subst e1;have Z:(dom:Int)<(Z' s.a6X:Nat):=Om;have ew:IntKind.i64.wrap (x.level+1)=((5-k:Nat):Int):=by rw[hl,wrap_i64 Om Om];omega
 have β:=dC l (show 0<2 by decide) s.a;have en:IntKind.i64.wrap (1+((aL l 2 s.a).1:Int))=((1+(aL l 2 s.a).1:Nat):Int):=by rw[wrap_i64 Om Om];omega
 have w:=E.set 0 rfl (bX v (aL l 2 s.a).2);have B:GOk l a6O { s with a:=(aL l 2 s.a).2 }:=⟨O.a6X,O.a7H,cE l 2 O.a⟩;have α:¬q=G.o:=λh=>E.neL 0 0 rfl rfl rfl h.symm;simp only[go_sem,EQ,Yo,b1,Z,e2,U,ew,Yp];refine eX N.toPW T (o:=G.o) (n:=2) (a:=s.a) aV O.a (by simp only[go_sem];rfl) (E.at 0 rfl) ?_;simp only[go_sem,en,Yq];cases k with
 |zero=>
  simp only[go_sem,bO (Om:¬((5-0:Nat):Int)=2),SW];refine Ym (C:=C) N T G mc a6O dom (1+(aL l 2 s.a).1) S H A Om { s with a:=(aL l 2 s.a).2 } B _ M _ _ _ ?_ w ?_
  ·unfold gU;exact Lq
  ·intro d i u H' p;exact fin _ d i u H' (.inl rfl) p
 |succ k=>
  have J:=K k rfl;by_cases W:4-k=2
  ·have R:gP l mc a6O (k+1) dom s=kB l (4-k) a6O dom (gP l mc a6O k) { s with a:=(aL l 2 s.a).2 } 1:=by simp only[gP,aG W]
   simp only[go_sem,cC (show((5-(k+1):Nat):Int)=2 by omega),Yr,SW];refine XD (C:=C) N T G mc a6O dom 1 k Om A aV J { s with a:=(aL l 2 s.a).2 } B (by simp only;omega) _ M _ _ _ ?_ w ?_
   ·unfold gU
    (repeat' (first|exact d_|refine c_ ?_ ?_))<;>first|(simp only[go_sem,show 4-k=5-(k+1) by omega]<;>rfl)|rfl
   ·intro e d i u H' F p;rw[←R]at p;exact fin e d i u H' F p
  ·have R:gP l mc a6O (k+1) dom s=kB l (4-k) a6O dom (gP l mc a6O k) { s with a:=(aL l 2 s.a).2 } (1+(aL l 2 s.a).1):=by simp only[gP,aD W]
   simp only[go_sem,bO (show ¬((5-(k+1):Nat):Int)=2 by omega),SW];refine XD (C:=C) N T G mc a6O dom (1+(aL l 2 s.a).1) k Om A Om J { s with a:=(aL l 2 s.a).2 } B (by simp only;omega) _ M _ _ _ ?_ w ?_
   ·unfold gU
    (repeat' (first|exact d_|refine c_ ?_ ?_))<;>first|(simp only[go_sem,show 4-k=5-(k+1) by omega]<;>rfl)|rfl
   ·intro e d i u H' F p;rw[←R]at p;exact fin e d i u H' F p
theorem Vq{C:Ctx}(w:rB C){l:List Nat}{v:PV}(T:Tp l v)(mc a6O:Nat)(p:0<mc)(d:mc≤1000)(i:a6O≤60)
  (y:∀(args:List PV)(H:PH)(R:PV→PH→Prop),Z' args=4→EQ.wp C (aY Qq.res R) (PF.args args) H→aH C 7 args H R):∀k,k≤4→tp C l v mc a6O k
 |0,h=>λG J K s dom x E F B u A=>y _ _ _ rfl (Yn w T mc a6O 0 p d i h (λ_ e=>by omega) G J K s dom x E F B u A)
 |k+1,h=>λG J K s dom x E F B u A=>y _ _ _ rfl (Yn w T mc a6O (k+1) p d i h (λM e=>by have:M=k:=Om;subst this;exact Vq w T mc a6O p d i y M Om) G J K s dom x E F B u A)
theorem aTQ(l:List Nat)(fD:Nat){a:Nat}(h:a≤Z' l):(vT l fD a).2≤Z' l:=(D8 l (1+(aL l fD a).1) (cE l fD h) (1+(aL l fD a).1)).1
theorem pi(l:List Nat){a:Nat}(h:a≤Z' l):∀k,(lD l a k).2≤Z' l∧(lD l a k).1.length=k
 |0=>⟨h,rfl⟩
 |k+1=>by obtain⟨d,e⟩:=pi l h k;exact⟨aTQ l 2 d,by simp only[lD,a8F,a8J,e]⟩
theorem TB(l:List Nat)(a6V:Nat){a:Nat}(h:a≤Z' l):∀k,(fS l a6V a k).2≤Z' l∧(fS l a6V a k).1.length=k
 |0=>⟨h,rfl⟩
 |k+1=>by obtain⟨d,e⟩:=TB l a6V h k;exact⟨cE l a6V (cE l 8 (cE l 4 d)),by simp only[fS,a8F,a8J,e]⟩
structure FE where
 o:Nat
 o6:Nat
 o7:Nat
 a6O:Nat
 a6Q:Nat
abbrev flZ:aU:=flB (.int .i64 0) .aF .aF .aF .aF .aF .aF
abbrev FE.boxes(E:FE)(v ext d e i l p u:PV)(a:Nat):List BX:=[(E.o,bX v a),(E.o7,flB ext d e i l p u),(E.o6,flZ)]
def jP(E:FE):PF:=(((((PF.nil.set 0 (.ptr E.o 2 0 0)).set 1 (.int .i64 E.a6O)).set 2 (.int .i64 E.a6Q)).set 6 (.ptr E.o6 7 0 0)).set 7 (.ptr E.o7 7 0 0))
abbrev kW(l:List cY):List (List PV):=l.map cY.cells
abbrev mW(l:List dR):List (List PV):=l.map dR.cells
theorem gz{E:FE}{F:PF}(d:F 0=some (.ptr E.o 2 0 0))(e:F 1=some (.int .i64 E.a6O))(i:F 2=some (.int .i64 E.a6Q))(l:F 6=some (.ptr E.o6 7 0 0))(h7:F 7=some (.ptr E.o7 7 0 0)):(jP E).le F:=
 c_ (c_ (c_ (c_ (c_ d_ d) e) i) l) h7
theorem aNJ{C:Ctx}(O:rB C){l:List Nat}{v:PV}(T:Tp l v)(E:FE)(n a:Nat)(hn:n≤10)(W:a≤Z' l)(ext:PV)(K:cD)(F:PF)(H:PH)
  (U:(((jP E).set 8 (.int .i64 n)).set 9 (.int .i64 0)).le F) (x:aT H (E.boxes v ext .aF .aF .aF .aF .aF .aF a) [])
  (V:∀J N H',(jP E).le N→aT H' (E.boxes v ext J .aF .aF .aF .aF .aF (lD l a n).2) [(J,4,kW (lD l a n).1)]→K (.exit 0) N H') :
  aC.wp C (.loop ZQ) K F H:=by
 refine wp_loop (α:=Nat × PV × PH) (λt=>((jP E).set 8 (.int .i64 n)).set 9 (.int .i64 t.1)) (λt=>t.2.2) (λt=>t.1≤n∧aT t.2.2 (E.boxes v ext t.2.1 .aF .aF .aF .aF .aF (lD l a t.1).2) [(t.2.1,4,kW (lD l a t.1).1)]) (λt=>n-t.1) (0,.aF,H) ⟨a8H _,x.sE 4⟩ U b_ ?_;rintro⟨i,J,Y⟩ ⟨hi,x⟩;simp only at hi x ⊢;obtain⟨k1,k2⟩:=pi l W i;have w:lD l a (i+1)=((lD l a i).1++[{ (vT l 2 (lD l a i).2).1 with name:=[108,97,119]++cU i }],(vT l 2 (lD l a i).2).2):=rfl;simp only[go_sem,ZQ,Jn,jP];by_cases hlt:i<n
 ·have d:(i:Int)<(n:Nat):=Om;generalize Z:lD l a i=g at *
  simp only[go_sem,d,Jo];refine pJ (O.law l v T E.o 2 g.2 aV aV k1) (x.at 0 rfl) rfl ?_;have R:=x.set 0 rfl (bX v (vT l 2 g.2).2);generalize hz:vT l 2 g.2=z at *
  simp only[go_sem];refine aR λp hp=>?_;have S:=R.new hp (.rows 4 [z.1.cells]);simp only[go_sem,Jp,a8M,a8W,or_false,forall_eq,forall_eq_or_imp];refine aB (O.name [108,97,119] i aV Om) rfl ?_;have y:=S.set 3 rfl (.rows 4 [({ z.1 with name:=[108,97,119]++cU i }:cY).cells]);rw[PH.set_set]at y;have b1:=y.at 1 rfl;have A:¬E.o7=p:=y.ne 1 3 rfl rfl aV;have u:¬E.o7=E.o:=y.ne 1 0 rfl rfl aV;simp only[aS,aD A,aD u]at b1;have M:(1:Nat)*4≤16777216:=by decide
  simp only[go_sem,Jq,A,u,b1,M,a8M,a8W,or_false,forall_eq,forall_eq_or_imp];refine y.append 0 (src:=[({ z.1 with name:=[108,97,119]++cU i }:cY).cells]) rfl rfl (by unfold roomFor;rw[a7Z];simp only[a8J,maxLen];omega) λw' H2 Q X=>?_;obtain⟨q,rfl⟩:=X bD;have b2:=Q.at 1 rfl;simp only[go_sem,b2,a8M,a8W,or_false,forall_eq];have h5:=Q.set 1 rfl (flB ext (.osl q 4 0 (kW g.1++[({ z.1 with name:=[108,97,119]++cU i }:cY).cells]).length) .aF .aF .aF .aF .aF);simp only[go_sem,Jr,wZz i];refine aJ (i+1,.osl q 4 0 (kW g.1++[({ z.1 with name:=[108,97,119]++cU i }:cY).cells]).length,_) ⟨hlt,?_⟩ (by simp only;omega) ?_ b_
  ·rw[w];have e:kW (g.1++[{ z.1 with name:=[108,97,119]++cU i }])=kW g.1++[({ z.1 with name:=[108,97,119]++cU i }:cY).cells]:=by simp[kW]
   simp only;rw[e];exact h5.dropLast (B:=E.boxes v ext _ .aF .aF .aF .aF .aF z.2)
  ·exact Lq
 ·have d:¬(i:Int)<(n:Nat):=Om;have:i=n:=Om;subst this;simp only[go_sem,d];exact V J _ _ (gz rfl rfl rfl rfl rfl) x
theorem azN{C:Ctx}(Q:rB C){l:List Nat}{v:PV}(T:Tp l v)(E:FE)(n a nl:Nat)(hn:n≤10)(β:nl≤1000)(ha:a≤Z' l)(ext p:PV)(a6V:List cY)(V:Z' a6V=nl)(K:cD)(F:PF)(H:PH)
  (hF:(((jP E).set 11 (.int .i64 n)).set 12 (.int .i64 0)).le F) (u:aT H (E.boxes v ext p .aF .aF .aF .aF .aF a) [(p,4,kW a6V)])
  (hK:∀B R H',(jP E).le R→R 11=some (.int .i64 n)→aT H' (E.boxes v ext p B .aF .aF .aF .aF (fS l nl a n).2) [(p,4,kW a6V),(B,4,mW (fS l nl a n).1)]→K (.exit 2) R H') :
  aC.wp C (.loop SJ) K F H:=by
 refine wp_loop (α:=Nat × PV × PH) (λt=>((jP E).set 11 (.int .i64 n)).set 12 (.int .i64 t.1)) (λt=>t.2.2) (λt=>t.1≤n∧aT t.2.2 (E.boxes v ext p t.2.1 .aF .aF .aF .aF (fS l nl a t.1).2) [(p,4,kW a6V),(t.2.1,4,mW (fS l nl a t.1).1)]) (λt=>n-t.1) (0,.aF,H) ⟨a8H _,u.sE 4⟩ hF b_ ?_;rintro⟨i,B,H0⟩ ⟨hi,u⟩;simp only at hi u ⊢;obtain⟨k1,k2⟩:=TB l nl ha i;have w:fS l nl a (i+1)=((fS l nl a i).1++[⟨[109]++cU i,(1+(aL l 4 (fS l nl a i).2).1:Nat),(1+(aL l 8 (aL l 4 (fS l nl a i).2).2).1:Nat),((aL l nl (aL l 8 (aL l 4 (fS l nl a i).2).2).2).1:Nat)⟩],(aL l nl (aL l 8 (aL l 4 (fS l nl a i).2).2).2).2):=rfl;simp only[go_sem,SJ,xz,jP];by_cases hlt:i<n
 ·have d:(i:Int)<(n:Nat):=Om;generalize hg:fS l nl a i=g at *
  have hx:=dC l (show 0<4 by decide) g.2;have W:=cE l 4 k1;have hy:=dC l (show 0<8 by decide) (aL l 4 g.2).2;have X:=cE l 8 W;have az:=cE l nl X;have S:=u.set 0 rfl (bX v (aL l 4 g.2).2);have A:=S.set 0 rfl (bX v (aL l 8 (aL l 4 g.2).2).2);have h3:=A.set 0 rfl (bX v (aL l nl (aL l 8 (aL l 4 g.2).2).2).2);generalize M:aL l 4 g.2=x at *
  generalize N:aL l 8 x.2=y at *
  generalize O:aL l nl y.2=z at *
  have b1:=u.at 1 rfl;have Z:=(u.own 0 rfl).tB;rw[a7Z,V]at Z;have J:(PH.nil.set E.o7 (flB ext p B .aF .aF .aF .aF)).le H0:=e_ a_ b1;have ex:IntKind.i64.wrap (1+(x.1:Int))=((1+x.1:Nat):Int):=by rw[wrap_i64 Om Om];omega
  have ey:IntKind.i64.wrap (1+(y.1:Int))=((1+y.1:Nat):Int):=by rw[wrap_i64 Om Om];omega
  simp only[go_sem,d];refine cP (PH.nil.set E.o7 (flB ext p B .aF .aF .aF .aF)) (mkS l v) J ?_;simp only[go_sem,x2];refine QR Q.toyL (s:=[109]) (n:=i) aV Om rfl J ?_;simp only[go_sem];refine wZ Q.toPW T (o:=E.o) (n:=4) (a:=g.2) aV k1 rfl (u.at 0 rfl) ?_ ?_
  ·rw[M];exact e_ a_ (S.at 1 rfl)
  rw[M];simp only[go_sem,ex];refine wZ Q.toPW T (o:=E.o) (n:=8) (a:=x.2) aV W rfl (S.at 0 rfl) ?_ ?_
  ·rw[N];exact e_ a_ (A.at 1 rfl)
  rw[N];simp only[go_sem,ey,Z];rw[PH.set_set]at A;refine wZ Q.toPW T (o:=E.o) (n:=nl) (a:=y.2) Om X rfl (A.at 0 rfl) ?_ ?_
  ·rw[O];exact e_ a_ ((A.set 0 rfl (bX v z.2)).at 1 rfl)
  rw[O];have Y:=A.set 0 rfl (bX v z.2);have U:(1:Nat)*4≤16777216:=by decide
  simp only[go_sem,U,a8M,a8W,or_false,forall_eq,forall_eq_or_imp];rw[PH.set_set]at Y;refine Y.append 1 (src:=[(⟨[109]++cU i,(1+x.1:Nat),(1+y.1:Nat),(z.1:Nat)⟩:dR).cells]) rfl rfl (by unfold roomFor;rw[a7Z];simp only[a8J,maxLen];omega) λw' H2 h5 hw=>?_;obtain⟨q,rfl⟩:=hw bD;have b2:=h5.at 1 rfl;refine⟨e_ a_ b2,?_⟩;refine cP .nil fT a_ ?_;simp only[go_sem,x3,b2,a8M,a8W,or_false,forall_eq];have h6:=h5.set 1 rfl (flB ext p (.osl q 4 0 (mW g.1++[(⟨[109]++cU i,(1+x.1:Nat),(1+y.1:Nat),(z.1:Nat)⟩:dR).cells]).length) .aF .aF .aF .aF);refine⟨a_,?_⟩;simp only[go_sem,x4,wZz i];refine aJ (i+1,.osl q 4 0 (mW g.1++[(⟨[109]++cU i,(1+x.1:Nat),(1+y.1:Nat),(z.1:Nat)⟩:dR).cells]).length,_) ⟨hlt,?_⟩ (by simp only;omega) ?_ b_
  ·rw[w];have e:mW (g.1++[⟨[109]++cU i,(1+x.1:Nat),(1+y.1:Nat),(z.1:Nat)⟩])=mW g.1++[(⟨[109]++cU i,(1+x.1:Nat),(1+y.1:Nat),(z.1:Nat)⟩:dR).cells]:=by simp[mW]
   simp only;rw[e];exact h6
  ·exact Lq
 ·have d:¬(i:Int)<(n:Nat):=Om;have:i=n:=Om;subst this;simp only[go_sem,d];exact hK B _ _ (gz rfl rfl rfl rfl rfl) rfl u
abbrev DP(x:cL)(w:PV):List PV:=[.str x.name,.int .i64 x.k,.int .i64 x.m,.int .i64 x.a7M,.int .i64 x.s0,.int .i64 x.s1,.int .i64 x.s2,.int .i64 x.s3,.int .i64 x.s4,w,frs x.repair,
 .bool x.target.neg,aN x.target.num,aN x.target.den,.bool x.a6Y.neg,aN x.a6Y.num,aN x.a6Y.den]
def Eb(E:FE)(mc n i:Nat):PF:=(((jP E).set 11 (.int .i64 mc)).set 13 (.int .i64 n)).set 14 (.int .i64 i)
structure PAt(E:FE)(mc n i:Nat)(F:PF):Prop where
 f0:F 0=some (.ptr E.o 2 0 0)
 f1:F 1=some (.int .i64 E.a6O)
 f2:F 2=some (.int .i64 E.a6Q)
 f6:F 6=some (.ptr E.o6 7 0 0)
 f7:F 7=some (.ptr E.o7 7 0 0)
 f11:F 11=some (.int .i64 mc)
 f13:F 13=some (.int .i64 n)
 f14:F 14=some (.int .i64 i)
def vZ(l:List Nat)(a:Nat):Nat→List Int × Nat
 |0=>([],a)
 |j+1=>let s:=vZ l a j
  let t:=kM l s.2
  (s.1++[t.1],t.2)
theorem zV(l:List Nat){a:Nat}(h:a≤Z' l):(kM l a).2≤Z' l:=by
 unfold kM;simp only;split
 ·exact cE l 3 (cE l 3 h)
 ·exact cE l 3 h
theorem Fm(l:List Nat){a:Nat}(h:a≤Z' l):∀j,(vZ l a j).2≤Z' l∧(vZ l a j).1.length=j
 |0=>⟨h,rfl⟩
 |j+1=>by obtain⟨d,e⟩:=Fm l h j;exact⟨zV l d,by simp only[vZ,a8F,a8J,e]⟩
abbrev vY(pre post:List PV)(s:List Int):List PV:=pre++(s.map λx=>PV.int .i64 x)++a8D (4-Z' s) (.int .i64 0)++post
theorem aVF{pre post:List PV}{s:List Int}(hp:Z' pre=5)(e:Z' s<4)(x:Int):(vY pre post s).set (5+Z' s) (.int .i64 x)=vY pre post (s++[x]):=by
 obtain⟨k,d⟩:∃k,4-Z' s=k+1:=⟨3-Z' s,by omega⟩;unfold vY;rw[a8F,a8J,show 4-(Z' s+1)=k by omega,d,List.replicate_succ,a8Z,a9D,baB];rw[List.set_append_left _ _ (by simp[hp]),bbB _ _ (by simp[hp])];have:5+Z' s-(pre++s.map λx=>PV.int .i64 x).length=0:=by simp[hp]
 rw[this,bbW];simp
theorem aPG{pre post:List PV}{s:List Int}(hp:Z' pre=5)(e:Z' s<4):vY pre post s=vY pre post (s++[0]):=by
 obtain⟨k,d⟩:∃k,4-Z' s=k+1:=⟨3-Z' s,by omega⟩;unfold vY;rw[a8F,a8J,show 4-(Z' s+1)=k by omega,d,List.replicate_succ,a8Z,a9D,baB];simp
theorem azO{C:Ctx}(Z:rB C){l:List Nat}{v:PV}(T:Tp l v)(E:FE)(mc n i a p:Nat)(ha:a≤Z' l)(B:List BX)(L:List LI)(pre post:List PV)(d:Z' pre=5)(y:Z' post=8)(K:cD)(F:PF)(H:PH)
  (u:PAt E mc n i F) (S:F 15=some (.ptr p 17 0 0)) (U:F 16=some (.int .i64 1)) (A:aT H ((E.o,bX v a)::B++[(p,.rows 17 [vY pre post []])]) L)
  (hK:∀Q H',PAt E mc n i Q→Q 15=some (.ptr p 17 0 0)→aT H' ((E.o,bX v (vZ l a 4).2)::B++[(p,.rows 17 [vY pre post (vZ l a 4).1])]) L→K (.exit 6) Q H') :
  aC.wp C (.loop EK) K F H:=by
 refine wp_loop (α:=Nat × PH) (λt=>((Eb E mc n i).set 15 (.ptr p 17 0 0)).set 16 (.int .i64 (t.1+1:Nat))) (λt=>t.2) (λt=>t.1≤4∧aT t.2 ((E.o,bX v (vZ l a t.1).2)::B++[(p,.rows 17 [vY pre post (vZ l a t.1).1])]) L) (λt=>4-t.1) (0,H) ⟨a8H _,A⟩ ?_ b_ ?_
 ·unfold Eb jP
  (repeat' (first|exact d_|refine c_ ?_ ?_))<;>first|(simp only[go_sem,u.f0,u.f1,u.f2,u.f6,u.f7,u.f11,u.f13,u.f14,S,U]<;>rfl)|rfl
 rintro⟨j,H0⟩ ⟨hj,A⟩;simp only at hj A ⊢;obtain⟨k1,k2⟩:=Fm l ha j;have e:vZ l a (j+1)=((vZ l a j).1++[(kM l (vZ l a j).2).1],(kM l (vZ l a j).2).2):=rfl;simp only[go_sem,EK,ya,Eb,jP];by_cases hlt:j<4
 ·generalize hg:vZ l a j=g at *
  have ei:=eQ (Om:j+1<9223372036854775807);simp only[go_sem,show((j+1:Nat):Int)<5 by omega,yb];refine eX Z.toPW T (o:=E.o) (n:=3) (a:=g.2) aV k1 (by simp only[go_sem];rfl) (A.at 0 rfl) ?_;have N:aT _ ((E.o,bX v (aL l 3 g.2).2)::B++[(p,.rows 17 [vY pre post g.1])]) L:=A.set 0 rfl (bX v (aL l 3 g.2).2);by_cases c:(aL l 3 g.2).1=0
  ·have Y:kM l g.2=(((1+(aL l 3 (aL l 3 g.2).2).1:Nat):Int),(aL l 3 (aL l 3 g.2).2).2):=by unfold kM;simp only[c,if_true]
   have n2:=dC l (show 0<3 by decide) (aL l 3 g.2).2;have e2:IntKind.i64.wrap (1+((aL l 3 (aL l 3 g.2).2).1:Int))=((1+(aL l 3 (aL l 3 g.2).2).1:Nat):Int):=by rw[wrap_i64 Om Om];omega
   simp only[go_sem,cC (show(((aL l 3 g.2).1:Nat):Int)=0 by omega),yc];refine eX Z.toPW T (o:=E.o) (n:=3) (a:=(aL l 3 g.2).2) aV (cE l 3 k1) (by simp only[go_sem];rfl) (N.at 0 rfl) ?_;have O:aT _ ((E.o,bX v (aL l 3 (aL l 3 g.2).2).2)::B++[(p,.rows 17 [vY pre post g.1])]) L:=N.set 0 rfl (bX v (aL l 3 (aL l 3 g.2).2).2);have R:=O.XR;rw[PH.set_set]at R O;have M:¬p=E.o:=λh=>by have X:=O.ndB;simp[gD,h]at X
   simp only[aS,aD M]at R;have W:((j+1:Nat):Int)<((5:Nat):Int):=Om;have V:(0:Int)≤((j+1:Nat):Int):=Om;have β:(vY pre post g.1).length=17:=by simp[vY,d,y,k2];omega
   have w:=aVF (pre:=pre) (post:=post) (s:=g.1) d Om ((1+(aL l 3 (aL l 3 g.2).2).1:Nat):Int);rw[k2]at w;have J:4+(j+1)*1=5+j:=Om;have x:5+j+1≤17:=Om;simp only[go_sem,e2,W,V,J,M,R,x,a8M,a8W,or_false,forall_eq,w,SO,ei];refine aJ (j+1,_) ⟨hlt,?_⟩ (by simp only;omega) ?_ b_
   ·rw[e,Y];exact O.Fj _
   ·exact Lq
  ·have Y:kM l g.2=(0,(aL l 3 g.2).2):=by unfold kM;simp only[c,if_false]
   simp only[go_sem,bO (show ¬(((aL l 3 g.2).1:Nat):Int)=0 by omega),SO,ei];refine aJ (j+1,_) ⟨hlt,?_⟩ (by simp only;omega) ?_ b_
   ·rw[aPG (pre:=pre) (post:=post) (s:=g.1) d Om]at N;rw[e,Y];exact N
   ·exact Lq
 ·have:j=4:=Om;subst this;simp only[go_sem,show ¬((4+1:Nat):Int)<5 by decide];exact hK _ _ ⟨by simp only[go_sem],by simp only[go_sem],by simp only[go_sem],by simp only[go_sem],by simp only[go_sem],by simp only[go_sem],by simp only[go_sem],by simp only[go_sem]⟩ Sq A
theorem aT.tQ{E:FE}{v ext d e i l p u:PV}{a:Nat}{H:PH}{B:List BX}{L:List LI}(h:aT H (E.boxes v ext d e i l p u a++B) L)(b:Nat):aT (H.set E.o (bX v b)) (E.boxes v ext d e i l p u b++B) L:=h.set 0 rfl _
abbrev rp(s:List UInt8)(k m q:Int)(w r d e i:PV)(h:RF):List PV:=[.str s,.int .i64 k,.int .i64 m,.int .i64 q,.int .i64 0,.int .i64 0,.int .i64 0,.int .i64 0,.int .i64 0,w,r,d,e,i,.bool h.neg,aN h.num,aN h.den]
theorem aNK {C : Ctx} (Lb : rB C) {l : List Nat} {v : PV} (T : Tp l v) (E : FE) (mc n i a : Nat) (ha : a ≤ l.length) (hi : i < 50) (ext w1 w2 w3 w4 w5 w6 : PV) (L : List LI) (rest : aC) (K : cD) (F : PF) (H : PH)
    (hF : PAt E mc n i F) (hH : aT H (E.boxes v ext w1 w2 w3 w4 w5 w6 a) L)
    (hK : ∀ p F' H', PAt E mc n i F' → F' 15 = some (.ptr p 17 0 0) →
      (let k := aL l 2 a; let m := aL l 3 k.2; let h := aL l 4 m.2; let q := aL l (m.1 + 1) h.2; let r := oC l q.2 (max m.1 1); let g := aL l 9 r.2
       aT H' (E.boxes v ext w1 w2 w3 w4 w5 w6 g.2 ++ [(p, .rows 17 [vY [.str ([112] ++ cU i), .int .i64 (1 + k.1 : Nat), .int .i64 (m.1 : Nat), .int .i64 (1 + k.1 + q.1 : Nat), .int .i64 0]
        ([.aF, frs r.1] ++ (mkT (g.1 : Nat) 8).cells ++ (mkT ((1 + h.1 : Nat) : Int) 1).cells) []])]) L) → aC.wp C rest K F' H') :
    aC.wp C (.seq (.region SM) (.seq (.seq (.draw EL) (.draw EM)) (.seq (.region EN) (.seq (.region EO) rest)))) K F H := by
  obtain ⟨f0, f1, f2, f6, f7, f11, f13, f14⟩ := hF;have nk := dC l (show 0 < 2 by decide) a;have ak := cE l 2 ha;have nm := dC l (show 0 < 3 by decide) (aL l 2 a).2;have am := cE l 3 ak;simp only at hK;generalize hk : aL l 2 a = k at *
  generalize hm : aL l 3 k.2 = m at *
  have nh := dC l (show 0 < 4 by decide) m.2;have ah := cE l 4 am;generalize hh : aL l 4 m.2 = h at *
  have nq := dC l (Om : 0 < m.1 + 1) h.2;have aq := cE l (m.1 + 1) ah;generalize hq : aL l (m.1 + 1) h.2 = q at *
  have ar := PI l aq (max m.1 1);generalize hr : oC l q.2 (max m.1 1) = r at *
  have ng := dC l (show 0 < 9 by decide) r.2;have ag := cE l 9 ar;generalize hg : aL l 9 r.2 = g at *
  have ek : IntKind.i64.wrap (1 + (k.1 : Int)) = ((1 + k.1 : Nat) : Int) := by rw [wrap_i64 Om Om]; omega
  have eh : IntKind.i64.wrap (1 + (h.1 : Int)) = ((1 + h.1 : Nat) : Int) := by rw [wrap_i64 Om Om]; omega
  have em : IntKind.i64.wrap ((m.1 : Int) + 1) = ((m.1 + 1 : Nat) : Int) := eQ Om;have eq' : IntKind.i64.wrap (((1 + k.1 : Nat) : Int) + (q.1 : Int)) = ((1 + k.1 + q.1 : Nat) : Int) := by rw [wrap_i64 Om Om]; omega
  have h0 : aT H (E.boxes v ext w1 w2 w3 w4 w5 w6 a ++ []) L := by rw [a9W]; exact hH
  simp only[go_sem,SM,f14];refine aB (Lb.name [112] i aV Om) rfl ?_;simp only[go_sem,f0];refine eX Lb.toPW T (o := E.o) (n := 2) (a := a) aV ha rfl (h0.at 0 rfl) ?_;have g1 := h0.tQ k.2;rw [hk];simp only[go_sem,ek,f0];refine eX Lb.toPW T (o := E.o) (n := 3) (a := k.2) aV ak rfl (g1.at 0 rfl) ?_;have g2 := g1.tQ m.2;rw [hm];rw [PH.set_set] at g2;simp only[go_sem,f0];refine eX Lb.toPW T (o := E.o) (n := 4) (a := m.2) aV am rfl (g2.at 0 rfl) ?_;have g3 := g2.tQ h.2;rw [hh];rw [PH.set_set] at g3;simp only[go_sem,eh];refine aB (Lb.int ((1 + h.1 : Nat) : Int) (by unfold eH; omega)) rfl ?_;simp only[go_sem,a8M,a8W,or_false,forall_eq,forall_eq_or_imp];refine aR fun p hp => ?_;have g4 := g3.new hp (.rows 17 [rp ([112] ++ cU i) (1 + k.1 : Nat) (m.1 : Nat) 0 .aF .aF (.bool false) .aF .aF (mkT ((1 + h.1 : Nat) : Int) 1)]);have hpo : ¬ p = E.o := g4.ne 3 0 rfl rfl aV;have hop : ¬ E.o = p := fun e => hpo e.symm;have q2 : ∀ (F2 : PF) (H2 : PH), PAt E mc n i F2 → F2 15 = some (.ptr p 17 0 0) → aT H2 (E.boxes v ext w1 w2 w3 w4 w5 w6 h.2 ++ [(p, .rows 17 [rp ([112] ++ cU i) (1 + k.1 : Nat) (m.1 : Nat) 0 .aF .aF (.bool false) .aF .aF (mkT ((1 + h.1 : Nat) : Int) 1)])]) L →
      aC.wp C (.seq (.seq (.draw EL) (.draw EM)) (.seq (.region EN) (.seq (.region EO) rest))) K F2 H2 := by
    intro F2 H2 hF2 f15 hH2;obtain ⟨f0, f1, f2, f6, f7, f11, f13, f14⟩ := hF2;have bp := hH2.at 3 rfl;have hHs : (PH.nil.set p (.rows 17 [rp ([112] ++ cU i) (1 + k.1 : Nat) (m.1 : Nat) 0 .aF .aF (.bool false) .aF .aF (mkT ((1 + h.1 : Nat) : Int) 1)])).le H2 := e_ a_ bp;simp only[go_sem];refine cP _ (mkS l v) hHs ?_;simp only[go_sem,EL,f15,bp,em,f0];refine wZ Lb.toPW T (o := E.o) (n := m.1 + 1) (a := h.2) Om ah rfl (hH2.at 0 rfl) ?_ ?_
    · rw [hq]; exact e_ a_ ((hH2.tQ q.2).at 3 rfl)
    rw [hq];have g5 := hH2.tQ q.2;simp only[go_sem,eq',f15];refine cP .nil fT a_ ?_;simp only[go_sem,EM,hpo,bp];refine ⟨a_, ?_⟩;have g6 : aT _ (E.boxes v ext w1 w2 w3 w4 w5 w6 q.2 ++ [(p, .rows 17 [rp ([112] ++ cU i) (1 + k.1 : Nat) (m.1 : Nat) (1 + k.1 + q.1 : Nat) .aF .aF (.bool false) .aF .aF (mkT ((1 + h.1 : Nat) : Int) 1)])]) L := g5.set 3 rfl (.rows 17 [rp ([112] ++ cU i) (1 + k.1 : Nat) (m.1 : Nat) (1 + k.1 + q.1 : Nat) .aF .aF (.bool false) .aF .aF (mkT ((1 + h.1 : Nat) : Int) 1)]);have bq := g6.at 3 rfl;simp only[go_sem,EN,f0,f15];refine pJ (Lb.rep l v T E.o q.2 m.1 Om aq) (g6.at 0 rfl) rfl ?_;have g7 := g6.tQ r.2;rw [hr];simp only[go_sem,hpo,f15];have g8 : aT _ (E.boxes v ext w1 w2 w3 w4 w5 w6 r.2 ++ [(p, .rows 17 [rp ([112] ++ cU i) (1 + k.1 : Nat) (m.1 : Nat) (1 + k.1 + q.1 : Nat) .aF (frs r.1) (.bool false) .aF .aF (mkT ((1 + h.1 : Nat) : Int) 1)])]) L := g7.set 3 rfl (.rows 17 [rp ([112] ++ cU i) (1 + k.1 : Nat) (m.1 : Nat) (1 + k.1 + q.1 : Nat) .aF (frs r.1) (.bool false) .aF .aF (mkT ((1 + h.1 : Nat) : Int) 1)]);simp only[go_sem,EO,f0];refine eX Lb.toPW T (o := E.o) (n := 9) (a := r.2) aV ar rfl (g8.at 0 rfl) ?_;have g9 := g8.tQ g.2;rw [hg];simp only[go_sem];refine aB (Lb.fmk (g.1 : Int) 8 (by unfold eH; omega) (by unfold eH; omega)) rfl ?_;unfold DC;rw [aD aV];simp only[go_sem,f15,hpo];have g10 := g9.set 3 rfl (.rows 17 [vY [.str ([112] ++ cU i), .int .i64 (1 + k.1 : Nat), .int .i64 (m.1 : Nat), .int .i64 (1 + k.1 + q.1 : Nat), .int .i64 0]
        ([.aF, frs r.1] ++ (mkT (g.1 : Nat) 8).cells ++ (mkT ((1 + h.1 : Nat) : Int) 1).cells) []])
    refine hK p _ _ ⟨by simp only[go_sem,f0], by simp only[go_sem,f1], by simp only[go_sem,f2], by simp only[go_sem,f6], by simp only[go_sem,f7], by simp only[go_sem,f11], by simp only[go_sem,f13], by simp only[go_sem,f14]⟩ (by simp only[go_sem,f15]) g10
  simp only [aC.wp, go_sem] at q2;simp only[go_sem,a8M,a8W,or_false,forall_eq,forall_eq_or_imp];exact q2 _ _ ⟨by simp only[go_sem,f0], by simp only[go_sem,f1], by simp only[go_sem,f2], by simp only[go_sem,f6], by simp only[go_sem,f7], by simp only[go_sem,f11], by simp only[go_sem,f13], by simp only[go_sem,f14]⟩ rfl g4
abbrev FE.lists(u w x y A:PV)(i:List cY)(l:List dR)(d:List cX)(e:List eO)(p:List (List PV)):List LI:=[(u,4,kW i),(w,4,mW l),(x,7,nO d),(y,3,qH e),(A,17,p)]
theorem aNL{C:Ctx}(Lb:rB C){l:List Nat}{v:PV}(T:Tp l v)(E:FE)(mc n i a:Nat)(ha:a≤Z' l)(η:0<mc)(μ:mc≤50)(ext y A B J w5:PV)(lw:List cY)(md:List dR)(dm:List cX)(dv:List eO)(pr:List (List PV))(ρ:Z' pr≤50)
  (s:List UInt8) (k m q:Int) (r t h:RF) (N:List RF) (p:Nat) (K:cD) (F:PF) (H:PH)
  (hF:PAt E mc n i F) (u:F 15=some (.ptr p 17 0 0))
  (hH:aT H (E.boxes v ext y A B J w5 .aF a++[(p,.rows 17 [vY [.str s,.int .i64 k,.int .i64 m,.int .i64 q,.int .i64 0] ([.aF,frs N]++t.cells++h.cells) []])]) (FE.lists y A B J w5 lw md dm dv pr))
  (V:(let M:=vZ l a 4;let f:=aL l mc M.2;let b:=aL l 2 f.2
   let ms:List Int × Nat:=if 1<mc then(if b.1=0 then([(f.1:Int),1-(f.1:Int)],b.2)else([(f.1:Int)],b.2))else([(f.1:Int)],f.2)
   ∀(w d:PV)(W:PF)(H':PH)(B':List BX),PAt E mc n i W→(∃o,w=.osl o 1 0 ms.1.length)→aT H' (E.boxes v ext y A B J d .aF ms.2++B')
    (FE.lists y A B J d lw md dm dv (pr++[DP ⟨s,k,m,q,0,(M.1.getD 0 0),(M.1.getD 1 0),(M.1.getD 2 0),(M.1.getD 3 0),ms.1,N,t,h⟩ w])++[(w,1,bA ms.1)])→K .normal W H')) :
  aC.wp C (.seq (.seq (.region SN) (.block 6 (.loop EK))) (.seq (.region SP) (.seq (.region SQ) (.seq (.seq (.region SR) (.cond (.tmp 143) (.region SS) .skip)) (.region EP))))) K F H:=by
 obtain⟨f0,f1,f2,f6,f7,f11,f13,f14⟩:=hF;simp only[go_sem,SN];refine azO (C:=C) Lb T E mc n i a p ha [(E.o7,flB ext y A B J w5 .aF),(E.o6,flZ)] _ _ _ rfl rfl _ _ H ⟨by simp only[go_sem,f0],by simp only[go_sem,f1],by simp only[go_sem,f2],by simp only[go_sem,f6],by simp only[go_sem,f7],by simp only[go_sem,f11],by simp only[go_sem,f13],by simp only[go_sem,f14]⟩ (by simp only[go_sem,u]) rfl hH ?_;clear f0 f1 f2 f6 f7 f11 f13 f14 u hH;intro F1 H1 ε u x;obtain⟨f0,f1,f2,f6,f7,f11,f13,f14⟩:=ε;obtain⟨α,ls⟩:=Fm l ha 4;have ι:∃O Q R S,(vZ l a 4).1=[O,Q,R,S]:=⟨_,_,_,_,rfl⟩;simp only at V;generalize ν:vZ l a 4=M at *
 obtain⟨O,Q,R,S,hx⟩:=ι;rw[hx]at V x;replace x:aT H1 (E.boxes v ext y A B J w5 .aF M.2++[(p,.rows 17 [DP ⟨s,k,m,q,0,O,Q,R,S,[],N,t,h⟩ .aF])]) (FE.lists y A B J w5 lw md dm dv pr):=x;have nf:=dC l η M.2;have af:=cE l mc α;generalize hf:aL l mc M.2=f at *
 have ab:=cE l 2 af;generalize hb:aL l 2 f.2=b at *
 have Z:¬p=E.o:=x.ne 3 0 rfl rfl aV;have θ:¬p=E.o7:=x.ne 3 1 rfl rfl aV;have ο:¬E.o7=p:=λe=>θ e.symm;have ξ:¬E.o7=E.o:=x.ne 1 0 rfl rfl aV;simp only[go_sem,SP,f0,f11];refine eX Lb.toPW T (o:=E.o) (n:=mc) (a:=M.2) Om α rfl (x.at 0 rfl) ?_;have h2:=x.set 0 rfl (bX v f.2);rw[hf];simp only[go_sem,SQ];refine aR λo ho=>?_;have h3:=h2.aAB (s:=1) (rows:=bA [(f.1:Int)]) ho;have b3:=h3.at 3 rfl;have ob:¬p=o:=h3.neL 3 5 rfl rfl rfl;have σ:¬E.o7=o:=h3.neL 1 5 rfl rfl rfl;have τ:¬E.o=o:=h3.neL 0 5 rfl rfl rfl;simp only[aS,aD ob,aD Z]at b3;simp only[go_sem,u,ob,Z,b3,a8M,a8W,or_false,forall_eq];have h4:=h3.set 3 rfl (.rows 17 [DP ⟨s,k,m,q,0,O,Q,R,S,[],N,t,h⟩ (.osl o 1 0 1)]);have fin:∀(w:PV)(ms:List Int)(a':Nat)(W:PF)(H':PH),PAt E mc n i W→W 15=some (.ptr p 17 0 0)→(∃o,w=.osl o 1 0 ms.length) →
   aT H' (E.boxes v ext y A B J w5 .aF a'++[(p,.rows 17 [DP ⟨s,k,m,q,0,O,Q,R,S,ms,N,t,h⟩ w])]) (FE.lists y A B J w5 lw md dm dv pr++[(w,1,bA ms)]) →
   (∀(d:PV)(U:PF)(H2:PH),PAt E mc n i U→aT H2 (E.boxes v ext y A B J d .aF a'++[(p,.rows 17 [DP ⟨s,k,m,q,0,O,Q,R,S,ms,N,t,h⟩ w])]) (FE.lists y A B J d lw md dm dv (pr++[DP ⟨s,k,m,q,0,O,Q,R,S,ms,N,t,h⟩ w])++[(w,1,bA ms)])→K .normal U H2) →
   wpOps C EP (K .normal) W H':=by
  intro w ms a' W H' δ u hw Y ζ;obtain⟨wo,rfl⟩:=hw;obtain⟨f0,f1,f2,f6,f7,f11,f13,f14⟩:=δ;have c1:=Y.at 1 rfl;have c3:=Y.at 3 rfl;have γ:(1:Nat)*17≤16777216:=by decide
  simp only[go_sem,EP,f7,u,c1,c3,γ,a8M,a8W,or_false,forall_eq,forall_eq_or_imp];refine Y.append 4 (src:=[DP ⟨s,k,m,q,0,O,Q,R,S,ms,N,t,h⟩ (.osl wo 1 0 ms.length)]) rfl rfl (by unfold roomFor;simp only[a8J,maxLen];omega) λd H2 h5 κ=>?_;obtain⟨q5,rfl⟩:=κ bD;have c2:=h5.at 1 rfl;simp only[go_sem,c2,a8M,a8W,or_false,forall_eq];exact ζ _ _ _ ⟨by simp only[go_sem,f0],by simp only[go_sem,f1],by simp only[go_sem,f2],by simp only[go_sem,f6],by simp only[go_sem,f7],by simp only[go_sem,f11],by simp only[go_sem,f13],by simp only[go_sem,f14]⟩ (h5.set 1 rfl (flB ext y A B J _ .aF))
 simp only[go_sem,SR,f11];by_cases c:1<mc
 ·have c':(mc:Int)>1:=Om;simp only[go_sem,c',f0];refine eX Lb.toPW T (o:=E.o) (n:=2) (a:=f.2) aV af rfl (h4.at 0 rfl) ?_;have h5:=h4.set 0 rfl (bX v b.2);rw[hb];by_cases c2:b.1=0
  ·have X:(b.1:Int)=0:=Om;rw[aG c,aG c2]at V;have e1:IntKind.i64.wrap (1-(f.1:Int))=1-(f.1:Int):=wrap_i64 Om Om;have c3:=h5.at 3 rfl;have β:(1:Nat)*1≤16777216:=by decide
   simp only[go_sem,cC X,SS,u,Z,e1,β];refine h5.append 5 (src:=[[.int .i64 (1-(f.1:Int))]]) rfl rfl (by unfold roomFor;simp only[bA,a7Z,a8J,maxLen];omega) λw' H2 h6 hw=>?_;obtain⟨q2,rfl⟩:=hw bD;have c4:=h6.at 3 rfl;simp only[go_sem,c4,u,a8M,a8W,or_false,forall_eq];have h7:=h6.set 3 rfl (.rows 17 [DP ⟨s,k,m,q,0,O,Q,R,S,[(f.1:Int),1-(f.1:Int)],N,t,h⟩ (.osl q2 1 0 2)]);exact fin (.osl q2 1 0 2) [(f.1:Int),1-(f.1:Int)] b.2 _ _ ⟨by simp only[go_sem,f0],by simp only[go_sem,f1],by simp only[go_sem,f2],by simp only[go_sem,f6],by simp only[go_sem,f7],by simp only[go_sem,f11],by simp only[go_sem,f13],by simp only[go_sem,f14]⟩ (by simp only[go_sem,u]) ⟨q2,rfl⟩ h7 (λd U H2 g1 g2=>V _ d U H2 _ g1 ⟨q2,rfl⟩ g2)
  ·have X:¬(b.1:Int)=0:=Om;rw[aG c,aD c2]at V;simp only[go_sem,bO X];exact fin (.osl o 1 0 1) [(f.1:Int)] b.2 _ _ ⟨by simp only[go_sem,f0],by simp only[go_sem,f1],by simp only[go_sem,f2],by simp only[go_sem,f6],by simp only[go_sem,f7],by simp only[go_sem,f11],by simp only[go_sem,f13],by simp only[go_sem,f14]⟩ (by simp only[go_sem,u]) ⟨o,rfl⟩ h5 (λd U H2 g1 g2=>V _ d U H2 _ g1 ⟨o,rfl⟩ g2)
 ·have c':¬(mc:Int)>1:=Om;rw[aD c]at V;simp only[go_sem,c'];exact fin (.osl o 1 0 1) [(f.1:Int)] f.2 _ _ ⟨by simp only[go_sem,f0],by simp only[go_sem,f1],by simp only[go_sem,f2],by simp only[go_sem,f6],by simp only[go_sem,f7],by simp only[go_sem,f11],by simp only[go_sem,f13],by simp only[go_sem,f14]⟩ (by simp only[go_sem,u]) ⟨o,rfl⟩ h4 (λd U H2 g1 g2=>V _ d U H2 _ g1 ⟨o,rfl⟩ g2)
abbrev pW(l:List cL):List (List PV):=l.map cL.cells
abbrev sS(l:List gQ):List (List PV):=l.map gQ.cells
theorem vF{rows:List (List PV)}(h:∀r∈rows,∀c∈r,c.oid=none):Flat rows:=Flat.of λr e c d q s rs=>w8 (h r e c d) q s rs
theorem aoE(l:List cY):Flat (kW l):=vF λr e c d=>by
 obtain⟨x,_,rfl⟩:=a9B.1 e;simp only[cY.cells,a8M,a8W,or_false]at d;rcases d with rfl|rfl|rfl|rfl<;>rfl
theorem aoG(l:List dR):Flat (mW l):=vF λr e c d=>by
 obtain⟨x,_,rfl⟩:=a9B.1 e;simp only[dR.cells,a8M,a8W,or_false]at d;rcases d with rfl|rfl|rfl|rfl<;>rfl
theorem alF(l:List cX):Flat (nO l):=vF λr e c d=>by
 obtain⟨x,_,rfl⟩:=a9B.1 e;simp only[cX.cells,a8M,a8W,or_false]at d;rcases d with rfl|rfl|rfl|rfl|rfl|rfl|rfl<;>rfl
theorem alJ(l:List eO):Flat (qH l):=vF λr e c d=>by
 obtain⟨x,_,rfl⟩:=a9B.1 e;simp only[eO.cells,a8M,a8W,or_false]at d;rcases d with rfl|rfl|rfl<;>rfl
theorem aVS(l:List gQ):Flat (sS l):=vF λr e c d=>by
 obtain⟨x,_,rfl⟩:=a9B.1 e;simp only[gQ.cells,a8M,a8W,or_false]at d;rcases d with rfl|rfl<;>rfl
theorem aqV(l:List cL):Flat (pW l):=vF λr e c d=>by
 obtain⟨x,_,rfl⟩:=a9B.1 e;simp only[cL.cells,a8M,a8W,or_false]at d;rcases d with rfl|rfl|rfl|rfl|rfl|rfl|rfl|rfl|rfl|rfl|rfl|rfl|rfl|rfl|rfl|rfl|rfl<;>rfl
theorem aAR(l:List Nat)(mc i:Nat){a:Nat}(h:a≤Z' l):(qB l mc i a).2≤Z' l:=by
 have e:=cE l 9 (PI l (cE l ((aL l 3 (aL l 2 a).2).1+1) (cE l 4 (cE l 3 (cE l 2 h)))) (max (aL l 3 (aL l 2 a).2).1 1));have d:=cE l mc (zV l (zV l (zV l (zV l e))));unfold qB;simp only;split
 ·split
  ·exact cE l 2 d
  ·exact cE l 2 d
 ·exact d
theorem HW(l:List Nat)(mc:Nat){a:Nat}(h:a≤Z' l):∀k,(fF l mc a k).2≤Z' l∧(fF l mc a k).1.length=k
 |0=>⟨h,rfl⟩
 |k+1=>by obtain⟨d,e⟩:=HW l mc h k;exact⟨aAR l mc k d,by simp only[fF,a8F,a8J,e]⟩
theorem mg(l:List Nat)(pc:Nat){a:Nat}(h:a≤Z' l):∀k,(fW l pc a k).2≤Z' l∧(fW l pc a k).1.length=k
 |0=>⟨h,rfl⟩
 |k+1=>by obtain⟨d,e⟩:=mg l pc h k;exact⟨cE l pc d,by simp only[fW,a8F,a8J,e]⟩
theorem Yh{C:Ctx}(Lb:rB C){l:List Nat}{v:PV}(T:Tp l v)(E:FE)(mc n a:Nat)(hn:n≤10)(θ:0<mc)(Z:mc≤50)(ha:a≤Z' l)(O:Int)(e u y A:PV)(S:List cY)(U:List dR)(Q:List cX)(R:List eO)(K:cD)(F:PF)(H:PH)
  (M:PAt E mc n 0 F) (W:aT H (E.boxes v (.int .i64 O) e u y A .aF .aF a) [(e,4,kW S),(u,4,mW U),(y,7,nO Q),(A,3,qH R)])
  (hK:∀V F' H',(jP E).le F'→aT H' (E.boxes v (.int .i64 O) e u y A V .aF (fF l mc a n).2) (FE.lists e u y A V S U Q R (pW (fF l mc a n).1))→K (.exit 4) F' H') :
  aC.wp C (.loop SK) K F H:=by
 refine wp_loop (α:=Nat × PV × PH) (λt=>Eb E mc n t.1) (λt=>t.2.2) (λt=>t.1≤n∧aT t.2.2 (E.boxes v (.int .i64 O) e u y A t.2.1 .aF (fF l mc a t.1).2) (FE.lists e u y A t.2.1 S U Q R (pW (fF l mc a t.1).1))) (λt=>n-t.1) (0,.aF,H) ⟨a8H _,W.sE 17⟩ ?_ b_ ?_
 ·unfold Eb jP
  (repeat' (first|exact d_|refine c_ ?_ ?_))<;>first|(simp only[go_sem,M.f0,M.f1,M.f2,M.f6,M.f7,M.f11,M.f13,M.f14]<;>rfl)|rfl
 rintro⟨i,V,H0⟩ ⟨hi,W⟩;simp only at hi W ⊢;obtain⟨k1,k2⟩:=HW l mc ha i;have J:fF l mc a (i+1)=((fF l mc a i).1++[(qB l mc i (fF l mc a i).2).1],(qB l mc i (fF l mc a i).2).2):=rfl;simp only[go_sem,SK,x9,Eb,jP];by_cases hlt:i<n
 ·have B:(i:Int)<(n:Nat):=Om;generalize hg:fF l mc a i=g at *
  simp only[go_sem,B];refine aNK (C:=C) Lb T E mc n i g.2 k1 Om (.int .i64 O) e u y A V .aF _ _ _ _ H0 ⟨by simp only[go_sem],by simp only[go_sem],by simp only[go_sem],by simp only[go_sem],by simp only[go_sem],by simp only[go_sem],by simp only[go_sem],by simp only[go_sem]⟩ W ?_;intro p F1 H1 γ β X;simp only at X;have ι:qB l mc i g.2=_:=rfl;have Y:=cE l 9 (PI l (cE l ((aL l 3 (aL l 2 g.2).2).1+1) (cE l 4 (cE l 3 (cE l 2 k1)))) (max (aL l 3 (aL l 2 g.2).2).1 1));refine aNL (C:=C) Lb T E mc n i _ Y θ Z (.int .i64 O) e u y A V S U Q R _ (by rw[a7Z,k2];omega) _ _ _ _ (mkT 0 1) _ _ _ p _ F1 H1 γ β X ?_;intro N f b ms w d F2 H2 B' δ hw ε;obtain⟨o,rfl⟩:=hw;have hP:qB l mc i g.2=(⟨[112]++cU i,(1+(aL l 2 g.2).1:Nat),((aL l 3 (aL l 2 g.2).2).1:Nat),(1+(aL l 2 g.2).1+(aL l ((aL l 3 (aL l 2 g.2).2).1+1) (aL l 4 (aL l 3 (aL l 2 g.2).2).2).2).1:Nat),0,N.1.getD 0 0,N.1.getD 1 0,N.1.getD 2 0,N.1.getD 3 0,ms.1,(oC l (aL l ((aL l 3 (aL l 2 g.2).2).1+1) (aL l 4 (aL l 3 (aL l 2 g.2).2).2).2).2 (max (aL l 3 (aL l 2 g.2).2).1 1)).1,mkT ((aL l 9 (oC l (aL l ((aL l 3 (aL l 2 g.2).2).1+1) (aL l 4 (aL l 3 (aL l 2 g.2).2).2).2).2 (max (aL l 3 (aL l 2 g.2).2).1 1)).2).1:Nat) 8,mkT ((1+(aL l 4 (aL l 3 (aL l 2 g.2).2).2).1:Nat):Int) 1⟩,ms.2):=rfl;rw[hP]at J;generalize ζ:(⟨[112]++cU i,(1+(aL l 2 g.2).1:Nat),((aL l 3 (aL l 2 g.2).2).1:Nat),(1+(aL l 2 g.2).1+(aL l ((aL l 3 (aL l 2 g.2).2).1+1) (aL l 4 (aL l 3 (aL l 2 g.2).2).2).2).1:Nat),0,N.1.getD 0 0,N.1.getD 1 0,N.1.getD 2 0,N.1.getD 3 0,ms.1,(oC l (aL l ((aL l 3 (aL l 2 g.2).2).1+1) (aL l 4 (aL l 3 (aL l 2 g.2).2).2).2).2 (max (aL l 3 (aL l 2 g.2).2).1 1)).1,mkT ((aL l 9 (oC l (aL l ((aL l 3 (aL l 2 g.2).2).1+1) (aL l 4 (aL l 3 (aL l 2 g.2).2).2).2).2 (max (aL l 3 (aL l 2 g.2).2).1 1)).2).1:Nat) 8,mkT ((1+(aL l 4 (aL l 3 (aL l 2 g.2).2).2).1:Nat):Int) 1⟩:cL)=P at *
  have η:P.a6P=ms.1:=by rw[←ζ]
  obtain⟨rs,z1,z2,z3,z4,z5⟩:=ε.frz 5 rfl;have y1:=z4 0 _ aV rfl;have y2:=z4 1 _ aV rfl;have y3:=z4 2 _ aV rfl;have y4:=z4 3 _ aV rfl;have y5:=z4 4 _ aV rfl;simp only at y1 y2 y3 y4 y5;have y0:=T.frz o 1 rs;obtain⟨f0,f1,f2,f6,f7,f11,f13,f14⟩:=δ;simp only[go_sem,yd,f14,wZz i];refine I4 (i+1,d,H2.frz o 1 rs) z1 ⟨hlt,?_⟩ (by simp only;omega) ?_ b_
  ·rw[J];have eB:(E.boxes v (.int .i64 O) e u y A d .aF ms.2).map (λb=>(b.1,b.2.frz o 1 rs))=E.boxes v (.int .i64 O) e u y A d .aF ms.2:=by show[(E.o,aU.rows 2 [[PV.dZ o 1 rs v,.int .i64 ms.2]]),(E.o7,aU.rows 7 [[.int .i64 O,PV.dZ o 1 rs e,PV.dZ o 1 rs u,PV.dZ o 1 rs y,PV.dZ o 1 rs A,PV.dZ o 1 rs d,.aF]]),(E.o6,flZ)]=_;rw[y0,y1,y2,y3,y4,y5]
   have e5:(pW g.1++[DP P (.osl o 1 0 ms.1.length)]).map (λr=>r.map (PV.dZ o 1 rs))=pW (g.1++[P]):=by
    rw[a8Z,aqV];have:([DP P (.osl o 1 0 ms.1.length)]:List (List PV)).map (λr=>r.map (PV.dZ o 1 rs))=[P.cells]:=by show[[PV.str P.name,.int .i64 P.k,.int .i64 P.m,.int .i64 P.a7M,.int .i64 P.s0,.int .i64 P.s1,.int .i64 P.s2,.int .i64 P.s3,.int .i64 P.s4,PV.dZ o 1 rs (.osl o 1 0 ms.1.length),frs P.repair,.bool P.target.neg,aN P.target.num,aN P.target.den,.bool P.a6Y.neg,aN P.a6Y.num,aN P.a6Y.den]]=_;rw[z2,←η];rfl
    rw[this];simp[pW]
   have eL:(FE.lists e u y A d S U Q R (pW g.1++[DP P (.osl o 1 0 ms.1.length)])).map (λx=>(x.1,x.2.1,x.2.2.map λr=>r.map (PV.dZ o 1 rs)))=FE.lists e u y A d S U Q R (pW (g.1++[P])):=by show[(e,4,(kW S).map _),(u,4,(mW U).map _),(y,7,(nO Q).map _),(A,3,(qH R).map _),(d,17,(pW g.1++[DP P (.osl o 1 0 ms.1.length)]).map _)]=_;rw[aoE,aoG,alF,alJ,e5]
   rw[←eB,←eL];exact z5.sub (by rw[a8Z];exact List.sublist_append_left ..) (baM.refl _)
  ·(repeat' (first|exact d_|refine c_ ?_ ?_))<;>first|(simp only[go_sem,f0,f1,f2,f6,f7,f11,f13]<;>rfl)|rfl
 ·have B:¬(i:Int)<(n:Nat):=Om;have:i=n:=Om;subst this;simp only[go_sem,B];exact hK V _ _ (gz Sq Sq Sq Sq Sq) W
theorem ajL{C:Ctx}(U:rB C){l:List Nat}{v:PV}(T:Tp l v)(E:FE)(pc n a:Nat)(hn:n≤60)(β:pc≤50)(ha:a≤Z' l)(ext A B J M d:PV)(y:List cL)(R:Z' y=pc)(L:List LI)(K:cD)(F:PF)(H:PH)
  (Z:(((jP E).set 18 (.int .i64 n)).set 19 (.int .i64 0)).le F) (w:aT H (E.boxes v ext A B J M d .aF a) ((d,17,pW y)::L))
  (hK:∀u S H',(jP E).le S→aT H' (E.boxes v ext A B J M d u (fW l pc a n).2) ((d,17,pW y)::L++[(u,2,sS (fW l pc a n).1)])→K (.exit 8) S H') :
  aC.wp C (.loop SL) K F H:=by
 refine wp_loop (α:=Nat × PV × PH) (λt=>((jP E).set 18 (.int .i64 n)).set 19 (.int .i64 t.1)) (λt=>t.2.2) (λt=>t.1≤n∧aT t.2.2 (E.boxes v ext A B J M d t.2.1 (fW l pc a t.1).2) ((d,17,pW y)::L++[(t.2.1,2,sS (fW l pc a t.1).1)])) (λt=>n-t.1) (0,.aF,H) ⟨a8H _,w.sE 2⟩ Z b_ ?_;rintro⟨i,u,X⟩ ⟨hi,w⟩;simp only at hi w ⊢;obtain⟨k1,k2⟩:=mg l pc ha i;have x:fW l pc a (i+1)=((fW l pc a i).1++[⟨[118]++cU i,((aL l pc (fW l pc a i).2).1:Nat)⟩],(aL l pc (fW l pc a i).2).2):=rfl;simp only[go_sem,SL,yg,jP];by_cases hlt:i<n
 ·have p:(i:Int)<(n:Nat):=Om;generalize hg:fW l pc a i=g at *
  have V:=w.set 0 rfl (bX v (aL l pc g.2).2);generalize O:aL l pc g.2=z at *
  have b1:=w.at 1 rfl;have W:=(w.own 0 rfl).tB;rw[a7Z,R]at W;have N:(PH.nil.set E.o7 (flB ext A B J M d u)).le X:=e_ a_ b1;simp only[go_sem,p];refine cP (PH.nil.set E.o7 (flB ext A B J M d u)) (mkS l v) N ?_;simp only[go_sem,yh];refine QR U.toyL (s:=[118]) (n:=i) aV Om rfl N ?_;simp only[go_sem,W];refine wZ U.toPW T (o:=E.o) (n:=pc) (a:=g.2) Om k1 rfl (w.at 0 rfl) ?_ ?_
  ·rw[O];exact e_ a_ (V.at 1 rfl)
  rw[O];have Q:(1:Nat)*2≤16777216:=by decide
  simp only[go_sem,Q,a8M,a8W,or_false,forall_eq,forall_eq_or_imp];refine V.append (v:=u) (s:=2) (rows:=sS g.1) (Z' L+1) (src:=[(⟨[118]++cU i,(z.1:Nat)⟩:gQ).cells]) bD rfl (by unfold roomFor;rw[a7Z];simp only[a8J,maxLen];omega) λw' H2 h5 hw=>?_;obtain⟨q,rfl⟩:=hw bD;rw[show((d,17,pW y)::L++[(u,2,sS g.1)])=((d,17,pW y)::L)++[(u,2,sS g.1)]from rfl,bbB _ _ bD,show L.length+1-((d,17,pW y)::L).length=0 by simp]at h5;have b2:=h5.at 1 rfl;refine⟨e_ a_ b2,?_⟩;refine cP .nil fT a_ ?_;simp only[go_sem,yi,b2,a8M,a8W,or_false,forall_eq];have Y:=h5.set 1 rfl (flB ext A B J M d (.osl q 2 0 (sS g.1++[(⟨[118]++cU i,(z.1:Nat)⟩:gQ).cells]).length));refine⟨a_,?_⟩;simp only[go_sem,yj,wZz i];refine aJ (i+1,.osl q 2 0 (sS g.1++[(⟨[118]++cU i,(z.1:Nat)⟩:gQ).cells]).length,_) ⟨hlt,?_⟩ (by simp only;omega) ?_ b_
  ·rw[x];have e:sS (g.1++[⟨[118]++cU i,(z.1:Nat)⟩])=sS g.1++[(⟨[118]++cU i,(z.1:Nat)⟩:gQ).cells]:=by simp[sS]
   simp only;rw[e];exact Y
  ·exact Lq
 ·have p:¬(i:Int)<(n:Nat):=Om;have:i=n:=Om;subst this;simp only[go_sem,p];exact hK u _ _ (gz rfl rfl rfl rfl rfl) w
def XM(l:List Nat)(v:PV)(o a6O a6Q a:Nat)(r:PV)(H:PH):Prop:=Co r (.agg (lM l a6O a6Q a).1.cells)∧H=PH.nil.set o (bX v (lM l a6O a6Q a).2)
structure Rh(C:Ctx):Prop extends rB C where
 grow:∀(l:List Nat)(v:PV),Tp l v→∀(mc a6O:Nat),0<mc→mc≤1000→a6O≤60→tp C l v mc a6O 4
theorem aFP{C:Ctx}(O:Rh C){l:List Nat}{v:PV}(T:Tp l v)(o a6O a6Q a:Nat)(Γ:a6O≤60)(Φ:a6Q≤50)(ha:a≤Z' l) :
  MD.wp C (aY Yi.res (XM l v o a6O a6Q a)) (PF.args [.ptr o 2 0 0,.int .i64 a6O,.int .i64 a6Q]) (PH.nil.set o (bX v a)):=by
 have hT:lM l a6O a6Q a=lM l a6O a6Q a:=rfl
 conv at hT=>rhs;unfold lM
 dsimp only at hT;have hR:∀r H,XM l v o a6O a6Q a r H↔Co r (.agg (lM l a6O a6Q a).1.cells)∧H=PH.nil.set o (bX v (lM l a6O a6Q a).2):=λ_ _=>Iff.rfl;have ne:=dC l (show 0<2 by decide) a;have ae:=cE l 2 ha;generalize he:aL l 2 a=e at *
 have Ψ:=dC l (show 0<2 by decide) e.2;have ε:=cE l 2 ae;generalize Δ:aL l 2 e.2=N at *
 obtain⟨Q,γ⟩:=pi l ε (1+N.1);generalize Z:lD l N.2 (1+N.1)=a6V at *
 have Ω:=dC l (show 0<2 by decide) a6V.2;have ζ:=cE l 2 Q;generalize Θ:aL l 2 a6V.2=i at *
 obtain⟨R,W⟩:=TB l (1+N.1) ζ (1+i.1);generalize U:fS l (1+N.1) i.2 (1+i.1)=a6P at *
 have ι:GOk l a6O ⟨[qP],[],a6P.2⟩:=⟨by simp,a8H _,R⟩;obtain⟨hG,-⟩:=n9 (mc:=1+i.1) 4 0 ι;generalize hg:gP l (1+i.1) a6O 4 0 ⟨[qP],[],a6P.2⟩=g at *
 have a':=dC l (show 0<2 by decide) g.a;have η:=cE l 2 hG.a;generalize Ξ:aL l 2 g.a=pl at *
 obtain⟨S,δ⟩:=HW l (1+i.1) η (1+pl.1);generalize α:fF l (1+i.1) pl.2 (1+pl.1)=pols at *
 have b':=dC l (Om:0<a6Q+1) pols.2;have ρ:=cE l (a6Q+1) S;generalize ξ:aL l (a6Q+1) pols.2=vo at *
 generalize β:fW l (1+pl.1) vo.2 vo.1=vols at *
 have ee:IntKind.i64.wrap (1+(e.1:Int))=((1+e.1:Nat):Int):=by rw[wrap_i64 Om Om];omega
 have σ:IntKind.i64.wrap (1+(N.1:Int))=((1+N.1:Nat):Int):=by rw[wrap_i64 Om Om];omega
 have τ:IntKind.i64.wrap (1+(i.1:Int))=((1+i.1:Nat):Int):=by rw[wrap_i64 Om Om];omega
 have υ:IntKind.i64.wrap (1+(pl.1:Int))=((1+pl.1:Nat):Int):=by rw[wrap_i64 Om Om];omega
 have χ:IntKind.i64.wrap ((a6Q:Int)+1)=((a6Q+1:Nat):Int):=eQ Om;have h0:aT (PH.nil.set o (bX v a)) [(o,bX v a)] []:=aT.nil.new (H:=PH.nil) rfl (bX v a);simp only[go_sem,MD,Jj,Yi];refine aR λo6 κ=>?_;have p:=h0.new κ flZ;simp only[go_sem,Jk];refine eX O.toPW T (o:=o) (n:=2) (a:=a) aV ha rfl (p.at 0 rfl) ?_;have w:=p.set 0 rfl (bX v e.2);rw[he];simp only[go_sem,ee];refine aR λo7 μ=>?_;have F:=w.new μ (flB (.int .i64 (1+e.1:Nat)) .aF .aF .aF .aF .aF .aF);simp only[go_sem,Jl,a8M,a8W,or_false,forall_eq,forall_eq_or_imp];refine eX O.toPW T (o:=o) (n:=2) (a:=e.2) aV ae rfl (F.at 0 rfl) ?_;have h4:=F.set 0 rfl (bX v N.2);rw[Δ];have h5:=h4.perm (B':=FE.boxes ⟨o,o6,o7,a6O,a6Q⟩ v (.int .i64 (1+e.1:Nat)) .aF .aF .aF .aF .aF .aF N.2) (L':=[]) (List.Perm.cons _ (List.Perm.swap _ _ _)) (List.Perm.refl _);obtain⟨E,d⟩:∃E:FE,E=⟨o,o6,o7,a6O,a6Q⟩:=⟨_,rfl⟩;rw[←d]at h5;simp only[go_sem,σ,Jm];refine aNJ (C:=C) O.torB T E (1+N.1) N.2 Om ε _ _ _ _ ?_ h5 ?_
 ·rw[d];unfold jP;exact Lq
 clear h5 h4 F w p h0 κ μ;intro u F1 H1 J p;rw[Z]at p;have f0:F1 0=some (.ptr o 2 0 0):=J 0 _ (by rw[d];unfold jP;simp only[go_sem]);have f1:F1 1=some (.int .i64 a6O):=J 1 _ (by rw[d];unfold jP;simp only[go_sem]);have f2:F1 2=some (.int .i64 a6Q):=J 2 _ (by rw[d];unfold jP;simp only[go_sem]);have f6:F1 6=some (.ptr o6 7 0 0):=J 6 _ (by rw[d];unfold jP;simp only[go_sem]);have f7:F1 7=some (.ptr o7 7 0 0):=J 7 _ (by rw[d];unfold jP;simp only[go_sem]);have X:=p.at 0 rfl;rw[d]at X;simp only[go_sem,xx,f0];refine eX O.toPW T (o:=o) (n:=2) (a:=a6V.2) aV Q rfl X ?_;have w:=p.set 0 rfl (bX v i.2);rw[Θ];simp only[go_sem,τ,xy];refine azN (C:=C) O.torB T E (1+i.1) i.2 (1+N.1) Om Om ζ (.int .i64 (1+e.1:Nat)) u a6V.1 γ _ _ _ ?_ (by rw[d]at w ⊢;exact w) ?_
 ·rw[d];unfold jP;exact Lq
 clear X w p f0 f1 f2 f6 f7 J;intro w2 F2 H2 K f11 w;rw[U]at w;have f0:F2 0=some (.ptr o 2 0 0):=K 0 _ (by rw[d];unfold jP;simp only[go_sem]);have f1:F2 1=some (.int .i64 a6O):=K 1 _ (by rw[d];unfold jP;simp only[go_sem]);have f2:F2 2=some (.int .i64 a6Q):=K 2 _ (by rw[d];unfold jP;simp only[go_sem]);have f6:F2 6=some (.ptr o6 7 0 0):=K 6 _ (by rw[d];unfold jP;simp only[go_sem]);have f7:F2 7=some (.ptr o7 7 0 0):=K 7 _ (by rw[d];unfold jP;simp only[go_sem]);obtain⟨qm,ν⟩:=(w.own 1 rfl).one (by rw[a7Z];omega);rw[a7Z,W]at ν;subst ν;have ψ:(1:Nat)*7≤16777216:=by decide
 simp only[go_sem,x5];refine aB (O.int 0 (by unfold eH;omega)) rfl ?_;simp only[go_sem,a8M,a8W,or_false,forall_eq,forall_eq_or_imp,ψ];refine aR λod Λ=>?_;have F:=w.aAB (s:=7) (rows:=nO [qP]) Λ;have b7:=w.at 1 rfl;rw[d]at b7;have n7:¬o7=od:=by have:=F.neL 1 2 rfl rfl rfl;rw[d]at this;exact this
 simp only[go_sem,f7,b7,n7,a8M,a8W,or_false,forall_eq];have h4:=(F.set 1 rfl (flB (.int .i64 (1+e.1:Nat)) u (.osl qm 4 0 (1+i.1)) (.osl od 7 0 1) .aF .aF .aF)).sE 3;rw[d]at h4;have h5:=h4.perm (B':=(GE.mk o o7 qm (.int .i64 (1+e.1:Nat)) u .aF .aF).boxes v (1+i.1) (.osl od 7 0 1) .aF a6P.2++[(o6,flZ)]) (L':=pV ⟨[qP],[],a6P.2⟩ (.osl od 7 0 1) .aF++[(u,4,kW a6V.1),(.osl qm 4 0 (1+i.1),4,mW a6P.1)]) (List.Perm.refl _)
  (List.perm_append_comm (l₁:=[(u,4,kW a6V.1),(.osl qm 4 0 (1+i.1),4,mW a6P.1)]) (l₂:=pV ⟨[qP],[],a6P.2⟩ (.osl od 7 0 1) .aF))
 simp only[go_sem,x6,f0,f1,f7];refine OB h5 (λH0 ω=>O.grow l v T (1+i.1) a6O Om Om Γ (GE.mk o o7 qm (.int .i64 (1+e.1:Nat)) u .aF .aF) (.osl od 7 0 1) .aF ⟨[qP],[],a6P.2⟩ 0 qP ι rfl rfl H0 ω) (by simp only[go_sem,f0,f1,f7];rfl) ?_;rintro r B' L' H3 ⟨rfl,A,B,rfl,rfl⟩ h6;rw[hg]at h6;have h7:=h6.perm (B':=E.boxes v (.int .i64 (1+e.1:Nat)) u (.osl qm 4 0 (1+i.1)) A B .aF .aF g.a) (L':=[(u,4,kW a6V.1),(.osl qm 4 0 (1+i.1),4,mW a6P.1),(A,7,nO g.a6X),(B,3,qH g.a7H)]) (by rw[d];exact List.Perm.refl _)
  (List.perm_append_comm (l₁:=pV g A B) (l₂:=[(u,4,kW a6V.1),(.osl qm 4 0 (1+i.1),4,mW a6P.1)]))
 have X:=h7.at 0 rfl;rw[d]at X;simp only[go_sem,x7,f0];refine eX O.toPW T (o:=o) (n:=2) (a:=g.a) aV hG.a rfl X ?_;have h8:=h7.set 0 rfl (bX v pl.2);rw[Ξ];simp only[go_sem,υ,x8];refine Yh (C:=C) O.torB T E (1+i.1) (1+pl.1) pl.2 Om Om Om η ((1+e.1:Nat):Int) u (.osl qm 4 0 (1+i.1)) A B a6V.1 a6P.1 g.a6X g.a7H _ _ _ (by rw[d];exact⟨by simp only[go_sem,f0],by simp only[go_sem,f1],by simp only[go_sem,f2],by simp only[go_sem,f6],by simp only[go_sem,f7],by simp only[go_sem,f11],by simp only[go_sem],by simp only[go_sem];rfl⟩) (by rw[d]at h8 ⊢;exact h8) ?_;clear h8 h7 h6 h5 h4 F w X b7 f0 f1 f2 f6 f7 K;intro Y F4 H4 M p;rw[α]at p;have f0:F4 0=some (.ptr o 2 0 0):=M 0 _ (by rw[d];unfold jP;simp only[go_sem]);have f1:F4 1=some (.int .i64 a6O):=M 1 _ (by rw[d];unfold jP;simp only[go_sem]);have f2:F4 2=some (.int .i64 a6Q):=M 2 _ (by rw[d];unfold jP;simp only[go_sem]);have f6:F4 6=some (.ptr o6 7 0 0):=M 6 _ (by rw[d];unfold jP;simp only[go_sem]);have f7:F4 7=some (.ptr o7 7 0 0):=M 7 _ (by rw[d];unfold jP;simp only[go_sem]);have X:=p.at 0 rfl;rw[d]at X;simp only[go_sem,ye,f0,f2,χ];refine eX O.toPW T (o:=o) (n:=a6Q+1) (a:=pols.2) Om S rfl X ?_;have w:=p.set 0 rfl (bX v vo.2);rw[ξ];have F:=w.perm (B':=E.boxes v (.int .i64 (1+e.1:Nat)) u (.osl qm 4 0 (1+i.1)) A B Y .aF vo.2) (L':=(Y,17,pW pols.1)::[(u,4,kW a6V.1),(.osl qm 4 0 (1+i.1),4,mW a6P.1),(A,7,nO g.a6X),(B,3,qH g.a7H)]) (List.Perm.refl _)
  (List.perm_append_comm (l₁:=[(u,4,kW a6V.1),(.osl qm 4 0 (1+i.1),4,mW a6P.1),(A,7,nO g.a6X),(B,3,qH g.a7H)]) (l₂:=[(Y,17,pW pols.1)]))
 simp only[go_sem,yf];refine ajL (C:=C) O.torB T E (1+pl.1) vo.1 vo.2 Om Om ρ _ _ _ _ _ Y pols.1 δ _ _ _ _ ?_ (by rw[d]at F ⊢;exact F) ?_
 ·rw[d];unfold jP;exact Lq
 clear F w p X f0 f1 f2 f6 f7 M;intro w6 F5 H5 θ p;rw[β]at p;have f6:F5 6=some (.ptr o6 7 0 0):=θ 6 _ (by rw[d];unfold jP;simp only[go_sem]);have f7:F5 7=some (.ptr o7 7 0 0):=θ 7 _ (by rw[d];unfold jP;simp only[go_sem]);rw[d]at p;have b7:=p.at 1 rfl;have b6:=p.at 2 rfl;have one:∀(x:PV),x∈[u,A,B,Y,w6]→(∃q s n,x=.osl q s 0 n)∨x=.aF:=by
  intro x hx;have V:∀{s:Nat}{rows:List (List PV)},bJ H5 s x rows→(∃q s n,x=.osl q s 0 n)∨x=.aF:=by
   rintro s rows (⟨_,h⟩|⟨q,rs,h,_⟩)
   ·exact .inr h
   ·exact .inl ⟨q,s,_,h⟩
  simp only[a8M,a8W,or_false]at hx;rcases hx with rfl|rfl|rfl|rfl|rfl
  ·exact V (p.own 1 rfl)
  ·exact V (p.own 3 rfl)
  ·exact V (p.own 4 rfl)
  ·exact V (p.own 0 rfl)
  ·exact V (p.own 5 rfl)
 have y:∀(x:PV),x∈[u,A,B,Y,w6]→PV.one x=true:=λx hx=>by rcases one x hx with⟨q,s,n,rfl⟩|rfl<;>rfl
 have o1:=y u bD;have o3:=y A bD;have o4:=y B bD;have o5:=y Y bD;have ο:=y w6 bD;simp only[PV.one]at o1 o3 o4 o5 ο;simp only[go_sem,yk,f6,f7,b7,b6,a8M,a8W,or_false,forall_eq,forall_eq_or_imp,o1,o3,o4,o5,ο];have w:=p.set 2 rfl (flB (.int .i64 (1+e.1:Nat)) u (.osl qm 4 0 (1+i.1)) A B Y w6);have F:=w.sub (B':=[(o,bX v vols.2)]) (baM.cons_cons _ (List.nil_sublist _)) (baM.refl _);obtain⟨φ,H6,k1,k2,k3,k4⟩:=aT.giveUp _ F (λx hx=>by
  simp only[List.cons_append,bbS,a8M,a8W,or_false]at hx;rcases hx with rfl|rfl|rfl|rfl|rfl|rfl
  ·exact aqV _
  ·exact aoE _
  ·exact aoG _
  ·exact alF _
  ·exact alJ _
  ·exact aVS _) (λb hb q s rs=>by
  simp only[a8M,a8W,or_false]at hb;subst hb;simp only[aU.frz,a9D,baB,T.frz];rfl)
 refine PK (vs:=[.agg [.int .i64 (1+e.1:Nat),u,.osl qm 4 0 (1+i.1),A,B,Y,w6]]) (.inr rfl) (by simp only[go_sem,f6]) (k4 _ _ (.done (H2:=PH.nil.set o (bX v vols.2)) ?_ (e_ a_ (k3.at 0 rfl))));rw[hR,hT];refine⟨CoL.agg ?_,rfl⟩;have s5:=k1 (Y,17,pW pols.1) bD;have s1:=k1 (u,4,kW a6V.1) bD;have s2:=k1 (.osl qm 4 0 (1+i.1),4,mW a6P.1) bD;have s3:=k1 (A,7,nO g.a6X) bD;have s4:=k1 (B,3,qH g.a7H) bD;have s6:=k1 (w6,2,sS vols.1) bD;have s0:φ (.int .i64 (1+e.1:Nat))=.int .i64 (1+e.1:Nat):=k2 _ rfl;show CoL [φ (.int .i64 (1+e.1:Nat)),φ u,φ (.osl qm 4 0 (1+i.1)),φ A,φ B,φ Y,φ w6] _;rw[s0];exact CoL.cons (.refl _) (CoL.cons s1.co (CoL.cons s2.co (CoL.cons s3.co (CoL.cons s4.co (CoL.cons s5.co (CoL.cons s6.co .nil))))))
structure aDC(C:Ctx):Prop extends Rh C where
 new:∀(l:List Nat),(∀x∈l,x<256)→Z' l≤9223372036854775807→aH C 28 [.sl 1 (nL l)] .nil (avD l)
 fleet:∀(l:List Nat)(v:PV),Tp l v→∀(o a6O a6Q a:Nat),a6O≤60→a6Q≤50→a≤Z' l →
  aH C 0 [.ptr o 2 0 0,.int .i64 a6O,.int .i64 a6Q] (PH.nil.set o (bX v a)) (λr H=>r=.agg (lM l a6O a6Q a).1.cells∧H=PH.nil.set o (bX v (lM l a6O a6Q a).2))
theorem XM.exact{C:Ctx}{name:Nat}{args:List PV}{H:PH}{l:List Nat}{v:PV}{o a6O a6Q a:Nat}(h:aH C name args H (XM l v o a6O a6Q a)):aH C name args H (λr H=>r=.agg (lM l a6O a6Q a).1.cells∧H=PH.nil.set o (bX v (lM l a6O a6Q a).2)):=
 h.post λr H' d=>⟨_,d.1,rfl,d.2⟩
theorem aFO{C:Ctx}(u:aDC C)(l:List Nat)(hb:∀x∈l,x<256)(y:Z' l≤9223372036854775807)(a6O a6Q:Nat)(d:a6O≤60)(p:a6Q≤50) :
  MB.wp C (aY X7.res (cN (.agg (lM (l.take 400) a6O a6Q 0).1.cells))) (PF.args [.sl 1 (nL l),.int .i64 a6O,.int .i64 a6Q]) .nil:=by
 simp only[go_sem,MB,Je,X7];refine aR λo6 A=>?_;simp only[go_sem,Jf];refine pB (u.new l hb y) rfl a_ ?_;rintro r H' ⟨o,v,rfl,T,rfl⟩ w;have i:¬o6=o:=by intro e;subst e;have:=w o6 (bX v 0) (by rw[aS,aG rfl]) rfl;rw[aS,aG rfl]at this;cases this
 rw[PH.uB];simp only[go_sem];refine pJ (u.fleet _ v T o a6O a6Q 0 d p (a8H _)) (by rw[aS,aG rfl]) rfl ?_;simp only[go_sem,i];exact bE (vs:=[.agg (lM (l.take 400) a6O a6Q 0).1.cells]) (.inr rfl) .nil Sq a_ ⟨.refl _,rfl⟩
theorem CoL.aXI:CoL [] []:=⟨rfl,λj p q h=>by simp at h⟩
theorem CoL.gg{p q:PV}{ps e:List PV}(h:Co p q)(d:CoL ps e):CoL (p::ps) (q::e):=by
 refine⟨by simp[d.len],λj x y a b=>?_⟩;cases j with
 |zero =>simp only[List.getElem?_cons_zero,a9V.injEq]at a b;subst a;subst b;exact h
 |succ j=>exact d.at_ j x y (by simpa using a) (by simpa using b)
theorem aH.seen{C:Ctx}{name:Nat}{args:List PV}{H:PH}{v:PV}(h:aH C name args H (cN v)):aH C name args H (aK v):=
 h.post λr H' d=>⟨v,d.1,rfl,d.2⟩
def ip(x:RF):Bool:=(x.num.all (λn=>decide (n<4294967296))&&x.den.all λn=>decide (n<4294967296))&&(decide (Z' x.num≤9)&&decide (Z' x.den≤9))
theorem UF{x:RF}(h:ip x=true):x.Ok:=by
 simp only[ip,a8C,a8U,decide_eq_true_eq]at h;exact⟨h.1.1,h.1.2,by omega,by omega⟩
def PL(l:List RF):Bool:=decide (Z' l≤9)&&l.all ip
theorem JY{l:List RF}(h:PL l=true):mX l:=by
 simp only[PL,a8C,a8U,decide_eq_true_eq]at h;exact⟨by unfold Fits;omega,λx d=>UF (h.2 x d)⟩
def Wo(x:cY):Bool:=(PL x.start&&PL x.exit)&&(decide (Z' x.a6T≤9)&&x.a6T.all PL)
theorem aEU{x:cY}(h:Wo x=true):x.Ok:=by
 simp only[Wo,a8C,a8U,decide_eq_true_eq]at h;exact⟨JY h.1.1,JY h.1.2,by unfold Fits;omega,λr d=>JY (h.2.2 r d)⟩
def abC(x:cL):Bool:=(decide (eH x.k∧eH x.m∧eH x.a7M)&&(decide (Z' x.a6P≤9)&&x.a6P.all λm=>decide (eH m)))&&(PL x.repair&&(ip x.target&&ip x.a6Y))
theorem aGZ{x:cL}(h:abC x=true):x.Ok:=by
 simp only[abC,a8C,a8U,decide_eq_true_eq]at h;exact⟨h.1.1.1,h.1.1.2.1,h.1.1.2.2,by unfold Fits;omega,h.1.2.2,JY h.2.1,UF h.2.2.1,UF h.2.2.2⟩
def okB(f:aE):Bool:=(decide (Z' f.a6V≤99∧Z' f.a6P≤99∧Z' f.a6R≤99∧Z' f.a6O≤99∧Z' f.a6S≤99∧Z' f.a6Q≤99)&&(f.a6V.all Wo&&f.a6S.all abC)) &&
 (f.a6R.all (λx=>ip x.a7D&&decide (eH x.level∧eH x.parent))&&(f.a6O.all (λx=>decide (eH x.model∧eH x.machine))&&f.a6Q.all λx=>decide (eH x.a7A)))
theorem aXM{f:aE}(h:okB f=true):f.Ok:=by
 simp only[okB,a8C,a8U,decide_eq_true_eq]at h;obtain⟨⟨⟨u,w,y,A,B,E⟩,i,l⟩,e,p,h5⟩:=h;exact⟨by unfold Fits;omega,by unfold Fits;omega,by unfold Fits;omega,by unfold Fits;omega,by unfold Fits;omega,by unfold Fits;omega,λx d=>aEU (i x d),λx d=>⟨UF (e x d).1,(e x d).2⟩,p,λx d=>aGZ (l x d),h5⟩
def gI:=bU [43] Proofs.Tryz.f200
def N1:=aA gI 0
def N2:=aA gI 1
def N3:=aA gI 2
def N4:=aA gI 3
def N5:=aA gI 4
def N6:=aA gI 5
def N7:=aA gI 6
def N8:=aA gI 7
def d6:=aA gI 8
def d7:=aA gI 9
def VH:=aA gI 10
def VI:=aA gI 11
def VJ:=aA gI 12
def FD:=aA gI 13
def FF:=aA gI 14
def Ba:aC:=(dY N5 13 0 FF (sq N6 (gE N7 20 (.region N8) (sq d6 (sq d7 (gE VH 35 (sq VI (.region VJ)) (.region FD)))))))
def Bb:=aA gI 15
def NS:aC:=(sq N1 (sq N2 (sq N3 (.seq (cJ N4 0 Ba) (sq Bb .ret)))))
def afI:bC:=⟨2,47,NS,[.tmp 4]⟩
def jZ:=bU [51] Proofs.Tryz.f202
def afO:=aA jZ 0
def afP:=aA jZ 1
def afQ:=aA jZ 2
def afR:=aA jZ 3
def afS:=aA jZ 4
def sm:=aA jZ 5
def sn:=aA jZ 6
def so:=aA jZ 7
def VL:=aA jZ 8
def VM:=aA jZ 9
def KQ:=aA jZ 10
def KR:=aA jZ 11
def KT:=aA jZ 12
def Ob:aC:=(dY afS 22 0 KT (sq sm (gE sn 29 (.region so) (gE VL 40 (.region VM) (sq KQ (.region KR))))))
def ef:=aA jZ 13
def VK:aC:=(sq afO (sq afP (sq afQ (.seq (cJ afR 0 Ob) (sq ef .ret)))))
def aCA:bC:=⟨2,57,VK,[.tmp 4]⟩
def jJ:=bU [] Proofs.Tryz.f199
def Oc:=aA jJ 0
def Od:=aA jJ 1
def Oe:=aA jJ 2
def Of:=aA jJ 3
def e7:=aA jJ 4
def fa:=aA jJ 5
def Og:=aA jJ 6
def Oh:=dB jJ 0
def Oi:=aA jJ 7
def Oj:=aA jJ 8
def Bg:=aA jJ 9
def VN:aC:=(dY Og 25 2 Bg (dq Oh (sq Oi (.region Oj))))
def VO:=aA jJ 10
def Bh:=aA jJ 11
def Bf:aC:=(dY Of 19 0 Bh (sq e7 (.seq (cJ fa 2 VN) (.region VO))))
def Bi:=aA jJ 12
def NT:aC:=(sq Oc (sq Od (.seq (cJ Oe 0 Bf) (sq Bi .ret))))
def afT:bC:=⟨2,68,NT,[.tmp 4]⟩
def uF:=bU [] Proofs.Tryz.f167
def arM:=aA uF 0
def arN:=aA uF 1
def Fo:=aA uF 2
def arO:=aA uF 3
def arP:=aA uF 4
def arQ:=aA uF 5
def arR:=aA uF 6
def du:aC:=(sq arM (dM arN 12 Fo (sq arO (dM arP 19 arQ (sq arR .ret)))))
def aPS:bC:=⟨2,21,du,[.tmp 4,.tmp 5]⟩
def yF:=bU [] Proofs.Tryz.f169
def asY:=aA yF 0
def asZ:=aA yF 1
def Fv:=aA yF 2
def atA:=aA yF 3
def atB:=aA yF 4
def atC:=aA yF 5
def ep:aC:=(sq asY (dM asZ 11 Fv (dM atA 15 atB (sq atC .ret))))
def aQI:bC:=⟨2,21,ep,[.tmp 4,.tmp 5]⟩
def uH:=bU [] Proofs.Tryz.f170
def asQ:=aA uH 0
def asR:=aA uH 1
def Fu:=aA uH 2
def asS:=aA uH 3
def asT:=aA uH 4
def asU:=aA uH 5
def asV:=aA uH 6
def d8:aC:=(sq asQ (dM asR 12 Fu (sq asS (dM asT 19 asU (sq asV .ret)))))
def aQA:bC:=⟨2,21,d8,[.tmp 4,.tmp 5]⟩
def nK:=bU [] Proofs.Tryz.f197
def aeI:=aA nK 0
def aeJ:=aA nK 1
def aeK:=aA nK 2
def aeL:=aA nK 3
def aeM:=aA nK 4
def aeN:=aA nK 5
def aeO:=aA nK 6
def aeP:=aA nK 7
def aeQ:=aA nK 8
def aeH:aC:=(dY aeO 21 0 aeQ (.region aeP))
def Nw:=aA nK 9
def VA:aC:=(sq aeI (sq aeJ (dM aeK 9 aeL (sq aeM (.seq (cJ aeN 0 aeH) (sq Nw .ret))))))
def aBR:bC:=⟨1,27,VA,[.tmp 2]⟩
def oO:=bU [35,42] Proofs.Tryz.f198
def aIS:=aA oO 0
def aIT:=aA oO 1
def aIU:=aA oO 2
def aIV:=aA oO 3
def aIW:=aA oO 4
def aIX:=aA oO 5
def aIY:=aA oO 6
def aIZ:=aA oO 7
def aJA:=aA oO 8
def aJB:=aA oO 9
def atE:=aA oO 10
def atD:aC:=(dY aIY 18 0 atE (sq aIZ (sq aJA (.region aJB))))
def atF:=aA oO 11
def su:aC:=(sq aIS (dM aIT 11 aIU (sq aIV (sq aIW (.seq (cJ aIX 0 atD) (sq atF .ret))))))
def uup:bC:=⟨2,45,su,[.tmp 4]⟩
def lH:=bU [47] Proofs.Tryz.f201
def aeW:=aA lH 0
def aeX:=aA lH 1
def aeY:=aA lH 2
def aeZ:=aA lH 3
def afA:=aA lH 4
def afB:=aA lH 5
def afC:=aA lH 6
def afD:=aA lH 7
def afE:=aA lH 8
def sj:=aA lH 9
def dz:=aA lH 10
def Nx:aC:=(dY afB 18 0 dz (sq afC (gE afD 30 (.region afE) (.region sj))))
def Ny:=aA lH 11
def VE:aC:=(sq aeW (dM aeX 12 aeY (sq aeZ (.seq (cJ afA 0 Nx) (sq Ny .ret)))))
def aBV:bC:=⟨2,51,VE,[.tmp 4]⟩
def mh:=bU [1] Proofs.Tryz.f42
def O6:=aA mh 0
def O7:=aA mh 1
def NY:aC:=(sq O6 (sq O7 .ret))
def ahA:bC:=⟨1,22,NY,[.tmp 2]⟩
def mf:=bU [1] Proofs.Tryz.f203
def Oo:=aA mf 0
def Oq:=aA mf 1
def NU:aC:=(sq Oo (sq Oq .ret))
def agH:bC:=⟨1,13,NU,[.tmp 2]⟩
def FG:=bU [1] Proofs.Tryz.f168
def agC:=aA FG 0
def agD:=aA FG 1
def agE:=aA FG 2
def agF:=aA FG 3
def VQ:aC:=(sq agC (dM agD 5 agE (sq agF .ret)))
def aCH:bC:=⟨1,8,VQ,[.cell 2 (some 3),.tmp 3]⟩
def AA:=bU [1] Proofs.Tryz.f85
def Bs:=aA AA 0
def Bt:=aA AA 1
def Bu:=aA AA 2
def Bv:=aA AA 3
def IN:aC:=(sq Bs (dM Bt 6 Bu (sq Bv .ret)))
def F6:bC:=⟨1,15,IN,[.cell 2 (some 3),.tmp 3]⟩
def NX:=bU [] Proofs.Tryz.f131
def O3:=aA NX 0
def O4:=aA NX 1
def O5:=aA NX 2
def NW:aC:=(sq O3 (sq O4 (sq O5 .ret)))
def agZ:bC:=⟨2,14,NW,[.tmp 4]⟩
def mA:=bU [2,3] Proofs.Tryz.f84
def Ot:=aA mA 0
def Ou:=dB mA 0
def Ov:=aA mA 1
def Ow:=aA mA 2
def Ox:=aA mA 3
def Oy:=aA mA 4
def Oz:=aA mA 5
def O0:=aA mA 6
def O1:=aA mA 7
def O2:=aA mA 8
def NV:aC:=(sq Ot (dq Ou (sq Ov (.seq (.block 0 (sq Ow (.cond (Tm 33) (sq Ox .ret) (sq Oy (.cond (Tm 39) (sq Oz .ret) (sq O0 (.cond (Tm 45) (sq O1 .ret) .skip))))))) (sq O2 .ret)))))
def agP:bC:=⟨2,53,NV,[.tmp 4]⟩
def Bk:=bU [2,3] Proofs.Tryz.f88
def agI:=aA Bk 0
def agJ:=aA Bk 1
def VS:aC:=(sq agI (sq agJ .ret))
def aCK:bC:=⟨2,9,VS,[.tmp 4]⟩
def Bw:=bU [2,3] Proofs.Tryz.f82
def agQ:=aA Bw 0
def agR:=aA Bw 1
def VW:aC:=(sq agQ (sq agR .ret))
def aCN:bC:=⟨2,9,VW,[.tmp 4]⟩
def Bx:=bU [1] Proofs.Tryz.f43
def agS:=aA Bx 0
def agT:=dB Bx 0
def VX:aC:=(sq agS (dq agT .ret))
def aCO:bC:=⟨1,6,VX,[.tmp 2]⟩
def mS:=bU [2,3] Proofs.Tryz.f130
def atG:=aA mS 0
def atH:=aA mS 1
def Fw:=aA mS 2
def atI:=dB mS 0
def atJ:=aA mS 3
def atK:=aA mS 4
def atL:=aA mS 5
def atM:=aA mS 6
def atO:=aA mS 7
def atP:=aA mS 8
def afZ:=aA mS 9
def agA:=aA mS 10
def KU:aC:=(sq atG (dM atH 22 Fw (dq atI (gE atJ 43 (sq atK (sq atL .ret)) (gE atM 61 (sq atO (sq atP .ret)) (sq afZ (sq agA .ret)))))))
def aCD:bC:=⟨2,90,KU,[.cell 4 (some 3),.tmp 5]⟩
def pI:=bU [] Proofs.Tryz.f81
def atW:=aA pI 0
def atX:=aA pI 1
def atY:=aA pI 2
def atZ:=aA pI 3
def auA:=dB pI 0
def F7:=aA pI 4
def auB:=aA pI 5
def auC:=aA pI 6
def auD:=aA pI 7
def atV:aC:=(dY atZ 12 0 auD (dq auA (dM F7 25 auB (.region auC))))
def agY:=aA pI 8
def fg:aC:=(sq atW (sq atX (.seq (cJ atY 0 atV) (sq agY .ret))))
def aQT:bC:=⟨1,30,fg,[.cell 2 (some 3),.tmp 3]⟩
def Ag:=bU [] Proofs.Tryz.f86
def BF:=aA Ag 0
def BG:=aA Ag 1
def sL:aC:=(sq BF (sq BG .ret))
def UK:bC:=⟨2,25,sL,[.tmp 4]⟩
def fk:=bU [] Proofs.Tryz.f128
def Ce:=aA fk 0
def Cf:=aA fk 1
def IR:aC:=(sq Ce (sq Cf .ret))
def Gb:bC:=⟨1,17,IR,[.tmp 2]⟩
def mi:=bU [] Proofs.Tryz.f166
def O9:=aA mi 0
def Pa:=aA mi 1
def OA:aC:=(sq O9 (sq Pa .ret))
def ahB:bC:=⟨1,9,OA,[.tmp 2]⟩
def fj:=bU [] Proofs.Tryz.f129
def Bz:=aA fj 0
def B0:=aA fj 1
def IP:aC:=(sq Bz (sq B0 .ret))
def F9:bC:=⟨1,17,IP,[.tmp 2]⟩
def mJ:=bU [] Proofs.Tryz.f78
def B6:=aA mJ 0
def B7:=aA mJ 1
def FK:=aA mJ 2
def B8:=aA mJ 3
def B9:=aA mJ 4
def Ca:=aA mJ 5
def Cb:=aA mJ 6
def Cc:=aA mJ 7
def B5:aC:=(dY B9 21 0 Cc (sq Ca (.cond (Tm 28) (sq Cb .ret) .skip)))
def Cd:=aA mJ 8
def IQ:aC:=(sq B6 (dM B7 17 FK (.seq (cJ B8 0 B5) (sq Cd .ret))))
def Ga:bC:=⟨1,29,IQ,[.tmp 2]⟩
theorem vD(P:List Nat)(v:Nat):aO P++[[.int .u32 (v:Int)]]=aO (P++[v]):=by simp[aO]
theorem vC{P:List Nat}(h:Z' P≤35184372087808):roomFor (aO P).length 1 4:=by
 unfold roomFor;rw[cW];simp only[maxLen];omega
def iv(a b:List Nat)(v:PV)(c i:Nat):PF:=(((((PF.nil.set 0 (aN a)).set 1 (aN b)).set 5 (v)).set 6 (.int .u64 c)).set 7 (.int .i64 i))
theorem aIO{C:Ctx}(L:uN C)(a b:List Nat)(ha:Lim a)(hb:Lim b)(η:val b≤val a)(hl:Z' b≤Z' a)(h1:Z' a≤35184372087808) :
  NS.wp C (aY afI.res (cN (aN (aM (val a-val b))))) (PF.args [aN a,aN b]) .nil:=by
 simp only[go_sem,NS,N1,N2,N3,N4,afI];refine wp_loop (α:=List Nat × Nat × PV × PH) (λs=>iv a b s.2.2.1 s.2.1 s.1.length) (λs=>s.2.2.2)
  (λs=>s.1.length≤Z' a∧Lim s.1∧s.2.1≤1∧val (a.take s.1.length)+4294967296^s.1.length*s.2.1=val s.1+val (b.take s.1.length)∧bJ s.2.2.2 1 s.2.2.1 (aO s.1)) (λs=>Z' a-s.1.length) ([],0,.aF,.nil) ⟨by simp,by simp[Lim],by simp,by simp[val],.nil⟩ ?_ a_ ?_
 ·unfold iv;exact Lq
 rintro⟨P,c,v,H0⟩ ⟨hP,i,hc,A,S⟩;simp only at hP i hc A S ⊢;simp only[go_sem,Ba,N5,iv];by_cases U:Z' P<Z' a
 ·have E:(Z' P:Int)<(Z' a:Nat):=Om;have ε:=ha _ (a8G U);have δ:=cZ a U;have β:(aO a)[Z' P]?=some [.int .u32 ((a[Z' P]:Nat):Int)]:=cF a U;generalize hx:a[Z' P]=x at *
  have ex:IntKind.u64.wrap ((x:Nat):Int)=((x:Nat):Int):=bP Om;have fin:∀(t:Nat)(B:PF),t<4294967296→val (b.take (Z' P+1))=val (b.take P.length)+4294967296^P.length*t →
    B 0=some (aN a)→B 1=some (aN b)→B 5=some v→B 8=some (.int .u64 (c+t:Nat))→B 7=some (.int .i64 P.length) →
    ∀K:cD,(∀w l v' R H2,Z' w=Z' P+1→Lim w→l≤1→val (a.take (Z' P+1))+4294967296^w.length*l=val w+val (b.take (Z' P+1))→(iv a b v' l w.length).le R→bJ H2 1 v' (aO w)→K .normal R H2) →
    aC.wp C (.seq (.region d6) (.seq (.region d7) (.seq (.seq (.region VH) (.cond (.tmp 35) (.seq (.region VI) (.region VJ)) .skip)) (.region FD)))) (fQ 1 (jW C (aC.wp C (.region FF)) K)) B H0:=by
   intro t B ht u g0 g1 g5 Z Y K hK;have step:∀(d l:Nat),d<4294967296→l≤1→x+4294967296*l=d+(c+t)→val (a.take (Z' P+1))+4294967296^(Z' P+1)*l=val (P++[d])+val (b.take (Z' P+1)):=by
    intro d l hd ζ he;have h2:4294967296^P.length*(x+4294967296*l)=4294967296^P.length*(d+(c+t)):=by rw[he]
    rw[a8O,a8O,a8O]at h2;rw[mH,baD,a9C,δ,u];omega
   simp only[go_sem,d6,g0,Y,β,ex,d7,VH,Z];by_cases c2:x<c+t
   ·have F:((x:Nat):Int)<((c+t:Nat):Int):=Om;have N:IntKind.u64.wrap ((x:Int)+4294967296)=((x+4294967296:Nat):Int):=by rw[show(x:Int)+4294967296=((x+4294967296:Nat):Int) by omega];exact bP Om
    have e2:IntKind.u64.wrap (((x+4294967296:Nat):Int)-((c+t:Nat):Int))=((x+4294967296-(c+t):Nat):Int):=by rw[show((x+4294967296:Nat):Int)-((c+t:Nat):Int)=((x+4294967296-(c+t):Nat):Int) by omega];exact bP Om
    have J:IntKind.u32.wrap ((x+4294967296-(c+t):Nat):Int)=((x+4294967296-(c+t):Nat):Int):=by rw[dH,a9P Om]
    have M:(1:Nat)*1≤16777216:=by decide
    simp only[go_sem,F,VI,N,VJ,FD,g5,Z,e2,J,M];refine jD (src:=[[.int .u32 ((x+4294967296-(c+t):Nat):Int)]]) S rfl (vC Om) λv' H' p _=>?_;rw[vD]at p;simp only[go_sem,FF,Y,eQ (Om:Z' P<9223372036854775807)];refine hK _ 1 v' _ H' bD (i.app λy Q=>by simp at Q;subst Q;omega) (a8E _) ?_ ?_ p
    ·rw[a8F,a8J];exact step _ 1 Om (a8E _) Om
    ·unfold iv;rw[a8F,a8J];exact Lq
   ·have F:¬((x:Nat):Int)<((c+t:Nat):Int):=Om;have e2:IntKind.u64.wrap (((x:Nat):Int)-((c+t:Nat):Int))=((x-(c+t):Nat):Int):=by rw[show((x:Nat):Int)-((c+t:Nat):Int)=((x-(c+t):Nat):Int) by omega];exact bP Om
    have J:IntKind.u32.wrap ((x-(c+t):Nat):Int)=((x-(c+t):Nat):Int):=by rw[dH,a9P Om]
    have M:(1:Nat)*1≤16777216:=by decide
    simp only[go_sem,F,FD,g5,Z,e2,J,M];refine jD (src:=[[.int .u32 ((x-(c+t):Nat):Int)]]) S rfl (vC Om) λv' H' p _=>?_;rw[vD]at p;simp only[go_sem,FF,Y,eQ (Om:Z' P<9223372036854775807)];refine hK _ 0 v' _ H' bD (i.app λy Q=>by simp at Q;subst Q;omega) aV ?_ ?_ p
    ·rw[a8F,a8J];exact step _ 0 Om aV Om
    ·unfold iv;rw[a8F,a8J];exact Lq
  simp only[aC.wp,go_sem]at fin;simp only[go_sem,E,N6,N7];by_cases V:Z' P<Z' b
  ·have H:(Z' P:Int)<(Z' b:Nat):=Om;have γ:=hb _ (a8G V);have u:=cZ b V;have eb:IntKind.u64.wrap ((b[Z' P]:Nat):Int)=((b[Z' P]:Nat):Int):=bP Om;have es:IntKind.u64.wrap ((c:Int)+(b[Z' P]:Int))=((c+b[Z' P]:Nat):Int):=iD Om;simp only[go_sem,H,N8,cF b V,eb,es];refine fin b[Z' P] _ γ u rfl rfl rfl rfl rfl _ ?_;intro w l v' R H2 N e2 J O W X;rw[←N]at O;exact aJ (α:=List Nat × Nat × PV × PH) (w,l,v',H2) ⟨by simp only;omega,e2,J,O,X⟩ (by simp only;omega) W b_
  ·have H:¬(Z' P:Int)<(Z' b:Nat):=Om;have u:val (b.take (Z' P+1))=val (b.take P.length)+4294967296^P.length*0:=by rw[a8T Om,a8T Om];simp
   simp only[go_sem,H];refine fin 0 _ aV u rfl rfl rfl rfl rfl _ ?_;intro w l v' R H2 N e2 J O W X;rw[←N]at O;exact aJ (α:=List Nat × Nat × PV × PH) (w,l,v',H2) ⟨by simp only;omega,e2,J,O,X⟩ (by simp only;omega) W b_
 ·have e:Z' P=Z' a:=Om;have E:¬(Z' P:Int)<(Z' a:Nat):=Om;have hV:val P=val a-val b:=by
   rw[e,a9E,a8T hl]at A;have hlt:=hZ i;rw[e]at hlt;rcases baR c with h|h
   ·subst h;omega
   ·have:c=1:=Om;subst this;omega
  simp only[go_sem,E,Bb];have hs:=L.trim _ i Om;rw[hV]at hs;refine AD hs S rfl λF1 H1 _=>?_;simp only[go_sem];exact bE (.inr rfl) .nil rfl a_ ⟨.refl _,rfl⟩
end Go.PM
