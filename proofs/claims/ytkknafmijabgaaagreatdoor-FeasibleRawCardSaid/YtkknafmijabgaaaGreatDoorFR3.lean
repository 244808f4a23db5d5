/-
  Texts of ours, joined. No condition.
-/
import Derived.Test.YtkknafmijabgaaaGreatDoorFR1
import Derived.Test.YtkknafmijabgaaaGreatDoorFR2
import Derived.Lib.ItoaNum
set_option linter.unusedSimpArgs false
set_option linter.unusedVariables false
open Nat renaming reduceEqDiff→γ,reduceAdd→δ,reduceSub→ε,reduceMul→ζ,reduceLT→η,reduceLeDiff→θ,reduceBEq→τ
open Int renaming reduceLT→ι,reduceLE→κ,reduceEq→μ,reduceToNat→ν,reduceAdd→ξ,reduceNeg→ο,reduceBEq→ρ,reduceBNe→σ
open List renaming reduceReplicate→υ
open List renaming range→a8D,length_map→a8E,replicate→a8F,getElem_mem→a8G,length_append→a8H,getElem?_eq_getElem→a8L,getD_eq_getElem?_getD→a8M,length_singleton→a8N,mem_cons→a8S,take_of_length_le→a8V,length_take→a8W,getElem?_map→a8Y,mem_range→a9B,not_mem_nil→a9D,getElem?_eq_some_iff→a9F,mem_map→a9G,all_eq_true→a9I,mem_singleton→a9K,append_assoc→a9L,take_length→a9M,mem_append→a9N,drop_zero→a9R,getElem?_eq_none→a9S,map_cons→a9T,map_append→a9U,append_nil→a9W,length_set→a9X,length_drop→a9Z,mem_of_getElem?→baA,Sublist→baE,take_succ_eq_append_getElem→baF,map_congr_left→baM,Perm→baQ,drop_eq_getElem_cons→baR,length_nil→baX,map_nil→bbA,take_append_drop→bbC,getElem_map→bbF,nodup_append→bbG,getElem_of_mem→bbJ,nil_append→bbK,length_replicate→bbP,cons_append→bbR,getElem?_set→bbV,set_append_right→bbW,drop_of_length_le→bcB,getElem?_replicate→bcC,sublist_append_left→bcD
open Nat renaming gcd→a8I,le_refl→a8J,zero_le→a8K,zero_add→a8R,mul_add→a8T,lt_or_ge→a8Z,mul_assoc→a9C,mul_comm→a9E,add_mul→a9O,add_zero→a9P,mod_eq_of_lt→a9V,mod_lt→baC,pow_succ→baG,le_trans→baK,eq_zero_or_pos→baN,min_eq_left→baO,mul_le_mul_left→baU,pos_of_ne_zero→baV,add_assoc→baY,pow_pos→bbD,div_eq_of_lt→bbL,div_lt_iff_lt_mul→bbM,mul_le_mul→bbT,div_add_mod→bbX,lt_of_lt_of_le→bcE
open Bool renaming false_and→a8O,not_true→a8Q,true_and→a8U,not_false→a8X,and_eq_true→a9A,and_false→a9Q,and_true→baI,false_eq_true→bbH,and_assoc→bbN
open Option renaming map_some→a9J,some→baP,getD_some→baW
open Array renaming getElem?_eq_some_iff→bcF
open Int renaming toNat_natCast→bbI
set_option maxRecDepth 100000
set_option maxHeartbeats 800000
noncomputable section
namespace Go.PM
open Go Go.Na
theorem zE (R:List Bool) (i:Nat) (row:List RF):∀ k,(dT R i row k).length=R.length
 | 0=>rfl
 | k+1=>by simp only[dT,a9X,zE R i row k]
theorem abP (l:dC) (R:List Bool) (i:Nat):(HA l R i).length=R.length:=by
 unfold HA; rw[zE,a9X]
theorem vH (l:dC) (R:List Bool):∀ i,(eK l R i).length=R.length
 | 0=>rfl
 | i+1=>by simp only[eK,abP,vH l R i]
theorem vG (l:dC):∀ r,(eR l r).length=l.exit.length
 | 0=>by simp[eR]
 | r+1=>by simp only[eR,vH,vG l r]
theorem eP {R:List Bool} {i:Nat} (h:i<R.length):(aZ R)[i]?=some [.bool (R.getD i false)]:=by
 unfold aZ;rw[a8Y,a8L h,a8M,a8L h]; rfl
theorem gE (R:List Bool):(aZ R).length=R.length:=by simp[aZ]
def bf (l:dC) (o r:Nat):PF:=(((PF.nil.set 1 (.bO l.cells)).set 3 (.osl o 1 0 l.exit.length)).set 4 (.int .i64 r))
def OB (l:dC) (o r i:Nat):PF:=(((((PF.nil.set 1 (.bO l.cells)).set 3 (.osl o 1 0 l.exit.length)).set 4 (.int .i64 r)).set 19 (.int .i64 (l.exit.length:Nat))).set 20 (.int .i64 i))
def yK (l:dC) (o r i:Nat) (row:List RF) (k:Nat):PF:=(((((((((PF.nil.set 1 (.bO l.cells)).set 3 (.osl o 1 0 l.exit.length)).set 4 (.int .i64 r)).set 19 (.int .i64 (l.exit.length:Nat))).set 20 (.int .i64 i)).set 5 (.int .i64 i)).set 42 (frs row)).set 43 (.int .i64 (row.length:Nat))).set 44 (.int .i64 k))
def kS (o:Nat) (R:List Bool):PH:=PH.nil.set o (.rows 1 (aZ R))
theorem aiQ {C:Ctx} (L:yA C) (l:dC) (o r i:Nat) (row:List RF) (I:lI row) (W:row.length=l.exit.length) (hi:i<l.exit.length) (hn:l.exit.length≤4) (e:List Bool) (X:e.length=l.exit.length) (K:cI) (F:PF) (H:PH)
  (N:(yK l o r i row 0).le F) (J:(kS o e).le H)
  (U:∀ F H,(yK l o r i row row.length).le F→(kS o (dT e i row row.length)).le H→K .normal F H) :
  aC.wp C (.block 4 (.loop IA)) K F H:=by
 simp only[go_sem];refine wp_loop (α:=Nat) (fun k=>yK l o r i row k) (fun k=>kS o (dT e i row k)) (fun k=>k≤row.length) (fun k=>row.length-k) 0 (a8K _) N J ?_;intro k Z;simp only[go_sem,IA,T8,yK,kS];have O:=zE e i row k;by_cases hlt:k<row.length
 ·have j:(k:Int)<(row.length:Nat):=Om;have V:(row.map RF.cells)[k]?=some (row[k]).cells:=by simp[hlt]
  simp only[go_sem,j,F6,V];refine aO fun o7 E=>?_;have M:o≠o7:=by rintro rfl; simp only[aS,if_true] at E; cases E
  have w:(i:Int)<(l.exit.length:Nat):=Om;have B:(k:Int)<(l.exit.length:Nat):=Om;have u:=eP (R:=dT e i row k) (i:=i) Om;have x:=eP (R:=dT e i row k) (i:=k) Om;have y:dT e i row (k+1)=(dT e i row k).set i ((dT e i row k).getD i false||dH row[k]&&(dT e i row k).getD k false):=by simp only[dT,a8M,a8Y,a8L hlt,a9J,baW]
  have fin:∀ (b:Bool) (F:PF) (H:PH),b=((dT e i row k).getD i false||dH row[k]&&(dT e i row k).getD k false)→(yK l o r i row (k+1)).le F→H o=some (.rows 1 ((aZ (dT e i row k)).set i [.bool b])) →
    gP (fun k=>yK l o r i row k) (fun k=>kS o (dT e i row k)) (fun k=>k≤row.length) (fun k=>row.length-k) (row.length-k) (fR 4 K) .normal F H:=by
   intro b F H hb N J;refine aG (k+1) hlt Om N ?_;rw[iD,hb,← y] at J;exact e_ a_ J
  unfold yK kS at fin;generalize hb:(dT e i row k).getD i false=b at *
  generalize Y:(dT e i row k).getD k false=c at *
  generalize S:dH row[k]=A at *
  cases b with
  | true =>simp only[go_sem,WB,M,w,a8R,u,IC,wZz k];exact fin true _ _ (by simp) Lq Sq
  | false =>
   simp only[go_sem,WB,M,w,a8R,u];refine aB (L.yE _ (I.all _ (a8G hlt))) rfl ?_;rw[S];cases A with
   | false =>simp only[go_sem,w,B,M,a8R,u,x,IC,wZz k];exact fin false _ _ (by simp) Lq Sq
   | true =>simp only[go_sem,w,B,M,a8R,u,x,IC,wZz k];exact fin c _ _ (by simp) Lq Sq
 ·have j:¬ (k:Int)<(row.length:Nat):=Om;simp only[go_sem,j];have:k=row.length:=Om;subst this;exact U _ _ (by unfold yK; exact Lq) (b_)
structure HS (l:dC):Prop where
 n:l.exit.length≤4
 a6U:l.a6U.length=l.exit.length
 row:∀ r∈l.a6U,r.length=l.exit.length
theorem aiR {C:Ctx} (L:yA C) (l:dC) (U:l.Ok) (he:HS l) (o r:Nat) (R:List Bool) (hR:R.length=l.exit.length) (K:cI) (F:PF) (H:PH)
  (x:(OB l o r 0).le F) (N:(kS o R).le H)
  (hK:∀ F H,(bf l o r).le F→(kS o (eK l R l.exit.length)).le H→K .normal F H) :
  aC.wp C (.block 2 (.loop IB)) K F H:=by
 simp only[go_sem];refine wp_loop (α:=Nat) (fun i=>OB l o r i) (fun i=>kS o (eK l R i)) (fun i=>i≤l.exit.length) (fun i=>l.exit.length-i) 0 (a8K _) x N ?_;intro i hi;have V:=vH l R i;have hn:=he.n;by_cases hlt:i<l.exit.length
 ·have e:(i:Int)<(l.exit.length:Nat):=Om;have w:i<l.a6U.length:=by rw[he.a6U]; exact hlt
  have y:=eP (R:=eK l R i) (i:=i) Om;have hx:(l.exit.map RF.cells)[i]?=some (l.exit[i]).cells:=by simp[hlt]
  have I:(l.a6U.map fun r=>[frs r])[i]?=some [frs l.a6U[i]]:=by simp[w]
  have S:(l.a6U[i]).length=l.exit.length:=he.row _ (a8G w);generalize u:(eK l R i).set i ((eK l R i).getD i false||dH l.exit[i])=J;have E:J.length=l.exit.length:=by rw[← u,a9X]; omega
  have A:eK l R (i+1)=dT J i l.a6U[i] (l.a6U[i]).length:=by
   simp only[eK,HA];have X:(l.exit.map dH).getD i false=dH l.exit[i]:=by simp[a8M,hlt]
   have Y:l.a6U.getD i []=l.a6U[i]:=by simp[a8M,w]
   rw[X,Y,u]
  have j:∀ (F:PF) (H:PH),(((((((PF.nil.set 1 (.bO l.cells)).set 3 (.osl o 1 0 l.exit.length)).set 4 (.int .i64 r)).set 19 (.int .i64 (l.exit.length:Nat))).set 20 (.int .i64 i)).set 5 (.int .i64 i)):PF).le F→H o=some (.rows 1 (aZ J)) →
    aC.wp C (.seq (.region js) (.block 4 (.loop IA))) (fR 3 (jY C (aC.wp C (.region WC)) (gP (fun i=>OB l o r i) (fun i=>kS o (eK l R i)) (fun i=>i≤l.exit.length) (fun i=>l.exit.length-i) (l.exit.length-i) (fR 2 K)))) F H:=by
   intro F H x N;have f1:F 1=some (.bO l.cells):=x 1 _ rfl;have f3:F 3=some (.osl o 1 0 l.exit.length):=x 3 _ rfl;have f4:F 4=some (.int .i64 r):=x 4 _ rfl;have Z:F 19=some (.int .i64 (l.exit.length:Nat)):=x 19 _ rfl;have β:F 20=some (.int .i64 i):=x 20 _ rfl;have f5:F 5=some (.int .i64 i):=x 5 _ rfl;rw[D9];simp only[go_sem,js,f1,f5,I,a8E];have inner:=aiQ L l o r i l.a6U[i] (U.row _ (a8G w)) S hlt hn J E;simp only[aC.wp,go_sem] at inner;refine inner _ _ _ ?_ (e_ a_ N) ?_
   ·unfold yK;exact Lq
   ·intro W H' B O;have M:W 20=some (.int .i64 i):=B 20 _ (by unfold yK; simp only[go_sem]);simp only[go_sem,WC,M,wZz i];refine aG (i+1) hlt Om ?_ (by rw[A]; exact O);have g:=fun (q:Nat) v h=>B q v h;unfold OB;unfold yK at g;refine d_ (d_ (d_ (d_ (d_ c_ ?_) ?_) ?_) ?_) ?_
    ·simp only[go_sem]; exact g 1 _ rfl
    ·simp only[go_sem]; exact g 3 _ rfl
    ·simp only[go_sem]; exact g 4 _ rfl
    ·simp only[go_sem]; exact g 19 _ rfl
    ·simp only[go_sem]
  simp only[aC.wp,go_sem] at j;simp only[go_sem,IB,jp,OB,kS,e,T7];generalize hb:(eK l R i).getD i false=b at *
  cases b with
  | true =>simp only[go_sem,jr,e,a8R,y];refine j _ _ Lq ?_;rw[← u];simp only[go_sem,iD,Bool.true_or]
  | false =>simp only[go_sem,jr,e,a8R,y,hx];refine aB (L.yE _ (U.exit.all _ (a8G hlt))) rfl ?_;simp only[go_sem,e,a8R,y];refine j _ _ Lq ?_;rw[← u];simp only[go_sem,iD,Bool.false_or]
 ·have e:¬ (i:Int)<(l.exit.length:Nat):=Om;simp only[go_sem,IB,jp,OB,kS,e];have:i=l.exit.length:=Om;subst this;exact hK _ _ (by unfold bf; exact Lq) b_
theorem aMW {C:Ctx} (L:yA C) (l:dC) (I:l.Ok) (he:HS l):OS.wp C (aT aBB.res (cP (.bool (DE l)))) (PF.args [.agg l.cells]) .nil:=by
 have J:=he.n;have A:(l.exit.length:Int)*((1:Nat):Int)≤140737488355328:=Om;have B:(l.exit.length:Int)≤9223372036854775807:=Om;simp only[go_sem,OS,T2,T3,aBB,a8E,A,B];refine aO fun o K=>?_;simp only[go_sem,T4];refine wp_loop (α:=Nat) (fun r=>bf l o r) (fun r=>kS o (eR l r)) (fun r=>r≤l.exit.length+1) (fun r=>l.exit.length+1-r) 0 (a8K _) ?_ ?_ ?_
 ·unfold bf;exact Lq
 ·refine e_ a_ ?_;simp only[go_sem,eR];simp[aZ]
 intro r M;have j:=vG l r;simp only[go_sem,F0,T5,bf,kS];by_cases hlt:r≤l.exit.length
 ·have e:(r:Int)≤(l.exit.length:Nat):=Om;simp only[go_sem,e,T6];have inner:=aiR L l I he o r (eR l r) j;simp only[aC.wp,go_sem] at inner;refine inner _ _ _ ?_ b_ ?_
  ·unfold OB;exact Lq
  ·intro E H' w y;have g:=fun (q:Nat) v h=>w q v h;unfold bf at g;have g4:E 4=some (.int .i64 r):=g 4 _ rfl;simp only[go_sem,F7,g4,wZz r];refine aG (r+1) Om Om ?_ y;refine d_ (d_ (d_ c_ ?_) ?_) ?_
   ·simp only[go_sem]; exact g 1 _ rfl
   ·simp only[go_sem]; exact g 3 _ rfl
   ·simp only[go_sem]
 ·have e:¬ (r:Int)≤(l.exit.length:Nat):=Om;have:r=l.exit.length+1:=Om;subst this;simp only[go_sem,e,F8];have u:=L.allb id 103 (eR l (l.exit.length+1)) (Om:(eR l (l.exit.length+1)).length≤_) fun x _=>L.ends1 x;have F:(aZ (eR l (l.exit.length+1))).length=l.exit.length:=by rw[gE,j]
  refine tH u (rs:=aZ (eR l (l.exit.length+1))) (o:=o) (s:=1) Sq ?_ ?_
  ·simp only[go_sem,xM (show l.exit.length≤(aZ (eR l (l.exit.length+1))).length by omega),a8V (show (aZ (eR l (l.exit.length+1))).length≤l.exit.length by omega)]
  ·simp only[go_sem];exact bG rfl rfl
structure qp (C:Ctx):Prop extends Pp C where
 ends:∀ l:dC,l.Ok→HS l→aH C 102 [.agg l.cells] .nil (aI (.bool (DE l)))
def xB (l:dC) (i:Nat):Bool:=decide ((l.a6U.getD i []).length=l.start.length)&&(l.a6U.getD i []).all dP&&!((l.a6U.getD i []).map dH).getD i false
def AQ (l:dC):Bool:=match uH (l.start.map RF.v) with
 | .ok (n,a,b)=>decide (wZ n a b false 1 1=0)
 | .error _=>false
theorem aoN (l:dC):qB l=(within l.start.length 1 4&&decide (l.exit.length=l.start.length)&&decide (l.a6U.length=l.start.length)&&l.start.all dP&&l.exit.all dP&&(a8D l.a6U.length).all (xB l)&&AQ l&&DE l):=rfl
theorem adA {l:List FV} {e:Int} (h:uH l=.error e):e≠0:=by
 have:∀ (l:List FV) (b:FV) (e:Int),l.foldlM lT b=.error e→e≠0:=by
  intro l
  induction l with
  | nil=>intro b e h; cases h
  | cons x t w =>
   intro b e h;rw[List.foldlM_cons] at h;cases j:lT b x with
   | error u =>
    rw[j] at h;have:u=e:=by injection h
    subst this;obtain⟨E,a1,A⟩:=b;obtain⟨F,a2,B⟩:=x;simp only[lT] at j;split at j
    ·split at j
     ·rw[PP j]; decide
     ·split at j
      ·rw[PP j]; decide
      ·rw[PP j]; decide
    ·injection j with j; subst j; decide
   | ok y=>rw[j] at h; exact w y e h
 exact this l _ e h
theorem avF {l:List FV} {r:FV} (h:uH l=.ok r):r.rf.Ok:=by
 have:∀ (l:List FV) (b r:FV),b.rf.Ok→l.foldlM lT b=.ok r→r.rf.Ok:=by
  intro l
  induction l with
  | nil=>intro b r hb h; injection h with h; subst h; exact hb
  | cons x t j =>
   intro b r hb h;rw[List.foldlM_cons] at h;cases e:lT b x with
   | error u=>rw[e] at h; cases h
   | ok y=>rw[e] at h; exact j y r (Bg e) h
 refine this l _ r ⟨aX _,aX _,?_,?_⟩ h
 ·show (aJ 0).length≤_;rw[jD]; simp
 ·show (aJ 1).length≤_;rw[sZ (by decide) (by decide)]; simp
theorem PQ {neg:Bool} {a b:Nat} {r:FV} (hb:b≠0) (h:lG neg a b=.ok r):dS r.2.1 r.2.2=true:=by
 unfold lG at h;split at h
 ·cases h
 ·rename_i u;injection h with h
  subst h;have e:a8I a b ∣ b:=Nat.gcd_dvd_right _ _;have j:b/a8I a b≠0:=by have:=Nat.div_pos (Nat.le_of_dvd (baV hb) e) (baV fun h=>hb (Nat.gcd_eq_zero_iff.1 h).2);omega
  have l:=@nG (b/a8I a b);simp only[dS,a9A,decide_eq_true_eq];omega
theorem azN {x y r:FV} (h:lT x y=.ok r):dS r.2.1 r.2.2=true:=by
 obtain⟨w,a1,l⟩:=x;obtain⟨A,a2,u⟩:=y;simp only[lT] at h;split at h
 ·rename_i j;rw[a9A] at j;have e:l*u≠0:=Nat.mul_ne_zero (jG.1 j.1).1 (jG.1 j.2).1;split at h
  ·exact PQ e h
  ·split at h
   ·exact PQ e h
   ·exact PQ e h
 ·cases h
theorem aEJ:dS 0 1=true:=by
 have:dJ 1=1:=by rw[tR (by decide),mS]
 simp[dS,this,mS]
theorem ya {l:List FV} {r:FV} (h:uH l=.ok r):dS r.2.1 r.2.2=true:=by
 have:∀ (l:List FV) (b r:FV),dS b.2.1 b.2.2=true→l.foldlM lT b=.ok r→dS r.2.1 r.2.2=true:=by
  intro l
  induction l with
  | nil=>intro b r hb h; injection h with h; subst h; exact hb
  | cons x t j =>
   intro b r hb h;rw[List.foldlM_cons] at h;cases e:lT b x with
   | error u=>rw[e] at h; cases h
   | ok y=>rw[e] at h; exact j y r (azN e) h
 exact this l _ r aEJ h
theorem aME:(⟨false,[],[]⟩:RF).Ok:=⟨fun _ h=>absurd h (a9D),fun _ h=>absurd h (a9D),show 0≤35184372087808 by decide,show 0≤35184372087808 by decide⟩
def aNL (l:dC) (k:Nat):PF:=(((((PF.nil.set 1 (.bO l.cells)).set 3 (.int .i64 (l.start.length:Nat))).set 45 (aDJ l.a6U)).set 46 (.int .i64 (l.a6U.length:Nat))).set 47 (.int .i64 k))
theorem aGP {C:Ctx} (L:qp C) (l:dC) (E:l.Ok) (he:HS l) (F:PF) (B:F 1=some (.bO l.cells)) :
  aC.wp C (.seq (.region jt) (.seq (.region OT) (.seq (.region OU) (.seq (.region AB) .ret)))) (aT [.tmp 2] (cP (.bool (AQ l&&DE l)))) F .nil:=by
 simp only[go_sem,jt,B];refine aB (L.tot l.start E.start) rfl ?_;obtain⟨I,x,y,e,S⟩:=zX (uH (l.start.map RF.v));have go:∀ (z:RF) (e:Int),z.Ok→(e=0→(HV z.neg (val z.num) (val z.den) false 1 1=.tup [.int .i64 (wZ z.neg (val z.num) (val z.den) false 1 1),.int .i64 0])∧AQ l=decide (wZ z.neg (val z.num) (val z.den) false 1 1=0))→(e≠0→AQ l=false) →
   frV (uH (l.start.map RF.v))=.tup [.agg z.cells,.int .i64 e] →
   wpOps C [⟨(some 69),.mv (.tmp 72),none⟩,⟨(some 73),.extract (.tmp 69) 0,none⟩,⟨(some 74),.extract (.tmp 69) 1,none⟩,⟨(some 6),.alloc [(.bool false),.aD,.aD],none⟩,⟨none,.store 3 (.tmp 6) (.tmp 73),none⟩,⟨(some 7),.mv (.tmp 74),none⟩]
    (aC.wp C (.seq (.region OT) (.seq (.region OU) (.seq (.region AB) .ret))) (aT [.tmp 2] (cP (.bool (AQ l&&DE l))))) ((((F.set 70 (.bO [frs l.start,aDJ l.a6U,frs l.exit])).set 71 (frs l.start))).set 72 (.tup [.agg z.cells,.int .i64 e])) .nil:=by
  intro z e O J K _;simp only[go_sem];refine aO fun o6 M=>?_;simp only[go_sem,OT];refine aB (L.frac 1 1 (by decide) (by decide)) rfl ?_;rw[V8];simp only[go_sem,frV];refine aO fun o8 u=>?_;have R:o6≠o8:=by rintro rfl; simp only[aS,if_true] at u; cases u
  simp only[go_sem,OU,R];refine aB (L.ord z (FV.rf (false,1,1)) O aIH) rfl ?_;rw[show val (FV.rf (false,1,1)).num=1 from aU 1,show val (FV.rf (false,1,1)).den=1 from aU 1,show (FV.rf (false,1,1)).neg=false from rfl];by_cases c:e=0
  ·obtain⟨g1,g2⟩:=J c;rw[g1,g2];by_cases d:wZ z.neg (val z.num) (val z.den) false 1 1=0
   ·simp only[go_sem,AB,bP c,bP d,B];refine aB (L.ends l E he) rfl ?_;simp only[go_sem];exact bG rfl (by rw[decide_eq_true d,a8U])
   ·simp only[go_sem,AB,bP c,bD d];exact bG rfl (by rw[decide_eq_false d,a8O])
  ·rw[K c];have:∃ v w,HV z.neg (val z.num) (val z.den) false 1 1=.tup [.int .i64 v,.int .i64 w]:=by
    unfold HV;split
    ·exact⟨_,_,rfl⟩
    ·exact⟨_,_,rfl⟩
   obtain⟨v,w,A⟩:=this;rw[A];simp only[go_sem,AB,bD c];exact bG rfl rfl
 cases j:uH (l.start.map RF.v) with
 | error e =>rw[j] at go;exact go ⟨false,[],[]⟩ e aME (fun h=>absurd h (adA j)) (fun _=>by rw[AQ,j]) rfl
 | ok r =>obtain⟨n,a,b⟩:=r;rw[j] at go;have N:=avF j;refine go (FV.rf (n,a,b)) 0 N (fun _=>?_) (fun h=>absurd rfl h) rfl;rw[show val (FV.rf (n,a,b)).num=a from aU a,show val (FV.rf (n,a,b)).den=b from aU b,show (FV.rf (n,a,b)).neg=n from rfl];refine⟨?_,by rw[AQ,j]⟩;have A:dS a b=true:=ya j;rw[HV,A,Mq];rfl
theorem aTS {C:Ctx} (L:qp C) (l:dC) (A:l.Ok):WD.wp C (aT aMX.res (cP (.bool (qB l)))) (PF.args [.agg l.cells]) .nil:=by
 rw[aoN];simp only[go_sem,WD,anC,anD,aMX,anE,a8E];refine aB (L.inn l.start.length 1 4) rfl ?_;cases O:within l.start.length 1 4 with
 | false =>simp only[go_sem,a8X,FD];exact bG rfl (by simp only[a8O])
 | true =>
  obtain⟨W,X⟩:=within_iff.1 O;by_cases F:l.exit.length=l.start.length
  ·rw[decide_eq_true F];by_cases I:l.a6U.length=l.start.length
   ·rw[decide_eq_true I];simp only[go_sem,a8Q,a8E,bJ (Om:(l.exit.length:Int)=(l.start.length:Nat)),bJ (Om:(l.a6U.length:Int)=(l.start.length:Nat))];refine aB (L.aNP l.start A.start) rfl ?_;cases S:l.start.all dP with
    | false =>simp only[go_sem,a8X,FD];exact bG rfl (by simp only[a8O])
    | true =>
     simp only[go_sem,a8Q];refine aB (L.aNP l.exit A.exit) rfl ?_;cases U:l.exit.all dP with
     | false =>simp only[go_sem,a8X,FD];exact bG rfl (by simp only[a8O])
     | true =>
      simp only[go_sem,a8Q,anF,a8E];have y:∀ k (h:k<l.a6U.length),xB l k=(decide ((l.a6U[k]).length=l.start.length)&&(l.a6U[k]).all dP&&!((l.a6U[k]).map dH).getD k false):=by
       intro k h;have:l.a6U.getD k []=l.a6U[k]:=by simp[a8M,h]
       rw[xB,this]
      refine wp_loop (α:=Nat) (fun k=>aNL l k) (fun _=>.nil) (fun k=>k≤l.a6U.length∧wF (xB l) k) (fun k=>l.a6U.length-k) 0 ⟨a8K _,.zero⟩ ?_ a_ ?_
      ·unfold aNL
       (repeat' (first|exact c_|refine d_ ?_ ?_))<;>first|(simp only[go_sem,a8E]<;>rfl)|rfl
      rintro k ⟨V,N⟩;simp only[go_sem,Ub,anG,aNL];by_cases hlt:k<l.a6U.length
      ·have j:(k:Int)<(l.a6U.length:Nat):=Om;have E:(l.a6U.map fun r=>[frs r])[k]?=some [frs l.a6U[k]]:=by simp[hlt]
       have e:=y k hlt;have w:=A.row l.a6U[k] (a8G hlt);simp only[go_sem,j,anH,E,anI,a8E];by_cases J:(l.a6U[k]).length=l.start.length
       ·rw[decide_eq_true J,a8U] at e;simp only[go_sem,bJ (show (((l.a6U[k]).length:Nat):Int)=(l.start.length:Nat) by omega)];refine aB (L.aNP _ w) rfl ?_;cases K:(l.a6U[k]).all dP with
        | false =>rw[K,a8O] at e;simp only[go_sem,a8X,br];refine bG (b:=false) rfl ?_;have:(a8D l.a6U.length).all (xB l)=false:=gS hlt e;rw[this]; simp only[a8O,a9Q]
        | true =>
         have x:k<(l.a6U[k]).length:=Om;have R:((l.a6U[k]).map RF.cells)[k]?=some ((l.a6U[k])[k]).cells:=by simp[x]
         have B:((l.a6U[k]).map dH).getD k false=dH (l.a6U[k])[k]:=by simp[a8M,x]
         rw[K,a8U,B] at e;simp only[go_sem,a8Q,R];refine aB (L.yE _ (w.all _ (a8G x))) rfl ?_;cases M:dH (l.a6U[k])[k] with
         | true =>rw[M] at e;simp only[go_sem,br];refine bG (b:=false) rfl ?_;have:(a8D l.a6U.length).all (xB l)=false:=gS hlt e;rw[this]; simp only[a8O,a9Q]
         | false =>rw[M] at e;simp only[go_sem,anJ,wZz k];refine aG (k+1) ⟨hlt,N.step e⟩ Om ?_ a_;exact Lq
       ·simp only[decide_eq_false J,a8O] at e;simp only[go_sem,cM (show (((l.a6U[k]).length:Nat):Int)≠(l.start.length:Nat) by omega),br];refine bG (b:=false) rfl ?_;have:(a8D l.a6U.length).all (xB l)=false:=gS hlt e;rw[this]; simp only[a8O,a9Q]
      ·have j:¬ (k:Int)<(l.a6U.length:Nat):=Om;have:k=l.a6U.length:=Om;subst this;have u:(a8D l.a6U.length).all (xB l)=true:=N;have he:HS l:=⟨by omega,by omega,fun r E=>by obtain⟨i,hi,rfl⟩:=bbJ E;have:=a9I.1 u i (a9B.2 hi);rw[y i hi] at this;simp only[a9A,decide_eq_true_eq] at this;omega⟩
       have tail:=aGP L l A he;simp only[aC.wp,go_sem] at tail;rw[u];simp only[go_sem,j,a8U,baI];exact tail _ rfl
   ·simp only[go_sem,a8Q,a8E,bJ (Om:(l.exit.length:Int)=(l.start.length:Nat)),cM (Om:(l.a6U.length:Int)≠(l.start.length:Nat)),FD];exact bG rfl (by rw[decide_eq_false I]; simp only[a8O,a9Q])
  ·simp only[go_sem,a8Q,a8E,cM (Om:(l.exit.length:Int)≠(l.start.length:Nat)),FD];exact bG rfl (by rw[decide_eq_false F]; simp only[a8O,a9Q])
structure oG (C:Ctx):Prop extends qp C where
 law:∀ l:dC,l.Ok→aH C 95 [.agg l.cells] .nil (aI (.bool (qB l)))
 pol:∀ (p:dX) (n:Nat),p.Ok→n≤4→aH C 112 [.agg p.cells,.int .i64 n] .nil (aI (.bool (oU n p)))
 a6Z:∀ f:aE,f.Ok→aH C 111 [.agg f.cells] .nil (aI (.bool (wH f)))
abbrev gX (l:List (List UInt8)):List (List PV):=l.map fun s=>[PV.str s]
theorem CF (l:List (List UInt8)) {k:Nat} (h:k<l.length):gX (l.take k)++[[.str l[k]]]=gX (l.take (k+1)):=by
 unfold gX;rw[baF h,a9U]; rfl
theorem xU {l:List (List UInt8)} (h:l.length≤1000):roomFor (gX l).length 1 16:=by
 unfold roomFor gX;simp only[a8E,maxLen]; omega
def lP {α:Type} (l:List α) (p:α→Bool) (k:Nat):Bool:=(l.take k).all p
theorem yG {α:Type} (l:List α) (p:α→Bool):lP l p 0=true:=rfl
theorem yF {α:Type} (l:List α) (p:α→Bool) {k:Nat} (h:k<l.length):lP l p (k+1)=(lP l p k&&p l[k]):=by
 unfold lP;rw[baF h,List.all_append]; simp
theorem BO {α:Type} (l:List α) (p:α→Bool):lP l p l.length=l.all p:=by unfold lP; rw[a9M]
def lW (f:aE) (e j l u w:PV) (ok:Bool):PF:=(((((((PF.nil.set 1 (.bO f.cells)).set 3 (e)).set 4 (j)).set 5 (l)).set 6 (u)).set 7 (w)).set 8 (.bool ok))
structure oN (F:PF) (f:aE) (w3 w4 w5 w6 w7:PV) (ok:Bool):Prop where
 a1:F 1=some (.bO f.cells)
 a3:F 3=some w3
 a4:F 4=some w4
 a5:F 5=some w5
 a6:F 6=some w6
 a7:F 7=some w7
 a8:F 8=some (.bool ok)
theorem aBI {C:Ctx} (L:oG C) (f:aE) (S:f.Ok) (X:f.a6X.length≤4) (I J M N:PV) (K:cI) (F:PF) (H:PH) (u:oN F f .aD I J M N true)
  (A:F 67=some (.sl 4 (f.a6X.map dC.cells))) (B:F 68=some (.int .i64 (f.a6X.length:Nat))) (E:F 69=some (.int .i64 0))
  (R:∀ v O H',oN O f v I J M N (f.a6X.all qB)→cR H' 1 v (gX (f.a6X.map dC.name))→K (.exit 0) O H') :
  aC.wp C (.loop OY) K F H:=by
 refine wp_loop (α:=Nat × PV × PH) (fun t=>(((lW f t.2.1 I J M N (lP f.a6X qB t.1)).set 67 (.sl 4 (f.a6X.map dC.cells))).set 68 (.int .i64 (f.a6X.length:Nat))).set 69 (.int .i64 t.1)) (fun t=>t.2.2)
  (fun t=>t.1≤f.a6X.length∧cR t.2.2 1 t.2.1 (gX ((f.a6X.map dC.name).take t.1))) (fun t=>f.a6X.length-t.1) (0,.aD,.nil) ⟨a8K _,.nil⟩ ?_ a_ ?_
 ·unfold lW
  (repeat' (first|exact c_|refine d_ ?_ ?_))<;>first|(simp only[go_sem,u.a1,u.a3,u.a4,u.a5,u.a6,u.a7,u.a8,A,B,E,yG]<;>rfl)|rfl
 rintro⟨k,v,H0⟩ ⟨U,y⟩;simp only at U y ⊢;simp only[go_sem,OY,aoJ,lW];by_cases hlt:k<f.a6X.length
 ·have j:(k:Int)<(f.a6X.length:Nat):=Om;have W:(f.a6X.map dC.cells)[k]?=some (f.a6X[k]).cells:=by simp[hlt]
  have x:=CF (f.a6X.map dC.name) (k:=k) (by simpa using hlt);rw[bbF] at x;simp only[go_sem,j,aoK,W];refine aO fun o V=>?_;simp only[go_sem,aoL];refine rJ y V (xU (by simp; omega)) fun v' H' l w=>?_;rw[x] at l;have e:=yF f.a6X qB hlt;cases hb:lP f.a6X qB k with
  | false =>rw[hb,a8O] at e;simp only[go_sem,B9,w,jy,wZz k];refine aG (k+1,v',H') ⟨hlt,l⟩ (by simp only; omega) ?_ b_;simp only[e];exact Lq
  | true =>rw[hb,a8U] at e;simp only[go_sem,B9,w];refine aB (L.law _ (S.law _ (a8G hlt))) Ev ?_;simp only[go_sem,jy,wZz k];refine aG (k+1,v',H') ⟨hlt,l⟩ (by simp only; omega) ?_ b_;simp only[e];exact Lq
 ·have j:¬ (k:Int)<(f.a6X.length:Nat):=Om;have:k=f.a6X.length:=Om;subst this;rw[a8V (by simp)] at y;rw[BO];simp only[go_sem,j];exact R v _ _ ⟨by simp only[go_sem],by simp only[go_sem],by simp only[go_sem],by simp only[go_sem],by simp only[go_sem],by simp only[go_sem],by simp only[go_sem]⟩ y
theorem JC {n:Nat} (h:n≤1000):IntKind.i64.wrap ((n:Int)-1)=(n:Int)-1:=wrap_i64 Om Om
theorem aBJ {C:Ctx} (L:oG C) (f:aE) (hs:f.a6Q.length≤4) (hl:f.a6X.length≤4) (x:Bool) (E I J M:PV) (K:cI) (F:PF) (H:PH) (u:oN F f E .aD I J M x)
  (R:F 85=some (.sl 4 (f.a6Q.map dN.cells))) (S:F 86=some (.int .i64 (f.a6Q.length:Nat))) (U:F 87=some (.int .i64 0))
  (X:∀ v w H',oN w f E v I J M (x&&f.a6Q.all (oI f))→cR H' 1 v (gX (f.a6Q.map dN.name))→K (.exit 2) w H') :
  aC.wp C (.loop OZ) K F H:=by
 refine wp_loop (α:=Nat × PV × PH) (fun t=>(((lW f E t.2.1 I J M (x&&lP f.a6Q (oI f) t.1)).set 85 (.sl 4 (f.a6Q.map dN.cells))).set 86 (.int .i64 (f.a6Q.length:Nat))).set 87 (.int .i64 t.1)) (fun t=>t.2.2)
  (fun t=>t.1≤f.a6Q.length∧cR t.2.2 1 t.2.1 (gX ((f.a6Q.map dN.name).take t.1))) (fun t=>f.a6Q.length-t.1) (0,.aD,.nil) ⟨a8K _,.nil⟩ ?_ a_ ?_
 ·unfold lW
  (repeat' (first|exact c_|refine d_ ?_ ?_))<;>first|(simp only[go_sem,u.a1,u.a3,u.a4,u.a5,u.a6,u.a7,u.a8,R,S,U,yG,baI]<;>rfl)|rfl
 rintro⟨k,v,H0⟩ ⟨Z,N⟩;simp only at Z N ⊢;simp only[go_sem,OZ,Uz,lW];by_cases hlt:k<f.a6Q.length
 ·have e:(k:Int)<(f.a6Q.length:Nat):=Om;have hr:(f.a6Q.map dN.cells)[k]?=some (f.a6Q[k]).cells:=by simp[hlt]
  have B:=CF (f.a6Q.map dN.name) (k:=k) (by simpa using hlt);rw[bbF] at B;simp only[go_sem,e,U1,hr];refine aO fun o ho=>?_;simp only[go_sem,U2];refine rJ N ho (xU (by simp; omega)) fun v' H' y j=>?_;rw[B] at y;have l:=yF f.a6Q (oI f) hlt;have fin:∀ (c:Bool) (w:PF),c=(x&&lP f.a6Q (oI f) (k+1))→((((lW f E v' I J M c).set 85 (.sl 4 (f.a6Q.map dN.cells))).set 86 (.int .i64 (f.a6Q.length:Nat))).set 87 (.int .i64 (k+1:Nat))).le w →
    gP (fun (t:Nat × PV × PH)=>(((lW f E t.2.1 I J M (x&&lP f.a6Q (oI f) t.1)).set 85 (.sl 4 (f.a6Q.map dN.cells))).set 86 (.int .i64 (f.a6Q.length:Nat))).set 87 (.int .i64 t.1)) (fun (t:Nat × PV × PH)=>t.2.2)  (fun (t:Nat × PV × PH)=>t.1≤f.a6Q.length∧cR t.2.2 1 t.2.1 (gX ((f.a6Q.map dN.name).take t.1))) (fun (t:Nat × PV × PH)=>f.a6Q.length-t.1) (f.a6Q.length-k) K .normal w H':=by
   intro c w Y A;refine aG (α:=Nat × PV × PH) (k+1,v',H') ⟨hlt,y⟩ (by simp only; omega) ?_ b_;rw[Y] at A;exact A
  unfold lW at fin;rw[l,← bbN] at fin;have V:oI f f.a6Q[k]=(within (f.a6Q[k]).a7G 1 16&&within (f.a6Q[k]).port 1 64&&within (f.a6Q[k]).law 0 ((f.a6X.length:Int)-1)):=rfl;cases hb:(x&&lP f.a6Q (oI f) k) with
  | false =>rw[hb,a8O] at fin;simp only[go_sem,j5,j,GL,wZz k];refine fin false _ rfl ?_;exact Lq
  | true =>
   rw[hb,a8U] at fin;simp only[go_sem,j5,j];refine aB (L.inn _ 1 16) Ev ?_;cases O:within (f.a6Q[k]).a7G 1 16 with
   | false =>simp only[go_sem,GL,wZz k];refine fin false _ (by rw[V,O]; simp only[a8O]) ?_;exact Lq
   | true =>
    simp only[go_sem,j];refine aB (L.inn _ 1 64) Ev ?_;cases W:within (f.a6Q[k]).port 1 64 with
    | false =>simp only[go_sem,GL,wZz k];refine fin false _ (by rw[V,O,W]; simp only[a8O,a9Q]) ?_;exact Lq
    | true =>simp only[go_sem,j,a8E,JC (Om:f.a6X.length≤1000)];refine aB (L.inn _ 0 _) Ev ?_;simp only[go_sem,GL,wZz k];refine fin (within (f.a6Q[k]).law 0 ((f.a6X.length:Int)-1)) _ (by rw[V,O,W]; simp only[a8U]) ?_;exact Lq
 ·have e:¬ (k:Int)<(f.a6Q.length:Nat):=Om;have:k=f.a6Q.length:=Om;subst this;rw[a8V (by simp)] at N;rw[BO];simp only[go_sem,e];exact X v _ _ ⟨by simp only[go_sem],by simp only[go_sem],by simp only[go_sem],by simp only[go_sem],by simp only[go_sem],by simp only[go_sem],by simp only[go_sem]⟩ N
theorem aBK {C:Ctx} (L:oG C) (f:aE) (t:List dB) (W:t.length≤40) (x:Bool) (E I J M:PV) (K:cI) (F:PF) (H:PH) (j:oN F f E I .aD J M x)
  (y:F 119=some (.sl 7 (t.map dB.cells))) (A:F 120=some (.int .i64 (t.length:Nat))) (B:F 121=some (.int .i64 0))
  (O:∀ v N H',oN N f E I v J M x→cR H' 1 v (gX (t.map dB.name))→K (.exit 4) N H') :
  aC.wp C (.loop PA) K F H:=by
 refine wp_loop (α:=Nat × PV × PH) (fun a=>(((lW f E I a.2.1 J M x).set 119 (.sl 7 (t.map dB.cells))).set 120 (.int .i64 (t.length:Nat))).set 121 (.int .i64 a.1)) (fun a=>a.2.2)
  (fun a=>a.1≤t.length∧cR a.2.2 1 a.2.1 (gX ((t.map dB.name).take a.1))) (fun a=>t.length-a.1) (0,.aD,.nil) ⟨a8K _,.nil⟩ ?_ a_ ?_
 ·unfold lW
  (repeat' (first|exact c_|refine d_ ?_ ?_))<;>first|(simp only[go_sem,j.a1,j.a3,j.a4,j.a5,j.a6,j.a7,j.a8,y,A,B]<;>rfl)|rfl
 rintro⟨k,v,H0⟩ ⟨R,w⟩;simp only at R w ⊢;simp only[go_sem,PA,U3,lW];by_cases hlt:k<t.length
 ·have e:(k:Int)<(t.length:Nat):=Om;have V:(t.map dB.cells)[k]?=some (t[k]).cells:=by simp[hlt]
  have u:=CF (t.map dB.name) (k:=k) (by simpa using hlt);rw[bbF] at u;simp only[go_sem,e,U4,V];refine aO fun o S=>?_;simp only[go_sem,U5];refine rJ w S (xU (by simp; omega)) fun v' H' l U=>?_;rw[u] at l;simp only[go_sem,U6,wZz k];refine aG (k+1,v',H') ⟨hlt,l⟩ (by simp only; omega) ?_ b_;exact Lq
 ·have e:¬ (k:Int)<(t.length:Nat):=Om;have:k=t.length:=Om;subst this;rw[a8V (by simp)] at w;simp only[go_sem,e];exact O v _ _ ⟨by simp only[go_sem],by simp only[go_sem],by simp only[go_sem],by simp only[go_sem],by simp only[go_sem],by simp only[go_sem],by simp only[go_sem]⟩ w
theorem aBL {C:Ctx} (L:oG C) (f:aE) (e:List (List UInt8)) (hn:e.length≤40) (hs:f.a6P.length≤24) (hm:f.a6Q.length≤4) (hd:f.a6S.length≤40) (A:Bool) (J M v0 N O:PV) (K:cI) (F:PF) (H:PH) (x:oN F f J M v0 N O A)
  (h0:cR H 1 v0 (gX e))
  (W:F 132=some (.sl 3 (f.a6P.map eT.cells))) (X:F 133=some (.int .i64 (f.a6P.length:Nat))) (Y:F 134=some (.int .i64 0))
  (hK:∀ v y H',oN y f J M v N O (A&&f.a6P.all (mE f))→cR H' 1 v (gX (e++f.a6P.map eT.name))→K (.exit 6) y H') :
  aC.wp C (.loop PB) K F H:=by
 refine wp_loop (α:=Nat × PV × PH) (fun t=>(((lW f J M t.2.1 N O (A&&lP f.a6P (mE f) t.1)).set 132 (.sl 3 (f.a6P.map eT.cells))).set 133 (.int .i64 (f.a6P.length:Nat))).set 134 (.int .i64 t.1)) (fun t=>t.2.2)
  (fun t=>t.1≤f.a6P.length∧cR t.2.2 1 t.2.1 (gX (e++(f.a6P.map eT.name).take t.1))) (fun t=>f.a6P.length-t.1) (0,v0,H) ⟨a8K _,by rw[List.take_zero,a9W]; exact h0⟩ ?_ b_ ?_
 ·unfold lW
  (repeat' (first|exact c_|refine d_ ?_ ?_))<;>first|(simp only[go_sem,x.a1,x.a3,x.a4,x.a5,x.a6,x.a7,x.a8,W,X,Y,yG,baI]<;>rfl)|rfl
 rintro⟨k,v,H0⟩ ⟨hk,V⟩;simp only at hk V ⊢;simp only[go_sem,PB,U7,lW];by_cases hlt:k<f.a6P.length
 ·have j:(k:Int)<(f.a6P.length:Nat):=Om;have hr:(f.a6P.map eT.cells)[k]?=some (f.a6P[k]).cells:=by simp[hlt]
  have β:gX (e++(f.a6P.map eT.name).take k)++[[.str (f.a6P[k]).name]]=gX (e++(f.a6P.map eT.name).take (k+1)):=by rw[baF (by simpa using hlt),← a9L,bbF];unfold gX;simp only[a9U,a9T,bbA]
  simp only[go_sem,j,U8,hr];refine aO fun o ho=>?_;simp only[go_sem,U9];refine rJ V ho (xU (by simp; omega)) fun v' H' B u=>?_;rw[β] at B;have w:=yF f.a6P (mE f) hlt;have fin:∀ (c:Bool) (y:PF),c=(A&&lP f.a6P (mE f) (k+1))→((((lW f J M v' N O c).set 132 (.sl 3 (f.a6P.map eT.cells))).set 133 (.int .i64 (f.a6P.length:Nat))).set 134 (.int .i64 (k+1:Nat))).le y →
    gP (fun (t:Nat × PV × PH)=>(((lW f J M t.2.1 N O (A&&lP f.a6P (mE f) t.1)).set 132 (.sl 3 (f.a6P.map eT.cells))).set 133 (.int .i64 (f.a6P.length:Nat))).set 134 (.int .i64 t.1)) (fun (t:Nat × PV × PH)=>t.2.2)  (fun (t:Nat × PV × PH)=>t.1≤f.a6P.length∧cR t.2.2 1 t.2.1 (gX (e++(f.a6P.map eT.name).take t.1))) (fun (t:Nat × PV × PH)=>f.a6P.length-t.1) (f.a6P.length-k) K .normal y H':=by
   intro c y hc E;refine aG (α:=Nat × PV × PH) (k+1,v',H') ⟨hlt,B⟩ (by simp only; omega) ?_ b_;rw[hc] at E;exact E
  unfold lW at fin;rw[w,← bbN] at fin;have l:mE f f.a6P[k]=(within (f.a6P[k]).model 0 ((f.a6Q.length:Int)-1)&&within (f.a6P[k]).machine 0 ((f.a6S.length:Int)-1)&&decide ((f.a6S.map dB.level).getD (f.a6P[k]).machine.toNat 0=4)):=rfl;cases hb:(A&&lP f.a6P (mE f) k) with
  | false =>rw[hb,a8O] at fin;simp only[go_sem,j8,u,AC,wZz k];refine fin false _ rfl ?_;exact Lq
  | true =>
   rw[hb,a8U] at fin;simp only[go_sem,j8,u,a8E,JC (Om:f.a6Q.length≤1000)];refine aB (L.inn _ 0 _) Ev ?_;cases R:within (f.a6P[k]).model 0 ((f.a6Q.length:Int)-1) with
   | false =>simp only[go_sem,AC,wZz k];refine fin false _ (by rw[l,R]; simp only[a8O]) ?_;exact Lq
   | true =>
    simp only[go_sem,u,a8E,JC (Om:f.a6S.length≤1000)];refine aB (L.inn _ 0 _) Ev ?_;cases S:within (f.a6P[k]).machine 0 ((f.a6S.length:Int)-1) with
    | false =>simp only[go_sem,AC,wZz k];refine fin false _ (by rw[l,R,S]; simp only[a8O,a9Q]) ?_;exact Lq
    | true =>
     obtain⟨i1,i2⟩:=within_iff.1 S;have i3:(f.a6P[k]).machine.toNat<f.a6S.length:=Om;have I:(f.a6S.map dB.cells)[(f.a6P[k]).machine.toNat]?=some (f.a6S[(f.a6P[k]).machine.toNat]).cells:=by simp[i3]
     have Z:(f.a6S.map dB.level).getD (f.a6P[k]).machine.toNat 0=(f.a6S[(f.a6P[k]).machine.toNat]).level:=by simp[i3]
     rw[Z] at l;by_cases U:(f.a6S[(f.a6P[k]).machine.toNat]).level=4
     ·simp only[go_sem,u,i1,I,bP U,AC,wZz k];refine fin true _ (by rw[l,R,S,decide_eq_true U]; rfl) ?_;exact Lq
     ·simp only[go_sem,u,i1,I,bD U,AC,wZz k];refine fin false _ (by rw[l,R,S,decide_eq_false U]; rfl) ?_;exact Lq
 ·have j:¬ (k:Int)<(f.a6P.length:Nat):=Om;have:k=f.a6P.length:=Om;subst this;rw[a8V (by simp)] at V;rw[BO];simp only[go_sem,j];exact hK v _ _ ⟨by simp only[go_sem],by simp only[go_sem],by simp only[go_sem],by simp only[go_sem],by simp only[go_sem],by simp only[go_sem],by simp only[go_sem]⟩ V
theorem aBM {C:Ctx} (L:oG C) (f:aE) (W:f.Ok) (hs:f.a6T.length≤4) (Y:f.a6Q.length≤4) (w:Bool) (E I J M:PV) (K:cI) (F:PF) (H:PH) (l:oN F f E I J .aD M w)
  (O:F 174=some (.sl 17 (f.a6T.map dX.cells))) (R:F 175=some (.int .i64 (f.a6T.length:Nat))) (S:F 176=some (.int .i64 0))
  (U:∀ v u H',oN u f E I J v M (w&&f.a6T.all (oU f.a6Q.length))→cR H' 1 v (gX (f.a6T.map dX.name))→K (.exit 8) u H') :
  aC.wp C (.loop PC) K F H:=by
 refine wp_loop (α:=Nat × PV × PH) (fun t=>(((lW f E I J t.2.1 M (w&&lP f.a6T (oU f.a6Q.length) t.1)).set 174 (.sl 17 (f.a6T.map dX.cells))).set 175 (.int .i64 (f.a6T.length:Nat))).set 176 (.int .i64 t.1)) (fun t=>t.2.2)
  (fun t=>t.1≤f.a6T.length∧cR t.2.2 1 t.2.1 (gX ((f.a6T.map dX.name).take t.1))) (fun t=>f.a6T.length-t.1) (0,.aD,.nil) ⟨a8K _,.nil⟩ ?_ a_ ?_
 ·unfold lW
  (repeat' (first|exact c_|refine d_ ?_ ?_))<;>first|(simp only[go_sem,l.a1,l.a3,l.a4,l.a5,l.a6,l.a7,l.a8,O,R,S,yG,baI]<;>rfl)|rfl
 rintro⟨k,v,H0⟩ ⟨X,N⟩;simp only at X N ⊢;simp only[go_sem,PC,Va,lW];by_cases hlt:k<f.a6T.length
 ·have e:(k:Int)<(f.a6T.length:Nat):=Om;have hr:(f.a6T.map dX.cells)[k]?=some (f.a6T[k]).cells:=by simp[hlt]
  have B:=CF (f.a6T.map dX.name) (k:=k) (by simpa using hlt);rw[bbF] at B;simp only[go_sem,e,Vb,hr];refine aO fun o Z=>?_;simp only[go_sem,Vc];refine rJ N Z (xU (by simp; omega)) fun v' H' x A=>?_;rw[B] at x;have j:=yF f.a6T (oU f.a6Q.length) hlt;have fin:∀ (c:Bool) (u:PF),c=(w&&lP f.a6T (oU f.a6Q.length) (k+1))→((((lW f E I J v' M c).set 174 (.sl 17 (f.a6T.map dX.cells))).set 175 (.int .i64 (f.a6T.length:Nat))).set 176 (.int .i64 (k+1:Nat))).le u →
    gP (fun (t:Nat × PV × PH)=>(((lW f E I J t.2.1 M (w&&lP f.a6T (oU f.a6Q.length) t.1)).set 174 (.sl 17 (f.a6T.map dX.cells))).set 175 (.int .i64 (f.a6T.length:Nat))).set 176 (.int .i64 t.1)) (fun (t:Nat × PV × PH)=>t.2.2)  (fun (t:Nat × PV × PH)=>t.1≤f.a6T.length∧cR t.2.2 1 t.2.1 (gX ((f.a6T.map dX.name).take t.1))) (fun (t:Nat × PV × PH)=>f.a6T.length-t.1) (f.a6T.length-k) K .normal u H':=by
   intro c u V y;refine aG (α:=Nat × PV × PH) (k+1,v',H') ⟨hlt,x⟩ (by simp only; omega) ?_ b_;rw[V] at y;exact y
  unfold lW at fin;rw[j,← bbN] at fin;cases hb:(w&&lP f.a6T (oU f.a6Q.length) k) with
  | false =>rw[hb,a8O] at fin;simp only[go_sem,ka,A,kb,wZz k];refine fin false _ rfl ?_;exact Lq
  | true =>rw[hb,a8U] at fin;simp only[go_sem,ka,A,a8E];refine aB (L.pol _ _ (W.a7C _ (a8G hlt)) Y) Ev ?_;simp only[go_sem,kb,wZz k];refine fin _ _ rfl ?_;exact Lq
 ·have e:¬ (k:Int)<(f.a6T.length:Nat):=Om;have:k=f.a6T.length:=Om;subst this;rw[a8V (by simp)] at N;rw[BO];simp only[go_sem,e];exact U v _ _ ⟨by simp only[go_sem],by simp only[go_sem],by simp only[go_sem],by simp only[go_sem],by simp only[go_sem],by simp only[go_sem],by simp only[go_sem]⟩ N
theorem aBN {C:Ctx} (L:oG C) (f:aE) (hs:f.a6R.length≤12) (hl:f.a6T.length≤4) (w:Bool) (E I J M:PV) (K:cI) (F:PF) (H:PH) (l:oN F f E I J M .aD w)
  (O:F 195=some (.sl 2 (f.a6R.map fZ.cells))) (R:F 196=some (.int .i64 (f.a6R.length:Nat))) (S:F 197=some (.int .i64 0))
  (U:∀ v u H',oN u f E I J M v (w&&f.a6R.all (tK f))→cR H' 1 v (gX (f.a6R.map fZ.name))→K (.exit 10) u H') :
  aC.wp C (.loop PD) K F H:=by
 refine wp_loop (α:=Nat × PV × PH) (fun t=>(((lW f E I J M t.2.1 (w&&lP f.a6R (tK f) t.1)).set 195 (.sl 2 (f.a6R.map fZ.cells))).set 196 (.int .i64 (f.a6R.length:Nat))).set 197 (.int .i64 t.1)) (fun t=>t.2.2)
  (fun t=>t.1≤f.a6R.length∧cR t.2.2 1 t.2.1 (gX ((f.a6R.map fZ.name).take t.1))) (fun t=>f.a6R.length-t.1) (0,.aD,.nil) ⟨a8K _,.nil⟩ ?_ a_ ?_
 ·unfold lW
  (repeat' (first|exact c_|refine d_ ?_ ?_))<;>first|(simp only[go_sem,l.a1,l.a3,l.a4,l.a5,l.a6,l.a7,l.a8,O,R,S,yG,baI]<;>rfl)|rfl
 rintro⟨k,v,H0⟩ ⟨W,N⟩;simp only at W N ⊢;simp only[go_sem,PD,Vd,lW];by_cases hlt:k<f.a6R.length
 ·have e:(k:Int)<(f.a6R.length:Nat):=Om;have Z:(f.a6R.map fZ.cells)[k]?=some (f.a6R[k]).cells:=by simp[hlt]
  have B:=CF (f.a6R.map fZ.name) (k:=k) (by simpa using hlt);rw[bbF] at B;simp only[go_sem,e,Ve,Z];refine aO fun o Y=>?_;simp only[go_sem,Vf];refine rJ N Y (xU (by simp; omega)) fun v' H' x A=>?_;rw[B] at x;have j:=yF f.a6R (tK f) hlt;have fin:∀ (c:Bool) (u:PF),c=(w&&lP f.a6R (tK f) (k+1))→((((lW f E I J M v' c).set 195 (.sl 2 (f.a6R.map fZ.cells))).set 196 (.int .i64 (f.a6R.length:Nat))).set 197 (.int .i64 (k+1:Nat))).le u →
    gP (fun (t:Nat × PV × PH)=>(((lW f E I J M t.2.1 (w&&lP f.a6R (tK f) t.1)).set 195 (.sl 2 (f.a6R.map fZ.cells))).set 196 (.int .i64 (f.a6R.length:Nat))).set 197 (.int .i64 t.1)) (fun (t:Nat × PV × PH)=>t.2.2)  (fun (t:Nat × PV × PH)=>t.1≤f.a6R.length∧cR t.2.2 1 t.2.1 (gX ((f.a6R.map fZ.name).take t.1))) (fun (t:Nat × PV × PH)=>f.a6R.length-t.1) (f.a6R.length-k) K .normal u H':=by
   intro c u V y;refine aG (α:=Nat × PV × PH) (k+1,v',H') ⟨hlt,x⟩ (by simp only; omega) ?_ b_;rw[V] at y;exact y
  unfold lW at fin;rw[j,← bbN] at fin;have X:tK f f.a6R[k]=within (f.a6R[k]).a7C 0 ((f.a6T.length:Int)-1):=rfl;cases hb:(w&&lP f.a6R (tK f) k) with
  | false =>rw[hb,a8O] at fin;simp only[go_sem,kd,A,kf,wZz k];refine fin false _ rfl ?_;exact Lq
  | true =>rw[hb,a8U,X] at fin;simp only[go_sem,kd,A,a8E,JC (Om:f.a6T.length≤1000)];refine aB (L.inn _ 0 _) Ev ?_;simp only[go_sem,kf,wZz k];refine fin _ _ rfl ?_;exact Lq
 ·have e:¬ (k:Int)<(f.a6R.length:Nat):=Om;have:k=f.a6R.length:=Om;subst this;rw[a8V (by simp)] at N;rw[BO];simp only[go_sem,e];exact U v _ _ ⟨by simp only[go_sem],by simp only[go_sem],by simp only[go_sem],by simp only[go_sem],by simp only[go_sem],by simp only[go_sem],by simp only[go_sem]⟩ N
theorem rQ {f:aE} (h:¬ (f.a6X.length≤4∧f.a6Q.length≤4∧f.a6S.length≤40∧f.a6P.length≤24∧f.a6T.length≤4∧f.a6R.length≤12)):sV f=false:=by
 rw[← Bool.not_eq_true];intro e;simp only[sV,a9A,decide_eq_true_eq] at e;omega
theorem ajE {f:aE} (h:f.a6X.length≤4∧f.a6Q.length≤4∧f.a6S.length≤40∧f.a6P.length≤24∧f.a6T.length≤4∧f.a6R.length≤12):sV f=within f.a7V 1 4:=by
 obtain⟨e,j,l,u,h5,w⟩:=h;simp[sV,e,j,l,u,h5,w]
theorem rB {t:Nat} {n m:Int} {F:PF} {H:PH} (h:F t=some (.int .i64 n)) (e:n=m):aT [.tmp t] (cP (.int .i64 m)) .ret F H:=by
 subst e;exact bA (.inr rfl) .nil (vs:=[.int .i64 n]) (by rw[nZ,rO,h,tE]) a_ ⟨.refl _,rfl⟩
def CW (f:aE):Int:=if dL f then 0 else 1
theorem yv {f:aE} (h:dL f=false):CW f=1:=by rw[CW,h]; rfl
theorem zP {C:Ctx} {F:PF} {H:PH} {name t s:Nat} {v r:PV} {rows:List (List PV)} {d:Option Nat} {K:PF→PH→Prop} (h:aH C name [.sl s rows] .nil (aI r)) (x:cR H s v rows) (l:F t=some v)
  (j:∀ (e:PF) (w:PH),(∀ i u,F i=some u→Pure u→e i=some u)→K (e.put d r) w):jU C name [.tmp t] [] d K F H:=by
 rcases x with ⟨rfl,rfl⟩ | ⟨q,rs,rfl,h1,h2,h3⟩
 ·refine aB (h.aDK (.inl ⟨rfl,rfl⟩)) (by rw[GF,sd,l,bg]) ?_;exact j F H fun i u hi _=>hi
 ·rw[← h3] at h;refine vM (k:=rows.length) h l h1 h2 (j _ _ fun i u hi y=>?_);rw[rM,hi,a9J,y q s rs]
theorem Seen.pure {s:Nat} {v:PV} {rows:List (List PV)} (h:Seen s v rows):Pure v:=by
 rcases h with ⟨_,rfl⟩ | rfl
 ·exact fun _ _ _=>rfl
 ·exact fun _ _ _=>rfl
def bI (b:Bool):Int:=if b then 0 else 1
abbrev cf (f:aE):List (List UInt8):=(f.a6S.drop 1).map dB.name++f.a6P.map eT.name
def BL (f:aE):Bool:=distinct (f.a6X.map dC.name)&&distinct (f.a6Q.map dN.name)&&distinct (cf f)&&distinct (f.a6T.map dX.name)&&distinct (f.a6R.map fZ.name)
structure Small (f:aE):Prop where
 a6X:f.a6X.length≤4
 a6Q:f.a6Q.length≤4
 a6S:f.a6S.length≤40
 a6P:f.a6P.length≤24
 a6T:f.a6T.length≤4
 a6R:f.a6R.length≤12
theorem IT {C:Ctx} (L:oG C) {v:PV} {l:List (List UInt8)} (h:Seen 1 v (gX l)) (e:l.length≤1000):aH C 110 [v] .nil (aI (.bool (distinct l))) :=
 (L.uniq l (Om:l.length≤9223372036854775807)).aDK h
theorem aNG {C:Ctx} (L:oG C) (f:aE) (J:Small f) (j l u w x:PV) (ok:Bool) (F:PF) (H:PH) (e:oN F f j l u w x ok)
  (A:Seen 1 j (gX (f.a6X.map dC.name))) (B:Seen 1 l (gX (f.a6Q.map dN.name))) (h5:Seen 1 u (gX (cf f))) (E:Seen 1 w (gX (f.a6T.map dX.name))) (h7:cR H 1 x (gX (f.a6R.map fZ.name))) :
  aC.wp C (.seq (.seq (.region GM) (.cond (.tmp 243) (.seq (.region sG) .ret) .skip)) (.seq (.region PE) .ret)) (aT [.tmp 2] (cP (.int .i64 (bI (ok&&BL f))))) F H:=by
 obtain⟨s1,s2,s3,s4,Z,s6⟩:=J;have K:(f.a6X.map dC.name).length≤1000:=by simp; omega
 have M:(f.a6Q.map dN.name).length≤1000:=by simp; omega
 have N:(cf f).length≤1000:=by simp; omega
 have O:(f.a6T.map dX.name).length≤1000:=by simp; omega
 have R:(f.a6R.map fZ.name).length≤9223372036854775807:=by simp; omega
 cases ok with
 | false =>simp only[go_sem,GM,e.a8,sG];exact rB rfl rfl
 | true =>
  simp only[go_sem,GM,e.a8,e.a3];refine aB (IT L A K) rfl ?_;unfold BL;cases U:distinct (f.a6X.map dC.name) with
  | false =>simp only[go_sem,sG,a8X];exact rB rfl rfl
  | true =>
   simp only[go_sem,e.a4,a8Q];refine aB (IT L B M) rfl ?_;cases V:distinct (f.a6Q.map dN.name) with
   | false =>simp only[go_sem,sG,a8X];exact rB rfl rfl
   | true =>
    simp only[go_sem,e.a5,a8Q];refine aB (IT L h5 N) rfl ?_;cases W:distinct (cf f) with
    | false =>simp only[go_sem,sG,a8X];exact rB rfl rfl
    | true =>
     simp only[go_sem,e.a6,a8Q];refine aB (IT L E O) rfl ?_;cases X:distinct (f.a6T.map dX.name) with
     | false =>simp only[go_sem,sG,a8X];exact rB rfl rfl
     | true =>
      simp only[go_sem,e.a7,a8Q];refine zP (L.uniq _ R) h7 rfl fun y S I=>?_;have g:y 239=some (.bool false):=I 239 _ rfl fun _ _ _=>rfl;cases Y:distinct (f.a6R.map fZ.name) with
      | false =>simp only[go_sem,sG,a8X,g];exact rB rfl rfl
      | true =>simp only[go_sem,PE,a8Q,g];exact rB rfl rfl
abbrev Dz (b:Bool):cI:=aT [.tmp 2] (cP (.int .i64 (bI b)))
def Ph:aC:=.seq (.seq (.region kc) (.block 10 (.loop PD))) (.seq (.seq (.region GM) (.cond (.tmp 243) (.seq (.region sG) .ret) .skip)) (.seq (.region PE) .ret))
def Pg:aC:=.seq (.seq (.region j9) (.block 8 (.loop PC))) Ph
def Pf:aC:=.seq (.seq (.region j7) (.block 6 (.loop PB))) Pg
def Pe:aC:=.seq (.seq (.region j6) (.block 4 (.loop PA))) Pf
def Pd:aC:=.seq (.seq (.region jz) (.block 2 (.loop OZ))) Pe
def aEI:aC:=.seq (.seq (.region B8) (.block 0 (.loop OY))) Pd
theorem aUD {C:Ctx} (L:oG C) (f:aE) (y:Small f) (u w x K:PV) (ok:Bool) (F:PF) (H:PH) (l:oN F f u w x K .aD ok)
  (E:Seen 1 u (gX (f.a6X.map dC.name))) (I:Seen 1 w (gX (f.a6Q.map dN.name))) (h5:Seen 1 x (gX (cf f))) (R:cR H 1 K (gX (f.a6T.map dX.name))) :
  aC.wp C Ph (Dz (ok&&f.a6R.all (tK f)&&BL f)) F H:=by
 unfold Ph;simp only[go_sem,kc,l.a1,a8E];refine vN R fun J B N O U j=>?_;refine aBN L f y.a6R y.a6T ok u w x J _ N O ⟨j 1 _ (by simp only[go_sem,l.a1]) fun _ _ _=>rfl,j 3 _ (by simp only[go_sem,l.a3]) E.pure,j 4 _ (by simp only[go_sem,l.a4]) I.pure,j 5 _ (by simp only[go_sem,l.a5]) h5.pure,U 6 (by simp only[go_sem,l.a6]),j 7 _ (by simp only[go_sem,l.a7]) fun _ _ _=>rfl,j 8 _ (by simp only[go_sem,l.a8]) fun _ _ _=>rfl⟩
  (j 195 _ rfl fun _ _ _=>rfl) (j 196 _ rfl fun _ _ _=>rfl) (j 197 _ rfl fun _ _ _=>rfl) fun v M H' A S=>?_
 have e:=aNG L f y u w x J v _ M H' A E I h5 B S;simp only[aC.wp,go_sem] at e;simp only[go_sem];exact e
theorem aUC {C:Ctx} (L:oG C) (f:aE) (O:f.Ok) (w:Small f) (l u I:PV) (ok:Bool) (F:PF) (H:PH) (j:oN F f l u I .aD .aD ok)
  (A:Seen 1 l (gX (f.a6X.map dC.name))) (B:Seen 1 u (gX (f.a6Q.map dN.name))) (h5:cR H 1 I (gX (cf f))) :
  aC.wp C Pg (Dz (ok&&f.a6T.all (oU f.a6Q.length)&&f.a6R.all (tK f)&&BL f)) F H:=by
 unfold Pg;simp only[go_sem,j9,j.a1,a8E];refine vN h5 fun E y K M R e=>?_;refine aBM L f O w.a6T w.a6Q ok l u E .aD _ K M ⟨e 1 _ (by simp only[go_sem,j.a1]) fun _ _ _=>rfl,e 3 _ (by simp only[go_sem,j.a3]) A.pure,e 4 _ (by simp only[go_sem,j.a4]) B.pure,R 5 (by simp only[go_sem,j.a5]),e 6 _ (by simp only[go_sem,j.a6]) fun _ _ _=>rfl,e 7 _ (by simp only[go_sem,j.a7]) fun _ _ _=>rfl,e 8 _ (by simp only[go_sem,j.a8]) fun _ _ _=>rfl⟩
  (e 174 _ rfl fun _ _ _=>rfl) (e 175 _ rfl fun _ _ _=>rfl) (e 176 _ rfl fun _ _ _=>rfl) fun v J H' x N=>?_
 simp only[go_sem];exact aUD L f w l u E v _ J H' x A B y N
theorem aUB {C:Ctx} (L:oG C) (f:aE) (I:f.Ok) (j:Small f) (l u x:PV) (ok:Bool) (F:PF) (H:PH) (e:oN F f l u x .aD .aD ok)
  (A:Seen 1 l (gX (f.a6X.map dC.name))) (B:Seen 1 u (gX (f.a6Q.map dN.name))) (h5:cR H 1 x (gX ((f.a6S.drop 1).map dB.name))) :
  aC.wp C Pf (Dz (ok&&f.a6P.all (mE f)&&f.a6T.all (oU f.a6Q.length)&&f.a6R.all (tK f)&&BL f)) F H:=by
 unfold Pf;simp only[go_sem,j7,e.a1,a8E];refine aBL L f ((f.a6S.drop 1).map dB.name) (by have:=j.a6S; simp; omega) j.a6P j.a6Q j.a6S ok l u x .aD .aD _ _ H ⟨by simp only[go_sem,e.a1],by simp only[go_sem,e.a3],by simp only[go_sem,e.a4],by simp only[go_sem,e.a5],by simp only[go_sem,e.a6],by simp only[go_sem,e.a7],by simp only[go_sem,e.a8]⟩ h5
  rfl rfl rfl fun v y H' w E=>?_
 simp only[go_sem];exact aUC L f I j l u v _ y H' w A B E
theorem aUA {C:Ctx} (L:oG C) (f:aE) (R:f.Ok) (B:Small f) (V:0<f.a6S.length) (u I:PV) (ok:Bool) (F:PF) (H:PH) (j:oN F f u I .aD .aD .aD ok)
  (A:Seen 1 u (gX (f.a6X.map dC.name))) (N:cR H 1 I (gX (f.a6Q.map dN.name))) :
  aC.wp C Pe (Dz (ok&&f.a6P.all (mE f)&&f.a6T.all (oU f.a6Q.length)&&f.a6R.all (tK f)&&BL f)) F H:=by
 unfold Pe;have w:(1:Int)≤(f.a6S.length:Nat):=Om;have S:=B.a6S;have l:((f.a6S.map dB.cells).take f.a6S.length).drop 1=(f.a6S.drop 1).map dB.cells:=by rw[a8V (by simp),List.map_drop]
 simp only[go_sem,j6,j.a1,a8E,w,bbI,l];refine vN N fun E y K M U e=>?_;refine aBK L f (f.a6S.drop 1) (by simp; omega) ok u E .aD .aD _ K M ⟨e 1 _ (by simp only[go_sem,j.a1]) fun _ _ _=>rfl,e 3 _ (by simp only[go_sem,j.a3]) A.pure,U 4 (by simp only[go_sem,j.a4]),e 5 _ (by simp only[go_sem,j.a5]) fun _ _ _=>rfl,e 6 _ (by simp only[go_sem,j.a6]) fun _ _ _=>rfl,e 7 _ (by simp only[go_sem,j.a7]) fun _ _ _=>rfl,e 8 _ (by simp only[go_sem,j.a8]) fun _ _ _=>rfl⟩
  (e 119 _ rfl fun _ _ _=>rfl) (e 120 _ rfl fun _ _ _=>rfl) (e 121 _ rfl fun _ _ _=>rfl) fun v J H' x O=>?_
 simp only[go_sem];exact aUB L f R B u E v _ J H' x A y O
theorem aTZ {C:Ctx} (L:oG C) (f:aE) (M:f.Ok) (l:Small f) (K:0<f.a6S.length) (y:PV) (ok:Bool) (F:PF) (H:PH) (j:oN F f y .aD .aD .aD .aD ok)
  (I:cR H 1 y (gX (f.a6X.map dC.name))) :
  aC.wp C Pd (Dz (ok&&f.a6Q.all (oI f)&&f.a6P.all (mE f)&&f.a6T.all (oU f.a6Q.length)&&f.a6R.all (tK f)&&BL f)) F H:=by
 unfold Pd;simp only[go_sem,jz,j.a1,a8E];refine vN I fun x w B E N e=>?_;refine aBJ L f l.a6Q l.a6X ok x .aD .aD .aD _ B E ⟨e 1 _ (by simp only[go_sem,j.a1]) fun _ _ _=>rfl,N 3 (by simp only[go_sem,j.a3]),e 4 _ (by simp only[go_sem,j.a4]) fun _ _ _=>rfl,e 5 _ (by simp only[go_sem,j.a5]) fun _ _ _=>rfl,e 6 _ (by simp only[go_sem,j.a6]) fun _ _ _=>rfl,e 7 _ (by simp only[go_sem,j.a7]) fun _ _ _=>rfl,e 8 _ (by simp only[go_sem,j.a8]) fun _ _ _=>rfl⟩
  (e 85 _ rfl fun _ _ _=>rfl) (e 86 _ rfl fun _ _ _=>rfl) (e 87 _ rfl fun _ _ _=>rfl) fun v A H' u J=>?_
 simp only[go_sem];exact aUA L f M l K x v _ A H' u w J
theorem aTY {C:Ctx} (L:oG C) (f:aE) (l:f.Ok) (u:Small f) (y:0<f.a6S.length) (F:PF) (H:PH) (e:oN F f .aD .aD .aD .aD .aD true) :
  aC.wp C aEI (Dz (f.a6X.all qB&&f.a6Q.all (oI f)&&f.a6P.all (mE f)&&f.a6T.all (oU f.a6Q.length)&&f.a6R.all (tK f)&&BL f)) F H:=by
 unfold aEI;simp only[go_sem,B8,e.a1,a8E];refine aBI L f l u.a6X .aD .aD .aD .aD _ _ H ⟨by simp only[go_sem,e.a1],by simp only[go_sem,e.a3],by simp only[go_sem,e.a4],by simp only[go_sem,e.a5],by simp only[go_sem,e.a6],by simp only[go_sem,e.a7],by simp only[go_sem,e.a8]⟩ rfl rfl rfl fun v w H' j x=>?_;simp only[go_sem];exact aTZ L f l u y v _ w H' j x
theorem aTX {C:Ctx} (L:oG C) (f:aE) (J:f.Ok):WJ.wp C (aT aNF.res (cP (.int .i64 (CW f)))) (PF.args [.agg f.cells]) .nil:=by
 have he:dL f=(sV f&&wH f&&(f.a6X.all qB&&f.a6Q.all (oI f)&&f.a6P.all (mE f)&&f.a6T.all (oU f.a6Q.length)&&f.a6R.all (tK f))&&BL f):=rfl;simp only[go_sem,WJ,aoF,aoG,aNF];refine aB (L.inn f.a7V 1 4) rfl ?_;have j:∀ (F:PF) (H:PH),dL f=false→F 2=some (.int .i64 1)→aT [.tmp 2] (cP (.int .i64 (CW f))) .ret F H:=fun F H N O=>rB O (yv N).symm;cases I:within f.a7V 1 4 with
 | false =>
  have:sV f=false:=by simp[sV,I]
  simp only[go_sem,a8X,uT];exact j _ _ (by rw[he,this]; simp only[a8O]) rfl
 | true =>
  by_cases s1:f.a6X.length≤4
  ·have l:¬ (f.a6X.length:Int)>4:=Om;by_cases s2:f.a6Q.length≤4
   ·have u:¬ (f.a6Q.length:Int)>4:=Om;by_cases s3:f.a6S.length≤40
    ·have w:¬ (f.a6S.length:Int)>40:=Om;by_cases s4:f.a6P.length≤24
     ·have x:¬ (f.a6P.length:Int)>24:=Om;by_cases K:f.a6T.length≤4
      ·have y:¬ (f.a6T.length:Int)>4:=Om;by_cases M:f.a6R.length≤12
       ·have A:¬ (f.a6R.length:Int)>12:=Om;have B:=ajE ⟨s1,s2,s3,s4,K,M⟩;rw[I] at B;simp only[go_sem,a8Q,a8E,l,u,w,x,y,A];refine aB (L.a6Z f J) rfl ?_;cases E:wH f with
        | false =>simp only[go_sem,a8X,uT];exact j _ _ (by rw[he,E]; simp only[a9Q,a8O]) rfl
        | true =>
         have R:0<f.a6S.length:=by
          rcases baN f.a6S.length with h | h
          ·have:f.a6S=[]:=List.eq_nil_of_length_eq_zero h;rw[wH,this] at E;cases E
          ·exact h
         have U:CW f=bI (f.a6X.all qB&&f.a6Q.all (oI f)&&f.a6P.all (mE f)&&f.a6T.all (oU f.a6Q.length)&&f.a6R.all (tK f)&&BL f):=by rw[CW,he,B,E]; rfl
         rw[U];simp only[go_sem,a8Q,aoH,aoI];have e:=fun F H S=>aTY L f J ⟨s1,s2,s3,s4,K,M⟩ R F H S;simp only[aEI,Pd,Pe,Pf,Pg,Ph,aC.wp,go_sem] at e;exact e _ _ ⟨by simp only[go_sem],by simp only[go_sem],by simp only[go_sem],by simp only[go_sem],by simp only[go_sem],by simp only[go_sem],by simp only[go_sem]⟩
       ·have A:(f.a6R.length:Int)>12:=Om;simp only[go_sem,a8Q,a8E,l,u,w,x,y,A,uT];exact j _ _ (by rw[he,rQ Om]; simp only[a8O]) rfl
      ·have y:(f.a6T.length:Int)>4:=Om;simp only[go_sem,a8Q,a8E,l,u,w,x,y,uT];exact j _ _ (by rw[he,rQ Om]; simp only[a8O]) rfl
     ·have x:(f.a6P.length:Int)>24:=Om;simp only[go_sem,a8Q,a8E,l,u,w,x,uT];exact j _ _ (by rw[he,rQ Om]; simp only[a8O]) rfl
    ·have w:(f.a6S.length:Int)>40:=Om;simp only[go_sem,a8Q,a8E,l,u,w,uT];exact j _ _ (by rw[he,rQ Om]; simp only[a8O]) rfl
   ·have u:(f.a6Q.length:Int)>4:=Om;simp only[go_sem,a8Q,a8E,l,u,uT];exact j _ _ (by rw[he,rQ Om]; simp only[a8O]) rfl
  ·have l:(f.a6X.length:Int)>4:=Om;simp only[go_sem,a8Q,a8E,l,uT];exact j _ _ (by rw[he,rQ Om]; simp only[a8O]) rfl
def lvl (f:aE) (i:Nat):Int:=(f.a6S.map dB.level).getD i 0
def par (f:aE) (i:Nat):Int:=(f.a6S.map dB.parent).getD i 0
def jO (f:aE) (i:Nat):Nat:=(par f i).toNat
def fF (f:aE) (d:Nat):Nat:=((f.a6P.map eT.machine).getD d 0).toNat
def mdl (f:aE) (d:Nat):Nat:=((f.a6P.map eT.model).getD d 0).toNat
def ext (f:aE) (d:Nat):Int:=(f.a6Q.map dN.a7G).getD (mdl f d) 0
def CU (f:aE) (v:Nat):Nat:=((f.a6R.map fZ.a7C).getD v 0).toNat
def a1J:dX:=⟨[],0,0,0,0,0,0,0,0,[],[],⟨false,[],[]⟩,⟨false,[],[]⟩⟩
def cO (f:aE) (v:Nat):dX:=f.a6T.getD (CU f v) a1J
def upN (f:aE):Nat→Nat→Nat
 | 0,i=>i
 | k+1,i=>jO f (upN f k i)
theorem getD_at {α β:Type} {l:List α} {g:α→β} {i:Nat} {b:β} (h:i<l.length):(l.map g).getD i b=g l[i]:=by
 simp[a8M,h]
structure VF (f:aE):Prop where
 small:Small f
 root:0<f.a6S.length∧lvl f 0=0∧par f 0=-1
 dom:∀ i,0<i→i<f.a6S.length→0≤par f i∧jO f i<i∧lvl f (jO f i)=lvl f i-1∧1≤lvl f i∧lvl f i≤4
 drive:∀ d (h:d<f.a6P.length),0≤(f.a6P[d]).model∧mdl f d<f.a6Q.length∧0≤(f.a6P[d]).machine∧fF f d<f.a6S.length∧lvl f (fF f d)=4
 a7C:∀ p∈f.a6T,1≤p.k∧p.k≤6∧0≤p.m∧p.m≤4∧p.k+p.m≤8∧p.s0=0∧(∀ l,0≤p.spread l∧p.spread l≤8)∧∀ m∈p.a6Q,0≤m∧m<f.a6Q.length
 volume:∀ v (h:v<f.a6R.length),0≤(f.a6R[v]).a7C∧CU f v<f.a6T.length
 model:∀ m∈f.a6Q,1≤m.a7G∧m.a7G≤16
theorem aVO {p:dX} {n:Nat} (h:oU n p=true):∀ m∈p.a6Q,0≤m∧m<n:=by
 intro m j;simp only[oU,a9A] at h;obtain⟨i,hi,rfl⟩:=bbJ j;have:=a9I.1 h.2 i (a9B.2 hi);rw[a9A] at this;have e:=within_iff.1 this.1;simp only[a8M,a8L hi,baW] at e;omega
theorem aEY {x:Int} (e:1≤x) (j:x≤4):IntKind.i64.wrap (x-1)=x-1:=wrap_i64 Om Om
theorem VF.of {f:aE} (h:dL f=true):VF f:=by
 simp only[dL,a9A] at h;obtain⟨⟨⟨U,j⟩,⟨⟨⟨R,A⟩,y⟩,B⟩,E⟩,-⟩:=h;simp only[sV,a9A,decide_eq_true_eq] at U;obtain⟨⟨⟨⟨⟨⟨s0,s1⟩,s2⟩,s3⟩,s4⟩,s5⟩,s6⟩:=U;cases e:f.a6S with
 | nil=>rw[wH,e] at j; cases j
 | cons r t =>
  rw[wH,e] at j;simp only[bd,a9A,decide_eq_true_eq] at j;obtain⟨⟨⟨⟨⟨⟨r1,r2⟩,r3⟩,r4⟩,r5⟩,r6⟩,x⟩:=j;have S:f.a6S.length=t.length+1:=by rw[e]; rfl
  refine⟨⟨s1,s2,s3,s4,s5,s6⟩,⟨by omega,by rw[lvl,e]; exact r2,by rw[par,e]; exact r3⟩,?_,?_,?_,?_,?_⟩
  ·intro i h0 hi;obtain⟨k,rfl⟩:∃ k,i=k+1:=⟨i-1,by omega⟩;have I:k<t.length:=Om;have:=a9I.1 x k (a9B.2 I);rw[a8L I] at this;simp only[i5,a9A,decide_eq_true_eq] at this;obtain⟨⟨⟨⟨J,F⟩,K⟩,d4⟩,d5⟩:=this;obtain⟨p0,p1⟩:=within_iff.1 J;obtain⟨W,X⟩:=within_iff.1 K;have u:par f (k+1)=(t[k]).parent:=by rw[par,e]; simp[a8M,I]
   have w:lvl f (k+1)=(t[k]).level:=by rw[lvl,e]; simp[a8M,I]
   rw[aEY W X] at F;have Y:lvl f (t[k]).parent.toNat=(t[k]).level-1:=F;refine⟨by rw[u]; exact p0,?_,?_,by rw[w]; exact W,by rw[w]; exact X⟩
   ·rw[jO,u]; omega
   ·rw[jO,u,w]; exact Y
  ·intro d j;have:=a9I.1 y _ (a8G j);simp only[mE,a9A,decide_eq_true_eq] at this;obtain⟨⟨J,F⟩,K⟩:=this;have a1:=within_iff.1 J;have a2:=within_iff.1 F;have u:mdl f d=(f.a6P[d]).model.toNat:=by rw[mdl,getD_at j]
   have w:fF f d=(f.a6P[d]).machine.toNat:=by rw[fF,getD_at j]
   refine⟨a1.1,by rw[u]; omega,a2.1,by rw[w]; omega,by rw[w]; exact K⟩
  ·intro p hp;have M:=a9I.1 B p hp;have Z:=aVO M;simp only[oU,XV,a9A,decide_eq_true_eq,List.all_cons,List.all_nil,baI] at M;obtain⟨⟨⟨⟨⟨⟨⟨⟨k1,m1⟩,km⟩,q1⟩,z0⟩,sp⟩,-⟩,-⟩,-⟩:=M;obtain⟨g0,g1,g2,g3,g4⟩:=sp;have N:=within_iff.1 k1;have O:=within_iff.1 m1;have b3:=within_iff.1 g0;have b4:=within_iff.1 g1;have b5:=within_iff.1 g2;have b6:=within_iff.1 g3;have b7:=within_iff.1 g4;refine⟨N.1,N.2,O.1,O.2,km,z0,fun l=>?_,Z⟩;unfold dX.spread;split<;>omega
  ·intro v V;have:=a9I.1 E _ (a8G V);have a1:=within_iff.1 this;have u:CU f v=(f.a6R[v]).a7C.toNat:=by rw[CU,getD_at V]
   exact⟨a1.1,by rw[u]; omega⟩
  ·intro m hm;have:=a9I.1 A m hm;simp only[oI,a9A] at this;exact within_iff.1 this.1.1
theorem ZI {f:aE} (h:VF f) {d:Nat} (j:d<f.a6P.length):∀ {k:Nat},k≤4→upN f k (fF f d)<f.a6S.length∧lvl f (upN f k (fF f d))=4-(k:Int)
 | 0,_=>⟨(h.drive d j).2.2.2.1,by rw[upN,(h.drive d j).2.2.2.2]; rfl⟩
 | k+1,y=>by
  obtain⟨w,u⟩:=ZI h j (k:=k) Om;have l:0<upN f k (fF f d):=by
   rcases baN (upN f k (fF f d)) with e | e
   ·rw[e,h.root.2.1] at u; omega
   ·exact e
  obtain⟨g1,g2,g3,g4,x⟩:=h.dom _ l w;refine⟨by rw[upN]; omega,?_⟩;rw[upN,g3,u]; omega
def mB (f:aE) (d:Nat) (level:Int):Nat:=upN f (4-level.toNat) (fF f d)
def pV (f:aE) (v:Nat):Int:=(cO f v).k+(cO f v).m
def Lw:List Nat:=[1]
def gg:=bM Lw Proofs.Tryz.f54
def Lt:=aA gg 0
def Lu:=aA gg 1
def KY:aC:=(sq Lt (sq Lu .ret))
def adV:aW:=⟨1,6,KY,[.tmp 2]⟩
def adH:List Nat:=[2]
def SM:=bM adH Proofs.Tryz.f115
def adE:=aA SM 0
def adF:=bT SM 0
def adG:=aA SM 1
def SL:aC:=(sq adE (dq adF (sq adG .ret)))
def aDU:aW:=⟨2,21,SL,[.tmp 4]⟩
def adU:List Nat:=[2]
def lC:=bM adU Proofs.Tryz.f25
def adK:=aA lC 0
def adL:=aA lC 1
def adM:=aA lC 2
def adN:=aA lC 3
def adO:=aA lC 4
def adP:=aA lC 5
def adQ:=aA lC 6
def adR:=bT lC 0
def adS:=aA lC 7
def adT:=bT lC 1
def YY:=aA lC 8
def Lr:aC:=(sq adP (.seq (.cond (Tm 17) .skip (.exit 0)) (.seq (.block 1 (sq adQ (dq adR (sq adS (.cond (Tm 37) (.draw adT) .skip))))) (.region YY))))
def Ls:=aA lC 9
def SN:aC:=(sq adK (.seq (sq adL (.cond (Tm 9) (sq adM .ret) .skip)) (sq adN (.seq (sq adO (.block 0 (.loop Lr))) (sq Ls .ret)))))
def aDV:aW:=⟨2,53,SN,[.tmp 4]⟩
theorem aKB {C:Ctx} (h:∀ f:aE,f.Ok→aH C 96 [.agg f.cells] .nil (aI (.int .i64 (CW f)))) (f:aE) (e:f.Ok) :
  KY.wp C (aT adV.res (cP (.bool (dL f)))) (PF.args [.agg f.cells]) .nil:=by
 simp only[go_sem,KY,Lt,Lu,adV];refine aB (h f e) Ev ?_;simp only[go_sem];refine bG Ev ?_;unfold CW;cases dL f<;>rfl
theorem qJ {f:aE} {d:Nat} (h:d<f.a6P.length):(f.a6P.map eT.cells)[d]?=some (f.a6P[d]).cells:=by simp[h]
theorem oQ {f:aE} {d:Nat} (h:d<f.a6S.length):(f.a6S.map dB.cells)[d]?=some (f.a6S[d]).cells:=by simp[h]
theorem zM {f:aE} {d:Nat} (h:d<f.a6R.length):(f.a6R.map fZ.cells)[d]?=some (f.a6R[d]).cells:=by simp[h]
theorem tC {f:aE} {d:Nat} (h:d<f.a6T.length):(f.a6T.map dX.cells)[d]?=some (f.a6T[d]).cells:=by simp[h]
theorem Hc {f:aE} {d:Nat} (h:d<f.a6Q.length):(f.a6Q.map dN.cells)[d]?=some (f.a6Q[d]).cells:=by simp[h]
theorem V6 {f:aE} {d:Nat} (h:d<f.a6S.length):(f.a6S[d]).level=lvl f d:=by rw[lvl,getD_at h]
theorem Zp {f:aE} {d:Nat} (h:d<f.a6S.length):(f.a6S[d]).parent=par f d:=by rw[par,getD_at h]
theorem VF.b8 {f:aE} (h:VF f) {d:Nat} (e:d<f.a6P.length):(f.a6P[d]).machine=((fF f d:Nat):Int):=by
 have:=(h.drive d e).2.2.1;rw[fF,getD_at e]; omega
theorem VF.WR {f:aE} (h:VF f) {d:Nat} (e:d<f.a6P.length):(f.a6P[d]).model=((mdl f d:Nat):Int):=by
 have:=(h.drive d e).1;rw[mdl,getD_at e]; omega
theorem VF.YE {f:aE} (h:VF f) {v:Nat} (e:v<f.a6R.length):(f.a6R[v]).a7C=((CU f v:Nat):Int):=by
 have:=(h.volume v e).1;rw[CU,getD_at e]; omega
theorem VF.Dc {f:aE} (h:VF f) {i:Nat} (e:0<i) (hi:i<f.a6S.length):par f i=((jO f i:Nat):Int):=by
 have:=(h.dom i e hi).1;rw[jO]; omega
theorem qZ {f:aE} (h:VF f) {v:Nat} (j:v<f.a6R.length):∃ e:CU f v<f.a6T.length,f.a6T[CU f v]=cO f v:=by
 have e:=(h.volume v j).2;exact⟨e,by simp[cO,a8M,e]⟩
theorem aQD {C:Ctx} (f:aE) (j:VF f) (v:Nat) (h:v<f.a6R.length) :
  SL.wp C (aT aDU.res (cP (.int .i64 (pV f v)))) (PF.args [.agg f.cells,.int .i64 v]) .nil:=by
 obtain⟨l,he⟩:=qZ j h;have e:=j.a7C _ (a8G l);rw[he] at e;have u:IntKind.i64.wrap ((cO f v).k+(cO f v).m)=(cO f v).k+(cO f v).m:=wrap_i64 Om Om;simp only[go_sem,SL,adE,aDU];refine aV .nil cA a_ ?_;simp only[go_sem,adF,zM h,j.YE h,tC l,he];refine aO fun o w=>?_;simp only[go_sem,adG,u];refine⟨a_,?_⟩;exact rB (n:=(cO f v).k+(cO f v).m) Ev rfl
structure aRV (C:Ctx):Prop where
 valid:∀ f:aE,f.Ok→aH C 161 [.agg f.cells] .nil (aI (.bool (dL f)))
 R6:∀ (f:aE) (v:Nat),VF f→v<f.a6R.length→aH C 156 [.agg f.cells,.int .i64 v] .nil (aI (.int .i64 (pV f v)))
def pick (n:Nat) (p:Nat→Bool):List Int:=((a8D n).filter p).map fun (i:Nat)=>(i:Int)
theorem aBS (l:List Int) (x:Int):bU l++[[.int .i64 x]]=bU (l++[x]):=by unfold bU; rw[a9U]; rfl
theorem iV (l:List Int):(bU l).length=l.length:=by unfold bU; rw[a8E]
theorem Dl {t:Nat} {H:PH} {v:PV} {l:List Int} {F:PF} (h:cR H 1 v (bU l)) (e:F t=some v):aT [.tmp t] (cP (ints l)) .ret F H:=RU (.inr rfl) h e
theorem abT {t:Nat} {H:PH} {F:PF} (e:F t=some .aD):aT [.tmp t] (cP (ints [])) .ret F H:=RU (rows:=[]) (.inr rfl) .nil e
section
variable (o s:Nat) (rs:List (List PV))
@[go_sem] theorem a3X (k:IntKind) (n:Int):PV.frz o s rs (.int k n)=.int k n:=(rfl)
@[go_sem] theorem a2G (b:Bool):PV.frz o s rs (.bool b)=.bool b:=(rfl)
@[go_sem] theorem a4B (l:List UInt8):PV.frz o s rs (.str l)=.str l:=(rfl)
@[go_sem] theorem a2H:PV.frz o s rs .aD=.aD:=(rfl)
@[go_sem] theorem a4Z (n:Nat) (r:List (List PV)):PV.frz o s rs (.sl n r)=.sl n r:=(rfl)
@[go_sem] theorem a2I (c:List PV):PV.frz o s rs (.bO c)=.bO c:=(rfl)
@[go_sem] theorem a4A (q z i c:Nat):PV.frz o s rs (.ptr q z i c)=.ptr q z i c:=(rfl)
@[go_sem] theorem a4Y (n:Nat) (c:List PV):PV.frz o s rs (.fn n c)=.fn n c:=(rfl)
@[go_sem] theorem a3Y (q:Nat):PV.frz o s rs (.map q)=.map q:=(rfl)
@[go_sem] theorem a3Z (q z e len:Nat):PV.frz o s rs (.osl q z e len)=if q=o then (if z=s∧e+len≤rs.length then .sl s ((rs.drop e).take len) else .junk) else .osl q z e len:=(rfl)
end
def rF (s:Nat) (rows:List (List PV)) (r:PV) (H:PH):Prop :=
 (rows=[]∧r=.aD∧H=PH.nil)∨∃ q rs,r=.osl q s 0 rows.length∧H=PH.nil.set q (.rows s rs)∧rows.length≤rs.length∧rs.take rows.length=rows
theorem Bx (q s:Nat) (rs:List (List PV)):(PH.nil.set q (.rows s rs)).frz q s rs=PH.nil:=PH.ext fun o=>by
 rw[FG];by_cases e:o=q
 ·rw[if_pos e]; rfl
 ·rw[if_neg e,aS,if_neg e]; rfl
section
variable {C:Ctx} {K:cI} {F:PF} {H:PH} {s:Nat} {v:PV} {rows:List (List PV)}
theorem rF.over {r:PV} {H':PH} (h:rF s rows r H') (u:oL H .nil H'):cR (H.over .nil H') s r rows∧∀ o x,H o=some x→(H.over .nil H') o=some x:=by
 rcases h with ⟨e,l,rfl⟩ | ⟨q,rs,e,rfl,h3,h4⟩
 ·rw[PH.kG]; exact⟨.inl ⟨e,l⟩,fun o x h=>h⟩
 ·rw[PH.uD];have hq:H q=none:=u q (.rows s rs) (by simp only[aS,if_true]) rfl;refine⟨.inr ⟨q,rs,e,by simp only[aS,if_true],h3,h4⟩,fun o x j=>?_⟩;have:o≠q:=by rintro rfl; rw[hq] at j; cases j
  simp only[aS,if_neg this,j]
theorem RT {t:Nat} {e:mY} (he:e=.normal∨e=.ret) (h:cR H s v rows) (j:F t=some v):aT [.tmp t] (rF s rows) e F H:=by
 rcases h with ⟨rfl,rfl⟩ | ⟨q,rs,rfl,h1,h2,h3⟩
 ·exact bA (vs:=[.aD]) he .nil (by rw[nZ,rO,j,tE]) a_ (.inl ⟨rfl,rfl,rfl⟩)
 ·exact bA (vs:=[.osl q s 0 rows.length]) he (PH.nil.set q (.rows s rs)) (by rw[nZ,rO,j,tE]) (e_ a_ h1) (.inr ⟨q,rs,rfl,rfl,h2,h3⟩)
theorem NJ {t:Nat} {e:mY} (he:e=.normal∨e=.ret) (j:F t=some .aD):aT [.tmp t] (rF s []) e F H:=RT he .nil j
theorem aJK {t:Nat} {e:mY} {r:PV} {H':PH} (he:e=.normal∨e=.ret) (h:rF s rows r H') (l:F t=some r):aT [.tmp t] (rF s rows) e F (H.over .nil H'):=by
 refine bA (vs:=[r]) he H' (by rw[nZ,rO,l,tE]) (fun o x j=>?_) h;rw[tB,j]
theorem aH.freeze {name:Nat} {args:List PV} (h:aH C name args H (rF s rows)):aH C name args H (aI (.sl s rows)) :=
 ⟨h.1,fun E w vs J hW x=>(h.2 E w vs J hW x).mono fun e R he=>by
  obtain⟨u,pv,B,H',rfl,j,A,y,M⟩:=he;rcases M with ⟨rfl,rfl,rfl⟩ | ⟨q,rs,rfl,rfl,h3,h4⟩
  ·exact⟨u,_,B,_,rfl,j,(Co.nil s).sound A,y,rfl,rfl⟩
  ·have N:kP (PF.nil.set 0 (.osl q s 0 rows.length)) (PH.nil.set q (.rows s rs)) _ _:=.step q (s:=s) (rs:=rs) (by simp only[aS,if_true]) (.refl _ _);obtain⟨I,k1,k2,O⟩:=N.sound j;have l:=O (fun _=>u) (fun i p hi=>by
    rw[oJ] at hi;split at hi
    ·cases hi; exact A
    ·cases hi) 0 (.sl s rows) (by rw[rM,oJ,if_pos rfl,a9J,xM h3,h4])
   rw[Bx] at k1 k2;exact⟨u,_,I,_,rfl,k1,l,y.trans k2,rfl,rfl⟩⟩
theorem fT.of:∀ {E:Env} (ps:List PV) (vs:List Value),vs.length=ps.length→(∀ (i:Nat) p v,ps[i]?=some p→vs[i]?=some v→bB E p v)→fT E ps vs
 | _,[],[],_,_=>.nil
 | _,[],_::_,h,_=>by simp at h
 | _,_::_,[],h,_=>by simp at h
 | _,p::ps,v::vs,h,k=>.cons (k 0 p v rfl rfl) (fT.of ps vs (by simpa using h) fun i q u a b=>k (i+1) q u (by simpa using a) (by simpa using b))
theorem cD.same {E:Env} {w y:World} (hW:cD E H w) (J:w.heap.size≤y.heap.size) (hb:∀ b,b<w.heap.size→H b=none→y.heap[b]?=w.heap[b]?) (I:∀ o x,H o=some x→y.heap[o]?=w.heap[o]?):cD E H y:=by
 have l:∀ b,b<w.heap.size→y.heap[b]?=w.heap[b]?:=fun b hlt=>by
  cases e:H b with
  | none=>exact hb b hlt e
  | some x=>exact I b x e
 refine⟨fun b cs h=>?_,fun o x h=>?_,fun o n h=>?_⟩
 ·obtain⟨j,ty,B,u⟩:=hW.g b cs h;exact⟨j,ty,B,(l b (bcF.1 u).1).trans u⟩
 ·obtain⟨j,u⟩:=hW.h o x h;exact⟨bcE j J,u.mono (.refl E) (l o j)⟩
 ·obtain⟨A,ty,B,j,u⟩:=hW.s o n h;exact⟨A,ty,B,(l o (bcF.1 j).1).trans j,u⟩
inductive Plain:PV→Prop
 | int (k:IntKind) (n:Int):Plain (.int k n)
 | bool (b:Bool):Plain (.bool b)
 | str (l:List UInt8):Plain (.str l)
theorem Plain.rep {v:PV} (h:Plain v) {E e:Env} {u:Value} (r:bB E v u):bB e v u:=by
 cases h<;>cases r
 ·exact .int _ _
 ·exact .bool _
 ·exact .str _
theorem aH.aYI {name o:Nat} {rs:List (List PV)} {args:List PV} (X:Plain v) (h:aH C name (args.map (PV.frz o s rs)) .nil (aI v)) :
  aH C name args (PH.nil.set o (.rows s rs)) (fun r H'=>r=v∧H'=PH.nil.set o (.rows s rs)):=by
 refine⟨h.1,fun E w vs O hW I=>?_⟩;have Y:kP (PF.args args) (PH.nil.set o (.rows s rs)) _ _:=.step o (s:=s) (rs:=rs) (by simp only[aS,if_true]) (.refl _ _);obtain⟨M,k1,k2,Z⟩:=Y.sound hW;rw[Bx] at k1 k2;have B:=I.len;have J:fT M (args.map (PV.frz o s rs)) vs.toList:=by
  refine fT.of _ _ (by rw[a8E]; exact B) fun i p u U W=>?_;have:=Z (fun i=>(vs.toList[i]?).getD undef) (fun j q N=>by have S:=(a9F.1 N).1;have A:j<vs.toList.length:=Om;simp only[a8L A,baW];exact I.at_ j q _ N (a8L A)) i p (by rw[rM,args_at,← a8Y]; exact U)
  simp only[W,baW] at this;exact this
 refine (h.2 M w vs (k2.env.num.trans O) k1 J).mono fun e w' he=>?_;obtain⟨u,pv,E2,H2,rfl,R,V,y,rfl,rfl⟩:=he;have l:∀ b,b<w.heap.size→w'.heap[b]?=w.heap[b]?:=fun b hb=>y.block b hb rfl;refine⟨u,pv,E,_,rfl,hW.same y.size (fun b hb _=>l b hb) (fun q x hq=>l q (hW.h q x hq).1),X.rep V,⟨.refl E,y.os,y.tape,y.output,y.size,fun b hb _=>l b hb,fun q x hq=>.inl ⟨x,hq⟩,fun b cs hb=>.inl hb⟩,rfl,rfl⟩
theorem ajI {name o:Nat} {rs:List (List PV)} {args:List aP} {vs:List PV} {d:Option Nat} {K:PF→PH→Prop} (u:Plain v) (h:aH C name (vs.map (PV.frz o s rs)) .nil (aI v)) (e:H o=some (.rows s rs)) (j:aP.evs F args=some vs)
  (l:K (F.put d v) H):jU C name args [] d K F H:=by
 refine dV (h.aYI u) j (e_ a_ e) ?_;rintro r H' ⟨rfl,rfl⟩ -;rw[PH.over_self _ (e_ a_ e)];exact l
theorem aLZ {Hs:PH} {S:Spec} {name o:Nat} {rs:List (List PV)} {vs:List PV} {R:PH→PV→PH→Prop} {args:List aP} {st:Bool} {d:Option Nat} {K:PF→PH→Prop} (u:S name vs=some ([o],R)) (A:Plain v) (y:H o=some (.rows s rs))
  (h:aH C name (vs.map (PV.frz o s rs)) .nil (aI v)) (e:R (PH.nil.set o (.rows s rs)) v (PH.nil.set o (.rows s rs))) (j:∀ r H',R (PH.nil.set o (.rows s rs)) r H'→r=v∧H'=PH.nil.set o (.rows s rs)) (w:aP.evs F args=some vs) (l:Hs.le H) (x:K (F.put d v) H) :
  dOp C Hs S st (.call name args) d K F H:=NZ u y (h.aYI A) e j w l x
theorem Oz {name t:Nat} {R:PV→PH→Prop} {d:Option Nat} {K:PF→PH→Prop} (h:aH C name [.sl s rows] .nil R) (x:cR H s v rows) (w:F t=some v)
  (l:∀ (e:PF) (j:PH),(∀ i u,F i=some u→Pure u→e i=some u)→∀ r H',R r H'→oL j .nil H'→K (e.put d r) (j.over .nil H')):jU C name [.tmp t] [] d K F H:=by
 rcases x with ⟨rfl,rfl⟩ | ⟨q,rs,rfl,h1,h2,h3⟩
 ·exact .inl ⟨[.aD],.nil,R,by rw[GF,sd,w,bg]; rfl,a_,h.aDK (.inl ⟨rfl,rfl⟩),l F H fun i u hi _=>hi⟩
 ·refine .inr ⟨_,_,.step q h1 (.refl _ _),[.sl s rows],.nil,R,?_,a_,h,l _ _ fun i u hi y=>?_⟩
  ·simp only[GF,bg,sd,rM,w,a9J,xM h2,h3,a9W]
  ·rw[rM,hi,a9J,y q s rs]
end
def rL (A:List Int) (k:Nat):List Int:=A.take k++a8F (A.length-k) 0
theorem aiO (A:List Int):rL A 0=a8F A.length 0:=by simp[rL]
theorem aAK (A:List Int):rL A A.length=A:=by simp[rL]
theorem Oj (A:List Int) {k:Nat} (h:k≤A.length):(rL A k).length=A.length:=by simp[rL]; omega
theorem aAL (A:List Int) {k:Nat} (h:k<A.length):(rL A k).set k A[k]=rL A (k+1):=by
 unfold rL;rw[bbW _ _ (by simp; omega),a8W,baO Om,Nat.sub_self,show A.length-k=(A.length-(k+1))+1 by omega,List.replicate_succ,List.set_cons_zero,
  baF h,a9L]
 rfl
theorem rV (l:List Int) (i:Nat) (x:Int):(bU l).set i [.int .i64 x]=bU (l.set i x):=by unfold bU; rw[List.map_set]
theorem aiS (n:Nat):a8F n [PV.int .i64 0]=bU (a8F n 0):=by simp[bU]
theorem AD {l:List Int} {i:Nat} (h:i<l.length):(bU l)[i]?=some [.int .i64 l[i]]:=by simp[bU,h]
def pU (f:aE) (room:List Int) (d:Nat):Int:=if room.length=f.a6P.length then min (max (room.getD d 0) 0) (ext f d) else ext f d
def mZ (f:aE) (room:List Int):List Int:=(a8D f.a6P.length).map (pU f room)
def IR (f:aE) (room:List Int):List Int:=if dL f then mZ f room else []
theorem rX (f:aE) (room:List Int):(mZ f room).length=f.a6P.length:=by simp[mZ]
theorem RW (f:aE) (room:List Int) {d:Nat} (h:d<(mZ f room).length):(mZ f room)[d]=pU f room d:=by simp[mZ]
theorem VF.Qt {f:aE} (h:VF f) {d:Nat} (j:d<f.a6P.length):∃ e:mdl f d<f.a6Q.length,(f.a6Q[mdl f d]).a7G=ext f d:=by
 have e:=(h.drive d j).2.1;exact⟨e,by rw[ext,getD_at e]⟩
def trF (f:aE) (room:List Int) (o k:Nat):PF:=(((((PF.nil.set 1 (ints room)).set 2 (.bO f.cells)).set 5 (.osl o 1 0 f.a6P.length)).set 15 (.int .i64 (f.a6P.length:Nat))).set 16 (.int .i64 k))
theorem apK (a b:Int):(if b<a then b else a)=min a b:=by
 rw[Int.min_def];by_cases h:b<a
 ·rw[if_pos h,if_neg Om]
 ·rw[if_neg h,if_pos Om]
theorem aQF {C:Ctx} (L:aRV C) (f:aE) (N:f.Ok) (room:List Int) :
  SN.wp C (aT aDV.res (rF 1 (bU (IR f room)))) (PF.args [.agg f.cells,ints room]) .nil:=by
 simp only[go_sem,SN,adK,adL,aDV];refine aB (L.valid f N) Ev ?_;unfold IR;cases S:dL f with
 | false =>simp only[go_sem,a8X,adM];exact NJ (.inr rfl) Ev
 | true =>
  have hV:=VF.of S;have M:=hV.small.a6P;have F:(f.a6P.length:Int)*((8:Nat):Int)≤140737488355328:=Om;have I:(f.a6P.length:Int)≤9223372036854775807:=Om;simp only[go_sem,a8Q,adN,a8E,F,I];refine aO fun o X=>?_;simp only[go_sem,adO];have u:=rX f room;have E:=fun d h=>RW f room (d:=d) h;generalize V:mZ f room=A at *
  refine wp_loop (α:=Nat) (fun k=>trF f room o k) (fun k=>PH.nil.set o (.rows 1 (bU (rL A k)))) (fun k=>k≤f.a6P.length) (fun k=>f.a6P.length-k) 0 (a8K _) ?_ ?_ ?_
  ·unfold trF;exact Lq
  ·refine e_ a_ ?_;simp only[go_sem];rw[aiO,u,aiS]
  intro k W;simp only[go_sem,Lr,adP,trF];by_cases hlt:k<f.a6P.length
  ·have e:(k:Int)<(f.a6P.length:Nat):=Om;obtain⟨R,he⟩:=hV.Qt hlt;have O:=Oj A (k:=k) Om;have w:k<A.length:=Om;have U:=AD (l:=rL A k) (i:=k) Om;have j:=aAL A w;rw[E k w] at j;simp only[go_sem,e,adQ];refine aV .nil cA a_ ?_;simp only[go_sem,adR,qJ hlt,hV.WR hlt,Hc R,he,e,a8R,U];refine⟨a_,?_⟩;simp only[go_sem,adS,a8E];by_cases c:room.length=f.a6P.length
   ·have y:((room.length:Int)==(f.a6P.length:Int))=true:=bP Om;have x:k<room.length:=Om;have J:(room.map fun n=>[PV.int .i64 n])[k]?=some [.int .i64 room[k]]:=by simp[x]
    simp only[go_sem,y];refine aV .nil cA a_ ?_;have K:(bU ((rL A k).set k (ext f k)))[k]?=some [.int .i64 (ext f k)]:=by rw[← rV,List.getElem?_set_self (by rw[iV]; omega)]
    simp only[go_sem,adT,J,e,a8R,K,max_eq,apK,List.set_set,rV];refine⟨a_,?_⟩;simp only[go_sem,YY,wZz k];refine aG (k+1) hlt Om ?_ ?_
    ·exact Lq
    ·refine e_ a_ ?_;rw[← j,pU,if_pos c,a8M,a8L x,baW];simp only[go_sem]
   ·have y:((room.length:Int)==(f.a6P.length:Int))=false:=bD Om;simp only[go_sem,y,YY,wZz k,rV];refine aG (k+1) hlt Om ?_ ?_
    ·exact Lq
    ·refine e_ a_ ?_;rw[← j,pU,if_neg c];simp only[go_sem]
  ·have e:¬ (k:Int)<(f.a6P.length:Nat):=Om;have:k=f.a6P.length:=Om;subst this;simp only[go_sem,e,Ls];have B:rL A f.a6P.length=A:=by rw[← u,aAK]
   rw[B];exact RT (.inr rfl) (v:=.osl o 1 0 f.a6P.length) (.inr ⟨o,bU A,by rw[iV,u],by simp only[go_sem],a8J _,a8V (a8J _)⟩) Sq
def Qf (n:Nat) (xs:List Int):List Int:=(a8D n).map fun (d:Nat)=>((xs.count (d:Int):Nat):Int)
def V1 (f:aE) (l:List (List Int)):List Int:=Qf f.a6P.length l.flatten
structure a0A (l:List (List Int)):Prop where
 rows:l.length≤16777216
 all:l.flatten.length≤16777216
theorem aGC (l:List (List Int)) {i:Nat} (h:i<l.length):(l.take (i+1)).flatten=(l.take i).flatten++l[i]:=by
 rw[baF h,List.flatten_append];simp only[List.flatten_cons,List.flatten_nil,a9W]
structure NU where
 kind:Int
 vol:Int
 wher:Int
abbrev NU.cells (x:NU):List PV:=[.int .i64 x.kind,.int .i64 x.vol,.int .i64 x.wher]
def OF (p:Int→Bool):List Int→Nat→Option Nat
 | [],_=>none
 | x::t,i=>if p x then some i else OF p t (i+1)
def aXV (f:aE) (d:Int):Bool:=decide (d < -1)||decide (d≥(f.a6P.length:Nat))
def acK (f:aE) (l:List (List Int)) (v:Nat):Option NU :=
 if ((l.getD v []).length:Int)=pV f v then (OF (aXV f) (l.getD v []) 0).map fun (i:Nat)=>⟨1,v,i⟩ else some ⟨1,v,((l.getD v []).length:Nat)⟩
section
variable {C:Ctx} {F:PF} {H:PH}
theorem cR.ne {s s':Nat} {v:PV} {rows:List (List PV)} {o:Nat} {y:List (List PV)} (h:cR H s v rows) (w:H o=some (.rows s' y)) (x:s≠s'):∀ l,v≠.osl o s 0 l:=by
 intro l e;rcases h with ⟨_,j⟩ | ⟨q,rs,h1,j,_⟩
 ·rw[j] at e; cases e
 ·rw[h1] at e;injection e with u
  subst u;rw[w] at j;injection j with j
  injection j with j
  exact x j.symm
theorem cR.set {s s':Nat} {v:PV} {rows:List (List PV)} {o:Nat} {y:List (List PV)} {x:bZ} (h:cR H s v rows) (u:H o=some (.rows s' y)) (w:s≠s'):cR (H.set o x) s v rows:=by
 have l:=h.ne u w;rcases h with ⟨e,j⟩ | ⟨q,rs,e,j,h3,h4⟩
 ·exact .inl ⟨e,j⟩
 ·refine .inr ⟨q,rs,e,?_,h3,h4⟩;have:q≠o:=by rintro rfl; exact l _ e
  simp only[aS,if_neg this,j]
def Dis (s:Nat) (v u:PV):Prop:=∀ q l e j,v=.osl q s 0 l→u=.osl e s 0 j→q≠e
theorem Dis.nil {s:Nat}:Dis s .aD .aD:=fun _ _ _ _ h=>by cases h
theorem Dis.symm {s:Nat} {v u:PV} (h:Dis s v u):Dis s u v:=fun q l x w e j=>(h x w q l j e).symm
end
def AS (kind v:Int) (n:Nat) (p:Nat→Bool):List NU:=((a8D n).filter p).map fun (i:Nat)=>⟨kind,v,i⟩
def PG (f:aE) (i:Nat) (d:Int):Bool:=decide (0≤d)&&decide (mB f d.toNat (lvl f i)=i)
def Bo (f:aE) (xs:List Int) (i:Nat):Int:=if i=0 then 0 else ((xs.countP (PG f i):Nat):Int)
def aAF (f:aE) (xs:List Int):List Int:=(a8D f.a6S.length).map (Bo f xs)
theorem VF.Gp {f:aE} (h:VF f) {i:Nat} (hi:i<f.a6S.length):0≤lvl f i∧lvl f i≤4∧(lvl f i=0↔i=0):=by
 rcases baN i with e | e
 ·subst e; rw[h.root.2.1]; simp
 ·have:=h.dom i e hi;omega
structure Obs where
 o5:Nat
 o7:Nat
 o8:Nat
 oD:Nat
 oB:Nat
structure Obs.Ne (o:Obs):Prop where
 a1:o.o5≠o.oD
 a2:o.o5≠o.oB
 a3:o.o7≠o.oD
 a4:o.o7≠o.oB
 a5:o.o8≠o.oD
 a6:o.o8≠o.oB
 a7:o.oD≠o.oB
structure aLN (H:PH) (o:Obs) (v:Nat) (p:dX) (A:List Bool) (D B:List Int):Prop where
 h5:H o.o5=some (.rows 1 [[.int .i64 v]])
 h7:H o.o7=some (.rows 17 [p.cells])
 h8:H o.o8=some (.rows 1 (aZ A))
 hD:H o.oD=some (.rows 1 (bU D))
 hB:H o.oB=some (.rows 1 (bU B))
theorem aLN.keep {H H':PH} {o:Obs} {v:Nat} {p:dX} {A:List Bool} {D B:List Int} (h:aLN H o v p A D B) (e:∀ q s' z,3≠s'→H q=some (.rows s' z)→H' q=some (.rows s' z)):aLN H' o v p A D B :=
 ⟨e _ _ _ (by decide) h.h5,e _ _ _ (by decide) h.h7,e _ _ _ (by decide) h.h8,e _ _ _ (by decide) h.hD,e _ _ _ (by decide) h.hB⟩
def home (row:List Int) (i:Nat):Bool:=decide (row.getD i 0<0)
def wm (f:aE) (p:dX) (row:List Int) (i:Nat):Bool:=decide (0≤row.getD i 0)&&!p.a6Q.contains ((mdl f (row.getD i 0).toNat:Nat):Int)
def aSI (f:aE) (row:List Int) (d:Nat):Bool:=decide ((Qf f.a6P.length row).getD d 0>1)
def fW (f:aE) (p:dX) (i:Nat):Int:=p.spread (lvl f i).toNat
def aRZ (f:aE) (p:dX) (row:List Int) (i:Nat):Bool:=decide (fW f p i>0)&&decide ((aAF f row).getD i 0>fW f p i)
def ZT (f:aE) (p:dX) (v:Nat) (row:List Int):List NU :=
 AS 2 v row.length (home row)++AS 3 v f.a6P.length (aSI f row)++AS 4 v row.length (wm f p row)++AS 5 v f.a6S.length (aRZ f p row)
theorem Qc (n:Nat):a8F n [PV.bool false]=aZ (marks n []):=by rw[Gu]; simp[aZ]
def aPC (f:aE) (l:List (List Int)) (v:Nat):List NU:=match acK f l v with
 | some x=>[x]
 | none=>ZT f (cO f v) v (l.getD v [])
def aAM (f:aE) (l:List (List Int)) (n:Nat):List NU:=(a8D n).flatMap (aPC f l)
def over (f:aE) (l:List (List Int)) (room:List Int) (d:Nat):Bool:=decide ((V1 f l).getD d 0>(mZ f room).getD d 0)
def aSJ (f:aE) (l:List (List Int)) (room:List Int):List NU:=aAM f l l.length++AS 6 (-1) f.a6P.length (over f l room)
def aEM (f:aE) (l:List (List Int)) (room:List Int):List NU :=
 if dL f then (if l.length=f.a6R.length then aSJ f l room else [⟨1,-1,(l.length:Nat)⟩]) else []
def BV (f:aE) (l:List (List Int)) (room:List Int):Bool:=dL f&&decide ((aEM f l room).length=0)
def apW:List Nat:=[]
def II:=bM apW Proofs.Tryz.f21
def apT:=aA II 0
def apU:=aA II 1
def apV:=aA II 2
def Cl:=aA II 3
def WW:aC:=(sq apT (.seq (sq apU (.cond (Tm 5) (.region apV) .skip)) (sq Cl .ret)))
def aOG:aW:=⟨1,12,WW,[.tmp 2]⟩
def Xq:List Nat:=[]
def yT:=bM Xq Proofs.Tryz.f26
def l7:=aA yT 0
def QJ:=bT yT 0
def l8:=aA yT 1
def Xo:=aA yT 2
def Xp:=bT yT 1
def DW:aC:=(sq l7 (.seq (dq QJ (.cond (Tm 18) (sq l8 .ret) .skip)) (sq Xo (dq Xp .ret))))
def Pa:aW:=⟨2,40,DW,[.tmp 4]⟩
def Wy:List Nat:=[]
def QE:=bM Wy Proofs.Tryz.f78
def Wv:=aA QE 0
def Ww:=aA QE 1
def Wx:=aA QE 2
def QD:aC:=(sq Wv (sq Ww (sq Wx .ret)))
def aBY:aW:=⟨1,16,QD,[.cell 2 (some 3)]⟩
def apS:List Nat:=[45,63,90,95]
def eN:=bM apS Proofs.Tryz.f48
def apM:=aA eN 0
def apN:=aA eN 1
def apO:=aA eN 2
def apP:=aA eN 3
def apQ:=aA eN 4
def apR:=aA eN 5
def Ch:=aA eN 6
def Cj:=aA eN 7
def Ck:=aA eN 8
def ce:=aA eN 9
def lh:=aA eN 10
def lj:=aA eN 11
def lk:=aA eN 12
def ll:=aA eN 13
def lm:=aA eN 14
def QH:=aA eN 15
def ln:=aA eN 16
def lz:=aA eN 17
def Xg:=aA eN 18
def Xh:=aA eN 19
def Xi:=aA eN 20
def l3:=aA eN 21
def l4:=aA eN 22
def l5:=aA eN 23
def QG:aC:=(.seq (sq Xg (.cond (Tm 68) .skip (.exit 2))) (.seq (.block 3 (sq Xh (.seq (sq Xi (.cond (Tm 85) (.region l3) .skip)) (.region l4)))) (.region l5)))
def l6:=aA eN 24
def Xj:=aA eN 25
def Xf:aC:=(.seq (sq apR (.cond (Tm 22) .skip (.exit 0))) (.seq (.block 1 (sq Ch (.seq (sq Cj (.cond (Tm 29) (.region Ck) .skip)) (sq ce (sq lh (sq lj (sq lk (.seq (sq ll (.cond (Tm 58) (.region lm) .skip)) (sq QH (sq ln (.seq (sq lz (.block 2 (.loop QG))) (.region l6)))))))))))) (.region Xj)))
def Xk:=aA eN 26
def WV:aC:=(sq apM (sq apN (sq apO (sq apP (.seq (sq apQ (.block 0 (.loop Xf))) (sq Xk .ret))))))
def aOD:aW:=⟨2,99,WV,[.cell 4 (some 4)]⟩
def aqF:List Nat:=[16]
def tY:=bM aqF Proofs.Tryz.f52
def apY:=aA tY 0
def apZ:=aA tY 1
def aqA:=aA tY 2
def aqB:=aA tY 3
def aqC:=aA tY 4
def aqD:=aA tY 5
def apX:aC:=(.seq (sq aqB (.cond (Tm 10) .skip (.exit 0))) (.seq (.block 1 (.region aqC)) (.region aqD)))
def aqE:=aA tY 6
def WX:aC:=(sq apY (sq apZ (.seq (sq aqA (.block 0 (.loop apX))) (sq aqE .ret))))
def aOJ:aW:=⟨2,19,WX,[.tmp 4]⟩
def Xn:List Nat:=[]
def u9:=bM Xn Proofs.Tryz.f49
def Xl:=aA u9 0
def Xm:=aA u9 1
def QI:aC:=(sq Xl (sq Xm .ret))
def aCB:aW:=⟨2,9,QI,[.tmp 4]⟩
def W8:List Nat:=[60,81,113]
def gU:=bM W8 Proofs.Tryz.f51
def W1:=aA gU 0
def W2:=aA gU 1
def W3:=aA gU 2
def W4:=aA gU 3
def QF:=aA gU 4
def k7:=aA gU 5
def lf:=aA gU 6
def W5:=aA gU 7
def W6:=bT gU 0
def W7:=bT gU 1
def G7:=aA gU 8
def G8:=bT gU 2
def G9:=aA gU 9
def Ha:=aA gU 10
def WT:=bT gU 3
def WU:=aA gU 11
def CA:=aA gU 12
def BZ:aC:=(.seq (sq k7 (.cond (Tm 28) .skip (.exit 0))) (.seq (.block 1 (.seq (sq lf (.cond (Tm 32) (.seq (sq W5 (.cond (Tm 39) (dq W6 (.draw W7)) .skip)) (.exit 1)) .skip)) (.seq (sq G7 (.cond (Tm 78) .ret .skip)) (dq G8 (.seq (sq G9 (.cond (Tm 98) (.region Ha) .skip)) (dq WT (.region WU))))))) (.region CA)))
def DU:aC:=(sq W1 (sq W2 (.seq (sq W3 (.cond (Tm 25) (.region W4) .skip)) (sq QF (.block 0 (.loop BZ))))))
def O9:aW:=⟨4,127,DU,[]⟩
def G6:List Nat:=[40,67,148,154,176]
def bX:=bM G6 Proofs.Tryz.f22
def Gx:=aA bX 0
def Gy:=aA bX 1
def Gz:=aA bX 2
def G0:=aA bX 3
def G1:=aA bX 4
def G2:=aA bX 5
def G3:=aA bX 6
def G4:=aA bX 7
def G5:=aA bX 8
def WS:aC:=(.seq (sq G1 (.cond (Tm 29) .skip (.exit 0))) (.seq (.block 1 (sq G2 (sq G3 (.region G4)))) (.region G5)))
def ud:=aA bX 9
def ue:=aA bX 10
def ug:=aA bX 11
def uh:=bT bX 0
def ui:=bT bX 1
def uj:=aA bX 12
def PS:aC:=(.seq (sq ug (.cond (Tm 48) .skip (.exit 2))) (.seq (.block 3 (dq uh (.draw ui))) (.region uj)))
def uk:=aA bX 13
def ul:=aA bX 14
def um:=aA bX 15
def uo:=aA bX 16
def uq:=aA bX 17
def PW:=aA bX 18
def DP:=bT bX 2
def DQ:=bT bX 3
def DR:=aA bX 19
def DS:=aA bX 20
def PX:=aA bX 21
def ut:=aA bX 22
def uu:=aA bX 23
def uv:=aA bX 24
def PY:=aA bX 25
def DO:aC:=(.seq (sq ut (.cond (Tm 119) .skip (.exit 6))) (.seq (.block 7 (sq uu (.cond (Tm 124) (.region uv) .skip))) (.region PY)))
def PZ:=aA bX 26
def QA:=aA bX 27
def QB:=aA bX 28
def QC:=aA bX 29
def DT:=aA bX 30
def uw:=aA bX 31
def PT:aC:=(.seq (sq uq (.cond (Tm 82) .skip (.exit 4))) (.seq (.block 5 (sq PW (.seq (dq DP (.draw DQ)) (sq DR (sq DS (.seq (sq PX (.block 6 (.loop DO))) (sq PZ (sq QA (.seq (sq QB (.cond (Tm 143) (.region QC) .skip)) (.region DT)))))))))) (.region uw)))
def ux:=aA bX 32
def uy:=aA bX 33
def uz:=aA bX 34
def u0:=bT bX 4
def u5:=bT bX 5
def u6:=aA bX 35
def PU:aC:=(.seq (sq uz (.cond (Tm 163) .skip (.exit 8))) (.seq (.block 9 (dq u0 (.draw u5))) (.region u6)))
def u7:=aA bX 36
def JT:aC:=(sq Gx (sq Gy (sq Gz (.seq (sq G0 (.block 0 (.loop WS))) (sq ud (.seq (sq ue (.block 2 (.loop PS))) (sq uk (sq ul (sq um (.seq (sq uo (.block 4 (.loop PT))) (sq ux (.seq (sq uy (.block 8 (.loop PU))) (sq u7 .ret)))))))))))))
def Wu:aW:=⟨3,180,JT,[.cell 6 (some 7)]⟩
def Gs:List Nat:=[]
def du:=bM Gs Proofs.Tryz.f10
def Gq:=aA du 0
def Gr:=aA du 1
def JR:aC:=(sq Gq (sq Gr .ret))
def V7:aW:=⟨3,12,JR,[.cell 6 (some 7)]⟩
def acJ:List Nat:=[2]
def SD:=bM acJ Proofs.Tryz.f57
def acG:=aA SD 0
def acH:=bT SD 0
def acI:=aA SD 1
def SC:aC:=(sq acG (dq acH (sq acI .ret)))
def aDM:aW:=⟨2,21,SC,[.tmp 4]⟩
def afP:List Nat:=[]
def zL:=bM afP Proofs.Tryz.f103
def afL:=aA zL 0
def afM:=aA zL 1
def afN:=aA zL 2
def afO:=aA zL 3
def afK:aC:=(.seq (sq afN (.cond (Tm 15) .skip (.exit 0))) (.block 1 (.region afO)))
def p9:=aA zL 4
def TE:aC:=(sq afL (sq afM (.seq (.block 0 (.loop afK)) (sq p9 .ret))))
def aEG:aW:=⟨1,22,TE,[.tmp 2]⟩
def afA:List Nat:=[8]
def yl:=bM afA Proofs.Tryz.f81
def aeY:=aA yl 0
def aeZ:=aA yl 1
def SV:aC:=(sq aeY (sq aeZ .ret))
def aEC:aW:=⟨1,10,SV,[.tmp 2]⟩
def L5:List Nat:=[]
def gy:=bM L5 Proofs.Tryz.f143
def L3:=aA gy 0
def L4:=aA gy 1
def LP:aC:=(sq L3 (sq L4 .ret))
def aeX:aW:=⟨1,7,LP,[.tmp 2]⟩
def awB:List Nat:=[]
def kM:=bM awB Proofs.Tryz.f141
def avR:=aA kM 0
def avS:=aA kM 1
def avT:=aA kM 2
def avU:=aA kM 3
def avV:=aA kM 4
def avW:=aA kM 5
def avX:=aA kM 6
def avY:=aA kM 7
def avZ:=bT kM 0
def awA:=aA kM 8
def aeJ:=bT kM 1
def aeK:=aA kM 9
def aeL:=aA kM 10
def aeI:aC:=(.seq (sq avY (.cond (Tm 24) .skip (.exit 0))) (.seq (.block 1 (.seq (dq avZ (.cond (Tm 35) (sq awA .ret) .skip)) (dq aeJ (.cond (Tm 44) (sq aeK .ret) .skip)))) (.region aeL)))
def aeM:=aA kM 11
def ZA:aC:=(sq avR (sq avS (.seq (sq avT (.cond (Tm 14) (.seq (sq avU (.cond (Tm 19) (sq avV .ret) .skip)) (sq avW .ret)) .skip)) (.seq (sq avX (.block 0 (.loop aeI))) (sq aeM .ret)))))
def aQI:aW:=⟨2,45,ZA,[.tmp 4]⟩
def yk:List Nat:=[76]
def cG:=bM yk Proofs.Tryz.f144
def yd:=aA cG 0
def ye:=aA cG 1
def yf:=aA cG 2
def yg:=aA cG 3
def SQ:=aA cG 4
def SR:=aA cG 5
def SS:=aA cG 6
def yh:=aA cG 7
def yi:=aA cG 8
def yj:=aA cG 9
def gh:=aA cG 10
def gi:=aA cG 11
def KZ:aC:=(.seq (sq yh (.cond (Tm 36) .skip (.exit 0))) (.seq (.block 1 (sq yi (sq yj (.region gh)))) (.region gi)))
def LC:=aA cG 12
def gj:=aA cG 13
def gk:=aA cG 14
def LD:=aA cG 15
def LF:=aA cG 16
def LG:=aA cG 17
def LH:=aA cG 18
def gl:=aA cG 19
def gm:=bT cG 0
def gn:=aA cG 20
def gp:=aA cG 21
def gq:=aA cG 22
def gr:=bT cG 1
def gs:=aA cG 23
def BI:aC:=(.seq (dq gr (.cond (Tm 146) .skip (.exit 4))) (.block 5 (.region gs)))
def LJ:=aA cG 24
def LK:=aA cG 25
def gt:=aA cG 26
def gv:=aA cG 27
def gw:=aA cG 28
def gx:=aA cG 29
def LL:=aA cG 30
def BJ:aC:=(.seq (sq gt (.cond (Tm 166) .skip (.exit 6))) (.seq (.block 7 (sq gv (sq gw (.cond (Tm 177) (.region gx) .skip)))) (.region LL)))
def LM:=aA cG 31
def LN:=aA cG 32
def BK:aC:=(.seq (sq gl (.cond (Tm 105) .skip (.exit 2))) (.seq (.block 3 (dq gm (sq gn (.seq (sq gp (.cond (Tm 131) (.region gq) .skip)) (.seq (.block 4 (.loop BI)) (sq LJ (.seq (sq LK (.block 6 (.loop BJ))) (.region LM)))))))) (.region LN)))
def LO:=aA cG 33
def HH:aC:=(sq yd (.seq (sq ye (.cond (Tm 23) (sq yf .ret) .skip)) (.seq (sq yg (.cond (Tm 28) (sq SQ (sq SR (.seq (sq SS (.block 0 (.loop KZ))) (sq LC .ret)))) .skip)) (sq gj (sq gk (sq LD (sq LF (sq LG (.seq (sq LH (.block 2 (.loop BK))) (sq LO .ret))))))))))
def Du:aW:=⟨2,198,HH,[.tmp 4,.tmp 5]⟩
def awI:List Nat:=[]
def uJ:=bM awI Proofs.Tryz.f114
def awC:=aA uJ 0
def awD:=aA uJ 1
def Dt:=aA uJ 2
def awE:=aA uJ 3
def awF:=aA uJ 4
def awG:=aA uJ 5
def awH:=aA uJ 6
def ZB:aC:=(sq awC (.seq (sq awD (.cond (Tm 14) (sq Dt .ret) .skip)) (.seq (sq awE (.cond (Tm 18) (sq awF .ret) .skip)) (sq awG (sq awH .ret)))))
def udiv:aW:=⟨2,29,ZB,[.tmp 4,.tmp 5,.tmp 6]⟩
def awR:List Nat:=[]
def rZ:=bM awR Proofs.Tryz.f113
def awK:=aA rZ 0
def awL:=aA rZ 1
def Dv:=aA rZ 2
def awM:=aA rZ 3
def awN:=aA rZ 4
def awO:=aA rZ 5
def awP:=aA rZ 6
def awJ:aC:=(.seq (sq awN (.cond (Tm 22) .skip (.exit 0))) (.block 1 (sq awO (.region awP))))
def awQ:=aA rZ 7
def ZE:aC:=(sq awK (.seq (sq awL (.cond (Tm 15) (sq Dv .ret) .skip)) (sq awM (.seq (.block 0 (.loop awJ)) (sq awQ .ret)))))
def aQM:aW:=⟨2,32,ZE,[.tmp 4,.tmp 5]⟩
def za:List Nat:=[16]
def mN:=bM za Proofs.Tryz.f80
def yy:=aA mN 0
def yz:=aA mN 1
def y6:=aA mN 2
def y7:=aA mN 3
def y8:=aA mN 4
def y9:=aA mN 5
def TI:=aA mN 6
def TJ:=aA mN 7
def EM:=aA mN 8
def HJ:aC:=(sq yy (sq yz (.seq (sq y6 (.cond (Tm 15) (sq y7 .ret) .skip)) (.seq (sq y8 (sq y9 (.cond (Tm 32) (sq TI (.region TJ)) .skip))) (sq EM .ret)))))
def D0:aW:=⟨3,51,HJ,[.cell 6 (some 3)]⟩
def agW:List Nat:=[]
def EP:=bM agW Proofs.Tryz.f82
def agS:=aA EP 0
def agT:=aA EP 1
def agU:=aA EP 2
def agV:=aA EP 3
def TN:aC:=(sq agS (.seq (sq agT (.cond (Tm 4) (sq agU .ret) .skip)) (sq agV .ret)))
def aES:aW:=⟨1,12,TN,[.tmp 2]⟩
def agI:List Nat:=[]
def EN:=bM agI Proofs.Tryz.f53
def agE:=aA EN 0
def agF:=aA EN 1
def agG:=aA EN 2
def agH:=aA EN 3
def TK:aC:=(sq agE (.seq (sq agF (.cond (Tm 7) (sq agG .ret) .skip)) (sq agH .ret)))
def Pi:aW:=⟨2,21,TK,[.cell 4 (some 3),.tmp 5]⟩
def axW:List Nat:=[]
def ZS:=bM axW Proofs.Tryz.f50
def axT:=aA ZS 0
def axU:=aA ZS 1
def axV:=aA ZS 2
def ZR:aC:=(sq axT (sq axU (sq axV .ret)))
def aRA:aW:=⟨1,11,ZR,[.cell 2 (some 3)]⟩
def utF (xs:List Nat) (n:Nat):PF:=((PF.nil.set 0 (aK xs)).set 3 (.int .i64 n))
theorem aQW {C:Ctx} (xs:List Nat) (R:Lim xs) (S:xs.length≤35184372087808):TE.wp C (aT aEG.res (rF 1 (aN (aJ (val xs))))) (PF.args [aK xs]) .nil:=by
 simp only[go_sem,TE,afL,afM,aEG,a8E];refine wp_loop (α:=Nat) (fun n=>utF xs n) (fun _=>.nil) (fun n=>n≤xs.length∧∀ j x,n≤j→xs[j]?=some x→x=0) (fun n=>n) xs.length ⟨a8J _,fun j x B l=>?_⟩ ?_ a_ ?_
 ·rw[a9S B] at l; cases l
 ·unfold utF;exact Lq
 rintro n ⟨N,J⟩;have done:(0<n→∀ h:n-1<xs.length,xs[n-1]≠0)→∀ F:PF,(utF xs n).le F→aC.wp C (.seq (.region p9) .ret) (aT [.tmp 2] (rF 1 (aN (aJ (val xs))))) F .nil:=by
  intro h F A;have f0:F 0=some (aK xs):=A 0 _ (by unfold utF; simp only[go_sem]);have K:F 3=some (.int .i64 n):=A 3 _ (by unfold utF; simp only[go_sem]);have E:xs.take n=aJ (val xs):=SK R N J fun x w l=>by
   rw[a8L Om] at l;injection l with l
   subst l;exact h w Om
  have M:((n:Nat):Int)≤(xs.length:Nat):=Om;simp only[go_sem,p9,f0,K,a8E,M,or_true,a9R];refine kR (rows:=[]) (src:=aN (aJ (val xs))) .nil ?_ ?_ fun v H' O _=>?_
  ·simp only[go_sem];rw[← E,← List.map_take]
  ·unfold roomFor;rw[cV,← E,a8W];simp only[baX,maxLen];omega
  ·exact RT (.inr rfl) (by simpa using O) rfl
 simp only[aC.wp,go_sem] at done;simp only[go_sem,afK,afN,utF];by_cases w:0<n
 ·have u:((n:Nat):Int)>0:=Om;have hlt:n-1<xs.length:=Om;have y:=cF xs hlt;have I:IntKind.i64.wrap ((n:Int)-1)=((n-1:Nat):Int):=CK Om w;simp only[go_sem,u,I,y];by_cases c:xs[n-1]=0
  ·simp only[go_sem,bP (Om:((xs[n-1]:Nat):Int)=0),afO,I];refine aG (n-1) ⟨by omega,fun j x B l=>?_⟩ Om ?_ a_
   ·by_cases e:j=n-1
    ·subst e;rw[a8L hlt] at l;injection l with l
     omega
    ·exact J j x Om l
   ·exact Lq
  ·simp only[go_sem,bD (Om:((xs[n-1]:Nat):Int)≠0)];exact done (fun _ _=>c) _ (by unfold utF; exact Lq)
 ·have u:¬ ((n:Nat):Int)>0:=Om;simp only[go_sem,u];exact done (fun h=>absurd h w) _ (by unfold utF; exact Lq)
structure uN (C:Ctx):Prop where
 trimM:∀ xs,Lim xs→xs.length≤35184372087808→aH C 38 [aK xs] .nil (rF 1 (aN (aJ (val xs))))
theorem uN.trim {C:Ctx} (L:uN C) (xs:List Nat) (j:Lim xs) (e:xs.length≤35184372087808):aH C 38 [aK xs] .nil (aI (aK (aJ (val xs)))):=(L.trimM xs j e).freeze
theorem aQN {C:Ctx} (L:uN C) (v:Nat) (E:v<18446744073709551616):SV.wp C (aT aEC.res (cP (aK (aJ v)))) (PF.args [.int .u64 v]) .nil:=by
 have y:IntKind.u32.wrap ((v:Nat):Int)=((v%4294967296:Nat):Int):=dE v;have l:v/4294967296<4294967296:=Om;have A:IntKind.u32.wrap ((v/4294967296:Nat):Int)=((v/4294967296:Nat):Int):=by rw[dE,a9V l]
 have B:Lim [v%4294967296,v/4294967296]:=by
  intro x w;simp only[a8S,List.mem_nil_iff,or_false] at w;rcases w with rfl | rfl
  ·exact baC _ (by decide)
  ·exact l
 have e:val [v%4294967296,v/4294967296]=v:=by simp only[val,Nat.mul_zero,a9P]; exact Nat.mod_add_div v 4294967296
 have j:shift .shr .u64 (v:Int) 32=some (.int .u64 ((v/4294967296:Nat):Int)):=EG;have hb:(2:Nat)*1≤16777216:=by decide
 simp only[go_sem,SV,aeY,aeZ,aEC,y,j,A,hb];have u:=L.trim [v%4294967296,v/4294967296] B (by simp);rw[e] at u;refine aB u rfl ?_;simp only[go_sem];exact bA (.inr rfl) .nil rfl a_ ⟨.refl _,rfl⟩
theorem aKE {C:Ctx} (L:uN C) (xs:List Nat) (j:Lim xs) (e:xs.length≤35184372087808):LP.wp C (aT aeX.res (cP (.bool (decide (nl (val xs)>512))))) (PF.args [aK xs]) .nil:=by
 simp only[go_sem,LP,L3,L4,aeX];refine aB (L.trim xs j e) rfl ?_;simp only[go_sem,a8E,bC];refine bG rfl ?_;rw[decide_eq_decide];omega
theorem aAB {a b:Nat} (h:nl a<nl b):eQ a b=-1:=by
 have:a<b:=by
  rcases a8Z a b with h' | h'
  ·exact h'
  ·have:=jK h'; omega
 simp[eQ,this]
theorem aAA {a b:Nat} (h:nl b<nl a):eQ a b=1:=by
 have:b<a:=by
  rcases a8Z b a with h' | h'
  ·exact h'
  ·have:=jK h'; omega
 have e:¬ a<b:=Om;simp[eQ,this,e]
def aDX (X Y:List Nat) (i:Int):PF:=(((PF.nil.set 0 (aK X)).set 1 (aK Y)).set 5 (.int .i64 i))
theorem aWJ {C:Ctx} (L:uN C) (xs e:List Nat) (B:Lim xs) (E:Lim e) (W:xs.length≤35184372087808) (Z:e.length≤35184372087808) :
  ZA.wp C (aT aQI.res (aI (.int .i64 (eQ (val xs) (val e))))) (PF.args [aK xs,aK e]) .nil:=by
 simp only[go_sem,ZA,avR,avS,aQI];refine aB (L.trim xs B W) Ev ?_;simp only[go_sem];refine aB (L.trim e E Z) Ev ?_;have bx:=jA B;have J:=jA E;simp only[go_sem,avT,a8E,bC];by_cases w:nl (val xs)≠nl (val e)
 ·simp only[go_sem,cM (show ((nl (val xs):Nat):Int)≠(nl (val e):Nat) by omega),avU];by_cases K:nl (val xs)<nl (val e)
  ·simp only[go_sem,a8E,bC,show ((nl (val xs):Nat):Int)<(nl (val e):Nat) by omega,avV];refine aR (.inr rfl) Ev ?_;rw[aAB K]; rfl
  ·simp only[go_sem,a8E,bC,show ¬ ((nl (val xs):Nat):Int)<(nl (val e):Nat) by omega,avW];refine aR (.inr rfl) Ev ?_;rw[aAA Om]; rfl
 replace w:=Decidable.of_not_not w;simp only[go_sem,bJ (show ((nl (val xs):Nat):Int)=(nl (val e):Nat) by omega),avX,a8E,bC];have ex:=aU (val xs);have x:=aU (val e);have F:=aX (val xs);have I:=aX (val e);generalize R:aJ (val xs)=X at *
 generalize S:aJ (val e)=Y at *
 have U:X.length=nl (val xs):=by rw[← R]; rfl
 have V:Y.length=nl (val xs):=by rw[w,← S]; rfl
 refine wp_loop (α:=Nat) (fun k=>aDX X Y ((k:Int)-1)) (fun _=>.nil) (fun k=>k≤nl (val xs)∧X.drop k=Y.drop k) (fun k=>k) (nl (val xs)) ⟨a8J _,?_⟩ ?_ a_ ?_
 ·rw[bcB Om,bcB Om]
 ·unfold aDX
  (repeat' (first|exact c_|refine d_ ?_ ?_))<;>first|(simp only[go_sem,wrap_i64 (show -9223372036854775808≤((nl (val xs):Nat):Int)-1 by omega) (show ((nl (val xs):Nat):Int)-1≤9223372036854775807 by omega)]<;>rfl)|rfl
 rintro k ⟨hk,j⟩;simp only[go_sem,aeI,avY,aDX];by_cases h0:0<k
 ·obtain⟨m,rfl⟩:∃ m,k=m+1:=⟨k-1,by omega⟩;have A:((m+1:Nat):Int)-1=(m:Int):=Om;have y:(m:Int)≥0:=Om;have l:m<X.length:=Om;have u:m<Y.length:=Om;simp only[go_sem,A,y];refine aV .nil cA a_ ?_;simp only[go_sem,avZ,cF X l,cF Y u];by_cases M:X[m]<Y[m]
  ·simp only[go_sem,show ((X[m]:Nat):Int)<(Y[m]:Nat) by omega,awA];refine aR (.inr rfl) Ev ?_;have:=r8 F l u j M;rw[ex,x] at this;simp[cB,eQ,this]
  ·simp only[go_sem,show ¬ ((X[m]:Nat):Int)<(Y[m]:Nat) by omega];refine aV .nil cA a_ ?_;simp only[go_sem,aeJ,cF X l,cF Y u];by_cases N:X[m]>Y[m]
   ·simp only[go_sem,show ((X[m]:Nat):Int)>(Y[m]:Nat) by omega,aeK];refine aR (.inr rfl) Ev ?_;have:=r8 I u l j.symm N;rw[ex,x] at this;have O:¬ val xs<val e:=Om;simp[cB,eQ,this,O]
   ·simp only[go_sem,show ¬ ((X[m]:Nat):Int)>(Y[m]:Nat) by omega,aeL];refine aG m ⟨by omega,Et l u j Om⟩ Om ?_ a_
    (repeat' (first|exact c_|refine d_ ?_ ?_))<;>first|(simp only[go_sem,wrap_i64 (Om:-9223372036854775808≤(m:Int)-1) (Om:(m:Int)-1≤9223372036854775807)]<;>rfl)|rfl
 ·have:k=0:=Om;subst this;have A:¬ ((0:Nat):Int)-1≥0:=by decide
  simp only[go_sem,A,aeM];refine aR (.inr rfl) Ev ?_;rw[a9R,a9R] at j;have:val xs=val e:=by rw[← ex,← x,j]
  simp[cB,eQ,this]
theorem IX (n:Nat):(((n:Nat):Int)==0)=decide (n=0):=by
 by_cases h:n=0
 ·subst h; rfl
 ·rw[bD Om,decide_eq_false h]
structure Pw (C:Ctx):Prop extends uN C where
 make:∀ v:Nat,v<18446744073709551616→aH C 35 [.int .u64 v] .nil (aI (aK (aJ v)))
 large:∀ xs,Lim xs→xs.length≤35184372087808→aH C 41 [aK xs] .nil (aI (.bool (decide (nl (val xs)>512))))
 cmp:∀ xs ys,Lim xs→Lim ys→xs.length≤35184372087808→ys.length≤35184372087808→aH C 32 [aK xs,aK ys] .nil (aI (.int .i64 (eQ (val xs) (val ys))))
def aEB (a b:Nat):PF:=((PF.nil.set 6 (aK (aJ a))).set 7 (aK (aJ b)))
structure qz (C:Ctx):Prop extends Pw C where
 divide:∀ A B:Nat,B≠0→nl A≤512→nl B≤512→aH C 39 [aK (aJ A),aK (aJ B)] .nil (aI (vS A B))
def aAY (a b:Nat):PV:=if fD a b then .tup [aK [],.int .i64 2] else .tup [aK (aJ (a8I a b)),.int .i64 0]
theorem aWL {C:Ctx} (L:qz C) (a b:List Nat) (w:Lim a) (hb:Lim b) (B:a.length≤35184372087808) (E:b.length≤35184372087808) :
  ZE.wp C (aT aQM.res (cP (aAY (val a) (val b)))) (PF.args [aK a,aK b]) .nil:=by
 unfold aAY;simp only[go_sem,ZE,awK,awL,aQM];refine aB (L.large a w B) rfl ?_;by_cases e:nl (val a)>512
 ·simp only[go_sem,e,Dv];rw[if_pos (by simp[fD,e])];exact gG rfl
 simp only[go_sem,e];refine aB (L.large b hb E) rfl ?_;by_cases j:nl (val b)>512
 ·simp only[go_sem,j,Dv];rw[if_pos (by simp[fD,j])];exact gG rfl
 rw[if_neg (by simp[fD,e,j])];simp only[go_sem,j,awM];refine aB (L.trim a w B) rfl ?_;simp only[go_sem];refine aB (L.trim b hb E) rfl ?_;simp only[go_sem];refine wp_loop (α:=Nat × Nat) (fun t=>aEB t.1 t.2) (fun _=>.nil) (fun t=>a8I t.1 t.2=a8I (val a) (val b)∧nl t.1≤512∧nl t.2≤512) (fun t=>t.2) (val a,val b) ⟨rfl,by simp only; omega,by simp only; omega⟩ ?_ a_ ?_
 ·unfold aEB;exact Lq
 rintro⟨x,y⟩ ⟨u,F,A⟩;simp only at u F A;simp only[go_sem,awJ,awN,aEB,bC];by_cases l:y=0
 ·subst l;have:¬ ((nl 0:Nat):Int)>0:=by rw[FK]; decide
  simp only[go_sem,this,awQ];refine bA (vs:=[aK (aJ x),.int .i64 0]) (.inr rfl) .nil rfl a_ ⟨?_,rfl⟩;rw[← u,Nat.gcd_zero_right];exact .refl _
 ·have I:nl y≠0:=fun h=>l (kX.1 h);have:((nl y:Nat):Int)>0:=Om;simp only[go_sem,this,awO];refine aB (L.divide x y l Om Om) rfl ?_;simp only[go_sem,vS,awP];have hlt:x%y<y:=baC _ (baV l);refine aG (y,x%y) ⟨?_,A,?_⟩ hlt ?_ a_
  ·simp only;rw[← u,Nat.gcd_comm y,← Nat.gcd_rec y x,Nat.gcd_comm]
  ·have:=jK (Nat.le_of_lt hlt);simp only; omega
  ·exact Lq
theorem aWK {C:Ctx} (L:qz C) (a b:List Nat) (w:Lim a) (hb:Lim b) (x:a.length≤35184372087808) (u:b.length≤35184372087808) :
  ZB.wp C (aT udiv.res (cP (rG (val a) (val b)))) (PF.args [aK a,aK b]) .nil:=by
 unfold rG;simp only[go_sem,ZB,awC,awD,udiv];refine aB (L.large a w x) rfl ?_;by_cases j:nl (val a)>512
 ·simp only[go_sem,j,Dt];rw[if_pos (by simp[fD,j])];exact xP rfl
 simp only[go_sem,j];refine aB (L.large b hb u) rfl ?_;by_cases l:nl (val b)>512
 ·simp only[go_sem,l,Dt];rw[if_pos (by simp[fD,l])];exact xP rfl
 rw[if_neg (by simp[fD,j,l])];simp only[go_sem,l,awE];refine aB (L.trim b hb u) rfl ?_;simp only[go_sem,a8E,bC,IX,kX];by_cases e:val b=0
 ·rw[if_pos e];simp only[go_sem,decide_eq_true e,awF];exact xP rfl
 rw[if_neg e];simp only[go_sem,decide_eq_false e,awG];refine aB (L.trim a w x) rfl ?_;simp only[go_sem];refine aB (L.trim b hb u) rfl ?_;simp only[go_sem];refine aB (L.divide (val a) (val b) e Om Om) rfl ?_;simp only[go_sem,vS,awH];exact bA (.inr rfl) .nil rfl a_ ⟨.refl _,rfl⟩
def qX (neg:Bool) (a b:Nat):FV:=(neg&&decide (a/a8I a b≠0),a/a8I a b,b/a8I a b)
structure Px (C:Ctx):Prop extends qz C where
 gcd:∀ a b,Lim a→Lim b→a.length≤35184372087808→b.length≤35184372087808→aH C 34 [aK a,aK b] .nil (aI (aAY (val a) (val b)))
 div:∀ a b,Lim a→Lim b→a.length≤35184372087808→b.length≤35184372087808→aH C 33 [aK a,aK b] .nil (aI (rG (val a) (val b)))
theorem yU {n:Nat} (h:nl n≤512):(aJ n).length≤35184372087808:=by rw[bC]; omega
theorem BY:aJ 1=[1]:=sZ (by decide) (by decide)
theorem tq {n:Nat} (h:n≠0):aJ n=n%4294967296::aJ (n/4294967296):=xN h
theorem GJ {n:Nat} (h:n≠0):(nl n>1∨n%4294967296>1)↔n≠1:=by
 constructor
 ·rintro h1 rfl;rcases h1 with h1 | h1
  ·rw[nl,BY] at h1; simp at h1
  ·omega
 ·intro h1;by_cases c:nl n>1
  ·exact .inl c
  ·have:n<4294967296 ^ 1:=(lS n 1).1 Om;rw[Nat.pow_one] at this;rw[a9V this];exact .inr Om
theorem aEO {C:Ctx} (L:Px C) (neg:Bool) (a b:List Nat) (Y:Lim a) (hb:Lim b) (la:a.length≤35184372087808) (lb:b.length≤35184372087808) (E:nl (val a)≤512) (A:nl (val b)≤512) (I:val b≠0) :
  HJ.wp C (aT D0.res (cP (.agg (qX neg (val a) (val b)).rf.cells))) (PF.args [.bool neg,aK a,aK b]) .nil:=by
 have j:a8I (val a) (val b)≠0:=fun h=>I (Nat.eq_zero_of_gcd_eq_zero_right h);have M:a8I (val a) (val b)≤val b:=Nat.gcd_le_right _ (baV I);have R:nl (a8I (val a) (val b))≤512:=baK (jK M) A;have N:fD (val a) (val b)=false:=kV E A;simp only[go_sem,HJ,yy,yz,D0];refine aO fun o ho=>?_;simp only[go_sem];refine aB (L.trim a Y la) rfl ?_;simp only[go_sem];refine aB (L.trim b hb lb) rfl ?_;simp only[go_sem,y6,a8E,bC,IX,kX];by_cases B:val a=0
 ·simp only[go_sem,decide_eq_true B,y7];have e:(qX neg (val a) (val b)).rf=⟨false,[],[1]⟩:=by rw[B];unfold qX FV.rf;simp[jD,Nat.div_self (baV I),BY]
  rw[e];refine bA (vs:=[.agg [.bool false,.aD,aK [1]]]) (.inr rfl) .nil ?_ a_ ⟨show Co (.agg _) (.agg _) from CoL.agg (CoL.cons (.refl _) (CoL.cons (.nil 1) (CoL.cons (.refl _) .nil))),rfl⟩;simp only[go_sem];rfl
 have l:=L.gcd (aJ (val a)) (aJ (val b)) (aX _) (aX _) (yU E) (yU A);rw[aU,aU,aAY,N] at l;simp only[go_sem,decide_eq_false B,y8];refine aB l rfl ?_;have fin:∀ x y:Nat,x=val a/a8I (val a) (val b)→y=val b/a8I (val a) (val b)→∀ (F:PF) (H:PH),F 0=some (.bool neg)→F 1=some (aK (aJ x))→F 2=some (aK (aJ y))→F 6=some (.ptr o 3 0 0)→H o=some (.rows 3 [[.bool false,.aD,.aD]]) →
   aC.wp C (.seq (.region EM) .ret) (aT [.cell 6 (some 3)] (cP (.agg (qX neg (val a) (val b)).rf.cells))) F H:=by
  intro x y O Z F H f0 f1 f2 f6 J;subst O; subst Z;simp only[go_sem,EM,f0,f1,f2,f6,J];have hq:val a/a8I (val a) (val b)≠0:=by have:=Nat.div_pos (Nat.gcd_le_left (val b) (baV B)) (baV j);omega
  have e:(qX neg (val a) (val b)).rf=⟨neg,aJ (val a/a8I (val a) (val b)),aJ (val b/a8I (val a) (val b))⟩:=by unfold qX FV.rf;simp only[hq,ne_eq,not_false_eq_true,decide_true,baI]
  rw[e];refine bA (vs:=[.agg (fS neg (aJ (val a/a8I (val a) (val b))) (aJ (val b/a8I (val a) (val b))))]) (.inr rfl) .nil ?_ a_ ⟨.refl _,rfl⟩;simp only[go_sem,f6]
 simp only[aC.wp,go_sem] at fin;have K:=fun x (O:nl x≤512)=>L.div (aJ x) (aJ (a8I (val a) (val b))) (aX _) (aX _) (yU O) (yU R);simp only[aU,rG] at K;have tail:a8I (val a) (val b)≠1→∀ (F:PF) (H:PH),F 0=some (.bool neg)→F 1=some (aK (aJ (val a)))→F 2=some (aK (aJ (val b)))→F 6=some (.ptr o 3 0 0)→F 7=some (aK (aJ (a8I (val a) (val b))))→H o=some (.rows 3 [[.bool false,.aD,.aD]]) →
   aC.wp C (.seq (.seq (.region TI) (.region TJ)) (.seq (.region EM) .ret)) (aT [.cell 6 (some 3)] (cP (.agg (qX neg (val a) (val b)).rf.cells))) F H:=by
  intro _ F H f0 f1 f2 f6 f7 J;have V:=K (val a) E;have W:=K (val b) A;rw[kV E R,if_neg j] at V;rw[kV A R,if_neg j] at W;simp only[go_sem,TI,f1,f7];refine aB V rfl ?_;simp only[go_sem,bbH,TJ,f2,f7];refine aB W rfl ?_;simp only[go_sem,bbH];exact fin _ _ rfl rfl _ _ (by simp only[go_sem,f0]) rfl rfl (by simp only[go_sem,f6]) J
 simp only[aC.wp,go_sem] at tail;simp only[go_sem,bbH,y9,a8E,bC];by_cases S:nl (a8I (val a) (val b))>1
 ·have u:((nl (a8I (val a) (val b)):Nat):Int)>1:=Om;simp only[go_sem,u];exact tail ((GJ j).1 (.inl S)) _ _ rfl rfl rfl rfl rfl Sq
 ·have u:¬ ((nl (a8I (val a) (val b)):Nat):Int)>1:=Om;simp only[go_sem,u,tq j];by_cases U:a8I (val a) (val b)%4294967296>1
  ·have w:((a8I (val a) (val b)%4294967296:Nat):Int)>1:=Om;simp only[go_sem,w];exact tail ((GJ j).1 (.inr U)) _ _ rfl rfl rfl rfl (by simp only[go_sem,tq j]) Sq
  ·have w:¬ ((a8I (val a) (val b)%4294967296:Nat):Int)>1:=Om;have X:a8I (val a) (val b)=1:=by
    rcases Decidable.em (a8I (val a) (val b)=1) with h | h
    ·exact h
    ·rcases (GJ j).2 h with h | h
     ·exact absurd h S
     ·exact absurd h U
   simp only[go_sem,w];exact fin (val a) (val b) (by rw[X,Nat.div_one]) (by rw[X,Nat.div_one]) _ _ rfl rfl rfl rfl Sq
theorem aRF {C:Ctx} (v:Int) (w:-9223372036854775808≤v) (x:v≤9223372036854775807) :
  TN.wp C (aT aES.res (aI (.int .u64 (v.natAbs:Nat)))) (PF.args [.int .i64 v]) .nil:=by
 simp only[go_sem,TN,agS,agT,aES];by_cases c:v<0
 ·have j:IntKind.i64.wrap (v+1)=v+1:=wrap_i64 Om Om;have l:IntKind.i64.wrap (0-(v+1))=-(v+1):=by rw[wrap_i64 Om Om]; omega
  have u:IntKind.u64.wrap (IntKind.u64.wrap (-(v+1))+1)=(v.natAbs:Int):=by rw[jL,jL]; omega
  simp only[go_sem,c,agU,j,l,u];refine aR (.inr rfl) rfl ?_;rfl
 ·have e:IntKind.u64.wrap v=(v.natAbs:Int):=by rw[jL]; omega
  simp only[go_sem,c,agV,e];refine aR (.inr rfl) rfl ?_;rfl
structure azJ (C:Ctx):Prop extends Px C where
 lowest:∀ neg a b,Lim a→Lim b→a.length≤35184372087808→b.length≤35184372087808→nl (val a)≤512→nl (val b)≤512→val b≠0→aH C 58 [.bool neg,aK a,aK b] .nil (aI (.agg (qX neg (val a) (val b)).rf.cells))
 size:∀ v:Int,eJ v→aH C 59 [.int .i64 v] .nil (aI (.int .u64 (v.natAbs:Nat)))
def mkT (n d:Int):RF:=(qX (decide (n<0) != decide (d<0)) n.natAbs d.natAbs).rf
def CH (n d:Int):PV:=if d=0 then HX 3 else .tup [.agg (mkT n d).cells,.int .i64 0]
theorem aRC {C:Ctx} (L:azJ C) (n d:Int) (e:eJ n) (j:eJ d) :
  TK.wp C (aT Pi.res (cP (CH n d))) (PF.args [.int .i64 n,.int .i64 d]) .nil:=by
 simp only[go_sem,TK,agE,agF];refine aO fun o l=>?_;unfold CH;by_cases c:d=0
 ·subst c;simp only[go_sem,agG];refine kW ?_;simp only[go_sem,Pi]
 ·rw[if_neg c];simp only[go_sem,bD c,agH];refine aB (L.size n e) rfl ?_;simp only[go_sem];refine aB (L.make n.natAbs Om) rfl ?_;simp only[go_sem];refine aB (L.size d j) rfl ?_;simp only[go_sem];refine aB (L.make d.natAbs Om) rfl ?_;simp only[go_sem];have u:nl n.natAbs≤2:=sN Om;have w:nl d.natAbs≤2:=sN Om;have low:=L.lowest (decide (n<0) != decide (d<0)) (aJ n.natAbs) (aJ d.natAbs) (aX _) (aX _) (by rw[bC]; omega) (by rw[bC]; omega);rw[aU,aU] at low;have low:=low Om Om Om;refine aB low rfl ?_;simp only[go_sem];exact bA (.inr rfl) .nil (vs:=[.agg (mkT n d).cells,.int .i64 0]) (by simp only[go_sem,Pi]; rfl) a_ ⟨.refl _,rfl⟩
structure q9 (C:Ctx):Prop extends azJ C where
 fmk:∀ n d:Int,eJ n→eJ d→aH C 50 [.int .i64 n,.int .i64 d] .nil (aI (CH n d))
theorem axS {C:Ctx} (L:q9 C) (n:Int) (u:eJ n) :
  ZR.wp C (aT aRA.res (cP (.agg (mkT n 1).cells))) (PF.args [.int .i64 n]) .nil:=by
 simp only[go_sem,ZR,axT,axU,aRA];refine aO fun o w=>?_;simp only[go_sem];refine aB (L.fmk n 1 u (by unfold eJ; omega)) rfl ?_;unfold CH;rw[if_neg (by decide)];simp only[go_sem];refine aO fun p l=>?_;have e:o≠p:=by rintro rfl;simp only[aS,if_true] at l;cases l
 have j:p≠o:=fun h=>e h.symm;simp only[go_sem,e,axV];refine bA (vs:=[.agg (mkT n 1).cells]) (.inr rfl) .nil ?_ a_ ⟨.refl _,rfl⟩;simp only[go_sem,j]
def aL (l:List Nat) (n a:Nat):Nat × Nat:=if l.length≤a∨n<2 then (0,a) else (l.getD a 0%n,a+1)
theorem hY (l:List Nat) {n:Nat} (h:0<n) (a:Nat):(aL l n a).1<n:=by
 unfold aL;split
 ·exact h
 ·exact baC _ h
theorem cE (l:List Nat) (n:Nat) {a:Nat} (h:a≤l.length):(aL l n a).2≤l.length:=by
 unfold aL;split
 ·exact h
 ·simp only; omega
def jH (l:List Nat) (a:Nat):RF × Nat :=
 let x:=aL l 6 a
 let y:=aL l 8 x.2
 (mkT ((1+x.1:Nat):Int) ((1+y.1:Nat):Int),y.2)
abbrev pZ:RF:=mkT 0 1
def oP (l:List Nat) (i j a:Nat):RF × Nat :=
 if j=i+1 then jH l a
 else if j=i then (pZ,a)
 else let t:=aL l 3 a
  if t.1=0 then jH l t.2 else (pZ,t.2)
def gD (l:List Nat) (i a:Nat):Nat→List RF × Nat
 | 0=>([],a)
 | j+1=>let s:=gD l i a j
  let z:=oP l i j s.2
  (s.1++[z.1],z.2)
structure NS where
 start:List RF
 exit:List RF
 a6U:List (List RF)
 left:Nat
 a:Nat
def fY (l:List Nat) (n i:Nat) (s:NS):Nat × Nat:=if i+1<n then aL l (s.left+1) s.a else (s.left,s.a)
def jQ (l:List Nat) (n i a:Nat):RF × Nat :=
 let e:=jH l a
 if i+1<n then (let t:=aL l 3 e.2; (if t.1=0 then pZ else e.1,t.2)) else e
def lF (l:List Nat) (n a:Nat):Nat→NS
 | 0=>⟨[],[],[],8,a⟩
 | i+1=>let s:=lF l n a i
  let k:=fY l n i s
  let e:=jQ l n i k.2
  let r:=gD l i e.2 n
  ⟨s.start++[mkT (k.1:Nat) 8],s.exit++[e.1],s.a6U++[r.1],s.left-k.1,r.2⟩
def GP (l:List Nat) (fW a:Nat):dC × Nat :=
 let t:=aL l fW a
 let s:=lF l (1+t.1) t.2 (1+t.1)
 (⟨[],s.start,s.a6U,s.exit⟩,s.a)
def rN (l:List Nat) (a:Nat):Nat→List RF × Nat
 | 0=>([],a)
 | k+1=>let s:=rN l a k
  let z:=jH l s.2
  (s.1++[z.1],z.2)
abbrev dU (n:Nat):List UInt8:=Lib.decDigits n
def sI (l:List Nat) (a:Nat):Nat→List dC × Nat
 | 0=>([],a)
 | k+1=>let s:=sI l a k
  let z:=GP l 2 s.2
  (s.1++[{ z.1 with name:=[108,97,119]++dU k }],z.2)
def lN (l:List Nat) (a6X a:Nat):Nat→List dN × Nat
 | 0=>([],a)
 | k+1=>let s:=lN l a6X a k
  let x:=aL l 4 s.2
  let y:=aL l 8 x.2
  let z:=aL l a6X y.2
  (s.1++[⟨[109]++dU k,(1+x.1:Nat),(1+y.1:Nat),(z.1:Nat)⟩],z.2)
structure GS where
 a6Z:List dB
 a7J:List eT
 a:Nat
def pW (l:List Nat) (mc a6P e:Nat) (s:GS):Nat→GS
 | 0=>s
 | i+1=>let s:=pW l mc a6P e s i
  if s.a7J.length<a6P then
   let t:=aL l mc s.a
   { s with a7J:=s.a7J++[⟨[100]++dU s.a7J.length,(t.1:Nat),(e:Nat)⟩],a:=t.2 }
  else s
def sY (level:Nat):UInt8:=match level with
 | 0=>45
 | 1=>115
 | 2=>114
 | 3=>107
 | _=>109
def zV (l:List Nat) (level e:Nat) (s:GS):GS :=
 let u:=aL l 16 s.a
 let t:=aL l 3 u.2
 let k:=aL l 6 t.2
 let sh:RF × Nat:=if t.1=0 then (mkT 1 ((2+k.1:Nat):Int),k.2) else (pZ,t.2)
 { s with a6Z:=s.a6Z++[⟨[sY level]++dU s.a6Z.length,(level:Nat),(e:Nat),(1+u.1:Nat),sh.1⟩],a:=sh.2 }
def yM (a6P:Nat) (s:GS):Bool:=decide (a6P≤s.a7J.length)||decide (35≤s.a6Z.length)
def mG (l:List Nat) (level a6P e:Nat) (rec:Nat→GS→GS) (s:GS):Nat→GS
 | 0=>s
 | i+1=>let s:=mG l level a6P e rec s i
  if yM a6P s then s else (let s':=zV l level e s; rec (s'.a6Z.length-1) s')
def jC (l:List Nat) (mc a6P:Nat):Nat→Nat→GS→GS
 | 0,e,s=>let t:=aL l 2 s.a
  pW l mc a6P e { s with a:=t.2 } (1+t.1)
 | k+1,e,s=>let t:=aL l 2 s.a
  mG l (4-k) a6P e (jC l mc a6P k) { s with a:=t.2 } (if 4-k=2 then 1 else 1+t.1)
def BH:dB:=⟨[],0,-1,0,pZ⟩
def pF (l:List Nat) (a:Nat):Int × Nat :=
 let t:=aL l 3 a
 let k:=aL l 3 t.2
 if t.1=0 then ((1+k.1:Nat),k.2) else (0,t.2)
def AG (l:List Nat) (a6Q i a:Nat):dX × Nat :=
 let k:=aL l 2 a
 let m:=aL l 3 k.2
 let h:=aL l 4 m.2
 let q:=aL l (m.1+1) h.2
 let r:=rN l q.2 (max m.1 1)
 let g:=aL l 9 r.2
 let s1:=pF l g.2
 let s2:=pF l s1.2
 let s3:=pF l s2.2
 let s4:=pF l s3.2
 let f:=aL l a6Q s4.2
 let b:=aL l 2 f.2
 let ms:List Int × Nat:=if 1<a6Q then (if b.1=0 then ([(f.1:Int),1-(f.1:Int)],b.2) else ([(f.1:Int)],b.2)) else ([(f.1:Int)],f.2)
 (⟨[112]++dU i,(1+k.1:Nat),(m.1:Nat),(1+k.1+q.1:Nat),0,s1.1,s2.1,s3.1,s4.1,ms.1,r.1,mkT (g.1:Nat) 8,mkT ((1+h.1:Nat):Int) 1⟩,ms.2)
def jX (l:List Nat) (a6Q a:Nat):Nat→List dX × Nat
 | 0=>([],a)
 | k+1=>let s:=jX l a6Q a k
  let z:=AG l a6Q k s.2
  (s.1++[z.1],z.2)
def lH (l:List Nat) (pols a:Nat):Nat→List fZ × Nat
 | 0=>([],a)
 | k+1=>let s:=lH l pols a k
  let z:=aL l pols s.2
  (s.1++[⟨[118]++dU k,(z.1:Nat)⟩],z.2)
def pP (l:List Nat) (a6P a6R a:Nat):aE × Nat :=
 let e:=aL l 2 a
 let u:=aL l 2 e.2
 let a6X:=sI l u.2 (1+u.1)
 let j:=aL l 2 a6X.2
 let a6Q:=lN l (1+u.1) j.2 (1+j.1)
 let g:=jC l (1+j.1) a6P 4 0 ⟨[BH],[],a6Q.2⟩
 let pl:=aL l 2 g.a
 let pols:=jX l (1+j.1) pl.2 (1+pl.1)
 let w:=aL l (a6R+1) pols.2
 let vols:=lH l (1+pl.1) w.2 w.1
 (⟨(1+e.1:Nat),a6X.1,a6Q.1,g.a6Z,g.a7J,pols.1,vols.1⟩,vols.2)
abbrev sP (l:List Nat):List (List PV):=l.map fun (n:Nat)=>[PV.int .u8 (n:Int)]
theorem ZL (l:List Nat):(sP l).length=l.length:=by simp
theorem aQU (l:List Nat) {i:Nat} (h:i<l.length):(sP l)[i]?=some [.int .u8 (l[i]:Nat)]:=by simp[h]
abbrev bW (v:PV) (a:Nat):bZ:=.rows 2 [[v,.int .i64 a]]
structure Tp (l:List Nat) (v:PV):Prop where
 seen:Seen 1 v (sP l)
 byte:∀ x∈l,x<256
 len:l.length≤400
def azH (l:List Nat) (r:PV) (H:PH):Prop:=∃ o v,r=.ptr o 2 0 0∧Tp (l.take 400) v∧H=PH.nil.set o (bW v 0)
theorem Oq {t q s:Nat} {rs:List (List PV)} {F:PF} {H H2:PH} {R:PV→PH→Prop} {v:PV} {e:mY} (he:e=.normal∨e=.ret) (A:F t=some v) (hq:H q=some (.rows s rs)) (x:H2.le (H.frz q s rs)) (y:R (PV.frz q s rs v) H2):aT [.tmp t] R e F H:=by
 have j:∃ vs,eS.evs F H [.tmp t]=some vs∧∃ l w H2,kP (PF.nil.set 0 (cB vs)) H l w∧H2.le w∧∃ u,l 0=some u∧R u H2:=by refine⟨[v],by rw[nZ,rO,A,tE],_,_,H2,.step q hq (.refl _ _),x,PV.frz q s rs v,?_,y⟩;rw[rM,oJ,if_pos rfl,a9J];rfl
 rcases he with rfl | rfl<;>exact j
theorem aUT {C:Ctx} (l:List Nat) (hb:∀ x∈l,x<256) (O:l.length≤9223372036854775807):WW.wp C (aT aOG.res (azH l)) (PF.args [.sl 1 (sP l)]) .nil:=by
 simp only[go_sem,WW,apT,apU,aOG,a8E];have fin:∀ F:PF,F 0=some (.sl 1 (sP (l.take 400)))→aC.wp C (.seq (.region Cl) .ret) (aT [.tmp 2] (azH l)) F .nil:=by
  intro F f0;have y:(l.take 400).length≤400:=by rw[a8W]; omega
  have w:∀ x∈l.take 400,x<256:=fun x M=>hb x (List.mem_of_mem_take M);have A:∀ o v,Seen 1 v (sP (l.take 400))→azH l (.ptr o 2 0 0) (PH.nil.set o (bW v 0)):=fun o v K=>⟨o,v,rfl,⟨K,w,y⟩,rfl⟩;generalize N:l.take 400=L at *
  simp only[go_sem,Cl,f0];refine HP (src:=sP L) rfl ?_ (fun h=>?_) fun h o I=>?_
  ·unfold roomFor;rw[ZL];simp only[maxLen]; omega
  ·simp only[go_sem,a8S,a9D,or_false,forall_eq];refine aO fun o I=>?_;simp only[go_sem];exact bA (vs:=[.ptr o 2 0 0]) (.inr rfl) (PH.nil.set o (bW .aD 0)) rfl b_ (A o .aD (.inl ⟨h,rfl⟩))
  ·simp only[go_sem,a8S,a9D,or_false,forall_eq];refine aO fun p J=>?_;have e:¬ p=o:=(lK.1 J).1;have j:¬ o=p:=fun h=>e h.symm;simp only[go_sem];refine Oq (v:=.ptr p 2 0 0) (q:=o) (s:=1) (rs:=sP L) (H2:=PH.nil.set p (bW (.sl 1 (sP L)) 0)) (.inr rfl) rfl (by simp only[go_sem,j]) (e_ a_ ?_) (A p _ (.inr rfl));have E:(sP L).take L.length=sP L:=a8V (by rw[ZL]; exact a8J _);simp only[go_sem,e,bZ.frz,PV.cQ,a8E,E];rfl
 simp only[aC.wp,go_sem] at fin;by_cases c:l.length>400
 ·have u:(l.length:Int)>400:=Om;have B:(400:Int)≤(l.length:Int):=Om;simp only[go_sem,u,apV,a8E,B];refine fin _ ?_;rw[oJ,if_pos rfl];simp[sP]
 ·have u:¬ (l.length:Int)>400:=Om;simp only[go_sem,u];refine fin _ ?_;rw[a8V Om];simp only[go_sem]
def qu (l:List Nat) (v:PV) (o n a:Nat) (r:PV) (H:PH):Prop:=r=.int .i64 ((aL l n a).1:Nat)∧H=PH.nil.set o (bW v (aL l n a).2)
theorem aOH {C:Ctx} {l:List Nat} {v:PV} (T:Tp l v) (o n a:Nat) (U:n≤1000000) (R:a≤l.length):DW.wp C (aT Pa.res (qu l v o n a)) (PF.args [.ptr o 2 0 0,.int .i64 n]) (PH.nil.set o (bW v a)):=by
 obtain⟨N,hb,S⟩:=T;have zero:(l.length≤a∨n<2)→∀ F,aC.wp C (.seq (.region l8) .ret) (aT [.tmp 4] (qu l v o n a)) F (PH.nil.set o (bW v a)):=by
  intro h F;have e:aL l n a=(0,a):=by unfold aL; rw[if_pos h]
  simp only[go_sem,l8];exact bA (vs:=[.int .i64 0]) (.inr rfl) _ rfl b_ ⟨by rw[e]; rfl,by rw[e]⟩
 simp only[aC.wp,go_sem] at zero;rcases N with ⟨K,rfl⟩ | rfl
 ·have O:l.length=0:=by rw[← ZL,K]; rfl
  have x:(a:Int)≥0:=Om;simp only[go_sem,DW,l7,Pa];refine aV .nil cA a_ ?_;simp only[go_sem,QJ,x];exact zero (.inl Om) _
 simp only[go_sem,DW,l7,Pa];refine aV .nil cA a_ ?_;by_cases A:l.length≤a
 ·have j:(a:Int)≥(l.length:Nat):=Om;simp only[go_sem,QJ,a8E,j];exact zero (.inl A) _
 have j:¬ (a:Int)≥(l.length:Nat):=Om;simp only[go_sem,QJ,a8E,j];by_cases B:n<2
 ·have u:(n:Int)<2:=Om;simp only[go_sem,u];exact zero (.inr B) _
 have u:¬ (n:Int)<2:=Om;have w:a<l.length:=Om;have e:aL l n a=(l[a]%n,a+1):=by unfold aL;rw[if_neg Om];simp[a8M,w]
 have J:IntKind.i64.wrap ((a:Int)+1)=((a+1:Nat):Int):=dW Om;have I:IntKind.i64.wrap (((a+1:Nat):Int)-1)=((a:Nat):Int):=by rw[wrap_i64 Om Om]; omega
 have M:=aQU l w;have V:=hb _ (a8G w);have E:IntKind.i64.wrap ((l[a]:Nat):Int)=((l[a]:Nat):Int):=qb Om;have y:¬ ((n:Nat):Int)=0:=Om;have em:Int.tmod ((l[a]:Nat):Int) ((n:Nat):Int)=((l[a]%n:Nat):Int):=rfl;simp only[go_sem,u,Xo,J];refine aV .nil cA a_ ?_;simp only[go_sem,Xp,I,M,E,y,em];exact bA (vs:=[.int .i64 (l[a]%n:Nat)]) (.inr rfl) _ rfl b_ ⟨by rw[e]; rfl,by rw[e]⟩
def PV.oid:PV→Option Nat
 | .osl q _ _ _=>some q
 | _=>none
abbrev LI:=PV × Nat × List (List PV)
abbrev BX:=Nat × bZ
def eZ (B:List BX):List Nat:=B.map (·.1)
def eF (L:List LI):List Nat:=L.filterMap fun x=>x.1.oid
structure aM (H:PH) (B:List BX) (L:List LI):Prop where
 box:∀ b∈B,H b.1=some b.2
 lst:∀ x∈L,cR H x.2.1 x.1 x.2.2
 nd:(eZ B++eF L).Nodup
section
variable {C:Ctx} {H:PH} {B:List BX} {L:List LI} {K:PV→PH→Prop}
theorem cR.id {s q:Nat} {v:PV} {rows:List (List PV)} (h:cR H s v rows) (hq:v.oid=some q):∃ rs,H q=some (.rows s rs)∧v=.osl q s 0 rows.length∧rows.length≤rs.length∧rs.take rows.length=rows:=by
 rcases h with ⟨_,rfl⟩ | ⟨p,rs,rfl,h1,h2,h3⟩
 ·cases hq
 ·cases hq;exact⟨rs,h1,rfl,h2,h3⟩
theorem cR.same {s:Nat} {v:PV} {rows:List (List PV)} {H':PH} (h:cR H s v rows) (e:∀ q,v.oid=some q→H' q=H q):cR H' s v rows:=by
 rcases h with h | ⟨p,rs,rfl,h1,h2,h3⟩
 ·exact .inl h
 ·exact .inr ⟨p,rs,rfl,by rw[e p rfl]; exact h1,h2,h3⟩
theorem pS {x:LI} {q:Nat} (h:x∈L) (hq:x.1.oid=some q):q∈eF L:=List.mem_filterMap.2 ⟨x,h,hq⟩
theorem AE {b:BX} (h:b∈B):b.1∈eZ B:=a9G.2 ⟨b,h,rfl⟩
theorem aM.nil:aM H [] []:=⟨by simp,by simp,by simp[eZ,eF]⟩
theorem aM.at (h:aM H B L) (i:Nat) {o:Nat} {x:bZ} (hi:B[i]?=some (o,x)):H o=some x:=h.box _ (baA hi)
theorem aM.own (h:aM H B L) (i:Nat) {s:Nat} {v:PV} {rows:List (List PV)} (hi:L[i]?=some (v,s,rows)):cR H s v rows:=h.lst _ (baA hi)
theorem aM.ndB (h:aM H B L):(eZ B).Nodup:=(bbG.1 h.nd).1
theorem aM.ndL (h:aM H B L):(eF L).Nodup:=(bbG.1 h.nd).2.1
theorem aM.ndX (h:aM H B L) {o q:Nat} (e:o∈eZ B) (hq:q∈eF L):o≠q:=(bbG.1 h.nd).2.2 o e q hq
theorem aM.ne (h:aM H B L) (i j:Nat) {o p:Nat} {x y:bZ} (hi:B[i]?=some (o,x)) (M:B[j]?=some (p,y)) (l:i≠j):o≠p:=by
 intro e;have I:(eZ B)[i]?=some o:=by unfold eZ; rw[a8Y,hi]; rfl
 have J:(eZ B)[j]?=some p:=by unfold eZ; rw[a8Y,M]; rfl
 obtain⟨E,u⟩:=a9F.1 I;obtain⟨F,w⟩:=a9F.1 J;have A:=List.pairwise_iff_getElem.1 h.ndB;rcases Nat.lt_or_gt_of_ne l with g | g
 ·exact A i j E F g (by rw[u,w,e])
 ·exact A j i F E g (by rw[u,w,e])
theorem aM.neL (h:aM H B L) (i j:Nat) {o q:Nat} {x:bZ} {y:LI} (hi:B[i]?=some (o,x)) (e:L[j]?=some y) (hq:y.1.oid=some q):o≠q :=
 h.ndX (AE (baA hi)) (pS (baA e) hq)
theorem aM.fresh (h:aM H B L) {o:Nat} (j:H o=none):o ∉ eZ B∧o ∉ eF L:=by
 refine⟨fun l=>?_,fun l=>?_⟩
 ·obtain⟨b,hb,rfl⟩:=a9G.1 l;rw[h.box b hb] at j; cases j
 ·obtain⟨x,w,e⟩:=List.mem_filterMap.1 l;obtain⟨rs,u,_⟩:=(h.lst x w).id e;rw[u] at j; cases j
theorem aM.keep (h:aM H B L) {H':PH} (e:∀ q,q∈eZ B∨q∈eF L→H' q=H q):aM H' B L :=
 ⟨fun b hb=>by rw[e _ (.inl (AE hb))]; exact h.box b hb,fun x j=>(h.lst x j).same fun q hq=>e q (.inr (pS j hq)),h.nd⟩
theorem aNH {i:Nat} {o:Nat} {x y:bZ} (hi:B[i]?=some (o,x)):eZ (B.set i (o,y))=eZ B:=by
 unfold eZ;rw[List.map_set];refine List.ext_getElem? fun j=>?_;rw[bbV];split
 ·rename_i e;subst e;rw[a8Y,hi];have:=(a9F.1 hi).1;simp[this]
 ·rfl
theorem aM.set (h:aM H B L) (i:Nat) {o:Nat} {x:bZ} (hi:B[i]?=some (o,x)) (y:bZ):aM (H.set o y) (B.set i (o,y)) L:=by
 have w:o∈eZ B:=AE (baA hi);refine⟨fun b hb=>?_,fun z A=>(h.lst z A).same fun q hq=>?_,by rw[aNH hi]; exact h.nd⟩
 ·obtain⟨j,l⟩:=List.mem_iff_getElem?.1 hb;rw[bbV] at l;split at l
  ·split at l
   ·cases l; simp only[aS,if_true]
   ·cases l
  ·rename_i u;have:b.1≠o:=fun e=>h.ne i j hi (show B[j]?=some (b.1,b.2) from l) u e.symm;rw[aS,if_neg this];exact h.box b (baA l)
 ·have:q≠o:=fun e=>h.ndX w (pS A hq) e.symm;rw[aS,if_neg this]
theorem aM.new (h:aM H B L) {o:Nat} (u:H o=none) (y:bZ):aM (H.set o y) (B++[(o,y)]) L:=by
 obtain⟨f1,f2⟩:=h.fresh u;refine⟨fun b hb=>?_,fun z l=>(h.lst z l).same fun q hq=>?_,?_⟩
 ·rw[a9N,a9K] at hb;rcases hb with hb | rfl
  ·have:b.1≠o:=fun e=>f1 (e ▸ AE hb);rw[aS,if_neg this]; exact h.box b hb
  ·simp only[aS,if_true]
 ·have:q≠o:=fun e=>f2 (e ▸ pS l hq);rw[aS,if_neg this]
 ·have:=h.nd;simp only[eZ,a9U,a9T,bbA] at *
  rw[a9L,bbG] at *
  obtain⟨a,b,c⟩:=this;refine⟨a,?_,fun p j q hq=>?_⟩
  ·rw[List.singleton_append,List.nodup_cons]; exact⟨f2,b⟩
  ·rw[List.singleton_append,a8S] at hq;rcases hq with rfl | hq
   ·intro e; subst e; exact f1 j
   ·exact c p j q hq
theorem oW (L1 L2:List LI):eF (L1++L2)=eF L1++eF L2:=List.filterMap_append ..
theorem aM.kB (h:aM H B L) (s:Nat):aM H B (L++[(.aD,s,[])]):=by
 refine⟨h.box,fun z e=>?_,?_⟩
 ·rw[a9N,a9K] at e;rcases e with e | rfl
  ·exact h.lst z e
  ·exact .nil
 ·rw[oW,show eF [((.aD:PV),s,([]:List (List PV)))]=[] from rfl,a9W]; exact h.nd
theorem aM.Cy (h:aM H B L) {o s:Nat} {rows:List (List PV)} (l:H o=none):aM (H.set o (.rows s rows)) B (L++[(.osl o s 0 rows.length,s,rows)]):=by
 obtain⟨f1,f2⟩:=h.fresh l;have j:=h.keep (H':=H.set o (.rows s rows)) fun q hq=>by
  have:q≠o:=by rintro rfl; exact hq.elim f1 f2
  rw[aS,if_neg this]
 refine⟨j.box,fun z e=>?_,?_⟩
 ·rw[a9N,a9K] at e;rcases e with e | rfl
  ·exact j.lst z e
  ·exact .inr ⟨o,rows,rfl,by simp only[aS,if_true],a8J _,a9M⟩
 ·rw[oW,show eF [((.osl o s 0 rows.length:PV),s,rows)]=[o] from rfl,← a9L,bbG];refine⟨h.nd,by simp,fun p hp q hq=>?_⟩;rw[a9K] at hq;subst hq;rintro rfl;rcases a9N.1 hp with hp | hp
  ·exact f1 hp
  ·exact f2 hp
theorem Vg {i:Nat} {v v':PV} {s s':Nat} {rows rows':List (List PV)} (hi:L[i]?=some (v,s,rows)):∃ L1 L2,L=L1++(v,s,rows)::L2∧L.set i (v',s',rows')=L1++(v',s',rows')::L2:=by
 obtain⟨e,he⟩:=a9F.1 hi;refine⟨L.take i,L.drop (i+1),?_,?_⟩
 ·rw[← he,← baR e,bbC]
 ·rw[List.set_eq_take_append_cons_drop,if_pos e]
theorem aM.SO (h:aM H B L) (i:Nat) {s:Nat} {v:PV} {rows:List (List PV)} (hi:L[i]?=some (v,s,rows)) {s':Nat} {v':PV} {rows':List (List PV)} {H':PH} (R:cR H' s' v' rows')
  (I:∀ q,v'.oid=some q→v.oid=some q∨H q=none) (O:∀ q,q∈eZ B∨q∈eF L→(∀ p,v.oid=some p→q≠p)→H' q=H q):aM H' B (L.set i (v',s',rows')):=by
 obtain⟨L1,L2,M,N⟩:=Vg (v':=v') (s':=s') (rows':=rows') hi;rw[N];subst M;have j:=h.nd;have E:eF (L1++(v,s,rows)::L2)=eF L1++(v.oid.toList++eF L2):=by rw[oW];congr 1;unfold eF;rw[List.filterMap_cons];cases e:v.oid<;>simp
 have F:eF (L1++(v',s',rows')::L2)=eF L1++(v'.oid.toList++eF L2):=by rw[oW];congr 1;unfold eF;rw[List.filterMap_cons];cases e:v'.oid<;>simp
 rw[E] at j;have x:∀ q,q∈eZ B∨q∈eF L1∨q∈eF L2→∀ p,v.oid=some p→q≠p:=by
  intro q hq p w e;subst e;rw[w] at j;simp only[Option.toList_some] at j;rw[bbG] at j;obtain⟨a,b,c⟩:=j;rw[bbG] at b;obtain⟨J,y,A⟩:=b;rw[List.singleton_append,List.nodup_cons] at y;rcases hq with hq | hq | hq
  ·exact c q hq q (by simp) rfl
  ·exact A q hq q (by simp) rfl
  ·exact y.1 hq
 have l:∀ q,q∈eZ B∨q∈eF L1∨q∈eF L2→H' q=H q:=by
  intro q hq;refine O q ?_ (x q hq);rw[E];simp only[a9N];rcases hq with hq | hq | hq
  ·exact .inl hq
  ·exact .inr (.inl hq)
  ·exact .inr (.inr (.inr hq))
 refine⟨fun b hb=>by rw[l _ (.inl (AE hb))]; exact h.box b hb,fun z hz=>?_,?_⟩
 ·rw[a9N,a8S] at hz;rcases hz with hz | rfl | hz
  ·exact (h.lst z (by simp[hz])).same fun q hq=>l q (.inr (.inl (pS hz hq)))
  ·exact R
  ·exact (h.lst z (by simp[hz])).same fun q hq=>l q (.inr (.inr (pS hz hq)))
 ·rw[F];cases e:v'.oid with
  | none =>simp only[Option.toList_none,bbK];refine List.Nodup.sublist ?_ j;exact baE.append (baE.refl _) (baE.append (baE.refl _) (List.sublist_append_right _ _))
  | some q =>
   rcases I q e with S | hn
   ·rw[S] at j;exact j
   ·obtain⟨f1,f2⟩:=h.fresh hn;rw[E] at f2;simp only[a9N,not_or] at f2;have u:(eZ B++(eF L1++eF L2)).Nodup:=List.Nodup.sublist (baE.append (baE.refl _) (baE.append (baE.refl _) (List.sublist_append_right _ _))) j;simp only[Option.toList_some];rw[bbG] at u ⊢;obtain⟨a,b,c⟩:=u;rw[bbG] at b;obtain⟨J,y,A⟩:=b;refine⟨a,?_,?_⟩
    ·rw[bbG];refine⟨J,by rw[List.singleton_append,List.nodup_cons]; exact⟨f2.2.2,y⟩,fun p w r hr=>?_⟩;rw[List.singleton_append,a8S] at hr;rcases hr with rfl | hr
     ·rintro rfl; exact f2.1 w
     ·exact A p w r hr
    ·intro p w r hr;rw[a9N,List.singleton_append,a8S] at hr;rcases hr with hr | rfl | hr
     ·exact c p w r (by simp[hr])
     ·rintro rfl; exact f1 w
     ·exact c p w r (by simp[hr])
theorem aM.append (h:aM H B L) (i:Nat) {s b:Nat} {v y:PV} {rows src:List (List PV)} (hi:L[i]?=some (v,s,rows)) (E:fL H s y=some src) (A:roomFor rows.length src.length b)
  (w:∀ v' H',aM H' B (L.set i (v',s,rows++src))→(src≠[]→∃ q,v'=.osl q s 0 (rows++src).length)→K v' H'):oF H s b v y K:=by
 rcases h.own i hi with ⟨rfl,rfl⟩ | ⟨q,rs,rfl,h1,h2,h3⟩
 ·refine⟨src,E,A,fun e=>?_,fun e o u=>?_⟩
  ·subst e;refine w _ _ ?_ fun h=>absurd rfl h;exact h.SO i hi (.inl ⟨rfl,rfl⟩) (fun q hq=>by cases hq) fun q _ _=>rfl
  ·refine w _ _ (h.SO i hi (.inr ⟨o,src,rfl,by simp only[aS,if_true],a8J _,a9M⟩) (fun q hq=>by cases hq; exact .inr u) fun q hq _=>?_) fun _=>⟨o,rfl⟩;obtain⟨f1,f2⟩:=h.fresh u;have:q≠o:=by rintro rfl; exact hq.elim f1 f2
   rw[aS,if_neg this]
 ·have j:(rows++src).length=rows.length+src.length:=a8H;refine⟨src,E,rfl,rfl,A,rs,h1,h2,?_,fun o u=>?_⟩
  ·rw[h3];refine w _ _ (h.SO i hi (.inr ⟨q,rows++src,by rw[j],by simp only[aS,if_true],a8J _,a9M⟩) (fun p l=>by cases l; exact .inl rfl) fun p _ l=>?_) fun _=>⟨q,by rw[j]⟩;rw[aS,if_neg (l q rfl)]
  ·rw[h3];refine w _ _ (h.SO i hi (.inr ⟨o,rows++src,by rw[j],by simp only[aS,if_true],a8J _,a9M⟩) (fun p l=>by cases l; exact .inr u) fun p x l=>?_) fun _=>⟨o,by rw[j]⟩;obtain⟨f1,f2⟩:=h.fresh u;have F:p≠o:=by rintro rfl; exact x.elim f1 f2
   rw[aS,if_neg F]
theorem aM.sub (h:aM H B L) {B':List BX} {L':List LI} (hB:B'.Sublist B) (e:L'.Sublist L):aM H B' L' :=
 ⟨fun b hb=>h.box b (hB.subset hb),fun x j=>h.lst x (e.subset j),List.Nodup.sublist (baE.append (hB.map _) (e.filterMap _)) h.nd⟩
theorem aM.uQ (h:aM H B L) (i:Nat):aM H (B.eraseIdx i) L:=h.sub (List.eraseIdx_sublist ..) (baE.refl _)
theorem aM.be (h:aM H B L) (i:Nat):aM H B (L.eraseIdx i):=h.sub (baE.refl _) (List.eraseIdx_sublist ..)
end
section
variable {C:Ctx} {F:PF} {H:PH} {B:List BX} {L:List LI}
theorem aM.FP (h:aM H B L) {q:Nat} (hq:q∈eZ B∨q∈eF L):∃ x,H q=some x:=by
 rcases hq with hq | hq
 ·obtain⟨b,hb,rfl⟩:=a9G.1 hq;exact⟨_,h.box b hb⟩
 ·obtain⟨x,l,e⟩:=List.mem_filterMap.1 hq;obtain⟨rs,j,_⟩:=(h.lst x l).id e;exact⟨_,j⟩
theorem aM.perm (h:aM H B L) {B':List BX} {L':List LI} (hB:B.Perm B') (e:L.Perm L'):aM H B' L' :=
 ⟨fun b hb=>h.box b (hB.mem_iff.2 hb),fun x j=>h.lst x (e.mem_iff.2 j),(baQ.nodup_iff ((hB.map _).append (e.filterMap _))).1 h.nd⟩
theorem aM.only (h:aM H B L) {B1:List BX} {L1:List LI} (hB:B1.Sublist B) (e:L1.Sublist L):aM (H.only (eZ B1++eF L1)) B1 L1:=by
 refine (h.sub hB e).keep fun q hq=>?_;rw[vE];rw[if_pos (a9N.2 hq)]
theorem aYK {a b c d:List Nat} (j:(a++c).Nodup) (l:(b++d).Nodup) (u:∀ q,q∈a∨q∈c→q∈b∨q∈d→False):((a++b)++(c++d)).Nodup:=by
 have e:baQ ((a++b)++(c++d)) ((a++c)++(b++d)):=by rw[a9L,a9L];exact baQ.append_left a (by rw[← a9L,← a9L]; exact baQ.append_right d List.perm_append_comm)
 rw[e.nodup_iff,bbG];refine⟨j,l,fun p w q hq=>?_⟩;rintro rfl;exact u p (a9N.1 w) (a9N.1 hq)
theorem aM.frame {H':PH} {B1 B2 B':List BX} {L1 L2 L':List LI} (h:aM H (B1++B2) (L1++L2)) (w:aM H' B' L') (J:oL H (H.only (eZ B1++eF L1)) H'):aM (H.over (H.only (eZ B1++eF L1)) H') (B'++B2) (L'++L2):=by
 have E:aM H B2 L2:=h.sub (List.sublist_append_right ..) (List.sublist_append_right ..);have l:∀ q,q∈eZ B2∨q∈eF L2→¬ (q∈eZ B1++eF L1):=by
  intro q hq K;have j:=h.nd;rw[show eZ (B1++B2)=eZ B1++eZ B2 from a9U,oW] at j;have e:baQ ((eZ B1++eZ B2)++(eF L1++eF L2)) ((eZ B1++eF L1)++(eZ B2++eF L2)):=by rw[a9L,a9L];exact baQ.append_left _ (by rw[← a9L,← a9L]; exact baQ.append_right _ List.perm_append_comm)
  rw[e.nodup_iff,bbG] at j;exact j.2.2 q K q (a9N.2 hq) rfl
 have new:∀ q,q∈eZ B'∨q∈eF L'→(H.over (H.only (eZ B1++eF L1)) H') q=H' q:=by intro q hq;obtain⟨x,hx⟩:=w.FP hq;rw[tB,hx]
 have I:∀ q,q∈eZ B2∨q∈eF L2→(H.over (H.only (eZ B1++eF L1)) H') q=H q:=by
  intro q hq;obtain⟨x,hx⟩:=E.FP hq;have A:(H.only (eZ B1++eF L1)) q=none:=by rw[vE,if_neg (l q hq)]
  rw[tB];cases e:H' q with
  | none=>simp only[A]
  | some y =>have:=J q y e A;rw[hx] at this; cases this
 have k1:=w.keep new;have k2:=E.keep I;refine⟨fun b hb=>?_,fun x hx=>?_,?_⟩
 ·rcases a9N.1 hb with hb | hb
  ·exact k1.box b hb
  ·exact k2.box b hb
 ·rcases a9N.1 hx with hx | hx
  ·exact k1.lst x hx
  ·exact k2.lst x hx
 ·rw[show eZ (B'++B2)=eZ B'++eZ B2 from a9U,oW];refine aYK w.nd E.nd fun q hq u=>?_;obtain⟨x,hx⟩:=w.FP hq;obtain⟨y,M⟩:=E.FP u;have A:(H.only (eZ B1++eF L1)) q=none:=by rw[vE,if_neg (l q u)]
  have:=J q x hx A;rw[M] at this; cases this
theorem MF {name:Nat} {vs:List PV} {args:List aP} {d:Option Nat} {K:PF→PH→Prop} {B1 B2:List BX} {L1 L2:List LI} {Q:PV→List BX→List LI→Prop} (h:aM H (B1++B2) (L1++L2))
  (u:∀ H0,aM H0 B1 L1→aH C name vs H0 (fun r H'=>∃ B' L',Q r B' L'∧aM H' B' L')) (l:aP.evs F args=some vs)
  (w:∀ r B' L' H',Q r B' L'→aM H' (B'++B2) (L'++L2)→K (F.put d r) H'):jU C name args [] d K F H:=by
 refine dV (u (H.only (eZ B1++eF L1)) (h.only (bcD ..) (bcD ..))) l (cj H _) ?_;rintro r H' ⟨B',L',hq,j⟩ e;exact w r B' L' _ hq (h.frame j e)
theorem aM.pK {B:List BX} {o:Nat} {x:bZ} (h:aM H (B++[(o,x)]) L):H o=some x:=h.box (o,x) (by simp)
theorem aM.vK {B:List BX} {o:Nat} {x:bZ} (h:aM H (B++[(o,x)]) L) (y:bZ):aM (H.set o y) (B++[(o,y)]) L:=by
 have:=h.set B.length (o:=o) (x:=x) (by simp) y
 rwa [bbW _ _ (a8J _),Nat.sub_self] at this
theorem aM.dropLast {B:List BX} {b:BX} (h:aM H (B++[b]) L):aM H B L:=h.sub (bcD ..) (baE.refl _)
theorem aM.aWC {B:List BX} {o:Nat} {x:bZ} (h:aM H ((o,x)::B) L) (y:bZ):aM (H.set o y) ((o,y)::B) L:=h.set 0 rfl y
theorem aM.aXU {B:List BX} {o:Nat} {x:bZ} (h:aM H ((o,x)::B) L):H o=some x:=h.at 0 rfl
theorem rC {name o:Nat} {x y:bZ} {r:PV} {vs:List PV} {args:List aP} {d:Option Nat} {K:PF→PH→Prop} (h:aH C name vs (PH.nil.set o x) (fun e H'=>e=r∧H'=PH.nil.set o y)) (u:H o=some x) (j:aP.evs F args=some vs)
  (l:K (F.put d r) (H.set o y)):jU C name args [] d K F H:=by
 refine dV h j (e_ a_ u) ?_;rintro e H' ⟨rfl,rfl⟩ -;rw[PH.uE];exact l
theorem aMA {Hs:PH} {S:Spec} {name o:Nat} {x y:bZ} {r:PV} {vs:List PV} {R:PH→PV→PH→Prop} {args:List aP} {st:Bool} {d:Option Nat} {K:PF→PH→Prop} (N:S name vs=some ([o],R)) (M:H o=some x)
  (h:aH C name vs (PH.nil.set o x) (fun j H'=>j=r∧H'=PH.nil.set o y)) (l:R (PH.nil.set o x) r (PH.nil.set o y)) (A:∀ j H',R (PH.nil.set o x) j H'→j=r∧H'=PH.nil.set o y) (O:aP.evs F args=some vs)
  (E:Hs.le (H.set o y)) (U:K (F.put d r) (H.set o y)):dOp C Hs S st (.call name args) d K F H:=by
 have e:=Zi M;refine⟨vs,[o],_,O,N,fun q hq=>?_,?_,fun G=>⟨r,_,by rw[e]; exact l,fun q z J w=>?_⟩,fun j H' u _=>?_⟩
 ·simp at hq; subst hq; exact⟨x,M⟩
 ·rw[e];exact h.post fun j H' u=>⟨j,.refl _,by rw[u.1,u.2]; exact l⟩
 ·rw[e] at w;rw[aS] at J w;split at w
  ·cases w
  ·rename_i I;rw[if_neg I] at J; cases J
 ·rw[e] at u;obtain⟨rfl,rfl⟩:=A j H' u;rw[e,PH.uE];exact⟨E,U⟩
theorem aQC {s:Nat} {q z:Nat} {rs:List (List PV)} {v:PV} {rows:List (List PV)} (h:cR H s v rows) (l:v.oid≠some q):cR (H.frz q z rs) s v (rows.map fun r=>r.map (PV.cQ q z rs)):=by
 rcases h with ⟨rfl,rfl⟩ | ⟨p,rs',rfl,h1,h2,h3⟩
 ·exact .inl ⟨rfl,rfl⟩
 ·have j:¬ p=q:=fun e=>l (by rw[e]; rfl);refine .inr ⟨p,rs'.map fun r=>r.map (PV.cQ q z rs),by rw[a8E],?_,by simpa using h2,?_⟩
  ·rw[FG,if_neg j,h1]; rfl
  ·rw[a8E,← List.map_take,h3]
theorem aM.frz (h:aM H B L) (i:Nat) {q s k:Nat} {rows:List (List PV)} (hi:L[i]?=some (.osl q s 0 k,s,rows)):∃ rs,H q=some (.rows s rs)∧PV.cQ q s rs (.osl q s 0 k)=.sl s rows∧PV.frz q s rs (.osl q s 0 k)=.sl s rows∧(∀ j x,j≠i→L[j]?=some x→PV.cQ q s rs x.1=x.1) ∧
  aM (H.frz q s rs) (B.map fun b=>(b.1,b.2.frz q s rs)) ((L.eraseIdx i).map fun x=>(x.1,x.2.1,x.2.2.map fun r=>r.map (PV.cQ q s rs))):=by
 obtain⟨rs,U,V,W,X⟩:=(h.own i hi).id rfl;injection V with _ _ _ hk
 subst hk;have e:PV.frz q s rs (.osl q s 0 rows.length)=.sl s rows:=by rw[xM W,X]
 refine⟨rs,U,e,e,?_⟩;refine⟨fun j x J R=>?_,?_⟩
 ·have u:x.1.oid≠some q:=by
   intro u;obtain⟨K,he⟩:=a9F.1 hi;obtain⟨α,Y⟩:=a9F.1 R;have w:x∈L.eraseIdx i:=List.mem_eraseIdx_iff_getElem?.2 ⟨j,J,R⟩;have l:=h.ndL;have N:L=L.take i++(L[i]::L.drop (i+1)):=by rw[← baR K,bbC]
   rw[List.eraseIdx_eq_take_drop_succ] at w;rw[N,oW] at l;have I:eF (L[i]::L.drop (i+1))=q::eF (L.drop (i+1)):=by rw[he]; rfl
   rw[I,bbG] at l;obtain⟨a,b,c⟩:=l;rcases a9N.1 w with hx | hx
   ·exact c q (pS hx u) q (by simp) rfl
   ·exact (List.nodup_cons.1 b).1 (pS hx u)
  cases hx:x.1<;>try rfl
  rename_i p z β len;have:¬ p=q:=fun e=>u (by rw[hx,e]; rfl);simp only[PV.cQ,if_neg this]
 obtain⟨L1,L2,e1,e2⟩:=Vg (v':=.aD) (s':=s) (rows':=rows) hi;have Z:i=L1.length∨True:=.inr trivial;have y:(L.eraseIdx i).Sublist L:=List.eraseIdx_sublist ..;have M:∀ x∈L.eraseIdx i,x.1.oid≠some q:=by
  intro x hx u;obtain⟨K,he⟩:=a9F.1 hi;have l:=h.ndL;have N:L=L.take i++(L[i]::L.drop (i+1)):=by rw[← baR K,bbC]
  rw[List.eraseIdx_eq_take_drop_succ] at hx;rw[N,oW] at l;have I:eF (L[i]::L.drop (i+1))=q::eF (L.drop (i+1)):=by rw[he]; rfl
  rw[I,bbG] at l;obtain⟨a,b,c⟩:=l;rcases a9N.1 hx with hx | hx
  ·exact c q (pS hx u) q (by simp) rfl
  ·exact (List.nodup_cons.1 b).1 (pS hx u)
 refine⟨fun b hb=>?_,fun x hx=>?_,?_⟩
 ·obtain⟨O,A,rfl⟩:=a9G.1 hb;have:¬ O.1=q:=h.ndX (AE A) (pS (baA hi) rfl);simp only;rw[FG,if_neg this,h.box O A]; rfl
 ·obtain⟨S,E,rfl⟩:=a9G.1 hx;exact aQC (h.lst S (y.subset E)) (M S E)
 ·have i1:eZ (B.map fun b=>(b.1,b.2.frz q s rs))=eZ B:=by unfold eZ; rw[List.map_map]; rfl
  have i2:eF ((L.eraseIdx i).map fun x=>(x.1,x.2.1,x.2.2.map fun r=>r.map (PV.cQ q s rs)))=eF (L.eraseIdx i):=by unfold eF; rw[List.filterMap_map]; rfl
  rw[i1,i2];exact List.Nodup.sublist (baE.append (baE.refl _) (y.filterMap _)) h.nd
def Flat (rows:List (List PV)):Prop:=∀ q s rs,rows.map (fun r=>r.map (PV.cQ q s rs))=rows
theorem Flat.nil:Flat []:=fun _ _ _=>rfl
theorem Flat.of {rows:List (List PV)} (h:∀ r∈rows,∀ c∈r,∀ q s rs,PV.cQ q s rs c=c):Flat rows:=fun q s rs=>by
 conv=>rhs; rw[← List.map_id rows]
 refine baM fun r j=>?_
 conv=>rhs; rw[id,← List.map_id r]
 exact baM fun c e=>h r j c e q s rs
theorem Flat.map {α:Type} {f:α→List PV} (l:List α) (h:∀ x,∀ c∈f x,∀ q s rs,PV.cQ q s rs c=c):Flat (l.map f):=Flat.of fun r e=>by
 obtain⟨x,_,rfl⟩:=a9G.1 e;exact h x
theorem Flat.append {r1 r2:List (List PV)} (e:Flat r1) (j:Flat r2):Flat (r1++r2):=fun q s rs=>by rw[a9U,e,j]
theorem aM.flat {φ:PV→List (List PV)} (h:aM H B L):aM H B L:=h
def sA (v:PV) (H:PH) (R:PV→PH→Prop):Prop:=∃ e j H2,kP (PF.nil.set 0 v) H e j∧H2.le j∧∃ u,e 0=some u∧R u H2
theorem sA.done {v:PV} {H2:PH} {R:PV→PH→Prop} (j:R v H2) (e:H2.le H):sA v H R:=⟨_,_,H2,.refl _ _,e,v,by rw[oJ,if_pos rfl],j⟩
theorem sA.step {v:PV} {q s:Nat} {rs:List (List PV)} {R:PV→PH→Prop} (hq:H q=some (.rows s rs)) (h:sA (PV.frz q s rs v) (H.frz q s rs) R):sA v H R:=by
 obtain⟨j,l,H2,u,w,x⟩:=h;have e:(PF.nil.set 0 v).frz q s rs=PF.nil.set 0 (PV.frz q s rs v):=by funext i;rw[rM,oJ,oJ];split<;>rfl
 exact⟨j,l,H2,.step q hq (by rw[e]; exact u),w,x⟩
theorem pE {res:List eS} {R:PV→PH→Prop} {vs:List PV} {e:mY} (he:e=.normal∨e=.ret) (h:eS.evs F H res=some vs) (x:sA (cB vs) H R):aT res R e F H:=by
 have j:∃ vs,eS.evs F H res=some vs∧∃ l w H2,kP (PF.nil.set 0 (cB vs)) H l w∧H2.le w∧∃ u,l 0=some u∧R u H2:=⟨vs,h,x⟩;rcases he with rfl | rfl<;>exact j
theorem ON {u:PV} (h:u.oid=none) (q s:Nat) (rs:List (List PV)):PV.cQ q s rs u=u:=by
 cases u<;>first | rfl | (simp[PV.oid] at h)
theorem Seen.co {s:Nat} {v:PV} {rows:List (List PV)} (h:Seen s v rows):Co v (.sl s rows):=by
 rcases h with ⟨rfl,rfl⟩ | rfl
 ·exact .nil s
 ·exact .refl _
theorem aM.giveUp:∀ (L:List LI) {H:PH} {B:List BX},aM H B L→(∀ x∈L,Flat x.2.2)→(∀ b∈B,∀ q s rs,bZ.frz q s rs b.2=b.2) →
  ∃ (φ:PV→PV) (y:PH),(∀ x∈L,Seen x.2.1 (φ x.1) x.2.2)∧(∀ u,u.oid=none→φ u=u)∧aM y B []∧∀ cs R,sA (.agg (cs.map φ)) y R→sA (.agg cs) H R
 | [],H,B,h,_,_=>⟨id,H,by simp,fun _ _=>rfl,h,fun cs R I=>by rwa [List.map_id] at I⟩
 | (w,s,rows)::L,H,B,h,E,hB=>by
  have l:∀ q z rs,(L.map fun x=>(x.1,x.2.1,x.2.2.map fun r=>r.map (PV.cQ q z rs)))=L:=fun q z rs=>by
   conv=>rhs; rw[← List.map_id L]
   refine baM fun x hx=>?_;rw[E x (by simp[hx]) q z rs]; rfl
  rcases h.own 0 rfl with ⟨A,S⟩ | ⟨q,rs,A,_⟩
  ·obtain⟨φ,y,k1,k2,J,K⟩:=aM.giveUp L (h.be 0) (fun x hx=>E x (by simp[hx])) hB;refine⟨φ,y,fun x hx=>?_,k2,J,K⟩;rw[a8S] at hx;rcases hx with rfl | hx
   ·exact .inl ⟨A,by simp only; rw[S]; exact k2 _ rfl⟩
   ·exact k1 x hx
  ·subst A;obtain⟨rs,V,W,Z,X,N⟩:=h.frz 0 rfl;have Y:aM (H.frz q s rs) B L:=by
    have O:(B.map fun b=>(b.1,b.2.frz q s rs))=B:=by
     conv=>rhs; rw[← List.map_id B]
     refine baM fun b hb=>?_;rw[hB b hb q s rs]; rfl
    rw[O] at N;have:=N;simp only[List.eraseIdx_cons_zero] at this
    rwa [l q s rs] at this
   obtain⟨φ,y,k1,k2,J,K⟩:=aM.giveUp L Y (fun x hx=>E x (by simp[hx])) hB;refine⟨fun u=>φ (PV.cQ q s rs u),y,fun x hx=>?_,fun u M=>?_,J,fun cs R I=>?_⟩
   ·rw[a8S] at hx;rcases hx with rfl | hx
    ·simp only;rw[W];exact .inr (k2 _ rfl)
    ·obtain⟨j,U⟩:=List.mem_iff_getElem?.1 hx;have:=X (j+1) x Om (by simpa using U);simp only;rw[this];exact k1 x hx
   ·simp only;rw[ON M,k2 u M]
   ·refine .step V ?_;have e:PV.frz q s rs (.agg cs)=.agg (cs.map (PV.cQ q s rs)):=rfl;rw[e];refine K _ R ?_;rw[List.map_map];exact I
theorem IH {K:cI} {α:Type} {e:α→PF} {Hs:α→PH} {j:α→Prop} {m:α→Nat} {n q s:Nat} {rs:List (List PV)} (a:α) (hq:H q=some (.rows s rs)) (l:j a) (x:m a<n) (u:(e a).le (F.frz q s rs)) (w:(Hs a).le (H.frz q s rs)):gP e Hs j m n K .normal F H :=
 ⟨a,_,_,.step q hq (.refl _ _),l,x,u,w⟩
end
structure NT (C:Ctx):Prop extends q9 C where
 int:∀ n:Int,eJ n→aH C 47 [.int .i64 n] .nil (aI (.agg (mkT n 1).cells))
 itoa:∀ n:Nat,n<100→aH C 195 [.int .i64 n] .nil (aI (.str (dU n)))
 next:∀ (l:List Nat) (v:PV),Tp l v→∀ (o n a:Nat),n≤1000000→a≤l.length→aH C 4 [.ptr o 2 0 0,.int .i64 n] (PH.nil.set o (bW v a)) (qu l v o n a)
section
variable {C:Ctx} {F:PF} {H:PH} {l:List Nat} {v:PV} {o a:Nat}
theorem eM (j:NT C) (T:Tp l v) {n:Nat} {args:List aP} {d:Option Nat} {K:PF→PH→Prop} (x:n≤1000000) (u:a≤l.length) (e:aP.evs F args=some [.ptr o 2 0 0,.int .i64 n]) (y:H o=some (bW v a))
  (w:K (F.put d (.int .i64 ((aL l n a).1:Nat))) (H.set o (bW v (aL l n a).2))):jU C 4 args [] d K F H :=
 rC (j.next l v T o n a x u) y e w
end
def aRT (l:List Nat) (v:PV) (o a:Nat) (r:PV) (H:PH):Prop:=r=.agg (jH l a).1.cells∧H=PH.nil.set o (bW v (jH l a).2)
theorem zY (l:List Nat) {a:Nat} (h:a≤l.length):(jH l a).2≤l.length:=cE l 8 (cE l 6 h)
theorem aOA {C:Ctx} (j:NT C) {l:List Nat} {v:PV} (T:Tp l v) (o a:Nat) (x:a≤l.length):QD.wp C (aT aBY.res (aRT l v o a)) (PF.args [.ptr o 2 0 0]) (PH.nil.set o (bW v a)):=by
 simp only[go_sem,QD,Wv,aBY];refine aO fun p K=>?_;have y:¬ p=o:=(lK.1 K).1;have e:¬ o=p:=fun h=>y h.symm;have M:=hY l (show 0<6 by decide) a;have a1:=cE l 6 x;simp only[go_sem,Ww];refine eM j T (o:=o) (n:=6) (a:=a) (by decide) x rfl (by simp only[go_sem,e]) ?_;have E:IntKind.i64.wrap (1+((aL l 6 a).1:Int))=((1+(aL l 6 a).1:Nat):Int):=by rw[wrap_i64 Om Om]; omega
 simp only[go_sem,E];have N:=hY l (show 0<8 by decide) (aL l 6 a).2;refine eM j T (o:=o) (n:=8) (a:=(aL l 6 a).2) (by decide) a1 rfl Sq ?_;have I:IntKind.i64.wrap (1+((aL l 8 (aL l 6 a).2).1:Int))=((1+(aL l 8 (aL l 6 a).2).1:Nat):Int):=by rw[wrap_i64 Om Om]; omega
 simp only[go_sem,I];refine aB (j.fmk ((1+(aL l 6 a).1:Nat):Int) ((1+(aL l 8 (aL l 6 a).2).1:Nat):Int) (by unfold eJ; omega) (by unfold eJ; omega)) rfl ?_;have J:¬ ((1+(aL l 8 (aL l 6 a).2).1:Nat):Int)=0:=Om;unfold CH;rw[if_neg J];simp only[go_sem];refine aO fun q hq=>?_;have A:¬ q=o:=(lK.1 hq).1;have B:¬ q=p:=(lK.1 (lK.1 hq).2).1;have w:¬ p=q:=fun h=>B h.symm;have u:¬ o=q:=fun h=>A h.symm;simp only[go_sem,Wx,y,e,A,B,w];refine bA (vs:=[.agg (jH l a).1.cells]) (.inr rfl) (PH.nil.set o (bW v (jH l a).2)) ?_ (e_ a_ ?_) ⟨rfl,rfl⟩
 ·simp only[go_sem];rfl
 ·simp only[go_sem,e,u];rfl
structure Ps (C:Ctx):Prop extends NT C where
 frac:∀ (l:List Nat) (v:PV),Tp l v→∀ (o a:Nat),a≤l.length→aH C 1 [.ptr o 2 0 0] (PH.nil.set o (bW v a)) (aRT l v o a)
abbrev jR (l:List RF):List (List PV):=l.map RF.cells
theorem DI (l:List RF) (x:RF):jR l++[x.cells]=jR (l++[x]):=by simp[jR]
theorem OM (l:List RF):Flat (jR l):=Flat.map l fun x c e q s rs=>by
 simp only[RF.cells,fS,a8S,a9D,or_false] at e;rcases e with rfl | rfl | rfl<;>rfl
theorem qL (l:List RF):(jR l).length=l.length:=by simp[jR]
theorem Tp.frz {l:List Nat} {v:PV} (T:Tp l v) (q s:Nat) (rs:List (List PV)):PV.cQ q s rs v=v:=by
 rcases T.seen with ⟨_,rfl⟩ | rfl<;>rfl
theorem NI (l:List Nat) {a:Nat} (h:a≤l.length):∀ k,(rN l a k).2≤l.length
 | 0=>h
 | k+1=>zY l (NI l h k)
theorem abR (l:List Nat) (a:Nat):∀ k,(rN l a k).1.length=k
 | 0=>rfl
 | k+1=>by simp only[rN,a8H,a8N,abR l a k]
def aXP (l:List Nat) (v:PV) (o a k:Nat) (r:PV) (H:PH):Prop:=r=frs (rN l a k).1∧H=PH.nil.set o (bW v (rN l a k).2)
def aCD (o:Nat) (m:Nat) (w:PV) (i:Nat):PF:=((((PF.nil.set 0 (.ptr o 2 0 0)).set 1 (.int .i64 m)).set 5 (w)).set 6 (.int .i64 i))
theorem aUU {C:Ctx} (K:Ps C) {l:List Nat} {v:PV} (T:Tp l v) (o a m:Nat) (U:m≤1000) (O:a≤l.length):WX.wp C (aT aOJ.res (aXP l v o a (max m 1))) (PF.args [.ptr o 2 0 0,.int .i64 m]) (PH.nil.set o (bW v a)):=by
 have x:∀ i:Nat,((i:Int)<(if (m:Int)<1 then 1 else (m:Int)))↔i<max m 1:=by intro i;split<;>omega
 simp only[go_sem,WX,apY,apZ,aqA,aOJ];have M:aM (PH.nil.set o (bW v a)) [(o,bW v a)] [(.aD,3,jR [])]:=(aM.nil.new (H:=PH.nil) rfl (bW v a)).kB 3;refine wp_loop (α:=Nat × PV × PH) (fun t=>aCD o m t.2.1 t.1) (fun t=>t.2.2) (fun t=>t.1≤max m 1∧aM t.2.2 [(o,bW v (rN l a t.1).2)] [(t.2.1,3,jR (rN l a t.1).1)]) (fun t=>max m 1-t.1) (0,.aD,PH.nil.set o (bW v a)) ⟨a8K _,M⟩ ?_ b_ ?_
 ·unfold aCD;exact Lq
 rintro⟨k,w,H0⟩ ⟨R,u⟩;simp only at R u ⊢;simp only[go_sem,apX,aqB,aCD];have E:=NI l O k;have j:=abR l a k;by_cases hlt:k<max m 1
 ·have B:=(x k).2 hlt;simp only[go_sem,B,aqC];refine rC (K.frac l v T o _ E) (u.at 0 rfl) rfl ?_;have A:=u.set 0 rfl (bW v (jH l (rN l a k).2).2);have y:(1:Nat)*3≤16777216:=by decide
  simp only[go_sem,y];refine A.append 0 (src:=[(jH l (rN l a k).2).1.cells]) rfl rfl (by unfold roomFor; rw[qL,j]; simp only[a8N,maxLen]; omega) fun S H' J _=>?_;rw[DI] at J;simp only[go_sem,aqD,wZz k];refine aG (k+1,S,H') ⟨hlt,J⟩ (by simp only; omega) ?_ b_;exact Lq
 ·have B:¬ ((k:Int)<(if (m:Int)<1 then 1 else (m:Int))):=fun h=>hlt ((x k).1 h);have e:k=max m 1:=Om;subst e;simp only[go_sem,B,aqE];have I:jR (rN l a (max m 1)).1≠[]:=fun h=>by have:=congrArg List.length h;rw[qL,j] at this;simp at this
  rcases u.own 0 rfl with ⟨N,_⟩ | ⟨q,rs,rfl,_⟩
  ·exact absurd N I
  obtain⟨rs,g1,g2,g3,-,g4⟩:=u.frz 0 rfl;refine pE (vs:=[.osl q 3 0 (jR (rN l a (max m 1)).1).length]) (.inr rfl) rfl (.step g1 (.done (H2:=PH.nil.set o (bW v (rN l a (max m 1)).2)) ?_ (e_ a_ ?_)))
  ·rw[cB,g3];exact⟨rfl,rfl⟩
  ·have:=g4.at 0 rfl;rw[this];simp only[bZ.frz,a9T,bbA,T.frz];rfl
theorem aOF {C:Ctx} (j:NT C) (s:List UInt8) (n:Nat) (x:s.length≤100) (u:n<100):QI.wp C (aT aCB.res (aI (.str (s++dU n)))) (PF.args [.str s,.int .i64 n]) .nil:=by
 have w:(dU n).length≤2:=by
  unfold dU;rw[Lib.decDigits];split
  ·simp
  ·rw[Lib.decDigits,dif_pos Om]; simp
 have e:¬ (((s.length+(dU n).length:Nat):Int)>9223372036854775807):=Om;simp only[go_sem,QI,Xl,Xm,aCB];refine aB (j.itoa n u) rfl ?_;simp only[go_sem,azV,e];refine aR (.inr rfl) rfl ?_;rfl
structure yB (C:Ctx):Prop extends Ps C where
 rep:∀ (l:List Nat) (v:PV),Tp l v→∀ (o a m:Nat),m≤1000→a≤l.length→aH C 5 [.ptr o 2 0 0,.int .i64 m] (PH.nil.set o (bW v a)) (aXP l v o a (max m 1))
 name:∀ (s:List UInt8) (n:Nat),s.length≤100→n<100→aH C 29 [.str s,.int .i64 n] .nil (aI (.str (s++dU n)))
theorem aLT (l:List Nat) (i j:Nat) {a:Nat} (h:a≤l.length):(oP l i j a).2≤l.length:=by
 unfold oP;split
 ·exact zY l h
 ·split
  ·exact h
  ·simp only;split
   ·exact zY l (cE l 3 h)
   ·exact cE l 3 h
theorem Dn (l:List Nat) (i:Nat) {a:Nat} (h:a≤l.length):∀ j,(gD l i a j).2≤l.length
 | 0=>h
 | j+1=>aLT l i j (Dn l i h j)
theorem pi (l:List Nat) (i a:Nat):∀ j,(gD l i a j).1.length=j
 | 0=>rfl
 | j+1=>by simp only[gD,a8H,a8N,pi l i a j]
theorem kn (l:List Nat) (n i:Nat) (s:NS) (h:s.a≤l.length):(fY l n i s).2≤l.length∧(fY l n i s).1≤s.left:=by
 unfold fY;split
 ·exact⟨cE l _ h,by have:=hY l (Om:0<s.left+1) s.a; omega⟩
 ·exact⟨h,a8J _⟩
theorem Qs (l:List Nat) (n i:Nat) {a:Nat} (h:a≤l.length):(jQ l n i a).2≤l.length:=by
 unfold jQ;simp only;split
 ·exact cE l 3 (zY l h)
 ·exact zY l h
theorem Cc (l:List Nat) (n:Nat) {a:Nat} (h:a≤l.length):∀ i,(lF l n a i).a≤l.length∧(lF l n a i).left≤8∧(lF l n a i).start.length=i∧(lF l n a i).exit.length=i∧(lF l n a i).a6U.length=i
 | 0=>⟨h,a8J _,rfl,rfl,rfl⟩
 | i+1=>by
  obtain⟨e,x,j,u,h5⟩:=Cc l n h i;have w:=kn l n i (lF l n a i) e;refine⟨?_,?_,?_,?_,?_⟩
  ·exact Dn l i (Qs l n i w.1) n
  ·simp only[lF]; omega
  ·simp only[lF,a8H,a8N,j]
  ·simp only[lF,a8H,a8N,u]
  ·simp only[lF,a8H,a8N,h5]
abbrev AI (l:List (List RF)):List (List PV):=l.map fun r=>[frs r]
theorem Lf (l:List (List RF)):Flat (AI l):=Flat.map l fun x c e q s rs=>by
 simp only[a8S,a9D,or_false] at e;subst e; rfl
abbrev ki (e j l:PV):bZ:=.rows 4 [[.str [],e,j,l]]
abbrev Vm:bZ:=.rows 4 [[.str [],.aD,.aD,.aD]]
def iW (o o4 o6 n left i:Nat) (w:PV) (j:Nat):PF:=((((((((PF.nil.set 0 (.ptr o 2 0 0)).set 4 (.ptr o4 4 0 0)).set 5 (.int .i64 n)).set 6 (.ptr o6 4 0 0)).set 7 (.int .i64 left)).set 8 (.int .i64 i)).set 13 (w)).set 14 (.int .i64 j))
def dZ (o o4 o6 n left i:Nat):PF:=((((((PF.nil.set 0 (.ptr o 2 0 0)).set 4 (.ptr o4 4 0 0)).set 5 (.int .i64 n)).set 6 (.ptr o6 4 0 0)).set 7 (.int .i64 left)).set 8 (.int .i64 i))
theorem lg {l:List RF} (h:l.length≤1000):roomFor (jR l).length 1 56:=by
 unfold roomFor;rw[qL];simp only[maxLen]; omega
theorem aOE {C:Ctx} (W:yB C) {l:List Nat} {v:PV} (T:Tp l v) (o o4 o6 n left i a:Nat) (ha:a≤l.length) (hn:n≤100) (hi:i<n) (B:List BX) (L:List LI) (K:cI) (F:PF) (H:PH)
  (hF:(iW o o4 o6 n left i .aD 0).le F) (O:aM H ((o,bW v a)::B) L)
  (hK:∀ w y H',(iW o o4 o6 n left i w n).le y→aM H' ((o,bW v (gD l i a n).2)::B) (L++[(w,3,jR (gD l i a n).1)])→K (.exit 2) y H') :
  aC.wp C (.loop QG) K F H:=by
 refine wp_loop (α:=Nat × PV × PH) (fun t=>iW o o4 o6 n left i t.2.1 t.1) (fun t=>t.2.2) (fun t=>t.1≤n∧aM t.2.2 ((o,bW v (gD l i a t.1).2)::B) (L++[(t.2.1,3,jR (gD l i a t.1).1)])) (fun t=>n-t.1) (0,.aD,H) ⟨a8K _,O.kB 3⟩ hF b_ ?_;rintro⟨j,w,H0⟩ ⟨hj,O⟩;simp only at hj O ⊢;have N:=Dn l i ha j;have ε:=pi l i a j;have e1:IntKind.i64.wrap ((i:Int)+1)=((i+1:Nat):Int):=dW Om;simp only[go_sem,QG,Xg,iW];by_cases hlt:j<n
 ·have I:(j:Int)<(n:Nat):=Om;simp only[go_sem,I,Xh];refine aB (W.int 0 (by unfold eJ; omega)) rfl ?_;simp only[go_sem];refine aO fun p hp=>?_;have A:=O.new hp (.rows 3 [pZ.cells]);simp only[go_sem,Xi,e1];have fin:∀ (y:PF) (H':PH),(iW o o4 o6 n left i w j).le y→y 15=some (.ptr p 3 0 0)→aM H' ((o,bW v (oP l i j (gD l i a j).2).2)::B++[(p,.rows 3 [(oP l i j (gD l i a j).2).1.cells])]) (L++[(w,3,jR (gD l i a j).1)]) →
    aC.wp C (.region l4) (fR 3 (jY C (aC.wp C (.region l5)) (gP (fun (t:Nat × PV × PH)=>iW o o4 o6 n left i t.2.1 t.1) (fun t=>t.2.2) (fun t=>t.1≤n∧aM t.2.2 ((o,bW v (gD l i a t.1).2)::B) (L++[(t.2.1,3,jR (gD l i a t.1).1)])) (fun t=>n-t.1) (n-j) K))) y H':=by
   intro y H' e J R;have f0:y 0=some (.ptr o 2 0 0):=e 0 _ (by unfold iW; simp only[go_sem]);have f4:y 4=some (.ptr o4 4 0 0):=e 4 _ (by unfold iW; simp only[go_sem]);have f5:y 5=some (.int .i64 n):=e 5 _ (by unfold iW; simp only[go_sem]);have f6:y 6=some (.ptr o6 4 0 0):=e 6 _ (by unfold iW; simp only[go_sem]);have f7:y 7=some (.int .i64 left):=e 7 _ (by unfold iW; simp only[go_sem]);have f8:y 8=some (.int .i64 i):=e 8 _ (by unfold iW; simp only[go_sem]);have f13:y 13=some w:=e 13 _ (by unfold iW; simp only[go_sem]);have f14:y 14=some (.int .i64 j):=e 14 _ (by unfold iW; simp only[go_sem]);have γ:H' p=some (.rows 3 [(oP l i j (gD l i a j).2).1.cells]):=R.box (p,.rows 3 [(oP l i j (gD l i a j).2).1.cells]) (by simp);have Y:(1:Nat)*3≤16777216:=by decide
   simp only[go_sem,l4,f13,J,γ,Y];refine R.append (v:=w) (s:=3) (rows:=jR (gD l i a j).1) L.length (src:=[(oP l i j (gD l i a j).2).1.cells]) (by simp) rfl (lg Om) fun w' H2 h2 _=>?_;rw[DI,bbW _ _ (a8J _),Nat.sub_self] at h2;simp only[go_sem,l5,f14,wZz j];refine aG (α:=Nat × PV × PH) (j+1,w',H2) ⟨hlt,h2.sub (bcD ..) (baE.refl _)⟩ (by simp only; omega) ?_ b_;unfold iW;exact Lq
  simp only[aC.wp,go_sem] at fin;have V:∀ x:RF,PH.set (PH.set H0 p (.rows 3 [pZ.cells])) p (.rows 3 [x.cells])=PH.set H0 p (.rows 3 [x.cells]):=fun x=>PH.set_set p _ _;have draw:∀ (y:PF) (S:PH) (a1:Nat),a1≤l.length→(iW o o4 o6 n left i w j).le y→y 15=some (.ptr p 3 0 0)→aM S ((o,bW v a1)::B++[(p,.rows 3 [pZ.cells])]) (L++[(w,3,jR (gD l i a j).1)])→oP l i j (gD l i a j).2=jH l a1→∀ K',(∀ M H2,(iW o o4 o6 n left i w j).le M→M 15=some (.ptr p 3 0 0)→aM H2 ((o,bW v (oP l i j (gD l i a j).2).2)::B++[(p,.rows 3 [(oP l i j (gD l i a j).2).1.cells])]) (L++[(w,3,jR (gD l i a j).1)])→K' M H2) →
    wpOps C l3 K' y S:=by
   intro y S a1 β e J A he K' Z;have f0:y 0=some (.ptr o 2 0 0):=e 0 _ (by unfold iW; simp only[go_sem]);simp only[go_sem,l3,f0];refine rC (W.frac l v T o a1 β) (A.at 0 rfl) rfl ?_;have E:aM (S.set o (bW v (jH l a1).2)) ((o,bW v (jH l a1).2)::B++[(p,.rows 3 [pZ.cells])]) (L++[(w,3,jR (gD l i a j).1)]):=A.set 0 rfl _;have δ:=E.pK;simp only[go_sem,J,δ];refine Z _ _ ?_ (by simp only[go_sem,J]) ?_
   ·have g:=fun (q:Nat) u h=>e q u h;unfold iW at g ⊢;refine d_ (d_ (d_ (d_ (d_ (d_ (d_ (d_ c_ ?_) ?_) ?_) ?_) ?_) ?_) ?_) ?_
    ·simp only[go_sem,f0]
    ·simp only[go_sem,g 4 _ rfl]
    ·simp only[go_sem,g 5 _ rfl]
    ·simp only[go_sem,g 6 _ rfl]
    ·simp only[go_sem,g 7 _ rfl]
    ·simp only[go_sem,g 8 _ rfl]
    ·simp only[go_sem,g 13 _ rfl]
    ·simp only[go_sem,g 14 _ rfl]
   ·rw[he];exact E.vK (.rows 3 [(jH l a1).1.cells])
  by_cases U:j=i+1
  ·have he:oP l i j (gD l i a j).2=jH l (gD l i a j).2:=by unfold oP; rw[if_pos U]
   simp only[go_sem,bP (Om:(j:Int)=((i+1:Nat):Int))];refine draw _ _ _ N (by unfold iW; exact Lq) rfl A he _ ?_;intro M H2 k1 k2 k3;exact fin M H2 k1 k2 k3
  ·simp only[go_sem,bD (Om:¬ (j:Int)=((i+1:Nat):Int))];by_cases X:j=i
   ·have he:oP l i j (gD l i a j).2=(pZ,(gD l i a j).2):=by unfold oP; rw[if_neg U,if_pos X]
    simp only[go_sem,bJ (Om:(j:Int)=(i:Int))];exact fin _ _ (by unfold iW; exact Lq) rfl (by rw[he]; exact A)
   ·simp only[go_sem,cM (Om:¬ (j:Int)=(i:Int))];refine eM W.toNT T (o:=o) (n:=3) (a:=(gD l i a j).2) (by decide) N rfl (A.at 0 rfl) ?_;have E:aM _ ((o,bW v (aL l 3 (gD l i a j).2).2)::B++[(p,.rows 3 [pZ.cells])]) (L++[(w,3,jR (gD l i a j).1)]):=A.set 0 rfl _;by_cases c3:(aL l 3 (gD l i a j).2).1=0
    ·have he:oP l i j (gD l i a j).2=jH l (aL l 3 (gD l i a j).2).2:=by unfold oP; rw[if_neg U,if_neg X]; simp only[c3,if_true]
     simp only[go_sem,bP (show (((aL l 3 (gD l i a j).2).1:Nat):Int)=0 by omega)];refine draw _ _ _ (cE l 3 N) (by unfold iW; exact Lq) rfl E he _ ?_;intro M H2 k1 k2 k3;exact fin M H2 k1 k2 k3
    ·have he:oP l i j (gD l i a j).2=(pZ,(aL l 3 (gD l i a j).2).2):=by unfold oP; rw[if_neg U,if_neg X]; simp only[c3,if_false]
     simp only[go_sem,bD (show ¬ (((aL l 3 (gD l i a j).2).1:Nat):Int)=0 by omega)];exact fin _ _ (by unfold iW; exact Lq) rfl (by rw[he]; exact E)
 ·have I:¬ (j:Int)<(n:Nat):=Om;have:j=n:=Om;subst this;simp only[go_sem,I];exact hK w _ _ (by unfold iW; exact Lq) O
abbrev wI (o o4 o6:Nat) (v e j l:PV) (a:Nat):List BX:=[(o,bW v a),(o4,Vm),(o6,ki e j l)]
abbrev BA (s:NS) (e j l:PV):List LI:=[(e,3,jR s.start),(j,1,AI s.a6U),(l,3,jR s.exit)]
theorem aHD {C:Ctx} (J:yB C) {l:List Nat} {v:PV} (T:Tp l v) (o o4 o6 n i:Nat) (s:NS) (I:s.a≤l.length) (V:s.left≤8) (W:n≤100) (hi:i<n) (B:List BX) (L:List LI) (e:aC) (K:cI) (F:PF) (H:PH)
  (j:(dZ o o4 o6 n s.left i).le F) (A:aM H ((o,bW v s.a)::B) L)
  (w:∀ x H',(dZ o o4 o6 n (s.left-(fY l n i s).1) i).le x→x 9=some (.int .i64 ((fY l n i s).1:Nat))→aM H' ((o,bW v (fY l n i s).2)::B) L→aC.wp C e K x H') :
  aC.wp C (.seq (.region Ch) (.seq (.seq (.region Cj) (.cond (.tmp 29) (.region Ck) .skip)) (.seq (.region ce) e))) K F H:=by
 have f0:F 0=some (.ptr o 2 0 0):=j 0 _ (by unfold dZ; simp only[go_sem]);have S:F 4=some (.ptr o4 4 0 0):=j 4 _ (by unfold dZ; simp only[go_sem]);have O:F 5=some (.int .i64 n):=j 5 _ (by unfold dZ; simp only[go_sem]);have f6:F 6=some (.ptr o6 4 0 0):=j 6 _ (by unfold dZ; simp only[go_sem]);have f7:F 7=some (.int .i64 s.left):=j 7 _ (by unfold dZ; simp only[go_sem]);have R:F 8=some (.int .i64 i):=j 8 _ (by unfold dZ; simp only[go_sem]);have M:IntKind.i64.wrap ((i:Int)+1)=((i+1:Nat):Int):=dW Om;have U:=(kn l n i s I).2;have u:IntKind.i64.wrap ((s.left:Int)-((fY l n i s).1:Int))=((s.left-(fY l n i s).1:Nat):Int):=by rw[wrap_i64 Om Om]; omega
 simp only[go_sem,Ch,f7,Cj,R,O,M];by_cases c:i+1<n
 ·have y:((i+1:Nat):Int)<(n:Nat):=Om;have he:fY l n i s=aL l (s.left+1) s.a:=by unfold fY; rw[if_pos c]
  have N:IntKind.i64.wrap ((s.left:Int)+1)=((s.left+1:Nat):Int):=dW Om;rw[he] at w u;simp only[go_sem,y,Ck,f0,f7,N];refine eM J.toNT T (o:=o) (n:=s.left+1) (a:=s.a) Om I rfl A.aXU ?_;have E:=A.aWC (bW v (aL l (s.left+1) s.a).2);simp only[go_sem,ce,f7,u];refine w _ _ ?_ rfl E;unfold dZ;exact Lq
 ·have y:¬ ((i+1:Nat):Int)<(n:Nat):=Om;have he:fY l n i s=(s.left,s.a):=by unfold fY; rw[if_neg c]
  rw[he] at w u;simp only at w u;simp only[go_sem,y,ce,f7,u];refine w _ _ ?_ rfl A;unfold dZ;exact Lq
theorem aCA {C:Ctx} (R:yB C) {l:List Nat} {v:PV} (o o4 o6 n i left k a:Nat) (hk:k≤8) (hi:i<n) (hn:n≤100) (s:NS) (hs:s.start.length=i) (O x A:PV) (B:List BX) (e:aC) (K:cI) (F:PF) (H:PH)
  (w:(dZ o o4 o6 n left i).le F) (S:F 9=some (.int .i64 k)) (X:aM H (wI o o4 o6 v O x A a++B) (BA s O x A))
  (Y:∀ u N H' B',(dZ o o4 o6 n left i).le N→aM H' (wI o o4 o6 v u x A a++B') (BA { s with start:=s.start++[mkT (k:Nat) 8] } u x A)→aC.wp C e K N H') :
  aC.wp C (.seq (.region lh) (.seq (.region lj) e)) K F H:=by
 have f0:F 0=some (.ptr o 2 0 0):=w 0 _ (by unfold dZ; simp only[go_sem]);have f4:F 4=some (.ptr o4 4 0 0):=w 4 _ (by unfold dZ; simp only[go_sem]);have f5:F 5=some (.int .i64 n):=w 5 _ (by unfold dZ; simp only[go_sem]);have f6:F 6=some (.ptr o6 4 0 0):=w 6 _ (by unfold dZ; simp only[go_sem]);have f7:F 7=some (.int .i64 left):=w 7 _ (by unfold dZ; simp only[go_sem]);have f8:F 8=some (.int .i64 i):=w 8 _ (by unfold dZ; simp only[go_sem]);simp only[go_sem,lh,S];refine aB (R.fmk (k:Int) 8 (by unfold eJ; omega) (by unfold eJ; omega)) rfl ?_;unfold CH;rw[if_neg (by decide)];simp only[go_sem];refine aO fun p Z=>?_;have j:=X.new Z (.rows 3 [(mkT (k:Nat) 8).cells]);have U:=j.at 2 rfl;have V:=j.pK;have I:(1:Nat)*3≤16777216:=by decide
 have α:∀ y,PH.set (PH.set H p (.rows 3 [[PV.bool false,PV.aD,PV.aD]])) p y=PH.set H p y:=fun y=>PH.set_set p _ _;simp only[go_sem,lj,f6,U,V,I];refine j.append 0 (src:=[(mkT (k:Nat) 8).cells]) rfl rfl (lg Om) fun u H2 J M=>?_;rw[DI] at J M; rw[qL] at M;obtain⟨q,rfl⟩:=M (by simp);have E:=J.at 2 rfl;simp only[go_sem,E,a8S,a9D,or_false,forall_eq];have W:=J.set 2 rfl (ki (.osl q 3 0 (s.start++[mkT (k:Nat) 8]).length) x A);refine Y _ _ _ (B++[(p,.rows 3 [(mkT (k:Nat) 8).cells])]) ?_ W;unfold dZ;exact Lq
theorem aHC {C:Ctx} (N:yB C) {l:List Nat} {v:PV} (T:Tp l v) (o o4 o6 n i left a:Nat) (ha:a≤l.length) (hi:i<n) (hn:n≤100) (s:NS) (hs:s.exit.length=i) (w x M:PV) (B:List BX) (u:aC) (K:cI) (F:PF) (H:PH)
  (J:(dZ o o4 o6 n left i).le F) (hH:aM H (wI o o4 o6 v w x M a++B) (BA s w x M))
  (hK:∀ I e H' B',(dZ o o4 o6 n left i).le e→aM H' (wI o o4 o6 v w x I (jQ l n i a).2++B') (BA { s with exit:=s.exit++[(jQ l n i a).1] } w x I)→aC.wp C u K e H') :
  aC.wp C (.seq (.region lk) (.seq (.seq (.region ll) (.cond (.tmp 58) (.region lm) .skip)) (.seq (.region QH) u))) K F H:=by
 have f0:F 0=some (.ptr o 2 0 0):=J 0 _ (by unfold dZ; simp only[go_sem]);have f4:F 4=some (.ptr o4 4 0 0):=J 4 _ (by unfold dZ; simp only[go_sem]);have f5:F 5=some (.int .i64 n):=J 5 _ (by unfold dZ; simp only[go_sem]);have f6:F 6=some (.ptr o6 4 0 0):=J 6 _ (by unfold dZ; simp only[go_sem]);have f7:F 7=some (.int .i64 left):=J 7 _ (by unfold dZ; simp only[go_sem]);have f8:F 8=some (.int .i64 i):=J 8 _ (by unfold dZ; simp only[go_sem]);have e1:IntKind.i64.wrap ((i:Int)+1)=((i+1:Nat):Int):=dW Om;simp only[go_sem,lk,f0];refine rC (N.frac l v T o a ha) (hH.at 0 rfl) rfl ?_;have X:=hH.set 0 rfl (bW v (jH l a).2);simp only[go_sem];refine aO fun p hp=>?_;have A:=X.new hp (.rows 3 [(jH l a).1.cells]);simp only[go_sem,ll,f8,f5,e1];have fin:∀ (e:PF) (H':PH),(dZ o o4 o6 n left i).le e→e 12=some (.ptr p 3 0 0)→aM H' (wI o o4 o6 v w x M (jQ l n i a).2++B++[(p,.rows 3 [(jQ l n i a).1.cells])]) (BA s w x M)→wpOps C QH (aC.wp C u K) e H':=by
  intro e H' j R y;have q0:e 0=some (.ptr o 2 0 0):=j 0 _ (by unfold dZ; simp only[go_sem]);have q4:e 4=some (.ptr o4 4 0 0):=j 4 _ (by unfold dZ; simp only[go_sem]);have q5:e 5=some (.int .i64 n):=j 5 _ (by unfold dZ; simp only[go_sem]);have q6:e 6=some (.ptr o6 4 0 0):=j 6 _ (by unfold dZ; simp only[go_sem]);have q7:e 7=some (.int .i64 left):=j 7 _ (by unfold dZ; simp only[go_sem]);have q8:e 8=some (.int .i64 i):=j 8 _ (by unfold dZ; simp only[go_sem]);have g6:=y.at 2 rfl;have U:=y.pK;have V:(1:Nat)*3≤16777216:=by decide
  simp only[go_sem,QH,q6,g6,R,U,V];refine y.append 2 (src:=[(jQ l n i a).1.cells]) rfl rfl (lg Om) fun I H2 W Z=>?_;rw[DI] at W Z; rw[qL] at Z;obtain⟨q,rfl⟩:=Z (by simp);have S:=W.at 2 rfl;simp only[go_sem,S,a8S,a9D,or_false,forall_eq];have h3:=W.set 2 rfl (ki w x (.osl q 3 0 (s.exit++[(jQ l n i a).1]).length));refine hK _ _ _ (B++[(p,.rows 3 [(jQ l n i a).1.cells])]) ?_ h3;unfold dZ;exact Lq
 by_cases c:i+1<n
 ·have O:((i+1:Nat):Int)<(n:Nat):=Om;have Y:=zY l ha;simp only[go_sem,O,f0];refine eM N.toNT T (o:=o) (n:=3) (a:=(jH l a).2) (by decide) Y rfl (A.at 0 rfl) ?_;have E:=A.set 0 rfl (bW v (aL l 3 (jH l a).2).2);by_cases c3:(aL l 3 (jH l a).2).1=0
  ·have he:jQ l n i a=(pZ,(aL l 3 (jH l a).2).2):=by unfold jQ; simp only[if_pos c,c3,if_true]
   have U:=aM.pK (B:=wI o o4 o6 v w x M (aL l 3 (jH l a).2).2++B) E;simp only[go_sem,bP (show (((aL l 3 (jH l a).2).1:Nat):Int)=0 by omega),lm];refine aB (N.int 0 (by unfold eJ; omega)) rfl ?_;simp only[go_sem,U];refine fin _ _ ?_ rfl ?_
   ·unfold dZ;exact Lq
   ·rw[he];exact aM.vK (B:=wI o o4 o6 v w x M (aL l 3 (jH l a).2).2++B) E (.rows 3 [pZ.cells])
  ·have he:jQ l n i a=((jH l a).1,(aL l 3 (jH l a).2).2):=by unfold jQ; simp only[if_pos c,c3,if_false]
   simp only[go_sem,bD (show ¬ (((aL l 3 (jH l a).2).1:Nat):Int)=0 by omega)];refine fin _ _ ?_ rfl ?_
   ·unfold dZ;exact Lq
   ·rw[he];exact E
 ·have O:¬ ((i+1:Nat):Int)<(n:Nat):=Om;have he:jQ l n i a=jH l a:=by unfold jQ; simp only[if_neg c]
  simp only[go_sem,O];refine fin _ _ ?_ rfl ?_
  ·unfold dZ;exact Lq
  ·rw[he];exact A
def aLM (l:List Nat) (v:PV) (o fW a:Nat) (r:PV) (H:PH):Prop:=r=.agg (GP l fW a).1.cells∧H=PH.nil.set o (bW v (GP l fW a).2)
theorem aJN {l:List (List RF)} (h:l.length≤1000):roomFor (AI l).length 1 24:=by
 unfold roomFor;simp only[a8E,maxLen]; omega
theorem aJO (l:List (List RF)) (x:List RF):AI l++[[frs x]]=AI (l++[x]):=by simp[AI]
theorem aBZ {C:Ctx} (Lb:yB C) {l:List Nat} {v:PV} (T:Tp l v) (o o4 o6 n left i a:Nat) (ha:a≤l.length) (hn:n≤100) (hi:i<n) (s:NS) (hs:s.a6U.length=i) (y N I:PV) (B:List BX) (K:cI) (F:PF) (H:PH)
  (J:(dZ o o4 o6 n left i).le F) (hH:aM H (wI o o4 o6 v y N I a++B) (BA s y N I))
  (hK:∀ E A W H' B',(dZ o o4 o6 n left i).le W→(∃ q,A=.osl q 3 0 n)→aM H' (wI o o4 o6 v y E I (gD l i a n).2++B') [(y,3,jR s.start),(E,1,AI s.a6U++[[A]]),(I,3,jR s.exit),(A,3,jR (gD l i a n).1)]→K .normal W H') :
  aC.wp C (.seq (.region ln) (.seq (.seq (.region lz) (.block 2 (.loop QG))) (.region l6))) K F H:=by
 have f0:F 0=some (.ptr o 2 0 0):=J 0 _ (by unfold dZ; simp only[go_sem]);have f4:F 4=some (.ptr o4 4 0 0):=J 4 _ (by unfold dZ; simp only[go_sem]);have f5:F 5=some (.int .i64 n):=J 5 _ (by unfold dZ; simp only[go_sem]);have f6:F 6=some (.ptr o6 4 0 0):=J 6 _ (by unfold dZ; simp only[go_sem]);have f7:F 7=some (.int .i64 left):=J 7 _ (by unfold dZ; simp only[go_sem]);have f8:F 8=some (.int .i64 i):=J 8 _ (by unfold dZ; simp only[go_sem]);simp only[go_sem,ln,lz];refine aOE (C:=C) Lb T o o4 o6 n left i a ha hn hi ([(o4,Vm),(o6,ki y N I)]++B) (BA s y N I) _ _ H ?_ hH ?_
 ·unfold iW
  (repeat' (first|exact c_|refine d_ ?_ ?_))<;>first|(simp only[go_sem,f0,f4,f5,f6,f7,f8]<;>rfl)|rfl
 intro w u H1 e x;have j:=pi l i a n;have hw:∃ q,w=.osl q 3 0 n:=by
  rcases x.own (v:=w) 3 rfl with ⟨M,_⟩ | ⟨q,rs,M,_⟩
  ·have:=congrArg List.length M;rw[qL,j] at this;simp at this; omega
  ·rw[qL,j] at M;exact⟨q,M⟩
 obtain⟨q,rfl⟩:=hw;have g0:u 0=some (.ptr o 2 0 0):=e 0 _ (by unfold iW; simp only[go_sem]);have g4:u 4=some (.ptr o4 4 0 0):=e 4 _ (by unfold iW; simp only[go_sem]);have g5:u 5=some (.int .i64 n):=e 5 _ (by unfold iW; simp only[go_sem]);have X:u 6=some (.ptr o6 4 0 0):=e 6 _ (by unfold iW; simp only[go_sem]);have g7:u 7=some (.int .i64 left):=e 7 _ (by unfold iW; simp only[go_sem]);have g8:u 8=some (.int .i64 i):=e 8 _ (by unfold iW; simp only[go_sem]);have R:u 13=some (.osl q 3 0 n):=e 13 _ (by unfold iW; simp only[go_sem]);have b6:=x.at 2 rfl;have S:(1:Nat)*1≤16777216:=by decide
 simp only[go_sem,l6,X,b6,R,S,a8S,a9D,or_false,forall_eq];refine x.append 1 (src:=[[.osl q 3 0 n]]) rfl Sq (aJN Om) fun E H2 Y V=>?_;obtain⟨q2,rfl⟩:=V (by simp);have O:=Y.at 2 rfl;simp only[go_sem,O,a8S,a9D,or_false,forall_eq];have Z:=Y.set 2 rfl (ki y (.osl q2 1 0 (AI s.a6U++[[PV.osl q 3 0 n]]).length) I);have U:(AI s.a6U++[[(PV.osl q 3 0 n:PV)]]).length=s.a6U.length+1:=by simp
 rw[U] at Z ⊢;refine hK (.osl q2 1 0 (s.a6U.length+1)) (.osl q 3 0 n) _ _ B ?_ ⟨q,rfl⟩ Z;unfold dZ
 (repeat' (first|exact c_|refine d_ ?_ ?_))<;>first|(simp only[go_sem,g0,g4,g5,X,g7,g8]<;>rfl)|rfl
theorem aUS {C:Ctx} (K:yB C) {l:List Nat} {v:PV} (T:Tp l v) (o fW a:Nat) (hm:0<fW) (ε:fW≤50) (ha:a≤l.length):WV.wp C (aT aOD.res (aLM l v o fW a)) (PF.args [.ptr o 2 0 0,.int .i64 fW]) (PH.nil.set o (bW v a)):=by
 have h0:aM (PH.nil.set o (bW v a)) [(o,bW v a)] []:=aM.nil.new (H:=PH.nil) rfl (bW v a);simp only[go_sem,WV,apM,aOD];refine aO fun o4 γ=>?_;have J:=h0.new γ Vm;simp only[go_sem,apN];refine eM K.toNT T (o:=o) (n:=fW) (a:=a) Om ha Sq (J.at 0 rfl) ?_;have h2:=J.set 0 rfl (bW v (aL l fW a).2);have hN:=hY l hm a;have Z:=cE l fW ha;have e1:IntKind.i64.wrap (1+((aL l fW a).1:Int))=((1+(aL l fW a).1:Nat):Int):=by rw[wrap_i64 Om Om]; omega
 have β:∀ s:NS,s=lF l (1+(aL l fW a).1) (aL l fW a).2 (1+(aL l fW a).1)→GP l fW a=(⟨[],s.start,s.a6U,s.exit⟩,s.a):=fun s hs=>by rw[hs]; rfl
 have Y:∀ r H,aLM l v o fW a r H↔r=.agg (GP l fW a).1.cells∧H=PH.nil.set o (bW v (GP l fW a).2):=fun _ _=>Iff.rfl;generalize hn:1+(aL l fW a).1=n at *
 generalize hb:(aL l fW a).2=b at *
 have ζ:0<n:=Om;have e:n≤100:=Om;simp only[go_sem,e1,apO];refine aO fun o6 δ=>?_;have h3:=((h2.new δ Vm).kB 3).kB 1;have h4:=h3.kB 3;simp only[go_sem,apP,apQ];refine wp_loop (α:=Nat × PV × PV × PV × PH) (fun t=>dZ o o4 o6 n (lF l n b t.1).left t.1) (fun t=>t.2.2.2.2)
  (fun t=>t.1≤n∧aM t.2.2.2.2 (wI o o4 o6 v t.2.1 t.2.2.1 t.2.2.2.1 (lF l n b t.1).a) (BA (lF l n b t.1) t.2.1 t.2.2.1 t.2.2.2.1)) (fun t=>n-t.1) (0,.aD,.aD,.aD,_) ⟨a8K _,h4⟩ ?_ b_ ?_
 ·unfold dZ
  (repeat' (first|exact c_|refine d_ ?_ ?_))<;>first|(simp only[go_sem,lF]<;>rfl)|rfl
 rintro⟨i,w1,M,N,H0⟩ ⟨hi,F⟩;simp only at hi F ⊢;obtain⟨k1,k2,k3,k4,k5⟩:=Cc l n Z i;simp only[go_sem,Xf,apR,dZ];by_cases hlt:i<n
 ·have B:(i:Int)<(n:Nat):=Om;have E:lF l n b (i+1)=⟨(lF l n b i).start++[mkT ((fY l n i (lF l n b i)).1:Nat) 8],(lF l n b i).exit++[(jQ l n i (fY l n i (lF l n b i)).2).1],(lF l n b i).a6U++[(gD l i (jQ l n i (fY l n i (lF l n b i)).2).2 n).1],(lF l n b i).left-(fY l n i (lF l n b i)).1,(gD l i (jQ l n i (fY l n i (lF l n b i)).2).2 n).2⟩:=rfl;have kl:=kn l n i (lF l n b i) k1;have ke:=Qs l n i kl.1;generalize hs:lF l n b i=s at *
  simp only[go_sem,B];refine aHD (C:=C) K T o o4 o6 n i s k1 k2 e hlt [(o4,Vm),(o6,ki w1 M N)] (BA s w1 M N) _ _ _ H0 (by unfold dZ; exact Lq) F ?_;intro F1 H1 O f9 U;refine aCA (C:=C) (l:=l) K o o4 o6 n i _ (fY l n i s).1 (fY l n i s).2 Om hlt e s k3 w1 M N [] _ _ F1 H1 O f9 U ?_;intro j F2 H2 B2 R V;refine aHC (C:=C) K T o o4 o6 n i _ (fY l n i s).2 kl.1 hlt e { s with start:=s.start++[mkT ((fY l n i s).1:Nat) 8] } k4 j M N B2 _ _ F2 H2 R V ?_;intro u F3 H3 B3 S W;refine aBZ (C:=C) K T o o4 o6 n _ i (jQ l n i (fY l n i s).2).2 ke e hlt { s with start:=s.start++[mkT ((fY l n i s).1:Nat) 8],exit:=s.exit++[(jQ l n i (fY l n i s).2).1] } k5 j M u B3 _ F3 H3 S W ?_;rintro A η I H4 B4 y ⟨q,rfl⟩ X;have g0:I 0=some (.ptr o 2 0 0):=y 0 _ (by unfold dZ; simp only[go_sem]);have g4:I 4=some (.ptr o4 4 0 0):=y 4 _ (by unfold dZ; simp only[go_sem]);have g5:I 5=some (.int .i64 n):=y 5 _ (by unfold dZ; simp only[go_sem]);have g6:I 6=some (.ptr o6 4 0 0):=y 6 _ (by unfold dZ; simp only[go_sem]);have g7:I 7=some (.int .i64 (s.left-(fY l n i s).1:Nat)):=y 7 _ (by unfold dZ; simp only[go_sem]);have g8:I 8=some (.int .i64 i):=y 8 _ (by unfold dZ; simp only[go_sem]);obtain⟨rs,z1,z2,z3,z4,z5⟩:=X.frz 3 rfl;have y1:=z4 0 _ (by decide) rfl;have y2:=z4 1 _ (by decide) rfl;have y3:=z4 2 _ (by decide) rfl;simp only at y1 y2 y3;have y4:=T.frz q 3 rs;simp only[go_sem,Xj,g8,wZz i];refine IH (i+1,j,A,u,H4.frz q 3 rs) z1 ⟨hlt,?_⟩ (by simp only; omega) ?_ b_
  ·rw[E];have eB:(wI o o4 o6 v j A u (gD l i (jQ l n i (fY l n i s).2).2 n).2).map (fun b=>(b.1,b.2.frz q 3 rs))=wI o o4 o6 v j A u (gD l i (jQ l n i (fY l n i s).2).2 n).2:=by simp only[a9T,bbA,bZ.frz,y1,y2,y3,y4];rfl
   have eL:([(j,3,jR (s.start++[mkT ((fY l n i s).1:Nat) 8])),(A,1,AI s.a6U++[[.osl q 3 0 n]]),(u,3,jR (s.exit++[(jQ l n i (fY l n i s).2).1]))]:List LI).map (fun x=>(x.1,x.2.1,x.2.2.map fun r=>r.map (PV.cQ q 3 rs))) =
     BA ⟨s.start++[mkT ((fY l n i s).1:Nat) 8],s.exit++[(jQ l n i (fY l n i s).2).1],s.a6U++[(gD l i (jQ l n i (fY l n i s).2).2 n).1],s.left-(fY l n i s).1,(gD l i (jQ l n i (fY l n i s).2).2 n).2⟩ j A u:=by
    have e2:(AI s.a6U++[[PV.osl q 3 0 n]]).map (fun r=>r.map (PV.cQ q 3 rs))=AI (s.a6U++[(gD l i (jQ l n i (fY l n i s).2).2 n).1]):=by rw[a9U,Lf,a9T,bbA,a9T,bbA,z2,aJO]
    show ([(j,3,(jR (s.start++[mkT ((fY l n i s).1:Nat) 8])).map (fun r=>r.map (PV.cQ q 3 rs))),(A,1,(AI s.a6U++[[PV.osl q 3 0 n]]).map (fun r=>r.map (PV.cQ q 3 rs))),(u,3,(jR (s.exit++[(jQ l n i (fY l n i s).2).1])).map (fun r=>r.map (PV.cQ q 3 rs)))]:List LI)=_;rw[OM,e2,OM]
   rw[← eB,← eL];exact z5.sub (by rw[a9U]; exact bcD ..) (baE.refl _)
  ·rw[E]
   (repeat' (first|exact c_|refine d_ ?_ ?_))<;>first|(simp only[go_sem,g0,g4,g5,g6,g7,g8]<;>rfl)|rfl
 ·have B:¬ (i:Int)<(n:Nat):=Om;have:i=n:=Om;subst this;simp only[go_sem,B,Xk];have b4:=F.at 1 rfl;have b6:=F.at 2 rfl;have osl:∀ {w:PV} {z:Nat} {rows:List (List PV)},rows.length=i→cR H0 z w rows→∃ q,w=.osl q z 0 i:=by
   intro w z rows hr hO;rcases hO with ⟨J,_⟩ | ⟨q,rs,J,_⟩
   ·rw[J] at hr; simp at hr; omega
   ·exact⟨q,by rw[J,hr]⟩
  obtain⟨q1,rfl⟩:=osl (by rw[qL,k3]) (F.own 0 rfl);obtain⟨q2,rfl⟩:=osl (by rw[a8E,k5]) (F.own 1 rfl);obtain⟨q3,rfl⟩:=osl (by rw[qL,k4]) (F.own 2 rfl);have hR:=β (lF l i b i) rfl;simp only[go_sem,b6,b4,a8S,a9D,or_false,forall_eq,forall_eq_or_imp];have x1:=F.set 1 rfl (ki (.osl q1 3 0 i) (.osl q2 1 0 i) (.osl q3 3 0 i));obtain⟨r1,s1,s2,s3,s4,s5⟩:=x1.frz 0 rfl;have u2:=s4 1 _ (by decide) rfl;have u3:=s4 2 _ (by decide) rfl;simp only at u2 u3;have u4:=T.frz q1 3 r1;obtain⟨r2,t1,t2,t3,t4,t5⟩:=s5.frz 0 rfl;have m3:=t4 1 _ (by decide) rfl;simp only at m3;have m4:=T.frz q2 1 r2;obtain⟨r3,n1,n2,n3,n4,n5⟩:=t5.frz 0 rfl;have n4:=T.frz q3 3 r3;refine pE (vs:=[.agg [.str [],.osl q1 3 0 i,.osl q2 1 0 i,.osl q3 3 0 i]]) (.inr rfl) ?_ (.step s1 (.step t1 (.step n1 (.done (H2:=PH.nil.set o (bW v (lF l i b i).a)) ?_ (e_ a_ ?_)))))
  ·simp only[go_sem]
  ·rw[Y,hR];refine⟨?_,rfl⟩;simp only[cB,PV.frz,PV.tX,a9T,bbA,s2,u2,u3,t2,m3,n2];simp only[PV.cQ,OM _ _ _ _,Lf _ _ _ _]
  ·have:=n5.at 0 rfl;rw[this];simp only[bZ.frz,a9T,bbA,u4,m4,n4];rfl
structure rI (C:Ctx):Prop extends yB C where
 law:∀ (l:List Nat) (v:PV),Tp l v→∀ (o fW a:Nat),0<fW→fW≤50→a≤l.length→aH C 2 [.ptr o 2 0 0,.int .i64 fW] (PH.nil.set o (bW v a)) (aLM l v o fW a)
structure GOk (l:List Nat) (a6P:Nat) (s:GS):Prop where
 a6Z:s.a6Z.length≤35
 a7J:s.a7J.length≤a6P
 a:s.a≤l.length
theorem ju {l:List Nat} {mc a6P dom:Nat} {s:GS} (h:GOk l a6P s):∀ i,GOk l a6P (pW l mc a6P dom s i)∧(pW l mc a6P dom s i).a6Z=s.a6Z
 | 0=>⟨h,rfl⟩
 | i+1=>by
  obtain⟨⟨e,w,j⟩,u⟩:=ju (mc:=mc) (dom:=dom) h i;simp only[pW];split
  ·exact⟨⟨e,by simp only[a8H,a8N]; omega,cE l mc j⟩,u⟩
  ·exact⟨⟨e,w,j⟩,u⟩
theorem akB {l:List Nat} {level dom a6P:Nat} {s:GS} (h:GOk l a6P s) (e:yM a6P s=false):GOk l a6P (zV l level dom s)∧∃ x:dB,(zV l level dom s).a6Z=s.a6Z++[x]∧x.level=(level:Int)∧x.parent=(dom:Int):=by
 obtain⟨w,j,u⟩:=h;unfold yM at e;rw[Bool.or_eq_false_iff] at e;have y:=of_decide_eq_false e.2;refine⟨⟨?_,j,?_⟩,_,rfl,rfl,rfl⟩
 ·simp only[zV,a8H,a8N]; omega
 ·have a1:=cE l 3 (cE l 16 u);simp only[zV];split
  ·exact cE l 6 a1
  ·exact a1
theorem jv {l:List Nat} {level a6P dom:Nat} {rec:Nat→GS→GS} (e:∀ d t,GOk l a6P t→GOk l a6P (rec d t)∧∃ u,(rec d t).a6Z=t.a6Z++u) {s:GS} (h:GOk l a6P s) :
  ∀ i,GOk l a6P (mG l level a6P dom rec s i)∧∃ u,(mG l level a6P dom rec s i).a6Z=s.a6Z++u
 | 0=>⟨h,[],by simp[mG]⟩
 | i+1=>by
  obtain⟨j,u,w⟩:=jv e h i;simp only[mG];split
  ·exact⟨j,u,w⟩
  ·rename_i y;obtain⟨g1,x,g2,-⟩:=akB (level:=level) (dom:=dom) j (by simpa using y);obtain⟨k1,A,k2⟩:=e ((zV l level dom (mG l level a6P dom rec s i)).a6Z.length-1) _ g1;exact⟨k1,u++[x]++A,by rw[k2,g2,w]; simp⟩
theorem jw {l:List Nat} {mc a6P:Nat}:∀ (k dom:Nat) {s:GS},GOk l a6P s→GOk l a6P (jC l mc a6P k dom s)∧∃ u,(jC l mc a6P k dom s).a6Z=s.a6Z++u
 | 0,dom,s,h=>by have e:GOk l a6P { s with a:=(aL l 2 s.a).2 }:=⟨h.a6Z,h.a7J,cE l 2 h.a⟩;obtain⟨j,w⟩:=ju (mc:=mc) (dom:=dom) e (1+(aL l 2 s.a).1);exact⟨j,[],by simp only[jC]; rw[w]; simp⟩
 | k+1,dom,s,h=>by have e:GOk l a6P { s with a:=(aL l 2 s.a).2 }:=⟨h.a6Z,h.a7J,cE l 2 h.a⟩;exact jv (level:=4-k) (dom:=dom) (fun d t x=>jw k d x) e (if 4-k=2 then 1 else 1+(aL l 2 s.a).1)
theorem aBF {l : List Nat} {level a6P dom : Nat} {rec : Nat → GS → GS} {s : GS} {i : Nat} (h : yM a6P (mG l level a6P dom rec s i) = true) : ∀ n, i ≤ n → mG l level a6P dom rec s n = mG l level a6P dom rec s i := by
  intro n hn
  induction n with
  | zero => have : i = 0 := Om
            subst this; rfl
  | succ n ih =>
    rcases a8Z n i with h' | h'
    · have : i = n + 1 := Om
      subst this; rfl
    · have e := ih h'
      simp only [mG];rw [e, if_pos h]
def mkS (l:List Nat) (v:PV):Spec:=fun name vs=>match name,vs with
 | 29,[.str s,.int _ i]=>some ([],fun _=>aI (.str (s++dU i.toNat)))
 | 47,[.int _ n]=>some ([],fun _=>aI (.agg (mkT n 1).cells))
 | 4,[.ptr o _ _ _,.int _ n]=>some ([o],fun H0 r H'=>∀ a,H0 o=some (bW v a)→qu l v o n.toNat a r H')
 | _,_=>none
section
variable {C:Ctx} {F:PF} {H Hs:PH} {l:List Nat} {v:PV} {o a:Nat}
theorem wS (u:NT C) (T:Tp l v) {n:Nat} {st:Bool} {args:List aP} {d:Option Nat} {K:PF→PH→Prop} (B:n≤1000000) (w:a≤l.length) (e:aP.evs F args=some [.ptr o 2 0 0,.int .i64 n]) (E:H o=some (bW v a))
  (j:Hs.le (H.set o (bW v (aL l n a).2))) (A:K (F.put d (.int .i64 ((aL l n a).1:Nat))) (H.set o (bW v (aL l n a).2))):dOp C Hs (mkS l v) st (.call 4 args) d K F H:=by
 refine aMA (x:=bW v a) (y:=bW v (aL l n a).2) (r:=.int .i64 ((aL l n a).1:Nat)) (R:=fun H0 r H'=>∀ a,H0 o=some (bW v a)→qu l v o n a r H') rfl E (u.next l v T o n a B w) ?_ ?_ e j A
 ·intro b hb;rw[bS] at hb;injection hb with hb
  injection hb with _ hb
  injection hb with hb _
  injection hb with _ hb
  injection hb with hb _
  injection hb with _ hb
  have:a=b:=Om;subst this;exact⟨rfl,rfl⟩
 ·intro J H' I;exact I a (by rw[bS])
theorem NY (u:yB C) {s:List UInt8} {n:Nat} {st:Bool} {args:List aP} {d:Option Nat} {K:PF→PH→Prop} (y:s.length≤100) (x:n<100) (e:aP.evs F args=some [.str s,.int .i64 n]) (j:Hs.le H) (w:K (F.put d (.str (s++dU n))) H) :
  dOp C Hs (mkS l v) st (.call 29 args) d K F H :=
 cC (v:=.str (s++dU n)) rfl (u.name s n y x) e j w
theorem aSY (u:NT C) {n:Int} {st:Bool} {args:List aP} {d:Option Nat} {K:PF→PH→Prop} (x:eJ n) (e:aP.evs F args=some [.int .i64 n]) (j:Hs.le H) (w:K (F.put d (.agg (mkT n 1).cells)) H) :
  dOp C Hs (mkS l v) st (.call 47 args) d K F H :=
 cC (v:=.agg (mkT n 1).cells) rfl (u.int n x) e j w
end
theorem cR.yO {H:PH} {s:Nat} {v:PV} {rows:List (List PV)} (h:cR H s v rows):PV.yO v=some (.int .i64 (rows.length:Nat)):=by
 rcases h with ⟨rfl,rfl⟩ | ⟨q,rs,rfl,_⟩<;>rfl
abbrev nH (l:List dB):List (List PV):=l.map dB.cells
abbrev qK (l:List eT):List (List PV):=l.map eT.cells
abbrev flB (ext wl j e l wp wv:PV):bZ:=.rows 7 [[ext,wl,j,e,l,wp,wv]]
structure GE where
 o:Nat
 fo:Nat
 qm:Nat
 ext:PV
 wl:PV
 wp:PV
 wv:PV
abbrev GE.boxes (G:GE) (v:PV) (mc:Nat) (e j:PV) (a:Nat):List BX:=[(G.o,bW v a),(G.fo,flB G.ext G.wl (.osl G.qm 4 0 mc) e j G.wp G.wv)]
abbrev pX (s:GS) (e j:PV):List LI:=[(e,7,nH s.a6Z),(j,3,qK s.a7J)]
def gT (G:GE) (dom a6P level n i:Nat):PF:=(((((((PF.nil.set 0 (.ptr G.o 2 0 0)).set 1 (.ptr G.fo 7 0 0)).set 2 (.int .i64 dom)).set 3 (.int .i64 a6P)).set 8 (.int .i64 level)).set 9 (.int .i64 n)).set 10 (.int .i64 i))
theorem cR.one {H:PH} {s:Nat} {v:PV} {rows:List (List PV)} (h:cR H s v rows) (e:0<rows.length):∃ q,v=.osl q s 0 rows.length:=by
 rcases h with ⟨rfl,_⟩ | ⟨q,rs,rfl,_⟩
 ·simp at e
 ·exact⟨q,rfl⟩
theorem Wz {C:Ctx} (S:rI C) {l:List Nat} {v:PV} (T:Tp l v) (G:GE) (mc a6P dom n:Nat) (γ:0<mc) (Z:mc≤1000) (β:a6P≤60) (hn:n≤10) (s:GS) (hs:GOk l a6P s) (w y:PV) (K:cI) (F:PF) (H:PH)
  (hF:(gT G dom a6P 5 n 0).le F) (x:aM H (G.boxes v mc w y s.a) (pX s w y))
  (hK:∀ J B F' H',aM H' (G.boxes v mc J B (pW l mc a6P dom s n).a) (pX (pW l mc a6P dom s n) J B)→K (.exit 0) F' H') :
  aC.wp C (.loop BZ) K F H:=by
 refine wp_loop (α:=Nat × PV × PV × PH) (fun t=>gT G dom a6P 5 n t.1) (fun t=>t.2.2.2) (fun t=>t.1≤n∧aM t.2.2.2 (G.boxes v mc t.2.1 t.2.2.1 (pW l mc a6P dom s t.1).a) (pX (pW l mc a6P dom s t.1) t.2.1 t.2.2.1)) (fun t=>n-t.1) (0,w,y,H) ⟨a8K _,x⟩ hF b_ ?_;rintro⟨i,w,y,H0⟩ ⟨hi,x⟩;simp only at hi x ⊢;obtain⟨O,-⟩:=ju (mc:=mc) (dom:=dom) hs i;have j:pW l mc a6P dom s (i+1)=(if (pW l mc a6P dom s i).a7J.length<a6P then { pW l mc a6P dom s i with a7J:=(pW l mc a6P dom s i).a7J++[⟨[100]++dU (pW l mc a6P dom s i).a7J.length,((aL l mc (pW l mc a6P dom s i).a).1:Nat),(dom:Nat)⟩],a:=(aL l mc (pW l mc a6P dom s i).a).2 } else pW l mc a6P dom s i):=rfl;simp only[go_sem,BZ,k7,gT];by_cases hlt:i<n
 ·have u:(i:Int)<(n:Nat):=Om;generalize hg:pW l mc a6P dom s i=g at *
  have M:=x.at 1 rfl;have R:=(x.own 1 rfl).yO;rw[a8E] at R;have V:=wZz i;simp only[go_sem,u,lf,show (((5:Nat):Int)==5)=true from rfl,W5,M,R];by_cases Y:g.a7J.length<a6P
  ·have A:(g.a7J.length:Int)<(a6P:Nat):=Om;rw[if_pos Y] at j;simp only[go_sem,A];have I:(PH.nil.set G.fo (flB G.ext G.wl (.osl G.qm 4 0 mc) w y G.wp G.wv)).le H0:=e_ a_ M;refine aV (PH.nil.set G.fo (flB G.ext G.wl (.osl G.qm 4 0 mc) w y G.wp G.wv)) (mkS l v) I ?_;simp only[go_sem,W6,M,R];refine NY S.toyB (s:=[100]) (n:=g.a7J.length) (by decide) (by have:=O.a7J; omega) rfl I ?_;simp only[go_sem];have ho:=x.at 0 rfl;have W:=x.set 0 rfl (bW v (aL l mc g.a).2);have N:=W.at 1 rfl;refine wS S.toNT T (o:=G.o) (n:=mc) (a:=g.a) Om O.a rfl ho (e_ a_ N) ?_;have E:(1:Nat)*3≤16777216:=by decide
   simp only[go_sem,E,a8S,a9D,or_false,forall_eq,forall_eq_or_imp];refine W.append 1 (src:=[(⟨[100]++dU g.a7J.length,((aL l mc g.a).1:Nat),(dom:Nat)⟩:eT).cells]) rfl rfl (by unfold roomFor; rw[a8E]; have:=O.a7J; simp only[a8N,maxLen]; omega) fun B H2 X hw=>?_;obtain⟨q,rfl⟩:=hw (by simp);have U:=X.at 1 rfl;refine⟨e_ a_ U,?_⟩;refine aV .nil cA a_ ?_;simp only[go_sem,W7,U,a8S,a9D,or_false,forall_eq];have h3:=X.set 1 rfl (flB G.ext G.wl (.osl G.qm 4 0 mc) w (.osl q 3 0 (qK g.a7J++[(⟨[100]++dU g.a7J.length,((aL l mc g.a).1:Nat),(dom:Nat)⟩:eT).cells]).length) G.wp G.wv);refine⟨a_,?_⟩;simp only[go_sem,CA,V];refine aG (i+1,w,.osl q 3 0 (qK g.a7J++[(⟨[100]++dU g.a7J.length,((aL l mc g.a).1:Nat),(dom:Nat)⟩:eT).cells]).length,_) ⟨hlt,?_⟩ (by simp only; omega) ?_ b_
   ·rw[j];have e:qK (g.a7J++[(⟨[100]++dU g.a7J.length,((aL l mc g.a).1:Nat),(dom:Nat)⟩:eT)])=qK g.a7J++[(⟨[100]++dU g.a7J.length,((aL l mc g.a).1:Nat),(dom:Nat)⟩:eT).cells]:=by simp[qK]
    unfold pX;simp only;rw[e];exact h3
   ·exact Lq
  ·have A:¬ (g.a7J.length:Int)<(a6P:Nat):=Om;rw[if_neg Y] at j;simp only[go_sem,A,CA,V];refine aG (i+1,w,y,H0) ⟨hlt,by rw[j]; exact x⟩ (by simp only; omega) ?_ b_;exact Lq
 ·have u:¬ (i:Int)<(n:Nat):=Om;have:i=n:=Om;subst this;simp only[go_sem,u];exact hK w y _ _ x
def azG (G:GE) (v:PV) (mc:Nat) (s':GS) (r:PV) (B':List BX) (L':List LI):Prop:=r=.tup []∧∃ e j,B'=G.boxes v mc e j s'.a∧L'=pX s' e j
def qt (C:Ctx) (l:List Nat) (v:PV) (mc a6P k:Nat):Prop :=
 ∀ (G:GE) (e j:PV) (s:GS) (dom:Nat) (x:dB),GOk l a6P s→s.a6Z[dom]?=some x→x.level=4-(k:Int)→∀ H0,aM H0 (G.boxes v mc e j s.a) (pX s e j) →
  aH C 7 [.ptr G.o 2 0 0,.ptr G.fo 7 0 0,.int .i64 dom,.int .i64 a6P] H0 (fun r H'=>∃ B' L',azG G v mc (jC l mc a6P k dom s) r B' L'∧aM H' B' L')
theorem aGW {e:Nat} (h:e≤4):([45,115,114,107,109]:List UInt8)[e]?=some (sY e):=by
 match e,h with
 | 0,_=>rfl
 | 1,_=>rfl
 | 2,_=>rfl
 | 3,_=>rfl
 | 4,_=>rfl
theorem dx {C:Ctx} {l:List Nat} {v:PV} (G:GE) (mc a6P dom A n i k p:Nat) (γ:A=4-k) (hk:k<4) (y:qt C l v mc a6P k) (g:GS) (x:dB) (a:Nat) (W:GOk l a6P { g with a6Z:=g.a6Z++[x],a:=a }) (hx:x.level=(A:Nat)) (X w:PV) (β:a6P≤60) (K:cI) (F:PF) (H:PH)
  (j:(gT G dom a6P A n i).le F) (f11:F 11=some (.ptr p 7 0 0)) (J:aM H (G.boxes v mc X w a++[(p,.rows 7 [x.cells])]) (pX g X w))
  (hK:∀ u B U H',(gT G dom a6P A n i).le U→aM H' (G.boxes v mc u B (jC l mc a6P k g.a6Z.length { g with a6Z:=g.a6Z++[x],a:=a }).a) (pX (jC l mc a6P k g.a6Z.length { g with a6Z:=g.a6Z++[x],a:=a }) u B)→K .normal U H') :
  aC.wp C (.draw WT) (jY C (aC.wp C (.region WU)) K) F H:=by
 have f0:F 0=some (.ptr G.o 2 0 0):=j 0 _ (by unfold gT; simp only[go_sem]);have f1:F 1=some (.ptr G.fo 7 0 0):=j 1 _ (by unfold gT; simp only[go_sem]);have f2:F 2=some (.int .i64 dom):=j 2 _ (by unfold gT; simp only[go_sem]);have f3:F 3=some (.int .i64 a6P):=j 3 _ (by unfold gT; simp only[go_sem]);have f8:F 8=some (.int .i64 A):=j 8 _ (by unfold gT; simp only[go_sem]);have f9:F 9=some (.int .i64 n):=j 9 _ (by unfold gT; simp only[go_sem]);have α:F 10=some (.int .i64 i):=j 10 _ (by unfold gT; simp only[go_sem]);have O:=W.a6Z;simp only[a8H,a8N] at O;have Y:=J.at 1 rfl;have Z:=J.at 2 rfl;have E:(1:Nat)*7≤16777216:=by decide
 refine aV .nil cA a_ ?_;simp only[go_sem,WT,f1,f11,Y,Z,E,a8S,a9D,or_false,forall_eq,forall_eq_or_imp];refine J.append 0 (src:=[x.cells]) rfl rfl (by unfold roomFor; rw[a8E]; simp only[a8N,maxLen]; omega) fun u H2 I hw=>?_;obtain⟨q,rfl⟩:=hw (by simp);have hl:(nH g.a6Z++[x.cells]).length=g.a6Z.length+1:=by simp
 rw[hl] at I ⊢;have c1:=I.at 1 rfl;refine⟨a_,?_⟩;simp only[go_sem,c1,a8S,a9D,or_false,forall_eq];have V:=I.set 1 rfl (flB G.ext G.wl (.osl G.qm 4 0 mc) (.osl q 7 0 (g.a6Z.length+1)) w G.wp G.wv);have c2:=V.at 1 rfl;refine⟨a_,?_⟩;have e:nH (g.a6Z++[x])=nH g.a6Z++[x.cells]:=by simp[nH]
 have ew:IntKind.i64.wrap (((g.a6Z.length+1:Nat):Int)-1)=(g.a6Z.length:Int):=by rw[wrap_i64 Om Om]; omega
 simp only[go_sem,WU,f0,f1,f3,ew];have h4:aM (H2.set G.fo (flB G.ext G.wl (.osl G.qm 4 0 mc) (.osl q 7 0 (g.a6Z.length+1)) w G.wp G.wv)) (G.boxes v mc (.osl q 7 0 (g.a6Z.length+1)) w a++[(p,.rows 7 [x.cells])]) (pX { g with a6Z:=g.a6Z++[x],a:=a } (.osl q 7 0 (g.a6Z.length+1)) w++[]):=by unfold pX;simp only;rw[e];exact V
 refine MF h4 (fun H0 N=>y G _ w { g with a6Z:=g.a6Z++[x],a:=a } g.a6Z.length x W (by simp) (by rw[hx]; omega) H0 N) rfl ?_;rintro r B' L' H' ⟨rfl,R,S,rfl,rfl⟩ M;refine hK R S _ _ ?_ (M.sub (bcD ..) (by rw[a9W]; exact baE.refl _));unfold gT;exact Lq
theorem UQ {C:Ctx} (V:rI C) {l:List Nat} {v:PV} (T:Tp l v) (G:GE) (mc a6P dom n k:Nat) (hk:k<4) (X:a6P≤60) (hn:n≤10) (R:qt C l v mc a6P k) (s:GS) (hs:GOk l a6P s) (ζ:0<s.a6Z.length) (N O:PV) (K:cI) (F:PF) (H:PH)
  (hF:(gT G dom a6P (4-k) n 0).le F) (E:aM H (G.boxes v mc N O s.a) (pX s N O))
  (hK:∀ e A B y H',(e=.exit 0∨e=.ret)→aM H' (G.boxes v mc A B (mG l (4-k) a6P dom (jC l mc a6P k) s n).a) (pX (mG l (4-k) a6P dom (jC l mc a6P k) s n) A B)→K e y H') :
  aC.wp C (.loop BZ) K F H:=by
 obtain⟨j,U⟩:∃ j,j=4-k:=⟨_,rfl⟩;rw[← U] at hF hK;refine wp_loop (α:=Nat × PV × PV × PH) (fun t=>gT G dom a6P j n t.1) (fun t=>t.2.2.2) (fun t=>t.1≤n∧aM t.2.2.2 (G.boxes v mc t.2.1 t.2.2.1 (mG l j a6P dom (jC l mc a6P k) s t.1).a) (pX (mG l j a6P dom (jC l mc a6P k) s t.1) t.2.1 t.2.2.1)) (fun t=>n-t.1) (0,N,O,H) ⟨a8K _,E⟩ hF b_ ?_;rintro⟨i,N,O,H0⟩ ⟨hi,E⟩;simp only at hi E ⊢;obtain⟨Z,u,gu⟩:=jv (level:=j) (dom:=dom) (fun d t ht=>jw (mc:=mc) k d ht) hs i;have J:=fun h=>aBF (l:=l) (level:=j) (a6P:=a6P) (dom:=dom) (rec:=jC l mc a6P k) (s:=s) (i:=i) h n hi;have x:mG l j a6P dom (jC l mc a6P k) s (i+1)=(if yM a6P (mG l j a6P dom (jC l mc a6P k) s i) then mG l j a6P dom (jC l mc a6P k) s i else jC l mc a6P k ((zV l j dom (mG l j a6P dom (jC l mc a6P k) s i)).a6Z.length-1) (zV l j dom (mG l j a6P dom (jC l mc a6P k) s i))):=rfl;simp only[go_sem,BZ,k7,gT];by_cases hlt:i<n
 ·have M:(i:Int)<(n:Nat):=Om;generalize hg:mG l j a6P dom (jC l mc a6P k) s i=g at *
  have ε:0<g.a6Z.length:=by rw[gu,a8H]; omega
  have b1:=E.at 1 rfl;have lr:=(E.own 1 rfl).yO;have ld:=(E.own 0 rfl).yO;rw[a8E] at lr ld;have ei:=wZz i;simp only[go_sem,M,lf,bD (Om:((j:Nat):Int)≠5),G7,b1,lr];by_cases c1:a6P≤g.a7J.length
  ·have W:yM a6P g=true:=by unfold yM; simp[c1]
   simp only[go_sem,show (g.a7J.length:Int)≥(a6P:Nat) by omega];exact hK _ N O _ _ (.inr rfl) (by rw[J W]; exact E)
  simp only[go_sem,show ¬ (g.a7J.length:Int)≥(a6P:Nat) by omega,b1,ld];by_cases c2:35≤g.a6Z.length
  ·have W:yM a6P g=true:=by unfold yM; simp[c2]
   simp only[go_sem,show (g.a6Z.length:Int)≥35 by omega];exact hK _ N O _ _ (.inr rfl) (by rw[J W]; exact E)
  have W:yM a6P g=false:=by unfold yM; simp[c1,c2]
  rw[if_neg (by rw[W]; decide)] at x;simp only[go_sem,show ¬ (g.a6Z.length:Int)≥35 by omega];have ls:=aGW (Om:j≤4);refine aV .nil (mkS l v) a_ ?_;have γ:tU [[PV.int IntKind.u8 (((sY j).toNat:Nat):Int)]]=some [sY j]:=by simp[tU]
  obtain⟨Y,x0,β,-⟩:=akB (level:=j) (dom:=dom) Z W;have δ:(zV l j dom g).a6Z.length-1=g.a6Z.length:=by rw[β]; simp
  rw[δ] at x;have h1:=E.set 0 rfl (bW v (aL l 16 g.a).2);have a1:=cE l 16 Z.a;have n1:=hY l (show 0<16 by decide) g.a;have e1:IntKind.i64.wrap (1+((aL l 16 g.a).1:Int))=((1+(aL l 16 g.a).1:Nat):Int):=by rw[wrap_i64 Om Om]; omega
  simp only[go_sem,G8,ls,γ,b1,ld];refine NY V.toyB (s:=[sY j]) (n:=g.a6Z.length) (by simp) (by have:=Z.a6Z; omega) rfl a_ ?_;simp only[go_sem];refine wS V.toNT T (o:=G.o) (n:=16) (a:=g.a) Om Z.a rfl (E.at 0 rfl) a_ ?_;simp only[go_sem,e1];refine aSY V.toNT (n:=0) (by unfold eJ; omega) rfl a_ ?_;simp only[go_sem,a8S,a9D,or_false,forall_eq,forall_eq_or_imp];refine aO fun p hp=>?_;have h2:=h1.new hp (.rows 7 [(⟨[sY j]++dU g.a6Z.length,(j:Nat),(dom:Nat),(1+(aL l 16 g.a).1:Nat),pZ⟩:dB).cells]);simp only[go_sem,a8S,a9D,or_false,forall_eq,forall_eq_or_imp];refine⟨a_,?_⟩;simp only[go_sem,G9];refine eM V.toNT T (o:=G.o) (n:=3) (a:=(aL l 16 g.a).2) (by decide) a1 rfl (h2.at 0 rfl) ?_;have h3:=h2.set 0 rfl (bW v (aL l 3 (aL l 16 g.a).2).2);have a2:=cE l 3 a1;by_cases c3:(aL l 3 (aL l 16 g.a).2).1=0
  ·have hd:zV l j dom g={ g with a6Z:=g.a6Z++[⟨[sY j]++dU g.a6Z.length,(j:Nat),(dom:Nat),(1+(aL l 16 g.a).1:Nat),mkT 1 ((2+(aL l 6 (aL l 3 (aL l 16 g.a).2).2).1:Nat):Int)⟩],a:=(aL l 6 (aL l 3 (aL l 16 g.a).2).2).2 }:=by unfold zV; simp only[c3,if_true]
   rw[hd] at x Y;have n2:=hY l (show 0<6 by decide) (aL l 3 (aL l 16 g.a).2).2;have e2:IntKind.i64.wrap (2+((aL l 6 (aL l 3 (aL l 16 g.a).2).2).1:Int))=((2+(aL l 6 (aL l 3 (aL l 16 g.a).2).2).1:Nat):Int):=by rw[wrap_i64 Om Om]; omega
   simp only[go_sem,bP (show (((aL l 3 (aL l 16 g.a).2).1:Nat):Int)=0 by omega),Ha];refine eM V.toNT T (o:=G.o) (n:=6) (a:=(aL l 3 (aL l 16 g.a).2).2) (by decide) a2 rfl (h3.at 0 rfl) ?_;have h4:=h3.set 0 rfl (bW v (aL l 6 (aL l 3 (aL l 16 g.a).2).2).2);rw[PH.set_set] at h4;simp only[go_sem,e2];refine aB (V.fmk 1 ((2+(aL l 6 (aL l 3 (aL l 16 g.a).2).2).1:Nat):Int) (by unfold eJ; omega) (by unfold eJ; omega)) rfl ?_;unfold CH;rw[if_neg Om];simp only[go_sem,show ¬ p=G.o from h4.ne 2 0 rfl rfl (by decide)];have h5:=h4.set 2 rfl (.rows 7 [(⟨[sY j]++dU g.a6Z.length,(j:Nat),(dom:Nat),(1+(aL l 16 g.a).1:Nat),mkT 1 ((2+(aL l 6 (aL l 3 (aL l 16 g.a).2).2).1:Nat):Int)⟩:dB).cells])
   try simp only[D9]
   refine dx G mc a6P dom j n i k p U hk R g _ _ Y rfl N O X _ _ _ (by unfold gT; exact Lq) rfl h5 ?_;intro A B y H' w I;rw[← x] at I;have S:y 10=some (.int .i64 i):=w 10 _ (by unfold gT; simp only[go_sem]);have g0:y 0=some (.ptr G.o 2 0 0):=w 0 _ (by unfold gT; simp only[go_sem]);have g1:y 1=some (.ptr G.fo 7 0 0):=w 1 _ (by unfold gT; simp only[go_sem]);have g2:y 2=some (.int .i64 dom):=w 2 _ (by unfold gT; simp only[go_sem]);have g3:y 3=some (.int .i64 a6P):=w 3 _ (by unfold gT; simp only[go_sem]);have g8:y 8=some (.int .i64 j):=w 8 _ (by unfold gT; simp only[go_sem]);have g9:y 9=some (.int .i64 n):=w 9 _ (by unfold gT; simp only[go_sem]);simp only[go_sem,CA,S,ei];refine aG (i+1,A,B,H') ⟨hlt,I⟩ (by simp only; omega) ?_ b_;exact Lq
  ·have hd:zV l j dom g={ g with a6Z:=g.a6Z++[⟨[sY j]++dU g.a6Z.length,(j:Nat),(dom:Nat),(1+(aL l 16 g.a).1:Nat),pZ⟩],a:=(aL l 3 (aL l 16 g.a).2).2 }:=by unfold zV; simp only[c3,if_false]
   rw[hd] at x Y;simp only[go_sem,bD (show ¬ (((aL l 3 (aL l 16 g.a).2).1:Nat):Int)=0 by omega)]
   try simp only[D9]
   refine dx G mc a6P dom j n i k p U hk R g _ _ Y rfl N O X _ _ _ (by unfold gT; exact Lq) rfl h3 ?_;intro A B y H' w I;rw[← x] at I;have S:y 10=some (.int .i64 i):=w 10 _ (by unfold gT; simp only[go_sem]);have g0:y 0=some (.ptr G.o 2 0 0):=w 0 _ (by unfold gT; simp only[go_sem]);have g1:y 1=some (.ptr G.fo 7 0 0):=w 1 _ (by unfold gT; simp only[go_sem]);have g2:y 2=some (.int .i64 dom):=w 2 _ (by unfold gT; simp only[go_sem]);have g3:y 3=some (.int .i64 a6P):=w 3 _ (by unfold gT; simp only[go_sem]);have g8:y 8=some (.int .i64 j):=w 8 _ (by unfold gT; simp only[go_sem]);have g9:y 9=some (.int .i64 n):=w 9 _ (by unfold gT; simp only[go_sem]);simp only[go_sem,CA,S,ei];refine aG (i+1,A,B,H') ⟨hlt,I⟩ (by simp only; omega) ?_ b_;exact Lq
 ·have M:¬ (i:Int)<(n:Nat):=Om;have:i=n:=Om;subst this;simp only[go_sem,M];exact hK _ N O _ _ (.inl rfl) E
theorem W0 {C:Ctx} (O:rI C) {l:List Nat} {v:PV} (T:Tp l v) (mc a6P k:Nat) (U:0<mc) (J:mc≤1000) (E:a6P≤60) (hk:k≤4) (M:∀ Z,k=Z+1→qt C l v mc a6P Z) (G:GE) (W N:PV) (s:GS) (dom:Nat) (x:dB)
  (R:GOk l a6P s) (Y:s.a6Z[dom]?=some x) (hl:x.level=4-(k:Int)) (H0:PH) (I:aM H0 (G.boxes v mc W N s.a) (pX s W N)) :
  DU.wp C (aT O9.res (fun r H'=>∃ B' L',azG G v mc (jC l mc a6P k dom s) r B' L'∧aM H' B' L')) (PF.args [.ptr G.o 2 0 0,.ptr G.fo 7 0 0,.int .i64 dom,.int .i64 a6P]) H0:=by
 have B:dom<s.a6Z.length:=(a9F.1 Y).1;have b1:=I.at 1 rfl;have fin:∀ (e:mY) (j u:PV) (y:PF) (H':PH),(e=.exit 0∨e=.ret)→aM H' (G.boxes v mc j u (jC l mc a6P k dom s).a) (pX (jC l mc a6P k dom s) j u) →
   fR 0 (aT O9.res (fun r H'=>∃ B' L',azG G v mc (jC l mc a6P k dom s) r B' L'∧aM H' B' L')) e y H':=by
  intro e j u y H' he w;rcases he with rfl | rfl
  ·rw[JF,if_pos rfl];exact bA (vs:=[]) (.inl rfl) H' rfl b_ ⟨_,_,⟨rfl,j,u,rfl,rfl⟩,w⟩
  ·exact bA (vs:=[]) (.inr rfl) H' rfl b_ ⟨_,_,⟨rfl,j,u,rfl,rfl⟩,w⟩
 obtain⟨q,rs,e1,e2,e3,e4⟩:∃ q rs,W=.osl q 7 0 s.a6Z.length∧H0 q=some (.rows 7 rs)∧s.a6Z.length≤rs.length∧rs.take s.a6Z.length=nH s.a6Z:=by
  rcases I.own 0 rfl with ⟨A,_⟩ | ⟨q,rs,A,h2,h3,h4⟩
  ·have:=congrArg List.length A;rw[a8E] at this;simp at this; rw[this] at B; simp at B
  ·rw[a8E] at A h3 h4;exact⟨q,rs,A,h2,h3,h4⟩
 have V:rs[dom]?=some x.cells:=by
  have:(nH s.a6Z)[dom]?=some x.cells:=by simp[nH,Y]
  rw[← e4,List.getElem?_take_of_lt B] at this;exact this
 subst e1;have c1:(dom:Int)<(s.a6Z.length:Nat):=Om;have ew:IntKind.i64.wrap (x.level+1)=((5-k:Nat):Int):=by rw[hl,wrap_i64 Om Om]; omega
 have β:=hY l (show 0<2 by decide) s.a;have en:IntKind.i64.wrap (1+((aL l 2 s.a).1:Int))=((1+(aL l 2 s.a).1:Nat):Int):=by rw[wrap_i64 Om Om]; omega
 have A:=I.set 0 rfl (bW v (aL l 2 s.a).2);have F:GOk l a6P { s with a:=(aL l 2 s.a).2 }:=⟨R.a6Z,R.a7J,cE l 2 R.a⟩;have α:¬ q=G.o:=fun h=>I.neL 0 0 rfl rfl rfl h.symm;simp only[go_sem,DU,W1,b1,c1,e2,V,ew,W2];refine eM O.toNT T (o:=G.o) (n:=2) (a:=s.a) (by decide) R.a (by simp only[go_sem]; rfl) (I.at 0 rfl) ?_;simp only[go_sem,en,W3];cases k with
 | zero =>
  simp only[go_sem,bD (Om:¬ ((5-0:Nat):Int)=2),QF];refine Wz (C:=C) O T G mc a6P dom (1+(aL l 2 s.a).1) U J E Om { s with a:=(aL l 2 s.a).2 } F _ N _ _ _ ?_ A ?_
  ·unfold gT;exact Lq
  ·intro j u y H' w;exact fin _ j u y H' (.inl rfl) w
 | succ k =>
  have K:=M k rfl;by_cases X:4-k=2
  ·have S:jC l mc a6P (k+1) dom s=mG l (4-k) a6P dom (jC l mc a6P k) { s with a:=(aL l 2 s.a).2 } 1:=by simp only[jC,if_pos X]
   simp only[go_sem,bP (show ((5-(k+1):Nat):Int)=2 by omega),W4,QF];refine UQ (C:=C) O T G mc a6P dom 1 k Om E (by decide) K { s with a:=(aL l 2 s.a).2 } F (by simp only; omega) _ N _ _ _ ?_ A ?_
   ·unfold gT
    (repeat' (first|exact c_|refine d_ ?_ ?_))<;>first|(simp only[go_sem,show 4-k=5-(k+1) by omega]<;>rfl)|rfl
   ·intro e j u y H' he w;rw[← S] at w;exact fin e j u y H' he w
  ·have S:jC l mc a6P (k+1) dom s=mG l (4-k) a6P dom (jC l mc a6P k) { s with a:=(aL l 2 s.a).2 } (1+(aL l 2 s.a).1):=by simp only[jC,if_neg X]
   simp only[go_sem,bD (show ¬ ((5-(k+1):Nat):Int)=2 by omega),QF];refine UQ (C:=C) O T G mc a6P dom (1+(aL l 2 s.a).1) k Om E Om K { s with a:=(aL l 2 s.a).2 } F (by simp only; omega) _ N _ _ _ ?_ A ?_
   ·unfold gT
    (repeat' (first|exact c_|refine d_ ?_ ?_))<;>first|(simp only[go_sem,show 4-k=5-(k+1) by omega]<;>rfl)|rfl
   ·intro e j u y H' he w;rw[← S] at w;exact fin e j u y H' he w
theorem Um {C:Ctx} (y:rI C) {l:List Nat} {v:PV} (T:Tp l v) (mc a6P:Nat) (w:0<mc) (j:mc≤1000) (u:a6P≤60)
  (A:∀ (args:List PV) (H:PH) (R:PV→PH→Prop),args.length=4→DU.wp C (aT O9.res R) (PF.args args) H→aH C 7 args H R):∀ k,k≤4→qt C l v mc a6P k
 | 0,h=>fun G J K s dom x F I E H0 B=>A _ _ _ rfl (W0 y T mc a6P 0 w j u h (fun _ e=>by omega) G J K s dom x F I E H0 B)
 | k+1,h=>fun G J K s dom x F I E H0 B=>A _ _ _ rfl (W0 y T mc a6P (k+1) w j u h (fun M e=>by have:M=k:=Om;subst this;exact Um y T mc a6P w j u A M Om) G J K s dom x F I E H0 B)
theorem aUH (l:List Nat) (fW:Nat) {a:Nat} (h:a≤l.length):(GP l fW a).2≤l.length:=(Cc l (1+(aL l fW a).1) (cE l fW h) (1+(aL l fW a).1)).1
theorem kj (l:List Nat) {a:Nat} (h:a≤l.length):∀ k,(sI l a k).2≤l.length∧(sI l a k).1.length=k
 | 0=>⟨h,rfl⟩
 | k+1=>by obtain⟨e,j⟩:=kj l h k;exact⟨aUH l 2 e,by simp only[sI,a8H,a8N,j]⟩
theorem QL (l:List Nat) (a6X:Nat) {a:Nat} (h:a≤l.length):∀ k,(lN l a6X a k).2≤l.length∧(lN l a6X a k).1.length=k
 | 0=>⟨h,rfl⟩
 | k+1=>by obtain⟨e,j⟩:=QL l a6X h k;exact⟨cE l a6X (cE l 8 (cE l 4 e)),by simp only[lN,a8H,a8N,j]⟩
structure FE where
 o:Nat
 o6:Nat
 o7:Nat
 a6P:Nat
 a6R:Nat
abbrev flZ:bZ:=flB (.int .i64 0) .aD .aD .aD .aD .aD .aD
abbrev FE.boxes (E:FE) (v ext e j l u w x:PV) (a:Nat):List BX:=[(E.o,bW v a),(E.o7,flB ext e j l u w x),(E.o6,flZ)]
def jE (E:FE):PF:=(((((PF.nil.set 0 (.ptr E.o 2 0 0)).set 1 (.int .i64 E.a6P)).set 2 (.int .i64 E.a6R)).set 6 (.ptr E.o6 7 0 0)).set 7 (.ptr E.o7 7 0 0))
abbrev kT (l:List dC):List (List PV):=l.map dC.cells
abbrev nB (l:List dN):List (List PV):=l.map dN.cells
theorem cc {E:FE} {F:PF} (e:F 0=some (.ptr E.o 2 0 0)) (j:F 1=some (.int .i64 E.a6P)) (l:F 2=some (.int .i64 E.a6R)) (u:F 6=some (.ptr E.o6 7 0 0)) (h7:F 7=some (.ptr E.o7 7 0 0)):(jE E).le F :=
 d_ (d_ (d_ (d_ (d_ c_ e) j) l) u) h7
theorem aNX {C:Ctx} (N:rI C) {l:List Nat} {v:PV} (T:Tp l v) (E:FE) (n a:Nat) (hn:n≤10) (Y:a≤l.length) (ext:PV) (K:cI) (F:PF) (H:PH)
  (W:(((jE E).set 8 (.int .i64 n)).set 9 (.int .i64 0)).le F) (x:aM H (E.boxes v ext .aD .aD .aD .aD .aD .aD a) [])
  (X:∀ I M H',(jE E).le M→aM H' (E.boxes v ext I .aD .aD .aD .aD .aD (sI l a n).2) [(I,4,kT (sI l a n).1)]→K (.exit 0) M H') :
  aC.wp C (.loop WS) K F H:=by
 refine wp_loop (α:=Nat × PV × PH) (fun t=>((jE E).set 8 (.int .i64 n)).set 9 (.int .i64 t.1)) (fun t=>t.2.2) (fun t=>t.1≤n∧aM t.2.2 (E.boxes v ext t.2.1 .aD .aD .aD .aD .aD (sI l a t.1).2) [(t.2.1,4,kT (sI l a t.1).1)]) (fun t=>n-t.1) (0,.aD,H) ⟨a8K _,x.kB 4⟩ W b_ ?_;rintro⟨i,I,H0⟩ ⟨hi,x⟩;simp only at hi x ⊢;obtain⟨k1,k2⟩:=kj l Y i;have w:sI l a (i+1)=((sI l a i).1++[{ (GP l 2 (sI l a i).2).1 with name:=[108,97,119]++dU i }],(GP l 2 (sI l a i).2).2):=rfl;simp only[go_sem,WS,G1,jE];by_cases hlt:i<n
 ·have j:(i:Int)<(n:Nat):=Om;generalize hg:sI l a i=g at *
  simp only[go_sem,j,G2];refine rC (N.law l v T E.o 2 g.2 (by decide) (by decide) k1) (x.at 0 rfl) rfl ?_;have U:=x.set 0 rfl (bW v (GP l 2 g.2).2);generalize hz:GP l 2 g.2=z at *
  simp only[go_sem];refine aO fun p Z=>?_;have V:=U.new Z (.rows 4 [z.1.cells]);simp only[go_sem,G3,a8S,a9D,or_false,forall_eq,forall_eq_or_imp];refine aB (N.name [108,97,119] i (by decide) Om) rfl ?_;have y:=V.set 3 rfl (.rows 4 [({ z.1 with name:=[108,97,119]++dU i }:dC).cells]);rw[PH.set_set] at y;have O:=y.at 1 rfl;have A:¬ E.o7=p:=y.ne 1 3 rfl rfl (by decide);have u:¬ E.o7=E.o:=y.ne 1 0 rfl rfl (by decide);simp only[aS,if_neg A,if_neg u] at O;have J:(1:Nat)*4≤16777216:=by decide
  simp only[go_sem,G4,A,u,O,J,a8S,a9D,or_false,forall_eq,forall_eq_or_imp];refine y.append 0 (src:=[({ z.1 with name:=[108,97,119]++dU i }:dC).cells]) rfl rfl (by unfold roomFor; rw[a8E]; simp only[a8N,maxLen]; omega) fun w' H2 R hw=>?_;obtain⟨q,rfl⟩:=hw (by simp);have S:=R.at 1 rfl;simp only[go_sem,S,a8S,a9D,or_false,forall_eq];have h5:=R.set 1 rfl (flB ext (.osl q 4 0 (kT g.1++[({ z.1 with name:=[108,97,119]++dU i }:dC).cells]).length) .aD .aD .aD .aD .aD);simp only[go_sem,G5,wZz i];refine aG (i+1,.osl q 4 0 (kT g.1++[({ z.1 with name:=[108,97,119]++dU i }:dC).cells]).length,_) ⟨hlt,?_⟩ (by simp only; omega) ?_ b_
  ·rw[w];have e:kT (g.1++[{ z.1 with name:=[108,97,119]++dU i }])=kT g.1++[({ z.1 with name:=[108,97,119]++dU i }:dC).cells]:=by simp[kT]
   simp only;rw[e];exact h5.dropLast (B:=E.boxes v ext _ .aD .aD .aD .aD .aD z.2)
  ·exact Lq
 ·have j:¬ (i:Int)<(n:Nat):=Om;have:i=n:=Om;subst this;simp only[go_sem,j];exact X I _ _ (cc rfl rfl rfl rfl rfl) x
theorem aBW {C:Ctx} (R:rI C) {l:List Nat} {v:PV} (T:Tp l v) (E:FE) (n a nl:Nat) (hn:n≤10) (β:nl≤1000) (ha:a≤l.length) (ext u:PV) (a6X:List dC) (W:a6X.length=nl) (K:cI) (F:PF) (H:PH)
  (hF:(((jE E).set 11 (.int .i64 n)).set 12 (.int .i64 0)).le F) (w:aM H (E.boxes v ext u .aD .aD .aD .aD .aD a) [(u,4,kT a6X)])
  (hK:∀ I S H',(jE E).le S→S 11=some (.int .i64 n)→aM H' (E.boxes v ext u I .aD .aD .aD .aD (lN l nl a n).2) [(u,4,kT a6X),(I,4,nB (lN l nl a n).1)]→K (.exit 2) S H') :
  aC.wp C (.loop PS) K F H:=by
 refine wp_loop (α:=Nat × PV × PH) (fun t=>((jE E).set 11 (.int .i64 n)).set 12 (.int .i64 t.1)) (fun t=>t.2.2) (fun t=>t.1≤n∧aM t.2.2 (E.boxes v ext u t.2.1 .aD .aD .aD .aD (lN l nl a t.1).2) [(u,4,kT a6X),(t.2.1,4,nB (lN l nl a t.1).1)]) (fun t=>n-t.1) (0,.aD,H) ⟨a8K _,w.kB 4⟩ hF b_ ?_;rintro⟨i,I,H0⟩ ⟨hi,w⟩;simp only at hi w ⊢;obtain⟨k1,k2⟩:=QL l nl ha i;have A:lN l nl a (i+1)=((lN l nl a i).1++[⟨[109]++dU i,(1+(aL l 4 (lN l nl a i).2).1:Nat),(1+(aL l 8 (aL l 4 (lN l nl a i).2).2).1:Nat),((aL l nl (aL l 8 (aL l 4 (lN l nl a i).2).2).2).1:Nat)⟩],(aL l nl (aL l 8 (aL l 4 (lN l nl a i).2).2).2).2):=rfl;simp only[go_sem,PS,ug,jE];by_cases hlt:i<n
 ·have j:(i:Int)<(n:Nat):=Om;generalize hg:lN l nl a i=g at *
  have hx:=hY l (show 0<4 by decide) g.2;have X:=cE l 4 k1;have hy:=hY l (show 0<8 by decide) (aL l 4 g.2).2;have Y:=cE l 8 X;have az:=cE l nl Y;have U:=w.set 0 rfl (bW v (aL l 4 g.2).2);have B:=U.set 0 rfl (bW v (aL l 8 (aL l 4 g.2).2).2);have h3:=B.set 0 rfl (bW v (aL l nl (aL l 8 (aL l 4 g.2).2).2).2);generalize M:aL l 4 g.2=x at *
  generalize N:aL l 8 x.2=y at *
  generalize O:aL l nl y.2=z at *
  have b1:=w.at 1 rfl;have lw:=(w.own 0 rfl).yO;rw[a8E,W] at lw;have J:(PH.nil.set E.o7 (flB ext u I .aD .aD .aD .aD)).le H0:=e_ a_ b1;have ex:IntKind.i64.wrap (1+(x.1:Int))=((1+x.1:Nat):Int):=by rw[wrap_i64 Om Om]; omega
  have ey:IntKind.i64.wrap (1+(y.1:Int))=((1+y.1:Nat):Int):=by rw[wrap_i64 Om Om]; omega
  simp only[go_sem,j];refine aV (PH.nil.set E.o7 (flB ext u I .aD .aD .aD .aD)) (mkS l v) J ?_;simp only[go_sem,uh];refine NY R.toyB (s:=[109]) (n:=i) (by decide) Om rfl J ?_;simp only[go_sem];refine wS R.toNT T (o:=E.o) (n:=4) (a:=g.2) (by decide) k1 rfl (w.at 0 rfl) ?_ ?_
  ·rw[M]; exact e_ a_ (U.at 1 rfl)
  rw[M];simp only[go_sem,ex];refine wS R.toNT T (o:=E.o) (n:=8) (a:=x.2) (by decide) X rfl (U.at 0 rfl) ?_ ?_
  ·rw[N]; exact e_ a_ (B.at 1 rfl)
  rw[N];simp only[go_sem,ey,lw];rw[PH.set_set] at B;refine wS R.toNT T (o:=E.o) (n:=nl) (a:=y.2) Om Y rfl (B.at 0 rfl) ?_ ?_
  ·rw[O]; exact e_ a_ ((B.set 0 rfl (bW v z.2)).at 1 rfl)
  rw[O];have h4:=B.set 0 rfl (bW v z.2);have V:(1:Nat)*4≤16777216:=by decide
  simp only[go_sem,V,a8S,a9D,or_false,forall_eq,forall_eq_or_imp];rw[PH.set_set] at h4;refine h4.append 1 (src:=[(⟨[109]++dU i,(1+x.1:Nat),(1+y.1:Nat),(z.1:Nat)⟩:dN).cells]) rfl rfl (by unfold roomFor; rw[a8E]; simp only[a8N,maxLen]; omega) fun w' H2 h5 hw=>?_;obtain⟨q,rfl⟩:=hw (by simp);have Z:=h5.at 1 rfl;refine⟨e_ a_ Z,?_⟩;refine aV .nil cA a_ ?_;simp only[go_sem,ui,Z,a8S,a9D,or_false,forall_eq];have h6:=h5.set 1 rfl (flB ext u (.osl q 4 0 (nB g.1++[(⟨[109]++dU i,(1+x.1:Nat),(1+y.1:Nat),(z.1:Nat)⟩:dN).cells]).length) .aD .aD .aD .aD);refine⟨a_,?_⟩;simp only[go_sem,uj,wZz i];refine aG (i+1,.osl q 4 0 (nB g.1++[(⟨[109]++dU i,(1+x.1:Nat),(1+y.1:Nat),(z.1:Nat)⟩:dN).cells]).length,_) ⟨hlt,?_⟩ (by simp only; omega) ?_ b_
  ·rw[A];have e:nB (g.1++[⟨[109]++dU i,(1+x.1:Nat),(1+y.1:Nat),(z.1:Nat)⟩])=nB g.1++[(⟨[109]++dU i,(1+x.1:Nat),(1+y.1:Nat),(z.1:Nat)⟩:dN).cells]:=by simp[nB]
   simp only;rw[e];exact h6
  ·exact Lq
 ·have j:¬ (i:Int)<(n:Nat):=Om;have:i=n:=Om;subst this;simp only[go_sem,j];exact hK I _ _ (cc rfl rfl rfl rfl rfl) rfl w
abbrev CS (x:dX) (w:PV):List PV:=[.str x.name,.int .i64 x.k,.int .i64 x.m,.int .i64 x.a7O,.int .i64 x.s0,.int .i64 x.s1,.int .i64 x.s2,.int .i64 x.s3,.int .i64 x.s4,w,frs x.repair,
 .bool x.target.neg,aK x.target.num,aK x.target.den,.bool x.a7A.neg,aK x.a7A.num,aK x.a7A.den]
def Cf (E:FE) (mc n i:Nat):PF:=(((jE E).set 11 (.int .i64 mc)).set 13 (.int .i64 n)).set 14 (.int .i64 i)
structure PAt (E:FE) (mc n i:Nat) (F:PF):Prop where
 f0:F 0=some (.ptr E.o 2 0 0)
 f1:F 1=some (.int .i64 E.a6P)
 f2:F 2=some (.int .i64 E.a6R)
 f6:F 6=some (.ptr E.o6 7 0 0)
 f7:F 7=some (.ptr E.o7 7 0 0)
 f11:F 11=some (.int .i64 mc)
 f13:F 13=some (.int .i64 n)
 f14:F 14=some (.int .i64 i)
def vX (l:List Nat) (a:Nat):Nat→List Int × Nat
 | 0=>([],a)
 | j+1=>let s:=vX l a j
  let t:=pF l s.2
  (s.1++[t.1],t.2)
theorem zJ (l:List Nat) {a:Nat} (h:a≤l.length):(pF l a).2≤l.length:=by
 unfold pF;simp only;split
 ·exact cE l 3 (cE l 3 h)
 ·exact cE l 3 h
theorem Dr (l:List Nat) {a:Nat} (h:a≤l.length):∀ j,(vX l a j).2≤l.length∧(vX l a j).1.length=j
 | 0=>⟨h,rfl⟩
 | j+1=>by obtain⟨e,u⟩:=Dr l h j;exact⟨zJ l e,by simp only[vX,a8H,a8N,u]⟩
abbrev vW (pre post:List PV) (s:List Int):List PV:=pre++(s.map fun x=>PV.int .i64 x)++a8F (4-s.length) (.int .i64 0)++post
theorem aWF {pre post:List PV} {s:List Int} (e:pre.length=5) (l:s.length<4) (x:Int):(vW pre post s).set (5+s.length) (.int .i64 x)=vW pre post (s++[x]):=by
 obtain⟨k,j⟩:∃ k,4-s.length=k+1:=⟨3-s.length,by omega⟩;unfold vW;rw[a8H,a8N,show 4-(s.length+1)=k by omega,j,List.replicate_succ,a9U,a9T,bbA];rw[List.set_append_left _ _ (by simp[e]),bbW _ _ (by simp[e])];have:5+s.length-(pre++s.map fun x=>PV.int .i64 x).length=0:=by simp[e]
 rw[this,List.set_cons_zero];simp
theorem aPZ {pre post:List PV} {s:List Int} (j:pre.length=5) (l:s.length<4):vW pre post s=vW pre post (s++[0]):=by
 obtain⟨k,e⟩:∃ k,4-s.length=k+1:=⟨3-s.length,by omega⟩;unfold vW;rw[a8H,a8N,show 4-(s.length+1)=k by omega,e,List.replicate_succ,a9U,a9T,bbA];simp
theorem aBX {C:Ctx} (Lb:rI C) {l:List Nat} {v:PV} (T:Tp l v) (E:FE) (mc n i a p:Nat) (ha:a≤l.length) (B:List BX) (L:List LI) (pre post:List PV) (e:pre.length=5) (A:post.length=8) (K:cI) (F:PF) (H:PH)
  (w:PAt E mc n i F) (U:F 15=some (.ptr p 17 0 0)) (V:F 16=some (.int .i64 1)) (I:aM H ((E.o,bW v a)::B++[(p,.rows 17 [vW pre post []])]) L)
  (hK:∀ R H',PAt E mc n i R→R 15=some (.ptr p 17 0 0)→aM H' ((E.o,bW v (vX l a 4).2)::B++[(p,.rows 17 [vW pre post (vX l a 4).1])]) L→K (.exit 6) R H') :
  aC.wp C (.loop DO) K F H:=by
 refine wp_loop (α:=Nat × PH) (fun t=>((Cf E mc n i).set 15 (.ptr p 17 0 0)).set 16 (.int .i64 (t.1+1:Nat))) (fun t=>t.2) (fun t=>t.1≤4∧aM t.2 ((E.o,bW v (vX l a t.1).2)::B++[(p,.rows 17 [vW pre post (vX l a t.1).1])]) L) (fun t=>4-t.1) (0,H) ⟨a8K _,I⟩ ?_ b_ ?_
 ·unfold Cf jE
  (repeat' (first|exact c_|refine d_ ?_ ?_))<;>first|(simp only[go_sem,w.f0,w.f1,w.f2,w.f6,w.f7,w.f11,w.f13,w.f14,U,V]<;>rfl)|rfl
 rintro⟨j,H0⟩ ⟨hj,I⟩;simp only at hj I ⊢;obtain⟨k1,k2⟩:=Dr l ha j;have u:vX l a (j+1)=((vX l a j).1++[(pF l (vX l a j).2).1],(pF l (vX l a j).2).2):=rfl;simp only[go_sem,DO,ut,Cf,jE];by_cases hlt:j<4
 ·generalize hg:vX l a j=g at *
  have ei:=dW (Om:j+1<9223372036854775807);simp only[go_sem,show ((j+1:Nat):Int)<5 by omega,uu];refine eM Lb.toNT T (o:=E.o) (n:=3) (a:=g.2) (by decide) k1 (by simp only[go_sem]; rfl) (I.at 0 rfl) ?_;have N:aM _ ((E.o,bW v (aL l 3 g.2).2)::B++[(p,.rows 17 [vW pre post g.1])]) L:=I.set 0 rfl (bW v (aL l 3 g.2).2);by_cases c:(aL l 3 g.2).1=0
  ·have Z:pF l g.2=(((1+(aL l 3 (aL l 3 g.2).2).1:Nat):Int),(aL l 3 (aL l 3 g.2).2).2):=by unfold pF; simp only[c,if_true]
   have n2:=hY l (show 0<3 by decide) (aL l 3 g.2).2;have e2:IntKind.i64.wrap (1+((aL l 3 (aL l 3 g.2).2).1:Int))=((1+(aL l 3 (aL l 3 g.2).2).1:Nat):Int):=by rw[wrap_i64 Om Om]; omega
   simp only[go_sem,bP (show (((aL l 3 g.2).1:Nat):Int)=0 by omega),uv];refine eM Lb.toNT T (o:=E.o) (n:=3) (a:=(aL l 3 g.2).2) (by decide) (cE l 3 k1) (by simp only[go_sem]; rfl) (N.at 0 rfl) ?_;have O:aM _ ((E.o,bW v (aL l 3 (aL l 3 g.2).2).2)::B++[(p,.rows 17 [vW pre post g.1])]) L:=N.set 0 rfl (bW v (aL l 3 (aL l 3 g.2).2).2);have S:=O.pK;rw[PH.set_set] at S O;have M:¬ p=E.o:=fun h=>by have Y:=O.ndB;simp[eZ,h] at Y
   simp only[aS,if_neg M] at S;have X:((j+1:Nat):Int)<((5:Nat):Int):=Om;have W:(0:Int)≤((j+1:Nat):Int):=Om;have β:(vW pre post g.1).length=17:=by simp[vW,e,A,k2]; omega
   have x:=aWF (pre:=pre) (post:=post) (s:=g.1) e Om ((1+(aL l 3 (aL l 3 g.2).2).1:Nat):Int);rw[k2] at x;have J:4+(j+1)*1=5+j:=Om;have y:5+j+1≤17:=Om;simp only[go_sem,e2,X,W,J,M,S,y,a8S,a9D,or_false,forall_eq,x,PY,ei];refine aG (j+1,_) ⟨hlt,?_⟩ (by simp only; omega) ?_ b_
   ·rw[u,Z];exact O.vK _
   ·exact Lq
  ·have Z:pF l g.2=(0,(aL l 3 g.2).2):=by unfold pF; simp only[c,if_false]
   simp only[go_sem,bD (show ¬ (((aL l 3 g.2).1:Nat):Int)=0 by omega),PY,ei];refine aG (j+1,_) ⟨hlt,?_⟩ (by simp only; omega) ?_ b_
   ·rw[aPZ (pre:=pre) (post:=post) (s:=g.1) e Om] at N;rw[u,Z];exact N
   ·exact Lq
 ·have:j=4:=Om;subst this;simp only[go_sem,show ¬ ((4+1:Nat):Int)<5 by decide];exact hK _ _ ⟨by simp only[go_sem],by simp only[go_sem],by simp only[go_sem],by simp only[go_sem],by simp only[go_sem],by simp only[go_sem],by simp only[go_sem],by simp only[go_sem]⟩ Sq I
theorem aM.tT {E:FE} {v ext e j l u w x:PV} {a:Nat} {H:PH} {B:List BX} {L:List LI} (h:aM H (E.boxes v ext e j l u w x a++B) L) (b:Nat):aM (H.set E.o (bW v b)) (E.boxes v ext e j l u w x b++B) L:=h.set 0 rfl _
abbrev m7 (s:List UInt8) (k m q:Int) (w r e j l:PV) (h:RF):List PV:=[.str s,.int .i64 k,.int .i64 m,.int .i64 q,.int .i64 0,.int .i64 0,.int .i64 0,.int .i64 0,.int .i64 0,w,r,e,j,l,.bool h.neg,aK h.num,aK h.den]
theorem aNY {C : Ctx} (Lb : rI C) {l : List Nat} {v : PV} (T : Tp l v) (E : FE) (mc n i a : Nat) (ha : a ≤ l.length) (hi : i < 50) (ext w1 w2 w3 w4 w5 w6 : PV) (L : List LI) (rest : aC) (K : cI) (F : PF) (H : PH)
    (hF : PAt E mc n i F) (hH : aM H (E.boxes v ext w1 w2 w3 w4 w5 w6 a) L)
    (hK : ∀ p F' H', PAt E mc n i F' → F' 15 = some (.ptr p 17 0 0) →
      (let k := aL l 2 a; let m := aL l 3 k.2; let h := aL l 4 m.2; let q := aL l (m.1 + 1) h.2; let r := rN l q.2 (max m.1 1); let g := aL l 9 r.2
       aM H' (E.boxes v ext w1 w2 w3 w4 w5 w6 g.2 ++ [(p, .rows 17 [vW [.str ([112] ++ dU i), .int .i64 (1 + k.1 : Nat), .int .i64 (m.1 : Nat), .int .i64 (1 + k.1 + q.1 : Nat), .int .i64 0]
        ([.aD, frs r.1] ++ (mkT (g.1 : Nat) 8).cells ++ (mkT ((1 + h.1 : Nat) : Int) 1).cells) []])]) L) → aC.wp C rest K F' H') :
    aC.wp C (.seq (.region PW) (.seq (.seq (.draw DP) (.draw DQ)) (.seq (.region DR) (.seq (.region DS) rest)))) K F H := by
  obtain ⟨f0, f1, f2, f6, f7, f11, f13, f14⟩ := hF;have nk := hY l (show 0 < 2 by decide) a;have ak := cE l 2 ha;have nm := hY l (show 0 < 3 by decide) (aL l 2 a).2;have am := cE l 3 ak;simp only at hK;generalize hk : aL l 2 a = k at *
  generalize hm : aL l 3 k.2 = m at *
  have nh := hY l (show 0 < 4 by decide) m.2;have ah := cE l 4 am;generalize hh : aL l 4 m.2 = h at *
  have nq := hY l (Om : 0 < m.1 + 1) h.2;have aq := cE l (m.1 + 1) ah;generalize hq : aL l (m.1 + 1) h.2 = q at *
  have ar := NI l aq (max m.1 1);generalize hr : rN l q.2 (max m.1 1) = r at *
  have ng := hY l (show 0 < 9 by decide) r.2;have ag := cE l 9 ar;generalize hg : aL l 9 r.2 = g at *
  have ek : IntKind.i64.wrap (1 + (k.1 : Int)) = ((1 + k.1 : Nat) : Int) := by rw [wrap_i64 Om Om]; omega
  have eh : IntKind.i64.wrap (1 + (h.1 : Int)) = ((1 + h.1 : Nat) : Int) := by rw [wrap_i64 Om Om]; omega
  have em : IntKind.i64.wrap ((m.1 : Int) + 1) = ((m.1 + 1 : Nat) : Int) := dW Om;have eq' : IntKind.i64.wrap (((1 + k.1 : Nat) : Int) + (q.1 : Int)) = ((1 + k.1 + q.1 : Nat) : Int) := by rw [wrap_i64 Om Om]; omega
  have h0 : aM H (E.boxes v ext w1 w2 w3 w4 w5 w6 a ++ []) L := by rw [a9W]; exact hH
  simp only[go_sem,PW,f14];refine aB (Lb.name [112] i (by decide) Om) rfl ?_;simp only[go_sem,f0];refine eM Lb.toNT T (o := E.o) (n := 2) (a := a) (by decide) ha rfl (h0.at 0 rfl) ?_;have g1 := h0.tT k.2;rw [hk];simp only[go_sem,ek,f0];refine eM Lb.toNT T (o := E.o) (n := 3) (a := k.2) (by decide) ak rfl (g1.at 0 rfl) ?_;have g2 := g1.tT m.2;rw [hm];rw [PH.set_set] at g2;simp only[go_sem,f0];refine eM Lb.toNT T (o := E.o) (n := 4) (a := m.2) (by decide) am rfl (g2.at 0 rfl) ?_;have g3 := g2.tT h.2;rw [hh];rw [PH.set_set] at g3;simp only[go_sem,eh];refine aB (Lb.int ((1 + h.1 : Nat) : Int) (by unfold eJ; omega)) rfl ?_;simp only[go_sem,a8S,a9D,or_false,forall_eq,forall_eq_or_imp];refine aO fun p hp => ?_;have g4 := g3.new hp (.rows 17 [m7 ([112] ++ dU i) (1 + k.1 : Nat) (m.1 : Nat) 0 .aD .aD (.bool false) .aD .aD (mkT ((1 + h.1 : Nat) : Int) 1)]);have hpo : ¬ p = E.o := g4.ne 3 0 rfl rfl (by decide);have hop : ¬ E.o = p := fun e => hpo e.symm;have q2 : ∀ (F2 : PF) (H2 : PH), PAt E mc n i F2 → F2 15 = some (.ptr p 17 0 0) → aM H2 (E.boxes v ext w1 w2 w3 w4 w5 w6 h.2 ++ [(p, .rows 17 [m7 ([112] ++ dU i) (1 + k.1 : Nat) (m.1 : Nat) 0 .aD .aD (.bool false) .aD .aD (mkT ((1 + h.1 : Nat) : Int) 1)])]) L →
      aC.wp C (.seq (.seq (.draw DP) (.draw DQ)) (.seq (.region DR) (.seq (.region DS) rest))) K F2 H2 := by
    intro F2 H2 hF2 f15 hH2;obtain ⟨f0, f1, f2, f6, f7, f11, f13, f14⟩ := hF2;have bp := hH2.at 3 rfl;have hHs : (PH.nil.set p (.rows 17 [m7 ([112] ++ dU i) (1 + k.1 : Nat) (m.1 : Nat) 0 .aD .aD (.bool false) .aD .aD (mkT ((1 + h.1 : Nat) : Int) 1)])).le H2 := e_ a_ bp;simp only[go_sem];refine aV _ (mkS l v) hHs ?_;simp only[go_sem,DP,f15,bp,em,f0];refine wS Lb.toNT T (o := E.o) (n := m.1 + 1) (a := h.2) Om ah rfl (hH2.at 0 rfl) ?_ ?_
    · rw [hq]; exact e_ a_ ((hH2.tT q.2).at 3 rfl)
    rw [hq];have g5 := hH2.tT q.2;simp only[go_sem,eq',f15];refine aV .nil cA a_ ?_;simp only[go_sem,DQ,hpo,bp];refine ⟨a_, ?_⟩;have g6 : aM _ (E.boxes v ext w1 w2 w3 w4 w5 w6 q.2 ++ [(p, .rows 17 [m7 ([112] ++ dU i) (1 + k.1 : Nat) (m.1 : Nat) (1 + k.1 + q.1 : Nat) .aD .aD (.bool false) .aD .aD (mkT ((1 + h.1 : Nat) : Int) 1)])]) L := g5.set 3 rfl (.rows 17 [m7 ([112] ++ dU i) (1 + k.1 : Nat) (m.1 : Nat) (1 + k.1 + q.1 : Nat) .aD .aD (.bool false) .aD .aD (mkT ((1 + h.1 : Nat) : Int) 1)]);have bq := g6.at 3 rfl;simp only[go_sem,DR,f0,f15];refine rC (Lb.rep l v T E.o q.2 m.1 Om aq) (g6.at 0 rfl) rfl ?_;have g7 := g6.tT r.2;rw [hr];simp only[go_sem,hpo,f15];have g8 : aM _ (E.boxes v ext w1 w2 w3 w4 w5 w6 r.2 ++ [(p, .rows 17 [m7 ([112] ++ dU i) (1 + k.1 : Nat) (m.1 : Nat) (1 + k.1 + q.1 : Nat) .aD (frs r.1) (.bool false) .aD .aD (mkT ((1 + h.1 : Nat) : Int) 1)])]) L := g7.set 3 rfl (.rows 17 [m7 ([112] ++ dU i) (1 + k.1 : Nat) (m.1 : Nat) (1 + k.1 + q.1 : Nat) .aD (frs r.1) (.bool false) .aD .aD (mkT ((1 + h.1 : Nat) : Int) 1)]);simp only[go_sem,DS,f0];refine eM Lb.toNT T (o := E.o) (n := 9) (a := r.2) (by decide) ar rfl (g8.at 0 rfl) ?_;have g9 := g8.tT g.2;rw [hg];simp only[go_sem];refine aB (Lb.fmk (g.1 : Int) 8 (by unfold eJ; omega) (by unfold eJ; omega)) rfl ?_;unfold CH;rw [if_neg (by decide)];simp only[go_sem,f15,hpo];have g10 := g9.set 3 rfl (.rows 17 [vW [.str ([112] ++ dU i), .int .i64 (1 + k.1 : Nat), .int .i64 (m.1 : Nat), .int .i64 (1 + k.1 + q.1 : Nat), .int .i64 0]
        ([.aD, frs r.1] ++ (mkT (g.1 : Nat) 8).cells ++ (mkT ((1 + h.1 : Nat) : Int) 1).cells) []])
    refine hK p _ _ ⟨by simp only[go_sem,f0], by simp only[go_sem,f1], by simp only[go_sem,f2], by simp only[go_sem,f6], by simp only[go_sem,f7], by simp only[go_sem,f11], by simp only[go_sem,f13], by simp only[go_sem,f14]⟩ (by simp only[go_sem,f15]) g10
  simp only [aC.wp, go_sem] at q2;simp only[go_sem,a8S,a9D,or_false,forall_eq,forall_eq_or_imp];exact q2 _ _ ⟨by simp only[go_sem,f0], by simp only[go_sem,f1], by simp only[go_sem,f2], by simp only[go_sem,f6], by simp only[go_sem,f7], by simp only[go_sem,f11], by simp only[go_sem,f13], by simp only[go_sem,f14]⟩ rfl g4
abbrev FE.lists (x y A B E:PV) (l:List dC) (u:List dN) (e:List dB) (j:List eT) (w:List (List PV)):List LI:=[(x,4,kT l),(y,4,nB u),(A,7,nH e),(B,3,qK j),(E,17,w)]
theorem aNZ {C:Ctx} (Lb:rI C) {l:List Nat} {v:PV} (T:Tp l v) (E:FE) (mc n i a:Nat) (ha:a≤l.length) (η:0<mc) (μ:mc≤50) (ext y A B I w5:PV) (lw:List dC) (md:List dN) (dm:List dB) (dv:List eT) (pr:List (List PV)) (ρ:pr.length≤50)
  (s:List UInt8) (k m q:Int) (r t h:RF) (M:List RF) (p:Nat) (K:cI) (F:PF) (H:PH)
  (hF:PAt E mc n i F) (u:F 15=some (.ptr p 17 0 0))
  (hH:aM H (E.boxes v ext y A B I w5 .aD a++[(p,.rows 17 [vW [.str s,.int .i64 k,.int .i64 m,.int .i64 q,.int .i64 0] ([.aD,frs M]++t.cells++h.cells) []])]) (FE.lists y A B I w5 lw md dm dv pr))
  (V:(let J:=vX l a 4; let f:=aL l mc J.2; let b:=aL l 2 f.2
   let ms:List Int × Nat:=if 1<mc then (if b.1=0 then ([(f.1:Int),1-(f.1:Int)],b.2) else ([(f.1:Int)],b.2)) else ([(f.1:Int)],f.2)
   ∀ (w j:PV) (W:PF) (H':PH) (B':List BX),PAt E mc n i W→(∃ o,w=.osl o 1 0 ms.1.length)→aM H' (E.boxes v ext y A B I j .aD ms.2++B')
    (FE.lists y A B I j lw md dm dv (pr++[CS ⟨s,k,m,q,0,(J.1.getD 0 0),(J.1.getD 1 0),(J.1.getD 2 0),(J.1.getD 3 0),ms.1,M,t,h⟩ w])++[(w,1,bU ms.1)])→K .normal W H')) :
  aC.wp C (.seq (.seq (.region PX) (.block 6 (.loop DO))) (.seq (.region PZ) (.seq (.region QA) (.seq (.seq (.region QB) (.cond (.tmp 143) (.region QC) .skip)) (.region DT))))) K F H:=by
 obtain⟨f0,f1,f2,f6,f7,f11,f13,f14⟩:=hF;simp only[go_sem,PX];refine aBX (C:=C) Lb T E mc n i a p ha [(E.o7,flB ext y A B I w5 .aD),(E.o6,flZ)] _ _ _ rfl rfl _ _ H ⟨by simp only[go_sem,f0],by simp only[go_sem,f1],by simp only[go_sem,f2],by simp only[go_sem,f6],by simp only[go_sem,f7],by simp only[go_sem,f11],by simp only[go_sem,f13],by simp only[go_sem,f14]⟩ (by simp only[go_sem,u]) rfl hH ?_;clear f0 f1 f2 f6 f7 f11 f13 f14 u hH;intro F1 H1 ε u x;obtain⟨f0,f1,f2,f6,f7,f11,f13,f14⟩:=ε;obtain⟨α,ls⟩:=Dr l ha 4;have ι:∃ N O R S,(vX l a 4).1=[N,O,R,S]:=⟨_,_,_,_,rfl⟩;simp only at V;generalize ν:vX l a 4=J at *
 obtain⟨N,O,R,S,hx⟩:=ι;rw[hx] at V x;replace x:aM H1 (E.boxes v ext y A B I w5 .aD J.2++[(p,.rows 17 [CS ⟨s,k,m,q,0,N,O,R,S,[],M,t,h⟩ .aD])]) (FE.lists y A B I w5 lw md dm dv pr):=x;have nf:=hY l η J.2;have af:=cE l mc α;generalize hf:aL l mc J.2=f at *
 have ab:=cE l 2 af;generalize hb:aL l 2 f.2=b at *
 have Z:¬ p=E.o:=x.ne 3 0 rfl rfl (by decide);have θ:¬ p=E.o7:=x.ne 3 1 rfl rfl (by decide);have ο:¬ E.o7=p:=fun e=>θ e.symm;have ξ:¬ E.o7=E.o:=x.ne 1 0 rfl rfl (by decide);simp only[go_sem,PZ,f0,f11];refine eM Lb.toNT T (o:=E.o) (n:=mc) (a:=J.2) Om α rfl (x.at 0 rfl) ?_;have h2:=x.set 0 rfl (bW v f.2);rw[hf];simp only[go_sem,QA];refine aO fun o ho=>?_;have h3:=h2.Cy (s:=1) (rows:=bU [(f.1:Int)]) ho;have b3:=h3.at 3 rfl;have ob:¬ p=o:=h3.neL 3 5 rfl rfl rfl;have σ:¬ E.o7=o:=h3.neL 1 5 rfl rfl rfl;have τ:¬ E.o=o:=h3.neL 0 5 rfl rfl rfl;simp only[aS,if_neg ob,if_neg Z] at b3;simp only[go_sem,u,ob,Z,b3,a8S,a9D,or_false,forall_eq];have h4:=h3.set 3 rfl (.rows 17 [CS ⟨s,k,m,q,0,N,O,R,S,[],M,t,h⟩ (.osl o 1 0 1)]);have fin:∀ (w:PV) (ms:List Int) (a':Nat) (W:PF) (H':PH),PAt E mc n i W→W 15=some (.ptr p 17 0 0)→(∃ o,w=.osl o 1 0 ms.length) →
   aM H' (E.boxes v ext y A B I w5 .aD a'++[(p,.rows 17 [CS ⟨s,k,m,q,0,N,O,R,S,ms,M,t,h⟩ w])]) (FE.lists y A B I w5 lw md dm dv pr++[(w,1,bU ms)]) →
   (∀ (j:PV) (U:PF) (H2:PH),PAt E mc n i U→aM H2 (E.boxes v ext y A B I j .aD a'++[(p,.rows 17 [CS ⟨s,k,m,q,0,N,O,R,S,ms,M,t,h⟩ w])]) (FE.lists y A B I j lw md dm dv (pr++[CS ⟨s,k,m,q,0,N,O,R,S,ms,M,t,h⟩ w])++[(w,1,bU ms)])→K .normal U H2) →
   wpOps C DT (K .normal) W H':=by
  intro w ms a' W H' δ u hw Y ζ;obtain⟨wo,rfl⟩:=hw;obtain⟨f0,f1,f2,f6,f7,f11,f13,f14⟩:=δ;have c1:=Y.at 1 rfl;have c3:=Y.at 3 rfl;have γ:(1:Nat)*17≤16777216:=by decide
  simp only[go_sem,DT,f7,u,c1,c3,γ,a8S,a9D,or_false,forall_eq,forall_eq_or_imp];refine Y.append 4 (src:=[CS ⟨s,k,m,q,0,N,O,R,S,ms,M,t,h⟩ (.osl wo 1 0 ms.length)]) rfl rfl (by unfold roomFor; simp only[a8N,maxLen]; omega) fun j H2 h5 κ=>?_;obtain⟨q5,rfl⟩:=κ (by simp);have c2:=h5.at 1 rfl;simp only[go_sem,c2,a8S,a9D,or_false,forall_eq];exact ζ _ _ _ ⟨by simp only[go_sem,f0],by simp only[go_sem,f1],by simp only[go_sem,f2],by simp only[go_sem,f6],by simp only[go_sem,f7],by simp only[go_sem,f11],by simp only[go_sem,f13],by simp only[go_sem,f14]⟩ (h5.set 1 rfl (flB ext y A B I _ .aD))
 simp only[go_sem,QB,f11];by_cases c:1<mc
 ·have c':(mc:Int)>1:=Om;simp only[go_sem,c',f0];refine eM Lb.toNT T (o:=E.o) (n:=2) (a:=f.2) (by decide) af rfl (h4.at 0 rfl) ?_;have h5:=h4.set 0 rfl (bW v b.2);rw[hb];by_cases c2:b.1=0
  ·have X:(b.1:Int)=0:=Om;rw[if_pos c,if_pos c2] at V;have e1:IntKind.i64.wrap (1-(f.1:Int))=1-(f.1:Int):=wrap_i64 Om Om;have c3:=h5.at 3 rfl;have β:(1:Nat)*1≤16777216:=by decide
   simp only[go_sem,bP X,QC,u,Z,e1,β];refine h5.append 5 (src:=[[.int .i64 (1-(f.1:Int))]]) rfl rfl (by unfold roomFor; simp only[bU,a8E,a8N,maxLen]; omega) fun w' H2 h6 hw=>?_;obtain⟨q2,rfl⟩:=hw (by simp);have c4:=h6.at 3 rfl;simp only[go_sem,c4,u,a8S,a9D,or_false,forall_eq];have h7:=h6.set 3 rfl (.rows 17 [CS ⟨s,k,m,q,0,N,O,R,S,[(f.1:Int),1-(f.1:Int)],M,t,h⟩ (.osl q2 1 0 2)]);exact fin (.osl q2 1 0 2) [(f.1:Int),1-(f.1:Int)] b.2 _ _ ⟨by simp only[go_sem,f0],by simp only[go_sem,f1],by simp only[go_sem,f2],by simp only[go_sem,f6],by simp only[go_sem,f7],by simp only[go_sem,f11],by simp only[go_sem,f13],by simp only[go_sem,f14]⟩ (by simp only[go_sem,u]) ⟨q2,rfl⟩ h7 (fun j U H2 g1 g2=>V _ j U H2 _ g1 ⟨q2,rfl⟩ g2)
  ·have X:¬ (b.1:Int)=0:=Om;rw[if_pos c,if_neg c2] at V;simp only[go_sem,bD X];exact fin (.osl o 1 0 1) [(f.1:Int)] b.2 _ _ ⟨by simp only[go_sem,f0],by simp only[go_sem,f1],by simp only[go_sem,f2],by simp only[go_sem,f6],by simp only[go_sem,f7],by simp only[go_sem,f11],by simp only[go_sem,f13],by simp only[go_sem,f14]⟩ (by simp only[go_sem,u]) ⟨o,rfl⟩ h5 (fun j U H2 g1 g2=>V _ j U H2 _ g1 ⟨o,rfl⟩ g2)
 ·have c':¬ (mc:Int)>1:=Om;rw[if_neg c] at V;simp only[go_sem,c'];exact fin (.osl o 1 0 1) [(f.1:Int)] f.2 _ _ ⟨by simp only[go_sem,f0],by simp only[go_sem,f1],by simp only[go_sem,f2],by simp only[go_sem,f6],by simp only[go_sem,f7],by simp only[go_sem,f11],by simp only[go_sem,f13],by simp only[go_sem,f14]⟩ (by simp only[go_sem,u]) ⟨o,rfl⟩ h4 (fun j U H2 g1 g2=>V _ j U H2 _ g1 ⟨o,rfl⟩ g2)
abbrev pY (l:List dX):List (List PV):=l.map dX.cells
abbrev sW (l:List fZ):List (List PV):=l.map fZ.cells
theorem vF {rows:List (List PV)} (h:∀ r∈rows,∀ c∈r,c.oid=none):Flat rows:=Flat.of fun r j c e q s rs=>ON (h r j c e) q s rs
theorem aoR (l:List dC):Flat (kT l):=vF fun r j c e=>by
 obtain⟨x,_,rfl⟩:=a9G.1 j;simp only[dC.cells,a8S,a9D,or_false] at e;rcases e with rfl | rfl | rfl | rfl<;>rfl
theorem apJ (l:List dN):Flat (nB l):=vF fun r j c e=>by
 obtain⟨x,_,rfl⟩:=a9G.1 j;simp only[dN.cells,a8S,a9D,or_false] at e;rcases e with rfl | rfl | rfl | rfl<;>rfl
theorem akA (l:List dB):Flat (nH l):=vF fun r j c e=>by
 obtain⟨x,_,rfl⟩:=a9G.1 j;simp only[dB.cells,a8S,a9D,or_false] at e;rcases e with rfl | rfl | rfl | rfl | rfl | rfl | rfl<;>rfl
theorem akD (l:List eT):Flat (qK l):=vF fun r j c e=>by
 obtain⟨x,_,rfl⟩:=a9G.1 j;simp only[eT.cells,a8S,a9D,or_false] at e;rcases e with rfl | rfl | rfl<;>rfl
theorem aWR (l:List fZ):Flat (sW l):=vF fun r j c e=>by
 obtain⟨x,_,rfl⟩:=a9G.1 j;simp only[fZ.cells,a8S,a9D,or_false] at e;rcases e with rfl | rfl<;>rfl
theorem atG (l:List dX):Flat (pY l):=vF fun r j c e=>by
 obtain⟨x,_,rfl⟩:=a9G.1 j;simp only[dX.cells,a8S,a9D,or_false] at e;rcases e with rfl | rfl | rfl | rfl | rfl | rfl | rfl | rfl | rfl | rfl | rfl | rfl | rfl | rfl | rfl | rfl | rfl<;>rfl
theorem aDB (l:List Nat) (mc i:Nat) {a:Nat} (h:a≤l.length):(AG l mc i a).2≤l.length:=by
 have j:=cE l 9 (NI l (cE l ((aL l 3 (aL l 2 a).2).1+1) (cE l 4 (cE l 3 (cE l 2 h)))) (max (aL l 3 (aL l 2 a).2).1 1));have e:=cE l mc (zJ l (zJ l (zJ l (zJ l j))));unfold AG;simp only;split
 ·split
  ·exact cE l 2 e
  ·exact cE l 2 e
 ·exact e
theorem GU (l:List Nat) (mc:Nat) {a:Nat} (h:a≤l.length):∀ k,(jX l mc a k).2≤l.length∧(jX l mc a k).1.length=k
 | 0=>⟨h,rfl⟩
 | k+1=>by obtain⟨e,j⟩:=GU l mc h k;exact⟨aDB l mc k e,by simp only[jX,a8H,a8N,j]⟩
theorem ia (l:List Nat) (e:Nat) {a:Nat} (h:a≤l.length):∀ k,(lH l e a k).2≤l.length∧(lH l e a k).1.length=k
 | 0=>⟨h,rfl⟩
 | k+1=>by obtain⟨j,u⟩:=ia l e h k;exact⟨cE l e j,by simp only[lH,a8H,a8N,u]⟩
theorem Wt {C:Ctx} (Lb:rI C) {l:List Nat} {v:PV} (T:Tp l v) (E:FE) (mc n a:Nat) (hn:n≤10) (θ:0<mc) (Z:mc≤50) (ha:a≤l.length) (N:Int) (j u y A:PV) (S:List dC) (U:List dN) (O:List dB) (R:List eT) (K:cI) (F:PF) (H:PH)
  (J:PAt E mc n 0 F) (W:aM H (E.boxes v (.int .i64 N) j u y A .aD .aD a) [(j,4,kT S),(u,4,nB U),(y,7,nH O),(A,3,qK R)])
  (hK:∀ V F' H',(jE E).le F'→aM H' (E.boxes v (.int .i64 N) j u y A V .aD (jX l mc a n).2) (FE.lists j u y A V S U O R (pY (jX l mc a n).1))→K (.exit 4) F' H') :
  aC.wp C (.loop PT) K F H:=by
 refine wp_loop (α:=Nat × PV × PH) (fun t=>Cf E mc n t.1) (fun t=>t.2.2) (fun t=>t.1≤n∧aM t.2.2 (E.boxes v (.int .i64 N) j u y A t.2.1 .aD (jX l mc a t.1).2) (FE.lists j u y A t.2.1 S U O R (pY (jX l mc a t.1).1))) (fun t=>n-t.1) (0,.aD,H) ⟨a8K _,W.kB 17⟩ ?_ b_ ?_
 ·unfold Cf jE
  (repeat' (first|exact c_|refine d_ ?_ ?_))<;>first|(simp only[go_sem,J.f0,J.f1,J.f2,J.f6,J.f7,J.f11,J.f13,J.f14]<;>rfl)|rfl
 rintro⟨i,V,H0⟩ ⟨hi,W⟩;simp only at hi W ⊢;obtain⟨k1,k2⟩:=GU l mc ha i;have I:jX l mc a (i+1)=((jX l mc a i).1++[(AG l mc i (jX l mc a i).2).1],(AG l mc i (jX l mc a i).2).2):=rfl;simp only[go_sem,PT,uq,Cf,jE];by_cases hlt:i<n
 ·have B:(i:Int)<(n:Nat):=Om;generalize hg:jX l mc a i=g at *
  simp only[go_sem,B];refine aNY (C:=C) Lb T E mc n i g.2 k1 Om (.int .i64 N) j u y A V .aD _ _ _ _ H0 ⟨by simp only[go_sem],by simp only[go_sem],by simp only[go_sem],by simp only[go_sem],by simp only[go_sem],by simp only[go_sem],by simp only[go_sem],by simp only[go_sem]⟩ W ?_;intro p F1 H1 γ β X;simp only at X;have ι:AG l mc i g.2=_:=rfl;have Y:=cE l 9 (NI l (cE l ((aL l 3 (aL l 2 g.2).2).1+1) (cE l 4 (cE l 3 (cE l 2 k1)))) (max (aL l 3 (aL l 2 g.2).2).1 1));refine aNZ (C:=C) Lb T E mc n i _ Y θ Z (.int .i64 N) j u y A V S U O R _ (by rw[a8E,k2]; omega) _ _ _ _ (mkT 0 1) _ _ _ p _ F1 H1 γ β X ?_;intro M f b ms w e F2 H2 B' δ hw ε;obtain⟨o,rfl⟩:=hw;have hP:AG l mc i g.2=(⟨[112]++dU i,(1+(aL l 2 g.2).1:Nat),((aL l 3 (aL l 2 g.2).2).1:Nat),(1+(aL l 2 g.2).1+(aL l ((aL l 3 (aL l 2 g.2).2).1+1) (aL l 4 (aL l 3 (aL l 2 g.2).2).2).2).1:Nat),0,M.1.getD 0 0,M.1.getD 1 0,M.1.getD 2 0,M.1.getD 3 0,ms.1,(rN l (aL l ((aL l 3 (aL l 2 g.2).2).1+1) (aL l 4 (aL l 3 (aL l 2 g.2).2).2).2).2 (max (aL l 3 (aL l 2 g.2).2).1 1)).1,mkT ((aL l 9 (rN l (aL l ((aL l 3 (aL l 2 g.2).2).1+1) (aL l 4 (aL l 3 (aL l 2 g.2).2).2).2).2 (max (aL l 3 (aL l 2 g.2).2).1 1)).2).1:Nat) 8,mkT ((1+(aL l 4 (aL l 3 (aL l 2 g.2).2).2).1:Nat):Int) 1⟩,ms.2):=rfl;rw[hP] at I;generalize ζ:(⟨[112]++dU i,(1+(aL l 2 g.2).1:Nat),((aL l 3 (aL l 2 g.2).2).1:Nat),(1+(aL l 2 g.2).1+(aL l ((aL l 3 (aL l 2 g.2).2).1+1) (aL l 4 (aL l 3 (aL l 2 g.2).2).2).2).1:Nat),0,M.1.getD 0 0,M.1.getD 1 0,M.1.getD 2 0,M.1.getD 3 0,ms.1,(rN l (aL l ((aL l 3 (aL l 2 g.2).2).1+1) (aL l 4 (aL l 3 (aL l 2 g.2).2).2).2).2 (max (aL l 3 (aL l 2 g.2).2).1 1)).1,mkT ((aL l 9 (rN l (aL l ((aL l 3 (aL l 2 g.2).2).1+1) (aL l 4 (aL l 3 (aL l 2 g.2).2).2).2).2 (max (aL l 3 (aL l 2 g.2).2).1 1)).2).1:Nat) 8,mkT ((1+(aL l 4 (aL l 3 (aL l 2 g.2).2).2).1:Nat):Int) 1⟩:dX)=P at *
  have η:P.a6Q=ms.1:=by rw[← ζ]
  obtain⟨rs,z1,z2,z3,z4,z5⟩:=ε.frz 5 rfl;have y1:=z4 0 _ (by decide) rfl;have y2:=z4 1 _ (by decide) rfl;have y3:=z4 2 _ (by decide) rfl;have y4:=z4 3 _ (by decide) rfl;have y5:=z4 4 _ (by decide) rfl;simp only at y1 y2 y3 y4 y5;have y0:=T.frz o 1 rs;obtain⟨f0,f1,f2,f6,f7,f11,f13,f14⟩:=δ;simp only[go_sem,uw,f14,wZz i];refine IH (i+1,e,H2.frz o 1 rs) z1 ⟨hlt,?_⟩ (by simp only; omega) ?_ b_
  ·rw[I];have eB:(E.boxes v (.int .i64 N) j u y A e .aD ms.2).map (fun b=>(b.1,b.2.frz o 1 rs))=E.boxes v (.int .i64 N) j u y A e .aD ms.2:=by show [(E.o,bZ.rows 2 [[PV.cQ o 1 rs v,.int .i64 ms.2]]),(E.o7,bZ.rows 7 [[.int .i64 N,PV.cQ o 1 rs j,PV.cQ o 1 rs u,PV.cQ o 1 rs y,PV.cQ o 1 rs A,PV.cQ o 1 rs e,.aD]]),(E.o6,flZ)]=_;rw[y0,y1,y2,y3,y4,y5]
   have e5:(pY g.1++[CS P (.osl o 1 0 ms.1.length)]).map (fun r=>r.map (PV.cQ o 1 rs))=pY (g.1++[P]):=by
    rw[a9U,atG];have:([CS P (.osl o 1 0 ms.1.length)]:List (List PV)).map (fun r=>r.map (PV.cQ o 1 rs))=[P.cells]:=by show [[PV.str P.name,.int .i64 P.k,.int .i64 P.m,.int .i64 P.a7O,.int .i64 P.s0,.int .i64 P.s1,.int .i64 P.s2,.int .i64 P.s3,.int .i64 P.s4,PV.cQ o 1 rs (.osl o 1 0 ms.1.length),frs P.repair,.bool P.target.neg,aK P.target.num,aK P.target.den,.bool P.a7A.neg,aK P.a7A.num,aK P.a7A.den]]=_;rw[z2,← η];rfl
    rw[this];simp[pY]
   have eL:(FE.lists j u y A e S U O R (pY g.1++[CS P (.osl o 1 0 ms.1.length)])).map (fun x=>(x.1,x.2.1,x.2.2.map fun r=>r.map (PV.cQ o 1 rs)))=FE.lists j u y A e S U O R (pY (g.1++[P])):=by show [(j,4,(kT S).map _),(u,4,(nB U).map _),(y,7,(nH O).map _),(A,3,(qK R).map _),(e,17,(pY g.1++[CS P (.osl o 1 0 ms.1.length)]).map _)]=_;rw[aoR,apJ,akA,akD,e5]
   rw[← eB,← eL];exact z5.sub (by rw[a9U]; exact bcD ..) (baE.refl _)
  ·(repeat' (first|exact c_|refine d_ ?_ ?_))<;>first|(simp only[go_sem,f0,f1,f2,f6,f7,f11,f13]<;>rfl)|rfl
 ·have B:¬ (i:Int)<(n:Nat):=Om;have:i=n:=Om;subst this;simp only[go_sem,B];exact hK V _ _ (cc Sq Sq Sq Sq Sq) W
theorem aiW {C:Ctx} (W:rI C) {l:List Nat} {v:PV} (T:Tp l v) (E:FE) (j n a:Nat) (hn:n≤60) (β:j≤50) (ha:a≤l.length) (ext I J M N u:PV) (B:List dX) (U:B.length=j) (L:List LI) (K:cI) (F:PF) (H:PH)
  (hF:(((jE E).set 18 (.int .i64 n)).set 19 (.int .i64 0)).le F) (y:aM H (E.boxes v ext I J M N u .aD a) ((u,17,pY B)::L))
  (hK:∀ x V H',(jE E).le V→aM H' (E.boxes v ext I J M N u x (lH l j a n).2) ((u,17,pY B)::L++[(x,2,sW (lH l j a n).1)])→K (.exit 8) V H') :
  aC.wp C (.loop PU) K F H:=by
 refine wp_loop (α:=Nat × PV × PH) (fun t=>((jE E).set 18 (.int .i64 n)).set 19 (.int .i64 t.1)) (fun t=>t.2.2) (fun t=>t.1≤n∧aM t.2.2 (E.boxes v ext I J M N u t.2.1 (lH l j a t.1).2) ((u,17,pY B)::L++[(t.2.1,2,sW (lH l j a t.1).1)])) (fun t=>n-t.1) (0,.aD,H) ⟨a8K _,y.kB 2⟩ hF b_ ?_;rintro⟨i,x,H0⟩ ⟨hi,y⟩;simp only at hi y ⊢;obtain⟨k1,k2⟩:=ia l j ha i;have A:lH l j a (i+1)=((lH l j a i).1++[⟨[118]++dU i,((aL l j (lH l j a i).2).1:Nat)⟩],(aL l j (lH l j a i).2).2):=rfl;simp only[go_sem,PU,uz,jE];by_cases hlt:i<n
 ·have w:(i:Int)<(n:Nat):=Om;generalize hg:lH l j a i=g at *
  have Y:=y.set 0 rfl (bW v (aL l j g.2).2);generalize R:aL l j g.2=z at *
  have b1:=y.at 1 rfl;have Z:=(y.own 0 rfl).yO;rw[a8E,U] at Z;have O:(PH.nil.set E.o7 (flB ext I J M N u x)).le H0:=e_ a_ b1;simp only[go_sem,w];refine aV (PH.nil.set E.o7 (flB ext I J M N u x)) (mkS l v) O ?_;simp only[go_sem,u0];refine NY W.toyB (s:=[118]) (n:=i) (by decide) Om rfl O ?_;simp only[go_sem,Z];refine wS W.toNT T (o:=E.o) (n:=j) (a:=g.2) Om k1 rfl (y.at 0 rfl) ?_ ?_
  ·rw[R]; exact e_ a_ (Y.at 1 rfl)
  rw[R];have S:(1:Nat)*2≤16777216:=by decide
  simp only[go_sem,S,a8S,a9D,or_false,forall_eq,forall_eq_or_imp];refine Y.append (v:=x) (s:=2) (rows:=sW g.1) (L.length+1) (src:=[(⟨[118]++dU i,(z.1:Nat)⟩:fZ).cells]) (by simp) rfl (by unfold roomFor; rw[a8E]; simp only[a8N,maxLen]; omega) fun w' H2 h5 hw=>?_;obtain⟨q,rfl⟩:=hw (by simp);rw[show ((u,17,pY B)::L++[(x,2,sW g.1)])=((u,17,pY B)::L)++[(x,2,sW g.1)] from rfl,bbW _ _ (by simp),show L.length+1-((u,17,pY B)::L).length=0 by simp] at h5;have X:=h5.at 1 rfl;refine⟨e_ a_ X,?_⟩;refine aV .nil cA a_ ?_;simp only[go_sem,u5,X,a8S,a9D,or_false,forall_eq];have h6:=h5.set 1 rfl (flB ext I J M N u (.osl q 2 0 (sW g.1++[(⟨[118]++dU i,(z.1:Nat)⟩:fZ).cells]).length));refine⟨a_,?_⟩;simp only[go_sem,u6,wZz i];refine aG (i+1,.osl q 2 0 (sW g.1++[(⟨[118]++dU i,(z.1:Nat)⟩:fZ).cells]).length,_) ⟨hlt,?_⟩ (by simp only; omega) ?_ b_
  ·rw[A];have e:sW (g.1++[⟨[118]++dU i,(z.1:Nat)⟩])=sW g.1++[(⟨[118]++dU i,(z.1:Nat)⟩:fZ).cells]:=by simp[sW]
   simp only;rw[e];exact h6
  ·exact Lq
 ·have w:¬ (i:Int)<(n:Nat):=Om;have:i=n:=Om;subst this;simp only[go_sem,w];exact hK x _ _ (cc rfl rfl rfl rfl rfl) y
def UW (l:List Nat) (v:PV) (o a6P a6R a:Nat) (r:PV) (H:PH):Prop:=Co r (.agg (pP l a6P a6R a).1.cells)∧H=PH.nil.set o (bW v (pP l a6P a6R a).2)
structure Pt (C:Ctx):Prop extends rI C where
 grow:∀ (l:List Nat) (v:PV),Tp l v→∀ (mc a6P:Nat),0<mc→mc≤1000→a6P≤60→qt C l v mc a6P 4
theorem aHB {C:Ctx} (R:Pt C) {l:List Nat} {v:PV} (T:Tp l v) (o a6P a6R a:Nat) (Δ:a6P≤60) (Ψ:a6R≤50) (ha:a≤l.length) :
  JT.wp C (aT Wu.res (UW l v o a6P a6R a)) (PF.args [.ptr o 2 0 0,.int .i64 a6P,.int .i64 a6R]) (PH.nil.set o (bW v a)):=by
 have hT:pP l a6P a6R a=pP l a6P a6R a:=rfl
 conv at hT=>rhs; unfold pP
 dsimp only at hT;have hR:∀ r H,UW l v o a6P a6R a r H↔Co r (.agg (pP l a6P a6R a).1.cells)∧H=PH.nil.set o (bW v (pP l a6P a6R a).2):=fun _ _=>Iff.rfl;have ne:=hY l (show 0<2 by decide) a;have ae:=cE l 2 ha;generalize he:aL l 2 a=e at *
 have Ω:=hY l (show 0<2 by decide) e.2;have ζ:=cE l 2 ae;generalize Θ:aL l 2 e.2=O at *
 obtain⟨S,δ⟩:=kj l ζ (1+O.1);generalize α:sI l O.2 (1+O.1)=a6X at *
 have a':=hY l (show 0<2 by decide) a6X.2;have η:=cE l 2 S;generalize Λ:aL l 2 a6X.2=u at *
 obtain⟨U,Y⟩:=QL l (1+O.1) η (1+u.1);generalize W:lN l (1+O.1) u.2 (1+u.1)=a6Q at *
 have κ:GOk l a6P ⟨[BH],[],a6Q.2⟩:=⟨by simp,a8K _,U⟩;obtain⟨hG,-⟩:=jw (mc:=1+u.1) 4 0 κ;generalize hg:jC l (1+u.1) a6P 4 0 ⟨[BH],[],a6Q.2⟩=g at *
 have b':=hY l (show 0<2 by decide) g.a;have θ:=cE l 2 hG.a;generalize Φ:aL l 2 g.a=pl at *
 obtain⟨V,ε⟩:=GU l (1+u.1) θ (1+pl.1);generalize β:jX l (1+u.1) pl.2 (1+pl.1)=pols at *
 have c':=hY l (Om:0<a6R+1) pols.2;have σ:=cE l (a6R+1) V;generalize ο:aL l (a6R+1) pols.2=vo at *
 generalize γ:lH l (1+pl.1) vo.2 vo.1=vols at *
 have ee:IntKind.i64.wrap (1+(e.1:Int))=((1+e.1:Nat):Int):=by rw[wrap_i64 Om Om]; omega
 have τ:IntKind.i64.wrap (1+(O.1:Int))=((1+O.1:Nat):Int):=by rw[wrap_i64 Om Om]; omega
 have υ:IntKind.i64.wrap (1+(u.1:Int))=((1+u.1:Nat):Int):=by rw[wrap_i64 Om Om]; omega
 have χ:IntKind.i64.wrap (1+(pl.1:Int))=((1+pl.1:Nat):Int):=by rw[wrap_i64 Om Om]; omega
 have ψ:IntKind.i64.wrap ((a6R:Int)+1)=((a6R+1:Nat):Int):=dW Om;have h0:aM (PH.nil.set o (bW v a)) [(o,bW v a)] []:=aM.nil.new (H:=PH.nil) rfl (bW v a);simp only[go_sem,JT,Gx,Wu];refine aO fun o6 μ=>?_;have w:=h0.new μ flZ;simp only[go_sem,Gy];refine eM R.toNT T (o:=o) (n:=2) (a:=a) (by decide) ha rfl (w.at 0 rfl) ?_;have A:=w.set 0 rfl (bW v e.2);rw[he];simp only[go_sem,ee];refine aO fun o7 ν=>?_;have J:=A.new ν (flB (.int .i64 (1+e.1:Nat)) .aD .aD .aD .aD .aD .aD);simp only[go_sem,Gz,a8S,a9D,or_false,forall_eq,forall_eq_or_imp];refine eM R.toNT T (o:=o) (n:=2) (a:=e.2) (by decide) ae rfl (J.at 0 rfl) ?_;have h4:=J.set 0 rfl (bW v O.2);rw[Θ];have h5:=h4.perm (B':=FE.boxes ⟨o,o6,o7,a6P,a6R⟩ v (.int .i64 (1+e.1:Nat)) .aD .aD .aD .aD .aD .aD O.2) (L':=[]) (baQ.cons _ (baQ.swap _ _ _)) (baQ.refl _);obtain⟨E,j⟩:∃ E:FE,E=⟨o,o6,o7,a6P,a6R⟩:=⟨_,rfl⟩;rw[← j] at h5;simp only[go_sem,τ,G0];refine aNX (C:=C) R.torI T E (1+O.1) O.2 Om ζ _ _ _ _ ?_ h5 ?_
 ·rw[j];unfold jE;exact Lq
 clear h5 h4 J A w h0 μ ν;intro y F1 H1 K w;rw[α] at w;have f0:F1 0=some (.ptr o 2 0 0):=K 0 _ (by rw[j]; unfold jE; simp only[go_sem]);have f1:F1 1=some (.int .i64 a6P):=K 1 _ (by rw[j]; unfold jE; simp only[go_sem]);have f2:F1 2=some (.int .i64 a6R):=K 2 _ (by rw[j]; unfold jE; simp only[go_sem]);have f6:F1 6=some (.ptr o6 7 0 0):=K 6 _ (by rw[j]; unfold jE; simp only[go_sem]);have f7:F1 7=some (.ptr o7 7 0 0):=K 7 _ (by rw[j]; unfold jE; simp only[go_sem]);have Z:=w.at 0 rfl;rw[j] at Z;simp only[go_sem,ud,f0];refine eM R.toNT T (o:=o) (n:=2) (a:=a6X.2) (by decide) S rfl Z ?_;have A:=w.set 0 rfl (bW v u.2);rw[Λ];simp only[go_sem,υ,ue];refine aBW (C:=C) R.torI T E (1+u.1) u.2 (1+O.1) Om Om η (.int .i64 (1+e.1:Nat)) y a6X.1 δ _ _ _ ?_ (by rw[j] at A ⊢; exact A) ?_
 ·rw[j];unfold jE;exact Lq
 clear Z A w f0 f1 f2 f6 f7 K;intro w2 F2 H2 M f11 A;rw[W] at A;have f0:F2 0=some (.ptr o 2 0 0):=M 0 _ (by rw[j]; unfold jE; simp only[go_sem]);have f1:F2 1=some (.int .i64 a6P):=M 1 _ (by rw[j]; unfold jE; simp only[go_sem]);have f2:F2 2=some (.int .i64 a6R):=M 2 _ (by rw[j]; unfold jE; simp only[go_sem]);have f6:F2 6=some (.ptr o6 7 0 0):=M 6 _ (by rw[j]; unfold jE; simp only[go_sem]);have f7:F2 7=some (.ptr o7 7 0 0):=M 7 _ (by rw[j]; unfold jE; simp only[go_sem]);obtain⟨qm,ξ⟩:=(A.own 1 rfl).one (by rw[a8E]; omega);rw[a8E,Y] at ξ;subst ξ;have ω:(1:Nat)*7≤16777216:=by decide
 simp only[go_sem,uk];refine aB (R.int 0 (by unfold eJ; omega)) rfl ?_;simp only[go_sem,a8S,a9D,or_false,forall_eq,forall_eq_or_imp,ω];refine aO fun od Ξ=>?_;have J:=A.Cy (s:=7) (rows:=nH [BH]) Ξ;have b7:=A.at 1 rfl;rw[j] at b7;have n7:¬ o7=od:=by have:=J.neL 1 2 rfl rfl rfl;rw[j] at this; exact this
 simp only[go_sem,f7,b7,n7,a8S,a9D,or_false,forall_eq];have h4:=(J.set 1 rfl (flB (.int .i64 (1+e.1:Nat)) y (.osl qm 4 0 (1+u.1)) (.osl od 7 0 1) .aD .aD .aD)).kB 3;rw[j] at h4;have h5:=h4.perm (B':=(GE.mk o o7 qm (.int .i64 (1+e.1:Nat)) y .aD .aD).boxes v (1+u.1) (.osl od 7 0 1) .aD a6Q.2++[(o6,flZ)]) (L':=pX ⟨[BH],[],a6Q.2⟩ (.osl od 7 0 1) .aD++[(y,4,kT a6X.1),(.osl qm 4 0 (1+u.1),4,nB a6Q.1)]) (baQ.refl _)
  (List.perm_append_comm (l₁:=[(y,4,kT a6X.1),(.osl qm 4 0 (1+u.1),4,nB a6Q.1)]) (l₂:=pX ⟨[BH],[],a6Q.2⟩ (.osl od 7 0 1) .aD))
 simp only[go_sem,ul,f0,f1,f7];refine MF h5 (fun H0 Γ=>R.grow l v T (1+u.1) a6P Om Om Δ (GE.mk o o7 qm (.int .i64 (1+e.1:Nat)) y .aD .aD) (.osl od 7 0 1) .aD ⟨[BH],[],a6Q.2⟩ 0 BH κ rfl rfl H0 Γ) (by simp only[go_sem,f0,f1,f7]; rfl) ?_;rintro r B' L' H3 ⟨rfl,F,I,rfl,rfl⟩ h6;rw[hg] at h6;have h7:=h6.perm (B':=E.boxes v (.int .i64 (1+e.1:Nat)) y (.osl qm 4 0 (1+u.1)) F I .aD .aD g.a) (L':=[(y,4,kT a6X.1),(.osl qm 4 0 (1+u.1),4,nB a6Q.1),(F,7,nH g.a6Z),(I,3,qK g.a7J)]) (by rw[j]; exact baQ.refl _)
  (List.perm_append_comm (l₁:=pX g F I) (l₂:=[(y,4,kT a6X.1),(.osl qm 4 0 (1+u.1),4,nB a6Q.1)]))
 have Z:=h7.at 0 rfl;rw[j] at Z;simp only[go_sem,um,f0];refine eM R.toNT T (o:=o) (n:=2) (a:=g.a) (by decide) hG.a rfl Z ?_;have h8:=h7.set 0 rfl (bW v pl.2);rw[Φ];simp only[go_sem,χ,uo];refine Wt (C:=C) R.torI T E (1+u.1) (1+pl.1) pl.2 Om Om Om θ ((1+e.1:Nat):Int) y (.osl qm 4 0 (1+u.1)) F I a6X.1 a6Q.1 g.a6Z g.a7J _ _ _ (by rw[j]; exact⟨by simp only[go_sem,f0],by simp only[go_sem,f1],by simp only[go_sem,f2],by simp only[go_sem,f6],by simp only[go_sem,f7],by simp only[go_sem,f11],by simp only[go_sem],by simp only[go_sem]; rfl⟩) (by rw[j] at h8 ⊢; exact h8) ?_;clear h8 h7 h6 h5 h4 J A Z b7 f0 f1 f2 f6 f7 M;intro w5 F4 H4 N w;rw[β] at w;have f0:F4 0=some (.ptr o 2 0 0):=N 0 _ (by rw[j]; unfold jE; simp only[go_sem]);have f1:F4 1=some (.int .i64 a6P):=N 1 _ (by rw[j]; unfold jE; simp only[go_sem]);have f2:F4 2=some (.int .i64 a6R):=N 2 _ (by rw[j]; unfold jE; simp only[go_sem]);have f6:F4 6=some (.ptr o6 7 0 0):=N 6 _ (by rw[j]; unfold jE; simp only[go_sem]);have f7:F4 7=some (.ptr o7 7 0 0):=N 7 _ (by rw[j]; unfold jE; simp only[go_sem]);have Z:=w.at 0 rfl;rw[j] at Z;simp only[go_sem,ux,f0,f2,ψ];refine eM R.toNT T (o:=o) (n:=a6R+1) (a:=pols.2) Om V rfl Z ?_;have A:=w.set 0 rfl (bW v vo.2);rw[ο];have J:=A.perm (B':=E.boxes v (.int .i64 (1+e.1:Nat)) y (.osl qm 4 0 (1+u.1)) F I w5 .aD vo.2) (L':=(w5,17,pY pols.1)::[(y,4,kT a6X.1),(.osl qm 4 0 (1+u.1),4,nB a6Q.1),(F,7,nH g.a6Z),(I,3,qK g.a7J)]) (baQ.refl _)
  (List.perm_append_comm (l₁:=[(y,4,kT a6X.1),(.osl qm 4 0 (1+u.1),4,nB a6Q.1),(F,7,nH g.a6Z),(I,3,qK g.a7J)]) (l₂:=[(w5,17,pY pols.1)]))
 simp only[go_sem,uy];refine aiW (C:=C) R.torI T E (1+pl.1) vo.1 vo.2 Om Om σ _ _ _ _ _ w5 pols.1 ε _ _ _ _ ?_ (by rw[j] at J ⊢; exact J) ?_
 ·rw[j];unfold jE;exact Lq
 clear J A w Z f0 f1 f2 f6 f7 N;intro w6 F5 H5 ι w;rw[γ] at w;have f6:F5 6=some (.ptr o6 7 0 0):=ι 6 _ (by rw[j]; unfold jE; simp only[go_sem]);have f7:F5 7=some (.ptr o7 7 0 0):=ι 7 _ (by rw[j]; unfold jE; simp only[go_sem]);rw[j] at w;have b7:=w.at 1 rfl;have b6:=w.at 2 rfl;have one:∀ (x:PV),x∈[y,F,I,w5,w6]→(∃ q s n,x=.osl q s 0 n)∨x=.aD:=by
  intro x hx;have X:∀ {s:Nat} {rows:List (List PV)},cR H5 s x rows→(∃ q s n,x=.osl q s 0 n)∨x=.aD:=by
   rintro s rows (⟨_,h⟩ | ⟨q,rs,h,_⟩)
   ·exact .inr h
   ·exact .inl ⟨q,s,_,h⟩
  simp only[a8S,a9D,or_false] at hx;rcases hx with rfl | rfl | rfl | rfl | rfl
  ·exact X (w.own 1 rfl)
  ·exact X (w.own 3 rfl)
  ·exact X (w.own 4 rfl)
  ·exact X (w.own 0 rfl)
  ·exact X (w.own 5 rfl)
 have B:∀ (x:PV),x∈[y,F,I,w5,w6]→PV.one x=true:=fun x hx=>by rcases one x hx with ⟨q,s,n,rfl⟩ | rfl<;>rfl
 have o1:=B y (by simp);have o3:=B F (by simp);have o4:=B I (by simp);have o5:=B w5 (by simp);have ρ:=B w6 (by simp);simp only[PV.one] at o1 o3 o4 o5 ρ;simp only[go_sem,u7,f6,f7,b7,b6,a8S,a9D,or_false,forall_eq,forall_eq_or_imp,o1,o3,o4,o5,ρ];have A:=w.set 2 rfl (flB (.int .i64 (1+e.1:Nat)) y (.osl qm 4 0 (1+u.1)) F I w5 w6);have J:=A.sub (B':=[(o,bW v vols.2)]) (baE.cons_cons _ (List.nil_sublist _)) (baE.refl _);obtain⟨φ,H6,k1,k2,k3,k4⟩:=aM.giveUp _ J (fun x hx=>by
  simp only[bbR,bbK,a8S,a9D,or_false] at hx;rcases hx with rfl | rfl | rfl | rfl | rfl | rfl
  ·exact atG _
  ·exact aoR _
  ·exact apJ _
  ·exact akA _
  ·exact akD _
  ·exact aWR _) (fun b hb q s rs=>by
  simp only[a8S,a9D,or_false] at hb;subst hb;simp only[bZ.frz,a9T,bbA,T.frz];rfl)
 refine pE (vs:=[.agg [.int .i64 (1+e.1:Nat),y,.osl qm 4 0 (1+u.1),F,I,w5,w6]]) (.inr rfl) (by simp only[go_sem,f6]) (k4 _ _ (.done (H2:=PH.nil.set o (bW v vols.2)) ?_ (e_ a_ (k3.at 0 rfl))));rw[hR,hT];refine⟨CoL.agg ?_,rfl⟩;have s5:=k1 (w5,17,pY pols.1) (by simp);have s1:=k1 (y,4,kT a6X.1) (by simp);have s2:=k1 (.osl qm 4 0 (1+u.1),4,nB a6Q.1) (by simp);have s3:=k1 (F,7,nH g.a6Z) (by simp);have s4:=k1 (I,3,qK g.a7J) (by simp);have s6:=k1 (w6,2,sW vols.1) (by simp);have s0:φ (.int .i64 (1+e.1:Nat))=.int .i64 (1+e.1:Nat):=k2 _ rfl;show CoL [φ (.int .i64 (1+e.1:Nat)),φ y,φ (.osl qm 4 0 (1+u.1)),φ F,φ I,φ w5,φ w6] _;rw[s0];exact CoL.cons (.refl _) (CoL.cons s1.co (CoL.cons s2.co (CoL.cons s3.co (CoL.cons s4.co (CoL.cons s5.co (CoL.cons s6.co .nil))))))
structure aFG (C:Ctx):Prop extends Pt C where
 new:∀ (l:List Nat),(∀ x∈l,x<256)→l.length≤9223372036854775807→aH C 28 [.sl 1 (sP l)] .nil (azH l)
 fleet:∀ (l:List Nat) (v:PV),Tp l v→∀ (o a6P a6R a:Nat),a6P≤60→a6R≤50→a≤l.length →
  aH C 0 [.ptr o 2 0 0,.int .i64 a6P,.int .i64 a6R] (PH.nil.set o (bW v a)) (fun r H=>r=.agg (pP l a6P a6R a).1.cells∧H=PH.nil.set o (bW v (pP l a6P a6R a).2))
theorem UW.exact {C:Ctx} {name:Nat} {args:List PV} {H:PH} {l:List Nat} {v:PV} {o a6P a6R a:Nat} (h:aH C name args H (UW l v o a6P a6R a)):aH C name args H (fun r H=>r=.agg (pP l a6P a6R a).1.cells∧H=PH.nil.set o (bW v (pP l a6P a6R a).2)) :=
 h.post fun r H' e=>⟨_,e.1,rfl,e.2⟩
theorem aGZ {C:Ctx} (y:aFG C) (l:List Nat) (hb:∀ x∈l,x<256) (B:l.length≤9223372036854775807) (a6P a6R:Nat) (j:a6P≤60) (w:a6R≤50) :
  JR.wp C (aT V7.res (cP (.agg (pP (l.take 400) a6P a6R 0).1.cells))) (PF.args [.sl 1 (sP l),.int .i64 a6P,.int .i64 a6R]) .nil:=by
 simp only[go_sem,JR,Gq,V7];refine aO fun o6 E=>?_;simp only[go_sem,Gr];refine dV (y.new l hb B) rfl a_ ?_;rintro r H' ⟨o,v,rfl,T,rfl⟩ A;have u:¬ o6=o:=by intro e;subst e;have:=A o6 (bW v 0) (by rw[aS,if_pos rfl]) rfl;rw[aS,if_pos rfl] at this;cases this
 rw[PH.uD];simp only[go_sem];refine rC (y.fleet _ v T o a6P a6R 0 j w (a8K _)) (by rw[aS,if_pos rfl]) rfl ?_;simp only[go_sem,u];exact bA (vs:=[.agg (pP (l.take 400) a6P a6R 0).1.cells]) (.inr rfl) .nil Sq a_ ⟨.refl _,rfl⟩
theorem CoL.aOT:CoL [] []:=⟨rfl,fun j p q h=>by simp at h⟩
theorem CoL.HT {p q:PV} {ps l:List PV} (h:Co p q) (e:CoL ps l):CoL (p::ps) (q::l):=by
 refine⟨by simp[e.len],fun j x y a b=>?_⟩;cases j with
 | zero =>simp only[List.getElem?_cons_zero,baP.injEq] at a b;subst a; subst b; exact h
 | succ j=>exact e.at_ j x y (by simpa using a) (by simpa using b)
theorem aH.seen {C:Ctx} {name:Nat} {args:List PV} {H:PH} {v:PV} (h:aH C name args H (cP v)):aH C name args H (aI v) :=
 h.post fun r H' e=>⟨v,e.1,rfl,e.2⟩
def cn (x:RF):Bool:=(x.num.all (fun n=>decide (n<4294967296))&&x.den.all fun n=>decide (n<4294967296))&&(decide (x.num.length≤9)&&decide (x.den.length≤9))
theorem RV {x:RF} (h:cn x=true):x.Ok:=by
 simp only[cn,a9A,a9I,decide_eq_true_eq] at h;exact⟨h.1.1,h.1.2,by omega,by omega⟩
def NK (l:List RF):Bool:=decide (l.length≤9)&&l.all cn
theorem IQ {l:List RF} (h:NK l=true):lI l:=by
 simp only[NK,a9A,a9I,decide_eq_true_eq] at h;exact⟨by unfold Fits; omega,fun x e=>RV (h.2 x e)⟩
def Vl (x:dC):Bool:=(NK x.start&&NK x.exit)&&(decide (x.a6U.length≤9)&&x.a6U.all NK)
theorem aGS {x:dC} (h:Vl x=true):x.Ok:=by
 simp only[Vl,a9A,a9I,decide_eq_true_eq] at h;exact⟨IQ h.1.1,IQ h.1.2,by unfold Fits; omega,fun r e=>IQ (h.2.2 r e)⟩
def Zt (x:dX):Bool:=(decide (eJ x.k∧eJ x.m∧eJ x.a7O)&&(decide (x.a6Q.length≤9)&&x.a6Q.all fun m=>decide (eJ m)))&&(NK x.repair&&(cn x.target&&cn x.a7A))
theorem aIV {x:dX} (h:Zt x=true):x.Ok:=by
 simp only[Zt,a9A,a9I,decide_eq_true_eq] at h;exact⟨h.1.1.1,h.1.1.2.1,h.1.1.2.2,by unfold Fits; omega,h.1.2.2,IQ h.2.1,RV h.2.2.1,RV h.2.2.2⟩
def okB (f:aE):Bool:=(decide (f.a6X.length≤99∧f.a6Q.length≤99∧f.a6S.length≤99∧f.a6P.length≤99∧f.a6T.length≤99∧f.a6R.length≤99)&&(f.a6X.all Vl&&f.a6T.all Zt)) &&
 (f.a6S.all (fun x=>cn x.a7F&&decide (eJ x.level∧eJ x.parent))&&(f.a6P.all (fun x=>decide (eJ x.model∧eJ x.machine))&&f.a6R.all fun x=>decide (eJ x.a7C)))
theorem aYN {f:aE} (h:okB f=true):f.Ok:=by
 simp only[okB,a9A,a9I,decide_eq_true_eq] at h;obtain⟨⟨⟨y,A,B,E,F,I⟩,l,u⟩,j,w,h5⟩:=h;exact⟨by unfold Fits; omega,by unfold Fits; omega,by unfold Fits; omega,by unfold Fits; omega,by unfold Fits; omega,by unfold Fits; omega,fun x e=>aGS (l x e),fun x e=>⟨RV (j x e).1,(j x e).2⟩,w,fun x e=>aIV (u x e),h5⟩
noncomputable def fV:aE:={ (pP [] 1 0 0).1 with a6R:=[⟨[118,48],0⟩] }
theorem mL:dL fV=true:=by decide +kernel
theorem xS:fV.Ok:=aYN (by decide +kernel)
theorem ajF:BV fV [[0]] []=true:=by
 unfold BV aEM;rw[mL,if_pos rfl,if_pos (by decide +kernel)];decide +kernel
def Me:List Nat:=[43]
def gJ:=bM Me Proofs.Tryz.f166
def L6:=aA gJ 0
def L7:=aA gJ 1
def L8:=aA gJ 2
def L9:=aA gJ 3
def Ma:=aA gJ 4
def Mb:=aA gJ 5
def Mc:=aA gJ 6
def Md:=aA gJ 7
def ZF:=aA gJ 8
def ZG:=aA gJ 9
def SW:=aA gJ 10
def SX:=aA gJ 11
def SY:=aA gJ 12
def EJ:=aA gJ 13
def EK:=aA gJ 14
def ym:aC:=(.seq (sq Ma (.cond (Tm 13) .skip (.exit 0))) (.seq (.block 1 (sq Mb (.seq (sq Mc (.cond (Tm 20) (.region Md) .skip)) (sq ZF (sq ZG (.seq (sq SW (.cond (Tm 35) (sq SX (.region SY)) .skip)) (.region EJ))))))) (.region EK)))
def yn:=aA gJ 15
def LQ:aC:=(sq L6 (sq L7 (sq L8 (.seq (sq L9 (.block 0 (.loop ym))) (sq yn .ret)))))
def afB:aW:=⟨2,47,LQ,[.tmp 4]⟩
def afI:List Nat:=[51]
def jS:=bM afI Proofs.Tryz.f171
def afD:=aA jS 0
def afE:=aA jS 1
def afF:=aA jS 2
def afG:=aA jS 3
def afH:=aA jS 4
def p6:=aA jS 5
def p7:=aA jS 6
def p8:=aA jS 7
def TA:=aA jS 8
def TB:=aA jS 9
def IY:=aA jS 10
def IZ:=aA jS 11
def JA:=aA jS 12
def Mf:aC:=(.seq (sq afH (.cond (Tm 22) .skip (.exit 0))) (.seq (.block 1 (sq p6 (.seq (sq p7 (.cond (Tm 29) (.region p8) .skip)) (.seq (sq TA (.cond (Tm 40) (.region TB) .skip)) (sq IY (.region IZ)))))) (.region JA)))
def ZK:=aA jS 13
def SZ:aC:=(sq afD (sq afE (sq afF (.seq (sq afG (.block 0 (.loop Mf))) (sq ZK .ret)))))
def aEE:aW:=⟨2,57,SZ,[.tmp 4]⟩
def Mo:List Nat:=[]
def iY:=bM Mo Proofs.Tryz.f165
def Mg:=aA iY 0
def Mh:=aA iY 1
def Mi:=aA iY 2
def Mj:=aA iY 3
def ZN:=aA iY 4
def ZO:=aA iY 5
def Mk:=aA iY 6
def Ml:=bT iY 0
def Mm:=aA iY 7
def Mn:=aA iY 8
def yq:=aA iY 9
def TC:aC:=(.seq (sq Mk (.cond (Tm 25) .skip (.exit 2))) (.seq (.block 3 (dq Ml (sq Mm (.region Mn)))) (.region yq)))
def TD:=aA iY 10
def yr:=aA iY 11
def yo:aC:=(.seq (sq Mj (.cond (Tm 19) .skip (.exit 0))) (.seq (.block 1 (sq ZN (.seq (sq ZO (.block 2 (.loop TC))) (.region TD)))) (.region yr)))
def yu:=aA iY 12
def LS:aC:=(sq Mg (sq Mh (.seq (sq Mi (.block 0 (.loop yo))) (sq yu .ret))))
def afJ:aW:=⟨2,68,LS,[.tmp 4]⟩
def avQ:List Nat:=[]
def uI:=bM avQ Proofs.Tryz.f155
def avK:=aA uI 0
def avL:=aA uI 1
def Ds:=aA uI 2
def avM:=aA uI 3
def avN:=aA uI 4
def avO:=aA uI 5
def avP:=aA uI 6
def YZ:aC:=(sq avK (.seq (sq avL (.cond (Tm 12) (sq Ds .ret) .skip)) (sq avM (.seq (sq avN (.cond (Tm 19) (sq avO .ret) .skip)) (sq avP .ret)))))
def aQG:aW:=⟨2,21,YZ,[.tmp 4,.tmp 5]⟩
def axE:List Nat:=[]
def xV:=bM axE Proofs.Tryz.f157
def awZ:=aA xV 0
def axA:=aA xV 1
def Dx:=aA xV 2
def axB:=aA xV 3
def axC:=aA xV 4
def axD:=aA xV 5
def ZM:aC:=(sq awZ (.seq (sq axA (.cond (Tm 11) (sq Dx .ret) .skip)) (.seq (sq axB (.cond (Tm 15) (sq axC .ret) .skip)) (sq axD .ret))))
def aQV:aW:=⟨2,21,ZM,[.tmp 4,.tmp 5]⟩
def awY:List Nat:=[]
def uK:=bM awY Proofs.Tryz.f158
def awS:=aA uK 0
def awT:=aA uK 1
def Dw:=aA uK 2
def awU:=aA uK 3
def awV:=aA uK 4
def awW:=aA uK 5
def awX:=aA uK 6
def ZH:aC:=(sq awS (.seq (sq awT (.cond (Tm 12) (sq Dw .ret) .skip)) (sq awU (.seq (sq awV (.cond (Tm 19) (sq awW .ret) .skip)) (sq awX .ret)))))
def aQO:aW:=⟨2,21,ZH,[.tmp 4,.tmp 5]⟩
def aeH:List Nat:=[]
def nF:=bM aeH Proofs.Tryz.f163
def adY:=aA nF 0
def adZ:=aA nF 1
def aeA:=aA nF 2
def aeB:=aA nF 3
def aeC:=aA nF 4
def aeD:=aA nF 5
def aeE:=aA nF 6
def aeF:=aA nF 7
def aeG:=aA nF 8
def adX:aC:=(.seq (sq aeE (.cond (Tm 21) .skip (.exit 0))) (.seq (.block 1 (.region aeF)) (.region aeG)))
def Lx:=aA nF 9
def SP:aC:=(sq adY (sq adZ (.seq (sq aeA (.cond (Tm 9) (sq aeB .ret) .skip)) (sq aeC (.seq (sq aeD (.block 0 (.loop adX))) (sq Lx .ret))))))
def aDW:aW:=⟨1,27,SP,[.tmp 2]⟩
def aKR:List Nat:=[35,42]
def oE:=bM aKR Proofs.Tryz.f164
def aKH:=aA oE 0
def aKI:=aA oE 1
def aKJ:=aA oE 2
def aKK:=aA oE 3
def aKL:=aA oE 4
def aKM:=aA oE 5
def aKN:=aA oE 6
def aKO:=aA oE 7
def aKP:=aA oE 8
def aKQ:=aA oE 9
def axG:=aA oE 10
def axF:aC:=(.seq (sq aKN (.cond (Tm 18) .skip (.exit 0))) (.seq (.block 1 (sq aKO (sq aKP (.region aKQ)))) (.region axG)))
def axH:=aA oE 11
def qa:aC:=(sq aKH (.seq (sq aKI (.cond (Tm 11) (sq aKJ .ret) .skip)) (sq aKK (sq aKL (.seq (sq aKM (.block 0 (.loop axF))) (sq axH .ret))))))
def uup:aW:=⟨2,45,qa,[.tmp 4]⟩
def aeW:List Nat:=[47]
def lD:=bM aeW Proofs.Tryz.f167
def aeN:=aA lD 0
def aeO:=aA lD 1
def aeP:=aA lD 2
def aeQ:=aA lD 3
def aeR:=aA lD 4
def aeS:=aA lD 5
def aeT:=aA lD 6
def aeU:=aA lD 7
def aeV:=aA lD 8
def p5:=aA lD 9
def ZD:=aA lD 10
def Ly:aC:=(.seq (sq aeS (.cond (Tm 18) .skip (.exit 0))) (.seq (.block 1 (sq aeT (.seq (sq aeU (.cond (Tm 30) (.region aeV) .skip)) (.region p5)))) (.region ZD)))
def Lz:=aA lD 11
def SU:aC:=(sq aeN (.seq (sq aeO (.cond (Tm 12) (sq aeP .ret) .skip)) (sq aeQ (.seq (sq aeR (.block 0 (.loop Ly))) (sq Lz .ret)))))
def aEA:aW:=⟨2,51,SU,[.tmp 4]⟩
def Nc:List Nat:=[1]
def ib:=bM Nc Proofs.Tryz.f67
def M9:=aA ib 0
def Nb:=aA ib 1
def MB:aC:=(sq M9 (sq Nb .ret))
def agZ:aW:=⟨1,22,MB,[.tmp 2]⟩
def Mt:List Nat:=[1]
def gz:=bM Mt Proofs.Tryz.f172
def Mr:=aA gz 0
def Ms:=aA gz 1
def LX:aC:=(sq Mr (sq Ms .ret))
def agA:aW:=⟨1,13,LX,[.tmp 2]⟩
def afY:List Nat:=[1]
def EL:=bM afY Proofs.Tryz.f156
def afU:=aA EL 0
def afV:=aA EL 1
def afW:=aA EL 2
def afX:=aA EL 3
def TF:aC:=(sq afU (.seq (sq afV (.cond (Tm 5) (sq afW .ret) .skip)) (sq afX .ret)))
def aEK:aW:=⟨1,8,TF,[.cell 2 (some 3),.tmp 3]⟩
def zg:List Nat:=[1]
def zN:=bM zg Proofs.Tryz.f105
def zc:=aA zN 0
def zd:=aA zN 1
def ze:=aA zN 2
def zf:=aA zN 3
def HK:aC:=(sq zc (.seq (sq zd (.cond (Tm 6) (sq ze .ret) .skip)) (sq zf .ret)))
def D1:aW:=⟨1,15,HK,[.cell 2 (some 3),.tmp 3]⟩
def M8:List Nat:=[]
def MA:=bM M8 Proofs.Tryz.f140
def M5:=aA MA 0
def M6:=aA MA 1
def M7:=aA MA 2
def LZ:aC:=(sq M5 (sq M6 (sq M7 .ret)))
def agY:aW:=⟨2,14,LZ,[.tmp 4]⟩
def M4:List Nat:=[2,3]
def mA:=bM M4 Proofs.Tryz.f104
def Mu:=aA mA 0
def Mv:=bT mA 0
def Mw:=aA mA 1
def Mx:=aA mA 2
def My:=aA mA 3
def Mz:=aA mA 4
def M0:=aA mA 5
def M1:=aA mA 6
def M2:=aA mA 7
def M3:=aA mA 8
def LY:aC:=(sq Mu (dq Mv (sq Mw (.seq (.block 0 (sq Mx (.cond (Tm 33) (sq My .ret) (sq Mz (.cond (Tm 39) (sq M0 .ret) (sq M1 (.cond (Tm 45) (sq M2 .ret) .skip))))))) (sq M3 .ret)))))
def agL:aW:=⟨2,53,LY,[.tmp 4]⟩
def agD:List Nat:=[2,3]
def yx:=bM agD Proofs.Tryz.f108
def agB:=aA yx 0
def agC:=aA yx 1
def TH:aC:=(sq agB (sq agC .ret))
def aEN:aW:=⟨2,9,TH,[.tmp 4]⟩
def agO:List Nat:=[2,3]
def zh:=bM agO Proofs.Tryz.f102
def agM:=aA zh 0
def agN:=aA zh 1
def TL:aC:=(sq agM (sq agN .ret))
def aEQ:aW:=⟨2,9,TL,[.tmp 4]⟩
def agR:List Nat:=[1]
def zi:=bM agR Proofs.Tryz.f68
def agP:=aA zi 0
def agQ:=bT zi 0
def TM:aC:=(sq agP (dq agQ .ret))
def aER:aW:=⟨1,6,TM,[.tmp 2]⟩
def axR:List Nat:=[2,3]
def mW:=bM axR Proofs.Tryz.f139
def axI:=aA mW 0
def axJ:=aA mW 1
def Dy:=aA mW 2
def axK:=bT mW 0
def axL:=aA mW 3
def axM:=aA mW 4
def axN:=aA mW 5
def axO:=aA mW 6
def axP:=aA mW 7
def axQ:=aA mW 8
def afQ:=aA mW 9
def afR:=aA mW 10
def JB:aC:=(sq axI (.seq (sq axJ (.cond (Tm 22) (sq Dy .ret) .skip)) (dq axK (.seq (sq axL (.cond (Tm 43) (sq axM (sq axN .ret)) .skip)) (.seq (sq axO (.cond (Tm 61) (sq axP (sq axQ .ret)) .skip)) (sq afQ (sq afR .ret)))))))
def aEH:aW:=⟨2,90,JB,[.cell 4 (some 3),.tmp 5]⟩
def ayG:List Nat:=[]
def pC:=bM ayG Proofs.Tryz.f101
def axY:=aA pC 0
def axZ:=aA pC 1
def ayA:=aA pC 2
def ayB:=aA pC 3
def ayC:=bT pC 0
def D2:=aA pC 4
def ayD:=aA pC 5
def ayE:=aA pC 6
def ayF:=aA pC 7
def axX:aC:=(.seq (sq ayB (.cond (Tm 12) .skip (.exit 0))) (.seq (.block 1 (dq ayC (.seq (sq D2 (.cond (Tm 25) (sq ayD .ret) .skip)) (.region ayE)))) (.region ayF)))
def agX:=aA pC 8
def ZU:aC:=(sq axY (sq axZ (.seq (sq ayA (.block 0 (.loop axX))) (sq agX .ret))))
def aRG:aW:=⟨1,30,ZU,[.cell 2 (some 3),.tmp 3]⟩
def acB:List Nat:=[]
def x4:=bM acB Proofs.Tryz.f106
def AK:=aA x4 0
def AL:=aA x4 1
def sO:aC:=(sq AK (sq AL .ret))
def SA:aW:=⟨2,25,sO,[.tmp 4]⟩
def z8:List Nat:=[]
def ZX:=bM z8 Proofs.Tryz.f137
def zy:=aA ZX 0
def zz:=aA ZX 1
def HO:aC:=(sq zy (sq zz .ret))
def D8:aW:=⟨1,17,HO,[.tmp 2]⟩
def Ng:List Nat:=[]
def ic:=bM Ng Proofs.Tryz.f154
def Nd:=aA ic 0
def Nf:=aA ic 1
def MD:aC:=(sq Nd (sq Nf .ret))
def ahA:aW:=⟨1,9,MD,[.tmp 2]⟩
def zl:List Nat:=[]
def ZW:=bM zl Proofs.Tryz.f138
def zj:=aA ZW 0
def zk:=aA ZW 1
def HM:aC:=(sq zj (sq zk .ret))
def D6:aW:=⟨1,17,HM,[.tmp 2]⟩
def zx:List Nat:=[]
def mP:=bM zx Proofs.Tryz.f98
def zn:=aA mP 0
def zo:=aA mP 1
def EQ:=aA mP 2
def zp:=aA mP 3
def zq:=aA mP 4
def zr:=aA mP 5
def zt:=aA mP 6
def zu:=aA mP 7
def zm:aC:=(.seq (sq zq (.cond (Tm 21) .skip (.exit 0))) (.seq (.block 1 (sq zr (.cond (Tm 28) (sq zt .ret) .skip))) (.region zu)))
def zw:=aA mP 8
def HN:aC:=(sq zn (.seq (sq zo (.cond (Tm 17) (sq EQ .ret) .skip)) (.seq (sq zp (.block 0 (.loop zm))) (sq zw .ret))))
def D7:aW:=⟨1,29,HN,[.tmp 2]⟩
theorem vD (P:List Nat) (v:Nat):aN P++[[.int .u32 (v:Int)]]=aN (P++[v]):=by simp[aN]
theorem vC {P:List Nat} (h:P.length≤35184372087808):roomFor (aN P).length 1 4:=by
 unfold roomFor;rw[cV];simp only[maxLen]; omega
def cu (a b:List Nat) (v:PV) (c i:Nat):PF:=(((((PF.nil.set 0 (aK a)).set 1 (aK b)).set 5 (v)).set 6 (.int .u64 c)).set 7 (.int .i64 i))
theorem aKF {C:Ctx} (L:uN C) (a b:List Nat) (ha:Lim a) (hb:Lim b) (η:val b≤val a) (hl:b.length≤a.length) (h1:a.length≤35184372087808) :
  LQ.wp C (aT afB.res (cP (aK (aJ (val a-val b))))) (PF.args [aK a,aK b]) .nil:=by
 simp only[go_sem,LQ,L6,L7,L8,L9,afB];refine wp_loop (α:=List Nat × Nat × PV × PH) (fun s=>cu a b s.2.2.1 s.2.1 s.1.length) (fun s=>s.2.2.2)
  (fun s=>s.1.length≤a.length∧Lim s.1∧s.2.1≤1∧val (a.take s.1.length)+4294967296 ^ s.1.length*s.2.1=val s.1+val (b.take s.1.length)∧cR s.2.2.2 1 s.2.2.1 (aN s.1)) (fun s=>a.length-s.1.length) ([],0,.aD,.nil) ⟨by simp,by simp[Lim],by simp,by simp[val],.nil⟩ ?_ a_ ?_
 ·unfold cu;exact Lq
 rintro⟨P,c,v,H0⟩ ⟨hP,j,hc,B,W⟩;simp only at hP j hc B W ⊢;simp only[go_sem,ym,Ma,cu];by_cases X:P.length<a.length
 ·have F:(P.length:Int)<(a.length:Nat):=Om;have ε:=ha _ (a8G X);have δ:=cY a X;have β:(aN a)[P.length]?=some [.int .u32 ((a[P.length]:Nat):Int)]:=cF a X;generalize hx:a[P.length]=x at *
  have ex:IntKind.u64.wrap ((x:Nat):Int)=((x:Nat):Int):=bK Om;have fin:∀ (t:Nat) (E:PF),t<4294967296→val (b.take (P.length+1))=val (b.take P.length)+4294967296 ^ P.length*t →
    E 0=some (aK a)→E 1=some (aK b)→E 5=some v→E 8=some (.int .u64 (c+t:Nat))→E 7=some (.int .i64 P.length) →
    ∀ K:cI,(∀ A l v' V H2,A.length=P.length+1→Lim A→l≤1→val (a.take (P.length+1))+4294967296 ^ A.length*l=val A+val (b.take (P.length+1))→(cu a b v' l A.length).le V→cR H2 1 v' (aN A)→K .normal V H2) →
    aC.wp C (.seq (.region ZF) (.seq (.region ZG) (.seq (.seq (.region SW) (.cond (.tmp 35) (.seq (.region SX) (.region SY)) .skip)) (.region EJ)))) (fR 1 (jY C (aC.wp C (.region EK)) K)) E H0:=by
   intro t E ht w g0 g1 g5 g8 g7 K hK;have step:∀ (d l:Nat),d<4294967296→l≤1→x+4294967296*l=d+(c+t)→val (a.take (P.length+1))+4294967296 ^ (P.length+1)*l=val (P++[d])+val (b.take (P.length+1)):=by
    intro d l hd ζ he;have h2:4294967296 ^ P.length*(x+4294967296*l)=4294967296 ^ P.length*(d+(c+t)):=by rw[he]
    rw[a8T,a8T,a8T] at h2;rw[mM,baG,a9C,δ,w];omega
   simp only[go_sem,ZF,g0,g7,β,ex,ZG,SW,g8];by_cases c2:x<c+t
   ·have I:((x:Nat):Int)<((c+t:Nat):Int):=Om;have R:IntKind.u64.wrap ((x:Int)+4294967296)=((x+4294967296:Nat):Int):=by rw[show (x:Int)+4294967296=((x+4294967296:Nat):Int) by omega];exact bK Om
    have M:IntKind.u64.wrap (((x+4294967296:Nat):Int)-((c+t:Nat):Int))=((x+4294967296-(c+t):Nat):Int):=by rw[show ((x+4294967296:Nat):Int)-((c+t:Nat):Int)=((x+4294967296-(c+t):Nat):Int) by omega];exact bK Om
    have N:IntKind.u32.wrap ((x+4294967296-(c+t):Nat):Int)=((x+4294967296-(c+t):Nat):Int):=by rw[dE,a9V Om]
    have O:(1:Nat)*1≤16777216:=by decide
    simp only[go_sem,I,SX,R,SY,EJ,g5,g8,M,N,O];refine kR (src:=[[.int .u32 ((x+4294967296-(c+t):Nat):Int)]]) W rfl (vC Om) fun v' H' u _=>?_;rw[vD] at u;simp only[go_sem,EK,g7,dW (Om:P.length<9223372036854775807)];refine hK _ 1 v' _ H' (by simp) (j.app fun y U=>by simp at U; subst U; omega) (a8J _) ?_ ?_ u
    ·rw[a8H,a8N];exact step _ 1 Om (a8J _) Om
    ·unfold cu;rw[a8H,a8N];exact Lq
   ·have I:¬ ((x:Nat):Int)<((c+t:Nat):Int):=Om;have M:IntKind.u64.wrap (((x:Nat):Int)-((c+t:Nat):Int))=((x-(c+t):Nat):Int):=by rw[show ((x:Nat):Int)-((c+t:Nat):Int)=((x-(c+t):Nat):Int) by omega];exact bK Om
    have N:IntKind.u32.wrap ((x-(c+t):Nat):Int)=((x-(c+t):Nat):Int):=by rw[dE,a9V Om]
    have O:(1:Nat)*1≤16777216:=by decide
    simp only[go_sem,I,EJ,g5,g8,M,N,O];refine kR (src:=[[.int .u32 ((x-(c+t):Nat):Int)]]) W rfl (vC Om) fun v' H' u _=>?_;rw[vD] at u;simp only[go_sem,EK,g7,dW (Om:P.length<9223372036854775807)];refine hK _ 0 v' _ H' (by simp) (j.app fun y U=>by simp at U; subst U; omega) (by decide) ?_ ?_ u
    ·rw[a8H,a8N];exact step _ 0 Om (by decide) Om
    ·unfold cu;rw[a8H,a8N];exact Lq
  simp only[aC.wp,go_sem] at fin;simp only[go_sem,F,Mb,Mc];by_cases Y:P.length<b.length
  ·have J:(P.length:Int)<(b.length:Nat):=Om;have γ:=hb _ (a8G Y);have w:=cY b Y;have eb:IntKind.u64.wrap ((b[P.length]:Nat):Int)=((b[P.length]:Nat):Int):=bK Om;have es:IntKind.u64.wrap ((c:Int)+(b[P.length]:Int))=((c+b[P.length]:Nat):Int):=gZ Om;simp only[go_sem,J,Md,cF b Y,eb,es];refine fin b[P.length] _ γ w rfl rfl rfl rfl rfl _ ?_;intro A l v' V H2 R M N S Z e6;rw[← R] at S;exact aG (α:=List Nat × Nat × PV × PH) (A,l,v',H2) ⟨by simp only; omega,M,N,S,e6⟩ (by simp only; omega) Z b_
  ·have J:¬ (P.length:Int)<(b.length:Nat):=Om;have w:val (b.take (P.length+1))=val (b.take P.length)+4294967296 ^ P.length*0:=by rw[a8V Om,a8V Om]; simp
   simp only[go_sem,J];refine fin 0 _ (by decide) w rfl rfl rfl rfl rfl _ ?_;intro A l v' V H2 R M N S Z e6;rw[← R] at S;exact aG (α:=List Nat × Nat × PV × PH) (A,l,v',H2) ⟨by simp only; omega,M,N,S,e6⟩ (by simp only; omega) Z b_
 ·have e:P.length=a.length:=Om;have F:¬ (P.length:Int)<(a.length:Nat):=Om;have hV:val P=val a-val b:=by
   rw[e,a9M,a8V hl] at B;have hlt:=gY j;rw[e] at hlt;rcases baN c with h | h
   ·subst h; omega
   ·have:c=1:=Om;subst this; omega
  simp only[go_sem,F,yn];have hs:=L.trim _ j Om;rw[hV] at hs;refine zP hs W rfl fun F1 H1 _=>?_;simp only[go_sem];exact bA (.inr rfl) .nil rfl a_ ⟨.refl _,rfl⟩
def xF (a b:List Nat) (o i:Nat):PF:=((((PF.nil.set 0 (aK a)).set 1 (aK b)).set 5 (.osl o 1 0 (a.length+b.length))).set 6 (.int .i64 i))
def utG (a b:List Nat) (o i c j:Nat):PF:=((((((PF.nil.set 0 (aK a)).set 1 (aK b)).set 5 (.osl o 1 0 (a.length+b.length))).set 6 (.int .i64 i)).set 7 (.int .u64 c)).set 8 (.int .i64 j))
theorem aEF {C:Ctx} (a b:List Nat) (ha:Lim a) (hb:Lim b) (h1:a.length≤35184372087808) (h2:b.length≤35184372087808) (L:List Nat) (i:Nat) (hi:i<a.length) (O:MO a b L i) (q:Nat) (K:cI) (F:PF) (H:PH) (N:(xF a b q i).le F) (hH:H q=some (.rows 1 (aN L)))
  (hK:∀ L' F' H',MO a b L' (i+1)→(xF a b q i).le F'→H' q=some (.rows 1 (aN L'))→K .normal F' H') :
  aC.wp C (.block 1 (.seq (.region ZN) (.seq (.seq (.region ZO) (.block 2 (.loop TC))) (.region TD)))) K F H:=by
 have f0:=N 0 _ (by unfold xF; simp only[go_sem]; rfl);have f1:=N 1 _ (by unfold xF; simp only[go_sem]; rfl);have f5:=N 5 _ (by unfold xF; simp only[go_sem]; rfl);have f6:=N 6 _ (by unfold xF; simp only[go_sem]; rfl);have hx:=ha _ (a8G hi);have β:=cY a hi;generalize δ:a[i]=x at *
 have X:(aN a)[i]?=some [.int .u32 ((x:Nat):Int)]:=by rw[cF a hi,δ]
 simp only[go_sem,ZN,ZO];refine wp_loop (α:=List Nat × Nat × Nat) (fun t=>utG a b q i t.2.1 t.2.2) (fun t=>PH.nil.set q (.rows 1 (aN t.1)))
  (fun t=>t.2.2≤b.length∧t.1.length=a.length+b.length∧Lim t.1∧t.2.1<4294967296∧val t.1+4294967296 ^ (i+t.2.2)*t.2.1=val (a.take i)*val b+4294967296 ^ i*(x*val (b.take t.2.2))∧∀ j y,i+b.length≤j→t.1[j]?=some y→y=0) (fun t=>b.length-t.2.2) (L,0,0)
  ⟨by simp,O.len,O.lim,by simp,by simp[val,O.v],O.z⟩ ?_ (e_ a_ hH) ?_
 ·unfold utG;exact Lq
 rintro⟨M,c,j⟩ ⟨hj,W,l,Z,A,S⟩;simp only at hj W l Z A S;simp only[go_sem,TC,Mk,utG];by_cases U:j<b.length
 ·have B:(j:Int)<(b.length:Nat):=Om;have R:=hb _ (a8G U);have γ:=cY b U;generalize ε:b[j]=y at *
  have Y:(aN b)[j]?=some [.int .u32 ((y:Nat):Int)]:=by rw[cF b U,ε]
  have e:i+j<M.length:=Om;have J:=l _ (a8G e);have w:=NP e;generalize ζ:M[i+j]=z at *
  have I:(aN M)[i+j]?=some [.int .u32 ((z:Nat):Int)]:=by rw[cF M e,ζ]
  have ex:IntKind.u64.wrap ((x:Nat):Int)=((x:Nat):Int):=bK Om;have ey:IntKind.u64.wrap ((y:Nat):Int)=((y:Nat):Int):=bK Om;have ez:IntKind.u64.wrap ((z:Nat):Int)=((z:Nat):Int):=bK Om;have em:=aqG hx R;have θ:x*y≤4294967295*4294967295:=bbT Om Om;have e1:IntKind.u64.wrap (((x*y:Nat):Int)+(z:Int))=((x*y+z:Nat):Int):=gZ Om;have e2:IntKind.u64.wrap (((x*y+z:Nat):Int)+(c:Int))=((x*y+z+c:Nat):Int):=gZ Om;have E:IntKind.i64.wrap ((i:Int)+(j:Int))=((i+j:Nat):Int):=jZ Om;have hlt:((i+j:Nat):Int)<((a.length+b.length:Nat):Int):=Om;generalize ht:x*y+z+c=t at *
  have η:t<4294967296*4294967296:=Om;have u:(aN M).set (i+j) [.int .u32 ((t%4294967296:Nat):Int)]=aN (M.set (i+j) (t%4294967296)):=jB M (i+j) _;simp only[go_sem,B];refine aV .nil cA a_ ?_;simp only[go_sem,Ml,X,Y,ex,ey,em,E,hlt,I,ez,e1,e2,Mm,dE,u,Mn,EG,yq,wZz j];refine aG (M.set (i+j) (t%4294967296),t/4294967296,j+1) ⟨by simp only; omega,by simp only[a9X]; exact W,l.set _ (baC _ (by decide)),by simp only; omega,?_,Ab S _ _ Om⟩ (by simp only; omega) ?_ (e_ a_ Sq)
  ·simp only;have V:=w (t%4294967296);have h4:4294967296 ^ (i+(j+1))*(t/4294967296)+4294967296 ^ (i+j)*(t%4294967296)=4294967296 ^ (i+j)*t:=by rw[← baY,baG,a9C,← a8T,bbX]
   have h5:4294967296 ^ (i+j)*t=4294967296 ^ (i+j)*(x*y)+4294967296 ^ (i+j)*z+4294967296 ^ (i+j)*c:=by rw[← ht,a8T,a8T]
   have h6:4294967296 ^ i*(x*val (b.take (j+1)))=4294967296 ^ i*(x*val (b.take j))+4294967296 ^ (i+j)*(x*y):=by rw[γ,a8T,a8T,Nat.pow_add];congr 1;rw[Nat.mul_left_comm x,a9C]
   omega
  ·exact Lq
 ·have he:j=b.length:=Om;have B:¬ (j:Int)<(b.length:Nat):=Om;subst he;have e:i+b.length<M.length:=Om;have J:M[i+b.length]=0:=S _ _ (a8J _) (a8L e);have w:=NP e;have I:(aN M)[i+b.length]?=some [.int .u32 ((0:Nat):Int)]:=by rw[cF M e,J]
  have E:IntKind.i64.wrap ((i:Int)+(b.length:Int))=((i+b.length:Nat):Int):=jZ Om;have hlt:((i+b.length:Nat):Int)<((a.length+b.length:Nat):Int):=Om;have u:(aN M).set (i+b.length) [.int .u32 ((c%4294967296:Nat):Int)]=aN (M.set (i+b.length) c):=by rw[a9V Z]; exact jB M _ _
  simp only[go_sem,B,TD,E,dE,hlt,I,u];refine hK (M.set (i+b.length) c) _ _ ⟨by rw[a9X]; exact W,l.set _ Z,?_,fun j y hj R=>?_⟩ (by unfold xF; exact Lq) Sq
  ·have V:=w c;rw[J,Nat.mul_zero,a9P] at V;rw[V,A,a9M,β,a9O,a9C]
  ·rw[List.getElem?_set_ne Om] at R;exact S j y Om R
theorem aKG {C:Ctx} (L:uN C) (a b:List Nat) (O:Lim a) (hb:Lim b) (V:a.length≤8388608) (W:b.length≤8388608) :
  LS.wp C (aT afJ.res (cP (aK (aJ (val a*val b))))) (PF.args [aK a,aK b]) .nil:=by
 have w:IntKind.i64.wrap ((a.length:Int)+(b.length:Int))=((a.length+b.length:Nat):Int):=jZ Om;have E:((a.length+b.length:Nat):Int)*((4:Nat):Int)≤140737488355328:=Om;have F:((a.length+b.length:Nat):Int)≤9223372036854775807:=Om;have R:a8F (a.length+b.length) [PV.int .u32 0]=aN (a8F (a.length+b.length) 0):=by simp[aN]
 simp only[go_sem,LS,Mg,Mh,afJ,a8E,w,E,F,R];refine aO fun o X=>?_;simp only[go_sem,Mi];refine wp_loop (α:=List Nat × Nat) (fun t=>xF a b o t.2) (fun t=>PH.nil.set o (.rows 1 (aN t.1))) (fun t=>t.2≤a.length∧MO a b t.1 t.2) (fun t=>a.length-t.2) (a8F (a.length+b.length) 0,0)
  ⟨by simp,by simp,BW _,by simp[val,xW],fun j x _ J=>by rw[bcC] at J; split at J<;>simp_all⟩ ?_ (e_ a_ Sq) ?_
 ·unfold xF;exact Lq
 rintro⟨M,i⟩ ⟨hi,l⟩;simp only at hi l;simp only[go_sem,yo,Mj,xF];by_cases K:i<a.length
 ·have u:(i:Int)<(a.length:Nat):=Om;have y:=aEF (C:=C) a b O hb Om Om M i K l o;simp only[go_sem] at y;simp only[go_sem,u];refine y _ _ _ (by unfold xF; exact Lq) Sq ?_;intro L' S H' B e A;have N:=e 6 _ (by unfold xF; simp only[go_sem]; rfl);have g0:=e 0 _ (by unfold xF; simp only[go_sem]; rfl);have g1:=e 1 _ (by unfold xF; simp only[go_sem]; rfl);have U:=e 5 _ (by unfold xF; simp only[go_sem]; rfl);simp only[go_sem,yr,N,wZz i];refine aG (L',i+1) ⟨by simp only; omega,B⟩ (by simp only; omega) ?_ (e_ a_ A);exact Lq
 ·have he:i=a.length:=Om;subst he;have u:¬ (a.length:Int)<(a.length:Nat):=Om;have hV:val M=val a*val b:=by rw[l.v,a9M]
  simp only[go_sem,yu];have I:=L.trim _ l.lim (by rw[l.len]; omega);rw[hV] at I;refine vM (o:=o) (s:=1) (k:=a.length+b.length) (rs:=aN M) (v:=aK (aJ (val a*val b))) ?_ rfl Sq (by rw[cV,l.len]; exact a8J _) ?_
  ·rw[a8V (by rw[cV,l.len]; exact a8J _)]; exact I
  ·simp only[go_sem];exact bA (.inr rfl) .nil rfl a_ ⟨.refl _,rfl⟩
structure Py (C:Ctx):Prop extends Pw C where
 minus:∀ a b,Lim a→Lim b→val b≤val a→b.length≤a.length→a.length≤35184372087808→aH C 42 [aK a,aK b] .nil (aI (aK (aJ (val a-val b))))
 times:∀ a b,Lim a→Lim b→a.length≤8388608→b.length≤8388608→aH C 44 [aK a,aK b] .nil (aI (aK (aJ (val a*val b))))
theorem aWM {C:Ctx} (L:Py C) (a b:List Nat) (u:Lim a) (hb:Lim b) (y:a.length≤35184372087808) (A:b.length≤35184372087808) :
  ZH.wp C (aT aQO.res (cP (opV (fD (val a) (val b)) (val a*val b)))) (PF.args [aK a,aK b]) .nil:=by
 unfold opV;simp only[go_sem,ZH,awS,awT,aQO];refine aB (L.large a u y) rfl ?_;by_cases j:nl (val a)>512
 ·simp only[go_sem,j,Dw];rw[if_pos (by simp[fD,j])];exact gG rfl
 simp only[go_sem,j];refine aB (L.large b hb A) rfl ?_;by_cases l:nl (val b)>512
 ·simp only[go_sem,l,Dw];rw[if_pos (by simp[fD,l])];exact gG rfl
 rw[if_neg (by simp[fD,j,l])];simp only[go_sem,l,awU];refine aB (L.trim a u y) rfl ?_;simp only[go_sem];refine aB (L.trim b hb A) rfl ?_;simp only[go_sem];have x:=L.times (aJ (val a)) (aJ (val b)) (aX _) (aX _) (by rw[bC]; omega) (by rw[bC]; omega);rw[aU,aU] at x;refine aB x rfl ?_;have B:=pT (a:=val a) (b:=val b) (m:=512) (n:=512) Om Om;have w:=L.large (aJ (val a*val b)) (aX _) (by rw[bC]; omega);rw[aU] at w;simp only[go_sem,awV];refine aB w rfl ?_;unfold szV szL szE;by_cases e:nl (val a*val b)>512
 ·rw[if_pos e,if_pos e];simp only[go_sem,e,awW];exact gG rfl
 ·rw[if_neg e,if_neg e];simp only[go_sem,e,awX];exact bA (.inr rfl) .nil rfl a_ ⟨.refl _,rfl⟩
def DB (a:List Nat) (i:Nat):Nat:=a.getD i 0
theorem Qj {a:List Nat} (h:Lim a) (i:Nat):DB a i<4294967296:=by
 unfold DB;rw[a8M];rcases a8Z i a.length with h1 | h1
 ·rw[a8L h1]; exact h _ (a8G h1)
 ·rw[a9S h1]; decide
theorem i0 {a:List Nat} {i:Nat} (h:i<a.length):DB a i=a[i]:=by simp[DB,a8M,h]
theorem VN {a:List Nat} {i:Nat} (h:¬ i<a.length):DB a i=0:=by simp[DB,a8M,h]
theorem ZP (a:List Nat) (i:Nat):val (a.take (i+1))=val (a.take i)+4294967296 ^ i*DB a i:=by
 rcases a8Z i a.length with h | h
 ·rw[i0 h]; exact cY a h
 ·rw[VN Om,a8V Om,a8V Om]; simp
def zK (a b:List Nat) (v:PV) (c i:Nat):PF:=(((((PF.nil.set 0 (aK a)).set 1 (aK b)).set 5 (v)).set 6 (.int .u64 c)).set 7 (.int .i64 i))
theorem aQT {C:Ctx} (L:uN C) (a b:List Nat) (ha:Lim a) (hb:Lim b) (h1:a.length≤8388608) (h2:b.length≤8388608) :
  SZ.wp C (aT aEE.res (cP (aK (aJ (val a+val b))))) (PF.args [aK a,aK b]) .nil:=by
 simp only[go_sem,SZ,afD,afE,afF,afG,aEE];refine wp_loop (α:=List Nat × Nat × PV × PH) (fun s=>zK a b s.2.2.1 s.2.1 s.1.length) (fun s=>s.2.2.2)
  (fun s=>s.1.length≤max a.length b.length+1∧(s.1.length≤max a.length b.length∨s.2.1=0)∧Lim s.1∧s.2.1≤1∧val s.1+4294967296 ^ s.1.length*s.2.1=val (a.take s.1.length)+val (b.take s.1.length)∧cR s.2.2.2 1 s.2.2.1 (aN s.1)) (fun s=>max a.length b.length+1-s.1.length) ([],0,.aD,.nil)
  ⟨by simp,by simp,by simp[Lim],by simp,by simp[val],.nil⟩ ?_ a_ ?_
 ·unfold zK;exact Lq
 rintro⟨P,c,v,H0⟩ ⟨hP,η,u,hc,J,hO⟩;simp only at hP η u hc J hO ⊢;have ν:=Qj ha P.length;have ξ:=Qj hb P.length;have κ:=ZP a P.length;have μ:=ZP b P.length;generalize hx:DB a P.length=x at *
 generalize hy:DB b P.length=y at *
 have ex:IntKind.u64.wrap ((x:Nat):Int)=((x:Nat):Int):=bK Om;have ey:IntKind.u64.wrap ((y:Nat):Int)=((y:Nat):Int):=bK Om;have R:IntKind.u64.wrap ((c:Int)+(x:Int))=((c+x:Nat):Int):=gZ Om;have S:IntKind.u64.wrap (((c+x:Nat):Int)+(y:Int))=((c+x+y:Nat):Int):=gZ Om;have ι:P.length<a.length→(aN a)[P.length]?=some [.int .u32 ((x:Nat):Int)]:=fun h=>by rw[cF a h,← hx,i0 h]
 have γ:P.length<b.length→(aN b)[P.length]?=some [.int .u32 ((y:Nat):Int)]:=fun h=>by rw[cF b h,← hy,i0 h]
 have δ:¬ P.length<a.length→x=0:=fun h=>by rw[← hx,VN h]
 have U:¬ P.length<b.length→y=0:=fun h=>by rw[← hy,VN h]
 have body:(P.length≤max a.length b.length)→∀ K:cI,(∀ l A v' V H2,l.length=P.length+1→Lim l→A≤1→(P.length+1≤max a.length b.length∨A=0)→val l+4294967296 ^ l.length*A=val (a.take (P.length+1))+val (b.take (P.length+1))→(zK a b v' A l.length).le V→cR H2 1 v' (aN l)→K .normal V H2) →
   ∀ F:PF,(zK a b v c P.length).le F→aC.wp C (.seq (.block 1 (.seq (.region p6) (.seq (.seq (.region p7) (.cond (.tmp 29) (.region p8) .skip)) (.seq (.seq (.region TA) (.cond (.tmp 40) (.region TB) .skip)) (.seq (.region IY) (.region IZ)))))) (.region JA)) K F H0:=by
  intro ο K hK F Z;have g0:F 0=some (aK a):=Z 0 _ (by unfold zK; simp only[go_sem]);have g1:F 1=some (aK b):=Z 1 _ (by unfold zK; simp only[go_sem]);have g5:F 5=some v:=Z 5 _ (by unfold zK; simp only[go_sem]);have g6:F 6=some (.int .u64 c):=Z 6 _ (by unfold zK; simp only[go_sem]);have B:F 7=some (.int .i64 P.length):=Z 7 _ (by unfold zK; simp only[go_sem]);have fin:∀ M:PF,M 0=some (aK a)→M 1=some (aK b)→M 5=some v→M 7=some (.int .i64 P.length)→M 8=some (.int .u64 (c+x+y:Nat)) →
    aC.wp C (.seq (.region IY) (.region IZ)) (fR 1 (jY C (aC.wp C (.region JA)) K)) M H0:=by
   intro M q0 q1 q5 q7 q8;have θ:(1:Nat)*1≤16777216:=by decide
   generalize ht:c+x+y=t at *
   have ρ:t<2*4294967296:=Om;simp only[go_sem,IY,q5,q8,θ,dE];refine kR (src:=[[.int .u32 ((t%4294967296:Nat):Int)]]) hO rfl (vC Om) fun v' H' β _=>?_;rw[vD] at β;simp only[go_sem,IZ,q8,EG,JA,q7,dW (Om:P.length<9223372036854775807)];refine hK (P++[t%4294967296]) (t/4294967296) v' _ H' (by simp) (u.app fun y hy=>by simp at hy; subst hy; omega) Om ?_ ?_ ?_ β
   ·rcases a8Z P.length (max a.length b.length) with h | h
    ·exact .inl h
    ·right;have h1:=δ Om;have h2:=U Om;omega
   ·rw[mM,a8H,a8N,κ,μ,baG,a9C,baY,← a8T];rw[show t%4294967296+4294967296*(t/4294967296)=t from Nat.mod_add_div t 4294967296];have h3:4294967296 ^ P.length*t=4294967296 ^ P.length*c+4294967296 ^ P.length*x+4294967296 ^ P.length*y:=by rw[← ht,a8T,a8T]
    omega
   ·unfold zK;rw[a8H,a8N];exact Lq
  simp only[aC.wp,go_sem] at fin;simp only[go_sem,p6,g6,p7,B,g0];by_cases c1:P.length<a.length
  ·have j:(P.length:Int)<(a.length:Nat):=Om;simp only[go_sem,j,p8,g0,B,ι c1,ex,R,TA,g1];by_cases N:P.length<b.length
   ·have e:(P.length:Int)<(b.length:Nat):=Om;simp only[go_sem,e,TB,g1,B,γ N,ey,S];exact fin _ (by simp only[go_sem,g0]) (by simp only[go_sem,g1]) (by simp only[go_sem,g5]) (by simp only[go_sem,B]) rfl
   ·have e:¬ (P.length:Int)<(b.length:Nat):=Om;have h0:=U N;simp only[go_sem,e];exact fin _ (by simp only[go_sem,g0]) (by simp only[go_sem,g1]) (by simp only[go_sem,g5]) (by simp only[go_sem,B]) (by simp only[go_sem,h0])
  ·have j:¬ (P.length:Int)<(a.length:Nat):=Om;have h0:=δ c1;simp only[go_sem,j,TA,g1,B];by_cases N:P.length<b.length
   ·have e:(P.length:Int)<(b.length:Nat):=Om;have ε:IntKind.u64.wrap ((c:Int)+(y:Int))=((c+x+y:Nat):Int):=by rw[h0]; exact gZ Om
    simp only[go_sem,e,TB,g1,B,γ N,ey,ε];exact fin _ (by simp only[go_sem,g0]) (by simp only[go_sem,g1]) (by simp only[go_sem,g5]) (by simp only[go_sem,B]) rfl
   ·have e:¬ (P.length:Int)<(b.length:Nat):=Om;have ζ:=U N;simp only[go_sem,e];exact fin _ (by simp only[go_sem,g0]) (by simp only[go_sem,g1]) (by simp only[go_sem,g5]) (by simp only[go_sem,B]) (by simp only[go_sem,h0,ζ])
 simp only[aC.wp,go_sem] at body;have w:¬ P.length<a.length→¬ P.length<b.length→c=0→∀ F:PF,F 5=some v→aC.wp C (.seq (.region ZK) .ret) (aT [.tmp 4] (cP (aK (aJ (val a+val b))))) F H0:=by
  intro n1 n2 n3 F f5;have hV:val P=val a+val b:=by rw[n3,a8V Om,a8V Om] at J;omega
  have hs:=L.trim _ u Om;rw[hV] at hs;simp only[go_sem,ZK,f5];refine zP hs hO rfl fun F1 H1 _=>?_;simp only[go_sem];exact bA (.inr rfl) .nil rfl a_ ⟨.refl _,rfl⟩
 simp only[aC.wp,go_sem] at w;simp only[go_sem,Mf,afH,zK];by_cases c1:P.length<a.length
 ·have j:(P.length:Int)<(a.length:Nat):=Om;simp only[go_sem,j];refine body Om _ ?_ _ (by unfold zK; exact Lq);intro l A v' V H2 R S W E I X Y;rw[← R] at I E;exact aG (α:=List Nat × Nat × PV × PH) (l,A,v',H2) ⟨by simp only; omega,E,S,W,I,Y⟩ (by simp only; omega) X b_
 ·have j:¬ (P.length:Int)<(a.length:Nat):=Om;simp only[go_sem,j];by_cases N:P.length<b.length
  ·have e:(P.length:Int)<(b.length:Nat):=Om;simp only[go_sem,e];refine body Om _ ?_ _ (by unfold zK; exact Lq);intro l A v' V H2 R S W E I X Y;rw[← R] at I E;exact aG (α:=List Nat × Nat × PV × PH) (l,A,v',H2) ⟨by simp only; omega,E,S,W,I,Y⟩ (by simp only; omega) X b_
  ·have e:¬ (P.length:Int)<(b.length:Nat):=Om;simp only[go_sem,e];by_cases c3:c=0
   ·have O:¬ (c:Int)>0:=Om;simp only[go_sem,O];exact w c1 N c3 _ rfl
   ·have O:(c:Int)>0:=Om;simp only[go_sem,O];refine body Om _ ?_ _ (by unfold zK; exact Lq);intro l A v' V H2 R S W E I X Y;rw[← R] at I E;exact aG (α:=List Nat × Nat × PV × PH) (l,A,v',H2) ⟨by simp only; omega,E,S,W,I,Y⟩ (by simp only; omega) X b_
structure rc (C:Ctx):Prop extends Py C where
 plus:∀ a b,Lim a→Lim b→a.length≤8388608→b.length≤8388608→aH C 43 [aK a,aK b] .nil (aI (aK (aJ (val a+val b))))
theorem aWI {C:Ctx} (L:rc C) (a b:List Nat) (u:Lim a) (hb:Lim b) (y:a.length≤35184372087808) (A:b.length≤35184372087808) :
  YZ.wp C (aT aQG.res (cP (opV (fD (val a) (val b)) (val a+val b)))) (PF.args [aK a,aK b]) .nil:=by
 unfold opV;simp only[go_sem,YZ,avK,avL,aQG];refine aB (L.large a u y) rfl ?_;by_cases j:nl (val a)>512
 ·simp only[go_sem,j,Ds];rw[if_pos (by simp[fD,j])];exact gG rfl
 simp only[go_sem,j];refine aB (L.large b hb A) rfl ?_;by_cases l:nl (val b)>512
 ·simp only[go_sem,l,Ds];rw[if_pos (by simp[fD,l])];exact gG rfl
 rw[if_neg (by simp[fD,j,l])];simp only[go_sem,l,avM];refine aB (L.trim a u y) rfl ?_;simp only[go_sem];refine aB (L.trim b hb A) rfl ?_;simp only[go_sem];have x:=L.plus (aJ (val a)) (aJ (val b)) (aX _) (aX _) (by rw[bC]; omega) (by rw[bC]; omega);rw[aU,aU] at x;refine aB x rfl ?_;have B:=Yo (a:=val a) (b:=val b) (m:=512) Om Om;have w:=L.large (aJ (val a+val b)) (aX _) (by rw[bC]; omega);rw[aU] at w;simp only[go_sem,avN];refine aB w rfl ?_;unfold szV szL szE;by_cases e:nl (val a+val b)>512
 ·rw[if_pos e,if_pos e];simp only[go_sem,e,avO];exact gG rfl
 ·rw[if_neg e,if_neg e];simp only[go_sem,e,avP];exact bA (.inr rfl) .nil rfl a_ ⟨.refl _,rfl⟩
theorem aWP {C:Ctx} (L:rc C) (a b:List Nat) (u:Lim a) (hb:Lim b) (w:a.length≤35184372087808) (x:b.length≤35184372087808) :
  ZM.wp C (aT aQV.res (cP (xE (val a) (val b)))) (PF.args [aK a,aK b]) .nil:=by
 unfold xE;simp only[go_sem,ZM,awZ,axA,aQV];refine aB (L.large a u w) rfl ?_;by_cases e:nl (val a)>512
 ·simp only[go_sem,e,Dx];rw[if_pos (by simp[fD,e])];exact gG rfl
 simp only[go_sem,e];refine aB (L.large b hb x) rfl ?_;by_cases j:nl (val b)>512
 ·simp only[go_sem,j,Dx];rw[if_pos (by simp[fD,j])];exact gG rfl
 rw[if_neg (by simp[fD,e,j])];simp only[go_sem,j,axB];refine aB (L.cmp a b u hb w x) rfl ?_;by_cases l:val a<val b
 ·have:eQ (val a) (val b)=-1:=by simp[eQ,l]
  rw[if_pos l];simp only[go_sem,this,show ((-1:Int)<0) by decide,axC];exact gG rfl
 ·have:¬ eQ (val a) (val b)<0:=by unfold eQ;rw[if_neg l];split<;>decide
  rw[if_neg l];have B:=jK (Nat.sub_le (val a) (val b));have A:=jK (Om:val b≤val a);simp only[go_sem,this,axD];refine aB (L.trim a u w) rfl ?_;simp only[go_sem];refine aB (L.trim b hb x) rfl ?_;simp only[go_sem];have y:=L.minus (aJ (val a)) (aJ (val b)) (aX _) (aX _) (by rw[aU,aU]; omega) (by rw[bC,bC]; exact A) (by rw[bC]; omega);rw[aU,aU] at y;refine aB y rfl ?_;rw[HG Om];simp only[go_sem];exact bA (.inr rfl) .nil rfl a_ ⟨.refl _,rfl⟩
def adW (k:Nat) (v:Nat):PF:=((PF.nil.set 3 (.int .i64 k)).set 4 (.int .u32 v))
theorem aQH {C:Ctx} (L:uN C) (xs:List Nat) (K:Lim xs) (U:xs.length≤35184372087808) :
  SP.wp C (aT aDW.res (aI (.int .i64 (dJ (val xs):Nat)))) (PF.args [aK xs]) .nil:=by
 simp only[go_sem,SP,adY,adZ,aDW];refine aB (L.trim xs K U) rfl ?_;have V:=jA K;simp only[go_sem,aeA,a8E,bC,IX];by_cases y:nl (val xs)=0
 ·simp only[go_sem,decide_eq_true y,aeB];refine aR (.inr rfl) rfl ?_;have:val xs=0:=kX.1 y;simp[cB,this,mS]
 obtain⟨n,R⟩:∃ n,nl (val xs)=n+1:=⟨nl (val xs)-1,by omega⟩;obtain⟨t,x,B⟩:=adI (xs:=aJ (val xs)) (aX _) (by rw[aU]; exact R);have u:t<4294967296:=aX _ t (baA x);have S:val xs=val ((aJ (val xs)).take n)+4294967296 ^ n*t:=by
  have:=aU (val xs);have e:n<(aJ (val xs)).length:=by rw[bC]; omega
  have O:(aJ (val xs))[n]=t:=by rw[a8L e] at x; exact baP.inj x
  conv=>lhs; rw[← this,← a8V (l:=aJ (val xs)) (i:=n+1) (by rw[bC]; omega)]
  rw[cY _ e,O]
 have hb:dJ (val xs)=32*n+dJ t:=by have I:=gY ((aX (val xs)).take n);rw[a8W,bC,baO Om] at I;have w:=P9 (lo:=val ((aJ (val xs)).take n)) (k:=32*n) (hi:=t) (by rw[Nat.pow_mul]; exact I) B;rw[← w,Nat.pow_mul];exact congrArg dJ S
 have j:(aN (aJ (val xs)))[n]?=some [.int .u32 (t:Nat)]:=by simp[aN,x]
 have M:IntKind.i64.wrap (((nl (val xs):Nat):Int)-1)=(n:Int):=by rw[wrap_i64 Om Om]; omega
 have N:IntKind.i64.wrap (32*(n:Int))=((32*n:Nat):Int):=by rw[wrap_i64 Om Om]; omega
 simp only[go_sem,decide_eq_false y,aeC,aeD,a8E,bC,M,N,j];refine wp_loop (α:=Nat × Nat) (fun a=>adW a.1 a.2) (fun _=>.nil) (fun a=>a.1+dJ a.2=32*n+dJ t∧a.2<4294967296) (fun a=>a.2) (32*n,t) ⟨rfl,u⟩ ?_ a_ ?_
 ·unfold adW;exact Lq
 rintro⟨k,v⟩ ⟨w,hlt⟩;simp only at w hlt;have J:dJ t≤32:=(qC t 32).2 u;simp only[go_sem,adX,aeE,adW];by_cases F:(v:Int)>0
 ·have E:v≠0:=Om;have A:IntKind.u32.wrap (Int.tdiv (v:Int) 2)=((v/2:Nat):Int):=by rw[show Int.tdiv (v:Int) 2=((v/2:Nat):Int) from Int.ofNat_tdiv v 2,dE,a9V Om]
  simp only[go_sem,F,aeF,aeG,A,wZz k];refine aG (k+1,v/2) ⟨?_,?_⟩ (Nat.div_lt_self Om (by decide)) ?_ a_
  ·have:=tR E;simp only; omega
  ·simp only; omega
  ·exact Lq
 ·have:v=0:=Om;subst this;simp only[go_sem,F,Lx];refine aR (.inr rfl) rfl ?_;rw[mS] at w;simp only[cB,PV.int.injEq,true_and];omega
theorem Ki (n:Nat):4294967296 ^ (n/32)*2 ^ (n%32)=2 ^ n:=by
 rw[show (4294967296:Nat)=2 ^ 32 by decide,← Nat.pow_mul,← Nat.pow_add];congr 1;omega
theorem aJZ (n:Nat):IntKind.i64.wrap (Int.tdiv (n:Int) 32)=IntKind.i64.wrap ((n/32:Nat):Int):=by
 rw[show Int.tdiv (n:Int) 32=((n/32:Nat):Int) from Int.ofNat_tdiv n 32]
theorem aKA (n:Nat):Int.tmod (n:Int) 32=((n%32:Nat):Int):=Int.ofNat_tmod n 32
def aQX (a:List Nat) (n:Nat) (v:PV) (c i:Nat):PF:=(((((PF.nil.set 0 (aK a)).set 1 (.int .i64 n)).set 5 (v)).set 6 (.int .u64 c)).set 7 (.int .i64 i))
theorem aYY {C:Ctx} (L:uN C) (a:List Nat) (n:Nat) (ha:Lim a) (h1:a.length≤8388608) (hn:n≤8388608) (h0:a.length=0→val a=0) :
  qa.wp C (aT uup.res (rF 1 (aN (aJ (val a*2 ^ n))))) (PF.args [aK a,.int .i64 n]) .nil:=by
 simp only[go_sem,qa,aKH,aKI,uup,a8E,IX];by_cases F:a.length=0
 ·simp only[go_sem,decide_eq_true F,aKJ];rw[h0 F,Nat.zero_mul,jD];exact NJ (.inr rfl) rfl
 have ez:IntKind.i64.wrap (Int.tdiv (n:Int) 32)=((n/32:Nat):Int):=by rw[aJZ,qb Om]
 have em:=aKA n;have eu:IntKind.u64.wrap ((n%32:Nat):Int)=((n%32:Nat):Int):=bK Om;have W:=Ki n;have V:n%32<32:=baC _ (by decide);have hz:n/32≤8388608:=Om;generalize ζ:n/32=z at *
 generalize δ:n%32=s at *
 have S:((z:Nat):Int)*((4:Nat):Int)≤140737488355328:=Om;have U:((z:Nat):Int)≤9223372036854775807:=Om;have Y:a8F z [PV.int .u32 0]=aN (a8F z 0):=by simp[aN]
 have M:2 ^ s≤2147483648:=Nat.pow_le_pow_right (show 0<2 by decide) (Om:s≤31);have B:0<2 ^ s:=bbD (by decide);simp only[go_sem,decide_eq_false F,aKK,ez,S,U,Y];refine aO fun o ho=>?_;simp only[go_sem,aKL,aKM];refine wp_loop (α:=List Nat × Nat × Nat × PV × PH) (fun t=>aQX a n t.2.2.2.1 t.2.1 t.2.2.1) (fun t=>t.2.2.2.2)
  (fun t=>t.2.2.1≤a.length∧t.1.length=z+t.2.2.1∧Lim t.1∧t.2.1<2 ^ s∧val t.1+4294967296 ^ t.1.length*t.2.1=val (a.take t.2.2.1)*2 ^ n∧cR t.2.2.2.2 1 t.2.2.2.1 (aN t.1)) (fun t=>a.length-t.2.2.1) (a8F z 0,0,0,.osl o 1 0 z,PH.nil.set o (.rows 1 (aN (a8F z 0))))
  ⟨by simp,by simp,BW _,B,by simp[val,xW],.inr ⟨o,aN (a8F z 0),by rw[cV,bbP],by simp only[go_sem],by rw[cV]; exact a8J _,a9M⟩⟩ ?_ b_ ?_
 ·unfold aQX;exact Lq
 rintro⟨P,c,i,v,H0⟩ ⟨hi,Z,j,hc,u,O⟩;simp only at hi Z j hc u O ⊢;simp only[go_sem,axF,aKN,aQX];by_cases I:i<a.length
 ·have w:(i:Int)<(a.length:Nat):=Om;have γ:=ha _ (a8G I);have X:=cY a I;have R:=cF a I;generalize hx:a[i]=x at *
  have ε:x*2 ^ s≤4294967295*2147483648:=bbT Om M;have ex:IntKind.u64.wrap ((x:Nat):Int)=((x:Nat):Int):=bK Om;have β:2 ^ s*x=x*2 ^ s:=a9E _ _;have K:shift .shl .u64 (x:Int) (s:Int)=some (.int .u64 ((2 ^ s*x:Nat):Int)):=SE Om Om;have J:=orI (a:=2 ^ s*x) (b:=c) (n:=c+2 ^ s*x) Om Om (by rw[Nat.or_comm]; exact Zj hc Om) Om;have E:(c+2 ^ s*x)/4294967296<2 ^ s:=by rw[bbM (by decide)];have:2 ^ s*(x+1)≤2 ^ s*4294967296:=baU _ Om;rw[a8T,Nat.mul_one] at this;omega
  have A:(1:Nat)*1≤16777216:=by decide
  simp only[go_sem,w,aKO,R,ex,em,eu,K,J,aKP,dE,A];refine kR (src:=[[.int .u32 (((c+2 ^ s*x)%4294967296:Nat):Int)]]) O rfl (vC Om) fun v' H' l _=>?_;rw[vD] at l;simp only[go_sem,aKQ,EG,axG,wZz i];refine aG (P++[(c+2 ^ s*x)%4294967296],(c+2 ^ s*x)/4294967296,i+1,v',H') ⟨by simp only; omega,by simp; omega,j.app fun y hy=>by simp at hy; subst hy; exact baC _ (by decide),E,?_,l⟩ (by simp only; omega) ?_ b_
  ·simp only;have hp:4294967296 ^ P.length*(2 ^ s*x)=4294967296 ^ i*x*2 ^ n:=by rw[Z,Nat.pow_add,← W];rw[a9C,Nat.mul_left_comm (4294967296 ^ i),← a9C (4294967296 ^ z),a9E (4294967296 ^ z*2 ^ s),a9C,a9E x]
   rw[mM,a8H,a8N,baG,a9C,baY,← a8T,Nat.mod_add_div,X,a8T,a9O,← baY,u,hp]
  ·exact Lq
 ·have e:i=a.length:=Om;subst e;have w:¬ (a.length:Int)<(a.length:Nat):=Om;have A:(1:Nat)*1≤16777216:=by decide
  have hV:val (P++[c])=val a*2 ^ n:=by rw[mM,u,a9M]
  have N:Lim (P++[c]):=j.app fun x hx=>by simp at hx; omega
  have ec:IntKind.u32.wrap ((c:Nat):Int)=((c:Nat):Int):=by rw[dE,a9V Om]
  simp only[go_sem,w,axH,ec,A];refine kR (src:=[[.int .u32 ((c:Nat):Int)]]) O rfl (vC Om) fun v' H' l _=>?_;rw[vD] at l;have V:=L.trimM _ N (by simp; omega);rw[hV] at V;refine Oz V l rfl fun F1 H1 _ r H2 hr _=>?_;simp only[go_sem];exact aJK (.inr rfl) hr rfl
def ZC (a:List Nat) (n:Nat) (v:PV) (i:Nat):PF:=((((PF.nil.set 0 (aK a)).set 1 (.int .i64 n)).set 5 (v)).set 6 (.int .i64 i))
theorem aQL {C:Ctx} (L:uN C) (a:List Nat) (n:Nat) (M:Lim a) (h1:a.length≤8388608) (hn:n≤1000000000) :
  SU.wp C (aT aEA.res (cP (aK (aJ (val a/2 ^ n))))) (PF.args [aK a,.int .i64 n]) .nil:=by
 have ez:IntKind.i64.wrap (Int.tdiv (n:Int) 32)=((n/32:Nat):Int):=by rw[aJZ,qb Om]
 have em:=aKA n;have eu:IntKind.u64.wrap ((n%32:Nat):Int)=((n%32:Nat):Int):=bK Om;have O:=Ki n;have U:n%32<32:=baC _ (by decide);have hz:n/32≤1000000000:=Om;generalize κ:n/32=z at *
 generalize ι:n%32=s at *
 simp only[go_sem,SU,aeN,aeO,aEA,a8E,ez];by_cases c0:a.length≤z
 ·have u:((z:Nat):Int)≥(a.length:Nat):=Om;have hq:val a/2 ^ n=0:=by refine bbL (bcE (gY M) ?_);rw[← O];exact baK (Nat.pow_le_pow_right (by decide) c0) (Nat.le_mul_of_pos_right _ (bbD (by decide)))
  simp only[go_sem,u,aeP];rw[hq,jD];exact bA (vs:=[.aD]) (.inr rfl) .nil rfl a_ ⟨.nil 1,rfl⟩
 have u:¬ ((z:Nat):Int)≥(a.length:Nat):=Om;have hR:val a/2 ^ n=val (a.drop z)/2 ^ s:=by rw[AR M Om,← O,Nat.div_div_eq_div_mul]
 have I:Lim (a.drop z):=M.drop z;simp only[go_sem,u,aeQ,aeR,ez];refine wp_loop (α:=List Nat × PV × PH) (fun t=>ZC a n t.2.1 (z+t.1.length)) (fun t=>t.2.2)
  (fun t=>z+t.1.length≤a.length∧t.1=fB t.1.length (val (a.drop z)/2 ^ s)∧cR t.2.2 1 t.2.1 (aN t.1)) (fun t=>a.length-t.1.length) ([],.aD,.nil)
  ⟨by simp; omega,rfl,.nil⟩ ?_ a_ ?_
 ·unfold ZC
  (repeat' (first|exact c_|refine d_ ?_ ?_))<;>first|(simp only[go_sem,baX]<;>rfl)|rfl
 rintro⟨P,v,H0⟩ ⟨hP,hD,hO⟩;simp only at hP hD hO ⊢;simp only[go_sem,Ly,aeS,ZC];have E:Lim P:=by rw[hD]; exact qW _ _
 by_cases V:z+P.length<a.length
 ·have w:((z+P.length:Nat):Int)<(a.length:Nat):=Om;have θ:=M _ (a8G V);have γ:=cF a V;have ε:P.length≤(a.drop z).length:=by rw[a9Z]; omega
  have R:=AR I ε;have j:(a.drop z).drop P.length=a[z+P.length]::a.drop (z+P.length+1):=by rw[List.drop_drop,baR V]
  generalize hx:a[z+P.length]=x at *
  have ex:IntKind.u64.wrap ((x:Nat):Int)=((x:Nat):Int):=bK Om;have δ:(1:Nat)*1≤16777216:=by decide
  have ew:IntKind.i64.wrap (((z+P.length:Nat):Int)+1)=((z+P.length+1:Nat):Int):=dW Om;have fin:∀ (t:Nat) (F:PF),t<18446744073709551616→val (a.drop z)/4294967296 ^ P.length%(4294967296*4294967296)=t→F 0=some (aK a)→F 1=some (.int .i64 n)→F 5=some v→F 6=some (.int .i64 (z+P.length:Nat))→F 7=some (.int .u64 t) →
    ∀ K:cI,(∀ v' S H2,(ZC a n v' (z+(P.length+1))).le S→cR H2 1 v' (aN (P++[t/2 ^ s%4294967296]))→(P++[t/2 ^ s%4294967296])=fB (P.length+1) (val (a.drop z)/2 ^ s)→K .normal S H2) →
    aC.wp C (.region p5) (fR 1 (jY C (aC.wp C (.region ZD)) K)) F H0:=by
   intro t F ht ζ f0 f1 f5 f6 f7 K hK;have B:shift .shr .u64 (t:Int) (s:Int)=some (.int .u64 ((t/2 ^ s:Nat):Int)):=aYW Om;simp only[go_sem,p5,f5,f7,f1,em,eu,B,dE,δ];refine kR (src:=[[.int .u32 ((t/2 ^ s%4294967296:Nat):Int)]]) hO rfl (vC Om) fun v' H' J _=>?_;rw[vD] at J;simp only[go_sem,ZD,f6,ew];refine hK v' _ H' ?_ J ?_
   ·unfold ZC;exact Lq
   ·rw[BR,← hD];congr 2;have e:val (a.drop z)/4294967296 ^ P.length=t%4294967296+4294967296*(t/4294967296+4294967296*(val (a.drop z)/4294967296 ^ P.length/(4294967296*4294967296))):=by have:=Nat.mod_add_div (val (a.drop z)/4294967296 ^ P.length) (4294967296*4294967296);rw[ζ] at this;have h2:=Nat.mod_add_div t 4294967296;rw[a8T,← baY,h2,← a9C];exact this.symm
    have:=gf U e;rw[this];congr 2;have h2:=Nat.mod_add_div t 4294967296;omega
  simp only[aC.wp,go_sem] at fin;simp only[go_sem,w,aeT,γ,ex,aeU,ew];by_cases W:z+P.length+1<a.length
  ·have A:((z+P.length+1:Nat):Int)<(a.length:Nat):=Om;have η:=M _ (a8G W);have N:=cF a W;rw[baR W] at j;generalize hy:a[z+P.length+1]=y at *
   have ey:IntKind.u64.wrap ((y:Nat):Int)=((y:Nat):Int):=bK Om;have B:shift .shl .u64 (y:Int) ((32:Nat):Int)=some (.int .u64 ((2 ^ 32*y:Nat):Int)):=SE (by decide) Om;have β:=orI (a:=x) (b:=2 ^ 32*y) (n:=x+2 ^ 32*y) Om Om (Zj Om Om) Om;simp only[go_sem,A,aeV,ew,N,ey,show shift .shl .u64 (y:Int) 32=_ from B,β];refine fin (x+2 ^ 32*y) _ Om ?_ rfl rfl rfl rfl rfl _ ?_
   ·rw[← R,j];simp only[val];omega
   ·intro v' S H2 X Y Z;refine aG (α:=List Nat × PV × PH) (P++[(x+2 ^ 32*y)/2 ^ s%4294967296],v',H2) ⟨by simp; omega,by simpa using Z,Y⟩ (by simp; omega) ?_ b_;simp only[a8H,a8N];exact X
  ·have A:¬ ((z+P.length+1:Nat):Int)<(a.length:Nat):=Om;rw[bcB (l:=a) (i:=z+P.length+1) Om] at j;simp only[go_sem,A];refine fin x _ Om ?_ rfl rfl rfl rfl rfl _ ?_
   ·rw[← R,j];simp only[val];omega
   ·intro v' S H2 X Y Z;refine aG (α:=List Nat × PV × PH) (P++[x/2 ^ s%4294967296],v',H2) ⟨by simp; omega,by simpa using Z,Y⟩ (by simp; omega) ?_ b_;simp only[a8H,a8N];exact X
 ·have e:z+P.length=a.length:=Om;have w:¬ ((z+P.length:Nat):Int)<(a.length:Nat):=Om;have hV:val P=val (a.drop z)/2 ^ s:=by rw[hD];refine tG (Nat.lt_of_le_of_lt (Nat.div_le_self _ _) ?_);have:=gY I;rw[a9Z] at this;rw[show P.length=a.length-z by omega];exact this
  have U:=L.trim _ E Om;rw[hV,← hR] at U;simp only[go_sem,w,Lz];refine zP U hO rfl fun F1 H1 _=>?_;simp only[go_sem];exact bA (.inr rfl) .nil rfl a_ ⟨.refl _,rfl⟩
end Go.PM
