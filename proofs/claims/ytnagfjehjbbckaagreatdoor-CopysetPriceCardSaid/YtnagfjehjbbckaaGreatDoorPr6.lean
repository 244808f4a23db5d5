/-
  Texts of ours, joined. No condition.
-/
import Derived.Test.YtnagfjehjbbckaaGreatDoorPr1
import Derived.Test.YtnagfjehjbbckaaGreatDoorPr2
import Derived.Test.YtnagfjehjbbckaaGreatDoorPr3
import Derived.Test.YtnagfjehjbbckaaGreatDoorPr4
import Derived.Test.YtnagfjehjbbckaaGreatDoorPr5

set_option linter.unusedSimpArgs false
set_option linter.unusedVariables false
open Nat renaming reduceEqDiff → γ, reduceAdd → δ, reduceSub → ε, reduceMul → ζ, reduceLT → η, reduceLeDiff → θ, reduceBEq → τ
open Int renaming reduceLT → ι, reduceLE → κ, reduceEq → μ, reduceToNat → ν, reduceAdd → ξ, reduceNeg → ο, reduceBEq → ρ, reduceBNe → σ
open List renaming reduceReplicate → υ
open List renaming length_map → aYN, range → aYO, getElem_mem → aYQ, replicate → aYR, length_append → aYU, mem_cons → aYY, getElem?_eq_getElem → aZA, length_singleton → aZB, all_eq_true → aZC, getD_eq_getElem?_getD → aZG, length_take → aZH, not_mem_nil → aZI, take_length → aZK, getElem?_map → aZN, map_append → aZO, mem_map → aZQ, mem_range → aZR, getElem?_eq_some_iff → aZU, take_succ_eq_append_getElem → aZW, append_assoc → a0A, getElem_of_mem → a0C, map_cons → a0D, length_cons → a0F, mem_append → a0G, append_nil → a0M, range' → a0P, mem_singleton → a0Q, Sublist → a0U, getElem?_append_left → a0V, map_nil → a0X, mem_of_getElem? → a1C, set_append_right → a1M, all_append → a1X, ext_getElem → a1Y, range_succ → a1Z, set_cons_zero → a2B, map_congr_left → a2F, nil_append → a2G, mem_of_mem_take → a2M, countP_le_length → a2N, length_filter_le → a2O
open Nat renaming gcd → aYP, zero_le → aYS, le_refl → aYV, mul_add → aZE, lt_or_ge → aZL, zero_add → aZM, le_trans → aZS, mul_le_mul_right → aZY, add_zero → a0S, eq_zero_or_pos → a1B, pow_le_pow_right → a1P, sub_self → a1Q, mul_le_mul → a1U, succ_mul → a1V
open Bool renaming not_true → aYT, false_and → aYW, true_and → aYZ, and_eq_true → aZD, not_false → aZF, and_false → aZV, and_true → a0T, and_self → a0Z, and_assoc → a1R, false_eq_true → a1S
open Option renaming map_some → aZZ, some → a0Y, getD_some → a1L
open Int renaming toNat_natCast → a0J, tdiv → a1A
namespace Go.PM
open Go Go.Na
def yE (n:Nat):List (List PV):=(aYO n).map fun (d:Nat)=>[ints [(d:Int)]]
theorem En (n:Nat):(yE n).length=n:=by unfold yE; simp
theorem qh (n:Nat):yE (n+1)=yE n++[[ints [(n:Int)]]]:=by unfold yE; rw[a1Z,aZO]; rfl
theorem Gx (f:aE):lay (eT f 5)=.sl 1 (yE f.aXC.length):=by
 rw[Gy];unfold yE;show PV.sl 1 (List.map _ (List.map _ _))=_;rw[List.map_map];rfl
theorem Ys (f:aE) (lv:Int):oS f lv 0=aYR (eN f lv f.aXF.length) []:=by
 unfold oS eN;rw[List.countP_eq_length_filter];refine a1Y (by simp[CA]) fun i c d=>?_;simp[nL,bM]
theorem sj (f:aE) (lv:Int) (d:Nat):(oS f lv d).length=(CA f lv).length:=by unfold oS; simp
def unB (f:aE) (lv:Int) (c:Nat) (d:PV) (k:Nat):PF:=(((((((PF.nil.set 1 (.int .i64 lv)).set 2 (.bH f.cells)).set 5 (d)).set 7 (.osl c 1 0 f.aXF.length)).set 33 (.sl 7 (f.aXF.map cE.cells))).set 34 (.int .i64 (f.aXF.length:Nat))).set 35 (.int .i64 k))
def unC (f:aE) (lv:Int) (c:Nat) (e:PV) (d:Nat):PF:=(((((((PF.nil.set 1 (.int .i64 lv)).set 2 (.bH f.cells)).set 5 (e)).set 7 (.osl c 1 0 f.aXF.length)).set 54 (.sl 3 (f.aXC.map dL.cells))).set 55 (.int .i64 (f.aXC.length:Nat))).set 56 (.int .i64 d))
def unE (f:aE) (lv:Int) (c:Nat) (e:PV) (d at_:Nat):PF:=(((((((((PF.nil.set 1 (.int .i64 lv)).set 2 (.bH f.cells)).set 5 (e)).set 7 (.osl c 1 0 f.aXF.length)).set 54 (.sl 3 (f.aXC.map dL.cells))).set 55 (.int .i64 (f.aXC.length:Nat))).set 56 (.int .i64 d)).set 10 (.int .i64 d)).set 12 (.int .i64 at_))
theorem arM {C:Ctx} {K:bT} [Up K] (f:aE) (hV:VF f) (lv:Int) (N:1≤lv) (O:lv≤4) (y:Nat) (B:PV) (d:Nat) (M:d<f.aXC.length) {F:PF} {H:PH}
  (J:(unE f lv y B d (dN f d)).le F) (E:K (.exit 6) (unE f lv y B d (cQ f d lv)) H):aC.wp C (.loop xI) K F H:=by
 refine wp_loop (α:=Nat) (fun j=>unE f lv y B d (upN f j (dN f d))) (fun _=>H) (fun j=>(j:Int)≤4-lv) (fun j=>4-j) 0 Om (by rw[upN]; exact J) b_ ?_;intro j Q;obtain⟨l,A⟩:=HC hV M (k:=j) Om;have p:((upN f j (dN f d):Nat):Int)<(f.aXF.length:Nat):=Om;by_cases c:(j:Int)<4-lv
 ·have i:4-(j:Int)>lv:=Om;have w:0<upN f j (dN f d):=by
   rcases a1B (upN f j (dN f d)) with e | e
   ·rw[e,hV.root.2.1] at A; omega
   ·exact e
  have x:upN f (j+1) (dN f d)=MB f (upN f j (dN f d)):=rfl;have u:=hV.xy w l;simp only[go_sem,xI,IF,unE,p,fM l,tI l,A,i,kk,ou l,u];exact aD (j+1) Om Om (by (repeat' (first|exact c_|refine d_ ?_ ?_))<;>first|(simp only[go_sem,x]<;>rfl)|rfl) b_
 ·have i:¬ 4-(j:Int)>lv:=Om;have e:cQ f d lv=upN f j (dN f d):=by rw[cQ,show 4-lv.toNat=j by omega]
  rw[e] at E;simp only[go_sem,xI,IF,unE,p,fM l,tI l,A,i];refine Up.up ?_ E;unfold unE;exact Lq
theorem arK {C:Ctx} (f:aE) (hV:VF f) (lv:Int) (h1:1≤lv) (h5:lv≤5) :
  DL.wp C (aR Ln.res (cA (lay (eT f lv)))) (PF.args [.agg f.cells,.int .i64 lv]) .nil:=by
 have Z:=hV.small;have hd:=Z.aXC;have μ:=Z.aXF;simp only[go_sem,DL,Ax,Ay,Az,Ln];by_cases c5:lv=5
 ·subst c5;rw[Gx];simp only[go_sem,bN (show (5:Int)=5 from rfl),A0,aYN];refine wp_loop (α:=Nat × PV × PH) (fun s=>(((PF.nil.set 5 (s.2.1)).set 17 (.int .i64 (f.aXC.length:Nat))).set 18 (.int .i64 s.1))) (fun s=>s.2.2) (fun s=>s.1≤f.aXC.length∧bU s.2.2 1 s.2.1 (yE s.1)) (fun s=>f.aXC.length-s.1) (0,.aB,.nil) ⟨aYS _,.nil⟩ Lq b_ ?_;rintro⟨k,v,H⟩ ⟨hk,hO⟩;simp only at hk hO;simp only[go_sem,Aw,A1];by_cases hlt:k<f.aXC.length
  ·have e:(k:Int)<(f.aXC.length:Nat):=Om;simp only[go_sem,e,A2,A3];refine fP (src:=[[ints [(k:Int)]]]) hO (by simp only[go_sem]; rfl) (by unfold roomFor; rw[En]; simp only[aZB,maxLen]; omega) fun v' H' V _=>?_;rw[← qh] at V;simp only[go_sem,A4,wZz k];exact aD (k+1,v',H') ⟨hlt,V⟩ (by simp only; omega) Lq b_
  ·have e:¬ (k:Int)<(f.aXC.length:Nat):=Om;have:k=f.aXC.length:=Om;subst this;simp only[go_sem,e,A5];exact qR (.inr rfl) hO Sq
 have h4:lv≤4:=Om;rw[gb f c5];have δ:(f.aXF.length:Int)*((8:Nat):Int)≤140737488355328:=Om;have ε:(f.aXF.length:Int)≤9223372036854775807:=Om;have ζ:(0:Int)≤(f.aXF.length:Int):=Om;simp only[go_sem,bD c5,j8,aYN,δ,ε,ζ,Int.le_refl,a0J];refine aN fun A hP=>?_;have ez:aYR f.aXF.length [PV.int .i64 0]=aY (fL f lv 0):=by rw[Yd,XL]
 rw[ez];have U:aM (PH.nil.set A (.rows 1 (aY (fL f lv 0)))) [(A,.rows 1 (aY (fL f lv 0)))] (dR .aB []):=((aM.nil (H:=PH.nil)).new hP _).tL;simp only[go_sem,j9,aYN];refine wp_loop (α:=Nat × PV × WPs × PH) (fun s=>unB f lv A s.2.1 s.1) (fun s=>s.2.2.2) (fun s=>s.1≤f.aXF.length∧wls s.2.2.1=aYR (eN f lv s.1) []∧aM s.2.2.2 [(A,.rows 1 (aY (fL f lv s.1)))] (dR s.2.1 s.2.2.1)) (fun s=>f.aXF.length-s.1) (0,.aB,[],_) ⟨aYS _,rfl,U⟩ (by unfold unB; exact Lq) b_ ?_;clear U ez hP;rintro⟨i,vo,ps,H⟩ ⟨hi,l,p⟩;simp only at hi l p;simp only[go_sem,j6,ka,unB];by_cases hlt:i<f.aXF.length
 ·have e:(i:Int)<(f.aXF.length:Nat):=Om;have ι:ps.length=eN f lv i:=by have:=congrArg List.length l;rw[vK,List.length_replicate] at this;exact this
  have Q:=awF f lv i;simp only[go_sem,e,kb,fM hlt];refine aN fun q R=>?_;have E:=p.at 0 rfl;have n1:¬ A=q:=by rintro rfl; rw[E] at R; cases R
  have M:=fun x=>p.new R x;simp only[go_sem,kc,tI hlt];by_cases c:lvl f i=lv
  ·have X:=p.aKJ;have B:=Eb (f:=f) (lv:=lv) (k:=i) hlt;have y:(aY (fL f lv i))[i]?=some [.int .i64 (if i<i∧lvl f i=lv then ((eN f lv i:Nat):Int) else 0)]:=by unfold aY; rw[aZN,B]; rfl
   have θ:i<(aY (fL f lv i)).length:=by rw[dE,aoK]; exact hlt
   have S:(aY (fL f lv i)).set i [.int .i64 (ps.length:Nat)]=aY (fL f lv (i+1)):=by rw[B7,ι,aoJ c]
   have h3:=fun x=>(M x).set 0 rfl (.rows 1 (aY (fL f lv (i+1))));simp only[go_sem,bN c,kd,X,e,n1,E,y,θ,aZM,S,kf];refine (h3 _).aJX Sq (by unfold roomFor; simp only[maxLen]; omega) fun q2 H2 h4=>?_;simp only[go_sem,IE,wZz i];refine aD (i+1,PV.osl q2 1 0 (ps.length+1),ps++[(PV.aB,[])],H2) ⟨hlt,?_,h4.lC 1⟩ (by simp only; omega) Lq b_;simp only;rw[apN c,List.replicate_succ'];unfold wls at l ⊢;rw[aZO,l]; rfl
  ·have S:fL f lv i=fL f lv (i+1):=Yc c;simp only[go_sem,bD c,IE,wZz i];refine aD (i+1,vo,ps,_) ⟨hlt,?_,?_⟩ (by simp only; omega) Lq b_
   ·simp only; rw[Yt c]; exact l
   ·simp only; rw[← S]; exact (M _).lC 1
 have e:¬ (i:Int)<(f.aXF.length:Nat):=Om;have:i=f.aXF.length:=Om;subst this;rw[← Ys] at l;simp only[go_sem,e,kg,aYN];refine wp_loop (α:=Nat × PV × WPs × PH) (fun s=>unC f lv A s.2.1 s.1) (fun s=>s.2.2.2) (fun s=>s.1≤f.aXC.length∧wls s.2.2.1=oS f lv s.1∧aM s.2.2.2 [(A,.rows 1 (aY (fL f lv f.aXF.length)))] (dR s.2.1 s.2.2.1)) (fun s=>f.aXC.length-s.1) (0,vo,ps,H) ⟨aYS _,l,p⟩ (by unfold unC; exact Lq) b_ ?_;clear l p hi hlt e;rintro⟨d,vo,ps,H⟩ ⟨η,l,p⟩;simp only at η l p;simp only[go_sem,j7,kh,unC];by_cases hlt:d<f.aXC.length
 ·have e:(d:Int)<(f.aXC.length:Nat):=Om;simp only[go_sem,e,ki,pS hlt];refine aN fun q R=>?_;have E:=p.at 0 rfl;have n1:¬ A=q:=by rintro rfl; rw[E] at R; cases R
  have M:=fun x=>(p.new R x).lC 1;simp only[go_sem,kj,hV.wx hlt];generalize hx:cF.rows 3 _=x;have M:=M x;have N:=M.at 0 rfl;generalize H.set q x=H1 at *
  have up:=fun {K:bT} [Up K] {F:PF} {H:PH}=>arM (C:=C) (K:=K) f hV lv h1 h4 A vo d hlt (F:=F) (H:=H);refine up (by unfold unE; exact Lq) ?_;obtain⟨a1,a2⟩:=HC hV hlt (k:=4-lv.toNat) Om;have a3:lvl f (cQ f d lv)=lv:=by rw[cQ,a2]; omega
  have a1:cQ f d lv<f.aXF.length:=a1;have γ:((cQ f d lv:Nat):Int)<(f.aXF.length:Nat):=Om;have B:=Eb (f:=f) (lv:=lv) (k:=f.aXF.length) a1;rw[if_pos ⟨a1,a3⟩] at B;have y:(aY (fL f lv f.aXF.length))[cQ f d lv]?=some [.int .i64 (eN f lv (cQ f d lv):Nat)]:=by unfold aY; rw[aZN,B]; rfl
  have J:eN f lv (cQ f d lv)<ps.length:=by have:=(aZU.1 (ahO a1 a3)).1;rw[← vK,l,sj];exact this
  have O:=fun v'=>aFA (ps:=ps) a1 a3 l (aZA J) v';have Q:ps[eN f lv (cQ f d lv)]?=some (ps[eN f lv (cQ f d lv)].1,ps[eN f lv (cQ f d lv)].2):=by rw[aZA J]
  have ν:ps[eN f lv (cQ f d lv)]=(ps[eN f lv (cQ f d lv)].1,ps[eN f lv (cQ f d lv)].2):=rfl;obtain⟨qo,rs,rfl,b1,b2,b3⟩:=M.aOI J;generalize ps[eN f lv (cQ f d lv)].2=w at *
  generalize ps[eN f lv (cQ f d lv)].1=v at *
  generalize eN f lv (cQ f d lv)=u at *
  have β:(u:Int)<(ps.length:Nat):=Om;have ξ:=(O .aB).1;simp only[go_sem,unE];refine bO (PH.nil.set A (.rows 1 (aY (fL f lv f.aXF.length)))) dT (PH.aK a_ N) ?_;simp only[go_sem,kn,γ,N,y,aZM,β,b1,b2,b3];refine M.aRT (src:=[(d:Int)]) Q (by simp only[go_sem]; rfl) (by unfold roomFor; simp only[aZB,maxLen]; omega) (by simp) fun q2 H2 h5=>?_;have Y:=h5.at 0 rfl;refine⟨PH.aK a_ Y,?_⟩;obtain⟨rs2,e1,e2,e3,h6⟩:=h5.aPB;have κ:u<rs2.length:=Om;have W:rs2[u]?=some [v]:=by have:=Sx Q;rw[← e3,List.getElem?_take_of_lt J] at this;exact this
  refine bO .nil dT a_ ?_;simp only[go_sem,ko,e1,κ,W,kp,wZz d];refine⟨a_,?_⟩;refine aD (d+1,PV.osl qo 1 0 ps.length,ps.set u (PV.osl q2 1 0 (w++[(d:Int)]).length,w++[(d:Int)]),H2.set qo (.rows 1 (rs2.set u [.osl q2 1 0 (w++[(d:Int)]).length]))) ⟨hlt,(O _).2,h6⟩ (by simp only; omega) Lq (by simp only; exact b_)
 ·have e:¬ (d:Int)<(f.aXC.length:Nat):=Om;have:d=f.aXC.length:=Om;subst this;simp only[go_sem,e,kr];rw[← l];exact MM (.inr rfl) Sq (p.lC 0)
def Le:List aU:=[
 ⟨(some 2),.box true (.tmp 0),none⟩,
 ⟨(some 3),.box true (.tmp 1),none⟩,
 ⟨(some 4),.mv (.const .aB),none⟩]
def Lf:List aU:=[
 ⟨(some 5),.alloc [.aB],none⟩]
def Lg:List aU:=[
 ⟨(some 7),.aYF 1 (.tmp 3),none⟩,
 ⟨(some 8),.load none (.tmp 7),none⟩,
 ⟨(some 9),.aYF 2 (.tmp 3),none⟩,
 ⟨(some 10),.load none (.tmp 9),none⟩,
 ⟨(some 11),.bin .add (.tmp 8) (.tmp 10),none⟩,
 ⟨(some 12),.aYF 4 (.tmp 2),none⟩,
 ⟨(some 13),.load none (.tmp 12),none⟩,
 ⟨(some 14),.len (.tmp 13),none⟩,
 ⟨(some 15),.call 210 [(.tmp 11),(.tmp 14)],none⟩]
def Lh:List aU:=[
 ⟨(some 6),.mv (.tmp 16),none⟩]
def Li:List aU:=[
 ⟨(some 17),.load (some 7) (.tmp 2),none⟩,
 ⟨(some 18),.load (some 17) (.tmp 3),none⟩,
 ⟨(some 19),.mv (.tmp 6),none⟩,
 ⟨(some 20),.call 201 [(.tmp 17),(.tmp 18),(.tmp 19)],none⟩]
def Lj:List aU:=[
 ⟨(some 21),.load none (.tmp 5),none⟩,
 ⟨(some 22),.mv (.tmp 6),none⟩,
 ⟨(some 23),.aXI true 1 1 [.aB] [(0,(.tmp 22))],none⟩,
 ⟨(some 24),.append 1 24 (.tmp 21) (.tmp 23),none⟩,
 ⟨none,.store 1 (.tmp 5) (.tmp 24),none⟩]
def Lk:List aU:=[
 ⟨(some 25),.load none (.tmp 5),none⟩,
 ⟨(some 4),.mv (.tmp 25),none⟩]
def Au:aC:=(.region Lh)
def Av:aC:=(.block 1 (.seq (.region Li) (.cond (.tmp 20) (.region Lj) .skip)))
def j5:aC:=(.seq (.region Lk) .ret)
def IC (c d:Code):qA:=(.seq (.region Le) (.seq (.region Lf) (.seq (.region Lg) (.range (.tmp 15) 26 16 c d Au Av j5))))
def azH:List Nat:=[2,3,23]
def alG (c d:Code):zV:=⟨2,26,IC c d,[.tmp 4]⟩
def K5:List aU:=[
 ⟨(some 2),.box true (.tmp 0),none⟩,
 ⟨(some 3),.box true (.tmp 1),none⟩,
 ⟨(some 4),.mv (.const .aB),none⟩,
 ⟨(some 5),.mv (.const (.int .i64 0)),none⟩]
def K6:List aU:=[
 ⟨(some 17),.load (some 7) (.tmp 2),none⟩,
 ⟨(some 18),.call 96 [(.tmp 17)],none⟩,
 ⟨(some 19),.bin .neq (.tmp 18) (.const (.int .i64 0)),none⟩,
 ⟨(some 20),.mv (.tmp 19),none⟩,
 ⟨(some 21),.aYF 0 (.tmp 3),(some (20,false))⟩,
 ⟨(some 22),.load none (.tmp 21),(some (20,false))⟩,
 ⟨(some 23),.bin .lss (.tmp 22) (.const (.int .i64 1)),(some (20,false))⟩,
 ⟨(some 24),.pick (.tmp 20) (.const (.bool true)) (.tmp 23),none⟩,
 ⟨(some 25),.mv (.tmp 24),none⟩,
 ⟨(some 26),.aYF 0 (.tmp 3),(some (25,false))⟩,
 ⟨(some 27),.load none (.tmp 26),(some (25,false))⟩,
 ⟨(some 28),.bin .gtr (.tmp 27) (.const (.int .i64 5)),(some (25,false))⟩,
 ⟨(some 29),.pick (.tmp 25) (.const (.bool true)) (.tmp 28),none⟩,
 ⟨(some 30),.mv (.tmp 29),none⟩,
 ⟨(some 31),.aYF 1 (.tmp 3),(some (30,false))⟩,
 ⟨(some 32),.load none (.tmp 31),(some (30,false))⟩,
 ⟨(some 33),.bin .lss (.tmp 32) (.const (.int .i64 1)),(some (30,false))⟩,
 ⟨(some 34),.pick (.tmp 30) (.const (.bool true)) (.tmp 33),none⟩,
 ⟨(some 35),.mv (.tmp 34),none⟩,
 ⟨(some 36),.aYF 1 (.tmp 3),(some (35,false))⟩,
 ⟨(some 37),.load none (.tmp 36),(some (35,false))⟩,
 ⟨(some 38),.bin .gtr (.tmp 37) (.const (.int .i64 3)),(some (35,false))⟩,
 ⟨(some 39),.pick (.tmp 35) (.const (.bool true)) (.tmp 38),none⟩]
def uI:List aU:=[
 ⟨(some 4),.mv (.const .aB),none⟩,
 ⟨(some 5),.mv (.const (.int .i64 1)),none⟩]
def K7:List aU:=[
 ⟨(some 40),.load (some 7) (.tmp 2),none⟩,
 ⟨(some 41),.aYF 0 (.tmp 3),none⟩,
 ⟨(some 42),.load none (.tmp 41),none⟩,
 ⟨(some 43),.call 206 [(.tmp 40),(.tmp 42)],none⟩,
 ⟨(some 6),.alloc [.aB],none⟩,
 ⟨none,.store 1 (.tmp 6) (.tmp 43),none⟩]
def K8:List aU:=[
 ⟨(some 44),.aYF 4 (.tmp 2),none⟩,
 ⟨(some 45),.load none (.tmp 44),none⟩,
 ⟨(some 46),.len (.tmp 45),none⟩,
 ⟨(some 47),.bin .gtr (.tmp 46) (.const (.int .i64 12)),none⟩,
 ⟨(some 48),.mv (.tmp 47),none⟩,
 ⟨(some 49),.load none (.tmp 6),(some (48,false))⟩,
 ⟨(some 50),.len (.tmp 49),(some (48,false))⟩,
 ⟨(some 51),.aYF 1 (.tmp 3),(some (48,false))⟩,
 ⟨(some 52),.load none (.tmp 51),(some (48,false))⟩,
 ⟨(some 53),.call 207 [(.tmp 50),(.tmp 52)],(some (48,false))⟩,
 ⟨(some 54),.bin .gtr (.tmp 53) (.const (.int .i64 512)),(some (48,false))⟩,
 ⟨(some 55),.pick (.tmp 48) (.const (.bool true)) (.tmp 54),none⟩]
def ay:List aU:=[
 ⟨(some 4),.mv (.const .aB),none⟩,
 ⟨(some 5),.mv (.const (.int .i64 2)),none⟩]
def K9:List aU:=[
 ⟨(some 7),.alloc [.aB],none⟩]
def La:List aU:=[
 ⟨(some 56),.aYF 1 (.tmp 3),none⟩,
 ⟨(some 57),.load none (.tmp 56),none⟩,
 ⟨(some 58),.load none (.tmp 6),none⟩,
 ⟨(some 59),.len (.tmp 58),none⟩,
 ⟨(some 60),.call 210 [(.tmp 57),(.tmp 59)],none⟩]
def Lc:List aU:=[
 ⟨(some 8),.mv (.tmp 61),none⟩]
def Ld:List aU:=[
 ⟨(some 62),.aYF 4 (.tmp 2),none⟩,
 ⟨(some 63),.load none (.tmp 62),none⟩,
 ⟨(some 64),.len (.tmp 63),none⟩,
 ⟨(some 65),.aXK 1 1 [(.bool false)] (.tmp 64) (.tmp 64),none⟩,
 ⟨(some 9),.mv (.tmp 65),none⟩]
def Ag:List aU:=[
 ⟨(some 66),.mv (.tmp 8),none⟩,
 ⟨(some 67),.len (.tmp 66),none⟩,
 ⟨(some 68),.mv (.const (.int .i64 0)),none⟩]
def Ah:List aU:=[
 ⟨(some 69),.bin .lss (.tmp 68) (.tmp 67),none⟩]
def Ai:List aU:=[
 ⟨(some 70),.aXT 1 (.tmp 66) (.tmp 68),none⟩,
 ⟨(some 71),.load none (.tmp 70),none⟩,
 ⟨(some 11),.mv (.tmp 71),none⟩]
def Aj:List aU:=[
 ⟨(some 72),.load none (.tmp 6),none⟩,
 ⟨(some 73),.mv (.tmp 11),none⟩,
 ⟨(some 74),.aXT 1 (.tmp 72) (.tmp 73),none⟩,
 ⟨(some 75),.load none (.tmp 74),none⟩,
 ⟨(some 76),.len (.tmp 75),none⟩,
 ⟨(some 77),.mv (.const (.int .i64 0)),none⟩]
def Ak:List aU:=[
 ⟨(some 78),.bin .lss (.tmp 77) (.tmp 76),none⟩]
def Al:List aU:=[
 ⟨(some 79),.aXT 1 (.tmp 75) (.tmp 77),none⟩,
 ⟨(some 80),.load none (.tmp 79),none⟩,
 ⟨(some 13),.mv (.tmp 80),none⟩]
def Am:List aU:=[
 ⟨(some 81),.mv (.tmp 9),none⟩,
 ⟨(some 82),.mv (.tmp 13),none⟩,
 ⟨(some 83),.aXT 1 (.tmp 81) (.tmp 82),none⟩,
 ⟨none,.store 1 (.tmp 83) (.const (.bool true)),none⟩]
def An:List aU:=[
 ⟨(some 84),.bin .add (.tmp 77) (.const (.int .i64 1)),none⟩,
 ⟨(some 77),.mv (.tmp 84),none⟩]
def QS:aC:=(.seq (.region Ak) (.seq (.cond (.tmp 78) .skip (.exit 4)) (.seq (.block 5 (.seq (.region Al) (.region Am))) (.region An))))
def Ao:List aU:=[
 ⟨(some 85),.bin .add (.tmp 68) (.const (.int .i64 1)),none⟩,
 ⟨(some 68),.mv (.tmp 85),none⟩]
def QT:aC:=(.seq (.region Ah) (.seq (.cond (.tmp 69) .skip (.exit 2)) (.seq (.block 3 (.seq (.region Ai) (.seq (.region Aj) (.block 4 (.loop QS))))) (.region Ao))))
def Ap:List aU:=[
 ⟨(some 14),.mv (.const .aB),none⟩]
def Aq:List aU:=[
 ⟨(some 86),.mv (.tmp 9),none⟩,
 ⟨(some 87),.len (.tmp 86),none⟩,
 ⟨(some 88),.mv (.const (.int .i64 0)),none⟩]
def Ar:List aU:=[
 ⟨(some 89),.bin .lss (.tmp 88) (.tmp 87),none⟩]
def QV:List aU:=[
 ⟨(some 90),.mv (.tmp 88),none⟩,
 ⟨(some 91),.aXT 1 (.tmp 86) (.tmp 88),none⟩,
 ⟨(some 92),.load none (.tmp 91),none⟩,
 ⟨(some 15),.mv (.tmp 90),none⟩,
 ⟨(some 16),.mv (.tmp 92),none⟩]
def QW:List aU:=[
 ⟨(some 93),.mv (.tmp 16),none⟩]
def As:List aU:=[
 ⟨(some 94),.mv (.tmp 14),none⟩,
 ⟨(some 95),.mv (.tmp 15),none⟩,
 ⟨(some 96),.aXI true 1 1 [(.int .i64 0)] [(0,(.tmp 95))],none⟩,
 ⟨(some 97),.append 1 8 (.tmp 94) (.tmp 96),none⟩,
 ⟨(some 14),.mv (.tmp 97),none⟩]
def QX:List aU:=[
 ⟨(some 98),.bin .add (.tmp 88) (.const (.int .i64 1)),none⟩,
 ⟨(some 88),.mv (.tmp 98),none⟩]
def QU:aC:=(.seq (.region Ar) (.seq (.cond (.tmp 89) .skip (.exit 6)) (.seq (.block 7 (.seq (.region QV) (.seq (.region QW) (.cond (.tmp 93) (.region As) .skip)))) (.region QX))))
def QY:List aU:=[
 ⟨(some 99),.load none (.tmp 7),none⟩,
 ⟨(some 100),.mv (.tmp 14),none⟩,
 ⟨(some 101),.aXI true 1 1 [.aB] [(0,(.tmp 100))],none⟩,
 ⟨(some 102),.append 1 24 (.tmp 99) (.tmp 101),none⟩,
 ⟨none,.store 1 (.tmp 7) (.tmp 102),none⟩]
def At:List aU:=[
 ⟨(some 103),.load none (.tmp 7),none⟩,
 ⟨(some 4),.mv (.tmp 103),none⟩,
 ⟨(some 5),.mv (.const (.int .i64 0)),none⟩]
def QQ:aC:=(.region Lc)
def QR:aC:=(.block 1 (.seq (.region Ld) (.seq (.seq (.region Ag) (.block 2 (.loop QT))) (.seq (.region Ap) (.seq (.seq (.region Aq) (.block 6 (.loop QU))) (.region QY))))))
def j4:aC:=(.seq (.region At) .ret)
def IB (c d:Code):qA:=(.seq (.region K5) (.seq (.seq (.region K6) (.cond (.tmp 39) (.seq (.region uI) .ret) .skip)) (.seq (.region K7) (.seq (.seq (.region K8) (.cond (.tmp 55) (.seq (.region ay) .ret) .skip)) (.seq (.region K9) (.seq (.region La) (.range (.tmp 60) 104 61 c d QQ QR j4)))))))
def azF:List Nat:=[2,3,96,101]
def alF (c d:Code):zV:=⟨2,104,IB c d,[.tmp 4,.tmp 5]⟩
theorem asW {C:Ctx} {H:PH} {name:Nat} {pre:List PV} {v u:PV} {l:List Int} (w:Plain u) (p:∀ x∈pre,Fx x) (i:bU H 1 v (aY l)) (c:l≠[]) (h:aH C name (pre++[ints l]) .nil (aF u)) :
  ∃ q,v=.osl q 1 0 l.length∧(∃ x,H q=some x)∧aH C name (pre++[v]) (H.only [q]) (fun r H'=>r=u∧H'=H.only [q]):=by
 rcases i with ⟨d,-⟩ | ⟨q,rs,rfl,h1,h2,h3⟩
 ·exact absurd (List.map_eq_nil_iff.1 d) c
 ·rw[dE] at h2 h3 ⊢;refine⟨q,rfl,⟨_,h1⟩,?_⟩;rw[ef h1];refine aH.aBT w ?_;have e:pre.map (PV.frz q 1 rs)=pre:=by
   conv=>rhs; rw[← List.map_id pre]
   exact a2F fun x y=>p x y q 1 rs
  rw[aZO,e,a0D,a0X,qF h2,h3];exact h
theorem zH {α:Type} (L:List α) (x:α) (n:Nat) (h:L.length=n):(L++[x])[n]?=some x:=by
 subst h; simp
theorem CM (c:PV) (ps:WPs):(dR c ps).length=ps.length+1:=by unfold dR mX; simp
structure aNO (f:aE) (now:List (List Int)) (r:Int) (d:Nat) (ps:WPs):Prop where
 eq:wls ps=te f now r d
 num:ps.length≤d
 len:∀ i (h:i<ps.length),1≤(ps[i].2).length∧(ps[i].2).length≤d
theorem aNO.of {f:aE} {c:List (List Int)} {r:Int} (u:aqT f c r=true) {d:Nat} (y:d≤f.aXC.length) {ps:WPs} (h:wls ps=te f c r d):aNO f c r d ps:=by
 have k:=Ht u d y;rw[← h] at k;have e:∀ i (h:i<ps.length),ps[i].2∈wls ps:=fun i hi=>aZQ.2 ⟨ps[i],aYQ hi,rfl⟩;have ne:∀ l∈wls ps,1≤l.length:=fun l A=>by
  have:=k.ok l A;unfold VM at this;cases l with
  | nil=>cases this
  | cons x xs=>rw[a0F]; omega
 refine⟨h,?_,fun i hi=>⟨ne _ (e i hi),?_⟩⟩
 ·have p:(wls ps).length≤(wls ps).flatten.length:=by
   generalize wls ps=w at ne
   induction w with
   | nil=>exact aYV _
   | cons l w E =>have:=E fun x B=>ne x (List.mem_cons_of_mem _ B);have:=ne l (by simp);rw[List.flatten_cons,aYU,a0F];omega
  rw[vK,k.len] at p;exact p
 ·have:=(List.sublist_flatten_of_mem (e i hi)).length_le;rw[k.len] at this;exact this
def aNM (n top:Int) (r:PV) (H':PH):Prop:=∃ o1 o2,o1≠o2∧r=.fn 211 [.ptr o1 1 0 0,.ptr o2 1 0 0]∧H'=(PH.nil.set o1 (.rows 1 [[.int .i64 n]])).set o2 (.rows 1 [[.int .i64 top]])
theorem azI {C:Ctx} (n top:Int):ID.wp C (aR alH.res (aNM n top)) (PF.args [.int .i64 n,.int .i64 top]) .nil:=by
 simp only[go_sem,ID,Ll,alH];refine aN fun o1 e=>?_;simp only[go_sem];refine aN fun o2 c=>?_;have d:o1≠o2:=by rintro rfl; simp only[cR] at c; cases c
 simp only[go_sem,Lm];exact aZ (.inr rfl) _ (vs:=[.fn 211 [.ptr o1 1 0 0,.ptr o2 1 0 0]]) Sq b_ ⟨o1,o2,d,rfl,rfl⟩
structure gy (C:Ctx):Prop extends ajZ C where
 subs:∀ n top:Int,aH C 210 [.int .i64 n,.int .i64 top] .nil (aNM n top)
 iter:∀ (l o1 o2 n top:Nat) (J:Nat→PH→Prop) (ss:List (List Nat)),ss=cS top n 0→1≤n→n≤1000→top≤1000 →
  (∀ k (hk:k<ss.length) G c,J k G→G c=none→GG C l [.osl c 1 0 n] (G.set c (.rows 1 (aY (bM ss[k])))) (fun r H'=>r=.bool true∧J (k+1) H')) →
  ∀ G0 H:PH,J 0 G0→G0.le H→H o1=some (.rows 1 [[.int .i64 n]])→H o2=some (.rows 1 [[.int .i64 top]])→G0 o1=none→G0 o2=none→aH C 211 [wT l,.ptr o1 1 0 0,.ptr o2 1 0 0] H (fun _ H'=>∃ G,J ss.length G∧G.le H')
theorem l8 {C:Ctx} (Lb:gy C) {F:PF} {H:PH} {n m t o1 o2 top:Nat} {d i:Code} {Q R:aC} {B:List (List Nat)} (Y:B=cS top n 0) (h1:1≤n) (hn:n≤1000) (ht:top≤1000) (α:o1≠o2)
  (I:Nat→PH→Prop) (w:PH) (hI:I 0 w) (O:w.le H) (b1:H o1=some (.rows 1 [[.int .i64 n]])) (b2:H o2=some (.rows 1 [[.int .i64 top]])) (g1:w o1=none) (g2:w o2=none)
  (hY:∀ (l:Nat) (x:PV) (J:PH) (Z:PH→Prop),J l=none→Q.wp C (gS C (R.wp C) (CC Z)) (F.set t x) J→GG C l [x] (J.set l (.loop F m t d i)) (fun r H'=>r=.bool true∧∃ H2,Z H2∧H2 l=none∧H'=H2.set l (.loop F m t d i)))
  (hb:∀ k (hk:k<B.length) G c,I k G→G c=none→Q.wp C (gS C (R.wp C) (CC (I (k+1)))) (F.set t (.osl c 1 0 n)) (G.set c (.rows 1 (aY (bM B[k]))))) :
  Ju C 211 [.ptr o1 1 0 0,.ptr o2 1 0 0] F H m t d i (I B.length):=by
 intro l S;have K:w l=none:=by
  cases h:w l with
  | none=>rfl
  | some x=>rw[O l x h] at S; cases S
 have n1:¬ o1=l:=fun e=>by rw[e,S] at b1; cases b1
 have n2:¬ o2=l:=fun e=>by rw[e,S] at b2; cases b2
 refine (Lb.iter l o1 o2 n top (fun k G=>∃ p,I k p∧p l=none∧G=p.set l (.loop F m t d i)) B Y h1 hn ht ?_ (w.set l (.loop F m t d i)) (H.set l (.loop F m t d i)) ⟨w,hI,K,rfl⟩ ?_ ?_ ?_ ?_ ?_).post ?_
 ·rintro k hk G c ⟨p,E,u,rfl⟩ V;have M:¬ c=l:=fun e=>by rw[e,cR] at V; cases V
  have N:¬ l=c:=fun e=>M e.symm;have W:p c=none:=by rwa [aT,if_neg M] at V
  have:=hY l (.osl c 1 0 n) (p.set c (.rows 1 (aY (bM B[k])))) (I (k+1)) (by rw[aT,if_neg N]; exact u) (hb k hk p c E W);have e:(p.set c (.rows 1 (aY (bM B[k])))).set l (.loop F m t d i)=(p.set l (.loop F m t d i)).set c (.rows 1 (aY (bM B[k]))):=by
   refine PH.ext fun o=>?_;simp only[aT];by_cases U:o=l
   ·subst U; rw[if_pos rfl,if_neg N,if_pos rfl]
   ·rw[if_neg U,if_neg U]
  rw[e] at this;exact this
 ·intro o x A;rw[aT] at A ⊢;split at A
  ·rename_i e; rw[if_pos e]; exact A
  ·rename_i e; rw[if_neg e]; exact O o x A
 ·rw[aT,if_neg n1]; exact b1
 ·rw[aT,if_neg n2]; exact b2
 ·rw[aT,if_neg n1]; exact g1
 ·rw[aT,if_neg n2]; exact g2
 ·rintro r H' ⟨G,⟨p,E,u,rfl⟩,y⟩;have X:H' l=some (.loop F m t d i):=y l _ (by rw[cR]);exact⟨r,.refl _,p,E,(fun o x A=>y o x (by
   have:¬ o=l:=fun e=>by rw[e,u] at A; cases A
   rw[aT,if_neg this]; exact A)),u,X⟩
def aGM (d:Nat) (e:List (List Int)) (G:PH):Prop:=∃ c ps,aM G [(d,.rows 1 [[c]])] (dR c ps)∧wls ps=e
theorem azG {C:Ctx} (Lb:gy C) (J K:Code) (f:aE) (hV:VF f) (hd:f.aXC.length≤12) (p:bV) (hp:∀ m∈p.aXD,0≤m∧m<f.aXD.length) (S:Fits p.aXD) (hk:1≤p.k) (ν:p.k≤6) (hm:0≤p.m) (ξ:p.m≤4) :
  (IC J K).wp C (aR (alG J K).res (cA (lay (fO f p)))) (PF.args [.agg f.cells,.agg p.cells]) .nil:=by
 obtain⟨n,hn⟩:∃ n:Nat,(n:Int)=eY p:=⟨(p.k+p.m).toNat,by unfold eY; omega⟩;have β:1≤n∧n≤10:=by unfold eY at hn; omega
 have hw:IntKind.i64.wrap (p.k+p.m)=(n:Int):=by rw[hn]; exact wrap_i64 Om Om
 simp only[go_sem,IC,qA.wp,Le,Lf,alG];refine aN fun B γ=>?_;simp only[go_sem,Lg,hw,aYN];refine lF (Lb.subs n f.aXC.length) Sq a_ ?_;rintro r H' ⟨o1,o2,l,rfl,rfl⟩ R;have W:¬ B=o1:=fun e=>by have:=R o1 _ (by rw[aT,if_neg l,cR]) rfl;rw[← e,cR] at this; cases this
 have X:¬ B=o2:=fun e=>by have:=R o2 _ (by rw[cR]) rfl;rw[← e,cR] at this; cases this
 have κ:¬ o2=o1:=fun e=>l e.symm;simp only[go_sem];generalize N:PF.set _ 15 _=F;have f2:F 2=some (.bH f.cells):=by rw[← N]; simp only[go_sem]
 have f3:F 3=some (.bH p.cells):=by rw[← N]; simp only[go_sem]
 have f5:F 5=some (.ptr B 1 0 0):=by rw[← N]; simp only[go_sem]
 have μ:F 15=some (.fn 211 [.ptr o1 1 0 0,.ptr o2 1 0 0]):=by rw[← N]; simp only[go_sem]
 clear N;have ε:cS f.aXC.length n 0=cS f.aXC.length (eY p).toNat 0:=by rw[← hn]; rfl
 have Q:=lT f.aXC.length n 0;have hE:fO f p=((cS f.aXC.length n 0).map bM).filter (mB f p):=by rw[ε]; rfl
 refine⟨211,[.ptr o1 1 0 0,.ptr o2 1 0 0],aGM B (((((cS f.aXC.length n 0).take (cS f.aXC.length n 0).length)).map bM).filter (mB f p)),rfl,fun hY=>?_,fun H2 O=>?_⟩
 ·refine l8 (m:=26) (t:=16) Lb rfl β.1 Om Om l (fun k=>aGM B ((((cS f.aXC.length n 0).take k).map bM).filter (mB f p))) (PH.nil.set B (.rows 1 [[.aB]])) ⟨.aB,[],((aM.nil (H:=PH.nil)).new γ _).tL,rfl⟩ ?_ ?_ ?_ ?_ ?_ hY ?_
  ·intro o x Z;rw[aT] at Z;split at Z
   ·rename_i e;rw[hZ]; simp only[aT,e,if_neg W,if_neg X,WG,if_true];exact Z
   ·cases Z
  ·rw[hZ]; simp only[aT,if_neg l,if_true]
  ·rw[hZ]; simp only[aT,if_true]
  ·rw[aT,if_neg (fun e=>W e.symm)]; rfl
  ·rw[aT,if_neg (fun e=>X e.symm)]; rfl
  rintro k hk G c ⟨vo,ps,E,w⟩ hc;have δ:=Q _ (aYQ hk);have ζ:(cS f.aXC.length n 0).take (k+1)=(cS f.aXC.length n 0).take k++[(cS f.aXC.length n 0)[k]]:=aZW hk;generalize (cS f.aXC.length n 0)[k]=s at *
  obtain⟨sl,Y,-⟩:=δ;have i:((((cS f.aXC.length n 0).take (k+1)).map bM).filter (mB f p))=wls ps++if mB f p (bM s) then [bM s] else []:=by rw[ζ,aZO,List.filter_append,w];congr 1;by_cases c:mB f p (bM s)<;>simp[c]
  have U:(aY (bM s)).length=n:=by rw[dE,eR,sl]
  have M:=E.anV (s:=1) (rows:=aY (bM s)) hc;have hO:bU (G.set c (.rows 1 (aY (bM s)))) 1 (.osl c 1 0 n) (aY (bM s)):=by
   have:=M.own ((dR vo ps).length) (zH _ _ _ rfl)
   rwa [U] at this
  have ο:ps.length≤4096:=by
   rw[← vK,w];refine aZS (a2O ..) ?_;rw[aYN,aZH];have h1:=pY f.aXC.length n 0;have M:2 ^ (f.aXC.length-0)≤2 ^ 12:=a1P Om Om;have e:(2:Nat) ^ 12=4096:=by decide
   omega
  have d:=Lb.adm f p (bM s) hV hp S ⟨by rw[eR]; omega,fun x V=>by obtain⟨y,hy,rfl⟩:=aZQ.1 V;have:=Y y hy;omega⟩;obtain⟨q,e1,V,d⟩:=asW (C:=C) (name:=201) (pre:=[.agg f.cells,.agg p.cells]) (u:=.bool (mB f p (bM s))) (.bool _) (fun x V=>by
   simp only[aYY,aZI,or_false] at V;rcases V with rfl | rfl
   ·exact fun _ _ _=>rfl
   ·exact fun _ _ _=>rfl) hO (fun e=>by have:=congrArg List.length e; rw[eR,sl] at this; simp at this; omega) d
  have eq:c=q:=by injection e1
  subst eq;have ι:=M.at 0 rfl;have θ:¬ B=c:=fun e=>by have:=E.at 0 rfl; rw[e,hc] at this; cases this
  simp only[go_sem,Au,Lh,Av,Li,f2,f3];refine aqK (cs:=[]) (vs:=[.agg f.cells,.agg p.cells,.osl c 1 0 n]) (by rw[a0M]; exact d) Sq (WP _ _) ?_;cases A:mB f p (bM s) with
  | true =>
   rw[A,if_pos rfl] at i;simp only[go_sem,Lj,f5,θ,E.at 0 rfl];refine M.append 0 (rows:=dB ps) (src:=[[.osl c 1 0 n]]) rfl Sq (by unfold roomFor; rw[lI]; simp only[aZB,maxLen]; omega) fun v' H' h3 η=>?_;obtain⟨q2,rfl⟩:=η (by simp);have α:=h3.at 0 rfl;have h4:=h3.set 0 rfl (cF.rows 1 [[PV.osl q2 1 0 (dB ps++[[PV.osl c 1 0 n]]).length]]);simp only[go_sem,α,f5,aYY,aZI,or_false,forall_eq];refine⟨PV.osl q2 1 0 (dB ps++[[PV.osl c 1 0 n]]).length,ps++[(.osl c 1 0 n,bM s)],?_,?_⟩
   ·have e:dR (.osl q2 1 0 (dB ps++[[PV.osl c 1 0 n]]).length) (ps++[(PV.osl c 1 0 n,bM s)])=((dR vo ps)++[(PV.osl c 1 0 (aY (bM s)).length,1,aY (bM s))]).set 0 (.osl q2 1 0 (dB ps++[[PV.osl c 1 0 n]]).length,1,dB ps++[[PV.osl c 1 0 n]]):=by rw[U];unfold dR dB mX;rw[aZO,aZO];rfl
    rw[e];exact h4
   ·rw[i];unfold wls;rw[aZO]; rfl
  | false =>rw[A,if_neg (by decide),a0M] at i;simp only[go_sem];exact⟨vo,ps,M.sub (a0U.refl _) (List.sublist_append_left ..),i.symm⟩
 ·rw[aZK,← hE] at O;obtain⟨vo,ps,E,w⟩:=O;have hb:=E.at 0 rfl;simp only[go_sem,j5,Lk,f5,hb];rw[← w];exact MM (.inr rfl) Sq (E.lC 0)
def pA (f:aE) (aXO:Int):Int:=if gD f aXO then (if f.aXC.length>12 then 2 else 0) else 1
def wW (f:aE) (aXO:Int):List (List Int):=if pA f aXO=0 then fO f (cX f aXO) else []
structure Jo (C:Ctx):Prop extends gy C where
 sets:∀ (f:aE) (p:bV),VF f→f.aXC.length≤12→(∀ m∈p.aXD,0≤m∧m<f.aXD.length)→Fits p.aXD→1≤p.k→p.k≤6→0≤p.m→p.m≤4→aH C 229 [.agg f.cells,.agg p.cells] .nil (aF (lay (fO f p)))
def cyS (r:PV):Spec:=fun _ _=>some ([],fun _=>aF r)
theorem arA {C:Ctx} (x:Jo C) (f:aE) (y:f.Ok) (aXO:Int) :
  DH.wp C (aR call17.res (cA (.tup [lay (wW f aXO),.int .i64 (pA f aXO)]))) (PF.args [.agg f.cells,.int .i64 aXO]) .nil:=by
 have hB:wW f aXO=if pA f aXO=0 then fO f (cX f aXO) else []:=rfl
 have e:pA f aXO=if gD f aXO then (if f.aXC.length>12 then 2 else 0) else 1:=rfl
 simp only[go_sem,DH,zm,zn,call17];refine aA (x.known f aXO y) Ev ?_;cases u:gD f aXO with
 | false =>rw[u,if_neg (by decide)] at e;rw[e,if_neg (by decide)] at hB;rw[hB,e];simp only[go_sem,aZF,zo];exact oE (.inr rfl) Sq (aM.tL aM.nil)
 | true =>
  rw[u,if_pos rfl] at e;obtain⟨hV,A,E,B⟩:=oK u;obtain⟨p,w⟩:=nZ u;have d:=hV.aXO _ p;have l:=(y.aXO _ p).aXD;have i:(f.aXG.map bV.cells)[aXO.toNat]?=some (cX f aXO).cells:=by rw[aZN,w]; rfl
  have hlt:aXO<(f.aXG.length:Nat):=Om;by_cases c:f.aXC.length>12
  ·rw[if_pos c] at e;rw[e,if_neg (by decide)] at hB;rw[hB,e];simp only[go_sem,aYT,QH,aYN,show (f.aXC.length:Int)>12 by omega,zp];exact oE (.inr rfl) Sq (aM.tL aM.nil)
  ·rw[if_neg c] at e;rw[e,if_pos rfl] at hB;rw[hB,e];simp only[go_sem,aYT,QH,aYN,show ¬ (f.aXC.length:Int)>12 by omega];refine bO .nil (cyS (lay (fO f (cX f aXO)))) a_ ?_;simp only[go_sem,zq,A,hlt,aYN,i];refine bP rfl (x.sets f (cX f aXO) hV Om d.2.2.2.2.2.2.2 l d.1 d.2.1 d.2.2.1 d.2.2.2.1) Sq a_ ?_;simp only[go_sem];exact aZ (.inr rfl) .nil (vs:=[lay (fO f (cX f aXO)),.int .i64 0]) Sq a_ (aF.aOX ⟨rfl,rfl⟩)
structure UOk (n:Nat) (U:List (List Int)):Prop where
 len:U.length≤1000
 at_:∀ u∈U,u.length≤1000∧∀ d∈u,0≤d∧d<n
def nY (U:List (List Int)) (s:List Nat):List Int:=s.flatMap fun i=>U.getD i []
theorem Vq (U:List (List Int)) (s:List Nat) {i:Nat} (h:i<s.length):nY U (s.take (i+1))=nY U (s.take i)++U.getD s[i] []:=by
 unfold nY;rw[aZW h,List.flatMap_append]; simp
theorem Yu (U:List (List Int)) (s:List Nat) (d:Nat):(nY U s).contains (d:Int)=jL U s d:=by
 unfold nY jL
 induction s with
 | nil=>rfl
 | cons i s c=>rw[List.flatMap_cons,List.contains_append,c,List.any_cons]
theorem arJ {C:Ctx} {K:bT} [Up K] (X W w c nd n i:Nat) (J:PV) (u:List Int) (β:u.length≤1000) (hu:∀ d∈u,0≤d∧d<nd) (l:List Int) {F:PF} {H:PH} {B:List BX} {L:List LI}
  (x:aM H B L) (b:Nat) (Z:B[b]?=some (w,.rows 1 (dM (marks nd l))))
  (hF:(((((((((((PF.nil.set 2 (J)).set 6 (.ptr X 1 0 0)).set 7 (.ptr W 1 0 0)).set 9 (.osl w 1 0 nd)).set 66 (.osl c 1 0 n)).set 67 (.int .i64 n)).set 68 (.int .i64 i)).set 75 (ints u)).set 76 (.int .i64 (u.length:Nat))).set 77 (.int .i64 0))).le F)
  (hK:∀ H',aM H' (B.set b (w,.rows 1 (dM (marks nd (l++u))))) L→K (.exit 4) ((((((((PF.nil.set 2 (J)).set 6 (.ptr X 1 0 0)).set 7 (.ptr W 1 0 0)).set 9 (.osl w 1 0 nd)).set 66 (.osl c 1 0 n)).set 67 (.int .i64 n)).set 68 (.int .i64 i))) H') :
  aC.wp C (.loop QS) K F H:=by
 refine wp_loop (α:=Nat × PH) (fun s=>((((((((((PF.nil.set 2 (J)).set 6 (.ptr X 1 0 0)).set 7 (.ptr W 1 0 0)).set 9 (.osl w 1 0 nd)).set 66 (.osl c 1 0 n)).set 67 (.int .i64 n)).set 68 (.int .i64 i)).set 75 (ints u)).set 76 (.int .i64 (u.length:Nat))).set 77 (.int .i64 s.1))) (fun s=>s.2) (fun s=>s.1≤u.length∧aM s.2 (B.set b (w,.rows 1 (dM (marks nd (l++u.take s.1))))) L) (fun s=>u.length-s.1) (0,H) ⟨aYS _,?_⟩ hF b_ ?_
 ·rw[List.take_zero,a0M];have e:B.set b (w,.rows 1 (dM (marks nd l)))=B:=by obtain⟨h1,E⟩:=aZU.1 Z;rw[← E,List.set_getElem_self]
  rw[e]; exact x
 rintro⟨j,Y⟩ ⟨hj,x⟩;simp only at hj x;have M:b<B.length:=(aZU.1 Z).1;have y:(B.set b (w,cF.rows 1 (dM (marks nd (l++u.take j)))))[b]?=some (w,.rows 1 (dM (marks nd (l++u.take j)))):=List.getElem?_set_self M;simp only[go_sem,QS,Ak];by_cases hlt:j<u.length
 ·have p:(j:Int)<(u.length:Nat):=Om;have R:(u.map fun n=>[PV.int .i64 n])[j]?=some [.int .i64 u[j]]:=by simp[hlt]
  obtain⟨U,V⟩:=hu _ (aYQ hlt);have S:u.take (j+1)=u.take j++[u[j]]:=aZW hlt;have O:(u[j]).toNat<(dM (marks nd (l++u.take j))).length:=by rw[BT,SC]; omega
  have N:(dM (marks nd (l++u.take j)))[(u[j]).toNat]?=some [.bool ((l++u.take j).contains u[j])]:=by unfold dM;rw[aZN,AS U V]; rfl
  have Q:=x.at b y;have E:=x.set b y (.rows 1 (dM (marks nd (l++u.take (j+1)))));rw[List.set_set] at E;have A:=SD (l:=l++u.take j) U V;rw[a0A,← S] at A;simp only[go_sem,p,Al,R,Am,U,V,aZM,Q,N,O,kE,A,An,wZz j];exact aD (j+1,Y.set w (.rows 1 (dM (marks nd (l++u.take (j+1)))))) ⟨hlt,E⟩ (by simp only; omega) Lq b_
 ·have p:¬ (j:Int)<(u.length:Nat):=Om;have:j=u.length:=Om;subst this;rw[aZK] at x;simp only[go_sem,p];exact Up.up Lq (hK Y x)
def scB (d i c e:Nat) (p:PV) (U:List (List Int)) (s:List Nat) (nd:Nat) (l:List Int):List BX:=[(d,.rows 1 [[p]]),(i,.rows 1 [[lay U]]),(c,.rows 1 (aY (bM s))),(e,.rows 1 (dM (marks nd l)))]
theorem Xu {C:Ctx} {K:bT} [Up K] (y p w c nd n:Nat) (B V:PV) (U:List (List Int)) (hU:UOk nd U) (s:List Nat) (hs:s.length=n) (Q:∀ x∈s,x<U.length) (hn:n≤1000) {F:PF} {H:PH} {L:List LI}
  (l:aM H (scB p y c w V U s nd []) L)
  (Y:((((((((PF.nil.set 2 (B)).set 6 (.ptr y 1 0 0)).set 7 (.ptr p 1 0 0)).set 9 (.osl w 1 0 nd)).set 66 (.osl c 1 0 n)).set 67 (.int .i64 n)).set 68 (.int .i64 0))).le F)
  (Z:∀ H',aM H' (scB p y c w V U s nd (nY U s)) L→K (.exit 2) (((((PF.nil.set 2 (B)).set 6 (.ptr y 1 0 0)).set 7 (.ptr p 1 0 0)).set 9 (.osl w 1 0 nd))) H') :
  aC.wp C (.loop QT) K F H:=by
 refine wp_loop (α:=Nat × PH) (fun t=>(((((((PF.nil.set 2 (B)).set 6 (.ptr y 1 0 0)).set 7 (.ptr p 1 0 0)).set 9 (.osl w 1 0 nd)).set 66 (.osl c 1 0 n)).set 67 (.int .i64 n)).set 68 (.int .i64 t.1))) (fun t=>t.2) (fun t=>t.1≤s.length∧aM t.2 (scB p y c w V U s nd (nY U (s.take t.1))) L) (fun t=>s.length-t.1) (0,H) ⟨aYS _,l⟩ Y b_ ?_;rintro⟨i,X⟩ ⟨hi,l⟩;simp only at hi l;simp only[go_sem,QT,Ah];by_cases hlt:i<s.length
 ·have d:(i:Int)<(n:Nat):=Om;have hc:=l.at 2 rfl;have O:=l.at 1 rfl;have M:=uT hlt;have N:i<(aY (bM s)).length:=by rw[dE,eR]; exact hlt
  have R:=Q s[i] (aYQ hlt);have S:((s[i]:Nat):Int)<(U.length:Nat):=Om;have e:=Vq U s hlt;have A:=hU.at_ U[s[i]] (aYQ R);have J:U.getD s[i] []=U[s[i]]:=by simp[aZG,R]
  have E:(U.map fun r=>[ints r])[s[i]]?=some [ints U[s[i]]]:=by simp[R]
  rw[J] at e;generalize U[s[i]]=u at *
  generalize s[i]=x at *
  simp only[go_sem,d,Ai,hc,M,N,aZM,Aj,O,S,aYN,E];have one:=fun {K:bT} [Up K] {F:PF}=>arJ (C:=C) (K:=K) y p w c nd n i B u A.1 A.2 (nY U (s.take i)) (F:=F) l 3 rfl;refine one (by (repeat' (first|exact c_|refine d_ ?_ ?_))<;>first|(simp only[go_sem,aYN]<;>rfl)|rfl) fun H' W=>?_;rw[← e] at W;simp only[go_sem,Ao,wZz i];exact aD (i+1,H') ⟨hlt,W⟩ (by simp only; omega) Lq b_
 ·have d:¬ (i:Int)<(n:Nat):=Om;have:i=s.length:=Om;subst this;rw[aZK] at l;simp only[go_sem,d];exact Up.up Lq (Z X l)
def scD (l:List Int) (k:Nat):List Int:=bM ((aYO k).filter fun d=>l.contains (d:Int))
theorem aEE (l:List Int) (k:Nat):scD l (k+1)=if l.contains (k:Int) then scD l k++[(k:Int)] else scD l k:=by
 unfold scD;rw[a1Z,List.filter_append,Re];by_cases h:l.contains (k:Int)
 ·rw[if_pos h]; simp[bM] at h ⊢; simp[h]
 ·rw[if_neg h]; simp[bM] at h ⊢; simp[h]
theorem aLH (l:List Int) (k:Nat):(scD l k).length≤k:=by
 unfold scD;rw[eR];exact aZS (a2O ..) (by simp)
theorem K4 {C:Ctx} {K:bT} [Up K] (w u B c nd:Nat) (W:nd≤1000) (E J:PV) (U:List (List Int)) (s:List Nat) (l:List Int) {F:PF} {H:PH} {L:List LI}
  (i:aM H (scB u w c B J U s nd l) L)
  (R:((((((((PF.nil.set 2 (E)).set 6 (.ptr w 1 0 0)).set 7 (.ptr u 1 0 0)).set 14 (.aB)).set 86 (.osl B 1 0 nd)).set 87 (.int .i64 nd)).set 88 (.int .i64 0))).le F)
  (S:∀ v H',aM H' (scB u w c B J U s nd l) (L++[(v,1,aY (scD l nd))])→K (.exit 6) (((((PF.nil.set 2 (E)).set 6 (.ptr w 1 0 0)).set 7 (.ptr u 1 0 0)).set 14 (v))) H') :
  aC.wp C (.loop QU) K F H:=by
 refine wp_loop (α:=Nat × PV × PH) (fun t=>(((((((PF.nil.set 2 (E)).set 6 (.ptr w 1 0 0)).set 7 (.ptr u 1 0 0)).set 14 (t.2.1)).set 86 (.osl B 1 0 nd)).set 87 (.int .i64 nd)).set 88 (.int .i64 t.1))) (fun t=>t.2.2) (fun t=>t.1≤nd∧aM t.2.2 (scB u w c B J U s nd l) (L++[(t.2.1,1,aY (scD l t.1))])) (fun t=>nd-t.1) (0,.aB,H) ⟨aYS _,i.mY 1⟩ R b_ ?_;clear i;rintro⟨k,v,M⟩ ⟨V,i⟩;simp only at V i;simp only[go_sem,QU,Ar];by_cases hlt:k<nd
 ·have e:(k:Int)<(nd:Nat):=Om;have y:=i.at 3 rfl;have d:=aEE l k;have Q:=aLH l k;have x:k<(dM (marks nd l)).length:=by rw[BT,SC]; exact hlt
  have p:(dM (marks nd l))[k]?=some [.bool (l.contains (k:Int))]:=by have:=AS (n:=nd) (l:=l) (m:=(k:Int)) Om e;rw[a0J] at this;unfold dM;rw[aZN,this]; rfl
  cases O:l.contains (k:Int) with
  | true =>
   rw[O] at p d;rw[if_pos rfl] at d;simp only[go_sem,e,QV,y,p,x,aZM,QW,As];refine i.append L.length (rows:=aY (scD l k)) (src:=[[.int .i64 k]]) (zH _ _ _ rfl) Sq (by unfold roomFor; rw[dE]; simp only[aZB,maxLen]; omega) fun v' H' N _=>?_;have A:aY (scD l k)++[[.int .i64 k]]=aY (scD l (k+1)):=by rw[d,AR]; rfl
   rw[A,a1M _ _ (aYV _),a1Q] at N;simp only[go_sem,QX,wZz k];exact aD (k+1,v',H') ⟨hlt,N⟩ (by simp only; omega) Lq b_
  | false =>rw[O] at p d;rw[if_neg (by decide)] at d;rw[← d] at i;simp only[go_sem,e,QV,y,p,x,aZM,QW,QX,wZz k];exact aD (k+1,v,M) ⟨hlt,i⟩ (by simp only; omega) Lq b_
 ·have e:¬ (k:Int)<(nd:Nat):=Om;have:k=nd:=Om;subst this;simp only[go_sem,e];exact Up.up Lq (S v M i)
def eE (f:aE) (lv cnt:Int):Int:=if eC f&&(decide (1≤lv)&&decide (lv≤5)&&decide (1≤cnt)&&decide (cnt≤3)) then (if 12<f.aXC.length∨512<dH ((eT f lv).length:Nat) cnt.toNat then 2 else 0) else 1
def dU (f:aE) (lv cnt:Int):List (List Int):=if eE f lv cnt=0 then mS f (eT f lv) cnt.toNat else []
structure Jp (C:Ctx):Prop extends Jo C where
 val:∀ f:aE,f.Ok→aH C 96 [.agg f.cells] .nil (aF (.int .i64 (BG f)))
 units:∀ (f:aE) (lv:Int),VF f→1≤lv→lv≤5→aH C 206 [.agg f.cells,.int .i64 lv] .nil (aF (lay (eT f lv)))
 choose:∀ m n:Nat,m≤1000→n≤3→aH C 207 [.int .i64 m,.int .i64 n] .nil (aF (.int .i64 (max (dH m n) 0)))
theorem vH {f:aE} (hV:VF f) (lv:Int):UOk f.aXC.length (eT f lv)∧(eT f lv).length≤40:=by
 have E:=hV.small.aXC;have w:=hV.small.aXF;by_cases c:lv=5
 ·subst c;rw[Gy];refine⟨⟨by simp; omega,fun u l=>?_⟩,by simp; omega⟩;obtain⟨d,e,rfl⟩:=aZQ.1 l;rw[aZR] at e;refine⟨by simp,fun x p=>?_⟩;rw[a0Q] at p;omega
 ·rw[gb f c];have A:(oS f lv f.aXC.length).length≤40:=by rw[sj];exact aZS (a2O ..) (by simp; omega)
  refine⟨⟨by omega,fun u l=>?_⟩,A⟩;obtain⟨i,-,rfl⟩:=aZQ.1 l;refine⟨by rw[eR]; have:=l6 f lv f.aXC.length i; omega,fun x p=>?_⟩;obtain⟨y,B,rfl⟩:=aZQ.1 p;have:=aZR.1 (List.mem_filter.1 B).1;omega
theorem aOW (U:List (List Int)) (s:List Nat) (nd:Nat):scD (nY U s) nd=bM ((aYO nd).filter (jL U s)):=by
 unfold scD;congr 2;funext d;exact Yu U s d
instance upDone {R:PH→Prop}:Up (CC R):=⟨fun {e F c H} _ h=>by cases e<;>exact h⟩
def J3 (d e:Nat) (U:List (List Int)) (i:List (List Int)) (G:PH):Prop:=∃ c ps,aM G [(d,.rows 1 [[c]]),(e,.rows 1 [[lay U]])] (dR c ps)∧wls ps=i
theorem Xv {C:Ctx} (f:aE) (hV:VF f) (U:List (List Int)) (hU:UOk f.aXC.length U) (X:U.length≤40) (n:Nat) (α:1≤n) (hn:n≤3) (B l:Nat) (F:PF) (f2:F 2=some (.bH f.cells)) (f6:F 6=some (.ptr B 1 0 0)) (f7:F 7=some (.ptr l 1 0 0)) (k:Nat) (Y:k<(cS U.length n 0).length) (G:PH) (c:Nat)
  (hI:J3 l B U (((cS U.length n 0).take k).map fun s=>bM ((aYO f.aXC.length).filter (jL U s))) G) (hc:G c=none) :
  QQ.wp C (gS C (QR.wp C) (CC (J3 l B U (((cS U.length n 0).take (k+1)).map fun s=>bM ((aYO f.aXC.length).filter (jL U s)))))) (F.set 61 (.osl c 1 0 n)) (G.set c (.rows 1 (aY (bM (cS U.length n 0)[k])))):=by
 obtain⟨u,ps,hH,Z⟩:=hI;have y:=hV.small;have M:(f.aXC.length:Int)*((1:Nat):Int)≤140737488355328:=by have:=y.aXC; omega
 have N:(f.aXC.length:Int)≤9223372036854775807:=by have:=y.aXC; omega
 have d:(0:Int)≤(f.aXC.length:Int):=Om;have Q:=lT U.length n 0 _ (aYQ Y);have R:(cS U.length n 0).take (k+1)=(cS U.length n 0).take k++[(cS U.length n 0)[k]]:=aZW Y;have β:ps.length≤1099511627776:=by
  rw[← vK,Z,aYN,aZH];have h1:=pY U.length n 0;have V:2 ^ (U.length-0)≤2 ^ 40:=a1P Om Om;have e:(2:Nat) ^ 40=1099511627776:=by decide
  omega
 generalize (cS U.length n 0)[k]=s at *
 obtain⟨sl,J,-⟩:=Q;rw[R,aZO,← Z];have V:=hH.new hc (.rows 1 (aY (bM s)));simp only[go_sem,QQ,Lc,QR,Ld,f2,aYN,M,N,d,Int.le_refl,a0J];refine aN fun S O=>?_;rw[QE];have h3:=V.new O (.rows 1 (dM (marks f.aXC.length [])));simp only[go_sem,Ag];have mk:=fun {K:bT} [Up K] {F:PF} {H:PH}=>Xu (C:=C) (K:=K) B l S c f.aXC.length n (.bH f.cells) u U hU s sl (fun x hx=>(J x hx).2) Om (F:=F) (H:=H) (L:=dR u ps);refine mk h3 (by (repeat' (first|exact c_|refine d_ ?_ ?_))<;>first|(simp only[go_sem,f2,f6,f7]<;>rfl)|rfl) fun H1 h4=>?_;simp only[go_sem,Ap,Aq];have dr:=fun {K:bT} [Up K] {F:PF} {H:PH}=>K4 (C:=C) (K:=K) B l S c f.aXC.length (by have:=y.aXC; omega) (.bH f.cells) u U s (nY U s) (F:=F) (H:=H) (L:=dR u ps);refine dr h4 Lq fun v H2 h5=>?_;have W:=h5.own (dR u ps).length (zH _ _ _ rfl);have E:=h5.at 0 rfl;rw[aOW] at h5 W;generalize hD:bM ((aYO f.aXC.length).filter (jL U s))=D at *
 have fin:∀ (i:Nat) (H':PH),aM H' (scB l B c S u U s f.aXC.length (nY U s)) ((dR u ps++[(v,1,aY D)]).set 0 (PV.osl i 1 0 (dB ps++[[v]]).length,1,dB ps++[[v]]))→J3 l B U (wls ps++[D]) (H'.set l (.rows 1 [[PV.osl i 1 0 (dB ps++[[v]]).length]])):=by
  intro i H' w;have h7:=w.set 0 rfl (cF.rows 1 [[PV.osl i 1 0 (dB ps++[[v]]).length]]);refine⟨PV.osl i 1 0 (dB ps++[[v]]).length,ps++[(v,D)],?_,?_⟩
  ·have e:dR (PV.osl i 1 0 (dB ps++[[v]]).length) (ps++[(v,D)])=(dR u ps++[(v,1,aY D)]).set 0 (PV.osl i 1 0 (dB ps++[[v]]).length,1,dB ps++[[v]]):=by unfold dR dB mX;rw[aZO,aZO];rfl
   rw[e];exact (h7.lC 3).lC 2
  ·unfold wls;rw[aZO]; rfl
 have p:roomFor (dB ps).length 1 24:=by unfold roomFor; rw[lI]; simp only[maxLen]; omega
 rcases W with ⟨-,rfl⟩ | ⟨q,rs,rfl,-,-,-⟩
 ·simp only[go_sem,QY,E,aYY,aZI,or_false,forall_eq];refine h5.append 0 (rows:=dB ps) (src:=[[PV.aB]]) rfl Sq p fun v' H' w A=>?_;obtain⟨i,rfl⟩:=A (by simp);have d:=w.at 0 rfl;simp only[go_sem,d,aYY,aZI,or_false,forall_eq];exact fin i H' w
 ·simp only[go_sem,QY,E,aYY,aZI,or_false,forall_eq];refine h5.append 0 (rows:=dB ps) (src:=[[PV.osl q 1 0 (aY D).length]]) rfl Sq p fun v' H' w A=>?_;obtain⟨i,rfl⟩:=A (by simp);have d:=w.at 0 rfl;simp only[go_sem,d,aYY,aZI,or_false,forall_eq];exact fin i H' w
abbrev mN (lv cnt:Int):PV:=.agg [.int .i64 lv,.int .i64 cnt]
theorem azE {C:Ctx} (J:Jp C) (K M:Code) (f:aE) (hf:f.Ok) (lv cnt:Int) :
  (IB K M).wp C (aR (alF K M).res (cA (.tup [lay (dU f lv cnt),.int .i64 (eE f lv cnt)]))) (PF.args [.agg f.cells,mN lv cnt]) .nil:=by
 have hB:dU f lv cnt=if eE f lv cnt=0 then mS f (eT f lv) cnt.toNat else []:=rfl
 have O:eE f lv cnt=if eC f&&(decide (1≤lv)&&decide (lv≤5)&&decide (1≤cnt)&&decide (cnt≤3)) then (if 12<f.aXC.length∨512<dH ((eT f lv).length:Nat) cnt.toNat then 2 else 0) else 1:=rfl
 have hv:=J.val f hf;unfold BG at hv;have i:∀ (e:Int) (F:PF) (H:PH),e≠0→eE f lv cnt=e→F 4=some .aB→F 5=some (.int .i64 e)→aR [.tmp 4,.tmp 5] (cA (.tup [lay (dU f lv cnt),.int .i64 (eE f lv cnt)])) .ret F H:=by intro e F H he d h2 h3;rw[d,if_neg he] at hB;rw[hB,d];exact oE (H:=H) (.inr rfl) (by simp only[go_sem,h2,h3]) (show aM H [] (dR .aB []) from aM.tL aM.nil)
 have X:(eC f&&(decide (1≤lv)&&decide (lv≤5)&&decide (1≤cnt)&&decide (cnt≤3)))=false→eE f lv cnt=1:=fun h=>by rw[O,h]; rfl
 simp only[go_sem,IB,qA.wp,K5,K6,alF];refine aA hv Ev ?_;cases hp:eC f with
 | false =>have d:=X (by rw[hp]; rfl);simp only[go_sem,cT (show (1:Int)≠0 by decide),uI];exact i 1 _ _ (by decide) d Sq Sq
 | true =>
  have hV:=VF.of hp;by_cases N:lv<1
  ·have d:=X (by rw[decide_eq_false (Om:¬ 1≤lv)]; simp);simp only[go_sem,bS (show (0:Int)=0 from rfl),N,uI];exact i 1 _ _ (by decide) d Sq Sq
  by_cases c2:lv>5
  ·have d:=X (by rw[decide_eq_false (Om:¬ lv≤5)]; simp);simp only[go_sem,bS (show (0:Int)=0 from rfl),N,c2,uI];exact i 1 _ _ (by decide) d Sq Sq
  by_cases c3:cnt<1
  ·have d:=X (by rw[decide_eq_false (Om:¬ 1≤cnt)]; simp);simp only[go_sem,bS (show (0:Int)=0 from rfl),N,c2,c3,uI];exact i 1 _ _ (by decide) d Sq Sq
  by_cases c4:cnt>3
  ·have d:=X (by rw[decide_eq_false (Om:¬ cnt≤3)]; simp);simp only[go_sem,bS (show (0:Int)=0 from rfl),N,c2,c3,c4,uI];exact i 1 _ _ (by decide) d Sq Sq
  obtain⟨n,rfl⟩:∃ n:Nat,cnt=n:=⟨cnt.toNat,by omega⟩;rw[hp,decide_eq_true (Om:1≤lv),decide_eq_true (Om:lv≤5),decide_eq_true (Om:(1:Int)≤(n:Int)),decide_eq_true (Om:(n:Int)≤3),a0Z,a0Z,a0Z,a0Z,if_pos rfl,a0J] at O;rw[a0J] at hB;obtain⟨hU,R⟩:=vH hV lv;have w:=J.units f lv hV Om Om;generalize eT f lv=U at *
  simp only[go_sem,bS (show (0:Int)=0 from rfl),N,c2,c3,c4,K7];refine aA w Ev ?_;simp only[go_sem];refine aN fun p δ=>?_;simp only[go_sem,K8,aYN];by_cases c5:12<f.aXC.length
  ·have d:eE f lv n=2:=by rw[O,if_pos (.inl c5)]
   simp only[go_sem,show (f.aXC.length:Int)>12 by omega,ay];exact i 2 _ _ (by decide) d Sq Sq
  simp only[go_sem,show ¬ (f.aXC.length:Int)>12 by omega];refine aA (J.choose U.length n Om Om) Ev ?_;by_cases c6:512<dH (U.length:Nat) n
  ·have d:eE f lv n=2:=by rw[O,if_pos (.inr c6)]
   simp only[go_sem,show max (dH (U.length:Nat) n) 0>512 by omega,ay];exact i 2 _ _ (by decide) d Sq Sq
  have d:eE f lv n=0:=by rw[O,if_neg (fun h=>h.elim c5 c6)]
  rw[d,if_pos rfl] at hB;rw[hB,d];simp only[go_sem,show ¬ max (dH (U.length:Nat) n) 0>512 by omega,K9];refine aN fun l E=>?_;have ζ:¬ l=p:=by rintro rfl; rw[cR] at E; cases E
  have y:¬ p=l:=fun e=>ζ e.symm;simp only[go_sem,La,y,aYN];refine lF (J.subs n U.length) Sq a_ ?_;rintro r H' ⟨o1,o2,B,rfl,rfl⟩ γ;have α:∀ o x,(((PH.nil.set o1 (.rows 1 [[.int .i64 n]])).set o2 (.rows 1 [[.int .i64 (U.length:Nat)]])):PH) o=some x→¬ l=o∧¬ p=o:=fun o x h=>by
   have:=γ o x h rfl;refine⟨fun e=>?_,fun e=>?_⟩
   ·rw[← e,cR] at this; cases this
   ·rw[← e,aT,if_neg y,cR] at this; cases this
  obtain⟨V,Y⟩:=α o1 _ (by rw[aT,if_neg B,cR]);obtain⟨W,Z⟩:=α o2 _ (by rw[cR]);simp only[go_sem];generalize Q:PF.set _ 60 _=F;have f2:F 2=some (.bH f.cells):=by rw[← Q]; simp only[go_sem]
  have f6:F 6=some (.ptr p 1 0 0):=by rw[← Q]; simp only[go_sem]
  have f7:F 7=some (.ptr l 1 0 0):=by rw[← Q]; simp only[go_sem]
  have η:F 60=some (.fn 211 [.ptr o1 1 0 0,.ptr o2 1 0 0]):=by rw[← Q]; simp only[go_sem]
  clear Q;have A:mS f U n=((cS U.length n 0).take (cS U.length n 0).length).map fun s=>bM ((aYO f.aXC.length).filter (jL U s)):=by rw[aZK]; rfl
  have u:aM ((PH.nil.set p (.rows 1 [[lay U]])).set l (.rows 1 [[.aB]])) [(l,.rows 1 [[.aB]]),(p,.rows 1 [[lay U]])] (dR .aB []):=((((aM.nil (H:=PH.nil)).new δ _).new E _).perm (List.Perm.swap _ _ _) (List.Perm.refl _)).tL;refine⟨211,[.ptr o1 1 0 0,.ptr o2 1 0 0],J3 l p U (mS f U n),rfl,fun hY=>?_,fun H2 β=>?_⟩
  ·rw[A];refine l8 (m:=104) (t:=61) J.togy rfl Om Om Om B (fun k=>J3 l p U (((cS U.length n 0).take k).map fun s=>bM ((aYO f.aXC.length).filter (jL U s)))) ((PH.nil.set p (.rows 1 [[lay U]])).set l (.rows 1 [[.aB]])) ⟨.aB,[],u,rfl⟩ ?_ ?_ ?_ ?_ ?_ hY fun k hk G c hI hc=>Xv f hV U hU R n Om Om p l F f2 f6 f7 k hk G c hI hc
   ·intro o x S;rw[hZ];have e1:¬ o=o1:=fun e=>by rw[e,aT,if_neg (fun h=>V h.symm),aT,if_neg (fun h=>Y h.symm)] at S; cases S
    have e2:¬ o=o2:=fun e=>by rw[e,aT,if_neg (fun h=>W h.symm),aT,if_neg (fun h=>Z h.symm)] at S; cases S
    have:((PH.nil.set o1 (.rows 1 [[.int .i64 n]])).set o2 (.rows 1 [[.int .i64 (U.length:Nat)]]):PH) o=none:=by rw[aT,if_neg e2,aT,if_neg e1]; rfl
    rw[this];exact S
   ·rw[hZ]; simp only[aT,if_neg B,if_true]
   ·rw[hZ]; simp only[aT,if_true]
   ·rw[aT,if_neg (fun e=>V e.symm),aT,if_neg (fun e=>Y e.symm)]; rfl
   ·rw[aT,if_neg (fun e=>W e.symm),aT,if_neg (fun e=>Z e.symm)]; rfl
  ·obtain⟨vo,ps,hH,ε⟩:=β;have hb:=hH.at 0 rfl;simp only[go_sem,j4,At,f7,hb];rw[← ε];exact oE (.inr rfl) Sq ((hH.lC 0).lC 0)
theorem Xo {set:List Int} {n top:Int} (h:mU set n top=true):set.Pairwise (· < ·):=by
 unfold mU at h;simp only[aZD,decide_eq_true_eq,aZC,aZR] at h;have c:∀ i (hi:i+1<set.length),set[i]<set[i+1]:=by
  intro i hi;have:=h.2 (i+1) hi;unfold kZ at this;have g1:set.getD (i+1) 0=set[i+1]:=by simp[aZG,hi]
  have g2:set.getD (i+1-1) 0=set[i]:=by simp[aZG,show i<set.length by omega]
  rw[g1,g2] at this;simp only[aZD,Bool.or_eq_true,decide_eq_true_eq] at this;rcases this.2 with h | h
  ·omega
  ·exact h
 rw[List.pairwise_iff_getElem];intro i j hi u e;obtain⟨d,rfl⟩:∃ d,j=i+1+d:=⟨j-i-1,by omega⟩;clear e
 induction d with
 | zero=>exact c i u
 | succ d w =>have l:=w Om;have p:=c (i+1+d) Om;exact Int.lt_trans l p
theorem XQ {l:List Nat} (h:l.Pairwise (· < ·)):(bM l).Pairwise (· < ·):=by
 unfold bM;rw[List.pairwise_map];exact h.imp fun h=>by omega
theorem MY {f:aE} (hV:VF f) (U:List (List Int)) (l:U.length≤40) (n:Nat):(mS f U n).length≤1099511627776∧∀ s∈mS f U n,s.length≤24∧s.Pairwise (· < ·):=by
 have p:=hV.small.aXC;unfold mS;constructor
 ·rw[aYN];have d:=pY U.length n 0;have i:2 ^ (U.length-0)≤2 ^ 40:=a1P Om Om;have e:(2:Nat) ^ 40=1099511627776:=by decide
  omega
 ·intro s c;obtain⟨t,-,rfl⟩:=aZQ.1 c;refine⟨?_,XQ (List.pairwise_lt_range.filter _)⟩;rw[eR];exact aZS (a2O ..) (by simp; omega)
def rL (f:aE) (aXO:Int) (set:List Int) (lv cnt:Int):Int:=if eE f lv cnt≠0 then eE f lv cnt else if HK f aXO set then 0 else 1
def JX (f:aE) (aXO:Int) (set:List Int) (lv cnt:Int):Nat:=if rL f aXO set lv cnt=0 then gZ (dU f lv cnt) set (cX f aXO).m else 0
structure Jq (C:Ctx):Prop extends Jp C where
 vD:∀ (f:aE) (lv cnt:Int),f.Ok→aH C 230 [.agg f.cells,mN lv cnt] .nil (aF (.tup [lay (dU f lv cnt),.int .i64 (eE f lv cnt)]))
 admis:∀ (f:aE) (aXO:Int) (set:List Int),f.Ok→set.length≤1000000000000000→aH C 204 [.agg f.cells,.int .i64 aXO,ints set] .nil (aF (.bool (HK f aXO set)))
 loss:∀ (sc:List (List Int)) (set:List Int) (m:Int),sc.length≤1000000000000000→(∀ s∈sc,s.length≤1000000000000000∧s.Pairwise (· < ·))→set.length≤1000000000000000→set.Pairwise (· < ·)→aH C 208 [lay sc,ints set,.int .i64 m] .nil (aF (.int .i64 (gZ sc set m:Nat)))
theorem akY {C:Ctx} (l:Jq C) (f:aE) (x:f.Ok) (aXO:Int) (set:List Int) (y:set.length≤1000000000000000) (lv cnt:Int) :
  AF.wp C (aR vz.res (aF (.tup [.int .i64 (JX f aXO set lv cnt:Nat),.int .i64 (rL f aXO set lv cnt)]))) (PF.args [.agg f.cells,.int .i64 aXO,ints set,mN lv cnt]) .nil:=by
 have hB:JX f aXO set lv cnt=if rL f aXO set lv cnt=0 then gZ (dU f lv cnt) set (cX f aXO).m else 0:=rfl
 have d:rL f aXO set lv cnt=if eE f lv cnt≠0 then eE f lv cnt else if HK f aXO set then 0 else 1:=rfl
 simp only[go_sem,AF,i9,ja,vz];refine aA (l.vD f lv cnt x) Ev ?_;by_cases c:eE f lv cnt≠0
 ·rw[if_pos c] at d;rw[d,if_neg c] at hB;simp only[go_sem,HR,cT c,jb];refine aO (.inr rfl) Ev ?_;rw[hB,d]; rfl
 have c:eE f lv cnt=0:=Decidable.not_not.1 c;rw[if_neg (fun h=>h c)] at d;simp only[go_sem,HR,c,bS (show (0:Int)=0 from rfl),jc];refine aA (l.admis f aXO set x y) Ev ?_;cases e:HK f aXO set with
 | false =>rw[e,if_neg (by decide)] at d;rw[d,if_neg (by decide)] at hB;simp only[go_sem,aZF,jd];refine aO (.inr rfl) Ev ?_;rw[hB,d]; rfl
 | true =>
  rw[e,if_pos rfl] at d;rw[d,if_pos rfl] at hB;have u:gD f aXO=true∧mU set (eY (cX f aXO)) f.aXC.length=true:=by unfold HK at e;simp only[aZD] at e;exact⟨e.1,e.2.1⟩
  obtain⟨hV,B,H,F⟩:=oK u.1;obtain⟨E,p⟩:=nZ u.1;have i:(f.aXG.map bV.cells)[aXO.toNat]?=some (cX f aXO).cells:=by rw[aZN,p]; rfl
  have hlt:aXO<(f.aXG.length:Nat):=Om;have w:dU f lv cnt=mS f (eT f lv) cnt.toNat:=by unfold dU; rw[if_pos c]
  obtain⟨k1,k2⟩:=MY hV (eT f lv) (vH hV lv).2 cnt.toNat;rw[← w] at k1 k2;simp only[go_sem,aYT,je,B,hlt,aYN,i];refine aA (l.loss (dU f lv cnt) set (cX f aXO).m Om (fun s A=>⟨by have:=(k2 s A).1; omega,(k2 s A).2⟩) y (Xo u.2)) Ev ?_;simp only[go_sem];refine aO (.inr rfl) Ev ?_;rw[hB,d]; rfl
def FR.got:FR→FV
 | .ok x=>x
 | .error _=>(false,0,0)
def FR.err:FR→Int
 | .ok _=>0
 | .error e=>e
theorem WB (r:FR):frV r=.tup [.agg r.got.rf.cells,.int .i64 r.err]:=by
 rcases r with e | ⟨n,a,b⟩
 ·show frV (.error e)=.tup [.agg (dY false (aI 0) (aI 0)),.int .i64 e];rw[dW]; rfl
 ·rfl
def R1:FV→FV
 | (n,a,b)=>(!n,a,b)
def pX (x y:FV):FR:=fW x (R1 y)
def aoG:FV→FV
 | (n,a,b)=>if a=0 then (n,a,b) else (!n,a,b)
theorem aLP (x y:FV):fW x (aoG y)=pX x y:=by
 obtain⟨c,a1,b1⟩:=x;obtain⟨d,a2,b2⟩:=y;unfold pX aoG R1;by_cases h:a2=0
 ·subst h;simp only[if_true,fW,Nat.zero_mul,a0S,Nat.sub_zero,aYS];split<;>rename_i e
  ·cases c<;>cases d<;>simp
  ·rfl
 ·simp only[if_neg h]
def Cst (j:Nat) (x:FV):Prop:=x.2.2≠0∧nl x.2.1≤2+9*j∧nl x.2.2≤1+8*j
theorem aJR {neg:Bool} {a b m n:Nat} (w:b≠0) (c:nl a≤m) (d:nl b≤n) (i:m≤128) (l:n≤128):∃ x,gR neg a b=.ok x∧x.2.2≠0∧nl x.2.1≤m∧nl x.2.2≤n:=by
 have p:=(hL (a/aYP a b) 128).2 (aZS (rF _ c) i);have u:=(hL (b/aYP a b) 128).2 (aZS (rF _ d) l);unfold gR;rw[if_neg Om];refine⟨_,rfl,?_,rF _ c,rF _ d⟩;have e:0<aYP a b:=Nat.gcd_pos_of_pos_right _ Om;have:=Nat.div_pos (Nat.le_of_dvd Om (Nat.gcd_dvd_right a b)) e;show b/aYP a b≠0;omega
theorem aLO {j:Nat} {x y:FV} (w:Cst j x) (M:j≤12) (B:y.2.2≠0∧nl y.2.1≤8∧nl y.2.2≤8):∃ r,pX x y=.ok r∧Cst (j+1) r:=by
 obtain⟨O,a1,b1⟩:=x;obtain⟨Q,a2,b2⟩:=y;obtain⟨d,i,e⟩:=w;obtain⟨g1,g2,g3⟩:=B;simp only at d i e g1 g2 g3;have J:cJ a1 b1=true:=dZ.2 ⟨d,by omega,by omega⟩;have K:cJ a2 b2=true:=dZ.2 ⟨g1,by omega,by omega⟩;have E:=jY i g3;have F:=jY g2 e;have H:=jY e g3;have l:b1*b2≠0:=Nat.mul_ne_zero d g1;have c:∀ neg A,nl A≤2+9*j+8+1→∃ r,gR neg A (b1*b2)=.ok r∧Cst (j+1) r:=by intro neg A p;obtain⟨r,u,k1,k2,N⟩:=aJR (neg:=neg) l p H Om Om;exact⟨r,u,k1,by omega,by omega⟩
 unfold pX R1;simp only[fW,J,K,a0Z,if_true];have s1:=n8 (m:=2+9*j+8) E (aZS F Om);have s2:=fQ (Om:a1*b2-a2*b1≤a1*b2);have s3:=fQ (Om:a2*b1-a1*b2≤a2*b1);split
 ·exact c _ _ s1
 ·split
  ·exact c _ _ Om
  ·exact c _ _ Om
def kN (c:List RF) (d:Int):FV:=(c.map RF.v).getD d.toNat (false,0,1)
def jH (e:List RF) (n:Nat) (l:List Int):FV:=l.foldl (fun c d=>(pX c (kN e d)).got) (false,n,1)
theorem HU (c:List RF) (n:Nat) (l:List Int) (d:Int):jH c n (l++[d])=(pX (jH c n l) (kN c d)).got:=by
 unfold jH;rw[List.foldl_append]; rfl
def Modest (c:List RF):Prop:=∀ x∈c,val x.den≠0∧nl (val x.num)≤8∧nl (val x.den)≤8
theorem Yf {c:List RF} (h:Modest c) (d:Int):(kN c d).2.2≠0∧nl (kN c d).2.1≤8∧nl (kN c d).2.2≤8:=by
 unfold kN;rw[aZG];cases e:(c.map RF.v)[d.toNat]? with
 | none =>
  refine⟨Nat.one_ne_zero,?_,?_⟩
  ·show nl 0≤8;rw[nl,dW]; simp
  ·show nl 1≤8;rw[nl,oC]; simp
 | some x =>obtain⟨y,i,rfl⟩:=aZQ.1 (a1C e);exact h y i
theorem AH {c:List RF} (h:Modest c) {n:Nat} (A:n<18446744073709551616) (l:List Int) (i:l.length≤12):Cst l.length (jH c n l):=by
 obtain⟨r,rfl⟩:∃ r,l=List.reverse r:=⟨l.reverse,by simp⟩
 induction r with
 | nil =>
  refine⟨Nat.one_ne_zero,?_,?_⟩
  ·exact aZS (jZ (n:=n) (k:=2) Om) Om
  ·show nl 1≤_;rw[nl,oC]; simp
 | cons d r y =>
  rw[List.reverse_cons] at i ⊢;have u:r.reverse.length+1≤12:=by simpa using i
  have p:=y Om;rw[HU];obtain⟨x,w,e⟩:=aLO p Om (Yf h d);rw[w,aYU];exact e
def oM (x y:FV):Int:=oL x.1 x.2.1 x.2.2 y.1 y.2.1 y.2.2
def tQ {α:Type} (c:α→FV):Option α→α→Option α
 | none,s=>some s
 | some b,s=>if oM (c s) (c b)<0 then some s else some b
def fX {α:Type} (c:α→FV) (l:List α):Option α:=l.foldl (tQ c) none
theorem BS {α:Type} (c:α→FV) (l:List α) (s:α):fX c (l++[s])=tQ c (fX c l) s:=by
 unfold fX;rw[List.foldl_append]; rfl
def fC (x:RF):Bool:=match kR x with
 | .ok (_,a,b)=>decide (nl a≤2)&&decide (nl b≤2)
 | .error _=>false
def tR (f:aE) (aXO lv cnt:Int) (c:List RF):Int :=
 if eE f lv cnt≠0 then eE f lv cnt
 else if (decide (0≤aXO)&&decide (aXO<f.aXG.length))&&(decide (c.length=f.aXC.length)&&c.all fC) then (if fO f (cX f aXO)=[] then 12 else 0) else 1
def pH (f:aE) (aXO lv cnt:Int) (c:List RF) (set:List Int):FV:=jH c (gZ (dU f lv cnt) set (cX f aXO).m) set
def GW (f:aE) (aXO lv cnt:Int) (c:List RF):Option (List Int):=if tR f aXO lv cnt c=0 then fX (pH f aXO lv cnt c) (fO f (cX f aXO)) else none
def nN (f:aE) (aXO lv cnt:Int) (c:List RF):PV:=.tup [ints ((GW f aXO lv cnt c).getD []),.agg ((GW f aXO lv cnt c).elim (FV.rf (false,0,0)) fun s=>(pH f aXO lv cnt c s).rf).cells,.int .i64 (tR f aXO lv cnt c)]
def Bh:Rg:=[iA 1 (.box false (Tm 0)),iA 2 (.alloc [zB,.aB,.aB])]
def Bi:Rg:=[iF 3 0 1,iL 4 3,iA 5 (.un .not (Tm 4)),iF 6 0 1,iS 1 6 5]
def Bj:Rg:=[iO 7 3 1,iS 3 2 7]
def DO:aC:=(sq Bh (sq Bi (sq Bj .ret)))
def asG:List Nat:=[]
def M1:aX:=⟨1,8,DO,[.cell 2 (some 3)]⟩
def aaM:Rg:=[iA 2 (.box true (Tm 0)),iA 3 (.box true (Tm 1)),iA 4 (.alloc [zB,.aB,.aB]),iI 5 0]
def aaN:Rd:=[(iO 6 3 2,true),(iO 7 3 3,false),(iK 8 279 7,true),(iK2 9 113 6 8,true),(iE 10 9 0,false),(iE 11 9 1,false)]
def aaO:Rd:=[(iS 3 4 10,true),(iM 5 11,false)]
def RP:aC:=(sq aaM (.seq (dq aaN (.draw aaO)) .ret))
def aIN:List Nat:=[2,3]
def we:aX:=⟨2,12,RP,[.cell 4 (some 3),.tmp 5]⟩
def aiJ:Rg:=[iA 1 (.box true (Tm 0)),iA 2 (.alloc [zB,.aB,.aB])]
def aiK:Rg:=[iF 3 1 1,iL 4 3,iK 5 38 4,iN 6 5,iC 7 .eql 6 0]
def aiL:Rg:=[iO 8 3 1,iS 3 2 8]
def aiM:Rg:=[iF 9 0 1,iL 10 9,iA 11 (.un .not (Tm 10)),iF 12 1 1,iL 13 12,iF 14 2 1,iL 15 14,iA 16 (.build [zB,.aB,.aB] [(0,1,(Tm 11)),(1,1,(Tm 13)),(2,1,(Tm 15))]),iS 3 2 16]
def VI:aC:=(sq aiJ (.seq (sq aiK (.cond (Tm 7) (sq aiL .ret) .skip)) (sq aiM .ret)))
def aMK:List Nat:=[1]
def aFS:aX:=⟨1,17,VI,[.cell 2 (some 3)]⟩
def aiN:Rg:=[iA 2 (.box true (Tm 0)),iA 3 (.box true (Tm 1)),iA 4 (.alloc [zB,.aB,.aB]),iI 5 0]
def aiO:Rd:=[(iO 6 3 2,true),(iO 7 3 3,false),(iK 8 281 7,true),(iK2 9 46 6 8,true),(iE 10 9 0,false),(iE 11 9 1,false)]
def aiP:Rd:=[(iS 3 4 10,true),(iM 5 11,false)]
def VJ:aC:=(sq aiN (.seq (dq aiO (.draw aiP)) .ret))
def aMM:List Nat:=[2,3]
def yx:aX:=⟨2,12,VJ,[.cell 4 (some 3),.tmp 5]⟩
def jh:Rg:=[iA 1 (.box true (Tm 0)),iT 2 false]
def ji:Rg:=[iO 6 3 1,iK 7 116 6,iM 5 7,iE 8 5 0,iE 9 5 1,iA 3 (.alloc [zB,.aB,.aB]),iS 3 3 8,iM 4 9]
def HV:Rg:=[iM 10 4,iC 11 .eql 10 0,iM 12 11,gF 13 1 3 12 true,gL 14 13 12 true,gK 15 128 14 12 true,gC 16 .leq 15 64 12 true,iP 17 12 16,iM 18 17,gF 19 2 3 18 true,gL 20 19 18 true,gK 21 128 20 18 true,gC 22 .leq 21 64 18 true,iP 23 18 22,iM 2 23]
def AI:aC:=(sq jh (sq ji (sq HV .ret)))
def alE:List Nat:=[1]
def v6:aX:=⟨1,24,AI,[.tmp 2]⟩
def zz:Rg:=[iA 4 (.box true (Tm 0)),iA 6 (.box true (Tm 2)),iZ 8,iA 9 (.alloc [zB,.aB,.aB]),iI 10 0]
def z8:Rg:=[iO 27 7 4,iO 28 2 6,iK2 29 230 27 28,iM 26 29,iE 30 26 0,iE 31 26 1,iM 11 30,iM 12 31]
def QP:Rg:=[iM 33 12,iC 34 .neq 33 0,iM 32 34]
def Aa:Rg:=[iA 35 (.build [zB,.aB,.aB] []),iM 36 12,iZ 8,iS 3 9 35,iM 10 36]
def Ab:Rg:=[iM 38 1,iC 39 .lss 38 0,iM 40 39,gM 41 1 40 false,gF 42 5 4 40 false,gL 43 42 40 false,gN 44 43 40 false,gB 45 .geq 41 44 40 false,iQ 46 40 45,iM 47 46,gM 48 3 47 false,gN 49 48 47 false,gF 50 4 4 47 false,gL 51 50 47 false,gN 52 51 47 false,gB 53 .neq 49 52 47 false,iQ 54 47 53,iM 37 54]
def BY:Rg:=[iA 55 (.build [zB,.aB,.aB] []),iZ 8,iS 3 9 55,iI 10 1]
def Ac:Rg:=[iM 56 3,iN 57 56,iI 58 0]
def Ad:Rg:=[iB 59 .lss 58 57]
def Ae:Rg:=[iX 60 3 56 58,iO 61 3 60,iA 14 (.alloc [zB,.aB,.aB]),iS 3 14 61]
def Af:Rg:=[iO 62 3 14,iK 63 232 62,iA 64 (.un .not (Tm 63))]
def jl:Rg:=[iA 65 (.build [zB,.aB,.aB] []),iZ 8,iS 3 9 65,iI 10 1]
def jm:Rg:=[iC 66 .add 58 1,iM 58 66]
def jj:aC:=(sq Ad (.seq (.cond (Tm 59) .skip (.exit 1)) (.seq (.block 2 (sq Ae (sq Af (.cond (Tm 64) (sq jl .ret) .skip)))) (.region jm))))
def jn:Rg:=[iF 67 5 4,iL 68 67,iM 69 1,iX 70 17 68 69,iO 71 17 70,iA 15 (.alloc [(.str []),zI,zI,zI,zI,zI,zI,zI,zI,.aB,.aB,zB,.aB,.aB,zB,.aB,.aB]),iS 17 15 71]
def jo:Rg:=[iZ 16]
def jp:Rg:=[iA 17 (.alloc [zB,.aB,.aB])]
def jr:Rg:=[iO 72 7 4,iO 73 17 15,iK2 74 229 72 73,iN 75 74,iI 76 0]
def js:Rg:=[iB 77 .lss 76 75]
def jt:Rg:=[iX 78 1 74 76,iL 79 78,iM 19 79]
def ju:Rg:=[iM 81 11,iM 82 19,iF 83 2 15,iL 84 83,iA 85 (.call 208 [(Tm 81),(Tm 82),(Tm 84)]),iA 86 (.call 115 [(Tm 85),(Ci 1)]),iM 80 86,iE 87 80 0,iE 88 80 1,iA 20 (.alloc [zB,.aB,.aB]),iS 3 20 87,iM 21 88]
def jv:Rg:=[iM 89 19,iN 90 89,iI 91 0]
def jw:Rg:=[iB 92 .lss 91 90]
def jx:Rg:=[iX 93 1 89 91,iL 94 93,iM 23 94]
def jy:Rd:=[(iO 96 3 20,false),(iM 97 3,false),(iM 98 23,false),(iX 99 3 97 98,false),(iO 100 3 99,false),(iK2 101 278 96 100,true),(iM 95 101,false),(iE 102 95 0,false),(iE 103 95 1,true),(iS 3 20 102,true)]
def jz:Rg:=[iC 104 .add 91 1,iM 91 104]
def HW:aC:=(sq jw (.seq (.cond (Tm 92) .skip (.exit 5)) (.seq (.block 6 (sq jx (.draw jy))) (.region jz))))
def HX:Rg:=[iO 106 3 20,iO 107 3 17,iK2 108 114 106 107,iM 105 108,iE 109 105 0,iE 110 105 1,iM 24 109,iM 25 110]
def HY:Rg:=[iM 111 16,iA 112 (.isNil false (Tm 111)),iM 113 112,gM 114 24 113 false,gC 115 .lss 114 0 113 false,iQ 116 113 115]
def HZ:Rd:=[(iM 117 19,false),(iO 118 3 20,false),(iM 16 117,false),(iS 3 17 118,true)]
def xH:Rg:=[iC 119 .add 76 1,iM 76 119]
def jk:aC:=(sq js (.seq (.cond (Tm 77) .skip (.exit 3)) (.seq (.block 4 (sq jt (sq ju (.seq (sq jv (.block 5 (.loop HW))) (sq HX (sq HY (.cond (Tm 116) (.draw HZ) .skip))))))) (.region xH))))
def IA:Rg:=[iM 120 16,iA 121 (.isNil false (Tm 120))]
def j2:Rg:=[iA 122 (.build [zB,.aB,.aB] []),iZ 8,iS 3 9 122,iI 10 12]
def j3:Rd:=[(iM 123 16,false),(iO 124 3 17,false),(iM 8 123,false),(iS 3 9 124,true),(iI 10 0,false)]
def DK:aC:=(sq zz (sq z8 (.seq (.block 0 (sq QP (.cond (Tm 32) (sq Aa .ret) (sq Ab (.cond (Tm 37) (sq BY .ret) .skip))))) (.seq (sq Ac (.block 1 (.loop jj))) (sq jn (sq jo (sq jp (.seq (sq jr (.block 3 (.loop jk))) (.seq (sq IA (.cond (Tm 121) (sq j2 .ret) .skip)) (dq j3 .ret))))))))))
def arI:List Nat:=[4,6]
def K3:aX:=⟨4,125,DK,[.tmp 8,.cell 9 (some 3),.tmp 10]⟩
def p9:Rg:=[iT 4 false]
def qa:Rg:=[iM 8 0,iN 9 8,iM 10 1,iB 11 .neq 9 10]
def qb:Rg:=[iT 4 false]
def qc:Rg:=[iI 5 0]
def qd:Rg:=[iM 12 5,iM 13 1,iB 14 .lss 12 13]
def qe:Rg:=[iM 18 0,iM 19 5,iX 20 3 18 19,iO 21 3 20,iK 22 52 21,iM 17 22,iE 23 17 0,iE 24 17 1,iA 6 (.alloc [zB,.aB,.aB]),iS 3 6 23,iM 7 24]
def MP:Rg:=[iM 25 7,iC 26 .neq 25 0,iM 27 26,gF 28 1 6 27 false,gL 29 28 27 false,gN 30 29 27 false,gC 31 .gtr 30 2 27 false,iQ 32 27 31,iM 33 32,gF 34 2 6 33 false,gL 35 34 33 false,gN 36 35 33 false,gC 37 .gtr 36 2 33 false,iQ 38 33 37]
def yD:Rg:=[iT 4 false]
def qf:Rg:=[iM 15 5,iC 16 .add 15 1,iM 5 16]
def p8:aC:=(.seq (sq qd (.cond (Tm 14) .skip (.exit 0))) (.seq (.block 1 (sq qe (sq MP (.cond (Tm 38) (sq yD .ret) .skip)))) (.region qf)))
def YU:Rg:=[iT 4 true]
def BA:aC:=(sq p9 (.seq (sq qa (.cond (Tm 11) (sq qb .ret) .skip)) (.seq (sq qc (.block 0 (.loop p8))) (sq YU .ret))))
def aoS:List Nat:=[]
def yd:aX:=⟨2,39,BA,[.tmp 4]⟩
def Eo:Rg:=[iA 4 (.box true (Tm 0)),iA 6 (.box true (Tm 2)),iZ 8,iA 9 (.alloc [zB,.aB,.aB]),iI 10 0]
def Ep:Rg:=[iO 21 7 4,iO 22 2 6,iK2 23 219 21 22,iM 20 23,iE 24 20 0,iE 25 20 1,iM 11 24,iM 12 25]
def TV:Rg:=[iM 26 12,iC 27 .neq 26 0]
def Er:Rg:=[iA 28 (.build [zB,.aB,.aB] []),iM 29 12,iZ 8,iS 3 9 28,iM 10 29]
def Es:Rg:=[iM 30 1,iC 31 .lss 30 0,iM 32 31,gM 33 1 32 false,gF 34 5 4 32 false,gL 35 34 32 false,gN 36 35 32 false,gB 37 .geq 33 36 32 false,iQ 38 32 37,iM 39 38,gM 40 3 39 false,gF 41 4 4 39 false,gL 42 41 39 false,gN 43 42 39 false,gK2 44 234 40 43 39 false,iG 45 (.un .not (Tm 44)) 39 false,iQ 46 39 45]
def CR:Rg:=[iA 47 (.build [zB,.aB,.aB] []),iZ 8,iS 3 9 47,iI 10 1]
def Et:Rg:=[iO 49 7 4,iM 50 1,iK2 51 216 49 50,iM 48 51,iE 52 48 0,iE 53 48 1,iM 13 52,iM 14 53]
def Eu:Rg:=[iZ 15]
def Ew:Rg:=[iA 16 (.alloc [zB,.aB,.aB])]
def Ex:Rg:=[iI 17 0]
def qj:Rg:=[iM 54 17,iM 55 13,iN 56 55,iB 57 .lss 54 56]
def qk:Rd:=[(iM 60 11,false),(iM 61 13,false),(iM 62 17,false),(iX 63 1 61 62,false),(iL 64 63,false),(iF 65 5 4,false),(iL 66 65,false),(iM 67 1,false),(iX 68 17 66 67,false),(iF 69 2 68,false),(iL 70 69,false),(iA 71 (.call 220 [(Tm 60),(Tm 64),(Tm 70)]),true),(iK 72 47 71,true),(iA 18 (.alloc [zB,.aB,.aB]),true),(iS 3 18 72,true)]
def qn:Rg:=[iI 19 0]
def qp:Rg:=[iM 73 19,iM 74 13,iM 75 17,iX 76 1 74 75,iL 77 76,iN 78 77,iB 79 .lss 73 78]
def qq:Rd:=[(iO 83 3 18,false),(iM 84 3,false),(iM 85 13,false),(iM 86 17,false),(iX 87 1 85 86,false),(iL 88 87,false),(iM 89 19,false),(iX 90 1 88 89,false),(iL 91 90,false),(iX 92 3 84 91,false),(iO 93 3 92,false),(iK2 94 280 83 93,true),(iM 82 94,false),(iE 95 82 0,false),(iE 96 82 1,true),(iS 3 18 95,true)]
def qr:Rg:=[iM 80 19,iC 81 .add 80 1,iM 19 81]
def MQ:aC:=(.seq (sq qp (.cond (Tm 79) .skip (.exit 2))) (.seq (.block 3 (.draw qq)) (.region qr)))
def MR:Rg:=[iM 97 15,iA 98 (.isNil false (Tm 97)),iM 99 98,gO 100 3 18 99 false,gO 101 3 16 99 false,gK2 102 49 100 101 99 false,iQ 103 99 102]
def MS:Rd:=[(iM 104 13,false),(iM 105 17,false),(iX 106 1 104 105,false),(iL 107 106,false),(iO 108 3 18,false),(iM 15 107,false),(iS 3 16 108,true)]
def yG:Rg:=[iM 58 17,iC 59 .add 58 1,iM 17 59]
def qi:aC:=(.seq (sq qj (.cond (Tm 57) .skip (.exit 0))) (.seq (.block 1 (dq qk (.seq (sq qn (.block 2 (.loop MQ))) (sq MR (.cond (Tm 103) (.draw MS) .skip))))) (.region yG)))
def MT:Rg:=[iM 109 15,iA 110 (.isNil false (Tm 109))]
def qt:Rg:=[iA 111 (.build [zB,.aB,.aB] []),iZ 8,iS 3 9 111,iI 10 12]
def qu:Rd:=[(iM 112 15,false),(iO 113 3 16,false),(iM 8 112,false),(iS 3 9 113,true),(iI 10 0,false)]
def ES:aC:=(sq Eo (sq Ep (.seq (sq TV (.cond (Tm 27) (sq Er .ret) .skip)) (.seq (sq Es (.cond (Tm 46) (sq CR .ret) .skip)) (sq Et (sq Eu (sq Ew (.seq (sq Ex (.block 0 (.loop qi))) (.seq (sq MT (.cond (Tm 110) (sq qt .ret) .skip)) (dq qu .ret))))))))))
def avD:List Nat:=[4,6]
def BB:aX:=⟨4,114,ES,[.tmp 8,.cell 9 (some 3),.tmp 10]⟩
def Zs:Rg:=[iT 4 false]
def Zt:Rg:=[iM 6 0,iN 7 6,iM 8 1,iN 9 8,iB 10 .neq 7 9]
def Zu:Rg:=[iT 4 false]
def Zv:Rg:=[iI 5 0]
def Zw:Rg:=[iM 11 5,iM 12 0,iN 13 12,iB 14 .lss 11 13]
def Zx:Rd:=[(iM 17 0,false),(iM 18 5,false),(iX 19 1 17 18,false),(iL 20 19,false),(iM 21 1,false),(iM 22 5,false),(iX 23 1 21 22,false),(iL 24 23,false),(iB 25 .neq 20 24,false)]
def Zy:Rg:=[iT 4 false]
def Zz:Rg:=[iM 15 5,iC 16 .add 15 1,iM 5 16]
def Zr:aC:=(.seq (sq Zw (.cond (Tm 14) .skip (.exit 0))) (.seq (.block 1 (dq Zx (.cond (Tm 25) (sq Zy .ret) .skip))) (.region Zz)))
def Z1:Rg:=[iT 4 true]
def RG:aC:=(sq Zs (.seq (sq Zt (.cond (Tm 10) (sq Zu .ret) .skip)) (.seq (sq Zv (.block 0 (.loop Zr))) (sq Z1 .ret))))
def aHX:List Nat:=[]
def aAA:aX:=⟨2,26,RG,[.tmp 4]⟩
def L5:Rg:=[iA 2 (.box true (Tm 0)),iA 3 (.box true (Tm 1)),iT 4 false]
def L6:Rg:=[iF 5 0 2,iL 6 5,iF 7 0 3,iL 8 7,iA 9 (.eqb false (Tm 6) (Tm 8)),iM 10 9,gF 11 1 2 10 true,gL 12 11 10 true,gF 13 1 3 10 true,gL 14 13 10 true,gK2 15 236 12 14 10 true,iP 16 10 15,iM 17 16,gF 18 2 2 17 true,gL 19 18 17 true,gF 20 2 3 17 true,gL 21 20 17 true,gK2 22 236 19 21 17 true,iP 23 17 22,iM 4 23]
def IP:aC:=(sq L5 (sq L6 .ret))
def azU:List Nat:=[2,3]
def alM:aX:=⟨2,24,IP,[.tmp 4]⟩
def Dg:Rg:=[iT 12 false]
def Dh:Rg:=[iM 26 0,iA 27 (.call 27 [(Tm 26),(Ci 8),(Ci 0)]),iA 13 (.alloc [zI,.aB,.aB,.aB,.aB,.aB,.aB]),iS 7 13 27]
def Di:Rg:=[iM 28 1,iA 29 (.conv .i64 (Tm 28)),iF 30 5 13,iL 31 30,iN 32 31,iB 33 .rem 29 32,iM 14 33]
def Dj:Rg:=[iM 34 2,iM 35 3,iK2 36 223 34 35,iA 15 (.alloc [zI,zI]),iS 2 15 36]
def Dk:Rg:=[iZ 16]
def Dl:Rg:=[iI 17 0]
def Dm:Rg:=[iM 37 17,iF 38 4 13,iL 39 38,iN 40 39,iB 41 .lss 37 40]
def Dn:Rg:=[iA 44 (.call 47 [(Ci 0)]),iA 18 (.alloc [zB,.aB,.aB]),iS 3 18 44]
def Do:Rg:=[iM 45 17,iM 46 4,iN 47 46,iB 48 .lss 45 47]
def Dp:Rg:=[iM 50 4,iM 51 17,iX 52 1 50 51,iL 53 52,iA 54 (.conv .i64 (Tm 53)),iA 55 (.call 50 [(Tm 54),(Ci 4)]),iM 49 55,iE 56 49 0,iE 57 49 1,iS 3 18 56]
def LK:Rg:=[iM 58 16,iO 59 3 18,iA 60 (.aXI true 3 1 [zB,.aB,.aB] [(0,(Tm 59))]),iA 61 (.append 3 56 (Tm 58) (Tm 60)),iM 16 61]
def LL:Rg:=[iM 42 17,iC 43 .add 42 1,iM 17 43]
def LH:aC:=(.seq (sq Dm (.cond (Tm 41) .skip (.exit 0))) (.seq (.block 1 (sq Dn (.seq (sq Do (.cond (Tm 48) (.region Dp) .skip)) (.region LK)))) (.region LL)))
def oa:Rg:=[iO 63 7 13,iM 64 14,iO 65 2 15,iM 66 16,iA 67 (.call 231 [(Tm 63),(Tm 64),(Tm 65),(Tm 66)]),iM 62 67,iE 68 62 0,iE 69 62 1,iE 70 62 2,iA 20 (.alloc [zB,.aB,.aB]),iM 19 68,iS 3 20 69,iM 21 70]
def oc:Rg:=[iO 72 7 13,iM 73 14,iO 74 2 15,iM 75 16,iA 76 (.call 233 [(Tm 72),(Tm 73),(Tm 74),(Tm 75)]),iM 71 76,iE 77 71 0,iE 78 71 1,iE 79 71 2,iA 23 (.alloc [zB,.aB,.aB]),iM 22 77,iS 3 23 78,iM 24 79]
def oe:Rg:=[iM 80 21,iM 81 24,iB 82 .neq 80 81,iM 83 82,gM 84 19 83 false,gM 85 22 83 false,gK2 86 94 84 85 83 false,iG 87 (.un .not (Tm 86)) 83 false,iQ 88 83 87,iM 89 88,gO 90 3 20 89 false,gO 91 3 23 89 false,gK2 92 235 90 91 89 false,iG 93 (.un .not (Tm 92)) 89 false,iQ 94 89 93]
def aoC:Rg:=[iT 12 false]
def LM:Rg:=[iM 95 5,iN 96 95,iC 97 .gtr 96 20]
def LN:Rg:=[iA 98 (.call 222 []),iM 12 98]
def LO:Rg:=[iI 25 0]
def og:Rg:=[iM 99 25,iM 100 5,iN 101 100,iB 102 .lss 99 101]
def oi:Rg:=[iM 105 5,iM 106 25,iX 107 3 105 106,iF 108 1 107,iL 109 108,iN 110 109,iC 111 .gtr 110 8,iM 112 111,gM 113 5 112 false,gM 114 25 112 false,iG 115 (.aXT 3 (Tm 113) (Tm 114)) 112 false,gF 116 2 115 112 false,gL 117 116 112 false,gN 118 117 112 false,gC 119 .gtr 118 8 112 false,iQ 120 112 119]
def LP:Rg:=[iA 121 (.call 222 []),iM 12 121]
def oj:Rg:=[iM 103 25,iC 104 .add 103 1,iM 25 104]
def LJ:aC:=(.seq (sq og (.cond (Tm 102) .skip (.exit 2))) (.seq (.block 3 (sq oi (.cond (Tm 120) (sq LP .ret) .skip))) (.region oj)))
def LQ:Rg:=[iO 123 7 13,iM 124 14,iO 125 2 15,iM 126 5,iA 127 (.call 231 [(Tm 123),(Tm 124),(Tm 125),(Tm 126)]),iM 122 127,iE 128 122 0,iE 129 122 1,iE 130 122 2,iM 19 128,iS 3 20 129,iM 21 130]
def LS:Rg:=[iO 132 7 13,iM 133 14,iO 134 2 15,iM 135 5,iA 136 (.call 233 [(Tm 132),(Tm 133),(Tm 134),(Tm 135)]),iM 131 136,iE 137 131 0,iE 138 131 1,iE 139 131 2,iM 22 137,iS 3 23 138,iM 24 139]
def LT:Rg:=[iM 140 21,iM 141 24,iB 142 .eql 140 141,iM 143 142,gM 144 19 143 true,gM 145 22 143 true,gK2 146 94 144 145 143 true,iP 147 143 146,iM 148 147,gO 149 3 20 148 true,gO 150 3 23 148 true,gK2 151 235 149 150 148 true,iP 152 148 151,iM 153 152,iG 154 (.call 222 []) 153 true,iP 155 153 154,iM 12 155]
def EO:aC:=(sq Dg (sq Dh (sq Di (sq Dj (sq Dk (.seq (sq Dl (.block 0 (.loop LH))) (sq oa (sq oc (.seq (sq oe (.cond (Tm 94) (sq aoC .ret) .skip)) (.seq (sq LM (.cond (Tm 97) (sq LN .ret) .skip)) (.seq (sq LO (.block 2 (.loop LJ))) (sq LQ (sq LS (sq LT .ret))))))))))))))
def atV:List Nat:=[60]
def n9:aX:=⟨6,156,EO,[.tmp 12]⟩
def RF.KX (x:RF):RF:=⟨!x.neg,x.num,x.den⟩
theorem aOH (x:RF):x.KX.v=R1 x.v:=rfl
theorem aKI {x:RF} (h:x.Ok):x.KX.Ok:=h
theorem asF {C:Ctx} (x:RF):DO.wp C (aR M1.res (aF (.agg x.KX.cells))) (PF.args [.agg x.cells]) .nil:=by
 simp only[go_sem,DO,Bh,M1];refine aN fun o l=>?_;simp only[go_sem];refine aN fun o2 i=>?_;have c:¬ o=o2:=fun e=>by rw[← e,cR] at i; cases i
 have d:¬ o2=o:=fun e=>c e.symm;simp only[go_sem,Bi,c,d,Bj];refine aO (.inr rfl) Ev ?_;rfl
def stS (k:Nat) (a b:PV):Spec:=fun name _=>if name=k then some ([],fun _=>aF a) else some ([],fun _=>aF b)
theorem aIM {C:Ctx} (L:HG C) (d:∀ x:RF,aH C 279 [.agg x.cells] .nil (aF (.agg x.KX.cells))) (x y:RF) (e:x.Ok) (i:y.Ok) :
  RP.wp C (aR we.res (aF (frV (pX x.v y.v)))) (PF.args [.agg x.cells,.agg y.cells]) .nil:=by
 have c:=L.plus x y.KX e (aKI i);rw[aOH] at c;unfold pX;generalize fW x.v (R1 y.v)=r at *
 rw[WB] at c ⊢;simp only[go_sem,RP,aaM,we];refine aN fun o l=>?_;simp only[go_sem];refine bO .nil (stS 279 (.agg y.KX.cells) (.tup [.agg r.got.rf.cells,.int .i64 r.err])) a_ ?_;simp only[go_sem,aaN];refine bP rfl (d y) Sq a_ ?_;simp only[go_sem];refine bP rfl c Sq a_ ?_;simp only[go_sem];refine bO .nil dT a_ ?_;simp only[go_sem,aaO];refine⟨a_,?_⟩;refine aO (.inr rfl) Ev ?_;rfl
def RF.opp (x:RF):RF:=if val x.num=0 then x else x.KX
theorem aRS (x:RF):x.opp.v=aoG x.v:=by
 unfold RF.opp aoG RF.v RF.KX;simp only;split<;>rfl
theorem aOO {x:RF} (h:x.Ok):x.opp.Ok:=by
 unfold RF.opp;split
 ·exact h
 ·exact h
theorem aMJ {C:Ctx} (L:pC C) (x:RF) (e:x.Ok):VI.wp C (aR aFS.res (aF (.agg x.opp.cells))) (PF.args [.agg x.cells]) .nil:=by
 simp only[go_sem,VI,aiJ,aFS];refine aN fun o l=>?_;simp only[go_sem,aiK];refine aA (L.trim x.num e.1 e.2.2.1) Sq ?_;simp only[go_sem,aYN,aW];have i:=@gU (val x.num);unfold RF.opp;by_cases c:val x.num=0
 ·have d:((nl (val x.num):Nat):Int)=0:=Om;rw[if_pos c];simp only[go_sem,bN d,aiL];refine aO (.inr rfl) Ev ?_;rfl
 ·have d:¬ ((nl (val x.num):Nat):Int)=0:=Om;rw[if_neg c];simp only[go_sem,bD d,aiM];refine aO (.inr rfl) Ev ?_;rfl
theorem aML {C:Ctx} (plus:∀ x y:RF,x.Ok→y.Ok→aH C 46 [.agg x.cells,.agg y.cells] .nil (aF (frV (fW x.v y.v)))) (e:∀ x:RF,x.Ok→aH C 281 [.agg x.cells] .nil (aF (.agg x.opp.cells))) (x y:RF) (i:x.Ok) (d:y.Ok) :
  VJ.wp C (aR yx.res (aF (frV (pX x.v y.v)))) (PF.args [.agg x.cells,.agg y.cells]) .nil:=by
 have c:=plus x y.opp i (aOO d);rw[aRS,aLP] at c;generalize pX x.v y.v=r at *
 rw[WB] at c ⊢;simp only[go_sem,VJ,aiN,yx];refine aN fun o l=>?_;simp only[go_sem];refine bO .nil (stS 281 (.agg y.opp.cells) (.tup [.agg r.got.rf.cells,.int .i64 r.err])) a_ ?_;simp only[go_sem,aiO];refine bP rfl (e y d) Sq a_ ?_;simp only[go_sem];refine bP rfl c Sq a_ ?_;simp only[go_sem];refine bO .nil dT a_ ?_;simp only[go_sem,aiP];refine⟨a_,?_⟩;refine aO (.inr rfl) Ev ?_;rfl
theorem SK {x:RF} (h:fC x=true):∃ r,kR x=.ok r∧nl r.2.1≤2∧nl r.2.2≤2∧val x.den≠0:=by
 unfold fC at h;split at h
 ·rename_i n a b e;simp only[aZD,decide_eq_true_eq] at h;refine⟨_,e,h.1,h.2,?_⟩;unfold kR at e;split at e
  ·rename_i c;exact (dZ.1 c).1
  ·cases e
 ·cases h
theorem alD {C:Ctx} (L:HG C) (x:RF) (A:x.Ok):AI.wp C (aR v6.res (aF (.bool (fC x)))) (PF.args [.agg x.cells]) .nil:=by
 have l:=L.red x A;have i:fC x=match kR x with | .ok (_,a,b)=>decide (nl a≤2)&&decide (nl b≤2) | .error _=>false:=rfl
 simp only[go_sem,AI,jh,v6,ji];refine aA l Sq ?_;cases p:kR x with
 | error e =>have u:=MK p;rw[p] at i;simp only at i;rw[i];simp only[go_sem,frV];refine aN fun o y=>?_;simp only[go_sem,HV,bD u];refine aO (.inr rfl) Ev ?_;rfl
 | ok r =>
  obtain⟨n,a,b⟩:=r;rw[p] at i;simp only at i;rw[i];have B:=hL a 2;have E:=hL b 2;have c:=afQ p;simp only[go_sem,frV];refine aN fun o y=>?_;simp only[go_sem,HV];refine aA (L.bits (aI a) c.1 c.2.2.1) Sq ?_;simp only[go_sem,aS];by_cases w:nl a≤2
  ·have d:((cL a:Nat):Int)≤64:=Om;simp only[go_sem,d];refine aA (L.bits (aI b) c.2.1 c.2.2.2) Sq ?_;simp only[go_sem,aS];refine aO (.inr rfl) Ev ?_;rw[bL,decide_eq_true w,aYZ,decide_eq_decide.2 (Om:((cL b:Nat):Int)≤64↔nl b≤2)]
  ·have d:¬ ((cL a:Nat):Int)≤64:=Om;simp only[go_sem,d];refine aO (.inr rfl) Ev ?_;rw[bL,decide_eq_false w,aYW]
theorem aoR {C:Ctx} (L:io C) (l:List RF) (N:∀ x∈l,x.Ok) (n:Nat) (S:n≤1000):BA.wp C (aR yd.res (aF (.bool (decide (l.length=n)&&l.all fC)))) (PF.args [frs l,.int .i64 n]) .nil:=by
 simp only[go_sem,BA,p9,yd,qa,aYN];by_cases c:l.length=n
 ·subst c;simp only[go_sem,bS (show (l.length:Int)=(l.length:Nat) from rfl),qc,decide_true,aYZ];refine wp_loop (α:=Nat) (fun k=>(((PF.nil.set 0 (frs l)).set 1 (.int .i64 (l.length:Nat))).set 5 (.int .i64 k))) (fun _=>.nil) (fun k=>k≤l.length∧∀ x∈l.take k,fC x=true) (fun k=>l.length-k) 0 ⟨aYS _,fun x h=>by cases h⟩ Lq a_ ?_;rintro k ⟨R,d⟩;have d:(l.take k).all fC=true:=aZC.2 d;simp only[go_sem,p8,qd];by_cases hlt:k<l.length
  ·have u:(k:Int)<(l.length:Nat):=Om;have Q:(l.map RF.cells)[k]?=some (l[k]).cells:=by simp[hlt]
   have B:=L.red l[k] (N _ (aYQ hlt));have A:(l.take (k+1)).all fC=fC l[k]:=by rw[aZW hlt,a1X,d]; simp
   have i:fC l[k]=match kR l[k] with | .ok (_,a,b)=>decide (nl a≤2)&&decide (nl b≤2) | .error _=>false:=rfl
   have p:fC l[k]=false→l.all fC=false:=fun h=>by
    cases M:l.all fC with
    | false=>rfl
    | true=>rw[aZC.1 M _ (aYQ hlt)] at h; cases h
   simp only[go_sem,u,qe,aYN,Q];refine aA B Sq ?_;cases E:kR l[k] with
   | error e =>have F:=MK E;rw[E] at i;simp only[go_sem,frV];refine aN fun o O=>?_;simp only[go_sem,MP,cT F,yD];refine aO (.inr rfl) Ev ?_;rw[bL,p i]
   | ok r =>
    obtain⟨U,a,b⟩:=r;rw[E] at i;simp only at i;simp only[go_sem,frV];refine aN fun o O=>?_;simp only[go_sem,MP,bS (show (0:Int)=0 from rfl),aYN,aW];by_cases H:nl a≤2
    ·have w:¬ ((nl a:Nat):Int)>2:=Om;rw[decide_eq_true H,aYZ] at i;simp only[go_sem,w,aYN,aW];by_cases J:nl b≤2
     ·have y:¬ ((nl b:Nat):Int)>2:=Om;rw[decide_eq_true J] at i;simp only[go_sem,y,qf,wZz k];exact aD (k+1) ⟨hlt,aZC.1 (A.trans i)⟩ Om Lq a_
     ·have y:((nl b:Nat):Int)>2:=Om;rw[decide_eq_false J] at i;simp only[go_sem,y,yD];refine aO (.inr rfl) Ev ?_;rw[bL,p i]
    ·have w:((nl a:Nat):Int)>2:=Om;rw[decide_eq_false H,aYW] at i;simp only[go_sem,w,yD];refine aO (.inr rfl) Ev ?_;rw[bL,p i]
  ·have u:¬ (k:Int)<(l.length:Nat):=Om;have:k=l.length:=Om;subst this;rw[aZK] at d;simp only[go_sem,u,YU];refine aO (.inr rfl) Ev ?_;rw[bL,d]
 ·have K:¬ (l.length:Int)=(n:Nat):=Om;simp only[go_sem,cT K,qb];refine aO (.inr rfl) Ev ?_;rw[bL,decide_eq_false c,aYW]
theorem aHW {C:Ctx} (a b:List Nat) (w:a.length≤35184372087808) (x:b.length≤35184372087808):RG.wp C (aR aAA.res (aF (.bool (decide (a=b))))) (PF.args [aJ a,aJ b]) .nil:=by
 simp only[go_sem,RG,Zs,aAA,Zt,aYN];by_cases c:a.length=b.length
 ·simp only[go_sem,bS (Om:(a.length:Int)=(b.length:Nat)),Zv];refine wp_loop (α:=Nat) (fun k=>(((PF.nil.set 0 (aJ a)).set 1 (aJ b)).set 5 (.int .i64 k))) (fun _=>.nil) (fun k=>k≤a.length∧a.take k=b.take k) (fun k=>a.length-k) 0 ⟨aYS _,rfl⟩ Lq a_ ?_;rintro k ⟨y,i⟩;simp only[go_sem,Zr,Zw,aYN];by_cases hlt:k<a.length
  ·have d:(k:Int)<(a.length:Nat):=Om;have l:k<b.length:=Om;have p:(aL a)[k]?=some [.int .u32 (a[k]:Nat)]:=by simp[aL,hlt]
   have u:(aL b)[k]?=some [.int .u32 (b[k]:Nat)]:=by simp[aL,l]
   simp only[go_sem,d];refine bO .nil dT a_ ?_;simp only[go_sem,Zx,p,u];by_cases e:a[k]=b[k]
   ·simp only[go_sem,bS (Om:((a[k]:Nat):Int)=(b[k]:Nat)),Zz,wZz k];exact aD (k+1) ⟨hlt,by rw[aZW hlt,aZW l,i,e]⟩ Om Lq a_
   ·simp only[go_sem,cT (Om:¬ ((a[k]:Nat):Int)=(b[k]:Nat)),Zy];refine aO (.inr rfl) Ev ?_;rw[bL,decide_eq_false fun h=>e (by subst h; rfl)]
  ·have d:¬ (k:Int)<(a.length:Nat):=Om;have:k=a.length:=Om;subst this;rw[aZK,c,aZK] at i;simp only[go_sem,d,Z1];refine aO (.inr rfl) Ev ?_;rw[bL,decide_eq_true i]
 ·simp only[go_sem,cT (Om:¬ (a.length:Int)=(b.length:Nat)),Zu];refine aO (.inr rfl) Ev ?_;rw[bL,decide_eq_false fun h=>c (by rw[h])]
theorem azT {C:Ctx} (l:∀ a b:List Nat,a.length≤35184372087808→b.length≤35184372087808→aH C 236 [aJ a,aJ b] .nil (aF (.bool (decide (a=b))))) (x:RF) (c:x.Ok):IP.wp C (aR alM.res (aF (.bool true))) (PF.args [.agg x.cells,.agg x.cells]) .nil:=by
 have d:=l x.num x.num c.2.2.1 c.2.2.1;have i:=l x.den x.den c.2.2.2 c.2.2.2;rw[decide_eq_true rfl] at d i;have e:(x.neg==x.neg)=true:=by cases x.neg<;>rfl
 simp only[go_sem,IP,L5,alM,L6,e];refine aA d Sq ?_;simp only[go_sem];refine aA i Sq ?_;simp only[go_sem];refine aO (.inr rfl) Ev ?_;rfl
theorem K0 (a b:Nat):dJ a b<0↔a<b:=by
 unfold dJ;split
 ·rename_i h; exact⟨fun _=>h,fun _=>by decide⟩
 ·split
  ·rename_i c d; exact⟨fun h=>absurd h (by decide),fun h=>by omega⟩
  ·exact⟨fun h=>absurd h (by decide),fun h=>by omega⟩
theorem ayZ (a b:Nat):dJ a b=0↔a=b:=by
 unfold dJ;split
 ·rename_i h; exact⟨fun h=>absurd h (by decide),fun h=>by omega⟩
 ·split
  ·exact⟨fun h=>absurd h (by decide),fun h=>by omega⟩
  ·exact⟨fun h=>by omega,fun _=>rfl⟩
def sgF (x:FV):Int:=if x.1 then -(x.2.1:Int) else x.2.1
theorem uV {x y:FV} (p:x.2.2≠0) (u:y.2.2≠0):(oM x y<0↔sgF x*(y.2.2:Nat)<sgF y*(x.2.2:Nat))∧(oM x y=0↔sgF x*(y.2.2:Nat)=sgF y*(x.2.2:Nat)):=by
 obtain⟨w,a1,b1⟩:=x;obtain⟨E,a2,b2⟩:=y;simp only at p u;unfold oM oL sgF;simp only;have F:0<a1→0<a1*b2:=fun h=>Nat.mul_pos h Om;have H:0<a2→0<a2*b1:=fun h=>Nat.mul_pos h Om;have J:a1=0→a1*b2=0:=fun h=>by rw[h,Nat.zero_mul]
 have K:a2=0→a2*b1=0:=fun h=>by rw[h,Nat.zero_mul]
 have i:(a1:Int)*(b2:Int)=((a1*b2:Nat):Int):=by simp
 have l:(a2:Int)*(b1:Int)=((a2*b1:Nat):Int):=by simp
 have Q:=K0 (a1*b2) (a2*b1);have R:=ayZ (a1*b2) (a2*b1);have S:=K0 (a2*b1) (a1*b2);have U:=QO (a1*b2) (a2*b1);generalize dJ (a1*b2) (a2*b1)=c at *
 generalize dJ (a2*b1) (a1*b2)=O at *
 generalize a1*b2=A at *
 generalize a2*b1=B at *
 by_cases d:a1=0<;>by_cases e:a2=0<;>cases w<;>cases E <;>
  simp only[d,e,ne_eq,not_true_eq_false,not_false_eq_true,decide_true,decide_false,a0T,aZV,aYW,if_true,if_false,a1S,Int.neg_mul,i,l,Int.neg_zero,Int.zero_mul] <;>
  (first | (have M:=J d) | (have M:=F Om))<;>(first | (have N:=K e) | (have N:=H Om))<;>constructor<;>constructor<;>intro h<;>first | omega | (simp only[d,e,Int.ofNat_zero] at *; omega)
theorem aAN {e sy sz c bm d:Int} (u:0<bm) (p:0<c) (i:0<d) (a:e*bm<sy*c) (b:sy*d≤sz*bm):e*d<sz*c:=by
 have k1:e*bm*d<sy*c*d:=Int.mul_lt_mul_of_pos_right a i;have k2:sy*d*c≤sz*bm*c:=Int.mul_le_mul_of_nonneg_right b Om;have l:(e*d)*bm<(sz*c)*bm:=by rw[show e*d*bm=e*bm*d by rw[Int.mul_assoc,Int.mul_comm d,← Int.mul_assoc],show sz*c*bm=sz*bm*c by rw[Int.mul_assoc,Int.mul_comm c,← Int.mul_assoc]];rw[show sy*c*d=sy*d*c by rw[Int.mul_assoc,Int.mul_comm c,← Int.mul_assoc]] at k1;omega
 exact Int.lt_of_mul_lt_mul_right l Om
theorem aoH {x y z:FV} (c:x.2.2≠0) (d:y.2.2≠0) (e:z.2.2≠0) (a:oM x y<0) (b:¬ oM z y<0):oM x z<0:=by
 rw[(uV c d).1] at a;rw[(uV e d).1] at b;rw[(uV c e).1];exact aAN (sy:=sgF y) (bm:=(y.2.2:Nat)) Om Om Om a Om
theorem D7 {x y:FV} (c:x.2.2≠0) (d:y.2.2≠0) (a:oM x y<0):¬ oM y x<0∧oM y x≠0:=by
 rw[(uV c d).1] at a;constructor
 ·rw[(uV d c).1]; omega
 ·intro h;rw[(uV d c).2] at h;omega
theorem D8 {x:FV} (c:x.2.2≠0):oM x x=0:=by rw[(uV c c).2]
theorem zf {α:Type} (d:α→FV) (l:List α) (e:∀ s∈l,(d s).2.2≠0) :
  (fX d l=none∧l=[])∨∃ (i:Nat) (b:α),fX d l=some b∧l[i]?=some b∧(∀ t∈l,¬ oM (d t) (d b)<0)∧∀ j t,j<i→l[j]?=some t→oM (d t) (d b)≠0:=by
 obtain⟨r,rfl⟩:∃ r,l=List.reverse r:=⟨l.reverse,by simp⟩
 induction r with
 | nil=>exact .inl ⟨rfl,rfl⟩
 | cons s r E =>
  rw[List.reverse_cons] at e ⊢;have w:(d s).2.2≠0:=e s (by simp);have u:∀ t∈r.reverse,(d t).2.2≠0:=fun t ht=>e t (List.mem_append_left _ ht);rw[BS];refine .inr ?_;have last:(r.reverse++[s])[r.reverse.length]?=some s:=by simp
  rcases E u with ⟨y,x⟩ | ⟨i,b,y,x,h3,h4⟩
  ·rw[y,x];refine⟨0,s,rfl,rfl,fun t ht=>?_,fun j t h=>by omega⟩;rw[a2G,a0Q] at ht;subst ht;rw[D8 w]; decide
  ·rw[y];have B:(d b).2.2≠0:=u b (a1C x);have hi:i<r.reverse.length:=(aZU.1 x).1;unfold tQ;by_cases c:oM (d s) (d b)<0
   ·simp only[if_pos c];have lt:∀ t∈r.reverse,oM (d s) (d t)<0:=fun t ht=>aoH w B (u t ht) c (h3 t ht);refine⟨r.reverse.length,s,rfl,last,fun t ht=>?_,fun j t A p=>?_⟩
    ·rcases a0G.1 ht with ht | ht
     ·exact (D7 w (u t ht) (lt t ht)).1
     ·rw[a0Q] at ht;subst ht;rw[D8 w]; decide
    ·rw[a0V A] at p;have ht:=a1C p;exact (D7 w (u t ht) (lt t ht)).2
   ·simp only[if_neg c];refine⟨i,b,rfl,by rw[a0V hi]; exact x,fun t ht=>?_,fun j t A p=>?_⟩
    ·rcases a0G.1 ht with ht | ht
     ·exact h3 t ht
     ·rw[a0Q] at ht;subst ht;exact c
    ·rw[a0V Om] at p;exact h4 j t A p
theorem MX {f:aE} {lv cnt:Int} (h:eE f lv cnt=0):eC f=true∧f.aXC.length≤12:=by
 unfold eE at h;split at h
 ·rename_i c;simp only[aZD] at c;split at h
  ·cases h
  ·exact⟨c.1,by omega⟩
 ·cases h
theorem atF {n:Nat} (h:n≤9223372036854775807):KC n 1=.tup [.agg (FV.rf (false,n,1)).cells,.int .i64 0]:=by
 have c:nl n≤2:=jZ Om;have d:=(hL n 128).2 Om;have i:nl 1=1:=by rw[nl,oC]; rfl
 have l:=(hL 1 128).2 Om;unfold KC;rw[if_neg (by decide),WL,Int.natAbs_natCast,show (1:Int).natAbs=1 from rfl];unfold gR;rw[Nat.gcd_one_right,Nat.div_one,Nat.div_one,if_neg Om];have e:decide ((n:Int)<0)=false:=decide_eq_false Om;rw[e];rfl
structure ayD (C:Ctx):Prop extends Jq C where
 fr:HG C
 we:∀ x y:RF,x.Ok→y.Ok→aH C 278 [.agg x.cells,.agg y.cells] .nil (aF (frV (pX x.v y.v)))
 price1:∀ x:RF,x.Ok→aH C 232 [.agg x.cells] .nil (aF (.bool (fC x)))
theorem QZ {j:Nat} {x:FV} (h:Cst j x) (i:j≤12):x.rf.Ok∧cJ x.2.1 x.2.2=true:=by
 obtain⟨n,a,b⟩:=x;obtain⟨c,d,e⟩:=h;simp only at c d e;have k1:cJ a b=true:=dZ.2 ⟨c,by omega,by omega⟩;refine⟨⟨aV _,aV _,?_,?_⟩,k1⟩
 ·show (aI a).length≤_;rw[aW]; omega
 ·show (aI b).length≤_;rw[aW]; omega
theorem Xt {C:Ctx} (Lb:ayD C) (i:List RF) (hp:∀ x∈i,x.Ok) (hm:Modest i) (n:Nat) (hn:n<18446744073709551616) (set:List Int) (hs:set.length≤12) (Y:∀ d∈set,0≤d∧d<i.length)
  (o9 J M l:Nat) (N O Q:PV) (A E:Int) (B:List BX) (K:bT) [Up K] (F:PF) (H:PH)
  (hF:(((((((((((((((PF.nil.set 3 (frs i)).set 9 (.ptr o9 3 0 0)).set 11 (N)).set 15 (.ptr J 17 0 0)).set 16 (O)).set 17 (.ptr M 3 0 0)).set 19 (ints set)).set 20 (.ptr l 3 0 0)).set 74 (Q)).set 75 (.int .i64 A)).set 76 (.int .i64 E)).set 89 (ints set)).set 90 (.int .i64 (set.length:Nat))).set 91 (.int .i64 0))).le F)
  (hH:aM H (B++[(l,.rows 3 [(FV.rf (false,n,1)).cells])]) [])
  (hK:∀ H',aM H' (B++[(l,.rows 3 [(FV.rf (jH i n set)).cells])]) []→K (.exit 5) ((((((((((((PF.nil.set 3 (frs i)).set 9 (.ptr o9 3 0 0)).set 11 (N)).set 15 (.ptr J 17 0 0)).set 16 (O)).set 17 (.ptr M 3 0 0)).set 19 (ints set)).set 20 (.ptr l 3 0 0)).set 74 (Q)).set 75 (.int .i64 A)).set 76 (.int .i64 E))) H') :
  aC.wp C (.loop HW) K F H:=by
 refine qW _ (fun _ _ _ _ a b=>Up.up a b) hF ?_;refine wp_loop (α:=Nat × PH) (fun t=>((((((((((((((PF.nil.set 3 (frs i)).set 9 (.ptr o9 3 0 0)).set 11 (N)).set 15 (.ptr J 17 0 0)).set 16 (O)).set 17 (.ptr M 3 0 0)).set 19 (ints set)).set 20 (.ptr l 3 0 0)).set 74 (Q)).set 75 (.int .i64 A)).set 76 (.int .i64 E)).set 89 (ints set)).set 90 (.int .i64 (set.length:Nat))).set 91 (.int .i64 t.1))) (fun t=>t.2)
  (fun t=>t.1≤set.length∧aM t.2 (B++[(l,.rows 3 [(FV.rf (jH i n (set.take t.1))).cells])]) []) (fun t=>set.length-t.1) (0,H) ⟨aYS _,hH⟩ Lq b_ ?_
 rintro⟨j,H1⟩ ⟨hj,S⟩;simp only at hj S ⊢;simp only[go_sem,HW,jw];by_cases hlt:j<set.length
 ·have p:(j:Int)<(set.length:Nat):=Om;have W:(set.map fun x=>[PV.int .i64 x])[j]?=some [.int .i64 set[j]]:=by simp[hlt]
  have hd:=Y _ (aYQ hlt);have U:=AH hm hn (set.take j) (by rw[aZH]; omega);have y:jH i n (set.take (j+1))=(pX (jH i n (set.take j)) (kN i set[j])).got:=by rw[aZW hlt,HU]
  obtain⟨Z,-⟩:=QZ U (by rw[aZH]; omega);have R:=S.AB;generalize set[j]=d at *
  obtain⟨e,rfl⟩:∃ e:Nat,d=e:=⟨d.toNat,by omega⟩;have w:e<i.length:=Om;have V:(e:Int)<(i.length:Nat):=hd.2;have β:(i.map RF.cells)[e]?=some (i[e]).cells:=by simp[w]
  have γ:kN i e=(i[e]).v:=by unfold kN; simp[aZG,w]
  have u:=Lb.we (FV.rf (jH i n (set.take j))) i[e] Z (hp _ (aYQ w));rw[FV.Tn,← γ,WB,← y] at u;generalize jH i n (set.take j)=c at *
  generalize X:jH i n (set.take (j+1))=c' at *
  simp only[go_sem,p,jx,W,aYN];refine bO .nil (stS 278 (.tup [.agg c'.rf.cells,.int .i64 (pX c (kN i e)).err]) .aB) a_ ?_;simp only[go_sem,jy,R,V,aYN,β];refine bP rfl u Sq a_ ?_;simp only[go_sem,R];refine⟨a_,?_⟩;simp only[go_sem,jz,wZz j];refine aD (j+1,_) ⟨hlt,?_⟩ (by simp only; omega) Lq b_;show aM _ (B++[(l,.rows 3 [(FV.rf (jH i n (set.take (j+1)))).cells])]) [];rw[X];exact S.HB _
 ·have p:¬ (j:Int)<(set.length:Nat):=Om;have:j=set.length:=Om;subst this;rw[aZK] at S;simp only[go_sem,p];exact Up.up Lq (hK _ S)
abbrev kC:List PV:=[.bool false,.aB,.aB]
theorem kK {f:aE} {aXO lv cnt:Int} {c:List RF} {e:Int} {res:List dS} (i:e≠0) (h:tR f aXO lv cnt c=e) {F:PF} {H:PH} (d:dS.evs F H res=some [.aB,.agg kC,.int .i64 e]) :
  aR res (cA (nN f aXO lv cnt c)) .ret F H:=by
 have l:nN f aXO lv cnt c=.tup [ints [],.agg (dY false [] []),.int .i64 e]:=by unfold nN GW;rw[h,if_neg i];show PV.tup [ints [],.agg (dY false (aI 0) (aI 0)),.int .i64 e]=_;rw[dW]
 rw[l];exact aZ (.inr rfl) .nil d a_ ⟨CoL.tup (.cons (.nil 1) (.cons (CoL.agg (.cons (.refl _) (.cons (.nil 1) (.cons (.nil 1) .nil)))) (.cons (.refl _) .nil))),rfl⟩
def VV:Option (List Int)→PV
 | none=>.aB
 | some s=>ints s
theorem xE:VV none=.aB:=(rfl)
theorem kB (s:List Int):VV (some s)=ints s:=(rfl)
def vM (c:List Int→FV):Option (List Int)→List PV
 | none=>kC
 | some s=>(c s).rf.cells
theorem pd {f:aE} {aXO lv cnt:Int} {c:List RF} {res:List dS} (h:tR f aXO lv cnt c=0) {s:List Int} (e:fX (pH f aXO lv cnt c) (fO f (cX f aXO))=some s) {F:PF} {H:PH}
  (d:dS.evs F H res=some [ints s,.agg (pH f aXO lv cnt c s).rf.cells,.int .i64 0]):aR res (cA (nN f aXO lv cnt c)) .ret F H:=by
 have i:nN f aXO lv cnt c=.tup [ints s,.agg (pH f aXO lv cnt c s).rf.cells,.int .i64 0]:=by unfold nN GW;rw[h,if_pos rfl,e];rfl
 rw[i];exact aZ (.inr rfl) .nil d a_ ⟨.refl _,rfl⟩
theorem fw {f:aE} {p:bV} {s:List Int} (h:s∈fO f p):s.length=(eY p).toNat∧∀ d∈s,0≤d∧d<f.aXC.length:=by
 unfold fO at h;obtain⟨t,l,rfl⟩:=aZQ.1 (List.mem_filter.1 h).1;obtain⟨c,e,-⟩:=lT _ _ _ t l;refine⟨by rw[eR,c],fun d i=>?_⟩;obtain⟨x,u,rfl⟩:=aZQ.1 i;have:=e x u;omega
theorem Uh {f:aE} {p:bV} {s:List Int} (h:s∈fO f p):s.Pairwise (· < ·):=by
 unfold fO at h;obtain⟨t,c,rfl⟩:=aZQ.1 (List.mem_filter.1 h).1;exact XQ (lT _ _ _ t c).2.2
theorem Gd (f:aE) (p:bV) (i:f.aXC.length≤12):(fO f p).length≤4096:=by
 unfold fO;refine aZS (a2O ..) ?_;rw[aYN];have c:=pY f.aXC.length (eY p).toNat 0;have d:2 ^ (f.aXC.length-0)≤2 ^ 12:=a1P Om Om;have e:(2:Nat) ^ 12=4096:=by decide
 omega
theorem rQ {α:Type} {c:α→FV} {l:List α} {b:α} (h:fX c l=some b):b∈l:=by
 obtain⟨r,rfl⟩:∃ r,l=List.reverse r:=⟨l.reverse,by simp⟩
 induction r with
 | nil=>cases h
 | cons s r e =>
  rw[List.reverse_cons] at h ⊢;rw[BS] at h;cases d:fX c r.reverse with
  | none =>rw[d] at h;simp only[tQ,a0Y.injEq] at h;simp[h]
  | some i =>
   rw[d] at h;unfold tQ at h;simp only at h;split at h
   ·cases h; simp
   ·cases h; exact List.mem_append_left _ (e d)
theorem TQ (x:FV):val x.rf.num=x.2.1∧val x.rf.den=x.2.2∧x.rf.neg=x.1:=by
 have:=x.Tn;unfold RF.v at this;obtain⟨n,a,b⟩:=x;injection this with d c
 injection c with c e
 exact⟨c,e,d⟩
theorem aaK (x y:FV):xQ x.rf.neg (val x.rf.num) (val x.rf.den) y.rf.neg (val y.rf.num) (val y.rf.den)=if cJ x.2.1 x.2.2&&cJ y.2.1 y.2.2 then .tup [.int .i64 (oM x y),.int .i64 0] else .tup [.int .i64 0,.int .i64 1]:=by
 obtain⟨c,d,e⟩:=TQ x;obtain⟨g1,g2,g3⟩:=TQ y;rw[c,d,e,g1,g2,g3]; rfl
theorem Yv (a:Nat):cJ a 0=false:=by
 cases h:cJ a 0 with
 | false=>rfl
 | true=>exact absurd rfl (dZ.1 h).1
theorem arH {C:Ctx} (W:ayD C) (f:aE) (hf:f.Ok) (aXO lv cnt:Int) (e:List RF) (hp:∀ x∈e,x.Ok) (a':∀ x∈e,nl (val x.num)≤8∧nl (val x.den)≤8) (f':e.length≤1000000) :
  DK.wp C (aR K3.res (cA (nN f aXO lv cnt e))) (PF.args [.agg f.cells,.int .i64 aXO,mN lv cnt,frs e]) .nil:=by
 have X:tR f aXO lv cnt e=if eE f lv cnt≠0 then eE f lv cnt else if (decide (0≤aXO)&&decide (aXO<f.aXG.length))&&(decide (e.length=f.aXC.length)&&e.all fC) then (if fO f (cX f aXO)=[] then 12 else 0) else 1:=rfl
 simp only[go_sem,DK,zz,K3];refine aN fun K i'=>?_;have h1:aM (PH.nil.set K (.rows 3 [kC])) [(K,.rows 3 [kC])] []:=aM.nil.new (H:=PH.nil) rfl _;generalize (PH.nil.set K _)=H1 at *
 have Q:=h1.at 0 rfl;simp only[go_sem,z8];refine aA (W.vD f lv cnt hf) Sq ?_;by_cases c:eE f lv cnt≠0
 ·simp only[go_sem,QP,cT c,Aa,Q];exact kK c (by rw[X,if_pos c]) Sq
 have c:eE f lv cnt=0:=Decidable.not_not.1 c;rw[if_neg (fun h=>h c)] at X;obtain⟨Λ,Y⟩:=MX c;have R:((decide (0≤aXO)&&decide (aXO<f.aXG.length))&&(decide (e.length=f.aXC.length)&&e.all fC))=false→tR f aXO lv cnt e=1:=fun h=>by rw[X,h]; rfl
 simp only[go_sem,QP,c,bS (show (0:Int)=0 from rfl),Ab];by_cases c1:aXO<0
 ·simp only[go_sem,c1,BY,Q];exact kK (by decide) (R (by rw[decide_eq_false (Om:¬ 0≤aXO)]; simp)) Sq
 by_cases c2:aXO≥(f.aXG.length:Nat)
 ·simp only[go_sem,c1,aYN,c2,BY,Q];exact kK (by decide) (R (by rw[decide_eq_false (Om:¬ aXO<(f.aXG.length:Nat))]; simp)) Sq
 by_cases c3:e.length=f.aXC.length
 rotate_left
 ·simp only[go_sem,c1,aYN,c2,cT (Om:(e.length:Int)≠(f.aXC.length:Nat)),BY,Q];exact kK (by decide) (R (by rw[decide_eq_false c3]; simp)) Sq
 simp only[go_sem,c1,aYN,c2,bS (Om:(e.length:Int)=(f.aXC.length:Nat)),Ac];have υ:gD f aXO=true:=by unfold gD;rw[Λ,decide_eq_true (Om:0≤aXO),decide_eq_true (Om:aXO<(f.aXG.length:Nat))]; rfl
 refine wp_loop (α:=Nat × PH) (fun t=>((((((((PF.nil.set 1 (.int .i64 aXO)).set 3 (frs e)).set 4 (.bH f.cells)).set 9 (.ptr K 3 0 0)).set 11 (lay (dU f lv cnt))).set 56 (frs e)).set 57 (.int .i64 (e.length:Nat))).set 58 (.int .i64 t.1))) (fun t=>t.2)
  (fun t=>t.1≤e.length∧(∀ x∈e.take t.1,fC x=true)∧aM t.2 [(K,.rows 3 [kC])] []) (fun t=>e.length-t.1) (0,H1) ⟨aYS _,(fun x h=>by cases h),h1⟩ Lq b_ ?_
 rintro⟨k,H2⟩ ⟨hk,B,h2⟩;simp only at hk B h2 ⊢;have Q:=h2.at 0 rfl;simp only[go_sem,jj,Ad];by_cases hlt:k<e.length
 ·have w:(k:Int)<(e.length:Nat):=Om;have hr:(e.map RF.cells)[k]?=some (e[k]).cells:=by simp[hlt]
  have Φ:=W.price1 e[k] (hp _ (aYQ hlt));have c':e.take (k+1)=e.take k++[e[k]]:=aZW hlt;have φ:e[k]∈e:=aYQ hlt;generalize e[k]=y at *
  simp only[go_sem,w,Ae,aYN,hr];refine aN fun j' χ=>?_;have h3:=(h2.new χ (.rows 3 [y.cells])).dropLast;have Q:=h3.at 0 rfl;simp only[go_sem,Af];refine aA Φ Sq ?_;cases hm:fC y with
  | false =>
   simp only[go_sem,aZF,jl,Q];refine kK (by decide) (R ?_) Sq;have:e.all fC=false:=by
    cases hh:e.all fC with
    | false=>rfl
    | true=>rw[aZC.1 hh _ φ] at hm; cases hm
   rw[this]; simp
  | true =>
   simp only[go_sem,aYT,jm,wZz k];refine aD (k+1,_) ⟨hlt,fun x hx=>?_,h3⟩ (by simp only; omega) Lq b_;simp only at hx;rw[c'] at hx;rcases a0G.1 hx with hx | hx
   ·exact B x hx
   ·rw[a0Q.1 hx]; exact hm
 have w:¬ (k:Int)<(e.length:Nat):=Om;have θ:k=e.length:=Om;subst θ;rw[aZK] at B;rw[decide_eq_true (Om:0≤aXO),decide_eq_true (Om:aXO<(f.aXG.length:Nat)),decide_eq_true c3,aZC.2 B,a0Z,a0Z,if_pos rfl] at X;have Z:Modest e:=fun x hx=>⟨(SK (B x hx)).elim fun r h=>h.2.2.2,a' x hx⟩;obtain⟨hV,h0,hm,he⟩:=oK υ;obtain⟨τ,Θ⟩:=nZ υ;have E:=hV.aXO _ τ;have σ:=(hf.aXO _ τ).aXD;have ο:(f.aXG.map bV.cells)[aXO.toNat]?=some (cX f aXO).cells:=by rw[aZN,Θ]; rfl
 have Ξ:aXO<(f.aXG.length:Nat):=Om;have μ:=W.sets f (cX f aXO) hV Y E.2.2.2.2.2.2.2 σ E.1 E.2.1 E.2.2.1 E.2.2.2.1;obtain⟨e',ν⟩:=MY hV (eT f lv) (vH hV lv).2 cnt.toNat;have Ψ:dU f lv cnt=mS f (eT f lv) cnt.toNat:=by unfold dU; rw[if_pos c]
 rw[← Ψ] at e' ν;have ι:=fun (set:List Int) (h:set.length≤1000000000000000) (hs:set.Pairwise (· < ·))=>W.loss (dU f lv cnt) set (cX f aXO).m Om (fun s hs=>⟨by have:=(ν s hs).1; omega,(ν s hs).2⟩) h hs;have hP:∀ set,pH f aXO lv cnt e set=jH e (gZ (dU f lv cnt) set (cX f aXO).m) set:=fun _=>rfl;have N:∀ set,gZ (dU f lv cnt) set (cX f aXO).m≤9223372036854775807:=fun set=>by have:gZ (dU f lv cnt) set (cX f aXO).m≤(dU f lv cnt).length:=a2N;omega
 have Ω:(eY (cX f aXO)).toNat≤8∧1≤(eY (cX f aXO)).toNat:=by unfold eY; omega
 have J:=fun s (h:s∈fO f (cX f aXO))=>fw h;have b':=fun s (h:s∈fO f (cX f aXO))=>Uh h;have h':=Gd f (cX f aXO) Y;simp only[go_sem,w,jn,h0,Ξ,aYN,ο];refine aN fun F ψ=>?_;have h3:=h2.new ψ (.rows 17 [(cX f aXO).cells]);simp only[go_sem,jo,jp];refine aN fun A ω=>?_;have h4:=h3.new ω (.rows 3 [kC]);generalize g':(H2.set F _).set A _=H4 at *
 have β:=h4.at 1 rfl;simp only[go_sem,jr,β];refine aA μ Sq ?_;simp only[go_sem,aYN];have ζ:∀ t∈fO f (cX f aXO),(pH f aXO lv cnt e t).rf.Ok∧cJ (pH f aXO lv cnt e t).2.1 (pH f aXO lv cnt e t).2.2=true:=fun t ht=>by have h1:=N t;have h2:=(J t ht).1;exact QZ (AH Z (n:=gZ (dU f lv cnt) t (cX f aXO).m) Om t Om) Om
 generalize hS:fO f (cX f aXO)=S at *
 generalize η:pH f aXO lv cnt e=l at *
 refine wp_loop (α:=Nat × PH) (fun t=>(((((((((PF.nil.set 3 (frs e)).set 9 (.ptr K 3 0 0)).set 11 (lay (dU f lv cnt))).set 15 (.ptr F 17 0 0)).set 16 (VV (fX l (S.take t.1)))).set 17 (.ptr A 3 0 0)).set 74 (lay S)).set 75 (.int .i64 (S.length:Nat))).set 76 (.int .i64 t.1))) (fun t=>t.2)
  (fun t=>t.1≤S.length∧aM t.2 [(K,.rows 3 [kC]),(F,.rows 17 [(cX f aXO).cells]),(A,.rows 3 [vM l (fX l (S.take t.1))])] []) (fun t=>S.length-t.1) (0,H4) ⟨aYS _,h4⟩ Lq b_ ?_
 rintro⟨k,H5⟩ ⟨hk,h5⟩;simp only at hk h5 ⊢;have Q:=h5.at 0 rfl;have β:=h5.at 1 rfl;have p:=h5.at 2 rfl;simp only[go_sem,jk,js];by_cases hlt:k<S.length
 ·have w:(k:Int)<(S.length:Nat):=Om;have ρ:(S.map fun r=>[ints r])[k]?=some [ints S[k]]:=by simp[hlt]
  have κ:S[k]∈S:=aYQ hlt;obtain⟨g1,g2⟩:=J _ κ;have g3:=ι S[k] Om (b' _ κ);have g4:=N S[k];have g5:l S[k]=jH e (gZ (dU f lv cnt) S[k] (cX f aXO).m) S[k]:=by rw[← η]; rfl
  have g6:=W.fr.frac (gZ (dU f lv cnt) S[k] (cX f aXO).m) 1 (by unfold cK; omega) (by unfold cK; omega);rw[atF g4] at g6;have u:=BS l (S.take k) S[k];rw[← aZW hlt] at u;obtain⟨ξ,Δ⟩:=ζ _ κ;generalize hs:S[k]=s at *
  generalize gZ (dU f lv cnt) s (cX f aXO).m=n at *
  simp only[go_sem,w,jt,ρ,aYN,ju,β];refine aA g3 Sq ?_;simp only[go_sem];refine aA g6 Sq ?_;simp only[go_sem];refine aN fun d' Γ=>?_;have h6:=h5.new Γ (.rows 3 [(FV.rf (false,n,1)).cells]);simp only[go_sem,jv,aYN];refine Xt W e hp Z n Om s Om (fun d hd=>by have:=g2 d hd; omega) K F A d' (lay (dU f lv cnt)) (VV (fX l (S.take k))) (lay S) (S.length:Nat) k [(K,.rows 3 [kC]),(F,.rows 17 [(cX f aXO).cells]),(A,.rows 3 [vM l (fX l (S.take k))])] _ _ _ Lq h6 fun H7 h7=>?_;rw[← g5] at h7;have p:=h7.at 2 rfl;have U:=h7.at 3 rfl;cases M:fX l (S.take k) with
  | none =>
   have hc:=(W.fr.ord (l s).rf (FV.rf (false,0,0)) ξ ⟨aV _,aV _,(by show (aI 0).length≤_; rw[dW]; decide),(by show (aI 0).length≤_; rw[dW]; decide)⟩);rw[aaK] at hc;simp only[Yv,aZV,a1S,if_false] at hc;have hz:(FV.rf (false,0,0)).cells=dY false [] []:=by show dY false (aI 0) (aI 0)=_;rw[dW]
   rw[hz] at hc;rw[M] at h7 u p;have p:H7 A=some (.rows 3 [kC]):=p;simp only[go_sem,HX,U,p,xE];refine aA (hc.args (.cons (.refl _) (.cons (CoL.agg (.cons (.refl _) (.cons (.nil 1) (.cons (.nil 1) .nil)))) .nil))) Sq ?_;simp only[go_sem,HY];refine bO .nil dT a_ ?_;simp only[go_sem,HZ,U,p];refine⟨a_,?_⟩;simp only[go_sem,xH,wZz k];refine aD (k+1,_) ⟨hlt,?_⟩ (by simp only; omega) (by (repeat' (first|exact c_|refine d_ ?_ ?_))<;>first|(simp only[go_sem,u,tQ,kB]<;>rfl)|rfl) b_;show aM _ [(K,.rows 3 [kC]),(F,.rows 17 [(cX f aXO).cells]),(A,.rows 3 [vM l (fX l (S.take (k+1)))])] [];rw[u];exact (h7.set 2 rfl (.rows 3 [(l s).rf.cells])).lC 3
  | some b =>
   obtain⟨b1,b2⟩:=ζ b (by rw[← hS] at *; exact a2M (rQ M));have δ:=(J b (a2M (rQ M))).1;have hc:=W.fr.ord (l s).rf (l b).rf ξ b1;rw[aaK,Δ,b2,a0Z,if_pos rfl] at hc;rw[M] at h7 u p;have p:H7 A=some (.rows 3 [(l b).rf.cells]):=p;obtain⟨x,r,rfl⟩:∃ x r,b=x::r:=by
    cases b with
    | nil=>simp at δ; omega
    | cons x r=>exact⟨x,r,rfl⟩
   have O:(ints (x::r)).rD=some false:=rfl;simp only[go_sem,HX,U,p,kB];refine aA hc Sq ?_;simp only[go_sem,HY,O];by_cases V:oM (l s) (l (x::r))<0
   ·have u:fX l (S.take (k+1))=some s:=by rw[u]; unfold tQ; simp only[if_pos V]
    simp only[go_sem,V];refine bO .nil dT a_ ?_;simp only[go_sem,HZ,U,p];refine⟨a_,?_⟩;simp only[go_sem,xH,wZz k];refine aD (k+1,_) ⟨hlt,?_⟩ (by simp only; omega) (by (repeat' (first|exact c_|refine d_ ?_ ?_))<;>first|(simp only[go_sem,u,kB]<;>rfl)|rfl) b_;show aM _ [(K,.rows 3 [kC]),(F,.rows 17 [(cX f aXO).cells]),(A,.rows 3 [vM l (fX l (S.take (k+1)))])] [];rw[u];exact (h7.set 2 rfl (.rows 3 [(l s).rf.cells])).lC 3
   ·have u:fX l (S.take (k+1))=some (x::r):=by rw[u]; unfold tQ; simp only[if_neg V]
    simp only[go_sem,V,xH,wZz k];refine aD (k+1,_) ⟨hlt,?_⟩ (by simp only; omega) (by (repeat' (first|exact c_|refine d_ ?_ ?_))<;>first|(simp only[go_sem,u,kB]<;>rfl)|rfl) b_;show aM _ [(K,.rows 3 [kC]),(F,.rows 17 [(cX f aXO).cells]),(A,.rows 3 [vM l (fX l (S.take (k+1)))])] [];rw[u];exact h7.lC 3
 have w:¬ (k:Int)<(S.length:Nat):=Om;have θ:k=S.length:=Om;subst θ;rw[aZK] at h5 p;simp only[go_sem,w,aZK];cases M:fX l S with
 | none =>
  have γ:S=[]:=by
   rcases zf l S (fun t ht=>(dZ.1 (ζ t ht).2).1) with ⟨-,h⟩ | ⟨i,b,h,-⟩
   ·exact h
   ·rw[h] at M; cases M
  rw[if_pos γ] at X;simp only[go_sem,IA,xE,j2,Q];exact kK (by decide) X Sq
 | some b =>
  have ε:=rQ M;have γ:¬ S=[]:=fun h=>by rw[h] at ε; cases ε
  have δ:=(J b ε).1;rw[if_neg γ] at X;rw[M] at p;have p:H5 A=some (.rows 3 [(l b).rf.cells]):=p;have O:(ints b).rD=some false:=by
   cases b with
   | nil=>simp at δ; omega
   | cons x r=>rfl
  simp only[go_sem,IA,kB,O];refine bO .nil dT a_ ?_;simp only[go_sem,j3,Q,p];refine⟨a_,?_⟩;rw[← η,← hS] at M;rw[← η];exact pd X M Sq
def chT (n k a i:Nat):List (List Nat):=(a0P a (i-a)).flatMap fun x=>(cS n k (x+1)).map (x::·)
theorem ayV (n k a:Nat):chT n k a a=[]:=by unfold chT; rw[a1Q]; rfl
theorem ayU (n k a:Nat) {i:Nat} (h:a≤i):chT n k a (i+1)=chT n k a i++(cS n k (i+1)).map (i::·):=by
 unfold chT;rw[show i+1-a=(i-a)+1 by omega,List.range'_concat,List.flatMap_append,Nat.one_mul,show a+(i-a)=i by omega];simp
theorem ayT (n k a i:Nat) (h:i=a∨i≤n-k) (c:n≤i+k):chT n k a i=cS n (k+1) a:=by
 unfold chT;rw[cS,show i-a=n-k-a by omega]
theorem aNS (n k a:Nat) {i:Nat} (h:a≤i) (e:i+k<n):(chT n k a (i+1)).length≤(cS n (k+1) a).length:=by
 obtain⟨d,c⟩:∃ d,n-k-a=(i+1-a)+d:=⟨n-k-a-(i+1-a),by omega⟩;unfold chT;rw[cS,c,← List.range'_append (s:=a) (m:=i+1-a) (n:=d) (step:=1),List.flatMap_append,aYU];omega
def fZ (l:List (List Nat)):List (List Int):=l.map bM
theorem Rf (a b:List (List Nat)):fZ (a++b)=fZ a++fZ b:=aZO
theorem pi {C:Ctx} (k a n:Nat) (hk:k≤10) (ha:a≤1000) (hn:n≤40) (rec:∀ E X:Nat,E≤1000→k=X+1→aH C 215 [.int .i64 E,.int .i64 n,.int .i64 X] .nil (aF (lay (fZ (cS n X E))))) :
  tU.wp C (aR WS.res (cA (lay (fZ (cS n k a))))) (PF.args [.int .i64 a,.int .i64 n,.int .i64 k]) .nil:=by
 cases k with
 | zero =>simp only[go_sem,tU,MH,MI,bN (show ((0:Nat):Int)=0 from rfl),pj,WS];refine aZ (.inr rfl) .nil (vs:=[.sl 1 [[.aB]]]) Sq a_ ⟨?_,rfl⟩;exact (oQ.nil.snoc (u:=.aB) (w:=[]) (.inr ⟨rfl,rfl⟩)).co
 | succ k =>
  have M:=fun (E:Nat) (h:E≤1000)=>rec E k h rfl;clear rec;have ζ:=pY n (k+1) a;have Z:2 ^ (n-a)≤2 ^ 40:=a1P Om Om;have β:(2:Nat) ^ 40=1099511627776:=by decide
  have wk:IntKind.i64.wrap (((k+1:Nat):Int)-1)=(k:Int):=by rw[wrap_i64 Om Om]; omega
  simp only[go_sem,tU,MH,MI,bD (Om:((k+1:Nat):Int)≠0),pn,po,WS];refine wp_loop (α:=Nat × PV × WPs × PH) (fun s=>((((PF.nil.set 1 (.int .i64 n)).set 2 (.int .i64 (k+1:Nat))).set 7 (s.2.1)).set 8 (.int .i64 s.1))) (fun s=>s.2.2.2) (fun s=>a≤s.1∧(s.1=a∨s.1≤n-k)∧wls s.2.2.1=fZ (chT n k a s.1)∧aM s.2.2.2 [] (dR s.2.1 s.2.2.1)) (fun s=>n-s.1) (a,.aB,[],.nil) ⟨aYV _,.inl rfl,by simp only; rw[ayV]; rfl,aM.tL aM.nil⟩ Lq b_ ?_;rintro⟨i,Q,ps,H⟩ ⟨A,K,p,y⟩;simp only at A K p y;have wi:IntKind.i64.wrap ((i:Int)+((k+1:Nat):Int))=(i:Int)+((k+1:Nat):Int):=wrap_i64 Om Om;simp only[go_sem,YQ,pq,wi];by_cases c:i+(k+1)≤n
  ·have S:(i:Int)+((k+1:Nat):Int)≤(n:Nat):=Om;have d:=ayU n k a A;have J:=aNS n k a A (Om:i+k<n);have hr:=M (i+1) Om;have F:=lT n k (i+1);generalize cS n k (i+1)=R at *
   have γ:R.length≤1099511627776:=by rw[d,aYU,aYN] at J;omega
   simp only[go_sem,S,pt,wZz i,wk];refine aA hr Sq ?_;simp only[go_sem,pu];refine wp_loop (α:=Nat × PV × WPs × PH) (fun s=>((((((PF.nil.set 1 (.int .i64 n)).set 2 (.int .i64 (k+1:Nat))).set 7 (s.2.1)).set 8 (.int .i64 i)).set 9 (lay (fZ R))).set 10 (.int .i64 s.1))) (fun s=>s.2.2.2) (fun s=>s.1≤R.length∧wls s.2.2.1=fZ (chT n k a i++(R.take s.1).map (i::·))∧aM s.2.2.2 [] (dR s.2.1 s.2.2.1)) (fun s=>R.length-s.1) (0,Q,ps,H) ⟨aYS _,by simp only; rw[p]; simp,y⟩ Lq b_ ?_;clear p y;rintro⟨j,Q,ps,H⟩ ⟨hj,p,y⟩;simp only at hj p y;have B:(fZ R).length=R.length:=aYN _;simp only[go_sem,YP,pw,aYN,B];by_cases x:j<R.length
   ·have l:(j:Int)<(R.length:Nat):=Om;have V:((fZ R).map fun r=>[ints r])[j]?=some [ints (bM R[j])]:=by unfold fZ; simp[x]
    have W:R.take (j+1)=R.take j++[R[j]]:=aZW x;have ε:=(F _ (aYQ x)).1;have δ:ps.length≤1099511627776:=by have U:=congrArg List.length p;rw[vK] at U;unfold fZ at U;rw[aYN,aYU,aYN,aZH] at U;rw[d,aYU,aYN] at J;omega
    generalize R[j]=r at *
    simp only[go_sem,l,p4];refine aN fun o ho=>?_;have h2:=y.anV (s:=1) (rows:=aY [(i:Int)]) ho;simp only[go_sem,l,B,aYN,V];refine h2.append (ps.length+1) (rows:=aY [(i:Int)]) (src:=aY (bM r)) (zH _ _ _ (CM _ _)) rfl (by unfold roomFor; rw[dE,dE,eR]; simp only[aZB,maxLen]; omega) fun v' H' O _=>?_;have N:aY [(i:Int)]++aY (bM r)=aY (bM (i::r)):=rfl;rw[N] at O;have hO:bU H' 1 v' (aY (bM (i::r))):=O.own (ps.length+1) (by rw[List.getElem?_set_self (by rw[aYU,CM]; simp)]);rcases hO with ⟨h0,-⟩ | ⟨q,rs,rfl,-,-,-⟩
    ·cases h0
    rw[a1M _ _ (by rw[CM]; exact aYV _),CM,a1Q] at O;simp only[go_sem,aYY,aZI,or_false,forall_eq];refine O.append 0 (rows:=dB ps) (src:=[[PV.osl q 1 0 (aY (bM (i::r))).length]]) rfl Sq (by unfold roomFor; rw[lI]; simp only[aZB,maxLen]; omega) fun Y H2 h4 _=>?_;simp only[go_sem,YR,wZz j];refine aD (j+1,Y,ps++[(PV.osl q 1 0 (aY (bM (i::r))).length,bM (i::r))],H2) ⟨x,?_,?_⟩ (by simp only; omega) (by (repeat' (first|exact c_|refine d_ ?_ ?_))<;>first|(simp only[go_sem,B]<;>rfl)|rfl) b_
    ·simp only;rw[W,aZO,← a0A,Rf,← p];unfold wls;rw[aZO]; rfl
    ·have e:dR Y (ps++[(PV.osl q 1 0 (aY (bM (i::r))).length,bM (i::r))])=((dR Q ps)++[(PV.osl q 1 0 (aY (bM (i::r))).length,1,aY (bM (i::r)))]).set 0 (Y,1,dB ps++[[PV.osl q 1 0 (aY (bM (i::r))).length]]):=by unfold dR dB mX;rw[aZO,aZO];rfl
     simp only;rw[e];exact h4
   ·have l:¬ (j:Int)<(R.length:Nat):=Om;have:j=R.length:=Om;subst this;rw[aZK,← d] at p;simp only[go_sem,l,YS,wZz i];exact aD (i+1,Q,ps,H) ⟨by simp only; omega,.inr (by simp only; omega),p,y⟩ (by simp only; omega) Lq b_
  ·have S:¬ (i:Int)+((k+1:Nat):Int)≤(n:Nat):=Om;rw[ayT n k a i K Om] at p;simp only[go_sem,S,YT];rw[← p];exact MM (.inr rfl) Sq y
structure I5 (C:Ctx):Prop where
 allowed:∀ (f:aE) (p:bV) (d:Nat),VF f→Fits p.aXD→d<f.aXC.length→aH C 77 [.agg p.cells,.agg f.cells,.int .i64 d] .nil (aF (.bool (p.aXD.contains ((mdl f d:Nat):Int))))
 count:∀ (f:aE) (row:List Int) (n:Nat),VF f→I8 f row→n<f.aXF.length→aH C 80 [.agg f.cells,ints row,.int .i64 n] .nil (aF (.int .i64 (row.countP (lY f n):Nat)))
 valid:∀ f:aE,f.Ok→aH C 67 [.agg f.cells] .nil (aF (.bool (eC f)))
def mA (f:aE) (p:bV) (set:List Int):Bool:=mU set (eY p) f.aXC.length&&mB f p set
def kA (f:aE) (p:bV) (set:List Int) (i:Nat):Bool:=kZ set f.aXC.length i&&mJ f p (set.getD i 0)
theorem Tb {f:aE} {p:bV} {set:List Int} (u:(set.length:Int)=eY p):mA f p set=((aYO set.length).all (kA f p set)&&iD f p set):=by
 unfold mA mU mB;rw[decide_eq_true u,aYZ,← a1R];congr 1;have e:set.all (mJ f p)=(aYO set.length).all fun i=>mJ f p (set.getD i 0):=by
  rw[Bool.eq_iff_iff,aZC,aZC];constructor
  ·intro h i hi;have hi:=aZR.1 hi;have c:set.getD i 0=set[i]:=by simp[aZG,hi]
   rw[c]; exact h _ (aYQ hi)
  ·intro h x w;obtain⟨i,hi,rfl⟩:=a0C w;have c:set.getD i 0=set[i]:=by simp[aZG,hi]
   have:=h i (aZR.2 hi)
   rwa [c] at this
 rw[e,Bool.eq_iff_iff,aZD,aZC,aZC,aZC];constructor
 ·rintro⟨d,l⟩ i hi;unfold kA; rw[d i hi,l i hi]; rfl
 ·intro h;refine⟨fun i hi=>?_,fun i hi=>?_⟩
  ·have:=h i hi; unfold kA at this; rw[aZD] at this; exact this.1
  ·have:=h i hi; unfold kA at this; rw[aZD] at this; exact this.2
theorem aKZ {f:aE} {p:bV} {set:List Int} (c:(set.length:Int)=eY p) {i:Nat} (hi:i<set.length) (h:kA f p set i=false):mA f p set=false:=by
 rw[Tb c];have:(aYO set.length).all (kA f p set)=false:=by simp only[List.all_eq_false,aZR];exact⟨i,hi,by rw[h]; simp⟩
 rw[this,aYW]
theorem Ta (f:aE) (p:bV) (set:List Int) (k:Nat):(aYO (k+1)).all (kA f p set)=((aYO k).all (kA f p set)&&kA f p set k):=by
 rw[a1Z,a1X]; simp
theorem Yg {C:Ctx} {K:bT} [Up K] (L:I5 C) (f:aE) (hV:VF f) (p:bV) (set:List Int) (V:I8 f set) {F:PF} {H:PH}
  (N:(((((PF.nil.set 2 (ints set)).set 3 (.bH f.cells)).set 4 (.bH p.cells)).set 8 (.int .i64 1))).le F)
  (Q:∀ y H',y 6=some (.bool false)→iD f p set=false→K .ret y H')
  (O:∀ y H',iD f p set=true→K (.exit 2) y H'):aC.wp C (.loop fh) K F H:=by
 have S:=hV.small.aXF;have w:=hV.root.1;refine wp_loop (α:=Nat) (fun k=>((((PF.nil.set 2 (ints set)).set 3 (.bH f.cells)).set 4 (.bH p.cells)).set 8 (.int .i64 k))) (fun _=>H) (fun k=>1≤k∧k≤f.aXF.length∧∀ i,1≤i→i<k→mE f p set i=true) (fun k=>f.aXF.length-k) 1 ⟨aYV _,w,fun i M Y=>by omega⟩ N b_ ?_;rintro k ⟨M,Z,d⟩;simp only[go_sem,fh,Tc,aYN];by_cases hlt:k<f.aXF.length
 ·have c:(k:Int)<(f.aXF.length:Nat):=Om;have J:=hV.kI hlt;have W:0≤lvl f k:=J.1;have X:lvl f k<((5:Nat):Int):=Om;have l:=L.count f set k hV V hlt;have R:fK f set k=((set.countP (lY f k):Nat):Int):=by unfold fK; rw[if_neg Om]
  rw[← R] at l;have u:mE f p set k=!(decide (p.spread (lvl f k).toNat>0)&&decide (fK f set k>p.spread (lvl f k).toNat)):=by rw[mE,eM]
  have aXY:mE f p set k=true→∀ i,1≤i→i<k+1→mE f p set i=true:=fun h i E U=>by
   by_cases e:i=k
   ·rw[e]; exact h
   ·exact d i E Om
  have x:mE f p set k=false→iD f p set=false:=NG hlt;simp only[go_sem,c,Td,fM hlt,tI hlt,W,X,Nat.mul_one];rw[Gg p _ (Om:(lvl f k).toNat<5)];by_cases A:p.spread (lvl f k).toNat>0
  ·simp only[go_sem,fi,A];refine aA l Sq ?_;by_cases B:fK f set k>p.spread (lvl f k).toNat
   ·simp only[go_sem,B,Te];exact Q _ _ Sq (x (by rw[u,decide_eq_true A,decide_eq_true B]; rfl))
   ·simp only[go_sem,B,fj,wZz k];exact aD (k+1) ⟨by omega,hlt,aXY (by rw[u,decide_eq_false B,aZV]; rfl)⟩ Om Lq b_
  ·simp only[go_sem,fi,A,fj,wZz k];exact aD (k+1) ⟨by omega,hlt,aXY (by rw[u,decide_eq_false A]; rfl)⟩ Om Lq b_
 ·have c:¬ (k:Int)<(f.aXF.length:Nat):=Om;simp only[go_sem,c];refine O _ _ (ru hV fun i hi h=>d i ?_ Om);have:=hV.kI hi;rcases a1B i with e | e
  ·have:=this.2.2.2 e; omega
  ·omega
theorem aLA {C:Ctx} (L:I5 C) (f:aE) (hV:VF f) (p:bV) (J:Fits p.aXD) (hk:1≤p.k) (β:p.k≤6) (hm:0≤p.m) (γ:p.m≤4) (set:List Int) (hl:set.length≤1000000000000000) :
  TL.wp C (aR aDQ.res (aF (.bool (mA f p set)))) (PF.args [.agg f.cells,.agg p.cells,ints set]) .nil:=by
 have hw:IntKind.i64.wrap (p.k+p.m)=p.k+p.m:=wrap_i64 Om Om;have N:eY p=p.k+p.m:=rfl;simp only[go_sem,TL,afD,afE,aDQ,aYN,hw];by_cases Q:(set.length:Int)=p.k+p.m
 ·have A:(set.length:Int)=eY p:=by rw[N]; exact Q
  simp only[go_sem,bS Q,afG];refine wp_loop (α:=Nat) (fun k=>((((PF.nil.set 2 (ints set)).set 3 (.bH f.cells)).set 4 (.bH p.cells)).set 7 (.int .i64 k))) (fun _=>.nil) (fun k=>k≤set.length∧(aYO k).all (kA f p set)=true) (fun k=>set.length-k) 0 ⟨aYS _,rfl⟩ Lq a_ ?_;rintro k ⟨hk,l⟩;by_cases hlt:k<set.length
  ·have c:(k:Int)<(set.length:Nat):=Om;have u:(set.map fun n=>[PV.int .i64 n])[k]?=some [.int .i64 set[k]]:=by simp[hlt]
   have U:set.getD k 0=set[k]:=by simp[aZG,hlt]
   have d:kA f p set k=(((decide (0≤set[k])&&decide (set[k]<(f.aXC.length:Nat)))&&(decide (k=0)||decide (set.getD (k-1) 0<set[k])))&&mJ f p set[k]):=by rw[kA,kZ,U]
   have aXY:kA f p set k=true→(aYO (k+1)).all (kA f p set)=true:=fun h=>by rw[Ta,l,h]; rfl
   have e:=aKZ (f:=f) (p:=p) A hlt;have fin:∀ (x:Int) (b:Bool),x=set[k]→0≤x→x<(f.aXC.length:Nat)→aH C 77 [.agg p.cells,.agg f.cells,.int .i64 x] .nil (aF (.bool (mJ f p x))):=fun x b _ h0 R=>by have:=L.allowed f p x.toNat hV J Om;rw[show (x.toNat:Int)=x by omega] at this;exact this
   have fin:=fin set[k] true rfl;generalize set[k]=x at *
   simp only[go_sem,x3,x4,c,aYN];refine bO .nil (cyS (.bool (mJ f p x))) a_ ?_;by_cases B:x<0
   ·simp only[go_sem,zO,u,c,B,aYN,zP];exact eD Sq (e (by rw[d,decide_eq_false (Om:¬ 0≤x)]; rfl)).symm
   by_cases O:x≥(f.aXC.length:Nat)
   ·simp only[go_sem,zO,u,c,B,O,aYN,zP];exact eD Sq (e (by rw[d,decide_eq_false (Om:¬ x<(f.aXC.length:Nat)),aZV]; rfl)).symm
   rw[decide_eq_true (Om:0≤x),decide_eq_true (Om:x<(f.aXC.length:Nat)),a0T,aYZ] at d;have E:=fin Om Om;by_cases X:k=0
   ·subst X;rw[decide_eq_true rfl,Bool.true_or,aYZ] at d;simp only[go_sem,zO,u,c,B,O,aYN,show ¬ ((0:Nat):Int)>0 by omega];refine bP rfl E Sq a_ ?_;cases F:mJ f p x with
    | true =>rw[F] at d;simp only[go_sem,aYT,x5,wZz 0];exact aD 1 ⟨hlt,aZC.1 (aXY d)⟩ Om Lq a_
    | false =>rw[F] at d;simp only[go_sem,aZF,zP];exact eD Sq (e d).symm
   obtain⟨j,rfl⟩:∃ j,k=j+1:=⟨k-1,by omega⟩;have Z:IntKind.i64.wrap (((j+1:Nat):Int)-1)=(j:Int):=by rw[wrap_i64 Om Om]; omega
   have K:j<set.length:=Om;have w:(j:Int)<(set.length:Nat):=Om;have M:(set.map fun n=>[PV.int .i64 n])[j]?=some [.int .i64 set[j]]:=by simp[K]
   have V:set.getD (j+1-1) 0=set[j]:=by simp[aZG,K]
   rw[V,decide_eq_false X,Bool.false_or] at d;generalize set[j]=y at *
   by_cases Y:x≤y
   ·simp only[go_sem,zO,u,c,B,O,aYN,show ((j+1:Nat):Int)>0 by omega,Z,M,w,Y,zP];exact eD Sq (e (by rw[d,decide_eq_false (Om:¬ y<x)]; rfl)).symm
   rw[decide_eq_true (Om:y<x),aYZ] at d;simp only[go_sem,zO,u,c,B,O,aYN,show ((j+1:Nat):Int)>0 by omega,Z,M,w,Y];refine bP rfl E Sq a_ ?_;cases F:mJ f p x with
   | true =>rw[F] at d;simp only[go_sem,aYT,x5,dC (Om:j+1<9223372036854775807)];exact aD (j+1+1) ⟨hlt,aZC.1 (aXY d)⟩ Om Lq a_
   | false =>rw[F] at d;simp only[go_sem,aZF,zP];exact eD Sq (e d).symm
  ·have c:¬ (k:Int)<(set.length:Nat):=Om;have:k=set.length:=Om;subst this;have S:=Tb (f:=f) (p:=p) A;rw[l,aYZ] at S;have hr:I8 f set:=⟨by omega,fun x hx=>by
    obtain⟨i,hi,rfl⟩:=a0C hx;have R:=aZC.1 l i (aZR.2 hi);unfold kA kZ at R;have U:set.getD i 0=set[i]:=by simp[aZG,hi]
    rw[U] at R;simp only[aZD,decide_eq_true_eq] at R;omega⟩
   simp only[go_sem,x3,x4,c,aYN,afH];refine Yg (C:=C) L f hV p set hr Lq ?_ ?_
   ·intro F' H' h6 H;simp only[go_sem];exact eD h6 (S.trans H).symm
   ·intro F' H' W;simp only[go_sem,Tf];exact eD Sq (S.trans W).symm
 ·simp only[go_sem,cT Q,afF];exact eD Sq (show mA f p set=false by unfold mA mU; rw[decide_eq_false (show ¬ (set.length:Int)=eY p from fun h=>Q (by rw[h,N]))]; rfl).symm
structure Jr (C:Ctx):Prop extends I5 C where
 adm:∀ (f:aE) (p:bV) (set:List Int),VF f→Fits p.aXD→1≤p.k→p.k≤6→0≤p.m→p.m≤4→set.length≤1000000000000000→aH C 213 [.agg f.cells,.agg p.cells,ints set] .nil (aF (.bool (mA f p set)))
 choose:∀ k a n:Nat,k≤10→a≤1000→n≤40→aH C 215 [.int .i64 a,.int .i64 n,.int .i64 k] .nil (aF (lay (fZ (cS n k a))))
theorem aEJ {f:aE} (hV:VF f) (p:bV) (A:1≤p.k) (B:0≤p.m):fO f p=(fZ (cS f.aXC.length (eY p).toNat 0)).filter (mA f p):=by
 unfold fO fZ;refine List.filter_congr fun x u=>?_;obtain⟨s,w,rfl⟩:=aZQ.1 u;obtain⟨k1,k2,y⟩:=lT _ _ _ _ w;have e:((eY p).toNat:Int)=eY p:=by unfold eY; omega
 have h:mU (bM s) (eY p) f.aXC.length=true:=by
  rw[← e];unfold mU;rw[eR,k1,decide_eq_true rfl,aYZ];simp only[aZC,aZR];intro i hi;have d:i<s.length:=Om;have g:(bM s).getD i 0=(s[i]:Nat):=by unfold bM; simp[aZG,d]
  unfold kZ;rw[g];have u:=(k2 _ (aYQ d)).2;simp only[aZD,Bool.or_eq_true,decide_eq_true_eq];refine⟨by omega,?_⟩;by_cases c:i=0
  ·exact .inl c
  ·right;have l:i-1<s.length:=Om;have g2:(bM s).getD (i-1) 0=(s[i-1]:Nat):=by unfold bM; simp[aZG,l]
   rw[g2];have:=List.pairwise_iff_getElem.1 y (i-1) i l d Om;omega
 unfold mA;rw[h,aYZ]
def nE (c:List (List Int)):List (List PV):=c.map fun w=>[ints w]
theorem TU (c:List (List Int)):(nE c).length=c.length:=aYN _
theorem Yj (d:List (List Int)):oQ (nE d) d:=by
 refine⟨TU d,fun i r w c e=>.inl ?_⟩;unfold nE at c;rw[aZN,e] at c;injection c with c
 exact c.symm
theorem aoP {res:List dS} {F:PF} {H:PH} {i:PV} {d:List (List Int)} {c:Int} {e:kW} (A:e=.normal∨e=.ret) (h:dS.evs F H res=some [i,.int .i64 c]) (x:aM H [] [(i,1,nE d)]):aR res (cA (.tup [lists d,.int .i64 c])) e F H:=by
 have l:aM H [] ((i,1,nE d++dB [])::mX []):=by rw[show nE d++dB []=nE d from a0M _]; exact x
 obtain⟨φ,J,k1,-,B,-,E,-⟩:=AV [] (nE d) d (Yj d) l (fun b y=>by cases y);rw[show d++wls []=d from a0M _] at k1;refine zQ A h ⟨_,_,.nil,E _,a_,φ (bL [i,.int .i64 c]),?_,?_⟩
 ·rw[zS,kM,if_pos rfl]; rfl
 ·show cA _ (φ (.tup [i,.int .i64 c])) .nil;rw[B];refine⟨.tup rfl fun j p q u w=>?_,rfl⟩
  match j with
  | 0=>cases u; cases w; exact k1
  | 1=>cases u; cases w; exact .refl _
  | j+2=>cases u
theorem aLC {C:Ctx} (L:Jr C) (f:aE) (hf:f.Ok) (aXO:Int) :
  TM.wp C (aR aDR.res (cA (.tup [lay (wW f aXO),.int .i64 (pA f aXO)]))) (PF.args [.agg f.cells,.int .i64 aXO]) .nil:=by
 have hB:wW f aXO=if pA f aXO=0 then fO f (cX f aXO) else []:=rfl
 have l:pA f aXO=if gD f aXO then (if f.aXC.length>12 then 2 else 0) else 1:=rfl
 have x:gD f aXO=(eC f&&(decide (0≤aXO)&&decide (aXO<f.aXG.length))):=rfl;have Q:∀ F:PF,gD f aXO=false→F 4=some .aB→F 5=some (.int .i64 1)→aR [.tmp 4,.tmp 5] (cA (.tup [lay (wW f aXO),.int .i64 (pA f aXO)])) .ret F .nil:=by intro F hk h1 h2;rw[hk,if_neg (by decide)] at l;rw[l,if_neg (by decide)] at hB;rw[hB,l];exact oE (.inr rfl) (by simp only[go_sem,h1,h2]) (aM.tL aM.nil)
 simp only[go_sem,TM,afI,afJ,aDR];refine aA (L.valid f hf) Ev ?_;cases hp:eC f with
 | false =>simp only[go_sem,aZF,WR];exact Q _ (by rw[x,hp]; rfl) Sq Sq
 | true =>
 rw[hp,aYZ] at x;by_cases O:aXO<0
 ·simp only[go_sem,aYT,O,WR];exact Q _ (by rw[x,decide_eq_false (Om:¬ 0≤aXO)]; rfl) Sq Sq
 by_cases R:aXO≥(f.aXG.length:Nat)
 ·simp only[go_sem,aYT,O,R,aYN,WR];exact Q _ (by rw[x,decide_eq_false (Om:¬ aXO<(f.aXG.length:Nat)),aZV]) Sq Sq
 rw[decide_eq_true (Om:0≤aXO),decide_eq_true (Om:aXO<(f.aXG.length:Nat)),a0Z] at x;rw[x,if_pos rfl] at l;obtain⟨hV,h0,hm,he⟩:=oK x;obtain⟨N,U⟩:=nZ x;have d:=hV.aXO _ N;have M:=(hf.aXO _ N).aXD;have K:(f.aXG.map bV.cells)[aXO.toNat]?=some (cX f aXO).cells:=by rw[aZN,U]; rfl
 by_cases c:f.aXC.length>12
 ·rw[if_pos c] at l;rw[l,if_neg (by decide)] at hB;rw[hB,l];simp only[go_sem,aYT,O,R,aYN,x6,show (f.aXC.length:Int)>12 by omega,afK];exact oE (.inr rfl) Sq (aM.tL aM.nil)
 rw[if_neg c] at l;rw[l,if_pos rfl,aEJ hV _ d.1 d.2.2.1] at hB;rw[hB,l];clear hB l Q;generalize cX f aXO=p at *
 obtain⟨n,W⟩:∃ n:Nat,(n:Int)=eY p:=⟨(p.k+p.m).toNat,by unfold eY; omega⟩;have ε:1≤n∧n≤10:=by unfold eY at W; omega
 have hw:IntKind.i64.wrap (p.k+p.m)=(n:Int):=by rw[W]; exact wrap_i64 Om Om
 have hlt:aXO<(f.aXG.length:Nat):=Om;have V:=L.choose n 0 f.aXC.length Om Om Om;have E:=fun (set:List Int) (hs:set.length≤1000000000000000)=>L.adm f p set hV M d.1 d.2.1 d.2.2.1 d.2.2.2.1 hs;have J:=lT f.aXC.length n 0;have η:=pY f.aXC.length n 0;have β:2 ^ (f.aXC.length-0)≤2 ^ 12:=a1P Om Om;have γ:(2:Nat) ^ 12=4096:=by decide
 rw[← W,a0J];generalize cS f.aXC.length n 0=S at *
 simp only[go_sem,aYT,O,R,aYN,x6,show ¬ (f.aXC.length:Int)>12 by omega,afL,h0,hlt,K];refine aN fun q hq=>?_;simp only[go_sem,afM,afN,aYN,hw];refine aA V (by simp only[go_sem]; rfl) ?_;simp only[go_sem,afO];have B:aM (PH.nil.set q (.rows 17 [p.cells])) [(q,.rows 17 [p.cells])] [(.aB,1,nE [])]:=((aM.nil (H:=PH.nil)).new hq _).mY 1;refine wp_loop (α:=Nat × PV × PH) (fun s=>(((((PF.nil.set 2 (.bH f.cells)).set 6 (.ptr q 17 0 0)).set 7 (s.2.1)).set 8 (lay (fZ S))).set 9 (.int .i64 s.1))) (fun s=>s.2.2) (fun s=>s.1≤S.length∧aM s.2.2 [(q,.rows 17 [p.cells])] [(s.2.1,1,nE ((fZ (S.take s.1)).filter (mA f p)))]) (fun s=>S.length-s.1) (0,.aB,_) ⟨aYS _,B⟩ Lq b_ ?_;clear B hq;rintro⟨j,v,H⟩ ⟨hj,A⟩;simp only at hj A;have u:(fZ S).length=S.length:=aYN _;simp only[go_sem,Tg,afP,aYN,u];by_cases w:j<S.length
 ·have e:(j:Int)<(S.length:Nat):=Om;have y:((fZ S).map fun r=>[ints r])[j]?=some [ints (bM S[j])]:=by unfold fZ; simp[w]
  have Y:S.take (j+1)=S.take j++[S[j]]:=aZW w;have ζ:=(J _ (aYQ w)).1;generalize S[j]=r at *
  have i:(fZ (S.take (j+1))).filter (mA f p)=(fZ (S.take j)).filter (mA f p)++if mA f p (bM r) then [bM r] else []:=by rw[Y,Rf,List.filter_append];congr 1;unfold fZ;by_cases cc:mA f p (bM r)<;>simp[cc]
  have δ:((fZ (S.take j)).filter (mA f p)).length≤4096:=by refine aZS (a2O ..) ?_;unfold fZ;rw[aYN,aZH]; omega
  have X:=A.at 0 rfl;simp only[go_sem,e];refine bO .nil (cyS (.bool (mA f p (bM r)))) a_ ?_;simp only[go_sem,Th,X,e,u,aYN,y];refine bP rfl (E (bM r) (by rw[eR]; omega)) Sq a_ ?_;cases hb:mA f p (bM r) with
  | true =>rw[hb,if_pos rfl] at i;simp only[go_sem,Ti,e,u,aYN,y];refine A.append 0 (rows:=nE ((fZ (S.take j)).filter (mA f p))) (src:=[[ints (bM r)]]) rfl Sq (by unfold roomFor; rw[TU]; simp only[aZB,maxLen]; omega) fun v' H' Z _=>?_;simp only[go_sem,fk,wZz j];refine aD (j+1,v',H') ⟨w,?_⟩ (by simp only; omega) (by (repeat' (first|exact c_|refine d_ ?_ ?_))<;>first|(simp only[go_sem,u]<;>rfl)|rfl) b_;simp only;rw[i];unfold nE at Z ⊢;rw[aZO];exact Z
  | false =>rw[hb,if_neg (by decide),a0M] at i;simp only[go_sem,fk,wZz j];refine aD (j+1,v,H) ⟨w,?_⟩ (by simp only; omega) (by (repeat' (first|exact c_|refine d_ ?_ ?_))<;>first|(simp only[go_sem,u]<;>rfl)|rfl) b_;simp only;rw[i];exact A
 ·have e:¬ (j:Int)<(S.length:Nat):=Om;have:j=S.length:=Om;subst this;rw[aZK] at A;simp only[go_sem,e,Tj];exact aoP (.inr rfl) Sq (A.lC 0)
structure gz (C:Ctx):Prop extends Jr C where
 aXC:∀ (f:aE) (dom:Int),f.Ok→aH C 81 [.agg f.cells,.int .i64 dom] .nil (aF (ints (GJ f dom)))
 has:∀ (l:List Int) (x:Int),l.length≤1000000000000000→aH C 218 [ints l,.int .i64 x] .nil (aF (.bool (l.contains x)))
theorem Xx {f:aE} (c:eC f=true) {lv:Int} {i:Nat} (hi:i<f.aXF.length) (h:lvl f i=lv):GJ f i=bM (nL f lv f.aXC.length i):=by
 unfold GJ;rw[if_pos ⟨c,by omega,by omega⟩];subst h;rfl
def yF (f:aE) (lv:Int) (k:Nat):List (List Int):=((aYO k).filter (JS f lv)).map fun i=>bM (nL f lv f.aXC.length i)
theorem aoU (f:aE) (lv:Int) (k:Nat):yF f lv (k+1)=if lvl f k=lv then yF f lv k++[bM (nL f lv f.aXC.length k)] else yF f lv k:=by
 unfold yF;rw[a1Z,List.filter_append,aZO];by_cases h:lvl f k=lv
 ·rw[if_pos h]; simp[JS,h]
 ·rw[if_neg h]; simp[JS,h]
theorem avB (f:aE) (lv:Int) (k:Nat):(yF f lv k).length≤k:=by
 unfold yF;rw[aYN];exact aZS (a2O ..) (by simp)
theorem avI {C:Ctx} (L:gz C) (f:aE) (B:f.Ok) (y:eC f=true) (lv:Int) (F:1≤lv) (h5:lv≤5) :
  ET.wp C (aR Ua.res (cA (lay (eT f lv)))) (PF.args [.agg f.cells,.int .i64 lv]) .nil:=by
 have hV:=VF.of y;have J:=hV.small.aXC;have A:=hV.small.aXF;simp only[go_sem,ET,Fj,Fk,Fl,Ua];by_cases w:lv=5
 ·subst w;rw[Gx];simp only[go_sem,bN (show (5:Int)=5 from rfl),Fm];refine wp_loop (α:=Nat × PV × PH) (fun s=>(((PF.nil.set 2 (.bH f.cells)).set 5 (s.2.1)).set 6 (.int .i64 s.1))) (fun s=>s.2.2) (fun s=>s.1≤f.aXC.length∧bU s.2.2 1 s.2.1 (yE s.1)) (fun s=>f.aXC.length-s.1) (0,.aB,.nil) ⟨aYS _,.nil⟩ Lq b_ ?_;rintro⟨k,v,H⟩ ⟨x,p⟩;simp only at x p;simp only[go_sem,Fi,Fn,aYN];by_cases hlt:k<f.aXC.length
  ·have d:(k:Int)<(f.aXC.length:Nat):=Om;simp only[go_sem,d,Fo];refine fP (src:=[[ints [(k:Int)]]]) p (by simp only[go_sem]; rfl) (by unfold roomFor; rw[En]; simp only[aZB,maxLen]; omega) fun v' H' l _=>?_;rw[← qh] at l;simp only[go_sem,Fp,wZz k];exact aD (k+1,v',H') ⟨hlt,l⟩ (by simp only; omega) Lq b_
  ·have d:¬ (k:Int)<(f.aXC.length:Nat):=Om;have:k=f.aXC.length:=Om;subst this;simp only[go_sem,d,Fq];exact qR (.inr rfl) p Sq
 rw[gb f w];simp only[go_sem,bD w,Fr];refine wp_loop (α:=Nat × PV × PH) (fun s=>((((PF.nil.set 1 (.int .i64 lv)).set 2 (.bH f.cells)).set 5 (s.2.1)).set 7 (.int .i64 s.1))) (fun s=>s.2.2) (fun s=>s.1≤f.aXF.length∧bU s.2.2 1 s.2.1 (nE (yF f lv s.1))) (fun s=>f.aXF.length-s.1) (0,.aB,.nil) ⟨aYS _,.nil⟩ Lq b_ ?_;rintro⟨k,v,H⟩ ⟨x,p⟩;simp only at x p;simp only[go_sem,qv,qw,aYN];by_cases hlt:k<f.aXF.length
 ·have d:(k:Int)<(f.aXF.length:Nat):=Om;have i:=aoU f lv k;have E:=avB f lv k;simp only[go_sem,d,qx,fM hlt,tI hlt];by_cases c:lvl f k=lv
  ·rw[if_pos c] at i;have u:=L.aXC f k B;rw[Xx y hlt c] at u;simp only[go_sem,bN c,qy];refine aA u Sq ?_;simp only[go_sem];refine fP (src:=[[ints (bM (nL f lv f.aXC.length k))]]) p Sq (by unfold roomFor; rw[TU]; simp only[aZB,maxLen]; omega) fun v' H' l _=>?_;have e:nE (yF f lv k)++[[ints (bM (nL f lv f.aXC.length k))]]=nE (yF f lv (k+1)):=by rw[i]; unfold nE; rw[aZO]; rfl
   rw[e] at l;simp only[go_sem,MW,wZz k];exact aD (k+1,v',H') ⟨hlt,l⟩ (by simp only; omega) Lq b_
  ·rw[if_neg c] at i;rw[← i] at p;simp only[go_sem,bD c,MW,wZz k];exact aD (k+1,v,H) ⟨hlt,p⟩ (by simp only; omega) Lq b_
 ·have d:¬ (k:Int)<(f.aXF.length:Nat):=Om;have:k=f.aXF.length:=Om;subst this;simp only[go_sem,d,qz];exact qR (.inr rfl) p Sq
theorem aDV {C:Ctx} (L:gz C) (sc:List (List Int)) (J:sc.length≤1000000000000000) (B:∀ s∈sc,s.length≤1000000000000000) (set:List Int) (M:set.length≤1000000000000000) (m:Int) :
  MO.wp C (aR aoQ.res (aF (.int .i64 (gZ sc set m:Nat)))) (PF.args [lay sc,ints set,.int .i64 m]) .nil:=by
 simp only[go_sem,MO,To,Tq,Tr,aoQ];refine wp_loop (α:=Nat) (fun i=>(((((PF.nil.set 0 (lay sc)).set 1 (ints set)).set 2 (.int .i64 m)).set 7 (.int .i64 ((sc.take i).countP fun s=>decide (((jF s set:Nat):Int)>m):Nat))).set 8 (.int .i64 i))) (fun _=>.nil) (fun i=>i≤sc.length) (fun i=>sc.length-i) 0 (aYS _) Lq a_ ?_;intro i hi;simp only[go_sem,Ek,Ts,aYN];by_cases hlt:i<sc.length
 ·have u:(i:Int)<(sc.length:Nat):=Om;have x:(sc.map fun r=>[ints r])[i]?=some [ints sc[i]]:=by simp[hlt]
  have p:=vN (fun s=>decide (((jF s set:Nat):Int)>m)) sc hlt;have k1:=B sc[i] (aYQ hlt);have H:(sc.take i).countP (fun s=>decide (((jF s set:Nat):Int)>m))≤i:=aZS a2N (by rw[aZH]; omega);generalize (sc.take i).countP (fun s=>decide (((jF s set:Nat):Int)>m))=n at *
  generalize sc[i]=s at *
  simp only[go_sem,u,Tt,Tu];refine wp_loop (α:=Nat) (fun j=>(((((((PF.nil.set 0 (lay sc)).set 1 (ints set)).set 2 (.int .i64 m)).set 7 (.int .i64 n)).set 8 (.int .i64 i)).set 9 (.int .i64 ((set.take j).countP fun d=>s.contains d:Nat))).set 10 (.int .i64 j))) (fun _=>.nil) (fun j=>j≤set.length) (fun j=>set.length-j) 0 (aYS _) Lq a_ ?_;intro j K;simp only[go_sem,Ej,Tv,aYN];by_cases w:j<set.length
  ·have l:(j:Int)<(set.length:Nat):=Om;have A:(set.map fun n=>[PV.int .i64 n])[j]?=some [.int .i64 set[j]]:=by simp[w]
   have e:=vN (fun d=>s.contains d) set w;have F:(set.take j).countP (fun d=>s.contains d)≤j:=aZS a2N (by rw[aZH]; omega);generalize (set.take j).countP (fun d=>s.contains d)=b at *
   generalize set[j]=d at *
   simp only[go_sem,l];refine bO .nil (cyS (.bool (s.contains d))) a_ ?_;simp only[go_sem,Tw,u,x,aYN,l,A];refine bP rfl (L.has s d k1) Sq a_ ?_;cases E:s.contains d with
   | true =>rw[E] at e;simp only[go_sem,Tx,wZz b,fm,wZz j];exact aD (j+1) w Om (by (repeat' (first|exact c_|refine d_ ?_ ?_))<;>first|(simp only[go_sem,e,tD]<;>rfl)|rfl) a_
   | false =>rw[E] at e;simp only[go_sem,fm,wZz j];exact aD (j+1) w Om (by (repeat' (first|exact c_|refine d_ ?_ ?_))<;>first|(simp only[go_sem,e,tD]<;>rfl)|rfl) a_
  ·have l:¬ (j:Int)<(set.length:Nat):=Om;have:j=set.length:=Om;subst this;have y:set.countP (fun d=>s.contains d)=jF s set:=rfl;rw[aZK,y];by_cases c:((jF s set:Nat):Int)>m
   ·rw[decide_eq_true c] at p;simp only[go_sem,l,TS,c,El,wZz n,TT,wZz i];exact aD (i+1) hlt Om (by (repeat' (first|exact c_|refine d_ ?_ ?_))<;>first|(simp only[go_sem,p,tD]<;>rfl)|rfl) a_
   ·rw[decide_eq_false c] at p;simp only[go_sem,l,TS,c,TT,wZz i];exact aD (i+1) hlt Om (by (repeat' (first|exact c_|refine d_ ?_ ?_))<;>first|(simp only[go_sem,p,tD]<;>rfl)|rfl) a_
 ·have u:¬ (i:Int)<(sc.length:Nat):=Om;have:i=sc.length:=Om;subst this;rw[aZK];simp only[go_sem,u,Em];refine aO (.inr rfl) Ev ?_;rfl
structure PT (C:Ctx):Prop extends gz C where
 units:∀ (f:aE) (lv:Int),f.Ok→eC f=true→1≤lv→lv≤5→aH C 217 [.agg f.cells,.int .i64 lv] .nil (aF (lay (eT f lv)))
theorem aEA {C:Ctx} {K:bT} [Up K] (L:PT C) (y:PV) (U:List (List Int)) {n:Nat} (X:UOk n U) (S:List (List Nat)) (j:Nat) (hj:j<S.length) (s:List Nat) (Y:S[j]?=some s) (M:∀ x∈s,x<U.length) (Z:s.length≤1000) (Q v:PV) (d:Nat) {F:PF} {H:PH}
  (V:((((((((((PF.nil.set 2 (y)).set 6 (lay U)).set 9 (lay (fZ S))).set 10 (Q)).set 11 (.int .i64 j)).set 12 (v)).set 13 (.int .i64 d)).set 14 (.bool false)).set 15 (.int .i64 0))).le F)
  (W:K (.exit 6) (((((((((PF.nil.set 2 (y)).set 6 (lay U)).set 9 (lay (fZ S))).set 10 (Q)).set 11 (.int .i64 j)).set 12 (v)).set 13 (.int .i64 d)).set 14 (.bool (jL U s d)))) H):aC.wp C (.loop TX) K F H:=by
 have p:(j:Int)<(S.length:Nat):=Om;have i:(fZ S).length=S.length:=aYN _;have l:((fZ S).map fun r=>[ints r])[j]?=some [ints (bM s)]:=by unfold fZ; rw[aZN,aZN,Y]; rfl
 have w:(bM s).length=s.length:=eR s;refine wp_loop (α:=Nat) (fun k=>(((((((((PF.nil.set 2 (y)).set 6 (lay U)).set 9 (lay (fZ S))).set 10 (Q)).set 11 (.int .i64 j)).set 12 (v)).set 13 (.int .i64 d)).set 14 (.bool (jL U (s.take k) d))).set 15 (.int .i64 k))) (fun _=>H) (fun k=>k≤s.length) (fun k=>s.length-k) 0 (aYS _) V b_ ?_;intro k hk;simp only[go_sem,TX,Ff,p,i,aYN,l,w];by_cases hlt:k<s.length
 ·have e:(k:Int)<(s.length:Nat):=Om;have J:((bM s).map fun n=>[PV.int .i64 n])[k]?=some [.int .i64 (s[k]:Nat)]:=uT hlt;have N:=M s[k] (aYQ hlt);have O:((s[k]:Nat):Int)<(U.length:Nat):=Om;have E:=X.at_ U[s[k]] (aYQ N);have B:U.getD s[k] []=U[s[k]]:=by simp[aZG,N]
  have A:(U.map fun r=>[ints r])[s[k]]?=some [ints U[s[k]]]:=by simp[N]
  have c:jL U (s.take (k+1)) d=(jL U (s.take k) d||(U[s[k]]).contains (d:Int)):=by unfold jL;rw[aZW hlt,List.any_append,← B]; simp
  generalize U[s[k]]=u at *
  generalize s[k]=x at *
  cases R:jL U (s.take k) d with
  | true =>rw[R,Bool.true_or] at c;simp only[go_sem,e,UB,UC,wZz k];exact aD (k+1) hlt Om (by (repeat' (first|exact c_|refine d_ ?_ ?_))<;>first|(simp only[go_sem,c,i]<;>rfl)|rfl) b_
  | false =>rw[R,Bool.false_or] at c;simp only[go_sem,e,UB,p,i,aYN,l,w,J,O,A];refine aA (L.has u d (by have:=E.1; omega)) Sq ?_;simp only[go_sem,UC,wZz k];exact aD (k+1) hlt Om (by (repeat' (first|exact c_|refine d_ ?_ ?_))<;>first|(simp only[go_sem,c,i]<;>rfl)|rfl) b_
 ·have e:¬ (k:Int)<(s.length:Nat):=Om;have:k=s.length:=Om;subst this;rw[aZK];simp only[go_sem,e];exact Up.up (by (repeat' (first|exact c_|refine d_ ?_ ?_))<;>first|(simp only[go_sem,i]<;>rfl)|rfl) W
def dnL (U:List (List Int)) (s:List Nat) (d:Nat):List Int:=bM ((aYO d).filter (jL U s))
theorem azO (U:List (List Int)) (s:List Nat) (d:Nat):dnL U s (d+1)=if jL U s d then dnL U s d++[(d:Int)] else dnL U s d:=by
 unfold dnL;rw[a1Z,List.filter_append,Re];by_cases h:jL U s d
 ·rw[if_pos h]; simp[bM,h]
 ·rw[if_neg h]; simp[bM,h]
theorem aHP (U:List (List Int)) (s:List Nat) (d:Nat):(dnL U s d).length≤d:=by
 unfold dnL;rw[eR];exact aZS (a2O ..) (by simp)
theorem avH {C:Ctx} {K:bT} [Up K] (L:PT C) (f:aE) (V:f.aXC.length≤24) (U:List (List Int)) {n:Nat} (O:UOk n U) (S:List (List Nat)) (j:Nat) (Q:j<S.length) (s:List Nat) (R:S[j]?=some s) (y:∀ x∈s,x<U.length) (w:s.length≤1000) (p:PV) {F:PF} {H:PH} {Ls:List LI}
  (i:aM H [] Ls)
  (M:((((((((PF.nil.set 2 (.bH f.cells)).set 6 (lay U)).set 9 (lay (fZ S))).set 10 (p)).set 11 (.int .i64 j)).set 12 (.aB)).set 13 (.int .i64 0))).le F)
  (N:∀ v H',aM H' [] (Ls++[(v,1,aY (dnL U s f.aXC.length))])→K (.exit 4) (((((((PF.nil.set 2 (.bH f.cells)).set 6 (lay U)).set 9 (lay (fZ S))).set 10 (p)).set 11 (.int .i64 j)).set 12 (v))) H'):aC.wp C (.loop TY) K F H:=by
 refine wp_loop (α:=Nat × PV × PH) (fun t=>(((((((PF.nil.set 2 (.bH f.cells)).set 6 (lay U)).set 9 (lay (fZ S))).set 10 (p)).set 11 (.int .i64 j)).set 12 (t.2.1)).set 13 (.int .i64 t.1))) (fun t=>t.2.2) (fun t=>t.1≤f.aXC.length∧aM t.2.2 [] (Ls++[(t.2.1,1,aY (dnL U s t.1))])) (fun t=>f.aXC.length-t.1) (0,.aB,H) ⟨aYS _,i.mY 1⟩ M b_ ?_;clear i;rintro⟨d,v,A⟩ ⟨u,i⟩;simp only at u i;simp only[go_sem,TY,Fc,aYN];by_cases hlt:d<f.aXC.length
 ·have e:(d:Int)<(f.aXC.length:Nat):=Om;have c:=azO U s d;have J:=aHP U s d;simp only[go_sem,e,Fd,Fe];have inn:=fun {K:bT} [Up K] {F:PF} {H:PH}=>aEA (C:=C) (K:=K) L (.bH f.cells) U O S j Q s R y w p v d (F:=F) (H:=H);refine inn Lq ?_;cases E:jL U s d with
  | true =>
   rw[E,if_pos rfl] at c;simp only[go_sem,UD,Fg];refine i.append Ls.length (rows:=aY (dnL U s d)) (src:=[[.int .i64 d]]) (zH _ _ _ rfl) Sq (by unfold roomFor; rw[dE]; simp only[aZB,maxLen]; omega) fun v' H' B _=>?_;have l:aY (dnL U s d)++[[.int .i64 d]]=aY (dnL U s (d+1)):=by rw[c,AR]; rfl
   rw[l,a1M _ _ (aYV _),a1Q] at B;simp only[go_sem,UE,wZz d];exact aD (d+1,v',H') ⟨hlt,B⟩ (by simp only; omega) Lq b_
  | false =>rw[E,if_neg (by decide)] at c;rw[← c] at i;simp only[go_sem,UD,UE,wZz d];exact aD (d+1,v,A) ⟨hlt,i⟩ (by simp only; omega) Lq b_
 ·have e:¬ (d:Int)<(f.aXC.length:Nat):=Om;have:d=f.aXC.length:=Om;subst this;simp only[go_sem,e];exact Up.up Lq (N v A i)
theorem avG {C:Ctx} {K:bT} [Up K] (L:PT C) (f:aE) (Q:f.aXC.length≤24) (U:List (List Int)) {n:Nat} (O:UOk n U) (S:List (List Nat)) (M:∀ s∈S,s.length≤1000∧∀ x∈s,x<U.length) (N:S.length≤1099511627776) {F:PF} {H:PH}
  (B:((((((PF.nil.set 2 (.bH f.cells)).set 6 (lay U)).set 9 (lay (fZ S))).set 10 (.aB)).set 11 (.int .i64 0))).le F)
  (E:∀ l ps H',aM H' [] (dR l ps)→wls ps=S.map (fun s=>dnL U s f.aXC.length)→K (.exit 2) ((PF.nil.set 10 (l))) H'):aC.wp C (.loop TZ) K F H:=by
 refine wp_loop (α:=Nat × PV × WPs × PH) (fun t=>(((((PF.nil.set 2 (.bH f.cells)).set 6 (lay U)).set 9 (lay (fZ S))).set 10 (t.2.1)).set 11 (.int .i64 t.1))) (fun t=>t.2.2.2) (fun t=>t.1≤S.length∧wls t.2.2.1=(S.take t.1).map (fun s=>dnL U s f.aXC.length)∧aM t.2.2.2 [] (dR t.2.1 t.2.2.1)) (fun t=>S.length-t.1) (0,.aB,[],.nil) ⟨aYS _,rfl,aM.tL aM.nil⟩ B a_ ?_;rintro⟨j,l,ps,H⟩ ⟨R,y,A⟩;simp only at R y A;have i:(fZ S).length=S.length:=aYN _;simp only[go_sem,TZ,E9,aYN,i];by_cases hlt:j<S.length
 ·have c:(j:Int)<(S.length:Nat):=Om;obtain⟨s1,s2⟩:=M S[j] (aYQ hlt);have V:ps.length≤1099511627776:=by rw[← vK,y,aYN,aZH]; omega
  have w:(S.take (j+1)).map (fun s=>dnL U s f.aXC.length)=wls ps++[dnL U S[j] f.aXC.length]:=by rw[aZW hlt,aZO,← y]; rfl
  have one:=fun {K:bT} [Up K] {F:PF} {H:PH}=>avH (C:=C) (K:=K) L f Q U O S j hlt S[j] (aZA hlt) s2 s1 l (F:=F) (H:=H) (Ls:=dR l ps);simp only[go_sem,c,Fa,Fb];refine one A (by (repeat' (first|exact c_|refine d_ ?_ ?_))<;>first|(simp only[go_sem,i]<;>rfl)|rfl) fun v H2 h5=>?_;have J:=h5.own (dR l ps).length (zH _ _ _ rfl);generalize dnL U S[j] f.aXC.length=D at *
  have p:roomFor (dB ps).length 1 24:=by unfold roomFor; rw[lI]; simp only[maxLen]; omega
  have fin:∀ (d:PV) (H':PH),aM H' [] ((dR l ps++[(v,1,aY D)]).set 0 (d,1,dB ps++[[v]]))→aM H' [] (dR d (ps++[(v,D)]))∧wls (ps++[(v,D)])=wls ps++[D]:=by
   intro d H' u;refine⟨?_,?_⟩
   ·have e:dR d (ps++[(v,D)])=(dR l ps++[(v,1,aY D)]).set 0 (d,1,dB ps++[[v]]):=by unfold dR dB mX;rw[aZO,aZO];rfl
    rw[e];exact u
   ·unfold wls;rw[aZO]; rfl
  rcases J with ⟨-,rfl⟩ | ⟨q,rs,rfl,-,-,-⟩
  ·simp only[go_sem,UF,aYY,aZI,or_false,forall_eq];refine h5.append 0 (rows:=dB ps) (src:=[[PV.aB]]) rfl Sq p fun d H' u _=>?_;obtain⟨k1,k2⟩:=fin d H' u;simp only[go_sem,UG,wZz j];exact aD (j+1,d,_,H') ⟨hlt,k2.trans w.symm,k1⟩ (by simp only; omega) (by (repeat' (first|exact c_|refine d_ ?_ ?_))<;>first|(simp only[go_sem,i]<;>rfl)|rfl) b_
  ·simp only[go_sem,UF,aYY,aZI,or_false,forall_eq];refine h5.append 0 (rows:=dB ps) (src:=[[PV.osl q 1 0 (aY D).length]]) rfl Sq p fun d H' u _=>?_;obtain⟨k1,k2⟩:=fin d H' u;simp only[go_sem,UG,wZz j];exact aD (j+1,d,_,H') ⟨hlt,k2.trans w.symm,k1⟩ (by simp only; omega) (by (repeat' (first|exact c_|refine d_ ?_ ?_))<;>first|(simp only[go_sem,i]<;>rfl)|rfl) b_
 ·have c:¬ (j:Int)<(S.length:Nat):=Om;have:j=S.length:=Om;subst this;rw[aZK] at y;simp only[go_sem,c];exact Up.up Lq (E l ps H A y)
theorem aEB {C:Ctx} (L:PT C) (f:aE) (X:f.Ok) (lv cnt:Int) :
  MU.wp C (aR aoW.res (cA (.tup [lay (dU f lv cnt),.int .i64 (eE f lv cnt)]))) (PF.args [.agg f.cells,mN lv cnt]) .nil:=by
 have hB:dU f lv cnt=if eE f lv cnt=0 then mS f (eT f lv) cnt.toNat else []:=rfl
 have A:eE f lv cnt=if eC f&&(decide (1≤lv)&&decide (lv≤5)&&decide (1≤cnt)&&decide (cnt≤3)) then (if 12<f.aXC.length∨512<dH ((eT f lv).length:Nat) cnt.toNat then 2 else 0) else 1:=rfl
 have d:∀ (e:Int) (F:PF),e≠0→eE f lv cnt=e→F 4=some .aB→F 5=some (.int .i64 e)→aR [.tmp 4,.tmp 5] (cA (.tup [lay (dU f lv cnt),.int .i64 (eE f lv cnt)])) .ret F .nil:=by intro e F he c h2 h3;rw[c,if_neg he] at hB;rw[hB,c];exact oE (.inr rfl) (by simp only[go_sem,h2,h3]) (aM.tL aM.nil)
 have E:(eC f&&(decide (1≤lv)&&decide (lv≤5)&&decide (1≤cnt)&&decide (cnt≤3)))=false→eE f lv cnt=1:=fun h=>by rw[A,h]; rfl
 simp only[go_sem,MU,T0,T1,aoW];refine aA (L.valid f X) Ev ?_;cases J:eC f with
 | false =>have c:=E (by rw[J]; rfl);simp only[go_sem,aZF,uZ];exact d 1 _ (by decide) c Sq Sq
 | true =>
  have hV:=VF.of J;by_cases w:lv<1
  ·have c:=E (by rw[decide_eq_false (Om:¬ 1≤lv)]; simp);simp only[go_sem,aYT,w,uZ];exact d 1 _ (by decide) c Sq Sq
  by_cases y:lv>5
  ·have c:=E (by rw[decide_eq_false (Om:¬ lv≤5)]; simp);simp only[go_sem,aYT,w,y,uZ];exact d 1 _ (by decide) c Sq Sq
  by_cases H:cnt<1
  ·have c:=E (by rw[decide_eq_false (Om:¬ 1≤cnt)]; simp);simp only[go_sem,aYT,w,y,H,uZ];exact d 1 _ (by decide) c Sq Sq
  by_cases M:cnt>3
  ·have c:=E (by rw[decide_eq_false (Om:¬ cnt≤3)]; simp);simp only[go_sem,aYT,w,y,H,M,uZ];exact d 1 _ (by decide) c Sq Sq
  obtain⟨n,rfl⟩:∃ n:Nat,cnt=n:=⟨cnt.toNat,by omega⟩;rw[J,decide_eq_true (Om:1≤lv),decide_eq_true (Om:lv≤5),decide_eq_true (Om:(1:Int)≤(n:Int)),decide_eq_true (Om:(n:Int)≤3),a0Z,a0Z,a0Z,a0Z,if_pos rfl,a0J] at A;rw[a0J] at hB;obtain⟨hU,W⟩:=vH hV lv;have p:=L.units f lv X J Om Om;generalize eT f lv=U at *
  by_cases R:12<f.aXC.length
  ·have c:eE f lv n=2:=by rw[A,if_pos (.inl R)]
   simp only[go_sem,aYT,w,y,H,M,fq,aYN,show (f.aXC.length:Int)>12 by omega,T2];exact d 2 _ (by decide) c Sq Sq
  simp only[go_sem,aYT,w,y,H,M,fq,aYN,show ¬ (f.aXC.length:Int)>12 by omega,T3];refine aA p Ev ?_;simp only[go_sem,T4,T5];refine wp_loop (α:=Nat) (fun k=>(((((PF.nil.set 2 (.bH f.cells)).set 3 (.bH [.int .i64 lv,.int .i64 n])).set 6 (lay U)).set 7 (.int .i64 (dH (U.length:Nat) k))).set 8 (.int .i64 k))) (fun _=>.nil) (fun k=>k≤n) (fun k=>n-k) 0 (aYS _) (by (repeat' (first|exact c_|refine d_ ?_ ?_))<;>first|(simp only[go_sem,dH]<;>rfl)|rfl) a_ ?_;intro k hk;have O:U.length≤1000:=Om;simp only[go_sem,E0,T6];by_cases hlt:k<n
  ·have l:(k:Int)<(n:Nat):=Om;obtain⟨b1,b2⟩:=xG O (i:=k) Om;have K:=xF O k Om;have hb:((U.length:Int)-(k:Int)).natAbs≤1000:=Om;have B:=a1U (aZS K (a1P Om (Om:k≤2))) hb;rw[← Int.natAbs_mul] at B;have e:(1000:Nat) ^ 2*1000=1000000000:=by decide
   have w1:IntKind.i64.wrap ((U.length:Int)-(k:Int))=(U.length:Int)-k:=wrap_i64 Om Om;have w2:IntKind.i64.wrap (dH (U.length:Nat) k*((U.length:Int)-(k:Int)))=dH (U.length:Nat) k*((U.length:Int)-k):=wrap_i64 Om Om;have w3:IntKind.i64.wrap ((k:Int)+1)=(k:Int)+1:=wrap_i64 Om Om;have Q:¬ ((k:Int)+1)=0:=Om;obtain⟨b3,b4⟩:=xG O (i:=k+1) Om;have Z:dH (U.length:Nat) (k+1)=a1A (dH (U.length:Nat) k*((U.length:Int)-k)) ((k:Int)+1):=by rw[dH]
   rw[Z] at b3 b4;have w4:IntKind.i64.wrap (a1A (dH (U.length:Nat) k*((U.length:Int)-k)) ((k:Int)+1))=a1A (dH (U.length:Nat) k*((U.length:Int)-k)) ((k:Int)+1):=wrap_i64 Om Om;simp only[go_sem,l,T7,aYN,w1,w2,w3,Q,w4,E4,wZz k];exact aD (k+1) hlt Om (by (repeat' (first|exact c_|refine d_ ?_ ?_))<;>first|(simp only[go_sem,Z]<;>rfl)|rfl) a_
  have l:¬ (k:Int)<(n:Nat):=Om;have:k=n:=Om;subst this;by_cases V:512<dH (U.length:Nat) k
  ·have c:eE f lv k=2:=by rw[A,if_pos (.inr V)]
   simp only[go_sem,l,UA,show dH (U.length:Nat) k>512 by omega,E5];exact d 2 _ (by decide) c Sq Sq
  have c:eE f lv k=0:=by rw[A,if_neg (fun h=>h.elim R V)]
  rw[c,if_pos rfl] at hB;rw[hB,c];have N:=L.choose k 0 U.length Om Om Om;have u:=lT U.length k 0;have γ:=pY U.length k 0;have Y:2 ^ (U.length-0)≤2 ^ 40:=a1P Om Om;have β:(2:Nat) ^ 40=1099511627776:=by decide
  have hP:mS f U k=(cS U.length k 0).map fun s=>dnL U s f.aXC.length:=rfl;rw[hP];generalize cS U.length k 0=S at *
  simp only[go_sem,l,UA,show ¬ dH (U.length:Nat) k>512 by omega,E6,aYN];refine aA N (by simp only[go_sem]; rfl) ?_;simp only[go_sem,E7,E8];refine avG (C:=C) L f Om U hU S (fun s K=>⟨by have:=(u s K).1; omega,fun x hx=>((u s K).2.1 x hx).2⟩) Om Lq fun vo ps H' hH hw=>?_;simp only[go_sem,Fh];rw[← hw];exact oE (.inr rfl) Sq hH

def C2:Rg:=[iT 0 false]
def C3:Rg:=[iA 10 (.call 27 [(.const .aB),(Ci 1),(Ci 0)]),iA 1 (.alloc [zI,.aB,.aB,.aB,.aB,.aB,.aB]),iS 7 1 10]
def C4:Rg:=[iO 12 7 1,iA 13 (.call 205 [(Tm 12),(Ci 0)]),iM 11 13,iE 14 11 0,iE 15 11 1,iM 2 14,iM 3 15]
def C5:Rg:=[iO 17 7 1,iA 18 (.build [zI,zI] [(0,1,(Ci 5)),(1,1,(Ci 1))]),iK2 19 230 17 18,iM 16 19,iE 20 16 0,iE 21 16 1,iM 4 20,iM 5 21]
def C6:Rg:=[iO 23 7 1,iA 24 (.aXI true 1 1 [zI] [(0,(Ci 0))]),iA 25 (.build [zI,zI] [(0,1,(Ci 1)),(1,1,(Ci 1))]),iA 26 (.call 209 [(Tm 23),(Ci 0),(Tm 24),(Tm 25)]),iM 22 26,iE 27 22 0,iE 28 22 1,iM 6 27,iM 7 28]
def C7:Rg:=[iO 30 7 1,iA 31 (.call 205 [(Tm 30),(Ci 5)]),iM 29 31,iE 32 29 0,iE 33 29 1,iM 8 32,iM 9 33]
def C8:Rg:=[iM 34 3,iC 35 .eql 34 0,iM 36 35,gM 37 2 36 true,iG 38 (.aXI true 1 1 [zI] [(0,(Ci 0))]) 36 true,iG 39 (.aXI true 1 1 [.aB] [(0,(Tm 38))]) 36 true,gK2 40 212 37 39 36 true,iP 41 36 40,iM 42 41,gM 43 5 42 true,gC 44 .eql 43 0 42 true,iP 45 42 44,iM 46 45,gM 47 4 46 true,iG 48 (.aXI true 1 1 [zI] [(0,(Ci 0))]) 46 true,iG 49 (.aXI true 1 1 [.aB] [(0,(Tm 48))]) 46 true,gK2 50 212 47 49 46 true,iP 51 46 50,iM 52 51,gM 53 7 52 true,gC 54 .eql 53 0 52 true,iP 55 52 54,iM 56 55,gM 57 6 56 true,gC 58 .eql 57 1 56 true,iP 59 56 58,iM 60 59,gM 61 9 60 true,gC 62 .eql 61 1 60 true,iP 63 60 62,iM 0 63]
def DZ:aC:=(sq C2 (sq C3 (sq C4 (sq C5 (sq C6 (sq C7 (sq C8 .ret)))))))
def atL:List Nat:=[24,38,39,48,49]
def Rh:aX:=⟨0,64,DZ,[.tmp 0]⟩
def Db:Rg:=[iA 4 (.alloc [zI,zI])]
def Dc:Rg:=[iM 5 0,iA 6 (.conv .i64 (Tm 5)),iC 7 .rem 6 5,iA 8 (.bin .add (Ci 1) (Tm 7)),iM 9 1,iA 10 (.conv .i64 (Tm 9)),iC 11 .rem 10 3,iA 12 (.bin .add (Ci 1) (Tm 11)),iA 13 (.build [zI,zI] [(0,1,(Tm 8)),(1,1,(Tm 12))]),iS 2 4 13]
def EM:aC:=(sq Db (sq Dc .ret))
def atO:List Nat:=[]
def R3:aX:=⟨2,14,EM,[.cell 4 (some 2)]⟩
structure aGK (C:Ctx):Prop where
 same1:∀ l:List Int,Fits l→aH C 94 [ints l,ints l] .nil (aF (.bool true))
 fleet:∀ (l:List Nat),(∀ x∈l,x<256)→l.length≤9223372036854775807→∀ aXC aXE:Nat,aXC≤60→aXE≤50 →
  aH C 27 [.sl 1 (kO l),.int .i64 aXC,.int .i64 aXE] .nil (aF (.agg (iR (l.take 400) aXC aXE 0).1.cells))
 all:∀ (f:aE) (aXO:Int),f.Ok→aH C 205 [.agg f.cells,.int .i64 aXO] .nil (aF (.tup [lay (wW f aXO),.int .i64 (pA f aXO)]))
 vD:∀ (f:aE) (lv cnt:Int),f.Ok→aH C 230 [.agg f.cells,mN lv cnt] .nil (aF (.tup [lay (dU f lv cnt),.int .i64 (eE f lv cnt)]))
 loss:∀ (f:aE) (aXO:Int) (set:List Int) (lv cnt:Int),f.Ok→set.length≤1000000000000000→aH C 209 [.agg f.cells,.int .i64 aXO,ints set,mN lv cnt] .nil (aF (.tup [.int .i64 (JX f aXO set lv cnt:Nat),.int .i64 (rL f aXO set lv cnt)]))
theorem aAD {C:Ctx} (same1:∀ l:List Int,Fits l→aH C 94 [ints l,ints l] .nil (aF (.bool true))) (a:List (List Int)) (i:a.length≤9000000000000000000) (e:∀ w∈a,w.length≤9000000000000000000) :
  IS.wp C (aR alQ.res (aF (.bool true))) (PF.args [lay a,lay a]) .nil:=by
 simp only[go_sem,IS,Mg,Mh,alQ,aYN,bS (show (a.length:Int)=(a.length:Nat) from rfl),Mi];refine wp_loop (α:=Nat) (fun k=>(((PF.nil.set 0 (lay a)).set 1 (lay a)).set 5 (.int .i64 k))) (fun _=>.nil) (fun k=>k≤a.length) (fun k=>a.length-k) 0 (aYS _) Lq a_ ?_;intro k p;simp only[go_sem,Mf,Mj,aYN];by_cases hlt:k<a.length
 ·have c:(k:Int)<(a.length:Nat):=Om;have d:(a.map fun w=>[ints w])[k]?=some [ints a[k]]:=by simp[hlt]
  have u:=e a[k] (aYQ hlt);generalize a[k]=x at *
  simp only[go_sem,c];refine bO .nil (cyS (.bool true)) a_ ?_;simp only[go_sem,Mk,d,aYN];refine bP rfl (same1 x Om) Sq a_ ?_;simp only[go_sem,aYT,Ml,wZz k];exact aD (k+1) hlt Om Lq a_
 ·have c:¬ (k:Int)<(a.length:Nat):=Om;simp only[go_sem,c,Mm];refine aO (.inr rfl) Ev ?_;rfl
noncomputable def pJ:aE:=(iR [] 1 0 0).1
theorem WW:pJ.Ok:=aON (by decide +kernel)
theorem fz:wW pJ 0=[[0]]∧pA pJ 0=0∧pA pJ 5=1:=by decide +kernel
theorem Gi:dU pJ 5 1=[[0]]∧eE pJ 5 1=0:=by decide +kernel
theorem Gh:JX pJ 0 [0] 1 1=1∧rL pJ 0 [0] 1 1=0:=by decide +kernel
structure Jn (C:Ctx):Prop extends aGK C where
 sets:∀ a:List (List Int),a.length≤9000000000000000000→(∀ w∈a,w.length≤9000000000000000000)→aH C 212 [lay a,lay a] .nil (aF (.bool true))
theorem atN {C:Ctx} (a b:Nat) (x:a<256) (y:b<256):EM.wp C (aR R3.res (aF (mN (1+a%5:Nat) (1+b%3:Nat)))) (PF.args [.int .u8 a,.int .u8 b]) .nil:=by
 have e:IntKind.i64.wrap (a:Int)=a:=wrap_i64 Om Om;have i:IntKind.i64.wrap (b:Int)=b:=wrap_i64 Om Om;have c:Int.tmod (a:Int) 5=((a%5:Nat):Int):=by rw[Int.tmod_eq_emod_of_nonneg Om]; omega
 have d:Int.tmod (b:Int) 3=((b%3:Nat):Int):=by rw[Int.tmod_eq_emod_of_nonneg Om]; omega
 have l:IntKind.i64.wrap ((a%5:Nat):Int)=((a%5:Nat):Int):=wrap_i64 Om Om;have p:IntKind.i64.wrap ((b%3:Nat):Int)=((b%3:Nat):Int):=wrap_i64 Om Om;have u:IntKind.i64.wrap (1+((a%5:Nat):Int))=((1+a%5:Nat):Int):=by rw[wrap_i64 Om Om]; omega
 have w:IntKind.i64.wrap (1+((b%3:Nat):Int))=((1+b%3:Nat):Int):=by rw[wrap_i64 Om Om]; omega
 simp only[go_sem,EM,Db,R3];refine aN fun o A=>?_;simp only[go_sem,Dc,e,i,c,d,l,p,u,w,aYY,aZI,or_false,forall_eq,forall_eq_or_imp];refine aO (.inr rfl) (vs:=[mN (1+a%5:Nat) (1+b%3:Nat)]) ?_ rfl;simp only[go_sem]
theorem atK {C:Ctx} (L:Jn C):DZ.wp C (aR Rh.res (aF (.bool true))) (PF.args []) .nil:=by
 have p:=L.fleet [] (fun x u=>by cases u) (by decide) 1 0 (by decide) (by decide);have c:aH C 27 [.sl 1 (kO []),.int .i64 (1:Nat),.int .i64 (0:Nat)] .nil (aF (.agg pJ.cells)):=p;have d:=L.all pJ 0 WW;rw[fz.1,fz.2.1] at d;have e:=L.vD pJ 5 1 WW;rw[Gi.1,Gi.2] at e;have i:=L.loss pJ 0 [0] 1 1 WW (by decide);rw[Gh.1,Gh.2] at i;have l:=L.all pJ 5 WW;rw[fz.2.2] at l;have h5:=L.sets [[0]] (by decide) (by decide);generalize pJ=f at *
 simp only[go_sem,DZ,C2,C3,Rh];refine aA (c.args (.alC (.nil 1) (.alC (.refl _) (.alC (.refl _) .aUR)))) (by simp only[go_sem]; rfl) ?_;simp only[go_sem];refine aN fun o w=>?_;simp only[go_sem,C4];refine aA d Sq ?_;simp only[go_sem,C5];refine aA e Sq ?_;simp only[go_sem,C6];refine aA i (by simp only[go_sem]; rfl) ?_;simp only[go_sem,C7];refine aA l Sq ?_;simp only[go_sem,C8,bN (show (0:Int)=0 from rfl)];refine aA h5 (by simp only[go_sem]; rfl) ?_;simp only[go_sem,bN (show (0:Int)=0 from rfl)];refine aA h5 (by simp only[go_sem]; rfl) ?_;simp only[go_sem,bN (show (0:Int)=0 from rfl),bN (show ((1:Nat):Int)=1 from rfl),bN (show (1:Int)=1 from rfl)];refine aO (.inr rfl) Ev ?_;rfl
theorem Yr (n k a:Nat) (h:a<n):cS n (k+1) a=(cS n k (a+1)).map (a::·)++cS n (k+1) (a+1):=by
 rw[cS];by_cases c:n-k-a=0
 ·have d:n-k-(a+1)=0:=Om;rw[cS,c,d];have:cS n k (a+1)=[]:=by
   cases k with
   | zero=>omega
   | succ k=>rw[cS,show n-k-(a+1)=0 by omega]; rfl
  rw[this]; rfl
 ·obtain⟨m,e⟩:∃ m,n-k-a=m+1:=⟨n-k-a-1,by omega⟩;rw[cS,e,List.range'_succ,List.flatMap_cons,show n-k-(a+1)=m by omega]
def Grow (P:List Nat→Bool):Prop:=∀ s t:List Nat,(∀ x∈s,x∈t)→P s=true→P t=true
theorem Grow.cons {P:List Nat→Bool} (h:Grow P) (a:Nat):Grow fun s=>P (a::s):=fun s t c i =>
 h (a::s) (a::t) (fun x d=>(aYY.1 d).elim (fun e=>e ▸ List.mem_cons_self) fun d=>List.mem_cons_of_mem _ (c x d)) i
def jB (n k a:Nat) (P:List Nat→Bool):Nat:=(cS n k a).countP P
theorem AG (n k a:Nat) (h:a<n) (P:List Nat→Bool):jB n (k+1) a P=jB n k (a+1) (fun s=>P (a::s))+jB n (k+1) (a+1) P:=by
 unfold jB;rw[Yr n k a h,List.countP_append,List.countP_map];rfl
theorem arG (n k a:Nat) {P Q:List Nat→Bool} (h:∀ s,P s=true→Q s=true):jB n k a P≤jB n k a Q:=List.countP_mono_left fun s _ c=>h s c
theorem DJ (n a:Nat) (P:List Nat→Bool):jB n 0 a P=if P [] then 1 else 0:=by
 unfold jB; rw[cS,List.countP_cons,List.countP_nil,aZM]
theorem HS (n:Nat):∀ (m k a:Nat) (P:List Nat→Bool),Grow P→a+m=n→(m-k)*jB n k a P≤(k+1)*jB n (k+1) a P
 | 0,k,a,P,_,_=>by rw[Nat.zero_sub,Nat.zero_mul]; exact aYS _
 | m+1,0,a,P,d,h=>by
  rw[AG n 0 a Om,DJ,DJ];have l:=HS n m 0 (a+1) P d Om;rw[DJ] at l;cases i:P [] with
  | false=>rw[if_neg (by simp)]; omega
  | true =>have p:P [a]=true:=d [] [a] (fun x e=>by cases e) i;rw[if_pos i] at l;rw[if_pos rfl,if_pos p];omega
 | m+1,k+1,a,P,d,h=>by
  have B:=HS n m (k+1) (a+1) P d Om;have E:=HS n m k (a+1) (fun s=>P (a::s)) (d.cons a) Om;have u:=arG n (k+1) (a+1) (P:=P) (Q:=fun s=>P (a::s)) fun s A=>d s (a::s) (fun x e=>List.mem_cons_of_mem _ e) A;rw[AG n k a Om,AG n (k+1) a Om];generalize jB n (k+1) (a+1) P=x at *
  generalize jB n (k+1+1) (a+1) P=y at *
  generalize jB n k (a+1) (fun s=>P (a::s))=z at *
  generalize jB n (k+1) (a+1) (fun s=>P (a::s))=w at *
  rw[show m+1-(k+1)=m-k by omega,aZE,aZE];have F:(m-k)*x≤(m-(k+1))*x+x:=by
   rcases aZL k m with c | c
   ·rw[show m-k=(m-(k+1))+1 by omega,a1V]; exact aYV _
   ·rw[show m-k=0 by omega,Nat.zero_mul]; exact aYS _
  have H:(k+1+1)*w=(k+1)*w+w:=a1V _ _;omega
theorem azC {n k:Nat} {P:List Nat→Bool} (e:Grow P) (h:2*k+1≤n):jB n k 0 P≤jB n (k+1) 0 P:=by
 have c:=HS n n k 0 P e Om;have d:(k+1)*jB n k 0 P≤(n-k)*jB n k 0 P:=aZY _ Om;exact Nat.le_of_mul_le_mul_left (aZS d c) Om
theorem P5 (f:aE) (u:List (List Int)) (k:Nat) (set:List Int) (m:Int):gZ (mS f u k) set m=jB u.length k 0 fun s=>decide (((jF (bM ((aYO f.aXC.length).filter (jL u s))) set:Nat):Int)>m):=by
 unfold gZ mS jB;rw[List.countP_map];rfl
theorem atB {f:aE} {u:List (List Int)} {k:Nat} {set:List Int} {m:Int} (h:2*k+1≤u.length):gZ (mS f u k) set m≤gZ (mS f u (k+1)) set m:=by
 rw[P5,P5];refine azC (fun s t l w=>?_) h;have y:=of_decide_eq_true w;refine decide_eq_true ?_;have:jF (bM ((aYO f.aXC.length).filter (jL u s))) set≤jF (bM ((aYO f.aXC.length).filter (jL u t))) set:=by unfold jF;refine List.countP_mono_left fun d _ e=>?_;rw[List.contains_iff_mem] at e ⊢;unfold bM at e ⊢;rw[aZQ] at e ⊢;obtain⟨x,c,rfl⟩:=e;refine⟨x,?_,rfl⟩;rw[List.mem_filter] at c ⊢;refine⟨c.1,?_⟩;unfold jL at c ⊢;rw[List.any_eq_true] at c ⊢;obtain⟨-,i,hi,p⟩:=c;exact⟨i,l i hi,p⟩
 omega
def lvC (L:Int) (ds:List cE):Nat:=ds.countP fun x=>decide (x.level=L)
theorem aBZ (f:aE) (L:Int):((aYO f.aXF.length).filter fun i=>decide (lvl f i=L)).length=lvC L f.aXF:=by
 rw[← List.countP_eq_length_filter];unfold lvC lvl;have c:∀ (ds:List cE),(aYO ds.length).countP (fun i=>decide ((ds.map cE.level).getD i 0=L))=ds.countP fun x=>decide (x.level=L):=by
  intro ds
  induction ds with
  | nil=>rfl
  | cons d ds e =>rw[a0F,List.range_succ_eq_map,List.countP_cons,List.countP_map,List.countP_cons,← e];rfl
 exact c f.aXF
theorem Kr:∀ m:Fin 10,∀ c:Fin 4,dH (m.val:Int) c.val≤512:=by decide
theorem PS (l:List Nat) (aXD a:Nat):∀ k,(dQ l aXD a k).1.length=k
 | 0=>rfl
 | k+1=>by have:=PS l aXD a k;rw[dQ];simp[this]
theorem Xy (l:List Nat) (aXC aXE a:Nat):1≤(iR l aXC aXE a).1.aXG.length:=by
 unfold iR;simp only;rw[PS];omega
theorem awG (f:aE) (lv:Int):(eT f lv).length=if lv=5 then f.aXC.length else lvC lv f.aXF:=by
 unfold eT;split
 ·simp
 ·rw[aYN]; exact aBZ f lv
structure BR (f:aE):Prop where
 ok:f.Ok
 valid:eC f=true
 aXC:f.aXC.length≤9
 lv:∀ L:Int,1≤L→L≤4→lvC L f.aXF≤8
theorem BR.num {f:aE} (h:BR f) {lv:Int} (c:1≤lv) (h5:lv≤5):(eT f lv).length≤9:=by
 rw[awG];split
 ·exact h.aXC
 ·have:=h.lv lv c Om; omega
theorem BR.vD {f:aE} (h:BR f) {lv:Int} (d:1≤lv) (h5:lv≤5) {c:Nat} (i:1≤c) (l:c≤3):eE f lv c=0:=by
 have p:=h.num d h5;have e:=Kr ⟨(eT f lv).length,by omega⟩ ⟨c,by omega⟩;simp only at e;unfold eE;rw[h.valid,decide_eq_true d,decide_eq_true h5,decide_eq_true (Om:(1:Int)≤(c:Int)),decide_eq_true (Om:(c:Int)≤3),a0Z,a0Z,a0Z,a0Z,if_pos rfl,a0J,if_neg];have:=h.aXC;omega
theorem BR.all {f:aE} (h:BR f) {p:Int} (d:gD f p=true):pA f p=0∧wW f p=fO f (cX f p):=by
 have c:pA f p=0:=by unfold pA;rw[d,if_pos rfl,if_neg];have:=h.aXC;omega
 exact⟨c,by unfold wW; rw[if_pos c]⟩
theorem ayL {s:List Nat} {n top:Nat} (l:s.length=n) (p:∀ x∈s,x<top) (u:s.Pairwise (· < ·)):mU (bM s) n top=true:=by
 unfold mU;rw[eR,l,decide_eq_true rfl,aYZ];simp only[aZC,aZR];intro i hi;have d:i<s.length:=Om;have g:(bM s).getD i 0=(s[i]:Nat):=by unfold bM; simp[aZG,d]
 unfold kZ;rw[g];have w:=p _ (aYQ d);simp only[aZD,Bool.or_eq_true,decide_eq_true_eq];refine⟨by omega,?_⟩;by_cases c:i=0
 ·exact .inl c
 ·right;have e:i-1<s.length:=Om;have g2:(bM s).getD (i-1) 0=(s[i-1]:Nat):=by unfold bM; simp[aZG,e]
  rw[g2];have:=List.pairwise_iff_getElem.1 u (i-1) i e d Om;omega
theorem aEI {f:aE} {p:Int} (c:gD f p=true) {set:List Int} (h:set∈fO f (cX f p)):HK f p set=true∧set.length≤8:=by
 obtain⟨hV,-⟩:=oK c;have d:=hV.aXO _ (nZ c).1;unfold fO at h;rw[List.mem_filter] at h;obtain⟨i,l⟩:=h;obtain⟨s,u,rfl⟩:=aZQ.1 i;obtain⟨k1,k2,y⟩:=lT _ _ _ _ u;have e:((eY (cX f p)).toNat:Int)=eY (cX f p):=by unfold eY; omega
 have:=ayL k1 (fun x w=>(k2 x w).2) y;rw[e] at this;refine⟨by unfold HK; rw[c,this,l]; rfl,?_⟩;rw[eR,k1];unfold eY; omega
theorem BR.more {f:aE} (h:BR f) {p:Int} (w:gD f p=true) {lv:Int} (i:1≤lv) (h5:lv≤5) {c:Nat} (u:1≤c) (A:c≤2) (x:2*c+1≤(eT f lv).length) {set:List Int} (y:set∈fO f (cX f p)) :
  rL f p set lv c=0∧rL f p set lv ((c+1:Nat):Int)=0∧JX f p set lv c≤JX f p set lv ((c+1:Nat):Int):=by
 have s1:=h.vD i h5 u (Om:c≤3);have s2:=h.vD i h5 (Om:1≤c+1) (Om:c+1≤3);obtain⟨l,-⟩:=aEI w y;have d:rL f p set lv c=0:=by unfold rL; rw[s1,l]; rfl
 have e:rL f p set lv ((c+1:Nat):Int)=0:=by unfold rL; rw[s2,l]; rfl
 refine⟨d,e,?_⟩;unfold JX dU;rw[if_pos d,if_pos e,if_pos s1,if_pos s2,a0J,a0J];exact atB x
structure aqR (C:Ctx):Prop extends Jn C where
 awake:aH C 222 [] .nil (aF (.bool true))
 fails:∀ a b:Nat,a<256→b<256→aH C 223 [.int .u8 a,.int .u8 b] .nil (aF (mN (1+a%5:Nat) (1+b%3:Nat)))

structure ayE (C:Ctx):Prop where
 vD:∀ (f:aE) (lv cnt:Int),f.Ok→aH C 219 [.agg f.cells,mN lv cnt] .nil (aF (.tup [lay (dU f lv cnt),.int .i64 (eE f lv cnt)]))
 lost:∀ (sc:List (List Int)) (set:List Int) (m:Int),sc.length≤1000000000000000→(∀ s∈sc,s.length≤1000000000000000)→set.length≤1000000000000000→aH C 220 [lay sc,ints set,.int .i64 m] .nil (aF (.int .i64 (gZ sc set m:Nat)))
 all:∀ (f:aE) (aXO:Int),f.Ok→aH C 216 [.agg f.cells,.int .i64 aXO] .nil (aF (.tup [lay (wW f aXO),.int .i64 (pA f aXO)]))
 int:∀ n:Int,cK n→aH C 47 [.int .i64 n] .nil (aF (.agg (mkT n 1).cells))
 less:∀ x y:RF,x.Ok→y.Ok→x.valid→y.valid→aH C 49 [.agg x.cells,.agg y.cells] .nil (aF (.bool (decide (nM x y<0))))
 yx:∀ x y:RF,x.Ok→y.Ok→aH C 280 [.agg x.cells,.agg y.cells] .nil (aF (frV (pX x.v y.v)))
 modest:∀ (l:List RF),(∀ x∈l,x.Ok)→∀ n:Nat,n≤1000→aH C 234 [frs l,.int .i64 n] .nil (aF (.bool (decide (l.length=n)&&l.all fC)))
theorem aJS (n:Nat):mkT n 1=FV.rf (false,n,1):=by
 rw[zK,Int.natAbs_natCast,decide_eq_false (Om:¬ (n:Int)<0)]; rfl
theorem aOP (x y:FV):nM x.rf y.rf=oM x y:=by
 obtain⟨c,d,e⟩:=TQ x;obtain⟨g1,g2,g3⟩:=TQ y;unfold nM;rw[c,d,e,g1,g2,g3]; rfl
theorem V7 {x:FV} (h:cJ x.2.1 x.2.2=true):x.rf.valid:=by
 obtain⟨c,d,e⟩:=TQ x;unfold RF.valid;rw[c,d]; exact h
theorem Yk {C:Ctx} (Lb:ayE C) (i:List RF) (hp:∀ x∈i,x.Ok) (hm:Modest i) (n:Nat) (hn:n<18446744073709551616) (S:List (List Int)) (k:Nat) (hk:k<S.length) (set:List Int) (hS:S[k]=set) (hs:set.length≤12) (X:∀ d∈set,0≤d∧d<i.length)
  (aXO:Int) (f:aE) (o9 E l:Nat) (J M:PV) (B:List BX) (K:bT) [Up K] (F:PF) (H:PH)
  (hF:((((((((((((PF.nil.set 1 (.int .i64 aXO)).set 3 (frs i)).set 4 (.bH f.cells)).set 9 (.ptr o9 3 0 0)).set 11 (J)).set 13 (lay S)).set 15 (M)).set 16 (.ptr E 3 0 0)).set 17 (.int .i64 k)).set 18 (.ptr l 3 0 0)).set 19 (.int .i64 0))).le F)
  (hH:aM H (B++[(l,.rows 3 [(FV.rf (false,n,1)).cells])]) [])
  (hK:∀ H',aM H' (B++[(l,.rows 3 [(FV.rf (jH i n set)).cells])]) []→K (.exit 2) (((((((((((PF.nil.set 1 (.int .i64 aXO)).set 3 (frs i)).set 4 (.bH f.cells)).set 9 (.ptr o9 3 0 0)).set 11 (J)).set 13 (lay S)).set 15 (M)).set 16 (.ptr E 3 0 0)).set 17 (.int .i64 k)).set 18 (.ptr l 3 0 0))) H') :
  aC.wp C (.loop MQ) K F H:=by
 have u:(S.map fun r=>[ints r])[k]?=some [ints set]:=by rw[aZN,aZA hk,hS]; rfl
 have R:(k:Int)<(S.length:Nat):=Om;refine qW _ (fun _ _ _ _ a b=>Up.up a b) hF ?_;refine wp_loop (α:=Nat × PH) (fun t=>(((((((((((PF.nil.set 1 (.int .i64 aXO)).set 3 (frs i)).set 4 (.bH f.cells)).set 9 (.ptr o9 3 0 0)).set 11 (J)).set 13 (lay S)).set 15 (M)).set 16 (.ptr E 3 0 0)).set 17 (.int .i64 k)).set 18 (.ptr l 3 0 0)).set 19 (.int .i64 t.1))) (fun t=>t.2)
  (fun t=>t.1≤set.length∧aM t.2 (B++[(l,.rows 3 [(FV.rf (jH i n (set.take t.1))).cells])]) []) (fun t=>set.length-t.1) (0,H) ⟨aYS _,hH⟩ Lq b_ ?_
 rintro⟨j,H1⟩ ⟨hj,O⟩;simp only at hj O ⊢;simp only[go_sem,MQ,qp,u,R,aYN];by_cases hlt:j<set.length
 ·have p:(j:Int)<(set.length:Nat):=Om;have V:(set.map fun x=>[PV.int .i64 x])[j]?=some [.int .i64 set[j]]:=by simp[hlt]
  have hd:=X _ (aYQ hlt);have Q:=AH hm hn (set.take j) (by rw[aZH]; omega);have A:jH i n (set.take (j+1))=(pX (jH i n (set.take j)) (kN i set[j])).got:=by rw[aZW hlt,HU]
  obtain⟨Y,-⟩:=QZ Q (by rw[aZH]; omega);have N:=O.AB;generalize set[j]=d at *
  obtain⟨e,rfl⟩:∃ e:Nat,d=e:=⟨d.toNat,by omega⟩;have y:e<i.length:=Om;have U:(e:Int)<(i.length:Nat):=hd.2;have Z:(i.map RF.cells)[e]?=some (i[e]).cells:=by simp[y]
  have β:kN i e=(i[e]).v:=by unfold kN; simp[aZG,y]
  have w:=Lb.yx (FV.rf (jH i n (set.take j))) i[e] Y (hp _ (aYQ y));rw[FV.Tn,← β,WB,← A] at w;generalize jH i n (set.take j)=c at *
  generalize W:jH i n (set.take (j+1))=c' at *
  simp only[go_sem,p];refine bO .nil (stS 280 (.tup [.agg c'.rf.cells,.int .i64 (pX c (kN i e)).err]) .aB) a_ ?_;simp only[go_sem,qq,N,R,u,p,V,U,aYN,Z];refine bP rfl w Sq a_ ?_;simp only[go_sem,N];refine⟨a_,?_⟩;simp only[go_sem,qr,wZz j];refine aD (j+1,_) ⟨hlt,?_⟩ (by simp only; omega) Lq b_;show aM _ (B++[(l,.rows 3 [(FV.rf (jH i n (set.take (j+1)))).cells])]) [];rw[W];exact O.HB _
 ·have p:¬ (j:Int)<(set.length:Nat):=Om;have:j=set.length:=Om;subst this;rw[aZK] at O;simp only[go_sem,p];exact Up.up Lq (hK _ O)
theorem avC {C:Ctx} (V:ayE C) (f:aE) (hf:f.Ok) (aXO lv cnt:Int) (e:List RF) (hp:∀ x∈e,x.Ok) (Γ:∀ x∈e,nl (val x.num)≤8∧nl (val x.den)≤8) :
  ES.wp C (aR BB.res (cA (nN f aXO lv cnt e))) (PF.args [.agg f.cells,.int .i64 aXO,mN lv cnt,frs e]) .nil:=by
 have R:tR f aXO lv cnt e=if eE f lv cnt≠0 then eE f lv cnt else if (decide (0≤aXO)&&decide (aXO<f.aXG.length))&&(decide (e.length=f.aXC.length)&&e.all fC) then (if fO f (cX f aXO)=[] then 12 else 0) else 1:=rfl
 simp only[go_sem,ES,Eo,BB];refine aN fun N Ψ=>?_;have h1:aM (PH.nil.set N (.rows 3 [kC])) [(N,.rows 3 [kC])] []:=aM.nil.new (H:=PH.nil) rfl _;generalize (PH.nil.set N _)=H1 at *
 have Y:=h1.at 0 rfl;simp only[go_sem,Ep];refine aA (V.vD f lv cnt hf) Sq ?_;by_cases c:eE f lv cnt≠0
 ·simp only[go_sem,TV,cT c,Er,Y];exact kK c (by rw[R,if_pos c]) Sq
 have c:eE f lv cnt=0:=Decidable.not_not.1 c;rw[if_neg (fun h=>h c)] at R;obtain⟨τ,ι⟩:=MX c;have W:((decide (0≤aXO)&&decide (aXO<f.aXG.length))&&(decide (e.length=f.aXC.length)&&e.all fC))=false→tR f aXO lv cnt e=1:=fun h=>by rw[R,h]; rfl
 simp only[go_sem,TV,c,bS (show (0:Int)=0 from rfl),Es];by_cases c1:aXO<0
 ·simp only[go_sem,c1,CR,Y];exact kK (by decide) (W (by rw[decide_eq_false (Om:¬ 0≤aXO)]; simp)) Sq
 by_cases c2:aXO≥(f.aXG.length:Nat)
 ·simp only[go_sem,c1,aYN,c2,CR,Y];exact kK (by decide) (W (by rw[decide_eq_false (Om:¬ aXO<(f.aXG.length:Nat))]; simp)) Sq
 simp only[go_sem,c1,aYN,c2];refine aA (V.modest e hp f.aXC.length Om) Sq ?_;cases Q:(decide (e.length=f.aXC.length)&&e.all fC) with
 | false =>simp only[go_sem,aZF,CR,Y];exact kK (by decide) (W (by rw[Q,aZV])) Sq
 | true =>
  rw[Q,decide_eq_true (Om:0≤aXO),decide_eq_true (Om:aXO<(f.aXG.length:Nat)),a0Z,a0Z,if_pos rfl] at R;rw[aZD,decide_eq_true_eq] at Q;obtain⟨c3,B⟩:=Q;have B:=aZC.1 B;have ζ:gD f aXO=true:=by unfold gD;rw[τ,decide_eq_true (Om:0≤aXO),decide_eq_true (Om:aXO<(f.aXG.length:Nat))]; rfl
  have U:Modest e:=fun x hx=>⟨(SK (B x hx)).elim fun r h=>h.2.2.2,Γ x hx⟩;obtain⟨hV,h0,hm,he⟩:=oK ζ;obtain⟨υ,σ⟩:=nZ ζ;have Λ:=hV.aXO _ υ;have θ:(f.aXG.map bV.cells)[aXO.toNat]?=some (cX f aXO).cells:=by rw[aZN,σ]; rfl
  have χ:aXO<(f.aXG.length:Nat):=Om;have hA:pA f aXO=0∧wW f aXO=fO f (cX f aXO):=by
   have h1:pA f aXO=0:=by unfold pA; rw[ζ,if_pos rfl,if_neg Om]
   refine⟨h1,?_⟩;unfold wW;rw[if_pos h1]
  have E:=V.all f aXO hf;rw[hA.2] at E;obtain⟨Θ,ξ⟩:=MY hV (eT f lv) (vH hV lv).2 cnt.toNat;have ψ:dU f lv cnt=mS f (eT f lv) cnt.toNat:=by unfold dU; rw[if_pos c]
  rw[← ψ] at Θ ξ;have η:=fun (set:List Int) (h:set.length≤1000000000000000)=>V.lost (dU f lv cnt) set (cX f aXO).m Om (fun s hs=>by have:=(ξ s hs).1; omega) h;have K:∀ set,gZ (dU f lv cnt) set (cX f aXO).m≤9223372036854775807:=fun set=>by have:gZ (dU f lv cnt) set (cX f aXO).m≤(dU f lv cnt).length:=a2N;omega
  have ω:(eY (cX f aXO)).toNat≤8∧1≤(eY (cX f aXO)).toNat:=by unfold eY; omega
  have A:=fun s (h:s∈fO f (cX f aXO))=>fw h;have Φ:=Gd f (cX f aXO) ι;simp only[go_sem,aYT,Et];refine aA E Sq ?_;simp only[go_sem,Eu,Ew];refine aN fun w μ=>?_;have h4:=h1.new μ (.rows 3 [kC]);generalize Ξ:H1.set w _=H4 at *
  simp only[go_sem,Ex];have δ:∀ t∈fO f (cX f aXO),(pH f aXO lv cnt e t).rf.Ok∧cJ (pH f aXO lv cnt e t).2.1 (pH f aXO lv cnt e t).2.2=true:=fun t ht=>by have h1:=K t;have h2:=(A t ht).1;exact QZ (AH U (n:=gZ (dU f lv cnt) t (cX f aXO).m) Om t Om) Om
  generalize hS:fO f (cX f aXO)=S at *
  generalize ε:pH f aXO lv cnt e=l at *
  refine wp_loop (α:=Nat × PH) (fun t=>(((((((((PF.nil.set 1 (.int .i64 aXO)).set 3 (frs e)).set 4 (.bH f.cells)).set 9 (.ptr N 3 0 0)).set 11 (lay (dU f lv cnt))).set 13 (lay S)).set 15 (VV (fX l (S.take t.1)))).set 16 (.ptr w 3 0 0)).set 17 (.int .i64 t.1))) (fun t=>t.2)
   (fun t=>t.1≤S.length∧aM t.2 [(N,.rows 3 [kC]),(w,.rows 3 [vM l (fX l (S.take t.1))])] []) (fun t=>S.length-t.1) (0,H4) ⟨aYS _,h4⟩ Lq b_ ?_
  rintro⟨k,H5⟩ ⟨hk,h5⟩;simp only at hk h5 ⊢;have Y:=h5.at 0 rfl;have p:=h5.at 1 rfl;simp only[go_sem,qi,qj,aYN];by_cases hlt:k<S.length
  ·have y:(k:Int)<(S.length:Nat):=Om;have F:(S.map fun r=>[ints r])[k]?=some [ints S[k]]:=by simp[hlt]
   have κ:S[k]∈S:=aYQ hlt;obtain⟨g1,g2⟩:=A _ κ;have g3:=η S[k] Om;have g4:=K S[k];have g5:l S[k]=jH e (gZ (dU f lv cnt) S[k] (cX f aXO).m) S[k]:=by rw[← ε]; rfl
   have g6:=V.int (gZ (dU f lv cnt) S[k] (cX f aXO).m:Nat) (by unfold cK; omega);rw[aJS] at g6;have u:=BS l (S.take k) S[k];rw[← aZW hlt] at u;obtain⟨ο,ρ⟩:=δ _ κ;have rc:=fun (n:Nat) (hn:n<18446744073709551616) (hs:(S[k]).length≤12)=>Yk V e hp U n hn S k hlt S[k] rfl hs;generalize hs:S[k]=s at *
   generalize gZ (dU f lv cnt) s (cX f aXO).m=n at *
   simp only[go_sem,y];refine bO .nil (stS 220 (.int .i64 n) (.agg (FV.rf (false,n,1)).cells)) a_ ?_;simp only[go_sem,qk,y,F,aYN,h0,χ,θ];refine bP rfl g3 Sq a_ ?_;simp only[go_sem];refine bP rfl g6 Sq a_ ?_;simp only[go_sem];refine aN fun Δ ν=>?_;simp only[go_sem];refine⟨a_,?_⟩;have h6:=h5.new ν (.rows 3 [(FV.rf (false,n,1)).cells]);simp only[go_sem,qn,aYN];refine rc n Om Om (fun d hd=>by have:=g2 d hd; omega) aXO f N w Δ (lay (dU f lv cnt)) (VV (fX l (S.take k))) [(N,.rows 3 [kC]),(w,.rows 3 [vM l (fX l (S.take k))])] _ _ _ Lq h6 fun H7 h7=>?_;rw[← g5] at h7;have p:=h7.at 1 rfl;have X:=h7.at 2 rfl;cases J:fX l (S.take k) with
   | none =>rw[J] at h7 u p;have p:H7 w=some (.rows 3 [kC]):=p;simp only[go_sem,MR,xE];refine bO .nil dT a_ ?_;simp only[go_sem,MS,X,p,y,F,aYN];refine⟨a_,?_⟩;simp only[go_sem,yG,wZz k];refine aD (k+1,_) ⟨hlt,?_⟩ (by simp only; omega) (by (repeat' (first|exact c_|refine d_ ?_ ?_))<;>first|(simp only[go_sem,u,tQ,kB]<;>rfl)|rfl) b_;show aM _ [(N,.rows 3 [kC]),(w,.rows 3 [vM l (fX l (S.take (k+1)))])] [];rw[u];exact (h7.set 1 rfl (.rows 3 [(l s).rf.cells])).lC 2
   | some b =>
    obtain⟨b1,b2⟩:=δ b (a2M (rQ J));have β:=(A b (a2M (rQ J))).1;have hc:=V.less (l s).rf (l b).rf ο b1 (V7 ρ) (V7 b2);rw[aOP] at hc;rw[J] at h7 u p;have p:H7 w=some (.rows 3 [(l b).rf.cells]):=p;have M:(ints b).rD=some false:=by
     cases b with
     | nil=>simp at β; omega
     | cons x r=>rfl
    simp only[go_sem,MR,X,p,kB,M];refine aA hc Sq ?_;simp only[go_sem];by_cases O:oM (l s) (l b)<0
    ·have u:fX l (S.take (k+1))=some s:=by rw[u]; unfold tQ; simp only[if_pos O]
     simp only[go_sem,decide_eq_true O];refine bO .nil dT a_ ?_;simp only[go_sem,MS,X,p,y,F,aYN];refine⟨a_,?_⟩;simp only[go_sem,yG,wZz k];refine aD (k+1,_) ⟨hlt,?_⟩ (by simp only; omega) (by (repeat' (first|exact c_|refine d_ ?_ ?_))<;>first|(simp only[go_sem,u,kB]<;>rfl)|rfl) b_;show aM _ [(N,.rows 3 [kC]),(w,.rows 3 [vM l (fX l (S.take (k+1)))])] [];rw[u];exact (h7.set 1 rfl (.rows 3 [(l s).rf.cells])).lC 2
    ·have u:fX l (S.take (k+1))=some b:=by rw[u]; unfold tQ; simp only[if_neg O]
     simp only[go_sem,decide_eq_false O,yG,wZz k];refine aD (k+1,_) ⟨hlt,?_⟩ (by simp only; omega) (by (repeat' (first|exact c_|refine d_ ?_ ?_))<;>first|(simp only[go_sem,u,kB]<;>rfl)|rfl) b_;show aM _ [(N,.rows 3 [kC]),(w,.rows 3 [vM l (fX l (S.take (k+1)))])] [];rw[u];exact h7.lC 2
  have y:¬ (k:Int)<(S.length:Nat):=Om;have φ:k=S.length:=Om;subst φ;rw[aZK] at h5 p;simp only[go_sem,y,aZK];cases J:fX l S with
  | none =>
   have Z:S=[]:=by
    rcases zf l S (fun t ht=>(dZ.1 (δ t ht).2).1) with ⟨-,h⟩ | ⟨i,b,h,-⟩
    ·exact h
    ·rw[h] at J; cases J
   rw[if_pos Z] at R;simp only[go_sem,MT,xE,qt,Y];exact kK (by decide) R Sq
  | some b =>
   have γ:=rQ J;have Z:¬ S=[]:=fun h=>by rw[h] at γ; cases γ
   have β:=(A b γ).1;rw[if_neg Z] at R;rw[J] at p;have p:H5 w=some (.rows 3 [(l b).rf.cells]):=p;have M:(ints b).rD=some false:=by
    cases b with
    | nil=>simp at β; omega
    | cons x r=>rfl
   simp only[go_sem,MT,kB,M];refine bO .nil dT a_ ?_;simp only[go_sem,qu,Y,p];refine⟨a_,?_⟩;rw[← ε,← hS] at J;rw[← ε];exact pd R J Sq
section
variable {C:Ctx} {F:PF} {H:PH}
theorem Z2 {o s:Nat} {rs:List (List PV)}:∀ {args:List aQ} {vs:List PV},aQ.evs F args=some vs→(∀ a∈args,∃ t,a=.tmp t)→aQ.evs (F.frz o s rs) args=some (vs.map (PV.frz o s rs))
 | [],vs,h,_=>by rw[GL] at h;cases h;rfl
 | a::p,vs,h,c=>by
  obtain⟨t,rfl⟩:=c a (by simp);rw[rT,GK] at h;split at h
  ·rename_i v l d e;cases h;rw[rT,GK,nK,d,Z2 e fun b i=>c b (List.mem_cons_of_mem _ i)];rfl
  ·cases h
theorem Seen.co1 {s:Nat} {v:PV} {rows:List (List PV)} (h:Seen s v rows):Co v (.sl s rows):=by
 rcases h with ⟨rfl,rfl⟩ | rfl
 ·exact .nil s
 ·exact .refl _
theorem W1 {name s:Nat} {u r:PV} {rows:List (List PV)} {pre:List PV} {args:List aQ} {d:Option Nat} {K:PF→PH→Prop} (N:bU H s u rows) (h:aH C name (pre++[.sl s rows]) .nil (aF r)) (y:aQ.evs F args=some (pre++[u])) (B:∀ a∈args,∃ t,a=.tmp t) (c:∀ x∈pre,Fx x)
  (p:∀ (l:PF) (J:PH) (M:PV),Seen s M rows→(∀ t,F t=some u→l t=some M)→(∀ i w,F i=some w→Fx w→l i=some w)→(∀ o x,H o=some x→u.oid≠some o→(∀ q s rs,cF.frz q s rs x=x)→J o=some x)→K (l.put d r) J):iV C name args [] d K F H:=by
 rcases N with ⟨rfl,rfl⟩ | ⟨q,rs,rfl,h1,h2,h3⟩
 ·refine aA (vs:=pre++[.aB]) (h.args ?_) y (p F H .aB (.inl ⟨rfl,rfl⟩) (fun t h=>h) (fun i w h _=>h) fun o x h _ _=>h);clear h y c p
  induction pre with
  | nil=>exact .cons (.nil s) .nil
  | cons x xs R=>exact .cons (.refl x) R
 ·refine .inr ⟨_,_,.step q h1 (.refl _ _),pre++[.sl s rows],.nil,aF r,?_,a_,h,?_⟩
  ·rw[Z2 y B,aZZ,a0M,aZO];congr 2
   ·conv=>rhs; rw[← List.map_id pre]
    exact a2F fun x E=>c x E _ _ _
   ·rw[a0D,a0X,qF h2,h3]
  ·rintro S H' ⟨rfl,rfl⟩ -;rw[PH.uW];refine p _ _ (.sl s rows) (.inr rfl) (fun t B=>?_) (fun i w hi Q=>?_) fun o x O A E=>?_
   ·rw[nK,B,aZZ,qF h2,h3]
   ·rw[nK,hi,aZZ,Q]
   ·have:o≠q:=fun e=>A (by rw[e]; rfl);rw[uR,if_neg this,O,aZZ,E]
end
structure akA (C:Ctx):Prop extends aqR C where
 int:∀ n:Int,cK n→aH C 47 [.int .i64 n] .nil (aF (.agg (mkT n 1).cells))
 fmk:∀ n d:Int,cK n→cK d→aH C 50 [.int .i64 n,.int .i64 d] .nil (aF (rG n d))
 price:∀ (f:aE) (aXO lv cnt:Int) (prices:List RF),f.Ok→(∀ x∈prices,x.Ok)→(∀ x∈prices,nl (val x.num)≤8∧nl (val x.den)≤8)→prices.length≤1000000→aH C 231 [.agg f.cells,.int .i64 aXO,mN lv cnt,frs prices] .nil (aF (nN f aXO lv cnt prices))
 BB:∀ (f:aE) (aXO lv cnt:Int) (prices:List RF),f.Ok→(∀ x∈prices,x.Ok)→(∀ x∈prices,nl (val x.num)≤8∧nl (val x.den)≤8)→aH C 233 [.agg f.cells,.int .i64 aXO,mN lv cnt,frs prices] .nil (aF (nN f aXO lv cnt prices))
 frac:∀ x:RF,x.Ok→aH C 235 [.agg x.cells,.agg x.cells] .nil (aF (.bool true))
abbrev l7 (l:List Int):PV:=.sl 1 (l.map fun x=>[.int .i8 x])
def czP (l:List Int) (d:Nat):RF:=if d<l.length then mkT (l.getD d 0) 4 else mkT 0 1
def uJ (l:List Int) (n:Nat):List RF:=(aYO n).map (czP l)
theorem acO (n d:Int) (e:cK n) (c:cK d) (p:d≠0):(mkT n d).Ok∧nl (val (mkT n d).num)≤8∧nl (val (mkT n d).den)≤8:=by
 have i:nl n.natAbs≤2:=jZ (by unfold cK at e; omega);have l:nl d.natAbs≤2:=jZ (by unfold cK at c; omega);unfold mkT mD FV.rf;simp only;have u:=rF (aYP n.natAbs d.natAbs) i;have w:=rF (aYP n.natAbs d.natAbs) l;refine⟨⟨aV _,aV _,?_,?_⟩,?_,?_⟩
 ·simp only[aW]; omega
 ·simp only[aW]; omega
 ·simp only[aS]; omega
 ·simp only[aS]; omega
theorem arP {l:List Int} (c:∀ x∈l,cK x) (d:Nat):(czP l d).Ok∧nl (val (czP l d).num)≤8∧nl (val (czP l d).den)≤8:=by
 unfold czP;split
 ·rename_i h;refine acO _ 4 ?_ (by unfold cK; omega) (by decide);rw[aZG,aZA h];exact c _ (aYQ h)
 ·exact acO 0 1 (by unfold cK; omega) (by unfold cK; omega) (by decide)
theorem aHM {l:List Int} (e:∀ x∈l,cK x) (n:Nat):(∀ x∈uJ l n,x.Ok)∧∀ x∈uJ l n,nl (val x.num)≤8∧nl (val x.den)≤8:=by
 constructor
 ·intro x c;obtain⟨d,-,rfl⟩:=aZQ.1 c;exact (arP e d).1
 ·intro x c;obtain⟨d,-,rfl⟩:=aZQ.1 c;exact (arP e d).2
abbrev RN (l:List RF):List (List PV):=l.map RF.cells
theorem XK (l:List RF) (h:l.length≤1000):roomFor (RN l).length 1 56:=by
 unfold roomFor;simp only[aYN,maxLen]; omega
theorem arQ (xs:List Int) (d:Nat):RN (uJ xs d)++[(czP xs d).cells]=RN (uJ xs (d+1)):=by
 unfold uJ;rw[a1Z,aZO];show _=((aYO d).map (czP xs)++[czP xs d]).map RF.cells;rw[aZO]; rfl
theorem X8 {C:Ctx} (V:akA C) (f:aE) (β:f.aXC.length≤24) (xs:List Int) (hx:∀ x∈xs,-128≤x∧x≤127) (A:PV) (q:Int) (U:cF) (c e:Nat) (K:bT) [Up K] (F:PF) (H:PH)
  (Y:((((((((PF.nil.set 4 (l7 xs)).set 5 (A)).set 13 (.ptr c 7 0 0)).set 14 (.int .i64 q)).set 15 (.ptr e 2 0 0)).set 16 (.aB)).set 17 (.int .i64 0))).le F)
  (Z:aM H [(c,.rows 7 [f.cells]),(e,U)] [(.aB,3,[])])
  (hK:∀ v H',aM H' [(c,.rows 7 [f.cells]),(e,U)] [(v,3,RN (uJ xs f.aXC.length))]→K (.exit 0) (((((((PF.nil.set 4 (l7 xs)).set 5 (A)).set 13 (.ptr c 7 0 0)).set 14 (.int .i64 q)).set 15 (.ptr e 2 0 0)).set 16 (v))) H') :
  aC.wp C (.loop LH) K F H:=by
 have W:cK 0:=by unfold cK; omega
 refine qW _ (fun _ _ _ _ a b=>Up.up a b) Y ?_;refine wp_loop (α:=Nat × PV × PH) (fun t=>(((((((PF.nil.set 4 (l7 xs)).set 5 (A)).set 13 (.ptr c 7 0 0)).set 14 (.int .i64 q)).set 15 (.ptr e 2 0 0)).set 16 (t.2.1)).set 17 (.int .i64 t.1))) (fun t=>t.2.2)
  (fun t=>t.1≤f.aXC.length∧aM t.2.2 [(c,.rows 7 [f.cells]),(e,U)] [(t.2.1,3,RN (uJ xs t.1))]) (fun t=>f.aXC.length-t.1) (0,.aB,H) ⟨aYS _,Z⟩ Lq b_ ?_
 rintro⟨d,v,H1⟩ ⟨hd,B⟩;simp only at hd B ⊢;have Q:=B.at 0 rfl;have u:(uJ xs d).length≤1000:=by unfold uJ; simp; omega
 simp only[go_sem,LH,Dm,Q,aYN];by_cases hlt:d<f.aXC.length
 ·have i:(d:Int)<(f.aXC.length:Nat):=Om;have N:czP xs d=if d<xs.length then mkT (xs.getD d 0) 4 else mkT 0 1:=rfl
  have M:=arQ xs d;simp only[go_sem,i,Dn];refine aA (V.int 0 W) Sq ?_;simp only[go_sem];refine aN fun δ l=>?_;have X:=B.new l (.rows 3 [(mkT 0 1).cells]);have p:=X.at 2 rfl;simp only[go_sem,Do,aYN];by_cases J:d<xs.length
  ·have w:(d:Int)<(xs.length:Nat):=Om;have S:(xs.map fun x=>[PV.int .i8 x])[d]?=some [.int .i8 xs[d]]:=by simp[J]
   have γ:=hx _ (aYQ J);have w1:IntKind.i64.wrap xs[d]=xs[d]:=wrap_i64 Om Om;have y:=V.fmk xs[d] 4 (by unfold cK; omega) (by unfold cK; omega);rw[rG,if_neg (by decide)] at y;rw[if_pos J,aZG,aZA J,a1L] at N;rw[← N] at y;simp only[go_sem,w,Dp,S,aYN,w1];refine aA y Sq ?_;simp only[go_sem];have E:=B.new l (.rows 3 [(czP xs d).cells]);have p:=E.at 2 rfl;simp only[go_sem,LK,p];refine E.append 0 (src:=[(czP xs d).cells]) rfl Sq (XK _ u) fun v' O R _=>?_;simp only[go_sem,LL,wZz d];refine aD (d+1,v',O) ⟨hlt,?_⟩ (by simp only; omega) Lq b_;have h5:=R.lC 2;rw[a2B,M] at h5;exact h5
  ·have w:¬ (d:Int)<(xs.length:Nat):=Om;rw[if_neg J] at N;simp only[go_sem,w,← N];have E:=B.new l (.rows 3 [(czP xs d).cells]);have p:=E.at 2 rfl;simp only[go_sem,LK,p];refine E.append 0 (src:=[(czP xs d).cells]) rfl Sq (XK _ u) fun v' O R _=>?_;simp only[go_sem,LL,wZz d];refine aD (d+1,v',O) ⟨hlt,?_⟩ (by simp only; omega) Lq b_;have h5:=R.lC 2;rw[a2B,M] at h5;exact h5
 ·have i:¬ (d:Int)<(f.aXC.length:Nat):=Om;have:d=f.aXC.length:=Om;subst this;simp only[go_sem,i];exact Up.up Lq (hK v _ B)
theorem aMV:(FV.rf (false,0,0)).Ok:=by
 refine⟨aV _,aV _,?_,?_⟩
 ·show (aI 0).length≤_;rw[dW]; decide
 ·show (aI 0).length≤_;rw[dW]; decide
theorem oz {f:aE} {aXO lv cnt:Int} {d:List RF} (F:∀ x∈d,nl (val x.num)≤8∧nl (val x.den)≤8) :
  ∃ (J:List Int) (x:RF) (e:Int),nN f aXO lv cnt d=.tup [ints J,.agg x.cells,.int .i64 e]∧x.Ok∧J.length≤1000:=by
 unfold nN;refine⟨_,_,_,rfl,?_⟩;cases y:GW f aXO lv cnt d with
 | none=>exact⟨aMV,aYS _⟩
 | some b =>
  unfold GW at y;split at y
  ·rename_i i;unfold tR at i;split at i
   ·rename_i w; exact absurd i w
   ·rename_i c;have c:eE f lv cnt=0:=Decidable.not_not.1 c;split at i
    ·rename_i w;simp only[aZD,decide_eq_true_eq,aZC] at w;obtain⟨⟨Q,R⟩,U,l⟩:=w;obtain⟨A,K⟩:=MX c;have p:gD f aXO=true:=by unfold gD;rw[A,decide_eq_true Q,decide_eq_true R]; rfl
     have u:Modest d:=fun x N=>⟨(SK (l x N)).elim fun r h=>h.2.2.2,F x N⟩;obtain⟨hV,-,-,-⟩:=oK p;have M:=hV.aXO _ (nZ p).1;have E:(eY (cX f aXO)).toNat≤8:=by unfold eY; omega
     have O:=(fw (rQ y)).1;obtain⟨H,-⟩:=MY hV (eT f lv) (vH hV lv).2 cnt.toNat;have B:dU f lv cnt=mS f (eT f lv) cnt.toNat:=by unfold dU; rw[if_pos c]
     rw[← B] at H;have S:gZ (dU f lv cnt) b (cX f aXO).m≤(dU f lv cnt).length:=a2N;refine⟨(QZ (AH u (n:=gZ (dU f lv cnt) b (cX f aXO).m) Om b Om) Om).1,?_⟩;show b.length≤1000;omega
    ·cases i
  ·cases y
theorem avT {x:RF} (c:x.Ok) (d:x.num.length≤8) (e:x.den.length≤8):nl (val x.num)≤8∧nl (val x.den)≤8:=by
 refine⟨aZS ((hC _ _).2 (eX c.1)) d,aZS ((hC _ _).2 (eX c.2.1)) e⟩
theorem aoD {C:Ctx} (A:akA C) (f:aE) (hf:f.Ok) (q lv O:Int) (d:List RF) (p:∀ x∈d,x.Ok) (η:d.length≤9223372036854775807) (J K u w:Nat) (F:PF) (H:PH) (z1 z2:RF)
  (hF:(((((((PF.nil.set 5 (frs d)).set 13 (.ptr J 7 0 0)).set 14 (.int .i64 q)).set 15 (.ptr K 2 0 0)).set 20 (.ptr u 3 0 0)).set 23 (.ptr w 3 0 0))).le F)
  (M:aM H [(J,.rows 7 [f.cells]),(K,.rows 2 [[.int .i64 lv,.int .i64 O]]),(u,.rows 3 [z1.cells]),(w,.rows 3 [z2.cells])] []) :
  aC.wp C (.seq (.seq (.region LM) (.cond (.tmp 97) (.seq (.region LN) .ret) .skip)) (.seq (.seq (.region LO) (.block 2 (.loop LJ))) (.seq (.region LQ) (.seq (.region LS) (.seq (.region LT) .ret))))) (aR [.tmp 12] (aF (.bool true))) F H:=by
 refine qW _ (fun _ _ _ _ a b=>Up.up a b) hF ?_;simp only[go_sem,LM,aYN];by_cases c:(d.length:Int)>20
 ·simp only[go_sem,c,LN];refine aA A.awake Sq ?_;simp only[go_sem];exact eD Sq rfl
 simp only[go_sem,c,LO];refine wp_loop (α:=Nat) (fun k=>(((((((PF.nil.set 5 (frs d)).set 13 (.ptr J 7 0 0)).set 14 (.int .i64 q)).set 15 (.ptr K 2 0 0)).set 20 (.ptr u 3 0 0)).set 23 (.ptr w 3 0 0)).set 25 (.int .i64 k))) (fun _=>H) (fun k=>k≤d.length∧∀ x∈d.take k,x.num.length≤8∧x.den.length≤8) (fun k=>d.length-k) 0 ⟨aYS _,(fun x h=>by cases h)⟩ Lq b_ ?_;rintro k ⟨hk,l⟩;simp only[go_sem,LJ,og,aYN];by_cases hlt:k<d.length
 ·have i:(k:Int)<(d.length:Nat):=Om;have B:(d.map RF.cells)[k]?=some (d[k]).cells:=by simp[hlt]
  have ε:d.take (k+1)=d.take k++[d[k]]:=aZW hlt;generalize d[k]=y at *
  simp only[go_sem,i,oi,B,aYN];by_cases Q:(y.num.length:Int)>8
  ·simp only[go_sem,Q,LP];refine aA A.awake Sq ?_;simp only[go_sem];exact eD Sq rfl
  by_cases c2:(y.den.length:Int)>8
  ·simp only[go_sem,Q,i,B,aYN,c2,LP];refine aA A.awake Sq ?_;simp only[go_sem];exact eD Sq rfl
  simp only[go_sem,Q,i,B,aYN,c2,oj,wZz k];refine aD (k+1) ⟨hlt,fun x hx=>?_⟩ Om Lq b_;rw[ε] at hx;rcases a0G.1 hx with hx | hx
  ·exact l x hx
  ·rw[a0Q.1 hx];omega
 have i:¬ (k:Int)<(d.length:Nat):=Om;have γ:k=d.length:=Om;subst γ;rw[aZK] at l;have E:∀ x∈d,nl (val x.num)≤8∧nl (val x.den)≤8:=fun x hx=>avT (p x hx) (l x hx).1 (l x hx).2;have hp:=A.price f q lv O d hf p E Om;have hr:=A.BB f q lv O d hf p E;obtain⟨bs,x,e,δ,ζ,μ⟩:=oz (f:=f) (aXO:=q) (lv:=lv) (cnt:=O) E;rw[δ] at hp hr;have X:=M.at 0 rfl;have Y:=M.at 1 rfl;have Z:=M.at 2 rfl;have ι:=M.at 3 rfl;simp only[go_sem,i,LQ,X,Y];refine aA hp Sq ?_;have N:=M.set 2 rfl (.rows 3 [x.cells]);have U:=N.at 0 rfl;have V:=N.at 1 rfl;have θ:=N.at 2 rfl;have W:=N.at 3 rfl;have hs:=A.same1 bs (Om:bs.length≤9223372036854775807);have β:=A.frac x ζ;simp only[go_sem,Z];generalize hG:PH.set H u _=H2 at *
 simp only[go_sem,LS,U,V];refine aA hr Sq ?_;have h3:=N.set 3 rfl (.rows 3 [x.cells]);have R:=h3.at 2 rfl;have S:=h3.at 3 rfl;simp only[go_sem,W];generalize κ:PH.set H2 w _=H3 at *
 simp only[go_sem,LT,bN (show e=e from rfl)];refine aA hs Sq ?_;simp only[go_sem,R,S];refine aA β Sq ?_;simp only[go_sem];refine aA A.awake Sq ?_;simp only[go_sem];exact eD Sq rfl
theorem atU {C:Ctx} (M:akA C) (l:List Nat) (hb:∀ x∈l,x<256) (hl:l.length≤9223372036854775807) (p K F:Nat) (hp:p<256) (ν:K<256) (θ:F<256) (xs:List Int) (hx:∀ x∈xs,-128≤x∧x≤127) (w:List RF) (Y:∀ x∈w,x.Ok) (W:w.length≤9223372036854775807) :
  EO.wp C (aR n9.res (aF (.bool true))) (PF.args [.sl 1 (kO l),.int .u8 p,.int .u8 K,.int .u8 F,l7 xs,frs w]) .nil:=by
 have κ:=M.fleet l hb hl 8 0 (by decide) (by decide);obtain⟨hv,hf⟩:=Mw (l.take 400) 8 0 0 (by decide) (by decide);have ρ:=Xy (l.take 400) 8 0 0;generalize (iR (l.take 400) 8 0 0).1=f at *
 have hV:=VF.of hv;have a':=hV.small.aXG;have ι:=hV.small.aXC;have J:=M.fails K F ν θ;have ql:=Nat.mod_le p f.aXG.length;have w1:IntKind.i64.wrap (p:Int)=p:=wrap_i64 Om Om;have t1:Int.tmod (p:Int) (f.aXG.length:Nat)=((p%f.aXG.length:Nat):Int):=by rw[Int.tmod_eq_emod_of_nonneg Om]; omega
 have w2:IntKind.i64.wrap ((p%f.aXG.length:Nat):Int)=((p%f.aXG.length:Nat):Int):=wrap_i64 Om Om;have ο:¬ (f.aXG.length:Int)=0:=Om;generalize p%f.aXG.length=q at *
 generalize 1+K%5=lv at *
 generalize 1+F%3=N at *
 have α:∀ x∈xs,cK x:=fun x h=>by have:=hx x h; unfold cK; omega
 obtain⟨X,E⟩:=aHM α f.aXC.length;have Ω:(uJ xs f.aXC.length).length≤1000:=by unfold uJ; simp; omega
 have i:=M.price f q lv N (uJ xs f.aXC.length) hf X E Om;have c:=M.BB f q lv N (uJ xs f.aXC.length) hf X E;obtain⟨bs,x,e,σ,φ,Ψ⟩:=oz (f:=f) (aXO:=q) (lv:=lv) (cnt:=N) E;rw[σ] at i c;have hs:=M.same1 bs (Om:bs.length≤9223372036854775807);have μ:=M.frac x φ;simp only[go_sem,EO,Dg,Dh,n9];refine aA κ (by simp only[go_sem]; rfl) ?_;simp only[go_sem];refine aN fun d Φ=>?_;have h1:aM (PH.nil.set d (.rows 7 [f.cells])) [(d,.rows 7 [f.cells])] []:=aM.nil.new (H:=PH.nil) rfl _;simp only[go_sem,Di,w1,aYN,ο,t1,w2,Dj];refine aA J Sq ?_;simp only[go_sem];refine aN fun u ε=>?_;have h2:=(h1.new ε (.rows 2 [[.int .i64 lv,.int .i64 N]])).mY 3;simp only[go_sem,Dk,Dl];refine X8 M f ι xs hx (frs w) q _ d u _ _ _ Lq h2 fun v H3 O=>?_;have R:=O.at 0 rfl;have S:=O.at 1 rfl;have hO:=O.own 0 rfl;have Δ:v.oid≠some d:=fun hq=>O.neL 0 0 rfl rfl hq rfl;have Θ:v.oid≠some u:=fun hq=>O.neL 1 0 rfl rfl hq rfl;have ξ:=O.ne 0 1 rfl rfl (by decide);simp only[go_sem,oa,R,S];refine W1 (pre:=[.agg f.cells,.int .i64 q,mN lv N]) hO i (by simp only[go_sem]; rfl) (by simp) (fun y hy=>?_) fun Q β v1 υ Z A B=>?_
 ·simp only[aYY,aZI,or_false] at hy;rcases hy with rfl | rfl | rfl
  ·exact fun _ _ _=>rfl
  ·exact fun _ _ _=>rfl
  ·exact fun _ _ _=>rfl
 have f5:Q 5=some (frs w):=A 5 _ Sq (fun _ _ _=>rfl);have f13:Q 13=some (.ptr d 7 0 0):=A 13 _ Sq (fun _ _ _=>rfl);have f14:Q 14=some (.int .i64 q):=A 14 _ Sq (fun _ _ _=>rfl);have U:Q 15=some (.ptr u 2 0 0):=A 15 _ Sq (fun _ _ _=>rfl);have V:Q 16=some v1:=Z 16 Sq;have γ:=B d _ R Δ (fun _ _ _=>rfl);have δ:=B u _ S Θ (fun _ _ _=>rfl);have τ:aH C 233 [.agg f.cells,.int .i64 q,mN lv N,v1] .nil (aF (.tup [ints bs,.agg x.cells,.int .i64 e])):=c.args (.cons (.refl _) (.cons (.refl _) (.cons (.refl _) (.cons υ.co1 .nil))));have h4:aM β [(d,.rows 7 [f.cells]),(u,.rows 2 [[.int .i64 lv,.int .i64 N]])] []:=⟨fun b hb=>by
   simp only[aYY,aZI,or_false] at hb;rcases hb with rfl | rfl
   ·exact γ
   ·exact δ,(fun y hy=>by cases hy),by simp[eW,eK,ξ]⟩
 clear A B Z O h2 h1 hO;simp only[go_sem];refine aN fun Λ ζ=>?_;have h5:=h4.new ζ (.rows 3 [x.cells]);have χ:=h5.at 0 rfl;have ψ:=h5.at 1 rfl;simp only[go_sem,oc,f5,f13,f14,U,V,χ,ψ];refine aA τ (by simp only[go_sem,f14,V]) ?_;simp only[go_sem];refine aN fun Ξ η=>?_;have h6:=h5.new η (.rows 3 [x.cells]);have ω:=h6.at 2 rfl;have Γ:=h6.at 3 rfl;simp only[go_sem,oe,bS (show e=e from rfl)];refine aA hs Sq ?_;simp only[go_sem,aYT,ω,Γ];refine aA μ Sq ?_;simp only[go_sem,aYT];exact aoD M f hf q lv N w Y W d u Λ Ξ _ _ x x (by (repeat' (first|exact c_|refine d_ ?_ ?_))<;>first|(simp only[go_sem,f5,f13,f14,U]<;>rfl)|rfl) h6
structure bB (C:Ctx):Prop where
 r0:bG C 0 Qh
 r1:bG C 1 anI
 r2:bG C 2 aCJ
 r4:bG C 4 Jd
 r5:bG C 5 aCQ
 r7:bG C 7 Jc
 r27:bG C 27 P8
 r28:bG C 28 aCN
 r29:bG C 29 anL
 r30:bG C 30 aEN
 r31:bG C 31 apE
 r32:bG C 32 aEQ
 r33:bG C 33 udiv
 r34:bG C 34 aEV
 r35:bG C 35 apL
 r36:bG C 36 aEY
 r37:bG C 37 aFH
 r38:bG C 38 apQ
 r39:bG C 39 yl
 r40:bG C 40 apJ
 r41:bG C 41 Vm
 r42:bG C 42 Vp
 r43:bG C 43 apO
 r44:bG C 44 Vy
 r45:bG C 45 uup
 r46:bG C 46 apR
 r47:bG C 47 aFO
 r48:bG C 48 Wd
 r49:bG C 49 apW
 r50:bG C 50 Jj
 r51:bG C 51 Wm
 r52:bG C 52 yw
 r53:bG C 53 aqB
 r54:bG C 54 aqC
 r55:bG C 55 aFZ
 r56:bG C 56 Wy
 r57:bG C 57 apV
 r58:bG C 58 yv
 r59:bG C 59 aqD
 r60:bG C 60 Wx
 r61:bG C 61 MZ
 r62:bG C 62 y7
 r63:bG C 63 Wz
 r64:bG C 64 y6
 r65:bG C 65 y8
 r66:bG C 66 aGJ
 r67:bG C 67 Xm
 r68:bG C 68 aGH
 r69:bG C 69 aGD
 r70:bG C 70 W6
 r71:bG C 71 W7
 r72:bG C 72 gx
 r73:bG C 73 Xk
 r74:bG C 74 Xl
 r75:bG C 75 zd
 r76:bG C 76 WZ
 r77:bG C 77 ft
 r80:bG C 80 Ue
 r81:bG C 81 yf
 r88:bG C 88 Uc
 r94:bG C 94 alN
 r95:bG C 95 aBA
 r96:bG C 96 aBL
 r97:bG C 97 Nb
 r98:bG C 98 amD
 r99:bG C 99 amE
 r100:bG C 100 amF
 r101:bG C 101 gone
 r102:bG C 102 amJ
 r103:bG C 103 N7
 r104:bG C 104 gin
 r105:bG C 105 aBB
 r106:bG C 106 aBC
 r107:bG C 107 amK
 r108:bG C 108 amL
 r109:bG C 109 On
 r110:bG C 110 amO
 r111:bG C 111 amH
 r112:bG C 112 aBF
 r113:bG C 113 v7
 r114:bG C 114 aAJ
 r115:bG C 115 Ja
 r116:bG C 116 WC
 r117:bG C 117 M4
 r118:bG C 118 M7
 r119:bG C 119 aAI
 r120:bG C 120 uK
 r121:bG C 121 M6
 r122:bG C 122 amB
 r123:bG C 123 Jb
 r124:bG C 124 ma
 r125:bG C 125 mb
 r126:bG C 126 WK
 r127:bG C 127 aCR
 r128:bG C 128 anP
 r129:bG C 129 aCU
 r130:bG C 130 aCV
 r131:bG C 131 aCW
 r132:bG C 132 aoA
 r133:bG C 133 aCZ
 r134:bG C 134 aDB
 r135:bG C 135 aoE
 r136:bG C 136 xj
 r137:bG C 137 R4
 r138:bG C 138 GT
 r139:bG C 139 dy
 r140:bG C 140 Sh
 r141:bG C 141 Si
 r142:bG C 142 SW
 r143:bG C 143 nup
 r201:bG C 201 ayN
 r202:bG C 202 ayQ
 r203:bG C 203 Ks
 r204:bG C 204 Kq
 r205:bG C 205 call17
 r206:bG C 206 Ln
 r207:bG C 207 vw
 r208:bG C 208 akW
 r209:bG C 209 vz
 r210:bG C 210 alH
 r211:bG C 211 Lo
 r212:bG C 212 alQ
 r213:bG C 213 aDQ
 r215:bG C 215 WS
 r216:bG C 216 aDR
 r217:bG C 217 Ua
 r218:bG C 218 aDU
 r219:bG C 219 aoW
 r220:bG C 220 aoQ
 r222:bG C 222 Rh
 r223:bG C 223 R3
 r231:bG C 231 K3
 r232:bG C 232 v6
 r233:bG C 233 BB
 r234:bG C 234 yd
 r235:bG C 235 alM
 r236:bG C 236 aAA
 r278:bG C 278 we
 r279:bG C 279 M1
 r280:bG C 280 yx
 r281:bG C 281 aFS
 r229:∃ asg bdy,ip C 229 (alG asg bdy)
 r230:∃ asg bdy,ip C 230 (alF asg bdy)
namespace Z
theorem qL {C:Ctx} (c:bB C):rJ C :=
 have len:∀ xs,Lim xs→xs.length≤35184372087808→aH C 138 [aJ xs] .nil (aF (.int .i64 (nl (val xs):Nat))):=fun xs h l=>c.r138.go (anY xs h l) rfl
 {length:=len
  large:=fun xs h l=>c.r137.go (atQ xs (len xs h l)) rfl
  sized:=fun xs h l=>(c.r141.go (atY xs h (len xs h l)) rfl).seen
  trim:=fun xs h l=>(c.r135.go (aDC xs h l (len xs h l)) rfl).seen
  make:=fun v h=>c.r132.go (aCX v h len) rfl
  cmp:=fun xs ys d e i p=>c.r129.go (aKE xs ys d e i p (len xs d i) (len ys e p)) rfl }
theorem aKA {C:Ctx} (c:bB C):I6 C :=
 {subtract:=fun A W Z v f o hW l i e p d=>c.r142.go (So A W Z v f hW l i e p d o) rfl
  restore:=fun A W Z v o hW l i e=>c.r139.go (X9 A W Z v hW l i e o) rfl }
theorem anN {C:Ctx} (c:bB C):Jy C :=
 {L:=qL c
  D:=aKA c
  up:=fun a s i w e=>c.r143.go (aOL a s i w e) rfl
  short:=fun a d i l p e=>c.r140.go (atW (qL c) a d i l p e) rfl
  lengthO:=fun xs o x u=>c.r138.go (X7 xs x u o) rfl }
theorem nj {C:Ctx} (c:bB C) (A B:Nat) (hB:B≠0) (e:nl A≤900) (d:nl B≤900):aH C 136 [aJ (aI A),aJ (aI B)] .nil (aF (qX A B)) :=
 (c.r136.go (anT (anN c) A B hB e d) rfl).seen
theorem rX {C:Ctx} (c:bB C):sU C :=
 {qL c with
  bits:=fun xs h l=>c.r128.go (aCS xs h l ((qL c).length xs h l)) rfl
  add:=fun xs ys d e i p=>(c.r127.go (aKB (qL c) xs ys d e i p) rfl).seen
  sub:=fun xs ys d e i p=>(c.r134.go (aKO (qL c) xs ys d e i p) rfl).seen
  mul:=fun xs ys d e i p=>(c.r133.go (aKM (qL c) xs ys d e i p) rfl).seen
  gcd:=fun xs ys d e i p=>(c.r131.go (aKK (qL c) (nj c) xs ys d e i p) rfl).seen
  div:=fun xs ys d e i p=>(c.r130.go (aKG (qL c) (nj c) xs ys d e i p) rfl).seen }
theorem zC {C:Ctx} (c:bB C):HH C :=
 {rX c with
  times:=fun a b d i e l p u=>c.r121.go (asH (rX c) a b d i e l p u) rfl
  zero:=fun neg a b d e=>c.r122.go (aAP (rX c) neg a b d e) rfl
  valid:=fun neg a b d i e l=>c.r118.go (asJ (rX c) neg a b d i e l) rfl
  abs:=fun v x y=>c.r119.go (aHZ (rX c) v x y) rfl
  lowest:=fun neg a b d i e l p u w=>(c.r120.go (alU (rX c) neg a b d i e l p u w) rfl).seen }
theorem M2 {C:Ctx} (c:bB C) (x y:RF) (d:x.Ok) (e:y.Ok):aH C 113 [.agg x.cells,.agg y.cells] .nil (aF (frV (fW x.v y.v))) :=
 (c.r113.go (aIB (zC c) x.neg y.neg x.num x.den y.num y.den d.1 d.2.1 e.1 e.2.1 d.2.2.1 d.2.2.2 e.2.2.1 e.2.2.2) rfl).seen
theorem zA {C:Ctx} (c:bB C):HG C :=
 {zC c with
  frac:=fun n d w p=>(c.r115.go (aAL (zC c) n d w.1 w.2 p.1 p.2) rfl).seen
  red:=fun x e=>by rw[← aoO];exact (c.r116.go (alX (zC c) x.neg x.num x.den e.1 e.2.1 e.2.2.1 e.2.2.2) rfl).seen
  ord:=fun x y e i=>(c.r114.go (aID (zC c) x.neg y.neg x.num x.den y.num y.den e.1 e.2.1 i.1 i.2.1 e.2.2.1 e.2.2.2 i.2.2.1 i.2.2.2) rfl).seen
  plus:=M2 c
  tot:=fun l u=>(c.r117.go (aIO (zC c) (M2 c) l u.all u.fits) rfl).seen }
theorem yZ {C:Ctx} (c:bB C):sR C :=
 have inn:∀ n lo hi:Int,aH C 104 [.int .i64 n,.int .i64 lo,.int .i64 hi] .nil (aF (.bool (within n lo hi))):=fun n lo hi=>(c.r104.go (aNY n lo hi) rfl).seen;have pD:∀ x:RF,x.Ok→aH C 97 [.agg x.cells] .nil (aF (.bool (bK x))):=fun x i=>(c.r97.go (asL (rX c) x i) rfl).seen;have lim:∀ x:RF,x.Ok→aH C 105 [.agg x.cells] .nil (aF (.bool (cV x))):=fun x i=>(c.r105.go (aIU (zA c) x i) rfl).seen;have d:∀ n:Nat,aH C 126 [.int .u8 n] .nil (aF (.bool (fB n))):=fun n=>c.r126.go (anD n) rfl;have e:∀ n:Nat,aH C 124 [.int .u8 n] .nil (aF (.bool (mK n))):=fun n=>c.r124.go (asU n) rfl
 {zA c with
  inn:=inn
  pD:=pD
  lim:=lim
  one:=fun x i=>(c.r101.go (aIY (zA c) x i) rfl).seen
  allf:=fun p fn l u h=>(c.r99.go (aAT p fn l u h) rfl).seen
  alli:=fun p fn l u h=>(c.r100.go (aAV p fn l u h) rfl).seen
  allb:=fun p fn l u h=>(c.r98.go (aAR p fn l u h) rfl).seen
  ends1:=fun b=>(c.r103.go (asN b) rfl).seen
  num1:=fun n=>(c.r107.go (aBD inn n) rfl).seen
  rate1:=fun x i=>(c.r109.go (asQ lim pD x i) rfl).seen
  name:=fun s=>c.r123.go (aBW d (fun n=>c.r125.go (asZ d e n) rfl) s) rfl }
theorem Ms {C:Ctx} (c:bB C):Jt C :=
 {yZ c with
  num:=fun p d=>(c.r106.go (aIW (yZ c) p d) rfl).seen
  rate:=fun p d=>(c.r108.go (aBG (yZ c) p d) rfl).seen
  uniq:=fun l e=>(c.r110.go (aBJ (yZ c) l e) rfl).seen }
theorem Mt {C:Ctx} (c:bB C):ia C :=
 {Ms c with
  ends:=fun l e d=>(c.r102.go (aAY (yZ c) l e d) rfl).seen }
theorem aAK {C:Ctx} (c:bB C):kU C :=
 {Mt c with
  law:=fun l e=>(c.r95.go (aIS (Mt c) l e) rfl).seen
  pol:=fun p n u i=>(c.r112.go (aJA (Ms c) p u n i) rfl).seen
  aXL:=fun f d=>(c.r111.go (aIQ (yZ c) f d) rfl).seen }
theorem Bg {C:Ctx} (c:bB C) (f:aE) (d:f.Ok):aH C 96 [.agg f.cells] .nil (aF (.int .i64 (BG f))):=(c.r96.go (aJD (aAK c) f d) rfl).seen
theorem nO {C:Ctx} (c:bB C):pC C:={ trimM:=fun xs h l=>c.r38.go (aFI xs h l) rfl }
theorem S7 {C:Ctx} (c:bB C):J0 C :=
 {nO c with
  make:=fun v h=>(c.r35.go (aEW (nO c) v h) rfl).seen
  large:=fun xs h l=>(c.r41.go (awB (nO c) xs h l) rfl).seen
  cmp:=fun xs ys d e i p=>c.r32.go (aLT (nO c) xs ys d e i p) rfl }
theorem S9 {C:Ctx} (c:bB C):J2 C :=
 {S7 c with
  minus:=fun a b e i l u d=>(c.r42.go (awD (nO c) a b e i l u d) rfl).seen
  times:=fun a b e i d p=>(c.r44.go (awH (nO c) a b e i d p) rfl).seen }
theorem fe {C:Ctx} (c:bB C):ik C :=
 {S9 c with
  plus:=fun a b i l d e=>(c.r43.go (aFE (nO c) a b i l d e) rfl).seen }
theorem aDP {C:Ctx} (c:bB C):PX C :=
 {fe c with
  bits:=fun xs h l=>c.r31.go (aEO (nO c) xs h l) rfl
  upM:=fun a n e d i p=>c.r45.go (aPF (nO c) a n e d i p) rfl
  down:=fun a n e d i=>(c.r40.go (aET (nO c) a n e d i) rfl).seen }
theorem fc {C:Ctx} (c:bB C):ii C :=
 {S7 c with
  divide:=fun A B hB e d=>(c.r39.go (apH (aDP c) A B hB e d) rfl).seen }
theorem S8 {C:Ctx} (c:bB C):J1 C :=
 {fc c with
  gcd:=fun a b d e i l=>(c.r34.go (aLX (fc c) a b d e i l) rfl).seen
  div:=fun a b d e i l=>(c.r33.go (aLV (fc c) a b d e i l) rfl).seen }
theorem xz {C:Ctx} (c:bB C):akE C :=
 {S8 c with
  lowest:=fun neg a b i l p u w x e=>(c.r58.go (apX (S8 c) neg a b i l p u w x e) rfl).seen
  size:=fun v d=>c.r59.go (aFX v d.1 d.2) rfl }
theorem AX {C:Ctx} (c:bB C):ij C :=
 {xz c with
  fmk:=fun n d i e=>(c.r50.go (Wg (xz c) n d i e) rfl).seen }
theorem wz {C:Ctx} (c:bB C) (hi:wU C):HI C :=
 {AX c with
  int:=fun n d=>(c.r47.go (yu (AX c) n d) rfl).seen
  itoa:=hi
  next:=fun l v T o n a d e=>c.r4.go (aCO T o n a d e) rfl }
theorem Qu {C:Ctx} (c:bB C) (hi:wU C):Jw C :=
 {wz c hi with
  frac:=fun l v T o a d=>c.r1.go (aCE (wz c hi) T o a d) rfl }
theorem Qv {C:Ctx} (c:bB C) (hi:wU C):sT C :=
 {Qu c hi with
  rep:=fun l v T o a m e d=>c.r5.go (aJY (Qu c hi) T o a m e d) rfl
  name:=fun s n p i=>c.r29.go (aCL (wz c hi) s n p i) rfl }
theorem Qw {C:Ctx} (c:bB C) (hi:wU C):nH C :=
 {Qv c hi with
  law:=fun l v T o eM a i d e=>c.r2.go (aJT (Qv c hi) T o eM a i d e) rfl }
theorem Qx {C:Ctx} (c:bB C) (hi:wU C):Jx C :=
 {Qw c hi with
  grow:=fun l v T mc aXC d e i=>Ov (Qw c hi) T mc aXC d e i (fun args H R p h=>c.r7 args H R (by rw[p]; decide) h) 4 (aYV _) }
theorem aCH {C:Ctx} (c:bB C) (hi:wU C):aqS C :=
 {Qx c hi with
  new:=fun l p u=>c.r28.go (aJV l p u) rfl
  fleet:=fun l v T o aXC aXE a d e i=>PU.exact (c.r0.go (atG (Qx c hi) T o aXC aXE a d e i) rfl) }
theorem x2 {C:Ctx} (c:bB C):I7 C :=
 {AX c with
  int:=fun n p=>(c.r47.go (yu (AX c) n p) rfl).seen
  mul:=fun a b d e i l=>(c.r36.go (aLZ (S9 c) a b d e i l) rfl).seen
  add:=fun a b d e i l=>(c.r30.go (aLR (fe c) a b d e i l) rfl).seen
  sub:=fun a b d e i l=>(c.r37.go (aMD (fe c) a b d e i l) rfl).seen }
theorem ff {C:Ctx} (c:bB C):im C :=
 {x2 c with
  valid:=fun x d=>c.r56.go (axB (x2 c) x.neg x.num x.den d.1 d.2.1 d.2.2.1 d.2.2.2) rfl
  big:=fun x=>c.r48.go (awV x.1 (aI x.2.1) (aI x.2.2)) rfl }
theorem fg {C:Ctx} (c:bB C):io C :=
 {ff c with
  fits:=fun x=>(c.r57.go (aFL (ff c) x) rfl).seen
  red:=fun x i=>(c.r52.go (apZ (ff c) x i) rfl).seen
  prod:=fun a b d e l p u w=>c.r60.go (awZ (x2 c) a b d e l p u w) rfl }
theorem AY {C:Ctx} (c:bB C):zW C :=
 {fg c with
  order:=fun x y d e i l=>c.r51.go (awX (fg c) x y d e i l) rfl }
theorem WQ {C:Ctx} (c:bB C):akF C :=
 {AY c with
  less:=fun x y d e i l=>c.r49.go (aFP (AY c) x y d e i l) rfl
  same:=fun x y d e i l=>c.r53.go (aFT (AY c) x y d e i l) rfl
  sign:=fun x d i=>c.r54.go (aFV (AY c) x d i) rfl
  plus:=fun x y d e=>(c.r46.go (aMF (AY c) x y d e) rfl).seen }
theorem fa {C:Ctx} (c:bB C):ig C :=
 {WQ c with
  sum:=fun l e d=>(c.r55.go (aMN (WQ c) l e d) rfl).seen
  inn:=fun n lo hi=>c.r76.go (aqP n lo hi) rfl
  code:=fun k m=>c.r61.go (aEF k m) rfl }
theorem Ed {C:Ctx} (c:bB C):vf C :=
 {fa c with
  small:=fun x d=>c.r74.go (axW (fa c) x d) rfl
  nums:=fun k m q s0 s1 s2 s3 s4=>c.r72.go (Y2 (fa c) k m q s0 s1 s2 s3 s4) rfl
  sizes:=fun e i l p u w=>c.r73.go (axU e i l p u w) rfl }
theorem Ee {C:Ctx} (c:bB C):vh C :=
 {Ed c with
  smalls:=fun l d n=>c.r75.go (aqN (Ed c) l d n) rfl }
theorem Ef {C:Ctx} (c:bB C):vi C :=
 {Ee c with
  reps:=fun l d m=>c.r66.go (aMY (Ee c) l d m) rfl }
theorem Eg {C:Ctx} (c:bB C):vj C :=
 have d:∀ n:Nat,aH C 65 [.int .u8 n] .nil (aF (.bool (fB n))):=fun n=>c.r65.go (aqI n) rfl;have e:∀ n:Nat,aH C 63 [.int .u8 n] .nil (aF (.bool (mK n))):=fun n=>c.r63.go (axD n) rfl
 {Ef c with
  name:=fun s=>c.r62.go (aqG d (fun n=>c.r64.go (aqE d e n) rfl) s) rfl
  index:=fun l i s=>c.r71.go (axR l i s) rfl }
theorem Eh {C:Ctx} (c:bB C):qB C :=
 {Eg c with
  fresh:=fun l e s w H d=>c.r70.go (axP (Eg c) l e s w H d) rfl }
theorem auW {C:Ctx} (c:bB C):sE C :=
 {Eh c with
  law:=fun l d=>c.r68.go (aMW (Eh c) l d) rfl }
theorem auX {C:Ctx} (c:bB C):vk C :=
 {auW c with
  dur:=fun m rep e t h i d=>c.r69.go (aMT (Ef c) m rep e t h i d) rfl }
theorem W4 {C:Ctx} (c:bB C) (f:aE) (d:f.Ok):aH C 67 [.agg f.cells] .nil (aF (.bool (eC f))):=c.r67.go (ayA (auX c) f d) rfl
theorem axI {C:Ctx} (c:bB C):ajZ C :=
 {adm:=fun f p set hV l d u=>c.r201.go (aHE f hV p l d set u) rfl
  asc:=fun set n top i=>c.r202.go (aHI set i n top) rfl
  known:=fun f aXO e=>c.r203.go (arD (Bg c) f e aXO) rfl }
theorem ajB {C:Ctx} (c:bB C):gy C :=
 {axI c with
  subs:=fun n top=>c.r210.go (azI n top) rfl
  iter:=fun l o1 o2 n top J y e i w x u A H p d b1 b2 g1 g2=>c.r211.go (ayW J y e i w x u p d b1 b2 g1 g2) rfl }
theorem ajC {C:Ctx} (c:bB C):Jo C :=
 {ajB c with
  sets:=fun f p hV w A d x l y u=>by obtain⟨e,i,r⟩:=c.r229;exact (r.go (azG (ajB c) e i f hV w p A d x l y u) rfl).seen }
theorem ajD {C:Ctx} (c:bB C):Jp C :=
 {ajC c with
  val:=Bg c
  units:=fun f lv hV d h5=>(c.r206.go (arK f hV lv d h5) rfl).seen
  choose:=fun m n e i=>c.r207.go (akU m n e i) rfl }
theorem za {C:Ctx} (c:bB C):Jq C :=
 {ajD c with
  vD:=fun f lv cnt i=>by obtain⟨d,e,r⟩:=c.r230;exact (r.go (azE (ajD c) d e f i lv cnt) rfl).seen
  admis:=fun f aXO set i x=>c.r204.go (aqY (axI c) f i aXO set x) rfl
  loss:=fun sc set m l p u w=>c.r208.go (ayX sc l p set u w m) rfl }
theorem axH {C:Ctx} (c:bB C) (hi:wU C):aGK C :=
 {same1:=fun l d=>c.r94.go (azV l d) rfl
  fleet:=fun l u d aXC aXE e p=>(c.r27.go (atD (aCH c hi) l u d aXC aXE e p) rfl).seen
  all:=fun f aXO i=>(c.r205.go (arA (ajC c) f i aXO) rfl).seen
  vD:=(za c).vD
  loss:=fun f aXO set lv cnt i d=>c.r209.go (akY (za c) f i aXO set d lv cnt) rfl }
theorem ajA {C:Ctx} (c:bB C) (hi:wU C):Jn C :=
 { axH c hi with sets:=fun a d e=>c.r212.go (aAD (axH c hi).same1 a d e) rfl }
theorem aMR {C:Ctx} (c:bB C) (hi:wU C):aqR C :=
 {ajA c hi with
  awake:=c.r222.go (atK (ajA c hi)) rfl
  fails:=fun a b d e=>c.r223.go (atN a b d e) rfl }
theorem axJ {C:Ctx} (c:bB C):Jz C :=
 {valid:=W4 c
  pD:=fun f d level p l e i=>c.r88.go (avK f p d l level e i) rfl }
theorem axK {C:Ctx} (c:bB C):I5 C :=
 {allowed:=fun f p d hV e i=>c.r77.go (Yl f hV p e d i) rfl
  count:=fun f row n hV u l=>c.r80.go (avM (axJ c) f hV row u n l) rfl
  valid:=W4 c }
theorem Hy {C:Ctx} (c:bB C):∀ k a n:Nat,k≤10→a≤1000→n≤40→aH C 215 [.int .i64 a,.int .i64 n,.int .i64 k] .nil (aF (lay (fZ (cS n k a))))
 | 0,a,n,l,i,d=>(c.r215.go (pi 0 a n l i d fun _ _ _ h=>by cases h) rfl).seen
 | k+1,a,n,l,i,d=>(c.r215.go (pi (k+1) a n l i d fun p u h e=>by cases e; exact Hy c k p n Om h d) rfl).seen
theorem ajE {C:Ctx} (c:bB C):Jr C :=
 {axK c with
  adm:=fun f p set hV d l e w i u=>c.r213.go (aLA (axK c) f hV p d l e w i set u) rfl
  choose:=Hy c }
theorem zb {C:Ctx} (c:bB C):gz C :=
 {ajE c with
  aXC:=fun f dom d=>(c.r81.go (aoX (axJ c) f d dom) rfl).seen
  has:=fun l x h=>c.r218.go (aLF l h x) rfl }
theorem aMS {C:Ctx} (c:bB C):PT C :=
 { zb c with units:=fun f lv e i d h5=>(c.r217.go (avI (zb c) f e i lv d h5) rfl).seen }
theorem aGB {C:Ctx} (c:bB C) (x:RF):aH C 279 [.agg x.cells] .nil (aF (.agg x.KX.cells)):=c.r279.go (asF x) rfl
theorem aPK {C:Ctx} (c:bB C) (x:RF) (d:x.Ok):aH C 281 [.agg x.cells] .nil (aF (.agg x.opp.cells)):=c.r281.go (aMJ (nO c) x d) rfl
theorem aPL {C:Ctx} (c:bB C) (x y:RF) (d:x.Ok) (e:y.Ok):aH C 280 [.agg x.cells,.agg y.cells] .nil (aF (frV (pX x.v y.v))):=c.r280.go (aML (WQ c).plus (aPK c) x y d e) rfl
theorem aSK {C:Ctx} (c:bB C):ayD C :=
 {za c with
  fr:=zA c
  we:=fun x y d e=>c.r278.go (aIM (zA c) (aGB c) x y d e) rfl
  price1:=fun x d=>c.r232.go (alD (zA c) x d) rfl }
theorem aGC {C:Ctx} (c:bB C) (f:aE) (aXO lv cnt:Int) (d:List RF) (p:f.Ok) (e:∀ x∈d,x.Ok) (i:∀ x∈d,nl (val x.num)≤8∧nl (val x.den)≤8) (l:d.length≤1000000):aH C 231 [.agg f.cells,.int .i64 aXO,mN lv cnt,frs d] .nil (aF (nN f aXO lv cnt d)) :=
 (c.r231.go (arH (aSK c) f p aXO lv cnt d e i l) rfl).seen
theorem axM {C:Ctx} (c:bB C) (n:Int) (h:cK n):aH C 47 [.int .i64 n] .nil (aF (.agg (mkT n 1).cells)):=(c.r47.go (yu (AX c) n h) rfl).seen
theorem aSL {C:Ctx} (c:bB C):ayE C :=
 {vD:=fun f lv cnt d=>(c.r219.go (aEB (aMS c) f d lv cnt) rfl).seen
  lost:=fun sc set m e i p=>c.r220.go (aDV (zb c) sc e i set p m) rfl
  all:=fun f aXO d=>(c.r216.go (aLC (ajE c) f d aXO) rfl).seen
  int:=axM c
  less:=(WQ c).less
  yx:=aPL c
  modest:=fun l u n w=>c.r234.go (aoR (fg c) l u n w) rfl }
theorem aSJ {C:Ctx} (c:bB C) (hi:wU C):akA C :=
 {aMR c hi with
  int:=axM c
  fmk:=fun n d A w=>(c.r50.go (Wg (xz c) n d A w) rfl).seen
  price:=aGC c
  BB:=fun f aXO lv cnt e y i l=>(c.r233.go (avC (aSL c) f y aXO lv cnt e i l) rfl).seen
  frac:=fun x B=>c.r235.go (azT (fun a b p u=>c.r236.go (aHW a b p u) rfl) x B) rfl }
end Z
theorem axN {C:Ctx} (c:bB C) (hi:wU C) (r:bG C 237 n9) (l:List Nat) (A:∀ x∈l,x<256) (B:l.length≤9223372036854775807) (p lv u:Nat) (E:p<256) (y:lv<256) (w:u<256) (xs:List Int) (F:∀ x∈xs,-128≤x∧x≤127) (d:List RF) (i:∀ x∈d,x.Ok) (e:d.length≤9223372036854775807) :
  aH C 237 [.sl 1 (kO l),.int .u8 p,.int .u8 lv,.int .u8 u,l7 xs,frs d] .nil (aF (.bool true)):=r.go (atU (Z.aSJ c hi) l A B p lv u E y w xs F d i e) rfl
end Go.PM
