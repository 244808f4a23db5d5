/-
  Texts of ours, joined: ZdCodesL R3W1 R3W2 R3W3 R8W1 R10Code R10W1 R10W2 R10W3 R10W4 R10P1 R10W5 R10W6 R10W7 R10W8 R10W9 R10W10 R10W11 R10W12 R11Code R11W1 R11W2 R11W3 R11W4 R11W5 R11W6 L11W14 L11W15 Jn5. No condition.
-/
import Derived.Test.YtelckcmlobadkaaGreatDoorRw1
import Derived.Test.YtelckcmlobadkaaGreatDoorRw2
import Derived.Test.YtelckcmlobadkaaGreatDoorRw3
import Derived.Test.YtelckcmlobadkaaGreatDoorRw4
import Derived.Test.YtelckcmlobadkaaGreatDoorRw5

set_option linter.unusedSimpArgs false
set_option linter.unusedVariables false
open Nat renaming reduceEqDiff → γ, reduceAdd → δ, reduceSub → ε, reduceMul → ζ, reduceLT → η, reduceLeDiff → θ, reduceBEq → τ
open Int renaming reduceLT → ι, reduceLE → κ, reduceEq → μ, reduceToNat → ν, reduceAdd → ξ, reduceNeg → ο, reduceBEq → ρ, reduceBNe → σ
open List renaming reduceReplicate → υ
open List renaming length_map → bIM, range → bIN, replicate → bIP, length_append → bIQ, getElem_mem → bIS, length_singleton → bIX, getElem?_eq_getElem → bIZ, mem_cons → bJB, take_of_length_le → bJD, getD_eq_getElem?_getD → bJE, length_take → bJF, not_mem_nil → bJI, all_eq_true → bJL, take_length → bJN, append_assoc → bJO, drop_zero → bJR, getElem?_map → bJU, mem_map → bJV, getElem?_eq_none → bJY, append_nil → bJZ, getElem?_eq_some_iff → bKA, map_cons → bKD, drop_eq_getElem_cons → bKE, Sublist → bKH, getElem_map → bKI, mem_append → bKL, take_succ_eq_append_getElem → bKM, length_drop → bKQ, mem_range → bKR, length_set → bKU, map_append → bKV, map_nil → bKW, mem_of_getElem? → bKX, length_nil → bLA, take_append_drop → bLB, getElem?_append_left → bLF, length_cons → bLG, nodup_append → bLH, ext_getElem → bLI, getElem?_append_right → bLJ, getElem?_take → bLK, getElem_of_mem → bLL, set_append_right → bLM, drop_of_length_le → bLT
open Bool renaming not_true → bIO, false_and → bIV, not_false → bIY, true_and → bJC, and_eq_true → bJK, and_false → bJW, and_true → bKZ, and_assoc → bLE, false_eq_true → bLS
open Nat renaming gcd → bIR, zero_le → bIT, le_refl → bIU, mul_add → bJA, lt_or_ge → bJG, mul_assoc → bJH, zero_add → bJJ, mul_comm → bJM, add_mul → bJP, mul_le_mul_right → bJQ, mod_eq_of_lt → bJT, mod_lt → bJX, pow_succ → bKB, add_zero → bKF, le_trans → bKG, min_eq_left → bKJ, eq_zero_or_pos → bKN, mul_le_mul_left → bKO, pos_of_ne_zero → bKP, add_assoc → bKS, pow_pos → bKY, div_lt_iff_lt_mul → bLC, div_add_mod → bLN, div_eq_of_lt → bLO
open Option renaming map_eq_some_iff → bIW, map_some → bJS, getD_some → bKK, some → bKT, bind_eq_some_iff → bLP, bind_some → bLQ
open Array renaming replicate → bKC, length_toList → bLD, getElem?_eq_getElem → bLR, getElem?_eq_some_iff → bLU
namespace Go.Proofs.YtelckcmlobadkaaGreatDoor
open Go Go.PM
theorem q3:aL C 3 PM.aVW:=bD (T a6M) rfl rfl Tryz.func12 (by kernel_rfl) (by kernel_rfl)
theorem q6:aL C 6 PM.bpJ:=bD (T blV) rfl rfl Tryz.func14 (by kernel_rfl) (by kernel_rfl)
theorem q82:aL C 82 PM.ayA:=bD (T bmY) rfl rfl Tryz.func33 (by kernel_rfl) (by kernel_rfl)
theorem q18:aL C 18 PM.bbL:=bD (T bbQ) rfl rfl Tryz.func17 (by kernel_rfl) (by kernel_rfl)
theorem q11:aL C 11 PM.brU:=bD (T a5B) rfl rfl Tryz.func3 (by kernel_rfl) (by kernel_rfl)
theorem q14:aL C 14 PM.bvV:=bD (T bcT) rfl rfl Tryz.func5 (by kernel_rfl) (by kernel_rfl)
theorem bvH:baB C:={ byL with r3:=q3,r6:=q6,r18:=q18,r82:=q82 }
end Go.Proofs.YtelckcmlobadkaaGreatDoor
namespace Go.PM
open Go Go.Na
structure axJ (C:Ctx):Prop extends ZT C where
 int:∀ n:Int,dA n→aH C 47 [.int .i64 n] .nil (aD (.agg (mkT n 1).cells))
 mul:∀ a b,Lim a→Lim b→a.length≤35184372087808→b.length≤35184372087808→aH C 36 [aI a,aI b] .nil (aD (opV (dK (val a) (val b)) (val a*val b)))
 add:∀ a b,Lim a→Lim b→a.length≤35184372087808→b.length≤35184372087808→aH C 30 [aI a,aI b] .nil (aD (opV (dK (val a) (val b)) (val a+val b)))
 sub:∀ a b,Lim a→Lim b→a.length≤35184372087808→b.length≤35184372087808→aH C 37 [aI a,aI b] .nil (aD (qH (val a) (val b)))
theorem avD (a b:Nat):cK a b=(decide (nl b>0)&&(decide (nl b≤128)&&decide (nl a≤128))):=by
 have:=@gJ b
 refine Bool.eq_iff_iff.2 ?_
 rw[fC]
 simp only[bJK,decide_eq_true_eq]
 omega
theorem bhT {C:Ctx} (L:axJ C) (neg:Bool) (a b:List Nat) (ha:Lim a) (hb:Lim b) (la:a.length≤35184372087808) (lb:b.length≤35184372087808) :
  CZ.wp C (aR ahF.res (aD (.bool (cK (val a) (val b))))) (PF.args [.agg (dX neg a b)]) .nil:=by
 rw[avD]
 simp only[go_sem,γ,CZ,avU,avV,ahF]
 refine aA (L.trim b hb lb) rfl ?_
 simp only[go_sem,γ,bIM,aZ]
 by_cases c1:nl (val b)>0
 ·have c1':((nl (val b):Nat):Int)>0:=by omega
  simp only[go_sem,γ,c1']
  refine aA (L.trim b hb lb) rfl ?_
  simp only[go_sem,γ,bIM,aZ]
  by_cases c2:nl (val b)≤128
  ·have c2':((nl (val b):Nat):Int)≤128:=by omega
   simp only[go_sem,δ,γ,θ,c2']
   refine aA (L.trim a ha la) rfl ?_
   simp only[go_sem,γ,bIM,aZ]
   refine aM (.inr rfl) rfl ?_
   have:decide (((nl (val a):Nat):Int)≤128)=decide (nl (val a)≤128):=by
    refine decide_eq_decide.2 ?_
    omega
   rw[bH,this,decide_eq_true c1,decide_eq_true c2]
   rfl
  ·have c2':¬ ((nl (val b):Nat):Int)≤128:=by omega
   simp only[go_sem,γ,reduceCtorEq,c2']
   refine aM (.inr rfl) rfl ?_
   rw[bH,decide_eq_false c2,bIV,bJW]
 ·have c1':¬ ((nl (val b):Nat):Int)>0:=by omega
  simp only[go_sem,γ,reduceCtorEq,c1']
  refine aM (.inr rfl) rfl ?_
  rw[bH,decide_eq_false c1,bIV]
theorem WI {neg:Bool} {a b:Nat} (h:cK a b=true):gQ neg a b=.ok (lM neg a b):=by
 obtain⟨h1,h2,h3⟩:=fC.1 h
 have e1:=(lC (a/bIR a b) 128).2 (adG _ h3)
 have e2:=(lC (b/bIR a b) 128).2 (adG _ h2)
 unfold gQ lM
 rw[if_neg Om]
def a2V (a b:Nat):Bool:=decide (nl a>128)||decide (nl b>128)
theorem bhN {C:Ctx} (neg:Bool) (a b:List Nat) :
  CW.wp C (aR agQ.res (aD (.bool (decide (a.length>128)||decide (b.length>128))))) (PF.args [.agg (dX neg a b)]) .nil:=by
 simp only[go_sem,δ,γ,θ,CW,avF,avG,agQ,bIM]
 by_cases c:a.length>128
 ·have c':((a.length:Nat):Int)>128:=by omega
  simp only[go_sem,γ,c']
  refine aM (.inr rfl) rfl ?_
  rw[bH,decide_eq_true c,Bool.true_or]
 ·have c':¬ ((a.length:Nat):Int)>128:=by omega
  simp only[go_sem,γ,reduceCtorEq,c',bIM]
  refine aM (.inr rfl) rfl ?_
  have:decide (((b.length:Nat):Int)>128)=decide (b.length>128):=by
   refine decide_eq_decide.2 ?_
   omega
  rw[bH,this,decide_eq_false c,Bool.false_or]
def aAP (x:FV):FR:=if a2V x.2.1 x.2.2 then .error 2 else .ok x
theorem bqK (neg:Bool) (a b:Nat):aAP (lM neg a b)=gQ neg a b:=by
 have e1:=lC (a/bIR a b) 128
 have e2:=lC (b/bIR a b) 128
 unfold aAP lM gQ a2V
 simp only[Bool.or_eq_true,decide_eq_true_eq]
 by_cases c:nl (a/bIR a b)>128∨nl (b/bIR a b)>128
 ·rw[if_pos c,if_pos Om]
 ·rw[if_neg c,if_neg Om]
structure ZV (C:Ctx):Prop extends axJ C where
 valid:∀ x:RF,x.Ok→aH C 56 [.agg x.cells] .nil (aD (.bool (cK (val x.num) (val x.den))))
 big:∀ x:FV,aH C 48 [.agg x.rf.cells] .nil (aD (.bool (a2V x.2.1 x.2.2)))
theorem boL {C:Ctx} (L:ZV C) (x:FV):JG.wp C (aR ayQ.res (bP (frV (aAP x)))) (PF.args [.agg x.rf.cells]) .nil:=by
 simp only[go_sem,δ,JG,aNS,ayQ]
 refine aO fun o ho=>?_
 simp only[go_sem,δ,γ,aNT]
 refine aA (L.big x) rfl ?_
 unfold aAP
 cases a2V x.2.1 x.2.2 with
 | true =>
  simp only[go_sem,δ,γ,aNU]
  refine gI ?_
  simp only[go_sem,δ,γ]
 | false =>
  obtain⟨n,a,b⟩:=x
  simp only[go_sem,δ,γ,reduceCtorEq,aNV]
  exact aV (.inr rfl) .nil (vs:=[.agg (FV.rf (n,a,b)).cells,.int .i64 0]) Sq PH.nil_le ⟨.refl _,rfl⟩
theorem a9I {C:Ctx} (L:ZV C) (x:RF) (hx:x.Ok):yR.wp C (aR RW.res (bP (frV (nJ x)))) (PF.args [.agg x.cells]) .nil:=by
 simp only[go_sem,δ,yR,ahA,RW]
 refine aO fun o ho=>?_
 simp only[go_sem,δ,γ,ahB]
 refine aA (L.valid x hx) rfl ?_
 unfold nJ
 cases hv:cK (val x.num) (val x.den) with
 | false =>
  simp only[go_sem,δ,γ,reduceCtorEq,bIY,ahC]
  refine gI ?_
  simp only[go_sem,δ,γ]
 | true =>
  obtain⟨v1,v2,v3⟩:=fC.1 hv
  have e:=WI (neg:=x.neg) hv
  rw[if_pos rfl,e]
  simp only[go_sem,δ,γ,θ,bIO,ahD]
  refine aA (L.lowest x.neg x.num x.den hx.1 hx.2.1 hx.2.2.1 hx.2.2.2 Om Om v1) rfl ?_
  simp only[go_sem,δ,γ]
  exact aV (.inr rfl) .nil (vs:=[.agg (lM x.neg (val x.num) (val x.den)).rf.cells,.int .i64 0]) Sq PH.nil_le ⟨.refl _,rfl⟩
theorem bhR {C:Ctx} (L:axJ C) (a b:List Nat) (ha:Lim a) (hb:Lim b) (la:a.length≤35184372087808) (lb:b.length≤35184372087808) (na:nl (val a)≤256) (nb:nl (val b)≤256) :
  CY.wp C (aR ahE.res (aD (aI (aG (val a*val b))))) (PF.args [aI a,aI b]) .nil:=by
 simp only[go_sem,γ,reduceCtorEq,CY,avR,avS,ahE]
 refine aA (L.mul a b ha hb la lb) rfl ?_
 have:=kO na nb
 rw[gG Om Om,opV,yL Om]
 simp only[go_sem,γ,reduceCtorEq,avT]
 refine aM (.inr rfl) rfl ?_
 rfl
structure azG (C:Ctx):Prop extends ZV C where
 fits:∀ x:FV,aH C 57 [.agg x.rf.cells] .nil (aD (frV (aAP x)))
 red:∀ x:RF,x.Ok→aH C 52 [.agg x.cells] .nil (aD (frV (nJ x)))
 prod:∀ a b,Lim a→Lim b→a.length≤35184372087808→b.length≤35184372087808→nl (val a)≤256→nl (val b)≤256→aH C 60 [aI a,aI b] .nil (aD (aI (aG (val a*val b))))
def RF.valid (x:RF):Prop:=cK (val x.num) (val x.den)=true
def oI (x y:RF):Int:=qE x.neg (val x.num) (val x.den) y.neg (val y.num) (val y.den)
def voS:Spec:=fun name vs=>match name,vs with
 | 60,[x,y]=>some ([],fun _=>aD (aI (aG (val (iD x)*val (iD y)))))
 | _,_=>none
theorem uS (a b:List Nat):voS 60 [aI a,aI b]=some ([],fun _=>aD (aI (aG (val a*val b)))):=by
 show some _=_; rw[dU,dU]
theorem amK (a b:Nat):cY b a=- cY a b:=by
 unfold cY
 rcases Nat.lt_trichotomy a b with h | h | h
 ·rw[if_neg Om,if_pos h,if_pos h]; rfl
 ·subst h
  rw[if_neg Om,if_neg Om]; rfl
 ·rw[if_pos h,if_neg Om,if_pos h]
set_option maxHeartbeats 1000000 in
theorem bhP {C : Ctx} (L : azG C) (x y : RF) (hx : x.Ok) (hy : y.Ok) (vx : x.valid) (vy : y.valid) : CX.wp C (aR agZ.res (aD (.int .i64 (oI x y)))) (PF.args [.agg x.cells, .agg y.cells]) .nil := by
  obtain ⟨n1, a1, b1⟩ := x
  obtain ⟨n2, a2, b2⟩ := y
  obtain ⟨ha1, hb1, la1, lb1⟩ := hx
  obtain ⟨ha2, hb2, la2, lb2⟩ := hy
  obtain ⟨v1, v2, v3⟩ := fC.1 vx
  obtain ⟨w1, w2, w3⟩ := fC.1 vy
  simp only at ha1 hb1 la1 lb1 ha2 hb2 la2 lb2 v1 v2 v3 w1 w2 w3
  have m1 := kO v3 w2
  have m2 := kO w3 v2
  have hA : decide (val a1 ≠ 0) = decide (nl (val a1 * val b2) > 0) := by
    refine decide_eq_decide.2 ?_
    have := @gJ (val a1 * val b2)
    rw [Nat.mul_eq_zero] at this
    omega
  have hB : decide (val a2 ≠ 0) = decide (nl (val a2 * val b1) > 0) := by
    refine decide_eq_decide.2 ?_
    have := @gJ (val a2 * val b1)
    rw [Nat.mul_eq_zero] at this
    omega
  unfold oI qE
  simp only [hA, hB]
  simp only[go_sem,ο,γ,CX,avH,agZ]
  refine bK .nil voS PH.nil_le ?_
  simp only[go_sem,ο,δ,γ,θ,avI]
  refine bC (uS a1 b2) (L.prod a1 b2 ha1 hb2 la1 lb2 Om Om) rfl PH.nil_le ?_
  simp only[go_sem,ο,δ,γ,θ]
  refine bC (uS a2 b1) (L.prod a2 b1 ha2 hb1 la2 lb1 Om Om) rfl PH.nil_le ?_
  have hc := L.cmp (aG (val a1 * val b2)) (aG (val a2 * val b1)) (aU _) (aU _) (by rw [aZ]; omega) (by rw [aZ]; omega)
  have hd := L.cmp (aG (val a2 * val b1)) (aG (val a1 * val b2)) (aU _) (aU _) (by rw [aZ]; omega) (by rw [aZ]; omega)
  rw [aQ, aQ] at hc hd
  rw [amK (val a1 * val b2)] at hd
  generalize val a1 * val b2 = A at *
  generalize val a2 * val b1 = B at *
  have gA : decide (((nl A : Nat) : Int) > 0) = decide (nl A > 0) := decide_eq_decide.2 Om
  have gB : decide (((nl B : Nat) : Int) > 0) = decide (nl B > 0) := decide_eq_decide.2 Om
  generalize decide (nl A > 0) = p at *
  generalize decide (nl B > 0) = q at *
  cases n1 <;> cases n2 <;> cases p <;> cases q
  all_goals
    simp only[go_sem,ο,δ,γ,θ,reduceCtorEq,avJ,bIM,aZ,gA,gB,avK,avL,avM,avN,avO,avP,avQ]
    first
    | (refine aM (.inr rfl) rfl ?_; rfl)
    | (refine aA hc rfl ?_
       simp only[go_sem,γ]
       refine aM (.inr rfl) rfl ?_
       rfl)
    | (refine aA hd rfl ?_
       simp only[go_sem,γ]
       refine aM (.inr rfl) rfl ?_
       rfl)
structure xH (C:Ctx):Prop extends azG C where
 order:∀ x y:RF,x.Ok→y.Ok→x.valid→y.valid→aH C 51 [.agg x.cells,.agg y.cells] .nil (aD (.int .i64 (oI x y)))
theorem boO {C:Ctx} (L:xH C) (x y:RF) (hx:x.Ok) (hy:y.Ok) (vx:x.valid) (vy:y.valid):JH.wp C (aR ayR.res (aD (.bool (decide (oI x y<0))))) (PF.args [.agg x.cells,.agg y.cells]) .nil:=by
 simp only[go_sem,δ,γ,JH,aNW,aNX,ayR]
 refine aA (L.order x y hx hy vx vy) rfl ?_
 simp only[go_sem,γ]
 refine aM (.inr rfl) rfl ?_
 rfl
theorem boS {C:Ctx} (L:xH C) (x y:RF) (hx:x.Ok) (hy:y.Ok) (vx:x.valid) (vy:y.valid):JL.wp C (aR ayT.res (aD (.bool (oI x y==0)))) (PF.args [.agg x.cells,.agg y.cells]) .nil:=by
 simp only[go_sem,δ,γ,JL,aOD,aOE,ayT]
 refine aA (L.order x y hx hy vx vy) rfl ?_
 simp only[go_sem,γ]
 refine aM (.inr rfl) rfl ?_
 rfl
theorem DV (n:Int):mkT n 1=⟨decide (n<0),aG n.natAbs,aG 1⟩:=by
 unfold mkT lM FV.rf
 rw[show (1:Int).natAbs=1 from rfl,Nat.gcd_one_right,Nat.div_one,Nat.div_one,show decide ((1:Int)<0)=false from rfl]
 congr 1
 by_cases h:n<0
 ·have:n.natAbs≠0:=by omega
  simp[h,this]
 ·simp[h]
theorem DU (n:Int) (h:dA n):(mkT n 1).Ok∧(mkT n 1).valid:=by
 have h1:nl n.natAbs≤2:=mT (by unfold dA at h; omega)
 rw[DV]
 refine⟨⟨aU _,aU _,?_,?_⟩,?_⟩
 ·simp only[aZ]; omega
 ·simp only[uI]; decide
 ·unfold RF.valid
  simp only[aQ]
  rw[avD]
  have:nl 1=1:=by rw[nl,uI]; rfl
  simp[this]
  omega
def pU (x:RF):Int:=if val x.num=0 then 0 else if x.neg then -1 else 1
theorem bmI (x:RF):oI x (mkT 0 1)=pU x:=by
 rw[DV]
 unfold oI pU qE
 simp only[aQ,show (0:Int).natAbs=0 from rfl,Nat.mul_one,Nat.zero_mul]
 by_cases h:val x.num=0
 ·simp[h,cY]
 ·cases x.neg<;>simp[h,cY]
def viS (r:Int):Spec:=fun name _=>if name=47 then some ([],fun _=>aD (.agg (mkT 0 1).cells)) else some ([],fun _=>aD (.int .i64 r))
theorem boU {C:Ctx} (L:xH C) (x:RF) (hx:x.Ok) (vx:x.valid):JM.wp C (aR ayU.res (aD (.int .i64 (pU x)))) (PF.args [.agg x.cells]) .nil:=by
 have h0:dA 0:=by unfold dA; omega
 have ho:=L.order x (mkT 0 1) hx (DU 0 h0).1 vx (DU 0 h0).2
 rw[bmI] at ho
 simp only[go_sem,JM,aOF,ayU]
 refine bK .nil (viS (pU x)) PH.nil_le ?_
 simp only[go_sem,δ,γ,aOG]
 refine bC rfl (L.int 0 h0) rfl PH.nil_le ?_
 simp only[go_sem]
 refine bC rfl ho rfl PH.nil_le ?_
 simp only[go_sem,γ]
 refine aM (.inr rfl) rfl ?_
 rfl
theorem bhK {C:Ctx} (L:xH C) (n1 n2:Bool) (a1 b1 a2 b2:List Nat) (ha1:Lim a1) (hb1:Lim b1) (ha2:Lim a2) (hb2:Lim b2)
  (la1:a1.length≤35184372087808) (lb1:b1.length≤35184372087808) (la2:a2.length≤35184372087808) (lb2:b2.length≤35184372087808) :
  AH.wp C (aR aNO.res (bP (frV (gY (n1,val a1,val b1) (n2,val a2,val b2))))) (PF.args [.agg (dX n1 a1 b1),.agg (dX n2 a2 b2)]) .nil:=by
 have vx:aH C 56 [.agg (dX n1 a1 b1)] .nil (aD (.bool (cK (val a1) (val b1)))):=L.valid ⟨n1,a1,b1⟩ ⟨ha1,hb1,la1,lb1⟩
 have vy:aH C 56 [.agg (dX n2 a2 b2)] .nil (aD (.bool (cK (val a2) (val b2)))):=L.valid ⟨n2,a2,b2⟩ ⟨ha2,hb2,la2,lb2⟩
 simp only[go_sem,δ,γ,AH,a0T,aNO]
 refine aO fun o ho=>?_
 simp only[go_sem,δ,γ,a0U]
 refine aA vx rfl ?_
 simp only[gY]
 cases hv:cK (val a1) (val b1) with
 | false =>
  simp only[go_sem,δ,γ,reduceCtorEq,bIY,amC,bIV]
  refine gI ?_
  simp only[go_sem,δ,γ]
 | true =>
  obtain⟨v1,v2,v3⟩:=fC.1 hv
  simp only[go_sem,δ,γ,bIO]
  refine aA vy rfl ?_
  cases hw:cK (val a2) (val b2) with
  | false =>
   simp only[go_sem,δ,γ,reduceCtorEq,bIY,amC,bJW]
   refine gI ?_
   simp only[go_sem,δ,γ]
  | true =>
   obtain⟨w1,w2,w3⟩:=fC.1 hw
   simp only[go_sem,γ,reduceCtorEq,bIO,bKZ]
   refine bK .nil voS PH.nil_le ?_
   simp only[go_sem,δ,γ,θ,a0V]
   refine bC (uS a1 b2) (L.prod a1 b2 ha1 hb2 la1 lb2 Om Om) rfl PH.nil_le ?_
   simp only[go_sem,δ,γ,θ]
   refine bC (uS a2 b1) (L.prod a2 b1 ha2 hb1 la2 lb1 Om Om) rfl PH.nil_le ?_
   simp only[go_sem,γ]
   refine bC (uS b1 b2) (L.prod b1 b2 hb1 hb2 lb1 lb2 Om Om) rfl PH.nil_le ?_
   simp only[go_sem,γ]
   have m1:=kO v3 w2
   have m2:=kO w3 v2
   have m3:=kO v2 w2
   have d0:val b1*val b2≠0:=Nat.mul_ne_zero v1 w1
   generalize hA:val a1*val b2=A at *
   generalize hB:val a2*val b1=B at *
   generalize hD:val b1*val b2=D at *
   have fin:∀ (F:PF) (H:PH) (r:FR),(∃ neg' x y e,frV r=.tup [.agg (dX neg' x y),.int .i64 e]∧F 4=some (.ptr o 3 0 0)∧F 5=some (.int .i64 e)∧H o=some (.rows 3 [dX neg' x y]))→aR [.cell 4 (some 3),.tmp 5] (bP (frV r)) .ret F H:=by
    rintro F H r ⟨neg',x,y,e,he,f4,f5,hH⟩
    rw[he]
    exact aV (.inr rfl) .nil (vs:=[.agg (dX neg' x y),.int .i64 e]) (by simp only[go_sem,δ,f4,f5,hH]) PH.nil_le ⟨.refl _,rfl⟩
   have eb:(n1==n2)=decide (n1=n2):=by cases n1<;>cases n2<;>rfl
   have low:∀ neg x,nl x≤257→aH C 58 [.bool neg,aI (aG x),aI (aG D)] .nil (aD (.agg (lM neg x D).rf.cells)):=by
    intro neg x hx
    have h1:(aG x).length≤35184372087808:=by rw[aZ]; omega
    have h2:(aG D).length≤35184372087808:=by rw[aZ]; omega
    have:=L.lowest neg (aG x) (aG D) (aU _) (aU _) h1 h2
    rw[aQ,aQ] at this
    exact this Om Om d0
   have fit:∀ neg x,aH C 57 [.agg (lM neg x D).rf.cells] .nil (aD (frV (gQ neg x D))):=fun neg x=>by
    have:=L.fits (lM neg x D)
    rwa [bqK] at this
   have lA:(aG A).length≤35184372087808:=by rw[aZ]; omega
   have lB:(aG B).length≤35184372087808:=by rw[aZ]; omega
   simp only[go_sem,δ,γ,θ,a0W]
   by_cases c:n1=n2
   ·rw[if_pos c]
    have c':(n1==n2)=true:=by rw[eb,decide_eq_true c]
    simp only[go_sem,γ,c',a0X]
    have hadd:=L.add (aG A) (aG B) (aU _) (aU _) lA lB
    have nab:=aHC m1 m2
    rw[aQ,aQ,gG Om Om,opV,yL Om] at hadd
    refine aA hadd rfl ?_
    simp only[go_sem,δ,γ,θ,reduceCtorEq,a0Y]
    refine aA (low n1 _ Om) rfl ?_
    simp only[go_sem]
    refine aA (fit n1 _) rfl ?_
    obtain⟨neg',x,y,e,hl⟩:=sP (gQ n1 (A+B) D)
    rw[hl]
    simp only[go_sem,δ,γ]
    rw[← hl]
    exact fin _ _ _ ⟨neg',x,y,e,hl,by simp only[go_sem,γ],by simp only[go_sem,γ],by simp only[go_sem]⟩
   ·rw[if_neg c]
    have c':(n1==n2)=false:=by rw[eb,decide_eq_false c]
    simp only[go_sem,γ,c',a0Z]
    have hc:=L.cmp (aG A) (aG B) (aU _) (aU _) lA lB
    rw[aQ,aQ] at hc
    refine aA hc rfl ?_
    have hsub:∀ X Y:Nat,nl X≤256→nl Y≤256→Y≤X→aH C 37 [aI (aG X),aI (aG Y)] .nil (aD (.tup [aI (aG (X-Y)),.int .i64 0])):=by
     intro X Y h1 h2 h
     have:=L.sub (aG X) (aG Y) (aU _) (aU _) (by rw[aZ]; omega) (by rw[aZ]; omega)
     have h3:=fF (Om:X-Y≤X)
     rw[aQ,aQ,qH,gG Om Om,if_neg (by decide),if_neg Om,yL Om] at this
     exact this
    by_cases g:B≤A
    ·have g':cY A B≥0:=(QN A B).2 g
     rw[if_pos g]
     simp only[go_sem,γ,g',a1A]
     refine aA (hsub A B Om Om g) rfl ?_
     simp only[go_sem,δ,γ,θ,a1B]
     have h3:=fF (Om:A-B≤A)
     refine aA (low n1 (A-B) Om) rfl ?_
     simp only[go_sem]
     refine aA (fit n1 _) rfl ?_
     obtain⟨neg',x,y,e,hl⟩:=sP (gQ n1 (A-B) D)
     rw[hl]
     simp only[go_sem,δ,γ]
     rw[← hl]
     exact fin _ _ _ ⟨neg',x,y,e,hl,by simp only[go_sem,γ],by simp only[go_sem,γ],by simp only[go_sem]⟩
    ·have g':¬ cY A B≥0:=fun h=>g ((QN A B).1 h)
     rw[if_neg g]
     simp only[go_sem,γ,g',aNP]
     refine aA (hsub B A Om Om Om) rfl ?_
     simp only[go_sem,δ,γ,θ,aNQ]
     have h3:=fF (Om:B-A≤B)
     refine aA (low n2 (B-A) Om) rfl ?_
     simp only[go_sem]
     refine aA (fit n2 _) rfl ?_
     obtain⟨neg',x,y,e,hl⟩:=sP (gQ n2 (B-A) D)
     rw[hl]
     simp only[go_sem,δ,γ]
     rw[← hl]
     exact fin _ _ _ ⟨neg',x,y,e,hl,by simp only[go_sem,γ],by simp only[go_sem,γ],by simp only[go_sem]⟩
theorem buE {C:Ctx} (L:xH C) (x y:RF) (hx:x.Ok) (hy:y.Ok):AH.wp C (aR aNO.res (bP (frV (gY x.v y.v)))) (PF.args [.agg x.cells,.agg y.cells]) .nil :=
 bhK L x.neg y.neg x.num x.den y.num y.den hx.1 hx.2.1 hy.1 hy.2.1 hx.2.2.1 hx.2.2.2 hy.2.2.1 hy.2.2.2
structure a2M (C:Ctx):Prop extends xH C where
 less:∀ x y:RF,x.Ok→y.Ok→x.valid→y.valid→aH C 49 [.agg x.cells,.agg y.cells] .nil (aD (.bool (decide (oI x y<0))))
 same:∀ x y:RF,x.Ok→y.Ok→x.valid→y.valid→aH C 53 [.agg x.cells,.agg y.cells] .nil (aD (.bool (oI x y==0)))
 sign:∀ x:RF,x.Ok→x.valid→aH C 54 [.agg x.cells] .nil (aD (.int .i64 (pU x)))
 plus:∀ x y:RF,x.Ok→y.Ok→aH C 46 [.agg x.cells,.agg y.cells] .nil (aD (frV (gY x.v y.v)))
def vsF (l:List RF) (o2 o4 k:Nat):PF:=((((PF.nil.set 0 (frs l)).set 2 (.ptr o2 3 0 0)).set 4 (.ptr o4 3 0 0)).set 5 (.int .i64 k))
theorem buJ {C:Ctx} (L:a2M C) (l:List RF) (hl:∀ x∈l,x.Ok) (hlen:l.length≤9223372036854775807) :
  QD.wp C (aR a9K.res (bP (frV (oN (l.map RF.v))))) (PF.args [frs l]) .nil:=by
 have h0:dA 0:=by unfold dA; omega
 have hi:(mkT 0 1).cells=(FV.rf (false,0,1)).cells:=by rw[DV]; rfl
 have hint:=L.int 0 h0
 rw[hi] at hint
 simp only[go_sem,δ,QD,a1H,a9K]
 refine aO fun o2 ho2=>?_
 have h1:aT (PH.nil.set o2 (.rows 3 [[.bool false,.bGI,.bGI]])) [(o2,.rows 3 [[.bool false,.bGI,.bGI]])] []:=aT.nil.new (H:=PH.nil) rfl _
 generalize (PH.nil.set o2 _)=H1 at *
 simp only[go_sem,a1I]
 refine aA hint rfl ?_
 simp only[go_sem,δ]
 refine aO fun o4 ho4=>?_
 have h2:=h1.new ho4 (.rows 3 [(FV.rf (false,0,1)).cells])
 simp only[go_sem,δ,γ,a1J]
 refine wp_loop (α:=Nat × FV × PH) (fun t=>vsF l o2 o4 t.1) (fun t=>t.2.2) (fun t=>t.1≤l.length∧((l.map RF.v).take t.1).foldlM gY (false,0,1)=.ok t.2.1∧aT t.2.2 [(o2,.rows 3 [[.bool false,.bGI,.bGI]]),(o4,.rows 3 [(FV.rf t.2.1).cells])] []∧(FV.rf t.2.1).Ok) (fun t=>l.length-t.1)
  (0,(false,0,1),_) ⟨bIT _,rfl,h2,⟨aU _,aU _,?_,?_⟩⟩ ?_ PH.le_refl ?_
 ·show (aG 0).length≤_
  rw[fA]; simp
 ·show (aG 1).length≤_
  rw[uI]; simp
 ·unfold vsF
  exact Lq
 rintro⟨k,acc,H0⟩ ⟨hk,hf,hH,hacc⟩
 simp only at hk hf hH hacc ⊢
 simp only[go_sem,γ,reduceCtorEq,a1G,a1K,vsF,bIM]
 by_cases hlt:k<l.length
 ·have bGO:(k:Int)<(l.length:Nat):=by omega
  have hr:(l.map RF.cells)[k]?=some (l[k]).cells:=by simp[hlt]
  have hadd:=L.plus (FV.rf acc) l[k] hacc (hl _ (bIS hlt))
  rw[FV.bwJ] at hadd
  have bGP:=SJ (f:=gY) (l.map RF.v) (false,0,1) (k:=k) (by simpa using hlt)
  rw[hf] at bGP
  simp only[Except.bind,bKI] at bGP
  have e4:=hH.at 1 rfl
  simp only[go_sem,bGO]
  refine bK .nil (fun _ _=>some ([],fun _=>aD (frV (gY acc (l[k]).v)))) PH.nil_le ?_
  simp only[go_sem,δ,γ,reduceCtorEq,a1L,e4,hr]
  refine bC rfl hadd rfl PH.nil_le ?_
  cases he:gY acc (l[k]).v with
  | error e =>
   have he0:e≠0:=by
    revert he
    obtain⟨n1,a1,b1⟩:=acc
    obtain⟨n2,a2,b2⟩:=(l[k]).v
    simp only[gY,gQ]
    repeat' split
    all_goals (intro h; first | (injection h with h; subst h; decide) | cases h)
   rw[he] at bGP
   simp only[go_sem,δ,γ,reduceCtorEq,frV]
   refine aO fun o6 ho6=>?_
   simp only[go_sem,δ,γ,reduceCtorEq]
   refine⟨PH.nil_le,?_⟩
   have h6:=hH.new ho6 (.rows 3 [[.bool false,aI [],aI []]])
   have e2:=h6.at 0 rfl
   simp only[go_sem,δ,γ,reduceCtorEq,amE,cQ he0,a1M,e2]
   rw[oN,aaR _ _ bGP]
   refine gI ?_
   simp only[go_sem,δ,γ,reduceCtorEq]
  | ok r =>
   rw[he] at bGP
   obtain⟨rn,ra,rb⟩:=r
   simp only[go_sem,δ,γ,reduceCtorEq,frV]
   refine aO fun o6 ho6=>?_
   simp only[go_sem,δ,γ,reduceCtorEq]
   refine⟨PH.nil_le,?_⟩
   have h6:=hH.new ho6 (.rows 3 [(FV.rf (rn,ra,rb)).cells])
   have e6:=h6.at 2 rfl
   have e4':=h6.at 1 rfl
   generalize hG:H0.set o6 (.rows 3 [(FV.rf (rn,ra,rb)).cells])=H6 at *
   have hG':H0.set o6 (.rows 3 [[.bool rn,aI (aG ra),aI (aG rb)]])=H6:=hG
   simp only[go_sem,σ,δ,γ,reduceCtorEq,amE,a1N,hG',e6,e4',a1O,ws k]
   have h7:=(h6.set 1 rfl (.rows 3 [(FV.rf (rn,ra,rb)).cells])).byX 2
   refine aC (k+1,(rn,ra,rb),_) ⟨hlt,bGP,h7,ajO he⟩ (by simp only; omega) ?_ PH.le_refl
   exact Lq
 ·have bGO:¬ (k:Int)<(l.length:Nat):=by omega
  have:k=l.length:=by omega
  subst this
  rw[bJD (by simp)] at hf
  rw[oN,hf]
  have e2:=hH.at 0 rfl
  have e4:=hH.at 1 rfl
  obtain⟨n,a,b⟩:=acc
  simp only[go_sem,δ,γ,reduceCtorEq,bGO,aOL,e4,e2]
  exact aV (.inr rfl) .nil (vs:=[.agg (FV.rf (n,a,b)).cells,.int .i64 0]) Sq PH.nil_le ⟨.refl _,rfl⟩
theorem dge {n:Nat} (k:Nat):decide ((n:Int)≥(k:Int))=decide (k≤n):=decide_eq_decide.2 Om
theorem dle {n:Nat} (k:Nat):decide ((n:Int)≤(k:Int))=decide (n≤k):=decide_eq_decide.2 Om
theorem a9P {C:Ctx} (n:Nat):yU.wp C (aR RZ.res (aD (.bool (fE n)))) (PF.args [.int .u8 n]) .nil:=by
 have h1:=dge (n:=n) 97
 have h2:=dle (n:=n) 122
 have h3:=dge (n:=n) 65
 have h4:=dle (n:=n) 90
 simp only[Int.cast_ofNat_Int] at h1 h2 h3 h4
 unfold fE
 generalize decide (97≤n)=a at *
 generalize decide (n≤122)=b at *
 generalize decide (65≤n)=c at *
 generalize decide (n≤90)=d at *
 cases a<;>cases b<;>cases c<;>cases d
 all_goals
  simp only[go_sem,γ,reduceCtorEq,yU,ahS,ahT,RZ,h1,h2,h3,h4]
  refine aM (.inr rfl) rfl ?_
  rfl
theorem bhV {C:Ctx} (n:Nat):DB.wp C (aR ahG.res (aD (.bool (lE n)))) (PF.args [.int .u8 n]) .nil:=by
 have h1:=dge (n:=n) 48
 have h2:=dle (n:=n) 57
 simp only[Int.cast_ofNat_Int] at h1 h2
 unfold lE
 generalize decide (48≤n)=a at *
 generalize decide (n≤57)=b at *
 cases a<;>cases b
 all_goals
  simp only[go_sem,γ,reduceCtorEq,DB,avW,avX,ahG,h1,h2]
  refine aM (.inr rfl) rfl ?_
  rfl
theorem a9L {C:Ctx} (h1:∀ n:Nat,aH C 65 [.int .u8 n] .nil (aD (.bool (fE n)))) (h2:∀ n:Nat,aH C 63 [.int .u8 n] .nil (aD (.bool (lE n)))) (n:Nat) :
  yS.wp C (aR RX.res (aD (.bool (gU n)))) (PF.args [.int .u8 n]) .nil:=by
 have g1:((n:Int)==45)=decide (n=45):=by by_cases h:n=45<;>simp[h]; omega
 have g2:((n:Int)==46)=decide (n=46):=by by_cases h:n=46<;>simp[h]; omega
 have k1:=h1 n
 have k2:=h2 n
 unfold gU
 generalize decide (n=45)=a at *
 generalize decide (n=46)=b at *
 simp only[go_sem,reduceCtorEq,yS,ahH,ahI,RX]
 refine aA k1 rfl ?_
 cases fE n with
 | true =>
  simp only[go_sem,γ]
  refine aM (.inr rfl) rfl ?_
  rfl
 | false =>
  simp only[go_sem,γ,reduceCtorEq]
  refine aA k2 rfl ?_
  cases lE n<;>cases a<;>cases b
  all_goals
   simp only[go_sem,γ,reduceCtorEq,g1,g2]
   refine aM (.inr rfl) rfl ?_
   rfl
theorem a9N {C:Ctx} (h1:∀ n:Nat,aH C 65 [.int .u8 n] .nil (aD (.bool (fE n)))) (h2:∀ n:Nat,aH C 64 [.int .u8 n] .nil (aD (.bool (gU n)))) (s:List UInt8) :
  yT.wp C (aR RY.res (aD (.bool (isName s)))) (PF.args [.str s]) .nil:=by
 simp only[go_sem,γ,reduceCtorEq,yT,ahK,ahL,RY]
 cases s with
 | nil =>
  have h0:decide (((0:Nat):Int)<1)=true:=rfl
  simp only[go_sem,γ,wL,bLA,h0]
  refine aM (.inr rfl) rfl ?_
  rfl
 | cons c t =>
  have hz:(c::t)[0]?=some c:=rfl
  have hN:isName (c::t)=(decide ((c::t).length≤16)&&fE c.toNat&&(c::t).all fun c=>gU c.toNat):=rfl
  have hpos:¬ (((c::t).length:Nat):Int)<1:=by simp only[bLG]; omega
  generalize c::t=s at *
  by_cases hl:s.length≤16
  ·have hl':¬ ((s.length:Nat):Int)>16:=by omega
   rw[decide_eq_true hl,bJC] at hN
   have k1:=h1 c.toNat
   simp only[go_sem,ν,γ,reduceCtorEq,hpos,hl',hz,bJS]
   refine aA k1 rfl ?_
   cases hc:fE c.toNat with
   | false =>
    simp only[go_sem,γ,reduceCtorEq,bIY,wL]
    refine aM (.inr rfl) rfl ?_
    rw[bH,hN,hc,bIV]
   | true =>
    rw[hc,bJC] at hN
    simp only[go_sem,γ,reduceCtorEq,bIO,ahM]
    refine wp_loop (α:=Nat) (fun k=>((PF.nil.set 0 (.str s)).set 3 (.int .i64 k))) (fun _=>.nil) (fun k=>k≤s.length∧(s.take k).all (fun c=>gU c.toNat)=true) (fun k=>s.length-k) 0 ⟨bIT _,rfl⟩ Lq PH.nil_le ?_
    rintro k ⟨hk,ha⟩
    simp only[go_sem,γ,reduceCtorEq,ahJ,ahN]
    by_cases hlt:k<s.length
    ·have bGO:(k:Int)<(s.length:Nat):=by omega
     have hat:s[k]?=some s[k]:=bIZ hlt
     have k2:=h2 (s[k]).toNat
     simp only[go_sem,γ,reduceCtorEq,bGO,ahO,hat,bJS]
     refine aA k2 rfl ?_
     cases hi:gU (s[k]).toNat with
     | false =>
      simp only[go_sem,γ,reduceCtorEq,bIY,ahP]
      refine aM (.inr rfl) rfl ?_
      rw[bH,hN,nY hlt hi]
     | true =>
      simp only[go_sem,γ,reduceCtorEq,bIO,ahQ,ws k]
      exact aC (k+1) ⟨hlt,by simpa using nU hlt ha hi⟩ Om Lq PH.le_refl
    ·have bGO:¬ (k:Int)<(s.length:Nat):=by omega
     have:k=s.length:=by omega
     subst this
     rw[bJN] at ha
     simp only[go_sem,bGO,ahR]
     refine aM (.inr rfl) rfl ?_
     rw[bH,hN,ha]
  ·have hl':((s.length:Nat):Int)>16:=by omega
   rw[decide_eq_false hl,bIV,bIV] at hN
   simp only[go_sem,γ,reduceCtorEq,hpos,hl',wL]
   refine aM (.inr rfl) rfl ?_
   rw[bH,hN]
def EN (k m:Int):Bool:=within k 1 6&&(within m 0 4&&decide (k+m≤8))
theorem bmV {C:Ctx} (k m:Int):mU.wp C (aR zN.res (aD (.bool (EN k m)))) (PF.args [.int .i64 k,.int .i64 m]) .nil:=by
 unfold EN within
 by_cases h1:1≤k
 ·by_cases h2:k≤6
  ·by_cases h3:0≤m
   ·by_cases h4:m≤4
    ·have hw:IntKind.i64.wrap (k+m)=k+m:=wrap_i64 Om Om
     simp only[go_sem,γ,reduceCtorEq,mU,tF,tG,zN,ge_iff_le,h1,h2,h3,h4,hw]
     refine aM (.inr rfl) rfl ?_
     simp[bH,h1,h2,h3,h4]
    ·simp only[go_sem,γ,reduceCtorEq,mU,tF,tG,zN,ge_iff_le,h1,h2,h3,h4]
     refine aM (.inr rfl) rfl ?_
     simp[bH,h1,h2,h3,h4]
   ·simp only[go_sem,γ,reduceCtorEq,mU,tF,tG,zN,ge_iff_le,h1,h2,h3]
    refine aM (.inr rfl) rfl ?_
    simp[bH,h1,h2,h3]
  ·simp only[go_sem,γ,reduceCtorEq,mU,tF,tG,zN,ge_iff_le,h1,h2]
   refine aM (.inr rfl) rfl ?_
   simp[bH,h1,h2]
 ·simp only[go_sem,γ,reduceCtorEq,mU,tF,tG,zN,ge_iff_le,h1]
  refine aM (.inr rfl) rfl ?_
  simp[bH,h1]
def awM:Rg:=[iA 1 (.box true (Tm 0)),iT 2 false]
def awN:Rg:=[iO 6 3 1,iK 7 52 6,iM 5 7,iE 8 5 0,iE 9 5 1,iA 3 (.alloc [(.bool false),.bGI,.bGI]),iS 3 3 8,iM 4 9]
def AJ:Rg:=[iM 10 4,iC 11 .eql 10 0,iM 12 11,gF 13 0 3 12 true,gL 14 13 12 true,iG 15 (.un .not (Tm 14)) 12 true,iP 16 12 15,iM 17 16,gF 18 1 3 17 true,gL 19 18 17 true,gN 20 19 17 true,gC 21 .leq 20 1 17 true,iP 22 17 21,iM 23 22,gF 24 2 3 23 true,gL 25 24 23 true,gN 26 25 23 true,gC 27 .leq 26 1 23 true,iP 28 23 27,iM 2 28]
def DH:aB:=(sq awM (sq awN (sq AJ .ret)))
def biH:List Nat:=[1]
def ahZ:aS:=⟨1,29,DH,[.tmp 2]⟩
def aiB:Rg:=[iT 4 false]
def aiC:Rg:=[iM 6 0,iN 7 6,iM 8 1,iB 9 .neq 7 8]
def aiD:Rg:=[iT 4 false]
def aiE:Rg:=[iI 5 0]
def aiF:Rg:=[iM 10 5,iM 11 1,iB 12 .lss 10 11]
def aiG:Rg:=[iM 15 0,iM 16 5,iX 17 3 15 16,iO 18 3 17,iK 19 74 18,iA 20 (.un .not (Tm 19))]
def aiH:Rg:=[iT 4 false]
def aiI:Rg:=[iM 13 5,iC 14 .add 13 1,iM 5 14]
def aiA:aB:=(.seq (sq aiF (.cond (Tm 12) .skip (.exit 0))) (.seq (.block 1 (sq aiG (.cond (Tm 20) (sq aiH .ret) .skip))) (.region aiI)))
def aiJ:Rg:=[iT 4 true]
def yY:aB:=(sq aiB (.seq (sq aiC (.cond (Tm 9) (sq aiD .ret) .skip)) (.seq (sq aiE (.block 0 (.loop aiA))) (sq aiJ .ret))))
def a9Y:List Nat:=[]
def SA:aS:=⟨2,21,yY,[.tmp 4]⟩
def a1S:Rg:=[iA 1 (.box true (Tm 0)),iT 2 false]
def a1T:Rg:=[iF 12 1 1,iL 13 12,iN 14 13,iM 3 14]
def a1U:Rg:=[iM 15 3,iC 16 .lss 15 1,iM 17 16,gM 18 3 17 false,gC 19 .gtr 18 4 17 false,iQ 20 17 19,iM 21 20,gF 22 1 1 21 false,gL 23 22 21 false,gM 24 3 21 false,gK2 25 75 23 24 21 false,iG 26 (.un .not (Tm 25)) 21 false,iQ 27 21 26,iM 28 27,gF 29 3 1 28 false,gL 30 29 28 false,gM 31 3 28 false,gK2 32 75 30 31 28 false,iG 33 (.un .not (Tm 32)) 28 false,iQ 34 28 33,iM 35 34,gF 36 2 1 35 false,gL 37 36 35 false,gN 38 37 35 false,gM 39 3 35 false,gB 40 .neq 38 39 35 false,iQ 41 35 40]
def xG:Rg:=[iT 2 false]
def a1V:Rg:=[iI 4 0]
def a1W:Rg:=[iM 42 4,iM 43 3,iB 44 .lss 42 43]
def a1X:Rg:=[iF 47 2 1,iL 48 47,iM 49 4,iX 50 1 48 49,iL 51 50,iM 52 3,iK2 53 75 51 52,iA 54 (.un .not (Tm 53)),iM 55 54,gF 56 2 1 55 false,gL 57 56 55 false,gM 58 4 55 false,iG 59 (.bHD 1 (Tm 57) (Tm 58)) 55 false,gL 60 59 55 false,gM 61 4 55 false,iG 62 (.bHD 3 (Tm 60) (Tm 61)) 55 false,gO 63 3 62 55 false,gK 64 54 63 55 false,gC 65 .neq 64 0 55 false,iQ 66 55 65]
def amH:Rg:=[iT 2 false]
def a1Y:Rg:=[iM 45 4,iC 46 .add 45 1,iM 4 46]
def a1R:aB:=(.seq (sq a1W (.cond (Tm 44) .skip (.exit 0))) (.seq (.block 1 (sq a1X (.cond (Tm 66) (sq amH .ret) .skip))) (.region a1Y)))
def aOQ:Rg:=[iF 68 1 1,iL 69 68,iK 70 55 69,iM 67 70,iE 71 67 0,iE 72 67 1,iA 5 (.alloc [(.bool false),.bGI,.bGI]),iS 3 5 71,iM 6 72]
def ZE:Rd:=[(iM 73 6,false),(iC 74 .neq 73 0,false),(iM 75 74,false),(gO 76 3 5 75 false,true),(iG 77 (.call 47 [(Ci 1)]) 75 false,true),(gK2 78 53 76 77 75 false,true),(iG 79 (.un .not (Tm 78)) 75 false,false),(iQ 80 75 79,false)]
def ZF:Rg:=[iT 2 false]
def aOR:Rg:=[iM 81 3,iA 82 (.bGS 1 1 [(.bool false)] (Tm 81) (Tm 81)),iM 7 82]
def aOS:Rg:=[iI 8 0]
def aOT:Rg:=[iM 83 8,iM 84 3,iB 85 .lss 83 84]
def aOU:Rg:=[iI 9 0]
def aOV:Rg:=[iM 88 9,iM 89 3,iB 90 .lss 88 89]
def ZG:Rg:=[iM 93 7,iM 94 9,iM 95 7,iM 96 9,iX 97 1 95 96,iL 98 97,iM 99 98,gF 100 3 1 99 false,gL 101 100 99 false,gM 102 9 99 false,iG 103 (.bHD 3 (Tm 101) (Tm 102)) 99 false,gO 104 3 103 99 false,gK 105 54 104 99 false,gC 106 .gtr 105 0 99 false,iQ 107 99 106,iX 108 1 93 94,iS 1 108 107]
def ZH:Rg:=[iI 10 0]
def aOW:Rg:=[iM 109 10,iM 110 3,iB 111 .lss 109 110]
def ZI:Rg:=[iM 114 7,iM 115 9,iM 116 7,iM 117 9,iX 118 1 116 117,iL 119 118,iM 120 119,gF 121 2 1 120 false,gL 122 121 120 false,gM 123 9 120 false,iG 124 (.bHD 1 (Tm 122) (Tm 123)) 120 false,gL 125 124 120 false,gM 126 10 120 false,iG 127 (.bHD 3 (Tm 125) (Tm 126)) 120 false,gO 128 3 127 120 false,gK 129 54 128 120 false,gC 130 .gtr 129 0 120 false,gM 131 130 120 false,gM 132 7 131 true,gM 133 10 131 true,iG 134 (.bHD 1 (Tm 132) (Tm 133)) 131 true,gL 135 134 131 true,iG 136 (.pick (Tm 131) (Tm 135) (.const (.bool false))) 120 false,iQ 137 120 136,iX 138 1 114 115,iS 1 138 137]
def JR:Rg:=[iM 112 10,iC 113 .add 112 1,iM 10 113]
def JQ:aB:=(.seq (sq aOW (.cond (Tm 111) .skip (.exit 6))) (.seq (.block 7 (.region ZI)) (.region JR)))
def ZJ:Rg:=[iM 91 9,iC 92 .add 91 1,iM 9 92]
def ZB:aB:=(.seq (sq aOV (.cond (Tm 90) .skip (.exit 4))) (.seq (.block 5 (sq ZG (sq ZH (.block 6 (.loop JQ))))) (.region ZJ)))
def aOX:Rg:=[iM 86 8,iC 87 .add 86 1,iM 8 87]
def ZC:aB:=(.seq (sq aOT (.cond (Tm 85) .skip (.exit 2))) (.seq (.block 3 (sq aOU (.block 4 (.loop ZB)))) (.region aOX)))
def aOY:Rg:=[iI 11 0]
def aOZ:Rg:=[iM 139 11,iM 140 3,iB 141 .lss 139 140]
def ZK:Rg:=[iM 144 7,iM 145 11,iX 146 1 144 145,iL 147 146,iA 148 (.un .not (Tm 147))]
def aPA:Rg:=[iT 2 false]
def aPB:Rg:=[iM 142 11,iC 143 .add 142 1,iM 11 143]
def ZD:aB:=(.seq (sq aOZ (.cond (Tm 141) .skip (.exit 8))) (.seq (.block 9 (sq ZK (.cond (Tm 148) (sq aPA .ret) .skip))) (.region aPB)))
def ZL:Rg:=[iT 2 true]
def QG:aB:=(sq a1S (sq a1T (.seq (sq a1U (.cond (Tm 41) (sq xG .ret) .skip)) (.seq (sq a1V (.block 0 (.loop a1R))) (.seq (sq aOQ (dq ZE (.cond (Tm 80) (sq ZF .ret) .skip))) (sq aOR (.seq (sq aOS (.block 2 (.loop ZC))) (.seq (sq aOY (.block 8 (.loop ZD))) (sq ZL .ret)))))))))
def buQ:List Nat:=[1]
def a9V:aS:=⟨1,149,QG,[.tmp 2]⟩
def a2A:Rg:=[iT 4 false]
def a2B:Rg:=[iM 6 0,iM 7 1,iA 8 (.bHJ true (Tm 7) (Ci 1)),iK2 9 75 6 8,iA 10 (.un .not (Tm 9))]
def a2C:Rg:=[iT 4 false]
def a2D:Rg:=[iI 5 0]
def a2E:Rg:=[iM 11 5,iM 12 0,iN 13 12,iB 14 .lss 11 13]
def a2F:Rg:=[iM 17 0,iM 18 5,iX 19 3 17 18,iO 20 3 19,iK 21 54 20,iC 22 .eql 21 0]
def a2G:Rg:=[iT 4 false]
def a2H:Rg:=[iM 15 5,iC 16 .add 15 1,iM 5 16]
def a1Z:aB:=(.seq (sq a2E (.cond (Tm 14) .skip (.exit 0))) (.seq (.block 1 (sq a2F (.cond (Tm 22) (sq a2G .ret) .skip))) (.region a2H)))
def a2I:Rg:=[iT 4 true]
def QH:aB:=(sq a2A (.seq (sq a2B (.cond (Tm 10) (sq a2C .ret) .skip)) (.seq (sq a2D (.block 0 (.loop a1Z))) (sq a2I .ret))))
def buS:List Nat:=[]
def a9W:aS:=⟨2,23,QH,[.tmp 4]⟩
def KM:Rg:=[iT 6 false]
def KN:Rg:=[iM 7 0,iM 8 1,iB 9 .geq 7 8,iM 10 9,gM 11 0 10 true,gM 12 2 10 true,gB 13 .leq 11 12 10 true,iP 14 10 13,iM 6 14]
def sK:aB:=(sq KM (sq KN .ret))
def baA:List Nat:=[]
def EH:aS:=⟨3,15,sK,[.tmp 6]⟩
def awK:Rg:=[iT 12 false]
def awL:Rg:=[iM 13 0,iC 14 .leq 13 4,iM 15 14,gM 16 1 15 true,gC 17 .leq 16 4 15 true,iP 18 15 17,iM 19 18,gM 20 2 19 true,gC 21 .leq 20 40 19 true,iP 22 19 21,iM 23 22,gM 24 3 23 true,gC 25 .leq 24 24 23 true,iP 26 23 25,iM 27 26,gM 28 4 27 true,gC 29 .leq 28 4 27 true,iP 30 27 29,iM 31 30,gM 32 5 31 true,gC 33 .leq 32 12 31 true,iP 34 31 33,iM 12 34]
def DG:aB:=(sq awK (sq awL .ret))
def biF:List Nat:=[]
def ahY:aS:=⟨6,35,DG,[.tmp 12]⟩
def US:Rg:=[iA 7 (.box true (Tm 3)),iT 8 false]
def UT:Rg:=[iM 10 0,iM 11 1,iK2 12 61 10 11,iA 13 (.un .not (Tm 12)),iM 14 13,gM 15 2 14 false,gM 16 0 14 false,gM 17 0 14 false,gM 18 1 14 false,gB 19 .add 17 18 14 false,iG 20 (.call 76 [(Tm 15),(Tm 16),(Tm 19)]) 14 false,iG 21 (.un .not (Tm 20)) 14 false,iQ 22 14 21,iM 23 22,iG 24 (.idxA 5 1 (Tm 7) (Ci 0)) 23 false,gL 25 24 23 false,gC 26 .neq 25 0 23 false,iQ 27 23 26]
def tY:Rg:=[iT 8 false]
def UU:Rg:=[iI 9 1]
def UV:Rg:=[iM 28 9,iC 29 .lss 28 5]
def DF:Rg:=[iM 32 9,iA 33 (.idxA 5 1 (Tm 7) (Tm 32)),iL 34 33,iA 35 (.call 76 [(Tm 34),(Ci 0),(Ci 8)]),iA 36 (.un .not (Tm 35))]
def UW:Rg:=[iT 8 false]
def UX:Rg:=[iM 30 9,iC 31 .add 30 1,iM 9 31]
def UR:aB:=(.seq (sq UV (.cond (Tm 29) .skip (.exit 0))) (.seq (.block 1 (sq DF (.cond (Tm 36) (sq UW .ret) .skip))) (.region UX)))
def UY:Rg:=[iT 8 true]
def vG:aB:=(sq US (.seq (sq UT (.cond (Tm 27) (sq tY .ret) .skip)) (.seq (sq UU (.block 0 (.loop UR))) (sq UY .ret))))
def aSL:List Nat:=[7]
def JS:aS:=⟨4,37,vG,[.tmp 8]⟩
def a1P:Rg:=[iA 6 (.box true (Tm 2)),iA 7 (.box true (Tm 3)),iT 8 false]
def a1Q:Rd:=[(iM 9 1,false),(iM 10 0,false),(iK2 11 66 9 10,true),(iM 12 11,false),(gO 13 3 6 12 true,false),(gK 14 74 13 12 true,true),(iP 15 12 14,false),(iM 16 15,false),(iG 17 (.call 47 [(Ci 1)]) 16 true,true),(gO 18 3 6 16 true,true),(gK2 19 49 17 18 16 true,true),(iG 20 (.un .not (Tm 19)) 16 true,false),(iP 21 16 20,false),(iM 22 21,false),(gO 23 3 7 22 true,false),(gK 24 74 23 22 true,true),(iP 25 22 24,false),(iM 8 25,false)]
def QE:aB:=(sq a1P (dq a1Q .ret))
def buO:List Nat:=[6,7]
def a9T:aS:=⟨4,26,QE,[.tmp 8]⟩
def awE:Rg:=[iI 4 0]
def awF:Rg:=[iI 5 0]
def awG:Rg:=[iM 6 5,iM 7 0,iN 8 7,iB 9 .lss 6 8]
def QF:Rg:=[iM 12 0,iM 13 5,iX 14 1 12 13,iL 15 14,iM 16 1,iB 17 .eql 15 16]
def awH:Rg:=[iM 18 5,iM 4 18]
def awI:Rg:=[iM 10 5,iC 11 .add 10 1,iM 5 11]
def awD:aB:=(.seq (sq awG (.cond (Tm 9) .skip (.exit 0))) (.seq (.block 1 (sq QF (.cond (Tm 17) (sq awH .ret) .skip))) (.region awI)))
def awJ:Rg:=[iI 4 (-1)]
def DE:aB:=(sq awE (.seq (sq awF (.block 0 (.loop awD))) (sq awJ .ret)))
def biC:List Nat:=[]
def ahX:aS:=⟨2,19,DE,[.tmp 4]⟩
def awO:Rg:=[iA 1 (.box true (Tm 0)),iT 2 false]
def awP:Rg:=[iF 22 0 1,iL 23 22,iA 24 (.call 76 [(Tm 23),(Ci 1),(Ci 4)]),iA 25 (.un .not (Tm 24)),iM 26 25,gF 27 1 1 26 false,gL 28 27 26 false,gN 29 28 26 false,gF 30 2 1 26 false,gL 31 30 26 false,gN 32 31 26 false,gF 33 3 1 26 false,gL 34 33 26 false,gN 35 34 26 false,gF 36 4 1 26 false,gL 37 36 26 false,gN 38 37 26 false,gF 39 5 1 26 false,gL 40 39 26 false,gN 41 40 26 false,gF 42 6 1 26 false,gL 43 42 26 false,gN 44 43 26 false,iG 45 (.call 73 [(Tm 29),(Tm 32),(Tm 35),(Tm 38),(Tm 41),(Tm 44)]) 26 false,iG 46 (.un .not (Tm 45)) 26 false,iQ 47 26 46,iM 48 47,gF 49 3 1 48 false,gL 50 49 48 false,gN 51 50 48 false,gC 52 .eql 51 0 48 false,iQ 53 48 52]
def AK:Rg:=[iT 2 false]
def awQ:Rg:=[iZ 3,iZ 4,iZ 5,iZ 6,iZ 7]
def awR:Rg:=[iT 8 true]
def awS:Rg:=[iI 9 0]
def awT:Rg:=[iM 54 9,iF 55 1 1,iL 56 55,iN 57 56,iB 58 .lss 54 57,iM 59 58,gM 60 8 59 true,iP 61 59 60]
def awU:Rg:=[iM 65 3,iF 66 1 1,iL 67 66,iM 68 9,iX 69 4 67 68,iF 70 0 69,iL 71 70,iK2 72 70 65 71,iM 64 72,iE 73 64 0,iE 74 64 1,iM 3 73,iM 8 74]
def QI:Rg:=[iM 75 8,iM 76 75,gF 77 1 1 76 true,gL 78 77 76 true,gM 79 9 76 true,iG 80 (.bHD 4 (Tm 78) (Tm 79)) 76 true,gO 81 4 80 76 true,gK 82 68 81 76 true,iP 83 76 82,iM 8 83]
def QJ:Rg:=[iM 62 9,iC 63 .add 62 1,iM 9 63]
def JT:aB:=(.seq (sq awT (.cond (Tm 61) .skip (.exit 0))) (.seq (.block 1 (sq awU (.region QI))) (.region QJ)))
def aiL:Rg:=[iI 10 0]
def aiM:Rg:=[iM 84 10,iF 85 2 1,iL 86 85,iN 87 86,iB 88 .lss 84 87,iM 89 88,gM 90 8 89 true,iP 91 89 90]
def aiN:Rg:=[iF 94 2 1,iL 95 94,iM 96 10,iX 97 4 95 96,iO 98 4 97,iA 11 (.alloc [(.str []),(.int .i64 0),(.int .i64 0),(.int .i64 0)]),iS 4 11 98]
def aiO:Rg:=[iM 100 4,iF 101 0 11,iL 102 101,iK2 103 70 100 102,iM 99 103,iE 104 99 0,iE 105 99 1,iM 4 104,iM 8 105]
def JW:Rg:=[iM 106 8,iM 107 106,gF 108 1 11 107 true,gL 109 108 107 true,iG 110 (.call 76 [(Tm 109),(Ci 1),(Ci 16)]) 107 true,iP 111 107 110,iM 112 111,gF 113 2 11 112 true,gL 114 113 112 true,iG 115 (.call 76 [(Tm 114),(Ci 1),(Ci 64)]) 112 true,iP 116 112 115,iM 117 116,gF 118 3 11 117 true,gL 119 118 117 true,gF 120 1 1 117 true,gL 121 120 117 true,gN 122 121 117 true,gC 123 .sub 122 1 117 true,iG 124 (.call 76 [(Tm 119),(Ci 0),(Tm 123)]) 117 true,iP 125 117 124,iM 8 125]
def sH:Rg:=[iM 92 10,iC 93 .add 92 1,iM 10 93]
def JU:aB:=(.seq (sq aiM (.cond (Tm 91) .skip (.exit 2))) (.seq (.block 3 (sq aiN (sq aiO (.region JW)))) (.region sH)))
def aiP:Rg:=[iF 126 3 1,iL 127 126,iA 128 (.bHD 7 (Tm 127) (Ci 0)),iO 129 7 128,iA 12 (.alloc [(.str []),(.int .i64 0),(.int .i64 0),(.int .i64 0),(.bool false),.bGI,.bGI]),iS 7 12 129]
def JX:Rg:=[iM 130 8,iM 131 130,gF 132 0 12 131 true,gL 133 132 131 true,iG 134 (.bin .eql (Tm 133) (.const (.str []))) 131 true,iP 135 131 134,iM 136 135,gF 137 1 12 136 true,gL 138 137 136 true,gC 139 .eql 138 0 136 true,iP 140 136 139,iM 141 140,gF 142 2 12 141 true,gL 143 142 141 true,gC 144 .eql 143 (-1) 141 true,iP 145 141 144,iM 146 145,gF 147 3 12 146 true,gL 148 147 146 true,gC 149 .eql 148 0 146 true,iP 150 146 149,iM 151 150,gF 152 4 12 151 true,gO 153 3 152 151 true,gK 154 56 153 151 true,iP 155 151 154,iM 156 155,gF 157 4 12 156 true,gO 158 3 157 156 true,gK 159 54 158 156 true,gC 160 .eql 159 0 156 true,iP 161 156 160,iM 8 161]
def JY:Rg:=[iI 13 1]
def aiQ:Rg:=[iM 162 13,iF 163 3 1,iL 164 163,iN 165 164,iB 166 .lss 162 165,iM 167 166,gM 168 8 167 true,iP 169 167 168]
def aiR:Rg:=[iF 172 3 1,iL 173 172,iM 174 13,iX 175 7 173 174,iO 176 7 175,iA 14 (.alloc [(.str []),(.int .i64 0),(.int .i64 0),(.int .i64 0),(.bool false),.bGI,.bGI]),iS 7 14 176]
def aiS:Rg:=[iM 178 5,iF 179 0 14,iL 180 179,iK2 181 70 178 180,iM 177 181,iE 182 177 0,iE 183 177 1,iM 5 182,iM 8 183]
def JZ:Rd:=[(iM 184 8,false),(iM 185 184,false),(gF 186 1 14 185 true,false),(gL 187 186 185 true,false),(iG 188 (.call 76 [(Tm 187),(Ci 1),(Ci 4)]) 185 true,true),(iP 189 185 188,false),(iM 190 189,false),(gF 191 2 14 190 true,false),(gL 192 191 190 true,false),(gM 193 13 190 true,false),(gC 194 .sub 193 1 190 true,false),(iG 195 (.call 76 [(Tm 192),(Ci 0),(Tm 194)]) 190 true,true),(iP 196 190 195,false),(iM 197 196,false),(gF 198 3 1 197 true,false),(gL 199 198 197 true,false),(gF 200 2 14 197 true,false),(gL 201 200 197 true,false),(iG 202 (.bHD 7 (Tm 199) (Tm 201)) 197 true,false),(gF 203 1 202 197 true,false),(gL 204 203 197 true,false),(gF 205 1 14 197 true,false),(gL 206 205 197 true,false),(gC 207 .sub 206 1 197 true,false),(gB 208 .eql 204 207 197 true,false),(iP 209 197 208,false),(iM 210 209,false),(gF 211 3 14 210 true,false),(gL 212 211 210 true,false),(iG 213 (.call 76 [(Tm 212),(Ci 1),(Ci 64)]) 210 true,true),(iP 214 210 213,false),(iM 215 214,false),(gF 216 4 14 215 true,false),(gO 217 3 216 215 true,false),(gK 218 74 217 215 true,true),(iP 219 215 218,false),(iM 8 219,false)]
def mY:Rg:=[iM 170 13,iC 171 .add 170 1,iM 13 171]
def wN:aB:=(.seq (sq aiQ (.cond (Tm 169) .skip (.exit 4))) (.seq (.block 5 (sq aiR (sq aiS (.draw JZ)))) (.region mY)))
def KB:Rg:=[iI 15 0]
def aiT:Rg:=[iM 220 15,iF 221 4 1,iL 222 221,iN 223 222,iB 224 .lss 220 223,iM 225 224,gM 226 8 225 true,iP 227 225 226]
def aiU:Rg:=[iF 230 4 1,iL 231 230,iM 232 15,iX 233 3 231 232,iO 234 3 233,iA 16 (.alloc [(.str []),(.int .i64 0),(.int .i64 0)]),iS 3 16 234]
def aiV:Rg:=[iM 236 5,iF 237 0 16,iL 238 237,iK2 239 70 236 238,iM 235 239,iE 240 235 0,iE 241 235 1,iM 5 240,iM 8 241]
def KC:Rg:=[iM 242 8,iM 243 242,gF 244 1 16 243 true,gL 245 244 243 true,gF 246 2 1 243 true,gL 247 246 243 true,gN 248 247 243 true,gC 249 .sub 248 1 243 true,iG 250 (.call 76 [(Tm 245),(Ci 0),(Tm 249)]) 243 true,iP 251 243 250,iM 252 251,gF 253 2 16 252 true,gL 254 253 252 true,gF 255 3 1 252 true,gL 256 255 252 true,gN 257 256 252 true,gC 258 .sub 257 1 252 true,iG 259 (.call 76 [(Tm 254),(Ci 0),(Tm 258)]) 252 true,iP 260 252 259,iM 261 260,gF 262 3 1 261 true,gL 263 262 261 true,gF 264 2 16 261 true,gL 265 264 261 true,iG 266 (.bHD 7 (Tm 263) (Tm 265)) 261 true,gF 267 1 266 261 true,gL 268 267 261 true,gC 269 .eql 268 4 261 true,iP 270 261 269,iM 8 270]
def sI:Rg:=[iM 228 15,iC 229 .add 228 1,iM 15 229]
def wO:aB:=(.seq (sq aiT (.cond (Tm 227) .skip (.exit 6))) (.seq (.block 7 (sq aiU (sq aiV (.region KC)))) (.region sI)))
def KD:Rg:=[iI 17 0]
def aiW:Rg:=[iM 271 17,iF 272 5 1,iL 273 272,iN 274 273,iB 275 .lss 271 274,iM 276 275,gM 277 8 276 true,iP 278 276 277]
def aiX:Rg:=[iF 281 5 1,iL 282 281,iM 283 17,iX 284 17 282 283,iO 285 17 284,iA 18 (.alloc [(.str []),(.int .i64 0),(.int .i64 0),(.int .i64 0),(.int .i64 0),(.int .i64 0),(.int .i64 0),(.int .i64 0),(.int .i64 0),.bGI,.bGI,(.bool false),.bGI,.bGI,(.bool false),.bGI,.bGI]),iS 17 18 285]
def aiY:Rg:=[iM 287 6,iF 288 0 18,iL 289 288,iK2 290 70 287 289,iM 286 290,iE 291 286 0,iE 292 286 1,iM 6 291,iM 8 292]
def KE:Rg:=[iM 293 8,iM 294 293,gF 295 1 18 294 true,gL 296 295 294 true,gF 297 2 18 294 true,gL 298 297 294 true,gF 299 3 18 294 true,gL 300 299 294 true,gF 301 4 18 294 true,gO 302 5 301 294 true,iG 303 (.call 72 [(Tm 296),(Tm 298),(Tm 300),(Tm 302)]) 294 true,iP 304 294 303,iM 305 304,gF 306 2 18 305 true,gL 307 306 305 true,gF 308 10 18 305 true,gL 309 308 305 true,gF 310 11 18 305 true,gO 311 3 310 305 true,gF 312 14 18 305 true,gO 313 3 312 305 true,iG 314 (.call 69 [(Tm 307),(Tm 309),(Tm 311),(Tm 313)]) 305 true,iP 315 305 314,iM 316 315,gF 317 9 18 316 true,gL 318 317 316 true,gN 319 318 316 true,gC 320 .gtr 319 0 316 true,iP 321 316 320,iM 8 321]
def sJ:Rg:=[iI 19 0]
def aiZ:Rg:=[iM 322 19,iF 323 9 18,iL 324 323,iN 325 324,iB 326 .lss 322 325,iM 327 326,gM 328 8 327 true,iP 329 327 328]
def ajA:Rd:=[(iF 332 9 18,false),(iL 333 332,false),(iM 334 19,false),(iX 335 1 333 334,false),(iL 336 335,false),(iF 337 2 1,false),(iL 338 337,false),(iN 339 338,false),(iC 340 .sub 339 1,false),(iA 341 (.call 76 [(Tm 336),(Ci 0),(Tm 340)]),true),(iM 8 341,false)]
def ajB:Rg:=[iI 20 0]
def ajC:Rg:=[iM 342 20,iM 343 19,iB 344 .lss 342 343]
def KF:Rd:=[(iM 347 8,false),(iM 348 347,false),(gF 349 9 18 348 true,false),(gL 350 349 348 true,false),(gM 351 20 348 true,false),(iG 352 (.bHD 1 (Tm 350) (Tm 351)) 348 true,false),(gL 353 352 348 true,false),(gF 354 9 18 348 true,false),(gL 355 354 348 true,false),(gM 356 19 348 true,false),(iG 357 (.bHD 1 (Tm 355) (Tm 356)) 348 true,false),(gL 358 357 348 true,false),(gB 359 .neq 353 358 348 true,false),(iP 360 348 359,false),(iM 8 360,false)]
def KG:Rg:=[iM 345 20,iC 346 .add 345 1,iM 20 346]
def JV:aB:=(.seq (sq ajC (.cond (Tm 344) .skip (.exit 12))) (.seq (.block 13 (.draw KF)) (.region KG)))
def ajD:Rg:=[iM 330 19,iC 331 .add 330 1,iM 19 331]
def wP:aB:=(.seq (sq aiZ (.cond (Tm 329) .skip (.exit 10))) (.seq (.block 11 (dq ajA (sq ajB (.block 12 (.loop JV))))) (.region ajD)))
def KH:Rg:=[iM 279 17,iC 280 .add 279 1,iM 17 280]
def wQ:aB:=(.seq (sq aiW (.cond (Tm 278) .skip (.exit 8))) (.seq (.block 9 (sq aiX (sq aiY (sq KE (sq sJ (.block 10 (.loop wP))))))) (.region KH)))
def KI:Rg:=[iI 21 0]
def ajE:Rg:=[iM 361 21,iF 362 6 1,iL 363 362,iN 364 363,iB 365 .lss 361 364,iM 366 365,gM 367 8 366 true,iP 368 366 367]
def ajF:Rg:=[iM 372 7,iF 373 6 1,iL 374 373,iM 375 21,iX 376 2 374 375,iF 377 0 376,iL 378 377,iK2 379 70 372 378,iM 371 379,iE 380 371 0,iE 381 371 1,iM 7 380,iM 8 381]
def KJ:Rd:=[(iM 382 8,false),(iM 383 382,false),(gF 384 6 1 383 true,false),(gL 385 384 383 true,false),(gM 386 21 383 true,false),(iG 387 (.bHD 2 (Tm 385) (Tm 386)) 383 true,false),(gF 388 1 387 383 true,false),(gL 389 388 383 true,false),(gF 390 5 1 383 true,false),(gL 391 390 383 true,false),(gN 392 391 383 true,false),(gC 393 .sub 392 1 383 true,false),(iG 394 (.call 76 [(Tm 389),(Ci 0),(Tm 393)]) 383 true,true),(iP 395 383 394,false),(iM 8 395,false)]
def KK:Rg:=[iM 369 21,iC 370 .add 369 1,iM 21 370]
def wR:aB:=(.seq (sq ajE (.cond (Tm 368) .skip (.exit 14))) (.seq (.block 15 (sq ajF (.draw KJ))) (.region KK)))
def KL:Rg:=[iM 396 8,iM 2 396]
def DI:aB:=(sq awO (.seq (sq awP (.cond (Tm 53) (sq AK .ret) .skip)) (sq awQ (sq awR (.seq (sq awS (.block 0 (.loop JT))) (.seq (sq aiL (.block 2 (.loop JU))) (sq aiP (sq JX (.seq (sq JY (.block 4 (.loop wN))) (.seq (sq KB (.block 6 (.loop wO))) (.seq (sq KD (.block 8 (.loop wQ))) (.seq (sq KI (.block 14 (.loop wR))) (sq KL .ret)))))))))))))
def biL:List Nat:=[1]
def aiK:aS:=⟨1,397,DI,[.tmp 2]⟩
def awB:Rg:=[iZ 4,iT 5 false]
def awC:Rg:=[iM 6 0,iM 7 1,iA 8 (.bGN true 1 1 [(.str [])] [(0,(Tm 7))]),iA 9 (.append 1 16 (Tm 6) (Tm 8)),iM 10 1,iK 11 62 10,iM 12 11,gM 13 0 12 true,gM 14 1 12 true,gK2 15 71 13 14 12 true,gC 16 .lss 15 0 12 true,iP 17 12 16,iM 4 9,iM 5 17]
def DD:aB:=(sq awB (sq awC .ret))
def biA:List Nat:=[8]
def ahW:aS:=⟨2,18,DD,[.tmp 4,.tmp 5]⟩
theorem a9Z {C:Ctx} (n lo hi:Int):sK.wp C (aR EH.res (aD (.bool (within n lo hi)))) (PF.args [.int .i64 n,.int .i64 lo,.int .i64 hi]) .nil:=by
 unfold within
 by_cases h:lo≤n
 ·simp only[go_sem,γ,reduceCtorEq,sK,KM,KN,EH,ge_iff_le,h]
  refine aM (.inr rfl) rfl ?_
  simp[bH,h]
 ·simp only[go_sem,γ,reduceCtorEq,sK,KM,KN,EH,ge_iff_le,h]
  refine aM (.inr rfl) rfl ?_
  simp[bH,h]
def oL (a b c d e f:Nat):Bool:=decide (a≤4)&&(decide (b≤4)&&(decide (c≤40)&&(decide (d≤24)&&(decide (e≤4)&&decide (f≤12)))))
theorem biE {C:Ctx} (a b c d e f:Nat):DG.wp C (aR ahY.res (aD (.bool (oL a b c d e f)))) (PF.args [.int .i64 a,.int .i64 b,.int .i64 c,.int .i64 d,.int .i64 e,.int .i64 f]) .nil:=by
 have g:∀ x k:Nat,decide ((x:Int)≤(k:Int))=decide (x≤k):=fun x k=>decide_eq_decide.2 Om
 have h1:=g a 4
 have h2:=g b 4
 have h3:=g c 40
 have h4:=g d 24
 have h5:=g e 4
 have h6:=g f 12
 simp only[Int.cast_ofNat_Int] at h1 h2 h3 h4 h5 h6
 unfold oL
 simp only[go_sem,γ,reduceCtorEq,DG,awK,awL,ahY,h1]
 cases decide (a≤4) with
 | false =>
  simp only[go_sem,γ,reduceCtorEq]
  refine aM (.inr rfl) rfl ?_
  rfl
 | true =>
  simp only[go_sem,γ,h2]
  cases decide (b≤4) with
  | false =>
   simp only[go_sem,γ,reduceCtorEq]
   refine aM (.inr rfl) rfl ?_
   rfl
  | true =>
   simp only[go_sem,γ,h3]
   cases decide (c≤40) with
   | false =>
    simp only[go_sem,γ,reduceCtorEq]
    refine aM (.inr rfl) rfl ?_
    rfl
   | true =>
    simp only[go_sem,γ,h4]
    cases decide (d≤24) with
    | false =>
     simp only[go_sem,γ,reduceCtorEq]
     refine aM (.inr rfl) rfl ?_
     rfl
    | true =>
     simp only[go_sem,γ,h5]
     cases decide (e≤4) with
     | false =>
      simp only[go_sem,γ,reduceCtorEq]
      refine aM (.inr rfl) rfl ?_
      rfl
     | true =>
      simp only[go_sem,γ,h6]
      refine aM (.inr rfl) rfl ?_
      rfl
structure ZR (C:Ctx):Prop extends a2M C where
 sum:∀ l:List RF,(∀ x∈l,x.Ok)→l.length≤9223372036854775807→aH C 55 [frs l] .nil (aD (frV (oN (l.map RF.v))))
 inn:∀ n lo hi:Int,aH C 76 [.int .i64 n,.int .i64 lo,.int .i64 hi] .nil (aD (.bool (within n lo hi)))
 code:∀ k m:Int,aH C 61 [.int .i64 k,.int .i64 m] .nil (aD (.bool (EN k m)))
def HF (k m q s0 s1 s2 s3 s4:Int):Bool:=EN k m&&(within q k (k+m)&&(decide (s0=0)&&(within s1 0 8&&(within s2 0 8&&(within s3 0 8&&within s4 0 8)))))
theorem bsU (p:cF):NP p=HF p.k p.m p.bHM p.s0 p.s1 p.s2 p.s3 p.s4:=by
 unfold NP HF EN
 have:within p.s0 0 8=true∨p.s0≠0:=by
  by_cases h:p.s0=0
  ·rw[h]; exact .inl rfl
  ·exact .inr h
 simp only[List.all_cons,List.all_nil,bKZ]
 rcases this with h | h
 ·rw[h]
  simp only[bJC,bLE]
 ·simp only[h,decide_false,bIV,bJW]
def spR (s1 s2 s3 s4:Int) (k:Nat):Int:=match k with
 | 1=>s1
 | 2=>s2
 | 3=>s3
 | _=>s4
theorem aSK {C:Ctx} (L:ZR C) (k m q s0 s1 s2 s3 s4:Int) :
  vG.wp C (aR JS.res (aD (.bool (HF k m q s0 s1 s2 s3 s4)))) (PF.args [.int .i64 k,.int .i64 m,.int .i64 q,.agg [.int .i64 s0,.int .i64 s1,.int .i64 s2,.int .i64 s3,.int .i64 s4]]) .nil:=by
 obtain⟨X,hX⟩:∃ X,HF k m q s0 s1 s2 s3 s4=X:=⟨_,rfl⟩
 rw[hX]
 unfold HF at hX
 simp only[go_sem,γ,reduceCtorEq,vG,US,UT,JS]
 refine aA (L.code k m) rfl ?_
 cases h1:EN k m with
 | false =>
  rw[h1,bIV] at hX
  simp only[go_sem,γ,bIY,tY]
  refine aM (.inr rfl) rfl ?_
  rw[bH,hX]
 | true =>
  rw[h1,bJC] at hX
  have hb:1≤k∧k≤6∧0≤m∧m≤4:=by
   simp only[EN,bJK,within_iff] at h1
   omega
  have hw:IntKind.i64.wrap (k+m)=k+m:=wrap_i64 Om Om
  simp only[go_sem,γ,reduceCtorEq,bIO,hw]
  refine aA (L.inn q k (k+m)) rfl ?_
  cases h2:within q k (k+m) with
  | false =>
   rw[h2,bIV] at hX
   simp only[go_sem,γ,reduceCtorEq,bIY,tY]
   refine aM (.inr rfl) rfl ?_
   rw[bH,hX]
  | true =>
   rw[h2,bJC] at hX
   have l50:(0:Int)<((5:Nat):Int):=by decide
   by_cases h3:s0=0
   ·rw[decide_eq_true h3,bJC] at hX
    simp only[go_sem,ν,δ,γ,θ,ζ,reduceCtorEq,bIO,l50,bV h3,UU]
    refine wp_loop (α:=Nat) (fun j=>((PF.nil.set 7 (.bGQ [.int .i64 s0,.int .i64 s1,.int .i64 s2,.int .i64 s3,.int .i64 s4])).set 9 (.int .i64 j))) (fun _=>.nil) (fun j=>1≤j∧j≤5∧∀ i,1≤i→i<j→within (spR s1 s2 s3 s4 i) 0 8=true) (fun j=>5-j) 1 ⟨by decide,by decide,fun i h1 h2=>by omega⟩ Lq PH.nil_le ?_
    rintro j ⟨hj1,hj5,bHZ⟩
    simp only[go_sem,γ,UR,UV]
    by_cases hlt:j<5
    ·have bGO:(j:Int)<5:=by omega
     have hlt5:((j:Nat):Int)<((5:Nat):Int):=by omega
     have hin:=L.inn (spR s1 s2 s3 s4 j) 0 8
     obtain⟨c,hc2⟩:∃ c,within (spR s1 s2 s3 s4 j) 0 8=c:=⟨_,rfl⟩
     rw[hc2] at hin
     have bGP:c=true→∀ i,1≤i→i<j+1→within (spR s1 s2 s3 s4 i) 0 8=true:=fun hc i a b=>by
      by_cases e:i=j
      ·rw[e,hc2,hc]
      ·exact bHZ i a Om
     have bad:c=false→X=false:=by
      intro h
      rw[h] at hc2
      have hc:j=1∨j=2∨j=3∨j=4:=by omega
      rw[← hX]
      rcases hc with rfl | rfl | rfl | rfl<;>(simp only[spR] at hc2; rw[hc2]; simp)
     have hc:j=1∨j=2∨j=3∨j=4:=by omega
     cases c with
     | false =>
      have hXf:=bad rfl
      rcases hc with rfl | rfl | rfl | rfl
      all_goals
       simp only[spR] at hin
       simp only[go_sem,δ,γ,θ,ζ,ε,bGO,DF,hlt5]
       refine aA hin rfl ?_
       simp only[go_sem,γ,bIY,UW]
       refine aM (.inr rfl) rfl ?_
       rw[bH,hXf]
     | true =>
      have hs:=bGP rfl
      rcases hc with rfl | rfl | rfl | rfl
      all_goals
       simp only[spR] at hin
       simp only[go_sem,δ,γ,θ,ζ,ε,bGO,DF,hlt5]
       refine aA hin rfl ?_
       simp only[go_sem,γ,bIO,UX]
       refine aC (_+1) ⟨by omega,hlt,hs⟩ Om Lq PH.le_refl
    ·have bGO:¬ (j:Int)<5:=by omega
     have:j=5:=by omega
     subst this
     simp only[go_sem,ε,bGO,UY]
     refine aM (.inr rfl) rfl ?_
     have a1:=bHZ 1 (by decide) (by decide)
     have a2:=bHZ 2 (by decide) (by decide)
     have a3:=bHZ 3 (by decide) (by decide)
     have a4:=bHZ 4 (by decide) (by decide)
     simp only[spR] at a1 a2 a3 a4
     rw[bH,← hX,a1,a2,a3,a4]
     rfl
   ·rw[decide_eq_false h3,bIV] at hX
    simp only[go_sem,ν,δ,γ,θ,ζ,reduceCtorEq,bIO,l50,cQ h3,tY]
    refine aM (.inr rfl) rfl ?_
    rw[bH,hX]
theorem oU {x:RF} (h:cI x=true):x.valid:=by
 unfold cI nJ at h
 unfold RF.valid
 cases hv:cK (val x.num) (val x.den) with
 | true=>rfl
 | false =>
  rw[hv] at h
  simp at h
theorem biG {C:Ctx} (L:ZR C) (x:RF) (hx:x.Ok):DH.wp C (aR ahZ.res (aD (.bool (cI x)))) (PF.args [.agg x.cells]) .nil:=by
 have hr:=L.red x hx
 unfold cI
 simp only[go_sem,δ,γ,DH,awM,awN,ahZ]
 refine aA hr rfl ?_
 cases he:nJ x with
 | error e =>
  have h0:=aIQ he
  simp only[go_sem,δ,γ,frV]
  refine aO fun o ho=>?_
  simp only[go_sem,δ,γ,reduceCtorEq,AJ,bF h0]
  refine aM (.inr rfl) rfl ?_
  rfl
 | ok r =>
  obtain⟨n,a,b⟩:=r
  have ea:=lC a 1
  have eb:=lC b 1
  have da:decide (((nl a:Nat):Int)≤1)=decide (cC a≤32):=decide_eq_decide.2 Om
  have db:decide (((nl b:Nat):Int)≤1)=decide (cC b≤32):=decide_eq_decide.2 Om
  simp only[go_sem,δ,γ,frV]
  refine aO fun o ho=>?_
  cases n with
  | true =>
   simp only[go_sem,ρ,δ,γ,θ,reduceCtorEq,AJ,bIO]
   refine aM (.inr rfl) rfl ?_
   rfl
  | false =>
   simp only[go_sem,ρ,δ,γ,θ,AJ,bIY,bIM,aZ,da]
   cases decide (cC a≤32) with
   | false =>
    simp only[go_sem,γ,reduceCtorEq]
    refine aM (.inr rfl) rfl ?_
    rfl
   | true =>
    simp only[go_sem,δ,γ,bIM,aZ,db]
    refine aM (.inr rfl) rfl ?_
    rfl
structure ajH (C:Ctx):Prop extends ZR C where
 small:∀ x:RF,x.Ok→aH C 74 [.agg x.cells] .nil (aD (.bool (cI x)))
 nums:∀ k m q s0 s1 s2 s3 s4:Int,aH C 72 [.int .i64 k,.int .i64 m,.int .i64 q,.agg [.int .i64 s0,.int .i64 s1,.int .i64 s2,.int .i64 s3,.int .i64 s4]] .nil (aD (.bool (HF k m q s0 s1 s2 s3 s4)))
 sizes:∀ a b c d e f:Nat,aH C 73 [.int .i64 a,.int .i64 b,.int .i64 c,.int .i64 d,.int .i64 e,.int .i64 f] .nil (aD (.bool (oL a b c d e f)))
theorem aaS {l:List RF} {k:Nat} (h:k<l.length):(l.map RF.cells)[k]?=some (l[k]).cells:=by simp[h]
theorem a9X {C:Ctx} (L:ajH C) (l:List RF) (hl:gS l) (n:Int):yY.wp C (aR SA.res (aD (.bool (decide ((l.length:Int)=n)&&l.all cI)))) (PF.args [frs l,.int .i64 n]) .nil:=by
 have hf:=hl.fits
 unfold Fits at hf
 simp only[go_sem,γ,reduceCtorEq,yY,aiB,aiC,SA,bIM]
 by_cases h:((l.length:Nat):Int)=n
 ·rw[decide_eq_true h,bJC]
  subst h
  simp only[go_sem,bV (show ((l.length:Nat):Int)=(l.length:Nat) from rfl),aiE]
  refine wp_loop (α:=Nat) (fun k=>(((PF.nil.set 0 (frs l)).set 1 (.int .i64 (l.length:Nat))).set 5 (.int .i64 k))) (fun _=>.nil) (fun k=>k≤l.length∧(l.take k).all cI=true) (fun k=>l.length-k) 0 ⟨bIT _,rfl⟩ Lq PH.nil_le ?_
  rintro k ⟨hk,ha⟩
  simp only[go_sem,γ,reduceCtorEq,aiA,aiF]
  by_cases hlt:k<l.length
  ·have bGO:(k:Int)<(l.length:Nat):=by omega
   have hs:=L.small l[k] (hl.all _ (bIS hlt))
   simp only[go_sem,δ,γ,reduceCtorEq,bGO,aiG,aaS hlt]
   refine aA hs rfl ?_
   cases hi:cI l[k] with
   | false =>
    simp only[go_sem,γ,reduceCtorEq,bIY,aiH]
    refine aM (.inr rfl) rfl ?_
    rw[bH,nY hlt hi]
   | true =>
    have ha2:=bJL.1 (nU hlt ha hi)
    simp only[go_sem,γ,reduceCtorEq,bIO,aiI,ws k]
    exact aC (k+1) ⟨hlt,ha2⟩ Om Lq PH.le_refl
  ·have bGO:¬ (k:Int)<(l.length:Nat):=by omega
   have:k=l.length:=by omega
   subst this
   rw[bJN] at ha
   simp only[go_sem,bGO,aiJ]
   refine aM (.inr rfl) rfl ?_
   rw[bH,ha]
 ·rw[decide_eq_false h,bIV]
  simp only[go_sem,cQ h,aiD]
  refine aM (.inr rfl) rfl ?_
  rfl
structure ajI (C:Ctx):Prop extends ajH C where
 smalls:∀ l:List RF,gS l→∀ n:Int,aH C 75 [frs l,.int .i64 n] .nil (aD (.bool (decide ((l.length:Int)=n)&&l.all cI)))
theorem HW (x:RF):(pU x==0)=!cB x:=by
 unfold pU cB
 by_cases h:val x.num=0
 ·simp[h]
 ·cases x.neg<;>simp[h]
def XV (l:List RF) (m:Int):Bool:=decide ((l.length:Int)=max m 1)&&l.all cI&&l.all cB
theorem buR {C:Ctx} (L:ajI C) (l:List RF) (hl:gS l) (m:Int):QH.wp C (aR a9W.res (aD (.bool (XV l m)))) (PF.args [frs l,.int .i64 m]) .nil:=by
 have hf:=hl.fits
 unfold Fits at hf
 have hs:=L.smalls l hl (max m 1)
 unfold XV
 simp only[go_sem,γ,reduceCtorEq,QH,a2A,a2B,a9W,max_eq]
 refine aA hs rfl ?_
 cases h:(decide ((l.length:Int)=max m 1)&&l.all cI) with
 | false =>
  simp only[go_sem,γ,bIY,a2C]
  refine aM (.inr rfl) rfl ?_
  rfl
 | true =>
  rw[bJK] at h
  have bHZ:=bJL.1 h.2
  simp only[go_sem,γ,bIO,a2D]
  refine wp_loop (α:=Nat) (fun k=>((PF.nil.set 0 (frs l)).set 5 (.int .i64 k))) (fun _=>.nil) (fun k=>k≤l.length∧(l.take k).all cB=true) (fun k=>l.length-k) 0 ⟨bIT _,rfl⟩ Lq PH.nil_le ?_
  rintro k ⟨hk,ha⟩
  simp only[go_sem,γ,reduceCtorEq,a1Z,a2E,bIM]
  by_cases hlt:k<l.length
  ·have bGO:(k:Int)<(l.length:Nat):=by omega
   have hm:=bIS hlt
   have hg:=L.sign l[k] (hl.all _ hm) (oU (bHZ _ hm))
   have hz:=HW l[k]
   simp only[go_sem,δ,γ,reduceCtorEq,bGO,a2F,aaS hlt]
   refine aA hg rfl ?_
   cases hi:cB l[k] with
   | false =>
    rw[hi] at hz
    simp only[go_sem,γ,reduceCtorEq,hz,bIY,a2G]
    refine aM (.inr rfl) rfl ?_
    rw[bH,nY hlt hi]
   | true =>
    rw[hi] at hz
    have ha2:=bJL.1 (nU hlt ha hi)
    simp only[go_sem,γ,reduceCtorEq,hz,bIO,a2H,ws k]
    exact aC (k+1) ⟨hlt,ha2⟩ Om Lq PH.le_refl
  ·have bGO:¬ (k:Int)<(l.length:Nat):=by omega
   have:k=l.length:=by omega
   subst this
   rw[bJN] at ha
   simp only[go_sem,bGO,a2I]
   refine aM (.inr rfl) rfl ?_
   rw[bH,ha]
structure ajJ (C:Ctx):Prop extends ajI C where
 reps:∀ l:List RF,gS l→∀ m:Int,aH C 66 [frs l,.int .i64 m] .nil (aD (.bool (XV l m)))
def frD:List PV→RF
 | [.bool n,a,b]=>⟨n,iD a,iD b⟩
 | _=>⟨false,[],[]⟩
theorem amP (x:RF):frD x.cells=x:=by
 show (⟨x.neg,iD (aI x.num),iD (aI x.den)⟩:RF)=x
 rw[dU,dU]
def zdS (r s:Bool):Spec:=fun name vs=>match name,vs with
 | 66,_=>some ([],fun _=>aD (.bool r))
 | 74,[.agg cs]=>some ([],fun _=>aD (.bool (cI (frD cs))))
 | 47,_=>some ([],fun _=>aD (.agg (mkT 1 1).cells))
 | 49,_=>some ([],fun _=>aD (.bool s))
 | _,_=>none
theorem awA (r s:Bool) (x:RF):zdS r s 74 [.agg x.cells]=some ([],fun _=>aD (.bool (cI x))):=by
 show some ([],fun _=>aD (.bool (cI (frD x.cells))))=_
 rw[amP]
theorem beH (x y:RF):oI y x=- oI x y:=by
 unfold oI qE
 have e:=amK (val x.num*val y.den) (val y.num*val x.den)
 cases x.neg&&decide (val x.num≠0)<;>cases y.neg&&decide (val y.num≠0)<;>simp only[e,Int.neg_neg]<;>rfl
theorem bmG {x:RF} (hx:x.valid):decide (oI (mkT 1 1) x<0)=!vC x:=by
 rw[beH x]
 unfold vC
 rw[show cK (val x.num) (val x.den)=true from hx,bJC,DV]
 unfold oI
 simp only[aQ,show (1:Int).natAbs=1 from rfl,show decide ((1:Int)<0)=false from rfl]
 by_cases h:qE x.neg (val x.num) (val x.den) false 1 1≤0
 ·rw[decide_eq_true h,decide_eq_false Om]; rfl
 ·rw[decide_eq_false h,decide_eq_true Om]; rfl
def LM (m:Int) (rep:List RF) (t h:RF):Bool:=XV rep m&&(cI t&&(vC t&&cI h))
theorem buN {C:Ctx} (L:ajJ C) (m:Int) (rep:List RF) (hr:gS rep) (t h:RF) (ht:t.Ok) (hh:h.Ok) :
  QE.wp C (aR a9T.res (aD (.bool (LM m rep t h)))) (PF.args [.int .i64 m,frs rep,.agg t.cells,.agg h.cells]) .nil:=by
 have h1:dA 1:=by unfold dA; omega
 unfold LM
 simp only[go_sem,γ,QE,a1P,a9T]
 refine bK .nil (zdS (XV rep m) (!vC t)) PH.nil_le ?_
 simp only[go_sem,γ,reduceCtorEq,a1Q]
 refine bC rfl (L.reps rep hr m) rfl PH.nil_le ?_
 cases XV rep m with
 | false =>
  simp only[go_sem,γ,reduceCtorEq]
  refine aM (.inr rfl) rfl ?_
  rfl
 | true =>
  simp only[go_sem,δ,γ]
  refine bC (awA _ _ t) (L.small t ht) rfl PH.nil_le ?_
  cases hl:cI t with
  | false =>
   simp only[go_sem,γ,reduceCtorEq]
   refine aM (.inr rfl) rfl ?_
   rfl
  | true =>
   have hle:=L.less (mkT 1 1) t (DU 1 h1).1 ht (DU 1 h1).2 (oU hl)
   rw[bmG (oU hl)] at hle
   simp only[go_sem,γ]
   refine bC rfl (L.int 1 h1) rfl PH.nil_le ?_
   simp only[go_sem,δ,γ]
   refine bC rfl hle rfl PH.nil_le ?_
   cases vC t with
   | false =>
    simp only[go_sem,γ,reduceCtorEq,bIY,bIO]
    refine aM (.inr rfl) rfl ?_
    rfl
   | true =>
    simp only[go_sem,δ,γ,bIO,bIY]
    refine bC (awA _ _ h) (L.small h hh) rfl PH.nil_le ?_
    simp only[go_sem,γ]
    refine aM (.inr rfl) rfl ?_
    rfl
theorem bvJ (p:cF):HL p=LM p.m p.repair p.target p.bGU:=by
 unfold HL LM XV
 have:(p.repair.all fun x=>cI x&&cB x)=(p.repair.all cI&&p.repair.all cB):=by
  induction p.repair with
  | nil=>rfl
  | cons a t ih =>
   simp only[List.all_cons,ih]
   cases cI a<;>cases cB a<;>simp
 rw[this]
 simp only[bLE]
section
variable {H:PH} {B:List BX} {L:List LI}
theorem aT.a2R (h:aT H B L) (i:Nat) {s b:Nat} {v y:PV} {rows src:List (List PV)} {K:PV→PH→Prop} (hi:L[i]?=some (v,s,rows)) (hy:dT H s y=some src) (hr:roomFor rows.length src.length b)
  (hk:∀ v' H',aX H' s v rows→aT H' B (L.set i (v',s,rows++src))→K v' H'):mW H s b v y K:=by
 rcases h.own i hi with ⟨rfl,rfl⟩ | ⟨q,rs,rfl,h1,h2,h3⟩
 ·exact h.append i hi hy hr fun v' H' h' _=>hk v' H' (.inl ⟨rfl,rfl⟩) h'
 ·have hlen:(rows++src).length=rows.length+src.length:=bIQ
  refine⟨src,hy,rfl,rfl,hr,rs,h1,h2,?_,fun o ho=>?_⟩
  ·rw[h3]
   refine hk _ _ (.inr ⟨q,rows++src,rfl,by rw[jD],by rw[hlen]; omega,List.take_left' rfl⟩) (h.RS i hi (.inr ⟨q,rows++src,by rw[hlen],by simp only[bA,if_true],bIU _,bJN⟩) (fun p hp=>by cases hp; exact .inl rfl) fun p _ hp=>?_)
   rw[bA,if_neg (hp q rfl)]
  ·rw[h3]
   have hqo:q≠o:=by rintro rfl; rw[h1] at ho; cases ho
   refine hk _ _ (.inr ⟨q,rs,rfl,by rw[bA,if_neg hqo]; exact h1,h2,h3⟩) (h.RS i hi (.inr ⟨o,rows++src,by rw[hlen],by simp only[bA,if_true],bIU _,bJN⟩) (fun p hp=>by cases hp; exact .inr ho) fun p hpm hp=>?_)
   obtain⟨f1,f2⟩:=h.fresh ho
   have n1:p≠o:=by rintro rfl; exact hpm.elim f1 f2
   rw[bA,if_neg n1]
end
abbrev lK (l:List (List UInt8)):List (List PV):=l.map fun s=>[PV.str s]
def xV:List (List UInt8)→List UInt8→Nat→Int
 | [],_,_=>-1
 | x::t,s,i=>if x==s then (i:Int) else xV t s (i+1)
theorem aDV (s:List UInt8):∀ (l:List (List UInt8)) (i:Nat),decide (xV l s i<0)=!l.contains s
 | [],i=>rfl
 | x::t,i=>by
  rw[xV,List.contains_cons,BEq.comm (a:=s)]
  by_cases h:(x==s)=true
  ·rw[if_pos h,h,Bool.true_or,decide_eq_false Om]; rfl
  ·rw[if_neg h,aDV s t (i+1)]
   simp only[Bool.not_eq_true] at h
   rw[h,Bool.false_or]
theorem biB {C:Ctx} (l:List (List UInt8)) (hl:l.length≤1000000) (s:List UInt8):DE.wp C (aR ahX.res (aD (.int .i64 (xV l s 0)))) (PF.args [.sl 1 (lK l),.str s]) .nil:=by
 simp only[go_sem,DE,awE,awF,ahX]
 refine wp_loop (α:=Nat) (fun k=>(((PF.nil.set 0 (.sl 1 (lK l))).set 1 (.str s)).set 5 (.int .i64 k))) (fun _=>.nil) (fun k=>k≤l.length∧xV l s 0=xV (l.drop k) s k) (fun k=>l.length-k) 0 ⟨bIT _,rfl⟩ Lq PH.nil_le ?_
 rintro k ⟨hk,ha⟩
 simp only[go_sem,γ,reduceCtorEq,awD,awG,bIM]
 by_cases hlt:k<l.length
 ·have bGO:(k:Int)<(l.length:Nat):=by omega
  have hat:(lK l)[k]?=some [.str l[k]]:=by simp[hlt]
  rw[bKE hlt,xV] at ha
  cases hc:l[k]==s with
  | true =>
   rw[hc,if_pos rfl] at ha
   simp only[go_sem,γ,reduceCtorEq,bGO,QF,hat,hc,awH]
   refine aM (.inr rfl) rfl ?_
   rw[bH,ha]
  | false =>
   rw[hc,if_neg (by decide)] at ha
   simp only[go_sem,γ,reduceCtorEq,bGO,QF,hat,hc,awI,ws k]
   exact aC (k+1) ⟨hlt,ha⟩ Om Lq PH.le_refl
 ·have bGO:¬ (k:Int)<(l.length:Nat):=by omega
  have:k=l.length:=by omega
  subst this
  rw[List.drop_length,xV] at ha
  simp only[go_sem,ο,bGO,awJ]
  refine aM (.inr rfl) rfl ?_
  rw[bH,ha]
structure ajK (C:Ctx):Prop extends ajJ C where
 name:∀ s:List UInt8,aH C 62 [.str s] .nil (aD (.bool (isName s)))
 index:∀ (l:List (List UInt8)),l.length≤1000000→∀ s:List UInt8,aH C 71 [.sl 1 (lK l),.str s] .nil (aD (.int .i64 (xV l s 0)))
def iJ (l:List (List UInt8)) (s:List UInt8):Bool:=isName s&&!l.contains s
def ZN (l:List (List UInt8)) (s:List UInt8) (r:PV) (B:List BX) (L:List LI):Prop:=∃ w',r=.tup [w',.bool (iJ l s)]∧B=[]∧L=[(w',1,lK (l++[s]))]
theorem bhZ {C:Ctx} (L:ajK C) (l:List (List UInt8)) (hl:l.length≤1000000) (s:List UInt8) (w:PV) (H:PH) (hH:aT H [] [(w,1,lK l)]) :
  DD.wp C (aR ahW.res (fun r H'=>∃ B' L',ZN l s r B' L'∧aT H' B' L')) (PF.args [w,.str s]) H:=by
 have hix:=L.index l hl s
 have hnm:=L.name s
 have hneg:=aDV s l 0
 have h11:(1:Nat)*1≤16777216:=by decide
 have fin:∀ (F:PF) (H':PH) (w':PV) (b:Bool),F 4=some w'→F 5=some (.bool b)→b=iJ l s→aT H' [] [(w',1,lK (l++[s]))]→aR [.tmp 4,.tmp 5] (fun r H'=>∃ B' L',ZN l s r B' L'∧aT H' B' L') .ret F H':=fun F H' w' b f4 f5 e h' =>
  aV (vs:=[w',.bool b]) (.inr rfl) H' (by simp only[go_sem,f4,f5]) PH.le_refl ⟨[],_,⟨w',by rw[e]; rfl,rfl,rfl⟩,h'⟩
 simp only[go_sem,υ,γ,η,ζ,reduceCtorEq,DD,awB,awC,ahW,h11]
 refine hH.a2R 0 (src:=[[.str s]]) rfl rfl (by unfold roomFor; rw[bIM]; simp only[bIX,maxLen]; omega) fun w' H' hO h'=>?_
 have h'':aT H' [] [(w',1,lK (l++[s]))]:=by
  have e:lK (l++[s])=lK l++[[.str s]]:=by simp[lK]
  rw[e]; exact h'
 refine aA hnm rfl ?_
 cases hn:isName s with
 | false =>
  simp only[go_sem,γ,reduceCtorEq]
  exact fin _ _ w' false rfl rfl (by unfold iJ; rw[hn,bIV]) h''
 | true =>
  have hfb:iJ l s=!l.contains s:=by unfold iJ; rw[hn,bJC]
  rcases hO with ⟨z1,rfl⟩ | ⟨q,rs,rfl,q1,q2,q3⟩
  ·simp only[go_sem,γ,reduceCtorEq]
   rw[z1] at hix
   have hix2:aH C 71 [.bGI,.str s] .nil (aD (.int .i64 (xV l s 0))):=hix.args (.cons (.nil 1) (.cons (.refl _) .nil))
   refine aA hix2 rfl ?_
   simp only[go_sem,γ,hneg]
   exact fin _ _ w' _ rfl rfl hfb.symm h''
  ·simp only[go_sem,γ,reduceCtorEq]
   refine aSF (vs:=[.osl q 1 0 (lK l).length,.str s]) (.int .i64 (xV l s 0)) ?_ q1 Sq ?_
   ·rw[bKD,bKD,bKW,wV q2,q3]
    exact hix
   simp only[go_sem,γ,hneg]
   exact fin _ _ w' _ rfl rfl hfb.symm h''
theorem bfO {x:RF} (h:cI x=true):decide (pU x>0)=cB x:=by
 have hv:=oU h
 unfold cI nJ at h
 rw[show cK (val x.num) (val x.den)=true from hv,if_pos rfl,WI hv] at h
 unfold pU cB
 by_cases h0:val x.num=0
 ·simp[h0]
 ·have hq:val x.num/bIR (val x.num) (val x.den)≠0:=by
   have:=Nat.div_pos (Nat.gcd_le_left (val x.den) (bKP h0)) (Nat.gcd_pos_of_pos_left _ (bKP h0))
   omega
  have hn:x.neg=false:=by
   unfold lM at h
   simp only[hq,ne_eq,not_false_eq_true,decide_true,bKZ,bJK] at h
   simpa using h.1
  rw[if_neg h0,hn]
  simp[h0]
structure ayZ (l:bZ):Prop where
 exit:∀ x∈l.exit,cI x=true
 row:∀ r∈l.bGM,∀ x∈r,cI x=true
structure oO (C:Ctx):Prop extends ajK C where
 fresh:∀ (l:List (List UInt8)),l.length≤1000000→∀ (s:List UInt8) (w:PV) (H:PH),aT H [] [(w,1,lK l)]→aH C 70 [w,.str s] H (fun r H'=>∃ B' L',ZN l s r B' L'∧aT H' B' L')
theorem oO.pos {C:Ctx} (L:oO C) {x:RF} (hx:x.Ok) (h:cI x=true):∃ n:Int,aH C 54 [.agg x.cells] .nil (aD (.int .i64 n))∧decide (n>0)=cB x:=⟨_,L.sign x hx (oU h),bfO h⟩
def zlF (l:bZ) (o r i:Nat):PF:=(((((PF.nil.set 1 (.bGQ l.cells)).set 3 (.int .i64 (l.exit.length:Nat))).set 7 (.osl o 1 0 l.exit.length)).set 8 (.int .i64 r)).set 9 (.int .i64 i))
theorem boZ {C:Ctx} (L:oO C) (l:bZ) (o r i:Nat) (row:List RF) (hri:(l.bGM.map fun r=>[frs r])[i]?=some [frs row]) (bGV:gS row) (hlim:∀ x∈row,cI x=true) (hrl:row.length=l.exit.length) (hi:i<l.exit.length) (hn:l.exit.length≤4) (R1:List Bool) (hR:R1.length=l.exit.length) (K:bX) [Up K] (F:PF) (H:PH)
  (hF:((zlF l o r i).set 10 (.int .i64 0)).le F) (hH:(gD o R1).le H)
  (hK:K (.exit 6) (zlF l o r i) (gD o (cM R1 i row row.length))):aB.wp C (.loop JQ) K F H:=by
 refine wp_loop (α:=Nat) (fun k=>(zlF l o r i).set 10 (.int .i64 k)) (fun k=>gD o (cM R1 i row k)) (fun k=>k≤row.length) (fun k=>row.length-k) 0 (bIT _) hF hH ?_
 intro k hk
 have hlen:=rY R1 i row k
 have hstep':∀ h:k<row.length,cM R1 i row (k+1)=(cM R1 i row k).set i ((cM R1 i row k).getD i false||cB row[k]&&(cM R1 i row k).getD k false):=fun h=>by
  simp only[cM,bJE,bJU,bIZ h,bJS,bKK]
 have fin:∀ (b:Bool) (F:PF) (H:PH),k<row.length→eH (cM R1 i row (k+1))=(eH (cM R1 i row k)).set i [.bool b]→((zlF l o r i).set 10 (.int .i64 (k+1:Nat))).le F→H o=some (.rows 1 ((eH (cM R1 i row k)).set i [.bool b])) →
   dQ (fun k:Nat=>(zlF l o r i).set 10 (.int .i64 k)) (fun k=>gD o (cM R1 i row k)) (fun k=>k≤row.length) (fun k=>row.length-k) (row.length-k) K .normal F H:=by
  intro b F H hlt hb hF hH
  refine aC (k+1) hlt Om hF ?_
  rw[← hb] at hH
  exact PH.aF PH.nil_le hH
 unfold zlF gD at fin
 simp only[go_sem,γ,JQ,aOW,zlF,gD]
 by_cases hlt:k<row.length
 ·have bGO:(k:Int)<(l.exit.length:Nat):=by omega
  have hi':(i:Int)<(l.exit.length:Nat):=by omega
  have hat:=pY (R:=cM R1 i row k) (i:=i) Om
  have hatk:=pY (R:=cM R1 i row k) (i:=k) Om
  have bGP:=hstep' hlt
  obtain⟨n,hsn,hpos⟩:=L.pos (bGV.all _ (bIS hlt)) (hlim _ (bIS hlt))
  have hfr:=aaS hlt
  generalize hb:(cM R1 i row k).getD i false=b at *
  generalize hc:(cM R1 i row k).getD k false=c at *
  generalize hA:cB row[k]=A at *
  cases b with
  | true =>
   simp only[go_sem,γ,bGO,ZI,hi',bJJ,hat,JR,ws k]
   exact fin true _ _ hlt (by rw[bGP,kB,Bool.true_or]) Lq Sq
  | false =>
   simp only[go_sem,δ,γ,θ,bGO,ZI,hi',bJJ,hat,hri,hfr]
   refine aA hsn rfl ?_
   cases A with
   | false =>
    simp only[go_sem,γ,reduceCtorEq,hpos,hi',bGO,bJJ,hat,hatk,JR,ws k]
    exact fin false _ _ hlt (by rw[bGP,kB,Bool.false_or,bIV]) Lq Sq
   | true =>
    simp only[go_sem,γ,reduceCtorEq,hpos,hi',bGO,bJJ,hat,hatk,JR,ws k]
    exact fin c _ _ hlt (by rw[bGP,kB,Bool.false_or,bJC]) Lq Sq
 ·have bGO:¬ (k:Int)<(l.exit.length:Nat):=by omega
  have:k=row.length:=by omega
  subst this
  simp only[go_sem,bGO]
  refine Up.up ?_ hK
  (repeat' (first|exact PF.nil_le|refine PF.aF ?_ ?_))<;>first|(simp only[go_sem,γ,zlF]<;>rfl)|rfl
theorem bpB {C:Ctx} (L:oO C) (l:bZ) (hl:l.Ok) (he:yZ l) (hm:ayZ l) (o r:Nat) (R:List Bool) (hR:R.length=l.exit.length) (K:bX) [Up K] (F:PF) (H:PH)
  (hF:(zlF l o r 0).le F) (hH:(gD o R).le H)
  (hK:K (.exit 4) (zlF l o r l.exit.length) (gD o (cT l R l.exit.length))):aB.wp C (.loop ZB) K F H:=by
 refine wp_loop (α:=Nat) (fun i=>zlF l o r i) (fun i=>gD o (cT l R i)) (fun i=>i≤l.exit.length) (fun i=>l.exit.length-i) 0 (bIT _) hF hH ?_
 intro i hi
 have hlen:=pB l R i
 have hn:=he.n
 simp only[go_sem,γ,ZB,aOV,zlF,gD]
 by_cases hlt:i<l.exit.length
 ·have bGO:(i:Int)<(l.exit.length:Nat):=by omega
  have hir:i<l.bGM.length:=by rw[he.bGM]; exact hlt
  have hat:=pY (R:=cT l R i) (i:=i) Om
  have hx:=aaS hlt
  have bGV:(l.bGM.map fun r=>[frs r])[i]?=some [frs l.bGM[i]]:=by simp[hir]
  have hrl:(l.bGM[i]).length=l.exit.length:=he.row _ (bIS hir)
  generalize hR1:(cT l R i).set i ((cT l R i).getD i false||cB l.exit[i])=R1
  have hR1l:R1.length=l.exit.length:=by rw[← hR1,bKU]; omega
  have bGP:cT l R (i+1)=cM R1 i l.bGM[i] (l.bGM[i]).length:=by
   simp only[cT,yG]
   have e1:(l.exit.map cB).getD i false=cB l.exit[i]:=by simp[bJE,hlt]
   have e2:l.bGM.getD i []=l.bGM[i]:=by simp[bJE,hir]
   rw[e1,e2,hR1]
  obtain⟨n,hsn,hpos⟩:=L.pos (hl.exit.all _ (bIS hlt)) (hm.exit _ (bIS hlt))
  have rest:∀ (F:PF) (H:PH),(zlF l o r i).le F→H o=some (.rows 1 (eH R1)) →
    aB.wp C (.seq (.region ZH) (.block 6 (.loop JQ))) (dJ 5 (hC C (aB.wp C (.region ZJ)) (dQ (fun i:Nat=>zlF l o r i) (fun i=>gD o (cT l R i)) (fun i=>i≤l.exit.length) (fun i=>l.exit.length-i) (l.exit.length-i) K))) F H:=by
   intro F H hF hH
   refine sG _ (fun _ _ _ _ a b=>Up.up a b) hF ?_
   simp only[go_sem,ZH]
   refine boZ L l o r i l.bGM[i] bGV (hl.row _ (bIS hir)) (hm.row _ (bIS hir)) hrl hlt hn R1 hR1l _ _ _ (by (repeat' (first|exact PF.nil_le|refine PF.aF ?_ ?_))<;>first|(simp only[go_sem,γ,zlF]<;>rfl)|rfl) (PH.aF PH.nil_le hH) ?_
   simp only[go_sem,γ,zlF,ZJ,ws i]
   exact aC (i+1) hlt Om Lq (by rw[bGP]; exact PH.le_refl)
  simp only[zlF,gD] at rest
  have rest':=rest
  simp only[aB.wp,go_sem] at rest'
  generalize hb:(cT l R i).getD i false=b at *
  cases b with
  | true =>
   simp only[go_sem,γ,bGO,ZG,bGO,bJJ,hat]
   refine rest' _ _ Lq ?_
   rw[← hR1]
   simp only[go_sem,kB,Bool.true_or]
  | false =>
   simp only[go_sem,δ,γ,bGO,ZG,bGO,bJJ,hat,hx]
   refine aA hsn rfl ?_
   simp only[go_sem,γ,reduceCtorEq,bGO,bJJ,hat,hpos]
   refine rest' _ _ Lq ?_
   rw[← hR1]
   simp only[go_sem,kB,Bool.false_or]
 ·have bGO:¬ (i:Int)<(l.exit.length:Nat):=by omega
  have:i=l.exit.length:=by omega
  subst this
  simp only[go_sem,bGO]
  exact Up.up (by (repeat' (first|exact PF.nil_le|refine PF.aF ?_ ?_))<;>first|(simp only[go_sem,γ,zlF]<;>rfl)|rfl) hK
theorem bpA {C:Ctx} (L:oO C) (l:bZ) (hl:l.Ok) (he:yZ l) (hm:ayZ l) (o:Nat) (K:bX) [Up K] (F:PF) (H:PH)
  (hF:(((((PF.nil.set 1 (.bGQ l.cells)).set 3 (.int .i64 (l.exit.length:Nat))).set 7 (.osl o 1 0 l.exit.length)).set 8 (.int .i64 0)):PF).le F) (hH:(gD o (cZ l 0)).le H)
  (hK:K (.exit 2) (((PF.nil.set 3 (.int .i64 (l.exit.length:Nat))).set 7 (.osl o 1 0 l.exit.length))) (gD o (cZ l l.exit.length))):aB.wp C (.loop ZC) K F H:=by
 have hn:=he.n
 refine wp_loop (α:=Nat) (fun r=>((((PF.nil.set 1 (.bGQ l.cells)).set 3 (.int .i64 (l.exit.length:Nat))).set 7 (.osl o 1 0 l.exit.length)).set 8 (.int .i64 r))) (fun r=>gD o (cZ l r)) (fun r=>r≤l.exit.length) (fun r=>l.exit.length-r) 0 (bIT _) hF hH ?_
 intro r hr
 have hlen:=pA l r
 simp only[go_sem,γ,ZC,aOT]
 by_cases hlt:r<l.exit.length
 ·have bGO:(r:Int)<(l.exit.length:Nat):=by omega
  simp only[go_sem,bGO,aOU]
  refine bpB L l hl he hm o r (cZ l r) hlen _ _ _ (by (repeat' (first|exact PF.nil_le|refine PF.aF ?_ ?_))<;>first|(simp only[go_sem,γ,zlF]<;>rfl)|rfl) PH.le_refl ?_
  simp only[go_sem,γ,zlF,aOX,ws r]
  exact aC (r+1) hlt Om Lq PH.le_refl
 ·have bGO:¬ (r:Int)<(l.exit.length:Nat):=by omega
  have:r=l.exit.length:=by omega
  subst this
  simp only[go_sem,bGO]
  exact Up.up Lq hK
theorem bxA {C:Ctx} (R:List Bool) (hR:R.length≤4) (o:Nat) (X:Bool) (hX:X=R.all id) (Q:PV→PH→Prop) (hQ:Q=aD (.bool X)) (F:PF) (H:PH)
  (hF:((((PF.nil.set 3 (.int .i64 (R.length:Nat))).set 7 (.osl o 1 0 R.length)).set 11 (.int .i64 0)):PF).le F) (hH:(gD o R).le H):aB.wp C (.loop ZD) (dJ 8 (hC C (aB.wp C (.seq (.region ZL) .ret)) (aR [.tmp 2] Q))) F H:=by
 subst hX hQ
 refine wp_loop (α:=Nat) (fun k=>(((PF.nil.set 3 (.int .i64 (R.length:Nat))).set 7 (.osl o 1 0 R.length)).set 11 (.int .i64 k))) (fun _=>gD o R) (fun k=>k≤R.length∧(R.take k).all id=true) (fun k=>R.length-k) 0 ⟨bIT _,rfl⟩ hF hH ?_
 rintro k ⟨hk,ha⟩
 simp only[go_sem,γ,ZD,aOZ,gD]
 by_cases hlt:k<R.length
 ·have bGO:(k:Int)<(R.length:Nat):=by omega
  have hat:=pY (R:=R) (i:=k) hlt
  have hg:R.getD k false=R[k]:=by simp[bJE,hlt]
  rw[hg] at hat
  cases hc:R[k] with
  | false =>
   rw[hc] at hat
   simp only[go_sem,γ,bGO,ZK,bJJ,hat,bIY,aPA]
   refine aM (.inr rfl) rfl ?_
   rw[bH,nY hlt (p:=id) hc]
  | true =>
   rw[hc] at hat
   have ha2:=nU hlt ha (p:=id) hc
   simp only[go_sem,γ,bGO,ZK,bJJ,hat,bIO,aPB,ws k]
   exact aC (k+1) ⟨hlt,by simpa using bJL.1 ha2⟩ Om Lq PH.le_refl
 ·have bGO:¬ (k:Int)<(R.length:Nat):=by omega
  have:k=R.length:=by omega
  subst this
  rw[bJN] at ha
  simp only[go_sem,bGO,ZL]
  refine aM (.inr rfl) rfl ?_
  rw[bH,ha]
def Marks (R S:List Bool):Prop:=R.length=S.length∧∀ j:Nat,R[j]?=some true→S[j]?=some true
theorem Marks.bwK (R:List Bool):Marks R R:=⟨rfl,fun _ h=>h⟩
theorem Marks.trans {R S T:List Bool} (h:Marks R S) (k:Marks S T):Marks R T:=⟨h.1.trans k.1,fun j a=>k.2 j (h.2 j a)⟩
theorem aFC (R:List Bool) (i:Nat) (b:Bool):Marks R (R.set i (R.getD i false||b)):=by
 refine⟨by rw[bKU],fun j h=>?_⟩
 rw[List.getElem?_set]
 obtain⟨hj,he⟩:=bKA.1 h
 split
 ·rename_i e
  subst e
  rw[if_pos hj,bJE,h]
  rfl
 ·exact h
theorem aoH (R:List Bool) (i:Nat) (row:List RF):∀ k,Marks R (cM R i row k)
 | 0=>Marks.bwK R
 | k+1=>(aoH R i row k).trans (aFC _ _ _)
theorem AZ (l:bZ) (R:List Bool):∀ i,Marks R (cT l R i)
 | 0=>Marks.bwK R
 | i+1=>(AZ l R i).trans ((aFC _ _ _).trans (aoH _ _ _ _))
theorem aFD:∀ {R S:List Bool},Marks R S→R≠S→R.count true<S.count true
 | [],[],_,h=>absurd rfl h
 | [],_::_,h,_=>by have:=h.1; simp at this
 | _::_,[],h,_=>by have:=h.1; simp at this
 | a::R,b::S,h,hne=>by
  have h0:a=true→b=true:=fun e=>by
   have:=h.2 0 (by rw[e]; rfl)
   simpa using this
  have ht:Marks R S:=⟨by have:=h.1; simpa using this,fun j hj=>by have:=h.2 (j+1) (by simpa using hj); simpa using this⟩
  by_cases e:R=S
  ·subst e
   have:a≠b:=fun e=>hne (by rw[e])
   cases a<;>cases b<;>simp at this h0 ⊢
  ·have:=aFD ht e
   cases a<;>cases b<;>simp at h0 ⊢<;>omega
theorem aaF:∀ {R:List Bool},R.length≤R.count true→R.all id=true
 | [],_=>rfl
 | a::R,h=>by
  have h1:=List.count_le_length (a:=true) (l:=R)
  cases a with
  | true =>
   simp only[List.count_cons_self,bLG] at h
   simp only[List.all_cons,id,bJC]
   exact aaF Om
  | false =>
   simp at h
   omega
theorem HM (l:bZ) {s:Nat} (h:cZ l (s+1)=cZ l s):∀ d,cZ l (s+d)=cZ l s
 | 0=>rfl
 | d+1=>by
  show cT l (cZ l (s+d)) l.exit.length=_
  rw[HM l h d]
  exact h
theorem adQ (l:bZ):∀ r,(∃ s,s<r∧cZ l (s+1)=cZ l s)∨r≤(cZ l r).count true
 | 0=>.inr (bIT _)
 | r+1=>by
  rcases adQ l r with ⟨s,h1,h2⟩ | h
  ·exact .inl ⟨s,by omega,h2⟩
  ·by_cases e:cZ l (r+1)=cZ l r
   ·exact .inl ⟨r,by omega,e⟩
   ·have:=aFD (AZ l (cZ l r) l.exit.length) (fun h=>e h.symm)
    exact .inr (by show r+1≤(cT l (cZ l r) l.exit.length).count true; omega)
theorem bqD (l:bZ):vK l=(cZ l l.exit.length).all id:=by
 unfold vK
 rcases adQ l l.exit.length with ⟨s,h1,h2⟩ | h
 ·obtain⟨d,hd⟩:∃ d,l.exit.length=s+d:=⟨l.exit.length-s,by omega⟩
  rw[show l.exit.length+1=s+(d+1) by omega,hd,HM l h2,HM l h2]
 ·have hf:(cZ l l.exit.length).all id=true:=aaF (by rw[pA]; exact h)
  have hm:Marks (cZ l l.exit.length) (cZ l (l.exit.length+1)):=AZ l (cZ l l.exit.length) l.exit.length
  rw[hf,bJL]
  intro x hx
  obtain⟨j,hj,rfl⟩:=bLL hx
  have hj2:j<(cZ l l.exit.length).length:=by rw[hm.1]; exact hj
  have:=hm.2 j (by
   rw[bIZ hj2]
   have:=bJL.1 hf _ (bIS hj2)
   simpa using this)
  rw[bIZ hj] at this
  simpa using this
def zsS (s:Bool):Spec:=fun name vs=>match name,vs with
 | 47,_=>some ([],fun _=>aD (.agg (mkT 1 1).cells))
 | 53,_=>some ([],fun _=>aD (.bool s))
 | _,_=>none
theorem bkI (l:bZ):kY l=(within l.start.length 1 4&&((decide ((l.start.length:Int)=l.start.length)&&l.start.all cI)&&((decide ((l.exit.length:Int)=l.start.length)&&l.exit.all cI)&&(decide (l.bGM.length=l.start.length)&&((bIN l.bGM.length).all (qF l)&&(tH l&&vK l)))))):=by
 rw[aVI,decide_eq_true (rfl:(l.start.length:Int)=l.start.length),bJC]
 have:decide (l.exit.length=l.start.length)=decide ((l.exit.length:Int)=l.start.length):=decide_eq_decide.2 Om
 rw[this]
 cases within l.start.length 1 4<;>cases decide ((l.exit.length:Int)=l.start.length)<;>cases decide (l.bGM.length=l.start.length)<;>cases l.start.all cI<;>cases l.exit.all cI<;>simp[bLE]
theorem aIU (l:bZ) {i:Nat} (h:i<l.bGM.length):qF l i=((decide (((l.bGM[i]).length:Int)=l.start.length)&&(l.bGM[i]).all cI)&&!((l.bGM[i]).map cB).getD i false):=by
 unfold qF
 have:l.bGM.getD i []=l.bGM[i]:=by simp[bJE,h]
 rw[this]
 have:decide ((l.bGM[i]).length=l.start.length)=decide (((l.bGM[i]).length:Int)=l.start.length):=decide_eq_decide.2 Om
 rw[this]
theorem buP {C:Ctx} (L:oO C) (l:bZ) (hl:l.Ok):QG.wp C (aR a9V.res (aD (.bool (kY l)))) (PF.args [.agg l.cells]) .nil:=by
 have hX:=bkI l
 have fail:∀ (F:PF) (H:PH),kY l=false→F 2=some (.bool false)→aR [.tmp 2] (aD (.bool (kY l))) .ret F H:=fun F H e h=>by
  rw[e]
  exact aV (vs:=[.bool false]) (.inr rfl) .nil (by simp only[go_sem,h]) PH.nil_le ⟨rfl,rfl⟩
 have e1:=L.smalls l.start hl.start l.start.length
 have e2:=L.smalls l.exit hl.exit l.start.length
 simp only[go_sem,δ,γ,θ,QG,a1S,a1T,a9V,bIM,a1U]
 by_cases c1:((l.start.length:Nat):Int)<1
 ·simp only[go_sem,γ,c1,xG]
  exact fail _ _ (by rw[hX,show within l.start.length 1 4=false from by unfold within; rw[decide_eq_false Om,bIV],bIV]) rfl
 by_cases c2:((l.start.length:Nat):Int)>4
 ·simp only[go_sem,γ,reduceCtorEq,c1,c2,xG]
  exact fail _ _ (by rw[hX,show within l.start.length 1 4=false from by unfold within; rw[decide_eq_false (Om:¬ ((l.start.length:Nat):Int)≤4),bJW],bIV]) rfl
 rw[show within l.start.length 1 4=true from by unfold within; rw[decide_eq_true (Om:(1:Int)≤(l.start.length:Nat)),decide_eq_true (Om:((l.start.length:Nat):Int)≤4)]; rfl,bJC] at hX
 simp only[go_sem,δ,γ,θ,reduceCtorEq,c1,c2]
 refine aA e1 rfl ?_
 cases k1:(decide ((l.start.length:Int)=l.start.length)&&l.start.all cI) with
 | false =>
  rw[k1,bIV] at hX
  simp only[go_sem,γ,reduceCtorEq,bIY,xG]
  exact fail _ _ hX rfl
 | true =>
 rw[k1,bJC] at hX
 simp only[go_sem,γ,reduceCtorEq,bIO]
 refine aA e2 rfl ?_
 cases k2:(decide ((l.exit.length:Int)=l.start.length)&&l.exit.all cI) with
 | false =>
  rw[k2,bIV] at hX
  simp only[go_sem,γ,reduceCtorEq,bIY,xG]
  exact fail _ _ hX rfl
 | true =>
 rw[k2,bJC] at hX
 rw[bJK,decide_eq_true_eq] at k2
 have hxl:l.exit.length=l.start.length:=by omega
 have hxlim:=bJL.1 k2.2
 by_cases c3:l.bGM.length=l.start.length
 case neg =>
  rw[decide_eq_false c3,bIV] at hX
  simp only[go_sem,δ,γ,θ,reduceCtorEq,bIO,bIM,cQ (Om:((l.bGM.length:Nat):Int)≠(l.start.length:Nat)),xG]
  exact fail _ _ hX rfl
 rw[decide_eq_true c3,bJC] at hX
 simp only[go_sem,δ,γ,θ,reduceCtorEq,bIO,bIM,bV (Om:((l.bGM.length:Nat):Int)=(l.start.length:Nat)),a1V]
 refine wp_loop (α:=Nat) (fun i=>(((PF.nil.set 1 (.bGQ l.cells)).set 3 (.int .i64 (l.start.length:Nat))).set 4 (.int .i64 i))) (fun _=>.nil) (fun i=>i≤l.start.length∧∀ j,j<i→qF l j=true) (fun i=>l.start.length-i) 0 ⟨bIT _,fun j h=>by omega⟩ Lq PH.nil_le ?_
 rintro i ⟨hi,bHZ⟩
 simp only[go_sem,γ,a1R,a1W]
 by_cases hlt:i<l.start.length
 ·have bGO:(i:Int)<(l.start.length:Nat):=by omega
  have hir:i<l.bGM.length:=by omega
  have bGV:(l.bGM.map fun r=>[frs r])[i]?=some [frs l.bGM[i]]:=by simp[hir]
  have hro:=hl.row _ (bIS hir)
  have e3:=L.smalls l.bGM[i] hro l.start.length
  have hrp:=aIU l hir
  have bad:qF l i=false→kY l=false:=fun h=>by
   rw[hX,show (bIN l.bGM.length).all (qF l)=false from List.all_eq_false.2 ⟨i,bKR.2 hir,by simp[h]⟩,bIV]
  simp only[go_sem,δ,γ,θ,bGO,a1X,bGV]
  refine aA e3 rfl ?_
  cases k3:(decide (((l.bGM[i]).length:Int)=l.start.length)&&(l.bGM[i]).all cI) with
  | false =>
   rw[k3,bIV] at hrp
   simp only[go_sem,γ,bIY,amH]
   exact fail _ _ (bad hrp) rfl
  | true =>
   rw[k3,bJC] at hrp
   rw[bJK,decide_eq_true_eq] at k3
   have hrl:(l.bGM[i]).length=l.start.length:=by omega
   have hik:i<(l.bGM[i]).length:=by omega
   have hm:=bIS hik
   have hs:=L.sign _ (hro.all _ hm) (oU (bJL.1 k3.2 _ hm))
   have hz:=HW (l.bGM[i])[i]
   have hg:((l.bGM[i]).map cB).getD i false=cB (l.bGM[i])[i]:=by simp[bJE,hik]
   rw[hg] at hrp
   have hz2:(pU (l.bGM[i])[i] != 0)=cB (l.bGM[i])[i]:=by
    rw[bne,hz,Bool.not_not]
   simp only[go_sem,δ,γ,θ,bIO,bGV,aaS hik]
   refine aA hs rfl ?_
   cases k4:cB (l.bGM[i])[i] with
   | true =>
    rw[k4] at hrp hz2
    simp only[go_sem,γ,reduceCtorEq,hz2,amH]
    exact fail _ _ (bad hrp) rfl
   | false =>
    rw[k4] at hrp hz2
    simp only[go_sem,γ,reduceCtorEq,hz2,a1Y,ws i]
    exact aC (i+1) ⟨hlt,fun j hj=>by
     by_cases e:j=i
     ·rw[e]; exact hrp
     ·exact bHZ j Om⟩ Om Lq PH.le_refl
 ·have bGO:¬ (i:Int)<(l.start.length:Nat):=by omega
  have:i=l.start.length:=by omega
  subst this
  have hrows:(bIN l.bGM.length).all (qF l)=true:=bJL.2 fun j hj=>bHZ j (by rw[← c3]; exact bKR.1 hj)
  rw[hrows,bJC] at hX
  have hrr:∀ r∈l.bGM,r.length=l.start.length∧∀ x∈r,cI x=true:=fun r hr=>by
   obtain⟨j,hj,rfl⟩:=bLL hr
   have h:=bHZ j Om
   rw[aIU l hj,bJK,bJK,decide_eq_true_eq] at h
   exact⟨by omega,bJL.1 h.1.2⟩
  have hlim:ayZ l:=⟨hxlim,fun r hr=>(hrr r hr).2⟩
  have hend:yZ l:=⟨by omega,by omega,fun r hr=>by rw[(hrr r hr).1,hxl]⟩
  have hsum:=L.sum l.start hl.start.all hl.start.fits
  simp only[go_sem,δ,γ,θ,bGO,aOQ]
  refine aA hsum rfl ?_
  cases hE:oN (l.start.map RF.v) with
  | error e =>
   have he0:=aKI hE
   have:tH l=false:=by unfold tH; rw[hE]
   rw[this,bIV] at hX
   simp only[go_sem,δ,γ,frV]
   refine aO fun o ho=>?_
   simp only[go_sem,δ,γ]
   refine bK .nil dC PH.nil_le ?_
   simp only[go_sem,γ,ZE,cQ he0,ZF]
   exact fail _ _ hX rfl
  | ok r =>
   have hrok:=aYZ hE
   have hrv:=aeT hE
   obtain⟨n,a,b⟩:=r
   have h1:dA 1:=by unfold dA; omega
   have hsame:=L.same (FV.rf (n,a,b)) (mkT 1 1) hrok (DU 1 h1).1 (by unfold RF.valid FV.rf; simp only[aQ]; exact hrv) (DU 1 h1).2
   have hP:tH l=(oI (FV.rf (n,a,b)) (mkT 1 1)==0):=by
    unfold tH
    rw[hE,DV]
    unfold oI FV.rf
    simp only[aQ,show (1:Int).natAbs=1 from rfl,show decide ((1:Int)<0)=false from rfl]
    by_cases h:qE n a b false 1 1=0<;>simp[h]
   simp only[go_sem,δ,γ,frV]
   refine aO fun o ho=>?_
   have hH:aT (PH.nil.set o (.rows 3 [(FV.rf (n,a,b)).cells])) [(o,.rows 3 [(FV.rf (n,a,b)).cells])] []:=aT.nil.new (H:=PH.nil) rfl _
   simp only[go_sem,δ,γ]
   refine bK (PH.nil.set o (.rows 3 [(FV.rf (n,a,b)).cells])) (zsS (oI (FV.rf (n,a,b)) (mkT 1 1)==0)) PH.le_refl ?_
   simp only[go_sem,δ,γ,ZE,bV (show (0:Int)=0 from rfl)]
   refine bC rfl (L.int 1 h1) rfl PH.le_refl ?_
   simp only[go_sem,γ]
   refine bC rfl hsame rfl PH.le_refl ?_
   rw[← hP]
   cases hp:tH l with
   | false =>
    rw[hp,bIV] at hX
    simp only[go_sem,γ,reduceCtorEq,bIY,ZF]
    exact fail _ _ hX rfl
   | true =>
    rw[hp,bJC,bqD] at hX
    have hb1:((l.start.length:Nat):Int)*((1:Nat):Int)≤140737488355328:=by omega
    have hb2:((l.start.length:Nat):Int)≤9223372036854775807:=by omega
    simp only[go_sem,γ,reduceCtorEq,bIO,aOR,hb1,hb2]
    refine aO fun q hq=>?_
    simp only[go_sem,γ,aOS]
    have hz0:bIP l.start.length [PV.bool false]=eH (cZ l 0):=by
     rw[← hxl]
     simp[cZ,eH]
    rw[← hxl]
    refine bpA L l hl hend hlim q _ _ _ Lq ?_ ?_
    ·refine PH.aF PH.nil_le ?_
     rw[jD,hxl,hz0]
    simp only[go_sem,aOY]
    have hn4:(cZ l l.exit.length).length≤4:=by rw[pA]; omega
    refine bxA (cZ l l.exit.length) hn4 q (kY l) hX _ rfl _ _ ?_ PH.le_refl
    rw[pA]
    exact Lq
structure qK (C:Ctx):Prop extends oO C where
 law:∀ l:bZ,l.Ok→aH C 68 [.agg l.cells] .nil (aD (.bool (kY l)))
def okL (base ns:List (List UInt8)) (P:Nat→Bool) (i:Nat):Bool:=iJ (base++ns.take i) (ns.getD i [])&&P i
theorem pW {p:Nat→Bool} (k:Nat) (b:Bool):(b&&(bIN (k+1)).all p)=((b&&(bIN k).all p)&&p k):=by
 rw[List.range_succ,List.all_append]
 cases (bIN k).all p<;>cases b<;>simp
theorem pV {p:Nat→Bool} {b:Bool} {i n:Nat} (hi:i≤n) (h:(b&&(bIN i).all p)=false):(b&&(bIN n).all p)=false:=by
 cases b with
 | false=>rfl
 | true =>
  rw[bJC] at h ⊢
  obtain⟨x,hx,hp⟩:=List.all_eq_false.1 h
  exact List.all_eq_false.2 ⟨x,bKR.2 (by have:=bKR.1 hx; omega),hp⟩
structure fZ (H:PH) (w:PV) (base ns:List (List UInt8)) (c:Bool) (i:Nat):Prop where
 ex:∃ names,aT H [] [(w,1,lK names)]∧(c=true→names=base++ns.take i)
section
variable {C:Ctx} {F:PF} {H:PH} {d:Option Nat} {K:PF→PH→Prop}
theorem fZ.call (L:oO C) {w:PV} {base ns:List (List UInt8)} {i:Nat} {B:List BX} {names:List (List UInt8)} (h:aT H B [(w,1,lK names)]) (hl:base.length≤1000) (hi:i≤1000) (hn:names=base++ns.take i) (hin:i<ns.length) {a b:Nat} (bIB:aP.evs F [.tmp a,.tmp b]=some [w,.str ns[i]])
  (hk:∀ w' H',aT H' B [(w',1,lK (names++[ns[i]]))]→fZ H' w' base ns true (i+1)→K (F.put d (.tup [w',.bool (iJ (base++ns.take i) (ns.getD i []))])) H'):gW C 70 [.tmp a,.tmp b] [] d K F H:=by
 refine DC (B1:=[]) (B2:=B) (L1:=[(w,1,lK names)]) (L2:=[]) (Q:=ZN names ns[i]) h (fun H0 h0=>L.fresh names (by rw[hn,bIQ,bJF]; omega) ns[i] w H0 h0) bIB ?_
 rintro r B' L' H' ⟨w',rfl,rfl,rfl⟩ h'
 have hgd:ns.getD i []=ns[i]:=by simp[bJE,hin]
 rw[hgd,← hn] at hk
 refine hk w' H' h' ⟨names++[ns[i]],h'.sub (List.nil_sublist _) (bKH.refl _),fun _=>?_⟩
 rw[bKM hin,← bJO,hn]
end
theorem fZ.amF {H:PH} {w:PV} {base ns:List (List UInt8)} {c:Bool} {i:Nat} (h:fZ H w base ns true i):fZ H w base ns c i:=by
 obtain⟨names,h1,h3⟩:=h.ex
 exact⟨names,h1,fun _=>h3 rfl⟩
def FT (f:aE):Bool:=(bIN f.bGR.length).all (okL [] (f.bGR.map bZ.name) fun i=>(f.bGR.map kY).getD i false)
theorem buU {C:Ctx} (L:qK C) (f:aE) (hf:f.Ok) (hs:f.bGR.length≤4) (K:bX) [Up K] (F:PF) (H:PH)
  (hF:(((((((((PF.nil.set 1 (.bGQ f.cells)).set 3 (.bGI)).set 4 (.bGI)).set 5 (.bGI)).set 6 (.bGI)).set 7 (.bGI)).set 8 (.bool true)).set 9 (.int .i64 0)):PF).le F)
  (hK:∀ H',K (.exit 0) (((((((PF.nil.set 1 (.bGQ f.cells)).set 4 (.bGI)).set 5 (.bGI)).set 6 (.bGI)).set 7 (.bGI)).set 8 (.bool (FT f)))) H'):aB.wp C (.loop JT) K F H:=by
 obtain⟨ok,hok⟩:∃ ok,okL [] (f.bGR.map bZ.name) (fun i=>(f.bGR.map kY).getD i false)=ok:=⟨_,rfl⟩
 unfold FT at hK
 rw[hok] at hK
 refine wp_loop (α:=Nat × PV × PH) (fun s=>((((((((PF.nil.set 1 (.bGQ f.cells)).set 3 (s.2.1)).set 4 (.bGI)).set 5 (.bGI)).set 6 (.bGI)).set 7 (.bGI)).set 8 (.bool (true&&(bIN s.1).all ok))).set 9 (.int .i64 s.1))) (fun s=>s.2.2) (fun s=>s.1≤f.bGR.length∧fZ s.2.2 s.2.1 [] (f.bGR.map bZ.name) (true&&(bIN s.1).all ok) s.1) (fun s=>f.bGR.length-s.1)
  (0,.bGI,H) ⟨bIT _,⟨[],aT.nil.qD 1,fun _=>rfl⟩⟩ hF PH.le_refl ?_
 rintro⟨i,w,H0⟩ ⟨hi,hG⟩
 simp only at hi hG ⊢
 have fin:∀ (b:Bool) (w':PV) (F':PF) (H':PH),i<f.bGR.length→(true&&(bIN (i+1)).all ok)=b→fZ H' w' [] (f.bGR.map bZ.name) true (i+1) →
   (((((((((PF.nil.set 1 (.bGQ f.cells)).set 3 (w')).set 4 (.bGI)).set 5 (.bGI)).set 6 (.bGI)).set 7 (.bGI)).set 8 (.bool b)).set 9 (.int .i64 (i+1:Nat))):PF).le F' →
   dQ (fun s:Nat × PV × PH=>((((((((PF.nil.set 1 (.bGQ f.cells)).set 3 (s.2.1)).set 4 (.bGI)).set 5 (.bGI)).set 6 (.bGI)).set 7 (.bGI)).set 8 (.bool (true&&(bIN s.1).all ok))).set 9 (.int .i64 s.1))) (fun s=>s.2.2) (fun s=>s.1≤f.bGR.length∧fZ s.2.2 s.2.1 [] (f.bGR.map bZ.name) (true&&(bIN s.1).all ok) s.1) (fun s=>f.bGR.length-s.1) (f.bGR.length-i) K .normal F' H' :=
  fun b w' F' H' hlt hb hG' hF'=>aC (i+1,w',H') ⟨hlt,hG'.amF⟩ (by simp only; omega) (by simp only; rw[hb]; exact hF') PH.le_refl
 have bGP:=pW (p:=ok) i true
 have stop:(true&&(bIN i).all ok)=(true&&(bIN f.bGR.length).all ok)→K (.exit 0) (((((((PF.nil.set 1 (.bGQ f.cells)).set 4 (.bGI)).set 5 (.bGI)).set 6 (.bGI)).set 7 (.bGI)).set 8 (.bool (true&&(bIN i).all ok)))) H0:=fun e=>by
  rw[e,bJC]; exact hK H0
 have hacc:=fun h=>pV (p:=ok) (b:=true) hi h
 generalize hc:(true&&(bIN i).all ok)=c at *
 simp only[go_sem,δ,γ,θ,JT,awT,bIM]
 by_cases hlt:i<f.bGR.length
 ·have bGO:(i:Int)<(f.bGR.length:Nat):=by omega
  cases c with
  | false =>
   simp only[go_sem,γ,bGO]
   exact Up.up Lq (stop (hacc rfl).symm)
  | true =>
   obtain⟨names,g1,g3⟩:=hG.ex
   have hat:(f.bGR.map bZ.cells)[i]?=some (f.bGR[i]).cells:=by simp[hlt]
   have hin:i<(f.bGR.map bZ.name).length:=by rw[bIM]; exact hlt
   have hoki:ok i=(iJ ([]++(f.bGR.map bZ.name).take i) ((f.bGR.map bZ.name).getD i [])&&kY f.bGR[i]):=by
    rw[← hok]
    unfold okL
    simp[bJE,hlt]
   have hl:=L.law _ (hf.law _ (bIS hlt))
   rw[hoki] at bGP
   simp only[go_sem,δ,γ,θ,bGO,awU,hat]
   refine fZ.call L.tooO (ns:=f.bGR.map bZ.name) g1 (bIT _) Om (g3 rfl) hin (by simp only[go_sem,γ,bKI]) fun w' H1 h1 hG1=>?_
   generalize iJ ([]++(f.bGR.map bZ.name).take i) ((f.bGR.map bZ.name).getD i [])=fb at *
   cases fb with
   | false =>
    simp only[go_sem,γ,reduceCtorEq,QI,QJ,ws i]
    exact fin false w' _ _ hlt (bGP.trans rfl) hG1 Lq
   | true =>
    simp only[go_sem,δ,γ,θ,QI,hat]
    refine aA hl rfl ?_
    simp only[go_sem,γ,QJ,ws i]
    exact fin _ w' _ _ hlt (bGP.trans rfl) hG1 Lq
 ·have bGO:¬ (i:Int)<(f.bGR.length:Nat):=by omega
  have:i=f.bGR.length:=by omega
  subst this
  simp only[go_sem,γ,reduceCtorEq,bGO]
  exact Up.up Lq (stop hc.symm)
theorem OG {a b c d e f:Nat} (h:oL a b c d e f=true):a≤4∧b≤4∧c≤40∧d≤24∧e≤4∧f≤12:=by
 simp only[oL,bJK,decide_eq_true_eq] at h
 omega
theorem ahU {n:Nat} (h:n≤1000):IntKind.i64.wrap ((n:Int)-1)=(n:Int)-1:=wrap_i64 Om Om
def inS:Spec:=fun name vs=>match name,vs with
 | 76,[.int _ n,.int _ lo,.int _ hi]=>some ([],fun _=>aD (.bool (within n lo hi)))
 | _,_=>none
def akR (bGR:Nat) (m:cH):Bool:=within m.bHC 1 16&&(within m.port 1 64&&within m.law 0 ((bGR:Int)-1))
def aOC (pols:Nat) (v:eF):Bool:=within v.bGW 0 ((pols:Int)-1)
def xA (f:aE):Bool:=(bIN f.bGH.length).all (okL [] (f.bGH.map cH.name) fun i=>(f.bGH.map (akR f.bGR.length)).getD i false)
theorem biJ {C:Ctx} (L:qK C) (f:aE) (hf:f.Ok) (hz:oL f.bGR.length f.bGH.length f.bGK.length f.bGG.length f.bGL.length f.bGJ.length=true) (b:Bool) (K:bX) [Up K] (F:PF) (H:PH)
  (hF:((((((((PF.nil.set 1 (.bGQ f.cells)).set 4 (.bGI)).set 5 (.bGI)).set 6 (.bGI)).set 7 (.bGI)).set 8 (.bool b)).set 10 (.int .i64 0)):PF).le F)
  (hK:∀ H',K (.exit 2) ((((((PF.nil.set 1 (.bGQ f.cells)).set 5 (.bGI)).set 6 (.bGI)).set 7 (.bGI)).set 8 (.bool (b&&xA f)))) H'):aB.wp C (.loop JU) K F H:=by
 obtain⟨hz1,hz2,hz3,hz4,hz5,hz6⟩:=OG hz
 obtain⟨ok,hok⟩:∃ ok,okL [] (f.bGH.map cH.name) (fun i=>(f.bGH.map (akR f.bGR.length)).getD i false)=ok:=⟨_,rfl⟩
 unfold xA at hK
 rw[hok] at hK
 refine wp_loop (α:=Nat × PV × PH) (fun s=>(((((((PF.nil.set 1 (.bGQ f.cells)).set 4 (s.2.1)).set 5 (.bGI)).set 6 (.bGI)).set 7 (.bGI)).set 8 (.bool (b&&(bIN s.1).all ok))).set 10 (.int .i64 s.1))) (fun s=>s.2.2) (fun s=>s.1≤f.bGH.length∧fZ s.2.2 s.2.1 [] (f.bGH.map cH.name) (b&&(bIN s.1).all ok) s.1) (fun s=>f.bGH.length-s.1)
  (0,.bGI,H) ⟨bIT _,⟨[],aT.nil.qD 1,fun _=>rfl⟩⟩ (by
   have e:(b&&(bIN 0).all ok)=b:=by cases b<;>rfl
   simp only[e]
   exact hF) PH.le_refl ?_
 rintro⟨i,w,H0⟩ ⟨hi,hG⟩
 simp only at hi hG ⊢
 have fin:∀ (c:Bool) (w':PV) (F':PF) (H':PH),i<f.bGH.length→(b&&(bIN (i+1)).all ok)=c→fZ H' w' [] (f.bGH.map cH.name) true (i+1) →
   ((((((((PF.nil.set 1 (.bGQ f.cells)).set 4 (w')).set 5 (.bGI)).set 6 (.bGI)).set 7 (.bGI)).set 8 (.bool c)).set 10 (.int .i64 (i+1:Nat))):PF).le F' →
   dQ (fun s:Nat × PV × PH=>(((((((PF.nil.set 1 (.bGQ f.cells)).set 4 (s.2.1)).set 5 (.bGI)).set 6 (.bGI)).set 7 (.bGI)).set 8 (.bool (b&&(bIN s.1).all ok))).set 10 (.int .i64 s.1))) (fun s=>s.2.2) (fun s=>s.1≤f.bGH.length∧fZ s.2.2 s.2.1 [] (f.bGH.map cH.name) (b&&(bIN s.1).all ok) s.1) (fun s=>f.bGH.length-s.1) (f.bGH.length-i) K .normal F' H' :=
  fun c w' F' H' hlt hb hG' hF'=>aC (i+1,w',H') ⟨hlt,hG'.amF⟩ (by simp only; omega) (by simp only; rw[hb]; exact hF') PH.le_refl
 have bGP:=pW (p:=ok) i b
 have stop:(b&&(bIN i).all ok)=(b&&(bIN f.bGH.length).all ok)→K (.exit 2) ((((((PF.nil.set 1 (.bGQ f.cells)).set 5 (.bGI)).set 6 (.bGI)).set 7 (.bGI)).set 8 (.bool (b&&(bIN i).all ok)))) H0:=fun e=>by
  rw[e]; exact hK H0
 have hacc:=fun h=>pV (p:=ok) (b:=b) hi h
 generalize hc:(b&&(bIN i).all ok)=c at *
 simp only[go_sem,δ,γ,θ,JU,aiM,bIM]
 by_cases hlt:i<f.bGH.length
 ·have bGO:(i:Int)<(f.bGH.length:Nat):=by omega
  cases c with
  | false =>
   simp only[go_sem,γ,bGO]
   exact Up.up Lq (stop (hacc rfl).symm)
  | true =>
   obtain⟨names,g1,g3⟩:=hG.ex
   have hat:(f.bGH.map cH.cells)[i]?=some (f.bGH[i]).cells:=by simp[hlt]
   have hin:i<(f.bGH.map cH.name).length:=by rw[bIM]; exact hlt
   have hoki:ok i=(iJ ([]++(f.bGH.map cH.name).take i) ((f.bGH.map cH.name).getD i [])&&(akR f.bGR.length) f.bGH[i]):=by
    rw[← hok]
    unfold okL
    simp[bJE,hlt]
   rw[hoki] at bGP
   have bHV:akR f.bGR.length f.bGH[i]=(within (f.bGH[i]).bHC 1 16&&(within (f.bGH[i]).port 1 64&&within (f.bGH[i]).law 0 ((f.bGR.length:Int)-1))):=rfl
   rw[bHV] at bGP
   simp only[go_sem,δ,γ,θ,bGO,aiN,hat]
   refine aO fun o ho=>?_
   have g4:=g1.new ho (.rows 4 [(f.bGH[i]).cells])
   have g5:=g4.at 0 rfl
   simp only[go_sem,δ,γ]
   generalize H0.set o (.rows 4 [(f.bGH[i]).cells])=H2 at *
   simp only[go_sem,δ,γ,θ,aiO,g5]
   refine fZ.call L.tooO (ns:=(f.bGH.map cH.name)) g4 (bIT _) Om (g3 rfl) hin (by simp only[go_sem,γ,bKI]) fun w' H1 h1 hG1=>?_
   have g6:=h1.at 0 rfl
   generalize iJ ([]++(f.bGH.map cH.name).take i) ((f.bGH.map cH.name).getD i [])=fb at *
   cases fb with
   | false =>
    simp only[go_sem,γ,reduceCtorEq,JW,sH,ws i]
    exact fin false w' _ _ hlt (bGP.trans rfl) hG1 Lq
   | true =>
    simp only[go_sem,δ,γ,θ,JW,g6]
    refine aA (L.inn (f.bGH[i]).bHC 1 16) rfl ?_
    cases k0:within (f.bGH[i]).bHC 1 16 with
    | false =>
     simp only[go_sem,γ,reduceCtorEq,sH,ws i]
     exact fin false w' _ _ hlt (by rw[bGP,k0]<;>simp) hG1 Lq
    | true =>
     simp only[go_sem,δ,γ,θ,g6]
     refine aA (L.inn (f.bGH[i]).port 1 64) rfl ?_
     cases k1:within (f.bGH[i]).port 1 64 with
     | false =>
      simp only[go_sem,γ,reduceCtorEq,sH,ws i]
      exact fin false w' _ _ hlt (by rw[bGP,k0,k1]<;>simp) hG1 Lq
     | true =>
      simp only[go_sem,δ,γ,θ,g6,bIM,ahU (Om:f.bGR.length≤1000)]
      refine aA (L.inn (f.bGH[i]).law 0 ((f.bGR.length:Int)-1)) rfl ?_
      simp only[go_sem,γ,sH,ws i]
      exact fin _ w' _ _ hlt (by rw[bGP,k0,k1]<;>simp) hG1 Lq
 ·have bGO:¬ (i:Int)<(f.bGH.length:Nat):=by omega
  have:i=f.bGH.length:=by omega
  subst this
  simp only[go_sem,γ,reduceCtorEq,bGO]
  exact Up.up Lq (stop hc.symm)
def ayS (f:aE):Bool:=(bIN f.bGJ.length).all (okL [] (f.bGJ.map eF.name) fun i=>(f.bGJ.map (aOC f.bGL.length)).getD i false)
theorem buW {C:Ctx} (L:qK C) (f:aE) (hf:f.Ok) (hz:oL f.bGR.length f.bGH.length f.bGK.length f.bGG.length f.bGL.length f.bGJ.length=true) (b:Bool) (K:bX) [Up K] (F:PF) (H:PH)
  (hF:(((((PF.nil.set 1 (.bGQ f.cells)).set 7 (.bGI)).set 8 (.bool b)).set 21 (.int .i64 0)):PF).le F)
  (hK:∀ H',K (.exit 14) (((PF.nil.set 1 (.bGQ f.cells)).set 8 (.bool (b&&ayS f)))) H'):aB.wp C (.loop wR) K F H:=by
 obtain⟨hz1,hz2,hz3,hz4,hz5,hz6⟩:=OG hz
 obtain⟨ok,hok⟩:∃ ok,okL [] (f.bGJ.map eF.name) (fun i=>(f.bGJ.map (aOC f.bGL.length)).getD i false)=ok:=⟨_,rfl⟩
 unfold ayS at hK
 rw[hok] at hK
 refine wp_loop (α:=Nat × PV × PH) (fun s=>((((PF.nil.set 1 (.bGQ f.cells)).set 7 (s.2.1)).set 8 (.bool (b&&(bIN s.1).all ok))).set 21 (.int .i64 s.1))) (fun s=>s.2.2) (fun s=>s.1≤f.bGJ.length∧fZ s.2.2 s.2.1 [] (f.bGJ.map eF.name) (b&&(bIN s.1).all ok) s.1) (fun s=>f.bGJ.length-s.1)
  (0,.bGI,H) ⟨bIT _,⟨[],aT.nil.qD 1,fun _=>rfl⟩⟩ (by
   have e:(b&&(bIN 0).all ok)=b:=by cases b<;>rfl
   simp only[e]
   exact hF) PH.le_refl ?_
 rintro⟨i,w,H0⟩ ⟨hi,hG⟩
 simp only at hi hG ⊢
 have fin:∀ (c:Bool) (w':PV) (F':PF) (H':PH),i<f.bGJ.length→(b&&(bIN (i+1)).all ok)=c→fZ H' w' [] (f.bGJ.map eF.name) true (i+1) →
   (((((PF.nil.set 1 (.bGQ f.cells)).set 7 (w')).set 8 (.bool c)).set 21 (.int .i64 (i+1:Nat))):PF).le F' →
   dQ (fun s:Nat × PV × PH=>((((PF.nil.set 1 (.bGQ f.cells)).set 7 (s.2.1)).set 8 (.bool (b&&(bIN s.1).all ok))).set 21 (.int .i64 s.1))) (fun s=>s.2.2) (fun s=>s.1≤f.bGJ.length∧fZ s.2.2 s.2.1 [] (f.bGJ.map eF.name) (b&&(bIN s.1).all ok) s.1) (fun s=>f.bGJ.length-s.1) (f.bGJ.length-i) K .normal F' H' :=
  fun c w' F' H' hlt hb hG' hF'=>aC (i+1,w',H') ⟨hlt,hG'.amF⟩ (by simp only; omega) (by simp only; rw[hb]; exact hF') PH.le_refl
 have bGP:=pW (p:=ok) i b
 have stop:(b&&(bIN i).all ok)=(b&&(bIN f.bGJ.length).all ok)→K (.exit 14) (((PF.nil.set 1 (.bGQ f.cells)).set 8 (.bool (b&&(bIN i).all ok)))) H0:=fun e=>by
  rw[e]; exact hK H0
 have hacc:=fun h=>pV (p:=ok) (b:=b) hi h
 generalize hc:(b&&(bIN i).all ok)=c at *
 simp only[go_sem,γ,wR,ajE,bIM]
 by_cases hlt:i<f.bGJ.length
 ·have bGO:(i:Int)<(f.bGJ.length:Nat):=by omega
  cases c with
  | false =>
   simp only[go_sem,γ,bGO]
   exact Up.up Lq (stop (hacc rfl).symm)
  | true =>
   obtain⟨names,g1,g3⟩:=hG.ex
   have hat:(f.bGJ.map eF.cells)[i]?=some (f.bGJ[i]).cells:=by simp[hlt]
   have hin:i<(f.bGJ.map eF.name).length:=by rw[bIM]; exact hlt
   have hoki:ok i=(iJ ([]++(f.bGJ.map eF.name).take i) ((f.bGJ.map eF.name).getD i [])&&(aOC f.bGL.length) f.bGJ[i]):=by
    rw[← hok]
    unfold okL
    simp[bJE,hlt]
   rw[hoki] at bGP
   have bHV:aOC f.bGL.length f.bGJ[i]=within (f.bGJ[i]).bGW 0 ((f.bGL.length:Int)-1):=rfl
   rw[bHV] at bGP
   simp only[go_sem,δ,γ,θ,bGO,ajF,hat]
   refine fZ.call L.tooO (ns:=(f.bGJ.map eF.name)) g1 (bIT _) Om (g3 rfl) hin (by simp only[go_sem,γ,bKI]) fun w' H1 h1 hG1=>?_
   generalize iJ ([]++(f.bGJ.map eF.name).take i) ((f.bGJ.map eF.name).getD i [])=fb at *
   cases fb with
   | false =>
    simp only[go_sem,γ]
    refine bK .nil (inS) PH.nil_le ?_
    simp only[go_sem,γ,reduceCtorEq,KJ,KK,ws i]
    exact fin false w' _ _ hlt (bGP.trans rfl) hG1 Lq
   | true =>
    simp only[go_sem,γ]
    refine bK .nil (inS) PH.nil_le ?_
    simp only[go_sem,δ,γ,θ,KJ,hat,bIM,ahU (Om:f.bGL.length≤1000)]
    refine bC rfl (L.inn (f.bGJ[i]).bGW 0 ((f.bGL.length:Int)-1)) rfl PH.nil_le ?_
    simp only[go_sem,γ,KK,ws i]
    exact fin _ w' _ _ hlt (bGP.trans rfl) hG1 Lq
 ·have bGO:¬ (i:Int)<(f.bGJ.length:Nat):=by omega
  have:i=f.bGJ.length:=by omega
  subst this
  simp only[go_sem,γ,reduceCtorEq,bGO]
  exact Up.up Lq (stop hc.symm)
def a4M:Spec:=fun name vs=>match name,vs with
 | 76,[.int _ n,.int _ lo,.int _ hi]=>some ([],fun _=>aD (.bool (within n lo hi)))
 | 74,[.agg cs]=>some ([],fun _=>aD (.bool (cI (frD cs))))
 | _,_=>none
theorem a4N (x:RF):a4M 74 [.agg x.cells]=some ([],fun _=>aD (.bool (cI x))):=by
 show some ([],fun _=>aD (.bool (cI (frD x.cells))))=_
 rw[amP]
def azZ (f:aE) (i:Nat) (d:cG):Bool :=
 within d.level 1 4&&(within d.parent 0 i&&(((f.bGK.map cG.level).getD d.parent.toNat 0==IntKind.i64.wrap (d.level-1))&&(within d.bHI 1 64&&cI d.bHA)))
theorem bqB (f:aE) (i:Nat) (d:cG):VC f i d=azZ f i d:=by
 unfold VC azZ
 have:decide ((f.bGK.map cG.level).getD d.parent.toNat 0=IntKind.i64.wrap (d.level-1))=((f.bGK.map cG.level).getD d.parent.toNat 0==IntKind.i64.wrap (d.level-1)):=by
  generalize (f.bGK.map cG.level).getD d.parent.toNat 0=u
  by_cases h:u=IntKind.i64.wrap (d.level-1)<;>simp[h]
 rw[this]
 cases within d.parent 0 i<;>cases within d.level 1 4<;>cases within d.bHI 1 64<;>simp
def fV (f:aE):List (List UInt8):=(f.bGK.drop 1).map cG.name
def vI (f:aE) (i:Nat):Bool:=match f.bGK[i+1]? with
 | some d=>azZ f i d
 | none=>false
def vJ (f:aE):Bool:=(bIN (f.bGK.length-1)).all (okL [] (fV f) (vI f))
theorem azY (f:aE):(fV f).length=f.bGK.length-1:=by simp[fV]
theorem buT {C:Ctx} (L:qK C) (f:aE) (hf:f.Ok) (hz3:f.bGK.length≤40) (h0:0<f.bGK.length) (b:Bool) (K:bX) [Up K] (F:PF) (H:PH)
  (hF:(((((((PF.nil.set 1 (.bGQ f.cells)).set 5 (.bGI)).set 6 (.bGI)).set 7 (.bGI)).set 8 (.bool b)).set 13 (.int .i64 1)):PF).le F)
  (hK:∀ w H',fZ H' w [] (fV f) (b&&vJ f) (f.bGK.length-1)→K (.exit 4) ((((((PF.nil.set 1 (.bGQ f.cells)).set 5 (w)).set 6 (.bGI)).set 7 (.bGI)).set 8 (.bool (b&&vJ f)))) H'):aB.wp C (.loop wN) K F H:=by
 obtain⟨ok,hok⟩:∃ ok,okL [] (fV f) (vI f)=ok:=⟨_,rfl⟩
 unfold vJ at hK
 rw[hok] at hK
 obtain⟨n,hn⟩:∃ n,f.bGK.length=n+1:=⟨f.bGK.length-1,by omega⟩
 have hnl:=azY f
 have hn1:f.bGK.length-1=n:=by omega
 rw[hn1] at hK hnl
 refine wp_loop (α:=Nat × PV × PH) (fun s=>((((((PF.nil.set 1 (.bGQ f.cells)).set 5 (s.2.1)).set 6 (.bGI)).set 7 (.bGI)).set 8 (.bool (b&&(bIN s.1).all ok))).set 13 (.int .i64 (s.1+1:Nat)))) (fun s=>s.2.2) (fun s=>s.1≤n∧fZ s.2.2 s.2.1 [] (fV f) (b&&(bIN s.1).all ok) s.1) (fun s=>n-s.1)
  (0,.bGI,H) ⟨bIT _,⟨[],aT.nil.qD 1,fun _=>rfl⟩⟩ (by
   have e:(b&&(bIN 0).all ok)=b:=by cases b<;>rfl
   simp only[e]
   exact hF) PH.le_refl ?_
 rintro⟨i,w,H0⟩ ⟨hi,hG⟩
 simp only at hi hG ⊢
 have fin:∀ (c:Bool) (w':PV) (F':PF) (H':PH),i<n→(b&&(bIN (i+1)).all ok)=c→fZ H' w' [] (fV f) true (i+1) →
   (((((((PF.nil.set 1 (.bGQ f.cells)).set 5 (w')).set 6 (.bGI)).set 7 (.bGI)).set 8 (.bool c)).set 13 (.int .i64 (i+1+1:Nat))):PF).le F' →
   dQ (fun s:Nat × PV × PH=>((((((PF.nil.set 1 (.bGQ f.cells)).set 5 (s.2.1)).set 6 (.bGI)).set 7 (.bGI)).set 8 (.bool (b&&(bIN s.1).all ok))).set 13 (.int .i64 (s.1+1:Nat)))) (fun s=>s.2.2) (fun s=>s.1≤n∧fZ s.2.2 s.2.1 [] (fV f) (b&&(bIN s.1).all ok) s.1) (fun s=>n-s.1) (n-i) K .normal F' H' :=
  fun c w' F' H' hlt hb hG' hF'=>aC (i+1,w',H') ⟨hlt,hG'.amF⟩ (by simp only; omega) (by simp only; rw[hb]; exact hF') PH.le_refl
 have bGP:=pW (p:=ok) i b
 have hacc:=fun h=>pV (p:=ok) (b:=b) hi h
 have stop:(b&&(bIN i).all ok)=(b&&(bIN n).all ok)→((b&&(bIN i).all ok)=true→i=n)→K (.exit 4) ((((((PF.nil.set 1 (.bGQ f.cells)).set 5 (w)).set 6 (.bGI)).set 7 (.bGI)).set 8 (.bool (b&&(bIN i).all ok)))) H0:=fun e e2=>by
  obtain⟨names,g1,g3⟩:=hG.ex
  have:=hK w H0 ⟨names,g1,fun h=>by
   have h':=e.trans h
   rw[g3 h',e2 h']⟩
  rwa [← e] at this
 generalize hc:(b&&(bIN i).all ok)=c at *
 simp only[go_sem,δ,γ,θ,wN,aiQ,bIM]
 by_cases hlt:i<n
 ·have bGO:((i+1:Nat):Int)<(f.bGK.length:Nat):=by omega
  cases c with
  | false =>
   simp only[go_sem,γ,bGO]
   exact Up.up Lq (stop (hacc rfl).symm (fun h=>by cases h))
  | true =>
   obtain⟨names,g1,g3⟩:=hG.ex
   have hid:i+1<f.bGK.length:=by omega
   have hat:=eI hid
   have hin:i<(fV f).length:=by omega
   have hnm:(fV f)[i]=(f.bGK[i+1]).name:=by simp[fV,Nat.add_comm]
   have hoki:ok i=(iJ ([]++(fV f).take i) ((fV f).getD i [])&&azZ f i f.bGK[i+1]):=by
    rw[← hok]
    unfold okL vI
    rw[bIZ hid]
   have hdo:=hf.dom _ (bIS hid)
   rw[hoki] at bGP
   unfold azZ at bGP
   have e1:IntKind.i64.wrap (((i+1:Nat):Int)-1)=(i:Nat):=by rw[wrap_i64 Om Om]; omega
   have winc:IntKind.i64.wrap (((i+1:Nat):Int)+1)=((i+1+1:Nat):Int):=cS Om
   have hsm:=L.small _ hdo.1
   simp only[go_sem,δ,γ,θ,bGO,aiR,hat]
   refine aO fun o ho=>?_
   have g4:=g1.new ho (.rows 7 [(f.bGK[i+1]).cells])
   have g5:=g4.at 0 rfl
   simp only[go_sem,δ,γ]
   generalize H0.set o (.rows 7 [(f.bGK[i+1]).cells])=H2 at *
   simp only[go_sem,δ,γ,θ,aiS,g5]
   refine fZ.call L.tooO (ns:=fV f) g4 (bIT _) Om (g3 rfl) hin (by simp only[go_sem,γ,hnm]) fun w' H1 h1 hG1=>?_
   have g6:=h1.at 0 rfl
   generalize iJ ([]++(fV f).take i) ((fV f).getD i [])=fb at *
   generalize hd:f.bGK[i+1]=dd at *
   cases fb with
   | false =>
    simp only[go_sem,γ]
    refine bK .nil a4M PH.nil_le ?_
    simp only[go_sem,γ,reduceCtorEq,JZ,mY,winc]
    exact fin false w' _ _ hlt (bGP.trans rfl) hG1 Lq
   | true =>
    simp only[go_sem,γ]
    refine bK .nil a4M PH.nil_le ?_
    simp only[go_sem,δ,γ,θ,reduceCtorEq,JZ,g6]
    refine bC rfl (L.inn dd.level 1 4) rfl PH.nil_le ?_
    cases k0:within dd.level 1 4 with
    | false =>
     simp only[go_sem,γ,reduceCtorEq,mY,winc]
     exact fin false w' _ _ hlt (by rw[bGP,k0]<;>simp) hG1 Lq
    | true =>
     simp only[go_sem,δ,γ,θ,reduceCtorEq,g6,e1]
     refine bC rfl (L.inn dd.parent 0 (i:Nat)) rfl PH.nil_le ?_
     cases k1:within dd.parent 0 (i:Nat) with
     | false =>
      simp only[go_sem,γ,reduceCtorEq,mY,winc]
      exact fin false w' _ _ hlt (by rw[bGP,k0,k1]<;>simp) hG1 Lq
     | true =>
      obtain⟨p0,p1⟩:=within_iff.1 k1
      obtain⟨p,hp⟩:∃ p:Nat,dd.parent=p:=⟨dd.parent.toNat,by omega⟩
      have hpd:p<f.bGK.length:=by omega
      obtain⟨lv,hlv⟩:∃ lv,(f.bGK.map cG.level).getD dd.parent.toNat 0=lv:=⟨_,rfl⟩
      have hpl:(f.bGK[p]).level=lv:=by rw[← hlv,hp,Int.toNat_natCast,getD_at hpd]
      rw[hlv] at bGP
      have hpat:=eI hpd
      simp only[go_sem,δ,γ,θ,reduceCtorEq,g6,hp,hpat,hpl]
      cases k2:lv==IntKind.i64.wrap (dd.level-1) with
      | false =>
       simp only[go_sem,γ,reduceCtorEq,mY,winc]
       exact fin false w' _ _ hlt (by rw[bGP,k0,k1,k2]<;>simp) hG1 Lq
      | true =>
       simp only[go_sem,δ,γ,θ,reduceCtorEq,g6]
       refine bC rfl (L.inn dd.bHI 1 64) rfl PH.nil_le ?_
       cases k3:within dd.bHI 1 64 with
       | false =>
        simp only[go_sem,γ,reduceCtorEq,mY,winc]
        exact fin false w' _ _ hlt (by rw[bGP,k0,k1,k2,k3]<;>simp) hG1 Lq
       | true =>
        simp only[go_sem,δ,γ,reduceCtorEq,g6]
        refine bC (a4N _) hsm rfl PH.nil_le ?_
        simp only[go_sem,γ,mY,winc]
        exact fin _ w' _ _ hlt (by rw[bGP,k0,k1,k2,k3]<;>simp) hG1 Lq
 ·have bGO:¬ ((i+1:Nat):Int)<(f.bGK.length:Nat):=by omega
  have:i=n:=by omega
  subst this
  simp only[go_sem,γ,reduceCtorEq,bGO]
  exact Up.up Lq (stop hc.symm (fun _=>rfl))
def aAC (f:aE) (d:dD):Bool:=within d.model 0 ((f.bGH.length:Int)-1)&&(within d.machine 0 ((f.bGK.length:Int)-1)&&((f.bGK.map cG.level).getD d.machine.toNat 0==4))
def kX (f:aE):List (List UInt8):=f.bGG.map dD.name
def tL (f:aE) (i:Nat):Bool:=match f.bGG[i]? with
 | some d=>aAC f d
 | none=>false
def wT (f:aE):Bool:=(bIN f.bGG.length).all (okL (fV f) (kX f) (tL f))
theorem biI {C:Ctx} (L:qK C) (f:aE) (hf:f.Ok) (hz3:f.bGK.length≤40) (h0:0<f.bGK.length) (hz4:f.bGG.length≤24) (hz2:f.bGH.length≤4) (b:Bool) (w0:PV) (K:bX) [Up K] (F:PF) (H:PH)
  (hG0:fZ H w0 [] (fV f) b (f.bGK.length-1)) (hF:(((((((PF.nil.set 1 (.bGQ f.cells)).set 5 (w0)).set 6 (.bGI)).set 7 (.bGI)).set 8 (.bool b)).set 15 (.int .i64 0)):PF).le F)
  (hK:∀ H',K (.exit 6) (((((PF.nil.set 1 (.bGQ f.cells)).set 6 (.bGI)).set 7 (.bGI)).set 8 (.bool (b&&wT f)))) H'):aB.wp C (.loop wO) K F H:=by
 obtain⟨ok,hok⟩:∃ ok,okL (fV f) (kX f) (tL f)=ok:=⟨_,rfl⟩
 unfold wT at hK
 rw[hok] at hK
 obtain⟨n,hn⟩:∃ n,f.bGG.length=n:=⟨_,rfl⟩
 have hdl:=azY f
 have hnl:(kX f).length=n:=by simp[kX,hn]
 rw[hn] at hK
 refine wp_loop (α:=Nat × PV × PH) (fun s=>((((((PF.nil.set 1 (.bGQ f.cells)).set 5 (s.2.1)).set 6 (.bGI)).set 7 (.bGI)).set 8 (.bool (b&&(bIN s.1).all ok))).set 15 (.int .i64 s.1))) (fun s=>s.2.2) (fun s=>s.1≤n∧fZ s.2.2 s.2.1 (fV f) (kX f) (b&&(bIN s.1).all ok) s.1) (fun s=>n-s.1)
  (0,w0,H) ⟨bIT _,by
   obtain⟨names,q1,q2⟩:=hG0.ex
   have e:(b&&(bIN 0).all ok)=b:=by cases b<;>rfl
   refine⟨names,q1,fun h=>?_⟩
   simp only[e] at h
   rw[q2 h,List.nil_append,bJD Om]
   simp⟩ (by
   have e:(b&&(bIN 0).all ok)=b:=by cases b<;>rfl
   simp only[e]
   exact hF) PH.le_refl ?_
 rintro⟨i,w,H0⟩ ⟨hi,hG⟩
 simp only at hi hG ⊢
 have fin:∀ (c:Bool) (w':PV) (F':PF) (H':PH),i<n→(b&&(bIN (i+1)).all ok)=c→fZ H' w' (fV f) (kX f) true (i+1) →
   (((((((PF.nil.set 1 (.bGQ f.cells)).set 5 (w')).set 6 (.bGI)).set 7 (.bGI)).set 8 (.bool c)).set 15 (.int .i64 (i+1:Nat))):PF).le F' →
   dQ (fun s:Nat × PV × PH=>((((((PF.nil.set 1 (.bGQ f.cells)).set 5 (s.2.1)).set 6 (.bGI)).set 7 (.bGI)).set 8 (.bool (b&&(bIN s.1).all ok))).set 15 (.int .i64 s.1))) (fun s=>s.2.2) (fun s=>s.1≤n∧fZ s.2.2 s.2.1 (fV f) (kX f) (b&&(bIN s.1).all ok) s.1) (fun s=>n-s.1) (n-i) K .normal F' H' :=
  fun c w' F' H' hlt hb hG' hF'=>aC (i+1,w',H') ⟨hlt,hG'.amF⟩ (by simp only; omega) (by simp only; rw[hb]; exact hF') PH.le_refl
 have bGP:=pW (p:=ok) i b
 have hacc:=fun h=>pV (p:=ok) (b:=b) hi h
 have stop:(b&&(bIN i).all ok)=(b&&(bIN n).all ok)→K (.exit 6) (((((PF.nil.set 1 (.bGQ f.cells)).set 6 (.bGI)).set 7 (.bGI)).set 8 (.bool (b&&(bIN i).all ok)))) H0:=fun e=>by
  rw[e]; exact hK H0
 generalize hc:(b&&(bIN i).all ok)=c at *
 simp only[go_sem,δ,γ,θ,wO,aiT,bIM]
 by_cases hlt:i<n
 ·have bGO:((i:Nat):Int)<(f.bGG.length:Nat):=by omega
  cases c with
  | false =>
   simp only[go_sem,γ,bGO]
   exact Up.up Lq (stop (hacc rfl).symm)
  | true =>
   obtain⟨names,g1,g3⟩:=hG.ex
   have hid:i<f.bGG.length:=by omega
   have hat:=kC hid
   have hin:i<(kX f).length:=by omega
   have hnm:(kX f)[i]=(f.bGG[i]).name:=by simp[kX]
   have hoki:ok i=(iJ (fV f++(kX f).take i) ((kX f).getD i [])&&aAC f f.bGG[i]):=by
    rw[← hok]
    unfold okL tL
    rw[bIZ hid]
   rw[hoki] at bGP
   unfold aAC at bGP
   have winc:IntKind.i64.wrap ((i:Int)+1)=((i+1:Nat):Int):=cS Om
   have e1:=ahU (Om:f.bGH.length≤1000)
   have e2:=ahU (Om:f.bGK.length≤1000)
   simp only[go_sem,δ,γ,θ,bGO,aiU,hat]
   refine aO fun o ho=>?_
   have g4:=g1.new ho (.rows 3 [(f.bGG[i]).cells])
   have g5:=g4.at 0 rfl
   simp only[go_sem,δ,γ]
   generalize H0.set o (.rows 3 [(f.bGG[i]).cells])=H2 at *
   simp only[go_sem,δ,γ,θ,aiV,g5]
   refine fZ.call L.tooO (base:=fV f) (ns:=kX f) g4 Om Om (g3 rfl) hin (by simp only[go_sem,γ,hnm]) fun w' H1 h1 hG1=>?_
   have g6:=h1.at 0 rfl
   generalize iJ (fV f++(kX f).take i) ((kX f).getD i [])=fb at *
   generalize hd:f.bGG[i]=dd at *
   cases fb with
   | false =>
    simp only[go_sem,γ,reduceCtorEq,KC,sI,winc]
    exact fin false w' _ _ hlt (bGP.trans rfl) hG1 Lq
   | true =>
    simp only[go_sem,δ,γ,θ,KC,g6,bIM,e1]
    refine aA (L.inn dd.model 0 ((f.bGH.length:Int)-1)) rfl ?_
    cases k0:within dd.model 0 ((f.bGH.length:Int)-1) with
    | false =>
     simp only[go_sem,γ,reduceCtorEq,sI,winc]
     exact fin false w' _ _ hlt (by rw[bGP,k0]<;>simp) hG1 Lq
    | true =>
     simp only[go_sem,δ,γ,θ,g6,bIM,e2]
     refine aA (L.inn dd.machine 0 ((f.bGK.length:Int)-1)) rfl ?_
     cases k1:within dd.machine 0 ((f.bGK.length:Int)-1) with
     | false =>
      simp only[go_sem,γ,reduceCtorEq,sI,winc]
      exact fin false w' _ _ hlt (by rw[bGP,k0,k1]<;>simp) hG1 Lq
     | true =>
      obtain⟨p0,p1⟩:=within_iff.1 k1
      obtain⟨p,hp⟩:∃ p:Nat,dd.machine=p:=⟨dd.machine.toNat,by omega⟩
      have hpd:p<f.bGK.length:=by omega
      obtain⟨lv,hlv⟩:∃ lv,(f.bGK.map cG.level).getD dd.machine.toNat 0=lv:=⟨_,rfl⟩
      have hpl:(f.bGK[p]).level=lv:=by rw[← hlv,hp,Int.toNat_natCast,getD_at hpd]
      rw[hlv] at bGP
      have hpat:=eI hpd
      simp only[go_sem,δ,γ,θ,g6,hp,hpat,hpl,sI,winc]
      exact fin _ w' _ _ hlt (by rw[bGP,k0,k1]<;>simp) hG1 Lq
 ·have bGO:¬ ((i:Nat):Int)<(f.bGG.length:Nat):=by omega
  have:i=n:=by omega
  subst this
  simp only[go_sem,γ,reduceCtorEq,bGO]
  exact Up.up Lq (stop hc.symm)
theorem WE {xs:List Int} {k:Nat} (h:k<xs.length):(xs.map fun x=>[PV.int .i64 x])[k]?=some [.int .i64 xs[k]]:=by simp[h]
def zpF (f:aE) (w:PV) (o i:Nat) (c:Bool) (j:Nat):PF:=(((((((PF.nil.set 1 (.bGQ f.cells)).set 6 (w)).set 7 (.bGI)).set 8 (.bool c)).set 17 (.int .i64 i)).set 18 (.ptr o 17 0 0)).set 19 (.int .i64 j))
theorem bpC {C:Ctx} (f:aE) (w:PV) (o i:Nat) (p:cF) (hl:p.bGH.length≤9223372036854775807) (j:Nat) (hj:j<p.bGH.length) (b:Bool) (K:bX) [Up K] (F:PF) (H:PH) (ho:H o=some (.rows 17 [p.cells])) (hF:((zpF f w o i b j).set 20 (.int .i64 0)).le F)
  (hK:K (.exit 12) (zpF f w o i (b&&(p.bGH.take j).all fun x=>x != p.bGH[j]) j) H):aB.wp C (.loop JV) K F H:=by
 refine wp_loop (α:=Nat) (fun k=>(zpF f w o i (b&&(p.bGH.take k).all fun x=>x != p.bGH[j]) j).set 20 (.int .i64 k)) (fun _=>H) (fun k=>k≤j) (fun k=>j-k) 0 (bIT _) (by
   have e:(b&&(p.bGH.take 0).all fun x=>x != p.bGH[j])=b:=by cases b<;>rfl
   simp only[e]
   exact hF) PH.le_refl ?_
 intro k hk
 have hs:∀ h:k<p.bGH.length,(b&&(p.bGH.take (k+1)).all fun x=>x != p.bGH[j])=((b&&(p.bGH.take k).all fun x=>x != p.bGH[j])&&(p.bGH[k] != p.bGH[j])):=fun h=>by
  rw[bKM h,List.all_append]
  simp[bLE]
 have fin:∀ (c:Bool) (F':PF),k<j→(b&&(p.bGH.take (k+1)).all fun x=>x != p.bGH[j])=c→((zpF f w o i c j).set 20 (.int .i64 (k+1:Nat))).le F'→dQ (fun k:Nat=>(zpF f w o i (b&&(p.bGH.take k).all fun x=>x != p.bGH[j]) j).set 20 (.int .i64 k)) (fun _=>H) (fun k=>k≤j) (fun k=>j-k) (j-k) K .normal F' H :=
  fun c F' hlt e h=>aC (k+1) hlt Om (by rw[e]; exact h) PH.le_refl
 unfold zpF at fin
 simp only[go_sem,γ,JV,ajC,zpF]
 by_cases hlt:k<j
 ·have bGO:(k:Int)<(j:Nat):=by omega
  have hk2:k<p.bGH.length:=by omega
  have hs:=hs hk2
  generalize (b&&(p.bGH.take k).all fun x=>x != p.bGH[j])=c at *
  simp only[go_sem,bGO]
  refine bK .nil dC PH.nil_le ?_
  cases c with
  | false =>
   simp only[go_sem,γ,reduceCtorEq,KF,KG,ws k]
   exact fin false _ hlt (hs.trans rfl) Lq
  | true =>
   simp only[go_sem,δ,γ,θ,reduceCtorEq,KF,ho,WE hk2,WE hj,KG,ws k]
   exact fin _ _ hlt (hs.trans rfl) Lq
 ·have bGO:¬ (k:Int)<(j:Nat):=by omega
  have:k=j:=by omega
  subst this
  simp only[go_sem,bGO]
  exact Up.up (by (repeat' (first|exact PF.nil_le|refine PF.aF ?_ ?_))<;>first|(simp only[go_sem,γ,zpF]<;>rfl)|rfl) hK
def XT (bGH:Nat) (ms:List Int) (j:Nat):Bool:=within (ms.getD j 0) 0 ((bGH:Int)-1)&&(ms.take j).all fun x=>x != ms.getD j 0
theorem biD {C:Ctx} (L:qK C) (f:aE) (hz2:f.bGH.length≤4) (w:PV) (o i:Nat) (p:cF) (hl:p.bGH.length≤9223372036854775807) (b:Bool) (K:bX) [Up K] (F:PF) (H:PH) (ho:H o=some (.rows 17 [p.cells])) (hF:(zpF f w o i b 0).le F)
  (hK:K (.exit 10) ((((((PF.nil.set 1 (.bGQ f.cells)).set 6 (w)).set 7 (.bGI)).set 8 (.bool (b&&(bIN p.bGH.length).all (XT f.bGH.length p.bGH)))).set 17 (.int .i64 i))) H):aB.wp C (.loop wP) K F H:=by
 obtain⟨ok,hok⟩:∃ ok,XT f.bGH.length p.bGH=ok:=⟨_,rfl⟩
 rw[hok] at hK
 refine wp_loop (α:=Nat) (fun j=>zpF f w o i (b&&(bIN j).all ok) j) (fun _=>H) (fun j=>j≤p.bGH.length) (fun j=>p.bGH.length-j) 0 (bIT _) (by
   have e:(b&&(bIN 0).all ok)=b:=by cases b<;>rfl
   simp only[e]
   exact hF) PH.le_refl ?_
 intro j hj
 have bGP:=pW (p:=ok) j b
 have hacc:=fun h=>pV (p:=ok) (b:=b) hj h
 have fin:∀ (c:Bool) (F':PF),j<p.bGH.length→(b&&(bIN (j+1)).all ok)=c→(zpF f w o i c (j+1)).le F'→dQ (fun j:Nat=>zpF f w o i (b&&(bIN j).all ok) j) (fun _=>H) (fun j=>j≤p.bGH.length) (fun j=>p.bGH.length-j) (p.bGH.length-j) K .normal F' H :=
  fun c F' hlt e h=>aC (j+1) hlt Om (by rw[e]; exact h) PH.le_refl
 unfold zpF at fin
 have stop:(b&&(bIN j).all ok)=(b&&(bIN p.bGH.length).all ok)→K (.exit 10) ((((((PF.nil.set 1 (.bGQ f.cells)).set 6 (w)).set 7 (.bGI)).set 8 (.bool (b&&(bIN j).all ok))).set 17 (.int .i64 i))) H:=fun e=>by
  rw[e]; exact hK
 generalize hc:(b&&(bIN j).all ok)=c at *
 simp only[go_sem,δ,γ,θ,wP,aiZ,zpF,ho,bIM]
 by_cases hlt:j<p.bGH.length
 ·have bGO:(j:Int)<(p.bGH.length:Nat):=by omega
  cases c with
  | false =>
   simp only[go_sem,γ,bGO]
   exact Up.up Lq (stop (hacc rfl).symm)
  | true =>
   have e1:=ahU (Om:f.bGH.length≤1000)
   have hg:p.bGH.getD j 0=p.bGH[j]:=by simp[bJE,hlt]
   have hoj:ok j=(within p.bGH[j] 0 ((f.bGH.length:Int)-1)&&(p.bGH.take j).all fun x=>x != p.bGH[j]):=by
    rw[← hok]
    unfold XT
    rw[hg]
   rw[hoj] at bGP
   simp only[go_sem,γ,bGO]
   refine bK .nil a4M PH.nil_le ?_
   simp only[go_sem,δ,γ,θ,reduceCtorEq,ajA,ho,WE hlt,bIM,e1]
   refine bC rfl (L.inn p.bGH[j] 0 ((f.bGH.length:Int)-1)) Sq PH.nil_le ?_
   simp only[go_sem,γ,ajB]
   refine bpC f w o i p hl j hlt (within p.bGH[j] 0 ((f.bGH.length:Int)-1)) _ _ _ ho (by (repeat' (first|exact PF.nil_le|refine PF.aF ?_ ?_))<;>first|(simp only[go_sem,γ,zpF]<;>rfl)|rfl) ?_
   simp only[go_sem,γ,zpF,ajD,ws j]
   exact fin _ _ hlt (bGP.trans rfl) Lq
 ·have bGO:¬ (j:Int)<(p.bGH.length:Nat):=by omega
  have:j=p.bGH.length:=by omega
  subst this
  simp only[go_sem,γ,reduceCtorEq,bGO]
  exact Up.up Lq (stop hc.symm)
def aIJ (bGH:Nat) (p:cF):Bool:=HF p.k p.m p.bHM p.s0 p.s1 p.s2 p.s3 p.s4&&(LM p.m p.repair p.target p.bGU&&(decide (p.bGH.length>0)&&(bIN p.bGH.length).all (XT bGH p.bGH)))
theorem bsY (bGH:Nat) (p:cF):jY bGH p=aIJ bGH p:=by
 unfold jY aIJ
 rw[bsU,bvJ]
 have h1:decide (p.bGH.length≠0)=decide (p.bGH.length>0):=decide_eq_decide.2 Om
 have h2:(bIN p.bGH.length).all (fun j=>within (p.bGH.getD j 0) 0 ((bGH:Int)-1)&&!(p.bGH.take j).contains (p.bGH.getD j 0))=(bIN p.bGH.length).all (XT bGH p.bGH):=by
  congr 1
  funext j
  unfold XT
  congr 1
  generalize p.bGH.getD j 0=x
  induction p.bGH.take j with
  | nil=>rfl
  | cons a t ih =>
   rw[List.contains_cons,List.all_cons,← ih,Bool.not_or,bne,BEq.comm]
 rw[h1,h2]
 cases HF p.k p.m p.bHM p.s0 p.s1 p.s2 p.s3 p.s4<;>cases LM p.m p.repair p.target p.bGU<;>cases decide (p.bGH.length>0)<;>simp
structure ajL (C:Ctx):Prop extends qK C where
 dur:∀ (m:Int) (rep:List RF),gS rep→∀ t h:RF,t.Ok→h.Ok→aH C 69 [.int .i64 m,frs rep,.agg t.cells,.agg h.cells] .nil (aD (.bool (LM m rep t h)))
def jX (f:aE):List (List UInt8):=f.bGL.map cF.name
def HK (f:aE) (i:Nat):Bool:=match f.bGL[i]? with
 | some p=>aIJ f.bGH.length p
 | none=>false
def adO (f:aE):Bool:=(bIN f.bGL.length).all (okL [] (jX f) (HK f))
theorem buV {C:Ctx} (L:ajL C) (f:aE) (hf:f.Ok) (hz5:f.bGL.length≤4) (hz2:f.bGH.length≤4) (b:Bool) (K:bX) [Up K] (F:PF) (H:PH)
  (hF:((((((PF.nil.set 1 (.bGQ f.cells)).set 6 (.bGI)).set 7 (.bGI)).set 8 (.bool b)).set 17 (.int .i64 0)):PF).le F)
  (hK:∀ H',K (.exit 8) ((((PF.nil.set 1 (.bGQ f.cells)).set 7 (.bGI)).set 8 (.bool (b&&adO f)))) H'):aB.wp C (.loop wQ) K F H:=by
 obtain⟨ok,hok⟩:∃ ok,okL [] (jX f) (HK f)=ok:=⟨_,rfl⟩
 unfold adO at hK
 rw[hok] at hK
 have hnl:(jX f).length=f.bGL.length:=by simp[jX]
 refine wp_loop (α:=Nat × PV × PH) (fun s=>(((((PF.nil.set 1 (.bGQ f.cells)).set 6 (s.2.1)).set 7 (.bGI)).set 8 (.bool (b&&(bIN s.1).all ok))).set 17 (.int .i64 s.1))) (fun s=>s.2.2) (fun s=>s.1≤f.bGL.length∧fZ s.2.2 s.2.1 [] (jX f) (b&&(bIN s.1).all ok) s.1) (fun s=>f.bGL.length-s.1)
  (0,.bGI,H) ⟨bIT _,⟨[],aT.nil.qD 1,fun _=>rfl⟩⟩ (by
   have e:(b&&(bIN 0).all ok)=b:=by cases b<;>rfl
   simp only[e]
   exact hF) PH.le_refl ?_
 rintro⟨i,w,H0⟩ ⟨hi,hG⟩
 simp only at hi hG ⊢
 have fin:∀ (c:Bool) (w':PV) (F':PF) (H':PH),i<f.bGL.length→(b&&(bIN (i+1)).all ok)=c→fZ H' w' [] (jX f) true (i+1) →
   ((((((PF.nil.set 1 (.bGQ f.cells)).set 6 (w')).set 7 (.bGI)).set 8 (.bool c)).set 17 (.int .i64 (i+1:Nat))):PF).le F' →
   dQ (fun s:Nat × PV × PH=>(((((PF.nil.set 1 (.bGQ f.cells)).set 6 (s.2.1)).set 7 (.bGI)).set 8 (.bool (b&&(bIN s.1).all ok))).set 17 (.int .i64 s.1))) (fun s=>s.2.2) (fun s=>s.1≤f.bGL.length∧fZ s.2.2 s.2.1 [] (jX f) (b&&(bIN s.1).all ok) s.1) (fun s=>f.bGL.length-s.1) (f.bGL.length-i) K .normal F' H' :=
  fun c w' F' H' hlt hb hG' hF'=>aC (i+1,w',H') ⟨hlt,hG'.amF⟩ (by simp only; omega) (by simp only; rw[hb]; exact hF') PH.le_refl
 have bGP:=pW (p:=ok) i b
 have hacc:=fun h=>pV (p:=ok) (b:=b) hi h
 have stop:(b&&(bIN i).all ok)=(b&&(bIN f.bGL.length).all ok)→K (.exit 8) ((((PF.nil.set 1 (.bGQ f.cells)).set 7 (.bGI)).set 8 (.bool (b&&(bIN i).all ok)))) H0:=fun e=>by
  rw[e]; exact hK H0
 generalize hc:(b&&(bIN i).all ok)=c at *
 simp only[go_sem,δ,γ,θ,wQ,aiW,bIM]
 by_cases hlt:i<f.bGL.length
 ·have bGO:(i:Int)<(f.bGL.length:Nat):=by omega
  cases c with
  | false =>
   simp only[go_sem,γ,bGO]
   exact Up.up Lq (stop (hacc rfl).symm)
  | true =>
   obtain⟨names,g1,g3⟩:=hG.ex
   have hat:=pO hlt
   have hin:i<(jX f).length:=by omega
   have hnm:(jX f)[i]=(f.bGL[i]).name:=by simp[jX]
   have hoki:ok i=(iJ ([]++(jX f).take i) ((jX f).getD i [])&&aIJ f.bGH.length f.bGL[i]):=by
    rw[← hok]
    unfold okL HK
    rw[bIZ hlt]
   have hpo:=hf.bGW _ (bIS hlt)
   rw[hoki] at bGP
   unfold aIJ at bGP
   have winc:IntKind.i64.wrap ((i:Int)+1)=((i+1:Nat):Int):=cS Om
   simp only[go_sem,δ,γ,θ,bGO,aiX,hat]
   refine aO fun o ho=>?_
   have g4:=g1.new ho (.rows 17 [(f.bGL[i]).cells])
   have g5:=g4.at 0 rfl
   simp only[go_sem,δ,γ]
   generalize H0.set o (.rows 17 [(f.bGL[i]).cells])=H2 at *
   simp only[go_sem,δ,γ,θ,aiY,g5]
   refine fZ.call L.tooO (ns:=jX f) g4 (bIT _) Om (g3 rfl) hin (by simp only[go_sem,γ,hnm]) fun w' H1 h1 hG1=>?_
   have g6:=h1.at 0 rfl
   generalize iJ ([]++(jX f).take i) ((jX f).getD i [])=fb at *
   generalize hd:f.bGL[i]=p at *
   have rest:∀ (c:Bool) (F':PF),(zpF f w' o i c 0).le F'→(c&&(bIN p.bGH.length).all (XT f.bGH.length p.bGH))=(b&&(bIN (i+1)).all ok) →
     aB.wp C (.loop wP) (dJ 10 (dJ 9 (hC C (aB.wp C (.region KH)) (dQ (fun s:Nat × PV × PH=>(((((PF.nil.set 1 (.bGQ f.cells)).set 6 (s.2.1)).set 7 (.bGI)).set 8 (.bool (b&&(bIN s.1).all ok))).set 17 (.int .i64 s.1))) (fun s=>s.2.2) (fun s=>s.1≤f.bGL.length∧fZ s.2.2 s.2.1 [] (jX f) (b&&(bIN s.1).all ok) s.1) (fun s=>f.bGL.length-s.1) (f.bGL.length-i) K)))) F' H1:=by
    intro c F' hF' hcc
    refine biD L.toqK f hz2 w' o i p hpo.bGH c _ _ _ g6 hF' ?_
    rw[hcc]
    simp only[go_sem,γ,KH,winc]
    exact fin _ w' _ _ hlt rfl hG1 Lq
   cases fb with
   | false =>
    simp only[go_sem,γ,reduceCtorEq,KE,sJ]
    exact rest false _ (by (repeat' (first|exact PF.nil_le|refine PF.aF ?_ ?_))<;>first|(simp only[go_sem,γ,zpF]<;>rfl)|rfl) (by rw[bGP]; rfl)
   | true =>
    simp only[go_sem,δ,γ,θ,KE,g6]
    refine aA (L.nums p.k p.m p.bHM p.s0 p.s1 p.s2 p.s3 p.s4) Sq ?_
    cases k0:HF p.k p.m p.bHM p.s0 p.s1 p.s2 p.s3 p.s4 with
    | false =>
     simp only[go_sem,γ,reduceCtorEq,sJ]
     exact rest false _ (by (repeat' (first|exact PF.nil_le|refine PF.aF ?_ ?_))<;>first|(simp only[go_sem,γ,zpF]<;>rfl)|rfl) (by rw[bGP,k0]; rfl)
    | true =>
     simp only[go_sem,δ,γ,θ,g6]
     refine aA (L.dur p.m p.repair hpo.repair p.target p.bGU hpo.target hpo.bGU) Sq ?_
     cases k1:LM p.m p.repair p.target p.bGU with
     | false =>
      simp only[go_sem,γ,reduceCtorEq,sJ]
      exact rest false _ (by (repeat' (first|exact PF.nil_le|refine PF.aF ?_ ?_))<;>first|(simp only[go_sem,γ,zpF]<;>rfl)|rfl) (by rw[bGP,k0,k1]; rfl)
     | true =>
      have hgt:decide (((p.bGH.length:Nat):Int)>0)=decide (p.bGH.length>0):=decide_eq_decide.2 Om
      simp only[go_sem,δ,γ,θ,g6,bIM,hgt,sJ]
      exact rest _ _ (by (repeat' (first|exact PF.nil_le|refine PF.aF ?_ ?_))<;>first|(simp only[go_sem,γ,zpF]<;>rfl)|rfl) (by rw[bGP,k0,k1]; rfl)
 ·have bGO:¬ (i:Int)<(f.bGL.length:Nat):=by omega
  have:i=f.bGL.length:=by omega
  subst this
  simp only[go_sem,γ,reduceCtorEq,bGO]
  exact Up.up Lq (stop hc.symm)
def pD (r:cG):Bool:=(r.name==[])&&((r.level==0)&&((r.parent==-1)&&((r.bHI==0)&&(cK (val r.bHA.num) (val r.bHA.den)&&(pU r.bHA==0)))))
def a7U (f:aE):Bool:=match f.bGK with
 | []=>false
 | r::_=>pD r
def bmN (f:aE):Bool:=within f.bHW 1 4&&(oL f.bGR.length f.bGH.length f.bGK.length f.bGG.length f.bGL.length f.bGJ.length&&(decide (0<f.bGK.length)&&((((((FT f&&xA f)&&a7U f)&&vJ f)&&wT f)&&adO f)&&ayS f)))
theorem aSM (n:Nat) (p q:Nat→Bool):(bIN n).all (fun i=>p i&&q i)=((bIN n).all p&&(bIN n).all q):=by
 induction n with
 | zero=>rfl
 | succ n ih =>
  simp only[List.range_succ,List.all_append,ih,List.all_cons,List.all_nil,bKZ]
  cases (bIN n).all p<;>cases (bIN n).all q<;>cases p n<;>simp
theorem xI {α:Type} (l:List α) (p:α→Bool):(bIN l.length).all (fun i=>(l.map p).getD i false)=l.all p:=by
 refine Bool.eq_iff_iff.2 ?_
 rw[bJL,bJL]
 constructor
 ·intro h x hx
  obtain⟨i,hi,rfl⟩:=bLL hx
  have:=h i (bKR.2 hi)
  simpa [bJE,hi] using this
 ·intro h i hi
  have hi:=bKR.1 hi
  simp[bJE,hi,h _ (bIS hi)]
theorem DX (ns:List (List UInt8)) (n:Nat) (hn:ns.length=n) (P:Nat→Bool):(bIN n).all (okL [] ns P)=(distinct ns&&(bIN n).all P):=by
 subst hn
 have:okL [] ns P=fun i=>(isName (ns.getD i [])&&!(ns.take i).contains (ns.getD i []))&&P i:=by
  funext i
  rfl
 rw[this,aSM]
 rfl
theorem bsV (base ns:List (List UInt8)) (P Q:Nat→Bool):((bIN base.length).all (okL [] base P)&&(bIN ns.length).all (okL base ns Q))=(distinct (base++ns)&&((bIN base.length).all P&&(bIN ns.length).all Q)):=by
 have e1:okL base ns Q=fun i=>(isName (ns.getD i [])&&!(base++ns.take i).contains (ns.getD i []))&&Q i:=by
  funext i
  rfl
 have e2:distinct (base++ns)=(distinct base&&(bIN ns.length).all fun i=>isName (ns.getD i [])&&!(base++ns.take i).contains (ns.getD i [])):=by
  unfold distinct
  rw[bIQ,List.range_add,List.all_append,List.all_map]
  congr 1
  ·refine Bool.eq_iff_iff.2 ?_
   rw[bJL,bJL]
   refine forall_congr' fun i=>forall_congr' fun hi=>?_
   have hi:=bKR.1 hi
   have a1:(base++ns).getD i []=base.getD i []:=by
    simp only[bJE]
    rw[bLF hi]
   have a2:(base++ns).take i=base.take i:=by rw[List.take_append_of_le_length Om]
   rw[a1,a2]
  ·refine Bool.eq_iff_iff.2 ?_
   rw[bJL,bJL]
   refine forall_congr' fun i=>forall_congr' fun _=>?_
   have a1:(base++ns).getD (base.length+i) []=ns.getD i []:=by
    simp only[bJE]
    rw[bLJ Om]
    congr 2
    omega
   have a2:(base++ns).take (base.length+i)=base++ns.take i:=by rw[List.take_append,bJD Om]; congr 2; omega
   simp only[Function.comp,a1,a2]
 rw[DX base base.length rfl P,e1,aSM,e2]
 cases distinct base<;>cases (bIN base.length).all P<;>simp
theorem bmP (r:cG):(decide (r.name=[])&&decide (r.level=0)&&decide (r.parent=-1)&&decide (r.bHI=0)&&cI r.bHA&&!cB r.bHA)=pD r:=by
 have h1:decide (r.name=[])=(r.name==[]):=by cases r.name<;>rfl
 have h2:decide (r.level=0)=(r.level==0):=by generalize r.level=x; by_cases h:x=0<;>simp[h]
 have h3:decide (r.parent=-1)=(r.parent==-1):=by generalize r.parent=x; by_cases h:x=-1<;>simp[h]
 have h4:decide (r.bHI=0)=(r.bHI==0):=by generalize r.bHI=x; by_cases h:x=0<;>simp[h]
 have h5:(cI r.bHA&&!cB r.bHA)=(cK (val r.bHA.num) (val r.bHA.den)&&(pU r.bHA==0)):=by
  rw[HW]
  by_cases h:val r.bHA.num=0
  ·have ha:cB r.bHA=false:=by unfold cB; simp[h]
   rw[ha]
   simp only[bIY,bKZ]
   cases hv:cK (val r.bHA.num) (val r.bHA.den) with
   | false =>
    unfold cI nJ
    rw[hv]
    rfl
   | true =>
    obtain⟨v1,-,-⟩:=fC.1 hv
    unfold cI nJ
    rw[hv,if_pos rfl,WI hv,h]
    unfold lM
    have hb:val r.bHA.den/bIR 0 (val r.bHA.den)=1:=by rw[Nat.gcd_zero_left,Nat.div_self (bKP v1)]
    have b0:cC (0/bIR 0 (val r.bHA.den))=0:=by rw[Nat.zero_div]; exact jC
    have b1:cC 1=1:=by rw[nZ (by decide),jC]
    simp only[hb,b0,b1]
    simp
  ·have ha:cB r.bHA=true:=by unfold cB; simp[h]
   rw[ha]
   simp
 unfold pD
 rw[h1,h2,h3,h4]
 simp only[bLE] at h5 ⊢
 rw[h5]
theorem bjA (f:aE) {r:cG} {t:List cG} (h:f.bGK=r::t):QQ f r t=(pD r&&(bIN t.length).all (vI f)):=by
 unfold QQ
 rw[bmP]
 congr 2
 funext i
 unfold vI
 rw[h,List.getElem?_cons_succ]
 cases t[i]? with
 | none=>rfl
 | some d=>exact bqB f i d
theorem baN (f:aE):f.bGG.all (iH f)=(bIN f.bGG.length).all (tL f):=by
 have:tL f=fun i=>(f.bGG.map (iH f)).getD i false:=by
  funext i
  unfold tL
  rw[bJE,bJU]
  cases f.bGG[i]? with
  | none=>rfl
  | some d =>
   show aAC f d=iH f d
   unfold aAC iH
   have:decide ((f.bGK.map cG.level).getD d.machine.toNat 0=4)=((f.bGK.map cG.level).getD d.machine.toNat 0==4):=by
    generalize (f.bGK.map cG.level).getD d.machine.toNat 0=u
    by_cases h:u=4<;>simp[h]
   rw[this,bLE]
 rw[this,xI]
theorem beJ (f:aE):f.bGL.all (jY f.bGH.length)=(bIN f.bGL.length).all (HK f):=by
 have:HK f=fun i=>(f.bGL.map (jY f.bGH.length)).getD i false:=by
  funext i
  unfold HK
  rw[bJE,bJU]
  cases f.bGL[i]? with
  | none=>rfl
  | some d=>exact (bsY _ d).symm
 rw[this,xI]
theorem btE (f:aE):bmN f=cU f:=by
 have hm:akR f.bGR.length=jQ f:=by
  funext m
  unfold akR jQ
  rw[bLE]
 have hvv:aOC f.bGL.length=nK f:=rfl
 have hs:(within f.bHW 1 4&&oL f.bGR.length f.bGH.length f.bGK.length f.bGG.length f.bGL.length f.bGJ.length)=nA f:=by
  unfold nA oL
  simp only[bLE]
 unfold bmN cU FT xA adO ayS
 rw[DX _ _ (by rw[bIM]),DX _ _ (by rw[bIM]),DX _ _ (by rw[jX,bIM]),DX _ _ (by rw[bIM]),xI,xI,xI,hm,hvv,beJ,baN,← bLE,hs]
 unfold pR a7U
 cases hd:f.bGK with
 | nil=>simp
 | cons r t =>
  have hlen:decide (0<f.bGK.length)=true:=by rw[hd]; simp
  rw[hd] at hlen
  rw[hlen,bJC]
  simp only
  rw[bjA f hd]
  have hn:fV f=(f.bGK.drop 1).map cG.name:=rfl
  rw[hd] at hn
  have hl:(fV f).length=t.length:=by rw[hn]; simp
  have two:=bsV (fV f) (kX f) (vI f) (tL f)
  rw[hl,show (kX f).length=f.bGG.length by simp[kX]] at two
  have e1:vJ f=(bIN t.length).all (okL [] (fV f) (vI f)):=by
   unfold vJ
   rw[hd]
   rfl
  have e2:wT f=(bIN f.bGG.length).all (okL (fV f) (kX f) (tL f)):=rfl
  rw[e1,e2,← hn]
  rw[show f.bGG.map dD.name=kX f from rfl,show f.bGL.map cF.name=jX f from rfl]
  generalize (bIN t.length).all (okL [] (fV f) (vI f))=a at *
  generalize (bIN f.bGG.length).all (okL (fV f) (kX f) (tL f))=b at *
  generalize distinct (fV f++kX f)=c at *
  generalize (bIN t.length).all (vI f)=d at *
  generalize (bIN f.bGG.length).all (tL f)=e at *
  generalize nA f=s
  generalize pD r=ro
  generalize distinct (f.bGR.map bZ.name)=n1
  generalize f.bGR.all kY=n2
  generalize distinct (f.bGH.map cH.name)=n3
  generalize f.bGH.all (jQ f)=n4
  generalize distinct (jX f)=n5
  generalize (bIN f.bGL.length).all (HK f)=n6
  generalize distinct (f.bGJ.map eF.name)=n7
  generalize f.bGJ.all (nK f)=n8
  have:(s&&(((((((n1&&n2)&&(n3&&n4))&&ro)&&a)&&b)&&(n5&&n6))&&(n7&&n8)))=(s&&(ro&&((n1&&n2)&&((n3&&n4)&&((a&&b)&&((n5&&n6)&&(n7&&n8))))))):=by
   cases s<;>cases ro<;>cases n1<;>cases n2<;>cases n3<;>cases n4<;>simp[bLE]
  rw[this,two]
  cases s<;>cases ro<;>cases n1<;>cases n2<;>cases n3<;>cases n4<;>cases c<;>cases d<;>cases e<;>simp
  cases n5<;>cases n6<;>cases n7<;>cases n8<;>rfl
theorem bmO (f:aE) (h:0<f.bGK.length):a7U f=pD f.bGK[0]:=by
 obtain⟨a,b,c,d,e,g,i⟩:=f
 cases d with
 | nil=>simp at h
 | cons r t=>rfl
theorem biK {C:Ctx} (L:ajL C) (f:aE) (hf:f.Ok):DI.wp C (aR aiK.res (aD (.bool (cU f)))) (PF.args [.agg f.cells]) .nil:=by
 have hX:=btE f
 unfold bmN at hX
 have fail:∀ (F:PF) (H:PH),cU f=false→F 2=some (.bool false)→aR [.tmp 2] (aD (.bool (cU f))) .ret F H:=fun F H e h=>by
  rw[e]
  exact aV (vs:=[.bool false]) (.inr rfl) .nil (by simp only[go_sem,h]) PH.nil_le ⟨rfl,rfl⟩
 simp only[go_sem,δ,γ,θ,DI,awO,awP,aiK]
 refine aA (L.inn f.bHW 1 4) rfl ?_
 cases k0:within f.bHW 1 4 with
 | false =>
  rw[k0,bIV] at hX
  simp only[go_sem,γ,bIY,AK]
  exact fail _ _ hX.symm rfl
 | true =>
 rw[k0,bJC] at hX
 simp only[go_sem,δ,γ,θ,bIO,bIM]
 refine aA (L.sizes f.bGR.length f.bGH.length f.bGK.length f.bGG.length f.bGL.length f.bGJ.length) rfl ?_
 cases k1:oL f.bGR.length f.bGH.length f.bGK.length f.bGG.length f.bGL.length f.bGJ.length with
 | false =>
  rw[k1,bIV] at hX
  simp only[go_sem,γ,reduceCtorEq,bIY,AK]
  exact fail _ _ hX.symm rfl
 | true =>
 rw[k1,bJC] at hX
 obtain⟨hz1,hz2,hz3,hz4,hz5,hz6⟩:=OG k1
 by_cases h0:f.bGK.length=0
 ·rw[decide_eq_false Om,bIV] at hX
  simp only[go_sem,δ,γ,θ,reduceCtorEq,bIO,bIM,bO (Om:((f.bGK.length:Nat):Int)=0),AK]
  exact fail _ _ hX.symm rfl
 have h00:0<f.bGK.length:=by omega
 rw[decide_eq_true h00,bJC] at hX
 simp only[go_sem,δ,γ,θ,reduceCtorEq,bIO,bIM,bF (Om:((f.bGK.length:Nat):Int)≠0),awQ,awR,awS]
 refine buU L.toqK f hf hz1 _ _ _ Lq fun H1=>?_
 simp only[go_sem,aiL]
 refine biJ L.toqK f hf k1 (FT f) _ _ _ Lq fun H2=>?_
 have hd0:=eI h00
 have hsh:=(hf.dom _ (bIS h00)).1
 have hrp:=bmO f h00
 rw[hrp] at hX
 generalize f.bGK[0]=r at *
 have rest:∀ (c:Bool) (F:PF) (H:PH),((((((PF.nil.set 1 (.bGQ f.cells)).set 5 (.bGI)).set 6 (.bGI)).set 7 (.bGI)).set 8 (.bool c)):PF).le F→c=((FT f&&xA f)&&pD r) →
   aB.wp C (.seq (.seq (.region JY) (.block 4 (.loop wN))) (.seq (.seq (.region KB) (.block 6 (.loop wO))) (.seq (.seq (.region KD) (.block 8 (.loop wQ))) (.seq (.seq (.region KI) (.block 14 (.loop wR))) (.seq (.region KL) .ret))))) (aR [.tmp 2] (aD (.bool (cU f)))) F H:=by
  intro c F H hF hc
  refine sG _ (fun _ _ _ _ a b=>Up.up a b) hF ?_
  simp only[go_sem,JY]
  refine buT L.toqK f hf hz3 h00 c _ _ _ Lq fun w H3 hG=>?_
  simp only[go_sem,KB]
  refine biI L.toqK f hf hz3 h00 hz4 hz2 (c&&vJ f) w _ _ _ hG Lq fun H4=>?_
  simp only[go_sem,KD]
  refine buV L f hf hz5 hz2 ((c&&vJ f)&&wT f) _ _ _ Lq fun H5=>?_
  simp only[go_sem,KI]
  refine buW L.toqK f hf k1 (((c&&vJ f)&&wT f)&&adO f) _ _ _ Lq fun H6=>?_
  simp only[go_sem,γ,KL]
  refine aV (vs:=[.bool (cU f)]) (.inr rfl) .nil ?_ PH.nil_le ⟨rfl,rfl⟩
  rw[← hX,hc]
  simp only[go_sem,γ]
 simp only[aB.wp,go_sem] at rest
 simp only[go_sem,ν,δ,γ,θ,aiP,hd0]
 refine aO fun o ho=>?_
 have g0:(H2.set o (.rows 7 [r.cells])) o=some (.rows 7 [r.cells]):=jD ..
 simp only[go_sem,δ,γ]
 generalize H2.set o (.rows 7 [r.cells])=H3 at *
 cases k2:(FT f&&xA f) with
 | false =>
  simp only[go_sem,ο,γ,reduceCtorEq,JX]
  exact rest false _ _ Lq (by rw[k2]; rfl)
 | true =>
  simp only[go_sem,ο,δ,γ,θ,JX,g0]
  cases k3:r.name==[] with
  | false =>
   simp only[go_sem,ο,γ,reduceCtorEq]
   exact rest false _ _ Lq (by rw[k2]; unfold pD; rw[k3]; rfl)
  | true =>
   simp only[go_sem,ο,δ,γ,θ,g0]
   cases k4:r.level==0 with
   | false =>
    simp only[go_sem,ο,γ,reduceCtorEq]
    exact rest false _ _ Lq (by rw[k2]; unfold pD; rw[k3,k4]; rfl)
   | true =>
    simp only[go_sem,ο,δ,γ,θ,g0]
    cases k5:r.parent==-1 with
    | false =>
     simp only[go_sem,γ,reduceCtorEq]
     exact rest false _ _ Lq (by rw[k2]; unfold pD; rw[k3,k4,k5]; rfl)
    | true =>
     simp only[go_sem,δ,γ,θ,g0]
     cases k6:r.bHI==0 with
     | false =>
      simp only[go_sem,γ,reduceCtorEq]
      exact rest false _ _ Lq (by rw[k2]; unfold pD; rw[k3,k4,k5,k6]; rfl)
     | true =>
      simp only[go_sem,δ,γ,g0]
      refine aA (L.valid _ hsh) rfl ?_
      cases k7:cK (val r.bHA.num) (val r.bHA.den) with
      | false =>
       simp only[go_sem,γ,reduceCtorEq]
       exact rest false _ _ Lq (by rw[k2]; unfold pD; rw[k3,k4,k5,k6,k7]; rfl)
      | true =>
       simp only[go_sem,δ,γ,g0]
       refine aA (L.sign _ hsh k7) rfl ?_
       simp only[go_sem,γ]
       exact rest _ _ _ Lq (by rw[k2]; unfold pD; rw[k3,k4,k5,k6,k7]; rfl)
def aJJ:Rg:=[iA 2 (.box true (Tm 0)),iZ 4]
def aJK:Rg:=[iO 8 7 2,iK 9 67 8,iA 10 (.un .not (Tm 9))]
def aJL:Rg:=[iZ 4]
def aJM:Rg:=[iZ 5]
def aJN:Rg:=[iI 6 0]
def aJO:Rg:=[iM 11 6,iF 12 4 2,iL 13 12,iN 14 13,iB 15 .lss 11 14]
def aJP:Rd:=[(iF 18 2 2,false),(iL 19 18,false),(iF 20 4 2,false),(iL 21 20,false),(iM 22 6,false),(iX 23 3 21 22,false),(iF 24 1 23,false),(iL 25 24,false),(iX 26 4 19 25,false),(iF 27 1 26,false),(iL 28 27,false),(iM 7 28,false)]
def YB:Rg:=[iM 29 1,iN 30 29,iF 31 4 2,iL 32 31,iN 33 32,iB 34 .eql 30 33]
def aJQ:Rg:=[iM 35 1,iM 36 6,iX 37 1 35 36,iL 38 37,iM 39 7,iA 40 (.bHJ false (Tm 38) (Tm 39)),iA 41 (.bHJ true (Ci 0) (Tm 40)),iM 7 41]
def YC:Rg:=[iM 42 5,iM 43 7,iA 44 (.bGN true 1 1 [(.int .i64 0)] [(0,(Tm 43))]),iA 45 (.append 1 8 (Tm 42) (Tm 44)),iM 5 45]
def OJ:Rg:=[iM 16 6,iC 17 .add 16 1,iM 6 17]
def arH:aB:=(.seq (sq aJO (.cond (Tm 15) .skip (.exit 0))) (.seq (.block 1 (dq aJP (.seq (sq YB (.cond (Tm 34) (.region aJQ) .skip)) (.region YC)))) (.region OJ)))
def OK:Rg:=[iM 46 5,iM 4 46]
def HY:aB:=(sq aJJ (.seq (sq aJK (.cond (Tm 10) (sq aJL .ret) .skip)) (sq aJM (.seq (sq aJN (.block 0 (.loop arH))) (sq OK .ret)))))
def bnC:List Nat:=[2,44]
def ayB:aS:=⟨2,47,HY,[.tmp 4]⟩
def aqB:Rg:=[iA 3 (.box true (Tm 0)),iI 6 0]
def aqC:Rg:=[iF 8 4 3,iL 9 8,iM 10 1,iX 11 3 9 10,iF 12 2 11,iL 13 12,iM 7 13]
def aqD:Rg:=[iF 14 3 3,iL 15 14,iM 16 7,iX 17 7 15 16,iF 18 1 17,iL 19 18,iM 20 2,iB 21 .gtr 19 20]
def aqE:Rg:=[iF 22 3 3,iL 23 22,iM 24 7,iX 25 7 23 24,iF 26 2 25,iL 27 26,iM 7 27]
def aqA:aB:=(.seq (sq aqD (.cond (Tm 21) .skip (.exit 0))) (.block 1 (.region aqE)))
def aqF:Rg:=[iM 28 7,iM 6 28]
def BQ:aB:=(sq aqB (sq aqC (.seq (.block 0 (.loop aqA)) (sq aqF .ret))))
def beZ:List Nat:=[3]
def adT:aS:=⟨3,29,BQ,[.tmp 6]⟩
def bfA:Rg:=[iA 3 (.box true (Tm 0)),iI 6 0]
def bfB:Rg:=[iO 7 7 3,iK 8 67 7,iA 9 (.un .not (Tm 8)),iM 10 9,gM 11 1 10 false,gC 12 .lss 11 0 10 false,iQ 13 10 12,iM 14 13,gM 15 1 14 false,gF 16 4 3 14 false,gL 17 16 14 false,gN 18 17 14 false,gB 19 .geq 15 18 14 false,iQ 20 14 19,iM 21 20,gM 22 2 21 false,gC 23 .lss 22 0 21 false,iQ 24 21 23,iM 25 24,gM 26 2 25 false,gC 27 .gtr 26 4 25 false,iQ 28 25 27]
def EB:Rg:=[iI 6 (-1)]
def bfC:Rg:=[iO 29 7 3,iM 30 1,iM 31 2,iA 32 (.call 88 [(Tm 29),(Tm 30),(Tm 31)]),iM 6 32]
def XZ:aB:=(sq bfA (.seq (sq bfB (.cond (Tm 28) (sq EB .ret) .skip)) (sq bfC .ret)))
def bwO:List Nat:=[3]
def sat:aS:=⟨3,33,XZ,[.tmp 6]⟩
def adY:Rg:=[iA 2 (.box true (Tm 0)),iZ 4]
def adZ:Rg:=[iZ 5]
def aeA:Rg:=[iO 7 7 2,iK 8 67 7,iA 9 (.un .not (Tm 8)),iM 10 9,gM 11 1 10 false,gC 12 .lss 11 0 10 false,iQ 13 10 12,iM 14 13,gM 15 1 14 false,gF 16 3 2 14 false,gL 17 16 14 false,gN 18 17 14 false,gB 19 .geq 15 18 14 false,iQ 20 14 19]
def wC:Rg:=[iZ 4]
def aeB:Rg:=[iI 6 0]
def aeC:Rg:=[iM 21 6,iF 22 4 2,iL 23 22,iN 24 23,iB 25 .lss 21 24]
def aeD:Rd:=[(iO 28 7 2,false),(iM 29 6,false),(iF 30 3 2,false),(iL 31 30,false),(iM 32 1,false),(iX 33 7 31 32,false),(iF 34 1 33,false),(iL 35 34,false),(iA 36 (.call 88 [(Tm 28),(Tm 29),(Tm 35)]),true),(iM 37 1,true),(iB 38 .eql 36 37,false)]
def aeE:Rg:=[iM 39 5,iM 40 6,iA 41 (.bGN true 1 1 [(.int .i64 0)] [(0,(Tm 40))]),iA 42 (.append 1 8 (Tm 39) (Tm 41)),iM 5 42]
def HS:Rg:=[iM 26 6,iC 27 .add 26 1,iM 6 27]
def adX:aB:=(.seq (sq aeC (.cond (Tm 25) .skip (.exit 0))) (.seq (.block 1 (dq aeD (.cond (Tm 38) (.region aeE) .skip))) (.region HS)))
def TU:Rg:=[iM 43 5,iM 4 43]
def yH:aB:=(sq adY (sq adZ (.seq (sq aeA (.cond (Tm 20) (sq wC .ret) .skip)) (.seq (sq aeB (.block 0 (.loop adX))) (sq TU .ret)))))
def a8B:List Nat:=[2,41]
def RN:aS:=⟨2,44,yH,[.tmp 4]⟩
def aqH:Rg:=[iA 2 (.box true (Tm 0)),iZ 4]
def aqI:Rg:=[iZ 5]
def aqJ:Rg:=[iO 7 7 2,iK 8 67 7,iA 9 (.un .not (Tm 8)),iM 10 9,gM 11 1 10 false,gC 12 .lss 11 0 10 false,iQ 13 10 12]
def OA:Rg:=[iZ 4]
def aqK:Rg:=[iI 6 1]
def aqL:Rg:=[iM 14 6,iF 15 3 2,iL 16 15,iN 17 16,iB 18 .lss 14 17]
def OB:Rg:=[iF 21 3 2,iL 22 21,iM 23 6,iX 24 7 22 23,iF 25 2 24,iL 26 25,iM 27 1,iB 28 .eql 26 27]
def aqM:Rg:=[iM 29 5,iM 30 6,iA 31 (.bGN true 1 1 [(.int .i64 0)] [(0,(Tm 30))]),iA 32 (.append 1 8 (Tm 29) (Tm 31)),iM 5 32]
def OC:Rg:=[iM 19 6,iC 20 .add 19 1,iM 6 20]
def aqG:aB:=(.seq (sq aqL (.cond (Tm 18) .skip (.exit 0))) (.seq (.block 1 (sq OB (.cond (Tm 28) (.region aqM) .skip))) (.region OC)))
def adV:Rg:=[iM 33 5,iM 4 33]
def BS:aB:=(sq aqH (sq aqI (.seq (sq aqJ (.cond (Tm 13) (sq OA .ret) .skip)) (.seq (sq aqK (.block 0 (.loop aqG))) (sq adV .ret)))))
def bfE:List Nat:=[2,31]
def adU:aS:=⟨2,34,BS,[.tmp 4]⟩
def aqX:Rg:=[iA 2 (.box true (Tm 0)),iZ 4]
def aqY:Rg:=[iO 8 7 2,iK 9 67 8,iA 10 (.un .not (Tm 9))]
def aqZ:Rg:=[iZ 4]
def arA:Rg:=[iF 11 4 2,iL 12 11,iN 13 12,iA 14 (.bGS 1 8 [(.int .i64 0)] (Tm 13) (Tm 13)),iM 5 14]
def arB:Rg:=[iI 6 0]
def arC:Rg:=[iM 15 6,iM 16 1,iN 17 16,iB 18 .lss 15 17]
def arD:Rg:=[iI 7 0]
def arE:Rg:=[iM 21 7,iM 22 1,iM 23 6,iX 24 1 22 23,iL 25 24,iN 26 25,iB 27 .lss 21 26]
def zR:Rg:=[iM 30 1,iM 31 6,iX 32 1 30 31,iL 33 32,iM 34 7,iX 35 1 33 34,iL 36 35,iC 37 .geq 36 0,iM 38 37,gM 39 1 38 true,gM 40 6 38 true,iG 41 (.bHD 1 (Tm 39) (Tm 40)) 38 true,gL 42 41 38 true,gM 43 7 38 true,iG 44 (.bHD 1 (Tm 42) (Tm 43)) 38 true,gL 45 44 38 true,gM 46 5 38 true,gN 47 46 38 true,gB 48 .lss 45 47 38 true,iP 49 38 48]
def arF:Rg:=[iM 50 5,iM 51 1,iM 52 6,iX 53 1 51 52,iL 54 53,iM 55 7,iX 56 1 54 55,iL 57 56,iX 58 1 50 57,iL 59 58,iC 60 .add 59 1,iX 61 1 50 57,iS 1 61 60]
def wE:Rg:=[iM 28 7,iC 29 .add 28 1,iM 7 29]
def HX:aB:=(.seq (sq arE (.cond (Tm 27) .skip (.exit 2))) (.seq (.block 3 (sq zR (.cond (Tm 49) (.region arF) .skip))) (.region wE)))
def aeJ:Rg:=[iM 19 6,iC 20 .add 19 1,iM 6 20]
def aeI:aB:=(.seq (sq arC (.cond (Tm 18) .skip (.exit 0))) (.seq (.block 1 (sq arD (.block 2 (.loop HX)))) (.region aeJ)))
def aeK:Rg:=[iM 62 5,iM 4 62]
def BW:aB:=(sq aqX (.seq (sq aqY (.cond (Tm 10) (sq aqZ .ret) .skip)) (sq arA (.seq (sq arB (.block 0 (.loop aeI))) (sq aeK .ret)))))
def bfR:List Nat:=[2]
def aeH:aS:=⟨2,63,BW,[.tmp 4]⟩
def aYK:Rg:=[iA 2 (.box true (Tm 0)),iI 4 0]
def aYL:Rg:=[iI 5 0]
def aYM:Rg:=[iM 6 5,iM 7 1,iN 8 7,iB 9 .lss 6 8]
def RM:Rd:=[(iM 12 1,false),(iM 13 5,false),(iX 14 1 12 13,false),(iL 15 14,false),(iC 16 .lss 15 (-1),false),(iM 17 16,false),(gM 18 1 17 false,false),(gM 19 5 17 false,false),(iG 20 (.bHD 1 (Tm 18) (Tm 19)) 17 false,false),(gL 21 20 17 false,false),(gF 22 4 2 17 false,false),(gL 23 22 17 false,false),(gN 24 23 17 false,false),(gB 25 .geq 21 24 17 false,false),(iQ 26 17 25,false)]
def alR:Rg:=[iM 27 5,iM 4 27]
def aYN:Rg:=[iM 10 5,iC 11 .add 10 1,iM 5 11]
def aYJ:aB:=(.seq (sq aYM (.cond (Tm 9) .skip (.exit 0))) (.seq (.block 1 (dq RM (.cond (Tm 26) (sq alR .ret) .skip))) (.region aYN)))
def aYO:Rg:=[iI 4 (-1)]
def NZ:aB:=(sq aYK (.seq (sq aYL (.block 0 (.loop aYJ))) (sq aYO .ret)))
def btH:List Nat:=[2]
def a7Z:aS:=⟨2,28,NZ,[.tmp 4]⟩
def aeM:Rg:=[iA 2 (.box true (Tm 0)),iT 4 false]
def aeN:Rg:=[iO 6 7 2,iK 7 67 6,iA 8 (.un .not (Tm 7)),iM 9 8,gM 10 1 9 false,gN 11 10 9 false,gF 12 6 2 9 false,gL 13 12 9 false,gN 14 13 9 false,gB 15 .neq 11 14 9 false,iQ 16 9 15]
def IB:Rg:=[iT 4 false]
def aeO:Rg:=[iI 5 0]
def aeP:Rg:=[iM 17 5,iM 18 1,iN 19 18,iB 20 .lss 17 19]
def aeQ:Rd:=[(iM 23 1,true),(iM 24 5,true),(iX 25 1 23 24,true),(iL 26 25,true),(iN 27 26,true),(iO 28 7 2,false),(iM 29 5,false),(iK2 30 82 28 29,true),(iB 31 .neq 27 30,false),(iM 32 31,false),(gO 33 7 2 32 false,false),(gM 34 1 32 false,false),(gM 35 5 32 false,false),(iG 36 (.bHD 1 (Tm 34) (Tm 35)) 32 false,false),(gL 37 36 32 false,false),(gK2 38 89 33 37 32 false,true),(gC 39 .geq 38 0 32 false,false),(iQ 40 32 39,false)]
def IC:Rg:=[iT 4 false]
def aeR:Rg:=[iM 21 5,iC 22 .add 21 1,iM 5 22]
def aeL:aB:=(.seq (sq aeP (.cond (Tm 20) .skip (.exit 0))) (.seq (.block 1 (dq aeQ (.cond (Tm 40) (sq IC .ret) .skip))) (.region aeR)))
def aeS:Rg:=[iT 4 true]
def yK:aB:=(sq aeM (.seq (sq aeN (.cond (Tm 16) (sq IB .ret) .skip)) (.seq (sq aeO (.block 0 (.loop aeL))) (sq aeS .ret))))
def a8I:List Nat:=[2]
def RP:aS:=⟨2,41,yK,[.tmp 4]⟩
def TN:Rg:=[iA 3 (.box true (Tm 0)),iA 4 (.box true (Tm 1)),iT 6 false]
def TO:Rg:=[iI 7 0]
def TP:Rg:=[iM 8 7,iF 9 9 3,iL 10 9,iN 11 10,iB 12 .lss 8 11]
def BR:Rd:=[(iF 15 9 3,false),(iL 16 15,false),(iM 17 7,false),(iX 18 1 16 17,false),(iL 19 18,false),(iF 20 4 4,false),(iL 21 20,false),(iM 22 2,false),(iX 23 3 21 22,false),(iF 24 1 23,false),(iL 25 24,false),(iB 26 .eql 19 25,false)]
def TQ:Rg:=[iT 6 true]
def TR:Rg:=[iM 13 7,iC 14 .add 13 1,iM 7 14]
def TM:aB:=(.seq (sq TP (.cond (Tm 12) .skip (.exit 0))) (.seq (.block 1 (dq BR (.cond (Tm 26) (sq TQ .ret) .skip))) (.region TR)))
def TS:Rg:=[iT 6 false]
def vE:aB:=(sq TN (.seq (sq TO (.block 0 (.loop TM))) (sq TS .ret)))
def aSA:List Nat:=[3,4]
def HR:aS:=⟨3,27,vE,[.tmp 6]⟩
def aqO:Rg:=[iA 3 (.box true (Tm 0)),iI 6 0]
def aqP:Rg:=[iI 7 0]
def aqQ:Rg:=[iI 8 0]
def aqR:Rg:=[iM 9 8,iM 10 1,iN 11 10,iB 12 .lss 9 11]
def OD:Rd:=[(iM 15 1,false),(iM 16 8,false),(iX 17 1 15 16,false),(iL 18 17,false),(iC 19 .geq 18 0,false),(iM 20 19,false),(gO 21 7 3 20 true,false),(gM 22 1 20 true,false),(gM 23 8 20 true,false),(iG 24 (.bHD 1 (Tm 22) (Tm 23)) 20 true,false),(gL 25 24 20 true,false),(gF 26 3 3 20 true,false),(gL 27 26 20 true,false),(gM 28 2 20 true,false),(iG 29 (.bHD 7 (Tm 27) (Tm 28)) 20 true,false),(gF 30 1 29 20 true,false),(gL 31 30 20 true,false),(iG 32 (.call 88 [(Tm 21),(Tm 25),(Tm 31)]) 20 true,true),(gM 33 2 20 true,true),(gB 34 .eql 32 33 20 true,false),(iP 35 20 34,false)]
def aqS:Rg:=[iM 36 7,iC 37 .add 36 1,iM 7 37]
def zO:Rg:=[iM 13 8,iC 14 .add 13 1,iM 8 14]
def aqN:aB:=(.seq (sq aqR (.cond (Tm 12) .skip (.exit 0))) (.seq (.block 1 (dq OD (.cond (Tm 35) (.region aqS) .skip))) (.region zO)))
def OE:Rg:=[iM 38 7,iM 6 38]
def BT:aB:=(sq aqO (sq aqP (.seq (sq aqQ (.block 0 (.loop aqN))) (sq OE .ret))))
def bfG:List Nat:=[3]
def adW:aS:=⟨3,39,BT,[.tmp 6]⟩
def aYR:Rg:=[iA 3 (.box true (Tm 0)),iZ 6]
def aYS:Rg:=[iM 17 2,iN 18 17,iO 19 7 3,iM 20 1,iK2 21 82 19 20,iB 22 .neq 18 21]
def aYT:Rg:=[iM 23 1,iM 24 2,iN 25 24,iA 26 (.build [(.int .i64 0),(.int .i64 0),(.int .i64 0)] [(0,1,(Ci 1)),(1,1,(Tm 23)),(2,1,(Tm 25))]),iA 27 (.bGN true 3 1 [(.int .i64 0),(.int .i64 0),(.int .i64 0)] [(0,(Tm 26))]),iM 6 27]
def aYU:Rg:=[iO 28 7 3,iM 29 2,iK2 30 89 28 29,iM 7 30]
def alV:Rg:=[iM 31 7,iC 32 .geq 31 0]
def aYV:Rg:=[iM 33 1,iM 34 7,iA 35 (.build [(.int .i64 0),(.int .i64 0),(.int .i64 0)] [(0,1,(Ci 1)),(1,1,(Tm 33)),(2,1,(Tm 34))]),iA 36 (.bGN true 3 1 [(.int .i64 0),(.int .i64 0),(.int .i64 0)] [(0,(Tm 35))]),iM 6 36]
def aYW:Rg:=[iZ 8]
def aYX:Rg:=[iI 9 0]
def aYY:Rg:=[iM 37 9,iM 38 2,iN 39 38,iB 40 .lss 37 39]
def alW:Rg:=[iM 43 2,iM 44 9,iX 45 1 43 44,iL 46 45,iC 47 .eql 46 (-1)]
def aJR:Rg:=[iM 48 8,iM 49 1,iM 50 9,iA 51 (.build [(.int .i64 0),(.int .i64 0),(.int .i64 0)] [(0,1,(Ci 2)),(1,1,(Tm 49)),(2,1,(Tm 50))]),iA 52 (.bGN true 3 1 [(.int .i64 0),(.int .i64 0),(.int .i64 0)] [(0,(Tm 51))]),iA 53 (.append 3 24 (Tm 48) (Tm 52)),iM 8 53]
def YI:Rg:=[iM 41 9,iC 42 .add 41 1,iM 9 42]
def YD:aB:=(.seq (sq aYY (.cond (Tm 40) .skip (.exit 0))) (.seq (.block 1 (sq alW (.cond (Tm 47) (.region aJR) .skip))) (.region YI)))
def aJS:Rg:=[iI 10 0]
def aJT:Rg:=[iM 54 10,iF 55 4 3,iL 56 55,iN 57 56,iB 58 .lss 54 57]
def aJU:Rg:=[iI 11 0]
def aJV:Rg:=[iI 12 0]
def aJW:Rg:=[iM 61 12,iM 62 2,iN 63 62,iB 64 .lss 61 63]
def YJ:Rg:=[iM 67 2,iM 68 12,iX 69 1 67 68,iL 70 69,iM 71 10,iB 72 .eql 70 71]
def aJX:Rg:=[iM 73 11,iC 74 .add 73 1,iM 11 74]
def YK:Rg:=[iM 65 12,iC 66 .add 65 1,iM 12 66]
def YE:aB:=(.seq (sq aJW (.cond (Tm 64) .skip (.exit 4))) (.seq (.block 5 (sq YJ (.cond (Tm 72) (.region aJX) .skip))) (.region YK)))
def YL:Rg:=[iM 75 11,iC 76 .gtr 75 1]
def aJY:Rg:=[iM 77 8,iM 78 1,iM 79 10,iA 80 (.build [(.int .i64 0),(.int .i64 0),(.int .i64 0)] [(0,1,(Ci 3)),(1,1,(Tm 78)),(2,1,(Tm 79))]),iA 81 (.bGN true 3 1 [(.int .i64 0),(.int .i64 0),(.int .i64 0)] [(0,(Tm 80))]),iA 82 (.append 3 24 (Tm 77) (Tm 81)),iM 8 82]
def YM:Rg:=[iM 59 10,iC 60 .add 59 1,iM 10 60]
def YF:aB:=(.seq (sq aJT (.cond (Tm 58) .skip (.exit 2))) (.seq (.block 3 (sq aJU (.seq (sq aJV (.block 4 (.loop YE))) (sq YL (.cond (Tm 76) (.region aJY) .skip))))) (.region YM)))
def aJZ:Rd:=[(iF 83 5 3,false),(iL 84 83,false),(iF 85 6 3,false),(iL 86 85,false),(iM 87 1,false),(iX 88 2 86 87,false),(iF 89 1 88,false),(iL 90 89,false),(iX 91 17 84 90,false),(iO 92 17 91,false),(iA 13 (.alloc [(.str []),(.int .i64 0),(.int .i64 0),(.int .i64 0),(.int .i64 0),(.int .i64 0),(.int .i64 0),(.int .i64 0),(.int .i64 0),.bGI,.bGI,(.bool false),.bGI,.bGI,(.bool false),.bGI,.bGI]),true),(iS 17 13 92,true)]
def aKA:Rg:=[iI 14 0]
def aKB:Rg:=[iM 93 14,iM 94 2,iN 95 94,iB 96 .lss 93 95]
def YN:Rd:=[(iM 99 2,false),(iM 100 14,false),(iX 101 1 99 100,false),(iL 102 101,false),(iC 103 .geq 102 0,false),(iM 104 103,false),(gO 105 17 13 104 true,false),(gO 106 7 3 104 true,false),(gM 107 2 104 true,false),(gM 108 14 104 true,false),(iG 109 (.bHD 1 (Tm 107) (Tm 108)) 104 true,false),(gL 110 109 104 true,false),(iG 111 (.call 77 [(Tm 105),(Tm 106),(Tm 110)]) 104 true,true),(iG 112 (.un .not (Tm 111)) 104 true,false),(iP 113 104 112,false)]
def aKC:Rg:=[iM 114 8,iM 115 1,iM 116 14,iA 117 (.build [(.int .i64 0),(.int .i64 0),(.int .i64 0)] [(0,1,(Ci 4)),(1,1,(Tm 115)),(2,1,(Tm 116))]),iA 118 (.bGN true 3 1 [(.int .i64 0),(.int .i64 0),(.int .i64 0)] [(0,(Tm 117))]),iA 119 (.append 3 24 (Tm 114) (Tm 118)),iM 8 119]
def HZ:Rg:=[iM 97 14,iC 98 .add 97 1,iM 14 98]
def YG:aB:=(.seq (sq aKB (.cond (Tm 96) .skip (.exit 6))) (.seq (.block 7 (dq YN (.cond (Tm 113) (.region aKC) .skip))) (.region HZ)))
def aKD:Rg:=[iI 15 1]
def aKE:Rg:=[iM 120 15,iF 121 3 3,iL 122 121,iN 123 122,iB 124 .lss 120 123]
def aKF:Rg:=[iF 127 3 3,iL 128 127,iM 129 15,iX 130 7 128 129,iF 131 1 130,iL 132 131,iF 133 4 13,iA 134 (.idxA 5 1 (Tm 133) (Tm 132)),iL 135 134,iM 16 135]
def IA:Rg:=[iM 136 16,iC 137 .gtr 136 0,iM 138 137,gO 139 7 3 138 true,gM 140 2 138 true,gM 141 15 138 true,iG 142 (.call 80 [(Tm 139),(Tm 140),(Tm 141)]) 138 true,gM 143 16 138 true,gB 144 .gtr 142 143 138 true,iP 145 138 144]
def YO:Rg:=[iM 146 8,iM 147 1,iM 148 15,iA 149 (.build [(.int .i64 0),(.int .i64 0),(.int .i64 0)] [(0,1,(Ci 5)),(1,1,(Tm 147)),(2,1,(Tm 148))]),iA 150 (.bGN true 3 1 [(.int .i64 0),(.int .i64 0),(.int .i64 0)] [(0,(Tm 149))]),iA 151 (.append 3 24 (Tm 146) (Tm 150)),iM 8 151]
def yJ:Rg:=[iM 125 15,iC 126 .add 125 1,iM 15 126]
def YH:aB:=(.seq (sq aKE (.cond (Tm 124) .skip (.exit 8))) (.seq (.block 9 (sq aKF (sq IA (.cond (Tm 145) (.region YO) .skip)))) (.region yJ)))
def aKG:Rg:=[iM 152 8,iM 6 152]
def OL:aB:=(sq aYR (.seq (sq aYS (.cond (Tm 22) (sq aYT .ret) .skip)) (.seq (sq aYU (sq alV (.cond (Tm 32) (sq aYV .ret) .skip))) (sq aYW (.seq (sq aYX (.block 0 (.loop YD))) (.seq (sq aJS (.block 2 (.loop YF))) (dq aJZ (.seq (sq aKA (.block 6 (.loop YG))) (.seq (sq aKD (.block 8 (.loop YH))) (sq aKG .ret))))))))))
def btO:List Nat:=[3,27,36,52,81,118,150]
def a8G:aS:=⟨3,153,OL,[.tmp 6]⟩
def aKJ:Rg:=[iA 3 (.box true (Tm 0)),iZ 6]
def aKK:Rg:=[iO 12 7 3,iK 13 67 12,iA 14 (.un .not (Tm 13))]
def aKL:Rg:=[iZ 6]
def YR:Rg:=[iM 15 1,iN 16 15,iF 17 6 3,iL 18 17,iN 19 18,iB 20 .neq 16 19]
def aKM:Rg:=[iM 21 1,iN 22 21,iA 23 (.build [(.int .i64 0),(.int .i64 0),(.int .i64 0)] [(0,1,(Ci 1)),(1,1,(Ci (-1))),(2,1,(Tm 22))]),iA 24 (.bGN true 3 1 [(.int .i64 0),(.int .i64 0),(.int .i64 0)] [(0,(Tm 23))]),iM 6 24]
def aKN:Rg:=[iZ 7]
def aKO:Rg:=[iI 8 0]
def aKP:Rg:=[iM 25 8,iM 26 1,iN 27 26,iB 28 .lss 25 27]
def aKQ:Rd:=[(iM 31 7,true),(iO 32 7 3,false),(iM 33 8,false),(iM 34 1,false),(iM 35 8,false),(iX 36 1 34 35,false),(iL 37 36,false),(iA 38 (.call 90 [(Tm 32),(Tm 33),(Tm 37)]),true),(iA 39 (.append 3 24 (Tm 31) (Tm 38)),true),(iM 7 39,false)]
def aKR:Rg:=[iM 29 8,iC 30 .add 29 1,iM 8 30]
def arI:aB:=(.seq (sq aKP (.cond (Tm 28) .skip (.exit 0))) (.seq (.block 1 (.draw aKQ)) (.region aKR)))
def arJ:Rd:=[(iO 40 7 3,false),(iM 41 2,false),(iK2 42 85 40 41,true),(iO 43 7 3,true),(iM 44 1,true),(iK2 45 84 43 44,true),(iM 9 42,false),(iM 10 45,false)]
def arK:Rg:=[iI 11 0]
def arL:Rg:=[iM 46 11,iM 47 9,iN 48 47,iB 49 .lss 46 48]
def OO:Rd:=[(iM 52 10,false),(iM 53 11,false),(iX 54 1 52 53,false),(iL 55 54,false),(iM 56 9,false),(iM 57 11,false),(iX 58 1 56 57,false),(iL 59 58,false),(iB 60 .gtr 55 59,false)]
def arM:Rg:=[iM 61 7,iM 62 11,iA 63 (.build [(.int .i64 0),(.int .i64 0),(.int .i64 0)] [(0,1,(Ci 6)),(1,1,(Ci (-1))),(2,1,(Tm 62))]),iA 64 (.bGN true 3 1 [(.int .i64 0),(.int .i64 0),(.int .i64 0)] [(0,(Tm 63))]),iA 65 (.append 3 24 (Tm 61) (Tm 64)),iM 7 65]
def OP:Rg:=[iM 50 11,iC 51 .add 50 1,iM 11 51]
def ON:aB:=(.seq (sq arL (.cond (Tm 49) .skip (.exit 2))) (.seq (.block 3 (dq OO (.cond (Tm 60) (.region arM) .skip))) (.region OP)))
def arN:Rg:=[iM 66 7,iM 6 66]
def IE:aB:=(sq aKJ (.seq (sq aKK (.cond (Tm 14) (sq aKL .ret) .skip)) (.seq (sq YR (.cond (Tm 20) (sq aKM .ret) .skip)) (sq aKN (.seq (sq aKO (.block 0 (.loop arI))) (dq arJ (.seq (sq arK (.block 2 (.loop ON))) (sq arN .ret))))))))
def bnG:List Nat:=[3,24,64]
def ayC:aS:=⟨3,67,IE,[.tmp 6]⟩
def aqU:Rg:=[iA 3 (.box true (Tm 0)),iT 6 false]
def aqV:Rg:=[iO 7 7 3,iK 8 67 7,iM 9 8,gO 10 7 3 9 true,gM 11 1 9 true,gM 12 2 9 true,iG 13 (.call 87 [(Tm 10),(Tm 11),(Tm 12)]) 9 true,gN 14 13 9 true,gC 15 .eql 14 0 9 true,iP 16 9 15,iM 6 16]
def BU:aB:=(sq aqU (sq aqV .ret))
def bfN:List Nat:=[3]
def aeG:aS:=⟨3,17,BU,[.tmp 6]⟩
theorem beY {C:Ctx} (f:aE) (hv:VF f) (d:Nat) (h:d<f.bGG.length) (level:Int) (h0:0≤level) (h4:level≤4) :
  BQ.wp C (aR adT.res (aD (.int .i64 (eG f d level:Nat)))) (PF.args [.agg f.cells,.int .i64 d,.int .i64 level]) .nil:=by
 simp only[go_sem,δ,γ,θ,BQ,aqB,aqC,adT,kC h,hv.akL h]
 refine wp_loop (α:=Nat) (fun k=>(((PF.nil.set 2 (.int .i64 level)).set 3 (.bGQ f.cells)).set 7 (.int .i64 (upN f k (eU f d))))) (fun _=>.nil) (fun k=>k≤4-level.toNat) (fun k=>4-level.toNat-k) 0 (bIT _) (by (repeat' (first|exact PF.nil_le|refine PF.aF ?_ ?_))<;>first|(simp only[go_sem,γ,upN]<;>rfl)|rfl) PH.nil_le ?_
 intro k hk
 obtain⟨u1,u2⟩:=PS hv h (k:=k) Om
 simp only[go_sem,δ,γ,θ,aqA,aqD,eI u1,xY u1]
 by_cases hlt:k<4-level.toNat
 ·have hc:lvl f (upN f k (eU f d))>level:=by rw[u2]; omega
  have hne:0<upN f k (eU f d):=by
   rcases bKN (upN f k (eU f d)) with e | e
   ·rw[e,hv.root.2.1] at u2; omega
   ·exact e
  simp only[go_sem,δ,γ,θ,hc,aqE,eI u1,yC u1,hv.alL hne u1]
  exact aC (k+1) hlt Om (by (repeat' (first|exact PF.nil_le|refine PF.aF ?_ ?_))<;>first|(simp only[go_sem,γ,upN]<;>rfl)|rfl) PH.nil_le
 ·have hc:¬ lvl f (upN f k (eU f d))>level:=by rw[u2]; omega
  have:k=4-level.toNat:=by omega
  subst this
  simp only[go_sem,γ,hc,aqF]
  refine aM (.inr rfl) rfl ?_
  rfl
structure rE (C:Ctx):Prop where
 valid:∀ f:aE,f.Ok→aH C 67 [.agg f.cells] .nil (aD (.bool (cU f)))
 kR:∀ (f:aE) (d:Nat) (level:Int),VF f→d<f.bGG.length→0≤level→level≤4→aH C 88 [.agg f.cells,.int .i64 d,.int .i64 level] .nil (aD (.int .i64 (eG f d level:Nat)))
 frag:∀ (f:aE) (v:Nat),VF f→v<f.bGJ.length→aH C 82 [.agg f.cells,.int .i64 v] .nil (aD (.int .i64 (kS f v)))
theorem bwN {C:Ctx} (L:rE C) (f:aE) (hf:f.Ok) (d level:Int) :
  XZ.wp C (aR sat.res (aD (.int .i64 (atP f d level)))) (PF.args [.agg f.cells,.int .i64 d,.int .i64 level]) .nil:=by
 simp only[go_sem,δ,γ,XZ,bfA,bfB,sat]
 refine aA (L.valid f hf) rfl ?_
 unfold atP
 cases hv:cU f with
 | false =>
  simp only[go_sem,ο,γ,reduceCtorEq,bIY,EB]
  refine aM (.inr rfl) rfl ?_
  rw[bH,if_neg (by simp)]
 | true =>
  have hV:=VF.of hv
  by_cases c1:d<0
  ·simp only[go_sem,ο,γ,reduceCtorEq,bIO,c1,EB]
   refine aM (.inr rfl) rfl ?_
   rw[bH,if_neg Om]
  ·by_cases c2:d≥(f.bGG.length:Nat)
   ·simp only[go_sem,ο,δ,γ,θ,reduceCtorEq,bIO,c1,bIM,c2,EB]
    refine aM (.inr rfl) rfl ?_
    rw[bH,if_neg Om]
   ·by_cases c3:level<0
    ·simp only[go_sem,ο,δ,γ,θ,reduceCtorEq,bIO,c1,bIM,c2,c3,EB]
     refine aM (.inr rfl) rfl ?_
     rw[bH,if_neg Om]
    ·by_cases c4:level>4
     ·simp only[go_sem,ο,δ,γ,θ,reduceCtorEq,bIO,c1,bIM,c2,c3,c4,EB]
      refine aM (.inr rfl) rfl ?_
      rw[bH,if_neg Om]
     ·simp only[go_sem,ο,δ,γ,θ,reduceCtorEq,bIO,c1,bIM,c2,c3,c4,bfC]
      have hc:=L.kR f d.toNat level hV Om Om Om
      rw[Int.toNat_of_nonneg Om] at hc
      refine aA hc rfl ?_
      simp only[go_sem,ο,γ]
      refine aM (.inr rfl) rfl ?_
      rw[bH,if_pos Om]
def soS (f:aE):Spec:=fun name vs=>match name,vs with
 | 88,[_,.int _ d,.int _ l]=>some ([],fun _=>aD (.int .i64 (eG f d.toNat l:Nat)))
 | 82,[_,.int _ v]=>some ([],fun _=>aD (.int .i64 (kS f v.toNat)))
 | _,_=>none
theorem arG (f:aE) (d:Nat) (l:Int):soS f 88 [.agg f.cells,.int .i64 d,.int .i64 l]=some ([],fun _=>aD (.int .i64 (eG f d l:Nat))):=rfl
theorem bcW {f:aE} (hV:VF f) {n:Nat} (hn:n<f.bGK.length):0≤lvl f n∧lvl f n≤4:=by
 rcases bKN n with e | e
 ·rw[e,hV.root.2.1]; decide
 ·have:=hV.dom n e hn; omega
theorem a8A {C:Ctx} (L:rE C) (f:aE) (hf:f.Ok) (dom:Int) :
  yH.wp C (aR RN.res (bP (ints (mF f dom)))) (PF.args [.agg f.cells,.int .i64 dom]) .nil:=by
 simp only[go_sem,δ,γ,yH,adY,adZ,aeA,RN]
 refine aA (L.valid f hf) rfl ?_
 unfold mF
 cases hv:cU f with
 | false =>
  simp only[go_sem,γ,reduceCtorEq,bIY,wC]
  rw[if_neg (by simp)]
  exact eR rfl
 | true =>
  have hV:=VF.of hv
  by_cases c1:dom<0
  ·simp only[go_sem,γ,reduceCtorEq,bIO,c1,wC]
   rw[if_neg Om]
   exact eR rfl
  ·by_cases c2:dom≥(f.bGK.length:Nat)
   ·simp only[go_sem,δ,γ,θ,reduceCtorEq,bIO,c1,bIM,c2,wC]
    rw[if_neg Om]
    exact eR rfl
   ·obtain⟨n,rfl⟩:∃ n:Nat,dom=n:=⟨dom.toNat,by omega⟩
    have hn:n<f.bGK.length:=by omega
    have hd24:=hV.small.bGG
    have hl04:=bcW hV hn
    simp only[go_sem,δ,γ,θ,reduceCtorEq,bIO,c1,bIM,c2,aeB]
    rw[if_pos Om]
    generalize hp:(fun d=>decide ((eG f d (lvl f n):Nat)=n))=p
    refine wp_loop (α:=Nat × PV × PH) (fun t=>((((PF.nil.set 1 (.int .i64 n)).set 2 (.bGQ f.cells)).set 5 (t.2.1)).set 6 (.int .i64 t.1))) (fun t=>t.2.2) (fun t=>t.1≤f.bGG.length∧aX t.2.2 1 t.2.1 (cV (pick t.1 p))) (fun t=>f.bGG.length-t.1) (0,.bGI,.nil) ⟨bIT _,.nil⟩ Lq PH.nil_le ?_
    rintro⟨k,v,H0⟩ ⟨hk,hO⟩
    simp only at hk hO ⊢
    simp only[go_sem,δ,γ,θ,adX,aeC,bIM]
    by_cases hlt:k<f.bGG.length
    ·have bGO:(k:Int)<(f.bGG.length:Nat):=by omega
     simp only[go_sem,bGO]
     refine bK .nil (soS f) PH.nil_le ?_
     simp only[go_sem,δ,γ,θ,aeD,eI hn,xY hn]
     refine bC (arG f k (lvl f n)) (L.kR f k (lvl f n) hV hlt hl04.1 hl04.2) rfl PH.nil_le ?_
     have hpk:p k=decide ((eG f k (lvl f n):Nat)=n):=by rw[← hp]
     have bHE:=uM k p
     have h11:(1:Nat)*1≤16777216:=by decide
     by_cases c:eG f k (lvl f n)=n
     ·rw[if_pos (by rw[hpk]; simp[c])] at bHE
      simp only[go_sem,υ,γ,η,ζ,bO (show ((eG f k (lvl f n):Nat):Int)=(n:Int) by omega),aeE,h11]
      refine cX (src:=[[.int .i64 k]]) hO rfl (by unfold roomFor; have:=tA k p; rw[fN]; simp only[bIX,maxLen]; omega) fun v' H' hO' _=>?_
      rw[rN,← bHE] at hO'
      simp only[go_sem,γ,HS,ws k]
      exact aC (k+1,v',H') ⟨hlt,hO'⟩ (by simp only; omega) Lq PH.le_refl
     ·rw[if_neg (by rw[hpk]; simp[c])] at bHE
      simp only[go_sem,γ,bF (show ((eG f k (lvl f n):Nat):Int)≠(n:Int) by omega),HS,ws k]
      rw[← bHE] at hO
      exact aC (k+1,v,H0) ⟨hlt,hO⟩ (by simp only; omega) Lq PH.le_refl
    ·have bGO:¬ (k:Int)<(f.bGG.length:Nat):=by omega
     have:k=f.bGG.length:=by omega
     subst this
     simp only[go_sem,γ,bGO,TU]
     exact mI hO rfl
theorem bfD {C:Ctx} (L:rE C) (f:aE) (hf:f.Ok) (dom:Int) :
  BS.wp C (aR adU.res (bP (ints (rH f dom)))) (PF.args [.agg f.cells,.int .i64 dom]) .nil:=by
 simp only[go_sem,δ,γ,BS,aqH,aqI,aqJ,adU]
 refine aA (L.valid f hf) rfl ?_
 unfold rH
 cases hv:cU f with
 | false =>
  simp only[go_sem,γ,reduceCtorEq,bIY,OA]
  rw[if_neg (by simp)]
  exact eR rfl
 | true =>
  have hV:=VF.of hv
  by_cases c1:dom<0
  ·simp only[go_sem,γ,reduceCtorEq,bIO,c1,OA]
   rw[if_neg Om]
   exact eR rfl
  ·have hd40:=hV.small.bGK
   have h00:=hV.root.1
   simp only[go_sem,γ,reduceCtorEq,bIO,c1,aqK]
   rw[if_pos Om]
   generalize hp:(fun i=>decide (par f i=dom))=p
   have hp0:pick 1 p=[]:=by
    have:=uM 0 p
    rw[if_neg (by rw[← hp]; have:=hV.root.2.2; simp; omega)] at this
    rw[this]; rfl
   refine wp_loop (α:=Nat × PV × PH) (fun t=>((((PF.nil.set 1 (.int .i64 dom)).set 2 (.bGQ f.cells)).set 5 (t.2.1)).set 6 (.int .i64 t.1))) (fun t=>t.2.2) (fun t=>1≤t.1∧t.1≤f.bGK.length∧aX t.2.2 1 t.2.1 (cV (pick t.1 p))) (fun t=>f.bGK.length-t.1) (1,.bGI,.nil) ⟨bIU _,h00,by rw[hp0]; exact .nil⟩ Lq PH.nil_le ?_
   rintro⟨k,v,H0⟩ ⟨hk1,hk,hO⟩
   simp only at hk1 hk hO ⊢
   simp only[go_sem,δ,γ,θ,aqG,aqL,bIM]
   by_cases hlt:k<f.bGK.length
   ·have bGO:(k:Int)<(f.bGK.length:Nat):=by omega
    have hpk:p k=decide (par f k=dom):=by rw[← hp]
    have bHE:=uM k p
    have h11:(1:Nat)*1≤16777216:=by decide
    by_cases c:par f k=dom
    ·rw[if_pos (by rw[hpk]; simp[c])] at bHE
     simp only[go_sem,υ,δ,γ,η,θ,ζ,bGO,OB,eI hlt,yC hlt,bO c,aqM,h11]
     refine cX (src:=[[.int .i64 k]]) hO rfl (by unfold roomFor; have:=tA k p; rw[fN]; simp only[bIX,maxLen]; omega) fun v' H' hO' _=>?_
     rw[rN,← bHE] at hO'
     simp only[go_sem,γ,OC,ws k]
     exact aC (k+1,v',H') ⟨by omega,hlt,hO'⟩ (by simp only; omega) Lq PH.le_refl
    ·rw[if_neg (by rw[hpk]; simp[c])] at bHE
     rw[← bHE] at hO
     simp only[go_sem,δ,γ,θ,bGO,OB,eI hlt,yC hlt,bF c,OC,ws k]
     exact aC (k+1,v,H0) ⟨by omega,hlt,hO⟩ (by simp only; omega) Lq PH.le_refl
   ·have bGO:¬ (k:Int)<(f.bGK.length:Nat):=by omega
    have:k=f.bGK.length:=by omega
    subst this
    simp only[go_sem,γ,bGO,adV]
    exact mI hO rfl
def sM (f:aE) (row:List Int):Int:=match eA (gZ f) row 0 with
 | some i=>i
 | none=>-1
theorem btG {C:Ctx} (f:aE) (row:List Int) (hl:row.length≤16777216):NZ.wp C (aR a7Z.res (aD (.int .i64 (sM f row)))) (PF.args [.agg f.cells,ints row]) .nil:=by
 unfold sM
 simp only[go_sem,ο,NZ,aYK,aYL,a7Z]
 refine wp_loop (α:=Nat) (fun k=>(((PF.nil.set 1 (ints row)).set 2 (.bGQ f.cells)).set 5 (.int .i64 k))) (fun _=>.nil) (fun k=>k≤row.length∧eA (gZ f) row 0=eA (gZ f) (row.drop k) k) (fun k=>row.length-k) 0 ⟨bIT _,rfl⟩ Lq PH.nil_le ?_
 rintro k ⟨hk,ha⟩
 simp only[go_sem,ο,γ,aYJ,aYM,bIM]
 by_cases hlt:k<row.length
 ·have bGO:(k:Int)<(row.length:Nat):=by omega
  have hat:(row.map fun x=>[PV.int .i64 x])[k]?=some [.int .i64 row[k]]:=by simp[hlt]
  rw[bKE hlt,eA] at ha
  generalize row[k]=x at *
  simp only[go_sem,ο,bGO]
  refine bK .nil dC PH.nil_le ?_
  by_cases c1:x < -1
  ·rw[show gZ f x=true from by unfold gZ; rw[decide_eq_true c1]; rfl,if_pos rfl] at ha
   simp only[go_sem,ο,γ,RM,hat,c1,alR]
   refine aM (.inr rfl) rfl ?_
   rw[bH,ha]
  ·by_cases c2:x≥(f.bGG.length:Nat)
   ·rw[show gZ f x=true from by unfold gZ; rw[decide_eq_true c2,Bool.or_true],if_pos rfl] at ha
    simp only[go_sem,ο,δ,γ,θ,reduceCtorEq,RM,hat,c1,bIM,c2,alR]
    refine aM (.inr rfl) rfl ?_
    rw[bH,ha]
   ·rw[show gZ f x=false from by unfold gZ; rw[decide_eq_false c1,decide_eq_false c2]; rfl,if_neg (by decide)] at ha
    simp only[go_sem,ο,δ,γ,θ,reduceCtorEq,RM,hat,c1,bIM,c2,aYN,ws k]
    exact aC (k+1) ⟨hlt,ha⟩ Om Lq PH.le_refl
 ·have bGO:¬ (k:Int)<(row.length:Nat):=by omega
  have:k=row.length:=by omega
  subst this
  rw[List.drop_length,eA] at ha
  simp only[go_sem,ο,bGO,aYO]
  refine aM (.inr rfl) rfl ?_
  rw[bH,ha]
theorem brZ {r e:Int} (h:0≤e):max 0 (min r e)=min (max r 0) e:=by omega
theorem a7T (f:aE) (room:List Int) {k:Nat} (h:k<f.bGG.length):(fM f room).take (k+1)=(fM f room).take k++[uO f room k]:=by
 have hk:k<(fM f room).length:=by rw[oK]; exact h
 rw[bKM hk,aIT]
theorem bnB {C:Ctx} (L:rE C) (f:aE) (hf:f.Ok) (room:List Int) :
  HY.wp C (aR ayB.res (bP (ints (lY f room)))) (PF.args [.agg f.cells,ints room]) .nil:=by
 simp only[go_sem,δ,γ,HY,aJJ,aJK,ayB]
 refine aA (L.valid f hf) rfl ?_
 unfold lY
 cases hv:cU f with
 | false =>
  simp only[go_sem,γ,reduceCtorEq,bIY,aJL]
  exact eR rfl
 | true =>
  have hV:=VF.of hv
  have hd24:=hV.small.bGG
  have hRl:=oK f room
  simp only[go_sem,γ,bIO,aJM,aJN]
  refine wp_loop (α:=Nat × PV × PH) (fun t=>((((PF.nil.set 1 (ints room)).set 2 (.bGQ f.cells)).set 5 (t.2.1)).set 6 (.int .i64 t.1))) (fun t=>t.2.2) (fun t=>t.1≤f.bGG.length∧aX t.2.2 1 t.2.1 (cV ((fM f room).take t.1))) (fun t=>f.bGG.length-t.1) (0,.bGI,.nil) ⟨bIT _,.nil⟩ Lq PH.nil_le ?_
  rintro⟨k,v,H0⟩ ⟨hk,hO⟩
  simp only at hk hO ⊢
  simp only[go_sem,δ,γ,θ,arH,aJO,bIM]
  by_cases hlt:k<f.bGG.length
  ·have bGO:(k:Int)<(f.bGG.length:Nat):=by omega
   obtain⟨hm,he⟩:=hV.baS hlt
   have hmo:=hV.model _ (bIS hm)
   rw[he] at hmo
   have h11:(1:Nat)*1≤16777216:=by decide
   have bHE:=a7T f room hlt
   have rest:∀ (x:Int) (F:PF),x=uO f room k→((((((PF.nil.set 1 (ints room)).set 2 (.bGQ f.cells)).set 5 (v)).set 6 (.int .i64 k)).set 7 (.int .i64 x)):PF).le F →
     aB.wp C (.region YC) (dJ 1 (hC C (aB.wp C (.region OJ)) (dQ (fun t:Nat × PV × PH=>((((PF.nil.set 1 (ints room)).set 2 (.bGQ f.cells)).set 5 (t.2.1)).set 6 (.int .i64 t.1))) (fun t=>t.2.2) (fun t=>t.1≤f.bGG.length∧aX t.2.2 1 t.2.1 (cV ((fM f room).take t.1))) (fun t=>f.bGG.length-t.1) (f.bGG.length-k) (dJ 0 (hC C (aB.wp C (.seq (.region OK) .ret)) (aR [.tmp 4] (bP (ints (fM f room))))))))) F H0:=by
    intro x F hx hF
    refine sG _ (fun _ _ _ _ a b=>Up.up a b) hF ?_
    simp only[go_sem,υ,γ,η,ζ,YC,h11]
    refine cX (src:=[[.int .i64 x]]) hO rfl (by unfold roomFor; rw[fN,bJF]; simp only[bIX,maxLen]; omega) fun v' H' hO' _=>?_
    rw[rN,hx,← bHE] at hO'
    simp only[go_sem,γ,OJ,ws k]
    exact aC (k+1,v',H') ⟨hlt,hO'⟩ (by simp only; omega) Lq PH.le_refl
   simp only[aB.wp,go_sem] at rest
   simp only[go_sem,bGO]
   refine bK .nil dC PH.nil_le ?_
   simp only[go_sem,δ,γ,θ,aJP,kC hlt,hV.DT hlt,aoW hm,he]
   by_cases c:room.length=f.bGG.length
   ·have hrk:k<room.length:=by omega
    have hrr:(room.map fun n=>[PV.int .i64 n])[k]?=some [.int .i64 room[k]]:=by simp[hrk]
    simp only[go_sem,δ,γ,θ,reduceCtorEq,YB,bIM,bO (Om:((room.length:Nat):Int)=(f.bGG.length:Nat)),aJQ,hrr,max_eq,aVP]
    refine rest _ _ ?_ Lq
    rw[uO,if_pos c,brZ Om,bJE,bIZ hrk,bKK]
   ·simp only[go_sem,δ,γ,θ,YB,bIM,bF (Om:((room.length:Nat):Int)≠(f.bGG.length:Nat))]
    refine rest _ _ ?_ Lq
    rw[uO,if_neg c]
  ·have bGO:¬ (k:Int)<(f.bGG.length:Nat):=by omega
   have:k=f.bGG.length:=by omega
   subst this
   rw[← hRl,bJN] at hO
   simp only[go_sem,γ,bGO,OK]
   exact mI hO rfl
theorem aRZ {C:Ctx} (f:aE) (hV:VF f) (p:cF) (hp:Fits p.bGH) (d:Nat) (hd:d<f.bGG.length) :
  vE.wp C (aR HR.res (aD (.bool (p.bGH.contains ((mdl f d:Nat):Int))))) (PF.args [.agg p.cells,.agg f.cells,.int .i64 d]) .nil:=by
 have hp':p.bGH.length≤9223372036854775807:=hp
 simp only[go_sem,γ,vE,TN,TO,HR]
 refine wp_loop (α:=Nat) (fun k=>((((PF.nil.set 2 (.int .i64 d)).set 3 (.bGQ p.cells)).set 4 (.bGQ f.cells)).set 7 (.int .i64 k))) (fun _=>.nil) (fun k=>k≤p.bGH.length∧p.bGH.contains ((mdl f d:Nat):Int)=(p.bGH.drop k).contains ((mdl f d:Nat):Int)) (fun k=>p.bGH.length-k) 0 ⟨bIT _,rfl⟩ Lq PH.nil_le ?_
 rintro k ⟨hk,ha⟩
 simp only[go_sem,δ,γ,θ,TM,TP,bIM]
 by_cases hlt:k<p.bGH.length
 ·have bGO:(k:Int)<(p.bGH.length:Nat):=by omega
  have hat:(p.bGH.map fun x=>[PV.int .i64 x])[k]?=some [.int .i64 p.bGH[k]]:=by simp[hlt]
  rw[bKE hlt,List.contains_cons] at ha
  have hcomm:(p.bGH[k]==((mdl f d:Nat):Int))=(((mdl f d:Nat):Int)==p.bGH[k]):=BEq.comm
  simp only[go_sem,bGO]
  refine bK .nil dC PH.nil_le ?_
  cases c:((mdl f d:Nat):Int)==p.bGH[k] with
  | true =>
   rw[c] at hcomm
   rw[c,Bool.true_or] at ha
   simp only[go_sem,δ,γ,θ,BR,hat,kC hd,hV.DT hd,hcomm,TQ]
   refine aM (.inr rfl) rfl ?_
   rw[bH,ha]
  | false =>
   rw[c] at hcomm
   rw[c,Bool.false_or] at ha
   simp only[go_sem,δ,γ,θ,BR,hat,kC hd,hV.DT hd,hcomm,TR,ws k]
   exact aC (k+1) ⟨hlt,ha⟩ Om Lq PH.le_refl
 ·have bGO:¬ (k:Int)<(p.bGH.length:Nat):=by omega
  have:k=p.bGH.length:=by omega
  subst this
  rw[List.drop_length] at ha
  simp only[go_sem,bGO,TS]
  refine aM (.inr rfl) rfl ?_
  rw[bH,ha]
  rfl
theorem SE {p:Int→Bool} {xs:List Int} {k:Nat} (h:k<xs.length):(xs.take (k+1)).countP p=(xs.take k).countP p+if p xs[k] then 1 else 0:=by
 rw[bKM h,List.countP_append]
 by_cases hp:p xs[k]<;>simp[List.countP_cons,hp]
theorem bfF {C:Ctx} (L:rE C) (f:aE) (hV:VF f) (row:List Int) (hr:tK f row) (n:Nat) (hn:n<f.bGK.length) :
  BT.wp C (aR adW.res (aD (.int .i64 (row.countP (jJ f n):Nat)))) (PF.args [.agg f.cells,ints row,.int .i64 n]) .nil:=by
 have hlen:=hr.len
 have hl04:=bcW hV hn
 simp only[go_sem,BT,aqO,aqP,aqQ,adW]
 refine wp_loop (α:=Nat) (fun k=>(((((PF.nil.set 1 (ints row)).set 2 (.int .i64 n)).set 3 (.bGQ f.cells)).set 7 (.int .i64 ((row.take k).countP (jJ f n):Nat))).set 8 (.int .i64 k))) (fun _=>.nil) (fun k=>k≤row.length) (fun k=>row.length-k) 0 (bIT _) Lq PH.nil_le ?_
 intro k hk
 simp only[go_sem,γ,aqN,aqR,bIM]
 by_cases hlt:k<row.length
 ·have bGO:(k:Int)<(row.length:Nat):=by omega
  have hat:(row.map fun x=>[PV.int .i64 x])[k]?=some [.int .i64 row[k]]:=by simp[hlt]
  have hx:=hr.at_ _ (bIS hlt)
  have hs:=SE (p:=jJ f n) hlt
  have hle:(row.take k).countP (jJ f n)≤16777216:=by
   have:=List.countP_le_length (p:=jJ f n) (l:=row.take k)
   rw[bJF] at this
   omega
  have hid:jJ f n row[k]=(decide (0≤row[k])&&decide (eG f row[k].toNat (lvl f n)=n)):=rfl
  have fin:∀ (c:Nat) (F':PF),(row.take (k+1)).countP (jJ f n)=c→((((((PF.nil.set 1 (ints row)).set 2 (.int .i64 n)).set 3 (.bGQ f.cells)).set 7 (.int .i64 c)).set 8 (.int .i64 (k+1:Nat))):PF).le F'→dQ (fun k:Nat=>(((((PF.nil.set 1 (ints row)).set 2 (.int .i64 n)).set 3 (.bGQ f.cells)).set 7 (.int .i64 ((row.take k).countP (jJ f n):Nat))).set 8 (.int .i64 k))) (fun _=>.nil) (fun k=>k≤row.length) (fun k=>row.length-k) (row.length-k) (dJ 0 (hC C (aB.wp C (.seq (.region OE) .ret)) (aR [.tmp 6] (aD (.int .i64 (row.countP (jJ f n):Nat)))))) .normal F' .nil :=
   fun c F' e h=>aC (k+1) hlt Om (by rw[e]; exact h) PH.le_refl
  generalize (row.take k).countP (jJ f n)=c at *
  generalize row[k]=x at *
  simp only[go_sem,bGO]
  refine bK .nil (soS f) PH.nil_le ?_
  by_cases h0:x≥0
  ·obtain⟨d,rfl⟩:∃ d:Nat,x=d:=⟨x.toNat,by omega⟩
   have hd:d<f.bGG.length:=by omega
   rw[decide_eq_true (Om:(0:Int)≤d),bJC,Int.toNat_natCast] at hid
   rw[hid] at hs
   simp only[go_sem,δ,γ,θ,OD,hat,h0,eI hn,xY hn]
   refine bC (arG f d (lvl f n)) (L.kR f d (lvl f n) hV hd hl04.1 hl04.2) rfl PH.nil_le ?_
   by_cases ha:eG f d (lvl f n)=n
   ·rw[decide_eq_true ha,if_pos rfl] at hs
    simp only[go_sem,γ,bO (show ((eG f d (lvl f n):Nat):Int)=(n:Int) by omega),aqS,ws c,zO,ws k]
    exact fin (c+1) _ hs Lq
   ·rw[decide_eq_false ha,if_neg (by decide),bKF] at hs
    simp only[go_sem,γ,bF (show ((eG f d (lvl f n):Nat):Int)≠(n:Int) by omega),zO,ws k]
    exact fin c _ hs Lq
  ·rw[decide_eq_false (show ¬ 0≤x from h0),bIV] at hid
   rw[hid,if_neg (by decide),bKF] at hs
   simp only[go_sem,γ,reduceCtorEq,OD,hat,h0,zO,ws k]
   exact fin c _ hs Lq
 ·have bGO:¬ (k:Int)<(row.length:Nat):=by omega
  have:k=row.length:=by omega
  subst this
  simp only[go_sem,γ,bGO,OE,bJN]
  refine aM (.inr rfl) rfl ?_
  rfl
theorem bfP {C:Ctx} (f:aE) (l:List (List Int)) (hl:eQ l) (o i:Nat) (hlt:i<l.length) (K:bX) [Up K] (F:PF) (H:PH)
  (hF:((((((PF.nil.set 1 (lay l)).set 2 (.bGQ f.cells)).set 5 (.osl o 1 0 f.bGG.length)).set 6 (.int .i64 i)).set 7 (.int .i64 0)):PF).le F) (hH:(PH.nil.set o (.rows 1 (cV (dO f.bGG.length (l.take i).flatten)))).le H)
  (hK:K (.exit 2) (((((PF.nil.set 1 (lay l)).set 2 (.bGQ f.cells)).set 5 (.osl o 1 0 f.bGG.length)).set 6 (.int .i64 i))) (PH.nil.set o (.rows 1 (cV (dO f.bGG.length (l.take (i+1)).flatten))))):aB.wp C (.loop HX) K F H:=by
 obtain⟨hl1,hl2⟩:=hl
 have hr:(l.map fun r=>[ints r])[i]?=some [ints l[i]]:=by simp[hlt]
 have hft:=mL l hlt
 have hfl:=sO l (i+1)
 rw[hft] at hfl hK
 rw[bIQ] at hfl
 generalize bGV:l[i]=row at *
 generalize hn:f.bGG.length=n at *
 generalize hA:(l.take i).flatten=A at *
 refine wp_loop (α:=Nat) (fun k=>(((((PF.nil.set 1 (lay l)).set 2 (.bGQ f.cells)).set 5 (.osl o 1 0 n)).set 6 (.int .i64 i)).set 7 (.int .i64 k))) (fun k=>PH.nil.set o (.rows 1 (cV (dO n (A++row.take k))))) (fun k=>k≤row.length) (fun k=>row.length-k) 0 (bIT _) hF (by rw[List.take_zero,bJZ]; exact hH) ?_
 intro k hk
 simp only[go_sem,γ,HX,arE,hr,bIM]
 by_cases hkt:k<row.length
 ·have hkt':(k:Int)<(row.length:Nat):=by omega
  have hrk:(row.map fun n=>[PV.int .i64 n])[k]?=some [.int .i64 row[k]]:=by simp[hkt]
  have htk:A++row.take (k+1)=(A++row.take k)++[row[k]]:=by
   rw[bKM hkt,bJO]
  have fin:∀ (F:PF),((((((PF.nil.set 1 (lay l)).set 2 (.bGQ f.cells)).set 5 (.osl o 1 0 n)).set 6 (.int .i64 i)).set 7 (.int .i64 (k+1:Nat))):PF).le F→∀ H:PH,H o=some (.rows 1 (cV (dO n (A++row.take (k+1))))) →
    dQ (fun k:Nat=>(((((PF.nil.set 1 (lay l)).set 2 (.bGQ f.cells)).set 5 (.osl o 1 0 n)).set 6 (.int .i64 i)).set 7 (.int .i64 k))) (fun k=>PH.nil.set o (.rows 1 (cV (dO n (A++row.take k))))) (fun k=>k≤row.length) (fun k=>row.length-k) (row.length-k) K .normal F H:=by
   intro F hF H hH
   exact aC (k+1) hkt Om hF (PH.aF PH.nil_le hH)
  generalize hx:row[k]=x at *
  by_cases c1:x≥0
  ·by_cases c2:x<(n:Nat)
   ·obtain⟨d,rfl⟩:∃ d:Nat,x=d:=⟨x.toNat,by omega⟩
    have hdn:d<n:=by omega
    have hat:=sW (l:=dO n (A++row.take k)) (i:=d) (by rw[fH]; exact hdn)
    rw[QO _ hdn] at hat
    have hcl:(A++row.take k).count (d:Int)≤16777216:=by
     refine bKG (List.count_le_length ..) ?_
     rw[bIQ,bJF]; omega
    have hin:=ajS (A++row.take k) hdn
    rw[← htk] at hin
    have hw:IntKind.i64.wrap ((((A++row.take k).count (d:Int):Nat):Int)+1)=(((A++row.take k).count (d:Int):Nat):Int)+1:=wrap_i64 Om Om
    simp only[go_sem,γ,hkt',zR,hrk,c1,c2,arF,bJJ,hat,hw,wE,oF,hin,ws k,hr]
    exact fin _ Lq _ Sq
   ·have hout:=xM (n:=n) (A++row.take k) (x:=x) Om
    simp only[go_sem,γ,hkt',zR,hrk,c1,c2,wE,ws k,hr]
    exact fin _ Lq _ (by rw[htk,hout]; simp only[go_sem])
  ·have hout:=xM (n:=n) (A++row.take k) (x:=x) Om
   simp only[go_sem,γ,reduceCtorEq,hkt',zR,hrk,c1,wE,ws k,hr]
   exact fin _ Lq _ (by rw[htk,hout]; simp only[go_sem])
 ·have hkt':¬ (k:Int)<(row.length:Nat):=by omega
  have:k=row.length:=by omega
  subst this
  simp only[go_sem,hkt',bJN]
  exact Up.up Lq hK
theorem bfQ {C:Ctx} (L:rE C) (f:aE) (hf:f.Ok) (l:List (List Int)) (hl:eQ l) :
  BW.wp C (aR aeH.res (bP (ints (lH f l)))) (PF.args [.agg f.cells,lay l]) .nil:=by
 simp only[go_sem,δ,γ,BW,aqX,aqY,aeH]
 refine aA (L.valid f hf) rfl ?_
 unfold lH
 cases hv:cU f with
 | false =>
  simp only[go_sem,γ,reduceCtorEq,bIY,aqZ]
  exact eR rfl
 | true =>
  have hd:=(VF.of hv).small.bGG
  have hb1:((f.bGG.length:Nat):Int)*((8:Nat):Int)≤140737488355328:=by omega
  have hb2:((f.bGG.length:Nat):Int)≤9223372036854775807:=by omega
  simp only[go_sem,δ,γ,θ,bIO,arA,bIM,hb1,hb2]
  refine aO fun o ho=>?_
  simp only[go_sem,γ,arB]
  refine wp_loop (α:=Nat) (fun i=>((((PF.nil.set 1 (lay l)).set 2 (.bGQ f.cells)).set 5 (.osl o 1 0 f.bGG.length)).set 6 (.int .i64 i))) (fun i=>PH.nil.set o (.rows 1 (cV (dO f.bGG.length (l.take i).flatten)))) (fun i=>i≤l.length) (fun i=>l.length-i) 0 (bIT _) Lq (PH.aF PH.nil_le (by rw[List.take_zero,List.flatten_nil,UZ,pM]; simp only[go_sem])) ?_
  intro i hi
  simp only[go_sem,γ,aeI,arC,bIM]
  have hl1:=hl.rows
  by_cases hlt:i<l.length
  ·have bGO:(i:Int)<(l.length:Nat):=by omega
   simp only[go_sem,bGO,arD]
   have hin:=bfP (C:=C) f l hl o i hlt
   simp only[aB.wp,go_sem] at hin
   refine hin _ _ _ Lq PH.le_refl ?_
   simp only[go_sem,γ,reduceCtorEq,aeJ,ws i]
   exact aC (i+1) hlt Om Lq PH.le_refl
  ·have bGO:¬ (i:Int)<(l.length:Nat):=by omega
   have:i=l.length:=by omega
   subst this
   simp only[go_sem,γ,bGO,aeK,bJN]
   refine XW (.inr rfl) (o:=o) (s:=1) (k:=f.bGG.length) (rs:=cV (dO f.bGG.length l.flatten)) rfl Sq (by rw[fN,fH]; omega) ⟨?_,rfl⟩
   rw[abK,bJD (by rw[fN,fH]; omega),eV]
   exact .refl _
structure ajM (C:Ctx):Prop extends rE C where
 bad:∀ (f:aE) (row:List Int),row.length≤16777216→aH C 89 [.agg f.cells,ints row] .nil (aD (.int .i64 (sM f row)))
def aIV (f:aE) (v:Nat) (row:List Int):List eT :=
 if ((row.length:Nat):Int)=kS f v then (match eA (gZ f) row 0 with | some i=>[⟨1,v,(i:Nat)⟩] | none=>sE f (fK f v) v row) else [⟨1,v,(row.length:Nat)⟩]
theorem bmF (f:aE) (l:List (List Int)) (v:Nat):rW f l v=aIV f v (l.getD v []):=by
 unfold rW jM aIV
 split<;>rename_i h
 ·split at h
  ·rename_i c
   rw[if_pos c]
   cases hb:eA (gZ f) (l.getD v []) 0 with
   | none=>rw[hb] at h; cases h
   | some i=>rw[hb] at h; cases h; rfl
  ·rename_i c
   rw[if_neg c]
   cases h; rfl
 ·split at h
  ·rename_i c
   rw[if_pos c]
   cases hb:eA (gZ f) (l.getD v []) 0 with
   | none=>rfl
   | some i=>rw[hb] at h; cases h
  ·cases h
theorem bfL (f:aE) (l:List (List Int)) (v:Nat):(jM f l v).isNone=(decide (((l.getD v []).length:Int)=kS f v)&&!decide (sM f (l.getD v [])≥0)):=by
 unfold jM sM
 split
 ·rename_i c
  rw[decide_eq_true c]
  cases eA (gZ f) (l.getD v []) 0 with
  | none=>rfl
  | some i=>simp
 ·rename_i c
  rw[decide_eq_false c]; rfl
def ssS (f:aE) (row:List Int):Spec:=fun name vs=>match name,vs with
 | 89,_=>some ([],fun _=>aD (.int .i64 (sM f row)))
 | 82,[_,.int _ v]=>some ([],fun _=>aD (.int .i64 (kS f v.toNat)))
 | _,_=>none
theorem bnD (f:aE) (row:List Int) (v:Nat):ssS f row 82 [.agg f.cells,.int .i64 v]=some ([],fun _=>aD (.int .i64 (kS f v))):=rfl
theorem a8H {C:Ctx} (L:ajM C) (f:aE) (hf:f.Ok) (l:List (List Int)) (hl:eQ l) :
  yK.wp C (aR RP.res (aD (.bool (qU f l)))) (PF.args [.agg f.cells,lay l]) .nil:=by
 simp only[go_sem,δ,γ,yK,aeM,aeN,RP]
 refine aA (L.valid f hf) rfl ?_
 unfold qU
 have hlr:=hl.rows
 cases hv:cU f with
 | false =>
  simp only[go_sem,γ,bIY,IB]
  refine aM (.inr rfl) rfl ?_
  simp[bH]
 | true =>
  have hV:=VF.of hv
  by_cases c:l.length=f.bGJ.length
  ·have c':(((l.length:Nat):Int) != ((f.bGJ.length:Nat):Int))=false:=bV Om
   rw[decide_eq_true c]
   simp only[go_sem,γ,reduceCtorEq,bIO,bIM,c',aeO]
   generalize hq:(fun v=>(jM f l v).isNone)=q
   refine wp_loop (α:=Nat) (fun k=>(((PF.nil.set 1 (lay l)).set 2 (.bGQ f.cells)).set 5 (.int .i64 k))) (fun _=>.nil) (fun k=>k≤l.length∧nL q k) (fun k=>l.length-k) 0 ⟨bIT _,.zero⟩ Lq PH.nil_le ?_
   rintro k ⟨hk,ha⟩
   simp only[go_sem,γ,aeL,aeP,bIM]
   by_cases hlt:k<l.length
   ·have bGO:(k:Int)<(l.length:Nat):=by omega
    have hqk:q k=(decide (((l[k]).length:Int)=kS f k)&&!decide (sM f l[k]≥0)):=by
     rw[← hq,← show l.getD k []=l[k] by simp[bJE,hlt]]; exact bfL f l k
    have hrl:(l[k]).length≤16777216:=by
     have h1:=sO l (k+1)
     have:=hl.all
     rw[mL l hlt,bIQ] at h1
     omega
    have hat:(l.map fun r=>[ints r])[k]?=some [ints l[k]]:=by simp[hlt]
    generalize l[k]=row at *
    simp only[go_sem,bGO]
    refine bK .nil (ssS f row) PH.nil_le ?_
    simp only[go_sem,δ,γ,aeQ,hat,bIM]
    refine bC (bnD f row k) (L.frag f k hV Om) rfl PH.nil_le ?_
    by_cases c1:((row.length:Nat):Int)=kS f k
    ·rw[decide_eq_true c1,bJC] at hqk
     simp only[go_sem,δ,γ,bV c1,hat]
     refine bC (show ssS f row 89 [.agg f.cells,ints row]=some ([],fun _=>aD (.int .i64 (sM f row))) from rfl) (L.bad f row hrl) rfl PH.nil_le ?_
     by_cases c2:sM f row≥0
     ·rw[decide_eq_true c2] at hqk
      simp only[go_sem,γ,reduceCtorEq,c2,IC]
      refine aM (.inr rfl) rfl ?_
      rw[bH,show (bIN l.length).all q=false from dH hlt hqk]
     ·rw[decide_eq_false c2] at hqk
      simp only[go_sem,γ,reduceCtorEq,c2,aeR,ws k]
      exact aC (k+1) ⟨hlt,ha.step hqk⟩ Om Lq PH.nil_le
    ·rw[decide_eq_false c1,bIV] at hqk
     simp only[go_sem,γ,cQ c1,IC]
     refine aM (.inr rfl) rfl ?_
     rw[bH,show (bIN l.length).all q=false from dH hlt hqk]
   ·have bGO:¬ (k:Int)<(l.length:Nat):=by omega
    have:k=l.length:=by omega
    subst this
    simp only[go_sem,bGO,aeS]
    refine aM (.inr rfl) rfl ?_
    rw[bH,show (bIN l.length).all q=true from ha]
  ·have c':(((l.length:Nat):Int) != ((f.bGJ.length:Nat):Int))=true:=cQ Om
   simp only[go_sem,γ,reduceCtorEq,bIO,bIM,c',IB]
   refine aM (.inr rfl) rfl ?_
   rw[bH,decide_eq_false c]; simp
structure QL (C:Ctx):Prop extends ajM C where
 allowed:∀ (f:aE) (p:cF) (d:Nat),VF f→Fits p.bGH→d<f.bGG.length→aH C 77 [.agg p.cells,.agg f.cells,.int .i64 d] .nil (aD (.bool (p.bGH.contains ((mdl f d:Nat):Int))))
 count:∀ (f:aE) (row:List Int) (n:Nat),VF f→tK f row→n<f.bGK.length→aH C 80 [.agg f.cells,ints row,.int .i64 n] .nil (aD (.int .i64 (row.countP (jJ f n):Nat)))
theorem btF {C:Ctx} (f:aE) (v:Nat) (row:List Int) (hr:tK f row) (K:bX) [Up K] (F:PF) (H:PH)
  (hF:((((((PF.nil.set 1 (.int .i64 v)).set 2 (ints row)).set 3 (.bGQ f.cells)).set 8 (.bGI)).set 9 (.int .i64 0)):PF).le F)
  (hK:∀ w H',aX H' 3 w (cL (bL 2 v row.length (home row)))→K (.exit 0) (((((PF.nil.set 1 (.int .i64 v)).set 2 (ints row)).set 3 (.bGQ f.cells)).set 8 (w))) H'):aB.wp C (.loop YD) K F H:=by
 obtain⟨hr1,hr2⟩:=hr
 refine wp_loop (α:=Nat × PV × PH) (fun t=>(((((PF.nil.set 1 (.int .i64 v)).set 2 (ints row)).set 3 (.bGQ f.cells)).set 8 (t.2.1)).set 9 (.int .i64 t.1))) (fun t=>t.2.2) (fun t=>t.1≤row.length∧aX t.2.2 3 t.2.1 (cL (bL 2 v t.1 (home row)))) (fun t=>row.length-t.1) (0,.bGI,H) ⟨bIT _,.nil⟩ hF PH.le_refl ?_
 rintro⟨k,w,H0⟩ ⟨hk,hO⟩
 simp only at hk hO ⊢
 simp only[go_sem,γ,YD,aYY,bIM]
 by_cases hlt:k<row.length
 ·have bGO:(k:Int)<(row.length:Nat):=by omega
  have hat:(row.map fun n=>[PV.int .i64 n])[k]?=some [.int .i64 row[k]]:=by simp[hlt]
  have hx:=hr2 row[k] (bIS hlt)
  have hh:home row k=decide (row[k]<0):=by simp[home,bJE,hlt]
  have e2:=fR 2 v k (home row)
  have l2:=dB 2 v k (home row)
  generalize row[k]=x at *
  by_cases c:x=-1
  ·rw[if_pos (by rw[hh]; simp; omega)] at e2
   have bIA:(1:Nat)*3≤16777216:=by decide
   simp only[go_sem,ο,υ,δ,γ,η,θ,ζ,bGO,alW,hat,bO c,aJR,bIA]
   refine cX (src:=[(⟨2,v,k⟩:eT).cells]) hO rfl (by unfold roomFor; rw[eY]; simp only[bIX,maxLen]; omega) fun v' H' g1 _=>?_
   rw[jA,← e2] at g1
   simp only[go_sem,γ,YI,ws k]
   exact aC (k+1,v',H') ⟨hlt,g1⟩ (by simp only; omega) Lq PH.le_refl
  ·rw[if_neg (by rw[hh]; simp; omega)] at e2
   rw[← e2] at hO
   simp only[go_sem,ο,γ,bGO,alW,hat,bF c,YI,ws k]
   exact aC (k+1,w,H0) ⟨hlt,hO⟩ (by simp only; omega) Lq PH.le_refl
 ·have bGO:¬ (k:Int)<(row.length:Nat):=by omega
  have:k=row.length:=by omega
  subst this
  simp only[go_sem,bGO]
  exact Up.up Lq (hK w H0 hO)
theorem bwM {C:Ctx} (f:aE) (v:Nat) (row:List Int) (hrl:row.length≤16777216) (w:PV) (d:Nat) (K:bX) [Up K] (F:PF) (H:PH)
  (hF:((((((((PF.nil.set 1 (.int .i64 v)).set 2 (ints row)).set 3 (.bGQ f.cells)).set 8 (w)).set 10 (.int .i64 d)).set 11 (.int .i64 0)).set 12 (.int .i64 0)):PF).le F)
  (hK:K (.exit 4) (((((((PF.nil.set 1 (.int .i64 v)).set 2 (ints row)).set 3 (.bGQ f.cells)).set 8 (w)).set 10 (.int .i64 d)).set 11 (.int .i64 (row.count (d:Int):Nat)))) H):aB.wp C (.loop YE) K F H:=by
 refine wp_loop (α:=Nat) (fun k=>(((((((PF.nil.set 1 (.int .i64 v)).set 2 (ints row)).set 3 (.bGQ f.cells)).set 8 (w)).set 10 (.int .i64 d)).set 11 (.int .i64 ((row.take k).count (d:Int):Nat))).set 12 (.int .i64 k))) (fun _=>H) (fun k=>k≤row.length) (fun k=>row.length-k) 0 (bIT _) hF PH.le_refl ?_
 intro k hk
 simp only[go_sem,γ,YE,aJW,bIM]
 by_cases hlt:k<row.length
 ·have bGO:(k:Int)<(row.length:Nat):=by omega
  have hat:(row.map fun n=>[PV.int .i64 n])[k]?=some [.int .i64 row[k]]:=by simp[hlt]
  have hs:=SE (p:=(·==(d:Int))) hlt
  have hle:(row.take k).count (d:Int)≤16777216:=bKG (List.count_le_length ..) (by rw[bJF]; omega)
  simp only[← List.count_eq_countP] at hs
  have fin:∀ (c:Nat) (F':PF),(row.take (k+1)).count (d:Int)=c→((((((((PF.nil.set 1 (.int .i64 v)).set 2 (ints row)).set 3 (.bGQ f.cells)).set 8 (w)).set 10 (.int .i64 d)).set 11 (.int .i64 c)).set 12 (.int .i64 (k+1:Nat))):PF).le F' →
    dQ (fun k:Nat=>(((((((PF.nil.set 1 (.int .i64 v)).set 2 (ints row)).set 3 (.bGQ f.cells)).set 8 (w)).set 10 (.int .i64 d)).set 11 (.int .i64 ((row.take k).count (d:Int):Nat))).set 12 (.int .i64 k))) (fun _=>H) (fun k=>k≤row.length) (fun k=>row.length-k) (row.length-k) K .normal F' H :=
   fun c F' e h=>aC (k+1) hlt Om (by rw[e]; exact h) PH.le_refl
  generalize (row.take k).count (d:Int)=c at *
  generalize row[k]=x at *
  by_cases c1:x=d
  ·rw[if_pos (by simp[c1])] at hs
   simp only[go_sem,γ,bGO,YJ,hat,bO c1,aJX,ws c,YK,ws k]
   exact fin (c+1) _ hs Lq
  ·rw[if_neg (by simp[c1]),bKF] at hs
   simp only[go_sem,γ,bGO,YJ,hat,bF c1,YK,ws k]
   exact fin c _ hs Lq
 ·have bGO:¬ (k:Int)<(row.length:Nat):=by omega
  have:k=row.length:=by omega
  subst this
  simp only[go_sem,bGO,bJN]
  exact Up.up Lq hK
theorem bnS (f:aE) (row:List Int) {k:Nat} (h:k<f.bGG.length):jF f row k=decide ((row.count (k:Int):Nat)>1):=by
 have:(dO f.bGG.length row)[k]?=some ((row.count (k:Int):Nat):Int):=by
  rw[bIZ (by rw[fH]; exact h),QO _ h]
 rw[jF,bJE,this,bKK]
 exact decide_eq_decide.2 Om
theorem bmT {C:Ctx} (f:aE) (hV:VF f) (v:Nat) (row:List Int) (hrl:row.length≤16777216) (l0:List eT) (hl0:l0.length≤16777216) (w0:PV) (K:bX) [Up K] (F:PF) (H:PH)
  (hF:((((((PF.nil.set 1 (.int .i64 v)).set 2 (ints row)).set 3 (.bGQ f.cells)).set 8 (w0)).set 10 (.int .i64 0)):PF).le F) (hH:aX H 3 w0 (cL l0))
  (hK:∀ w H',aX H' 3 w (cL (l0++bL 3 v f.bGG.length (jF f row)))→K (.exit 2) (((((PF.nil.set 1 (.int .i64 v)).set 2 (ints row)).set 3 (.bGQ f.cells)).set 8 (w))) H'):aB.wp C (.loop YF) K F H:=by
 have hs:=hV.small.bGG
 refine wp_loop (α:=Nat × PV × PH) (fun t=>(((((PF.nil.set 1 (.int .i64 v)).set 2 (ints row)).set 3 (.bGQ f.cells)).set 8 (t.2.1)).set 10 (.int .i64 t.1))) (fun t=>t.2.2) (fun t=>t.1≤f.bGG.length∧aX t.2.2 3 t.2.1 (cL (l0++bL 3 v t.1 (jF f row)))) (fun t=>f.bGG.length-t.1) (0,w0,H)
  ⟨bIT _,by rw[show bL 3 v 0 (jF f row)=[] from rfl,bJZ]; exact hH⟩ hF PH.le_refl ?_
 rintro⟨k,w,H0⟩ ⟨hk,hO⟩
 simp only at hk hO ⊢
 simp only[go_sem,δ,γ,θ,YF,aJT,bIM]
 by_cases hlt:k<f.bGG.length
 ·have bGO:(k:Int)<(f.bGG.length:Nat):=by omega
  have e3:=fR 3 v k (jF f row)
  have l3:=dB 3 v k (jF f row)
  rw[bnS f row hlt] at e3
  simp only[go_sem,bGO,aJU,aJV]
  have cnt:=bwM (C:=C) f v row hrl w k
  simp only[aB.wp,go_sem] at cnt
  refine cnt _ _ _ Lq ?_
  by_cases c:row.count (k:Int)>1
  ·have c':((row.count (k:Int):Nat):Int)>1:=by omega
   rw[if_pos (by simp; omega)] at e3
   have bIA:(1:Nat)*3≤16777216:=by decide
   simp only[go_sem,υ,δ,γ,η,θ,ζ,YL,c',aJY,bIA]
   refine cX (src:=[(⟨3,v,k⟩:eT).cells]) hO rfl (by unfold roomFor; rw[eY,bIQ]; simp only[bIX,maxLen]; omega) fun v' H' g1 _=>?_
   rw[jA,bJO,← e3] at g1
   simp only[go_sem,γ,YM,ws k]
   exact aC (k+1,v',H') ⟨hlt,g1⟩ (by simp only; omega) Lq PH.le_refl
  ·have c':¬ ((row.count (k:Int):Nat):Int)>1:=by omega
   rw[if_neg (by simp; omega)] at e3
   rw[← e3] at hO
   simp only[go_sem,γ,YL,c',YM,ws k]
   exact aC (k+1,w,H0) ⟨hlt,hO⟩ (by simp only; omega) Lq PH.le_refl
 ·have bGO:¬ (k:Int)<(f.bGG.length:Nat):=by omega
  have:k=f.bGG.length:=by omega
  subst this
  simp only[go_sem,bGO]
  exact Up.up Lq (hK w H0 hO)
def raS (f:aE) (p:cF):Spec:=fun name vs=>match name,vs with
 | 77,[_,_,.int _ d]=>some ([],fun _=>aD (.bool (p.bGH.contains ((mdl f d.toNat:Nat):Int))))
 | _,_=>none
theorem bwH (f:aE) (p:cF) (d:Nat):raS f p 77 [.agg p.cells,.agg f.cells,.int .i64 d]=some ([],fun _=>aD (.bool (p.bGH.contains ((mdl f d:Nat):Int)))):=rfl
theorem bmR {C:Ctx} (L:QL C) (f:aE) (hV:VF f) (p:cF) (hp:Fits p.bGH) (o v:Nat) (row:List Int) (hr:tK f row) (l0:List eT) (hl0:l0.length≤100000000) (w0:PV) (K:bX) [Up K] (F:PF) (H:PH)
  (hF:(((((((PF.nil.set 1 (.int .i64 v)).set 2 (ints row)).set 3 (.bGQ f.cells)).set 8 (w0)).set 13 (.ptr o 17 0 0)).set 14 (.int .i64 0)):PF).le F) (hH:aX H 3 w0 (cL l0)) (ho:H o=some (.rows 17 [p.cells]))
  (hK:∀ w H',aX H' 3 w (cL (l0++bL 4 v row.length (cP f p row)))→H' o=some (.rows 17 [p.cells])→K (.exit 6) ((((((PF.nil.set 1 (.int .i64 v)).set 2 (ints row)).set 3 (.bGQ f.cells)).set 8 (w)).set 13 (.ptr o 17 0 0))) H'):aB.wp C (.loop YG) K F H:=by
 obtain⟨hr1,hr2⟩:=hr
 refine wp_loop (α:=Nat × PV × PH) (fun t=>((((((PF.nil.set 1 (.int .i64 v)).set 2 (ints row)).set 3 (.bGQ f.cells)).set 8 (t.2.1)).set 13 (.ptr o 17 0 0)).set 14 (.int .i64 t.1))) (fun t=>t.2.2) (fun t=>t.1≤row.length∧aX t.2.2 3 t.2.1 (cL (l0++bL 4 v t.1 (cP f p row)))∧t.2.2 o=some (.rows 17 [p.cells])) (fun t=>row.length-t.1) (0,w0,H)
  ⟨bIT _,by rw[show bL 4 v 0 (cP f p row)=[] from rfl,bJZ]; exact hH,ho⟩ hF PH.le_refl ?_
 rintro⟨k,w,H0⟩ ⟨hk,hO,ho0⟩
 simp only at hk hO ho0 ⊢
 have hle:=PH.aF PH.nil_le ho0
 simp only[go_sem,γ,YG,aKB,bIM]
 by_cases hlt:k<row.length
 ·have bGO:(k:Int)<(row.length:Nat):=by omega
  have hat:(row.map fun n=>[PV.int .i64 n])[k]?=some [.int .i64 row[k]]:=by simp[hlt]
  have hx:=hr2 row[k] (bIS hlt)
  have hg:row.getD k 0=row[k]:=by simp[bJE,hlt]
  have ha:cP f p row k=(decide (0≤row[k])&&!p.bGH.contains ((mdl f (row[k]).toNat:Nat):Int)):=by rw[cP,hg]
  have e4:=fR 4 v k (cP f p row)
  have l4:=dB 4 v k (cP f p row)
  rw[ha] at e4
  generalize row[k]=x at *
  have skip:∀ F',bL 4 v (k+1) (cP f p row)=bL 4 v k (cP f p row)→(((((((PF.nil.set 1 (.int .i64 v)).set 2 (ints row)).set 3 (.bGQ f.cells)).set 8 (w)).set 13 (.ptr o 17 0 0)).set 14 (.int .i64 (k+1:Nat))):PF).le F' →
    dQ (fun t:Nat × PV × PH=>((((((PF.nil.set 1 (.int .i64 v)).set 2 (ints row)).set 3 (.bGQ f.cells)).set 8 (t.2.1)).set 13 (.ptr o 17 0 0)).set 14 (.int .i64 t.1))) (fun t=>t.2.2) (fun t=>t.1≤row.length∧aX t.2.2 3 t.2.1 (cL (l0++bL 4 v t.1 (cP f p row)))∧t.2.2 o=some (.rows 17 [p.cells])) (fun t=>row.length-t.1) (row.length-k) K .normal F' H0 :=
   fun F' e h=>aC (k+1,w,H0) ⟨hlt,by simp only; rw[e]; exact hO,ho0⟩ (by simp only; omega) h PH.le_refl
  simp only[go_sem,bGO]
  refine bK (PH.nil.set o (.rows 17 [p.cells])) (raS f p) hle ?_
  by_cases c:x≥0
  ·obtain⟨d,rfl⟩:∃ d:Nat,x=d:=⟨x.toNat,by omega⟩
   have hd:d<f.bGG.length:=by omega
   rw[decide_eq_true (Om:(0:Int)≤d),bJC,Int.toNat_natCast] at e4
   simp only[go_sem,δ,γ,reduceCtorEq,YN,hat,c,ho0]
   refine bC (bwH f p d) (L.allowed f p d hV hp hd) rfl hle ?_
   cases hb:p.bGH.contains ((mdl f d:Nat):Int) with
   | true =>
    rw[hb,if_neg (by decide)] at e4
    simp only[go_sem,γ,bIO,HZ,ws k]
    exact skip _ e4 Lq
   | false =>
    rw[hb,if_pos (by decide)] at e4
    have bIA:(1:Nat)*3≤16777216:=by decide
    simp only[go_sem,υ,δ,γ,η,θ,ζ,bIY,aKC,bIA]
    refine cX (src:=[(⟨4,v,k⟩:eT).cells]) hO rfl (by unfold roomFor; rw[eY,bIQ]; simp only[bIX,maxLen]; omega) fun v' H' g1 g2=>?_
    rw[jA,bJO,← e4] at g1
    have go:=g2 o _ ho0 (hO.ne ho0 (by decide))
    simp only[go_sem,γ,HZ,ws k]
    exact aC (k+1,v',H') ⟨hlt,g1,go⟩ (by simp only; omega) Lq PH.le_refl
  ·rw[decide_eq_false (show ¬ 0≤x from c),bIV,if_neg (by decide)] at e4
   simp only[go_sem,γ,reduceCtorEq,YN,hat,c,HZ,ws k]
   exact skip _ e4 Lq
 ·have bGO:¬ (k:Int)<(row.length:Nat):=by omega
  have:k=row.length:=by omega
  subst this
  simp only[go_sem,bGO]
  exact Up.up Lq (hK w H0 hO ho0)
theorem biV (f:aE) (p:cF) (row:List Int) {k:Nat} (h0:k≠0) (h:k<f.bGK.length):jV f p row k=(decide (dS f p k>0)&&decide (((row.countP (jJ f k):Nat):Int)>dS f p k)):=by
 have:(dV f row)[k]?=some ((row.countP (jJ f k):Nat):Int):=by
  simp only[dV,bJU,List.getElem?_range h,bJS,mQ,if_neg h0]
 rw[jV,bJE,this,bKK]
theorem baH (f:aE) (hV:VF f) (p:cF) (v:Int) (row:List Int):bL 5 v 1 (jV f p row)=[]:=by
 have h:=hV.root.1
 have h0:(dV f row)[0]?=some 0:=by
  simp only[dV,bJU,List.getElem?_range h,bJS,mQ,if_true]
 have:jV f p row 0=false:=by
  rw[jV,bJE,h0,bKK]
  by_cases c:dS f p 0>0
  ·rw[decide_eq_false (Om:¬ (0:Int)>dS f p 0),bJW]
  ·rw[decide_eq_false c,bIV]
 rw[fR,this]; rfl
theorem bmS {C:Ctx} (L:QL C) (f:aE) (hV:VF f) (p:cF) (o v:Nat) (row:List Int) (hr:tK f row) (l0:List eT) (hl0:l0.length≤200000000) (w0:PV) (K:bX) [Up K] (F:PF) (H:PH)
  (hF:(((((((PF.nil.set 1 (.int .i64 v)).set 2 (ints row)).set 3 (.bGQ f.cells)).set 8 (w0)).set 13 (.ptr o 17 0 0)).set 15 (.int .i64 1)):PF).le F) (hH:aX H 3 w0 (cL l0)) (ho:H o=some (.rows 17 [p.cells]))
  (hK:∀ w H',aX H' 3 w (cL (l0++bL 5 v f.bGK.length (jV f p row)))→K (.exit 8) ((PF.nil.set 8 (w))) H'):aB.wp C (.loop YH) K F H:=by
 have hs:=hV.small.bGK
 refine wp_loop (α:=Nat × PV × PH) (fun t=>((((((PF.nil.set 1 (.int .i64 v)).set 2 (ints row)).set 3 (.bGQ f.cells)).set 8 (t.2.1)).set 13 (.ptr o 17 0 0)).set 15 (.int .i64 t.1))) (fun t=>t.2.2) (fun t=>1≤t.1∧t.1≤f.bGK.length∧aX t.2.2 3 t.2.1 (cL (l0++bL 5 v t.1 (jV f p row)))∧t.2.2 o=some (.rows 17 [p.cells])) (fun t=>f.bGK.length-t.1) (1,w0,H)
  ⟨bIU _,hV.root.1,by rw[baH f hV,bJZ]; exact hH,ho⟩ hF PH.le_refl ?_
 rintro⟨k,w,H0⟩ ⟨hk1,hk,hO,ho0⟩
 simp only at hk1 hk hO ho0 ⊢
 simp only[go_sem,δ,γ,θ,YH,aKE,bIM]
 by_cases hlt:k<f.bGK.length
 ·have bGO:(k:Int)<(f.bGK.length:Nat):=by omega
  have e5:=fR 5 v k (jV f p row)
  have l5:=dB 5 v k (jV f p row)
  rw[biV f p row Om hlt] at e5
  obtain⟨q0,q4,-⟩:=hV.oG hlt
  have h5:((lvl f k)<((5:Nat):Int)):=by omega
  have fin:∀ (F':PF),((((((((PF.nil.set 1 (.int .i64 v)).set 2 (ints row)).set 3 (.bGQ f.cells)).set 8 (w)).set 13 (.ptr o 17 0 0)).set 15 (.int .i64 k)).set 16 (.int .i64 (dS f p k))):PF).le F' →
    aB.wp C (.seq (.region IA) (.cond (.tmp 145) (.region YO) .skip)) (dJ 9 (hC C (aB.wp C (.region yJ)) (dQ (fun t:Nat × PV × PH=>((((((PF.nil.set 1 (.int .i64 v)).set 2 (ints row)).set 3 (.bGQ f.cells)).set 8 (t.2.1)).set 13 (.ptr o 17 0 0)).set 15 (.int .i64 t.1))) (fun t=>t.2.2) (fun t=>1≤t.1∧t.1≤f.bGK.length∧aX t.2.2 3 t.2.1 (cL (l0++bL 5 v t.1 (jV f p row)))∧t.2.2 o=some (.rows 17 [p.cells])) (fun t=>f.bGK.length-t.1) (f.bGK.length-k) K))) F' H0:=by
   intro F' hF'
   refine sG _ (fun _ _ _ _ a b=>Up.up a b) hF' ?_
   have hle:row.countP (jJ f k)≤16777216:=bKG List.countP_le_length hr.len
   generalize dS f p k=mo at *
   by_cases c1:mo>0
   ·rw[decide_eq_true c1,bJC] at e5
    simp only[go_sem,δ,γ,IA,c1]
    refine aA (L.count f row k hV hr hlt) rfl ?_
    by_cases c2:((row.countP (jJ f k):Nat):Int)>mo
    ·rw[decide_eq_true c2,if_pos rfl] at e5
     have bIA:(1:Nat)*3≤16777216:=by decide
     simp only[go_sem,υ,δ,γ,η,θ,ζ,c2,YO,bIA]
     refine cX (src:=[(⟨5,v,k⟩:eT).cells]) hO rfl (by unfold roomFor; rw[eY,bIQ]; simp only[bIX,maxLen]; omega) fun v' H' g1 g2=>?_
     rw[jA,bJO,← e5] at g1
     have go:=g2 o _ ho0 (hO.ne ho0 (by decide))
     simp only[go_sem,γ,yJ,ws k]
     exact aC (k+1,v',H') ⟨by omega,hlt,g1,go⟩ (by simp only; omega) Lq PH.le_refl
    ·rw[decide_eq_false c2,if_neg (by decide)] at e5
     rw[← e5] at hO
     simp only[go_sem,γ,c2,yJ,ws k]
     exact aC (k+1,w,H0) ⟨by omega,hlt,hO,ho0⟩ (by simp only; omega) Lq PH.le_refl
   ·rw[decide_eq_false c1,bIV,if_neg (by decide)] at e5
    rw[← e5] at hO
    simp only[go_sem,γ,reduceCtorEq,IA,c1,yJ,ws k]
    exact aC (k+1,w,H0) ⟨by omega,hlt,hO,ho0⟩ (by simp only; omega) Lq PH.le_refl
  simp only[aB.wp,go_sem,dS] at fin
  simp only[go_sem,δ,γ,θ,bGO,aKF,eI hlt,xY hlt,q0,h5,Nat.mul_one]
  have hc:lvl f k=0∨lvl f k=1∨lvl f k=2∨lvl f k=3∨lvl f k=4:=by omega
  rcases hc with h | h | h | h | h
  all_goals
   rw[h] at fin ⊢
   simp only[go_sem,ν,δ,γ,θ,ho0]
   exact fin _ (by (repeat' (first|exact PF.nil_le|refine PF.aF ?_ ?_))<;>first|(simp only[go_sem,ν,γ,cF.spread]<;>rfl)|rfl)
 ·have bGO:¬ (k:Int)<(f.bGK.length:Nat):=by omega
  have:k=f.bGK.length:=by omega
  subst this
  simp only[go_sem,bGO]
  exact Up.up Lq (hK w H0 hO)
theorem bpT {f:aE} {row:List Int} (hl:row.length≤16777216) (h:eA (gZ f) row 0=none):tK f row:=⟨hl,fun x hx=>by
 have:=uX h x hx
 simp[gZ] at this
 omega⟩
theorem btN {C:Ctx} (L:QL C) (f:aE) (hV:VF f) (bHX:∀ p∈f.bGL,Fits p.bGH) (v:Nat) (hvf:v<f.bGJ.length) (row:List Int) (hrl:row.length≤16777216) :
  OL.wp C (aR a8G.res (bP (lN (aIV f v row)))) (PF.args [.agg f.cells,.int .i64 v,ints row]) .nil:=by
 have h13:(1:Nat)*3≤16777216:=by decide
 simp only[go_sem,δ,γ,OL,aYR,aYS,a8G,bIM]
 refine aA (L.frag f v hV hvf) rfl ?_
 unfold aIV
 by_cases c:((row.length:Nat):Int)=kS f v
 ·rw[if_pos c]
  simp only[go_sem,δ,γ,bV c,aYU]
  refine aA (L.bad f row hrl) rfl ?_
  cases hb:eA (gZ f) row 0 with
  | some i =>
   have hbi:sM f row=(i:Int):=by rw[sM,hb]
   simp only[go_sem,υ,δ,γ,η,θ,ζ,alV,hbi,show (i:Int)≥0 by omega,aYV,h13]
   exact aV (.inr rfl) .nil rfl PH.nil_le ⟨.refl _,rfl⟩
  | none =>
   have hbi:sM f row=-1:=by rw[sM,hb]
   have hr:=bpT hrl hb
   obtain⟨hp,he⟩:=yD hV hvf
   have hms:=bHX _ (bIS hp)
   rw[he] at hms
   have hs:=hV.small
   have s1:=hs.bGG
   have s2:=hs.bGK
   have l2:=dB 2 v row.length (home row)
   have l3:=dB 3 v f.bGG.length (jF f row)
   have l4:=dB 4 v row.length (cP f (fK f v) row)
   simp only[go_sem,ο,γ,alV,hbi,show ¬ (-1:Int)≥0 by omega,aYW,aYX]
   have p1:=btF (C:=C) f v row hr
   simp only[aB.wp,go_sem] at p1
   refine p1 _ _ _ Lq fun w1 H1 g1=>?_
   simp only[go_sem,aJS]
   have p2:=bmT (C:=C) f hV v row hrl (bL 2 v row.length (home row)) Om w1
   simp only[aB.wp,go_sem] at p2
   refine p2 _ _ _ Lq g1 fun w2 H2 g2=>?_
   simp only[go_sem]
   refine bK .nil dC PH.nil_le ?_
   simp only[go_sem,δ,γ,θ,aJZ,wK hvf,hV.adN hvf,pO hp,he]
   refine aO fun o ho=>?_
   simp only[go_sem,δ,γ,aKA]
   have p3:=bmR L f hV (fK f v) hms o v row hr (bL 2 v row.length (home row)++bL 3 v f.bGG.length (jF f row)) (by rw[bIQ]; omega) w2
   simp only[aB.wp,go_sem] at p3
   refine⟨PH.nil_le,?_⟩
   refine p3 _ _ _ Lq (g2.fresh ho _).1 Sq fun w3 H3 g3 k3=>?_
   simp only[go_sem,aKD]
   have p4:=bmS L f hV (fK f v) o v row hr (bL 2 v row.length (home row)++bL 3 v f.bGG.length (jF f row)++bL 4 v row.length (cP f (fK f v) row)) (by simp only[bIQ]; omega) w3
   simp only[aB.wp,go_sem] at p4
   refine p4 _ _ _ Lq g3 k3 fun w4 H4 g4=>?_
   simp only[go_sem,γ,aKG]
   exact jZ (.inr rfl) g4 rfl
 ·rw[if_neg c]
  simp only[go_sem,υ,δ,γ,η,θ,ζ,cQ c,aYT,h13,bIM]
  exact aV (.inr rfl) .nil rfl PH.nil_le ⟨.refl _,rfl⟩
structure ajN (C:Ctx):Prop extends rE C where
 room:∀ (f:aE) (room:List Int),f.Ok→aH C 85 [.agg f.cells,ints room] .nil (aD (ints (lY f room)))
 loads:∀ (f:aE) (l:List (List Int)),f.Ok→eQ l→aH C 84 [.agg f.cells,lay l] .nil (aD (ints (lH f l)))
 row:∀ (f:aE) (v:Nat) (row:List Int),VF f→(∀ p∈f.bGL,Fits p.bGH)→v<f.bGJ.length→row.length≤16777216→aH C 90 [.agg f.cells,.int .i64 v,ints row] .nil (aD (lN (aIV f v row)))
def svS (f:aE) (l:List (List Int)) (room:List Int):Spec:=fun name vs=>match name,vs with
 | 90,[_,.int _ v,_]=>some ([],fun _=>aD (lN (rW f l v.toNat)))
 | 85,_=>some ([],fun _=>aD (ints (lY f room)))
 | 84,_=>some ([],fun _=>aD (ints (lH f l)))
 | _,_=>none
theorem btP {C:Ctx} (f:aE) (hV:VF f) (l:List (List Int)) (room:List Int) (l0:List eT) (hl0:l0.length≤2000000000) (w0:PV) (K:bX) [Up K] (F:PF) (H:PH)
  (hF:(((((PF.nil.set 7 (w0)).set 9 (ints (fM f room))).set 10 (ints (eV f l))).set 11 (.int .i64 0)):PF).le F) (hO:aX H 3 w0 (cL l0))
  (hK:∀ w H',aX H' 3 w (cL (l0++bL 6 (-1) f.bGG.length (over f l room)))→K (.exit 2) ((PF.nil.set 7 (w))) H'):aB.wp C (.loop ON) K F H:=by
 have hs:=hV.small.bGG
 have hrl:=oK f room
 refine wp_loop (α:=Nat × PV × PH) (fun t=>((((PF.nil.set 7 (t.2.1)).set 9 (ints (fM f room))).set 10 (ints (eV f l))).set 11 (.int .i64 t.1))) (fun t=>t.2.2) (fun t=>t.1≤f.bGG.length∧aX t.2.2 3 t.2.1 (cL (l0++bL 6 (-1) t.1 (over f l room)))) (fun t=>f.bGG.length-t.1) (0,w0,H)
  ⟨bIT _,by rw[show bL 6 (-1) 0 (over f l room)=[] from rfl,bJZ]; exact hO⟩ hF PH.le_refl ?_
 rintro⟨k,w,H0⟩ ⟨hk,g7⟩
 simp only at hk g7 ⊢
 simp only[go_sem,ο,γ,ON,arL,bIM,hrl]
 by_cases hlt:k<f.bGG.length
 ·have bGO:(k:Int)<(f.bGG.length:Nat):=by omega
  have hk1:k<(eV f l).length:=by rw[eV,fH]; exact hlt
  have hk2:k<(fM f room).length:=by rw[oK]; exact hlt
  have a1:((eV f l).map fun n=>[PV.int .i64 n])[k]?=some [.int .i64 (eV f l)[k]]:=by simp[hk1]
  have a2:((fM f room).map fun n=>[PV.int .i64 n])[k]?=some [.int .i64 (fM f room)[k]]:=by simp[hk2]
  have ho:over f l room k=decide ((eV f l)[k]>(fM f room)[k]):=by simp only[over,bJE,bIZ hk1,bIZ hk2,bKK]
  have e6:=fR 6 (-1) k (over f l room)
  have l6:=dB 6 (-1) k (over f l room)
  rw[ho] at e6
  generalize (eV f l)[k]=x at *
  generalize (fM f room)[k]=y at *
  simp only[go_sem,ο,bGO]
  refine bK .nil dC PH.nil_le ?_
  by_cases c:x>y
  ·rw[if_pos (decide_eq_true c)] at e6
   have bIA:(1:Nat)*3≤16777216:=by decide
   simp only[go_sem,ο,υ,δ,γ,η,θ,ζ,OO,a1,a2,c,arM,bIA]
   refine cX (src:=[(⟨6,-1,k⟩:eT).cells]) g7 rfl (by unfold roomFor; rw[eY,bIQ]; simp only[bIX,maxLen]; omega) fun v' H' k1 _=>?_
   rw[jA,bJO,← e6] at k1
   simp only[go_sem,ο,γ,OP,ws k]
   exact aC (k+1,v',H') ⟨hlt,k1⟩ (by simp only; omega) Lq PH.le_refl
  ·rw[if_neg (by rw[decide_eq_false c]; decide)] at e6
   rw[← e6] at g7
   simp only[go_sem,ο,γ,OO,a1,a2,c,OP,ws k]
   exact aC (k+1,w,H0) ⟨hlt,g7⟩ (by simp only; omega) Lq PH.le_refl
 ·have bGO:¬ (k:Int)<(f.bGG.length:Nat):=by omega
  have:k=f.bGG.length:=by omega
  subst this
  simp only[go_sem,ο,bGO]
  exact Up.up Lq (hK w H0 g7)
theorem bnF {C:Ctx} (L:ajN C) (f:aE) (hf:f.Ok) (l:List (List Int)) (hl:eQ l) (room:List Int) :
  IE.wp C (aR ayC.res (bP (lN (jG f l room)))) (PF.args [.agg f.cells,lay l,ints room]) .nil:=by
 simp only[go_sem,δ,γ,IE,aKJ,aKK,ayC]
 refine aA (L.valid f hf) rfl ?_
 unfold jG
 have hlr:=hl.rows
 have bHX:∀ p∈f.bGL,Fits p.bGH:=fun p hp=>(hf.bGW p hp).bGH
 cases hv:cU f with
 | false =>
  simp only[go_sem,ο,γ,reduceCtorEq,bIY,aKL]
  exact jZ (rows:=[]) (.inr rfl) .nil rfl
 | true =>
  have hV:=VF.of hv
  by_cases c:l.length=f.bGJ.length
  ·have c':(((l.length:Nat):Int) != ((f.bGJ.length:Nat):Int))=false:=bV Om
   rw[if_pos c]
   have hv12:=hV.small.bGJ
   simp only[go_sem,γ,bIO,YR,bIM,c',aKN,aKO]
   refine wp_loop (α:=Nat × PV × PH) (fun t=>(((((PF.nil.set 1 (lay l)).set 2 (ints room)).set 3 (.bGQ f.cells)).set 7 (t.2.1)).set 8 (.int .i64 t.1))) (fun t=>t.2.2) (fun t=>t.1≤l.length∧aX t.2.2 3 t.2.1 (cL (nM f l t.1))) (fun t=>l.length-t.1) (0,.bGI,.nil) ⟨bIT _,.nil⟩ Lq PH.nil_le ?_
   rintro⟨k,w,H0⟩ ⟨hk,hO⟩
   simp only at hk hO ⊢
   simp only[go_sem,γ,arI,aKP,bIM]
   by_cases hlt:k<l.length
   ·have bGO:(k:Int)<(l.length:Nat):=by omega
    have hfl:=qM hV.small hl (n:=k) Om
    have bHE:=EU f l k
    have bIA:=XQ hV.small hl hlt
    have hrl:(l[k]).length≤16777216:=by
     have h1:=sO l (k+1)
     have:=hl.all
     rw[mL l hlt,bIQ] at h1
     omega
    have hat:(l.map fun r=>[ints r])[k]?=some [ints l[k]]:=by simp[hlt]
    have bGV:=L.row f k l[k] hV bHX Om hrl
    rw[← show l.getD k []=l[k] by simp[bJE,hlt],← bmF] at bGV
    rw[show l.getD k []=l[k] by simp[bJE,hlt]] at bGV
    simp only[go_sem,bGO]
    refine bK .nil (svS f l room) PH.nil_le ?_
    simp only[go_sem,δ,γ,aKQ,hat]
    refine bC (show svS f l room 90 [.agg f.cells,.int .i64 k,ints l[k]]=some ([],fun _=>aD (lN (rW f l k))) from rfl) bGV rfl PH.nil_le ?_
    simp only[go_sem,γ]
    refine cX (src:=cL (rW f l k)) hO rfl (by unfold roomFor; rw[eY,eY]; simp only[maxLen]; omega) fun v' H' k1 _=>?_
    have hvr:cL (nM f l k)++cL (rW f l k)=cL (nM f l (k+1)):=by rw[bHE]; simp only[cL,bKV]
    rw[hvr] at k1
    refine⟨PH.nil_le,?_⟩
    simp only[go_sem,γ,aKR,ws k]
    exact aC (k+1,v',H') ⟨hlt,k1⟩ (by simp only; omega) Lq PH.le_refl
   ·have bGO:¬ (k:Int)<(l.length:Nat):=by omega
    have:k=l.length:=by omega
    subst this
    have hfl:=qM hV.small hl (n:=l.length) (bIU _)
    have bHO:=L.room f room hf
    have hloads:=L.loads f l hf hl
    have e1:lY f room=fM f room:=by rw[lY,hv]; rfl
    have e2:lH f l=eV f l:=by rw[lH,hv]; rfl
    simp only[go_sem,bGO]
    refine bK .nil (svS f l room) PH.nil_le ?_
    simp only[go_sem,δ,γ,arJ]
    refine bC (show svS f l room 85 [.agg f.cells,ints room]=some ([],fun _=>aD (ints (lY f room))) from rfl) bHO rfl PH.nil_le ?_
    simp only[go_sem,δ,γ]
    refine bC (show svS f l room 84 [.agg f.cells,lay l]=some ([],fun _=>aD (ints (lH f l))) from rfl) hloads rfl PH.nil_le ?_
    rw[e1,e2]
    simp only[go_sem,γ,arK]
    have p1:=btP (C:=C) f hV l room (nM f l l.length) Om w
    simp only[aB.wp,go_sem] at p1
    refine p1 _ _ H0 Lq hO fun w' H' hO'=>?_
    simp only[go_sem,γ,arN]
    exact jZ (.inr rfl) hO' rfl
  ·have c':(((l.length:Nat):Int) != ((f.bGJ.length:Nat):Int))=true:=cQ Om
   have h13:(1:Nat)*3≤16777216:=by decide
   rw[if_neg c]
   simp only[go_sem,ο,υ,δ,γ,η,θ,ζ,bIO,YR,bIM,c',aKM,h13]
   exact aV (.inr rfl) .nil rfl PH.nil_le ⟨.refl _,rfl⟩
structure baE (C:Ctx):Prop extends ajN C where
 viol:∀ (f:aE) (l:List (List Int)) (room:List Int),f.Ok→eQ l→aH C 87 [.agg f.cells,lay l,ints room] .nil (aD (lN (jG f l room)))
theorem bfM {C:Ctx} (L:baE C) (f:aE) (hf:f.Ok) (l:List (List Int)) (hl:eQ l) (room:List Int) :
  BU.wp C (aR aeG.res (aD (.bool (oE f l room)))) (PF.args [.agg f.cells,lay l,ints room]) .nil:=by
 simp only[go_sem,δ,γ,BU,aqU,aqV,aeG]
 refine aA (L.valid f hf) rfl ?_
 unfold oE
 cases hv:cU f with
 | false =>
  simp only[go_sem,γ,reduceCtorEq]
  refine aM (.inr rfl) rfl ?_
  rfl
 | true =>
  simp only[go_sem,δ,γ]
  refine aA (L.viol f l room hf hl) rfl ?_
  by_cases c:(jG f l room).length=0
  ·simp only[go_sem,γ,bIM,bO (show (((jG f l room).length:Nat):Int)=0 by omega)]
   refine aM (.inr rfl) rfl ?_
   simp[bH,c]
  ·simp only[go_sem,γ,bIM,bF (show (((jG f l room).length:Nat):Int)≠0 by omega)]
   refine aM (.inr rfl) rfl ?_
   rw[bH,decide_eq_false c]
theorem bjB {C:Ctx} (l:List Int) (hl:Fits l):EQ.wp C (aR axK.res (aD (.bool true))) (PF.args [ints l,ints l]) .nil:=by
 have hl':l.length≤9223372036854775807:=hl
 simp only[go_sem,γ,reduceCtorEq,EQ,aAE,aAF,axK,bIM,bV (show ((l.length:Nat):Int)=(l.length:Nat) from rfl),aAG]
 refine wp_loop (α:=Nat) (fun k=>(((PF.nil.set 0 (ints l)).set 1 (ints l)).set 5 (.int .i64 k))) (fun _=>.nil) (fun k=>k≤l.length) (fun k=>l.length-k) 0 (bIT _) Lq PH.nil_le ?_
 intro k hk
 simp only[go_sem,γ,reduceCtorEq,aAD,aAH,bIM]
 by_cases hlt:k<l.length
 ·have bGO:(k:Int)<(l.length:Nat):=by omega
  have hat:(l.map fun x=>[PV.int .i64 x])[k]?=some [.int .i64 l[k]]:=by simp[hlt]
  simp only[go_sem,bGO]
  refine bK .nil dC PH.nil_le ?_
  simp only[go_sem,γ,reduceCtorEq,aAI,hat,bV (show l[k]=l[k] from rfl),aAJ,ws k]
  exact aC (k+1) hlt Om Lq PH.le_refl
 ·have bGO:¬ (k:Int)<(l.length:Nat):=by omega
  simp only[go_sem,bGO,aAK]
  refine aM (.inr rfl) rfl ?_
  rfl
theorem bkL {C:Ctx} (l:List eT) (hl:Fits l):FU.wp C (aR axT.res (aD (.bool true))) (PF.args [lN l,lN l]) .nil:=by
 have hl':l.length≤9223372036854775807:=hl
 simp only[go_sem,γ,reduceCtorEq,FU,aEG,aEH,axT,bIM,bV (show ((l.length:Nat):Int)=(l.length:Nat) from rfl),aEI]
 refine wp_loop (α:=Nat) (fun k=>(((PF.nil.set 0 (lN l)).set 1 (lN l)).set 5 (.int .i64 k))) (fun _=>.nil) (fun k=>k≤l.length) (fun k=>l.length-k) 0 (bIT _) Lq PH.nil_le ?_
 intro k hk
 simp only[go_sem,γ,reduceCtorEq,aEF,aEJ,bIM]
 by_cases hlt:k<l.length
 ·have bGO:(k:Int)<(l.length:Nat):=by omega
  have hat:(l.map eT.cells)[k]?=some (l[k]).cells:=by simp[hlt]
  simp only[go_sem,bGO]
  refine bK .nil dC PH.nil_le ?_
  simp only[go_sem,δ,γ,reduceCtorEq,aEK,hat,beq_self_eq_true,aEL,ws k]
  exact aC (k+1) hlt Om Lq PH.le_refl
 ·have bGO:¬ (k:Int)<(l.length:Nat):=by omega
  simp only[go_sem,bGO,aEM]
  refine aM (.inr rfl) rfl ?_
  rfl
structure bpE (C:Ctx):Prop extends ZP C where
 rat:∀ f:aE,f.Ok→∀ d level:Int,aH C 78 [.agg f.cells,.int .i64 d,.int .i64 level] .nil (aD (.int .i64 (atP f d level)))
 rchild:∀ f:aE,f.Ok→∀ d:Int,aH C 79 [.agg f.cells,.int .i64 d] .nil (aD (ints (rH f d)))
 rdrives:∀ f:aE,f.Ok→∀ d:Int,aH C 81 [.agg f.cells,.int .i64 d] .nil (aD (ints (mF f d)))
 rholds:∀ (f:aE) (l:List (List Int)) (room:List Int),f.Ok→eQ l→aH C 83 [.agg f.cells,lay l,ints room] .nil (aD (.bool (oE f l room)))
 rloads:∀ (f:aE) (l:List (List Int)),f.Ok→eQ l→aH C 84 [.agg f.cells,lay l] .nil (aD (ints (lH f l)))
 rroom:∀ (f:aE) (room:List Int),f.Ok→aH C 85 [.agg f.cells,ints room] .nil (aD (ints (lY f room)))
 rshaped:∀ (f:aE) (l:List (List Int)),f.Ok→eQ l→aH C 86 [.agg f.cells,lay l] .nil (aD (.bool (qU f l)))
 rviol:∀ (f:aE) (l:List (List Int)) (room:List Int),f.Ok→eQ l→aH C 87 [.agg f.cells,lay l,ints room] .nil (aD (lN (jG f l room)))
 same:∀ l:List Int,Fits l→aH C 94 [ints l,ints l] .nil (aD (.bool true))
 list:∀ l:List eT,Fits l→aH C 22 [lN l,lN l] .nil (aD (.bool true))
theorem aPI {f:aE} (hf:f.Ok) (d:Int):Fits (mF f d):=by
 unfold mF
 split
 ·exact bKG (tA _ _) hf.bGG
 ·exact bIT _
theorem a3M {f:aE} (hf:f.Ok) (d:Int):Fits (rH f d):=by
 unfold rH
 split
 ·exact bKG (tA _ _) hf.bGK
 ·exact bIT _
theorem a3N {f:aE} (hf:f.Ok) (l:List (List Int)):Fits (lH f l):=by
 unfold lH
 split
 ·unfold Fits
  rw[eV,fH]; exact hf.bGG
 ·exact bIT _
theorem baU {f:aE} (hf:f.Ok) (l:List Int):Fits (lY f l):=by
 unfold lY
 split
 ·unfold Fits
  rw[oK]; exact hf.bGG
 ·exact bIT _
theorem baV {f:aE} {l:List (List Int)} (hl:eQ l) (room:List Int):Fits (jG f l room):=by
 unfold jG Fits
 split
 ·rename_i hv
  have hV:=VF.of hv
  split
  ·rename_i he
   have h1:=qM hV.small hl (n:=l.length) (bIU _)
   have h2:=dB 6 (-1) f.bGG.length (over f l room)
   have h3:=hV.small.bGJ
   have h4:=hV.small.bGG
   rw[bpO,bIQ]
   omega
  ·simp
 ·simp
def agS (f:aE) (l:List (List Int)) (room:List Int) (d level dom:Int):Spec:=fun name _=>match name with
 | 147 | 78=>some ([],fun _=>aD (.int .i64 (atP f d level)))
 | 149 | 81=>some ([],fun _=>aD (ints (mF f dom)))
 | 148 | 79=>some ([],fun _=>aD (ints (rH f dom)))
 | 151 | 84=>some ([],fun _=>aD (ints (lH f l)))
 | 152 | 85=>some ([],fun _=>aD (ints (lY f room)))
 | 153 | 86=>some ([],fun _=>aD (.bool (qU f l)))
 | 154 | 87=>some ([],fun _=>aD (lN (jG f l room)))
 | 150 | 83=>some ([],fun _=>aD (.bool (oE f l room)))
 | 94 | 22=>some ([],fun _=>aD (.bool true))
 | _=>none
theorem aSO (b:Bool):((b==b) != false)=true:=by cases b<;>rfl
theorem a4O {C:Ctx} (L:bpE C) (f:aE) (hf:f.Ok) (l:List (List Int)) (hl:eQ l) (room:List Int) (d level dom:Int) :
  xW.wp C (aR RD.res (aD (.bool true))) (PF.args [.agg f.cells,lay l,ints room,.int .i64 d,.int .i64 level,.int .i64 dom]) .nil:=by
 have b1:=aSO (qU f l)
 have b2:=aSO (oE f l room)
 simp only[go_sem,xW,abM,RD]
 refine bK .nil (agS f l room d level dom) PH.nil_le ?_
 simp only[go_sem,δ,γ,abN]
 refine bC rfl (L.at_ f hf d level) rfl PH.nil_le ?_
 simp only[go_sem,δ,γ]
 refine bC rfl (L.rat f hf d level) rfl PH.nil_le ?_
 simp only[go_sem,δ,γ,bO (show atP f d level=atP f d level from rfl)]
 refine bC rfl (L.bGG f hf dom) rfl PH.nil_le ?_
 simp only[go_sem,δ,γ]
 refine bC rfl (L.rdrives f hf dom) rfl PH.nil_le ?_
 simp only[go_sem,γ]
 refine bC rfl (L.same _ (aPI hf dom)) rfl PH.nil_le ?_
 simp only[go_sem,δ,γ]
 refine bC rfl (L.child f hf dom) rfl PH.nil_le ?_
 simp only[go_sem,δ,γ]
 refine bC rfl (L.rchild f hf dom) rfl PH.nil_le ?_
 simp only[go_sem,γ]
 refine bC rfl (L.same _ (a3M hf dom)) rfl PH.nil_le ?_
 simp only[go_sem,δ,γ]
 refine bC rfl (L.loads f l hf hl) rfl PH.nil_le ?_
 simp only[go_sem,δ,γ]
 refine bC rfl (L.rloads f l hf hl) rfl PH.nil_le ?_
 simp only[go_sem,γ]
 refine bC rfl (L.same _ (a3N hf l)) rfl PH.nil_le ?_
 simp only[go_sem,δ,γ]
 refine bC rfl (L.room f room hf) rfl PH.nil_le ?_
 simp only[go_sem,δ,γ]
 refine bC rfl (L.rroom f room hf) rfl PH.nil_le ?_
 simp only[go_sem,γ]
 refine bC rfl (L.same _ (baU hf room)) rfl PH.nil_le ?_
 simp only[go_sem,δ,γ]
 refine bC rfl (L.shaped f l hf hl) rfl PH.nil_le ?_
 simp only[go_sem,δ,γ]
 refine bC rfl (L.rshaped f l hf hl) rfl PH.nil_le ?_
 simp only[go_sem,δ,γ,b1]
 refine bC rfl (L.viol f l room hf hl) rfl PH.nil_le ?_
 simp only[go_sem,δ,γ]
 refine bC rfl (L.rviol f l room hf hl) rfl PH.nil_le ?_
 simp only[go_sem,γ]
 refine bC rfl (L.list _ (baV hl room)) rfl PH.nil_le ?_
 simp only[go_sem,δ,γ]
 refine bC rfl (L.holds f l room hf hl) rfl PH.nil_le ?_
 simp only[go_sem,δ,γ]
 refine bC rfl (L.rholds f l room hf hl) rfl PH.nil_le ?_
 simp only[go_sem,γ,b2]
 refine aM (.inr rfl) rfl ?_
 rfl
def fU (l:List (List Int)):Nat→Nat
 | 0=>l.length
 | k+1=>fU l k+(l.getD k []).length
theorem SK (l:List (List Int)):∀ k,k≤l.length→fU l k=l.length+(l.take k).flatten.length
 | 0,_=>by simp[fU]
 | k+1,h=>by
  rw[fU,SK l k Om,mL l h,bIQ,bJE,bIZ h,bKK]
  omega
theorem SL (l:List (List Int)):∀ {k n:Nat},k≤n→fU l k≤fU l n
 | k,0,h=>by rw[Nat.le_zero.1 h]; exact bIU _
 | k,n+1,h=>by
  rcases bJG k (n+1) with h1 | h1
  ·rw[fU]
   have:=SL l (k:=k) (n:=n) Om
   omega
  ·rw[show k=n+1 by omega]; exact bIU _
def MH (l:List (List Int)):Bool:=decide (300≤fU l l.length)
theorem bkC {l:List (List Int)} (h:MH l=false):eQ l:=by
 have h1:=of_decide_eq_false h
 rw[SK l l.length (bIU _),bJN] at h1
 exact⟨by omega,by omega⟩
theorem bcE {C:Ctx} (l:List (List Int)) (hl:l.length≤1000000000000000) (hr:∀ r∈l,r.length≤1000000000000000) :
  AV.wp C (aR abP.res (aD (.bool (MH l)))) (PF.args [lay l]) .nil:=by
 simp only[go_sem,γ,reduceCtorEq,AV,anP,anQ,anR,abP,bIM]
 refine wp_loop (α:=Nat) (fun k=>(((PF.nil.set 0 (lay l)).set 3 (.int .i64 (fU l k:Nat))).set 4 (.int .i64 k))) (fun _=>.nil) (fun k=>k≤l.length∧fU l k≤2000000000000000) (fun k=>l.length-k) 0 ⟨bIT _,by rw[fU]; omega⟩ (by (repeat' (first|exact PF.nil_le|refine PF.aF ?_ ?_))<;>first|(simp only[go_sem,γ,reduceCtorEq,fU]<;>rfl)|rfl) PH.nil_le ?_
 rintro k ⟨hk,hb⟩
 have hm:=SL l hk
 unfold MH
 simp only[go_sem,γ,reduceCtorEq,anO,anS,bIM]
 by_cases hlt:k<l.length
 ·have bGO:(k:Int)<(l.length:Nat):=by omega
  by_cases c:fU l k<300
  ·have c':((fU l k:Nat):Int)<300:=by omega
   have hat:(l.map fun r=>[ints r])[k]?=some [ints l[k]]:=by simp[hlt]
   have hrk:=hr _ (bIS hlt)
   have hs:fU l (k+1)=fU l k+(l[k]).length:=by rw[fU]; simp[bJE,hlt]
   have hw:IntKind.i64.wrap (((fU l k:Nat):Int)+((l[k]).length:Nat))=(fU l (k+1):Nat):=by
    rw[hs,wrap_i64 Om Om]; omega
   simp only[go_sem,γ,reduceCtorEq,bGO,c',anT,hat,bIM,hw,anU,ws k]
   exact aC (k+1) ⟨hlt,by rw[hs]; omega⟩ Om Lq PH.le_refl
  ·have c':¬ ((fU l k:Nat):Int)<300:=by omega
   simp only[go_sem,γ,reduceCtorEq,bGO,c',ML,show ((fU l k:Nat):Int)≥300 by omega]
   refine aM (.inr rfl) rfl ?_
   rw[bH,decide_eq_true (Om:300≤fU l l.length)]
 ·have bGO:¬ (k:Int)<(l.length:Nat):=by omega
  have:k=l.length:=by omega
  subst this
  simp only[go_sem,γ,reduceCtorEq,bGO,ML]
  refine aM (.inr rfl) rfl ?_
  rw[bH]
  exact congrArg PV.bool (decide_eq_decide.2 Om)
structure fT (C:Ctx):Prop extends baB C where
 r19:aL C 19 RD
 r21:aL C 21 abP
 r22:aL C 22 axT
 r46:aL C 46 aNO
 r48:aL C 48 agQ
 r49:aL C 49 ayR
 r51:aL C 51 agZ
 r52:aL C 52 RW
 r53:aL C 53 ayT
 r54:aL C 54 ayU
 r55:aL C 55 a9K
 r56:aL C 56 ahF
 r57:aL C 57 ayQ
 r60:aL C 60 ahE
 r61:aL C 61 zN
 r62:aL C 62 RY
 r63:aL C 63 ahG
 r64:aL C 64 RX
 r65:aL C 65 RZ
 r66:aL C 66 a9W
 r67:aL C 67 aiK
 r68:aL C 68 a9V
 r69:aL C 69 a9T
 r70:aL C 70 ahW
 r71:aL C 71 ahX
 r72:aL C 72 JS
 r73:aL C 73 ahY
 r74:aL C 74 ahZ
 r75:aL C 75 SA
 r76:aL C 76 EH
 r77:aL C 77 HR
 r78:aL C 78 sat
 r79:aL C 79 adU
 r80:aL C 80 adW
 r81:aL C 81 RN
 r83:aL C 83 aeG
 r84:aL C 84 aeH
 r85:aL C 85 ayB
 r86:aL C 86 RP
 r87:aL C 87 ayC
 r88:aL C 88 adT
 r89:aL C 89 a7Z
 r90:aL C 90 a8G
 r94:aL C 94 axK
theorem a7P {C:Ctx} (c:fT C):axJ C :=
 {adP c.todY with
  int:=fun n hn=>(c.r47.go (a1C (adP c.todY) n hn) rfl).seen
  mul:=fun a b ha hb la lb=>(c.r36.go (btY (beP c.todY) a b ha hb la lb) rfl).seen
  add:=fun a b ha hb la lb=>(c.r30.go (btQ (aIN c.todY) a b ha hb la lb) rfl).seen
  sub:=fun a b ha hb la lb=>(c.r37.go (buC (aIN c.todY) a b ha hb la lb) rfl).seen }
theorem aIO {C:Ctx} (c:fT C):ZV C :=
 {a7P c with
  valid:=fun x hx=>c.r56.go (bhT (a7P c) x.neg x.num x.den hx.1 hx.2.1 hx.2.2.1 hx.2.2.2) rfl
  big:=fun x=>c.r48.go (bhN x.1 (aG x.2.1) (aG x.2.2)) rfl }
theorem beQ {C:Ctx} (c:fT C):azG C :=
 {aIO c with
  fits:=fun x=>(c.r57.go (boL (aIO c) x) rfl).seen
  red:=fun x hx=>(c.r52.go (a9I (aIO c) x hx) rfl).seen
  prod:=fun a b ha hb la lb na nb=>c.r60.go (bhR (a7P c) a b ha hb la lb na nb) rfl }
theorem NV {C:Ctx} (c:fT C):xH C :=
 {beQ c with
  order:=fun x y hx hy vx vy=>c.r51.go (bhP (beQ c) x y hx hy vx vy) rfl }
theorem bpM {C:Ctx} (c:fT C):a2M C :=
 {NV c with
  less:=fun x y hx hy vx vy=>c.r49.go (boO (NV c) x y hx hy vx vy) rfl
  same:=fun x y hx hy vx vy=>c.r53.go (boS (NV c) x y hx hy vx vy) rfl
  sign:=fun x hx vx=>c.r54.go (boU (NV c) x hx vx) rfl
  plus:=fun x y hx hy=>(c.r46.go (buE (NV c) x y hx hy) rfl).seen }
theorem aIL {C:Ctx} (c:fT C):ZR C :=
 {bpM c with
  sum:=fun l hl hf=>(c.r55.go (buJ (bpM c) l hl hf) rfl).seen
  inn:=fun n lo hi=>c.r76.go (a9Z n lo hi) rfl
  code:=fun k m=>c.r61.go (bmV k m) rfl }
theorem aYD {C:Ctx} (c:fT C):ajH C :=
 {aIL c with
  small:=fun x hx=>c.r74.go (biG (aIL c) x hx) rfl
  nums:=fun k m q s0 s1 s2 s3 s4=>c.r72.go (aSK (aIL c) k m q s0 s1 s2 s3 s4) rfl
  sizes:=fun x1 x2 x3 x4 x5 x6=>c.r73.go (biE x1 x2 x3 x4 x5 x6) rfl }
theorem aYE {C:Ctx} (c:fT C):ajI C :=
 {aYD c with
  smalls:=fun l hl n=>c.r75.go (a9X (aYD c) l hl n) rfl }
theorem aYF {C:Ctx} (c:fT C):ajJ C :=
 {aYE c with
  reps:=fun l hl m=>c.r66.go (buR (aYE c) l hl m) rfl }
theorem aYG {C:Ctx} (c:fT C):ajK C :=
 have letter:∀ n:Nat,aH C 65 [.int .u8 n] .nil (aD (.bool (fE n))):=fun n=>c.r65.go (a9P n) rfl
 have digit:∀ n:Nat,aH C 63 [.int .u8 n] .nil (aD (.bool (lE n))):=fun n=>c.r63.go (bhV n) rfl
 {aYF c with
  name:=fun s=>c.r62.go (a9N letter (fun n=>c.r64.go (a9L letter digit n) rfl) s) rfl
  index:=fun l hl s=>c.r71.go (biB l hl s) rfl }
theorem aYH {C:Ctx} (c:fT C):oO C :=
 {aYG c with
  fresh:=fun l hl s w H hH=>c.r70.go (bhZ (aYG c) l hl s w H hH) rfl }
theorem btA {C:Ctx} (c:fT C):qK C :=
 {aYH c with
  law:=fun l hl=>c.r68.go (buP (aYH c) l hl) rfl }
theorem btB {C:Ctx} (c:fT C):ajL C :=
 {btA c with
  dur:=fun m rep hr t h ht hh=>c.r69.go (buN (aYF c) m rep hr t h ht hh) rfl }
theorem uN {C:Ctx} (c:fT C):rE C :=
 {valid:=fun f hf=>c.r67.go (biK (btB c) f hf) rfl
  kR:=fun f d level hv hd h0 h4=>c.r88.go (beY f hv d hd level h0 h4) rfl
  frag:=fun f v hv h=>(c.r82.go (bmX f hv v h) rfl).seen }
theorem aYI {C:Ctx} (c:fT C):ajM C :=
 {uN c with
  bad:=fun f row hl=>c.r89.go (btG f row hl) rfl }
theorem btC {C:Ctx} (c:fT C):QL C :=
 {aYI c with
  allowed:=fun f p d hV hp hd=>c.r77.go (aRZ f hV p hp d hd) rfl
  count:=fun f row n hV hr hn=>c.r80.go (bfF (uN c) f hV row hr n hn) rfl }
theorem RJ {C:Ctx} (c:fT C):ajN C :=
 {uN c with
  room:=fun f room hf=>(c.r85.go (bnB (uN c) f hf room) rfl).seen
  loads:=fun f l hf hl=>(c.r84.go (bfQ (uN c) f hf l hl) rfl).seen
  row:=fun f v row hV bHX hvf hrl=>(c.r90.go (btN (btC c) f hV bHX v hvf row hrl) rfl).seen }
theorem beM {C:Ctx} (c:fT C):baE C :=
 {RJ c with
  viol:=fun f l room hf hl=>(c.r87.go (bnF (RJ c) f hf l hl room) rfl).seen }
theorem bzB {C:Ctx} (c:fT C) (hi:uV C):bpE C :=
 {aDZ c.todY hi with
  rat:=fun f hf d level=>c.r78.go (bwN (uN c) f hf d level) rfl
  rchild:=fun f hf d=>(c.r79.go (bfD (uN c) f hf d) rfl).seen
  rdrives:=fun f hf d=>(c.r81.go (a8A (uN c) f hf d) rfl).seen
  rholds:=fun f l room hf hl=>c.r83.go (bfM (beM c) f hf l hl room) rfl
  rloads:=(RJ c).loads
  rroom:=(RJ c).room
  rshaped:=fun f l hf hl=>c.r86.go (a8H (aYI c) f hf l hl) rfl
  rviol:=(beM c).viol
  same:=fun l hl=>c.r94.go (bjB l hl) rfl
  list:=fun l hl=>c.r22.go (bkL l hl) rfl }
end Go.PM
