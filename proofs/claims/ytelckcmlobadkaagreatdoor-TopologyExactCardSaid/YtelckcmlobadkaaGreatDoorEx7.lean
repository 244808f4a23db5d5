/-
  Texts of ours, joined: ZdCodesL R3W1 R3W2 R3W3 R8W1 R10Code R10W1 R10W2 R10W3 R10W4 R10P1 R10W5 R10W6 R10W7 R10W8 R10W9 R10W10 R10W11 R10W12 R11Code R11W1 R11W2 R11W3 R11W4 R11W5 R11W6 L11W14 L11W15 Jn5. No condition.
-/
import Derived.Test.YtelckcmlobadkaaGreatDoorEx1
import Derived.Test.YtelckcmlobadkaaGreatDoorEx2
import Derived.Test.YtelckcmlobadkaaGreatDoorEx3
import Derived.Test.YtelckcmlobadkaaGreatDoorEx4
import Derived.Test.YtelckcmlobadkaaGreatDoorEx5
import Derived.Test.YtelckcmlobadkaaGreatDoorEx6

set_option linter.unusedSimpArgs false
set_option linter.unusedVariables false
open Nat renaming reduceEqDiff → γ, reduceAdd → δ, reduceSub → ε, reduceMul → ζ, reduceLT → η, reduceLeDiff → θ, reduceBEq → τ
open Int renaming reduceLT → ι, reduceLE → κ, reduceEq → μ, reduceToNat → ν, reduceAdd → ξ, reduceNeg → ο, reduceBEq → ρ, reduceBNe → σ
open List renaming reduceReplicate → υ
open List renaming length_map → bJT, range → bJU, length_append → bJX, replicate → bJY, getElem_mem → bJZ, length_singleton → bKD, getElem?_eq_getElem → bKG, mem_cons → bKI, getD_eq_getElem?_getD → bKK, take_of_length_le → bKL, length_take → bKN, all_eq_true → bKP, not_mem_nil → bKR, take_length → bKU, append_assoc → bKV, drop_zero → bKY, mem_map → bLA, getElem?_map → bLC, getElem?_eq_some_iff → bLD, map_cons → bLF, getElem?_eq_none → bLH, getElem_map → bLI, getElem_of_mem → bLJ, append_nil → bLK, mem_range → bLN, drop_eq_getElem_cons → bLO, mem_append → bLQ, Sublist → bLR, length_drop → bLS, map_append → bLT, take_succ_eq_append_getElem → bLY, length_nil → bMD, map_nil → bME, length_set → bMG, length_cons → bMH, mem_of_getElem? → bMI, getElem?_append_left → bMK, take_append_drop → bML, nodup_append → bMM, ext_getElem → bMR, getElem?_append_right → bMS, getElem?_take → bMU, set_append_right → bMV, drop_of_length_le → bNB
open Nat renaming gcd → bJV, zero_le → bKA, le_refl → bKB, mul_add → bKH, lt_or_ge → bKO, mul_assoc → bKQ, zero_add → bKS, mul_comm → bKT, add_mul → bKW, mul_le_mul_right → bKX, mod_eq_of_lt → bLB, mod_lt → bLG, pow_succ → bLL, add_zero → bLP, eq_zero_or_pos → bLU, le_trans → bLV, min_eq_left → bLW, add_assoc → bLZ, mul_le_mul_left → bMA, pos_of_ne_zero → bMB, pow_pos → bMJ, div_lt_iff_lt_mul → bMN, div_le_self → bMT, div_add_mod → bMW, div_eq_of_lt → bMX
open Bool renaming not_true → bJW, false_and → bKC, not_false → bKF, true_and → bKJ, and_eq_true → bKM, and_false → bLE, and_true → bMF, and_assoc → bMP, false_eq_true → bNA
open Option renaming map_eq_some_iff → bKE, map_some → bKZ, getD_some → bLX, some → bMC, bind_eq_some_iff → bMY, bind_some → bNC
open Array renaming replicate → bLM, length_toList → bMO, getElem?_eq_getElem → bMZ, getElem?_eq_some_iff → bND
open Int renaming toNat_natCast → bMQ
namespace Go.Proofs.YtelckcmlobadkaaGreatDoor
open Go Go.PM
theorem q3:aL C 3 PM.aWY:=bD (T a7P) rfl rfl Tryz.func12 (by kernel_rfl) (by kernel_rfl)
theorem q6:aL C 6 PM.bqM:=bD (T bmY) rfl rfl Tryz.func14 (by kernel_rfl) (by kernel_rfl)
theorem q82:aL C 82 PM.azA:=bD (T boC) rfl rfl Tryz.func33 (by kernel_rfl) (by kernel_rfl)
theorem q18:aL C 18 PM.bcM:=bD (T bcR) rfl rfl Tryz.func17 (by kernel_rfl) (by kernel_rfl)
theorem q11:aL C 11 PM.bsX:=bD (T a6F) rfl rfl Tryz.func3 (by kernel_rfl) (by kernel_rfl)
theorem q14:aL C 14 PM.bxA:=bD (T bdR) rfl rfl Tryz.func5 (by kernel_rfl) (by kernel_rfl)
theorem bwN:bbD C:={ bzS with r3:=q3,r6:=q6,r18:=q18,r82:=q82 }
end Go.Proofs.YtelckcmlobadkaaGreatDoor
namespace Go.PM
open Go Go.Na
structure ayJ (C:Ctx):Prop extends aaJ C where
 int:∀ n:Int,cX n→aI C 47 [.int .i64 n] .nil (aD (.agg (mkT n 1).cells))
 mul:∀ a b,Lim a→Lim b→a.length≤35184372087808→b.length≤35184372087808→aI C 36 [aJ a,aJ b] .nil (aD (opV (dO (val a) (val b)) (val a*val b)))
 add:∀ a b,Lim a→Lim b→a.length≤35184372087808→b.length≤35184372087808→aI C 30 [aJ a,aJ b] .nil (aD (opV (dO (val a) (val b)) (val a+val b)))
 sub:∀ a b,Lim a→Lim b→a.length≤35184372087808→b.length≤35184372087808→aI C 37 [aJ a,aJ b] .nil (aD (qQ (val a) (val b)))
theorem awC (a b:Nat):cN a b=(decide (nl b>0)&&(decide (nl b≤128)&&decide (nl a≤128))):=by
 have:=@gZ b
 refine Bool.eq_iff_iff.2 ?_
 rw[fL]
 simp only[bKM,decide_eq_true_eq]
 omega
theorem biR {C:Ctx} (L:ayJ C) (neg:Bool) (a b:List Nat) (ha:Lim a) (hb:Lim b) (la:a.length≤35184372087808) (lb:b.length≤35184372087808) :
  DH.wp C (aR ahY.res (aD (.bool (cN (val a) (val b))))) (PF.args [.agg (eC neg a b)]) .nil:=by
 rw[awC]
 simp only[go_sem,γ,DH,awT,awU,ahY]
 refine aA (L.trim b hb lb) rfl ?_
 simp only[go_sem,γ,bJT,aZ]
 by_cases c1:nl (val b)>0
 ·have c1':((nl (val b):Nat):Int)>0:=by omega
  simp only[go_sem,γ,c1']
  refine aA (L.trim b hb lb) rfl ?_
  simp only[go_sem,γ,bJT,aZ]
  by_cases c2:nl (val b)≤128
  ·have c2':((nl (val b):Nat):Int)≤128:=by omega
   simp only[go_sem,δ,γ,θ,c2']
   refine aA (L.trim a ha la) rfl ?_
   simp only[go_sem,γ,bJT,aZ]
   refine aM (.inr rfl) rfl ?_
   have:decide (((nl (val a):Nat):Int)≤128)=decide (nl (val a)≤128):=by
    refine decide_eq_decide.2 ?_
    omega
   rw[bH,this,decide_eq_true c1,decide_eq_true c2]
   rfl
  ·have c2':¬ ((nl (val b):Nat):Int)≤128:=by omega
   simp only[go_sem,γ,reduceCtorEq,c2']
   refine aM (.inr rfl) rfl ?_
   rw[bH,decide_eq_false c2,bKC,bLE]
 ·have c1':¬ ((nl (val b):Nat):Int)>0:=by omega
  simp only[go_sem,γ,reduceCtorEq,c1']
  refine aM (.inr rfl) rfl ?_
  rw[bH,decide_eq_false c1,bKC]
theorem WZ {neg:Bool} {a b:Nat} (h:cN a b=true):hC neg a b=.ok (mA neg a b):=by
 obtain⟨h1,h2,h3⟩:=fL.1 h
 have e1:=(lK (a/bJV a b) 128).2 (adY _ h3)
 have e2:=(lK (b/bJV a b) 128).2 (adY _ h2)
 unfold hC mA
 rw[if_neg Om]
def a3X (a b:Nat):Bool:=decide (nl a>128)||decide (nl b>128)
theorem biL {C:Ctx} (neg:Bool) (a b:List Nat) :
  DE.wp C (aR ahK.res (aD (.bool (decide (a.length>128)||decide (b.length>128))))) (PF.args [.agg (eC neg a b)]) .nil:=by
 simp only[go_sem,δ,γ,θ,DE,awE,awF,ahK,bJT]
 by_cases c:a.length>128
 ·have c':((a.length:Nat):Int)>128:=by omega
  simp only[go_sem,γ,c']
  refine aM (.inr rfl) rfl ?_
  rw[bH,decide_eq_true c,Bool.true_or]
 ·have c':¬ ((a.length:Nat):Int)>128:=by omega
  simp only[go_sem,γ,reduceCtorEq,c',bJT]
  refine aM (.inr rfl) rfl ?_
  have:decide (((b.length:Nat):Int)>128)=decide (b.length>128):=by
   refine decide_eq_decide.2 ?_
   omega
  rw[bH,this,decide_eq_false c,Bool.false_or]
def aBR (x:FV):FR:=if a3X x.2.1 x.2.2 then .error 2 else .ok x
theorem brP (neg:Bool) (a b:Nat):aBR (mA neg a b)=hC neg a b:=by
 have e1:=lK (a/bJV a b) 128
 have e2:=lK (b/bJV a b) 128
 unfold aBR mA hC a3X
 simp only[Bool.or_eq_true,decide_eq_true_eq]
 by_cases c:nl (a/bJV a b)>128∨nl (b/bJV a b)>128
 ·rw[if_pos c,if_pos Om]
 ·rw[if_neg c,if_neg Om]
structure aaL (C:Ctx):Prop extends ayJ C where
 valid:∀ x:RF,x.Ok→aI C 56 [.agg x.cells] .nil (aD (.bool (cN (val x.num) (val x.den))))
 big:∀ x:FV,aI C 48 [.agg x.rf.cells] .nil (aD (.bool (a3X x.2.1 x.2.2)))
theorem bpP {C:Ctx} (L:aaL C) (x:FV):JQ.wp C (aR azQ.res (bQ (frV (aBR x)))) (PF.args [.agg x.rf.cells]) .nil:=by
 simp only[go_sem,δ,JQ,aOW,azQ]
 refine aO fun o ho=>?_
 simp only[go_sem,δ,γ,aOX]
 refine aA (L.big x) rfl ?_
 unfold aBR
 cases a3X x.2.1 x.2.2 with
 | true =>
  simp only[go_sem,δ,γ,aOY]
  refine gX ?_
  simp only[go_sem,δ,γ]
 | false =>
  obtain⟨n,a,b⟩:=x
  simp only[go_sem,δ,γ,reduceCtorEq,aOZ]
  exact aV (.inr rfl) .nil (vs:=[.agg (FV.rf (n,a,b)).cells,.int .i64 0]) Sq PH.nil_le ⟨.refl _,rfl⟩
theorem baL {C:Ctx} (L:aaL C) (x:RF) (hx:x.Ok):yV.wp C (aR SK.res (bQ (frV (nT x)))) (PF.args [.agg x.cells]) .nil:=by
 simp only[go_sem,δ,yV,ahT,SK]
 refine aO fun o ho=>?_
 simp only[go_sem,δ,γ,ahU]
 refine aA (L.valid x hx) rfl ?_
 unfold nT
 cases hv:cN (val x.num) (val x.den) with
 | false =>
  simp only[go_sem,δ,γ,reduceCtorEq,bKF,ahV]
  refine gX ?_
  simp only[go_sem,δ,γ]
 | true =>
  obtain⟨v1,v2,v3⟩:=fL.1 hv
  have e:=WZ (neg:=x.neg) hv
  rw[if_pos rfl,e]
  simp only[go_sem,δ,γ,θ,bJW,ahW]
  refine aA (L.lowest x.neg x.num x.den hx.1 hx.2.1 hx.2.2.1 hx.2.2.2 Om Om v1) rfl ?_
  simp only[go_sem,δ,γ]
  exact aV (.inr rfl) .nil (vs:=[.agg (mA x.neg (val x.num) (val x.den)).rf.cells,.int .i64 0]) Sq PH.nil_le ⟨.refl _,rfl⟩
theorem biP {C:Ctx} (L:ayJ C) (a b:List Nat) (ha:Lim a) (hb:Lim b) (la:a.length≤35184372087808) (lb:b.length≤35184372087808) (na:nl (val a)≤256) (nb:nl (val b)≤256) :
  DG.wp C (aR ahX.res (aD (aJ (aH (val a*val b))))) (PF.args [aJ a,aJ b]) .nil:=by
 simp only[go_sem,γ,reduceCtorEq,DG,awQ,awR,ahX]
 refine aA (L.mul a b ha hb la lb) rfl ?_
 have:=lC na nb
 rw[gW Om Om,opV,yP Om]
 simp only[go_sem,γ,reduceCtorEq,awS]
 refine aM (.inr rfl) rfl ?_
 rfl
structure aAG (C:Ctx):Prop extends aaL C where
 fits:∀ x:FV,aI C 57 [.agg x.rf.cells] .nil (aD (frV (aBR x)))
 red:∀ x:RF,x.Ok→aI C 52 [.agg x.cells] .nil (aD (frV (nT x)))
 prod:∀ a b,Lim a→Lim b→a.length≤35184372087808→b.length≤35184372087808→nl (val a)≤256→nl (val b)≤256→aI C 60 [aJ a,aJ b] .nil (aD (aJ (aH (val a*val b))))
def RF.valid (x:RF):Prop:=cN (val x.num) (val x.den)=true
def oR (x y:RF):Int:=oQ x.neg (val x.num) (val x.den) y.neg (val y.num) (val y.den)
def voS:Spec:=fun name vs=>match name,vs with
 | 60,[x,y]=>some ([],fun _=>aD (aJ (aH (val (iY x)*val (iY y)))))
 | _,_=>none
theorem uZ (a b:List Nat):voS 60 [aJ a,aJ b]=some ([],fun _=>aD (aJ (aH (val a*val b)))):=by
 show some _=_; rw[dY,dY]
theorem anE (a b:Nat):dC b a=- dC a b:=by
 unfold dC
 rcases Nat.lt_trichotomy a b with h | h | h
 ·rw[if_neg Om,if_pos h,if_pos h]; rfl
 ·subst h
  rw[if_neg Om,if_neg Om]; rfl
 ·rw[if_pos h,if_neg Om,if_pos h]
set_option maxHeartbeats 1000000 in
theorem biN {C : Ctx} (L : aAG C) (x y : RF) (hx : x.Ok) (hy : y.Ok) (vx : x.valid) (vy : y.valid) : DF.wp C (aR ahS.res (aD (.int .i64 (oR x y)))) (PF.args [.agg x.cells, .agg y.cells]) .nil := by
  obtain ⟨n1, a1, b1⟩ := x
  obtain ⟨n2, a2, b2⟩ := y
  obtain ⟨ha1, hb1, la1, lb1⟩ := hx
  obtain ⟨ha2, hb2, la2, lb2⟩ := hy
  obtain ⟨v1, v2, v3⟩ := fL.1 vx
  obtain ⟨w1, w2, w3⟩ := fL.1 vy
  simp only at ha1 hb1 la1 lb1 ha2 hb2 la2 lb2 v1 v2 v3 w1 w2 w3
  have m1 := lC v3 w2
  have m2 := lC w3 v2
  have hA : decide (val a1 ≠ 0) = decide (nl (val a1 * val b2) > 0) := by
    refine decide_eq_decide.2 ?_
    have := @gZ (val a1 * val b2)
    rw [Nat.mul_eq_zero] at this
    omega
  have hB : decide (val a2 ≠ 0) = decide (nl (val a2 * val b1) > 0) := by
    refine decide_eq_decide.2 ?_
    have := @gZ (val a2 * val b1)
    rw [Nat.mul_eq_zero] at this
    omega
  unfold oR oQ
  simp only [hA, hB]
  simp only[go_sem,ο,γ,DF,awG,ahS]
  refine bL .nil voS PH.nil_le ?_
  simp only[go_sem,ο,δ,γ,θ,awH]
  refine bC (uZ a1 b2) (L.prod a1 b2 ha1 hb2 la1 lb2 Om Om) rfl PH.nil_le ?_
  simp only[go_sem,ο,δ,γ,θ]
  refine bC (uZ a2 b1) (L.prod a2 b1 ha2 hb1 la2 lb1 Om Om) rfl PH.nil_le ?_
  have hc := L.cmp (aH (val a1 * val b2)) (aH (val a2 * val b1)) (aU _) (aU _) (by rw [aZ]; omega) (by rw [aZ]; omega)
  have hd := L.cmp (aH (val a2 * val b1)) (aH (val a1 * val b2)) (aU _) (aU _) (by rw [aZ]; omega) (by rw [aZ]; omega)
  rw [aQ, aQ] at hc hd
  rw [anE (val a1 * val b2)] at hd
  generalize val a1 * val b2 = A at *
  generalize val a2 * val b1 = B at *
  have gA : decide (((nl A : Nat) : Int) > 0) = decide (nl A > 0) := decide_eq_decide.2 Om
  have gB : decide (((nl B : Nat) : Int) > 0) = decide (nl B > 0) := decide_eq_decide.2 Om
  generalize decide (nl A > 0) = p at *
  generalize decide (nl B > 0) = q at *
  cases n1 <;> cases n2 <;> cases p <;> cases q
  all_goals
    simp only[go_sem,ο,δ,γ,θ,reduceCtorEq,awI,bJT,aZ,gA,gB,awJ,awK,awL,awM,awN,awO,awP]
    first
    | (refine aM (.inr rfl) rfl ?_; rfl)
    | (refine aA hc rfl ?_
       simp only[go_sem,γ]
       refine aM (.inr rfl) rfl ?_
       rfl)
    | (refine aA hd rfl ?_
       simp only[go_sem,γ]
       refine aM (.inr rfl) rfl ?_
       rfl)
structure xN (C:Ctx):Prop extends aAG C where
 order:∀ x y:RF,x.Ok→y.Ok→x.valid→y.valid→aI C 51 [.agg x.cells,.agg y.cells] .nil (aD (.int .i64 (oR x y)))
theorem bpS {C:Ctx} (L:xN C) (x y:RF) (hx:x.Ok) (hy:y.Ok) (vx:x.valid) (vy:y.valid):JR.wp C (aR azR.res (aD (.bool (decide (oR x y<0))))) (PF.args [.agg x.cells,.agg y.cells]) .nil:=by
 simp only[go_sem,δ,γ,JR,aPA,aPB,azR]
 refine aA (L.order x y hx hy vx vy) rfl ?_
 simp only[go_sem,γ]
 refine aM (.inr rfl) rfl ?_
 rfl
theorem bpW {C:Ctx} (L:xN C) (x y:RF) (hx:x.Ok) (hy:y.Ok) (vx:x.valid) (vy:y.valid):JV.wp C (aR azT.res (aD (.bool (oR x y==0)))) (PF.args [.agg x.cells,.agg y.cells]) .nil:=by
 simp only[go_sem,δ,γ,JV,aPH,aPI,azT]
 refine aA (L.order x y hx hy vx vy) rfl ?_
 simp only[go_sem,γ]
 refine aM (.inr rfl) rfl ?_
 rfl
theorem EE (n:Int):mkT n 1=⟨decide (n<0),aH n.natAbs,aH 1⟩:=by
 unfold mkT mA FV.rf
 rw[show (1:Int).natAbs=1 from rfl,Nat.gcd_one_right,Nat.div_one,Nat.div_one,show decide ((1:Int)<0)=false from rfl]
 congr 1
 by_cases h:n<0
 ·have:n.natAbs≠0:=by omega
  simp[h,this]
 ·simp[h]
theorem ED (n:Int) (h:cX n):(mkT n 1).Ok∧(mkT n 1).valid:=by
 have h1:nl n.natAbs≤2:=nD (by unfold cX at h; omega)
 rw[EE]
 refine⟨⟨aU _,aU _,?_,?_⟩,?_⟩
 ·simp only[aZ]; omega
 ·simp only[uP]; decide
 ·unfold RF.valid
  simp only[aQ]
  rw[awC]
  have:nl 1=1:=by rw[nl,uP]; rfl
  simp[this]
  omega
def qC (x:RF):Int:=if val x.num=0 then 0 else if x.neg then -1 else 1
theorem bnL (x:RF):oR x (mkT 0 1)=qC x:=by
 rw[EE]
 unfold oR qC oQ
 simp only[aQ,show (0:Int).natAbs=0 from rfl,Nat.mul_one,Nat.zero_mul]
 by_cases h:val x.num=0
 ·simp[h,dC]
 ·cases x.neg<;>simp[h,dC]
def viS (r:Int):Spec:=fun name _=>if name=47 then some ([],fun _=>aD (.agg (mkT 0 1).cells)) else some ([],fun _=>aD (.int .i64 r))
theorem bpY {C:Ctx} (L:xN C) (x:RF) (hx:x.Ok) (vx:x.valid):JW.wp C (aR azU.res (aD (.int .i64 (qC x)))) (PF.args [.agg x.cells]) .nil:=by
 have h0:cX 0:=by unfold cX; omega
 have ho:=L.order x (mkT 0 1) hx (ED 0 h0).1 vx (ED 0 h0).2
 rw[bnL] at ho
 simp only[go_sem,JW,aPJ,azU]
 refine bL .nil (viS (qC x)) PH.nil_le ?_
 simp only[go_sem,δ,γ,aPK]
 refine bC rfl (L.int 0 h0) rfl PH.nil_le ?_
 simp only[go_sem]
 refine bC rfl ho rfl PH.nil_le ?_
 simp only[go_sem,γ]
 refine aM (.inr rfl) rfl ?_
 rfl
theorem biI {C:Ctx} (L:xN C) (n1 n2:Bool) (a1 b1 a2 b2:List Nat) (ha1:Lim a1) (hb1:Lim b1) (ha2:Lim a2) (hb2:Lim b2)
  (la1:a1.length≤35184372087808) (lb1:b1.length≤35184372087808) (la2:a2.length≤35184372087808) (lb2:b2.length≤35184372087808) :
  AN.wp C (aR aOS.res (bQ (frV (gJ (n1,val a1,val b1) (n2,val a2,val b2))))) (PF.args [.agg (eC n1 a1 b1),.agg (eC n2 a2 b2)]) .nil:=by
 have vx:aI C 56 [.agg (eC n1 a1 b1)] .nil (aD (.bool (cN (val a1) (val b1)))):=L.valid ⟨n1,a1,b1⟩ ⟨ha1,hb1,la1,lb1⟩
 have vy:aI C 56 [.agg (eC n2 a2 b2)] .nil (aD (.bool (cN (val a2) (val b2)))):=L.valid ⟨n2,a2,b2⟩ ⟨ha2,hb2,la2,lb2⟩
 simp only[go_sem,δ,γ,AN,a1W,aOS]
 refine aO fun o ho=>?_
 simp only[go_sem,δ,γ,a1X]
 refine aA vx rfl ?_
 simp only[gJ]
 cases hv:cN (val a1) (val b1) with
 | false =>
  simp only[go_sem,δ,γ,reduceCtorEq,bKF,amW,bKC]
  refine gX ?_
  simp only[go_sem,δ,γ]
 | true =>
  obtain⟨v1,v2,v3⟩:=fL.1 hv
  simp only[go_sem,δ,γ,bJW]
  refine aA vy rfl ?_
  cases hw:cN (val a2) (val b2) with
  | false =>
   simp only[go_sem,δ,γ,reduceCtorEq,bKF,amW,bLE]
   refine gX ?_
   simp only[go_sem,δ,γ]
  | true =>
   obtain⟨w1,w2,w3⟩:=fL.1 hw
   simp only[go_sem,γ,reduceCtorEq,bJW,bMF]
   refine bL .nil voS PH.nil_le ?_
   simp only[go_sem,δ,γ,θ,a1Y]
   refine bC (uZ a1 b2) (L.prod a1 b2 ha1 hb2 la1 lb2 Om Om) rfl PH.nil_le ?_
   simp only[go_sem,δ,γ,θ]
   refine bC (uZ a2 b1) (L.prod a2 b1 ha2 hb1 la2 lb1 Om Om) rfl PH.nil_le ?_
   simp only[go_sem,γ]
   refine bC (uZ b1 b2) (L.prod b1 b2 hb1 hb2 lb1 lb2 Om Om) rfl PH.nil_le ?_
   simp only[go_sem,γ]
   have m1:=lC v3 w2
   have m2:=lC w3 v2
   have m3:=lC v2 w2
   have d0:val b1*val b2≠0:=Nat.mul_ne_zero v1 w1
   generalize hA:val a1*val b2=A at *
   generalize hB:val a2*val b1=B at *
   generalize hD:val b1*val b2=D at *
   have fin:∀ (F:PF) (H:PH) (r:FR),(∃ neg' x y e,frV r=.tup [.agg (eC neg' x y),.int .i64 e]∧F 4=some (.ptr o 3 0 0)∧F 5=some (.int .i64 e)∧H o=some (.rows 3 [eC neg' x y]))→aR [.cell 4 (some 3),.tmp 5] (bQ (frV r)) .ret F H:=by
    rintro F H r ⟨neg',x,y,e,he,f4,f5,hH⟩
    rw[he]
    exact aV (.inr rfl) .nil (vs:=[.agg (eC neg' x y),.int .i64 e]) (by simp only[go_sem,δ,f4,f5,hH]) PH.nil_le ⟨.refl _,rfl⟩
   have eb:(n1==n2)=decide (n1=n2):=by cases n1<;>cases n2<;>rfl
   have low:∀ neg x,nl x≤257→aI C 58 [.bool neg,aJ (aH x),aJ (aH D)] .nil (aD (.agg (mA neg x D).rf.cells)):=by
    intro neg x hx
    have h1:(aH x).length≤35184372087808:=by rw[aZ]; omega
    have h2:(aH D).length≤35184372087808:=by rw[aZ]; omega
    have:=L.lowest neg (aH x) (aH D) (aU _) (aU _) h1 h2
    rw[aQ,aQ] at this
    exact this Om Om d0
   have fit:∀ neg x,aI C 57 [.agg (mA neg x D).rf.cells] .nil (aD (frV (hC neg x D))):=fun neg x=>by
    have:=L.fits (mA neg x D)
    rwa [brP] at this
   have lA:(aH A).length≤35184372087808:=by rw[aZ]; omega
   have lB:(aH B).length≤35184372087808:=by rw[aZ]; omega
   simp only[go_sem,δ,γ,θ,a1Z]
   by_cases c:n1=n2
   ·rw[if_pos c]
    have c':(n1==n2)=true:=by rw[eb,decide_eq_true c]
    simp only[go_sem,γ,c',a2A]
    have hadd:=L.add (aH A) (aH B) (aU _) (aU _) lA lB
    have nab:=aIG m1 m2
    rw[aQ,aQ,gW Om Om,opV,yP Om] at hadd
    refine aA hadd rfl ?_
    simp only[go_sem,δ,γ,θ,reduceCtorEq,a2B]
    refine aA (low n1 _ Om) rfl ?_
    simp only[go_sem]
    refine aA (fit n1 _) rfl ?_
    obtain⟨neg',x,y,e,hl⟩:=sZ (hC n1 (A+B) D)
    rw[hl]
    simp only[go_sem,δ,γ]
    rw[← hl]
    exact fin _ _ _ ⟨neg',x,y,e,hl,by simp only[go_sem,γ],by simp only[go_sem,γ],by simp only[go_sem]⟩
   ·rw[if_neg c]
    have c':(n1==n2)=false:=by rw[eb,decide_eq_false c]
    simp only[go_sem,γ,c',a2C]
    have hc:=L.cmp (aH A) (aH B) (aU _) (aU _) lA lB
    rw[aQ,aQ] at hc
    refine aA hc rfl ?_
    have hsub:∀ X Y:Nat,nl X≤256→nl Y≤256→Y≤X→aI C 37 [aJ (aH X),aJ (aH Y)] .nil (aD (.tup [aJ (aH (X-Y)),.int .i64 0])):=by
     intro X Y h1 h2 h
     have:=L.sub (aH X) (aH Y) (aU _) (aU _) (by rw[aZ]; omega) (by rw[aZ]; omega)
     have h3:=fN (Om:X-Y≤X)
     rw[aQ,aQ,qQ,gW Om Om,if_neg (by decide),if_neg Om,yP Om] at this
     exact this
    by_cases g:B≤A
    ·have g':dC A B≥0:=(RB A B).2 g
     rw[if_pos g]
     simp only[go_sem,γ,g',a2D]
     refine aA (hsub A B Om Om g) rfl ?_
     simp only[go_sem,δ,γ,θ,a2E]
     have h3:=fN (Om:A-B≤A)
     refine aA (low n1 (A-B) Om) rfl ?_
     simp only[go_sem]
     refine aA (fit n1 _) rfl ?_
     obtain⟨neg',x,y,e,hl⟩:=sZ (hC n1 (A-B) D)
     rw[hl]
     simp only[go_sem,δ,γ]
     rw[← hl]
     exact fin _ _ _ ⟨neg',x,y,e,hl,by simp only[go_sem,γ],by simp only[go_sem,γ],by simp only[go_sem]⟩
    ·have g':¬ dC A B≥0:=fun h=>g ((RB A B).1 h)
     rw[if_neg g]
     simp only[go_sem,γ,g',aOT]
     refine aA (hsub B A Om Om Om) rfl ?_
     simp only[go_sem,δ,γ,θ,aOU]
     have h3:=fN (Om:B-A≤B)
     refine aA (low n2 (B-A) Om) rfl ?_
     simp only[go_sem]
     refine aA (fit n2 _) rfl ?_
     obtain⟨neg',x,y,e,hl⟩:=sZ (hC n2 (B-A) D)
     rw[hl]
     simp only[go_sem,δ,γ]
     rw[← hl]
     exact fin _ _ _ ⟨neg',x,y,e,hl,by simp only[go_sem,γ],by simp only[go_sem,γ],by simp only[go_sem]⟩
theorem bvJ {C:Ctx} (L:xN C) (x y:RF) (hx:x.Ok) (hy:y.Ok):AN.wp C (aR aOS.res (bQ (frV (gJ x.v y.v)))) (PF.args [.agg x.cells,.agg y.cells]) .nil :=
 biI L x.neg y.neg x.num x.den y.num y.den hx.1 hx.2.1 hy.1 hy.2.1 hx.2.2.1 hx.2.2.2 hy.2.2.1 hy.2.2.2
structure a3P (C:Ctx):Prop extends xN C where
 less:∀ x y:RF,x.Ok→y.Ok→x.valid→y.valid→aI C 49 [.agg x.cells,.agg y.cells] .nil (aD (.bool (decide (oR x y<0))))
 same:∀ x y:RF,x.Ok→y.Ok→x.valid→y.valid→aI C 53 [.agg x.cells,.agg y.cells] .nil (aD (.bool (oR x y==0)))
 sign:∀ x:RF,x.Ok→x.valid→aI C 54 [.agg x.cells] .nil (aD (.int .i64 (qC x)))
 plus:∀ x y:RF,x.Ok→y.Ok→aI C 46 [.agg x.cells,.agg y.cells] .nil (aD (frV (gJ x.v y.v)))
def vsF (l:List RF) (o2 o4 k:Nat):PF:=((((PF.nil.set 0 (frs l)).set 2 (.ptr o2 3 0 0)).set 4 (.ptr o4 3 0 0)).set 5 (.int .i64 k))
theorem bvN {C:Ctx} (L:a3P C) (l:List RF) (hl:∀ x∈l,x.Ok) (hlen:l.length≤9223372036854775807) :
  QR.wp C (aR baN.res (bQ (frV (mU (l.map RF.v))))) (PF.args [frs l]) .nil:=by
 have h0:cX 0:=by unfold cX; omega
 have hi:(mkT 0 1).cells=(FV.rf (false,0,1)).cells:=by rw[EE]; rfl
 have hint:=L.int 0 h0
 rw[hi] at hint
 simp only[go_sem,δ,QR,a2K,baN]
 refine aO fun o2 ho2=>?_
 have h1:aT (PH.nil.set o2 (.rows 3 [[.bool false,.bHP,.bHP]])) [(o2,.rows 3 [[.bool false,.bHP,.bHP]])] []:=aT.nil.new (H:=PH.nil) rfl _
 generalize (PH.nil.set o2 _)=H1 at *
 simp only[go_sem,a2L]
 refine aA hint rfl ?_
 simp only[go_sem,δ]
 refine aO fun o4 ho4=>?_
 have h2:=h1.new ho4 (.rows 3 [(FV.rf (false,0,1)).cells])
 simp only[go_sem,δ,γ,a2M]
 refine wp_loop (α:=Nat × FV × PH) (fun t=>vsF l o2 o4 t.1) (fun t=>t.2.2) (fun t=>t.1≤l.length∧((l.map RF.v).take t.1).foldlM gJ (false,0,1)=.ok t.2.1∧aT t.2.2 [(o2,.rows 3 [[.bool false,.bHP,.bHP]]),(o4,.rows 3 [(FV.rf t.2.1).cells])] []∧(FV.rf t.2.1).Ok) (fun t=>l.length-t.1)
  (0,(false,0,1),_) ⟨bKA _,rfl,h2,⟨aU _,aU _,?_,?_⟩⟩ ?_ PH.le_refl ?_
 ·show (aH 0).length≤_
  rw[fJ]; simp
 ·show (aH 1).length≤_
  rw[uP]; simp
 ·unfold vsF
  exact Lq
 rintro⟨k,acc,H0⟩ ⟨hk,hf,hH,hacc⟩
 simp only at hk hf hH hacc ⊢
 simp only[go_sem,γ,reduceCtorEq,a2J,a2N,vsF,bJT]
 by_cases hlt:k<l.length
 ·have bHV:(k:Int)<(l.length:Nat):=by omega
  have hr:(l.map RF.cells)[k]?=some (l[k]).cells:=by simp[hlt]
  have hadd:=L.plus (FV.rf acc) l[k] hacc (hl _ (bJZ hlt))
  rw[FV.bxP] at hadd
  have bHW:=SZ (f:=gJ) (l.map RF.v) (false,0,1) (k:=k) (by simpa using hlt)
  rw[hf] at bHW
  simp only[Except.bind,bLI] at bHW
  have e4:=hH.at 1 rfl
  simp only[go_sem,bHV]
  refine bL .nil (fun _ _=>some ([],fun _=>aD (frV (gJ acc (l[k]).v)))) PH.nil_le ?_
  simp only[go_sem,δ,γ,reduceCtorEq,a2O,e4,hr]
  refine bC rfl hadd rfl PH.nil_le ?_
  cases he:gJ acc (l[k]).v with
  | error e =>
   have he0:e≠0:=by
    revert he
    obtain⟨n1,a1,b1⟩:=acc
    obtain⟨n2,a2,b2⟩:=(l[k]).v
    simp only[gJ,hC]
    repeat' split
    all_goals (intro h; first | (injection h with h; subst h; decide) | cases h)
   rw[he] at bHW
   simp only[go_sem,δ,γ,reduceCtorEq,frV]
   refine aO fun o6 ho6=>?_
   simp only[go_sem,δ,γ,reduceCtorEq]
   refine⟨PH.nil_le,?_⟩
   have h6:=hH.new ho6 (.rows 3 [[.bool false,aJ [],aJ []]])
   have e2:=h6.at 0 rfl
   simp only[go_sem,δ,γ,reduceCtorEq,amY,cT he0,a2P,e2]
   rw[mU,abI _ _ bHW]
   refine gX ?_
   simp only[go_sem,δ,γ,reduceCtorEq]
  | ok r =>
   rw[he] at bHW
   obtain⟨rn,ra,rb⟩:=r
   simp only[go_sem,δ,γ,reduceCtorEq,frV]
   refine aO fun o6 ho6=>?_
   simp only[go_sem,δ,γ,reduceCtorEq]
   refine⟨PH.nil_le,?_⟩
   have h6:=hH.new ho6 (.rows 3 [(FV.rf (rn,ra,rb)).cells])
   have e6:=h6.at 2 rfl
   have e4':=h6.at 1 rfl
   generalize hG:H0.set o6 (.rows 3 [(FV.rf (rn,ra,rb)).cells])=H6 at *
   have hG':H0.set o6 (.rows 3 [[.bool rn,aJ (aH ra),aJ (aH rb)]])=H6:=hG
   simp only[go_sem,σ,δ,γ,reduceCtorEq,amY,a2Q,hG',e6,e4',a2R,ws k]
   have h7:=(h6.set 1 rfl (.rows 3 [(FV.rf (rn,ra,rb)).cells])).bAE 2
   refine aC (k+1,(rn,ra,rb),_) ⟨hlt,bHW,h7,akI he⟩ (by simp only; omega) ?_ PH.le_refl
   exact Lq
 ·have bHV:¬ (k:Int)<(l.length:Nat):=by omega
  have:k=l.length:=by omega
  subst this
  rw[bKL (by simp)] at hf
  rw[mU,hf]
  have e2:=hH.at 0 rfl
  have e4:=hH.at 1 rfl
  obtain⟨n,a,b⟩:=acc
  simp only[go_sem,δ,γ,reduceCtorEq,bHV,aPP,e4,e2]
  exact aV (.inr rfl) .nil (vs:=[.agg (FV.rf (n,a,b)).cells,.int .i64 0]) Sq PH.nil_le ⟨.refl _,rfl⟩
theorem dge {n:Nat} (k:Nat):decide ((n:Int)≥(k:Int))=decide (k≤n):=decide_eq_decide.2 Om
theorem dle {n:Nat} (k:Nat):decide ((n:Int)≤(k:Int))=decide (n≤k):=decide_eq_decide.2 Om
theorem baS {C:Ctx} (n:Nat):yY.wp C (aR SN.res (aD (.bool (eN n)))) (PF.args [.int .u8 n]) .nil:=by
 have h1:=dge (n:=n) 97
 have h2:=dle (n:=n) 122
 have h3:=dge (n:=n) 65
 have h4:=dle (n:=n) 90
 simp only[Int.cast_ofNat_Int] at h1 h2 h3 h4
 unfold eN
 generalize decide (97≤n)=a at *
 generalize decide (n≤122)=b at *
 generalize decide (65≤n)=c at *
 generalize decide (n≤90)=d at *
 cases a<;>cases b<;>cases c<;>cases d
 all_goals
  simp only[go_sem,γ,reduceCtorEq,yY,aiL,aiM,SN,h1,h2,h3,h4]
  refine aM (.inr rfl) rfl ?_
  rfl
theorem biT {C:Ctx} (n:Nat):DJ.wp C (aR ahZ.res (aD (.bool (lN n)))) (PF.args [.int .u8 n]) .nil:=by
 have h1:=dge (n:=n) 48
 have h2:=dle (n:=n) 57
 simp only[Int.cast_ofNat_Int] at h1 h2
 unfold lN
 generalize decide (48≤n)=a at *
 generalize decide (n≤57)=b at *
 cases a<;>cases b
 all_goals
  simp only[go_sem,γ,reduceCtorEq,DJ,awV,awW,ahZ,h1,h2]
  refine aM (.inr rfl) rfl ?_
  rfl
theorem baO {C:Ctx} (h1:∀ n:Nat,aI C 65 [.int .u8 n] .nil (aD (.bool (eN n)))) (h2:∀ n:Nat,aI C 63 [.int .u8 n] .nil (aD (.bool (lN n)))) (n:Nat) :
  yW.wp C (aR SL.res (aD (.bool (fE n)))) (PF.args [.int .u8 n]) .nil:=by
 have g1:((n:Int)==45)=decide (n=45):=by by_cases h:n=45<;>simp[h]; omega
 have g2:((n:Int)==46)=decide (n=46):=by by_cases h:n=46<;>simp[h]; omega
 have k1:=h1 n
 have k2:=h2 n
 unfold fE
 generalize decide (n=45)=a at *
 generalize decide (n=46)=b at *
 simp only[go_sem,reduceCtorEq,yW,aiA,aiB,SL]
 refine aA k1 rfl ?_
 cases eN n with
 | true =>
  simp only[go_sem,γ]
  refine aM (.inr rfl) rfl ?_
  rfl
 | false =>
  simp only[go_sem,γ,reduceCtorEq]
  refine aA k2 rfl ?_
  cases lN n<;>cases a<;>cases b
  all_goals
   simp only[go_sem,γ,reduceCtorEq,g1,g2]
   refine aM (.inr rfl) rfl ?_
   rfl
theorem baQ {C:Ctx} (h1:∀ n:Nat,aI C 65 [.int .u8 n] .nil (aD (.bool (eN n)))) (h2:∀ n:Nat,aI C 64 [.int .u8 n] .nil (aD (.bool (fE n)))) (s:List UInt8) :
  yX.wp C (aR SM.res (aD (.bool (isName s)))) (PF.args [.str s]) .nil:=by
 simp only[go_sem,γ,reduceCtorEq,yX,aiD,aiE,SM]
 cases s with
 | nil =>
  have h0:decide (((0:Nat):Int)<1)=true:=rfl
  simp only[go_sem,γ,wR,bMD,h0]
  refine aM (.inr rfl) rfl ?_
  rfl
 | cons c t =>
  have hz:(c::t)[0]?=some c:=rfl
  have hN:isName (c::t)=(decide ((c::t).length≤16)&&eN c.toNat&&(c::t).all fun c=>fE c.toNat):=rfl
  have hpos:¬ (((c::t).length:Nat):Int)<1:=by simp only[bMH]; omega
  generalize c::t=s at *
  by_cases hl:s.length≤16
  ·have hl':¬ ((s.length:Nat):Int)>16:=by omega
   rw[decide_eq_true hl,bKJ] at hN
   have k1:=h1 c.toNat
   simp only[go_sem,ν,γ,reduceCtorEq,hpos,hl',hz,bKZ]
   refine aA k1 rfl ?_
   cases hc:eN c.toNat with
   | false =>
    simp only[go_sem,γ,reduceCtorEq,bKF,wR]
    refine aM (.inr rfl) rfl ?_
    rw[bH,hN,hc,bKC]
   | true =>
    rw[hc,bKJ] at hN
    simp only[go_sem,γ,reduceCtorEq,bJW,aiF]
    refine wp_loop (α:=Nat) (fun k=>((PF.nil.set 0 (.str s)).set 3 (.int .i64 k))) (fun _=>.nil) (fun k=>k≤s.length∧(s.take k).all (fun c=>fE c.toNat)=true) (fun k=>s.length-k) 0 ⟨bKA _,rfl⟩ Lq PH.nil_le ?_
    rintro k ⟨hk,ha⟩
    simp only[go_sem,γ,reduceCtorEq,aiC,aiG]
    by_cases hlt:k<s.length
    ·have bHV:(k:Int)<(s.length:Nat):=by omega
     have hat:s[k]?=some s[k]:=bKG hlt
     have k2:=h2 (s[k]).toNat
     simp only[go_sem,γ,reduceCtorEq,bHV,aiH,hat,bKZ]
     refine aA k2 rfl ?_
     cases hi:fE (s[k]).toNat with
     | false =>
      simp only[go_sem,γ,reduceCtorEq,bKF,aiI]
      refine aM (.inr rfl) rfl ?_
      rw[bH,hN,oI hlt hi]
     | true =>
      simp only[go_sem,γ,reduceCtorEq,bJW,aiJ,ws k]
      exact aC (k+1) ⟨hlt,by simpa using oH hlt ha hi⟩ Om Lq PH.le_refl
    ·have bHV:¬ (k:Int)<(s.length:Nat):=by omega
     have:k=s.length:=by omega
     subst this
     rw[bKU] at ha
     simp only[go_sem,bHV,aiK]
     refine aM (.inr rfl) rfl ?_
     rw[bH,hN,ha]
  ·have hl':((s.length:Nat):Int)>16:=by omega
   rw[decide_eq_false hl,bKC,bKC] at hN
   simp only[go_sem,γ,reduceCtorEq,hpos,hl',wR]
   refine aM (.inr rfl) rfl ?_
   rw[bH,hN]
def EW (k m:Int):Bool:=within k 1 6&&(within m 0 4&&decide (k+m≤8))
theorem bnZ {C:Ctx} (k m:Int):nE.wp C (aR zT.res (aD (.bool (EW k m)))) (PF.args [.int .i64 k,.int .i64 m]) .nil:=by
 unfold EW within
 by_cases h1:1≤k
 ·by_cases h2:k≤6
  ·by_cases h3:0≤m
   ·by_cases h4:m≤4
    ·have hw:IntKind.i64.wrap (k+m)=k+m:=wrap_i64 Om Om
     simp only[go_sem,γ,reduceCtorEq,nE,tM,tN,zT,ge_iff_le,h1,h2,h3,h4,hw]
     refine aM (.inr rfl) rfl ?_
     simp[bH,h1,h2,h3,h4]
    ·simp only[go_sem,γ,reduceCtorEq,nE,tM,tN,zT,ge_iff_le,h1,h2,h3,h4]
     refine aM (.inr rfl) rfl ?_
     simp[bH,h1,h2,h3,h4]
   ·simp only[go_sem,γ,reduceCtorEq,nE,tM,tN,zT,ge_iff_le,h1,h2,h3]
    refine aM (.inr rfl) rfl ?_
    simp[bH,h1,h2,h3]
  ·simp only[go_sem,γ,reduceCtorEq,nE,tM,tN,zT,ge_iff_le,h1,h2]
   refine aM (.inr rfl) rfl ?_
   simp[bH,h1,h2]
 ·simp only[go_sem,γ,reduceCtorEq,nE,tM,tN,zT,ge_iff_le,h1]
  refine aM (.inr rfl) rfl ?_
  simp[bH,h1]
def axL:Rg:=[iA 1 (.box true (Tm 0)),iT 2 false]
def axM:Rg:=[iO 6 3 1,iK 7 52 6,iM 5 7,iE 8 5 0,iE 9 5 1,iA 3 (.alloc [(.bool false),.bHP,.bHP]),iS 3 3 8,iM 4 9]
def AP:Rg:=[iM 10 4,iC 11 .eql 10 0,iM 12 11,gF 13 0 3 12 true,gL 14 13 12 true,iG 15 (.un .not (Tm 14)) 12 true,iP 16 12 15,iM 17 16,gF 18 1 3 17 true,gL 19 18 17 true,gN 20 19 17 true,gC 21 .leq 20 1 17 true,iP 22 17 21,iM 23 22,gF 24 2 3 23 true,gL 25 24 23 true,gN 26 25 23 true,gC 27 .leq 26 1 23 true,iP 28 23 27,iM 2 28]
def DP:aB:=(sq axL (sq axM (sq AP .ret)))
def bjF:List Nat:=[1]
def aiT:aS:=⟨1,29,DP,[.tmp 2]⟩
def aiV:Rg:=[iT 4 false]
def aiW:Rg:=[iM 6 0,iN 7 6,iM 8 1,iB 9 .neq 7 8]
def aiX:Rg:=[iT 4 false]
def aiY:Rg:=[iI 5 0]
def aiZ:Rg:=[iM 10 5,iM 11 1,iB 12 .lss 10 11]
def ajA:Rg:=[iM 15 0,iM 16 5,iX 17 3 15 16,iO 18 3 17,iK 19 74 18,iA 20 (.un .not (Tm 19))]
def ajB:Rg:=[iT 4 false]
def ajC:Rg:=[iM 13 5,iC 14 .add 13 1,iM 5 14]
def aiU:aB:=(.seq (sq aiZ (.cond (Tm 12) .skip (.exit 0))) (.seq (.block 1 (sq ajA (.cond (Tm 20) (sq ajB .ret) .skip))) (.region ajC)))
def ajD:Rg:=[iT 4 true]
def zB:aB:=(sq aiV (.seq (sq aiW (.cond (Tm 9) (sq aiX .ret) .skip)) (.seq (sq aiY (.block 0 (.loop aiU))) (sq ajD .ret))))
def bbA:List Nat:=[]
def SO:aS:=⟨2,21,zB,[.tmp 4]⟩
def a2V:Rg:=[iA 1 (.box true (Tm 0)),iT 2 false]
def a2W:Rg:=[iF 12 1 1,iL 13 12,iN 14 13,iM 3 14]
def a2X:Rg:=[iM 15 3,iC 16 .lss 15 1,iM 17 16,gM 18 3 17 false,gC 19 .gtr 18 4 17 false,iQ 20 17 19,iM 21 20,gF 22 1 1 21 false,gL 23 22 21 false,gM 24 3 21 false,gK2 25 75 23 24 21 false,iG 26 (.un .not (Tm 25)) 21 false,iQ 27 21 26,iM 28 27,gF 29 3 1 28 false,gL 30 29 28 false,gM 31 3 28 false,gK2 32 75 30 31 28 false,iG 33 (.un .not (Tm 32)) 28 false,iQ 34 28 33,iM 35 34,gF 36 2 1 35 false,gL 37 36 35 false,gN 38 37 35 false,gM 39 3 35 false,gB 40 .neq 38 39 35 false,iQ 41 35 40]
def xM:Rg:=[iT 2 false]
def a2Y:Rg:=[iI 4 0]
def a2Z:Rg:=[iM 42 4,iM 43 3,iB 44 .lss 42 43]
def a3A:Rg:=[iF 47 2 1,iL 48 47,iM 49 4,iX 50 1 48 49,iL 51 50,iM 52 3,iK2 53 75 51 52,iA 54 (.un .not (Tm 53)),iM 55 54,gF 56 2 1 55 false,gL 57 56 55 false,gM 58 4 55 false,iG 59 (.bIK 1 (Tm 57) (Tm 58)) 55 false,gL 60 59 55 false,gM 61 4 55 false,iG 62 (.bIK 3 (Tm 60) (Tm 61)) 55 false,gO 63 3 62 55 false,gK 64 54 63 55 false,gC 65 .neq 64 0 55 false,iQ 66 55 65]
def anB:Rg:=[iT 2 false]
def a3B:Rg:=[iM 45 4,iC 46 .add 45 1,iM 4 46]
def a2U:aB:=(.seq (sq a2Z (.cond (Tm 44) .skip (.exit 0))) (.seq (.block 1 (sq a3A (.cond (Tm 66) (sq anB .ret) .skip))) (.region a3B)))
def aPU:Rg:=[iF 68 1 1,iL 69 68,iK 70 55 69,iM 67 70,iE 71 67 0,iE 72 67 1,iA 5 (.alloc [(.bool false),.bHP,.bHP]),iS 3 5 71,iM 6 72]
def ZV:Rd:=[(iM 73 6,false),(iC 74 .neq 73 0,false),(iM 75 74,false),(gO 76 3 5 75 false,true),(iG 77 (.call 47 [(Ci 1)]) 75 false,true),(gK2 78 53 76 77 75 false,true),(iG 79 (.un .not (Tm 78)) 75 false,false),(iQ 80 75 79,false)]
def ZW:Rg:=[iT 2 false]
def aPV:Rg:=[iM 81 3,iA 82 (.bHZ 1 1 [(.bool false)] (Tm 81) (Tm 81)),iM 7 82]
def aPW:Rg:=[iI 8 0]
def aPX:Rg:=[iM 83 8,iM 84 3,iB 85 .lss 83 84]
def aPY:Rg:=[iI 9 0]
def aPZ:Rg:=[iM 88 9,iM 89 3,iB 90 .lss 88 89]
def ZX:Rg:=[iM 93 7,iM 94 9,iM 95 7,iM 96 9,iX 97 1 95 96,iL 98 97,iM 99 98,gF 100 3 1 99 false,gL 101 100 99 false,gM 102 9 99 false,iG 103 (.bIK 3 (Tm 101) (Tm 102)) 99 false,gO 104 3 103 99 false,gK 105 54 104 99 false,gC 106 .gtr 105 0 99 false,iQ 107 99 106,iX 108 1 93 94,iS 1 108 107]
def ZY:Rg:=[iI 10 0]
def aQA:Rg:=[iM 109 10,iM 110 3,iB 111 .lss 109 110]
def ZZ:Rg:=[iM 114 7,iM 115 9,iM 116 7,iM 117 9,iX 118 1 116 117,iL 119 118,iM 120 119,gF 121 2 1 120 false,gL 122 121 120 false,gM 123 9 120 false,iG 124 (.bIK 1 (Tm 122) (Tm 123)) 120 false,gL 125 124 120 false,gM 126 10 120 false,iG 127 (.bIK 3 (Tm 125) (Tm 126)) 120 false,gO 128 3 127 120 false,gK 129 54 128 120 false,gC 130 .gtr 129 0 120 false,gM 131 130 120 false,gM 132 7 131 true,gM 133 10 131 true,iG 134 (.bIK 1 (Tm 132) (Tm 133)) 131 true,gL 135 134 131 true,iG 136 (.pick (Tm 131) (Tm 135) (.const (.bool false))) 120 false,iQ 137 120 136,iX 138 1 114 115,iS 1 138 137]
def KC:Rg:=[iM 112 10,iC 113 .add 112 1,iM 10 113]
def KB:aB:=(.seq (sq aQA (.cond (Tm 111) .skip (.exit 6))) (.seq (.block 7 (.region ZZ)) (.region KC)))
def aaA:Rg:=[iM 91 9,iC 92 .add 91 1,iM 9 92]
def ZS:aB:=(.seq (sq aPZ (.cond (Tm 90) .skip (.exit 4))) (.seq (.block 5 (sq ZX (sq ZY (.block 6 (.loop KB))))) (.region aaA)))
def aQB:Rg:=[iM 86 8,iC 87 .add 86 1,iM 8 87]
def ZT:aB:=(.seq (sq aPX (.cond (Tm 85) .skip (.exit 2))) (.seq (.block 3 (sq aPY (.block 4 (.loop ZS)))) (.region aQB)))
def aQC:Rg:=[iI 11 0]
def aQD:Rg:=[iM 139 11,iM 140 3,iB 141 .lss 139 140]
def aaB:Rg:=[iM 144 7,iM 145 11,iX 146 1 144 145,iL 147 146,iA 148 (.un .not (Tm 147))]
def aQE:Rg:=[iT 2 false]
def aQF:Rg:=[iM 142 11,iC 143 .add 142 1,iM 11 143]
def ZU:aB:=(.seq (sq aQD (.cond (Tm 141) .skip (.exit 8))) (.seq (.block 9 (sq aaB (.cond (Tm 148) (sq aQE .ret) .skip))) (.region aQF)))
def aaC:Rg:=[iT 2 true]
def QU:aB:=(sq a2V (sq a2W (.seq (sq a2X (.cond (Tm 41) (sq xM .ret) .skip)) (.seq (sq a2Y (.block 0 (.loop a2U))) (.seq (sq aPU (dq ZV (.cond (Tm 80) (sq ZW .ret) .skip))) (sq aPV (.seq (sq aPW (.block 2 (.loop ZT))) (.seq (sq aQC (.block 8 (.loop ZU))) (sq aaC .ret)))))))))
def bvU:List Nat:=[1]
def baX:aS:=⟨1,149,QU,[.tmp 2]⟩
def a3D:Rg:=[iT 4 false]
def a3E:Rg:=[iM 6 0,iM 7 1,iA 8 (.bIQ true (Tm 7) (Ci 1)),iK2 9 75 6 8,iA 10 (.un .not (Tm 9))]
def a3F:Rg:=[iT 4 false]
def a3G:Rg:=[iI 5 0]
def a3H:Rg:=[iM 11 5,iM 12 0,iN 13 12,iB 14 .lss 11 13]
def a3I:Rg:=[iM 17 0,iM 18 5,iX 19 3 17 18,iO 20 3 19,iK 21 54 20,iC 22 .eql 21 0]
def a3J:Rg:=[iT 4 false]
def a3K:Rg:=[iM 15 5,iC 16 .add 15 1,iM 5 16]
def a3C:aB:=(.seq (sq a3H (.cond (Tm 14) .skip (.exit 0))) (.seq (.block 1 (sq a3I (.cond (Tm 22) (sq a3J .ret) .skip))) (.region a3K)))
def a3L:Rg:=[iT 4 true]
def QV:aB:=(sq a3D (.seq (sq a3E (.cond (Tm 10) (sq a3F .ret) .skip)) (.seq (sq a3G (.block 0 (.loop a3C))) (sq a3L .ret))))
def bvW:List Nat:=[]
def baY:aS:=⟨2,23,QV,[.tmp 4]⟩
def KX:Rg:=[iT 6 false]
def KY:Rg:=[iM 7 0,iM 8 1,iB 9 .geq 7 8,iM 10 9,gM 11 0 10 true,gM 12 2 10 true,gB 13 .leq 11 12 10 true,iP 14 10 13,iM 6 14]
def sV:aB:=(sq KX (sq KY .ret))
def bbC:List Nat:=[]
def ER:aS:=⟨3,15,sV,[.tmp 6]⟩
def axJ:Rg:=[iT 12 false]
def axK:Rg:=[iM 13 0,iC 14 .leq 13 4,iM 15 14,gM 16 1 15 true,gC 17 .leq 16 4 15 true,iP 18 15 17,iM 19 18,gM 20 2 19 true,gC 21 .leq 20 40 19 true,iP 22 19 21,iM 23 22,gM 24 3 23 true,gC 25 .leq 24 24 23 true,iP 26 23 25,iM 27 26,gM 28 4 27 true,gC 29 .leq 28 4 27 true,iP 30 27 29,iM 31 30,gM 32 5 31 true,gC 33 .leq 32 12 31 true,iP 34 31 33,iM 12 34]
def DO:aB:=(sq axJ (sq axK .ret))
def bjD:List Nat:=[]
def aiS:aS:=⟨6,35,DO,[.tmp 12]⟩
def VK:Rg:=[iA 7 (.box true (Tm 3)),iT 8 false]
def VL:Rg:=[iM 10 0,iM 11 1,iK2 12 61 10 11,iA 13 (.un .not (Tm 12)),iM 14 13,gM 15 2 14 false,gM 16 0 14 false,gM 17 0 14 false,gM 18 1 14 false,gB 19 .add 17 18 14 false,iG 20 (.call 76 [(Tm 15),(Tm 16),(Tm 19)]) 14 false,iG 21 (.un .not (Tm 20)) 14 false,iQ 22 14 21,iM 23 22,iG 24 (.idxA 5 1 (Tm 7) (Ci 0)) 23 false,gL 25 24 23 false,gC 26 .neq 25 0 23 false,iQ 27 23 26]
def uF:Rg:=[iT 8 false]
def VM:Rg:=[iI 9 1]
def VN:Rg:=[iM 28 9,iC 29 .lss 28 5]
def DN:Rg:=[iM 32 9,iA 33 (.idxA 5 1 (Tm 7) (Tm 32)),iL 34 33,iA 35 (.call 76 [(Tm 34),(Ci 0),(Ci 8)]),iA 36 (.un .not (Tm 35))]
def VO:Rg:=[iT 8 false]
def VP:Rg:=[iM 30 9,iC 31 .add 30 1,iM 9 31]
def VJ:aB:=(.seq (sq VN (.cond (Tm 29) .skip (.exit 0))) (.seq (.block 1 (sq DN (.cond (Tm 36) (sq VO .ret) .skip))) (.region VP)))
def VQ:Rg:=[iT 8 true]
def vN:aB:=(sq VK (.seq (sq VL (.cond (Tm 27) (sq uF .ret) .skip)) (.seq (sq VM (.block 0 (.loop VJ))) (sq VQ .ret))))
def aTP:List Nat:=[7]
def KD:aS:=⟨4,37,vN,[.tmp 8]⟩
def a2S:Rg:=[iA 6 (.box true (Tm 2)),iA 7 (.box true (Tm 3)),iT 8 false]
def a2T:Rd:=[(iM 9 1,false),(iM 10 0,false),(iK2 11 66 9 10,true),(iM 12 11,false),(gO 13 3 6 12 true,false),(gK 14 74 13 12 true,true),(iP 15 12 14,false),(iM 16 15,false),(iG 17 (.call 47 [(Ci 1)]) 16 true,true),(gO 18 3 6 16 true,true),(gK2 19 49 17 18 16 true,true),(iG 20 (.un .not (Tm 19)) 16 true,false),(iP 21 16 20,false),(iM 22 21,false),(gO 23 3 7 22 true,false),(gK 24 74 23 22 true,true),(iP 25 22 24,false),(iM 8 25,false)]
def QS:aB:=(sq a2S (dq a2T .ret))
def bvS:List Nat:=[6,7]
def baV:aS:=⟨4,26,QS,[.tmp 8]⟩
def axD:Rg:=[iI 4 0]
def axE:Rg:=[iI 5 0]
def axF:Rg:=[iM 6 5,iM 7 0,iN 8 7,iB 9 .lss 6 8]
def QT:Rg:=[iM 12 0,iM 13 5,iX 14 1 12 13,iL 15 14,iM 16 1,iB 17 .eql 15 16]
def axG:Rg:=[iM 18 5,iM 4 18]
def axH:Rg:=[iM 10 5,iC 11 .add 10 1,iM 5 11]
def axC:aB:=(.seq (sq axF (.cond (Tm 9) .skip (.exit 0))) (.seq (.block 1 (sq QT (.cond (Tm 17) (sq axG .ret) .skip))) (.region axH)))
def axI:Rg:=[iI 4 (-1)]
def DM:aB:=(sq axD (.seq (sq axE (.block 0 (.loop axC))) (sq axI .ret)))
def bjA:List Nat:=[]
def aiR:aS:=⟨2,19,DM,[.tmp 4]⟩
def axN:Rg:=[iA 1 (.box true (Tm 0)),iT 2 false]
def axO:Rg:=[iF 22 0 1,iL 23 22,iA 24 (.call 76 [(Tm 23),(Ci 1),(Ci 4)]),iA 25 (.un .not (Tm 24)),iM 26 25,gF 27 1 1 26 false,gL 28 27 26 false,gN 29 28 26 false,gF 30 2 1 26 false,gL 31 30 26 false,gN 32 31 26 false,gF 33 3 1 26 false,gL 34 33 26 false,gN 35 34 26 false,gF 36 4 1 26 false,gL 37 36 26 false,gN 38 37 26 false,gF 39 5 1 26 false,gL 40 39 26 false,gN 41 40 26 false,gF 42 6 1 26 false,gL 43 42 26 false,gN 44 43 26 false,iG 45 (.call 73 [(Tm 29),(Tm 32),(Tm 35),(Tm 38),(Tm 41),(Tm 44)]) 26 false,iG 46 (.un .not (Tm 45)) 26 false,iQ 47 26 46,iM 48 47,gF 49 3 1 48 false,gL 50 49 48 false,gN 51 50 48 false,gC 52 .eql 51 0 48 false,iQ 53 48 52]
def AQ:Rg:=[iT 2 false]
def axP:Rg:=[iZ 3,iZ 4,iZ 5,iZ 6,iZ 7]
def axQ:Rg:=[iT 8 true]
def axR:Rg:=[iI 9 0]
def axS:Rg:=[iM 54 9,iF 55 1 1,iL 56 55,iN 57 56,iB 58 .lss 54 57,iM 59 58,gM 60 8 59 true,iP 61 59 60]
def axT:Rg:=[iM 65 3,iF 66 1 1,iL 67 66,iM 68 9,iX 69 4 67 68,iF 70 0 69,iL 71 70,iK2 72 70 65 71,iM 64 72,iE 73 64 0,iE 74 64 1,iM 3 73,iM 8 74]
def QW:Rg:=[iM 75 8,iM 76 75,gF 77 1 1 76 true,gL 78 77 76 true,gM 79 9 76 true,iG 80 (.bIK 4 (Tm 78) (Tm 79)) 76 true,gO 81 4 80 76 true,gK 82 68 81 76 true,iP 83 76 82,iM 8 83]
def QX:Rg:=[iM 62 9,iC 63 .add 62 1,iM 9 63]
def KE:aB:=(.seq (sq axS (.cond (Tm 61) .skip (.exit 0))) (.seq (.block 1 (sq axT (.region QW))) (.region QX)))
def ajF:Rg:=[iI 10 0]
def ajG:Rg:=[iM 84 10,iF 85 2 1,iL 86 85,iN 87 86,iB 88 .lss 84 87,iM 89 88,gM 90 8 89 true,iP 91 89 90]
def ajH:Rg:=[iF 94 2 1,iL 95 94,iM 96 10,iX 97 4 95 96,iO 98 4 97,iA 11 (.alloc [(.str []),(.int .i64 0),(.int .i64 0),(.int .i64 0)]),iS 4 11 98]
def ajI:Rg:=[iM 100 4,iF 101 0 11,iL 102 101,iK2 103 70 100 102,iM 99 103,iE 104 99 0,iE 105 99 1,iM 4 104,iM 8 105]
def KH:Rg:=[iM 106 8,iM 107 106,gF 108 1 11 107 true,gL 109 108 107 true,iG 110 (.call 76 [(Tm 109),(Ci 1),(Ci 16)]) 107 true,iP 111 107 110,iM 112 111,gF 113 2 11 112 true,gL 114 113 112 true,iG 115 (.call 76 [(Tm 114),(Ci 1),(Ci 64)]) 112 true,iP 116 112 115,iM 117 116,gF 118 3 11 117 true,gL 119 118 117 true,gF 120 1 1 117 true,gL 121 120 117 true,gN 122 121 117 true,gC 123 .sub 122 1 117 true,iG 124 (.call 76 [(Tm 119),(Ci 0),(Tm 123)]) 117 true,iP 125 117 124,iM 8 125]
def sS:Rg:=[iM 92 10,iC 93 .add 92 1,iM 10 93]
def KF:aB:=(.seq (sq ajG (.cond (Tm 91) .skip (.exit 2))) (.seq (.block 3 (sq ajH (sq ajI (.region KH)))) (.region sS)))
def ajJ:Rg:=[iF 126 3 1,iL 127 126,iA 128 (.bIK 7 (Tm 127) (Ci 0)),iO 129 7 128,iA 12 (.alloc [(.str []),(.int .i64 0),(.int .i64 0),(.int .i64 0),(.bool false),.bHP,.bHP]),iS 7 12 129]
def KI:Rg:=[iM 130 8,iM 131 130,gF 132 0 12 131 true,gL 133 132 131 true,iG 134 (.bin .eql (Tm 133) (.const (.str []))) 131 true,iP 135 131 134,iM 136 135,gF 137 1 12 136 true,gL 138 137 136 true,gC 139 .eql 138 0 136 true,iP 140 136 139,iM 141 140,gF 142 2 12 141 true,gL 143 142 141 true,gC 144 .eql 143 (-1) 141 true,iP 145 141 144,iM 146 145,gF 147 3 12 146 true,gL 148 147 146 true,gC 149 .eql 148 0 146 true,iP 150 146 149,iM 151 150,gF 152 4 12 151 true,gO 153 3 152 151 true,gK 154 56 153 151 true,iP 155 151 154,iM 156 155,gF 157 4 12 156 true,gO 158 3 157 156 true,gK 159 54 158 156 true,gC 160 .eql 159 0 156 true,iP 161 156 160,iM 8 161]
def KJ:Rg:=[iI 13 1]
def ajK:Rg:=[iM 162 13,iF 163 3 1,iL 164 163,iN 165 164,iB 166 .lss 162 165,iM 167 166,gM 168 8 167 true,iP 169 167 168]
def ajL:Rg:=[iF 172 3 1,iL 173 172,iM 174 13,iX 175 7 173 174,iO 176 7 175,iA 14 (.alloc [(.str []),(.int .i64 0),(.int .i64 0),(.int .i64 0),(.bool false),.bHP,.bHP]),iS 7 14 176]
def ajM:Rg:=[iM 178 5,iF 179 0 14,iL 180 179,iK2 181 70 178 180,iM 177 181,iE 182 177 0,iE 183 177 1,iM 5 182,iM 8 183]
def KK:Rd:=[(iM 184 8,false),(iM 185 184,false),(gF 186 1 14 185 true,false),(gL 187 186 185 true,false),(iG 188 (.call 76 [(Tm 187),(Ci 1),(Ci 4)]) 185 true,true),(iP 189 185 188,false),(iM 190 189,false),(gF 191 2 14 190 true,false),(gL 192 191 190 true,false),(gM 193 13 190 true,false),(gC 194 .sub 193 1 190 true,false),(iG 195 (.call 76 [(Tm 192),(Ci 0),(Tm 194)]) 190 true,true),(iP 196 190 195,false),(iM 197 196,false),(gF 198 3 1 197 true,false),(gL 199 198 197 true,false),(gF 200 2 14 197 true,false),(gL 201 200 197 true,false),(iG 202 (.bIK 7 (Tm 199) (Tm 201)) 197 true,false),(gF 203 1 202 197 true,false),(gL 204 203 197 true,false),(gF 205 1 14 197 true,false),(gL 206 205 197 true,false),(gC 207 .sub 206 1 197 true,false),(gB 208 .eql 204 207 197 true,false),(iP 209 197 208,false),(iM 210 209,false),(gF 211 3 14 210 true,false),(gL 212 211 210 true,false),(iG 213 (.call 76 [(Tm 212),(Ci 1),(Ci 64)]) 210 true,true),(iP 214 210 213,false),(iM 215 214,false),(gF 216 4 14 215 true,false),(gO 217 3 216 215 true,false),(gK 218 74 217 215 true,true),(iP 219 215 218,false),(iM 8 219,false)]
def nI:Rg:=[iM 170 13,iC 171 .add 170 1,iM 13 171]
def wT:aB:=(.seq (sq ajK (.cond (Tm 169) .skip (.exit 4))) (.seq (.block 5 (sq ajL (sq ajM (.draw KK)))) (.region nI)))
def KL:Rg:=[iI 15 0]
def ajN:Rg:=[iM 220 15,iF 221 4 1,iL 222 221,iN 223 222,iB 224 .lss 220 223,iM 225 224,gM 226 8 225 true,iP 227 225 226]
def ajO:Rg:=[iF 230 4 1,iL 231 230,iM 232 15,iX 233 3 231 232,iO 234 3 233,iA 16 (.alloc [(.str []),(.int .i64 0),(.int .i64 0)]),iS 3 16 234]
def ajP:Rg:=[iM 236 5,iF 237 0 16,iL 238 237,iK2 239 70 236 238,iM 235 239,iE 240 235 0,iE 241 235 1,iM 5 240,iM 8 241]
def KM:Rg:=[iM 242 8,iM 243 242,gF 244 1 16 243 true,gL 245 244 243 true,gF 246 2 1 243 true,gL 247 246 243 true,gN 248 247 243 true,gC 249 .sub 248 1 243 true,iG 250 (.call 76 [(Tm 245),(Ci 0),(Tm 249)]) 243 true,iP 251 243 250,iM 252 251,gF 253 2 16 252 true,gL 254 253 252 true,gF 255 3 1 252 true,gL 256 255 252 true,gN 257 256 252 true,gC 258 .sub 257 1 252 true,iG 259 (.call 76 [(Tm 254),(Ci 0),(Tm 258)]) 252 true,iP 260 252 259,iM 261 260,gF 262 3 1 261 true,gL 263 262 261 true,gF 264 2 16 261 true,gL 265 264 261 true,iG 266 (.bIK 7 (Tm 263) (Tm 265)) 261 true,gF 267 1 266 261 true,gL 268 267 261 true,gC 269 .eql 268 4 261 true,iP 270 261 269,iM 8 270]
def sT:Rg:=[iM 228 15,iC 229 .add 228 1,iM 15 229]
def wU:aB:=(.seq (sq ajN (.cond (Tm 227) .skip (.exit 6))) (.seq (.block 7 (sq ajO (sq ajP (.region KM)))) (.region sT)))
def KN:Rg:=[iI 17 0]
def ajQ:Rg:=[iM 271 17,iF 272 5 1,iL 273 272,iN 274 273,iB 275 .lss 271 274,iM 276 275,gM 277 8 276 true,iP 278 276 277]
def ajR:Rg:=[iF 281 5 1,iL 282 281,iM 283 17,iX 284 17 282 283,iO 285 17 284,iA 18 (.alloc [(.str []),(.int .i64 0),(.int .i64 0),(.int .i64 0),(.int .i64 0),(.int .i64 0),(.int .i64 0),(.int .i64 0),(.int .i64 0),.bHP,.bHP,(.bool false),.bHP,.bHP,(.bool false),.bHP,.bHP]),iS 17 18 285]
def ajS:Rg:=[iM 287 6,iF 288 0 18,iL 289 288,iK2 290 70 287 289,iM 286 290,iE 291 286 0,iE 292 286 1,iM 6 291,iM 8 292]
def KO:Rg:=[iM 293 8,iM 294 293,gF 295 1 18 294 true,gL 296 295 294 true,gF 297 2 18 294 true,gL 298 297 294 true,gF 299 3 18 294 true,gL 300 299 294 true,gF 301 4 18 294 true,gO 302 5 301 294 true,iG 303 (.call 72 [(Tm 296),(Tm 298),(Tm 300),(Tm 302)]) 294 true,iP 304 294 303,iM 305 304,gF 306 2 18 305 true,gL 307 306 305 true,gF 308 10 18 305 true,gL 309 308 305 true,gF 310 11 18 305 true,gO 311 3 310 305 true,gF 312 14 18 305 true,gO 313 3 312 305 true,iG 314 (.call 69 [(Tm 307),(Tm 309),(Tm 311),(Tm 313)]) 305 true,iP 315 305 314,iM 316 315,gF 317 9 18 316 true,gL 318 317 316 true,gN 319 318 316 true,gC 320 .gtr 319 0 316 true,iP 321 316 320,iM 8 321]
def sU:Rg:=[iI 19 0]
def ajT:Rg:=[iM 322 19,iF 323 9 18,iL 324 323,iN 325 324,iB 326 .lss 322 325,iM 327 326,gM 328 8 327 true,iP 329 327 328]
def ajU:Rd:=[(iF 332 9 18,false),(iL 333 332,false),(iM 334 19,false),(iX 335 1 333 334,false),(iL 336 335,false),(iF 337 2 1,false),(iL 338 337,false),(iN 339 338,false),(iC 340 .sub 339 1,false),(iA 341 (.call 76 [(Tm 336),(Ci 0),(Tm 340)]),true),(iM 8 341,false)]
def ajV:Rg:=[iI 20 0]
def ajW:Rg:=[iM 342 20,iM 343 19,iB 344 .lss 342 343]
def KP:Rd:=[(iM 347 8,false),(iM 348 347,false),(gF 349 9 18 348 true,false),(gL 350 349 348 true,false),(gM 351 20 348 true,false),(iG 352 (.bIK 1 (Tm 350) (Tm 351)) 348 true,false),(gL 353 352 348 true,false),(gF 354 9 18 348 true,false),(gL 355 354 348 true,false),(gM 356 19 348 true,false),(iG 357 (.bIK 1 (Tm 355) (Tm 356)) 348 true,false),(gL 358 357 348 true,false),(gB 359 .neq 353 358 348 true,false),(iP 360 348 359,false),(iM 8 360,false)]
def KQ:Rg:=[iM 345 20,iC 346 .add 345 1,iM 20 346]
def KG:aB:=(.seq (sq ajW (.cond (Tm 344) .skip (.exit 12))) (.seq (.block 13 (.draw KP)) (.region KQ)))
def ajX:Rg:=[iM 330 19,iC 331 .add 330 1,iM 19 331]
def wV:aB:=(.seq (sq ajT (.cond (Tm 329) .skip (.exit 10))) (.seq (.block 11 (dq ajU (sq ajV (.block 12 (.loop KG))))) (.region ajX)))
def KR:Rg:=[iM 279 17,iC 280 .add 279 1,iM 17 280]
def wW:aB:=(.seq (sq ajQ (.cond (Tm 278) .skip (.exit 8))) (.seq (.block 9 (sq ajR (sq ajS (sq KO (sq sU (.block 10 (.loop wV))))))) (.region KR)))
def KT:Rg:=[iI 21 0]
def ajY:Rg:=[iM 361 21,iF 362 6 1,iL 363 362,iN 364 363,iB 365 .lss 361 364,iM 366 365,gM 367 8 366 true,iP 368 366 367]
def ajZ:Rg:=[iM 372 7,iF 373 6 1,iL 374 373,iM 375 21,iX 376 2 374 375,iF 377 0 376,iL 378 377,iK2 379 70 372 378,iM 371 379,iE 380 371 0,iE 381 371 1,iM 7 380,iM 8 381]
def KU:Rd:=[(iM 382 8,false),(iM 383 382,false),(gF 384 6 1 383 true,false),(gL 385 384 383 true,false),(gM 386 21 383 true,false),(iG 387 (.bIK 2 (Tm 385) (Tm 386)) 383 true,false),(gF 388 1 387 383 true,false),(gL 389 388 383 true,false),(gF 390 5 1 383 true,false),(gL 391 390 383 true,false),(gN 392 391 383 true,false),(gC 393 .sub 392 1 383 true,false),(iG 394 (.call 76 [(Tm 389),(Ci 0),(Tm 393)]) 383 true,true),(iP 395 383 394,false),(iM 8 395,false)]
def KV:Rg:=[iM 369 21,iC 370 .add 369 1,iM 21 370]
def wX:aB:=(.seq (sq ajY (.cond (Tm 368) .skip (.exit 14))) (.seq (.block 15 (sq ajZ (.draw KU))) (.region KV)))
def KW:Rg:=[iM 396 8,iM 2 396]
def DQ:aB:=(sq axN (.seq (sq axO (.cond (Tm 53) (sq AQ .ret) .skip)) (sq axP (sq axQ (.seq (sq axR (.block 0 (.loop KE))) (.seq (sq ajF (.block 2 (.loop KF))) (sq ajJ (sq KI (.seq (sq KJ (.block 4 (.loop wT))) (.seq (sq KL (.block 6 (.loop wU))) (.seq (sq KN (.block 8 (.loop wW))) (.seq (sq KT (.block 14 (.loop wX))) (sq KW .ret)))))))))))))
def bjJ:List Nat:=[1]
def ajE:aS:=⟨1,397,DQ,[.tmp 2]⟩
def axA:Rg:=[iZ 4,iT 5 false]
def axB:Rg:=[iM 6 0,iM 7 1,iA 8 (.bHU true 1 1 [(.str [])] [(0,(Tm 7))]),iA 9 (.append 1 16 (Tm 6) (Tm 8)),iM 10 1,iK 11 62 10,iM 12 11,gM 13 0 12 true,gM 14 1 12 true,gK2 15 71 13 14 12 true,gC 16 .lss 15 0 12 true,iP 17 12 16,iM 4 9,iM 5 17]
def DL:aB:=(sq axA (sq axB .ret))
def biY:List Nat:=[8]
def aiQ:aS:=⟨2,18,DL,[.tmp 4,.tmp 5]⟩
theorem bbB {C:Ctx} (n lo hi:Int):sV.wp C (aR ER.res (aD (.bool (within n lo hi)))) (PF.args [.int .i64 n,.int .i64 lo,.int .i64 hi]) .nil:=by
 unfold within
 by_cases h:lo≤n
 ·simp only[go_sem,γ,reduceCtorEq,sV,KX,KY,ER,ge_iff_le,h]
  refine aM (.inr rfl) rfl ?_
  simp[bH,h]
 ·simp only[go_sem,γ,reduceCtorEq,sV,KX,KY,ER,ge_iff_le,h]
  refine aM (.inr rfl) rfl ?_
  simp[bH,h]
def oU (a b c d e f:Nat):Bool:=decide (a≤4)&&(decide (b≤4)&&(decide (c≤40)&&(decide (d≤24)&&(decide (e≤4)&&decide (f≤12)))))
theorem bjC {C:Ctx} (a b c d e f:Nat):DO.wp C (aR aiS.res (aD (.bool (oU a b c d e f)))) (PF.args [.int .i64 a,.int .i64 b,.int .i64 c,.int .i64 d,.int .i64 e,.int .i64 f]) .nil:=by
 have g:∀ x k:Nat,decide ((x:Int)≤(k:Int))=decide (x≤k):=fun x k=>decide_eq_decide.2 Om
 have h1:=g a 4
 have h2:=g b 4
 have h3:=g c 40
 have h4:=g d 24
 have h5:=g e 4
 have h6:=g f 12
 simp only[Int.cast_ofNat_Int] at h1 h2 h3 h4 h5 h6
 unfold oU
 simp only[go_sem,γ,reduceCtorEq,DO,axJ,axK,aiS,h1]
 cases decide (a≤4) with
 | false =>
  simp only[go_sem,γ,reduceCtorEq]
  refine aM (.inr rfl) rfl ?_
  rfl
 | true =>
  simp only[go_sem,γ,h2]
  cases decide (b≤4) with
  | false =>
   simp only[go_sem,γ,reduceCtorEq]
   refine aM (.inr rfl) rfl ?_
   rfl
  | true =>
   simp only[go_sem,γ,h3]
   cases decide (c≤40) with
   | false =>
    simp only[go_sem,γ,reduceCtorEq]
    refine aM (.inr rfl) rfl ?_
    rfl
   | true =>
    simp only[go_sem,γ,h4]
    cases decide (d≤24) with
    | false =>
     simp only[go_sem,γ,reduceCtorEq]
     refine aM (.inr rfl) rfl ?_
     rfl
    | true =>
     simp only[go_sem,γ,h5]
     cases decide (e≤4) with
     | false =>
      simp only[go_sem,γ,reduceCtorEq]
      refine aM (.inr rfl) rfl ?_
      rfl
     | true =>
      simp only[go_sem,γ,h6]
      refine aM (.inr rfl) rfl ?_
      rfl
structure aaH (C:Ctx):Prop extends a3P C where
 sum:∀ l:List RF,(∀ x∈l,x.Ok)→l.length≤9223372036854775807→aI C 55 [frs l] .nil (aD (frV (mU (l.map RF.v))))
 inn:∀ n lo hi:Int,aI C 76 [.int .i64 n,.int .i64 lo,.int .i64 hi] .nil (aD (.bool (within n lo hi)))
 code:∀ k m:Int,aI C 61 [.int .i64 k,.int .i64 m] .nil (aD (.bool (EW k m)))
def HQ (k m q s0 s1 s2 s3 s4:Int):Bool:=EW k m&&(within q k (k+m)&&(decide (s0=0)&&(within s1 0 8&&(within s2 0 8&&(within s3 0 8&&within s4 0 8)))))
theorem btZ (p:cJ):HP p=HQ p.k p.m p.bIT p.s0 p.s1 p.s2 p.s3 p.s4:=by
 unfold HP HQ EW
 have:within p.s0 0 8=true∨p.s0≠0:=by
  by_cases h:p.s0=0
  ·rw[h]; exact .inl rfl
  ·exact .inr h
 simp only[List.all_cons,List.all_nil,bMF]
 rcases this with h | h
 ·rw[h]
  simp only[bKJ,bMP]
 ·simp only[h,decide_false,bKC,bLE]
def spR (s1 s2 s3 s4:Int) (k:Nat):Int:=match k with
 | 1=>s1
 | 2=>s2
 | 3=>s3
 | _=>s4
theorem aTO {C:Ctx} (L:aaH C) (k m q s0 s1 s2 s3 s4:Int) :
  vN.wp C (aR KD.res (aD (.bool (HQ k m q s0 s1 s2 s3 s4)))) (PF.args [.int .i64 k,.int .i64 m,.int .i64 q,.agg [.int .i64 s0,.int .i64 s1,.int .i64 s2,.int .i64 s3,.int .i64 s4]]) .nil:=by
 obtain⟨X,hX⟩:∃ X,HQ k m q s0 s1 s2 s3 s4=X:=⟨_,rfl⟩
 rw[hX]
 unfold HQ at hX
 simp only[go_sem,γ,reduceCtorEq,vN,VK,VL,KD]
 refine aA (L.code k m) rfl ?_
 cases h1:EW k m with
 | false =>
  rw[h1,bKC] at hX
  simp only[go_sem,γ,bKF,uF]
  refine aM (.inr rfl) rfl ?_
  rw[bH,hX]
 | true =>
  rw[h1,bKJ] at hX
  have hb:1≤k∧k≤6∧0≤m∧m≤4:=by
   simp only[EW,bKM,within_iff] at h1
   omega
  have hw:IntKind.i64.wrap (k+m)=k+m:=wrap_i64 Om Om
  simp only[go_sem,γ,reduceCtorEq,bJW,hw]
  refine aA (L.inn q k (k+m)) rfl ?_
  cases h2:within q k (k+m) with
  | false =>
   rw[h2,bKC] at hX
   simp only[go_sem,γ,reduceCtorEq,bKF,uF]
   refine aM (.inr rfl) rfl ?_
   rw[bH,hX]
  | true =>
   rw[h2,bKJ] at hX
   have l50:(0:Int)<((5:Nat):Int):=by decide
   by_cases h3:s0=0
   ·rw[decide_eq_true h3,bKJ] at hX
    simp only[go_sem,ν,δ,γ,θ,ζ,reduceCtorEq,bJW,l50,bY h3,VM]
    refine wp_loop (α:=Nat) (fun j=>((PF.nil.set 7 (.bHX [.int .i64 s0,.int .i64 s1,.int .i64 s2,.int .i64 s3,.int .i64 s4])).set 9 (.int .i64 j))) (fun _=>.nil) (fun j=>1≤j∧j≤5∧∀ i,1≤i→i<j→within (spR s1 s2 s3 s4 i) 0 8=true) (fun j=>5-j) 1 ⟨by decide,by decide,fun i h1 h2=>by omega⟩ Lq PH.nil_le ?_
    rintro j ⟨hj1,hj5,bJG⟩
    simp only[go_sem,γ,VJ,VN]
    by_cases hlt:j<5
    ·have bHV:(j:Int)<5:=by omega
     have hlt5:((j:Nat):Int)<((5:Nat):Int):=by omega
     have hin:=L.inn (spR s1 s2 s3 s4 j) 0 8
     obtain⟨c,hc2⟩:∃ c,within (spR s1 s2 s3 s4 j) 0 8=c:=⟨_,rfl⟩
     rw[hc2] at hin
     have bHW:c=true→∀ i,1≤i→i<j+1→within (spR s1 s2 s3 s4 i) 0 8=true:=fun hc i a b=>by
      by_cases e:i=j
      ·rw[e,hc2,hc]
      ·exact bJG i a Om
     have bad:c=false→X=false:=by
      intro h
      rw[h] at hc2
      have hc:j=1∨j=2∨j=3∨j=4:=by omega
      rw[← hX]
      rcases hc with rfl | rfl | rfl | rfl<;>(simp only[spR] at hc2; rw[hc2]; simp)
     have hc:j=1∨j=2∨j=3∨j=4:=by omega
     cases c with
     | false =>
      have hXf:=bad rfl
      rcases hc with rfl | rfl | rfl | rfl
      all_goals
       simp only[spR] at hin
       simp only[go_sem,δ,γ,θ,ζ,ε,bHV,DN,hlt5]
       refine aA hin rfl ?_
       simp only[go_sem,γ,bKF,VO]
       refine aM (.inr rfl) rfl ?_
       rw[bH,hXf]
     | true =>
      have hs:=bHW rfl
      rcases hc with rfl | rfl | rfl | rfl
      all_goals
       simp only[spR] at hin
       simp only[go_sem,δ,γ,θ,ζ,ε,bHV,DN,hlt5]
       refine aA hin rfl ?_
       simp only[go_sem,γ,bJW,VP]
       refine aC (_+1) ⟨by omega,hlt,hs⟩ Om Lq PH.le_refl
    ·have bHV:¬ (j:Int)<5:=by omega
     have:j=5:=by omega
     subst this
     simp only[go_sem,ε,bHV,VQ]
     refine aM (.inr rfl) rfl ?_
     have a1:=bJG 1 (by decide) (by decide)
     have a2:=bJG 2 (by decide) (by decide)
     have a3:=bJG 3 (by decide) (by decide)
     have a4:=bJG 4 (by decide) (by decide)
     simp only[spR] at a1 a2 a3 a4
     rw[bH,← hX,a1,a2,a3,a4]
     rfl
   ·rw[decide_eq_false h3,bKC] at hX
    simp only[go_sem,ν,δ,γ,θ,ζ,reduceCtorEq,bJW,l50,cT h3,uF]
    refine aM (.inr rfl) rfl ?_
    rw[bH,hX]
theorem pC {x:RF} (h:cL x=true):x.valid:=by
 unfold cL nT at h
 unfold RF.valid
 cases hv:cN (val x.num) (val x.den) with
 | true=>rfl
 | false =>
  rw[hv] at h
  simp at h
theorem bjE {C:Ctx} (L:aaH C) (x:RF) (hx:x.Ok):DP.wp C (aR aiT.res (aD (.bool (cL x)))) (PF.args [.agg x.cells]) .nil:=by
 have hr:=L.red x hx
 unfold cL
 simp only[go_sem,δ,γ,DP,axL,axM,aiT]
 refine aA hr rfl ?_
 cases he:nT x with
 | error e =>
  have h0:=aJU he
  simp only[go_sem,δ,γ,frV]
  refine aO fun o ho=>?_
  simp only[go_sem,δ,γ,reduceCtorEq,AP,bF h0]
  refine aM (.inr rfl) rfl ?_
  rfl
 | ok r =>
  obtain⟨n,a,b⟩:=r
  have ea:=lK a 1
  have eb:=lK b 1
  have da:decide (((nl a:Nat):Int)≤1)=decide (cF a≤32):=decide_eq_decide.2 Om
  have db:decide (((nl b:Nat):Int)≤1)=decide (cF b≤32):=decide_eq_decide.2 Om
  simp only[go_sem,δ,γ,frV]
  refine aO fun o ho=>?_
  cases n with
  | true =>
   simp only[go_sem,ρ,δ,γ,θ,reduceCtorEq,AP,bJW]
   refine aM (.inr rfl) rfl ?_
   rfl
  | false =>
   simp only[go_sem,ρ,δ,γ,θ,AP,bKF,bJT,aZ,da]
   cases decide (cF a≤32) with
   | false =>
    simp only[go_sem,γ,reduceCtorEq]
    refine aM (.inr rfl) rfl ?_
    rfl
   | true =>
    simp only[go_sem,δ,γ,bJT,aZ,db]
    refine aM (.inr rfl) rfl ?_
    rfl
structure akB (C:Ctx):Prop extends aaH C where
 small:∀ x:RF,x.Ok→aI C 74 [.agg x.cells] .nil (aD (.bool (cL x)))
 nums:∀ k m q s0 s1 s2 s3 s4:Int,aI C 72 [.int .i64 k,.int .i64 m,.int .i64 q,.agg [.int .i64 s0,.int .i64 s1,.int .i64 s2,.int .i64 s3,.int .i64 s4]] .nil (aD (.bool (HQ k m q s0 s1 s2 s3 s4)))
 sizes:∀ a b c d e f:Nat,aI C 73 [.int .i64 a,.int .i64 b,.int .i64 c,.int .i64 d,.int .i64 e,.int .i64 f] .nil (aD (.bool (oU a b c d e f)))
theorem abJ {l:List RF} {k:Nat} (h:k<l.length):(l.map RF.cells)[k]?=some (l[k]).cells:=by simp[h]
theorem baZ {C:Ctx} (L:akB C) (l:List RF) (hl:jP l) (n:Int):zB.wp C (aR SO.res (aD (.bool (decide ((l.length:Int)=n)&&l.all cL)))) (PF.args [frs l,.int .i64 n]) .nil:=by
 have hf:=hl.fits
 unfold Fits at hf
 simp only[go_sem,γ,reduceCtorEq,zB,aiV,aiW,SO,bJT]
 by_cases h:((l.length:Nat):Int)=n
 ·rw[decide_eq_true h,bKJ]
  subst h
  simp only[go_sem,bY (show ((l.length:Nat):Int)=(l.length:Nat) from rfl),aiY]
  refine wp_loop (α:=Nat) (fun k=>(((PF.nil.set 0 (frs l)).set 1 (.int .i64 (l.length:Nat))).set 5 (.int .i64 k))) (fun _=>.nil) (fun k=>k≤l.length∧(l.take k).all cL=true) (fun k=>l.length-k) 0 ⟨bKA _,rfl⟩ Lq PH.nil_le ?_
  rintro k ⟨hk,ha⟩
  simp only[go_sem,γ,reduceCtorEq,aiU,aiZ]
  by_cases hlt:k<l.length
  ·have bHV:(k:Int)<(l.length:Nat):=by omega
   have hs:=L.small l[k] (hl.all _ (bJZ hlt))
   simp only[go_sem,δ,γ,reduceCtorEq,bHV,ajA,abJ hlt]
   refine aA hs rfl ?_
   cases hi:cL l[k] with
   | false =>
    simp only[go_sem,γ,reduceCtorEq,bKF,ajB]
    refine aM (.inr rfl) rfl ?_
    rw[bH,oI hlt hi]
   | true =>
    have ha2:=bKP.1 (oH hlt ha hi)
    simp only[go_sem,γ,reduceCtorEq,bJW,ajC,ws k]
    exact aC (k+1) ⟨hlt,ha2⟩ Om Lq PH.le_refl
  ·have bHV:¬ (k:Int)<(l.length:Nat):=by omega
   have:k=l.length:=by omega
   subst this
   rw[bKU] at ha
   simp only[go_sem,bHV,ajD]
   refine aM (.inr rfl) rfl ?_
   rw[bH,ha]
 ·rw[decide_eq_false h,bKC]
  simp only[go_sem,cT h,aiX]
  refine aM (.inr rfl) rfl ?_
  rfl
structure akC (C:Ctx):Prop extends akB C where
 smalls:∀ l:List RF,jP l→∀ n:Int,aI C 75 [frs l,.int .i64 n] .nil (aD (.bool (decide ((l.length:Int)=n)&&l.all cL)))
theorem IG (x:RF):(qC x==0)=!bJ x:=by
 unfold qC bJ
 by_cases h:val x.num=0
 ·simp[h]
 ·cases x.neg<;>simp[h]
def YN (l:List RF) (m:Int):Bool:=decide ((l.length:Int)=max m 1)&&l.all cL&&l.all bJ
theorem bvV {C:Ctx} (L:akC C) (l:List RF) (hl:jP l) (m:Int):QV.wp C (aR baY.res (aD (.bool (YN l m)))) (PF.args [frs l,.int .i64 m]) .nil:=by
 have hf:=hl.fits
 unfold Fits at hf
 have hs:=L.smalls l hl (max m 1)
 unfold YN
 simp only[go_sem,γ,reduceCtorEq,QV,a3D,a3E,baY,max_eq]
 refine aA hs rfl ?_
 cases h:(decide ((l.length:Int)=max m 1)&&l.all cL) with
 | false =>
  simp only[go_sem,γ,bKF,a3F]
  refine aM (.inr rfl) rfl ?_
  rfl
 | true =>
  rw[bKM] at h
  have bJG:=bKP.1 h.2
  simp only[go_sem,γ,bJW,a3G]
  refine wp_loop (α:=Nat) (fun k=>((PF.nil.set 0 (frs l)).set 5 (.int .i64 k))) (fun _=>.nil) (fun k=>k≤l.length∧(l.take k).all bJ=true) (fun k=>l.length-k) 0 ⟨bKA _,rfl⟩ Lq PH.nil_le ?_
  rintro k ⟨hk,ha⟩
  simp only[go_sem,γ,reduceCtorEq,a3C,a3H,bJT]
  by_cases hlt:k<l.length
  ·have bHV:(k:Int)<(l.length:Nat):=by omega
   have hm:=bJZ hlt
   have hg:=L.sign l[k] (hl.all _ hm) (pC (bJG _ hm))
   have hz:=IG l[k]
   simp only[go_sem,δ,γ,reduceCtorEq,bHV,a3I,abJ hlt]
   refine aA hg rfl ?_
   cases hi:bJ l[k] with
   | false =>
    rw[hi] at hz
    simp only[go_sem,γ,reduceCtorEq,hz,bKF,a3J]
    refine aM (.inr rfl) rfl ?_
    rw[bH,oI hlt hi]
   | true =>
    rw[hi] at hz
    have ha2:=bKP.1 (oH hlt ha hi)
    simp only[go_sem,γ,reduceCtorEq,hz,bJW,a3K,ws k]
    exact aC (k+1) ⟨hlt,ha2⟩ Om Lq PH.le_refl
  ·have bHV:¬ (k:Int)<(l.length:Nat):=by omega
   have:k=l.length:=by omega
   subst this
   rw[bKU] at ha
   simp only[go_sem,bHV,a3L]
   refine aM (.inr rfl) rfl ?_
   rw[bH,ha]
structure akD (C:Ctx):Prop extends akC C where
 reps:∀ l:List RF,jP l→∀ m:Int,aI C 66 [frs l,.int .i64 m] .nil (aD (.bool (YN l m)))
def frD:List PV→RF
 | [.bool n,a,b]=>⟨n,iY a,iY b⟩
 | _=>⟨false,[],[]⟩
theorem anJ (x:RF):frD x.cells=x:=by
 show (⟨x.neg,iY (aJ x.num),iY (aJ x.den)⟩:RF)=x
 rw[dY,dY]
def zdS (r s:Bool):Spec:=fun name vs=>match name,vs with
 | 66,_=>some ([],fun _=>aD (.bool r))
 | 74,[.agg cs]=>some ([],fun _=>aD (.bool (cL (frD cs))))
 | 47,_=>some ([],fun _=>aD (.agg (mkT 1 1).cells))
 | 49,_=>some ([],fun _=>aD (.bool s))
 | _,_=>none
theorem awZ (r s:Bool) (x:RF):zdS r s 74 [.agg x.cells]=some ([],fun _=>aD (.bool (cL x))):=by
 show some ([],fun _=>aD (.bool (cL (frD x.cells))))=_
 rw[anJ]
theorem bfF (x y:RF):oR y x=- oR x y:=by
 unfold oR oQ
 have e:=anE (val x.num*val y.den) (val y.num*val x.den)
 cases x.neg&&decide (val x.num≠0)<;>cases y.neg&&decide (val y.num≠0)<;>simp only[e,Int.neg_neg]<;>rfl
theorem bnJ {x:RF} (hx:x.valid):decide (oR (mkT 1 1) x<0)=!vJ x:=by
 rw[bfF x]
 unfold vJ
 rw[show cN (val x.num) (val x.den)=true from hx,bKJ,EE]
 unfold oR
 simp only[aQ,show (1:Int).natAbs=1 from rfl,show decide ((1:Int)<0)=false from rfl]
 by_cases h:oQ x.neg (val x.num) (val x.den) false 1 1≤0
 ·rw[decide_eq_true h,decide_eq_false Om]; rfl
 ·rw[decide_eq_false h,decide_eq_true Om]; rfl
def MD (m:Int) (rep:List RF) (t h:RF):Bool:=YN rep m&&(cL t&&(vJ t&&cL h))
theorem bvR {C:Ctx} (L:akD C) (m:Int) (rep:List RF) (hr:jP rep) (t h:RF) (ht:t.Ok) (hh:h.Ok) :
  QS.wp C (aR baV.res (aD (.bool (MD m rep t h)))) (PF.args [.int .i64 m,frs rep,.agg t.cells,.agg h.cells]) .nil:=by
 have h1:cX 1:=by unfold cX; omega
 unfold MD
 simp only[go_sem,γ,QS,a2S,baV]
 refine bL .nil (zdS (YN rep m) (!vJ t)) PH.nil_le ?_
 simp only[go_sem,γ,reduceCtorEq,a2T]
 refine bC rfl (L.reps rep hr m) rfl PH.nil_le ?_
 cases YN rep m with
 | false =>
  simp only[go_sem,γ,reduceCtorEq]
  refine aM (.inr rfl) rfl ?_
  rfl
 | true =>
  simp only[go_sem,δ,γ]
  refine bC (awZ _ _ t) (L.small t ht) rfl PH.nil_le ?_
  cases hl:cL t with
  | false =>
   simp only[go_sem,γ,reduceCtorEq]
   refine aM (.inr rfl) rfl ?_
   rfl
  | true =>
   have hle:=L.less (mkT 1 1) t (ED 1 h1).1 ht (ED 1 h1).2 (pC hl)
   rw[bnJ (pC hl)] at hle
   simp only[go_sem,γ]
   refine bC rfl (L.int 1 h1) rfl PH.nil_le ?_
   simp only[go_sem,δ,γ]
   refine bC rfl hle rfl PH.nil_le ?_
   cases vJ t with
   | false =>
    simp only[go_sem,γ,reduceCtorEq,bKF,bJW]
    refine aM (.inr rfl) rfl ?_
    rfl
   | true =>
    simp only[go_sem,δ,γ,bJW,bKF]
    refine bC (awZ _ _ h) (L.small h hh) rfl PH.nil_le ?_
    simp only[go_sem,γ]
    refine aM (.inr rfl) rfl ?_
    rfl
theorem bwP (p:cJ):zR p=MD p.m p.repair p.target p.bIB:=by
 unfold zR MD YN
 have:(p.repair.all fun x=>cL x&&bJ x)=(p.repair.all cL&&p.repair.all bJ):=by
  induction p.repair with
  | nil=>rfl
  | cons a t ih =>
   simp only[List.all_cons,ih]
   cases cL a<;>cases bJ a<;>simp
 rw[this]
 simp only[bMP]
section
variable {H:PH} {B:List BX} {L:List LI}
theorem aT.a3T (h:aT H B L) (i:Nat) {s b:Nat} {v y:PV} {rows src:List (List PV)} {K:PV→PH→Prop} (hi:L[i]?=some (v,s,rows)) (hy:dX H s y=some src) (hr:roomFor rows.length src.length b)
  (hk:∀ v' H',aX H' s v rows→aT H' B (L.set i (v',s,rows++src))→K v' H'):nG H s b v y K:=by
 rcases h.own i hi with ⟨rfl,rfl⟩ | ⟨q,rs,rfl,h1,h2,h3⟩
 ·exact h.append i hi hy hr fun v' H' h' _=>hk v' H' (.inl ⟨rfl,rfl⟩) h'
 ·have hlen:(rows++src).length=rows.length+src.length:=bJX
  refine⟨src,hy,rfl,rfl,hr,rs,h1,h2,?_,fun o ho=>?_⟩
  ·rw[h3]
   refine hk _ _ (.inr ⟨q,rows++src,rfl,by rw[jJ],by rw[hlen]; omega,List.take_left' rfl⟩) (h.SF i hi (.inr ⟨q,rows++src,by rw[hlen],by simp only[bA,if_true],bKB _,bKU⟩) (fun p hp=>by cases hp; exact .inl rfl) fun p _ hp=>?_)
   rw[bA,if_neg (hp q rfl)]
  ·rw[h3]
   have hqo:q≠o:=by rintro rfl; rw[h1] at ho; cases ho
   refine hk _ _ (.inr ⟨q,rs,rfl,by rw[bA,if_neg hqo]; exact h1,h2,h3⟩) (h.SF i hi (.inr ⟨o,rows++src,by rw[hlen],by simp only[bA,if_true],bKB _,bKU⟩) (fun p hp=>by cases hp; exact .inr ho) fun p hpm hp=>?_)
   obtain⟨f1,f2⟩:=h.fresh ho
   have n1:p≠o:=by rintro rfl; exact hpm.elim f1 f2
   rw[bA,if_neg n1]
end
abbrev lY (l:List (List UInt8)):List (List PV):=l.map fun s=>[PV.str s]
def yB:List (List UInt8)→List UInt8→Nat→Int
 | [],_,_=>-1
 | x::t,s,i=>if x==s then (i:Int) else yB t s (i+1)
theorem aFB (s:List UInt8):∀ (l:List (List UInt8)) (i:Nat),decide (yB l s i<0)=!l.contains s
 | [],i=>rfl
 | x::t,i=>by
  rw[yB,List.contains_cons,BEq.comm (a:=s)]
  by_cases h:(x==s)=true
  ·rw[if_pos h,h,Bool.true_or,decide_eq_false Om]; rfl
  ·rw[if_neg h,aFB s t (i+1)]
   simp only[Bool.not_eq_true] at h
   rw[h,Bool.false_or]
theorem biZ {C:Ctx} (l:List (List UInt8)) (hl:l.length≤1000000) (s:List UInt8):DM.wp C (aR aiR.res (aD (.int .i64 (yB l s 0)))) (PF.args [.sl 1 (lY l),.str s]) .nil:=by
 simp only[go_sem,DM,axD,axE,aiR]
 refine wp_loop (α:=Nat) (fun k=>(((PF.nil.set 0 (.sl 1 (lY l))).set 1 (.str s)).set 5 (.int .i64 k))) (fun _=>.nil) (fun k=>k≤l.length∧yB l s 0=yB (l.drop k) s k) (fun k=>l.length-k) 0 ⟨bKA _,rfl⟩ Lq PH.nil_le ?_
 rintro k ⟨hk,ha⟩
 simp only[go_sem,γ,reduceCtorEq,axC,axF,bJT]
 by_cases hlt:k<l.length
 ·have bHV:(k:Int)<(l.length:Nat):=by omega
  have hat:(lY l)[k]?=some [.str l[k]]:=by simp[hlt]
  rw[bLO hlt,yB] at ha
  cases hc:l[k]==s with
  | true =>
   rw[hc,if_pos rfl] at ha
   simp only[go_sem,γ,reduceCtorEq,bHV,QT,hat,hc,axG]
   refine aM (.inr rfl) rfl ?_
   rw[bH,ha]
  | false =>
   rw[hc,if_neg (by decide)] at ha
   simp only[go_sem,γ,reduceCtorEq,bHV,QT,hat,hc,axH,ws k]
   exact aC (k+1) ⟨hlt,ha⟩ Om Lq PH.le_refl
 ·have bHV:¬ (k:Int)<(l.length:Nat):=by omega
  have:k=l.length:=by omega
  subst this
  rw[List.drop_length,yB] at ha
  simp only[go_sem,ο,bHV,axI]
  refine aM (.inr rfl) rfl ?_
  rw[bH,ha]
structure akE (C:Ctx):Prop extends akD C where
 name:∀ s:List UInt8,aI C 62 [.str s] .nil (aD (.bool (isName s)))
 index:∀ (l:List (List UInt8)),l.length≤1000000→∀ s:List UInt8,aI C 71 [.sl 1 (lY l),.str s] .nil (aD (.int .i64 (yB l s 0)))
def jB (l:List (List UInt8)) (s:List UInt8):Bool:=isName s&&!l.contains s
def aaE (l:List (List UInt8)) (s:List UInt8) (r:PV) (B:List BX) (L:List LI):Prop:=∃ w',r=.tup [w',.bool (jB l s)]∧B=[]∧L=[(w',1,lY (l++[s]))]
theorem biX {C:Ctx} (L:akE C) (l:List (List UInt8)) (hl:l.length≤1000000) (s:List UInt8) (w:PV) (H:PH) (hH:aT H [] [(w,1,lY l)]) :
  DL.wp C (aR aiQ.res (fun r H'=>∃ B' L',aaE l s r B' L'∧aT H' B' L')) (PF.args [w,.str s]) H:=by
 have hix:=L.index l hl s
 have hnm:=L.name s
 have hneg:=aFB s l 0
 have h11:(1:Nat)*1≤16777216:=by decide
 have fin:∀ (F:PF) (H':PH) (w':PV) (b:Bool),F 4=some w'→F 5=some (.bool b)→b=jB l s→aT H' [] [(w',1,lY (l++[s]))]→aR [.tmp 4,.tmp 5] (fun r H'=>∃ B' L',aaE l s r B' L'∧aT H' B' L') .ret F H':=fun F H' w' b f4 f5 e h' =>
  aV (vs:=[w',.bool b]) (.inr rfl) H' (by simp only[go_sem,f4,f5]) PH.le_refl ⟨[],_,⟨w',by rw[e]; rfl,rfl,rfl⟩,h'⟩
 simp only[go_sem,υ,γ,η,ζ,reduceCtorEq,DL,axA,axB,aiQ,h11]
 refine hH.a3T 0 (src:=[[.str s]]) rfl rfl (by unfold roomFor; rw[bJT]; simp only[bKD,maxLen]; omega) fun w' H' hO h'=>?_
 have h'':aT H' [] [(w',1,lY (l++[s]))]:=by
  have e:lY (l++[s])=lY l++[[.str s]]:=by simp[lY]
  rw[e]; exact h'
 refine aA hnm rfl ?_
 cases hn:isName s with
 | false =>
  simp only[go_sem,γ,reduceCtorEq]
  exact fin _ _ w' false rfl rfl (by unfold jB; rw[hn,bKC]) h''
 | true =>
  have hfb:jB l s=!l.contains s:=by unfold jB; rw[hn,bKJ]
  rcases hO with ⟨z1,rfl⟩ | ⟨q,rs,rfl,q1,q2,q3⟩
  ·simp only[go_sem,γ,reduceCtorEq]
   rw[z1] at hix
   have hix2:aI C 71 [.bHP,.str s] .nil (aD (.int .i64 (yB l s 0))):=hix.args (.cons (.nil 1) (.cons (.refl _) .nil))
   refine aA hix2 rfl ?_
   simp only[go_sem,γ,hneg]
   exact fin _ _ w' _ rfl rfl hfb.symm h''
  ·simp only[go_sem,γ,reduceCtorEq]
   refine aTJ (vs:=[.osl q 1 0 (lY l).length,.str s]) (.int .i64 (yB l s 0)) ?_ q1 Sq ?_
   ·rw[bLF,bLF,bME,xC q2,q3]
    exact hix
   simp only[go_sem,γ,hneg]
   exact fin _ _ w' _ rfl rfl hfb.symm h''
theorem bgM {x:RF} (h:cL x=true):decide (qC x>0)=bJ x:=by
 have hv:=pC h
 unfold cL nT at h
 rw[show cN (val x.num) (val x.den)=true from hv,if_pos rfl,WZ hv] at h
 unfold qC bJ
 by_cases h0:val x.num=0
 ·simp[h0]
 ·have hq:val x.num/bJV (val x.num) (val x.den)≠0:=by
   have:=Nat.div_pos (Nat.gcd_le_left (val x.den) (bMB h0)) (Nat.gcd_pos_of_pos_left _ (bMB h0))
   omega
  have hn:x.neg=false:=by
   unfold mA at h
   simp only[hq,ne_eq,not_false_eq_true,decide_true,bMF,bKM] at h
   simpa using h.1
  rw[if_neg h0,hn]
  simp[h0]
structure azZ (l:bX):Prop where
 exit:∀ x∈l.exit,cL x=true
 row:∀ r∈l.bHT,∀ x∈r,cL x=true
structure oW (C:Ctx):Prop extends akE C where
 fresh:∀ (l:List (List UInt8)),l.length≤1000000→∀ (s:List UInt8) (w:PV) (H:PH),aT H [] [(w,1,lY l)]→aI C 70 [w,.str s] H (fun r H'=>∃ B' L',aaE l s r B' L'∧aT H' B' L')
theorem oW.pos {C:Ctx} (L:oW C) {x:RF} (hx:x.Ok) (h:cL x=true):∃ n:Int,aI C 54 [.agg x.cells] .nil (aD (.int .i64 n))∧decide (n>0)=bJ x:=⟨_,L.sign x hx (pC h),bgM h⟩
def zlF (l:bX) (o r i:Nat):PF:=(((((PF.nil.set 1 (.bHX l.cells)).set 3 (.int .i64 (l.exit.length:Nat))).set 7 (.osl o 1 0 l.exit.length)).set 8 (.int .i64 r)).set 9 (.int .i64 i))
theorem bqD {C:Ctx} (L:oW C) (l:bX) (o r i:Nat) (row:List RF) (hri:(l.bHT.map fun r=>[frs r])[i]?=some [frs row]) (bIC:jP row) (hlim:∀ x∈row,cL x=true) (hrl:row.length=l.exit.length) (hi:i<l.exit.length) (hn:l.exit.length≤4) (R1:List Bool) (hR:R1.length=l.exit.length) (K:cA) [Up K] (F:PF) (H:PH)
  (hF:((zlF l o r i).set 10 (.int .i64 0)).le F) (hH:(gU o R1).le H)
  (hK:K (.exit 6) (zlF l o r i) (gU o (cD R1 i row row.length))):aB.wp C (.loop KB) K F H:=by
 refine wp_loop (α:=Nat) (fun k=>(zlF l o r i).set 10 (.int .i64 k)) (fun k=>gU o (cD R1 i row k)) (fun k=>k≤row.length) (fun k=>row.length-k) 0 (bKA _) hF hH ?_
 intro k hk
 have hlen:=sI R1 i row k
 have hstep':∀ h:k<row.length,cD R1 i row (k+1)=(cD R1 i row k).set i ((cD R1 i row k).getD i false||bJ row[k]&&(cD R1 i row k).getD k false):=fun h=>by
  simp only[cD,bKK,bLC,bKG h,bKZ,bLX]
 have fin:∀ (b:Bool) (F:PF) (H:PH),k<row.length→eP (cD R1 i row (k+1))=(eP (cD R1 i row k)).set i [.bool b]→((zlF l o r i).set 10 (.int .i64 (k+1:Nat))).le F→H o=some (.rows 1 ((eP (cD R1 i row k)).set i [.bool b])) →
   dU (fun k:Nat=>(zlF l o r i).set 10 (.int .i64 k)) (fun k=>gU o (cD R1 i row k)) (fun k=>k≤row.length) (fun k=>row.length-k) (row.length-k) K .normal F H:=by
  intro b F H hlt hb hF hH
  refine aC (k+1) hlt Om hF ?_
  rw[← hb] at hH
  exact PH.aG PH.nil_le hH
 unfold zlF gU at fin
 simp only[go_sem,γ,KB,aQA,zlF,gU]
 by_cases hlt:k<row.length
 ·have bHV:(k:Int)<(l.exit.length:Nat):=by omega
  have hi':(i:Int)<(l.exit.length:Nat):=by omega
  have hat:=qG (R:=cD R1 i row k) (i:=i) Om
  have hatk:=qG (R:=cD R1 i row k) (i:=k) Om
  have bHW:=hstep' hlt
  obtain⟨n,hsn,hpos⟩:=L.pos (bIC.all _ (bJZ hlt)) (hlim _ (bJZ hlt))
  have hfr:=abJ hlt
  generalize hb:(cD R1 i row k).getD i false=b at *
  generalize hc:(cD R1 i row k).getD k false=c at *
  generalize hA:bJ row[k]=A at *
  cases b with
  | true =>
   simp only[go_sem,γ,bHV,ZZ,hi',bKS,hat,KC,ws k]
   exact fin true _ _ hlt (by rw[bHW,kO,Bool.true_or]) Lq Sq
  | false =>
   simp only[go_sem,δ,γ,θ,bHV,ZZ,hi',bKS,hat,hri,hfr]
   refine aA hsn rfl ?_
   cases A with
   | false =>
    simp only[go_sem,γ,reduceCtorEq,hpos,hi',bHV,bKS,hat,hatk,KC,ws k]
    exact fin false _ _ hlt (by rw[bHW,kO,Bool.false_or,bKC]) Lq Sq
   | true =>
    simp only[go_sem,γ,reduceCtorEq,hpos,hi',bHV,bKS,hat,hatk,KC,ws k]
    exact fin c _ _ hlt (by rw[bHW,kO,Bool.false_or,bKJ]) Lq Sq
 ·have bHV:¬ (k:Int)<(l.exit.length:Nat):=by omega
  have:k=row.length:=by omega
  subst this
  simp only[go_sem,bHV]
  refine Up.up ?_ hK
  (repeat' (first|exact PF.nil_le|refine PF.aG ?_ ?_))<;>first|(simp only[go_sem,γ,zlF]<;>rfl)|rfl
theorem bqF {C:Ctx} (L:oW C) (l:bX) (hl:l.Ok) (he:zC l) (hm:azZ l) (o r:Nat) (R:List Bool) (hR:R.length=l.exit.length) (K:cA) [Up K] (F:PF) (H:PH)
  (hF:(zlF l o r 0).le F) (hH:(gU o R).le H)
  (hK:K (.exit 4) (zlF l o r l.exit.length) (gU o (cP l R l.exit.length))):aB.wp C (.loop ZS) K F H:=by
 refine wp_loop (α:=Nat) (fun i=>zlF l o r i) (fun i=>gU o (cP l R i)) (fun i=>i≤l.exit.length) (fun i=>l.exit.length-i) 0 (bKA _) hF hH ?_
 intro i hi
 have hlen:=pJ l R i
 have hn:=he.n
 simp only[go_sem,γ,ZS,aPZ,zlF,gU]
 by_cases hlt:i<l.exit.length
 ·have bHV:(i:Int)<(l.exit.length:Nat):=by omega
  have hir:i<l.bHT.length:=by rw[he.bHT]; exact hlt
  have hat:=qG (R:=cP l R i) (i:=i) Om
  have hx:=abJ hlt
  have bIC:(l.bHT.map fun r=>[frs r])[i]?=some [frs l.bHT[i]]:=by simp[hir]
  have hrl:(l.bHT[i]).length=l.exit.length:=he.row _ (bJZ hir)
  generalize hR1:(cP l R i).set i ((cP l R i).getD i false||bJ l.exit[i])=R1
  have hR1l:R1.length=l.exit.length:=by rw[← hR1,bMG]; omega
  have bHW:cP l R (i+1)=cD R1 i l.bHT[i] (l.bHT[i]).length:=by
   simp only[cP,kA]
   have e1:(l.exit.map bJ).getD i false=bJ l.exit[i]:=by simp[bKK,hlt]
   have e2:l.bHT.getD i []=l.bHT[i]:=by simp[bKK,hir]
   rw[e1,e2,hR1]
  obtain⟨n,hsn,hpos⟩:=L.pos (hl.exit.all _ (bJZ hlt)) (hm.exit _ (bJZ hlt))
  have rest:∀ (F:PF) (H:PH),(zlF l o r i).le F→H o=some (.rows 1 (eP R1)) →
    aB.wp C (.seq (.region ZY) (.block 6 (.loop KB))) (dN 5 (iV C (aB.wp C (.region aaA)) (dU (fun i:Nat=>zlF l o r i) (fun i=>gU o (cP l R i)) (fun i=>i≤l.exit.length) (fun i=>l.exit.length-i) (l.exit.length-i) K))) F H:=by
   intro F H hF hH
   refine sR _ (fun _ _ _ _ a b=>Up.up a b) hF ?_
   simp only[go_sem,ZY]
   refine bqD L l o r i l.bHT[i] bIC (hl.row _ (bJZ hir)) (hm.row _ (bJZ hir)) hrl hlt hn R1 hR1l _ _ _ (by (repeat' (first|exact PF.nil_le|refine PF.aG ?_ ?_))<;>first|(simp only[go_sem,γ,zlF]<;>rfl)|rfl) (PH.aG PH.nil_le hH) ?_
   simp only[go_sem,γ,zlF,aaA,ws i]
   exact aC (i+1) hlt Om Lq (by rw[bHW]; exact PH.le_refl)
  simp only[zlF,gU] at rest
  have rest':=rest
  simp only[aB.wp,go_sem] at rest'
  generalize hb:(cP l R i).getD i false=b at *
  cases b with
  | true =>
   simp only[go_sem,γ,bHV,ZX,bHV,bKS,hat]
   refine rest' _ _ Lq ?_
   rw[← hR1]
   simp only[go_sem,kO,Bool.true_or]
  | false =>
   simp only[go_sem,δ,γ,bHV,ZX,bHV,bKS,hat,hx]
   refine aA hsn rfl ?_
   simp only[go_sem,γ,reduceCtorEq,bHV,bKS,hat,hpos]
   refine rest' _ _ Lq ?_
   rw[← hR1]
   simp only[go_sem,kO,Bool.false_or]
 ·have bHV:¬ (i:Int)<(l.exit.length:Nat):=by omega
  have:i=l.exit.length:=by omega
  subst this
  simp only[go_sem,bHV]
  exact Up.up (by (repeat' (first|exact PF.nil_le|refine PF.aG ?_ ?_))<;>first|(simp only[go_sem,γ,zlF]<;>rfl)|rfl) hK
theorem bqE {C:Ctx} (L:oW C) (l:bX) (hl:l.Ok) (he:zC l) (hm:azZ l) (o:Nat) (K:cA) [Up K] (F:PF) (H:PH)
  (hF:(((((PF.nil.set 1 (.bHX l.cells)).set 3 (.int .i64 (l.exit.length:Nat))).set 7 (.osl o 1 0 l.exit.length)).set 8 (.int .i64 0)):PF).le F) (hH:(gU o (cQ l 0)).le H)
  (hK:K (.exit 2) (((PF.nil.set 3 (.int .i64 (l.exit.length:Nat))).set 7 (.osl o 1 0 l.exit.length))) (gU o (cQ l l.exit.length))):aB.wp C (.loop ZT) K F H:=by
 have hn:=he.n
 refine wp_loop (α:=Nat) (fun r=>((((PF.nil.set 1 (.bHX l.cells)).set 3 (.int .i64 (l.exit.length:Nat))).set 7 (.osl o 1 0 l.exit.length)).set 8 (.int .i64 r))) (fun r=>gU o (cQ l r)) (fun r=>r≤l.exit.length) (fun r=>l.exit.length-r) 0 (bKA _) hF hH ?_
 intro r hr
 have hlen:=pI l r
 simp only[go_sem,γ,ZT,aPX]
 by_cases hlt:r<l.exit.length
 ·have bHV:(r:Int)<(l.exit.length:Nat):=by omega
  simp only[go_sem,bHV,aPY]
  refine bqF L l hl he hm o r (cQ l r) hlen _ _ _ (by (repeat' (first|exact PF.nil_le|refine PF.aG ?_ ?_))<;>first|(simp only[go_sem,γ,zlF]<;>rfl)|rfl) PH.le_refl ?_
  simp only[go_sem,γ,zlF,aQB,ws r]
  exact aC (r+1) hlt Om Lq PH.le_refl
 ·have bHV:¬ (r:Int)<(l.exit.length:Nat):=by omega
  have:r=l.exit.length:=by omega
  subst this
  simp only[go_sem,bHV]
  exact Up.up Lq hK
theorem byH {C:Ctx} (R:List Bool) (hR:R.length≤4) (o:Nat) (X:Bool) (hX:X=R.all id) (Q:PV→PH→Prop) (hQ:Q=aD (.bool X)) (F:PF) (H:PH)
  (hF:((((PF.nil.set 3 (.int .i64 (R.length:Nat))).set 7 (.osl o 1 0 R.length)).set 11 (.int .i64 0)):PF).le F) (hH:(gU o R).le H):aB.wp C (.loop ZU) (dN 8 (iV C (aB.wp C (.seq (.region aaC) .ret)) (aR [.tmp 2] Q))) F H:=by
 subst hX hQ
 refine wp_loop (α:=Nat) (fun k=>(((PF.nil.set 3 (.int .i64 (R.length:Nat))).set 7 (.osl o 1 0 R.length)).set 11 (.int .i64 k))) (fun _=>gU o R) (fun k=>k≤R.length∧(R.take k).all id=true) (fun k=>R.length-k) 0 ⟨bKA _,rfl⟩ hF hH ?_
 rintro k ⟨hk,ha⟩
 simp only[go_sem,γ,ZU,aQD,gU]
 by_cases hlt:k<R.length
 ·have bHV:(k:Int)<(R.length:Nat):=by omega
  have hat:=qG (R:=R) (i:=k) hlt
  have hg:R.getD k false=R[k]:=by simp[bKK,hlt]
  rw[hg] at hat
  cases hc:R[k] with
  | false =>
   rw[hc] at hat
   simp only[go_sem,γ,bHV,aaB,bKS,hat,bKF,aQE]
   refine aM (.inr rfl) rfl ?_
   rw[bH,oI hlt (p:=id) hc]
  | true =>
   rw[hc] at hat
   have ha2:=oH hlt ha (p:=id) hc
   simp only[go_sem,γ,bHV,aaB,bKS,hat,bJW,aQF,ws k]
   exact aC (k+1) ⟨hlt,by simpa using bKP.1 ha2⟩ Om Lq PH.le_refl
 ·have bHV:¬ (k:Int)<(R.length:Nat):=by omega
  have:k=R.length:=by omega
  subst this
  rw[bKU] at ha
  simp only[go_sem,bHV,aaC]
  refine aM (.inr rfl) rfl ?_
  rw[bH,ha]
def Marks (R S:List Bool):Prop:=R.length=S.length∧∀ j:Nat,R[j]?=some true→S[j]?=some true
theorem Marks.bxQ (R:List Bool):Marks R R:=⟨rfl,fun _ h=>h⟩
theorem Marks.trans {R S T:List Bool} (h:Marks R S) (k:Marks S T):Marks R T:=⟨h.1.trans k.1,fun j a=>k.2 j (h.2 j a)⟩
theorem aGG (R:List Bool) (i:Nat) (b:Bool):Marks R (R.set i (R.getD i false||b)):=by
 refine⟨by rw[bMG],fun j h=>?_⟩
 rw[List.getElem?_set]
 obtain⟨hj,he⟩:=bLD.1 h
 split
 ·rename_i e
  subst e
  rw[if_pos hj,bKK,h]
  rfl
 ·exact h
theorem apG (R:List Bool) (i:Nat) (row:List RF):∀ k,Marks R (cD R i row k)
 | 0=>Marks.bxQ R
 | k+1=>(apG R i row k).trans (aGG _ _ _)
theorem BH (l:bX) (R:List Bool):∀ i,Marks R (cP l R i)
 | 0=>Marks.bxQ R
 | i+1=>(BH l R i).trans ((aGG _ _ _).trans (apG _ _ _ _))
theorem aGH:∀ {R S:List Bool},Marks R S→R≠S→R.count true<S.count true
 | [],[],_,h=>absurd rfl h
 | [],_::_,h,_=>by have:=h.1; simp at this
 | _::_,[],h,_=>by have:=h.1; simp at this
 | a::R,b::S,h,hne=>by
  have h0:a=true→b=true:=fun e=>by
   have:=h.2 0 (by rw[e]; rfl)
   simpa using this
  have ht:Marks R S:=⟨by have:=h.1; simpa using this,fun j hj=>by have:=h.2 (j+1) (by simpa using hj); simpa using this⟩
  by_cases e:R=S
  ·subst e
   have:a≠b:=fun e=>hne (by rw[e])
   cases a<;>cases b<;>simp at this h0 ⊢
  ·have:=aGH ht e
   cases a<;>cases b<;>simp at h0 ⊢<;>omega
theorem aaV:∀ {R:List Bool},R.length≤R.count true→R.all id=true
 | [],_=>rfl
 | a::R,h=>by
  have h1:=List.count_le_length (a:=true) (l:=R)
  cases a with
  | true =>
   simp only[List.count_cons_self,bMH] at h
   simp only[List.all_cons,id,bKJ]
   exact aaV Om
  | false =>
   simp at h
   omega
theorem HW (l:bX) {s:Nat} (h:cQ l (s+1)=cQ l s):∀ d,cQ l (s+d)=cQ l s
 | 0=>rfl
 | d+1=>by
  show cP l (cQ l (s+d)) l.exit.length=_
  rw[HW l h d]
  exact h
theorem aeI (l:bX):∀ r,(∃ s,s<r∧cQ l (s+1)=cQ l s)∨r≤(cQ l r).count true
 | 0=>.inr (bKA _)
 | r+1=>by
  rcases aeI l r with ⟨s,h1,h2⟩ | h
  ·exact .inl ⟨s,by omega,h2⟩
  ·by_cases e:cQ l (r+1)=cQ l r
   ·exact .inl ⟨r,by omega,e⟩
   ·have:=aGH (BH l (cQ l r) l.exit.length) (fun h=>e h.symm)
    exact .inr (by show r+1≤(cP l (cQ l r) l.exit.length).count true; omega)
theorem brI (l:bX):nY l=(cQ l l.exit.length).all id:=by
 unfold nY
 rcases aeI l l.exit.length with ⟨s,h1,h2⟩ | h
 ·obtain⟨d,hd⟩:∃ d,l.exit.length=s+d:=⟨l.exit.length-s,by omega⟩
  rw[show l.exit.length+1=s+(d+1) by omega,hd,HW l h2,HW l h2]
 ·have hf:(cQ l l.exit.length).all id=true:=aaV (by rw[pI]; exact h)
  have hm:Marks (cQ l l.exit.length) (cQ l (l.exit.length+1)):=BH l (cQ l l.exit.length) l.exit.length
  rw[hf,bKP]
  intro x hx
  obtain⟨j,hj,rfl⟩:=bLJ hx
  have hj2:j<(cQ l l.exit.length).length:=by rw[hm.1]; exact hj
  have:=hm.2 j (by
   rw[bKG hj2]
   have:=bKP.1 hf _ (bJZ hj2)
   simpa using this)
  rw[bKG hj] at this
  simpa using this
def zsS (s:Bool):Spec:=fun name vs=>match name,vs with
 | 47,_=>some ([],fun _=>aD (.agg (mkT 1 1).cells))
 | 53,_=>some ([],fun _=>aD (.bool s))
 | _,_=>none
theorem blL (l:bX):jU l=(within l.start.length 1 4&&((decide ((l.start.length:Int)=l.start.length)&&l.start.all cL)&&((decide ((l.exit.length:Int)=l.start.length)&&l.exit.all cL)&&(decide (l.bHT.length=l.start.length)&&((bJU l.bHT.length).all (qN l)&&(tO l&&nY l)))))):=by
 rw[aWM,decide_eq_true (rfl:(l.start.length:Int)=l.start.length),bKJ]
 have:decide (l.exit.length=l.start.length)=decide ((l.exit.length:Int)=l.start.length):=decide_eq_decide.2 Om
 rw[this]
 cases within l.start.length 1 4<;>cases decide ((l.exit.length:Int)=l.start.length)<;>cases decide (l.bHT.length=l.start.length)<;>cases l.start.all cL<;>cases l.exit.all cL<;>simp[bMP]
theorem aJY (l:bX) {i:Nat} (h:i<l.bHT.length):qN l i=((decide (((l.bHT[i]).length:Int)=l.start.length)&&(l.bHT[i]).all cL)&&!((l.bHT[i]).map bJ).getD i false):=by
 unfold qN
 have:l.bHT.getD i []=l.bHT[i]:=by simp[bKK,h]
 rw[this]
 have:decide ((l.bHT[i]).length=l.start.length)=decide (((l.bHT[i]).length:Int)=l.start.length):=decide_eq_decide.2 Om
 rw[this]
theorem bvT {C:Ctx} (L:oW C) (l:bX) (hl:l.Ok):QU.wp C (aR baX.res (aD (.bool (jU l)))) (PF.args [.agg l.cells]) .nil:=by
 have hX:=blL l
 have fail:∀ (F:PF) (H:PH),jU l=false→F 2=some (.bool false)→aR [.tmp 2] (aD (.bool (jU l))) .ret F H:=fun F H e h=>by
  rw[e]
  exact aV (vs:=[.bool false]) (.inr rfl) .nil (by simp only[go_sem,h]) PH.nil_le ⟨rfl,rfl⟩
 have e1:=L.smalls l.start hl.start l.start.length
 have e2:=L.smalls l.exit hl.exit l.start.length
 simp only[go_sem,δ,γ,θ,QU,a2V,a2W,baX,bJT,a2X]
 by_cases c1:((l.start.length:Nat):Int)<1
 ·simp only[go_sem,γ,c1,xM]
  exact fail _ _ (by rw[hX,show within l.start.length 1 4=false from by unfold within; rw[decide_eq_false Om,bKC],bKC]) rfl
 by_cases c2:((l.start.length:Nat):Int)>4
 ·simp only[go_sem,γ,reduceCtorEq,c1,c2,xM]
  exact fail _ _ (by rw[hX,show within l.start.length 1 4=false from by unfold within; rw[decide_eq_false (Om:¬ ((l.start.length:Nat):Int)≤4),bLE],bKC]) rfl
 rw[show within l.start.length 1 4=true from by unfold within; rw[decide_eq_true (Om:(1:Int)≤(l.start.length:Nat)),decide_eq_true (Om:((l.start.length:Nat):Int)≤4)]; rfl,bKJ] at hX
 simp only[go_sem,δ,γ,θ,reduceCtorEq,c1,c2]
 refine aA e1 rfl ?_
 cases k1:(decide ((l.start.length:Int)=l.start.length)&&l.start.all cL) with
 | false =>
  rw[k1,bKC] at hX
  simp only[go_sem,γ,reduceCtorEq,bKF,xM]
  exact fail _ _ hX rfl
 | true =>
 rw[k1,bKJ] at hX
 simp only[go_sem,γ,reduceCtorEq,bJW]
 refine aA e2 rfl ?_
 cases k2:(decide ((l.exit.length:Int)=l.start.length)&&l.exit.all cL) with
 | false =>
  rw[k2,bKC] at hX
  simp only[go_sem,γ,reduceCtorEq,bKF,xM]
  exact fail _ _ hX rfl
 | true =>
 rw[k2,bKJ] at hX
 rw[bKM,decide_eq_true_eq] at k2
 have hxl:l.exit.length=l.start.length:=by omega
 have hxlim:=bKP.1 k2.2
 by_cases c3:l.bHT.length=l.start.length
 case neg =>
  rw[decide_eq_false c3,bKC] at hX
  simp only[go_sem,δ,γ,θ,reduceCtorEq,bJW,bJT,cT (Om:((l.bHT.length:Nat):Int)≠(l.start.length:Nat)),xM]
  exact fail _ _ hX rfl
 rw[decide_eq_true c3,bKJ] at hX
 simp only[go_sem,δ,γ,θ,reduceCtorEq,bJW,bJT,bY (Om:((l.bHT.length:Nat):Int)=(l.start.length:Nat)),a2Y]
 refine wp_loop (α:=Nat) (fun i=>(((PF.nil.set 1 (.bHX l.cells)).set 3 (.int .i64 (l.start.length:Nat))).set 4 (.int .i64 i))) (fun _=>.nil) (fun i=>i≤l.start.length∧∀ j,j<i→qN l j=true) (fun i=>l.start.length-i) 0 ⟨bKA _,fun j h=>by omega⟩ Lq PH.nil_le ?_
 rintro i ⟨hi,bJG⟩
 simp only[go_sem,γ,a2U,a2Z]
 by_cases hlt:i<l.start.length
 ·have bHV:(i:Int)<(l.start.length:Nat):=by omega
  have hir:i<l.bHT.length:=by omega
  have bIC:(l.bHT.map fun r=>[frs r])[i]?=some [frs l.bHT[i]]:=by simp[hir]
  have hro:=hl.row _ (bJZ hir)
  have e3:=L.smalls l.bHT[i] hro l.start.length
  have hrp:=aJY l hir
  have bad:qN l i=false→jU l=false:=fun h=>by
   rw[hX,show (bJU l.bHT.length).all (qN l)=false from List.all_eq_false.2 ⟨i,bLN.2 hir,by simp[h]⟩,bKC]
  simp only[go_sem,δ,γ,θ,bHV,a3A,bIC]
  refine aA e3 rfl ?_
  cases k3:(decide (((l.bHT[i]).length:Int)=l.start.length)&&(l.bHT[i]).all cL) with
  | false =>
   rw[k3,bKC] at hrp
   simp only[go_sem,γ,bKF,anB]
   exact fail _ _ (bad hrp) rfl
  | true =>
   rw[k3,bKJ] at hrp
   rw[bKM,decide_eq_true_eq] at k3
   have hrl:(l.bHT[i]).length=l.start.length:=by omega
   have hik:i<(l.bHT[i]).length:=by omega
   have hm:=bJZ hik
   have hs:=L.sign _ (hro.all _ hm) (pC (bKP.1 k3.2 _ hm))
   have hz:=IG (l.bHT[i])[i]
   have hg:((l.bHT[i]).map bJ).getD i false=bJ (l.bHT[i])[i]:=by simp[bKK,hik]
   rw[hg] at hrp
   have hz2:(qC (l.bHT[i])[i] != 0)=bJ (l.bHT[i])[i]:=by
    rw[bne,hz,Bool.not_not]
   simp only[go_sem,δ,γ,θ,bJW,bIC,abJ hik]
   refine aA hs rfl ?_
   cases k4:bJ (l.bHT[i])[i] with
   | true =>
    rw[k4] at hrp hz2
    simp only[go_sem,γ,reduceCtorEq,hz2,anB]
    exact fail _ _ (bad hrp) rfl
   | false =>
    rw[k4] at hrp hz2
    simp only[go_sem,γ,reduceCtorEq,hz2,a3B,ws i]
    exact aC (i+1) ⟨hlt,fun j hj=>by
     by_cases e:j=i
     ·rw[e]; exact hrp
     ·exact bJG j Om⟩ Om Lq PH.le_refl
 ·have bHV:¬ (i:Int)<(l.start.length:Nat):=by omega
  have:i=l.start.length:=by omega
  subst this
  have hrows:(bJU l.bHT.length).all (qN l)=true:=bKP.2 fun j hj=>bJG j (by rw[← c3]; exact bLN.1 hj)
  rw[hrows,bKJ] at hX
  have hrr:∀ r∈l.bHT,r.length=l.start.length∧∀ x∈r,cL x=true:=fun r hr=>by
   obtain⟨j,hj,rfl⟩:=bLJ hr
   have h:=bJG j Om
   rw[aJY l hj,bKM,bKM,decide_eq_true_eq] at h
   exact⟨by omega,bKP.1 h.1.2⟩
  have hlim:azZ l:=⟨hxlim,fun r hr=>(hrr r hr).2⟩
  have hend:zC l:=⟨by omega,by omega,fun r hr=>by rw[(hrr r hr).1,hxl]⟩
  have hsum:=L.sum l.start hl.start.all hl.start.fits
  simp only[go_sem,δ,γ,θ,bHV,aPU]
  refine aA hsum rfl ?_
  cases hE:mU (l.start.map RF.v) with
  | error e =>
   have he0:=aLM hE
   have:tO l=false:=by unfold tO; rw[hE]
   rw[this,bKC] at hX
   simp only[go_sem,δ,γ,frV]
   refine aO fun o ho=>?_
   simp only[go_sem,δ,γ]
   refine bL .nil dJ PH.nil_le ?_
   simp only[go_sem,γ,ZV,cT he0,ZW]
   exact fail _ _ hX rfl
  | ok r =>
   have hrok:=a0C hE
   have hrv:=afL hE
   obtain⟨n,a,b⟩:=r
   have h1:cX 1:=by unfold cX; omega
   have hsame:=L.same (FV.rf (n,a,b)) (mkT 1 1) hrok (ED 1 h1).1 (by unfold RF.valid FV.rf; simp only[aQ]; exact hrv) (ED 1 h1).2
   have hP:tO l=(oR (FV.rf (n,a,b)) (mkT 1 1)==0):=by
    unfold tO
    rw[hE,EE]
    unfold oR FV.rf
    simp only[aQ,show (1:Int).natAbs=1 from rfl,show decide ((1:Int)<0)=false from rfl]
    by_cases h:oQ n a b false 1 1=0<;>simp[h]
   simp only[go_sem,δ,γ,frV]
   refine aO fun o ho=>?_
   have hH:aT (PH.nil.set o (.rows 3 [(FV.rf (n,a,b)).cells])) [(o,.rows 3 [(FV.rf (n,a,b)).cells])] []:=aT.nil.new (H:=PH.nil) rfl _
   simp only[go_sem,δ,γ]
   refine bL (PH.nil.set o (.rows 3 [(FV.rf (n,a,b)).cells])) (zsS (oR (FV.rf (n,a,b)) (mkT 1 1)==0)) PH.le_refl ?_
   simp only[go_sem,δ,γ,ZV,bY (show (0:Int)=0 from rfl)]
   refine bC rfl (L.int 1 h1) rfl PH.le_refl ?_
   simp only[go_sem,γ]
   refine bC rfl hsame rfl PH.le_refl ?_
   rw[← hP]
   cases hp:tO l with
   | false =>
    rw[hp,bKC] at hX
    simp only[go_sem,γ,reduceCtorEq,bKF,ZW]
    exact fail _ _ hX rfl
   | true =>
    rw[hp,bKJ,brI] at hX
    have hb1:((l.start.length:Nat):Int)*((1:Nat):Int)≤140737488355328:=by omega
    have hb2:((l.start.length:Nat):Int)≤9223372036854775807:=by omega
    simp only[go_sem,γ,reduceCtorEq,bJW,aPV,hb1,hb2]
    refine aO fun q hq=>?_
    simp only[go_sem,γ,aPW]
    have hz0:bJY l.start.length [PV.bool false]=eP (cQ l 0):=by
     rw[← hxl]
     simp[cQ,eP]
    rw[← hxl]
    refine bqE L l hl hend hlim q _ _ _ Lq ?_ ?_
    ·refine PH.aG PH.nil_le ?_
     rw[jJ,hxl,hz0]
    simp only[go_sem,aQC]
    have hn4:(cQ l l.exit.length).length≤4:=by rw[pI]; omega
    refine byH (cQ l l.exit.length) hn4 q (jU l) hX _ rfl _ _ ?_ PH.le_refl
    rw[pI]
    exact Lq
structure qT (C:Ctx):Prop extends oW C where
 law:∀ l:bX,l.Ok→aI C 68 [.agg l.cells] .nil (aD (.bool (jU l)))
def okL (base ns:List (List UInt8)) (P:Nat→Bool) (i:Nat):Bool:=jB (base++ns.take i) (ns.getD i [])&&P i
theorem qE {p:Nat→Bool} (k:Nat) (b:Bool):(b&&(bJU (k+1)).all p)=((b&&(bJU k).all p)&&p k):=by
 rw[List.range_succ,List.all_append]
 cases (bJU k).all p<;>cases b<;>simp
theorem qD {p:Nat→Bool} {b:Bool} {i n:Nat} (hi:i≤n) (h:(b&&(bJU i).all p)=false):(b&&(bJU n).all p)=false:=by
 cases b with
 | false=>rfl
 | true =>
  rw[bKJ] at h ⊢
  obtain⟨x,hx,hp⟩:=List.all_eq_false.1 h
  exact List.all_eq_false.2 ⟨x,bLN.2 (by have:=bLN.1 hx; omega),hp⟩
structure gT (H:PH) (w:PV) (base ns:List (List UInt8)) (c:Bool) (i:Nat):Prop where
 ex:∃ names,aT H [] [(w,1,lY names)]∧(c=true→names=base++ns.take i)
section
variable {C:Ctx} {F:PF} {H:PH} {d:Option Nat} {K:PF→PH→Prop}
theorem gT.call (L:oW C) {w:PV} {base ns:List (List UInt8)} {i:Nat} {B:List BX} {names:List (List UInt8)} (h:aT H B [(w,1,lY names)]) (hl:base.length≤1000) (hi:i≤1000) (hn:names=base++ns.take i) (hin:i<ns.length) {a b:Nat} (bJI:aP.evs F [.tmp a,.tmp b]=some [w,.str ns[i]])
  (hk:∀ w' H',aT H' B [(w',1,lY (names++[ns[i]]))]→gT H' w' base ns true (i+1)→K (F.put d (.tup [w',.bool (jB (base++ns.take i) (ns.getD i []))])) H'):iH C 70 [.tmp a,.tmp b] [] d K F H:=by
 refine DK (B1:=[]) (B2:=B) (L1:=[(w,1,lY names)]) (L2:=[]) (Q:=aaE names ns[i]) h (fun H0 h0=>L.fresh names (by rw[hn,bJX,bKN]; omega) ns[i] w H0 h0) bJI ?_
 rintro r B' L' H' ⟨w',rfl,rfl,rfl⟩ h'
 have hgd:ns.getD i []=ns[i]:=by simp[bKK,hin]
 rw[hgd,← hn] at hk
 refine hk w' H' h' ⟨names++[ns[i]],h'.sub (List.nil_sublist _) (bLR.refl _),fun _=>?_⟩
 rw[bLY hin,← bKV,hn]
end
theorem gT.amZ {H:PH} {w:PV} {base ns:List (List UInt8)} {c:Bool} {i:Nat} (h:gT H w base ns true i):gT H w base ns c i:=by
 obtain⟨names,h1,h3⟩:=h.ex
 exact⟨names,h1,fun _=>h3 rfl⟩
def GF (f:aE):Bool:=(bJU f.bHY.length).all (okL [] (f.bHY.map bX.name) fun i=>(f.bHY.map jU).getD i false)
theorem bvY {C:Ctx} (L:qT C) (f:aE) (hf:f.Ok) (hs:f.bHY.length≤4) (K:cA) [Up K] (F:PF) (H:PH)
  (hF:(((((((((PF.nil.set 1 (.bHX f.cells)).set 3 (.bHP)).set 4 (.bHP)).set 5 (.bHP)).set 6 (.bHP)).set 7 (.bHP)).set 8 (.bool true)).set 9 (.int .i64 0)):PF).le F)
  (hK:∀ H',K (.exit 0) (((((((PF.nil.set 1 (.bHX f.cells)).set 4 (.bHP)).set 5 (.bHP)).set 6 (.bHP)).set 7 (.bHP)).set 8 (.bool (GF f)))) H'):aB.wp C (.loop KE) K F H:=by
 obtain⟨ok,hok⟩:∃ ok,okL [] (f.bHY.map bX.name) (fun i=>(f.bHY.map jU).getD i false)=ok:=⟨_,rfl⟩
 unfold GF at hK
 rw[hok] at hK
 refine wp_loop (α:=Nat × PV × PH) (fun s=>((((((((PF.nil.set 1 (.bHX f.cells)).set 3 (s.2.1)).set 4 (.bHP)).set 5 (.bHP)).set 6 (.bHP)).set 7 (.bHP)).set 8 (.bool (true&&(bJU s.1).all ok))).set 9 (.int .i64 s.1))) (fun s=>s.2.2) (fun s=>s.1≤f.bHY.length∧gT s.2.2 s.2.1 [] (f.bHY.map bX.name) (true&&(bJU s.1).all ok) s.1) (fun s=>f.bHY.length-s.1)
  (0,.bHP,H) ⟨bKA _,⟨[],aT.nil.qM 1,fun _=>rfl⟩⟩ hF PH.le_refl ?_
 rintro⟨i,w,H0⟩ ⟨hi,hG⟩
 simp only at hi hG ⊢
 have fin:∀ (b:Bool) (w':PV) (F':PF) (H':PH),i<f.bHY.length→(true&&(bJU (i+1)).all ok)=b→gT H' w' [] (f.bHY.map bX.name) true (i+1) →
   (((((((((PF.nil.set 1 (.bHX f.cells)).set 3 (w')).set 4 (.bHP)).set 5 (.bHP)).set 6 (.bHP)).set 7 (.bHP)).set 8 (.bool b)).set 9 (.int .i64 (i+1:Nat))):PF).le F' →
   dU (fun s:Nat × PV × PH=>((((((((PF.nil.set 1 (.bHX f.cells)).set 3 (s.2.1)).set 4 (.bHP)).set 5 (.bHP)).set 6 (.bHP)).set 7 (.bHP)).set 8 (.bool (true&&(bJU s.1).all ok))).set 9 (.int .i64 s.1))) (fun s=>s.2.2) (fun s=>s.1≤f.bHY.length∧gT s.2.2 s.2.1 [] (f.bHY.map bX.name) (true&&(bJU s.1).all ok) s.1) (fun s=>f.bHY.length-s.1) (f.bHY.length-i) K .normal F' H' :=
  fun b w' F' H' hlt hb hG' hF'=>aC (i+1,w',H') ⟨hlt,hG'.amZ⟩ (by simp only; omega) (by simp only; rw[hb]; exact hF') PH.le_refl
 have bHW:=qE (p:=ok) i true
 have stop:(true&&(bJU i).all ok)=(true&&(bJU f.bHY.length).all ok)→K (.exit 0) (((((((PF.nil.set 1 (.bHX f.cells)).set 4 (.bHP)).set 5 (.bHP)).set 6 (.bHP)).set 7 (.bHP)).set 8 (.bool (true&&(bJU i).all ok)))) H0:=fun e=>by
  rw[e,bKJ]; exact hK H0
 have hacc:=fun h=>qD (p:=ok) (b:=true) hi h
 generalize hc:(true&&(bJU i).all ok)=c at *
 simp only[go_sem,δ,γ,θ,KE,axS,bJT]
 by_cases hlt:i<f.bHY.length
 ·have bHV:(i:Int)<(f.bHY.length:Nat):=by omega
  cases c with
  | false =>
   simp only[go_sem,γ,bHV]
   exact Up.up Lq (stop (hacc rfl).symm)
  | true =>
   obtain⟨names,g1,g3⟩:=hG.ex
   have hat:(f.bHY.map bX.cells)[i]?=some (f.bHY[i]).cells:=by simp[hlt]
   have hin:i<(f.bHY.map bX.name).length:=by rw[bJT]; exact hlt
   have hoki:ok i=(jB ([]++(f.bHY.map bX.name).take i) ((f.bHY.map bX.name).getD i [])&&jU f.bHY[i]):=by
    rw[← hok]
    unfold okL
    simp[bKK,hlt]
   have hl:=L.law _ (hf.law _ (bJZ hlt))
   rw[hoki] at bHW
   simp only[go_sem,δ,γ,θ,bHV,axT,hat]
   refine gT.call L.tooW (ns:=f.bHY.map bX.name) g1 (bKA _) Om (g3 rfl) hin (by simp only[go_sem,γ,bLI]) fun w' H1 h1 hG1=>?_
   generalize jB ([]++(f.bHY.map bX.name).take i) ((f.bHY.map bX.name).getD i [])=fb at *
   cases fb with
   | false =>
    simp only[go_sem,γ,reduceCtorEq,QW,QX,ws i]
    exact fin false w' _ _ hlt (bHW.trans rfl) hG1 Lq
   | true =>
    simp only[go_sem,δ,γ,θ,QW,hat]
    refine aA hl rfl ?_
    simp only[go_sem,γ,QX,ws i]
    exact fin _ w' _ _ hlt (bHW.trans rfl) hG1 Lq
 ·have bHV:¬ (i:Int)<(f.bHY.length:Nat):=by omega
  have:i=f.bHY.length:=by omega
  subst this
  simp only[go_sem,γ,reduceCtorEq,bHV]
  exact Up.up Lq (stop hc.symm)
theorem OT {a b c d e f:Nat} (h:oU a b c d e f=true):a≤4∧b≤4∧c≤40∧d≤24∧e≤4∧f≤12:=by
 simp only[oU,bKM,decide_eq_true_eq] at h
 omega
theorem aiN {n:Nat} (h:n≤1000):IntKind.i64.wrap ((n:Int)-1)=(n:Int)-1:=wrap_i64 Om Om
def inS:Spec:=fun name vs=>match name,vs with
 | 76,[.int _ n,.int _ lo,.int _ hi]=>some ([],fun _=>aD (.bool (within n lo hi)))
 | _,_=>none
def alK (bHY:Nat) (m:cK):Bool:=within m.bIJ 1 16&&(within m.port 1 64&&within m.law 0 ((bHY:Int)-1))
def aPG (pols:Nat) (v:eM):Bool:=within v.bID 0 ((pols:Int)-1)
def xH (f:aE):Bool:=(bJU f.bHO.length).all (okL [] (f.bHO.map cK.name) fun i=>(f.bHO.map (alK f.bHY.length)).getD i false)
theorem bjH {C:Ctx} (L:qT C) (f:aE) (hf:f.Ok) (hz:oU f.bHY.length f.bHO.length f.bHR.length f.bHN.length f.bHS.length f.bHQ.length=true) (b:Bool) (K:cA) [Up K] (F:PF) (H:PH)
  (hF:((((((((PF.nil.set 1 (.bHX f.cells)).set 4 (.bHP)).set 5 (.bHP)).set 6 (.bHP)).set 7 (.bHP)).set 8 (.bool b)).set 10 (.int .i64 0)):PF).le F)
  (hK:∀ H',K (.exit 2) ((((((PF.nil.set 1 (.bHX f.cells)).set 5 (.bHP)).set 6 (.bHP)).set 7 (.bHP)).set 8 (.bool (b&&xH f)))) H'):aB.wp C (.loop KF) K F H:=by
 obtain⟨hz1,hz2,hz3,hz4,hz5,hz6⟩:=OT hz
 obtain⟨ok,hok⟩:∃ ok,okL [] (f.bHO.map cK.name) (fun i=>(f.bHO.map (alK f.bHY.length)).getD i false)=ok:=⟨_,rfl⟩
 unfold xH at hK
 rw[hok] at hK
 refine wp_loop (α:=Nat × PV × PH) (fun s=>(((((((PF.nil.set 1 (.bHX f.cells)).set 4 (s.2.1)).set 5 (.bHP)).set 6 (.bHP)).set 7 (.bHP)).set 8 (.bool (b&&(bJU s.1).all ok))).set 10 (.int .i64 s.1))) (fun s=>s.2.2) (fun s=>s.1≤f.bHO.length∧gT s.2.2 s.2.1 [] (f.bHO.map cK.name) (b&&(bJU s.1).all ok) s.1) (fun s=>f.bHO.length-s.1)
  (0,.bHP,H) ⟨bKA _,⟨[],aT.nil.qM 1,fun _=>rfl⟩⟩ (by
   have e:(b&&(bJU 0).all ok)=b:=by cases b<;>rfl
   simp only[e]
   exact hF) PH.le_refl ?_
 rintro⟨i,w,H0⟩ ⟨hi,hG⟩
 simp only at hi hG ⊢
 have fin:∀ (c:Bool) (w':PV) (F':PF) (H':PH),i<f.bHO.length→(b&&(bJU (i+1)).all ok)=c→gT H' w' [] (f.bHO.map cK.name) true (i+1) →
   ((((((((PF.nil.set 1 (.bHX f.cells)).set 4 (w')).set 5 (.bHP)).set 6 (.bHP)).set 7 (.bHP)).set 8 (.bool c)).set 10 (.int .i64 (i+1:Nat))):PF).le F' →
   dU (fun s:Nat × PV × PH=>(((((((PF.nil.set 1 (.bHX f.cells)).set 4 (s.2.1)).set 5 (.bHP)).set 6 (.bHP)).set 7 (.bHP)).set 8 (.bool (b&&(bJU s.1).all ok))).set 10 (.int .i64 s.1))) (fun s=>s.2.2) (fun s=>s.1≤f.bHO.length∧gT s.2.2 s.2.1 [] (f.bHO.map cK.name) (b&&(bJU s.1).all ok) s.1) (fun s=>f.bHO.length-s.1) (f.bHO.length-i) K .normal F' H' :=
  fun c w' F' H' hlt hb hG' hF'=>aC (i+1,w',H') ⟨hlt,hG'.amZ⟩ (by simp only; omega) (by simp only; rw[hb]; exact hF') PH.le_refl
 have bHW:=qE (p:=ok) i b
 have stop:(b&&(bJU i).all ok)=(b&&(bJU f.bHO.length).all ok)→K (.exit 2) ((((((PF.nil.set 1 (.bHX f.cells)).set 5 (.bHP)).set 6 (.bHP)).set 7 (.bHP)).set 8 (.bool (b&&(bJU i).all ok)))) H0:=fun e=>by
  rw[e]; exact hK H0
 have hacc:=fun h=>qD (p:=ok) (b:=b) hi h
 generalize hc:(b&&(bJU i).all ok)=c at *
 simp only[go_sem,δ,γ,θ,KF,ajG,bJT]
 by_cases hlt:i<f.bHO.length
 ·have bHV:(i:Int)<(f.bHO.length:Nat):=by omega
  cases c with
  | false =>
   simp only[go_sem,γ,bHV]
   exact Up.up Lq (stop (hacc rfl).symm)
  | true =>
   obtain⟨names,g1,g3⟩:=hG.ex
   have hat:(f.bHO.map cK.cells)[i]?=some (f.bHO[i]).cells:=by simp[hlt]
   have hin:i<(f.bHO.map cK.name).length:=by rw[bJT]; exact hlt
   have hoki:ok i=(jB ([]++(f.bHO.map cK.name).take i) ((f.bHO.map cK.name).getD i [])&&(alK f.bHY.length) f.bHO[i]):=by
    rw[← hok]
    unfold okL
    simp[bKK,hlt]
   rw[hoki] at bHW
   have bJC:alK f.bHY.length f.bHO[i]=(within (f.bHO[i]).bIJ 1 16&&(within (f.bHO[i]).port 1 64&&within (f.bHO[i]).law 0 ((f.bHY.length:Int)-1))):=rfl
   rw[bJC] at bHW
   simp only[go_sem,δ,γ,θ,bHV,ajH,hat]
   refine aO fun o ho=>?_
   have g4:=g1.new ho (.rows 4 [(f.bHO[i]).cells])
   have g5:=g4.at 0 rfl
   simp only[go_sem,δ,γ]
   generalize H0.set o (.rows 4 [(f.bHO[i]).cells])=H2 at *
   simp only[go_sem,δ,γ,θ,ajI,g5]
   refine gT.call L.tooW (ns:=(f.bHO.map cK.name)) g4 (bKA _) Om (g3 rfl) hin (by simp only[go_sem,γ,bLI]) fun w' H1 h1 hG1=>?_
   have g6:=h1.at 0 rfl
   generalize jB ([]++(f.bHO.map cK.name).take i) ((f.bHO.map cK.name).getD i [])=fb at *
   cases fb with
   | false =>
    simp only[go_sem,γ,reduceCtorEq,KH,sS,ws i]
    exact fin false w' _ _ hlt (bHW.trans rfl) hG1 Lq
   | true =>
    simp only[go_sem,δ,γ,θ,KH,g6]
    refine aA (L.inn (f.bHO[i]).bIJ 1 16) rfl ?_
    cases k0:within (f.bHO[i]).bIJ 1 16 with
    | false =>
     simp only[go_sem,γ,reduceCtorEq,sS,ws i]
     exact fin false w' _ _ hlt (by rw[bHW,k0]<;>simp) hG1 Lq
    | true =>
     simp only[go_sem,δ,γ,θ,g6]
     refine aA (L.inn (f.bHO[i]).port 1 64) rfl ?_
     cases k1:within (f.bHO[i]).port 1 64 with
     | false =>
      simp only[go_sem,γ,reduceCtorEq,sS,ws i]
      exact fin false w' _ _ hlt (by rw[bHW,k0,k1]<;>simp) hG1 Lq
     | true =>
      simp only[go_sem,δ,γ,θ,g6,bJT,aiN (Om:f.bHY.length≤1000)]
      refine aA (L.inn (f.bHO[i]).law 0 ((f.bHY.length:Int)-1)) rfl ?_
      simp only[go_sem,γ,sS,ws i]
      exact fin _ w' _ _ hlt (by rw[bHW,k0,k1]<;>simp) hG1 Lq
 ·have bHV:¬ (i:Int)<(f.bHO.length:Nat):=by omega
  have:i=f.bHO.length:=by omega
  subst this
  simp only[go_sem,γ,reduceCtorEq,bHV]
  exact Up.up Lq (stop hc.symm)
def azS (f:aE):Bool:=(bJU f.bHQ.length).all (okL [] (f.bHQ.map eM.name) fun i=>(f.bHQ.map (aPG f.bHS.length)).getD i false)
theorem bwA {C:Ctx} (L:qT C) (f:aE) (hf:f.Ok) (hz:oU f.bHY.length f.bHO.length f.bHR.length f.bHN.length f.bHS.length f.bHQ.length=true) (b:Bool) (K:cA) [Up K] (F:PF) (H:PH)
  (hF:(((((PF.nil.set 1 (.bHX f.cells)).set 7 (.bHP)).set 8 (.bool b)).set 21 (.int .i64 0)):PF).le F)
  (hK:∀ H',K (.exit 14) (((PF.nil.set 1 (.bHX f.cells)).set 8 (.bool (b&&azS f)))) H'):aB.wp C (.loop wX) K F H:=by
 obtain⟨hz1,hz2,hz3,hz4,hz5,hz6⟩:=OT hz
 obtain⟨ok,hok⟩:∃ ok,okL [] (f.bHQ.map eM.name) (fun i=>(f.bHQ.map (aPG f.bHS.length)).getD i false)=ok:=⟨_,rfl⟩
 unfold azS at hK
 rw[hok] at hK
 refine wp_loop (α:=Nat × PV × PH) (fun s=>((((PF.nil.set 1 (.bHX f.cells)).set 7 (s.2.1)).set 8 (.bool (b&&(bJU s.1).all ok))).set 21 (.int .i64 s.1))) (fun s=>s.2.2) (fun s=>s.1≤f.bHQ.length∧gT s.2.2 s.2.1 [] (f.bHQ.map eM.name) (b&&(bJU s.1).all ok) s.1) (fun s=>f.bHQ.length-s.1)
  (0,.bHP,H) ⟨bKA _,⟨[],aT.nil.qM 1,fun _=>rfl⟩⟩ (by
   have e:(b&&(bJU 0).all ok)=b:=by cases b<;>rfl
   simp only[e]
   exact hF) PH.le_refl ?_
 rintro⟨i,w,H0⟩ ⟨hi,hG⟩
 simp only at hi hG ⊢
 have fin:∀ (c:Bool) (w':PV) (F':PF) (H':PH),i<f.bHQ.length→(b&&(bJU (i+1)).all ok)=c→gT H' w' [] (f.bHQ.map eM.name) true (i+1) →
   (((((PF.nil.set 1 (.bHX f.cells)).set 7 (w')).set 8 (.bool c)).set 21 (.int .i64 (i+1:Nat))):PF).le F' →
   dU (fun s:Nat × PV × PH=>((((PF.nil.set 1 (.bHX f.cells)).set 7 (s.2.1)).set 8 (.bool (b&&(bJU s.1).all ok))).set 21 (.int .i64 s.1))) (fun s=>s.2.2) (fun s=>s.1≤f.bHQ.length∧gT s.2.2 s.2.1 [] (f.bHQ.map eM.name) (b&&(bJU s.1).all ok) s.1) (fun s=>f.bHQ.length-s.1) (f.bHQ.length-i) K .normal F' H' :=
  fun c w' F' H' hlt hb hG' hF'=>aC (i+1,w',H') ⟨hlt,hG'.amZ⟩ (by simp only; omega) (by simp only; rw[hb]; exact hF') PH.le_refl
 have bHW:=qE (p:=ok) i b
 have stop:(b&&(bJU i).all ok)=(b&&(bJU f.bHQ.length).all ok)→K (.exit 14) (((PF.nil.set 1 (.bHX f.cells)).set 8 (.bool (b&&(bJU i).all ok)))) H0:=fun e=>by
  rw[e]; exact hK H0
 have hacc:=fun h=>qD (p:=ok) (b:=b) hi h
 generalize hc:(b&&(bJU i).all ok)=c at *
 simp only[go_sem,γ,wX,ajY,bJT]
 by_cases hlt:i<f.bHQ.length
 ·have bHV:(i:Int)<(f.bHQ.length:Nat):=by omega
  cases c with
  | false =>
   simp only[go_sem,γ,bHV]
   exact Up.up Lq (stop (hacc rfl).symm)
  | true =>
   obtain⟨names,g1,g3⟩:=hG.ex
   have hat:(f.bHQ.map eM.cells)[i]?=some (f.bHQ[i]).cells:=by simp[hlt]
   have hin:i<(f.bHQ.map eM.name).length:=by rw[bJT]; exact hlt
   have hoki:ok i=(jB ([]++(f.bHQ.map eM.name).take i) ((f.bHQ.map eM.name).getD i [])&&(aPG f.bHS.length) f.bHQ[i]):=by
    rw[← hok]
    unfold okL
    simp[bKK,hlt]
   rw[hoki] at bHW
   have bJC:aPG f.bHS.length f.bHQ[i]=within (f.bHQ[i]).bID 0 ((f.bHS.length:Int)-1):=rfl
   rw[bJC] at bHW
   simp only[go_sem,δ,γ,θ,bHV,ajZ,hat]
   refine gT.call L.tooW (ns:=(f.bHQ.map eM.name)) g1 (bKA _) Om (g3 rfl) hin (by simp only[go_sem,γ,bLI]) fun w' H1 h1 hG1=>?_
   generalize jB ([]++(f.bHQ.map eM.name).take i) ((f.bHQ.map eM.name).getD i [])=fb at *
   cases fb with
   | false =>
    simp only[go_sem,γ]
    refine bL .nil (inS) PH.nil_le ?_
    simp only[go_sem,γ,reduceCtorEq,KU,KV,ws i]
    exact fin false w' _ _ hlt (bHW.trans rfl) hG1 Lq
   | true =>
    simp only[go_sem,γ]
    refine bL .nil (inS) PH.nil_le ?_
    simp only[go_sem,δ,γ,θ,KU,hat,bJT,aiN (Om:f.bHS.length≤1000)]
    refine bC rfl (L.inn (f.bHQ[i]).bID 0 ((f.bHS.length:Int)-1)) rfl PH.nil_le ?_
    simp only[go_sem,γ,KV,ws i]
    exact fin _ w' _ _ hlt (bHW.trans rfl) hG1 Lq
 ·have bHV:¬ (i:Int)<(f.bHQ.length:Nat):=by omega
  have:i=f.bHQ.length:=by omega
  subst this
  simp only[go_sem,γ,reduceCtorEq,bHV]
  exact Up.up Lq (stop hc.symm)
def a5O:Spec:=fun name vs=>match name,vs with
 | 76,[.int _ n,.int _ lo,.int _ hi]=>some ([],fun _=>aD (.bool (within n lo hi)))
 | 74,[.agg cs]=>some ([],fun _=>aD (.bool (cL (frD cs))))
 | _,_=>none
theorem a5P (x:RF):a5O 74 [.agg x.cells]=some ([],fun _=>aD (.bool (cL x))):=by
 show some ([],fun _=>aD (.bool (cL (frD x.cells))))=_
 rw[anJ]
def aBB (f:aE) (i:Nat) (d:cH):Bool :=
 within d.level 1 4&&(within d.parent 0 i&&(((f.bHR.map cH.level).getD d.parent.toNat 0==IntKind.i64.wrap (d.level-1))&&(within d.bIP 1 64&&cL d.bIH)))
theorem brE (f:aE) (i:Nat) (d:cH):EZ f i d=aBB f i d:=by
 unfold EZ aBB
 have:decide ((f.bHR.map cH.level).getD d.parent.toNat 0=IntKind.i64.wrap (d.level-1))=((f.bHR.map cH.level).getD d.parent.toNat 0==IntKind.i64.wrap (d.level-1)):=by
  generalize (f.bHR.map cH.level).getD d.parent.toNat 0=u
  by_cases h:u=IntKind.i64.wrap (d.level-1)<;>simp[h]
 rw[this]
 cases within d.parent 0 i<;>cases within d.level 1 4<;>cases within d.bIP 1 64<;>simp
def gP (f:aE):List (List UInt8):=(f.bHR.drop 1).map cH.name
def vP (f:aE) (i:Nat):Bool:=match f.bHR[i+1]? with
 | some d=>aBB f i d
 | none=>false
def vQ (f:aE):Bool:=(bJU (f.bHR.length-1)).all (okL [] (gP f) (vP f))
theorem aBA (f:aE):(gP f).length=f.bHR.length-1:=by simp[gP]
theorem bvX {C:Ctx} (L:qT C) (f:aE) (hf:f.Ok) (hz3:f.bHR.length≤40) (h0:0<f.bHR.length) (b:Bool) (K:cA) [Up K] (F:PF) (H:PH)
  (hF:(((((((PF.nil.set 1 (.bHX f.cells)).set 5 (.bHP)).set 6 (.bHP)).set 7 (.bHP)).set 8 (.bool b)).set 13 (.int .i64 1)):PF).le F)
  (hK:∀ w H',gT H' w [] (gP f) (b&&vQ f) (f.bHR.length-1)→K (.exit 4) ((((((PF.nil.set 1 (.bHX f.cells)).set 5 (w)).set 6 (.bHP)).set 7 (.bHP)).set 8 (.bool (b&&vQ f)))) H'):aB.wp C (.loop wT) K F H:=by
 obtain⟨ok,hok⟩:∃ ok,okL [] (gP f) (vP f)=ok:=⟨_,rfl⟩
 unfold vQ at hK
 rw[hok] at hK
 obtain⟨n,hn⟩:∃ n,f.bHR.length=n+1:=⟨f.bHR.length-1,by omega⟩
 have hnl:=aBA f
 have hn1:f.bHR.length-1=n:=by omega
 rw[hn1] at hK hnl
 refine wp_loop (α:=Nat × PV × PH) (fun s=>((((((PF.nil.set 1 (.bHX f.cells)).set 5 (s.2.1)).set 6 (.bHP)).set 7 (.bHP)).set 8 (.bool (b&&(bJU s.1).all ok))).set 13 (.int .i64 (s.1+1:Nat)))) (fun s=>s.2.2) (fun s=>s.1≤n∧gT s.2.2 s.2.1 [] (gP f) (b&&(bJU s.1).all ok) s.1) (fun s=>n-s.1)
  (0,.bHP,H) ⟨bKA _,⟨[],aT.nil.qM 1,fun _=>rfl⟩⟩ (by
   have e:(b&&(bJU 0).all ok)=b:=by cases b<;>rfl
   simp only[e]
   exact hF) PH.le_refl ?_
 rintro⟨i,w,H0⟩ ⟨hi,hG⟩
 simp only at hi hG ⊢
 have fin:∀ (c:Bool) (w':PV) (F':PF) (H':PH),i<n→(b&&(bJU (i+1)).all ok)=c→gT H' w' [] (gP f) true (i+1) →
   (((((((PF.nil.set 1 (.bHX f.cells)).set 5 (w')).set 6 (.bHP)).set 7 (.bHP)).set 8 (.bool c)).set 13 (.int .i64 (i+1+1:Nat))):PF).le F' →
   dU (fun s:Nat × PV × PH=>((((((PF.nil.set 1 (.bHX f.cells)).set 5 (s.2.1)).set 6 (.bHP)).set 7 (.bHP)).set 8 (.bool (b&&(bJU s.1).all ok))).set 13 (.int .i64 (s.1+1:Nat)))) (fun s=>s.2.2) (fun s=>s.1≤n∧gT s.2.2 s.2.1 [] (gP f) (b&&(bJU s.1).all ok) s.1) (fun s=>n-s.1) (n-i) K .normal F' H' :=
  fun c w' F' H' hlt hb hG' hF'=>aC (i+1,w',H') ⟨hlt,hG'.amZ⟩ (by simp only; omega) (by simp only; rw[hb]; exact hF') PH.le_refl
 have bHW:=qE (p:=ok) i b
 have hacc:=fun h=>qD (p:=ok) (b:=b) hi h
 have stop:(b&&(bJU i).all ok)=(b&&(bJU n).all ok)→((b&&(bJU i).all ok)=true→i=n)→K (.exit 4) ((((((PF.nil.set 1 (.bHX f.cells)).set 5 (w)).set 6 (.bHP)).set 7 (.bHP)).set 8 (.bool (b&&(bJU i).all ok)))) H0:=fun e e2=>by
  obtain⟨names,g1,g3⟩:=hG.ex
  have:=hK w H0 ⟨names,g1,fun h=>by
   have h':=e.trans h
   rw[g3 h',e2 h']⟩
  rwa [← e] at this
 generalize hc:(b&&(bJU i).all ok)=c at *
 simp only[go_sem,δ,γ,θ,wT,ajK,bJT]
 by_cases hlt:i<n
 ·have bHV:((i+1:Nat):Int)<(f.bHR.length:Nat):=by omega
  cases c with
  | false =>
   simp only[go_sem,γ,bHV]
   exact Up.up Lq (stop (hacc rfl).symm (fun h=>by cases h))
  | true =>
   obtain⟨names,g1,g3⟩:=hG.ex
   have hid:i+1<f.bHR.length:=by omega
   have hat:=eQ hid
   have hin:i<(gP f).length:=by omega
   have hnm:(gP f)[i]=(f.bHR[i+1]).name:=by simp[gP,Nat.add_comm]
   have hoki:ok i=(jB ([]++(gP f).take i) ((gP f).getD i [])&&aBB f i f.bHR[i+1]):=by
    rw[← hok]
    unfold okL vP
    rw[bKG hid]
   have hdo:=hf.dom _ (bJZ hid)
   rw[hoki] at bHW
   unfold aBB at bHW
   have e1:IntKind.i64.wrap (((i+1:Nat):Int)-1)=(i:Nat):=by rw[wrap_i64 Om Om]; omega
   have winc:IntKind.i64.wrap (((i+1:Nat):Int)+1)=((i+1+1:Nat):Int):=cW Om
   have hsm:=L.small _ hdo.1
   simp only[go_sem,δ,γ,θ,bHV,ajL,hat]
   refine aO fun o ho=>?_
   have g4:=g1.new ho (.rows 7 [(f.bHR[i+1]).cells])
   have g5:=g4.at 0 rfl
   simp only[go_sem,δ,γ]
   generalize H0.set o (.rows 7 [(f.bHR[i+1]).cells])=H2 at *
   simp only[go_sem,δ,γ,θ,ajM,g5]
   refine gT.call L.tooW (ns:=gP f) g4 (bKA _) Om (g3 rfl) hin (by simp only[go_sem,γ,hnm]) fun w' H1 h1 hG1=>?_
   have g6:=h1.at 0 rfl
   generalize jB ([]++(gP f).take i) ((gP f).getD i [])=fb at *
   generalize hd:f.bHR[i+1]=dd at *
   cases fb with
   | false =>
    simp only[go_sem,γ]
    refine bL .nil a5O PH.nil_le ?_
    simp only[go_sem,γ,reduceCtorEq,KK,nI,winc]
    exact fin false w' _ _ hlt (bHW.trans rfl) hG1 Lq
   | true =>
    simp only[go_sem,γ]
    refine bL .nil a5O PH.nil_le ?_
    simp only[go_sem,δ,γ,θ,reduceCtorEq,KK,g6]
    refine bC rfl (L.inn dd.level 1 4) rfl PH.nil_le ?_
    cases k0:within dd.level 1 4 with
    | false =>
     simp only[go_sem,γ,reduceCtorEq,nI,winc]
     exact fin false w' _ _ hlt (by rw[bHW,k0]<;>simp) hG1 Lq
    | true =>
     simp only[go_sem,δ,γ,θ,reduceCtorEq,g6,e1]
     refine bC rfl (L.inn dd.parent 0 (i:Nat)) rfl PH.nil_le ?_
     cases k1:within dd.parent 0 (i:Nat) with
     | false =>
      simp only[go_sem,γ,reduceCtorEq,nI,winc]
      exact fin false w' _ _ hlt (by rw[bHW,k0,k1]<;>simp) hG1 Lq
     | true =>
      obtain⟨p0,p1⟩:=within_iff.1 k1
      obtain⟨p,hp⟩:∃ p:Nat,dd.parent=p:=⟨dd.parent.toNat,by omega⟩
      have hpd:p<f.bHR.length:=by omega
      obtain⟨lv,hlv⟩:∃ lv,(f.bHR.map cH.level).getD dd.parent.toNat 0=lv:=⟨_,rfl⟩
      have hpl:(f.bHR[p]).level=lv:=by rw[← hlv,hp,bMQ,getD_at hpd]
      rw[hlv] at bHW
      have hpat:=eQ hpd
      simp only[go_sem,δ,γ,θ,reduceCtorEq,g6,hp,hpat,hpl]
      cases k2:lv==IntKind.i64.wrap (dd.level-1) with
      | false =>
       simp only[go_sem,γ,reduceCtorEq,nI,winc]
       exact fin false w' _ _ hlt (by rw[bHW,k0,k1,k2]<;>simp) hG1 Lq
      | true =>
       simp only[go_sem,δ,γ,θ,reduceCtorEq,g6]
       refine bC rfl (L.inn dd.bIP 1 64) rfl PH.nil_le ?_
       cases k3:within dd.bIP 1 64 with
       | false =>
        simp only[go_sem,γ,reduceCtorEq,nI,winc]
        exact fin false w' _ _ hlt (by rw[bHW,k0,k1,k2,k3]<;>simp) hG1 Lq
       | true =>
        simp only[go_sem,δ,γ,reduceCtorEq,g6]
        refine bC (a5P _) hsm rfl PH.nil_le ?_
        simp only[go_sem,γ,nI,winc]
        exact fin _ w' _ _ hlt (by rw[bHW,k0,k1,k2,k3]<;>simp) hG1 Lq
 ·have bHV:¬ ((i+1:Nat):Int)<(f.bHR.length:Nat):=by omega
  have:i=n:=by omega
  subst this
  simp only[go_sem,γ,reduceCtorEq,bHV]
  exact Up.up Lq (stop hc.symm (fun _=>rfl))
def aBE (f:aE) (d:cY):Bool:=within d.model 0 ((f.bHO.length:Int)-1)&&(within d.machine 0 ((f.bHR.length:Int)-1)&&((f.bHR.map cH.level).getD d.machine.toNat 0==4))
def lI (f:aE):List (List UInt8):=f.bHN.map cY.name
def tT (f:aE) (i:Nat):Bool:=match f.bHN[i]? with
 | some d=>aBE f d
 | none=>false
def xA (f:aE):Bool:=(bJU f.bHN.length).all (okL (gP f) (lI f) (tT f))
theorem bjG {C:Ctx} (L:qT C) (f:aE) (hf:f.Ok) (hz3:f.bHR.length≤40) (h0:0<f.bHR.length) (hz4:f.bHN.length≤24) (hz2:f.bHO.length≤4) (b:Bool) (w0:PV) (K:cA) [Up K] (F:PF) (H:PH)
  (hG0:gT H w0 [] (gP f) b (f.bHR.length-1)) (hF:(((((((PF.nil.set 1 (.bHX f.cells)).set 5 (w0)).set 6 (.bHP)).set 7 (.bHP)).set 8 (.bool b)).set 15 (.int .i64 0)):PF).le F)
  (hK:∀ H',K (.exit 6) (((((PF.nil.set 1 (.bHX f.cells)).set 6 (.bHP)).set 7 (.bHP)).set 8 (.bool (b&&xA f)))) H'):aB.wp C (.loop wU) K F H:=by
 obtain⟨ok,hok⟩:∃ ok,okL (gP f) (lI f) (tT f)=ok:=⟨_,rfl⟩
 unfold xA at hK
 rw[hok] at hK
 obtain⟨n,hn⟩:∃ n,f.bHN.length=n:=⟨_,rfl⟩
 have hdl:=aBA f
 have hnl:(lI f).length=n:=by simp[lI,hn]
 rw[hn] at hK
 refine wp_loop (α:=Nat × PV × PH) (fun s=>((((((PF.nil.set 1 (.bHX f.cells)).set 5 (s.2.1)).set 6 (.bHP)).set 7 (.bHP)).set 8 (.bool (b&&(bJU s.1).all ok))).set 15 (.int .i64 s.1))) (fun s=>s.2.2) (fun s=>s.1≤n∧gT s.2.2 s.2.1 (gP f) (lI f) (b&&(bJU s.1).all ok) s.1) (fun s=>n-s.1)
  (0,w0,H) ⟨bKA _,by
   obtain⟨names,q1,q2⟩:=hG0.ex
   have e:(b&&(bJU 0).all ok)=b:=by cases b<;>rfl
   refine⟨names,q1,fun h=>?_⟩
   simp only[e] at h
   rw[q2 h,List.nil_append,bKL Om]
   simp⟩ (by
   have e:(b&&(bJU 0).all ok)=b:=by cases b<;>rfl
   simp only[e]
   exact hF) PH.le_refl ?_
 rintro⟨i,w,H0⟩ ⟨hi,hG⟩
 simp only at hi hG ⊢
 have fin:∀ (c:Bool) (w':PV) (F':PF) (H':PH),i<n→(b&&(bJU (i+1)).all ok)=c→gT H' w' (gP f) (lI f) true (i+1) →
   (((((((PF.nil.set 1 (.bHX f.cells)).set 5 (w')).set 6 (.bHP)).set 7 (.bHP)).set 8 (.bool c)).set 15 (.int .i64 (i+1:Nat))):PF).le F' →
   dU (fun s:Nat × PV × PH=>((((((PF.nil.set 1 (.bHX f.cells)).set 5 (s.2.1)).set 6 (.bHP)).set 7 (.bHP)).set 8 (.bool (b&&(bJU s.1).all ok))).set 15 (.int .i64 s.1))) (fun s=>s.2.2) (fun s=>s.1≤n∧gT s.2.2 s.2.1 (gP f) (lI f) (b&&(bJU s.1).all ok) s.1) (fun s=>n-s.1) (n-i) K .normal F' H' :=
  fun c w' F' H' hlt hb hG' hF'=>aC (i+1,w',H') ⟨hlt,hG'.amZ⟩ (by simp only; omega) (by simp only; rw[hb]; exact hF') PH.le_refl
 have bHW:=qE (p:=ok) i b
 have hacc:=fun h=>qD (p:=ok) (b:=b) hi h
 have stop:(b&&(bJU i).all ok)=(b&&(bJU n).all ok)→K (.exit 6) (((((PF.nil.set 1 (.bHX f.cells)).set 6 (.bHP)).set 7 (.bHP)).set 8 (.bool (b&&(bJU i).all ok)))) H0:=fun e=>by
  rw[e]; exact hK H0
 generalize hc:(b&&(bJU i).all ok)=c at *
 simp only[go_sem,δ,γ,θ,wU,ajN,bJT]
 by_cases hlt:i<n
 ·have bHV:((i:Nat):Int)<(f.bHN.length:Nat):=by omega
  cases c with
  | false =>
   simp only[go_sem,γ,bHV]
   exact Up.up Lq (stop (hacc rfl).symm)
  | true =>
   obtain⟨names,g1,g3⟩:=hG.ex
   have hid:i<f.bHN.length:=by omega
   have hat:=kP hid
   have hin:i<(lI f).length:=by omega
   have hnm:(lI f)[i]=(f.bHN[i]).name:=by simp[lI]
   have hoki:ok i=(jB (gP f++(lI f).take i) ((lI f).getD i [])&&aBE f f.bHN[i]):=by
    rw[← hok]
    unfold okL tT
    rw[bKG hid]
   rw[hoki] at bHW
   unfold aBE at bHW
   have winc:IntKind.i64.wrap ((i:Int)+1)=((i+1:Nat):Int):=cW Om
   have e1:=aiN (Om:f.bHO.length≤1000)
   have e2:=aiN (Om:f.bHR.length≤1000)
   simp only[go_sem,δ,γ,θ,bHV,ajO,hat]
   refine aO fun o ho=>?_
   have g4:=g1.new ho (.rows 3 [(f.bHN[i]).cells])
   have g5:=g4.at 0 rfl
   simp only[go_sem,δ,γ]
   generalize H0.set o (.rows 3 [(f.bHN[i]).cells])=H2 at *
   simp only[go_sem,δ,γ,θ,ajP,g5]
   refine gT.call L.tooW (base:=gP f) (ns:=lI f) g4 Om Om (g3 rfl) hin (by simp only[go_sem,γ,hnm]) fun w' H1 h1 hG1=>?_
   have g6:=h1.at 0 rfl
   generalize jB (gP f++(lI f).take i) ((lI f).getD i [])=fb at *
   generalize hd:f.bHN[i]=dd at *
   cases fb with
   | false =>
    simp only[go_sem,γ,reduceCtorEq,KM,sT,winc]
    exact fin false w' _ _ hlt (bHW.trans rfl) hG1 Lq
   | true =>
    simp only[go_sem,δ,γ,θ,KM,g6,bJT,e1]
    refine aA (L.inn dd.model 0 ((f.bHO.length:Int)-1)) rfl ?_
    cases k0:within dd.model 0 ((f.bHO.length:Int)-1) with
    | false =>
     simp only[go_sem,γ,reduceCtorEq,sT,winc]
     exact fin false w' _ _ hlt (by rw[bHW,k0]<;>simp) hG1 Lq
    | true =>
     simp only[go_sem,δ,γ,θ,g6,bJT,e2]
     refine aA (L.inn dd.machine 0 ((f.bHR.length:Int)-1)) rfl ?_
     cases k1:within dd.machine 0 ((f.bHR.length:Int)-1) with
     | false =>
      simp only[go_sem,γ,reduceCtorEq,sT,winc]
      exact fin false w' _ _ hlt (by rw[bHW,k0,k1]<;>simp) hG1 Lq
     | true =>
      obtain⟨p0,p1⟩:=within_iff.1 k1
      obtain⟨p,hp⟩:∃ p:Nat,dd.machine=p:=⟨dd.machine.toNat,by omega⟩
      have hpd:p<f.bHR.length:=by omega
      obtain⟨lv,hlv⟩:∃ lv,(f.bHR.map cH.level).getD dd.machine.toNat 0=lv:=⟨_,rfl⟩
      have hpl:(f.bHR[p]).level=lv:=by rw[← hlv,hp,bMQ,getD_at hpd]
      rw[hlv] at bHW
      have hpat:=eQ hpd
      simp only[go_sem,δ,γ,θ,g6,hp,hpat,hpl,sT,winc]
      exact fin _ w' _ _ hlt (by rw[bHW,k0,k1]<;>simp) hG1 Lq
 ·have bHV:¬ ((i:Nat):Int)<(f.bHN.length:Nat):=by omega
  have:i=n:=by omega
  subst this
  simp only[go_sem,γ,reduceCtorEq,bHV]
  exact Up.up Lq (stop hc.symm)
theorem WV {xs:List Int} {k:Nat} (h:k<xs.length):(xs.map fun x=>[PV.int .i64 x])[k]?=some [.int .i64 xs[k]]:=by simp[h]
def zpF (f:aE) (w:PV) (o i:Nat) (c:Bool) (j:Nat):PF:=(((((((PF.nil.set 1 (.bHX f.cells)).set 6 (w)).set 7 (.bHP)).set 8 (.bool c)).set 17 (.int .i64 i)).set 18 (.ptr o 17 0 0)).set 19 (.int .i64 j))
theorem bqG {C:Ctx} (f:aE) (w:PV) (o i:Nat) (p:cJ) (hl:p.bHO.length≤9223372036854775807) (j:Nat) (hj:j<p.bHO.length) (b:Bool) (K:cA) [Up K] (F:PF) (H:PH) (ho:H o=some (.rows 17 [p.cells])) (hF:((zpF f w o i b j).set 20 (.int .i64 0)).le F)
  (hK:K (.exit 12) (zpF f w o i (b&&(p.bHO.take j).all fun x=>x != p.bHO[j]) j) H):aB.wp C (.loop KG) K F H:=by
 refine wp_loop (α:=Nat) (fun k=>(zpF f w o i (b&&(p.bHO.take k).all fun x=>x != p.bHO[j]) j).set 20 (.int .i64 k)) (fun _=>H) (fun k=>k≤j) (fun k=>j-k) 0 (bKA _) (by
   have e:(b&&(p.bHO.take 0).all fun x=>x != p.bHO[j])=b:=by cases b<;>rfl
   simp only[e]
   exact hF) PH.le_refl ?_
 intro k hk
 have hs:∀ h:k<p.bHO.length,(b&&(p.bHO.take (k+1)).all fun x=>x != p.bHO[j])=((b&&(p.bHO.take k).all fun x=>x != p.bHO[j])&&(p.bHO[k] != p.bHO[j])):=fun h=>by
  rw[bLY h,List.all_append]
  simp[bMP]
 have fin:∀ (c:Bool) (F':PF),k<j→(b&&(p.bHO.take (k+1)).all fun x=>x != p.bHO[j])=c→((zpF f w o i c j).set 20 (.int .i64 (k+1:Nat))).le F'→dU (fun k:Nat=>(zpF f w o i (b&&(p.bHO.take k).all fun x=>x != p.bHO[j]) j).set 20 (.int .i64 k)) (fun _=>H) (fun k=>k≤j) (fun k=>j-k) (j-k) K .normal F' H :=
  fun c F' hlt e h=>aC (k+1) hlt Om (by rw[e]; exact h) PH.le_refl
 unfold zpF at fin
 simp only[go_sem,γ,KG,ajW,zpF]
 by_cases hlt:k<j
 ·have bHV:(k:Int)<(j:Nat):=by omega
  have hk2:k<p.bHO.length:=by omega
  have hs:=hs hk2
  generalize (b&&(p.bHO.take k).all fun x=>x != p.bHO[j])=c at *
  simp only[go_sem,bHV]
  refine bL .nil dJ PH.nil_le ?_
  cases c with
  | false =>
   simp only[go_sem,γ,reduceCtorEq,KP,KQ,ws k]
   exact fin false _ hlt (hs.trans rfl) Lq
  | true =>
   simp only[go_sem,δ,γ,θ,reduceCtorEq,KP,ho,WV hk2,WV hj,KQ,ws k]
   exact fin _ _ hlt (hs.trans rfl) Lq
 ·have bHV:¬ (k:Int)<(j:Nat):=by omega
  have:k=j:=by omega
  subst this
  simp only[go_sem,bHV]
  exact Up.up (by (repeat' (first|exact PF.nil_le|refine PF.aG ?_ ?_))<;>first|(simp only[go_sem,γ,zpF]<;>rfl)|rfl) hK
def YL (bHO:Nat) (ms:List Int) (j:Nat):Bool:=within (ms.getD j 0) 0 ((bHO:Int)-1)&&(ms.take j).all fun x=>x != ms.getD j 0
theorem bjB {C:Ctx} (L:qT C) (f:aE) (hz2:f.bHO.length≤4) (w:PV) (o i:Nat) (p:cJ) (hl:p.bHO.length≤9223372036854775807) (b:Bool) (K:cA) [Up K] (F:PF) (H:PH) (ho:H o=some (.rows 17 [p.cells])) (hF:(zpF f w o i b 0).le F)
  (hK:K (.exit 10) ((((((PF.nil.set 1 (.bHX f.cells)).set 6 (w)).set 7 (.bHP)).set 8 (.bool (b&&(bJU p.bHO.length).all (YL f.bHO.length p.bHO)))).set 17 (.int .i64 i))) H):aB.wp C (.loop wV) K F H:=by
 obtain⟨ok,hok⟩:∃ ok,YL f.bHO.length p.bHO=ok:=⟨_,rfl⟩
 rw[hok] at hK
 refine wp_loop (α:=Nat) (fun j=>zpF f w o i (b&&(bJU j).all ok) j) (fun _=>H) (fun j=>j≤p.bHO.length) (fun j=>p.bHO.length-j) 0 (bKA _) (by
   have e:(b&&(bJU 0).all ok)=b:=by cases b<;>rfl
   simp only[e]
   exact hF) PH.le_refl ?_
 intro j hj
 have bHW:=qE (p:=ok) j b
 have hacc:=fun h=>qD (p:=ok) (b:=b) hj h
 have fin:∀ (c:Bool) (F':PF),j<p.bHO.length→(b&&(bJU (j+1)).all ok)=c→(zpF f w o i c (j+1)).le F'→dU (fun j:Nat=>zpF f w o i (b&&(bJU j).all ok) j) (fun _=>H) (fun j=>j≤p.bHO.length) (fun j=>p.bHO.length-j) (p.bHO.length-j) K .normal F' H :=
  fun c F' hlt e h=>aC (j+1) hlt Om (by rw[e]; exact h) PH.le_refl
 unfold zpF at fin
 have stop:(b&&(bJU j).all ok)=(b&&(bJU p.bHO.length).all ok)→K (.exit 10) ((((((PF.nil.set 1 (.bHX f.cells)).set 6 (w)).set 7 (.bHP)).set 8 (.bool (b&&(bJU j).all ok))).set 17 (.int .i64 i))) H:=fun e=>by
  rw[e]; exact hK
 generalize hc:(b&&(bJU j).all ok)=c at *
 simp only[go_sem,δ,γ,θ,wV,ajT,zpF,ho,bJT]
 by_cases hlt:j<p.bHO.length
 ·have bHV:(j:Int)<(p.bHO.length:Nat):=by omega
  cases c with
  | false =>
   simp only[go_sem,γ,bHV]
   exact Up.up Lq (stop (hacc rfl).symm)
  | true =>
   have e1:=aiN (Om:f.bHO.length≤1000)
   have hg:p.bHO.getD j 0=p.bHO[j]:=by simp[bKK,hlt]
   have hoj:ok j=(within p.bHO[j] 0 ((f.bHO.length:Int)-1)&&(p.bHO.take j).all fun x=>x != p.bHO[j]):=by
    rw[← hok]
    unfold YL
    rw[hg]
   rw[hoj] at bHW
   simp only[go_sem,γ,bHV]
   refine bL .nil a5O PH.nil_le ?_
   simp only[go_sem,δ,γ,θ,reduceCtorEq,ajU,ho,WV hlt,bJT,e1]
   refine bC rfl (L.inn p.bHO[j] 0 ((f.bHO.length:Int)-1)) Sq PH.nil_le ?_
   simp only[go_sem,γ,ajV]
   refine bqG f w o i p hl j hlt (within p.bHO[j] 0 ((f.bHO.length:Int)-1)) _ _ _ ho (by (repeat' (first|exact PF.nil_le|refine PF.aG ?_ ?_))<;>first|(simp only[go_sem,γ,zpF]<;>rfl)|rfl) ?_
   simp only[go_sem,γ,zpF,ajX,ws j]
   exact fin _ _ hlt (bHW.trans rfl) Lq
 ·have bHV:¬ (j:Int)<(p.bHO.length:Nat):=by omega
  have:j=p.bHO.length:=by omega
  subst this
  simp only[go_sem,γ,reduceCtorEq,bHV]
  exact Up.up Lq (stop hc.symm)
def aJN (bHO:Nat) (p:cJ):Bool:=HQ p.k p.m p.bIT p.s0 p.s1 p.s2 p.s3 p.s4&&(MD p.m p.repair p.target p.bIB&&(decide (p.bHO.length>0)&&(bJU p.bHO.length).all (YL bHO p.bHO)))
theorem buD (bHO:Nat) (p:cJ):jD bHO p=aJN bHO p:=by
 unfold jD aJN
 rw[btZ,bwP]
 have h1:decide (p.bHO.length≠0)=decide (p.bHO.length>0):=decide_eq_decide.2 Om
 have h2:(bJU p.bHO.length).all (fun j=>within (p.bHO.getD j 0) 0 ((bHO:Int)-1)&&!(p.bHO.take j).contains (p.bHO.getD j 0))=(bJU p.bHO.length).all (YL bHO p.bHO):=by
  congr 1
  funext j
  unfold YL
  congr 1
  generalize p.bHO.getD j 0=x
  induction p.bHO.take j with
  | nil=>rfl
  | cons a t ih =>
   rw[List.contains_cons,List.all_cons,← ih,Bool.not_or,bne,BEq.comm]
 rw[h1,h2]
 cases HQ p.k p.m p.bIT p.s0 p.s1 p.s2 p.s3 p.s4<;>cases MD p.m p.repair p.target p.bIB<;>cases decide (p.bHO.length>0)<;>simp
structure akF (C:Ctx):Prop extends qT C where
 dur:∀ (m:Int) (rep:List RF),jP rep→∀ t h:RF,t.Ok→h.Ok→aI C 69 [.int .i64 m,frs rep,.agg t.cells,.agg h.cells] .nil (aD (.bool (MD m rep t h)))
def kK (f:aE):List (List UInt8):=f.bHS.map cJ.name
def HV (f:aE) (i:Nat):Bool:=match f.bHS[i]? with
 | some p=>aJN f.bHO.length p
 | none=>false
def aeG (f:aE):Bool:=(bJU f.bHS.length).all (okL [] (kK f) (HV f))
theorem bvZ {C:Ctx} (L:akF C) (f:aE) (hf:f.Ok) (hz5:f.bHS.length≤4) (hz2:f.bHO.length≤4) (b:Bool) (K:cA) [Up K] (F:PF) (H:PH)
  (hF:((((((PF.nil.set 1 (.bHX f.cells)).set 6 (.bHP)).set 7 (.bHP)).set 8 (.bool b)).set 17 (.int .i64 0)):PF).le F)
  (hK:∀ H',K (.exit 8) ((((PF.nil.set 1 (.bHX f.cells)).set 7 (.bHP)).set 8 (.bool (b&&aeG f)))) H'):aB.wp C (.loop wW) K F H:=by
 obtain⟨ok,hok⟩:∃ ok,okL [] (kK f) (HV f)=ok:=⟨_,rfl⟩
 unfold aeG at hK
 rw[hok] at hK
 have hnl:(kK f).length=f.bHS.length:=by simp[kK]
 refine wp_loop (α:=Nat × PV × PH) (fun s=>(((((PF.nil.set 1 (.bHX f.cells)).set 6 (s.2.1)).set 7 (.bHP)).set 8 (.bool (b&&(bJU s.1).all ok))).set 17 (.int .i64 s.1))) (fun s=>s.2.2) (fun s=>s.1≤f.bHS.length∧gT s.2.2 s.2.1 [] (kK f) (b&&(bJU s.1).all ok) s.1) (fun s=>f.bHS.length-s.1)
  (0,.bHP,H) ⟨bKA _,⟨[],aT.nil.qM 1,fun _=>rfl⟩⟩ (by
   have e:(b&&(bJU 0).all ok)=b:=by cases b<;>rfl
   simp only[e]
   exact hF) PH.le_refl ?_
 rintro⟨i,w,H0⟩ ⟨hi,hG⟩
 simp only at hi hG ⊢
 have fin:∀ (c:Bool) (w':PV) (F':PF) (H':PH),i<f.bHS.length→(b&&(bJU (i+1)).all ok)=c→gT H' w' [] (kK f) true (i+1) →
   ((((((PF.nil.set 1 (.bHX f.cells)).set 6 (w')).set 7 (.bHP)).set 8 (.bool c)).set 17 (.int .i64 (i+1:Nat))):PF).le F' →
   dU (fun s:Nat × PV × PH=>(((((PF.nil.set 1 (.bHX f.cells)).set 6 (s.2.1)).set 7 (.bHP)).set 8 (.bool (b&&(bJU s.1).all ok))).set 17 (.int .i64 s.1))) (fun s=>s.2.2) (fun s=>s.1≤f.bHS.length∧gT s.2.2 s.2.1 [] (kK f) (b&&(bJU s.1).all ok) s.1) (fun s=>f.bHS.length-s.1) (f.bHS.length-i) K .normal F' H' :=
  fun c w' F' H' hlt hb hG' hF'=>aC (i+1,w',H') ⟨hlt,hG'.amZ⟩ (by simp only; omega) (by simp only; rw[hb]; exact hF') PH.le_refl
 have bHW:=qE (p:=ok) i b
 have hacc:=fun h=>qD (p:=ok) (b:=b) hi h
 have stop:(b&&(bJU i).all ok)=(b&&(bJU f.bHS.length).all ok)→K (.exit 8) ((((PF.nil.set 1 (.bHX f.cells)).set 7 (.bHP)).set 8 (.bool (b&&(bJU i).all ok)))) H0:=fun e=>by
  rw[e]; exact hK H0
 generalize hc:(b&&(bJU i).all ok)=c at *
 simp only[go_sem,δ,γ,θ,wW,ajQ,bJT]
 by_cases hlt:i<f.bHS.length
 ·have bHV:(i:Int)<(f.bHS.length:Nat):=by omega
  cases c with
  | false =>
   simp only[go_sem,γ,bHV]
   exact Up.up Lq (stop (hacc rfl).symm)
  | true =>
   obtain⟨names,g1,g3⟩:=hG.ex
   have hat:=pX hlt
   have hin:i<(kK f).length:=by omega
   have hnm:(kK f)[i]=(f.bHS[i]).name:=by simp[kK]
   have hoki:ok i=(jB ([]++(kK f).take i) ((kK f).getD i [])&&aJN f.bHO.length f.bHS[i]):=by
    rw[← hok]
    unfold okL HV
    rw[bKG hlt]
   have hpo:=hf.bID _ (bJZ hlt)
   rw[hoki] at bHW
   unfold aJN at bHW
   have winc:IntKind.i64.wrap ((i:Int)+1)=((i+1:Nat):Int):=cW Om
   simp only[go_sem,δ,γ,θ,bHV,ajR,hat]
   refine aO fun o ho=>?_
   have g4:=g1.new ho (.rows 17 [(f.bHS[i]).cells])
   have g5:=g4.at 0 rfl
   simp only[go_sem,δ,γ]
   generalize H0.set o (.rows 17 [(f.bHS[i]).cells])=H2 at *
   simp only[go_sem,δ,γ,θ,ajS,g5]
   refine gT.call L.tooW (ns:=kK f) g4 (bKA _) Om (g3 rfl) hin (by simp only[go_sem,γ,hnm]) fun w' H1 h1 hG1=>?_
   have g6:=h1.at 0 rfl
   generalize jB ([]++(kK f).take i) ((kK f).getD i [])=fb at *
   generalize hd:f.bHS[i]=p at *
   have rest:∀ (c:Bool) (F':PF),(zpF f w' o i c 0).le F'→(c&&(bJU p.bHO.length).all (YL f.bHO.length p.bHO))=(b&&(bJU (i+1)).all ok) →
     aB.wp C (.loop wV) (dN 10 (dN 9 (iV C (aB.wp C (.region KR)) (dU (fun s:Nat × PV × PH=>(((((PF.nil.set 1 (.bHX f.cells)).set 6 (s.2.1)).set 7 (.bHP)).set 8 (.bool (b&&(bJU s.1).all ok))).set 17 (.int .i64 s.1))) (fun s=>s.2.2) (fun s=>s.1≤f.bHS.length∧gT s.2.2 s.2.1 [] (kK f) (b&&(bJU s.1).all ok) s.1) (fun s=>f.bHS.length-s.1) (f.bHS.length-i) K)))) F' H1:=by
    intro c F' hF' hcc
    refine bjB L.toqT f hz2 w' o i p hpo.bHO c _ _ _ g6 hF' ?_
    rw[hcc]
    simp only[go_sem,γ,KR,winc]
    exact fin _ w' _ _ hlt rfl hG1 Lq
   cases fb with
   | false =>
    simp only[go_sem,γ,reduceCtorEq,KO,sU]
    exact rest false _ (by (repeat' (first|exact PF.nil_le|refine PF.aG ?_ ?_))<;>first|(simp only[go_sem,γ,zpF]<;>rfl)|rfl) (by rw[bHW]; rfl)
   | true =>
    simp only[go_sem,δ,γ,θ,KO,g6]
    refine aA (L.nums p.k p.m p.bIT p.s0 p.s1 p.s2 p.s3 p.s4) Sq ?_
    cases k0:HQ p.k p.m p.bIT p.s0 p.s1 p.s2 p.s3 p.s4 with
    | false =>
     simp only[go_sem,γ,reduceCtorEq,sU]
     exact rest false _ (by (repeat' (first|exact PF.nil_le|refine PF.aG ?_ ?_))<;>first|(simp only[go_sem,γ,zpF]<;>rfl)|rfl) (by rw[bHW,k0]; rfl)
    | true =>
     simp only[go_sem,δ,γ,θ,g6]
     refine aA (L.dur p.m p.repair hpo.repair p.target p.bIB hpo.target hpo.bIB) Sq ?_
     cases k1:MD p.m p.repair p.target p.bIB with
     | false =>
      simp only[go_sem,γ,reduceCtorEq,sU]
      exact rest false _ (by (repeat' (first|exact PF.nil_le|refine PF.aG ?_ ?_))<;>first|(simp only[go_sem,γ,zpF]<;>rfl)|rfl) (by rw[bHW,k0,k1]; rfl)
     | true =>
      have hgt:decide (((p.bHO.length:Nat):Int)>0)=decide (p.bHO.length>0):=decide_eq_decide.2 Om
      simp only[go_sem,δ,γ,θ,g6,bJT,hgt,sU]
      exact rest _ _ (by (repeat' (first|exact PF.nil_le|refine PF.aG ?_ ?_))<;>first|(simp only[go_sem,γ,zpF]<;>rfl)|rfl) (by rw[bHW,k0,k1]; rfl)
 ·have bHV:¬ (i:Int)<(f.bHS.length:Nat):=by omega
  have:i=f.bHS.length:=by omega
  subst this
  simp only[go_sem,γ,reduceCtorEq,bHV]
  exact Up.up Lq (stop hc.symm)
def pL (r:cH):Bool:=(r.name==[])&&((r.level==0)&&((r.parent==-1)&&((r.bIP==0)&&(cN (val r.bIH.num) (val r.bIH.den)&&(qC r.bIH==0)))))
def a8X (f:aE):Bool:=match f.bHR with
 | []=>false
 | r::_=>pL r
def bnQ (f:aE):Bool:=within f.bJD 1 4&&(oU f.bHY.length f.bHO.length f.bHR.length f.bHN.length f.bHS.length f.bHQ.length&&(decide (0<f.bHR.length)&&((((((GF f&&xH f)&&a8X f)&&vQ f)&&xA f)&&aeG f)&&azS f)))
theorem aTQ (n:Nat) (p q:Nat→Bool):(bJU n).all (fun i=>p i&&q i)=((bJU n).all p&&(bJU n).all q):=by
 induction n with
 | zero=>rfl
 | succ n ih =>
  simp only[List.range_succ,List.all_append,ih,List.all_cons,List.all_nil,bMF]
  cases (bJU n).all p<;>cases (bJU n).all q<;>cases p n<;>simp
theorem xO {α:Type} (l:List α) (p:α→Bool):(bJU l.length).all (fun i=>(l.map p).getD i false)=l.all p:=by
 refine Bool.eq_iff_iff.2 ?_
 rw[bKP,bKP]
 constructor
 ·intro h x hx
  obtain⟨i,hi,rfl⟩:=bLJ hx
  have:=h i (bLN.2 hi)
  simpa [bKK,hi] using this
 ·intro h i hi
  have hi:=bLN.1 hi
  simp[bKK,hi,h _ (bJZ hi)]
theorem EG (ns:List (List UInt8)) (n:Nat) (hn:ns.length=n) (P:Nat→Bool):(bJU n).all (okL [] ns P)=(distinct ns&&(bJU n).all P):=by
 subst hn
 have:okL [] ns P=fun i=>(isName (ns.getD i [])&&!(ns.take i).contains (ns.getD i []))&&P i:=by
  funext i
  rfl
 rw[this,aTQ]
 rfl
theorem buA (base ns:List (List UInt8)) (P Q:Nat→Bool):((bJU base.length).all (okL [] base P)&&(bJU ns.length).all (okL base ns Q))=(distinct (base++ns)&&((bJU base.length).all P&&(bJU ns.length).all Q)):=by
 have e1:okL base ns Q=fun i=>(isName (ns.getD i [])&&!(base++ns.take i).contains (ns.getD i []))&&Q i:=by
  funext i
  rfl
 have e2:distinct (base++ns)=(distinct base&&(bJU ns.length).all fun i=>isName (ns.getD i [])&&!(base++ns.take i).contains (ns.getD i [])):=by
  unfold distinct
  rw[bJX,List.range_add,List.all_append,List.all_map]
  congr 1
  ·refine Bool.eq_iff_iff.2 ?_
   rw[bKP,bKP]
   refine forall_congr' fun i=>forall_congr' fun hi=>?_
   have hi:=bLN.1 hi
   have a1:(base++ns).getD i []=base.getD i []:=by
    simp only[bKK]
    rw[bMK hi]
   have a2:(base++ns).take i=base.take i:=by rw[List.take_append_of_le_length Om]
   rw[a1,a2]
  ·refine Bool.eq_iff_iff.2 ?_
   rw[bKP,bKP]
   refine forall_congr' fun i=>forall_congr' fun _=>?_
   have a1:(base++ns).getD (base.length+i) []=ns.getD i []:=by
    simp only[bKK]
    rw[bMS Om]
    congr 2
    omega
   have a2:(base++ns).take (base.length+i)=base++ns.take i:=by rw[List.take_append,bKL Om]; congr 2; omega
   simp only[Function.comp,a1,a2]
 rw[EG base base.length rfl P,e1,aTQ,e2]
 cases distinct base<;>cases (bJU base.length).all P<;>simp
theorem bnS (r:cH):(decide (r.name=[])&&decide (r.level=0)&&decide (r.parent=-1)&&decide (r.bIP=0)&&cL r.bIH&&!bJ r.bIH)=pL r:=by
 have h1:decide (r.name=[])=(r.name==[]):=by cases r.name<;>rfl
 have h2:decide (r.level=0)=(r.level==0):=by generalize r.level=x; by_cases h:x=0<;>simp[h]
 have h3:decide (r.parent=-1)=(r.parent==-1):=by generalize r.parent=x; by_cases h:x=-1<;>simp[h]
 have h4:decide (r.bIP=0)=(r.bIP==0):=by generalize r.bIP=x; by_cases h:x=0<;>simp[h]
 have h5:(cL r.bIH&&!bJ r.bIH)=(cN (val r.bIH.num) (val r.bIH.den)&&(qC r.bIH==0)):=by
  rw[IG]
  by_cases h:val r.bIH.num=0
  ·have ha:bJ r.bIH=false:=by unfold bJ; simp[h]
   rw[ha]
   simp only[bKF,bMF]
   cases hv:cN (val r.bIH.num) (val r.bIH.den) with
   | false =>
    unfold cL nT
    rw[hv]
    rfl
   | true =>
    obtain⟨v1,-,-⟩:=fL.1 hv
    unfold cL nT
    rw[hv,if_pos rfl,WZ hv,h]
    unfold mA
    have hb:val r.bIH.den/bJV 0 (val r.bIH.den)=1:=by rw[Nat.gcd_zero_left,Nat.div_self (bMB v1)]
    have b0:cF (0/bJV 0 (val r.bIH.den))=0:=by rw[Nat.zero_div]; exact jI
    have b1:cF 1=1:=by rw[oJ (by decide),jI]
    simp only[hb,b0,b1]
    simp
  ·have ha:bJ r.bIH=true:=by unfold bJ; simp[h]
   rw[ha]
   simp
 unfold pL
 rw[h1,h2,h3,h4]
 simp only[bMP] at h5 ⊢
 rw[h5]
theorem bjY (f:aE) {r:cH} {t:List cH} (h:f.bHR=r::t):zE f r t=(pL r&&(bJU t.length).all (vP f)):=by
 unfold zE
 rw[bnS]
 congr 2
 funext i
 unfold vP
 rw[h,List.getElem?_cons_succ]
 cases t[i]? with
 | none=>rfl
 | some d=>exact brE f i d
theorem bbP (f:aE):f.bHN.all (hJ f)=(bJU f.bHN.length).all (tT f):=by
 have:tT f=fun i=>(f.bHN.map (hJ f)).getD i false:=by
  funext i
  unfold tT
  rw[bKK,bLC]
  cases f.bHN[i]? with
  | none=>rfl
  | some d =>
   show aBE f d=hJ f d
   unfold aBE hJ
   have:decide ((f.bHR.map cH.level).getD d.machine.toNat 0=4)=((f.bHR.map cH.level).getD d.machine.toNat 0==4):=by
    generalize (f.bHR.map cH.level).getD d.machine.toNat 0=u
    by_cases h:u=4<;>simp[h]
   rw[this,bMP]
 rw[this,xO]
theorem bfH (f:aE):f.bHS.all (jD f.bHO.length)=(bJU f.bHS.length).all (HV f):=by
 have:HV f=fun i=>(f.bHS.map (jD f.bHO.length)).getD i false:=by
  funext i
  unfold HV
  rw[bKK,bLC]
  cases f.bHS[i]? with
  | none=>rfl
  | some d=>exact (buD _ d).symm
 rw[this,xO]
theorem buI (f:aE):bnQ f=cV f:=by
 have hm:alK f.bHY.length=jV f:=by
  funext m
  unfold alK jV
  rw[bMP]
 have hvv:aPG f.bHS.length=nF f:=rfl
 have hs:(within f.bJD 1 4&&oU f.bHY.length f.bHO.length f.bHR.length f.bHN.length f.bHS.length f.bHQ.length)=mS f:=by
  unfold mS oU
  simp only[bMP]
 unfold bnQ cV GF xH aeG azS
 rw[EG _ _ (by rw[bJT]),EG _ _ (by rw[bJT]),EG _ _ (by rw[kK,bJT]),EG _ _ (by rw[bJT]),xO,xO,xO,hm,hvv,bfH,bbP,← bMP,hs]
 unfold nB a8X
 cases hd:f.bHR with
 | nil=>simp
 | cons r t =>
  have hlen:decide (0<f.bHR.length)=true:=by rw[hd]; simp
  rw[hd] at hlen
  rw[hlen,bKJ]
  simp only
  rw[bjY f hd]
  have hn:gP f=(f.bHR.drop 1).map cH.name:=rfl
  rw[hd] at hn
  have hl:(gP f).length=t.length:=by rw[hn]; simp
  have two:=buA (gP f) (lI f) (vP f) (tT f)
  rw[hl,show (lI f).length=f.bHN.length by simp[lI]] at two
  have e1:vQ f=(bJU t.length).all (okL [] (gP f) (vP f)):=by
   unfold vQ
   rw[hd]
   rfl
  have e2:xA f=(bJU f.bHN.length).all (okL (gP f) (lI f) (tT f)):=rfl
  rw[e1,e2,← hn]
  rw[show f.bHN.map cY.name=lI f from rfl,show f.bHS.map cJ.name=kK f from rfl]
  generalize (bJU t.length).all (okL [] (gP f) (vP f))=a at *
  generalize (bJU f.bHN.length).all (okL (gP f) (lI f) (tT f))=b at *
  generalize distinct (gP f++lI f)=c at *
  generalize (bJU t.length).all (vP f)=d at *
  generalize (bJU f.bHN.length).all (tT f)=e at *
  generalize mS f=s
  generalize pL r=ro
  generalize distinct (f.bHY.map bX.name)=n1
  generalize f.bHY.all jU=n2
  generalize distinct (f.bHO.map cK.name)=n3
  generalize f.bHO.all (jV f)=n4
  generalize distinct (kK f)=n5
  generalize (bJU f.bHS.length).all (HV f)=n6
  generalize distinct (f.bHQ.map eM.name)=n7
  generalize f.bHQ.all (nF f)=n8
  have:(s&&(((((((n1&&n2)&&(n3&&n4))&&ro)&&a)&&b)&&(n5&&n6))&&(n7&&n8)))=(s&&(ro&&((n1&&n2)&&((n3&&n4)&&((a&&b)&&((n5&&n6)&&(n7&&n8))))))):=by
   cases s<;>cases ro<;>cases n1<;>cases n2<;>cases n3<;>cases n4<;>simp[bMP]
  rw[this,two]
  cases s<;>cases ro<;>cases n1<;>cases n2<;>cases n3<;>cases n4<;>cases c<;>cases d<;>cases e<;>simp
  cases n5<;>cases n6<;>cases n7<;>cases n8<;>rfl
theorem bnR (f:aE) (h:0<f.bHR.length):a8X f=pL f.bHR[0]:=by
 obtain⟨a,b,c,d,e,g,i⟩:=f
 cases d with
 | nil=>simp at h
 | cons r t=>rfl
theorem bjI {C:Ctx} (L:akF C) (f:aE) (hf:f.Ok):DQ.wp C (aR ajE.res (aD (.bool (cV f)))) (PF.args [.agg f.cells]) .nil:=by
 have hX:=buI f
 unfold bnQ at hX
 have fail:∀ (F:PF) (H:PH),cV f=false→F 2=some (.bool false)→aR [.tmp 2] (aD (.bool (cV f))) .ret F H:=fun F H e h=>by
  rw[e]
  exact aV (vs:=[.bool false]) (.inr rfl) .nil (by simp only[go_sem,h]) PH.nil_le ⟨rfl,rfl⟩
 simp only[go_sem,δ,γ,θ,DQ,axN,axO,ajE]
 refine aA (L.inn f.bJD 1 4) rfl ?_
 cases k0:within f.bJD 1 4 with
 | false =>
  rw[k0,bKC] at hX
  simp only[go_sem,γ,bKF,AQ]
  exact fail _ _ hX.symm rfl
 | true =>
 rw[k0,bKJ] at hX
 simp only[go_sem,δ,γ,θ,bJW,bJT]
 refine aA (L.sizes f.bHY.length f.bHO.length f.bHR.length f.bHN.length f.bHS.length f.bHQ.length) rfl ?_
 cases k1:oU f.bHY.length f.bHO.length f.bHR.length f.bHN.length f.bHS.length f.bHQ.length with
 | false =>
  rw[k1,bKC] at hX
  simp only[go_sem,γ,reduceCtorEq,bKF,AQ]
  exact fail _ _ hX.symm rfl
 | true =>
 rw[k1,bKJ] at hX
 obtain⟨hz1,hz2,hz3,hz4,hz5,hz6⟩:=OT k1
 by_cases h0:f.bHR.length=0
 ·rw[decide_eq_false Om,bKC] at hX
  simp only[go_sem,δ,γ,θ,reduceCtorEq,bJW,bJT,bP (Om:((f.bHR.length:Nat):Int)=0),AQ]
  exact fail _ _ hX.symm rfl
 have h00:0<f.bHR.length:=by omega
 rw[decide_eq_true h00,bKJ] at hX
 simp only[go_sem,δ,γ,θ,reduceCtorEq,bJW,bJT,bF (Om:((f.bHR.length:Nat):Int)≠0),axP,axQ,axR]
 refine bvY L.toqT f hf hz1 _ _ _ Lq fun H1=>?_
 simp only[go_sem,ajF]
 refine bjH L.toqT f hf k1 (GF f) _ _ _ Lq fun H2=>?_
 have hd0:=eQ h00
 have hsh:=(hf.dom _ (bJZ h00)).1
 have hrp:=bnR f h00
 rw[hrp] at hX
 generalize f.bHR[0]=r at *
 have rest:∀ (c:Bool) (F:PF) (H:PH),((((((PF.nil.set 1 (.bHX f.cells)).set 5 (.bHP)).set 6 (.bHP)).set 7 (.bHP)).set 8 (.bool c)):PF).le F→c=((GF f&&xH f)&&pL r) →
   aB.wp C (.seq (.seq (.region KJ) (.block 4 (.loop wT))) (.seq (.seq (.region KL) (.block 6 (.loop wU))) (.seq (.seq (.region KN) (.block 8 (.loop wW))) (.seq (.seq (.region KT) (.block 14 (.loop wX))) (.seq (.region KW) .ret))))) (aR [.tmp 2] (aD (.bool (cV f)))) F H:=by
  intro c F H hF hc
  refine sR _ (fun _ _ _ _ a b=>Up.up a b) hF ?_
  simp only[go_sem,KJ]
  refine bvX L.toqT f hf hz3 h00 c _ _ _ Lq fun w H3 hG=>?_
  simp only[go_sem,KL]
  refine bjG L.toqT f hf hz3 h00 hz4 hz2 (c&&vQ f) w _ _ _ hG Lq fun H4=>?_
  simp only[go_sem,KN]
  refine bvZ L f hf hz5 hz2 ((c&&vQ f)&&xA f) _ _ _ Lq fun H5=>?_
  simp only[go_sem,KT]
  refine bwA L.toqT f hf k1 (((c&&vQ f)&&xA f)&&aeG f) _ _ _ Lq fun H6=>?_
  simp only[go_sem,γ,KW]
  refine aV (vs:=[.bool (cV f)]) (.inr rfl) .nil ?_ PH.nil_le ⟨rfl,rfl⟩
  rw[← hX,hc]
  simp only[go_sem,γ]
 simp only[aB.wp,go_sem] at rest
 simp only[go_sem,ν,δ,γ,θ,ajJ,hd0]
 refine aO fun o ho=>?_
 have g0:(H2.set o (.rows 7 [r.cells])) o=some (.rows 7 [r.cells]):=jJ ..
 simp only[go_sem,δ,γ]
 generalize H2.set o (.rows 7 [r.cells])=H3 at *
 cases k2:(GF f&&xH f) with
 | false =>
  simp only[go_sem,ο,γ,reduceCtorEq,KI]
  exact rest false _ _ Lq (by rw[k2]; rfl)
 | true =>
  simp only[go_sem,ο,δ,γ,θ,KI,g0]
  cases k3:r.name==[] with
  | false =>
   simp only[go_sem,ο,γ,reduceCtorEq]
   exact rest false _ _ Lq (by rw[k2]; unfold pL; rw[k3]; rfl)
  | true =>
   simp only[go_sem,ο,δ,γ,θ,g0]
   cases k4:r.level==0 with
   | false =>
    simp only[go_sem,ο,γ,reduceCtorEq]
    exact rest false _ _ Lq (by rw[k2]; unfold pL; rw[k3,k4]; rfl)
   | true =>
    simp only[go_sem,ο,δ,γ,θ,g0]
    cases k5:r.parent==-1 with
    | false =>
     simp only[go_sem,γ,reduceCtorEq]
     exact rest false _ _ Lq (by rw[k2]; unfold pL; rw[k3,k4,k5]; rfl)
    | true =>
     simp only[go_sem,δ,γ,θ,g0]
     cases k6:r.bIP==0 with
     | false =>
      simp only[go_sem,γ,reduceCtorEq]
      exact rest false _ _ Lq (by rw[k2]; unfold pL; rw[k3,k4,k5,k6]; rfl)
     | true =>
      simp only[go_sem,δ,γ,g0]
      refine aA (L.valid _ hsh) rfl ?_
      cases k7:cN (val r.bIH.num) (val r.bIH.den) with
      | false =>
       simp only[go_sem,γ,reduceCtorEq]
       exact rest false _ _ Lq (by rw[k2]; unfold pL; rw[k3,k4,k5,k6,k7]; rfl)
      | true =>
       simp only[go_sem,δ,γ,g0]
       refine aA (L.sign _ hsh k7) rfl ?_
       simp only[go_sem,γ]
       exact rest _ _ _ Lq (by rw[k2]; unfold pL; rw[k3,k4,k5,k6,k7]; rfl)
def aKN:Rg:=[iA 2 (.box true (Tm 0)),iZ 4]
def aKO:Rg:=[iO 8 7 2,iK 9 67 8,iA 10 (.un .not (Tm 9))]
def aKP:Rg:=[iZ 4]
def aKQ:Rg:=[iZ 5]
def aKR:Rg:=[iI 6 0]
def aKS:Rg:=[iM 11 6,iF 12 4 2,iL 13 12,iN 14 13,iB 15 .lss 11 14]
def aKT:Rd:=[(iF 18 2 2,false),(iL 19 18,false),(iF 20 4 2,false),(iL 21 20,false),(iM 22 6,false),(iX 23 3 21 22,false),(iF 24 1 23,false),(iL 25 24,false),(iX 26 4 19 25,false),(iF 27 1 26,false),(iL 28 27,false),(iM 7 28,false)]
def YS:Rg:=[iM 29 1,iN 30 29,iF 31 4 2,iL 32 31,iN 33 32,iB 34 .eql 30 33]
def aKU:Rg:=[iM 35 1,iM 36 6,iX 37 1 35 36,iL 38 37,iM 39 7,iA 40 (.bIQ false (Tm 38) (Tm 39)),iA 41 (.bIQ true (Ci 0) (Tm 40)),iM 7 41]
def YT:Rg:=[iM 42 5,iM 43 7,iA 44 (.bHU true 1 1 [(.int .i64 0)] [(0,(Tm 43))]),iA 45 (.append 1 8 (Tm 42) (Tm 44)),iM 5 45]
def OW:Rg:=[iM 16 6,iC 17 .add 16 1,iM 6 17]
def asG:aB:=(.seq (sq aKS (.cond (Tm 15) .skip (.exit 0))) (.seq (.block 1 (dq aKT (.seq (sq YS (.cond (Tm 34) (.region aKU) .skip)) (.region YT)))) (.region OW)))
def OX:Rg:=[iM 46 5,iM 4 46]
def II:aB:=(sq aKN (.seq (sq aKO (.cond (Tm 10) (sq aKP .ret) .skip)) (sq aKQ (.seq (sq aKR (.block 0 (.loop asG))) (sq OX .ret)))))
def boG:List Nat:=[2,44]
def azB:aS:=⟨2,47,II,[.tmp 4]⟩
def arA:Rg:=[iA 3 (.box true (Tm 0)),iI 6 0]
def arB:Rg:=[iF 8 4 3,iL 9 8,iM 10 1,iX 11 3 9 10,iF 12 2 11,iL 13 12,iM 7 13]
def arC:Rg:=[iF 14 3 3,iL 15 14,iM 16 7,iX 17 7 15 16,iF 18 1 17,iL 19 18,iM 20 2,iB 21 .gtr 19 20]
def arD:Rg:=[iF 22 3 3,iL 23 22,iM 24 7,iX 25 7 23 24,iF 26 2 25,iL 27 26,iM 7 27]
def aqZ:aB:=(.seq (sq arC (.cond (Tm 21) .skip (.exit 0))) (.block 1 (.region arD)))
def arE:Rg:=[iM 28 7,iM 6 28]
def BZ:aB:=(sq arA (sq arB (.seq (.block 0 (.loop aqZ)) (sq arE .ret))))
def bfX:List Nat:=[3]
def aeL:aS:=⟨3,29,BZ,[.tmp 6]⟩
def bfY:Rg:=[iA 3 (.box true (Tm 0)),iI 6 0]
def bfZ:Rg:=[iO 7 7 3,iK 8 67 7,iA 9 (.un .not (Tm 8)),iM 10 9,gM 11 1 10 false,gC 12 .lss 11 0 10 false,iQ 13 10 12,iM 14 13,gM 15 1 14 false,gF 16 4 3 14 false,gL 17 16 14 false,gN 18 17 14 false,gB 19 .geq 15 18 14 false,iQ 20 14 19,iM 21 20,gM 22 2 21 false,gC 23 .lss 22 0 21 false,iQ 24 21 23,iM 25 24,gM 26 2 25 false,gC 27 .gtr 26 4 25 false,iQ 28 25 27]
def EK:Rg:=[iI 6 (-1)]
def bgA:Rg:=[iO 29 7 3,iM 30 1,iM 31 2,iA 32 (.call 88 [(Tm 29),(Tm 30),(Tm 31)]),iM 6 32]
def YQ:aB:=(sq bfY (.seq (sq bfZ (.cond (Tm 28) (sq EK .ret) .skip)) (sq bgA .ret)))
def bxU:List Nat:=[3]
def sat:aS:=⟨3,33,YQ,[.tmp 6]⟩
def aeQ:Rg:=[iA 2 (.box true (Tm 0)),iZ 4]
def aeR:Rg:=[iZ 5]
def aeS:Rg:=[iO 7 7 2,iK 8 67 7,iA 9 (.un .not (Tm 8)),iM 10 9,gM 11 1 10 false,gC 12 .lss 11 0 10 false,iQ 13 10 12,iM 14 13,gM 15 1 14 false,gF 16 3 2 14 false,gL 17 16 14 false,gN 18 17 14 false,gB 19 .geq 15 18 14 false,iQ 20 14 19]
def wH:Rg:=[iZ 4]
def aeT:Rg:=[iI 6 0]
def aeU:Rg:=[iM 21 6,iF 22 4 2,iL 23 22,iN 24 23,iB 25 .lss 21 24]
def aeV:Rd:=[(iO 28 7 2,false),(iM 29 6,false),(iF 30 3 2,false),(iL 31 30,false),(iM 32 1,false),(iX 33 7 31 32,false),(iF 34 1 33,false),(iL 35 34,false),(iA 36 (.call 88 [(Tm 28),(Tm 29),(Tm 35)]),true),(iM 37 1,true),(iB 38 .eql 36 37,false)]
def aeW:Rg:=[iM 39 5,iM 40 6,iA 41 (.bHU true 1 1 [(.int .i64 0)] [(0,(Tm 40))]),iA 42 (.append 1 8 (Tm 39) (Tm 41)),iM 5 42]
def IC:Rg:=[iM 26 6,iC 27 .add 26 1,iM 6 27]
def aeP:aB:=(.seq (sq aeU (.cond (Tm 25) .skip (.exit 0))) (.seq (.block 1 (dq aeV (.cond (Tm 38) (.region aeW) .skip))) (.region IC)))
def UL:Rg:=[iM 43 5,iM 4 43]
def yL:aB:=(sq aeQ (sq aeR (.seq (sq aeS (.cond (Tm 20) (sq wH .ret) .skip)) (.seq (sq aeT (.block 0 (.loop aeP))) (sq UL .ret)))))
def a9E:List Nat:=[2,41]
def SA:aS:=⟨2,44,yL,[.tmp 4]⟩
def arG:Rg:=[iA 2 (.box true (Tm 0)),iZ 4]
def arH:Rg:=[iZ 5]
def arI:Rg:=[iO 7 7 2,iK 8 67 7,iA 9 (.un .not (Tm 8)),iM 10 9,gM 11 1 10 false,gC 12 .lss 11 0 10 false,iQ 13 10 12]
def ON:Rg:=[iZ 4]
def arJ:Rg:=[iI 6 1]
def arK:Rg:=[iM 14 6,iF 15 3 2,iL 16 15,iN 17 16,iB 18 .lss 14 17]
def OO:Rg:=[iF 21 3 2,iL 22 21,iM 23 6,iX 24 7 22 23,iF 25 2 24,iL 26 25,iM 27 1,iB 28 .eql 26 27]
def arL:Rg:=[iM 29 5,iM 30 6,iA 31 (.bHU true 1 1 [(.int .i64 0)] [(0,(Tm 30))]),iA 32 (.append 1 8 (Tm 29) (Tm 31)),iM 5 32]
def OP:Rg:=[iM 19 6,iC 20 .add 19 1,iM 6 20]
def arF:aB:=(.seq (sq arK (.cond (Tm 18) .skip (.exit 0))) (.seq (.block 1 (sq OO (.cond (Tm 28) (.region arL) .skip))) (.region OP)))
def aeN:Rg:=[iM 33 5,iM 4 33]
def CB:aB:=(sq arG (sq arH (.seq (sq arI (.cond (Tm 13) (sq ON .ret) .skip)) (.seq (sq arJ (.block 0 (.loop arF))) (sq aeN .ret)))))
def bgC:List Nat:=[2,31]
def aeM:aS:=⟨2,34,CB,[.tmp 4]⟩
def arW:Rg:=[iA 2 (.box true (Tm 0)),iZ 4]
def arX:Rg:=[iO 8 7 2,iK 9 67 8,iA 10 (.un .not (Tm 9))]
def arY:Rg:=[iZ 4]
def arZ:Rg:=[iF 11 4 2,iL 12 11,iN 13 12,iA 14 (.bHZ 1 8 [(.int .i64 0)] (Tm 13) (Tm 13)),iM 5 14]
def asA:Rg:=[iI 6 0]
def asB:Rg:=[iM 15 6,iM 16 1,iN 17 16,iB 18 .lss 15 17]
def asC:Rg:=[iI 7 0]
def asD:Rg:=[iM 21 7,iM 22 1,iM 23 6,iX 24 1 22 23,iL 25 24,iN 26 25,iB 27 .lss 21 26]
def zX:Rg:=[iM 30 1,iM 31 6,iX 32 1 30 31,iL 33 32,iM 34 7,iX 35 1 33 34,iL 36 35,iC 37 .geq 36 0,iM 38 37,gM 39 1 38 true,gM 40 6 38 true,iG 41 (.bIK 1 (Tm 39) (Tm 40)) 38 true,gL 42 41 38 true,gM 43 7 38 true,iG 44 (.bIK 1 (Tm 42) (Tm 43)) 38 true,gL 45 44 38 true,gM 46 5 38 true,gN 47 46 38 true,gB 48 .lss 45 47 38 true,iP 49 38 48]
def asE:Rg:=[iM 50 5,iM 51 1,iM 52 6,iX 53 1 51 52,iL 54 53,iM 55 7,iX 56 1 54 55,iL 57 56,iX 58 1 50 57,iL 59 58,iC 60 .add 59 1,iX 61 1 50 57,iS 1 61 60]
def wJ:Rg:=[iM 28 7,iC 29 .add 28 1,iM 7 29]
def IH:aB:=(.seq (sq asD (.cond (Tm 27) .skip (.exit 2))) (.seq (.block 3 (sq zX (.cond (Tm 49) (.region asE) .skip))) (.region wJ)))
def afB:Rg:=[iM 19 6,iC 20 .add 19 1,iM 6 20]
def afA:aB:=(.seq (sq asB (.cond (Tm 18) .skip (.exit 0))) (.seq (.block 1 (sq asC (.block 2 (.loop IH)))) (.region afB)))
def afC:Rg:=[iM 62 5,iM 4 62]
def CF:aB:=(sq arW (.seq (sq arX (.cond (Tm 10) (sq arY .ret) .skip)) (sq arZ (.seq (sq asA (.block 0 (.loop afA))) (sq afC .ret)))))
def bgP:List Nat:=[2]
def aeZ:aS:=⟨2,63,CF,[.tmp 4]⟩
def aZN:Rg:=[iA 2 (.box true (Tm 0)),iI 4 0]
def aZO:Rg:=[iI 5 0]
def aZP:Rg:=[iM 6 5,iM 7 1,iN 8 7,iB 9 .lss 6 8]
def RZ:Rd:=[(iM 12 1,false),(iM 13 5,false),(iX 14 1 12 13,false),(iL 15 14,false),(iC 16 .lss 15 (-1),false),(iM 17 16,false),(gM 18 1 17 false,false),(gM 19 5 17 false,false),(iG 20 (.bIK 1 (Tm 18) (Tm 19)) 17 false,false),(gL 21 20 17 false,false),(gF 22 4 2 17 false,false),(gL 23 22 17 false,false),(gN 24 23 17 false,false),(gB 25 .geq 21 24 17 false,false),(iQ 26 17 25,false)]
def amL:Rg:=[iM 27 5,iM 4 27]
def aZQ:Rg:=[iM 10 5,iC 11 .add 10 1,iM 5 11]
def aZM:aB:=(.seq (sq aZP (.cond (Tm 9) .skip (.exit 0))) (.seq (.block 1 (dq RZ (.cond (Tm 26) (sq amL .ret) .skip))) (.region aZQ)))
def aZR:Rg:=[iI 4 (-1)]
def OM:aB:=(sq aZN (.seq (sq aZO (.block 0 (.loop aZM))) (sq aZR .ret)))
def buL:List Nat:=[2]
def a9C:aS:=⟨2,28,OM,[.tmp 4]⟩
def afE:Rg:=[iA 2 (.box true (Tm 0)),iT 4 false]
def afF:Rg:=[iO 6 7 2,iK 7 67 6,iA 8 (.un .not (Tm 7)),iM 9 8,gM 10 1 9 false,gN 11 10 9 false,gF 12 6 2 9 false,gL 13 12 9 false,gN 14 13 9 false,gB 15 .neq 11 14 9 false,iQ 16 9 15]
def IL:Rg:=[iT 4 false]
def afG:Rg:=[iI 5 0]
def afH:Rg:=[iM 17 5,iM 18 1,iN 19 18,iB 20 .lss 17 19]
def afI:Rd:=[(iM 23 1,true),(iM 24 5,true),(iX 25 1 23 24,true),(iL 26 25,true),(iN 27 26,true),(iO 28 7 2,false),(iM 29 5,false),(iK2 30 82 28 29,true),(iB 31 .neq 27 30,false),(iM 32 31,false),(gO 33 7 2 32 false,false),(gM 34 1 32 false,false),(gM 35 5 32 false,false),(iG 36 (.bIK 1 (Tm 34) (Tm 35)) 32 false,false),(gL 37 36 32 false,false),(gK2 38 89 33 37 32 false,true),(gC 39 .geq 38 0 32 false,false),(iQ 40 32 39,false)]
def IM:Rg:=[iT 4 false]
def afJ:Rg:=[iM 21 5,iC 22 .add 21 1,iM 5 22]
def afD:aB:=(.seq (sq afH (.cond (Tm 20) .skip (.exit 0))) (.seq (.block 1 (dq afI (.cond (Tm 40) (sq IM .ret) .skip))) (.region afJ)))
def afK:Rg:=[iT 4 true]
def yO:aB:=(sq afE (.seq (sq afF (.cond (Tm 16) (sq IL .ret) .skip)) (.seq (sq afG (.block 0 (.loop afD))) (sq afK .ret))))
def a9L:List Nat:=[2]
def SC:aS:=⟨2,41,yO,[.tmp 4]⟩
def UE:Rg:=[iA 3 (.box true (Tm 0)),iA 4 (.box true (Tm 1)),iT 6 false]
def UF:Rg:=[iI 7 0]
def UG:Rg:=[iM 8 7,iF 9 9 3,iL 10 9,iN 11 10,iB 12 .lss 8 11]
def CA:Rd:=[(iF 15 9 3,false),(iL 16 15,false),(iM 17 7,false),(iX 18 1 16 17,false),(iL 19 18,false),(iF 20 4 4,false),(iL 21 20,false),(iM 22 2,false),(iX 23 3 21 22,false),(iF 24 1 23,false),(iL 25 24,false),(iB 26 .eql 19 25,false)]
def UH:Rg:=[iT 6 true]
def UI:Rg:=[iM 13 7,iC 14 .add 13 1,iM 7 14]
def UD:aB:=(.seq (sq UG (.cond (Tm 12) .skip (.exit 0))) (.seq (.block 1 (dq CA (.cond (Tm 26) (sq UH .ret) .skip))) (.region UI)))
def UJ:Rg:=[iT 6 false]
def vL:aB:=(sq UE (.seq (sq UF (.block 0 (.loop UD))) (sq UJ .ret)))
def aTE:List Nat:=[3,4]
def IB:aS:=⟨3,27,vL,[.tmp 6]⟩
def arN:Rg:=[iA 3 (.box true (Tm 0)),iI 6 0]
def arO:Rg:=[iI 7 0]
def arP:Rg:=[iI 8 0]
def arQ:Rg:=[iM 9 8,iM 10 1,iN 11 10,iB 12 .lss 9 11]
def OQ:Rd:=[(iM 15 1,false),(iM 16 8,false),(iX 17 1 15 16,false),(iL 18 17,false),(iC 19 .geq 18 0,false),(iM 20 19,false),(gO 21 7 3 20 true,false),(gM 22 1 20 true,false),(gM 23 8 20 true,false),(iG 24 (.bIK 1 (Tm 22) (Tm 23)) 20 true,false),(gL 25 24 20 true,false),(gF 26 3 3 20 true,false),(gL 27 26 20 true,false),(gM 28 2 20 true,false),(iG 29 (.bIK 7 (Tm 27) (Tm 28)) 20 true,false),(gF 30 1 29 20 true,false),(gL 31 30 20 true,false),(iG 32 (.call 88 [(Tm 21),(Tm 25),(Tm 31)]) 20 true,true),(gM 33 2 20 true,true),(gB 34 .eql 32 33 20 true,false),(iP 35 20 34,false)]
def arR:Rg:=[iM 36 7,iC 37 .add 36 1,iM 7 37]
def zU:Rg:=[iM 13 8,iC 14 .add 13 1,iM 8 14]
def arM:aB:=(.seq (sq arQ (.cond (Tm 12) .skip (.exit 0))) (.seq (.block 1 (dq OQ (.cond (Tm 35) (.region arR) .skip))) (.region zU)))
def OR:Rg:=[iM 38 7,iM 6 38]
def CC:aB:=(sq arN (sq arO (.seq (sq arP (.block 0 (.loop arM))) (sq OR .ret))))
def bgE:List Nat:=[3]
def aeO:aS:=⟨3,39,CC,[.tmp 6]⟩
def aZU:Rg:=[iA 3 (.box true (Tm 0)),iZ 6]
def aZV:Rg:=[iM 17 2,iN 18 17,iO 19 7 3,iM 20 1,iK2 21 82 19 20,iB 22 .neq 18 21]
def aZW:Rg:=[iM 23 1,iM 24 2,iN 25 24,iA 26 (.build [(.int .i64 0),(.int .i64 0),(.int .i64 0)] [(0,1,(Ci 1)),(1,1,(Tm 23)),(2,1,(Tm 25))]),iA 27 (.bHU true 3 1 [(.int .i64 0),(.int .i64 0),(.int .i64 0)] [(0,(Tm 26))]),iM 6 27]
def aZX:Rg:=[iO 28 7 3,iM 29 2,iK2 30 89 28 29,iM 7 30]
def amP:Rg:=[iM 31 7,iC 32 .geq 31 0]
def aZY:Rg:=[iM 33 1,iM 34 7,iA 35 (.build [(.int .i64 0),(.int .i64 0),(.int .i64 0)] [(0,1,(Ci 1)),(1,1,(Tm 33)),(2,1,(Tm 34))]),iA 36 (.bHU true 3 1 [(.int .i64 0),(.int .i64 0),(.int .i64 0)] [(0,(Tm 35))]),iM 6 36]
def aZZ:Rg:=[iZ 8]
def a0A:Rg:=[iI 9 0]
def a0B:Rg:=[iM 37 9,iM 38 2,iN 39 38,iB 40 .lss 37 39]
def amQ:Rg:=[iM 43 2,iM 44 9,iX 45 1 43 44,iL 46 45,iC 47 .eql 46 (-1)]
def aKV:Rg:=[iM 48 8,iM 49 1,iM 50 9,iA 51 (.build [(.int .i64 0),(.int .i64 0),(.int .i64 0)] [(0,1,(Ci 2)),(1,1,(Tm 49)),(2,1,(Tm 50))]),iA 52 (.bHU true 3 1 [(.int .i64 0),(.int .i64 0),(.int .i64 0)] [(0,(Tm 51))]),iA 53 (.append 3 24 (Tm 48) (Tm 52)),iM 8 53]
def YZ:Rg:=[iM 41 9,iC 42 .add 41 1,iM 9 42]
def YU:aB:=(.seq (sq a0B (.cond (Tm 40) .skip (.exit 0))) (.seq (.block 1 (sq amQ (.cond (Tm 47) (.region aKV) .skip))) (.region YZ)))
def aKW:Rg:=[iI 10 0]
def aKX:Rg:=[iM 54 10,iF 55 4 3,iL 56 55,iN 57 56,iB 58 .lss 54 57]
def aKY:Rg:=[iI 11 0]
def aKZ:Rg:=[iI 12 0]
def aLA:Rg:=[iM 61 12,iM 62 2,iN 63 62,iB 64 .lss 61 63]
def ZA:Rg:=[iM 67 2,iM 68 12,iX 69 1 67 68,iL 70 69,iM 71 10,iB 72 .eql 70 71]
def aLB:Rg:=[iM 73 11,iC 74 .add 73 1,iM 11 74]
def ZB:Rg:=[iM 65 12,iC 66 .add 65 1,iM 12 66]
def YV:aB:=(.seq (sq aLA (.cond (Tm 64) .skip (.exit 4))) (.seq (.block 5 (sq ZA (.cond (Tm 72) (.region aLB) .skip))) (.region ZB)))
def ZC:Rg:=[iM 75 11,iC 76 .gtr 75 1]
def aLC:Rg:=[iM 77 8,iM 78 1,iM 79 10,iA 80 (.build [(.int .i64 0),(.int .i64 0),(.int .i64 0)] [(0,1,(Ci 3)),(1,1,(Tm 78)),(2,1,(Tm 79))]),iA 81 (.bHU true 3 1 [(.int .i64 0),(.int .i64 0),(.int .i64 0)] [(0,(Tm 80))]),iA 82 (.append 3 24 (Tm 77) (Tm 81)),iM 8 82]
def ZD:Rg:=[iM 59 10,iC 60 .add 59 1,iM 10 60]
def YW:aB:=(.seq (sq aKX (.cond (Tm 58) .skip (.exit 2))) (.seq (.block 3 (sq aKY (.seq (sq aKZ (.block 4 (.loop YV))) (sq ZC (.cond (Tm 76) (.region aLC) .skip))))) (.region ZD)))
def aLD:Rd:=[(iF 83 5 3,false),(iL 84 83,false),(iF 85 6 3,false),(iL 86 85,false),(iM 87 1,false),(iX 88 2 86 87,false),(iF 89 1 88,false),(iL 90 89,false),(iX 91 17 84 90,false),(iO 92 17 91,false),(iA 13 (.alloc [(.str []),(.int .i64 0),(.int .i64 0),(.int .i64 0),(.int .i64 0),(.int .i64 0),(.int .i64 0),(.int .i64 0),(.int .i64 0),.bHP,.bHP,(.bool false),.bHP,.bHP,(.bool false),.bHP,.bHP]),true),(iS 17 13 92,true)]
def aLE:Rg:=[iI 14 0]
def aLF:Rg:=[iM 93 14,iM 94 2,iN 95 94,iB 96 .lss 93 95]
def ZE:Rd:=[(iM 99 2,false),(iM 100 14,false),(iX 101 1 99 100,false),(iL 102 101,false),(iC 103 .geq 102 0,false),(iM 104 103,false),(gO 105 17 13 104 true,false),(gO 106 7 3 104 true,false),(gM 107 2 104 true,false),(gM 108 14 104 true,false),(iG 109 (.bIK 1 (Tm 107) (Tm 108)) 104 true,false),(gL 110 109 104 true,false),(iG 111 (.call 77 [(Tm 105),(Tm 106),(Tm 110)]) 104 true,true),(iG 112 (.un .not (Tm 111)) 104 true,false),(iP 113 104 112,false)]
def aLG:Rg:=[iM 114 8,iM 115 1,iM 116 14,iA 117 (.build [(.int .i64 0),(.int .i64 0),(.int .i64 0)] [(0,1,(Ci 4)),(1,1,(Tm 115)),(2,1,(Tm 116))]),iA 118 (.bHU true 3 1 [(.int .i64 0),(.int .i64 0),(.int .i64 0)] [(0,(Tm 117))]),iA 119 (.append 3 24 (Tm 114) (Tm 118)),iM 8 119]
def IJ:Rg:=[iM 97 14,iC 98 .add 97 1,iM 14 98]
def YX:aB:=(.seq (sq aLF (.cond (Tm 96) .skip (.exit 6))) (.seq (.block 7 (dq ZE (.cond (Tm 113) (.region aLG) .skip))) (.region IJ)))
def aLH:Rg:=[iI 15 1]
def aLI:Rg:=[iM 120 15,iF 121 3 3,iL 122 121,iN 123 122,iB 124 .lss 120 123]
def aLJ:Rg:=[iF 127 3 3,iL 128 127,iM 129 15,iX 130 7 128 129,iF 131 1 130,iL 132 131,iF 133 4 13,iA 134 (.idxA 5 1 (Tm 133) (Tm 132)),iL 135 134,iM 16 135]
def IK:Rg:=[iM 136 16,iC 137 .gtr 136 0,iM 138 137,gO 139 7 3 138 true,gM 140 2 138 true,gM 141 15 138 true,iG 142 (.call 80 [(Tm 139),(Tm 140),(Tm 141)]) 138 true,gM 143 16 138 true,gB 144 .gtr 142 143 138 true,iP 145 138 144]
def ZF:Rg:=[iM 146 8,iM 147 1,iM 148 15,iA 149 (.build [(.int .i64 0),(.int .i64 0),(.int .i64 0)] [(0,1,(Ci 5)),(1,1,(Tm 147)),(2,1,(Tm 148))]),iA 150 (.bHU true 3 1 [(.int .i64 0),(.int .i64 0),(.int .i64 0)] [(0,(Tm 149))]),iA 151 (.append 3 24 (Tm 146) (Tm 150)),iM 8 151]
def yN:Rg:=[iM 125 15,iC 126 .add 125 1,iM 15 126]
def YY:aB:=(.seq (sq aLI (.cond (Tm 124) .skip (.exit 8))) (.seq (.block 9 (sq aLJ (sq IK (.cond (Tm 145) (.region ZF) .skip)))) (.region yN)))
def aLK:Rg:=[iM 152 8,iM 6 152]
def OY:aB:=(sq aZU (.seq (sq aZV (.cond (Tm 22) (sq aZW .ret) .skip)) (.seq (sq aZX (sq amP (.cond (Tm 32) (sq aZY .ret) .skip))) (sq aZZ (.seq (sq a0A (.block 0 (.loop YU))) (.seq (sq aKW (.block 2 (.loop YW))) (dq aLD (.seq (sq aLE (.block 6 (.loop YX))) (.seq (sq aLH (.block 8 (.loop YY))) (sq aLK .ret))))))))))
def buS:List Nat:=[3,27,36,52,81,118,150]
def a9J:aS:=⟨3,153,OY,[.tmp 6]⟩
def aLN:Rg:=[iA 3 (.box true (Tm 0)),iZ 6]
def aLO:Rg:=[iO 12 7 3,iK 13 67 12,iA 14 (.un .not (Tm 13))]
def aLP:Rg:=[iZ 6]
def ZI:Rg:=[iM 15 1,iN 16 15,iF 17 6 3,iL 18 17,iN 19 18,iB 20 .neq 16 19]
def aLQ:Rg:=[iM 21 1,iN 22 21,iA 23 (.build [(.int .i64 0),(.int .i64 0),(.int .i64 0)] [(0,1,(Ci 1)),(1,1,(Ci (-1))),(2,1,(Tm 22))]),iA 24 (.bHU true 3 1 [(.int .i64 0),(.int .i64 0),(.int .i64 0)] [(0,(Tm 23))]),iM 6 24]
def aLR:Rg:=[iZ 7]
def aLS:Rg:=[iI 8 0]
def aLT:Rg:=[iM 25 8,iM 26 1,iN 27 26,iB 28 .lss 25 27]
def aLU:Rd:=[(iM 31 7,true),(iO 32 7 3,false),(iM 33 8,false),(iM 34 1,false),(iM 35 8,false),(iX 36 1 34 35,false),(iL 37 36,false),(iA 38 (.call 90 [(Tm 32),(Tm 33),(Tm 37)]),true),(iA 39 (.append 3 24 (Tm 31) (Tm 38)),true),(iM 7 39,false)]
def aLV:Rg:=[iM 29 8,iC 30 .add 29 1,iM 8 30]
def asH:aB:=(.seq (sq aLT (.cond (Tm 28) .skip (.exit 0))) (.seq (.block 1 (.draw aLU)) (.region aLV)))
def asI:Rd:=[(iO 40 7 3,false),(iM 41 2,false),(iK2 42 85 40 41,true),(iO 43 7 3,true),(iM 44 1,true),(iK2 45 84 43 44,true),(iM 9 42,false),(iM 10 45,false)]
def asJ:Rg:=[iI 11 0]
def asK:Rg:=[iM 46 11,iM 47 9,iN 48 47,iB 49 .lss 46 48]
def PC:Rd:=[(iM 52 10,false),(iM 53 11,false),(iX 54 1 52 53,false),(iL 55 54,false),(iM 56 9,false),(iM 57 11,false),(iX 58 1 56 57,false),(iL 59 58,false),(iB 60 .gtr 55 59,false)]
def asL:Rg:=[iM 61 7,iM 62 11,iA 63 (.build [(.int .i64 0),(.int .i64 0),(.int .i64 0)] [(0,1,(Ci 6)),(1,1,(Ci (-1))),(2,1,(Tm 62))]),iA 64 (.bHU true 3 1 [(.int .i64 0),(.int .i64 0),(.int .i64 0)] [(0,(Tm 63))]),iA 65 (.append 3 24 (Tm 61) (Tm 64)),iM 7 65]
def PD:Rg:=[iM 50 11,iC 51 .add 50 1,iM 11 51]
def PB:aB:=(.seq (sq asK (.cond (Tm 49) .skip (.exit 2))) (.seq (.block 3 (dq PC (.cond (Tm 60) (.region asL) .skip))) (.region PD)))
def asM:Rg:=[iM 66 7,iM 6 66]
def IP:aB:=(sq aLN (.seq (sq aLO (.cond (Tm 14) (sq aLP .ret) .skip)) (.seq (sq ZI (.cond (Tm 20) (sq aLQ .ret) .skip)) (sq aLR (.seq (sq aLS (.block 0 (.loop asH))) (dq asI (.seq (sq asJ (.block 2 (.loop PB))) (sq asM .ret))))))))
def boK:List Nat:=[3,24,64]
def azC:aS:=⟨3,67,IP,[.tmp 6]⟩
def arT:Rg:=[iA 3 (.box true (Tm 0)),iT 6 false]
def arU:Rg:=[iO 7 7 3,iK 8 67 7,iM 9 8,gO 10 7 3 9 true,gM 11 1 9 true,gM 12 2 9 true,iG 13 (.call 87 [(Tm 10),(Tm 11),(Tm 12)]) 9 true,gN 14 13 9 true,gC 15 .eql 14 0 9 true,iP 16 9 15,iM 6 16]
def CD:aB:=(sq arT (sq arU .ret))
def bgL:List Nat:=[3]
def aeY:aS:=⟨3,17,CD,[.tmp 6]⟩
theorem bfW {C:Ctx} (f:aE) (hv:VF f) (d:Nat) (h:d<f.bHN.length) (level:Int) (h0:0≤level) (h4:level≤4) :
  BZ.wp C (aR aeL.res (aD (.int .i64 (eO f d level:Nat)))) (PF.args [.agg f.cells,.int .i64 d,.int .i64 level]) .nil:=by
 simp only[go_sem,δ,γ,θ,BZ,arA,arB,aeL,kP h,hv.alE h]
 refine wp_loop (α:=Nat) (fun k=>(((PF.nil.set 2 (.int .i64 level)).set 3 (.bHX f.cells)).set 7 (.int .i64 (upN f k (fD f d))))) (fun _=>.nil) (fun k=>k≤4-level.toNat) (fun k=>4-level.toNat-k) 0 (bKA _) (by (repeat' (first|exact PF.nil_le|refine PF.aG ?_ ?_))<;>first|(simp only[go_sem,γ,upN]<;>rfl)|rfl) PH.nil_le ?_
 intro k hk
 obtain⟨u1,u2⟩:=QI hv h (k:=k) Om
 simp only[go_sem,δ,γ,θ,aqZ,arC,eQ u1,yD u1]
 by_cases hlt:k<4-level.toNat
 ·have hc:lvl f (upN f k (fD f d))>level:=by rw[u2]; omega
  have hne:0<upN f k (fD f d):=by
   rcases bLU (upN f k (fD f d)) with e | e
   ·rw[e,hv.root.2.1] at u2; omega
   ·exact e
  simp only[go_sem,δ,γ,θ,hc,arD,eQ u1,yH u1,hv.amF hne u1]
  exact aC (k+1) hlt Om (by (repeat' (first|exact PF.nil_le|refine PF.aG ?_ ?_))<;>first|(simp only[go_sem,γ,upN]<;>rfl)|rfl) PH.nil_le
 ·have hc:¬ lvl f (upN f k (fD f d))>level:=by rw[u2]; omega
  have:k=4-level.toNat:=by omega
  subst this
  simp only[go_sem,γ,hc,arE]
  refine aM (.inr rfl) rfl ?_
  rfl
structure rO (C:Ctx):Prop where
 valid:∀ f:aE,f.Ok→aI C 67 [.agg f.cells] .nil (aD (.bool (cV f)))
 kG:∀ (f:aE) (d:Nat) (level:Int),VF f→d<f.bHN.length→0≤level→level≤4→aI C 88 [.agg f.cells,.int .i64 d,.int .i64 level] .nil (aD (.int .i64 (eO f d level:Nat)))
 frag:∀ (f:aE) (v:Nat),VF f→v<f.bHQ.length→aI C 82 [.agg f.cells,.int .i64 v] .nil (aD (.int .i64 (lE f v)))
theorem bxT {C:Ctx} (L:rO C) (f:aE) (hf:f.Ok) (d level:Int) :
  YQ.wp C (aR sat.res (aD (.int .i64 (atP f d level)))) (PF.args [.agg f.cells,.int .i64 d,.int .i64 level]) .nil:=by
 simp only[go_sem,δ,γ,YQ,bfY,bfZ,sat]
 refine aA (L.valid f hf) rfl ?_
 unfold atP
 cases hv:cV f with
 | false =>
  simp only[go_sem,ο,γ,reduceCtorEq,bKF,EK]
  refine aM (.inr rfl) rfl ?_
  rw[bH,if_neg (by simp)]
 | true =>
  have hV:=VF.of hv
  by_cases c1:d<0
  ·simp only[go_sem,ο,γ,reduceCtorEq,bJW,c1,EK]
   refine aM (.inr rfl) rfl ?_
   rw[bH,if_neg Om]
  ·by_cases c2:d≥(f.bHN.length:Nat)
   ·simp only[go_sem,ο,δ,γ,θ,reduceCtorEq,bJW,c1,bJT,c2,EK]
    refine aM (.inr rfl) rfl ?_
    rw[bH,if_neg Om]
   ·by_cases c3:level<0
    ·simp only[go_sem,ο,δ,γ,θ,reduceCtorEq,bJW,c1,bJT,c2,c3,EK]
     refine aM (.inr rfl) rfl ?_
     rw[bH,if_neg Om]
    ·by_cases c4:level>4
     ·simp only[go_sem,ο,δ,γ,θ,reduceCtorEq,bJW,c1,bJT,c2,c3,c4,EK]
      refine aM (.inr rfl) rfl ?_
      rw[bH,if_neg Om]
     ·simp only[go_sem,ο,δ,γ,θ,reduceCtorEq,bJW,c1,bJT,c2,c3,c4,bgA]
      have hc:=L.kG f d.toNat level hV Om Om Om
      rw[Int.toNat_of_nonneg Om] at hc
      refine aA hc rfl ?_
      simp only[go_sem,ο,γ]
      refine aM (.inr rfl) rfl ?_
      rw[bH,if_pos Om]
def soS (f:aE):Spec:=fun name vs=>match name,vs with
 | 88,[_,.int _ d,.int _ l]=>some ([],fun _=>aD (.int .i64 (eO f d.toNat l:Nat)))
 | 82,[_,.int _ v]=>some ([],fun _=>aD (.int .i64 (lE f v.toNat)))
 | _,_=>none
theorem asF (f:aE) (d:Nat) (l:Int):soS f 88 [.agg f.cells,.int .i64 d,.int .i64 l]=some ([],fun _=>aD (.int .i64 (eO f d l:Nat))):=rfl
theorem bdV {f:aE} (hV:VF f) {n:Nat} (hn:n<f.bHR.length):0≤lvl f n∧lvl f n≤4:=by
 rcases bLU n with e | e
 ·rw[e,hV.root.2.1]; decide
 ·have:=hV.dom n e hn; omega
theorem a9D {C:Ctx} (L:rO C) (f:aE) (hf:f.Ok) (dom:Int) :
  yL.wp C (aR SA.res (bQ (ints (mO f dom)))) (PF.args [.agg f.cells,.int .i64 dom]) .nil:=by
 simp only[go_sem,δ,γ,yL,aeQ,aeR,aeS,SA]
 refine aA (L.valid f hf) rfl ?_
 unfold mO
 cases hv:cV f with
 | false =>
  simp only[go_sem,γ,reduceCtorEq,bKF,wH]
  rw[if_neg (by simp)]
  exact fA rfl
 | true =>
  have hV:=VF.of hv
  by_cases c1:dom<0
  ·simp only[go_sem,γ,reduceCtorEq,bJW,c1,wH]
   rw[if_neg Om]
   exact fA rfl
  ·by_cases c2:dom≥(f.bHR.length:Nat)
   ·simp only[go_sem,δ,γ,θ,reduceCtorEq,bJW,c1,bJT,c2,wH]
    rw[if_neg Om]
    exact fA rfl
   ·obtain⟨n,rfl⟩:∃ n:Nat,dom=n:=⟨dom.toNat,by omega⟩
    have hn:n<f.bHR.length:=by omega
    have hd24:=hV.small.bHN
    have hl04:=bdV hV hn
    simp only[go_sem,δ,γ,θ,reduceCtorEq,bJW,c1,bJT,c2,aeT]
    rw[if_pos Om]
    generalize hp:(fun d=>decide ((eO f d (lvl f n):Nat)=n))=p
    refine wp_loop (α:=Nat × PV × PH) (fun t=>((((PF.nil.set 1 (.int .i64 n)).set 2 (.bHX f.cells)).set 5 (t.2.1)).set 6 (.int .i64 t.1))) (fun t=>t.2.2) (fun t=>t.1≤f.bHN.length∧aX t.2.2 1 t.2.1 (cZ (pick t.1 p))) (fun t=>f.bHN.length-t.1) (0,.bHP,.nil) ⟨bKA _,.nil⟩ Lq PH.nil_le ?_
    rintro⟨k,v,H0⟩ ⟨hk,hO⟩
    simp only at hk hO ⊢
    simp only[go_sem,δ,γ,θ,aeP,aeU,bJT]
    by_cases hlt:k<f.bHN.length
    ·have bHV:(k:Int)<(f.bHN.length:Nat):=by omega
     simp only[go_sem,bHV]
     refine bL .nil (soS f) PH.nil_le ?_
     simp only[go_sem,δ,γ,θ,aeV,eQ hn,yD hn]
     refine bC (asF f k (lvl f n)) (L.kG f k (lvl f n) hV hlt hl04.1 hl04.2) rfl PH.nil_le ?_
     have hpk:p k=decide ((eO f k (lvl f n):Nat)=n):=by rw[← hp]
     have bIL:=uT k p
     have h11:(1:Nat)*1≤16777216:=by decide
     by_cases c:eO f k (lvl f n)=n
     ·rw[if_pos (by rw[hpk]; simp[c])] at bIL
      simp only[go_sem,υ,γ,η,ζ,bP (show ((eO f k (lvl f n):Nat):Int)=(n:Int) by omega),aeW,h11]
      refine dB (src:=[[.int .i64 k]]) hO rfl (by unfold roomFor; have:=tI k p; rw[fW]; simp only[bKD,maxLen]; omega) fun v' H' hO' _=>?_
      rw[rX,← bIL] at hO'
      simp only[go_sem,γ,IC,ws k]
      exact aC (k+1,v',H') ⟨hlt,hO'⟩ (by simp only; omega) Lq PH.le_refl
     ·rw[if_neg (by rw[hpk]; simp[c])] at bIL
      simp only[go_sem,γ,bF (show ((eO f k (lvl f n):Nat):Int)≠(n:Int) by omega),IC,ws k]
      rw[← bIL] at hO
      exact aC (k+1,v,H0) ⟨hlt,hO⟩ (by simp only; omega) Lq PH.le_refl
    ·have bHV:¬ (k:Int)<(f.bHN.length:Nat):=by omega
     have:k=f.bHN.length:=by omega
     subst this
     simp only[go_sem,γ,bHV,UL]
     exact mQ hO rfl
theorem bgB {C:Ctx} (L:rO C) (f:aE) (hf:f.Ok) (dom:Int) :
  CB.wp C (aR aeM.res (bQ (ints (rR f dom)))) (PF.args [.agg f.cells,.int .i64 dom]) .nil:=by
 simp only[go_sem,δ,γ,CB,arG,arH,arI,aeM]
 refine aA (L.valid f hf) rfl ?_
 unfold rR
 cases hv:cV f with
 | false =>
  simp only[go_sem,γ,reduceCtorEq,bKF,ON]
  rw[if_neg (by simp)]
  exact fA rfl
 | true =>
  have hV:=VF.of hv
  by_cases c1:dom<0
  ·simp only[go_sem,γ,reduceCtorEq,bJW,c1,ON]
   rw[if_neg Om]
   exact fA rfl
  ·have hd40:=hV.small.bHR
   have h00:=hV.root.1
   simp only[go_sem,γ,reduceCtorEq,bJW,c1,arJ]
   rw[if_pos Om]
   generalize hp:(fun i=>decide (par f i=dom))=p
   have hp0:pick 1 p=[]:=by
    have:=uT 0 p
    rw[if_neg (by rw[← hp]; have:=hV.root.2.2; simp; omega)] at this
    rw[this]; rfl
   refine wp_loop (α:=Nat × PV × PH) (fun t=>((((PF.nil.set 1 (.int .i64 dom)).set 2 (.bHX f.cells)).set 5 (t.2.1)).set 6 (.int .i64 t.1))) (fun t=>t.2.2) (fun t=>1≤t.1∧t.1≤f.bHR.length∧aX t.2.2 1 t.2.1 (cZ (pick t.1 p))) (fun t=>f.bHR.length-t.1) (1,.bHP,.nil) ⟨bKB _,h00,by rw[hp0]; exact .nil⟩ Lq PH.nil_le ?_
   rintro⟨k,v,H0⟩ ⟨hk1,hk,hO⟩
   simp only at hk1 hk hO ⊢
   simp only[go_sem,δ,γ,θ,arF,arK,bJT]
   by_cases hlt:k<f.bHR.length
   ·have bHV:(k:Int)<(f.bHR.length:Nat):=by omega
    have hpk:p k=decide (par f k=dom):=by rw[← hp]
    have bIL:=uT k p
    have h11:(1:Nat)*1≤16777216:=by decide
    by_cases c:par f k=dom
    ·rw[if_pos (by rw[hpk]; simp[c])] at bIL
     simp only[go_sem,υ,δ,γ,η,θ,ζ,bHV,OO,eQ hlt,yH hlt,bP c,arL,h11]
     refine dB (src:=[[.int .i64 k]]) hO rfl (by unfold roomFor; have:=tI k p; rw[fW]; simp only[bKD,maxLen]; omega) fun v' H' hO' _=>?_
     rw[rX,← bIL] at hO'
     simp only[go_sem,γ,OP,ws k]
     exact aC (k+1,v',H') ⟨by omega,hlt,hO'⟩ (by simp only; omega) Lq PH.le_refl
    ·rw[if_neg (by rw[hpk]; simp[c])] at bIL
     rw[← bIL] at hO
     simp only[go_sem,δ,γ,θ,bHV,OO,eQ hlt,yH hlt,bF c,OP,ws k]
     exact aC (k+1,v,H0) ⟨by omega,hlt,hO⟩ (by simp only; omega) Lq PH.le_refl
   ·have bHV:¬ (k:Int)<(f.bHR.length:Nat):=by omega
    have:k=f.bHR.length:=by omega
    subst this
    simp only[go_sem,γ,bHV,aeN]
    exact mQ hO rfl
def sX (f:aE) (row:List Int):Int:=match eH (iU f) row 0 with
 | some i=>i
 | none=>-1
theorem buK {C:Ctx} (f:aE) (row:List Int) (hl:row.length≤16777216):OM.wp C (aR a9C.res (aD (.int .i64 (sX f row)))) (PF.args [.agg f.cells,ints row]) .nil:=by
 unfold sX
 simp only[go_sem,ο,OM,aZN,aZO,a9C]
 refine wp_loop (α:=Nat) (fun k=>(((PF.nil.set 1 (ints row)).set 2 (.bHX f.cells)).set 5 (.int .i64 k))) (fun _=>.nil) (fun k=>k≤row.length∧eH (iU f) row 0=eH (iU f) (row.drop k) k) (fun k=>row.length-k) 0 ⟨bKA _,rfl⟩ Lq PH.nil_le ?_
 rintro k ⟨hk,ha⟩
 simp only[go_sem,ο,γ,aZM,aZP,bJT]
 by_cases hlt:k<row.length
 ·have bHV:(k:Int)<(row.length:Nat):=by omega
  have hat:(row.map fun x=>[PV.int .i64 x])[k]?=some [.int .i64 row[k]]:=by simp[hlt]
  rw[bLO hlt,eH] at ha
  generalize row[k]=x at *
  simp only[go_sem,ο,bHV]
  refine bL .nil dJ PH.nil_le ?_
  by_cases c1:x < -1
  ·rw[show iU f x=true from by unfold iU; rw[decide_eq_true c1]; rfl,if_pos rfl] at ha
   simp only[go_sem,ο,γ,RZ,hat,c1,amL]
   refine aM (.inr rfl) rfl ?_
   rw[bH,ha]
  ·by_cases c2:x≥(f.bHN.length:Nat)
   ·rw[show iU f x=true from by unfold iU; rw[decide_eq_true c2,Bool.or_true],if_pos rfl] at ha
    simp only[go_sem,ο,δ,γ,θ,reduceCtorEq,RZ,hat,c1,bJT,c2,amL]
    refine aM (.inr rfl) rfl ?_
    rw[bH,ha]
   ·rw[show iU f x=false from by unfold iU; rw[decide_eq_false c1,decide_eq_false c2]; rfl,if_neg (by decide)] at ha
    simp only[go_sem,ο,δ,γ,θ,reduceCtorEq,RZ,hat,c1,bJT,c2,aZQ,ws k]
    exact aC (k+1) ⟨hlt,ha⟩ Om Lq PH.le_refl
 ·have bHV:¬ (k:Int)<(row.length:Nat):=by omega
  have:k=row.length:=by omega
  subst this
  rw[List.drop_length,eH] at ha
  simp only[go_sem,ο,bHV,aZR]
  refine aM (.inr rfl) rfl ?_
  rw[bH,ha]
theorem btE {r e:Int} (h:0≤e):max 0 (min r e)=min (max r 0) e:=by omega
theorem a8W (f:aE) (room:List Int) {k:Nat} (h:k<f.bHN.length):(fV f room).take (k+1)=(fV f room).take k++[uV f room k]:=by
 have hk:k<(fV f room).length:=by rw[oT]; exact h
 rw[bLY hk,aJX]
theorem boF {C:Ctx} (L:rO C) (f:aE) (hf:f.Ok) (room:List Int) :
  II.wp C (aR azB.res (bQ (ints (mG f room)))) (PF.args [.agg f.cells,ints room]) .nil:=by
 simp only[go_sem,δ,γ,II,aKN,aKO,azB]
 refine aA (L.valid f hf) rfl ?_
 unfold mG
 cases hv:cV f with
 | false =>
  simp only[go_sem,γ,reduceCtorEq,bKF,aKP]
  exact fA rfl
 | true =>
  have hV:=VF.of hv
  have hd24:=hV.small.bHN
  have hRl:=oT f room
  simp only[go_sem,γ,bJW,aKQ,aKR]
  refine wp_loop (α:=Nat × PV × PH) (fun t=>((((PF.nil.set 1 (ints room)).set 2 (.bHX f.cells)).set 5 (t.2.1)).set 6 (.int .i64 t.1))) (fun t=>t.2.2) (fun t=>t.1≤f.bHN.length∧aX t.2.2 1 t.2.1 (cZ ((fV f room).take t.1))) (fun t=>f.bHN.length-t.1) (0,.bHP,.nil) ⟨bKA _,.nil⟩ Lq PH.nil_le ?_
  rintro⟨k,v,H0⟩ ⟨hk,hO⟩
  simp only at hk hO ⊢
  simp only[go_sem,δ,γ,θ,asG,aKS,bJT]
  by_cases hlt:k<f.bHN.length
  ·have bHV:(k:Int)<(f.bHN.length:Nat):=by omega
   obtain⟨hm,he⟩:=hV.bbU hlt
   have hmo:=hV.model _ (bJZ hm)
   rw[he] at hmo
   have h11:(1:Nat)*1≤16777216:=by decide
   have bIL:=a8W f room hlt
   have rest:∀ (x:Int) (F:PF),x=uV f room k→((((((PF.nil.set 1 (ints room)).set 2 (.bHX f.cells)).set 5 (v)).set 6 (.int .i64 k)).set 7 (.int .i64 x)):PF).le F →
     aB.wp C (.region YT) (dN 1 (iV C (aB.wp C (.region OW)) (dU (fun t:Nat × PV × PH=>((((PF.nil.set 1 (ints room)).set 2 (.bHX f.cells)).set 5 (t.2.1)).set 6 (.int .i64 t.1))) (fun t=>t.2.2) (fun t=>t.1≤f.bHN.length∧aX t.2.2 1 t.2.1 (cZ ((fV f room).take t.1))) (fun t=>f.bHN.length-t.1) (f.bHN.length-k) (dN 0 (iV C (aB.wp C (.seq (.region OX) .ret)) (aR [.tmp 4] (bQ (ints (fV f room))))))))) F H0:=by
    intro x F hx hF
    refine sR _ (fun _ _ _ _ a b=>Up.up a b) hF ?_
    simp only[go_sem,υ,γ,η,ζ,YT,h11]
    refine dB (src:=[[.int .i64 x]]) hO rfl (by unfold roomFor; rw[fW,bKN]; simp only[bKD,maxLen]; omega) fun v' H' hO' _=>?_
    rw[rX,hx,← bIL] at hO'
    simp only[go_sem,γ,OW,ws k]
    exact aC (k+1,v',H') ⟨hlt,hO'⟩ (by simp only; omega) Lq PH.le_refl
   simp only[aB.wp,go_sem] at rest
   simp only[go_sem,bHV]
   refine bL .nil dJ PH.nil_le ?_
   simp only[go_sem,δ,γ,θ,aKT,kP hlt,hV.EC hlt,apV hm,he]
   by_cases c:room.length=f.bHN.length
   ·have hrk:k<room.length:=by omega
    have hrr:(room.map fun n=>[PV.int .i64 n])[k]?=some [.int .i64 room[k]]:=by simp[hrk]
    simp only[go_sem,δ,γ,θ,reduceCtorEq,YS,bJT,bP (Om:((room.length:Nat):Int)=(f.bHN.length:Nat)),aKU,hrr,max_eq,aWR]
    refine rest _ _ ?_ Lq
    rw[uV,if_pos c,btE Om,bKK,bKG hrk,bLX]
   ·simp only[go_sem,δ,γ,θ,YS,bJT,bF (Om:((room.length:Nat):Int)≠(f.bHN.length:Nat))]
    refine rest _ _ ?_ Lq
    rw[uV,if_neg c]
  ·have bHV:¬ (k:Int)<(f.bHN.length:Nat):=by omega
   have:k=f.bHN.length:=by omega
   subst this
   rw[← hRl,bKU] at hO
   simp only[go_sem,γ,bHV,OX]
   exact mQ hO rfl
theorem aTD {C:Ctx} (f:aE) (hV:VF f) (p:cJ) (hp:Fits p.bHO) (d:Nat) (hd:d<f.bHN.length) :
  vL.wp C (aR IB.res (aD (.bool (p.bHO.contains ((mdl f d:Nat):Int))))) (PF.args [.agg p.cells,.agg f.cells,.int .i64 d]) .nil:=by
 have hp':p.bHO.length≤9223372036854775807:=hp
 simp only[go_sem,γ,vL,UE,UF,IB]
 refine wp_loop (α:=Nat) (fun k=>((((PF.nil.set 2 (.int .i64 d)).set 3 (.bHX p.cells)).set 4 (.bHX f.cells)).set 7 (.int .i64 k))) (fun _=>.nil) (fun k=>k≤p.bHO.length∧p.bHO.contains ((mdl f d:Nat):Int)=(p.bHO.drop k).contains ((mdl f d:Nat):Int)) (fun k=>p.bHO.length-k) 0 ⟨bKA _,rfl⟩ Lq PH.nil_le ?_
 rintro k ⟨hk,ha⟩
 simp only[go_sem,δ,γ,θ,UD,UG,bJT]
 by_cases hlt:k<p.bHO.length
 ·have bHV:(k:Int)<(p.bHO.length:Nat):=by omega
  have hat:(p.bHO.map fun x=>[PV.int .i64 x])[k]?=some [.int .i64 p.bHO[k]]:=by simp[hlt]
  rw[bLO hlt,List.contains_cons] at ha
  have hcomm:(p.bHO[k]==((mdl f d:Nat):Int))=(((mdl f d:Nat):Int)==p.bHO[k]):=BEq.comm
  simp only[go_sem,bHV]
  refine bL .nil dJ PH.nil_le ?_
  cases c:((mdl f d:Nat):Int)==p.bHO[k] with
  | true =>
   rw[c] at hcomm
   rw[c,Bool.true_or] at ha
   simp only[go_sem,δ,γ,θ,CA,hat,kP hd,hV.EC hd,hcomm,UH]
   refine aM (.inr rfl) rfl ?_
   rw[bH,ha]
  | false =>
   rw[c] at hcomm
   rw[c,Bool.false_or] at ha
   simp only[go_sem,δ,γ,θ,CA,hat,kP hd,hV.EC hd,hcomm,UI,ws k]
   exact aC (k+1) ⟨hlt,ha⟩ Om Lq PH.le_refl
 ·have bHV:¬ (k:Int)<(p.bHO.length:Nat):=by omega
  have:k=p.bHO.length:=by omega
  subst this
  rw[List.drop_length] at ha
  simp only[go_sem,bHV,UJ]
  refine aM (.inr rfl) rfl ?_
  rw[bH,ha]
  rfl
theorem SS {p:Int→Bool} {xs:List Int} {k:Nat} (h:k<xs.length):(xs.take (k+1)).countP p=(xs.take k).countP p+if p xs[k] then 1 else 0:=by
 rw[bLY h,List.countP_append]
 by_cases hp:p xs[k]<;>simp[List.countP_cons,hp]
theorem bgD {C:Ctx} (L:rO C) (f:aE) (hV:VF f) (row:List Int) (hr:tR f row) (n:Nat) (hn:n<f.bHR.length) :
  CC.wp C (aR aeO.res (aD (.int .i64 (row.countP (jR f n):Nat)))) (PF.args [.agg f.cells,ints row,.int .i64 n]) .nil:=by
 have hlen:=hr.len
 have hl04:=bdV hV hn
 simp only[go_sem,CC,arN,arO,arP,aeO]
 refine wp_loop (α:=Nat) (fun k=>(((((PF.nil.set 1 (ints row)).set 2 (.int .i64 n)).set 3 (.bHX f.cells)).set 7 (.int .i64 ((row.take k).countP (jR f n):Nat))).set 8 (.int .i64 k))) (fun _=>.nil) (fun k=>k≤row.length) (fun k=>row.length-k) 0 (bKA _) Lq PH.nil_le ?_
 intro k hk
 simp only[go_sem,γ,arM,arQ,bJT]
 by_cases hlt:k<row.length
 ·have bHV:(k:Int)<(row.length:Nat):=by omega
  have hat:(row.map fun x=>[PV.int .i64 x])[k]?=some [.int .i64 row[k]]:=by simp[hlt]
  have hx:=hr.at_ _ (bJZ hlt)
  have hs:=SS (p:=jR f n) hlt
  have hle:(row.take k).countP (jR f n)≤16777216:=by
   have:=List.countP_le_length (p:=jR f n) (l:=row.take k)
   rw[bKN] at this
   omega
  have hid:jR f n row[k]=(decide (0≤row[k])&&decide (eO f row[k].toNat (lvl f n)=n)):=rfl
  have fin:∀ (c:Nat) (F':PF),(row.take (k+1)).countP (jR f n)=c→((((((PF.nil.set 1 (ints row)).set 2 (.int .i64 n)).set 3 (.bHX f.cells)).set 7 (.int .i64 c)).set 8 (.int .i64 (k+1:Nat))):PF).le F'→dU (fun k:Nat=>(((((PF.nil.set 1 (ints row)).set 2 (.int .i64 n)).set 3 (.bHX f.cells)).set 7 (.int .i64 ((row.take k).countP (jR f n):Nat))).set 8 (.int .i64 k))) (fun _=>.nil) (fun k=>k≤row.length) (fun k=>row.length-k) (row.length-k) (dN 0 (iV C (aB.wp C (.seq (.region OR) .ret)) (aR [.tmp 6] (aD (.int .i64 (row.countP (jR f n):Nat)))))) .normal F' .nil :=
   fun c F' e h=>aC (k+1) hlt Om (by rw[e]; exact h) PH.le_refl
  generalize (row.take k).countP (jR f n)=c at *
  generalize row[k]=x at *
  simp only[go_sem,bHV]
  refine bL .nil (soS f) PH.nil_le ?_
  by_cases h0:x≥0
  ·obtain⟨d,rfl⟩:∃ d:Nat,x=d:=⟨x.toNat,by omega⟩
   have hd:d<f.bHN.length:=by omega
   rw[decide_eq_true (Om:(0:Int)≤d),bKJ,bMQ] at hid
   rw[hid] at hs
   simp only[go_sem,δ,γ,θ,OQ,hat,h0,eQ hn,yD hn]
   refine bC (asF f d (lvl f n)) (L.kG f d (lvl f n) hV hd hl04.1 hl04.2) rfl PH.nil_le ?_
   by_cases ha:eO f d (lvl f n)=n
   ·rw[decide_eq_true ha,if_pos rfl] at hs
    simp only[go_sem,γ,bP (show ((eO f d (lvl f n):Nat):Int)=(n:Int) by omega),arR,ws c,zU,ws k]
    exact fin (c+1) _ hs Lq
   ·rw[decide_eq_false ha,if_neg (by decide),bLP] at hs
    simp only[go_sem,γ,bF (show ((eO f d (lvl f n):Nat):Int)≠(n:Int) by omega),zU,ws k]
    exact fin c _ hs Lq
  ·rw[decide_eq_false (show ¬ 0≤x from h0),bKC] at hid
   rw[hid,if_neg (by decide),bLP] at hs
   simp only[go_sem,γ,reduceCtorEq,OQ,hat,h0,zU,ws k]
   exact fin c _ hs Lq
 ·have bHV:¬ (k:Int)<(row.length:Nat):=by omega
  have:k=row.length:=by omega
  subst this
  simp only[go_sem,γ,bHV,OR,bKU]
  refine aM (.inr rfl) rfl ?_
  rfl
theorem bgN {C:Ctx} (f:aE) (l:List (List Int)) (hl:eY l) (o i:Nat) (hlt:i<l.length) (K:cA) [Up K] (F:PF) (H:PH)
  (hF:((((((PF.nil.set 1 (lay l)).set 2 (.bHX f.cells)).set 5 (.osl o 1 0 f.bHN.length)).set 6 (.int .i64 i)).set 7 (.int .i64 0)):PF).le F) (hH:(PH.nil.set o (.rows 1 (cZ (dS f.bHN.length (l.take i).flatten)))).le H)
  (hK:K (.exit 2) (((((PF.nil.set 1 (lay l)).set 2 (.bHX f.cells)).set 5 (.osl o 1 0 f.bHN.length)).set 6 (.int .i64 i))) (PH.nil.set o (.rows 1 (cZ (dS f.bHN.length (l.take (i+1)).flatten))))):aB.wp C (.loop IH) K F H:=by
 obtain⟨hl1,hl2⟩:=hl
 have hr:(l.map fun r=>[ints r])[i]?=some [ints l[i]]:=by simp[hlt]
 have hft:=mV l hlt
 have hfl:=sY l (i+1)
 rw[hft] at hfl hK
 rw[bJX] at hfl
 generalize bIC:l[i]=row at *
 generalize hn:f.bHN.length=n at *
 generalize hA:(l.take i).flatten=A at *
 refine wp_loop (α:=Nat) (fun k=>(((((PF.nil.set 1 (lay l)).set 2 (.bHX f.cells)).set 5 (.osl o 1 0 n)).set 6 (.int .i64 i)).set 7 (.int .i64 k))) (fun k=>PH.nil.set o (.rows 1 (cZ (dS n (A++row.take k))))) (fun k=>k≤row.length) (fun k=>row.length-k) 0 (bKA _) hF (by rw[List.take_zero,bLK]; exact hH) ?_
 intro k hk
 simp only[go_sem,γ,IH,asD,hr,bJT]
 by_cases hkt:k<row.length
 ·have hkt':(k:Int)<(row.length:Nat):=by omega
  have hrk:(row.map fun n=>[PV.int .i64 n])[k]?=some [.int .i64 row[k]]:=by simp[hkt]
  have htk:A++row.take (k+1)=(A++row.take k)++[row[k]]:=by
   rw[bLY hkt,bKV]
  have fin:∀ (F:PF),((((((PF.nil.set 1 (lay l)).set 2 (.bHX f.cells)).set 5 (.osl o 1 0 n)).set 6 (.int .i64 i)).set 7 (.int .i64 (k+1:Nat))):PF).le F→∀ H:PH,H o=some (.rows 1 (cZ (dS n (A++row.take (k+1))))) →
    dU (fun k:Nat=>(((((PF.nil.set 1 (lay l)).set 2 (.bHX f.cells)).set 5 (.osl o 1 0 n)).set 6 (.int .i64 i)).set 7 (.int .i64 k))) (fun k=>PH.nil.set o (.rows 1 (cZ (dS n (A++row.take k))))) (fun k=>k≤row.length) (fun k=>row.length-k) (row.length-k) K .normal F H:=by
   intro F hF H hH
   exact aC (k+1) hkt Om hF (PH.aG PH.nil_le hH)
  generalize hx:row[k]=x at *
  by_cases c1:x≥0
  ·by_cases c2:x<(n:Nat)
   ·obtain⟨d,rfl⟩:∃ d:Nat,x=d:=⟨x.toNat,by omega⟩
    have hdn:d<n:=by omega
    have hat:=tF (l:=dS n (A++row.take k)) (i:=d) (by rw[fP]; exact hdn)
    rw[RC _ hdn] at hat
    have hcl:(A++row.take k).count (d:Int)≤16777216:=by
     refine bLV (List.count_le_length ..) ?_
     rw[bJX,bKN]; omega
    have hin:=akM (A++row.take k) hdn
    rw[← htk] at hin
    have hw:IntKind.i64.wrap ((((A++row.take k).count (d:Int):Nat):Int)+1)=(((A++row.take k).count (d:Int):Nat):Int)+1:=wrap_i64 Om Om
    simp only[go_sem,γ,hkt',zX,hrk,c1,c2,asE,bKS,hat,hw,wJ,oN,hin,ws k,hr]
    exact fin _ Lq _ Sq
   ·have hout:=xS (n:=n) (A++row.take k) (x:=x) Om
    simp only[go_sem,γ,hkt',zX,hrk,c1,c2,wJ,ws k,hr]
    exact fin _ Lq _ (by rw[htk,hout]; simp only[go_sem])
  ·have hout:=xS (n:=n) (A++row.take k) (x:=x) Om
   simp only[go_sem,γ,reduceCtorEq,hkt',zX,hrk,c1,wJ,ws k,hr]
   exact fin _ Lq _ (by rw[htk,hout]; simp only[go_sem])
 ·have hkt':¬ (k:Int)<(row.length:Nat):=by omega
  have:k=row.length:=by omega
  subst this
  simp only[go_sem,hkt',bKU]
  exact Up.up Lq hK
theorem bgO {C:Ctx} (L:rO C) (f:aE) (hf:f.Ok) (l:List (List Int)) (hl:eY l) :
  CF.wp C (aR aeZ.res (bQ (ints (lS f l)))) (PF.args [.agg f.cells,lay l]) .nil:=by
 simp only[go_sem,δ,γ,CF,arW,arX,aeZ]
 refine aA (L.valid f hf) rfl ?_
 unfold lS
 cases hv:cV f with
 | false =>
  simp only[go_sem,γ,reduceCtorEq,bKF,arY]
  exact fA rfl
 | true =>
  have hd:=(VF.of hv).small.bHN
  have hb1:((f.bHN.length:Nat):Int)*((8:Nat):Int)≤140737488355328:=by omega
  have hb2:((f.bHN.length:Nat):Int)≤9223372036854775807:=by omega
  simp only[go_sem,δ,γ,θ,bJW,arZ,bJT,hb1,hb2]
  refine aO fun o ho=>?_
  simp only[go_sem,γ,asA]
  refine wp_loop (α:=Nat) (fun i=>((((PF.nil.set 1 (lay l)).set 2 (.bHX f.cells)).set 5 (.osl o 1 0 f.bHN.length)).set 6 (.int .i64 i))) (fun i=>PH.nil.set o (.rows 1 (cZ (dS f.bHN.length (l.take i).flatten)))) (fun i=>i≤l.length) (fun i=>l.length-i) 0 (bKA _) Lq (PH.aG PH.nil_le (by rw[List.take_zero,List.flatten_nil,VR,pV]; simp only[go_sem])) ?_
  intro i hi
  simp only[go_sem,γ,afA,asB,bJT]
  have hl1:=hl.rows
  by_cases hlt:i<l.length
  ·have bHV:(i:Int)<(l.length:Nat):=by omega
   simp only[go_sem,bHV,asC]
   have hin:=bgN (C:=C) f l hl o i hlt
   simp only[aB.wp,go_sem] at hin
   refine hin _ _ _ Lq PH.le_refl ?_
   simp only[go_sem,γ,reduceCtorEq,afB,ws i]
   exact aC (i+1) hlt Om Lq PH.le_refl
  ·have bHV:¬ (i:Int)<(l.length:Nat):=by omega
   have:i=l.length:=by omega
   subst this
   simp only[go_sem,γ,bHV,afC,bKU]
   refine YO (.inr rfl) (o:=o) (s:=1) (k:=f.bHN.length) (rs:=cZ (dS f.bHN.length l.flatten)) rfl Sq (by rw[fW,fP]; omega) ⟨?_,rfl⟩
   rw[acA,bKL (by rw[fW,fP]; omega),fF]
   exact .refl _
structure akG (C:Ctx):Prop extends rO C where
 bad:∀ (f:aE) (row:List Int),row.length≤16777216→aI C 89 [.agg f.cells,ints row] .nil (aD (.int .i64 (sX f row)))
def aJZ (f:aE) (v:Nat) (row:List Int):List fC :=
 if ((row.length:Nat):Int)=lE f v then (match eH (iU f) row 0 with | some i=>[⟨1,v,(i:Nat)⟩] | none=>sP f (fR f v) v row) else [⟨1,v,(row.length:Nat)⟩]
theorem bnI (f:aE) (l:List (List Int)) (v:Nat):sG f l v=aJZ f v (l.getD v []):=by
 unfold sG jX aJZ
 split<;>rename_i h
 ·split at h
  ·rename_i c
   rw[if_pos c]
   cases hb:eH (iU f) (l.getD v []) 0 with
   | none=>rw[hb] at h; cases h
   | some i=>rw[hb] at h; cases h; rfl
  ·rename_i c
   rw[if_neg c]
   cases h; rfl
 ·split at h
  ·rename_i c
   rw[if_pos c]
   cases hb:eH (iU f) (l.getD v []) 0 with
   | none=>rfl
   | some i=>rw[hb] at h; cases h
  ·cases h
theorem bgJ (f:aE) (l:List (List Int)) (v:Nat):(jX f l v).isNone=(decide (((l.getD v []).length:Int)=lE f v)&&!decide (sX f (l.getD v [])≥0)):=by
 unfold jX sX
 split
 ·rename_i c
  rw[decide_eq_true c]
  cases eH (iU f) (l.getD v []) 0 with
  | none=>rfl
  | some i=>simp
 ·rename_i c
  rw[decide_eq_false c]; rfl
def ssS (f:aE) (row:List Int):Spec:=fun name vs=>match name,vs with
 | 89,_=>some ([],fun _=>aD (.int .i64 (sX f row)))
 | 82,[_,.int _ v]=>some ([],fun _=>aD (.int .i64 (lE f v.toNat)))
 | _,_=>none
theorem boH (f:aE) (row:List Int) (v:Nat):ssS f row 82 [.agg f.cells,.int .i64 v]=some ([],fun _=>aD (.int .i64 (lE f v))):=rfl
theorem a9K {C:Ctx} (L:akG C) (f:aE) (hf:f.Ok) (l:List (List Int)) (hl:eY l) :
  yO.wp C (aR SC.res (aD (.bool (rD f l)))) (PF.args [.agg f.cells,lay l]) .nil:=by
 simp only[go_sem,δ,γ,yO,afE,afF,SC]
 refine aA (L.valid f hf) rfl ?_
 unfold rD
 have hlr:=hl.rows
 cases hv:cV f with
 | false =>
  simp only[go_sem,γ,bKF,IL]
  refine aM (.inr rfl) rfl ?_
  simp[bH]
 | true =>
  have hV:=VF.of hv
  by_cases c:l.length=f.bHQ.length
  ·have c':(((l.length:Nat):Int) != ((f.bHQ.length:Nat):Int))=false:=bY Om
   rw[decide_eq_true c]
   simp only[go_sem,γ,reduceCtorEq,bJW,bJT,c',afG]
   generalize hq:(fun v=>(jX f l v).isNone)=q
   refine wp_loop (α:=Nat) (fun k=>(((PF.nil.set 1 (lay l)).set 2 (.bHX f.cells)).set 5 (.int .i64 k))) (fun _=>.nil) (fun k=>k≤l.length∧nU q k) (fun k=>l.length-k) 0 ⟨bKA _,.zero⟩ Lq PH.nil_le ?_
   rintro k ⟨hk,ha⟩
   simp only[go_sem,γ,afD,afH,bJT]
   by_cases hlt:k<l.length
   ·have bHV:(k:Int)<(l.length:Nat):=by omega
    have hqk:q k=(decide (((l[k]).length:Int)=lE f k)&&!decide (sX f l[k]≥0)):=by
     rw[← hq,← show l.getD k []=l[k] by simp[bKK,hlt]]; exact bgJ f l k
    have hrl:(l[k]).length≤16777216:=by
     have h1:=sY l (k+1)
     have:=hl.all
     rw[mV l hlt,bJX] at h1
     omega
    have hat:(l.map fun r=>[ints r])[k]?=some [ints l[k]]:=by simp[hlt]
    generalize l[k]=row at *
    simp only[go_sem,bHV]
    refine bL .nil (ssS f row) PH.nil_le ?_
    simp only[go_sem,δ,γ,afI,hat,bJT]
    refine bC (boH f row k) (L.frag f k hV Om) rfl PH.nil_le ?_
    by_cases c1:((row.length:Nat):Int)=lE f k
    ·rw[decide_eq_true c1,bKJ] at hqk
     simp only[go_sem,δ,γ,bY c1,hat]
     refine bC (show ssS f row 89 [.agg f.cells,ints row]=some ([],fun _=>aD (.int .i64 (sX f row))) from rfl) (L.bad f row hrl) rfl PH.nil_le ?_
     by_cases c2:sX f row≥0
     ·rw[decide_eq_true c2] at hqk
      simp only[go_sem,γ,reduceCtorEq,c2,IM]
      refine aM (.inr rfl) rfl ?_
      rw[bH,show (bJU l.length).all q=false from dM hlt hqk]
     ·rw[decide_eq_false c2] at hqk
      simp only[go_sem,γ,reduceCtorEq,c2,afJ,ws k]
      exact aC (k+1) ⟨hlt,ha.step hqk⟩ Om Lq PH.nil_le
    ·rw[decide_eq_false c1,bKC] at hqk
     simp only[go_sem,γ,cT c1,IM]
     refine aM (.inr rfl) rfl ?_
     rw[bH,show (bJU l.length).all q=false from dM hlt hqk]
   ·have bHV:¬ (k:Int)<(l.length:Nat):=by omega
    have:k=l.length:=by omega
    subst this
    simp only[go_sem,bHV,afK]
    refine aM (.inr rfl) rfl ?_
    rw[bH,show (bJU l.length).all q=true from ha]
  ·have c':(((l.length:Nat):Int) != ((f.bHQ.length:Nat):Int))=true:=cT Om
   simp only[go_sem,γ,reduceCtorEq,bJW,bJT,c',IL]
   refine aM (.inr rfl) rfl ?_
   rw[bH,decide_eq_false c]; simp
structure QZ (C:Ctx):Prop extends akG C where
 allowed:∀ (f:aE) (p:cJ) (d:Nat),VF f→Fits p.bHO→d<f.bHN.length→aI C 77 [.agg p.cells,.agg f.cells,.int .i64 d] .nil (aD (.bool (p.bHO.contains ((mdl f d:Nat):Int))))
 count:∀ (f:aE) (row:List Int) (n:Nat),VF f→tR f row→n<f.bHR.length→aI C 80 [.agg f.cells,ints row,.int .i64 n] .nil (aD (.int .i64 (row.countP (jR f n):Nat)))
theorem buJ {C:Ctx} (f:aE) (v:Nat) (row:List Int) (hr:tR f row) (K:cA) [Up K] (F:PF) (H:PH)
  (hF:((((((PF.nil.set 1 (.int .i64 v)).set 2 (ints row)).set 3 (.bHX f.cells)).set 8 (.bHP)).set 9 (.int .i64 0)):PF).le F)
  (hK:∀ w H',aX H' 3 w (cO (bM 2 v row.length (home row)))→K (.exit 0) (((((PF.nil.set 1 (.int .i64 v)).set 2 (ints row)).set 3 (.bHX f.cells)).set 8 (w))) H'):aB.wp C (.loop YU) K F H:=by
 obtain⟨hr1,hr2⟩:=hr
 refine wp_loop (α:=Nat × PV × PH) (fun t=>(((((PF.nil.set 1 (.int .i64 v)).set 2 (ints row)).set 3 (.bHX f.cells)).set 8 (t.2.1)).set 9 (.int .i64 t.1))) (fun t=>t.2.2) (fun t=>t.1≤row.length∧aX t.2.2 3 t.2.1 (cO (bM 2 v t.1 (home row)))) (fun t=>row.length-t.1) (0,.bHP,H) ⟨bKA _,.nil⟩ hF PH.le_refl ?_
 rintro⟨k,w,H0⟩ ⟨hk,hO⟩
 simp only at hk hO ⊢
 simp only[go_sem,γ,YU,a0B,bJT]
 by_cases hlt:k<row.length
 ·have bHV:(k:Int)<(row.length:Nat):=by omega
  have hat:(row.map fun n=>[PV.int .i64 n])[k]?=some [.int .i64 row[k]]:=by simp[hlt]
  have hx:=hr2 row[k] (bJZ hlt)
  have hh:home row k=decide (row[k]<0):=by simp[home,bKK,hlt]
  have e2:=fZ 2 v k (home row)
  have l2:=dD 2 v k (home row)
  generalize row[k]=x at *
  by_cases c:x=-1
  ·rw[if_pos (by rw[hh]; simp; omega)] at e2
   have bJH:(1:Nat)*3≤16777216:=by decide
   simp only[go_sem,ο,υ,δ,γ,η,θ,ζ,bHV,amQ,hat,bP c,aKV,bJH]
   refine dB (src:=[(⟨2,v,k⟩:fC).cells]) hO rfl (by unfold roomFor; rw[fI]; simp only[bKD,maxLen]; omega) fun v' H' g1 _=>?_
   rw[jG,← e2] at g1
   simp only[go_sem,γ,YZ,ws k]
   exact aC (k+1,v',H') ⟨hlt,g1⟩ (by simp only; omega) Lq PH.le_refl
  ·rw[if_neg (by rw[hh]; simp; omega)] at e2
   rw[← e2] at hO
   simp only[go_sem,ο,γ,bHV,amQ,hat,bF c,YZ,ws k]
   exact aC (k+1,w,H0) ⟨hlt,hO⟩ (by simp only; omega) Lq PH.le_refl
 ·have bHV:¬ (k:Int)<(row.length:Nat):=by omega
  have:k=row.length:=by omega
  subst this
  simp only[go_sem,bHV]
  exact Up.up Lq (hK w H0 hO)
theorem bxS {C:Ctx} (f:aE) (v:Nat) (row:List Int) (hrl:row.length≤16777216) (w:PV) (d:Nat) (K:cA) [Up K] (F:PF) (H:PH)
  (hF:((((((((PF.nil.set 1 (.int .i64 v)).set 2 (ints row)).set 3 (.bHX f.cells)).set 8 (w)).set 10 (.int .i64 d)).set 11 (.int .i64 0)).set 12 (.int .i64 0)):PF).le F)
  (hK:K (.exit 4) (((((((PF.nil.set 1 (.int .i64 v)).set 2 (ints row)).set 3 (.bHX f.cells)).set 8 (w)).set 10 (.int .i64 d)).set 11 (.int .i64 (row.count (d:Int):Nat)))) H):aB.wp C (.loop YV) K F H:=by
 refine wp_loop (α:=Nat) (fun k=>(((((((PF.nil.set 1 (.int .i64 v)).set 2 (ints row)).set 3 (.bHX f.cells)).set 8 (w)).set 10 (.int .i64 d)).set 11 (.int .i64 ((row.take k).count (d:Int):Nat))).set 12 (.int .i64 k))) (fun _=>H) (fun k=>k≤row.length) (fun k=>row.length-k) 0 (bKA _) hF PH.le_refl ?_
 intro k hk
 simp only[go_sem,γ,YV,aLA,bJT]
 by_cases hlt:k<row.length
 ·have bHV:(k:Int)<(row.length:Nat):=by omega
  have hat:(row.map fun n=>[PV.int .i64 n])[k]?=some [.int .i64 row[k]]:=by simp[hlt]
  have hs:=SS (p:=(·==(d:Int))) hlt
  have hle:(row.take k).count (d:Int)≤16777216:=bLV (List.count_le_length ..) (by rw[bKN]; omega)
  simp only[← List.count_eq_countP] at hs
  have fin:∀ (c:Nat) (F':PF),(row.take (k+1)).count (d:Int)=c→((((((((PF.nil.set 1 (.int .i64 v)).set 2 (ints row)).set 3 (.bHX f.cells)).set 8 (w)).set 10 (.int .i64 d)).set 11 (.int .i64 c)).set 12 (.int .i64 (k+1:Nat))):PF).le F' →
    dU (fun k:Nat=>(((((((PF.nil.set 1 (.int .i64 v)).set 2 (ints row)).set 3 (.bHX f.cells)).set 8 (w)).set 10 (.int .i64 d)).set 11 (.int .i64 ((row.take k).count (d:Int):Nat))).set 12 (.int .i64 k))) (fun _=>H) (fun k=>k≤row.length) (fun k=>row.length-k) (row.length-k) K .normal F' H :=
   fun c F' e h=>aC (k+1) hlt Om (by rw[e]; exact h) PH.le_refl
  generalize (row.take k).count (d:Int)=c at *
  generalize row[k]=x at *
  by_cases c1:x=d
  ·rw[if_pos (by simp[c1])] at hs
   simp only[go_sem,γ,bHV,ZA,hat,bP c1,aLB,ws c,ZB,ws k]
   exact fin (c+1) _ hs Lq
  ·rw[if_neg (by simp[c1]),bLP] at hs
   simp only[go_sem,γ,bHV,ZA,hat,bF c1,ZB,ws k]
   exact fin c _ hs Lq
 ·have bHV:¬ (k:Int)<(row.length:Nat):=by omega
  have:k=row.length:=by omega
  subst this
  simp only[go_sem,bHV,bKU]
  exact Up.up Lq hK
theorem boW (f:aE) (row:List Int) {k:Nat} (h:k<f.bHN.length):jM f row k=decide ((row.count (k:Int):Nat)>1):=by
 have:(dS f.bHN.length row)[k]?=some ((row.count (k:Int):Nat):Int):=by
  rw[bKG (by rw[fP]; exact h),RC _ h]
 rw[jM,bKK,this,bLX]
 exact decide_eq_decide.2 Om
theorem bnX {C:Ctx} (f:aE) (hV:VF f) (v:Nat) (row:List Int) (hrl:row.length≤16777216) (l0:List fC) (hl0:l0.length≤16777216) (w0:PV) (K:cA) [Up K] (F:PF) (H:PH)
  (hF:((((((PF.nil.set 1 (.int .i64 v)).set 2 (ints row)).set 3 (.bHX f.cells)).set 8 (w0)).set 10 (.int .i64 0)):PF).le F) (hH:aX H 3 w0 (cO l0))
  (hK:∀ w H',aX H' 3 w (cO (l0++bM 3 v f.bHN.length (jM f row)))→K (.exit 2) (((((PF.nil.set 1 (.int .i64 v)).set 2 (ints row)).set 3 (.bHX f.cells)).set 8 (w))) H'):aB.wp C (.loop YW) K F H:=by
 have hs:=hV.small.bHN
 refine wp_loop (α:=Nat × PV × PH) (fun t=>(((((PF.nil.set 1 (.int .i64 v)).set 2 (ints row)).set 3 (.bHX f.cells)).set 8 (t.2.1)).set 10 (.int .i64 t.1))) (fun t=>t.2.2) (fun t=>t.1≤f.bHN.length∧aX t.2.2 3 t.2.1 (cO (l0++bM 3 v t.1 (jM f row)))) (fun t=>f.bHN.length-t.1) (0,w0,H)
  ⟨bKA _,by rw[show bM 3 v 0 (jM f row)=[] from rfl,bLK]; exact hH⟩ hF PH.le_refl ?_
 rintro⟨k,w,H0⟩ ⟨hk,hO⟩
 simp only at hk hO ⊢
 simp only[go_sem,δ,γ,θ,YW,aKX,bJT]
 by_cases hlt:k<f.bHN.length
 ·have bHV:(k:Int)<(f.bHN.length:Nat):=by omega
  have e3:=fZ 3 v k (jM f row)
  have l3:=dD 3 v k (jM f row)
  rw[boW f row hlt] at e3
  simp only[go_sem,bHV,aKY,aKZ]
  have cnt:=bxS (C:=C) f v row hrl w k
  simp only[aB.wp,go_sem] at cnt
  refine cnt _ _ _ Lq ?_
  by_cases c:row.count (k:Int)>1
  ·have c':((row.count (k:Int):Nat):Int)>1:=by omega
   rw[if_pos (by simp; omega)] at e3
   have bJH:(1:Nat)*3≤16777216:=by decide
   simp only[go_sem,υ,δ,γ,η,θ,ζ,ZC,c',aLC,bJH]
   refine dB (src:=[(⟨3,v,k⟩:fC).cells]) hO rfl (by unfold roomFor; rw[fI,bJX]; simp only[bKD,maxLen]; omega) fun v' H' g1 _=>?_
   rw[jG,bKV,← e3] at g1
   simp only[go_sem,γ,ZD,ws k]
   exact aC (k+1,v',H') ⟨hlt,g1⟩ (by simp only; omega) Lq PH.le_refl
  ·have c':¬ ((row.count (k:Int):Nat):Int)>1:=by omega
   rw[if_neg (by simp; omega)] at e3
   rw[← e3] at hO
   simp only[go_sem,γ,ZC,c',ZD,ws k]
   exact aC (k+1,w,H0) ⟨hlt,hO⟩ (by simp only; omega) Lq PH.le_refl
 ·have bHV:¬ (k:Int)<(f.bHN.length:Nat):=by omega
  have:k=f.bHN.length:=by omega
  subst this
  simp only[go_sem,bHV]
  exact Up.up Lq (hK w H0 hO)
def raS (f:aE) (p:cJ):Spec:=fun name vs=>match name,vs with
 | 77,[_,_,.int _ d]=>some ([],fun _=>aD (.bool (p.bHO.contains ((mdl f d.toNat:Nat):Int))))
 | _,_=>none
theorem bxN (f:aE) (p:cJ) (d:Nat):raS f p 77 [.agg p.cells,.agg f.cells,.int .i64 d]=some ([],fun _=>aD (.bool (p.bHO.contains ((mdl f d:Nat):Int)))):=rfl
theorem bnV {C:Ctx} (L:QZ C) (f:aE) (hV:VF f) (p:cJ) (hp:Fits p.bHO) (o v:Nat) (row:List Int) (hr:tR f row) (l0:List fC) (hl0:l0.length≤100000000) (w0:PV) (K:cA) [Up K] (F:PF) (H:PH)
  (hF:(((((((PF.nil.set 1 (.int .i64 v)).set 2 (ints row)).set 3 (.bHX f.cells)).set 8 (w0)).set 13 (.ptr o 17 0 0)).set 14 (.int .i64 0)):PF).le F) (hH:aX H 3 w0 (cO l0)) (ho:H o=some (.rows 17 [p.cells]))
  (hK:∀ w H',aX H' 3 w (cO (l0++bM 4 v row.length (cS f p row)))→H' o=some (.rows 17 [p.cells])→K (.exit 6) ((((((PF.nil.set 1 (.int .i64 v)).set 2 (ints row)).set 3 (.bHX f.cells)).set 8 (w)).set 13 (.ptr o 17 0 0))) H'):aB.wp C (.loop YX) K F H:=by
 obtain⟨hr1,hr2⟩:=hr
 refine wp_loop (α:=Nat × PV × PH) (fun t=>((((((PF.nil.set 1 (.int .i64 v)).set 2 (ints row)).set 3 (.bHX f.cells)).set 8 (t.2.1)).set 13 (.ptr o 17 0 0)).set 14 (.int .i64 t.1))) (fun t=>t.2.2) (fun t=>t.1≤row.length∧aX t.2.2 3 t.2.1 (cO (l0++bM 4 v t.1 (cS f p row)))∧t.2.2 o=some (.rows 17 [p.cells])) (fun t=>row.length-t.1) (0,w0,H)
  ⟨bKA _,by rw[show bM 4 v 0 (cS f p row)=[] from rfl,bLK]; exact hH,ho⟩ hF PH.le_refl ?_
 rintro⟨k,w,H0⟩ ⟨hk,hO,ho0⟩
 simp only at hk hO ho0 ⊢
 have hle:=PH.aG PH.nil_le ho0
 simp only[go_sem,γ,YX,aLF,bJT]
 by_cases hlt:k<row.length
 ·have bHV:(k:Int)<(row.length:Nat):=by omega
  have hat:(row.map fun n=>[PV.int .i64 n])[k]?=some [.int .i64 row[k]]:=by simp[hlt]
  have hx:=hr2 row[k] (bJZ hlt)
  have hg:row.getD k 0=row[k]:=by simp[bKK,hlt]
  have ha:cS f p row k=(decide (0≤row[k])&&!p.bHO.contains ((mdl f (row[k]).toNat:Nat):Int)):=by rw[cS,hg]
  have e4:=fZ 4 v k (cS f p row)
  have l4:=dD 4 v k (cS f p row)
  rw[ha] at e4
  generalize row[k]=x at *
  have skip:∀ F',bM 4 v (k+1) (cS f p row)=bM 4 v k (cS f p row)→(((((((PF.nil.set 1 (.int .i64 v)).set 2 (ints row)).set 3 (.bHX f.cells)).set 8 (w)).set 13 (.ptr o 17 0 0)).set 14 (.int .i64 (k+1:Nat))):PF).le F' →
    dU (fun t:Nat × PV × PH=>((((((PF.nil.set 1 (.int .i64 v)).set 2 (ints row)).set 3 (.bHX f.cells)).set 8 (t.2.1)).set 13 (.ptr o 17 0 0)).set 14 (.int .i64 t.1))) (fun t=>t.2.2) (fun t=>t.1≤row.length∧aX t.2.2 3 t.2.1 (cO (l0++bM 4 v t.1 (cS f p row)))∧t.2.2 o=some (.rows 17 [p.cells])) (fun t=>row.length-t.1) (row.length-k) K .normal F' H0 :=
   fun F' e h=>aC (k+1,w,H0) ⟨hlt,by simp only; rw[e]; exact hO,ho0⟩ (by simp only; omega) h PH.le_refl
  simp only[go_sem,bHV]
  refine bL (PH.nil.set o (.rows 17 [p.cells])) (raS f p) hle ?_
  by_cases c:x≥0
  ·obtain⟨d,rfl⟩:∃ d:Nat,x=d:=⟨x.toNat,by omega⟩
   have hd:d<f.bHN.length:=by omega
   rw[decide_eq_true (Om:(0:Int)≤d),bKJ,bMQ] at e4
   simp only[go_sem,δ,γ,reduceCtorEq,ZE,hat,c,ho0]
   refine bC (bxN f p d) (L.allowed f p d hV hp hd) rfl hle ?_
   cases hb:p.bHO.contains ((mdl f d:Nat):Int) with
   | true =>
    rw[hb,if_neg (by decide)] at e4
    simp only[go_sem,γ,bJW,IJ,ws k]
    exact skip _ e4 Lq
   | false =>
    rw[hb,if_pos (by decide)] at e4
    have bJH:(1:Nat)*3≤16777216:=by decide
    simp only[go_sem,υ,δ,γ,η,θ,ζ,bKF,aLG,bJH]
    refine dB (src:=[(⟨4,v,k⟩:fC).cells]) hO rfl (by unfold roomFor; rw[fI,bJX]; simp only[bKD,maxLen]; omega) fun v' H' g1 g2=>?_
    rw[jG,bKV,← e4] at g1
    have go:=g2 o _ ho0 (hO.ne ho0 (by decide))
    simp only[go_sem,γ,IJ,ws k]
    exact aC (k+1,v',H') ⟨hlt,g1,go⟩ (by simp only; omega) Lq PH.le_refl
  ·rw[decide_eq_false (show ¬ 0≤x from c),bKC,if_neg (by decide)] at e4
   simp only[go_sem,γ,reduceCtorEq,ZE,hat,c,IJ,ws k]
   exact skip _ e4 Lq
 ·have bHV:¬ (k:Int)<(row.length:Nat):=by omega
  have:k=row.length:=by omega
  subst this
  simp only[go_sem,bHV]
  exact Up.up Lq (hK w H0 hO ho0)
theorem bjT (f:aE) (p:cJ) (row:List Int) {k:Nat} (h0:k≠0) (h:k<f.bHR.length):kI f p row k=(decide (dW f p k>0)&&decide (((row.countP (jR f k):Nat):Int)>dW f p k)):=by
 have:(dZ f row)[k]?=some ((row.countP (jR f k):Nat):Int):=by
  simp only[dZ,bLC,List.getElem?_range h,bKZ,nA,if_neg h0]
 rw[kI,bKK,this,bLX]
theorem bbK (f:aE) (hV:VF f) (p:cJ) (v:Int) (row:List Int):bM 5 v 1 (kI f p row)=[]:=by
 have h:=hV.root.1
 have h0:(dZ f row)[0]?=some 0:=by
  simp only[dZ,bLC,List.getElem?_range h,bKZ,nA,if_true]
 have:kI f p row 0=false:=by
  rw[kI,bKK,h0,bLX]
  by_cases c:dW f p 0>0
  ·rw[decide_eq_false (Om:¬ (0:Int)>dW f p 0),bLE]
  ·rw[decide_eq_false c,bKC]
 rw[fZ,this]; rfl
theorem bnW {C:Ctx} (L:QZ C) (f:aE) (hV:VF f) (p:cJ) (o v:Nat) (row:List Int) (hr:tR f row) (l0:List fC) (hl0:l0.length≤200000000) (w0:PV) (K:cA) [Up K] (F:PF) (H:PH)
  (hF:(((((((PF.nil.set 1 (.int .i64 v)).set 2 (ints row)).set 3 (.bHX f.cells)).set 8 (w0)).set 13 (.ptr o 17 0 0)).set 15 (.int .i64 1)):PF).le F) (hH:aX H 3 w0 (cO l0)) (ho:H o=some (.rows 17 [p.cells]))
  (hK:∀ w H',aX H' 3 w (cO (l0++bM 5 v f.bHR.length (kI f p row)))→K (.exit 8) ((PF.nil.set 8 (w))) H'):aB.wp C (.loop YY) K F H:=by
 have hs:=hV.small.bHR
 refine wp_loop (α:=Nat × PV × PH) (fun t=>((((((PF.nil.set 1 (.int .i64 v)).set 2 (ints row)).set 3 (.bHX f.cells)).set 8 (t.2.1)).set 13 (.ptr o 17 0 0)).set 15 (.int .i64 t.1))) (fun t=>t.2.2) (fun t=>1≤t.1∧t.1≤f.bHR.length∧aX t.2.2 3 t.2.1 (cO (l0++bM 5 v t.1 (kI f p row)))∧t.2.2 o=some (.rows 17 [p.cells])) (fun t=>f.bHR.length-t.1) (1,w0,H)
  ⟨bKB _,hV.root.1,by rw[bbK f hV,bLK]; exact hH,ho⟩ hF PH.le_refl ?_
 rintro⟨k,w,H0⟩ ⟨hk1,hk,hO,ho0⟩
 simp only at hk1 hk hO ho0 ⊢
 simp only[go_sem,δ,γ,θ,YY,aLI,bJT]
 by_cases hlt:k<f.bHR.length
 ·have bHV:(k:Int)<(f.bHR.length:Nat):=by omega
  have e5:=fZ 5 v k (kI f p row)
  have l5:=dD 5 v k (kI f p row)
  rw[bjT f p row Om hlt] at e5
  obtain⟨q0,q4,-⟩:=hV.oO hlt
  have h5:((lvl f k)<((5:Nat):Int)):=by omega
  have fin:∀ (F':PF),((((((((PF.nil.set 1 (.int .i64 v)).set 2 (ints row)).set 3 (.bHX f.cells)).set 8 (w)).set 13 (.ptr o 17 0 0)).set 15 (.int .i64 k)).set 16 (.int .i64 (dW f p k))):PF).le F' →
    aB.wp C (.seq (.region IK) (.cond (.tmp 145) (.region ZF) .skip)) (dN 9 (iV C (aB.wp C (.region yN)) (dU (fun t:Nat × PV × PH=>((((((PF.nil.set 1 (.int .i64 v)).set 2 (ints row)).set 3 (.bHX f.cells)).set 8 (t.2.1)).set 13 (.ptr o 17 0 0)).set 15 (.int .i64 t.1))) (fun t=>t.2.2) (fun t=>1≤t.1∧t.1≤f.bHR.length∧aX t.2.2 3 t.2.1 (cO (l0++bM 5 v t.1 (kI f p row)))∧t.2.2 o=some (.rows 17 [p.cells])) (fun t=>f.bHR.length-t.1) (f.bHR.length-k) K))) F' H0:=by
   intro F' hF'
   refine sR _ (fun _ _ _ _ a b=>Up.up a b) hF' ?_
   have hle:row.countP (jR f k)≤16777216:=bLV List.countP_le_length hr.len
   generalize dW f p k=mo at *
   by_cases c1:mo>0
   ·rw[decide_eq_true c1,bKJ] at e5
    simp only[go_sem,δ,γ,IK,c1]
    refine aA (L.count f row k hV hr hlt) rfl ?_
    by_cases c2:((row.countP (jR f k):Nat):Int)>mo
    ·rw[decide_eq_true c2,if_pos rfl] at e5
     have bJH:(1:Nat)*3≤16777216:=by decide
     simp only[go_sem,υ,δ,γ,η,θ,ζ,c2,ZF,bJH]
     refine dB (src:=[(⟨5,v,k⟩:fC).cells]) hO rfl (by unfold roomFor; rw[fI,bJX]; simp only[bKD,maxLen]; omega) fun v' H' g1 g2=>?_
     rw[jG,bKV,← e5] at g1
     have go:=g2 o _ ho0 (hO.ne ho0 (by decide))
     simp only[go_sem,γ,yN,ws k]
     exact aC (k+1,v',H') ⟨by omega,hlt,g1,go⟩ (by simp only; omega) Lq PH.le_refl
    ·rw[decide_eq_false c2,if_neg (by decide)] at e5
     rw[← e5] at hO
     simp only[go_sem,γ,c2,yN,ws k]
     exact aC (k+1,w,H0) ⟨by omega,hlt,hO,ho0⟩ (by simp only; omega) Lq PH.le_refl
   ·rw[decide_eq_false c1,bKC,if_neg (by decide)] at e5
    rw[← e5] at hO
    simp only[go_sem,γ,reduceCtorEq,IK,c1,yN,ws k]
    exact aC (k+1,w,H0) ⟨by omega,hlt,hO,ho0⟩ (by simp only; omega) Lq PH.le_refl
  simp only[aB.wp,go_sem,dW] at fin
  simp only[go_sem,δ,γ,θ,bHV,aLJ,eQ hlt,yD hlt,q0,h5,Nat.mul_one]
  have hc:lvl f k=0∨lvl f k=1∨lvl f k=2∨lvl f k=3∨lvl f k=4:=by omega
  rcases hc with h | h | h | h | h
  all_goals
   rw[h] at fin ⊢
   simp only[go_sem,ν,δ,γ,θ,ho0]
   exact fin _ (by (repeat' (first|exact PF.nil_le|refine PF.aG ?_ ?_))<;>first|(simp only[go_sem,ν,γ,cJ.spread]<;>rfl)|rfl)
 ·have bHV:¬ (k:Int)<(f.bHR.length:Nat):=by omega
  have:k=f.bHR.length:=by omega
  subst this
  simp only[go_sem,bHV]
  exact Up.up Lq (hK w H0 hO)
theorem bqW {f:aE} {row:List Int} (hl:row.length≤16777216) (h:eH (iU f) row 0=none):tR f row:=⟨hl,fun x hx=>by
 have:=vG h x hx
 simp[iU] at this
 omega⟩
theorem buR {C:Ctx} (L:QZ C) (f:aE) (hV:VF f) (bJE:∀ p∈f.bHS,Fits p.bHO) (v:Nat) (hvf:v<f.bHQ.length) (row:List Int) (hrl:row.length≤16777216) :
  OY.wp C (aR a9J.res (bQ (mB (aJZ f v row)))) (PF.args [.agg f.cells,.int .i64 v,ints row]) .nil:=by
 have h13:(1:Nat)*3≤16777216:=by decide
 simp only[go_sem,δ,γ,OY,aZU,aZV,a9J,bJT]
 refine aA (L.frag f v hV hvf) rfl ?_
 unfold aJZ
 by_cases c:((row.length:Nat):Int)=lE f v
 ·rw[if_pos c]
  simp only[go_sem,δ,γ,bY c,aZX]
  refine aA (L.bad f row hrl) rfl ?_
  cases hb:eH (iU f) row 0 with
  | some i =>
   have hbi:sX f row=(i:Int):=by rw[sX,hb]
   simp only[go_sem,υ,δ,γ,η,θ,ζ,amP,hbi,show (i:Int)≥0 by omega,aZY,h13]
   exact aV (.inr rfl) .nil rfl PH.nil_le ⟨.refl _,rfl⟩
  | none =>
   have hbi:sX f row=-1:=by rw[sX,hb]
   have hr:=bqW hrl hb
   obtain⟨hp,he⟩:=yI hV hvf
   have hms:=bJE _ (bJZ hp)
   rw[he] at hms
   have hs:=hV.small
   have s1:=hs.bHN
   have s2:=hs.bHR
   have l2:=dD 2 v row.length (home row)
   have l3:=dD 3 v f.bHN.length (jM f row)
   have l4:=dD 4 v row.length (cS f (fR f v) row)
   simp only[go_sem,ο,γ,amP,hbi,show ¬ (-1:Int)≥0 by omega,aZZ,a0A]
   have p1:=buJ (C:=C) f v row hr
   simp only[aB.wp,go_sem] at p1
   refine p1 _ _ _ Lq fun w1 H1 g1=>?_
   simp only[go_sem,aKW]
   have p2:=bnX (C:=C) f hV v row hrl (bM 2 v row.length (home row)) Om w1
   simp only[aB.wp,go_sem] at p2
   refine p2 _ _ _ Lq g1 fun w2 H2 g2=>?_
   simp only[go_sem]
   refine bL .nil dJ PH.nil_le ?_
   simp only[go_sem,δ,γ,θ,aLD,wQ hvf,hV.aeF hvf,pX hp,he]
   refine aO fun o ho=>?_
   simp only[go_sem,δ,γ,aLE]
   have p3:=bnV L f hV (fR f v) hms o v row hr (bM 2 v row.length (home row)++bM 3 v f.bHN.length (jM f row)) (by rw[bJX]; omega) w2
   simp only[aB.wp,go_sem] at p3
   refine⟨PH.nil_le,?_⟩
   refine p3 _ _ _ Lq (g2.fresh ho _).1 Sq fun w3 H3 g3 k3=>?_
   simp only[go_sem,aLH]
   have p4:=bnW L f hV (fR f v) o v row hr (bM 2 v row.length (home row)++bM 3 v f.bHN.length (jM f row)++bM 4 v row.length (cS f (fR f v) row)) (by simp only[bJX]; omega) w3
   simp only[aB.wp,go_sem] at p4
   refine p4 _ _ _ Lq g3 k3 fun w4 H4 g4=>?_
   simp only[go_sem,γ,aLK]
   exact kL (.inr rfl) g4 rfl
 ·rw[if_neg c]
  simp only[go_sem,υ,δ,γ,η,θ,ζ,cT c,aZW,h13,bJT]
  exact aV (.inr rfl) .nil rfl PH.nil_le ⟨.refl _,rfl⟩
structure akH (C:Ctx):Prop extends rO C where
 room:∀ (f:aE) (room:List Int),f.Ok→aI C 85 [.agg f.cells,ints room] .nil (aD (ints (mG f room)))
 loads:∀ (f:aE) (l:List (List Int)),f.Ok→eY l→aI C 84 [.agg f.cells,lay l] .nil (aD (ints (lS f l)))
 row:∀ (f:aE) (v:Nat) (row:List Int),VF f→(∀ p∈f.bHS,Fits p.bHO)→v<f.bHQ.length→row.length≤16777216→aI C 90 [.agg f.cells,.int .i64 v,ints row] .nil (aD (mB (aJZ f v row)))
def svS (f:aE) (l:List (List Int)) (room:List Int):Spec:=fun name vs=>match name,vs with
 | 90,[_,.int _ v,_]=>some ([],fun _=>aD (mB (sG f l v.toNat)))
 | 85,_=>some ([],fun _=>aD (ints (mG f room)))
 | 84,_=>some ([],fun _=>aD (ints (lS f l)))
 | _,_=>none
theorem buU {C:Ctx} (f:aE) (hV:VF f) (l:List (List Int)) (room:List Int) (l0:List fC) (hl0:l0.length≤2000000000) (w0:PV) (K:cA) [Up K] (F:PF) (H:PH)
  (hF:(((((PF.nil.set 7 (w0)).set 9 (ints (fV f room))).set 10 (ints (fF f l))).set 11 (.int .i64 0)):PF).le F) (hO:aX H 3 w0 (cO l0))
  (hK:∀ w H',aX H' 3 w (cO (l0++bM 6 (-1) f.bHN.length (over f l room)))→K (.exit 2) ((PF.nil.set 7 (w))) H'):aB.wp C (.loop PB) K F H:=by
 have hs:=hV.small.bHN
 have hrl:=oT f room
 refine wp_loop (α:=Nat × PV × PH) (fun t=>((((PF.nil.set 7 (t.2.1)).set 9 (ints (fV f room))).set 10 (ints (fF f l))).set 11 (.int .i64 t.1))) (fun t=>t.2.2) (fun t=>t.1≤f.bHN.length∧aX t.2.2 3 t.2.1 (cO (l0++bM 6 (-1) t.1 (over f l room)))) (fun t=>f.bHN.length-t.1) (0,w0,H)
  ⟨bKA _,by rw[show bM 6 (-1) 0 (over f l room)=[] from rfl,bLK]; exact hO⟩ hF PH.le_refl ?_
 rintro⟨k,w,H0⟩ ⟨hk,g7⟩
 simp only at hk g7 ⊢
 simp only[go_sem,ο,γ,PB,asK,bJT,hrl]
 by_cases hlt:k<f.bHN.length
 ·have bHV:(k:Int)<(f.bHN.length:Nat):=by omega
  have hk1:k<(fF f l).length:=by rw[fF,fP]; exact hlt
  have hk2:k<(fV f room).length:=by rw[oT]; exact hlt
  have a1:((fF f l).map fun n=>[PV.int .i64 n])[k]?=some [.int .i64 (fF f l)[k]]:=by simp[hk1]
  have a2:((fV f room).map fun n=>[PV.int .i64 n])[k]?=some [.int .i64 (fV f room)[k]]:=by simp[hk2]
  have ho:over f l room k=decide ((fF f l)[k]>(fV f room)[k]):=by simp only[over,bKK,bKG hk1,bKG hk2,bLX]
  have e6:=fZ 6 (-1) k (over f l room)
  have l6:=dD 6 (-1) k (over f l room)
  rw[ho] at e6
  generalize (fF f l)[k]=x at *
  generalize (fV f room)[k]=y at *
  simp only[go_sem,ο,bHV]
  refine bL .nil dJ PH.nil_le ?_
  by_cases c:x>y
  ·rw[if_pos (decide_eq_true c)] at e6
   have bJH:(1:Nat)*3≤16777216:=by decide
   simp only[go_sem,ο,υ,δ,γ,η,θ,ζ,PC,a1,a2,c,asL,bJH]
   refine dB (src:=[(⟨6,-1,k⟩:fC).cells]) g7 rfl (by unfold roomFor; rw[fI,bJX]; simp only[bKD,maxLen]; omega) fun v' H' k1 _=>?_
   rw[jG,bKV,← e6] at k1
   simp only[go_sem,ο,γ,PD,ws k]
   exact aC (k+1,v',H') ⟨hlt,k1⟩ (by simp only; omega) Lq PH.le_refl
  ·rw[if_neg (by rw[decide_eq_false c]; decide)] at e6
   rw[← e6] at g7
   simp only[go_sem,ο,γ,PC,a1,a2,c,PD,ws k]
   exact aC (k+1,w,H0) ⟨hlt,g7⟩ (by simp only; omega) Lq PH.le_refl
 ·have bHV:¬ (k:Int)<(f.bHN.length:Nat):=by omega
  have:k=f.bHN.length:=by omega
  subst this
  simp only[go_sem,ο,bHV]
  exact Up.up Lq (hK w H0 g7)
theorem boJ {C:Ctx} (L:akH C) (f:aE) (hf:f.Ok) (l:List (List Int)) (hl:eY l) (room:List Int) :
  IP.wp C (aR azC.res (bQ (mB (jN f l room)))) (PF.args [.agg f.cells,lay l,ints room]) .nil:=by
 simp only[go_sem,δ,γ,IP,aLN,aLO,azC]
 refine aA (L.valid f hf) rfl ?_
 unfold jN
 have hlr:=hl.rows
 have bJE:∀ p∈f.bHS,Fits p.bHO:=fun p hp=>(hf.bID p hp).bHO
 cases hv:cV f with
 | false =>
  simp only[go_sem,ο,γ,reduceCtorEq,bKF,aLP]
  exact kL (rows:=[]) (.inr rfl) .nil rfl
 | true =>
  have hV:=VF.of hv
  by_cases c:l.length=f.bHQ.length
  ·have c':(((l.length:Nat):Int) != ((f.bHQ.length:Nat):Int))=false:=bY Om
   rw[if_pos c]
   have hv12:=hV.small.bHQ
   simp only[go_sem,γ,bJW,ZI,bJT,c',aLR,aLS]
   refine wp_loop (α:=Nat × PV × PH) (fun t=>(((((PF.nil.set 1 (lay l)).set 2 (ints room)).set 3 (.bHX f.cells)).set 7 (t.2.1)).set 8 (.int .i64 t.1))) (fun t=>t.2.2) (fun t=>t.1≤l.length∧aX t.2.2 3 t.2.1 (cO (nZ f l t.1))) (fun t=>l.length-t.1) (0,.bHP,.nil) ⟨bKA _,.nil⟩ Lq PH.nil_le ?_
   rintro⟨k,w,H0⟩ ⟨hk,hO⟩
   simp only at hk hO ⊢
   simp only[go_sem,γ,asH,aLT,bJT]
   by_cases hlt:k<l.length
   ·have bHV:(k:Int)<(l.length:Nat):=by omega
    have hfl:=qV hV.small hl (n:=k) Om
    have bIL:=FF f l k
    have bJH:=YI hV.small hl hlt
    have hrl:(l[k]).length≤16777216:=by
     have h1:=sY l (k+1)
     have:=hl.all
     rw[mV l hlt,bJX] at h1
     omega
    have hat:(l.map fun r=>[ints r])[k]?=some [ints l[k]]:=by simp[hlt]
    have bIC:=L.row f k l[k] hV bJE Om hrl
    rw[← show l.getD k []=l[k] by simp[bKK,hlt],← bnI] at bIC
    rw[show l.getD k []=l[k] by simp[bKK,hlt]] at bIC
    simp only[go_sem,bHV]
    refine bL .nil (svS f l room) PH.nil_le ?_
    simp only[go_sem,δ,γ,aLU,hat]
    refine bC (show svS f l room 90 [.agg f.cells,.int .i64 k,ints l[k]]=some ([],fun _=>aD (mB (sG f l k))) from rfl) bIC rfl PH.nil_le ?_
    simp only[go_sem,γ]
    refine dB (src:=cO (sG f l k)) hO rfl (by unfold roomFor; rw[fI,fI]; simp only[maxLen]; omega) fun v' H' k1 _=>?_
    have hvr:cO (nZ f l k)++cO (sG f l k)=cO (nZ f l (k+1)):=by rw[bIL]; simp only[cO,bLT]
    rw[hvr] at k1
    refine⟨PH.nil_le,?_⟩
    simp only[go_sem,γ,aLV,ws k]
    exact aC (k+1,v',H') ⟨hlt,k1⟩ (by simp only; omega) Lq PH.le_refl
   ·have bHV:¬ (k:Int)<(l.length:Nat):=by omega
    have:k=l.length:=by omega
    subst this
    have hfl:=qV hV.small hl (n:=l.length) (bKB _)
    have bIV:=L.room f room hf
    have hloads:=L.loads f l hf hl
    have e1:mG f room=fV f room:=by rw[mG,hv]; rfl
    have e2:lS f l=fF f l:=by rw[lS,hv]; rfl
    simp only[go_sem,bHV]
    refine bL .nil (svS f l room) PH.nil_le ?_
    simp only[go_sem,δ,γ,asI]
    refine bC (show svS f l room 85 [.agg f.cells,ints room]=some ([],fun _=>aD (ints (mG f room))) from rfl) bIV rfl PH.nil_le ?_
    simp only[go_sem,δ,γ]
    refine bC (show svS f l room 84 [.agg f.cells,lay l]=some ([],fun _=>aD (ints (lS f l))) from rfl) hloads rfl PH.nil_le ?_
    rw[e1,e2]
    simp only[go_sem,γ,asJ]
    have p1:=buU (C:=C) f hV l room (nZ f l l.length) Om w
    simp only[aB.wp,go_sem] at p1
    refine p1 _ _ H0 Lq hO fun w' H' hO'=>?_
    simp only[go_sem,γ,asM]
    exact kL (.inr rfl) hO' rfl
  ·have c':(((l.length:Nat):Int) != ((f.bHQ.length:Nat):Int))=true:=cT Om
   have h13:(1:Nat)*3≤16777216:=by decide
   rw[if_neg c]
   simp only[go_sem,ο,υ,δ,γ,η,θ,ζ,bJW,ZI,bJT,c',aLQ,h13]
   exact aV (.inr rfl) .nil rfl PH.nil_le ⟨.refl _,rfl⟩
structure bbG (C:Ctx):Prop extends akH C where
 viol:∀ (f:aE) (l:List (List Int)) (room:List Int),f.Ok→eY l→aI C 87 [.agg f.cells,lay l,ints room] .nil (aD (mB (jN f l room)))
theorem bgK {C:Ctx} (L:bbG C) (f:aE) (hf:f.Ok) (l:List (List Int)) (hl:eY l) (room:List Int) :
  CD.wp C (aR aeY.res (aD (.bool (oM f l room)))) (PF.args [.agg f.cells,lay l,ints room]) .nil:=by
 simp only[go_sem,δ,γ,CD,arT,arU,aeY]
 refine aA (L.valid f hf) rfl ?_
 unfold oM
 cases hv:cV f with
 | false =>
  simp only[go_sem,γ,reduceCtorEq]
  refine aM (.inr rfl) rfl ?_
  rfl
 | true =>
  simp only[go_sem,δ,γ]
  refine aA (L.viol f l room hf hl) rfl ?_
  by_cases c:(jN f l room).length=0
  ·simp only[go_sem,γ,bJT,bP (show (((jN f l room).length:Nat):Int)=0 by omega)]
   refine aM (.inr rfl) rfl ?_
   simp[bH,c]
  ·simp only[go_sem,γ,bJT,bF (show (((jN f l room).length:Nat):Int)≠0 by omega)]
   refine aM (.inr rfl) rfl ?_
   rw[bH,decide_eq_false c]
theorem bkA {C:Ctx} (l:List Int) (hl:Fits l):FA.wp C (aR ayK.res (aD (.bool true))) (PF.args [ints l,ints l]) .nil:=by
 have hl':l.length≤9223372036854775807:=hl
 simp only[go_sem,γ,reduceCtorEq,FA,aBG,aBH,ayK,bJT,bY (show ((l.length:Nat):Int)=(l.length:Nat) from rfl),aBI]
 refine wp_loop (α:=Nat) (fun k=>(((PF.nil.set 0 (ints l)).set 1 (ints l)).set 5 (.int .i64 k))) (fun _=>.nil) (fun k=>k≤l.length) (fun k=>l.length-k) 0 (bKA _) Lq PH.nil_le ?_
 intro k hk
 simp only[go_sem,γ,reduceCtorEq,aBF,aBJ,bJT]
 by_cases hlt:k<l.length
 ·have bHV:(k:Int)<(l.length:Nat):=by omega
  have hat:(l.map fun x=>[PV.int .i64 x])[k]?=some [.int .i64 l[k]]:=by simp[hlt]
  simp only[go_sem,bHV]
  refine bL .nil dJ PH.nil_le ?_
  simp only[go_sem,γ,reduceCtorEq,aBK,hat,bY (show l[k]=l[k] from rfl),aBL,ws k]
  exact aC (k+1) hlt Om Lq PH.le_refl
 ·have bHV:¬ (k:Int)<(l.length:Nat):=by omega
  simp only[go_sem,bHV,aBM]
  refine aM (.inr rfl) rfl ?_
  rfl
theorem blO {C:Ctx} (l:List fC) (hl:Fits l):GG.wp C (aR ayT.res (aD (.bool true))) (PF.args [mB l,mB l]) .nil:=by
 have hl':l.length≤9223372036854775807:=hl
 simp only[go_sem,γ,reduceCtorEq,GG,aFK,aFL,ayT,bJT,bY (show ((l.length:Nat):Int)=(l.length:Nat) from rfl),aFM]
 refine wp_loop (α:=Nat) (fun k=>(((PF.nil.set 0 (mB l)).set 1 (mB l)).set 5 (.int .i64 k))) (fun _=>.nil) (fun k=>k≤l.length) (fun k=>l.length-k) 0 (bKA _) Lq PH.nil_le ?_
 intro k hk
 simp only[go_sem,γ,reduceCtorEq,aFJ,aFN,bJT]
 by_cases hlt:k<l.length
 ·have bHV:(k:Int)<(l.length:Nat):=by omega
  have hat:(l.map fC.cells)[k]?=some (l[k]).cells:=by simp[hlt]
  simp only[go_sem,bHV]
  refine bL .nil dJ PH.nil_le ?_
  simp only[go_sem,δ,γ,reduceCtorEq,aFO,hat,beq_self_eq_true,aFP,ws k]
  exact aC (k+1) hlt Om Lq PH.le_refl
 ·have bHV:¬ (k:Int)<(l.length:Nat):=by omega
  simp only[go_sem,bHV,aFQ]
  refine aM (.inr rfl) rfl ?_
  rfl
structure bqI (C:Ctx):Prop extends LM C where
 rat:∀ f:aE,f.Ok→∀ d level:Int,aI C 78 [.agg f.cells,.int .i64 d,.int .i64 level] .nil (aD (.int .i64 (atP f d level)))
 rchild:∀ f:aE,f.Ok→∀ d:Int,aI C 79 [.agg f.cells,.int .i64 d] .nil (aD (ints (rR f d)))
 rdrives:∀ f:aE,f.Ok→∀ d:Int,aI C 81 [.agg f.cells,.int .i64 d] .nil (aD (ints (mO f d)))
 rholds:∀ (f:aE) (l:List (List Int)) (room:List Int),f.Ok→eY l→aI C 83 [.agg f.cells,lay l,ints room] .nil (aD (.bool (oM f l room)))
 rloads:∀ (f:aE) (l:List (List Int)),f.Ok→eY l→aI C 84 [.agg f.cells,lay l] .nil (aD (ints (lS f l)))
 rroom:∀ (f:aE) (room:List Int),f.Ok→aI C 85 [.agg f.cells,ints room] .nil (aD (ints (mG f room)))
 rshaped:∀ (f:aE) (l:List (List Int)),f.Ok→eY l→aI C 86 [.agg f.cells,lay l] .nil (aD (.bool (rD f l)))
 rviol:∀ (f:aE) (l:List (List Int)) (room:List Int),f.Ok→eY l→aI C 87 [.agg f.cells,lay l,ints room] .nil (aD (mB (jN f l room)))
 same:∀ l:List Int,Fits l→aI C 94 [ints l,ints l] .nil (aD (.bool true))
 list:∀ l:List fC,Fits l→aI C 22 [mB l,mB l] .nil (aD (.bool true))
theorem aQM {f:aE} (hf:f.Ok) (d:Int):Fits (mO f d):=by
 unfold mO
 split
 ·exact bLV (tI _ _) hf.bHN
 ·exact bKA _
theorem a4O {f:aE} (hf:f.Ok) (d:Int):Fits (rR f d):=by
 unfold rR
 split
 ·exact bLV (tI _ _) hf.bHR
 ·exact bKA _
theorem a4P {f:aE} (hf:f.Ok) (l:List (List Int)):Fits (lS f l):=by
 unfold lS
 split
 ·unfold Fits
  rw[fF,fP]; exact hf.bHN
 ·exact bKA _
theorem bbW {f:aE} (hf:f.Ok) (l:List Int):Fits (mG f l):=by
 unfold mG
 split
 ·unfold Fits
  rw[oT]; exact hf.bHN
 ·exact bKA _
theorem bbX {f:aE} {l:List (List Int)} (hl:eY l) (room:List Int):Fits (jN f l room):=by
 unfold jN Fits
 split
 ·rename_i hv
  have hV:=VF.of hv
  split
  ·rename_i he
   have h1:=qV hV.small hl (n:=l.length) (bKB _)
   have h2:=dD 6 (-1) f.bHN.length (over f l room)
   have h3:=hV.small.bHQ
   have h4:=hV.small.bHN
   rw[bqR,bJX]
   omega
  ·simp
 ·simp
def agS (f:aE) (l:List (List Int)) (room:List Int) (d level dom:Int):Spec:=fun name _=>match name with
 | 147 | 78=>some ([],fun _=>aD (.int .i64 (atP f d level)))
 | 149 | 81=>some ([],fun _=>aD (ints (mO f dom)))
 | 148 | 79=>some ([],fun _=>aD (ints (rR f dom)))
 | 151 | 84=>some ([],fun _=>aD (ints (lS f l)))
 | 152 | 85=>some ([],fun _=>aD (ints (mG f room)))
 | 153 | 86=>some ([],fun _=>aD (.bool (rD f l)))
 | 154 | 87=>some ([],fun _=>aD (mB (jN f l room)))
 | 150 | 83=>some ([],fun _=>aD (.bool (oM f l room)))
 | 94 | 22=>some ([],fun _=>aD (.bool true))
 | _=>none
theorem aTS (b:Bool):((b==b) != false)=true:=by cases b<;>rfl
theorem a5R {C:Ctx} (L:bqI C) (f:aE) (hf:f.Ok) (l:List (List Int)) (hl:eY l) (room:List Int) (d level dom:Int) :
  yC.wp C (aR RP.res (aD (.bool true))) (PF.args [.agg f.cells,lay l,ints room,.int .i64 d,.int .i64 level,.int .i64 dom]) .nil:=by
 have b1:=aTS (rD f l)
 have b2:=aTS (oM f l room)
 simp only[go_sem,yC,acD,RP]
 refine bL .nil (agS f l room d level dom) PH.nil_le ?_
 simp only[go_sem,δ,γ,acE]
 refine bC rfl (L.at_ f hf d level) rfl PH.nil_le ?_
 simp only[go_sem,δ,γ]
 refine bC rfl (L.rat f hf d level) rfl PH.nil_le ?_
 simp only[go_sem,δ,γ,bP (show atP f d level=atP f d level from rfl)]
 refine bC rfl (L.bHN f hf dom) rfl PH.nil_le ?_
 simp only[go_sem,δ,γ]
 refine bC rfl (L.rdrives f hf dom) rfl PH.nil_le ?_
 simp only[go_sem,γ]
 refine bC rfl (L.same _ (aQM hf dom)) rfl PH.nil_le ?_
 simp only[go_sem,δ,γ]
 refine bC rfl (L.child f hf dom) rfl PH.nil_le ?_
 simp only[go_sem,δ,γ]
 refine bC rfl (L.rchild f hf dom) rfl PH.nil_le ?_
 simp only[go_sem,γ]
 refine bC rfl (L.same _ (a4O hf dom)) rfl PH.nil_le ?_
 simp only[go_sem,δ,γ]
 refine bC rfl (L.loads f l hf hl) rfl PH.nil_le ?_
 simp only[go_sem,δ,γ]
 refine bC rfl (L.rloads f l hf hl) rfl PH.nil_le ?_
 simp only[go_sem,γ]
 refine bC rfl (L.same _ (a4P hf l)) rfl PH.nil_le ?_
 simp only[go_sem,δ,γ]
 refine bC rfl (L.room f room hf) rfl PH.nil_le ?_
 simp only[go_sem,δ,γ]
 refine bC rfl (L.rroom f room hf) rfl PH.nil_le ?_
 simp only[go_sem,γ]
 refine bC rfl (L.same _ (bbW hf room)) rfl PH.nil_le ?_
 simp only[go_sem,δ,γ]
 refine bC rfl (L.shaped f l hf hl) rfl PH.nil_le ?_
 simp only[go_sem,δ,γ]
 refine bC rfl (L.rshaped f l hf hl) rfl PH.nil_le ?_
 simp only[go_sem,δ,γ,b1]
 refine bC rfl (L.viol f l room hf hl) rfl PH.nil_le ?_
 simp only[go_sem,δ,γ]
 refine bC rfl (L.rviol f l room hf hl) rfl PH.nil_le ?_
 simp only[go_sem,γ]
 refine bC rfl (L.list _ (bbX hl room)) rfl PH.nil_le ?_
 simp only[go_sem,δ,γ]
 refine bC rfl (L.holds f l room hf hl) rfl PH.nil_le ?_
 simp only[go_sem,δ,γ]
 refine bC rfl (L.rholds f l room hf hl) rfl PH.nil_le ?_
 simp only[go_sem,γ,b2]
 refine aM (.inr rfl) rfl ?_
 rfl
def gI (l:List (List Int)):Nat→Nat
 | 0=>l.length
 | k+1=>gI l k+(l.getD k []).length
theorem TA (l:List (List Int)):∀ k,k≤l.length→gI l k=l.length+(l.take k).flatten.length
 | 0,_=>by simp[gI]
 | k+1,h=>by
  rw[gI,TA l k Om,mV l h,bJX,bKK,bKG h,bLX]
  omega
theorem TB (l:List (List Int)):∀ {k n:Nat},k≤n→gI l k≤gI l n
 | k,0,h=>by rw[Nat.le_zero.1 h]; exact bKB _
 | k,n+1,h=>by
  rcases bKO k (n+1) with h1 | h1
  ·rw[gI]
   have:=TB l (k:=k) (n:=n) Om
   omega
  ·rw[show k=n+1 by omega]; exact bKB _
def MT (l:List (List Int)):Bool:=decide (300≤gI l l.length)
theorem blE {l:List (List Int)} (h:MT l=false):eY l:=by
 have h1:=of_decide_eq_false h
 rw[TA l l.length (bKB _),bKU] at h1
 exact⟨by omega,by omega⟩
theorem bdC {C:Ctx} (l:List (List Int)) (hl:l.length≤1000000000000000) (hr:∀ r∈l,r.length≤1000000000000000) :
  BD.wp C (aR acH.res (aD (.bool (MT l)))) (PF.args [lay l]) .nil:=by
 simp only[go_sem,γ,reduceCtorEq,BD,aoO,aoP,aoQ,acH,bJT]
 refine wp_loop (α:=Nat) (fun k=>(((PF.nil.set 0 (lay l)).set 3 (.int .i64 (gI l k:Nat))).set 4 (.int .i64 k))) (fun _=>.nil) (fun k=>k≤l.length∧gI l k≤2000000000000000) (fun k=>l.length-k) 0 ⟨bKA _,by rw[gI]; omega⟩ (by (repeat' (first|exact PF.nil_le|refine PF.aG ?_ ?_))<;>first|(simp only[go_sem,γ,reduceCtorEq,gI]<;>rfl)|rfl) PH.nil_le ?_
 rintro k ⟨hk,hb⟩
 have hm:=TB l hk
 unfold MT
 simp only[go_sem,γ,reduceCtorEq,aoN,aoR,bJT]
 by_cases hlt:k<l.length
 ·have bHV:(k:Int)<(l.length:Nat):=by omega
  by_cases c:gI l k<300
  ·have c':((gI l k:Nat):Int)<300:=by omega
   have hat:(l.map fun r=>[ints r])[k]?=some [ints l[k]]:=by simp[hlt]
   have hrk:=hr _ (bJZ hlt)
   have hs:gI l (k+1)=gI l k+(l[k]).length:=by rw[gI]; simp[bKK,hlt]
   have hw:IntKind.i64.wrap (((gI l k:Nat):Int)+((l[k]).length:Nat))=(gI l (k+1):Nat):=by
    rw[hs,wrap_i64 Om Om]; omega
   simp only[go_sem,γ,reduceCtorEq,bHV,c',aoS,hat,bJT,hw,aoT,ws k]
   exact aC (k+1) ⟨hlt,by rw[hs]; omega⟩ Om Lq PH.le_refl
  ·have c':¬ ((gI l k:Nat):Int)<300:=by omega
   simp only[go_sem,γ,reduceCtorEq,bHV,c',MZ,show ((gI l k:Nat):Int)≥300 by omega]
   refine aM (.inr rfl) rfl ?_
   rw[bH,decide_eq_true (Om:300≤gI l l.length)]
 ·have bHV:¬ (k:Int)<(l.length:Nat):=by omega
  have:k=l.length:=by omega
  subst this
  simp only[go_sem,γ,reduceCtorEq,bHV,MZ]
  refine aM (.inr rfl) rfl ?_
  rw[bH]
  exact congrArg PV.bool (decide_eq_decide.2 Om)
structure bbE (C:Ctx):Prop extends LM C where
 awake:aI C 20 [] .nil (aD (.bool true))
 agrees:∀ (f:aE) (l:List (List Int)) (room:List Int) (d level dom:Int),f.Ok→eY l→aI C 19 [.agg f.cells,lay l,ints room,.int .i64 d,.int .i64 level,.int .i64 dom] .nil (aD (.bool true))
 heavy:∀ l:List (List Int),l.length≤1000000000000000→(∀ r∈l,r.length≤1000000000000000)→aI C 21 [lay l] .nil (aD (.bool (MT l)))
theorem bdA {C:Ctx} (Lb:bbE C) (l:List Nat) (hb:∀ x∈l,x<256) (hl:l.length≤9223372036854775807) (la:List (List Int)) (h1:la.length≤1000000000000000) (h2:∀ r∈la,r.length≤1000000000000000) (room:List Int) (d level dom:Int) :
  BC.wp C (aR acG.res (aD (.bool true))) (PF.args [.sl 1 (kN l),lay la,ints room,.int .i64 d,.int .i64 level,.int .i64 dom]) .nil:=by
 obtain⟨hv,hf⟩:=bkI l (d:=12) (v:=5) (by decide) (by decide)
 simp only[go_sem,γ,BC,aoK,acG,aoL]
 refine aA (Lb.heavy la h1 h2) rfl ?_
 cases hh:MT la with
 | true =>
  simp only[go_sem,γ,bJT,MY]
  refine aA Lb.awake rfl ?_
  simp only[go_sem,γ]
  refine aM (.inr rfl) rfl ?_
  rfl
 | false =>
  have hOk:=blE hh
  by_cases c:((room.length:Nat):Int)>60
  ·simp only[go_sem,γ,reduceCtorEq,bJT,c,MY]
   refine aA Lb.awake rfl ?_
   simp only[go_sem,γ]
   refine aM (.inr rfl) rfl ?_
   rfl
  ·simp only[go_sem,γ,reduceCtorEq,bJT,c,aoM]
   refine aA (Lb.fleet l hb hl 12 5 (by decide) (by decide)) rfl ?_
   simp only[go_sem,γ]
   refine aA (Lb.agrees _ la room d level dom hf hOk) rfl ?_
   simp only[go_sem,γ]
   refine aA Lb.awake rfl ?_
   simp only[go_sem,γ]
   refine aM (.inr rfl) rfl ?_
   rfl
structure gG (C:Ctx):Prop extends bbD C where
 r19:aL C 19 RP
 r21:aL C 21 acH
 r22:aL C 22 ayT
 r46:aL C 46 aOS
 r48:aL C 48 ahK
 r49:aL C 49 azR
 r51:aL C 51 ahS
 r52:aL C 52 SK
 r53:aL C 53 azT
 r54:aL C 54 azU
 r55:aL C 55 baN
 r56:aL C 56 ahY
 r57:aL C 57 azQ
 r60:aL C 60 ahX
 r61:aL C 61 zT
 r62:aL C 62 SM
 r63:aL C 63 ahZ
 r64:aL C 64 SL
 r65:aL C 65 SN
 r66:aL C 66 baY
 r67:aL C 67 ajE
 r68:aL C 68 baX
 r69:aL C 69 baV
 r70:aL C 70 aiQ
 r71:aL C 71 aiR
 r72:aL C 72 KD
 r73:aL C 73 aiS
 r74:aL C 74 aiT
 r75:aL C 75 SO
 r76:aL C 76 ER
 r77:aL C 77 IB
 r78:aL C 78 sat
 r79:aL C 79 aeM
 r80:aL C 80 aeO
 r81:aL C 81 SA
 r83:aL C 83 aeY
 r84:aL C 84 aeZ
 r85:aL C 85 azB
 r86:aL C 86 SC
 r87:aL C 87 azC
 r88:aL C 88 aeL
 r89:aL C 89 a9C
 r90:aL C 90 a9J
 r94:aL C 94 ayK
theorem a8S {C:Ctx} (c:gG C):ayJ C :=
 {aeH c.toeG with
  int:=fun n hn=>(c.r47.go (a2F (aeH c.toeG) n hn) rfl).seen
  mul:=fun a b ha hb la lb=>(c.r36.go (bvD (bfN c.toeG) a b ha hb la lb) rfl).seen
  add:=fun a b ha hb la lb=>(c.r30.go (buV (aJR c.toeG) a b ha hb la lb) rfl).seen
  sub:=fun a b ha hb la lb=>(c.r37.go (bvH (aJR c.toeG) a b ha hb la lb) rfl).seen }
theorem aJS {C:Ctx} (c:gG C):aaL C :=
 {a8S c with
  valid:=fun x hx=>c.r56.go (biR (a8S c) x.neg x.num x.den hx.1 hx.2.1 hx.2.2.1 hx.2.2.2) rfl
  big:=fun x=>c.r48.go (biL x.1 (aH x.2.1) (aH x.2.2)) rfl }
theorem bfO {C:Ctx} (c:gG C):aAG C :=
 {aJS c with
  fits:=fun x=>(c.r57.go (bpP (aJS c) x) rfl).seen
  red:=fun x hx=>(c.r52.go (baL (aJS c) x hx) rfl).seen
  prod:=fun a b ha hb la lb na nb=>c.r60.go (biP (a8S c) a b ha hb la lb na nb) rfl }
theorem OH {C:Ctx} (c:gG C):xN C :=
 {bfO c with
  order:=fun x y hx hy vx vy=>c.r51.go (biN (bfO c) x y hx hy vx vy) rfl }
theorem bqP {C:Ctx} (c:gG C):a3P C :=
 {OH c with
  less:=fun x y hx hy vx vy=>c.r49.go (bpS (OH c) x y hx hy vx vy) rfl
  same:=fun x y hx hy vx vy=>c.r53.go (bpW (OH c) x y hx hy vx vy) rfl
  sign:=fun x hx vx=>c.r54.go (bpY (OH c) x hx vx) rfl
  plus:=fun x y hx hy=>(c.r46.go (bvJ (OH c) x y hx hy) rfl).seen }
theorem aJP {C:Ctx} (c:gG C):aaH C :=
 {bqP c with
  sum:=fun l hl hf=>(c.r55.go (bvN (bqP c) l hl hf) rfl).seen
  inn:=fun n lo hi=>c.r76.go (bbB n lo hi) rfl
  code:=fun k m=>c.r61.go (bnZ k m) rfl }
theorem aZE {C:Ctx} (c:gG C):akB C :=
 {aJP c with
  small:=fun x hx=>c.r74.go (bjE (aJP c) x hx) rfl
  nums:=fun k m q s0 s1 s2 s3 s4=>c.r72.go (aTO (aJP c) k m q s0 s1 s2 s3 s4) rfl
  sizes:=fun x1 x2 x3 x4 x5 x6=>c.r73.go (bjC x1 x2 x3 x4 x5 x6) rfl }
theorem aZF {C:Ctx} (c:gG C):akC C :=
 {aZE c with
  smalls:=fun l hl n=>c.r75.go (baZ (aZE c) l hl n) rfl }
theorem aZG {C:Ctx} (c:gG C):akD C :=
 {aZF c with
  reps:=fun l hl m=>c.r66.go (bvV (aZF c) l hl m) rfl }
theorem aZH {C:Ctx} (c:gG C):akE C :=
 have letter:∀ n:Nat,aI C 65 [.int .u8 n] .nil (aD (.bool (eN n))):=fun n=>c.r65.go (baS n) rfl
 have digit:∀ n:Nat,aI C 63 [.int .u8 n] .nil (aD (.bool (lN n))):=fun n=>c.r63.go (biT n) rfl
 {aZG c with
  name:=fun s=>c.r62.go (baQ letter (fun n=>c.r64.go (baO letter digit n) rfl) s) rfl
  index:=fun l hl s=>c.r71.go (biZ l hl s) rfl }
theorem aZI {C:Ctx} (c:gG C):oW C :=
 {aZH c with
  fresh:=fun l hl s w H hH=>c.r70.go (biX (aZH c) l hl s w H hH) rfl }
theorem buE {C:Ctx} (c:gG C):qT C :=
 {aZI c with
  law:=fun l hl=>c.r68.go (bvT (aZI c) l hl) rfl }
theorem buF {C:Ctx} (c:gG C):akF C :=
 {buE c with
  dur:=fun m rep hr t h ht hh=>c.r69.go (bvR (aZG c) m rep hr t h ht hh) rfl }
theorem uU {C:Ctx} (c:gG C):rO C :=
 {valid:=fun f hf=>c.r67.go (bjI (buF c) f hf) rfl
  kG:=fun f d level hv hd h0 h4=>c.r88.go (bfW f hv d hd level h0 h4) rfl
  frag:=fun f v hv h=>(c.r82.go (boB f hv v h) rfl).seen }
theorem aZJ {C:Ctx} (c:gG C):akG C :=
 {uU c with
  bad:=fun f row hl=>c.r89.go (buK f row hl) rfl }
theorem buG {C:Ctx} (c:gG C):QZ C :=
 {aZJ c with
  allowed:=fun f p d hV hp hd=>c.r77.go (aTD f hV p hp d hd) rfl
  count:=fun f row n hV hr hn=>c.r80.go (bgD (uU c) f hV row hr n hn) rfl }
theorem RW {C:Ctx} (c:gG C):akH C :=
 {uU c with
  room:=fun f room hf=>(c.r85.go (boF (uU c) f hf room) rfl).seen
  loads:=fun f l hf hl=>(c.r84.go (bgO (uU c) f hf l hl) rfl).seen
  row:=fun f v row hV bJE hvf hrl=>(c.r90.go (buR (buG c) f hV bJE v hvf row hrl) rfl).seen }
theorem bfK {C:Ctx} (c:gG C):bbG C :=
 {RW c with
  viol:=fun f l room hf hl=>(c.r87.go (boJ (RW c) f hf l hl room) rfl).seen }
theorem bAI {C:Ctx} (c:gG C) (hi:vE C):bqI C :=
 {acC c.toeG hi with
  rat:=fun f hf d level=>c.r78.go (bxT (uU c) f hf d level) rfl
  rchild:=fun f hf d=>(c.r79.go (bgB (uU c) f hf d) rfl).seen
  rdrives:=fun f hf d=>(c.r81.go (a9D (uU c) f hf d) rfl).seen
  rholds:=fun f l room hf hl=>c.r83.go (bgK (bfK c) f hf l hl room) rfl
  rloads:=(RW c).loads
  rroom:=(RW c).room
  rshaped:=fun f l hf hl=>c.r86.go (a9K (aZJ c) f hf l hl) rfl
  rviol:=(bfK c).viol
  same:=fun l hl=>c.r94.go (bkA l hl) rfl
  list:=fun l hl=>c.r22.go (blO l hl) rfl }
theorem bwV {C:Ctx} (c:gG C) (hi:vE C):bbE C :=
 {acC c.toeG hi with
  awake:=blI c.toeG hi
  agrees:=fun f l room d level dom hf hl=>c.r19.go (a5R (bAI c hi) f hf l hl room d level dom) rfl
  heavy:=fun l hl hr=>c.r21.go (bdC l hl hr) rfl }
theorem blJ {C:Ctx} (c:gG C) (hi:vE C) (r:aL C 12 acG) (l:List Nat) (hb:∀ x∈l,x<256) (hl:l.length≤9223372036854775807) (la:List (List Int)) (h1:la.length≤1000000000000000) (h2:∀ r∈la,r.length≤1000000000000000) (room:List Int) (d level dom:Int) :
  aI C 12 [.sl 1 (kN l),lay la,ints room,.int .i64 d,.int .i64 level,.int .i64 dom] .nil (aD (.bool true)) :=
 r.go (bdA (bwV c hi) l hb hl la h1 h2 room d level dom) rfl
end Go.PM
