/-
  Texts of ours, joined: ZdCodesL R3W1 R3W2 R3W3 R8W1 R10Code R10W1 R10W2 R10W3 R10W4 R10P1 R10W5 R10W6 R10W7 R10W8 R10W9 R10W10 R10W11 R10W12 R11Code R11W1 R11W2 R11W3 R11W4 R11W5 R11W6 L11W14 L11W15 Jn5. No condition.
-/
import Derived.Test.YtelckcmlobadkaaGreatDoorMd1
import Derived.Test.YtelckcmlobadkaaGreatDoorMd2
import Derived.Test.YtelckcmlobadkaaGreatDoorMd3
import Derived.Test.YtelckcmlobadkaaGreatDoorMd4
import Derived.Test.YtelckcmlobadkaaGreatDoorMd5
import Derived.Test.YtelckcmlobadkaaGreatDoorMd6

set_option linter.unusedSimpArgs false
set_option linter.unusedVariables false
open Nat renaming reduceEqDiff → γ, reduceAdd → δ, reduceSub → ε, reduceMul → ζ, reduceLT → η, reduceLeDiff → θ, reduceBEq → τ
open Int renaming reduceLT → ι, reduceLE → κ, reduceEq → μ, reduceToNat → ν, reduceAdd → ξ, reduceNeg → ο, reduceBEq → ρ, reduceBNe → σ
open List renaming reduceReplicate → υ
open List renaming length_map → bKY, range → bKZ, length_append → bLC, replicate → bLD, getElem_mem → bLF, length_singleton → bLH, getElem?_eq_getElem → bLL, mem_cons → bLO, getD_eq_getElem?_getD → bLP, take_of_length_le → bLQ, length_take → bLR, all_eq_true → bLU, not_mem_nil → bLW, take_length → bLZ, append_assoc → bMA, drop_zero → bMD, mem_map → bMF, getElem?_map → bMH, map_cons → bMI, getElem?_eq_none → bML, getElem?_eq_some_iff → bMM, getElem_map → bMN, getElem_of_mem → bMO, append_nil → bMP, mem_range → bMQ, mem_append → bMT, drop_eq_getElem_cons → bMU, map_append → bMW, Sublist → bMX, length_drop → bMY, map_nil → bMZ, take_succ_eq_append_getElem → bNC, length_nil → bNJ, length_set → bNL, length_cons → bNM, mem_of_getElem? → bNO, take_append_drop → bNP, nodup_append → bNQ, getElem?_append_left → bNV, ext_getElem → bNW, getElem?_append_right → bNX, getElem?_take → bNZ, set_append_right → bOA, drop_of_length_le → bOG
open Nat renaming gcd → bLA, zero_le → bLE, le_refl → bLG, mul_add → bLM, lt_or_ge → bLS, mul_assoc → bLV, zero_add → bLX, mul_comm → bLY, add_mul → bMB, mul_le_mul_right → bMC, mod_eq_of_lt → bMG, mod_lt → bMJ, pow_succ → bMR, add_zero → bMV, eq_zero_or_pos → bNA, min_eq_left → bNB, add_assoc → bND, le_trans → bNE, mul_le_mul_left → bNF, pos_of_ne_zero → bNG, pow_pos → bNN, div_lt_iff_lt_mul → bNR, div_le_self → bNY, div_add_mod → bOB, div_eq_of_lt → bOC
open Bool renaming not_true → bLB, false_and → bLI, not_false → bLK, true_and → bLN, and_eq_true → bLT, and_false → bMK, and_true → bNK, and_assoc → bNT, false_eq_true → bOF
open Option renaming map_eq_some_iff → bLJ, map_some → bME, getD_some → bNH, some → bNI, bind_eq_some_iff → bOD, bind_some → bOH
open Array renaming replicate → bMS, length_toList → bNS, getElem?_eq_getElem → bOE, getElem?_eq_some_iff → bOI
open Int renaming toNat_natCast → bNU
namespace Go.Proofs.YtelckcmlobadkaaGreatDoor
open Go Go.PM
theorem q3:aL C 3 PM.SV:=bG (T a9D) rfl rfl Tryz.func12 (by kernel_rfl) (by kernel_rfl)
theorem q6:aL C 6 PM.aAK:=bG (T bnX) rfl rfl Tryz.func14 (by kernel_rfl) (by kernel_rfl)
theorem q82:aL C 82 PM.aAP:=bG (T bpA) rfl rfl Tryz.func33 (by kernel_rfl) (by kernel_rfl)
theorem q18:aL C 18 PM.adI:=bG (T bdY) rfl rfl Tryz.func17 (by kernel_rfl) (by kernel_rfl)
theorem q11:aL C 11 PM.btW:=bG (T a8E) rfl rfl Tryz.func3 (by kernel_rfl) (by kernel_rfl)
theorem q14:aL C 14 PM.byE:=bG (T bfA) rfl rfl Tryz.func5 (by kernel_rfl) (by kernel_rfl)
theorem bxR:abI C:={ bAV with r3:=q3,r6:=q6,r18:=q18,r82:=q82 }
end Go.Proofs.YtelckcmlobadkaaGreatDoor
namespace Go.PM
open Go Go.Na
structure azW (C:Ctx):Prop extends abP C where
 int:∀ n:Int,cZ n→aH C 47 [.int .i64 n] .nil (aF (.agg (mkT n 1).cells))
 mul:∀ a b,Lim a→Lim b→a.length≤35184372087808→b.length≤35184372087808→aH C 36 [aJ a,aJ b] .nil (aF (opV (dQ (val a) (val b)) (val a*val b)))
 add:∀ a b,Lim a→Lim b→a.length≤35184372087808→b.length≤35184372087808→aH C 30 [aJ a,aJ b] .nil (aF (opV (dQ (val a) (val b)) (val a+val b)))
 sub:∀ a b,Lim a→Lim b→a.length≤35184372087808→b.length≤35184372087808→aH C 37 [aJ a,aJ b] .nil (aF (qZ (val a) (val b)))
theorem axQ (a b:Nat):cO a b=(decide (nl b>0)&&(decide (nl b≤128)&&decide (nl a≤128))):=by
 have:=@iH b
 refine Bool.eq_iff_iff.2 ?_
 rw[fN]
 simp only[bLT,decide_eq_true_eq]
 omega
theorem bkA {C:Ctx} (L:azW C) (neg:Bool) (a b:List Nat) (ha:Lim a) (hb:Lim b) (la:a.length≤35184372087808) (lb:b.length≤35184372087808) :
  EE.wp C (aS ajL.res (aF (.bool (cO (val a) (val b))))) (PF.args [.agg (eD neg a b)]) .nil:=by
 rw[axQ]
 simp only[go_sem,γ,EE,ayH,ayI,ajL]
 refine aA (L.trim b hb lb) rfl ?_
 simp only[go_sem,γ,bKY,bA]
 by_cases c1:nl (val b)>0
 ·have c1':((nl (val b):Nat):Int)>0:=by omega
  simp only[go_sem,γ,c1']
  refine aA (L.trim b hb lb) rfl ?_
  simp only[go_sem,γ,bKY,bA]
  by_cases c2:nl (val b)≤128
  ·have c2':((nl (val b):Nat):Int)≤128:=by omega
   simp only[go_sem,δ,γ,θ,c2']
   refine aA (L.trim a ha la) rfl ?_
   simp only[go_sem,γ,bKY,bA]
   refine aM (.inr rfl) rfl ?_
   have:decide (((nl (val a):Nat):Int)≤128)=decide (nl (val a)≤128):=by
    refine decide_eq_decide.2 ?_
    omega
   rw[bF,this,decide_eq_true c1,decide_eq_true c2]
   rfl
  ·have c2':¬ ((nl (val b):Nat):Int)≤128:=by omega
   simp only[go_sem,γ,reduceCtorEq,c2']
   refine aM (.inr rfl) rfl ?_
   rw[bF,decide_eq_false c2,bLI,bMK]
 ·have c1':¬ ((nl (val b):Nat):Int)>0:=by omega
  simp only[go_sem,γ,reduceCtorEq,c1']
  refine aM (.inr rfl) rfl ?_
  rw[bF,decide_eq_false c1,bLI]
theorem YE {neg:Bool} {a b:Nat} (h:cO a b=true):iJ neg a b=.ok (mL neg a b):=by
 obtain⟨h1,h2,h3⟩:=fN.1 h
 have e1:=(lO (a/bLA a b) 128).2 (afL _ h3)
 have e2:=(lO (b/bLA a b) 128).2 (afL _ h2)
 unfold iJ mL
 rw[if_neg Om]
def a5U (a b:Nat):Bool:=decide (nl a>128)||decide (nl b>128)
theorem bjU {C:Ctx} (neg:Bool) (a b:List Nat) :
  EA.wp C (aS aiX.res (aF (.bool (decide (a.length>128)||decide (b.length>128))))) (PF.args [.agg (eD neg a b)]) .nil:=by
 simp only[go_sem,δ,γ,θ,EA,axS,axT,aiX,bKY]
 by_cases c:a.length>128
 ·have c':((a.length:Nat):Int)>128:=by omega
  simp only[go_sem,γ,c']
  refine aM (.inr rfl) rfl ?_
  rw[bF,decide_eq_true c,Bool.true_or]
 ·have c':¬ ((a.length:Nat):Int)>128:=by omega
  simp only[go_sem,γ,reduceCtorEq,c',bKY]
  refine aM (.inr rfl) rfl ?_
  have:decide (((b.length:Nat):Int)>128)=decide (b.length>128):=by
   refine decide_eq_decide.2 ?_
   omega
  rw[bF,this,decide_eq_false c,Bool.false_or]
def aDH (x:FV):FR:=if a5U x.2.1 x.2.2 then .error 2 else .ok x
theorem bsO (neg:Bool) (a b:Nat):aDH (mL neg a b)=iJ neg a b:=by
 have e1:=lO (a/bLA a b) 128
 have e2:=lO (b/bLA a b) 128
 unfold aDH mL iJ a5U
 simp only[Bool.or_eq_true,decide_eq_true_eq]
 by_cases c:nl (a/bLA a b)>128∨nl (b/bLA a b)>128
 ·rw[if_pos c,if_pos Om]
 ·rw[if_neg c,if_neg Om]
structure abR (C:Ctx):Prop extends azW C where
 valid:∀ x:RF,x.Ok→aH C 56 [.agg x.cells] .nil (aF (.bool (cO (val x.num) (val x.den))))
 big:∀ x:FV,aH C 48 [.agg x.rf.cells] .nil (aF (.bool (a5U x.2.1 x.2.2)))
theorem bqO {C:Ctx} (L:abR C) (x:FV):KT.wp C (aS aBE.res (bQ (frV (aDH x)))) (PF.args [.agg x.rf.cells]) .nil:=by
 simp only[go_sem,δ,KT,aRF,aBE]
 refine aN fun o ho=>?_
 simp only[go_sem,δ,γ,aRG]
 refine aA (L.big x) rfl ?_
 unfold aDH
 cases a5U x.2.1 x.2.2 with
 | true =>
  simp only[go_sem,δ,γ,aRH]
  refine iD ?_
  simp only[go_sem,δ,γ]
 | false =>
  obtain⟨n,a,b⟩:=x
  simp only[go_sem,δ,γ,reduceCtorEq,aRI]
  exact aV (.inr rfl) .nil (vs:=[.agg (FV.rf (n,a,b)).cells,.int .i64 0]) Sq PH.nil_le ⟨.refl _,rfl⟩
theorem bbY {C:Ctx} (L:abR C) (x:RF) (hx:x.Ok):zJ.wp C (aS TN.res (bQ (frV (oI x)))) (PF.args [.agg x.cells]) .nil:=by
 simp only[go_sem,δ,zJ,ajG,TN]
 refine aN fun o ho=>?_
 simp only[go_sem,δ,γ,ajH]
 refine aA (L.valid x hx) rfl ?_
 unfold oI
 cases hv:cO (val x.num) (val x.den) with
 | false =>
  simp only[go_sem,δ,γ,reduceCtorEq,bLK,ajI]
  refine iD ?_
  simp only[go_sem,δ,γ]
 | true =>
  obtain⟨v1,v2,v3⟩:=fN.1 hv
  have e:=YE (neg:=x.neg) hv
  rw[if_pos rfl,e]
  simp only[go_sem,δ,γ,θ,bLB,ajJ]
  refine aA (L.lowest x.neg x.num x.den hx.1 hx.2.1 hx.2.2.1 hx.2.2.2 Om Om v1) rfl ?_
  simp only[go_sem,δ,γ]
  exact aV (.inr rfl) .nil (vs:=[.agg (mL x.neg (val x.num) (val x.den)).rf.cells,.int .i64 0]) Sq PH.nil_le ⟨.refl _,rfl⟩
theorem bjY {C:Ctx} (L:azW C) (a b:List Nat) (ha:Lim a) (hb:Lim b) (la:a.length≤35184372087808) (lb:b.length≤35184372087808) (na:nl (val a)≤256) (nb:nl (val b)≤256) :
  ED.wp C (aS ajK.res (aF (aJ (aI (val a*val b))))) (PF.args [aJ a,aJ b]) .nil:=by
 simp only[go_sem,γ,reduceCtorEq,ED,ayE,ayF,ajK]
 refine aA (L.mul a b ha hb la lb) rfl ?_
 have:=lH na nb
 rw[hJ Om Om,opV,zD Om]
 simp only[go_sem,γ,reduceCtorEq,ayG]
 refine aM (.inr rfl) rfl ?_
 rfl
structure aBW (C:Ctx):Prop extends abR C where
 fits:∀ x:FV,aH C 57 [.agg x.rf.cells] .nil (aF (frV (aDH x)))
 red:∀ x:RF,x.Ok→aH C 52 [.agg x.cells] .nil (aF (frV (oI x)))
 prod:∀ a b,Lim a→Lim b→a.length≤35184372087808→b.length≤35184372087808→nl (val a)≤256→nl (val b)≤256→aH C 60 [aJ a,aJ b] .nil (aF (aJ (aI (val a*val b))))
def RF.valid (x:RF):Prop:=cO (val x.num) (val x.den)=true
def pD (x y:RF):Int:=pC x.neg (val x.num) (val x.den) y.neg (val y.num) (val y.den)
def voS:Spec:=fun name vs=>match name,vs with
 | 60,[x,y]=>some ([],fun _=>aF (aJ (aI (val (jE x)*val (jE y)))))
 | _,_=>none
theorem vO (a b:List Nat):voS 60 [aJ a,aJ b]=some ([],fun _=>aF (aJ (aI (val a*val b)))):=by
 show some _=_; rw[dZ,dZ]
theorem aoQ (a b:Nat):dD b a=- dD a b:=by
 unfold dD
 rcases Nat.lt_trichotomy a b with h | h | h
 ·rw[if_neg Om,if_pos h,if_pos h]; rfl
 ·subst h
  rw[if_neg Om,if_neg Om]; rfl
 ·rw[if_pos h,if_neg Om,if_pos h]
set_option maxHeartbeats 1000000 in
theorem bjW {C : Ctx} (L : aBW C) (x y : RF) (hx : x.Ok) (hy : y.Ok) (vx : x.valid) (vy : y.valid) : EC.wp C (aS ajF.res (aF (.int .i64 (pD x y)))) (PF.args [.agg x.cells, .agg y.cells]) .nil := by
  obtain ⟨n1, a1, b1⟩ := x
  obtain ⟨n2, a2, b2⟩ := y
  obtain ⟨ha1, hb1, la1, lb1⟩ := hx
  obtain ⟨ha2, hb2, la2, lb2⟩ := hy
  obtain ⟨v1, v2, v3⟩ := fN.1 vx
  obtain ⟨w1, w2, w3⟩ := fN.1 vy
  simp only at ha1 hb1 la1 lb1 ha2 hb2 la2 lb2 v1 v2 v3 w1 w2 w3
  have m1 := lH v3 w2
  have m2 := lH w3 v2
  have hA : decide (val a1 ≠ 0) = decide (nl (val a1 * val b2) > 0) := by
    refine decide_eq_decide.2 ?_
    have := @iH (val a1 * val b2)
    rw [Nat.mul_eq_zero] at this
    omega
  have hB : decide (val a2 ≠ 0) = decide (nl (val a2 * val b1) > 0) := by
    refine decide_eq_decide.2 ?_
    have := @iH (val a2 * val b1)
    rw [Nat.mul_eq_zero] at this
    omega
  unfold pD pC
  simp only [hA, hB]
  simp only[go_sem,ο,γ,EC,axU,ajF]
  refine bM .nil voS PH.nil_le ?_
  simp only[go_sem,ο,δ,γ,θ,axV]
  refine bE (vO a1 b2) (L.prod a1 b2 ha1 hb2 la1 lb2 Om Om) rfl PH.nil_le ?_
  simp only[go_sem,ο,δ,γ,θ]
  refine bE (vO a2 b1) (L.prod a2 b1 ha2 hb1 la2 lb1 Om Om) rfl PH.nil_le ?_
  have hc := L.cmp (aI (val a1 * val b2)) (aI (val a2 * val b1)) (aU _) (aU _) (by rw [bA]; omega) (by rw [bA]; omega)
  have hd := L.cmp (aI (val a2 * val b1)) (aI (val a1 * val b2)) (aU _) (aU _) (by rw [bA]; omega) (by rw [bA]; omega)
  rw [aR, aR] at hc hd
  rw [aoQ (val a1 * val b2)] at hd
  generalize val a1 * val b2 = A at *
  generalize val a2 * val b1 = B at *
  have gA : decide (((nl A : Nat) : Int) > 0) = decide (nl A > 0) := decide_eq_decide.2 Om
  have gB : decide (((nl B : Nat) : Int) > 0) = decide (nl B > 0) := decide_eq_decide.2 Om
  generalize decide (nl A > 0) = p at *
  generalize decide (nl B > 0) = q at *
  cases n1 <;> cases n2 <;> cases p <;> cases q
  all_goals
    simp only[go_sem,ο,δ,γ,θ,reduceCtorEq,axW,bKY,bA,gA,gB,axX,axY,axZ,ayA,ayB,ayC,ayD]
    first
    | (refine aM (.inr rfl) rfl ?_; rfl)
    | (refine aA hc rfl ?_
       simp only[go_sem,γ]
       refine aM (.inr rfl) rfl ?_
       rfl)
    | (refine aA hd rfl ?_
       simp only[go_sem,γ]
       refine aM (.inr rfl) rfl ?_
       rfl)
structure yA (C:Ctx):Prop extends aBW C where
 order:∀ x y:RF,x.Ok→y.Ok→x.valid→y.valid→aH C 51 [.agg x.cells,.agg y.cells] .nil (aF (.int .i64 (pD x y)))
theorem bqR {C:Ctx} (L:yA C) (x y:RF) (hx:x.Ok) (hy:y.Ok) (vx:x.valid) (vy:y.valid):KU.wp C (aS aBF.res (aF (.bool (decide (pD x y<0))))) (PF.args [.agg x.cells,.agg y.cells]) .nil:=by
 simp only[go_sem,δ,γ,KU,aRJ,aRK,aBF]
 refine aA (L.order x y hx hy vx vy) rfl ?_
 simp only[go_sem,γ]
 refine aM (.inr rfl) rfl ?_
 rfl
theorem bqV {C:Ctx} (L:yA C) (x y:RF) (hx:x.Ok) (hy:y.Ok) (vx:x.valid) (vy:y.valid):KY.wp C (aS aBH.res (aF (.bool (pD x y==0)))) (PF.args [.agg x.cells,.agg y.cells]) .nil:=by
 simp only[go_sem,δ,γ,KY,aRQ,aRR,aBH]
 refine aA (L.order x y hx hy vx vy) rfl ?_
 simp only[go_sem,γ]
 refine aM (.inr rfl) rfl ?_
 rfl
theorem FA (n:Int):mkT n 1=⟨decide (n<0),aI n.natAbs,aI 1⟩:=by
 unfold mkT mL FV.rf
 rw[show (1:Int).natAbs=1 from rfl,Nat.gcd_one_right,Nat.div_one,Nat.div_one,show decide ((1:Int)<0)=false from rfl]
 congr 1
 by_cases h:n<0
 ·have:n.natAbs≠0:=by omega
  simp[h,this]
 ·simp[h]
theorem EZ (n:Int) (h:cZ n):(mkT n 1).Ok∧(mkT n 1).valid:=by
 have h1:nl n.natAbs≤2:=nL (by unfold cZ at h; omega)
 rw[FA]
 refine⟨⟨aU _,aU _,?_,?_⟩,?_⟩
 ·simp only[bA]; omega
 ·simp only[vE]; decide
 ·unfold RF.valid
  simp only[aR]
  rw[axQ]
  have:nl 1=1:=by rw[nl,vE]; rfl
  simp[this]
  omega
def qM (x:RF):Int:=if val x.num=0 then 0 else if x.neg then -1 else 1
theorem boK (x:RF):pD x (mkT 0 1)=qM x:=by
 rw[FA]
 unfold pD qM pC
 simp only[aR,show (0:Int).natAbs=0 from rfl,Nat.mul_one,Nat.zero_mul]
 by_cases h:val x.num=0
 ·simp[h,dD]
 ·cases x.neg<;>simp[h,dD]
def viS (r:Int):Spec:=fun name _=>if name=47 then some ([],fun _=>aF (.agg (mkT 0 1).cells)) else some ([],fun _=>aF (.int .i64 r))
theorem bqX {C:Ctx} (L:yA C) (x:RF) (hx:x.Ok) (vx:x.valid):KZ.wp C (aS aBI.res (aF (.int .i64 (qM x)))) (PF.args [.agg x.cells]) .nil:=by
 have h0:cZ 0:=by unfold cZ; omega
 have ho:=L.order x (mkT 0 1) hx (EZ 0 h0).1 vx (EZ 0 h0).2
 rw[boK] at ho
 simp only[go_sem,KZ,aRS,aBI]
 refine bM .nil (viS (qM x)) PH.nil_le ?_
 simp only[go_sem,δ,γ,aRT]
 refine bE rfl (L.int 0 h0) rfl PH.nil_le ?_
 simp only[go_sem]
 refine bE rfl ho rfl PH.nil_le ?_
 simp only[go_sem,γ]
 refine aM (.inr rfl) rfl ?_
 rfl
theorem bjR {C:Ctx} (L:yA C) (n1 n2:Bool) (a1 b1 a2 b2:List Nat) (ha1:Lim a1) (hb1:Lim b1) (ha2:Lim a2) (hb2:Lim b2)
  (la1:a1.length≤35184372087808) (lb1:b1.length≤35184372087808) (la2:a2.length≤35184372087808) (lb2:b2.length≤35184372087808) :
  BD.wp C (aS aRB.res (bQ (frV (gT (n1,val a1,val b1) (n2,val a2,val b2))))) (PF.args [.agg (eD n1 a1 b1),.agg (eD n2 a2 b2)]) .nil:=by
 have vx:aH C 56 [.agg (eD n1 a1 b1)] .nil (aF (.bool (cO (val a1) (val b1)))):=L.valid ⟨n1,a1,b1⟩ ⟨ha1,hb1,la1,lb1⟩
 have vy:aH C 56 [.agg (eD n2 a2 b2)] .nil (aF (.bool (cO (val a2) (val b2)))):=L.valid ⟨n2,a2,b2⟩ ⟨ha2,hb2,la2,lb2⟩
 simp only[go_sem,δ,γ,BD,a3T,aRB]
 refine aN fun o ho=>?_
 simp only[go_sem,δ,γ,a3U]
 refine aA vx rfl ?_
 simp only[gT]
 cases hv:cO (val a1) (val b1) with
 | false =>
  simp only[go_sem,δ,γ,reduceCtorEq,bLK,aoI,bLI]
  refine iD ?_
  simp only[go_sem,δ,γ]
 | true =>
  obtain⟨v1,v2,v3⟩:=fN.1 hv
  simp only[go_sem,δ,γ,bLB]
  refine aA vy rfl ?_
  cases hw:cO (val a2) (val b2) with
  | false =>
   simp only[go_sem,δ,γ,reduceCtorEq,bLK,aoI,bMK]
   refine iD ?_
   simp only[go_sem,δ,γ]
  | true =>
   obtain⟨w1,w2,w3⟩:=fN.1 hw
   simp only[go_sem,γ,reduceCtorEq,bLB,bNK]
   refine bM .nil voS PH.nil_le ?_
   simp only[go_sem,δ,γ,θ,a3V]
   refine bE (vO a1 b2) (L.prod a1 b2 ha1 hb2 la1 lb2 Om Om) rfl PH.nil_le ?_
   simp only[go_sem,δ,γ,θ]
   refine bE (vO a2 b1) (L.prod a2 b1 ha2 hb1 la2 lb1 Om Om) rfl PH.nil_le ?_
   simp only[go_sem,γ]
   refine bE (vO b1 b2) (L.prod b1 b2 hb1 hb2 lb1 lb2 Om Om) rfl PH.nil_le ?_
   simp only[go_sem,γ]
   have m1:=lH v3 w2
   have m2:=lH w3 v2
   have m3:=lH v2 w2
   have d0:val b1*val b2≠0:=Nat.mul_ne_zero v1 w1
   generalize hA:val a1*val b2=A at *
   generalize hB:val a2*val b1=B at *
   generalize hD:val b1*val b2=D at *
   have fin:∀ (F:PF) (H:PH) (r:FR),(∃ neg' x y e,frV r=.tup [.agg (eD neg' x y),.int .i64 e]∧F 4=some (.ptr o 3 0 0)∧F 5=some (.int .i64 e)∧H o=some (.rows 3 [eD neg' x y]))→aS [.cell 4 (some 3),.tmp 5] (bQ (frV r)) .ret F H:=by
    rintro F H r ⟨neg',x,y,e,he,f4,f5,hH⟩
    rw[he]
    exact aV (.inr rfl) .nil (vs:=[.agg (eD neg' x y),.int .i64 e]) (by simp only[go_sem,δ,f4,f5,hH]) PH.nil_le ⟨.refl _,rfl⟩
   have eb:(n1==n2)=decide (n1=n2):=by cases n1<;>cases n2<;>rfl
   have low:∀ neg x,nl x≤257→aH C 58 [.bool neg,aJ (aI x),aJ (aI D)] .nil (aF (.agg (mL neg x D).rf.cells)):=by
    intro neg x hx
    have h1:(aI x).length≤35184372087808:=by rw[bA]; omega
    have h2:(aI D).length≤35184372087808:=by rw[bA]; omega
    have:=L.lowest neg (aI x) (aI D) (aU _) (aU _) h1 h2
    rw[aR,aR] at this
    exact this Om Om d0
   have fit:∀ neg x,aH C 57 [.agg (mL neg x D).rf.cells] .nil (aF (frV (iJ neg x D))):=fun neg x=>by
    have:=L.fits (mL neg x D)
    rwa [bsO] at this
   have lA:(aI A).length≤35184372087808:=by rw[bA]; omega
   have lB:(aI B).length≤35184372087808:=by rw[bA]; omega
   simp only[go_sem,δ,γ,θ,a3W]
   by_cases c:n1=n2
   ·rw[if_pos c]
    have c':(n1==n2)=true:=by rw[eb,decide_eq_true c]
    simp only[go_sem,γ,c',a3X]
    have hadd:=L.add (aI A) (aI B) (aU _) (aU _) lA lB
    have nab:=aKO m1 m2
    rw[aR,aR,hJ Om Om,opV,zD Om] at hadd
    refine aA hadd rfl ?_
    simp only[go_sem,δ,γ,θ,reduceCtorEq,a3Y]
    refine aA (low n1 _ Om) rfl ?_
    simp only[go_sem]
    refine aA (fit n1 _) rfl ?_
    obtain⟨neg',x,y,e,hl⟩:=tM (iJ n1 (A+B) D)
    rw[hl]
    simp only[go_sem,δ,γ]
    rw[← hl]
    exact fin _ _ _ ⟨neg',x,y,e,hl,by simp only[go_sem,γ],by simp only[go_sem,γ],by simp only[go_sem]⟩
   ·rw[if_neg c]
    have c':(n1==n2)=false:=by rw[eb,decide_eq_false c]
    simp only[go_sem,γ,c',a3Z]
    have hc:=L.cmp (aI A) (aI B) (aU _) (aU _) lA lB
    rw[aR,aR] at hc
    refine aA hc rfl ?_
    have hsub:∀ X Y:Nat,nl X≤256→nl Y≤256→Y≤X→aH C 37 [aJ (aI X),aJ (aI Y)] .nil (aF (.tup [aJ (aI (X-Y)),.int .i64 0])):=by
     intro X Y h1 h2 h
     have:=L.sub (aI X) (aI Y) (aU _) (aU _) (by rw[bA]; omega) (by rw[bA]; omega)
     have h3:=fP (Om:X-Y≤X)
     rw[aR,aR,qZ,hJ Om Om,if_neg (by decide),if_neg Om,zD Om] at this
     exact this
    by_cases g:B≤A
    ·have g':dD A B≥0:=(SD A B).2 g
     rw[if_pos g]
     simp only[go_sem,γ,g',a4A]
     refine aA (hsub A B Om Om g) rfl ?_
     simp only[go_sem,δ,γ,θ,a4B]
     have h3:=fP (Om:A-B≤A)
     refine aA (low n1 (A-B) Om) rfl ?_
     simp only[go_sem]
     refine aA (fit n1 _) rfl ?_
     obtain⟨neg',x,y,e,hl⟩:=tM (iJ n1 (A-B) D)
     rw[hl]
     simp only[go_sem,δ,γ]
     rw[← hl]
     exact fin _ _ _ ⟨neg',x,y,e,hl,by simp only[go_sem,γ],by simp only[go_sem,γ],by simp only[go_sem]⟩
    ·have g':¬ dD A B≥0:=fun h=>g ((SD A B).1 h)
     rw[if_neg g]
     simp only[go_sem,γ,g',aRC]
     refine aA (hsub B A Om Om Om) rfl ?_
     simp only[go_sem,δ,γ,θ,aRD]
     have h3:=fP (Om:B-A≤B)
     refine aA (low n2 (B-A) Om) rfl ?_
     simp only[go_sem]
     refine aA (fit n2 _) rfl ?_
     obtain⟨neg',x,y,e,hl⟩:=tM (iJ n2 (B-A) D)
     rw[hl]
     simp only[go_sem,δ,γ]
     rw[← hl]
     exact fin _ _ _ ⟨neg',x,y,e,hl,by simp only[go_sem,γ],by simp only[go_sem,γ],by simp only[go_sem]⟩
theorem bwN {C:Ctx} (L:yA C) (x y:RF) (hx:x.Ok) (hy:y.Ok):BD.wp C (aS aRB.res (bQ (frV (gT x.v y.v)))) (PF.args [.agg x.cells,.agg y.cells]) .nil :=
 bjR L x.neg y.neg x.num x.den y.num y.den hx.1 hx.2.1 hy.1 hy.2.1 hx.2.2.1 hx.2.2.2 hy.2.2.1 hy.2.2.2
structure a5L (C:Ctx):Prop extends yA C where
 less:∀ x y:RF,x.Ok→y.Ok→x.valid→y.valid→aH C 49 [.agg x.cells,.agg y.cells] .nil (aF (.bool (decide (pD x y<0))))
 same:∀ x y:RF,x.Ok→y.Ok→x.valid→y.valid→aH C 53 [.agg x.cells,.agg y.cells] .nil (aF (.bool (pD x y==0)))
 sign:∀ x:RF,x.Ok→x.valid→aH C 54 [.agg x.cells] .nil (aF (.int .i64 (qM x)))
 plus:∀ x y:RF,x.Ok→y.Ok→aH C 46 [.agg x.cells,.agg y.cells] .nil (aF (frV (gT x.v y.v)))
def vsF (l:List RF) (o2 o4 k:Nat):PF:=((((PF.nil.set 0 (frs l)).set 2 (.ptr o2 3 0 0)).set 4 (.ptr o4 3 0 0)).set 5 (.int .i64 k))
theorem bwR {C:Ctx} (L:a5L C) (l:List RF) (hl:∀ x∈l,x.Ok) (hlen:l.length≤9223372036854775807) :
  RS.wp C (aS bcA.res (bQ (frV (nE (l.map RF.v))))) (PF.args [frs l]) .nil:=by
 have h0:cZ 0:=by unfold cZ; omega
 have hi:(mkT 0 1).cells=(FV.rf (false,0,1)).cells:=by rw[FA]; rfl
 have hint:=L.int 0 h0
 rw[hi] at hint
 simp only[go_sem,δ,RS,a4H,bcA]
 refine aN fun o2 ho2=>?_
 have h1:aQ (PH.nil.set o2 (.rows 3 [[.bool false,.bIU,.bIU]])) [(o2,.rows 3 [[.bool false,.bIU,.bIU]])] []:=aQ.nil.new (H:=PH.nil) rfl _
 generalize (PH.nil.set o2 _)=H1 at *
 simp only[go_sem,a4I]
 refine aA hint rfl ?_
 simp only[go_sem,δ]
 refine aN fun o4 ho4=>?_
 have h2:=h1.new ho4 (.rows 3 [(FV.rf (false,0,1)).cells])
 simp only[go_sem,δ,γ,a4J]
 refine wp_loop (α:=Nat × FV × PH) (fun t=>vsF l o2 o4 t.1) (fun t=>t.2.2) (fun t=>t.1≤l.length∧((l.map RF.v).take t.1).foldlM gT (false,0,1)=.ok t.2.1∧aQ t.2.2 [(o2,.rows 3 [[.bool false,.bIU,.bIU]]),(o4,.rows 3 [(FV.rf t.2.1).cells])] []∧(FV.rf t.2.1).Ok) (fun t=>l.length-t.1)
  (0,(false,0,1),_) ⟨bLE _,rfl,h2,⟨aU _,aU _,?_,?_⟩⟩ ?_ PH.le_refl ?_
 ·show (aI 0).length≤_
  rw[fL]; simp
 ·show (aI 1).length≤_
  rw[vE]; simp
 ·unfold vsF
  exact Lq
 rintro⟨k,acc,H0⟩ ⟨hk,hf,hH,hacc⟩
 simp only at hk hf hH hacc ⊢
 simp only[go_sem,γ,reduceCtorEq,a4G,a4K,vsF,bKY]
 by_cases hlt:k<l.length
 ·have bJA:(k:Int)<(l.length:Nat):=by omega
  have hr:(l.map RF.cells)[k]?=some (l[k]).cells:=by simp[hlt]
  have hadd:=L.plus (FV.rf acc) l[k] hacc (hl _ (bLF hlt))
  rw[FV.byS] at hadd
  have bJB:=UD (f:=gT) (l.map RF.v) (false,0,1) (k:=k) (by simpa using hlt)
  rw[hf] at bJB
  simp only[Except.bind,bMN] at bJB
  have e4:=hH.at 1 rfl
  simp only[go_sem,bJA]
  refine bM .nil (fun _ _=>some ([],fun _=>aF (frV (gT acc (l[k]).v)))) PH.nil_le ?_
  simp only[go_sem,δ,γ,reduceCtorEq,a4L,e4,hr]
  refine bE rfl hadd rfl PH.nil_le ?_
  cases he:gT acc (l[k]).v with
  | error e =>
   have he0:e≠0:=by
    revert he
    obtain⟨n1,a1,b1⟩:=acc
    obtain⟨n2,a2,b2⟩:=(l[k]).v
    simp only[gT,iJ]
    repeat' split
    all_goals (intro h; first | (injection h with h; subst h; decide) | cases h)
   rw[he] at bJB
   simp only[go_sem,δ,γ,reduceCtorEq,frV]
   refine aN fun o6 ho6=>?_
   simp only[go_sem,δ,γ,reduceCtorEq]
   refine⟨PH.nil_le,?_⟩
   have h6:=hH.new ho6 (.rows 3 [[.bool false,aJ [],aJ []]])
   have e2:=h6.at 0 rfl
   simp only[go_sem,δ,γ,reduceCtorEq,aoK,cV he0,a4M,e2]
   rw[nE,acN _ _ bJB]
   refine iD ?_
   simp only[go_sem,δ,γ,reduceCtorEq]
  | ok r =>
   rw[he] at bJB
   obtain⟨rn,ra,rb⟩:=r
   simp only[go_sem,δ,γ,reduceCtorEq,frV]
   refine aN fun o6 ho6=>?_
   simp only[go_sem,δ,γ,reduceCtorEq]
   refine⟨PH.nil_le,?_⟩
   have h6:=hH.new ho6 (.rows 3 [(FV.rf (rn,ra,rb)).cells])
   have e6:=h6.at 2 rfl
   have e4':=h6.at 1 rfl
   generalize hG:H0.set o6 (.rows 3 [(FV.rf (rn,ra,rb)).cells])=H6 at *
   have hG':H0.set o6 (.rows 3 [[.bool rn,aJ (aI ra),aJ (aI rb)]])=H6:=hG
   simp only[go_sem,σ,δ,γ,reduceCtorEq,aoK,a4N,hG',e6,e4',a4O,ws k]
   have h7:=(h6.set 1 rfl (.rows 3 [(FV.rf (rn,ra,rb)).cells])).bBH 2
   refine aE (k+1,(rn,ra,rb),_) ⟨hlt,bJB,h7,alV he⟩ (by simp only; omega) ?_ PH.le_refl
   exact Lq
 ·have bJA:¬ (k:Int)<(l.length:Nat):=by omega
  have:k=l.length:=by omega
  subst this
  rw[bLQ (by simp)] at hf
  rw[nE,hf]
  have e2:=hH.at 0 rfl
  have e4:=hH.at 1 rfl
  obtain⟨n,a,b⟩:=acc
  simp only[go_sem,δ,γ,reduceCtorEq,bJA,aRY,e4,e2]
  exact aV (.inr rfl) .nil (vs:=[.agg (FV.rf (n,a,b)).cells,.int .i64 0]) Sq PH.nil_le ⟨.refl _,rfl⟩
theorem dge {n:Nat} (k:Nat):decide ((n:Int)≥(k:Int))=decide (k≤n):=decide_eq_decide.2 Om
theorem dle {n:Nat} (k:Nat):decide ((n:Int)≤(k:Int))=decide (n≤k):=decide_eq_decide.2 Om
theorem bcF {C:Ctx} (n:Nat):zM.wp C (aS TQ.res (aF (.bool (eO n)))) (PF.args [.int .u8 n]) .nil:=by
 have h1:=dge (n:=n) 97
 have h2:=dle (n:=n) 122
 have h3:=dge (n:=n) 65
 have h4:=dle (n:=n) 90
 simp only[Int.cast_ofNat_Int] at h1 h2 h3 h4
 unfold eO
 generalize decide (97≤n)=a at *
 generalize decide (n≤122)=b at *
 generalize decide (65≤n)=c at *
 generalize decide (n≤90)=d at *
 cases a<;>cases b<;>cases c<;>cases d
 all_goals
  simp only[go_sem,γ,reduceCtorEq,zM,ajY,ajZ,TQ,h1,h2,h3,h4]
  refine aM (.inr rfl) rfl ?_
  rfl
theorem bkC {C:Ctx} (n:Nat):EG.wp C (aS ajM.res (aF (.bool (lW n)))) (PF.args [.int .u8 n]) .nil:=by
 have h1:=dge (n:=n) 48
 have h2:=dle (n:=n) 57
 simp only[Int.cast_ofNat_Int] at h1 h2
 unfold lW
 generalize decide (48≤n)=a at *
 generalize decide (n≤57)=b at *
 cases a<;>cases b
 all_goals
  simp only[go_sem,γ,reduceCtorEq,EG,ayJ,ayK,ajM,h1,h2]
  refine aM (.inr rfl) rfl ?_
  rfl
theorem bcB {C:Ctx} (h1:∀ n:Nat,aH C 65 [.int .u8 n] .nil (aF (.bool (eO n)))) (h2:∀ n:Nat,aH C 63 [.int .u8 n] .nil (aF (.bool (lW n)))) (n:Nat) :
  zK.wp C (aS TO.res (aF (.bool (fG n)))) (PF.args [.int .u8 n]) .nil:=by
 have g1:((n:Int)==45)=decide (n=45):=by by_cases h:n=45<;>simp[h]; omega
 have g2:((n:Int)==46)=decide (n=46):=by by_cases h:n=46<;>simp[h]; omega
 have k1:=h1 n
 have k2:=h2 n
 unfold fG
 generalize decide (n=45)=a at *
 generalize decide (n=46)=b at *
 simp only[go_sem,reduceCtorEq,zK,ajN,ajO,TO]
 refine aA k1 rfl ?_
 cases eO n with
 | true =>
  simp only[go_sem,γ]
  refine aM (.inr rfl) rfl ?_
  rfl
 | false =>
  simp only[go_sem,γ,reduceCtorEq]
  refine aA k2 rfl ?_
  cases lW n<;>cases a<;>cases b
  all_goals
   simp only[go_sem,γ,reduceCtorEq,g1,g2]
   refine aM (.inr rfl) rfl ?_
   rfl
theorem bcD {C:Ctx} (h1:∀ n:Nat,aH C 65 [.int .u8 n] .nil (aF (.bool (eO n)))) (h2:∀ n:Nat,aH C 64 [.int .u8 n] .nil (aF (.bool (fG n)))) (s:List UInt8) :
  zL.wp C (aS TP.res (aF (.bool (isName s)))) (PF.args [.str s]) .nil:=by
 simp only[go_sem,γ,reduceCtorEq,zL,ajQ,ajR,TP]
 cases s with
 | nil =>
  have h0:decide (((0:Nat):Int)<1)=true:=rfl
  simp only[go_sem,γ,xD,bNJ,h0]
  refine aM (.inr rfl) rfl ?_
  rfl
 | cons c t =>
  have hz:(c::t)[0]?=some c:=rfl
  have hN:isName (c::t)=(decide ((c::t).length≤16)&&eO c.toNat&&(c::t).all fun c=>fG c.toNat):=rfl
  have hpos:¬ (((c::t).length:Nat):Int)<1:=by simp only[bNM]; omega
  generalize c::t=s at *
  by_cases hl:s.length≤16
  ·have hl':¬ ((s.length:Nat):Int)>16:=by omega
   rw[decide_eq_true hl,bLN] at hN
   have k1:=h1 c.toNat
   simp only[go_sem,ν,γ,reduceCtorEq,hpos,hl',hz,bME]
   refine aA k1 rfl ?_
   cases hc:eO c.toNat with
   | false =>
    simp only[go_sem,γ,reduceCtorEq,bLK,xD]
    refine aM (.inr rfl) rfl ?_
    rw[bF,hN,hc,bLI]
   | true =>
    rw[hc,bLN] at hN
    simp only[go_sem,γ,reduceCtorEq,bLB,ajS]
    refine wp_loop (α:=Nat) (fun k=>((PF.nil.set 0 (.str s)).set 3 (.int .i64 k))) (fun _=>.nil) (fun k=>k≤s.length∧(s.take k).all (fun c=>fG c.toNat)=true) (fun k=>s.length-k) 0 ⟨bLE _,rfl⟩ Lq PH.nil_le ?_
    rintro k ⟨hk,ha⟩
    simp only[go_sem,γ,reduceCtorEq,ajP,ajT]
    by_cases hlt:k<s.length
    ·have bJA:(k:Int)<(s.length:Nat):=by omega
     have hat:s[k]?=some s[k]:=bLL hlt
     have k2:=h2 (s[k]).toNat
     simp only[go_sem,γ,reduceCtorEq,bJA,ajU,hat,bME]
     refine aA k2 rfl ?_
     cases hi:fG (s[k]).toNat with
     | false =>
      simp only[go_sem,γ,reduceCtorEq,bLK,ajV]
      refine aM (.inr rfl) rfl ?_
      rw[bF,hN,oT hlt hi]
     | true =>
      simp only[go_sem,γ,reduceCtorEq,bLB,ajW,ws k]
      exact aE (k+1) ⟨hlt,by simpa using oS hlt ha hi⟩ Om Lq PH.le_refl
    ·have bJA:¬ (k:Int)<(s.length:Nat):=by omega
     have:k=s.length:=by omega
     subst this
     rw[bLZ] at ha
     simp only[go_sem,bJA,ajX]
     refine aM (.inr rfl) rfl ?_
     rw[bF,hN,ha]
  ·have hl':((s.length:Nat):Int)>16:=by omega
   rw[decide_eq_false hl,bLI,bLI] at hN
   simp only[go_sem,γ,reduceCtorEq,hpos,hl',xD]
   refine aM (.inr rfl) rfl ?_
   rw[bF,hN]
def FT (k m:Int):Bool:=within k 1 6&&(within m 0 4&&decide (k+m≤8))
theorem boY {C:Ctx} (k m:Int):nN.wp C (aS AH.res (aF (.bool (FT k m)))) (PF.args [.int .i64 k,.int .i64 m]) .nil:=by
 unfold FT within
 by_cases h1:1≤k
 ·by_cases h2:k≤6
  ·by_cases h3:0≤m
   ·by_cases h4:m≤4
    ·have hw:IntKind.i64.wrap (k+m)=k+m:=wrap_i64 Om Om
     simp only[go_sem,γ,reduceCtorEq,nN,uA,uB,AH,ge_iff_le,h1,h2,h3,h4,hw]
     refine aM (.inr rfl) rfl ?_
     simp[bF,h1,h2,h3,h4]
    ·simp only[go_sem,γ,reduceCtorEq,nN,uA,uB,AH,ge_iff_le,h1,h2,h3,h4]
     refine aM (.inr rfl) rfl ?_
     simp[bF,h1,h2,h3,h4]
   ·simp only[go_sem,γ,reduceCtorEq,nN,uA,uB,AH,ge_iff_le,h1,h2,h3]
    refine aM (.inr rfl) rfl ?_
    simp[bF,h1,h2,h3]
  ·simp only[go_sem,γ,reduceCtorEq,nN,uA,uB,AH,ge_iff_le,h1,h2]
   refine aM (.inr rfl) rfl ?_
   simp[bF,h1,h2]
 ·simp only[go_sem,γ,reduceCtorEq,nN,uA,uB,AH,ge_iff_le,h1]
  refine aM (.inr rfl) rfl ?_
  simp[bF,h1]
def ayZ:Rg:=[iA 1 (.box true (Tm 0)),iT 2 false]
def azA:Rg:=[iO 6 3 1,iK 7 52 6,iM 5 7,iE 8 5 0,iE 9 5 1,iA 3 (.alloc [(.bool false),.bIU,.bIU]),iS 3 3 8,iM 4 9]
def BF:Rg:=[iM 10 4,iC 11 .eql 10 0,iM 12 11,gF 13 0 3 12 true,gL 14 13 12 true,iG 15 (.un .not (Tm 14)) 12 true,iP 16 12 15,iM 17 16,gF 18 1 3 17 true,gL 19 18 17 true,gN 20 19 17 true,gC 21 .leq 20 1 17 true,iP 22 17 21,iM 23 22,gF 24 2 3 23 true,gL 25 24 23 true,gN 26 25 23 true,gC 27 .leq 26 1 23 true,iP 28 23 27,iM 2 28]
def EM:aB:=(sq ayZ (sq azA (sq BF .ret)))
def bkO:List Nat:=[1]
def akG:aT:=⟨1,29,EM,[.tmp 2]⟩
def akI:Rg:=[iT 4 false]
def akJ:Rg:=[iM 6 0,iN 7 6,iM 8 1,iB 9 .neq 7 8]
def akK:Rg:=[iT 4 false]
def akL:Rg:=[iI 5 0]
def akM:Rg:=[iM 10 5,iM 11 1,iB 12 .lss 10 11]
def akN:Rg:=[iM 15 0,iM 16 5,iX 17 3 15 16,iO 18 3 17,iK 19 74 18,iA 20 (.un .not (Tm 19))]
def akO:Rg:=[iT 4 false]
def akP:Rg:=[iM 13 5,iC 14 .add 13 1,iM 5 14]
def akH:aB:=(.seq (sq akM (.cond (Tm 12) .skip (.exit 0))) (.seq (.block 1 (sq akN (.cond (Tm 20) (sq akO .ret) .skip))) (.region akP)))
def akQ:Rg:=[iT 4 true]
def zP:aB:=(sq akI (.seq (sq akJ (.cond (Tm 9) (sq akK .ret) .skip)) (.seq (sq akL (.block 0 (.loop akH))) (sq akQ .ret))))
def bcN:List Nat:=[]
def TR:aT:=⟨2,21,zP,[.tmp 4]⟩
def a4S:Rg:=[iA 1 (.box true (Tm 0)),iT 2 false]
def a4T:Rg:=[iF 12 1 1,iL 13 12,iN 14 13,iM 3 14]
def a4U:Rg:=[iM 15 3,iC 16 .lss 15 1,iM 17 16,gM 18 3 17 false,gC 19 .gtr 18 4 17 false,iQ 20 17 19,iM 21 20,gF 22 1 1 21 false,gL 23 22 21 false,gM 24 3 21 false,gK2 25 75 23 24 21 false,iG 26 (.un .not (Tm 25)) 21 false,iQ 27 21 26,iM 28 27,gF 29 3 1 28 false,gL 30 29 28 false,gM 31 3 28 false,gK2 32 75 30 31 28 false,iG 33 (.un .not (Tm 32)) 28 false,iQ 34 28 33,iM 35 34,gF 36 2 1 35 false,gL 37 36 35 false,gN 38 37 35 false,gM 39 3 35 false,gB 40 .neq 38 39 35 false,iQ 41 35 40]
def xY:Rg:=[iT 2 false]
def a4V:Rg:=[iI 4 0]
def a4W:Rg:=[iM 42 4,iM 43 3,iB 44 .lss 42 43]
def a4X:Rg:=[iF 47 2 1,iL 48 47,iM 49 4,iX 50 1 48 49,iL 51 50,iM 52 3,iK2 53 75 51 52,iA 54 (.un .not (Tm 53)),iM 55 54,gF 56 2 1 55 false,gL 57 56 55 false,gM 58 4 55 false,iG 59 (.bJP 1 (Tm 57) (Tm 58)) 55 false,gL 60 59 55 false,gM 61 4 55 false,iG 62 (.bJP 3 (Tm 60) (Tm 61)) 55 false,gO 63 3 62 55 false,gK 64 54 63 55 false,gC 65 .neq 64 0 55 false,iQ 66 55 65]
def aoN:Rg:=[iT 2 false]
def a4Y:Rg:=[iM 45 4,iC 46 .add 45 1,iM 4 46]
def a4R:aB:=(.seq (sq a4W (.cond (Tm 44) .skip (.exit 0))) (.seq (.block 1 (sq a4X (.cond (Tm 66) (sq aoN .ret) .skip))) (.region a4Y)))
def aSD:Rg:=[iF 68 1 1,iL 69 68,iK 70 55 69,iM 67 70,iE 71 67 0,iE 72 67 1,iA 5 (.alloc [(.bool false),.bIU,.bIU]),iS 3 5 71,iM 6 72]
def aaZ:Rd:=[(iM 73 6,false),(iC 74 .neq 73 0,false),(iM 75 74,false),(gO 76 3 5 75 false,true),(iG 77 (.call 47 [(Ci 1)]) 75 false,true),(gK2 78 53 76 77 75 false,true),(iG 79 (.un .not (Tm 78)) 75 false,false),(iQ 80 75 79,false)]
def abA:Rg:=[iT 2 false]
def aSE:Rg:=[iM 81 3,iA 82 (.bJE 1 1 [(.bool false)] (Tm 81) (Tm 81)),iM 7 82]
def aSF:Rg:=[iI 8 0]
def aSG:Rg:=[iM 83 8,iM 84 3,iB 85 .lss 83 84]
def aSH:Rg:=[iI 9 0]
def aSI:Rg:=[iM 88 9,iM 89 3,iB 90 .lss 88 89]
def abB:Rg:=[iM 93 7,iM 94 9,iM 95 7,iM 96 9,iX 97 1 95 96,iL 98 97,iM 99 98,gF 100 3 1 99 false,gL 101 100 99 false,gM 102 9 99 false,iG 103 (.bJP 3 (Tm 101) (Tm 102)) 99 false,gO 104 3 103 99 false,gK 105 54 104 99 false,gC 106 .gtr 105 0 99 false,iQ 107 99 106,iX 108 1 93 94,iS 1 108 107]
def abC:Rg:=[iI 10 0]
def aSJ:Rg:=[iM 109 10,iM 110 3,iB 111 .lss 109 110]
def abD:Rg:=[iM 114 7,iM 115 9,iM 116 7,iM 117 9,iX 118 1 116 117,iL 119 118,iM 120 119,gF 121 2 1 120 false,gL 122 121 120 false,gM 123 9 120 false,iG 124 (.bJP 1 (Tm 122) (Tm 123)) 120 false,gL 125 124 120 false,gM 126 10 120 false,iG 127 (.bJP 3 (Tm 125) (Tm 126)) 120 false,gO 128 3 127 120 false,gK 129 54 128 120 false,gC 130 .gtr 129 0 120 false,gM 131 130 120 false,gM 132 7 131 true,gM 133 10 131 true,iG 134 (.bJP 1 (Tm 132) (Tm 133)) 131 true,gL 135 134 131 true,iG 136 (.pick (Tm 131) (Tm 135) (.const (.bool false))) 120 false,iQ 137 120 136,iX 138 1 114 115,iS 1 138 137]
def LG:Rg:=[iM 112 10,iC 113 .add 112 1,iM 10 113]
def LF:aB:=(.seq (sq aSJ (.cond (Tm 111) .skip (.exit 6))) (.seq (.block 7 (.region abD)) (.region LG)))
def abE:Rg:=[iM 91 9,iC 92 .add 91 1,iM 9 92]
def aaW:aB:=(.seq (sq aSI (.cond (Tm 90) .skip (.exit 4))) (.seq (.block 5 (sq abB (sq abC (.block 6 (.loop LF))))) (.region abE)))
def aSK:Rg:=[iM 86 8,iC 87 .add 86 1,iM 8 87]
def aaX:aB:=(.seq (sq aSG (.cond (Tm 85) .skip (.exit 2))) (.seq (.block 3 (sq aSH (.block 4 (.loop aaW)))) (.region aSK)))
def aSL:Rg:=[iI 11 0]
def aSM:Rg:=[iM 139 11,iM 140 3,iB 141 .lss 139 140]
def abG:Rg:=[iM 144 7,iM 145 11,iX 146 1 144 145,iL 147 146,iA 148 (.un .not (Tm 147))]
def aSN:Rg:=[iT 2 false]
def aSO:Rg:=[iM 142 11,iC 143 .add 142 1,iM 11 143]
def aaY:aB:=(.seq (sq aSM (.cond (Tm 141) .skip (.exit 8))) (.seq (.block 9 (sq abG (.cond (Tm 148) (sq aSN .ret) .skip))) (.region aSO)))
def abH:Rg:=[iT 2 true]
def RV:aB:=(sq a4S (sq a4T (.seq (sq a4U (.cond (Tm 41) (sq xY .ret) .skip)) (.seq (sq a4V (.block 0 (.loop a4R))) (.seq (sq aSD (dq aaZ (.cond (Tm 80) (sq abA .ret) .skip))) (sq aSE (.seq (sq aSF (.block 2 (.loop aaX))) (.seq (sq aSL (.block 8 (.loop aaY))) (sq abH .ret)))))))))
def bwX:List Nat:=[1]
def bcK:aT:=⟨1,149,RV,[.tmp 2]⟩
def a5A:Rg:=[iT 4 false]
def a5B:Rg:=[iM 6 0,iM 7 1,iA 8 (.bJV true (Tm 7) (Ci 1)),iK2 9 75 6 8,iA 10 (.un .not (Tm 9))]
def a5C:Rg:=[iT 4 false]
def a5D:Rg:=[iI 5 0]
def a5E:Rg:=[iM 11 5,iM 12 0,iN 13 12,iB 14 .lss 11 13]
def a5F:Rg:=[iM 17 0,iM 18 5,iX 19 3 17 18,iO 20 3 19,iK 21 54 20,iC 22 .eql 21 0]
def a5G:Rg:=[iT 4 false]
def a5H:Rg:=[iM 15 5,iC 16 .add 15 1,iM 5 16]
def a4Z:aB:=(.seq (sq a5E (.cond (Tm 14) .skip (.exit 0))) (.seq (.block 1 (sq a5F (.cond (Tm 22) (sq a5G .ret) .skip))) (.region a5H)))
def a5I:Rg:=[iT 4 true]
def RW:aB:=(sq a5A (.seq (sq a5B (.cond (Tm 10) (sq a5C .ret) .skip)) (.seq (sq a5D (.block 0 (.loop a4Z))) (sq a5I .ret))))
def bwZ:List Nat:=[]
def bcL:aT:=⟨2,23,RW,[.tmp 4]⟩
def MG:Rg:=[iT 6 false]
def MH:Rg:=[iM 7 0,iM 8 1,iB 9 .geq 7 8,iM 10 9,gM 11 0 10 true,gM 12 2 10 true,gB 13 .leq 11 12 10 true,iP 14 10 13,iM 6 14]
def tI:aB:=(sq MG (sq MH .ret))
def bcP:List Nat:=[]
def FP:aT:=⟨3,15,tI,[.tmp 6]⟩
def ayX:Rg:=[iT 12 false]
def ayY:Rg:=[iM 13 0,iC 14 .leq 13 4,iM 15 14,gM 16 1 15 true,gC 17 .leq 16 4 15 true,iP 18 15 17,iM 19 18,gM 20 2 19 true,gC 21 .leq 20 40 19 true,iP 22 19 21,iM 23 22,gM 24 3 23 true,gC 25 .leq 24 24 23 true,iP 26 23 25,iM 27 26,gM 28 4 27 true,gC 29 .leq 28 4 27 true,iP 30 27 29,iM 31 30,gM 32 5 31 true,gC 33 .leq 32 12 31 true,iP 34 31 33,iM 12 34]
def EL:aB:=(sq ayX (sq ayY .ret))
def bkM:List Nat:=[]
def akF:aT:=⟨6,35,EL,[.tmp 12]⟩
def WQ:Rg:=[iA 7 (.box true (Tm 3)),iT 8 false]
def WR:Rg:=[iM 10 0,iM 11 1,iK2 12 61 10 11,iA 13 (.un .not (Tm 12)),iM 14 13,gM 15 2 14 false,gM 16 0 14 false,gM 17 0 14 false,gM 18 1 14 false,gB 19 .add 17 18 14 false,iG 20 (.call 76 [(Tm 15),(Tm 16),(Tm 19)]) 14 false,iG 21 (.un .not (Tm 20)) 14 false,iQ 22 14 21,iM 23 22,iG 24 (.idxA 5 1 (Tm 7) (Ci 0)) 23 false,gL 25 24 23 false,gC 26 .neq 25 0 23 false,iQ 27 23 26]
def uT:Rg:=[iT 8 false]
def WS:Rg:=[iI 9 1]
def WT:Rg:=[iM 28 9,iC 29 .lss 28 5]
def EK:Rg:=[iM 32 9,iA 33 (.idxA 5 1 (Tm 7) (Tm 32)),iL 34 33,iA 35 (.call 76 [(Tm 34),(Ci 0),(Ci 8)]),iA 36 (.un .not (Tm 35))]
def WU:Rg:=[iT 8 false]
def WV:Rg:=[iM 30 9,iC 31 .add 30 1,iM 9 31]
def WP:aB:=(.seq (sq WT (.cond (Tm 29) .skip (.exit 0))) (.seq (.block 1 (sq EK (.cond (Tm 36) (sq WU .ret) .skip))) (.region WV)))
def WW:Rg:=[iT 8 true]
def wB:aB:=(sq WQ (.seq (sq WR (.cond (Tm 27) (sq uT .ret) .skip)) (.seq (sq WS (.block 0 (.loop WP))) (sq WW .ret))))
def aVK:List Nat:=[7]
def LH:aT:=⟨4,37,wB,[.tmp 8]⟩
def a4P:Rg:=[iA 6 (.box true (Tm 2)),iA 7 (.box true (Tm 3)),iT 8 false]
def a4Q:Rd:=[(iM 9 1,false),(iM 10 0,false),(iK2 11 66 9 10,true),(iM 12 11,false),(gO 13 3 6 12 true,false),(gK 14 74 13 12 true,true),(iP 15 12 14,false),(iM 16 15,false),(iG 17 (.call 47 [(Ci 1)]) 16 true,true),(gO 18 3 6 16 true,true),(gK2 19 49 17 18 16 true,true),(iG 20 (.un .not (Tm 19)) 16 true,false),(iP 21 16 20,false),(iM 22 21,false),(gO 23 3 7 22 true,false),(gK 24 74 23 22 true,true),(iP 25 22 24,false),(iM 8 25,false)]
def RT:aB:=(sq a4P (dq a4Q .ret))
def bwV:List Nat:=[6,7]
def bcI:aT:=⟨4,26,RT,[.tmp 8]⟩
def ayR:Rg:=[iI 4 0]
def ayS:Rg:=[iI 5 0]
def ayT:Rg:=[iM 6 5,iM 7 0,iN 8 7,iB 9 .lss 6 8]
def RU:Rg:=[iM 12 0,iM 13 5,iX 14 1 12 13,iL 15 14,iM 16 1,iB 17 .eql 15 16]
def ayU:Rg:=[iM 18 5,iM 4 18]
def ayV:Rg:=[iM 10 5,iC 11 .add 10 1,iM 5 11]
def ayQ:aB:=(.seq (sq ayT (.cond (Tm 9) .skip (.exit 0))) (.seq (.block 1 (sq RU (.cond (Tm 17) (sq ayU .ret) .skip))) (.region ayV)))
def ayW:Rg:=[iI 4 (-1)]
def EJ:aB:=(sq ayR (.seq (sq ayS (.block 0 (.loop ayQ))) (sq ayW .ret)))
def bkJ:List Nat:=[]
def akE:aT:=⟨2,19,EJ,[.tmp 4]⟩
def azB:Rg:=[iA 1 (.box true (Tm 0)),iT 2 false]
def azC:Rg:=[iF 22 0 1,iL 23 22,iA 24 (.call 76 [(Tm 23),(Ci 1),(Ci 4)]),iA 25 (.un .not (Tm 24)),iM 26 25,gF 27 1 1 26 false,gL 28 27 26 false,gN 29 28 26 false,gF 30 2 1 26 false,gL 31 30 26 false,gN 32 31 26 false,gF 33 3 1 26 false,gL 34 33 26 false,gN 35 34 26 false,gF 36 4 1 26 false,gL 37 36 26 false,gN 38 37 26 false,gF 39 5 1 26 false,gL 40 39 26 false,gN 41 40 26 false,gF 42 6 1 26 false,gL 43 42 26 false,gN 44 43 26 false,iG 45 (.call 73 [(Tm 29),(Tm 32),(Tm 35),(Tm 38),(Tm 41),(Tm 44)]) 26 false,iG 46 (.un .not (Tm 45)) 26 false,iQ 47 26 46,iM 48 47,gF 49 3 1 48 false,gL 50 49 48 false,gN 51 50 48 false,gC 52 .eql 51 0 48 false,iQ 53 48 52]
def BG:Rg:=[iT 2 false]
def azD:Rg:=[iZ 3,iZ 4,iZ 5,iZ 6,iZ 7]
def azE:Rg:=[iT 8 true]
def azF:Rg:=[iI 9 0]
def azG:Rg:=[iM 54 9,iF 55 1 1,iL 56 55,iN 57 56,iB 58 .lss 54 57,iM 59 58,gM 60 8 59 true,iP 61 59 60]
def azH:Rg:=[iM 65 3,iF 66 1 1,iL 67 66,iM 68 9,iX 69 4 67 68,iF 70 0 69,iL 71 70,iK2 72 70 65 71,iM 64 72,iE 73 64 0,iE 74 64 1,iM 3 73,iM 8 74]
def RX:Rg:=[iM 75 8,iM 76 75,gF 77 1 1 76 true,gL 78 77 76 true,gM 79 9 76 true,iG 80 (.bJP 4 (Tm 78) (Tm 79)) 76 true,gO 81 4 80 76 true,gK 82 68 81 76 true,iP 83 76 82,iM 8 83]
def RY:Rg:=[iM 62 9,iC 63 .add 62 1,iM 9 63]
def LJ:aB:=(.seq (sq azG (.cond (Tm 61) .skip (.exit 0))) (.seq (.block 1 (sq azH (.region RX))) (.region RY)))
def akS:Rg:=[iI 10 0]
def akT:Rg:=[iM 84 10,iF 85 2 1,iL 86 85,iN 87 86,iB 88 .lss 84 87,iM 89 88,gM 90 8 89 true,iP 91 89 90]
def akU:Rg:=[iF 94 2 1,iL 95 94,iM 96 10,iX 97 4 95 96,iO 98 4 97,iA 11 (.alloc [(.str []),(.int .i64 0),(.int .i64 0),(.int .i64 0)]),iS 4 11 98]
def akV:Rg:=[iM 100 4,iF 101 0 11,iL 102 101,iK2 103 70 100 102,iM 99 103,iE 104 99 0,iE 105 99 1,iM 4 104,iM 8 105]
def LM:Rg:=[iM 106 8,iM 107 106,gF 108 1 11 107 true,gL 109 108 107 true,iG 110 (.call 76 [(Tm 109),(Ci 1),(Ci 16)]) 107 true,iP 111 107 110,iM 112 111,gF 113 2 11 112 true,gL 114 113 112 true,iG 115 (.call 76 [(Tm 114),(Ci 1),(Ci 64)]) 112 true,iP 116 112 115,iM 117 116,gF 118 3 11 117 true,gL 119 118 117 true,gF 120 1 1 117 true,gL 121 120 117 true,gN 122 121 117 true,gC 123 .sub 122 1 117 true,iG 124 (.call 76 [(Tm 119),(Ci 0),(Tm 123)]) 117 true,iP 125 117 124,iM 8 125]
def tF:Rg:=[iM 92 10,iC 93 .add 92 1,iM 10 93]
def LK:aB:=(.seq (sq akT (.cond (Tm 91) .skip (.exit 2))) (.seq (.block 3 (sq akU (sq akV (.region LM)))) (.region tF)))
def akW:Rg:=[iF 126 3 1,iL 127 126,iA 128 (.bJP 7 (Tm 127) (Ci 0)),iO 129 7 128,iA 12 (.alloc [(.str []),(.int .i64 0),(.int .i64 0),(.int .i64 0),(.bool false),.bIU,.bIU]),iS 7 12 129]
def LN:Rg:=[iM 130 8,iM 131 130,gF 132 0 12 131 true,gL 133 132 131 true,iG 134 (.bin .eql (Tm 133) (.const (.str []))) 131 true,iP 135 131 134,iM 136 135,gF 137 1 12 136 true,gL 138 137 136 true,gC 139 .eql 138 0 136 true,iP 140 136 139,iM 141 140,gF 142 2 12 141 true,gL 143 142 141 true,gC 144 .eql 143 (-1) 141 true,iP 145 141 144,iM 146 145,gF 147 3 12 146 true,gL 148 147 146 true,gC 149 .eql 148 0 146 true,iP 150 146 149,iM 151 150,gF 152 4 12 151 true,gO 153 3 152 151 true,gK 154 56 153 151 true,iP 155 151 154,iM 156 155,gF 157 4 12 156 true,gO 158 3 157 156 true,gK 159 54 158 156 true,gC 160 .eql 159 0 156 true,iP 161 156 160,iM 8 161]
def LO:Rg:=[iI 13 1]
def akX:Rg:=[iM 162 13,iF 163 3 1,iL 164 163,iN 165 164,iB 166 .lss 162 165,iM 167 166,gM 168 8 167 true,iP 169 167 168]
def akY:Rg:=[iF 172 3 1,iL 173 172,iM 174 13,iX 175 7 173 174,iO 176 7 175,iA 14 (.alloc [(.str []),(.int .i64 0),(.int .i64 0),(.int .i64 0),(.bool false),.bIU,.bIU]),iS 7 14 176]
def akZ:Rg:=[iM 178 5,iF 179 0 14,iL 180 179,iK2 181 70 178 180,iM 177 181,iE 182 177 0,iE 183 177 1,iM 5 182,iM 8 183]
def LP:Rd:=[(iM 184 8,false),(iM 185 184,false),(gF 186 1 14 185 true,false),(gL 187 186 185 true,false),(iG 188 (.call 76 [(Tm 187),(Ci 1),(Ci 4)]) 185 true,true),(iP 189 185 188,false),(iM 190 189,false),(gF 191 2 14 190 true,false),(gL 192 191 190 true,false),(gM 193 13 190 true,false),(gC 194 .sub 193 1 190 true,false),(iG 195 (.call 76 [(Tm 192),(Ci 0),(Tm 194)]) 190 true,true),(iP 196 190 195,false),(iM 197 196,false),(gF 198 3 1 197 true,false),(gL 199 198 197 true,false),(gF 200 2 14 197 true,false),(gL 201 200 197 true,false),(iG 202 (.bJP 7 (Tm 199) (Tm 201)) 197 true,false),(gF 203 1 202 197 true,false),(gL 204 203 197 true,false),(gF 205 1 14 197 true,false),(gL 206 205 197 true,false),(gC 207 .sub 206 1 197 true,false),(gB 208 .eql 204 207 197 true,false),(iP 209 197 208,false),(iM 210 209,false),(gF 211 3 14 210 true,false),(gL 212 211 210 true,false),(iG 213 (.call 76 [(Tm 212),(Ci 1),(Ci 64)]) 210 true,true),(iP 214 210 213,false),(iM 215 214,false),(gF 216 4 14 215 true,false),(gO 217 3 216 215 true,false),(gK 218 74 217 215 true,true),(iP 219 215 218,false),(iM 8 219,false)]
def nS:Rg:=[iM 170 13,iC 171 .add 170 1,iM 13 171]
def xF:aB:=(.seq (sq akX (.cond (Tm 169) .skip (.exit 4))) (.seq (.block 5 (sq akY (sq akZ (.draw LP)))) (.region nS)))
def LQ:Rg:=[iI 15 0]
def alA:Rg:=[iM 220 15,iF 221 4 1,iL 222 221,iN 223 222,iB 224 .lss 220 223,iM 225 224,gM 226 8 225 true,iP 227 225 226]
def alB:Rg:=[iF 230 4 1,iL 231 230,iM 232 15,iX 233 3 231 232,iO 234 3 233,iA 16 (.alloc [(.str []),(.int .i64 0),(.int .i64 0)]),iS 3 16 234]
def alC:Rg:=[iM 236 5,iF 237 0 16,iL 238 237,iK2 239 70 236 238,iM 235 239,iE 240 235 0,iE 241 235 1,iM 5 240,iM 8 241]
def LS:Rg:=[iM 242 8,iM 243 242,gF 244 1 16 243 true,gL 245 244 243 true,gF 246 2 1 243 true,gL 247 246 243 true,gN 248 247 243 true,gC 249 .sub 248 1 243 true,iG 250 (.call 76 [(Tm 245),(Ci 0),(Tm 249)]) 243 true,iP 251 243 250,iM 252 251,gF 253 2 16 252 true,gL 254 253 252 true,gF 255 3 1 252 true,gL 256 255 252 true,gN 257 256 252 true,gC 258 .sub 257 1 252 true,iG 259 (.call 76 [(Tm 254),(Ci 0),(Tm 258)]) 252 true,iP 260 252 259,iM 261 260,gF 262 3 1 261 true,gL 263 262 261 true,gF 264 2 16 261 true,gL 265 264 261 true,iG 266 (.bJP 7 (Tm 263) (Tm 265)) 261 true,gF 267 1 266 261 true,gL 268 267 261 true,gC 269 .eql 268 4 261 true,iP 270 261 269,iM 8 270]
def tG:Rg:=[iM 228 15,iC 229 .add 228 1,iM 15 229]
def xG:aB:=(.seq (sq alA (.cond (Tm 227) .skip (.exit 6))) (.seq (.block 7 (sq alB (sq alC (.region LS)))) (.region tG)))
def LT:Rg:=[iI 17 0]
def alD:Rg:=[iM 271 17,iF 272 5 1,iL 273 272,iN 274 273,iB 275 .lss 271 274,iM 276 275,gM 277 8 276 true,iP 278 276 277]
def alE:Rg:=[iF 281 5 1,iL 282 281,iM 283 17,iX 284 17 282 283,iO 285 17 284,iA 18 (.alloc [(.str []),(.int .i64 0),(.int .i64 0),(.int .i64 0),(.int .i64 0),(.int .i64 0),(.int .i64 0),(.int .i64 0),(.int .i64 0),.bIU,.bIU,(.bool false),.bIU,.bIU,(.bool false),.bIU,.bIU]),iS 17 18 285]
def alF:Rg:=[iM 287 6,iF 288 0 18,iL 289 288,iK2 290 70 287 289,iM 286 290,iE 291 286 0,iE 292 286 1,iM 6 291,iM 8 292]
def LW:Rg:=[iM 293 8,iM 294 293,gF 295 1 18 294 true,gL 296 295 294 true,gF 297 2 18 294 true,gL 298 297 294 true,gF 299 3 18 294 true,gL 300 299 294 true,gF 301 4 18 294 true,gO 302 5 301 294 true,iG 303 (.call 72 [(Tm 296),(Tm 298),(Tm 300),(Tm 302)]) 294 true,iP 304 294 303,iM 305 304,gF 306 2 18 305 true,gL 307 306 305 true,gF 308 10 18 305 true,gL 309 308 305 true,gF 310 11 18 305 true,gO 311 3 310 305 true,gF 312 14 18 305 true,gO 313 3 312 305 true,iG 314 (.call 69 [(Tm 307),(Tm 309),(Tm 311),(Tm 313)]) 305 true,iP 315 305 314,iM 316 315,gF 317 9 18 316 true,gL 318 317 316 true,gN 319 318 316 true,gC 320 .gtr 319 0 316 true,iP 321 316 320,iM 8 321]
def tH:Rg:=[iI 19 0]
def alG:Rg:=[iM 322 19,iF 323 9 18,iL 324 323,iN 325 324,iB 326 .lss 322 325,iM 327 326,gM 328 8 327 true,iP 329 327 328]
def alH:Rd:=[(iF 332 9 18,false),(iL 333 332,false),(iM 334 19,false),(iX 335 1 333 334,false),(iL 336 335,false),(iF 337 2 1,false),(iL 338 337,false),(iN 339 338,false),(iC 340 .sub 339 1,false),(iA 341 (.call 76 [(Tm 336),(Ci 0),(Tm 340)]),true),(iM 8 341,false)]
def alI:Rg:=[iI 20 0]
def alJ:Rg:=[iM 342 20,iM 343 19,iB 344 .lss 342 343]
def LZ:Rd:=[(iM 347 8,false),(iM 348 347,false),(gF 349 9 18 348 true,false),(gL 350 349 348 true,false),(gM 351 20 348 true,false),(iG 352 (.bJP 1 (Tm 350) (Tm 351)) 348 true,false),(gL 353 352 348 true,false),(gF 354 9 18 348 true,false),(gL 355 354 348 true,false),(gM 356 19 348 true,false),(iG 357 (.bJP 1 (Tm 355) (Tm 356)) 348 true,false),(gL 358 357 348 true,false),(gB 359 .neq 353 358 348 true,false),(iP 360 348 359,false),(iM 8 360,false)]
def MA:Rg:=[iM 345 20,iC 346 .add 345 1,iM 20 346]
def LL:aB:=(.seq (sq alJ (.cond (Tm 344) .skip (.exit 12))) (.seq (.block 13 (.draw LZ)) (.region MA)))
def alK:Rg:=[iM 330 19,iC 331 .add 330 1,iM 19 331]
def xH:aB:=(.seq (sq alG (.cond (Tm 329) .skip (.exit 10))) (.seq (.block 11 (dq alH (sq alI (.block 12 (.loop LL))))) (.region alK)))
def MB:Rg:=[iM 279 17,iC 280 .add 279 1,iM 17 280]
def xI:aB:=(.seq (sq alD (.cond (Tm 278) .skip (.exit 8))) (.seq (.block 9 (sq alE (sq alF (sq LW (sq tH (.block 10 (.loop xH))))))) (.region MB)))
def MC:Rg:=[iI 21 0]
def alL:Rg:=[iM 361 21,iF 362 6 1,iL 363 362,iN 364 363,iB 365 .lss 361 364,iM 366 365,gM 367 8 366 true,iP 368 366 367]
def alM:Rg:=[iM 372 7,iF 373 6 1,iL 374 373,iM 375 21,iX 376 2 374 375,iF 377 0 376,iL 378 377,iK2 379 70 372 378,iM 371 379,iE 380 371 0,iE 381 371 1,iM 7 380,iM 8 381]
def MD:Rd:=[(iM 382 8,false),(iM 383 382,false),(gF 384 6 1 383 true,false),(gL 385 384 383 true,false),(gM 386 21 383 true,false),(iG 387 (.bJP 2 (Tm 385) (Tm 386)) 383 true,false),(gF 388 1 387 383 true,false),(gL 389 388 383 true,false),(gF 390 5 1 383 true,false),(gL 391 390 383 true,false),(gN 392 391 383 true,false),(gC 393 .sub 392 1 383 true,false),(iG 394 (.call 76 [(Tm 389),(Ci 0),(Tm 393)]) 383 true,true),(iP 395 383 394,false),(iM 8 395,false)]
def ME:Rg:=[iM 369 21,iC 370 .add 369 1,iM 21 370]
def xJ:aB:=(.seq (sq alL (.cond (Tm 368) .skip (.exit 14))) (.seq (.block 15 (sq alM (.draw MD))) (.region ME)))
def MF:Rg:=[iM 396 8,iM 2 396]
def EN:aB:=(sq azB (.seq (sq azC (.cond (Tm 53) (sq BG .ret) .skip)) (sq azD (sq azE (.seq (sq azF (.block 0 (.loop LJ))) (.seq (sq akS (.block 2 (.loop LK))) (sq akW (sq LN (.seq (sq LO (.block 4 (.loop xF))) (.seq (sq LQ (.block 6 (.loop xG))) (.seq (sq LT (.block 8 (.loop xI))) (.seq (sq MC (.block 14 (.loop xJ))) (sq MF .ret)))))))))))))
def bkS:List Nat:=[1]
def akR:aT:=⟨1,397,EN,[.tmp 2]⟩
def ayO:Rg:=[iZ 4,iT 5 false]
def ayP:Rg:=[iM 6 0,iM 7 1,iA 8 (.bIZ true 1 1 [(.str [])] [(0,(Tm 7))]),iA 9 (.append 1 16 (Tm 6) (Tm 8)),iM 10 1,iK 11 62 10,iM 12 11,gM 13 0 12 true,gM 14 1 12 true,gK2 15 71 13 14 12 true,gC 16 .lss 15 0 12 true,iP 17 12 16,iM 4 9,iM 5 17]
def EI:aB:=(sq ayO (sq ayP .ret))
def bkH:List Nat:=[8]
def akD:aT:=⟨2,18,EI,[.tmp 4,.tmp 5]⟩
theorem bcO {C:Ctx} (n lo hi:Int):tI.wp C (aS FP.res (aF (.bool (within n lo hi)))) (PF.args [.int .i64 n,.int .i64 lo,.int .i64 hi]) .nil:=by
 unfold within
 by_cases h:lo≤n
 ·simp only[go_sem,γ,reduceCtorEq,tI,MG,MH,FP,ge_iff_le,h]
  refine aM (.inr rfl) rfl ?_
  simp[bF,h]
 ·simp only[go_sem,γ,reduceCtorEq,tI,MG,MH,FP,ge_iff_le,h]
  refine aM (.inr rfl) rfl ?_
  simp[bF,h]
def pF (a b c d e f:Nat):Bool:=decide (a≤4)&&(decide (b≤4)&&(decide (c≤40)&&(decide (d≤24)&&(decide (e≤4)&&decide (f≤12)))))
theorem bkL {C:Ctx} (a b c d e f:Nat):EL.wp C (aS akF.res (aF (.bool (pF a b c d e f)))) (PF.args [.int .i64 a,.int .i64 b,.int .i64 c,.int .i64 d,.int .i64 e,.int .i64 f]) .nil:=by
 have g:∀ x k:Nat,decide ((x:Int)≤(k:Int))=decide (x≤k):=fun x k=>decide_eq_decide.2 Om
 have h1:=g a 4
 have h2:=g b 4
 have h3:=g c 40
 have h4:=g d 24
 have h5:=g e 4
 have h6:=g f 12
 simp only[Int.cast_ofNat_Int] at h1 h2 h3 h4 h5 h6
 unfold pF
 simp only[go_sem,γ,reduceCtorEq,EL,ayX,ayY,akF,h1]
 cases decide (a≤4) with
 | false =>
  simp only[go_sem,γ,reduceCtorEq]
  refine aM (.inr rfl) rfl ?_
  rfl
 | true =>
  simp only[go_sem,γ,h2]
  cases decide (b≤4) with
  | false =>
   simp only[go_sem,γ,reduceCtorEq]
   refine aM (.inr rfl) rfl ?_
   rfl
  | true =>
   simp only[go_sem,γ,h3]
   cases decide (c≤40) with
   | false =>
    simp only[go_sem,γ,reduceCtorEq]
    refine aM (.inr rfl) rfl ?_
    rfl
   | true =>
    simp only[go_sem,γ,h4]
    cases decide (d≤24) with
    | false =>
     simp only[go_sem,γ,reduceCtorEq]
     refine aM (.inr rfl) rfl ?_
     rfl
    | true =>
     simp only[go_sem,γ,h5]
     cases decide (e≤4) with
     | false =>
      simp only[go_sem,γ,reduceCtorEq]
      refine aM (.inr rfl) rfl ?_
      rfl
     | true =>
      simp only[go_sem,γ,h6]
      refine aM (.inr rfl) rfl ?_
      rfl
structure abN (C:Ctx):Prop extends a5L C where
 sum:∀ l:List RF,(∀ x∈l,x.Ok)→l.length≤9223372036854775807→aH C 55 [frs l] .nil (aF (frV (nE (l.map RF.v))))
 inn:∀ n lo hi:Int,aH C 76 [.int .i64 n,.int .i64 lo,.int .i64 hi] .nil (aF (.bool (within n lo hi)))
 code:∀ k m:Int,aH C 61 [.int .i64 k,.int .i64 m] .nil (aF (.bool (FT k m)))
def IS (k m q s0 s1 s2 s3 s4:Int):Bool:=FT k m&&(within q k (k+m)&&(decide (s0=0)&&(within s1 0 8&&(within s2 0 8&&(within s3 0 8&&within s4 0 8)))))
theorem bvC (p:cJ):IR p=IS p.k p.m p.bJY p.s0 p.s1 p.s2 p.s3 p.s4:=by
 unfold IR IS FT
 have:within p.s0 0 8=true∨p.s0≠0:=by
  by_cases h:p.s0=0
  ·rw[h]; exact .inl rfl
  ·exact .inr h
 simp only[List.all_cons,List.all_nil,bNK]
 rcases this with h | h
 ·rw[h]
  simp only[bLN,bNT]
 ·simp only[h,decide_false,bLI,bMK]
def spR (s1 s2 s3 s4:Int) (k:Nat):Int:=match k with
 | 1=>s1
 | 2=>s2
 | 3=>s3
 | _=>s4
theorem aVJ {C:Ctx} (L:abN C) (k m q s0 s1 s2 s3 s4:Int) :
  wB.wp C (aS LH.res (aF (.bool (IS k m q s0 s1 s2 s3 s4)))) (PF.args [.int .i64 k,.int .i64 m,.int .i64 q,.agg [.int .i64 s0,.int .i64 s1,.int .i64 s2,.int .i64 s3,.int .i64 s4]]) .nil:=by
 obtain⟨X,hX⟩:∃ X,IS k m q s0 s1 s2 s3 s4=X:=⟨_,rfl⟩
 rw[hX]
 unfold IS at hX
 simp only[go_sem,γ,reduceCtorEq,wB,WQ,WR,LH]
 refine aA (L.code k m) rfl ?_
 cases h1:FT k m with
 | false =>
  rw[h1,bLI] at hX
  simp only[go_sem,γ,bLK,uT]
  refine aM (.inr rfl) rfl ?_
  rw[bF,hX]
 | true =>
  rw[h1,bLN] at hX
  have hb:1≤k∧k≤6∧0≤m∧m≤4:=by
   simp only[FT,bLT,within_iff] at h1
   omega
  have hw:IntKind.i64.wrap (k+m)=k+m:=wrap_i64 Om Om
  simp only[go_sem,γ,reduceCtorEq,bLB,hw]
  refine aA (L.inn q k (k+m)) rfl ?_
  cases h2:within q k (k+m) with
  | false =>
   rw[h2,bLI] at hX
   simp only[go_sem,γ,reduceCtorEq,bLK,uT]
   refine aM (.inr rfl) rfl ?_
   rw[bF,hX]
  | true =>
   rw[h2,bLN] at hX
   have l50:(0:Int)<((5:Nat):Int):=by decide
   by_cases h3:s0=0
   ·rw[decide_eq_true h3,bLN] at hX
    simp only[go_sem,ν,δ,γ,θ,ζ,reduceCtorEq,bLB,l50,cA h3,WS]
    refine wp_loop (α:=Nat) (fun j=>((PF.nil.set 7 (.bJC [.int .i64 s0,.int .i64 s1,.int .i64 s2,.int .i64 s3,.int .i64 s4])).set 9 (.int .i64 j))) (fun _=>.nil) (fun j=>1≤j∧j≤5∧∀ i,1≤i→i<j→within (spR s1 s2 s3 s4 i) 0 8=true) (fun j=>5-j) 1 ⟨by decide,by decide,fun i h1 h2=>by omega⟩ Lq PH.nil_le ?_
    rintro j ⟨hj1,hj5,bKL⟩
    simp only[go_sem,γ,WP,WT]
    by_cases hlt:j<5
    ·have bJA:(j:Int)<5:=by omega
     have hlt5:((j:Nat):Int)<((5:Nat):Int):=by omega
     have hin:=L.inn (spR s1 s2 s3 s4 j) 0 8
     obtain⟨c,hc2⟩:∃ c,within (spR s1 s2 s3 s4 j) 0 8=c:=⟨_,rfl⟩
     rw[hc2] at hin
     have bJB:c=true→∀ i,1≤i→i<j+1→within (spR s1 s2 s3 s4 i) 0 8=true:=fun hc i a b=>by
      by_cases e:i=j
      ·rw[e,hc2,hc]
      ·exact bKL i a Om
     have bad:c=false→X=false:=by
      intro h
      rw[h] at hc2
      have hc:j=1∨j=2∨j=3∨j=4:=by omega
      rw[← hX]
      rcases hc with rfl | rfl | rfl | rfl<;>(simp only[spR] at hc2; rw[hc2]; simp)
     have hc:j=1∨j=2∨j=3∨j=4:=by omega
     cases c with
     | false =>
      have hXf:=bad rfl
      rcases hc with rfl | rfl | rfl | rfl
      all_goals
       simp only[spR] at hin
       simp only[go_sem,δ,γ,θ,ζ,ε,bJA,EK,hlt5]
       refine aA hin rfl ?_
       simp only[go_sem,γ,bLK,WU]
       refine aM (.inr rfl) rfl ?_
       rw[bF,hXf]
     | true =>
      have hs:=bJB rfl
      rcases hc with rfl | rfl | rfl | rfl
      all_goals
       simp only[spR] at hin
       simp only[go_sem,δ,γ,θ,ζ,ε,bJA,EK,hlt5]
       refine aA hin rfl ?_
       simp only[go_sem,γ,bLB,WV]
       refine aE (_+1) ⟨by omega,hlt,hs⟩ Om Lq PH.le_refl
    ·have bJA:¬ (j:Int)<5:=by omega
     have:j=5:=by omega
     subst this
     simp only[go_sem,ε,bJA,WW]
     refine aM (.inr rfl) rfl ?_
     have a1:=bKL 1 (by decide) (by decide)
     have a2:=bKL 2 (by decide) (by decide)
     have a3:=bKL 3 (by decide) (by decide)
     have a4:=bKL 4 (by decide) (by decide)
     simp only[spR] at a1 a2 a3 a4
     rw[bF,← hX,a1,a2,a3,a4]
     rfl
   ·rw[decide_eq_false h3,bLI] at hX
    simp only[go_sem,ν,δ,γ,θ,ζ,reduceCtorEq,bLB,l50,cV h3,uT]
    refine aM (.inr rfl) rfl ?_
    rw[bF,hX]
theorem pN {x:RF} (h:cM x=true):x.valid:=by
 unfold cM oI at h
 unfold RF.valid
 cases hv:cO (val x.num) (val x.den) with
 | true=>rfl
 | false =>
  rw[hv] at h
  simp at h
theorem bkN {C:Ctx} (L:abN C) (x:RF) (hx:x.Ok):EM.wp C (aS akG.res (aF (.bool (cM x)))) (PF.args [.agg x.cells]) .nil:=by
 have hr:=L.red x hx
 unfold cM
 simp only[go_sem,δ,γ,EM,ayZ,azA,akG]
 refine aA hr rfl ?_
 cases he:oI x with
 | error e =>
  have h0:=aMC he
  simp only[go_sem,δ,γ,frV]
  refine aN fun o ho=>?_
  simp only[go_sem,δ,γ,reduceCtorEq,BF,bC h0]
  refine aM (.inr rfl) rfl ?_
  rfl
 | ok r =>
  obtain⟨n,a,b⟩:=r
  have ea:=lO a 1
  have eb:=lO b 1
  have da:decide (((nl a:Nat):Int)≤1)=decide (cG a≤32):=decide_eq_decide.2 Om
  have db:decide (((nl b:Nat):Int)≤1)=decide (cG b≤32):=decide_eq_decide.2 Om
  simp only[go_sem,δ,γ,frV]
  refine aN fun o ho=>?_
  cases n with
  | true =>
   simp only[go_sem,ρ,δ,γ,θ,reduceCtorEq,BF,bLB]
   refine aM (.inr rfl) rfl ?_
   rfl
  | false =>
   simp only[go_sem,ρ,δ,γ,θ,BF,bLK,bKY,bA,da]
   cases decide (cG a≤32) with
   | false =>
    simp only[go_sem,γ,reduceCtorEq]
    refine aM (.inr rfl) rfl ?_
    rfl
   | true =>
    simp only[go_sem,δ,γ,bKY,bA,db]
    refine aM (.inr rfl) rfl ?_
    rfl
structure alO (C:Ctx):Prop extends abN C where
 small:∀ x:RF,x.Ok→aH C 74 [.agg x.cells] .nil (aF (.bool (cM x)))
 nums:∀ k m q s0 s1 s2 s3 s4:Int,aH C 72 [.int .i64 k,.int .i64 m,.int .i64 q,.agg [.int .i64 s0,.int .i64 s1,.int .i64 s2,.int .i64 s3,.int .i64 s4]] .nil (aF (.bool (IS k m q s0 s1 s2 s3 s4)))
 sizes:∀ a b c d e f:Nat,aH C 73 [.int .i64 a,.int .i64 b,.int .i64 c,.int .i64 d,.int .i64 e,.int .i64 f] .nil (aF (.bool (pF a b c d e f)))
theorem acO {l:List RF} {k:Nat} (h:k<l.length):(l.map RF.cells)[k]?=some (l[k]).cells:=by simp[h]
theorem bcM {C:Ctx} (L:alO C) (l:List RF) (hl:jT l) (n:Int):zP.wp C (aS TR.res (aF (.bool (decide ((l.length:Int)=n)&&l.all cM)))) (PF.args [frs l,.int .i64 n]) .nil:=by
 have hf:=hl.fits
 unfold Fits at hf
 simp only[go_sem,γ,reduceCtorEq,zP,akI,akJ,TR,bKY]
 by_cases h:((l.length:Nat):Int)=n
 ·rw[decide_eq_true h,bLN]
  subst h
  simp only[go_sem,cA (show ((l.length:Nat):Int)=(l.length:Nat) from rfl),akL]
  refine wp_loop (α:=Nat) (fun k=>(((PF.nil.set 0 (frs l)).set 1 (.int .i64 (l.length:Nat))).set 5 (.int .i64 k))) (fun _=>.nil) (fun k=>k≤l.length∧(l.take k).all cM=true) (fun k=>l.length-k) 0 ⟨bLE _,rfl⟩ Lq PH.nil_le ?_
  rintro k ⟨hk,ha⟩
  simp only[go_sem,γ,reduceCtorEq,akH,akM]
  by_cases hlt:k<l.length
  ·have bJA:(k:Int)<(l.length:Nat):=by omega
   have hs:=L.small l[k] (hl.all _ (bLF hlt))
   simp only[go_sem,δ,γ,reduceCtorEq,bJA,akN,acO hlt]
   refine aA hs rfl ?_
   cases hi:cM l[k] with
   | false =>
    simp only[go_sem,γ,reduceCtorEq,bLK,akO]
    refine aM (.inr rfl) rfl ?_
    rw[bF,oT hlt hi]
   | true =>
    have ha2:=bLU.1 (oS hlt ha hi)
    simp only[go_sem,γ,reduceCtorEq,bLB,akP,ws k]
    exact aE (k+1) ⟨hlt,ha2⟩ Om Lq PH.le_refl
  ·have bJA:¬ (k:Int)<(l.length:Nat):=by omega
   have:k=l.length:=by omega
   subst this
   rw[bLZ] at ha
   simp only[go_sem,bJA,akQ]
   refine aM (.inr rfl) rfl ?_
   rw[bF,ha]
 ·rw[decide_eq_false h,bLI]
  simp only[go_sem,cV h,akK]
  refine aM (.inr rfl) rfl ?_
  rfl
structure alP (C:Ctx):Prop extends alO C where
 smalls:∀ l:List RF,jT l→∀ n:Int,aH C 75 [frs l,.int .i64 n] .nil (aF (.bool (decide ((l.length:Int)=n)&&l.all cM)))
theorem JI (x:RF):(qM x==0)=!bL x:=by
 unfold qM bL
 by_cases h:val x.num=0
 ·simp[h]
 ·cases x.neg<;>simp[h]
def ZR (l:List RF) (m:Int):Bool:=decide ((l.length:Int)=max m 1)&&l.all cM&&l.all bL
theorem bwY {C:Ctx} (L:alP C) (l:List RF) (hl:jT l) (m:Int):RW.wp C (aS bcL.res (aF (.bool (ZR l m)))) (PF.args [frs l,.int .i64 m]) .nil:=by
 have hf:=hl.fits
 unfold Fits at hf
 have hs:=L.smalls l hl (max m 1)
 unfold ZR
 simp only[go_sem,γ,reduceCtorEq,RW,a5A,a5B,bcL,max_eq]
 refine aA hs rfl ?_
 cases h:(decide ((l.length:Int)=max m 1)&&l.all cM) with
 | false =>
  simp only[go_sem,γ,bLK,a5C]
  refine aM (.inr rfl) rfl ?_
  rfl
 | true =>
  rw[bLT] at h
  have bKL:=bLU.1 h.2
  simp only[go_sem,γ,bLB,a5D]
  refine wp_loop (α:=Nat) (fun k=>((PF.nil.set 0 (frs l)).set 5 (.int .i64 k))) (fun _=>.nil) (fun k=>k≤l.length∧(l.take k).all bL=true) (fun k=>l.length-k) 0 ⟨bLE _,rfl⟩ Lq PH.nil_le ?_
  rintro k ⟨hk,ha⟩
  simp only[go_sem,γ,reduceCtorEq,a4Z,a5E,bKY]
  by_cases hlt:k<l.length
  ·have bJA:(k:Int)<(l.length:Nat):=by omega
   have hm:=bLF hlt
   have hg:=L.sign l[k] (hl.all _ hm) (pN (bKL _ hm))
   have hz:=JI l[k]
   simp only[go_sem,δ,γ,reduceCtorEq,bJA,a5F,acO hlt]
   refine aA hg rfl ?_
   cases hi:bL l[k] with
   | false =>
    rw[hi] at hz
    simp only[go_sem,γ,reduceCtorEq,hz,bLK,a5G]
    refine aM (.inr rfl) rfl ?_
    rw[bF,oT hlt hi]
   | true =>
    rw[hi] at hz
    have ha2:=bLU.1 (oS hlt ha hi)
    simp only[go_sem,γ,reduceCtorEq,hz,bLB,a5H,ws k]
    exact aE (k+1) ⟨hlt,ha2⟩ Om Lq PH.le_refl
  ·have bJA:¬ (k:Int)<(l.length:Nat):=by omega
   have:k=l.length:=by omega
   subst this
   rw[bLZ] at ha
   simp only[go_sem,bJA,a5I]
   refine aM (.inr rfl) rfl ?_
   rw[bF,ha]
structure alQ (C:Ctx):Prop extends alP C where
 reps:∀ l:List RF,jT l→∀ m:Int,aH C 66 [frs l,.int .i64 m] .nil (aF (.bool (ZR l m)))
def frD:List PV→RF
 | [.bool n,a,b]=>⟨n,jE a,jE b⟩
 | _=>⟨false,[],[]⟩
theorem aoV (x:RF):frD x.cells=x:=by
 show (⟨x.neg,jE (aJ x.num),jE (aJ x.den)⟩:RF)=x
 rw[dZ,dZ]
def zdS (r s:Bool):Spec:=fun name vs=>match name,vs with
 | 66,_=>some ([],fun _=>aF (.bool r))
 | 74,[.agg cs]=>some ([],fun _=>aF (.bool (cM (frD cs))))
 | 47,_=>some ([],fun _=>aF (.agg (mkT 1 1).cells))
 | 49,_=>some ([],fun _=>aF (.bool s))
 | _,_=>none
theorem ayN (r s:Bool) (x:RF):zdS r s 74 [.agg x.cells]=some ([],fun _=>aF (.bool (cM x))):=by
 show some ([],fun _=>aF (.bool (cM (frD x.cells))))=_
 rw[aoV]
theorem bgO (x y:RF):pD y x=- pD x y:=by
 unfold pD pC
 have e:=aoQ (val x.num*val y.den) (val y.num*val x.den)
 cases x.neg&&decide (val x.num≠0)<;>cases y.neg&&decide (val y.num≠0)<;>simp only[e,Int.neg_neg]<;>rfl
theorem boI {x:RF} (hx:x.valid):decide (pD (mkT 1 1) x<0)=!vY x:=by
 rw[bgO x]
 unfold vY
 rw[show cO (val x.num) (val x.den)=true from hx,bLN,FA]
 unfold pD
 simp only[aR,show (1:Int).natAbs=1 from rfl,show decide ((1:Int)<0)=false from rfl]
 by_cases h:pC x.neg (val x.num) (val x.den) false 1 1≤0
 ·rw[decide_eq_true h,decide_eq_false Om]; rfl
 ·rw[decide_eq_false h,decide_eq_true Om]; rfl
def NE (m:Int) (rep:List RF) (t h:RF):Bool:=ZR rep m&&(cM t&&(vY t&&cM h))
theorem bwU {C:Ctx} (L:alQ C) (m:Int) (rep:List RF) (hr:jT rep) (t h:RF) (ht:t.Ok) (hh:h.Ok) :
  RT.wp C (aS bcI.res (aF (.bool (NE m rep t h)))) (PF.args [.int .i64 m,frs rep,.agg t.cells,.agg h.cells]) .nil:=by
 have h1:cZ 1:=by unfold cZ; omega
 unfold NE
 simp only[go_sem,γ,RT,a4P,bcI]
 refine bM .nil (zdS (ZR rep m) (!vY t)) PH.nil_le ?_
 simp only[go_sem,γ,reduceCtorEq,a4Q]
 refine bE rfl (L.reps rep hr m) rfl PH.nil_le ?_
 cases ZR rep m with
 | false =>
  simp only[go_sem,γ,reduceCtorEq]
  refine aM (.inr rfl) rfl ?_
  rfl
 | true =>
  simp only[go_sem,δ,γ]
  refine bE (ayN _ _ t) (L.small t ht) rfl PH.nil_le ?_
  cases hl:cM t with
  | false =>
   simp only[go_sem,γ,reduceCtorEq]
   refine aM (.inr rfl) rfl ?_
   rfl
  | true =>
   have hle:=L.less (mkT 1 1) t (EZ 1 h1).1 ht (EZ 1 h1).2 (pN hl)
   rw[boI (pN hl)] at hle
   simp only[go_sem,γ]
   refine bE rfl (L.int 1 h1) rfl PH.nil_le ?_
   simp only[go_sem,δ,γ]
   refine bE rfl hle rfl PH.nil_le ?_
   cases vY t with
   | false =>
    simp only[go_sem,γ,reduceCtorEq,bLK,bLB]
    refine aM (.inr rfl) rfl ?_
    rfl
   | true =>
    simp only[go_sem,δ,γ,bLB,bLK]
    refine bE (ayN _ _ h) (L.small h hh) rfl PH.nil_le ?_
    simp only[go_sem,γ]
    refine aM (.inr rfl) rfl ?_
    rfl
theorem bxT (p:cJ):AF p=NE p.m p.repair p.target p.bJG:=by
 unfold AF NE ZR
 have:(p.repair.all fun x=>cM x&&bL x)=(p.repair.all cM&&p.repair.all bL):=by
  induction p.repair with
  | nil=>rfl
  | cons a t ih =>
   simp only[List.all_cons,ih]
   cases cM a<;>cases bL a<;>simp
 rw[this]
 simp only[bNT]
section
variable {H:PH} {B:List BX} {L:List LI}
theorem aQ.a5P (h:aQ H B L) (i:Nat) {s b:Nat} {v y:PV} {rows src:List (List PV)} {K:PV→PH→Prop} (hi:L[i]?=some (v,s,rows)) (hy:dY H s y=some src) (hr:roomFor rows.length src.length b)
  (hk:∀ v' H',aY H' s v rows→aQ H' B (L.set i (v',s,rows++src))→K v' H'):nP H s b v y K:=by
 rcases h.own i hi with ⟨rfl,rfl⟩ | ⟨q,rs,rfl,h1,h2,h3⟩
 ·exact h.append i hi hy hr fun v' H' h' _=>hk v' H' (.inl ⟨rfl,rfl⟩) h'
 ·have hlen:(rows++src).length=rows.length+src.length:=bLC
  refine⟨src,hy,rfl,rfl,hr,rs,h1,h2,?_,fun o ho=>?_⟩
  ·rw[h3]
   refine hk _ _ (.inr ⟨q,rows++src,rfl,by rw[iV],by rw[hlen]; omega,List.take_left' rfl⟩) (h.TI i hi (.inr ⟨q,rows++src,by rw[hlen],by simp only[bB,if_true],bLG _,bLZ⟩) (fun p hp=>by cases hp; exact .inl rfl) fun p _ hp=>?_)
   rw[bB,if_neg (hp q rfl)]
  ·rw[h3]
   have hqo:q≠o:=by rintro rfl; rw[h1] at ho; cases ho
   refine hk _ _ (.inr ⟨q,rs,rfl,by rw[bB,if_neg hqo]; exact h1,h2,h3⟩) (h.TI i hi (.inr ⟨o,rows++src,by rw[hlen],by simp only[bB,if_true],bLG _,bLZ⟩) (fun p hp=>by cases hp; exact .inr ho) fun p hpm hp=>?_)
   obtain⟨f1,f2⟩:=h.fresh ho
   have n1:p≠o:=by rintro rfl; exact hpm.elim f1 f2
   rw[bB,if_neg n1]
end
abbrev mH (l:List (List UInt8)):List (List PV):=l.map fun s=>[PV.str s]
def yP:List (List UInt8)→List UInt8→Nat→Int
 | [],_,_=>-1
 | x::t,s,i=>if x==s then (i:Int) else yP t s (i+1)
theorem aGR (s:List UInt8):∀ (l:List (List UInt8)) (i:Nat),decide (yP l s i<0)=!l.contains s
 | [],i=>rfl
 | x::t,i=>by
  rw[yP,List.contains_cons,BEq.comm (a:=s)]
  by_cases h:(x==s)=true
  ·rw[if_pos h,h,Bool.true_or,decide_eq_false Om]; rfl
  ·rw[if_neg h,aGR s t (i+1)]
   simp only[Bool.not_eq_true] at h
   rw[h,Bool.false_or]
theorem bkI {C:Ctx} (l:List (List UInt8)) (hl:l.length≤1000000) (s:List UInt8):EJ.wp C (aS akE.res (aF (.int .i64 (yP l s 0)))) (PF.args [.sl 1 (mH l),.str s]) .nil:=by
 simp only[go_sem,EJ,ayR,ayS,akE]
 refine wp_loop (α:=Nat) (fun k=>(((PF.nil.set 0 (.sl 1 (mH l))).set 1 (.str s)).set 5 (.int .i64 k))) (fun _=>.nil) (fun k=>k≤l.length∧yP l s 0=yP (l.drop k) s k) (fun k=>l.length-k) 0 ⟨bLE _,rfl⟩ Lq PH.nil_le ?_
 rintro k ⟨hk,ha⟩
 simp only[go_sem,γ,reduceCtorEq,ayQ,ayT,bKY]
 by_cases hlt:k<l.length
 ·have bJA:(k:Int)<(l.length:Nat):=by omega
  have hat:(mH l)[k]?=some [.str l[k]]:=by simp[hlt]
  rw[bMU hlt,yP] at ha
  cases hc:l[k]==s with
  | true =>
   rw[hc,if_pos rfl] at ha
   simp only[go_sem,γ,reduceCtorEq,bJA,RU,hat,hc,ayU]
   refine aM (.inr rfl) rfl ?_
   rw[bF,ha]
  | false =>
   rw[hc,if_neg (by decide)] at ha
   simp only[go_sem,γ,reduceCtorEq,bJA,RU,hat,hc,ayV,ws k]
   exact aE (k+1) ⟨hlt,ha⟩ Om Lq PH.le_refl
 ·have bJA:¬ (k:Int)<(l.length:Nat):=by omega
  have:k=l.length:=by omega
  subst this
  rw[List.drop_length,yP] at ha
  simp only[go_sem,ο,bJA,ayW]
  refine aM (.inr rfl) rfl ?_
  rw[bF,ha]
structure alR (C:Ctx):Prop extends alQ C where
 name:∀ s:List UInt8,aH C 62 [.str s] .nil (aF (.bool (isName s)))
 index:∀ (l:List (List UInt8)),l.length≤1000000→∀ s:List UInt8,aH C 71 [.sl 1 (mH l),.str s] .nil (aF (.int .i64 (yP l s 0)))
def jF (l:List (List UInt8)) (s:List UInt8):Bool:=isName s&&!l.contains s
def abK (l:List (List UInt8)) (s:List UInt8) (r:PV) (B:List BX) (L:List LI):Prop:=∃ w',r=.tup [w',.bool (jF l s)]∧B=[]∧L=[(w',1,mH (l++[s]))]
theorem bkG {C:Ctx} (L:alR C) (l:List (List UInt8)) (hl:l.length≤1000000) (s:List UInt8) (w:PV) (H:PH) (hH:aQ H [] [(w,1,mH l)]) :
  EI.wp C (aS akD.res (fun r H'=>∃ B' L',abK l s r B' L'∧aQ H' B' L')) (PF.args [w,.str s]) H:=by
 have hix:=L.index l hl s
 have hnm:=L.name s
 have hneg:=aGR s l 0
 have h11:(1:Nat)*1≤16777216:=by decide
 have fin:∀ (F:PF) (H':PH) (w':PV) (b:Bool),F 4=some w'→F 5=some (.bool b)→b=jF l s→aQ H' [] [(w',1,mH (l++[s]))]→aS [.tmp 4,.tmp 5] (fun r H'=>∃ B' L',abK l s r B' L'∧aQ H' B' L') .ret F H':=fun F H' w' b f4 f5 e h' =>
  aV (vs:=[w',.bool b]) (.inr rfl) H' (by simp only[go_sem,f4,f5]) PH.le_refl ⟨[],_,⟨w',by rw[e]; rfl,rfl,rfl⟩,h'⟩
 simp only[go_sem,υ,γ,η,ζ,reduceCtorEq,EI,ayO,ayP,akD,h11]
 refine hH.a5P 0 (src:=[[.str s]]) rfl rfl (by unfold roomFor; rw[bKY]; simp only[bLH,maxLen]; omega) fun w' H' hO h'=>?_
 have h'':aQ H' [] [(w',1,mH (l++[s]))]:=by
  have e:mH (l++[s])=mH l++[[.str s]]:=by simp[mH]
  rw[e]; exact h'
 refine aA hnm rfl ?_
 cases hn:isName s with
 | false =>
  simp only[go_sem,γ,reduceCtorEq]
  exact fin _ _ w' false rfl rfl (by unfold jF; rw[hn,bLI]) h''
 | true =>
  have hfb:jF l s=!l.contains s:=by unfold jF; rw[hn,bLN]
  rcases hO with ⟨z1,rfl⟩ | ⟨q,rs,rfl,q1,q2,q3⟩
  ·simp only[go_sem,γ,reduceCtorEq]
   rw[z1] at hix
   have hix2:aH C 71 [.bIU,.str s] .nil (aF (.int .i64 (yP l s 0))):=hix.args (.cons (.nil 1) (.cons (.refl _) .nil))
   refine aA hix2 rfl ?_
   simp only[go_sem,γ,hneg]
   exact fin _ _ w' _ rfl rfl hfb.symm h''
  ·simp only[go_sem,γ,reduceCtorEq]
   refine aVE (vs:=[.osl q 1 0 (mH l).length,.str s]) (.int .i64 (yP l s 0)) ?_ q1 Sq ?_
   ·rw[bMI,bMI,bMZ,xO q2,q3]
    exact hix
   simp only[go_sem,γ,hneg]
   exact fin _ _ w' _ rfl rfl hfb.symm h''
theorem bhV {x:RF} (h:cM x=true):decide (qM x>0)=bL x:=by
 have hv:=pN h
 unfold cM oI at h
 rw[show cO (val x.num) (val x.den)=true from hv,if_pos rfl,YE hv] at h
 unfold qM bL
 by_cases h0:val x.num=0
 ·simp[h0]
 ·have hq:val x.num/bLA (val x.num) (val x.den)≠0:=by
   have:=Nat.div_pos (Nat.gcd_le_left (val x.den) (bNG h0)) (Nat.gcd_pos_of_pos_left _ (bNG h0))
   omega
  have hn:x.neg=false:=by
   unfold mL at h
   simp only[hq,ne_eq,not_false_eq_true,decide_true,bNK,bLT] at h
   simpa using h.1
  rw[if_neg h0,hn]
  simp[h0]
structure aBO (l:bZ):Prop where
 exit:∀ x∈l.exit,cM x=true
 row:∀ r∈l.bIY,∀ x∈r,cM x=true
structure pH (C:Ctx):Prop extends alR C where
 fresh:∀ (l:List (List UInt8)),l.length≤1000000→∀ (s:List UInt8) (w:PV) (H:PH),aQ H [] [(w,1,mH l)]→aH C 70 [w,.str s] H (fun r H'=>∃ B' L',abK l s r B' L'∧aQ H' B' L')
theorem pH.pos {C:Ctx} (L:pH C) {x:RF} (hx:x.Ok) (h:cM x=true):∃ n:Int,aH C 54 [.agg x.cells] .nil (aF (.int .i64 n))∧decide (n>0)=bL x:=⟨_,L.sign x hx (pN h),bhV h⟩
def zlF (l:bZ) (o r i:Nat):PF:=(((((PF.nil.set 1 (.bJC l.cells)).set 3 (.int .i64 (l.exit.length:Nat))).set 7 (.osl o 1 0 l.exit.length)).set 8 (.int .i64 r)).set 9 (.int .i64 i))
theorem brC {C:Ctx} (L:pH C) (l:bZ) (o r i:Nat) (row:List RF) (hri:(l.bIY.map fun r=>[frs r])[i]?=some [frs row]) (bJH:jT row) (hlim:∀ x∈row,cM x=true) (hrl:row.length=l.exit.length) (hi:i<l.exit.length) (hn:l.exit.length≤4) (R1:List Bool) (hR:R1.length=l.exit.length) (K:bY) [Up K] (F:PF) (H:PH)
  (hF:((zlF l o r i).set 10 (.int .i64 0)).le F) (hH:(gY o R1).le H)
  (hK:K (.exit 6) (zlF l o r i) (gY o (cE R1 i row row.length))):aB.wp C (.loop LF) K F H:=by
 refine wp_loop (α:=Nat) (fun k=>(zlF l o r i).set 10 (.int .i64 k)) (fun k=>gY o (cE R1 i row k)) (fun k=>k≤row.length) (fun k=>row.length-k) 0 (bLE _) hF hH ?_
 intro k hk
 have hlen:=sV R1 i row k
 have hstep':∀ h:k<row.length,cE R1 i row (k+1)=(cE R1 i row k).set i ((cE R1 i row k).getD i false||bL row[k]&&(cE R1 i row k).getD k false):=fun h=>by
  simp only[cE,bLP,bMH,bLL h,bME,bNH]
 have fin:∀ (b:Bool) (F:PF) (H:PH),k<row.length→eQ (cE R1 i row (k+1))=(eQ (cE R1 i row k)).set i [.bool b]→((zlF l o r i).set 10 (.int .i64 (k+1:Nat))).le F→H o=some (.rows 1 ((eQ (cE R1 i row k)).set i [.bool b])) →
   dV (fun k:Nat=>(zlF l o r i).set 10 (.int .i64 k)) (fun k=>gY o (cE R1 i row k)) (fun k=>k≤row.length) (fun k=>row.length-k) (row.length-k) K .normal F H:=by
  intro b F H hlt hb hF hH
  refine aE (k+1) hlt Om hF ?_
  rw[← hb] at hH
  exact PH.aG PH.nil_le hH
 unfold zlF gY at fin
 simp only[go_sem,γ,LF,aSJ,zlF,gY]
 by_cases hlt:k<row.length
 ·have bJA:(k:Int)<(l.exit.length:Nat):=by omega
  have hi':(i:Int)<(l.exit.length:Nat):=by omega
  have hat:=qP (R:=cE R1 i row k) (i:=i) Om
  have hatk:=qP (R:=cE R1 i row k) (i:=k) Om
  have bJB:=hstep' hlt
  obtain⟨n,hsn,hpos⟩:=L.pos (bJH.all _ (bLF hlt)) (hlim _ (bLF hlt))
  have hfr:=acO hlt
  generalize hb:(cE R1 i row k).getD i false=b at *
  generalize hc:(cE R1 i row k).getD k false=c at *
  generalize hA:bL row[k]=A at *
  cases b with
  | true =>
   simp only[go_sem,γ,bJA,abD,hi',bLX,hat,LG,ws k]
   exact fin true _ _ hlt (by rw[bJB,kU,Bool.true_or]) Lq Sq
  | false =>
   simp only[go_sem,δ,γ,θ,bJA,abD,hi',bLX,hat,hri,hfr]
   refine aA hsn rfl ?_
   cases A with
   | false =>
    simp only[go_sem,γ,reduceCtorEq,hpos,hi',bJA,bLX,hat,hatk,LG,ws k]
    exact fin false _ _ hlt (by rw[bJB,kU,Bool.false_or,bLI]) Lq Sq
   | true =>
    simp only[go_sem,γ,reduceCtorEq,hpos,hi',bJA,bLX,hat,hatk,LG,ws k]
    exact fin c _ _ hlt (by rw[bJB,kU,Bool.false_or,bLN]) Lq Sq
 ·have bJA:¬ (k:Int)<(l.exit.length:Nat):=by omega
  have:k=row.length:=by omega
  subst this
  simp only[go_sem,bJA]
  refine Up.up ?_ hK
  (repeat' (first|exact PF.nil_le|refine PF.aG ?_ ?_))<;>first|(simp only[go_sem,γ,zlF]<;>rfl)|rfl
theorem brE {C:Ctx} (L:pH C) (l:bZ) (hl:l.Ok) (he:zQ l) (hm:aBO l) (o r:Nat) (R:List Bool) (hR:R.length=l.exit.length) (K:bY) [Up K] (F:PF) (H:PH)
  (hF:(zlF l o r 0).le F) (hH:(gY o R).le H)
  (hK:K (.exit 4) (zlF l o r l.exit.length) (gY o (cQ l R l.exit.length))):aB.wp C (.loop aaW) K F H:=by
 refine wp_loop (α:=Nat) (fun i=>zlF l o r i) (fun i=>gY o (cQ l R i)) (fun i=>i≤l.exit.length) (fun i=>l.exit.length-i) 0 (bLE _) hF hH ?_
 intro i hi
 have hlen:=pT l R i
 have hn:=he.n
 simp only[go_sem,γ,aaW,aSI,zlF,gY]
 by_cases hlt:i<l.exit.length
 ·have bJA:(i:Int)<(l.exit.length:Nat):=by omega
  have hir:i<l.bIY.length:=by rw[he.bIY]; exact hlt
  have hat:=qP (R:=cQ l R i) (i:=i) Om
  have hx:=acO hlt
  have bJH:(l.bIY.map fun r=>[frs r])[i]?=some [frs l.bIY[i]]:=by simp[hir]
  have hrl:(l.bIY[i]).length=l.exit.length:=he.row _ (bLF hir)
  generalize hR1:(cQ l R i).set i ((cQ l R i).getD i false||bL l.exit[i])=R1
  have hR1l:R1.length=l.exit.length:=by rw[← hR1,bNL]; omega
  have bJB:cQ l R (i+1)=cE R1 i l.bIY[i] (l.bIY[i]).length:=by
   simp only[cQ,kG]
   have e1:(l.exit.map bL).getD i false=bL l.exit[i]:=by simp[bLP,hlt]
   have e2:l.bIY.getD i []=l.bIY[i]:=by simp[bLP,hir]
   rw[e1,e2,hR1]
  obtain⟨n,hsn,hpos⟩:=L.pos (hl.exit.all _ (bLF hlt)) (hm.exit _ (bLF hlt))
  have rest:∀ (F:PF) (H:PH),(zlF l o r i).le F→H o=some (.rows 1 (eQ R1)) →
    aB.wp C (.seq (.region abC) (.block 6 (.loop LF))) (dP 5 (jC C (aB.wp C (.region abE)) (dV (fun i:Nat=>zlF l o r i) (fun i=>gY o (cQ l R i)) (fun i=>i≤l.exit.length) (fun i=>l.exit.length-i) (l.exit.length-i) K))) F H:=by
   intro F H hF hH
   refine tE _ (fun _ _ _ _ a b=>Up.up a b) hF ?_
   simp only[go_sem,abC]
   refine brC L l o r i l.bIY[i] bJH (hl.row _ (bLF hir)) (hm.row _ (bLF hir)) hrl hlt hn R1 hR1l _ _ _ (by (repeat' (first|exact PF.nil_le|refine PF.aG ?_ ?_))<;>first|(simp only[go_sem,γ,zlF]<;>rfl)|rfl) (PH.aG PH.nil_le hH) ?_
   simp only[go_sem,γ,zlF,abE,ws i]
   exact aE (i+1) hlt Om Lq (by rw[bJB]; exact PH.le_refl)
  simp only[zlF,gY] at rest
  have rest':=rest
  simp only[aB.wp,go_sem] at rest'
  generalize hb:(cQ l R i).getD i false=b at *
  cases b with
  | true =>
   simp only[go_sem,γ,bJA,abB,bJA,bLX,hat]
   refine rest' _ _ Lq ?_
   rw[← hR1]
   simp only[go_sem,kU,Bool.true_or]
  | false =>
   simp only[go_sem,δ,γ,bJA,abB,bJA,bLX,hat,hx]
   refine aA hsn rfl ?_
   simp only[go_sem,γ,reduceCtorEq,bJA,bLX,hat,hpos]
   refine rest' _ _ Lq ?_
   rw[← hR1]
   simp only[go_sem,kU,Bool.false_or]
 ·have bJA:¬ (i:Int)<(l.exit.length:Nat):=by omega
  have:i=l.exit.length:=by omega
  subst this
  simp only[go_sem,bJA]
  exact Up.up (by (repeat' (first|exact PF.nil_le|refine PF.aG ?_ ?_))<;>first|(simp only[go_sem,γ,zlF]<;>rfl)|rfl) hK
theorem brD {C:Ctx} (L:pH C) (l:bZ) (hl:l.Ok) (he:zQ l) (hm:aBO l) (o:Nat) (K:bY) [Up K] (F:PF) (H:PH)
  (hF:(((((PF.nil.set 1 (.bJC l.cells)).set 3 (.int .i64 (l.exit.length:Nat))).set 7 (.osl o 1 0 l.exit.length)).set 8 (.int .i64 0)):PF).le F) (hH:(gY o (cS l 0)).le H)
  (hK:K (.exit 2) (((PF.nil.set 3 (.int .i64 (l.exit.length:Nat))).set 7 (.osl o 1 0 l.exit.length))) (gY o (cS l l.exit.length))):aB.wp C (.loop aaX) K F H:=by
 have hn:=he.n
 refine wp_loop (α:=Nat) (fun r=>((((PF.nil.set 1 (.bJC l.cells)).set 3 (.int .i64 (l.exit.length:Nat))).set 7 (.osl o 1 0 l.exit.length)).set 8 (.int .i64 r))) (fun r=>gY o (cS l r)) (fun r=>r≤l.exit.length) (fun r=>l.exit.length-r) 0 (bLE _) hF hH ?_
 intro r hr
 have hlen:=pS l r
 simp only[go_sem,γ,aaX,aSG]
 by_cases hlt:r<l.exit.length
 ·have bJA:(r:Int)<(l.exit.length:Nat):=by omega
  simp only[go_sem,bJA,aSH]
  refine brE L l hl he hm o r (cS l r) hlen _ _ _ (by (repeat' (first|exact PF.nil_le|refine PF.aG ?_ ?_))<;>first|(simp only[go_sem,γ,zlF]<;>rfl)|rfl) PH.le_refl ?_
  simp only[go_sem,γ,zlF,aSK,ws r]
  exact aE (r+1) hlt Om Lq PH.le_refl
 ·have bJA:¬ (r:Int)<(l.exit.length:Nat):=by omega
  have:r=l.exit.length:=by omega
  subst this
  simp only[go_sem,bJA]
  exact Up.up Lq hK
theorem bzK {C:Ctx} (R:List Bool) (hR:R.length≤4) (o:Nat) (X:Bool) (hX:X=R.all id) (Q:PV→PH→Prop) (hQ:Q=aF (.bool X)) (F:PF) (H:PH)
  (hF:((((PF.nil.set 3 (.int .i64 (R.length:Nat))).set 7 (.osl o 1 0 R.length)).set 11 (.int .i64 0)):PF).le F) (hH:(gY o R).le H):aB.wp C (.loop aaY) (dP 8 (jC C (aB.wp C (.seq (.region abH) .ret)) (aS [.tmp 2] Q))) F H:=by
 subst hX hQ
 refine wp_loop (α:=Nat) (fun k=>(((PF.nil.set 3 (.int .i64 (R.length:Nat))).set 7 (.osl o 1 0 R.length)).set 11 (.int .i64 k))) (fun _=>gY o R) (fun k=>k≤R.length∧(R.take k).all id=true) (fun k=>R.length-k) 0 ⟨bLE _,rfl⟩ hF hH ?_
 rintro k ⟨hk,ha⟩
 simp only[go_sem,γ,aaY,aSM,gY]
 by_cases hlt:k<R.length
 ·have bJA:(k:Int)<(R.length:Nat):=by omega
  have hat:=qP (R:=R) (i:=k) hlt
  have hg:R.getD k false=R[k]:=by simp[bLP,hlt]
  rw[hg] at hat
  cases hc:R[k] with
  | false =>
   rw[hc] at hat
   simp only[go_sem,γ,bJA,abG,bLX,hat,bLK,aSN]
   refine aM (.inr rfl) rfl ?_
   rw[bF,oT hlt (p:=id) hc]
  | true =>
   rw[hc] at hat
   have ha2:=oS hlt ha (p:=id) hc
   simp only[go_sem,γ,bJA,abG,bLX,hat,bLB,aSO,ws k]
   exact aE (k+1) ⟨hlt,by simpa using bLU.1 ha2⟩ Om Lq PH.le_refl
 ·have bJA:¬ (k:Int)<(R.length:Nat):=by omega
  have:k=R.length:=by omega
  subst this
  rw[bLZ] at ha
  simp only[go_sem,bJA,abH]
  refine aM (.inr rfl) rfl ?_
  rw[bF,ha]
def Marks (R S:List Bool):Prop:=R.length=S.length∧∀ j:Nat,R[j]?=some true→S[j]?=some true
theorem Marks.byT (R:List Bool):Marks R R:=⟨rfl,fun _ h=>h⟩
theorem Marks.trans {R S T:List Bool} (h:Marks R S) (k:Marks S T):Marks R T:=⟨h.1.trans k.1,fun j a=>k.2 j (h.2 j a)⟩
theorem aID (R:List Bool) (i:Nat) (b:Bool):Marks R (R.set i (R.getD i false||b)):=by
 refine⟨by rw[bNL],fun j h=>?_⟩
 rw[List.getElem?_set]
 obtain⟨hj,he⟩:=bMM.1 h
 split
 ·rename_i e
  subst e
  rw[if_pos hj,bLP,h]
  rfl
 ·exact h
theorem aqT (R:List Bool) (i:Nat) (row:List RF):∀ k,Marks R (cE R i row k)
 | 0=>Marks.byT R
 | k+1=>(aqT R i row k).trans (aID _ _ _)
theorem BW (l:bZ) (R:List Bool):∀ i,Marks R (cQ l R i)
 | 0=>Marks.byT R
 | i+1=>(BW l R i).trans ((aID _ _ _).trans (aqT _ _ _ _))
theorem aIE:∀ {R S:List Bool},Marks R S→R≠S→R.count true<S.count true
 | [],[],_,h=>absurd rfl h
 | [],_::_,h,_=>by have:=h.1; simp at this
 | _::_,[],h,_=>by have:=h.1; simp at this
 | a::R,b::S,h,hne=>by
  have h0:a=true→b=true:=fun e=>by
   have:=h.2 0 (by rw[e]; rfl)
   simpa using this
  have ht:Marks R S:=⟨by have:=h.1; simpa using this,fun j hj=>by have:=h.2 (j+1) (by simpa using hj); simpa using this⟩
  by_cases e:R=S
  ·subst e
   have:a≠b:=fun e=>hne (by rw[e])
   cases a<;>cases b<;>simp at this h0 ⊢
  ·have:=aIE ht e
   cases a<;>cases b<;>simp at h0 ⊢<;>omega
theorem acB:∀ {R:List Bool},R.length≤R.count true→R.all id=true
 | [],_=>rfl
 | a::R,h=>by
  have h1:=List.count_le_length (a:=true) (l:=R)
  cases a with
  | true =>
   simp only[List.count_cons_self,bNM] at h
   simp only[List.all_cons,id,bLN]
   exact acB Om
  | false =>
   simp at h
   omega
theorem IY (l:bZ) {s:Nat} (h:cS l (s+1)=cS l s):∀ d,cS l (s+d)=cS l s
 | 0=>rfl
 | d+1=>by
  show cQ l (cS l (s+d)) l.exit.length=_
  rw[IY l h d]
  exact h
theorem afV (l:bZ):∀ r,(∃ s,s<r∧cS l (s+1)=cS l s)∨r≤(cS l r).count true
 | 0=>.inr (bLE _)
 | r+1=>by
  rcases afV l r with ⟨s,h1,h2⟩ | h
  ·exact .inl ⟨s,by omega,h2⟩
  ·by_cases e:cS l (r+1)=cS l r
   ·exact .inl ⟨r,by omega,e⟩
   ·have:=aIE (BW l (cS l r) l.exit.length) (fun h=>e h.symm)
    exact .inr (by show r+1≤(cQ l (cS l r) l.exit.length).count true; omega)
theorem bsH (l:bZ):oK l=(cS l l.exit.length).all id:=by
 unfold oK
 rcases afV l l.exit.length with ⟨s,h1,h2⟩ | h
 ·obtain⟨d,hd⟩:∃ d,l.exit.length=s+d:=⟨l.exit.length-s,by omega⟩
  rw[show l.exit.length+1=s+(d+1) by omega,hd,IY l h2,IY l h2]
 ·have hf:(cS l l.exit.length).all id=true:=acB (by rw[pS]; exact h)
  have hm:Marks (cS l l.exit.length) (cS l (l.exit.length+1)):=BW l (cS l l.exit.length) l.exit.length
  rw[hf,bLU]
  intro x hx
  obtain⟨j,hj,rfl⟩:=bMO hx
  have hj2:j<(cS l l.exit.length).length:=by rw[hm.1]; exact hj
  have:=hm.2 j (by
   rw[bLL hj2]
   have:=bLU.1 hf _ (bLF hj2)
   simpa using this)
  rw[bLL hj] at this
  simpa using this
def zsS (s:Bool):Spec:=fun name vs=>match name,vs with
 | 47,_=>some ([],fun _=>aF (.agg (mkT 1 1).cells))
 | 53,_=>some ([],fun _=>aF (.bool s))
 | _,_=>none
theorem bmV (l:bZ):jZ l=(within l.start.length 1 4&&((decide ((l.start.length:Int)=l.start.length)&&l.start.all cM)&&((decide ((l.exit.length:Int)=l.start.length)&&l.exit.all cM)&&(decide (l.bIY.length=l.start.length)&&((bKZ l.bIY.length).all (qW l)&&(uC l&&oK l)))))):=by
 rw[aYL,decide_eq_true (rfl:(l.start.length:Int)=l.start.length),bLN]
 have:decide (l.exit.length=l.start.length)=decide ((l.exit.length:Int)=l.start.length):=decide_eq_decide.2 Om
 rw[this]
 cases within l.start.length 1 4<;>cases decide ((l.exit.length:Int)=l.start.length)<;>cases decide (l.bIY.length=l.start.length)<;>cases l.start.all cM<;>cases l.exit.all cM<;>simp[bNT]
theorem aMG (l:bZ) {i:Nat} (h:i<l.bIY.length):qW l i=((decide (((l.bIY[i]).length:Int)=l.start.length)&&(l.bIY[i]).all cM)&&!((l.bIY[i]).map bL).getD i false):=by
 unfold qW
 have:l.bIY.getD i []=l.bIY[i]:=by simp[bLP,h]
 rw[this]
 have:decide ((l.bIY[i]).length=l.start.length)=decide (((l.bIY[i]).length:Int)=l.start.length):=decide_eq_decide.2 Om
 rw[this]
theorem bwW {C:Ctx} (L:pH C) (l:bZ) (hl:l.Ok):RV.wp C (aS bcK.res (aF (.bool (jZ l)))) (PF.args [.agg l.cells]) .nil:=by
 have hX:=bmV l
 have fail:∀ (F:PF) (H:PH),jZ l=false→F 2=some (.bool false)→aS [.tmp 2] (aF (.bool (jZ l))) .ret F H:=fun F H e h=>by
  rw[e]
  exact aV (vs:=[.bool false]) (.inr rfl) .nil (by simp only[go_sem,h]) PH.nil_le ⟨rfl,rfl⟩
 have e1:=L.smalls l.start hl.start l.start.length
 have e2:=L.smalls l.exit hl.exit l.start.length
 simp only[go_sem,δ,γ,θ,RV,a4S,a4T,bcK,bKY,a4U]
 by_cases c1:((l.start.length:Nat):Int)<1
 ·simp only[go_sem,γ,c1,xY]
  exact fail _ _ (by rw[hX,show within l.start.length 1 4=false from by unfold within; rw[decide_eq_false Om,bLI],bLI]) rfl
 by_cases c2:((l.start.length:Nat):Int)>4
 ·simp only[go_sem,γ,reduceCtorEq,c1,c2,xY]
  exact fail _ _ (by rw[hX,show within l.start.length 1 4=false from by unfold within; rw[decide_eq_false (Om:¬ ((l.start.length:Nat):Int)≤4),bMK],bLI]) rfl
 rw[show within l.start.length 1 4=true from by unfold within; rw[decide_eq_true (Om:(1:Int)≤(l.start.length:Nat)),decide_eq_true (Om:((l.start.length:Nat):Int)≤4)]; rfl,bLN] at hX
 simp only[go_sem,δ,γ,θ,reduceCtorEq,c1,c2]
 refine aA e1 rfl ?_
 cases k1:(decide ((l.start.length:Int)=l.start.length)&&l.start.all cM) with
 | false =>
  rw[k1,bLI] at hX
  simp only[go_sem,γ,reduceCtorEq,bLK,xY]
  exact fail _ _ hX rfl
 | true =>
 rw[k1,bLN] at hX
 simp only[go_sem,γ,reduceCtorEq,bLB]
 refine aA e2 rfl ?_
 cases k2:(decide ((l.exit.length:Int)=l.start.length)&&l.exit.all cM) with
 | false =>
  rw[k2,bLI] at hX
  simp only[go_sem,γ,reduceCtorEq,bLK,xY]
  exact fail _ _ hX rfl
 | true =>
 rw[k2,bLN] at hX
 rw[bLT,decide_eq_true_eq] at k2
 have hxl:l.exit.length=l.start.length:=by omega
 have hxlim:=bLU.1 k2.2
 by_cases c3:l.bIY.length=l.start.length
 case neg =>
  rw[decide_eq_false c3,bLI] at hX
  simp only[go_sem,δ,γ,θ,reduceCtorEq,bLB,bKY,cV (Om:((l.bIY.length:Nat):Int)≠(l.start.length:Nat)),xY]
  exact fail _ _ hX rfl
 rw[decide_eq_true c3,bLN] at hX
 simp only[go_sem,δ,γ,θ,reduceCtorEq,bLB,bKY,cA (Om:((l.bIY.length:Nat):Int)=(l.start.length:Nat)),a4V]
 refine wp_loop (α:=Nat) (fun i=>(((PF.nil.set 1 (.bJC l.cells)).set 3 (.int .i64 (l.start.length:Nat))).set 4 (.int .i64 i))) (fun _=>.nil) (fun i=>i≤l.start.length∧∀ j,j<i→qW l j=true) (fun i=>l.start.length-i) 0 ⟨bLE _,fun j h=>by omega⟩ Lq PH.nil_le ?_
 rintro i ⟨hi,bKL⟩
 simp only[go_sem,γ,a4R,a4W]
 by_cases hlt:i<l.start.length
 ·have bJA:(i:Int)<(l.start.length:Nat):=by omega
  have hir:i<l.bIY.length:=by omega
  have bJH:(l.bIY.map fun r=>[frs r])[i]?=some [frs l.bIY[i]]:=by simp[hir]
  have hro:=hl.row _ (bLF hir)
  have e3:=L.smalls l.bIY[i] hro l.start.length
  have hrp:=aMG l hir
  have bad:qW l i=false→jZ l=false:=fun h=>by
   rw[hX,show (bKZ l.bIY.length).all (qW l)=false from List.all_eq_false.2 ⟨i,bMQ.2 hir,by simp[h]⟩,bLI]
  simp only[go_sem,δ,γ,θ,bJA,a4X,bJH]
  refine aA e3 rfl ?_
  cases k3:(decide (((l.bIY[i]).length:Int)=l.start.length)&&(l.bIY[i]).all cM) with
  | false =>
   rw[k3,bLI] at hrp
   simp only[go_sem,γ,bLK,aoN]
   exact fail _ _ (bad hrp) rfl
  | true =>
   rw[k3,bLN] at hrp
   rw[bLT,decide_eq_true_eq] at k3
   have hrl:(l.bIY[i]).length=l.start.length:=by omega
   have hik:i<(l.bIY[i]).length:=by omega
   have hm:=bLF hik
   have hs:=L.sign _ (hro.all _ hm) (pN (bLU.1 k3.2 _ hm))
   have hz:=JI (l.bIY[i])[i]
   have hg:((l.bIY[i]).map bL).getD i false=bL (l.bIY[i])[i]:=by simp[bLP,hik]
   rw[hg] at hrp
   have hz2:(qM (l.bIY[i])[i] != 0)=bL (l.bIY[i])[i]:=by
    rw[bne,hz,Bool.not_not]
   simp only[go_sem,δ,γ,θ,bLB,bJH,acO hik]
   refine aA hs rfl ?_
   cases k4:bL (l.bIY[i])[i] with
   | true =>
    rw[k4] at hrp hz2
    simp only[go_sem,γ,reduceCtorEq,hz2,aoN]
    exact fail _ _ (bad hrp) rfl
   | false =>
    rw[k4] at hrp hz2
    simp only[go_sem,γ,reduceCtorEq,hz2,a4Y,ws i]
    exact aE (i+1) ⟨hlt,fun j hj=>by
     by_cases e:j=i
     ·rw[e]; exact hrp
     ·exact bKL j Om⟩ Om Lq PH.le_refl
 ·have bJA:¬ (i:Int)<(l.start.length:Nat):=by omega
  have:i=l.start.length:=by omega
  subst this
  have hrows:(bKZ l.bIY.length).all (qW l)=true:=bLU.2 fun j hj=>bKL j (by rw[← c3]; exact bMQ.1 hj)
  rw[hrows,bLN] at hX
  have hrr:∀ r∈l.bIY,r.length=l.start.length∧∀ x∈r,cM x=true:=fun r hr=>by
   obtain⟨j,hj,rfl⟩:=bMO hr
   have h:=bKL j Om
   rw[aMG l hj,bLT,bLT,decide_eq_true_eq] at h
   exact⟨by omega,bLU.1 h.1.2⟩
  have hlim:aBO l:=⟨hxlim,fun r hr=>(hrr r hr).2⟩
  have hend:zQ l:=⟨by omega,by omega,fun r hr=>by rw[(hrr r hr).1,hxl]⟩
  have hsum:=L.sum l.start hl.start.all hl.start.fits
  simp only[go_sem,δ,γ,θ,bJA,aSD]
  refine aA hsum rfl ?_
  cases hE:nE (l.start.map RF.v) with
  | error e =>
   have he0:=aNV hE
   have:uC l=false:=by unfold uC; rw[hE]
   rw[this,bLI] at hX
   simp only[go_sem,δ,γ,frV]
   refine aN fun o ho=>?_
   simp only[go_sem,δ,γ]
   refine bM .nil dK PH.nil_le ?_
   simp only[go_sem,γ,aaZ,cV he0,abA]
   exact fail _ _ hX rfl
  | ok r =>
   have hrok:=a1Z hE
   have hrv:=agZ hE
   obtain⟨n,a,b⟩:=r
   have h1:cZ 1:=by unfold cZ; omega
   have hsame:=L.same (FV.rf (n,a,b)) (mkT 1 1) hrok (EZ 1 h1).1 (by unfold RF.valid FV.rf; simp only[aR]; exact hrv) (EZ 1 h1).2
   have hP:uC l=(pD (FV.rf (n,a,b)) (mkT 1 1)==0):=by
    unfold uC
    rw[hE,FA]
    unfold pD FV.rf
    simp only[aR,show (1:Int).natAbs=1 from rfl,show decide ((1:Int)<0)=false from rfl]
    by_cases h:pC n a b false 1 1=0<;>simp[h]
   simp only[go_sem,δ,γ,frV]
   refine aN fun o ho=>?_
   have hH:aQ (PH.nil.set o (.rows 3 [(FV.rf (n,a,b)).cells])) [(o,.rows 3 [(FV.rf (n,a,b)).cells])] []:=aQ.nil.new (H:=PH.nil) rfl _
   simp only[go_sem,δ,γ]
   refine bM (PH.nil.set o (.rows 3 [(FV.rf (n,a,b)).cells])) (zsS (pD (FV.rf (n,a,b)) (mkT 1 1)==0)) PH.le_refl ?_
   simp only[go_sem,δ,γ,aaZ,cA (show (0:Int)=0 from rfl)]
   refine bE rfl (L.int 1 h1) rfl PH.le_refl ?_
   simp only[go_sem,γ]
   refine bE rfl hsame rfl PH.le_refl ?_
   rw[← hP]
   cases hp:uC l with
   | false =>
    rw[hp,bLI] at hX
    simp only[go_sem,γ,reduceCtorEq,bLK,abA]
    exact fail _ _ hX rfl
   | true =>
    rw[hp,bLN,bsH] at hX
    have hb1:((l.start.length:Nat):Int)*((1:Nat):Int)≤140737488355328:=by omega
    have hb2:((l.start.length:Nat):Int)≤9223372036854775807:=by omega
    simp only[go_sem,γ,reduceCtorEq,bLB,aSE,hb1,hb2]
    refine aN fun q hq=>?_
    simp only[go_sem,γ,aSF]
    have hz0:bLD l.start.length [PV.bool false]=eQ (cS l 0):=by
     rw[← hxl]
     simp[cS,eQ]
    rw[← hxl]
    refine brD L l hl hend hlim q _ _ _ Lq ?_ ?_
    ·refine PH.aG PH.nil_le ?_
     rw[iV,hxl,hz0]
    simp only[go_sem,aSL]
    have hn4:(cS l l.exit.length).length≤4:=by rw[pS]; omega
    refine bzK (cS l l.exit.length) hn4 q (jZ l) hX _ rfl _ _ ?_ PH.le_refl
    rw[pS]
    exact Lq
structure rC (C:Ctx):Prop extends pH C where
 law:∀ l:bZ,l.Ok→aH C 68 [.agg l.cells] .nil (aF (.bool (jZ l)))
def okL (base ns:List (List UInt8)) (P:Nat→Bool) (i:Nat):Bool:=jF (base++ns.take i) (ns.getD i [])&&P i
theorem qO {p:Nat→Bool} (k:Nat) (b:Bool):(b&&(bKZ (k+1)).all p)=((b&&(bKZ k).all p)&&p k):=by
 rw[List.range_succ,List.all_append]
 cases (bKZ k).all p<;>cases b<;>simp
theorem qN {p:Nat→Bool} {b:Bool} {i n:Nat} (hi:i≤n) (h:(b&&(bKZ i).all p)=false):(b&&(bKZ n).all p)=false:=by
 cases b with
 | false=>rfl
 | true =>
  rw[bLN] at h ⊢
  obtain⟨x,hx,hp⟩:=List.all_eq_false.1 h
  exact List.all_eq_false.2 ⟨x,bMQ.2 (by have:=bMQ.1 hx; omega),hp⟩
structure gX (H:PH) (w:PV) (base ns:List (List UInt8)) (c:Bool) (i:Nat):Prop where
 ex:∃ names,aQ H [] [(w,1,mH names)]∧(c=true→names=base++ns.take i)
section
variable {C:Ctx} {F:PF} {H:PH} {d:Option Nat} {K:PF→PH→Prop}
theorem gX.call (L:pH C) {w:PV} {base ns:List (List UInt8)} {i:Nat} {B:List BX} {names:List (List UInt8)} (h:aQ H B [(w,1,mH names)]) (hl:base.length≤1000) (hi:i≤1000) (hn:names=base++ns.take i) (hin:i<ns.length) {a b:Nat} (bKN:aP.evs F [.tmp a,.tmp b]=some [w,.str ns[i]])
  (hk:∀ w' H',aQ H' B [(w',1,mH (names++[ns[i]]))]→gX H' w' base ns true (i+1)→K (F.put d (.tup [w',.bool (jF (base++ns.take i) (ns.getD i []))])) H'):gS C 70 [.tmp a,.tmp b] [] d K F H:=by
 refine EH (B1:=[]) (B2:=B) (L1:=[(w,1,mH names)]) (L2:=[]) (Q:=abK names ns[i]) h (fun H0 h0=>L.fresh names (by rw[hn,bLC,bLR]; omega) ns[i] w H0 h0) bKN ?_
 rintro r B' L' H' ⟨w',rfl,rfl,rfl⟩ h'
 have hgd:ns.getD i []=ns[i]:=by simp[bLP,hin]
 rw[hgd,← hn] at hk
 refine hk w' H' h' ⟨names++[ns[i]],h'.sub (List.nil_sublist _) (bMX.refl _),fun _=>?_⟩
 rw[bNC hin,← bMA,hn]
end
theorem gX.aoL {H:PH} {w:PV} {base ns:List (List UInt8)} {c:Bool} {i:Nat} (h:gX H w base ns true i):gX H w base ns c i:=by
 obtain⟨names,h1,h3⟩:=h.ex
 exact⟨names,h1,fun _=>h3 rfl⟩
def HD (f:aD):Bool:=(bKZ f.bJD.length).all (okL [] (f.bJD.map bZ.name) fun i=>(f.bJD.map jZ).getD i false)
theorem bxB {C:Ctx} (L:rC C) (f:aD) (hf:f.Ok) (hs:f.bJD.length≤4) (K:bY) [Up K] (F:PF) (H:PH)
  (hF:(((((((((PF.nil.set 1 (.bJC f.cells)).set 3 (.bIU)).set 4 (.bIU)).set 5 (.bIU)).set 6 (.bIU)).set 7 (.bIU)).set 8 (.bool true)).set 9 (.int .i64 0)):PF).le F)
  (hK:∀ H',K (.exit 0) (((((((PF.nil.set 1 (.bJC f.cells)).set 4 (.bIU)).set 5 (.bIU)).set 6 (.bIU)).set 7 (.bIU)).set 8 (.bool (HD f)))) H'):aB.wp C (.loop LJ) K F H:=by
 obtain⟨ok,hok⟩:∃ ok,okL [] (f.bJD.map bZ.name) (fun i=>(f.bJD.map jZ).getD i false)=ok:=⟨_,rfl⟩
 unfold HD at hK
 rw[hok] at hK
 refine wp_loop (α:=Nat × PV × PH) (fun s=>((((((((PF.nil.set 1 (.bJC f.cells)).set 3 (s.2.1)).set 4 (.bIU)).set 5 (.bIU)).set 6 (.bIU)).set 7 (.bIU)).set 8 (.bool (true&&(bKZ s.1).all ok))).set 9 (.int .i64 s.1))) (fun s=>s.2.2) (fun s=>s.1≤f.bJD.length∧gX s.2.2 s.2.1 [] (f.bJD.map bZ.name) (true&&(bKZ s.1).all ok) s.1) (fun s=>f.bJD.length-s.1)
  (0,.bIU,H) ⟨bLE _,⟨[],aQ.nil.oH 1,fun _=>rfl⟩⟩ hF PH.le_refl ?_
 rintro⟨i,w,H0⟩ ⟨hi,hG⟩
 simp only at hi hG ⊢
 have fin:∀ (b:Bool) (w':PV) (F':PF) (H':PH),i<f.bJD.length→(true&&(bKZ (i+1)).all ok)=b→gX H' w' [] (f.bJD.map bZ.name) true (i+1) →
   (((((((((PF.nil.set 1 (.bJC f.cells)).set 3 (w')).set 4 (.bIU)).set 5 (.bIU)).set 6 (.bIU)).set 7 (.bIU)).set 8 (.bool b)).set 9 (.int .i64 (i+1:Nat))):PF).le F' →
   dV (fun s:Nat × PV × PH=>((((((((PF.nil.set 1 (.bJC f.cells)).set 3 (s.2.1)).set 4 (.bIU)).set 5 (.bIU)).set 6 (.bIU)).set 7 (.bIU)).set 8 (.bool (true&&(bKZ s.1).all ok))).set 9 (.int .i64 s.1))) (fun s=>s.2.2) (fun s=>s.1≤f.bJD.length∧gX s.2.2 s.2.1 [] (f.bJD.map bZ.name) (true&&(bKZ s.1).all ok) s.1) (fun s=>f.bJD.length-s.1) (f.bJD.length-i) K .normal F' H' :=
  fun b w' F' H' hlt hb hG' hF'=>aE (i+1,w',H') ⟨hlt,hG'.aoL⟩ (by simp only; omega) (by simp only; rw[hb]; exact hF') PH.le_refl
 have bJB:=qO (p:=ok) i true
 have stop:(true&&(bKZ i).all ok)=(true&&(bKZ f.bJD.length).all ok)→K (.exit 0) (((((((PF.nil.set 1 (.bJC f.cells)).set 4 (.bIU)).set 5 (.bIU)).set 6 (.bIU)).set 7 (.bIU)).set 8 (.bool (true&&(bKZ i).all ok)))) H0:=fun e=>by
  rw[e,bLN]; exact hK H0
 have hacc:=fun h=>qN (p:=ok) (b:=true) hi h
 generalize hc:(true&&(bKZ i).all ok)=c at *
 simp only[go_sem,δ,γ,θ,LJ,azG,bKY]
 by_cases hlt:i<f.bJD.length
 ·have bJA:(i:Int)<(f.bJD.length:Nat):=by omega
  cases c with
  | false =>
   simp only[go_sem,γ,bJA]
   exact Up.up Lq (stop (hacc rfl).symm)
  | true =>
   obtain⟨names,g1,g3⟩:=hG.ex
   have hat:(f.bJD.map bZ.cells)[i]?=some (f.bJD[i]).cells:=by simp[hlt]
   have hin:i<(f.bJD.map bZ.name).length:=by rw[bKY]; exact hlt
   have hoki:ok i=(jF ([]++(f.bJD.map bZ.name).take i) ((f.bJD.map bZ.name).getD i [])&&jZ f.bJD[i]):=by
    rw[← hok]
    unfold okL
    simp[bLP,hlt]
   have hl:=L.law _ (hf.law _ (bLF hlt))
   rw[hoki] at bJB
   simp only[go_sem,δ,γ,θ,bJA,azH,hat]
   refine gX.call L.topH (ns:=f.bJD.map bZ.name) g1 (bLE _) Om (g3 rfl) hin (by simp only[go_sem,γ,bMN]) fun w' H1 h1 hG1=>?_
   generalize jF ([]++(f.bJD.map bZ.name).take i) ((f.bJD.map bZ.name).getD i [])=fb at *
   cases fb with
   | false =>
    simp only[go_sem,γ,reduceCtorEq,RX,RY,ws i]
    exact fin false w' _ _ hlt (bJB.trans rfl) hG1 Lq
   | true =>
    simp only[go_sem,δ,γ,θ,RX,hat]
    refine aA hl rfl ?_
    simp only[go_sem,γ,RY,ws i]
    exact fin _ w' _ _ hlt (bJB.trans rfl) hG1 Lq
 ·have bJA:¬ (i:Int)<(f.bJD.length:Nat):=by omega
  have:i=f.bJD.length:=by omega
  subst this
  simp only[go_sem,γ,reduceCtorEq,bJA]
  exact Up.up Lq (stop hc.symm)
theorem PY {a b c d e f:Nat} (h:pF a b c d e f=true):a≤4∧b≤4∧c≤40∧d≤24∧e≤4∧f≤12:=by
 simp only[pF,bLT,decide_eq_true_eq] at h
 omega
theorem akA {n:Nat} (h:n≤1000):IntKind.i64.wrap ((n:Int)-1)=(n:Int)-1:=wrap_i64 Om Om
def inS:Spec:=fun name vs=>match name,vs with
 | 76,[.int _ n,.int _ lo,.int _ hi]=>some ([],fun _=>aF (.bool (within n lo hi)))
 | _,_=>none
def amX (bJD:Nat) (m:cL):Bool:=within m.bJO 1 16&&(within m.port 1 64&&within m.law 0 ((bJD:Int)-1))
def aRP (pols:Nat) (v:eN):Bool:=within v.bJI 0 ((pols:Int)-1)
def xT (f:aD):Bool:=(bKZ f.bIT.length).all (okL [] (f.bIT.map cL.name) fun i=>(f.bIT.map (amX f.bJD.length)).getD i false)
theorem bkQ {C:Ctx} (L:rC C) (f:aD) (hf:f.Ok) (hz:pF f.bJD.length f.bIT.length f.bIW.length f.bIS.length f.bIX.length f.bIV.length=true) (b:Bool) (K:bY) [Up K] (F:PF) (H:PH)
  (hF:((((((((PF.nil.set 1 (.bJC f.cells)).set 4 (.bIU)).set 5 (.bIU)).set 6 (.bIU)).set 7 (.bIU)).set 8 (.bool b)).set 10 (.int .i64 0)):PF).le F)
  (hK:∀ H',K (.exit 2) ((((((PF.nil.set 1 (.bJC f.cells)).set 5 (.bIU)).set 6 (.bIU)).set 7 (.bIU)).set 8 (.bool (b&&xT f)))) H'):aB.wp C (.loop LK) K F H:=by
 obtain⟨hz1,hz2,hz3,hz4,hz5,hz6⟩:=PY hz
 obtain⟨ok,hok⟩:∃ ok,okL [] (f.bIT.map cL.name) (fun i=>(f.bIT.map (amX f.bJD.length)).getD i false)=ok:=⟨_,rfl⟩
 unfold xT at hK
 rw[hok] at hK
 refine wp_loop (α:=Nat × PV × PH) (fun s=>(((((((PF.nil.set 1 (.bJC f.cells)).set 4 (s.2.1)).set 5 (.bIU)).set 6 (.bIU)).set 7 (.bIU)).set 8 (.bool (b&&(bKZ s.1).all ok))).set 10 (.int .i64 s.1))) (fun s=>s.2.2) (fun s=>s.1≤f.bIT.length∧gX s.2.2 s.2.1 [] (f.bIT.map cL.name) (b&&(bKZ s.1).all ok) s.1) (fun s=>f.bIT.length-s.1)
  (0,.bIU,H) ⟨bLE _,⟨[],aQ.nil.oH 1,fun _=>rfl⟩⟩ (by
   have e:(b&&(bKZ 0).all ok)=b:=by cases b<;>rfl
   simp only[e]
   exact hF) PH.le_refl ?_
 rintro⟨i,w,H0⟩ ⟨hi,hG⟩
 simp only at hi hG ⊢
 have fin:∀ (c:Bool) (w':PV) (F':PF) (H':PH),i<f.bIT.length→(b&&(bKZ (i+1)).all ok)=c→gX H' w' [] (f.bIT.map cL.name) true (i+1) →
   ((((((((PF.nil.set 1 (.bJC f.cells)).set 4 (w')).set 5 (.bIU)).set 6 (.bIU)).set 7 (.bIU)).set 8 (.bool c)).set 10 (.int .i64 (i+1:Nat))):PF).le F' →
   dV (fun s:Nat × PV × PH=>(((((((PF.nil.set 1 (.bJC f.cells)).set 4 (s.2.1)).set 5 (.bIU)).set 6 (.bIU)).set 7 (.bIU)).set 8 (.bool (b&&(bKZ s.1).all ok))).set 10 (.int .i64 s.1))) (fun s=>s.2.2) (fun s=>s.1≤f.bIT.length∧gX s.2.2 s.2.1 [] (f.bIT.map cL.name) (b&&(bKZ s.1).all ok) s.1) (fun s=>f.bIT.length-s.1) (f.bIT.length-i) K .normal F' H' :=
  fun c w' F' H' hlt hb hG' hF'=>aE (i+1,w',H') ⟨hlt,hG'.aoL⟩ (by simp only; omega) (by simp only; rw[hb]; exact hF') PH.le_refl
 have bJB:=qO (p:=ok) i b
 have stop:(b&&(bKZ i).all ok)=(b&&(bKZ f.bIT.length).all ok)→K (.exit 2) ((((((PF.nil.set 1 (.bJC f.cells)).set 5 (.bIU)).set 6 (.bIU)).set 7 (.bIU)).set 8 (.bool (b&&(bKZ i).all ok)))) H0:=fun e=>by
  rw[e]; exact hK H0
 have hacc:=fun h=>qN (p:=ok) (b:=b) hi h
 generalize hc:(b&&(bKZ i).all ok)=c at *
 simp only[go_sem,δ,γ,θ,LK,akT,bKY]
 by_cases hlt:i<f.bIT.length
 ·have bJA:(i:Int)<(f.bIT.length:Nat):=by omega
  cases c with
  | false =>
   simp only[go_sem,γ,bJA]
   exact Up.up Lq (stop (hacc rfl).symm)
  | true =>
   obtain⟨names,g1,g3⟩:=hG.ex
   have hat:(f.bIT.map cL.cells)[i]?=some (f.bIT[i]).cells:=by simp[hlt]
   have hin:i<(f.bIT.map cL.name).length:=by rw[bKY]; exact hlt
   have hoki:ok i=(jF ([]++(f.bIT.map cL.name).take i) ((f.bIT.map cL.name).getD i [])&&(amX f.bJD.length) f.bIT[i]):=by
    rw[← hok]
    unfold okL
    simp[bLP,hlt]
   rw[hoki] at bJB
   have bKH:amX f.bJD.length f.bIT[i]=(within (f.bIT[i]).bJO 1 16&&(within (f.bIT[i]).port 1 64&&within (f.bIT[i]).law 0 ((f.bJD.length:Int)-1))):=rfl
   rw[bKH] at bJB
   simp only[go_sem,δ,γ,θ,bJA,akU,hat]
   refine aN fun o ho=>?_
   have g4:=g1.new ho (.rows 4 [(f.bIT[i]).cells])
   have g5:=g4.at 0 rfl
   simp only[go_sem,δ,γ]
   generalize H0.set o (.rows 4 [(f.bIT[i]).cells])=H2 at *
   simp only[go_sem,δ,γ,θ,akV,g5]
   refine gX.call L.topH (ns:=(f.bIT.map cL.name)) g4 (bLE _) Om (g3 rfl) hin (by simp only[go_sem,γ,bMN]) fun w' H1 h1 hG1=>?_
   have g6:=h1.at 0 rfl
   generalize jF ([]++(f.bIT.map cL.name).take i) ((f.bIT.map cL.name).getD i [])=fb at *
   cases fb with
   | false =>
    simp only[go_sem,γ,reduceCtorEq,LM,tF,ws i]
    exact fin false w' _ _ hlt (bJB.trans rfl) hG1 Lq
   | true =>
    simp only[go_sem,δ,γ,θ,LM,g6]
    refine aA (L.inn (f.bIT[i]).bJO 1 16) rfl ?_
    cases k0:within (f.bIT[i]).bJO 1 16 with
    | false =>
     simp only[go_sem,γ,reduceCtorEq,tF,ws i]
     exact fin false w' _ _ hlt (by rw[bJB,k0]<;>simp) hG1 Lq
    | true =>
     simp only[go_sem,δ,γ,θ,g6]
     refine aA (L.inn (f.bIT[i]).port 1 64) rfl ?_
     cases k1:within (f.bIT[i]).port 1 64 with
     | false =>
      simp only[go_sem,γ,reduceCtorEq,tF,ws i]
      exact fin false w' _ _ hlt (by rw[bJB,k0,k1]<;>simp) hG1 Lq
     | true =>
      simp only[go_sem,δ,γ,θ,g6,bKY,akA (Om:f.bJD.length≤1000)]
      refine aA (L.inn (f.bIT[i]).law 0 ((f.bJD.length:Int)-1)) rfl ?_
      simp only[go_sem,γ,tF,ws i]
      exact fin _ w' _ _ hlt (by rw[bJB,k0,k1]<;>simp) hG1 Lq
 ·have bJA:¬ (i:Int)<(f.bIT.length:Nat):=by omega
  have:i=f.bIT.length:=by omega
  subst this
  simp only[go_sem,γ,reduceCtorEq,bJA]
  exact Up.up Lq (stop hc.symm)
def aBG (f:aD):Bool:=(bKZ f.bIV.length).all (okL [] (f.bIV.map eN.name) fun i=>(f.bIV.map (aRP f.bIX.length)).getD i false)
theorem bxD {C:Ctx} (L:rC C) (f:aD) (hf:f.Ok) (hz:pF f.bJD.length f.bIT.length f.bIW.length f.bIS.length f.bIX.length f.bIV.length=true) (b:Bool) (K:bY) [Up K] (F:PF) (H:PH)
  (hF:(((((PF.nil.set 1 (.bJC f.cells)).set 7 (.bIU)).set 8 (.bool b)).set 21 (.int .i64 0)):PF).le F)
  (hK:∀ H',K (.exit 14) (((PF.nil.set 1 (.bJC f.cells)).set 8 (.bool (b&&aBG f)))) H'):aB.wp C (.loop xJ) K F H:=by
 obtain⟨hz1,hz2,hz3,hz4,hz5,hz6⟩:=PY hz
 obtain⟨ok,hok⟩:∃ ok,okL [] (f.bIV.map eN.name) (fun i=>(f.bIV.map (aRP f.bIX.length)).getD i false)=ok:=⟨_,rfl⟩
 unfold aBG at hK
 rw[hok] at hK
 refine wp_loop (α:=Nat × PV × PH) (fun s=>((((PF.nil.set 1 (.bJC f.cells)).set 7 (s.2.1)).set 8 (.bool (b&&(bKZ s.1).all ok))).set 21 (.int .i64 s.1))) (fun s=>s.2.2) (fun s=>s.1≤f.bIV.length∧gX s.2.2 s.2.1 [] (f.bIV.map eN.name) (b&&(bKZ s.1).all ok) s.1) (fun s=>f.bIV.length-s.1)
  (0,.bIU,H) ⟨bLE _,⟨[],aQ.nil.oH 1,fun _=>rfl⟩⟩ (by
   have e:(b&&(bKZ 0).all ok)=b:=by cases b<;>rfl
   simp only[e]
   exact hF) PH.le_refl ?_
 rintro⟨i,w,H0⟩ ⟨hi,hG⟩
 simp only at hi hG ⊢
 have fin:∀ (c:Bool) (w':PV) (F':PF) (H':PH),i<f.bIV.length→(b&&(bKZ (i+1)).all ok)=c→gX H' w' [] (f.bIV.map eN.name) true (i+1) →
   (((((PF.nil.set 1 (.bJC f.cells)).set 7 (w')).set 8 (.bool c)).set 21 (.int .i64 (i+1:Nat))):PF).le F' →
   dV (fun s:Nat × PV × PH=>((((PF.nil.set 1 (.bJC f.cells)).set 7 (s.2.1)).set 8 (.bool (b&&(bKZ s.1).all ok))).set 21 (.int .i64 s.1))) (fun s=>s.2.2) (fun s=>s.1≤f.bIV.length∧gX s.2.2 s.2.1 [] (f.bIV.map eN.name) (b&&(bKZ s.1).all ok) s.1) (fun s=>f.bIV.length-s.1) (f.bIV.length-i) K .normal F' H' :=
  fun c w' F' H' hlt hb hG' hF'=>aE (i+1,w',H') ⟨hlt,hG'.aoL⟩ (by simp only; omega) (by simp only; rw[hb]; exact hF') PH.le_refl
 have bJB:=qO (p:=ok) i b
 have stop:(b&&(bKZ i).all ok)=(b&&(bKZ f.bIV.length).all ok)→K (.exit 14) (((PF.nil.set 1 (.bJC f.cells)).set 8 (.bool (b&&(bKZ i).all ok)))) H0:=fun e=>by
  rw[e]; exact hK H0
 have hacc:=fun h=>qN (p:=ok) (b:=b) hi h
 generalize hc:(b&&(bKZ i).all ok)=c at *
 simp only[go_sem,γ,xJ,alL,bKY]
 by_cases hlt:i<f.bIV.length
 ·have bJA:(i:Int)<(f.bIV.length:Nat):=by omega
  cases c with
  | false =>
   simp only[go_sem,γ,bJA]
   exact Up.up Lq (stop (hacc rfl).symm)
  | true =>
   obtain⟨names,g1,g3⟩:=hG.ex
   have hat:(f.bIV.map eN.cells)[i]?=some (f.bIV[i]).cells:=by simp[hlt]
   have hin:i<(f.bIV.map eN.name).length:=by rw[bKY]; exact hlt
   have hoki:ok i=(jF ([]++(f.bIV.map eN.name).take i) ((f.bIV.map eN.name).getD i [])&&(aRP f.bIX.length) f.bIV[i]):=by
    rw[← hok]
    unfold okL
    simp[bLP,hlt]
   rw[hoki] at bJB
   have bKH:aRP f.bIX.length f.bIV[i]=within (f.bIV[i]).bJI 0 ((f.bIX.length:Int)-1):=rfl
   rw[bKH] at bJB
   simp only[go_sem,δ,γ,θ,bJA,alM,hat]
   refine gX.call L.topH (ns:=(f.bIV.map eN.name)) g1 (bLE _) Om (g3 rfl) hin (by simp only[go_sem,γ,bMN]) fun w' H1 h1 hG1=>?_
   generalize jF ([]++(f.bIV.map eN.name).take i) ((f.bIV.map eN.name).getD i [])=fb at *
   cases fb with
   | false =>
    simp only[go_sem,γ]
    refine bM .nil (inS) PH.nil_le ?_
    simp only[go_sem,γ,reduceCtorEq,MD,ME,ws i]
    exact fin false w' _ _ hlt (bJB.trans rfl) hG1 Lq
   | true =>
    simp only[go_sem,γ]
    refine bM .nil (inS) PH.nil_le ?_
    simp only[go_sem,δ,γ,θ,MD,hat,bKY,akA (Om:f.bIX.length≤1000)]
    refine bE rfl (L.inn (f.bIV[i]).bJI 0 ((f.bIX.length:Int)-1)) rfl PH.nil_le ?_
    simp only[go_sem,γ,ME,ws i]
    exact fin _ w' _ _ hlt (bJB.trans rfl) hG1 Lq
 ·have bJA:¬ (i:Int)<(f.bIV.length:Nat):=by omega
  have:i=f.bIV.length:=by omega
  subst this
  simp only[go_sem,γ,reduceCtorEq,bJA]
  exact Up.up Lq (stop hc.symm)
def a7L:Spec:=fun name vs=>match name,vs with
 | 76,[.int _ n,.int _ lo,.int _ hi]=>some ([],fun _=>aF (.bool (within n lo hi)))
 | 74,[.agg cs]=>some ([],fun _=>aF (.bool (cM (frD cs))))
 | _,_=>none
theorem a7M (x:RF):a7L 74 [.agg x.cells]=some ([],fun _=>aF (.bool (cM x))):=by
 show some ([],fun _=>aF (.bool (cM (frD x.cells))))=_
 rw[aoV]
def aCR (f:aD) (i:Nat) (d:cI):Bool :=
 within d.level 1 4&&(within d.parent 0 i&&(((f.bIW.map cI.level).getD d.parent.toNat 0==IntKind.i64.wrap (d.level-1))&&(within d.bJU 1 64&&cM d.bJM)))
theorem bsD (f:aD) (i:Nat) (d:cI):FX f i d=aCR f i d:=by
 unfold FX aCR
 have:decide ((f.bIW.map cI.level).getD d.parent.toNat 0=IntKind.i64.wrap (d.level-1))=((f.bIW.map cI.level).getD d.parent.toNat 0==IntKind.i64.wrap (d.level-1)):=by
  generalize (f.bIW.map cI.level).getD d.parent.toNat 0=u
  by_cases h:u=IntKind.i64.wrap (d.level-1)<;>simp[h]
 rw[this]
 cases within d.parent 0 i<;>cases within d.level 1 4<;>cases within d.bJU 1 64<;>simp
def gU (f:aD):List (List UInt8):=(f.bIW.drop 1).map cI.name
def wD (f:aD) (i:Nat):Bool:=match f.bIW[i+1]? with
 | some d=>aCR f i d
 | none=>false
def wE (f:aD):Bool:=(bKZ (f.bIW.length-1)).all (okL [] (gU f) (wD f))
theorem aCQ (f:aD):(gU f).length=f.bIW.length-1:=by simp[gU]
theorem bxA {C:Ctx} (L:rC C) (f:aD) (hf:f.Ok) (hz3:f.bIW.length≤40) (h0:0<f.bIW.length) (b:Bool) (K:bY) [Up K] (F:PF) (H:PH)
  (hF:(((((((PF.nil.set 1 (.bJC f.cells)).set 5 (.bIU)).set 6 (.bIU)).set 7 (.bIU)).set 8 (.bool b)).set 13 (.int .i64 1)):PF).le F)
  (hK:∀ w H',gX H' w [] (gU f) (b&&wE f) (f.bIW.length-1)→K (.exit 4) ((((((PF.nil.set 1 (.bJC f.cells)).set 5 (w)).set 6 (.bIU)).set 7 (.bIU)).set 8 (.bool (b&&wE f)))) H'):aB.wp C (.loop xF) K F H:=by
 obtain⟨ok,hok⟩:∃ ok,okL [] (gU f) (wD f)=ok:=⟨_,rfl⟩
 unfold wE at hK
 rw[hok] at hK
 obtain⟨n,hn⟩:∃ n,f.bIW.length=n+1:=⟨f.bIW.length-1,by omega⟩
 have hnl:=aCQ f
 have hn1:f.bIW.length-1=n:=by omega
 rw[hn1] at hK hnl
 refine wp_loop (α:=Nat × PV × PH) (fun s=>((((((PF.nil.set 1 (.bJC f.cells)).set 5 (s.2.1)).set 6 (.bIU)).set 7 (.bIU)).set 8 (.bool (b&&(bKZ s.1).all ok))).set 13 (.int .i64 (s.1+1:Nat)))) (fun s=>s.2.2) (fun s=>s.1≤n∧gX s.2.2 s.2.1 [] (gU f) (b&&(bKZ s.1).all ok) s.1) (fun s=>n-s.1)
  (0,.bIU,H) ⟨bLE _,⟨[],aQ.nil.oH 1,fun _=>rfl⟩⟩ (by
   have e:(b&&(bKZ 0).all ok)=b:=by cases b<;>rfl
   simp only[e]
   exact hF) PH.le_refl ?_
 rintro⟨i,w,H0⟩ ⟨hi,hG⟩
 simp only at hi hG ⊢
 have fin:∀ (c:Bool) (w':PV) (F':PF) (H':PH),i<n→(b&&(bKZ (i+1)).all ok)=c→gX H' w' [] (gU f) true (i+1) →
   (((((((PF.nil.set 1 (.bJC f.cells)).set 5 (w')).set 6 (.bIU)).set 7 (.bIU)).set 8 (.bool c)).set 13 (.int .i64 (i+1+1:Nat))):PF).le F' →
   dV (fun s:Nat × PV × PH=>((((((PF.nil.set 1 (.bJC f.cells)).set 5 (s.2.1)).set 6 (.bIU)).set 7 (.bIU)).set 8 (.bool (b&&(bKZ s.1).all ok))).set 13 (.int .i64 (s.1+1:Nat)))) (fun s=>s.2.2) (fun s=>s.1≤n∧gX s.2.2 s.2.1 [] (gU f) (b&&(bKZ s.1).all ok) s.1) (fun s=>n-s.1) (n-i) K .normal F' H' :=
  fun c w' F' H' hlt hb hG' hF'=>aE (i+1,w',H') ⟨hlt,hG'.aoL⟩ (by simp only; omega) (by simp only; rw[hb]; exact hF') PH.le_refl
 have bJB:=qO (p:=ok) i b
 have hacc:=fun h=>qN (p:=ok) (b:=b) hi h
 have stop:(b&&(bKZ i).all ok)=(b&&(bKZ n).all ok)→((b&&(bKZ i).all ok)=true→i=n)→K (.exit 4) ((((((PF.nil.set 1 (.bJC f.cells)).set 5 (w)).set 6 (.bIU)).set 7 (.bIU)).set 8 (.bool (b&&(bKZ i).all ok)))) H0:=fun e e2=>by
  obtain⟨names,g1,g3⟩:=hG.ex
  have:=hK w H0 ⟨names,g1,fun h=>by
   have h':=e.trans h
   rw[g3 h',e2 h']⟩
  rwa [← e] at this
 generalize hc:(b&&(bKZ i).all ok)=c at *
 simp only[go_sem,δ,γ,θ,xF,akX,bKY]
 by_cases hlt:i<n
 ·have bJA:((i+1:Nat):Int)<(f.bIW.length:Nat):=by omega
  cases c with
  | false =>
   simp only[go_sem,γ,bJA]
   exact Up.up Lq (stop (hacc rfl).symm (fun h=>by cases h))
  | true =>
   obtain⟨names,g1,g3⟩:=hG.ex
   have hid:i+1<f.bIW.length:=by omega
   have hat:=eR hid
   have hin:i<(gU f).length:=by omega
   have hnm:(gU f)[i]=(f.bIW[i+1]).name:=by simp[gU,Nat.add_comm]
   have hoki:ok i=(jF ([]++(gU f).take i) ((gU f).getD i [])&&aCR f i f.bIW[i+1]):=by
    rw[← hok]
    unfold okL wD
    rw[bLL hid]
   have hdo:=hf.dom _ (bLF hid)
   rw[hoki] at bJB
   unfold aCR at bJB
   have e1:IntKind.i64.wrap (((i+1:Nat):Int)-1)=(i:Nat):=by rw[wrap_i64 Om Om]; omega
   have winc:IntKind.i64.wrap (((i+1:Nat):Int)+1)=((i+1+1:Nat):Int):=cY Om
   have hsm:=L.small _ hdo.1
   simp only[go_sem,δ,γ,θ,bJA,akY,hat]
   refine aN fun o ho=>?_
   have g4:=g1.new ho (.rows 7 [(f.bIW[i+1]).cells])
   have g5:=g4.at 0 rfl
   simp only[go_sem,δ,γ]
   generalize H0.set o (.rows 7 [(f.bIW[i+1]).cells])=H2 at *
   simp only[go_sem,δ,γ,θ,akZ,g5]
   refine gX.call L.topH (ns:=gU f) g4 (bLE _) Om (g3 rfl) hin (by simp only[go_sem,γ,hnm]) fun w' H1 h1 hG1=>?_
   have g6:=h1.at 0 rfl
   generalize jF ([]++(gU f).take i) ((gU f).getD i [])=fb at *
   generalize hd:f.bIW[i+1]=dd at *
   cases fb with
   | false =>
    simp only[go_sem,γ]
    refine bM .nil a7L PH.nil_le ?_
    simp only[go_sem,γ,reduceCtorEq,LP,nS,winc]
    exact fin false w' _ _ hlt (bJB.trans rfl) hG1 Lq
   | true =>
    simp only[go_sem,γ]
    refine bM .nil a7L PH.nil_le ?_
    simp only[go_sem,δ,γ,θ,reduceCtorEq,LP,g6]
    refine bE rfl (L.inn dd.level 1 4) rfl PH.nil_le ?_
    cases k0:within dd.level 1 4 with
    | false =>
     simp only[go_sem,γ,reduceCtorEq,nS,winc]
     exact fin false w' _ _ hlt (by rw[bJB,k0]<;>simp) hG1 Lq
    | true =>
     simp only[go_sem,δ,γ,θ,reduceCtorEq,g6,e1]
     refine bE rfl (L.inn dd.parent 0 (i:Nat)) rfl PH.nil_le ?_
     cases k1:within dd.parent 0 (i:Nat) with
     | false =>
      simp only[go_sem,γ,reduceCtorEq,nS,winc]
      exact fin false w' _ _ hlt (by rw[bJB,k0,k1]<;>simp) hG1 Lq
     | true =>
      obtain⟨p0,p1⟩:=within_iff.1 k1
      obtain⟨p,hp⟩:∃ p:Nat,dd.parent=p:=⟨dd.parent.toNat,by omega⟩
      have hpd:p<f.bIW.length:=by omega
      obtain⟨lv,hlv⟩:∃ lv,(f.bIW.map cI.level).getD dd.parent.toNat 0=lv:=⟨_,rfl⟩
      have hpl:(f.bIW[p]).level=lv:=by rw[← hlv,hp,bNU,getD_at hpd]
      rw[hlv] at bJB
      have hpat:=eR hpd
      simp only[go_sem,δ,γ,θ,reduceCtorEq,g6,hp,hpat,hpl]
      cases k2:lv==IntKind.i64.wrap (dd.level-1) with
      | false =>
       simp only[go_sem,γ,reduceCtorEq,nS,winc]
       exact fin false w' _ _ hlt (by rw[bJB,k0,k1,k2]<;>simp) hG1 Lq
      | true =>
       simp only[go_sem,δ,γ,θ,reduceCtorEq,g6]
       refine bE rfl (L.inn dd.bJU 1 64) rfl PH.nil_le ?_
       cases k3:within dd.bJU 1 64 with
       | false =>
        simp only[go_sem,γ,reduceCtorEq,nS,winc]
        exact fin false w' _ _ hlt (by rw[bJB,k0,k1,k2,k3]<;>simp) hG1 Lq
       | true =>
        simp only[go_sem,δ,γ,reduceCtorEq,g6]
        refine bE (a7M _) hsm rfl PH.nil_le ?_
        simp only[go_sem,γ,nS,winc]
        exact fin _ w' _ _ hlt (by rw[bJB,k0,k1,k2,k3]<;>simp) hG1 Lq
 ·have bJA:¬ ((i+1:Nat):Int)<(f.bIW.length:Nat):=by omega
  have:i=n:=by omega
  subst this
  simp only[go_sem,γ,reduceCtorEq,bJA]
  exact Up.up Lq (stop hc.symm (fun _=>rfl))
def aCU (f:aD) (d:dB):Bool:=within d.model 0 ((f.bIT.length:Int)-1)&&(within d.machine 0 ((f.bIW.length:Int)-1)&&((f.bIW.map cI.level).getD d.machine.toNat 0==4))
def lM (f:aD):List (List UInt8):=f.bIS.map dB.name
def uF (f:aD) (i:Nat):Bool:=match f.bIS[i]? with
 | some d=>aCU f d
 | none=>false
def xM (f:aD):Bool:=(bKZ f.bIS.length).all (okL (gU f) (lM f) (uF f))
theorem bkP {C:Ctx} (L:rC C) (f:aD) (hf:f.Ok) (hz3:f.bIW.length≤40) (h0:0<f.bIW.length) (hz4:f.bIS.length≤24) (hz2:f.bIT.length≤4) (b:Bool) (w0:PV) (K:bY) [Up K] (F:PF) (H:PH)
  (hG0:gX H w0 [] (gU f) b (f.bIW.length-1)) (hF:(((((((PF.nil.set 1 (.bJC f.cells)).set 5 (w0)).set 6 (.bIU)).set 7 (.bIU)).set 8 (.bool b)).set 15 (.int .i64 0)):PF).le F)
  (hK:∀ H',K (.exit 6) (((((PF.nil.set 1 (.bJC f.cells)).set 6 (.bIU)).set 7 (.bIU)).set 8 (.bool (b&&xM f)))) H'):aB.wp C (.loop xG) K F H:=by
 obtain⟨ok,hok⟩:∃ ok,okL (gU f) (lM f) (uF f)=ok:=⟨_,rfl⟩
 unfold xM at hK
 rw[hok] at hK
 obtain⟨n,hn⟩:∃ n,f.bIS.length=n:=⟨_,rfl⟩
 have hdl:=aCQ f
 have hnl:(lM f).length=n:=by simp[lM,hn]
 rw[hn] at hK
 refine wp_loop (α:=Nat × PV × PH) (fun s=>((((((PF.nil.set 1 (.bJC f.cells)).set 5 (s.2.1)).set 6 (.bIU)).set 7 (.bIU)).set 8 (.bool (b&&(bKZ s.1).all ok))).set 15 (.int .i64 s.1))) (fun s=>s.2.2) (fun s=>s.1≤n∧gX s.2.2 s.2.1 (gU f) (lM f) (b&&(bKZ s.1).all ok) s.1) (fun s=>n-s.1)
  (0,w0,H) ⟨bLE _,by
   obtain⟨names,q1,q2⟩:=hG0.ex
   have e:(b&&(bKZ 0).all ok)=b:=by cases b<;>rfl
   refine⟨names,q1,fun h=>?_⟩
   simp only[e] at h
   rw[q2 h,List.nil_append,bLQ Om]
   simp⟩ (by
   have e:(b&&(bKZ 0).all ok)=b:=by cases b<;>rfl
   simp only[e]
   exact hF) PH.le_refl ?_
 rintro⟨i,w,H0⟩ ⟨hi,hG⟩
 simp only at hi hG ⊢
 have fin:∀ (c:Bool) (w':PV) (F':PF) (H':PH),i<n→(b&&(bKZ (i+1)).all ok)=c→gX H' w' (gU f) (lM f) true (i+1) →
   (((((((PF.nil.set 1 (.bJC f.cells)).set 5 (w')).set 6 (.bIU)).set 7 (.bIU)).set 8 (.bool c)).set 15 (.int .i64 (i+1:Nat))):PF).le F' →
   dV (fun s:Nat × PV × PH=>((((((PF.nil.set 1 (.bJC f.cells)).set 5 (s.2.1)).set 6 (.bIU)).set 7 (.bIU)).set 8 (.bool (b&&(bKZ s.1).all ok))).set 15 (.int .i64 s.1))) (fun s=>s.2.2) (fun s=>s.1≤n∧gX s.2.2 s.2.1 (gU f) (lM f) (b&&(bKZ s.1).all ok) s.1) (fun s=>n-s.1) (n-i) K .normal F' H' :=
  fun c w' F' H' hlt hb hG' hF'=>aE (i+1,w',H') ⟨hlt,hG'.aoL⟩ (by simp only; omega) (by simp only; rw[hb]; exact hF') PH.le_refl
 have bJB:=qO (p:=ok) i b
 have hacc:=fun h=>qN (p:=ok) (b:=b) hi h
 have stop:(b&&(bKZ i).all ok)=(b&&(bKZ n).all ok)→K (.exit 6) (((((PF.nil.set 1 (.bJC f.cells)).set 6 (.bIU)).set 7 (.bIU)).set 8 (.bool (b&&(bKZ i).all ok)))) H0:=fun e=>by
  rw[e]; exact hK H0
 generalize hc:(b&&(bKZ i).all ok)=c at *
 simp only[go_sem,δ,γ,θ,xG,alA,bKY]
 by_cases hlt:i<n
 ·have bJA:((i:Nat):Int)<(f.bIS.length:Nat):=by omega
  cases c with
  | false =>
   simp only[go_sem,γ,bJA]
   exact Up.up Lq (stop (hacc rfl).symm)
  | true =>
   obtain⟨names,g1,g3⟩:=hG.ex
   have hid:i<f.bIS.length:=by omega
   have hat:=kV hid
   have hin:i<(lM f).length:=by omega
   have hnm:(lM f)[i]=(f.bIS[i]).name:=by simp[lM]
   have hoki:ok i=(jF (gU f++(lM f).take i) ((lM f).getD i [])&&aCU f f.bIS[i]):=by
    rw[← hok]
    unfold okL uF
    rw[bLL hid]
   rw[hoki] at bJB
   unfold aCU at bJB
   have winc:IntKind.i64.wrap ((i:Int)+1)=((i+1:Nat):Int):=cY Om
   have e1:=akA (Om:f.bIT.length≤1000)
   have e2:=akA (Om:f.bIW.length≤1000)
   simp only[go_sem,δ,γ,θ,bJA,alB,hat]
   refine aN fun o ho=>?_
   have g4:=g1.new ho (.rows 3 [(f.bIS[i]).cells])
   have g5:=g4.at 0 rfl
   simp only[go_sem,δ,γ]
   generalize H0.set o (.rows 3 [(f.bIS[i]).cells])=H2 at *
   simp only[go_sem,δ,γ,θ,alC,g5]
   refine gX.call L.topH (base:=gU f) (ns:=lM f) g4 Om Om (g3 rfl) hin (by simp only[go_sem,γ,hnm]) fun w' H1 h1 hG1=>?_
   have g6:=h1.at 0 rfl
   generalize jF (gU f++(lM f).take i) ((lM f).getD i [])=fb at *
   generalize hd:f.bIS[i]=dd at *
   cases fb with
   | false =>
    simp only[go_sem,γ,reduceCtorEq,LS,tG,winc]
    exact fin false w' _ _ hlt (bJB.trans rfl) hG1 Lq
   | true =>
    simp only[go_sem,δ,γ,θ,LS,g6,bKY,e1]
    refine aA (L.inn dd.model 0 ((f.bIT.length:Int)-1)) rfl ?_
    cases k0:within dd.model 0 ((f.bIT.length:Int)-1) with
    | false =>
     simp only[go_sem,γ,reduceCtorEq,tG,winc]
     exact fin false w' _ _ hlt (by rw[bJB,k0]<;>simp) hG1 Lq
    | true =>
     simp only[go_sem,δ,γ,θ,g6,bKY,e2]
     refine aA (L.inn dd.machine 0 ((f.bIW.length:Int)-1)) rfl ?_
     cases k1:within dd.machine 0 ((f.bIW.length:Int)-1) with
     | false =>
      simp only[go_sem,γ,reduceCtorEq,tG,winc]
      exact fin false w' _ _ hlt (by rw[bJB,k0,k1]<;>simp) hG1 Lq
     | true =>
      obtain⟨p0,p1⟩:=within_iff.1 k1
      obtain⟨p,hp⟩:∃ p:Nat,dd.machine=p:=⟨dd.machine.toNat,by omega⟩
      have hpd:p<f.bIW.length:=by omega
      obtain⟨lv,hlv⟩:∃ lv,(f.bIW.map cI.level).getD dd.machine.toNat 0=lv:=⟨_,rfl⟩
      have hpl:(f.bIW[p]).level=lv:=by rw[← hlv,hp,bNU,getD_at hpd]
      rw[hlv] at bJB
      have hpat:=eR hpd
      simp only[go_sem,δ,γ,θ,g6,hp,hpat,hpl,tG,winc]
      exact fin _ w' _ _ hlt (by rw[bJB,k0,k1]<;>simp) hG1 Lq
 ·have bJA:¬ ((i:Nat):Int)<(f.bIS.length:Nat):=by omega
  have:i=n:=by omega
  subst this
  simp only[go_sem,γ,reduceCtorEq,bJA]
  exact Up.up Lq (stop hc.symm)
theorem YB {xs:List Int} {k:Nat} (h:k<xs.length):(xs.map fun x=>[PV.int .i64 x])[k]?=some [.int .i64 xs[k]]:=by simp[h]
def zpF (f:aD) (w:PV) (o i:Nat) (c:Bool) (j:Nat):PF:=(((((((PF.nil.set 1 (.bJC f.cells)).set 6 (w)).set 7 (.bIU)).set 8 (.bool c)).set 17 (.int .i64 i)).set 18 (.ptr o 17 0 0)).set 19 (.int .i64 j))
theorem brF {C:Ctx} (f:aD) (w:PV) (o i:Nat) (p:cJ) (hl:p.bIT.length≤9223372036854775807) (j:Nat) (hj:j<p.bIT.length) (b:Bool) (K:bY) [Up K] (F:PF) (H:PH) (ho:H o=some (.rows 17 [p.cells])) (hF:((zpF f w o i b j).set 20 (.int .i64 0)).le F)
  (hK:K (.exit 12) (zpF f w o i (b&&(p.bIT.take j).all fun x=>x != p.bIT[j]) j) H):aB.wp C (.loop LL) K F H:=by
 refine wp_loop (α:=Nat) (fun k=>(zpF f w o i (b&&(p.bIT.take k).all fun x=>x != p.bIT[j]) j).set 20 (.int .i64 k)) (fun _=>H) (fun k=>k≤j) (fun k=>j-k) 0 (bLE _) (by
   have e:(b&&(p.bIT.take 0).all fun x=>x != p.bIT[j])=b:=by cases b<;>rfl
   simp only[e]
   exact hF) PH.le_refl ?_
 intro k hk
 have hs:∀ h:k<p.bIT.length,(b&&(p.bIT.take (k+1)).all fun x=>x != p.bIT[j])=((b&&(p.bIT.take k).all fun x=>x != p.bIT[j])&&(p.bIT[k] != p.bIT[j])):=fun h=>by
  rw[bNC h,List.all_append]
  simp[bNT]
 have fin:∀ (c:Bool) (F':PF),k<j→(b&&(p.bIT.take (k+1)).all fun x=>x != p.bIT[j])=c→((zpF f w o i c j).set 20 (.int .i64 (k+1:Nat))).le F'→dV (fun k:Nat=>(zpF f w o i (b&&(p.bIT.take k).all fun x=>x != p.bIT[j]) j).set 20 (.int .i64 k)) (fun _=>H) (fun k=>k≤j) (fun k=>j-k) (j-k) K .normal F' H :=
  fun c F' hlt e h=>aE (k+1) hlt Om (by rw[e]; exact h) PH.le_refl
 unfold zpF at fin
 simp only[go_sem,γ,LL,alJ,zpF]
 by_cases hlt:k<j
 ·have bJA:(k:Int)<(j:Nat):=by omega
  have hk2:k<p.bIT.length:=by omega
  have hs:=hs hk2
  generalize (b&&(p.bIT.take k).all fun x=>x != p.bIT[j])=c at *
  simp only[go_sem,bJA]
  refine bM .nil dK PH.nil_le ?_
  cases c with
  | false =>
   simp only[go_sem,γ,reduceCtorEq,LZ,MA,ws k]
   exact fin false _ hlt (hs.trans rfl) Lq
  | true =>
   simp only[go_sem,δ,γ,θ,reduceCtorEq,LZ,ho,YB hk2,YB hj,MA,ws k]
   exact fin _ _ hlt (hs.trans rfl) Lq
 ·have bJA:¬ (k:Int)<(j:Nat):=by omega
  have:k=j:=by omega
  subst this
  simp only[go_sem,bJA]
  exact Up.up (by (repeat' (first|exact PF.nil_le|refine PF.aG ?_ ?_))<;>first|(simp only[go_sem,γ,zpF]<;>rfl)|rfl) hK
def ZP (bIT:Nat) (ms:List Int) (j:Nat):Bool:=within (ms.getD j 0) 0 ((bIT:Int)-1)&&(ms.take j).all fun x=>x != ms.getD j 0
theorem bkK {C:Ctx} (L:rC C) (f:aD) (hz2:f.bIT.length≤4) (w:PV) (o i:Nat) (p:cJ) (hl:p.bIT.length≤9223372036854775807) (b:Bool) (K:bY) [Up K] (F:PF) (H:PH) (ho:H o=some (.rows 17 [p.cells])) (hF:(zpF f w o i b 0).le F)
  (hK:K (.exit 10) ((((((PF.nil.set 1 (.bJC f.cells)).set 6 (w)).set 7 (.bIU)).set 8 (.bool (b&&(bKZ p.bIT.length).all (ZP f.bIT.length p.bIT)))).set 17 (.int .i64 i))) H):aB.wp C (.loop xH) K F H:=by
 obtain⟨ok,hok⟩:∃ ok,ZP f.bIT.length p.bIT=ok:=⟨_,rfl⟩
 rw[hok] at hK
 refine wp_loop (α:=Nat) (fun j=>zpF f w o i (b&&(bKZ j).all ok) j) (fun _=>H) (fun j=>j≤p.bIT.length) (fun j=>p.bIT.length-j) 0 (bLE _) (by
   have e:(b&&(bKZ 0).all ok)=b:=by cases b<;>rfl
   simp only[e]
   exact hF) PH.le_refl ?_
 intro j hj
 have bJB:=qO (p:=ok) j b
 have hacc:=fun h=>qN (p:=ok) (b:=b) hj h
 have fin:∀ (c:Bool) (F':PF),j<p.bIT.length→(b&&(bKZ (j+1)).all ok)=c→(zpF f w o i c (j+1)).le F'→dV (fun j:Nat=>zpF f w o i (b&&(bKZ j).all ok) j) (fun _=>H) (fun j=>j≤p.bIT.length) (fun j=>p.bIT.length-j) (p.bIT.length-j) K .normal F' H :=
  fun c F' hlt e h=>aE (j+1) hlt Om (by rw[e]; exact h) PH.le_refl
 unfold zpF at fin
 have stop:(b&&(bKZ j).all ok)=(b&&(bKZ p.bIT.length).all ok)→K (.exit 10) ((((((PF.nil.set 1 (.bJC f.cells)).set 6 (w)).set 7 (.bIU)).set 8 (.bool (b&&(bKZ j).all ok))).set 17 (.int .i64 i))) H:=fun e=>by
  rw[e]; exact hK
 generalize hc:(b&&(bKZ j).all ok)=c at *
 simp only[go_sem,δ,γ,θ,xH,alG,zpF,ho,bKY]
 by_cases hlt:j<p.bIT.length
 ·have bJA:(j:Int)<(p.bIT.length:Nat):=by omega
  cases c with
  | false =>
   simp only[go_sem,γ,bJA]
   exact Up.up Lq (stop (hacc rfl).symm)
  | true =>
   have e1:=akA (Om:f.bIT.length≤1000)
   have hg:p.bIT.getD j 0=p.bIT[j]:=by simp[bLP,hlt]
   have hoj:ok j=(within p.bIT[j] 0 ((f.bIT.length:Int)-1)&&(p.bIT.take j).all fun x=>x != p.bIT[j]):=by
    rw[← hok]
    unfold ZP
    rw[hg]
   rw[hoj] at bJB
   simp only[go_sem,γ,bJA]
   refine bM .nil a7L PH.nil_le ?_
   simp only[go_sem,δ,γ,θ,reduceCtorEq,alH,ho,YB hlt,bKY,e1]
   refine bE rfl (L.inn p.bIT[j] 0 ((f.bIT.length:Int)-1)) Sq PH.nil_le ?_
   simp only[go_sem,γ,alI]
   refine brF f w o i p hl j hlt (within p.bIT[j] 0 ((f.bIT.length:Int)-1)) _ _ _ ho (by (repeat' (first|exact PF.nil_le|refine PF.aG ?_ ?_))<;>first|(simp only[go_sem,γ,zpF]<;>rfl)|rfl) ?_
   simp only[go_sem,γ,zpF,alK,ws j]
   exact fin _ _ hlt (bJB.trans rfl) Lq
 ·have bJA:¬ (j:Int)<(p.bIT.length:Nat):=by omega
  have:j=p.bIT.length:=by omega
  subst this
  simp only[go_sem,γ,reduceCtorEq,bJA]
  exact Up.up Lq (stop hc.symm)
def aLV (bIT:Nat) (p:cJ):Bool:=IS p.k p.m p.bJY p.s0 p.s1 p.s2 p.s3 p.s4&&(NE p.m p.repair p.target p.bJG&&(decide (p.bIT.length>0)&&(bKZ p.bIT.length).all (ZP bIT p.bIT)))
theorem bvG (bIT:Nat) (p:cJ):jI bIT p=aLV bIT p:=by
 unfold jI aLV
 rw[bvC,bxT]
 have h1:decide (p.bIT.length≠0)=decide (p.bIT.length>0):=decide_eq_decide.2 Om
 have h2:(bKZ p.bIT.length).all (fun j=>within (p.bIT.getD j 0) 0 ((bIT:Int)-1)&&!(p.bIT.take j).contains (p.bIT.getD j 0))=(bKZ p.bIT.length).all (ZP bIT p.bIT):=by
  congr 1
  funext j
  unfold ZP
  congr 1
  generalize p.bIT.getD j 0=x
  induction p.bIT.take j with
  | nil=>rfl
  | cons a t ih =>
   rw[List.contains_cons,List.all_cons,← ih,Bool.not_or,bne,BEq.comm]
 rw[h1,h2]
 cases IS p.k p.m p.bJY p.s0 p.s1 p.s2 p.s3 p.s4<;>cases NE p.m p.repair p.target p.bJG<;>cases decide (p.bIT.length>0)<;>simp
structure alS (C:Ctx):Prop extends rC C where
 dur:∀ (m:Int) (rep:List RF),jT rep→∀ t h:RF,t.Ok→h.Ok→aH C 69 [.int .i64 m,frs rep,.agg t.cells,.agg h.cells] .nil (aF (.bool (NE m rep t h)))
def kR (f:aD):List (List UInt8):=f.bIX.map cJ.name
def IX (f:aD) (i:Nat):Bool:=match f.bIX[i]? with
 | some p=>aLV f.bIT.length p
 | none=>false
def afT (f:aD):Bool:=(bKZ f.bIX.length).all (okL [] (kR f) (IX f))
theorem bxC {C:Ctx} (L:alS C) (f:aD) (hf:f.Ok) (hz5:f.bIX.length≤4) (hz2:f.bIT.length≤4) (b:Bool) (K:bY) [Up K] (F:PF) (H:PH)
  (hF:((((((PF.nil.set 1 (.bJC f.cells)).set 6 (.bIU)).set 7 (.bIU)).set 8 (.bool b)).set 17 (.int .i64 0)):PF).le F)
  (hK:∀ H',K (.exit 8) ((((PF.nil.set 1 (.bJC f.cells)).set 7 (.bIU)).set 8 (.bool (b&&afT f)))) H'):aB.wp C (.loop xI) K F H:=by
 obtain⟨ok,hok⟩:∃ ok,okL [] (kR f) (IX f)=ok:=⟨_,rfl⟩
 unfold afT at hK
 rw[hok] at hK
 have hnl:(kR f).length=f.bIX.length:=by simp[kR]
 refine wp_loop (α:=Nat × PV × PH) (fun s=>(((((PF.nil.set 1 (.bJC f.cells)).set 6 (s.2.1)).set 7 (.bIU)).set 8 (.bool (b&&(bKZ s.1).all ok))).set 17 (.int .i64 s.1))) (fun s=>s.2.2) (fun s=>s.1≤f.bIX.length∧gX s.2.2 s.2.1 [] (kR f) (b&&(bKZ s.1).all ok) s.1) (fun s=>f.bIX.length-s.1)
  (0,.bIU,H) ⟨bLE _,⟨[],aQ.nil.oH 1,fun _=>rfl⟩⟩ (by
   have e:(b&&(bKZ 0).all ok)=b:=by cases b<;>rfl
   simp only[e]
   exact hF) PH.le_refl ?_
 rintro⟨i,w,H0⟩ ⟨hi,hG⟩
 simp only at hi hG ⊢
 have fin:∀ (c:Bool) (w':PV) (F':PF) (H':PH),i<f.bIX.length→(b&&(bKZ (i+1)).all ok)=c→gX H' w' [] (kR f) true (i+1) →
   ((((((PF.nil.set 1 (.bJC f.cells)).set 6 (w')).set 7 (.bIU)).set 8 (.bool c)).set 17 (.int .i64 (i+1:Nat))):PF).le F' →
   dV (fun s:Nat × PV × PH=>(((((PF.nil.set 1 (.bJC f.cells)).set 6 (s.2.1)).set 7 (.bIU)).set 8 (.bool (b&&(bKZ s.1).all ok))).set 17 (.int .i64 s.1))) (fun s=>s.2.2) (fun s=>s.1≤f.bIX.length∧gX s.2.2 s.2.1 [] (kR f) (b&&(bKZ s.1).all ok) s.1) (fun s=>f.bIX.length-s.1) (f.bIX.length-i) K .normal F' H' :=
  fun c w' F' H' hlt hb hG' hF'=>aE (i+1,w',H') ⟨hlt,hG'.aoL⟩ (by simp only; omega) (by simp only; rw[hb]; exact hF') PH.le_refl
 have bJB:=qO (p:=ok) i b
 have hacc:=fun h=>qN (p:=ok) (b:=b) hi h
 have stop:(b&&(bKZ i).all ok)=(b&&(bKZ f.bIX.length).all ok)→K (.exit 8) ((((PF.nil.set 1 (.bJC f.cells)).set 7 (.bIU)).set 8 (.bool (b&&(bKZ i).all ok)))) H0:=fun e=>by
  rw[e]; exact hK H0
 generalize hc:(b&&(bKZ i).all ok)=c at *
 simp only[go_sem,δ,γ,θ,xI,alD,bKY]
 by_cases hlt:i<f.bIX.length
 ·have bJA:(i:Int)<(f.bIX.length:Nat):=by omega
  cases c with
  | false =>
   simp only[go_sem,γ,bJA]
   exact Up.up Lq (stop (hacc rfl).symm)
  | true =>
   obtain⟨names,g1,g3⟩:=hG.ex
   have hat:=qH hlt
   have hin:i<(kR f).length:=by omega
   have hnm:(kR f)[i]=(f.bIX[i]).name:=by simp[kR]
   have hoki:ok i=(jF ([]++(kR f).take i) ((kR f).getD i [])&&aLV f.bIT.length f.bIX[i]):=by
    rw[← hok]
    unfold okL IX
    rw[bLL hlt]
   have hpo:=hf.bJI _ (bLF hlt)
   rw[hoki] at bJB
   unfold aLV at bJB
   have winc:IntKind.i64.wrap ((i:Int)+1)=((i+1:Nat):Int):=cY Om
   simp only[go_sem,δ,γ,θ,bJA,alE,hat]
   refine aN fun o ho=>?_
   have g4:=g1.new ho (.rows 17 [(f.bIX[i]).cells])
   have g5:=g4.at 0 rfl
   simp only[go_sem,δ,γ]
   generalize H0.set o (.rows 17 [(f.bIX[i]).cells])=H2 at *
   simp only[go_sem,δ,γ,θ,alF,g5]
   refine gX.call L.topH (ns:=kR f) g4 (bLE _) Om (g3 rfl) hin (by simp only[go_sem,γ,hnm]) fun w' H1 h1 hG1=>?_
   have g6:=h1.at 0 rfl
   generalize jF ([]++(kR f).take i) ((kR f).getD i [])=fb at *
   generalize hd:f.bIX[i]=p at *
   have rest:∀ (c:Bool) (F':PF),(zpF f w' o i c 0).le F'→(c&&(bKZ p.bIT.length).all (ZP f.bIT.length p.bIT))=(b&&(bKZ (i+1)).all ok) →
     aB.wp C (.loop xH) (dP 10 (dP 9 (jC C (aB.wp C (.region MB)) (dV (fun s:Nat × PV × PH=>(((((PF.nil.set 1 (.bJC f.cells)).set 6 (s.2.1)).set 7 (.bIU)).set 8 (.bool (b&&(bKZ s.1).all ok))).set 17 (.int .i64 s.1))) (fun s=>s.2.2) (fun s=>s.1≤f.bIX.length∧gX s.2.2 s.2.1 [] (kR f) (b&&(bKZ s.1).all ok) s.1) (fun s=>f.bIX.length-s.1) (f.bIX.length-i) K)))) F' H1:=by
    intro c F' hF' hcc
    refine bkK L.torC f hz2 w' o i p hpo.bIT c _ _ _ g6 hF' ?_
    rw[hcc]
    simp only[go_sem,γ,MB,winc]
    exact fin _ w' _ _ hlt rfl hG1 Lq
   cases fb with
   | false =>
    simp only[go_sem,γ,reduceCtorEq,LW,tH]
    exact rest false _ (by (repeat' (first|exact PF.nil_le|refine PF.aG ?_ ?_))<;>first|(simp only[go_sem,γ,zpF]<;>rfl)|rfl) (by rw[bJB]; rfl)
   | true =>
    simp only[go_sem,δ,γ,θ,LW,g6]
    refine aA (L.nums p.k p.m p.bJY p.s0 p.s1 p.s2 p.s3 p.s4) Sq ?_
    cases k0:IS p.k p.m p.bJY p.s0 p.s1 p.s2 p.s3 p.s4 with
    | false =>
     simp only[go_sem,γ,reduceCtorEq,tH]
     exact rest false _ (by (repeat' (first|exact PF.nil_le|refine PF.aG ?_ ?_))<;>first|(simp only[go_sem,γ,zpF]<;>rfl)|rfl) (by rw[bJB,k0]; rfl)
    | true =>
     simp only[go_sem,δ,γ,θ,g6]
     refine aA (L.dur p.m p.repair hpo.repair p.target p.bJG hpo.target hpo.bJG) Sq ?_
     cases k1:NE p.m p.repair p.target p.bJG with
     | false =>
      simp only[go_sem,γ,reduceCtorEq,tH]
      exact rest false _ (by (repeat' (first|exact PF.nil_le|refine PF.aG ?_ ?_))<;>first|(simp only[go_sem,γ,zpF]<;>rfl)|rfl) (by rw[bJB,k0,k1]; rfl)
     | true =>
      have hgt:decide (((p.bIT.length:Nat):Int)>0)=decide (p.bIT.length>0):=decide_eq_decide.2 Om
      simp only[go_sem,δ,γ,θ,g6,bKY,hgt,tH]
      exact rest _ _ (by (repeat' (first|exact PF.nil_le|refine PF.aG ?_ ?_))<;>first|(simp only[go_sem,γ,zpF]<;>rfl)|rfl) (by rw[bJB,k0,k1]; rfl)
 ·have bJA:¬ (i:Int)<(f.bIX.length:Nat):=by omega
  have:i=f.bIX.length:=by omega
  subst this
  simp only[go_sem,γ,reduceCtorEq,bJA]
  exact Up.up Lq (stop hc.symm)
def pV (r:cI):Bool:=(r.name==[])&&((r.level==0)&&((r.parent==-1)&&((r.bJU==0)&&(cO (val r.bJM.num) (val r.bJM.den)&&(qM r.bJM==0)))))
def baK (f:aD):Bool:=match f.bIW with
 | []=>false
 | r::_=>pV r
def boP (f:aD):Bool:=within f.bKI 1 4&&(pF f.bJD.length f.bIT.length f.bIW.length f.bIS.length f.bIX.length f.bIV.length&&(decide (0<f.bIW.length)&&((((((HD f&&xT f)&&baK f)&&wE f)&&xM f)&&afT f)&&aBG f)))
theorem aVN (n:Nat) (p q:Nat→Bool):(bKZ n).all (fun i=>p i&&q i)=((bKZ n).all p&&(bKZ n).all q):=by
 induction n with
 | zero=>rfl
 | succ n ih =>
  simp only[List.range_succ,List.all_append,ih,List.all_cons,List.all_nil,bNK]
  cases (bKZ n).all p<;>cases (bKZ n).all q<;>cases p n<;>simp
theorem yB {α:Type} (l:List α) (p:α→Bool):(bKZ l.length).all (fun i=>(l.map p).getD i false)=l.all p:=by
 refine Bool.eq_iff_iff.2 ?_
 rw[bLU,bLU]
 constructor
 ·intro h x hx
  obtain⟨i,hi,rfl⟩:=bMO hx
  have:=h i (bMQ.2 hi)
  simpa [bLP,hi] using this
 ·intro h i hi
  have hi:=bMQ.1 hi
  simp[bLP,hi,h _ (bLF hi)]
theorem FC (ns:List (List UInt8)) (n:Nat) (hn:ns.length=n) (P:Nat→Bool):(bKZ n).all (okL [] ns P)=(distinct ns&&(bKZ n).all P):=by
 subst hn
 have:okL [] ns P=fun i=>(isName (ns.getD i [])&&!(ns.take i).contains (ns.getD i []))&&P i:=by
  funext i
  rfl
 rw[this,aVN]
 rfl
theorem bvD (base ns:List (List UInt8)) (P Q:Nat→Bool):((bKZ base.length).all (okL [] base P)&&(bKZ ns.length).all (okL base ns Q))=(distinct (base++ns)&&((bKZ base.length).all P&&(bKZ ns.length).all Q)):=by
 have e1:okL base ns Q=fun i=>(isName (ns.getD i [])&&!(base++ns.take i).contains (ns.getD i []))&&Q i:=by
  funext i
  rfl
 have e2:distinct (base++ns)=(distinct base&&(bKZ ns.length).all fun i=>isName (ns.getD i [])&&!(base++ns.take i).contains (ns.getD i [])):=by
  unfold distinct
  rw[bLC,List.range_add,List.all_append,List.all_map]
  congr 1
  ·refine Bool.eq_iff_iff.2 ?_
   rw[bLU,bLU]
   refine forall_congr' fun i=>forall_congr' fun hi=>?_
   have hi:=bMQ.1 hi
   have a1:(base++ns).getD i []=base.getD i []:=by
    simp only[bLP]
    rw[bNV hi]
   have a2:(base++ns).take i=base.take i:=by rw[List.take_append_of_le_length Om]
   rw[a1,a2]
  ·refine Bool.eq_iff_iff.2 ?_
   rw[bLU,bLU]
   refine forall_congr' fun i=>forall_congr' fun _=>?_
   have a1:(base++ns).getD (base.length+i) []=ns.getD i []:=by
    simp only[bLP]
    rw[bNX Om]
    congr 2
    omega
   have a2:(base++ns).take (base.length+i)=base++ns.take i:=by rw[List.take_append,bLQ Om]; congr 2; omega
   simp only[Function.comp,a1,a2]
 rw[FC base base.length rfl P,e1,aVN,e2]
 cases distinct base<;>cases (bKZ base.length).all P<;>simp
theorem boR (r:cI):(decide (r.name=[])&&decide (r.level=0)&&decide (r.parent=-1)&&decide (r.bJU=0)&&cM r.bJM&&!bL r.bJM)=pV r:=by
 have h1:decide (r.name=[])=(r.name==[]):=by cases r.name<;>rfl
 have h2:decide (r.level=0)=(r.level==0):=by generalize r.level=x; by_cases h:x=0<;>simp[h]
 have h3:decide (r.parent=-1)=(r.parent==-1):=by generalize r.parent=x; by_cases h:x=-1<;>simp[h]
 have h4:decide (r.bJU=0)=(r.bJU==0):=by generalize r.bJU=x; by_cases h:x=0<;>simp[h]
 have h5:(cM r.bJM&&!bL r.bJM)=(cO (val r.bJM.num) (val r.bJM.den)&&(qM r.bJM==0)):=by
  rw[JI]
  by_cases h:val r.bJM.num=0
  ·have ha:bL r.bJM=false:=by unfold bL; simp[h]
   rw[ha]
   simp only[bLK,bNK]
   cases hv:cO (val r.bJM.num) (val r.bJM.den) with
   | false =>
    unfold cM oI
    rw[hv]
    rfl
   | true =>
    obtain⟨v1,-,-⟩:=fN.1 hv
    unfold cM oI
    rw[hv,if_pos rfl,YE hv,h]
    unfold mL
    have hb:val r.bJM.den/bLA 0 (val r.bJM.den)=1:=by rw[Nat.gcd_zero_left,Nat.div_self (bNG v1)]
    have b0:cG (0/bLA 0 (val r.bJM.den))=0:=by rw[Nat.zero_div]; exact jN
    have b1:cG 1=1:=by rw[oU (by decide),jN]
    simp only[hb,b0,b1]
    simp
  ·have ha:bL r.bJM=true:=by unfold bL; simp[h]
   rw[ha]
   simp
 unfold pV
 rw[h1,h2,h3,h4]
 simp only[bNT] at h5 ⊢
 rw[h5]
theorem blH (f:aD) {r:cI} {t:List cI} (h:f.bIW=r::t):zS f r t=(pV r&&(bKZ t.length).all (wD f)):=by
 unfold zS
 rw[boR]
 congr 2
 funext i
 unfold wD
 rw[h,List.getElem?_cons_succ]
 cases t[i]? with
 | none=>rfl
 | some d=>exact bsD f i d
theorem bdA (f:aD):f.bIS.all (iR f)=(bKZ f.bIS.length).all (uF f):=by
 have:uF f=fun i=>(f.bIS.map (iR f)).getD i false:=by
  funext i
  unfold uF
  rw[bLP,bMH]
  cases f.bIS[i]? with
  | none=>rfl
  | some d =>
   show aCU f d=iR f d
   unfold aCU iR
   have:decide ((f.bIW.map cI.level).getD d.machine.toNat 0=4)=((f.bIW.map cI.level).getD d.machine.toNat 0==4):=by
    generalize (f.bIW.map cI.level).getD d.machine.toNat 0=u
    by_cases h:u=4<;>simp[h]
   rw[this,bNT]
 rw[this,yB]
theorem bgQ (f:aD):f.bIX.all (jI f.bIT.length)=(bKZ f.bIX.length).all (IX f):=by
 have:IX f=fun i=>(f.bIX.map (jI f.bIT.length)).getD i false:=by
  funext i
  unfold IX
  rw[bLP,bMH]
  cases f.bIX[i]? with
  | none=>rfl
  | some d=>exact (bvG _ d).symm
 rw[this,yB]
theorem bvL (f:aD):boP f=cX f:=by
 have hm:amX f.bJD.length=kA f:=by
  funext m
  unfold amX kA
  rw[bNT]
 have hvv:aRP f.bIX.length=nO f:=rfl
 have hs:(within f.bKI 1 4&&pF f.bJD.length f.bIT.length f.bIW.length f.bIS.length f.bIX.length f.bIV.length)=nC f:=by
  unfold nC pF
  simp only[bNT]
 unfold boP cX HD xT afT aBG
 rw[FC _ _ (by rw[bKY]),FC _ _ (by rw[bKY]),FC _ _ (by rw[kR,bKY]),FC _ _ (by rw[bKY]),yB,yB,yB,hm,hvv,bgQ,bdA,← bNT,hs]
 unfold nJ baK
 cases hd:f.bIW with
 | nil=>simp
 | cons r t =>
  have hlen:decide (0<f.bIW.length)=true:=by rw[hd]; simp
  rw[hd] at hlen
  rw[hlen,bLN]
  simp only
  rw[blH f hd]
  have hn:gU f=(f.bIW.drop 1).map cI.name:=rfl
  rw[hd] at hn
  have hl:(gU f).length=t.length:=by rw[hn]; simp
  have two:=bvD (gU f) (lM f) (wD f) (uF f)
  rw[hl,show (lM f).length=f.bIS.length by simp[lM]] at two
  have e1:wE f=(bKZ t.length).all (okL [] (gU f) (wD f)):=by
   unfold wE
   rw[hd]
   rfl
  have e2:xM f=(bKZ f.bIS.length).all (okL (gU f) (lM f) (uF f)):=rfl
  rw[e1,e2,← hn]
  rw[show f.bIS.map dB.name=lM f from rfl,show f.bIX.map cJ.name=kR f from rfl]
  generalize (bKZ t.length).all (okL [] (gU f) (wD f))=a at *
  generalize (bKZ f.bIS.length).all (okL (gU f) (lM f) (uF f))=b at *
  generalize distinct (gU f++lM f)=c at *
  generalize (bKZ t.length).all (wD f)=d at *
  generalize (bKZ f.bIS.length).all (uF f)=e at *
  generalize nC f=s
  generalize pV r=ro
  generalize distinct (f.bJD.map bZ.name)=n1
  generalize f.bJD.all jZ=n2
  generalize distinct (f.bIT.map cL.name)=n3
  generalize f.bIT.all (kA f)=n4
  generalize distinct (kR f)=n5
  generalize (bKZ f.bIX.length).all (IX f)=n6
  generalize distinct (f.bIV.map eN.name)=n7
  generalize f.bIV.all (nO f)=n8
  have:(s&&(((((((n1&&n2)&&(n3&&n4))&&ro)&&a)&&b)&&(n5&&n6))&&(n7&&n8)))=(s&&(ro&&((n1&&n2)&&((n3&&n4)&&((a&&b)&&((n5&&n6)&&(n7&&n8))))))):=by
   cases s<;>cases ro<;>cases n1<;>cases n2<;>cases n3<;>cases n4<;>simp[bNT]
  rw[this,two]
  cases s<;>cases ro<;>cases n1<;>cases n2<;>cases n3<;>cases n4<;>cases c<;>cases d<;>cases e<;>simp
  cases n5<;>cases n6<;>cases n7<;>cases n8<;>rfl
theorem boQ (f:aD) (h:0<f.bIW.length):baK f=pV f.bIW[0]:=by
 obtain⟨a,b,c,d,e,g,i⟩:=f
 cases d with
 | nil=>simp at h
 | cons r t=>rfl
theorem bkR {C:Ctx} (L:alS C) (f:aD) (hf:f.Ok):EN.wp C (aS akR.res (aF (.bool (cX f)))) (PF.args [.agg f.cells]) .nil:=by
 have hX:=bvL f
 unfold boP at hX
 have fail:∀ (F:PF) (H:PH),cX f=false→F 2=some (.bool false)→aS [.tmp 2] (aF (.bool (cX f))) .ret F H:=fun F H e h=>by
  rw[e]
  exact aV (vs:=[.bool false]) (.inr rfl) .nil (by simp only[go_sem,h]) PH.nil_le ⟨rfl,rfl⟩
 simp only[go_sem,δ,γ,θ,EN,azB,azC,akR]
 refine aA (L.inn f.bKI 1 4) rfl ?_
 cases k0:within f.bKI 1 4 with
 | false =>
  rw[k0,bLI] at hX
  simp only[go_sem,γ,bLK,BG]
  exact fail _ _ hX.symm rfl
 | true =>
 rw[k0,bLN] at hX
 simp only[go_sem,δ,γ,θ,bLB,bKY]
 refine aA (L.sizes f.bJD.length f.bIT.length f.bIW.length f.bIS.length f.bIX.length f.bIV.length) rfl ?_
 cases k1:pF f.bJD.length f.bIT.length f.bIW.length f.bIS.length f.bIX.length f.bIV.length with
 | false =>
  rw[k1,bLI] at hX
  simp only[go_sem,γ,reduceCtorEq,bLK,BG]
  exact fail _ _ hX.symm rfl
 | true =>
 rw[k1,bLN] at hX
 obtain⟨hz1,hz2,hz3,hz4,hz5,hz6⟩:=PY k1
 by_cases h0:f.bIW.length=0
 ·rw[decide_eq_false Om,bLI] at hX
  simp only[go_sem,δ,γ,θ,reduceCtorEq,bLB,bKY,bN (Om:((f.bIW.length:Nat):Int)=0),BG]
  exact fail _ _ hX.symm rfl
 have h00:0<f.bIW.length:=by omega
 rw[decide_eq_true h00,bLN] at hX
 simp only[go_sem,δ,γ,θ,reduceCtorEq,bLB,bKY,bC (Om:((f.bIW.length:Nat):Int)≠0),azD,azE,azF]
 refine bxB L.torC f hf hz1 _ _ _ Lq fun H1=>?_
 simp only[go_sem,akS]
 refine bkQ L.torC f hf k1 (HD f) _ _ _ Lq fun H2=>?_
 have hd0:=eR h00
 have hsh:=(hf.dom _ (bLF h00)).1
 have hrp:=boQ f h00
 rw[hrp] at hX
 generalize f.bIW[0]=r at *
 have rest:∀ (c:Bool) (F:PF) (H:PH),((((((PF.nil.set 1 (.bJC f.cells)).set 5 (.bIU)).set 6 (.bIU)).set 7 (.bIU)).set 8 (.bool c)):PF).le F→c=((HD f&&xT f)&&pV r) →
   aB.wp C (.seq (.seq (.region LO) (.block 4 (.loop xF))) (.seq (.seq (.region LQ) (.block 6 (.loop xG))) (.seq (.seq (.region LT) (.block 8 (.loop xI))) (.seq (.seq (.region MC) (.block 14 (.loop xJ))) (.seq (.region MF) .ret))))) (aS [.tmp 2] (aF (.bool (cX f)))) F H:=by
  intro c F H hF hc
  refine tE _ (fun _ _ _ _ a b=>Up.up a b) hF ?_
  simp only[go_sem,LO]
  refine bxA L.torC f hf hz3 h00 c _ _ _ Lq fun w H3 hG=>?_
  simp only[go_sem,LQ]
  refine bkP L.torC f hf hz3 h00 hz4 hz2 (c&&wE f) w _ _ _ hG Lq fun H4=>?_
  simp only[go_sem,LT]
  refine bxC L f hf hz5 hz2 ((c&&wE f)&&xM f) _ _ _ Lq fun H5=>?_
  simp only[go_sem,MC]
  refine bxD L.torC f hf k1 (((c&&wE f)&&xM f)&&afT f) _ _ _ Lq fun H6=>?_
  simp only[go_sem,γ,MF]
  refine aV (vs:=[.bool (cX f)]) (.inr rfl) .nil ?_ PH.nil_le ⟨rfl,rfl⟩
  rw[← hX,hc]
  simp only[go_sem,γ]
 simp only[aB.wp,go_sem] at rest
 simp only[go_sem,ν,δ,γ,θ,akW,hd0]
 refine aN fun o ho=>?_
 have g0:(H2.set o (.rows 7 [r.cells])) o=some (.rows 7 [r.cells]):=iV ..
 simp only[go_sem,δ,γ]
 generalize H2.set o (.rows 7 [r.cells])=H3 at *
 cases k2:(HD f&&xT f) with
 | false =>
  simp only[go_sem,ο,γ,reduceCtorEq,LN]
  exact rest false _ _ Lq (by rw[k2]; rfl)
 | true =>
  simp only[go_sem,ο,δ,γ,θ,LN,g0]
  cases k3:r.name==[] with
  | false =>
   simp only[go_sem,ο,γ,reduceCtorEq]
   exact rest false _ _ Lq (by rw[k2]; unfold pV; rw[k3]; rfl)
  | true =>
   simp only[go_sem,ο,δ,γ,θ,g0]
   cases k4:r.level==0 with
   | false =>
    simp only[go_sem,ο,γ,reduceCtorEq]
    exact rest false _ _ Lq (by rw[k2]; unfold pV; rw[k3,k4]; rfl)
   | true =>
    simp only[go_sem,ο,δ,γ,θ,g0]
    cases k5:r.parent==-1 with
    | false =>
     simp only[go_sem,γ,reduceCtorEq]
     exact rest false _ _ Lq (by rw[k2]; unfold pV; rw[k3,k4,k5]; rfl)
    | true =>
     simp only[go_sem,δ,γ,θ,g0]
     cases k6:r.bJU==0 with
     | false =>
      simp only[go_sem,γ,reduceCtorEq]
      exact rest false _ _ Lq (by rw[k2]; unfold pV; rw[k3,k4,k5,k6]; rfl)
     | true =>
      simp only[go_sem,δ,γ,g0]
      refine aA (L.valid _ hsh) rfl ?_
      cases k7:cO (val r.bJM.num) (val r.bJM.den) with
      | false =>
       simp only[go_sem,γ,reduceCtorEq]
       exact rest false _ _ Lq (by rw[k2]; unfold pV; rw[k3,k4,k5,k6,k7]; rfl)
      | true =>
       simp only[go_sem,δ,γ,g0]
       refine aA (L.sign _ hsh k7) rfl ?_
       simp only[go_sem,γ]
       exact rest _ _ _ Lq (by rw[k2]; unfold pV; rw[k3,k4,k5,k6,k7]; rfl)
def aMW:Rg:=[iA 2 (.box true (Tm 0)),iZ 4]
def aMX:Rg:=[iO 8 7 2,iK 9 67 8,iA 10 (.un .not (Tm 9))]
def aMY:Rg:=[iZ 4]
def aMZ:Rg:=[iZ 5]
def aNA:Rg:=[iI 6 0]
def aNB:Rg:=[iM 11 6,iF 12 4 2,iL 13 12,iN 14 13,iB 15 .lss 11 14]
def aNC:Rd:=[(iF 18 2 2,false),(iL 19 18,false),(iF 20 4 2,false),(iL 21 20,false),(iM 22 6,false),(iX 23 3 21 22,false),(iF 24 1 23,false),(iL 25 24,false),(iX 26 4 19 25,false),(iF 27 1 26,false),(iL 28 27,false),(iM 7 28,false)]
def ZW:Rg:=[iM 29 1,iN 30 29,iF 31 4 2,iL 32 31,iN 33 32,iB 34 .eql 30 33]
def aND:Rg:=[iM 35 1,iM 36 6,iX 37 1 35 36,iL 38 37,iM 39 7,iA 40 (.bJV false (Tm 38) (Tm 39)),iA 41 (.bJV true (Ci 0) (Tm 40)),iM 7 41]
def ZX:Rg:=[iM 42 5,iM 43 7,iA 44 (.bIZ true 1 1 [(.int .i64 0)] [(0,(Tm 43))]),iA 45 (.append 1 8 (Tm 42) (Tm 44)),iM 5 45]
def QB:Rg:=[iM 16 6,iC 17 .add 16 1,iM 6 17]
def atV:aB:=(.seq (sq aNB (.cond (Tm 15) .skip (.exit 0))) (.seq (.block 1 (dq aNC (.seq (sq ZW (.cond (Tm 34) (.region aND) .skip)) (.region ZX)))) (.region QB)))
def QC:Rg:=[iM 46 5,iM 4 46]
def JK:aB:=(sq aMW (.seq (sq aMX (.cond (Tm 10) (sq aMY .ret) .skip)) (sq aMZ (.seq (sq aNA (.block 0 (.loop atV))) (sq QC .ret)))))
def bpE:List Nat:=[2,44]
def aAQ:aT:=⟨2,47,JK,[.tmp 4]⟩
def asO:Rg:=[iA 3 (.box true (Tm 0)),iI 6 0]
def asP:Rg:=[iF 8 4 3,iL 9 8,iM 10 1,iX 11 3 9 10,iF 12 2 11,iL 13 12,iM 7 13]
def asQ:Rg:=[iF 14 3 3,iL 15 14,iM 16 7,iX 17 7 15 16,iF 18 1 17,iL 19 18,iM 20 2,iB 21 .gtr 19 20]
def asR:Rg:=[iF 22 3 3,iL 23 22,iM 24 7,iX 25 7 23 24,iF 26 2 25,iL 27 26,iM 7 27]
def asN:aB:=(.seq (sq asQ (.cond (Tm 21) .skip (.exit 0))) (.block 1 (.region asR)))
def asS:Rg:=[iM 28 7,iM 6 28]
def CW:aB:=(sq asO (sq asP (.seq (.block 0 (.loop asN)) (sq asS .ret))))
def bhG:List Nat:=[3]
def afY:aT:=⟨3,29,CW,[.tmp 6]⟩
def bhH:Rg:=[iA 3 (.box true (Tm 0)),iI 6 0]
def bhI:Rg:=[iO 7 7 3,iK 8 67 7,iA 9 (.un .not (Tm 8)),iM 10 9,gM 11 1 10 false,gC 12 .lss 11 0 10 false,iQ 13 10 12,iM 14 13,gM 15 1 14 false,gF 16 4 3 14 false,gL 17 16 14 false,gN 18 17 14 false,gB 19 .geq 15 18 14 false,iQ 20 14 19,iM 21 20,gM 22 2 21 false,gC 23 .lss 22 0 21 false,iQ 24 21 23,iM 25 24,gM 26 2 25 false,gC 27 .gtr 26 4 25 false,iQ 28 25 27]
def FI:Rg:=[iI 6 (-1)]
def bhJ:Rg:=[iO 29 7 3,iM 30 1,iM 31 2,iA 32 (.call 88 [(Tm 29),(Tm 30),(Tm 31)]),iM 6 32]
def ZU:aB:=(sq bhH (.seq (sq bhI (.cond (Tm 28) (sq FI .ret) .skip)) (sq bhJ .ret)))
def byX:List Nat:=[3]
def sat:aT:=⟨3,33,ZU,[.tmp 6]⟩
def agD:Rg:=[iA 2 (.box true (Tm 0)),iZ 4]
def agE:Rg:=[iZ 5]
def agF:Rg:=[iO 7 7 2,iK 8 67 7,iA 9 (.un .not (Tm 8)),iM 10 9,gM 11 1 10 false,gC 12 .lss 11 0 10 false,iQ 13 10 12,iM 14 13,gM 15 1 14 false,gF 16 3 2 14 false,gL 17 16 14 false,gN 18 17 14 false,gB 19 .geq 15 18 14 false,iQ 20 14 19]
def wT:Rg:=[iZ 4]
def agG:Rg:=[iI 6 0]
def agH:Rg:=[iM 21 6,iF 22 4 2,iL 23 22,iN 24 23,iB 25 .lss 21 24]
def agI:Rd:=[(iO 28 7 2,false),(iM 29 6,false),(iF 30 3 2,false),(iL 31 30,false),(iM 32 1,false),(iX 33 7 31 32,false),(iF 34 1 33,false),(iL 35 34,false),(iA 36 (.call 88 [(Tm 28),(Tm 29),(Tm 35)]),true),(iM 37 1,true),(iB 38 .eql 36 37,false)]
def agJ:Rg:=[iM 39 5,iM 40 6,iA 41 (.bIZ true 1 1 [(.int .i64 0)] [(0,(Tm 40))]),iA 42 (.append 1 8 (Tm 39) (Tm 41)),iM 5 42]
def JE:Rg:=[iM 26 6,iC 27 .add 26 1,iM 6 27]
def agC:aB:=(.seq (sq agH (.cond (Tm 25) .skip (.exit 0))) (.seq (.block 1 (dq agI (.cond (Tm 38) (.region agJ) .skip))) (.region JE)))
def VT:Rg:=[iM 43 5,iM 4 43]
def yZ:aB:=(sq agD (sq agE (.seq (sq agF (.cond (Tm 20) (sq wT .ret) .skip)) (.seq (sq agG (.block 0 (.loop agC))) (sq VT .ret)))))
def baR:List Nat:=[2,41]
def TC:aT:=⟨2,44,yZ,[.tmp 4]⟩
def asU:Rg:=[iA 2 (.box true (Tm 0)),iZ 4]
def asV:Rg:=[iZ 5]
def asW:Rg:=[iO 7 7 2,iK 8 67 7,iA 9 (.un .not (Tm 8)),iM 10 9,gM 11 1 10 false,gC 12 .lss 11 0 10 false,iQ 13 10 12]
def PR:Rg:=[iZ 4]
def asX:Rg:=[iI 6 1]
def asY:Rg:=[iM 14 6,iF 15 3 2,iL 16 15,iN 17 16,iB 18 .lss 14 17]
def PS:Rg:=[iF 21 3 2,iL 22 21,iM 23 6,iX 24 7 22 23,iF 25 2 24,iL 26 25,iM 27 1,iB 28 .eql 26 27]
def asZ:Rg:=[iM 29 5,iM 30 6,iA 31 (.bIZ true 1 1 [(.int .i64 0)] [(0,(Tm 30))]),iA 32 (.append 1 8 (Tm 29) (Tm 31)),iM 5 32]
def PT:Rg:=[iM 19 6,iC 20 .add 19 1,iM 6 20]
def asT:aB:=(.seq (sq asY (.cond (Tm 18) .skip (.exit 0))) (.seq (.block 1 (sq PS (.cond (Tm 28) (.region asZ) .skip))) (.region PT)))
def agA:Rg:=[iM 33 5,iM 4 33]
def CY:aB:=(sq asU (sq asV (.seq (sq asW (.cond (Tm 13) (sq PR .ret) .skip)) (.seq (sq asX (.block 0 (.loop asT))) (sq agA .ret)))))
def bhL:List Nat:=[2,31]
def afZ:aT:=⟨2,34,CY,[.tmp 4]⟩
def atK:Rg:=[iA 2 (.box true (Tm 0)),iZ 4]
def atL:Rg:=[iO 8 7 2,iK 9 67 8,iA 10 (.un .not (Tm 9))]
def atM:Rg:=[iZ 4]
def atN:Rg:=[iF 11 4 2,iL 12 11,iN 13 12,iA 14 (.bJE 1 8 [(.int .i64 0)] (Tm 13) (Tm 13)),iM 5 14]
def atO:Rg:=[iI 6 0]
def atQ:Rg:=[iM 15 6,iM 16 1,iN 17 16,iB 18 .lss 15 17]
def atR:Rg:=[iI 7 0]
def atS:Rg:=[iM 21 7,iM 22 1,iM 23 6,iX 24 1 22 23,iL 25 24,iN 26 25,iB 27 .lss 21 26]
def AL:Rg:=[iM 30 1,iM 31 6,iX 32 1 30 31,iL 33 32,iM 34 7,iX 35 1 33 34,iL 36 35,iC 37 .geq 36 0,iM 38 37,gM 39 1 38 true,gM 40 6 38 true,iG 41 (.bJP 1 (Tm 39) (Tm 40)) 38 true,gL 42 41 38 true,gM 43 7 38 true,iG 44 (.bJP 1 (Tm 42) (Tm 43)) 38 true,gL 45 44 38 true,gM 46 5 38 true,gN 47 46 38 true,gB 48 .lss 45 47 38 true,iP 49 38 48]
def atT:Rg:=[iM 50 5,iM 51 1,iM 52 6,iX 53 1 51 52,iL 54 53,iM 55 7,iX 56 1 54 55,iL 57 56,iX 58 1 50 57,iL 59 58,iC 60 .add 59 1,iX 61 1 50 57,iS 1 61 60]
def wV:Rg:=[iM 28 7,iC 29 .add 28 1,iM 7 29]
def JJ:aB:=(.seq (sq atS (.cond (Tm 27) .skip (.exit 2))) (.seq (.block 3 (sq AL (.cond (Tm 49) (.region atT) .skip))) (.region wV)))
def agO:Rg:=[iM 19 6,iC 20 .add 19 1,iM 6 20]
def agN:aB:=(.seq (sq atQ (.cond (Tm 18) .skip (.exit 0))) (.seq (.block 1 (sq atR (.block 2 (.loop JJ)))) (.region agO)))
def agP:Rg:=[iM 62 5,iM 4 62]
def DC:aB:=(sq atK (.seq (sq atL (.cond (Tm 10) (sq atM .ret) .skip)) (sq atN (.seq (sq atO (.block 0 (.loop agN))) (sq agP .ret)))))
def bhY:List Nat:=[2]
def agM:aT:=⟨2,63,DC,[.tmp 4]⟩
def a1L:Rg:=[iA 2 (.box true (Tm 0)),iI 4 0]
def a1M:Rg:=[iI 5 0]
def a1N:Rg:=[iM 6 5,iM 7 1,iN 8 7,iB 9 .lss 6 8]
def TB:Rd:=[(iM 12 1,false),(iM 13 5,false),(iX 14 1 12 13,false),(iL 15 14,false),(iC 16 .lss 15 (-1),false),(iM 17 16,false),(gM 18 1 17 false,false),(gM 19 5 17 false,false),(iG 20 (.bJP 1 (Tm 18) (Tm 19)) 17 false,false),(gL 21 20 17 false,false),(gF 22 4 2 17 false,false),(gL 23 22 17 false,false),(gN 24 23 17 false,false),(gB 25 .geq 21 24 17 false,false),(iQ 26 17 25,false)]
def anX:Rg:=[iM 27 5,iM 4 27]
def a1O:Rg:=[iM 10 5,iC 11 .add 10 1,iM 5 11]
def a1K:aB:=(.seq (sq a1N (.cond (Tm 9) .skip (.exit 0))) (.seq (.block 1 (dq TB (.cond (Tm 26) (sq anX .ret) .skip))) (.region a1O)))
def a1P:Rg:=[iI 4 (-1)]
def PQ:aB:=(sq a1L (.seq (sq a1M (.block 0 (.loop a1K))) (sq a1P .ret)))
def bvO:List Nat:=[2]
def baP:aT:=⟨2,28,PQ,[.tmp 4]⟩
def agR:Rg:=[iA 2 (.box true (Tm 0)),iT 4 false]
def agT:Rg:=[iO 6 7 2,iK 7 67 6,iA 8 (.un .not (Tm 7)),iM 9 8,gM 10 1 9 false,gN 11 10 9 false,gF 12 6 2 9 false,gL 13 12 9 false,gN 14 13 9 false,gB 15 .neq 11 14 9 false,iQ 16 9 15]
def JN:Rg:=[iT 4 false]
def agU:Rg:=[iI 5 0]
def agV:Rg:=[iM 17 5,iM 18 1,iN 19 18,iB 20 .lss 17 19]
def agW:Rd:=[(iM 23 1,true),(iM 24 5,true),(iX 25 1 23 24,true),(iL 26 25,true),(iN 27 26,true),(iO 28 7 2,false),(iM 29 5,false),(iK2 30 82 28 29,true),(iB 31 .neq 27 30,false),(iM 32 31,false),(gO 33 7 2 32 false,false),(gM 34 1 32 false,false),(gM 35 5 32 false,false),(iG 36 (.bJP 1 (Tm 34) (Tm 35)) 32 false,false),(gL 37 36 32 false,false),(gK2 38 89 33 37 32 false,true),(gC 39 .geq 38 0 32 false,false),(iQ 40 32 39,false)]
def JO:Rg:=[iT 4 false]
def agX:Rg:=[iM 21 5,iC 22 .add 21 1,iM 5 22]
def agQ:aB:=(.seq (sq agV (.cond (Tm 20) .skip (.exit 0))) (.seq (.block 1 (dq agW (.cond (Tm 40) (sq JO .ret) .skip))) (.region agX)))
def agY:Rg:=[iT 4 true]
def zC:aB:=(sq agR (.seq (sq agT (.cond (Tm 16) (sq JN .ret) .skip)) (.seq (sq agU (.block 0 (.loop agQ))) (sq agY .ret))))
def baY:List Nat:=[2]
def TE:aT:=⟨2,41,zC,[.tmp 4]⟩
def VM:Rg:=[iA 3 (.box true (Tm 0)),iA 4 (.box true (Tm 1)),iT 6 false]
def VN:Rg:=[iI 7 0]
def VO:Rg:=[iM 8 7,iF 9 9 3,iL 10 9,iN 11 10,iB 12 .lss 8 11]
def CX:Rd:=[(iF 15 9 3,false),(iL 16 15,false),(iM 17 7,false),(iX 18 1 16 17,false),(iL 19 18,false),(iF 20 4 4,false),(iL 21 20,false),(iM 22 2,false),(iX 23 3 21 22,false),(iF 24 1 23,false),(iL 25 24,false),(iB 26 .eql 19 25,false)]
def VP:Rg:=[iT 6 true]
def VQ:Rg:=[iM 13 7,iC 14 .add 13 1,iM 7 14]
def VL:aB:=(.seq (sq VO (.cond (Tm 12) .skip (.exit 0))) (.seq (.block 1 (dq CX (.cond (Tm 26) (sq VP .ret) .skip))) (.region VQ)))
def VR:Rg:=[iT 6 false]
def wA:aB:=(sq VM (.seq (sq VN (.block 0 (.loop VL))) (sq VR .ret)))
def aUZ:List Nat:=[3,4]
def JD:aT:=⟨3,27,wA,[.tmp 6]⟩
def atB:Rg:=[iA 3 (.box true (Tm 0)),iI 6 0]
def atC:Rg:=[iI 7 0]
def atD:Rg:=[iI 8 0]
def atE:Rg:=[iM 9 8,iM 10 1,iN 11 10,iB 12 .lss 9 11]
def PU:Rd:=[(iM 15 1,false),(iM 16 8,false),(iX 17 1 15 16,false),(iL 18 17,false),(iC 19 .geq 18 0,false),(iM 20 19,false),(gO 21 7 3 20 true,false),(gM 22 1 20 true,false),(gM 23 8 20 true,false),(iG 24 (.bJP 1 (Tm 22) (Tm 23)) 20 true,false),(gL 25 24 20 true,false),(gF 26 3 3 20 true,false),(gL 27 26 20 true,false),(gM 28 2 20 true,false),(iG 29 (.bJP 7 (Tm 27) (Tm 28)) 20 true,false),(gF 30 1 29 20 true,false),(gL 31 30 20 true,false),(iG 32 (.call 88 [(Tm 21),(Tm 25),(Tm 31)]) 20 true,true),(gM 33 2 20 true,true),(gB 34 .eql 32 33 20 true,false),(iP 35 20 34,false)]
def atF:Rg:=[iM 36 7,iC 37 .add 36 1,iM 7 37]
def AI:Rg:=[iM 13 8,iC 14 .add 13 1,iM 8 14]
def atA:aB:=(.seq (sq atE (.cond (Tm 12) .skip (.exit 0))) (.seq (.block 1 (dq PU (.cond (Tm 35) (.region atF) .skip))) (.region AI)))
def PW:Rg:=[iM 38 7,iM 6 38]
def CZ:aB:=(sq atB (sq atC (.seq (sq atD (.block 0 (.loop atA))) (sq PW .ret))))
def bhN:List Nat:=[3]
def agB:aT:=⟨3,39,CZ,[.tmp 6]⟩
def a1R:Rg:=[iA 3 (.box true (Tm 0)),iZ 6]
def a1S:Rg:=[iM 17 2,iN 18 17,iO 19 7 3,iM 20 1,iK2 21 82 19 20,iB 22 .neq 18 21]
def a1T:Rg:=[iM 23 1,iM 24 2,iN 25 24,iA 26 (.build [(.int .i64 0),(.int .i64 0),(.int .i64 0)] [(0,1,(Ci 1)),(1,1,(Tm 23)),(2,1,(Tm 25))]),iA 27 (.bIZ true 3 1 [(.int .i64 0),(.int .i64 0),(.int .i64 0)] [(0,(Tm 26))]),iM 6 27]
def a1U:Rg:=[iO 28 7 3,iM 29 2,iK2 30 89 28 29,iM 7 30]
def aoB:Rg:=[iM 31 7,iC 32 .geq 31 0]
def a1V:Rg:=[iM 33 1,iM 34 7,iA 35 (.build [(.int .i64 0),(.int .i64 0),(.int .i64 0)] [(0,1,(Ci 1)),(1,1,(Tm 33)),(2,1,(Tm 34))]),iA 36 (.bIZ true 3 1 [(.int .i64 0),(.int .i64 0),(.int .i64 0)] [(0,(Tm 35))]),iM 6 36]
def a1W:Rg:=[iZ 8]
def a1X:Rg:=[iI 9 0]
def a1Y:Rg:=[iM 37 9,iM 38 2,iN 39 38,iB 40 .lss 37 39]
def aoC:Rg:=[iM 43 2,iM 44 9,iX 45 1 43 44,iL 46 45,iC 47 .eql 46 (-1)]
def aNE:Rg:=[iM 48 8,iM 49 1,iM 50 9,iA 51 (.build [(.int .i64 0),(.int .i64 0),(.int .i64 0)] [(0,1,(Ci 2)),(1,1,(Tm 49)),(2,1,(Tm 50))]),iA 52 (.bIZ true 3 1 [(.int .i64 0),(.int .i64 0),(.int .i64 0)] [(0,(Tm 51))]),iA 53 (.append 3 24 (Tm 48) (Tm 52)),iM 8 53]
def aaD:Rg:=[iM 41 9,iC 42 .add 41 1,iM 9 42]
def ZY:aB:=(.seq (sq a1Y (.cond (Tm 40) .skip (.exit 0))) (.seq (.block 1 (sq aoC (.cond (Tm 47) (.region aNE) .skip))) (.region aaD)))
def aNF:Rg:=[iI 10 0]
def aNG:Rg:=[iM 54 10,iF 55 4 3,iL 56 55,iN 57 56,iB 58 .lss 54 57]
def aNH:Rg:=[iI 11 0]
def aNI:Rg:=[iI 12 0]
def aNJ:Rg:=[iM 61 12,iM 62 2,iN 63 62,iB 64 .lss 61 63]
def aaE:Rg:=[iM 67 2,iM 68 12,iX 69 1 67 68,iL 70 69,iM 71 10,iB 72 .eql 70 71]
def aNK:Rg:=[iM 73 11,iC 74 .add 73 1,iM 11 74]
def aaF:Rg:=[iM 65 12,iC 66 .add 65 1,iM 12 66]
def ZZ:aB:=(.seq (sq aNJ (.cond (Tm 64) .skip (.exit 4))) (.seq (.block 5 (sq aaE (.cond (Tm 72) (.region aNK) .skip))) (.region aaF)))
def aaG:Rg:=[iM 75 11,iC 76 .gtr 75 1]
def aNL:Rg:=[iM 77 8,iM 78 1,iM 79 10,iA 80 (.build [(.int .i64 0),(.int .i64 0),(.int .i64 0)] [(0,1,(Ci 3)),(1,1,(Tm 78)),(2,1,(Tm 79))]),iA 81 (.bIZ true 3 1 [(.int .i64 0),(.int .i64 0),(.int .i64 0)] [(0,(Tm 80))]),iA 82 (.append 3 24 (Tm 77) (Tm 81)),iM 8 82]
def aaH:Rg:=[iM 59 10,iC 60 .add 59 1,iM 10 60]
def aaA:aB:=(.seq (sq aNG (.cond (Tm 58) .skip (.exit 2))) (.seq (.block 3 (sq aNH (.seq (sq aNI (.block 4 (.loop ZZ))) (sq aaG (.cond (Tm 76) (.region aNL) .skip))))) (.region aaH)))
def aNM:Rd:=[(iF 83 5 3,false),(iL 84 83,false),(iF 85 6 3,false),(iL 86 85,false),(iM 87 1,false),(iX 88 2 86 87,false),(iF 89 1 88,false),(iL 90 89,false),(iX 91 17 84 90,false),(iO 92 17 91,false),(iA 13 (.alloc [(.str []),(.int .i64 0),(.int .i64 0),(.int .i64 0),(.int .i64 0),(.int .i64 0),(.int .i64 0),(.int .i64 0),(.int .i64 0),.bIU,.bIU,(.bool false),.bIU,.bIU,(.bool false),.bIU,.bIU]),true),(iS 17 13 92,true)]
def aNN:Rg:=[iI 14 0]
def aNO:Rg:=[iM 93 14,iM 94 2,iN 95 94,iB 96 .lss 93 95]
def aaI:Rd:=[(iM 99 2,false),(iM 100 14,false),(iX 101 1 99 100,false),(iL 102 101,false),(iC 103 .geq 102 0,false),(iM 104 103,false),(gO 105 17 13 104 true,false),(gO 106 7 3 104 true,false),(gM 107 2 104 true,false),(gM 108 14 104 true,false),(iG 109 (.bJP 1 (Tm 107) (Tm 108)) 104 true,false),(gL 110 109 104 true,false),(iG 111 (.call 77 [(Tm 105),(Tm 106),(Tm 110)]) 104 true,true),(iG 112 (.un .not (Tm 111)) 104 true,false),(iP 113 104 112,false)]
def aNP:Rg:=[iM 114 8,iM 115 1,iM 116 14,iA 117 (.build [(.int .i64 0),(.int .i64 0),(.int .i64 0)] [(0,1,(Ci 4)),(1,1,(Tm 115)),(2,1,(Tm 116))]),iA 118 (.bIZ true 3 1 [(.int .i64 0),(.int .i64 0),(.int .i64 0)] [(0,(Tm 117))]),iA 119 (.append 3 24 (Tm 114) (Tm 118)),iM 8 119]
def JL:Rg:=[iM 97 14,iC 98 .add 97 1,iM 14 98]
def aaB:aB:=(.seq (sq aNO (.cond (Tm 96) .skip (.exit 6))) (.seq (.block 7 (dq aaI (.cond (Tm 113) (.region aNP) .skip))) (.region JL)))
def aNQ:Rg:=[iI 15 1]
def aNR:Rg:=[iM 120 15,iF 121 3 3,iL 122 121,iN 123 122,iB 124 .lss 120 123]
def aNS:Rg:=[iF 127 3 3,iL 128 127,iM 129 15,iX 130 7 128 129,iF 131 1 130,iL 132 131,iF 133 4 13,iA 134 (.idxA 5 1 (Tm 133) (Tm 132)),iL 135 134,iM 16 135]
def JM:Rg:=[iM 136 16,iC 137 .gtr 136 0,iM 138 137,gO 139 7 3 138 true,gM 140 2 138 true,gM 141 15 138 true,iG 142 (.call 80 [(Tm 139),(Tm 140),(Tm 141)]) 138 true,gM 143 16 138 true,gB 144 .gtr 142 143 138 true,iP 145 138 144]
def aaJ:Rg:=[iM 146 8,iM 147 1,iM 148 15,iA 149 (.build [(.int .i64 0),(.int .i64 0),(.int .i64 0)] [(0,1,(Ci 5)),(1,1,(Tm 147)),(2,1,(Tm 148))]),iA 150 (.bIZ true 3 1 [(.int .i64 0),(.int .i64 0),(.int .i64 0)] [(0,(Tm 149))]),iA 151 (.append 3 24 (Tm 146) (Tm 150)),iM 8 151]
def zB:Rg:=[iM 125 15,iC 126 .add 125 1,iM 15 126]
def aaC:aB:=(.seq (sq aNR (.cond (Tm 124) .skip (.exit 8))) (.seq (.block 9 (sq aNS (sq JM (.cond (Tm 145) (.region aaJ) .skip)))) (.region zB)))
def aNT:Rg:=[iM 152 8,iM 6 152]
def QD:aB:=(sq a1R (.seq (sq a1S (.cond (Tm 22) (sq a1T .ret) .skip)) (.seq (sq a1U (sq aoB (.cond (Tm 32) (sq a1V .ret) .skip))) (sq a1W (.seq (sq a1X (.block 0 (.loop ZY))) (.seq (sq aNF (.block 2 (.loop aaA))) (dq aNM (.seq (sq aNN (.block 6 (.loop aaB))) (.seq (sq aNQ (.block 8 (.loop aaC))) (sq aNT .ret))))))))))
def bvW:List Nat:=[3,27,36,52,81,118,150]
def baW:aT:=⟨3,153,QD,[.tmp 6]⟩
def aNW:Rg:=[iA 3 (.box true (Tm 0)),iZ 6]
def aNX:Rg:=[iO 12 7 3,iK 13 67 12,iA 14 (.un .not (Tm 13))]
def aNY:Rg:=[iZ 6]
def aaM:Rg:=[iM 15 1,iN 16 15,iF 17 6 3,iL 18 17,iN 19 18,iB 20 .neq 16 19]
def aNZ:Rg:=[iM 21 1,iN 22 21,iA 23 (.build [(.int .i64 0),(.int .i64 0),(.int .i64 0)] [(0,1,(Ci 1)),(1,1,(Ci (-1))),(2,1,(Tm 22))]),iA 24 (.bIZ true 3 1 [(.int .i64 0),(.int .i64 0),(.int .i64 0)] [(0,(Tm 23))]),iM 6 24]
def aOA:Rg:=[iZ 7]
def aOB:Rg:=[iI 8 0]
def aOC:Rg:=[iM 25 8,iM 26 1,iN 27 26,iB 28 .lss 25 27]
def aOD:Rd:=[(iM 31 7,true),(iO 32 7 3,false),(iM 33 8,false),(iM 34 1,false),(iM 35 8,false),(iX 36 1 34 35,false),(iL 37 36,false),(iA 38 (.call 90 [(Tm 32),(Tm 33),(Tm 37)]),true),(iA 39 (.append 3 24 (Tm 31) (Tm 38)),true),(iM 7 39,false)]
def aOE:Rg:=[iM 29 8,iC 30 .add 29 1,iM 8 30]
def atW:aB:=(.seq (sq aOC (.cond (Tm 28) .skip (.exit 0))) (.seq (.block 1 (.draw aOD)) (.region aOE)))
def atX:Rd:=[(iO 40 7 3,false),(iM 41 2,false),(iK2 42 85 40 41,true),(iO 43 7 3,true),(iM 44 1,true),(iK2 45 84 43 44,true),(iM 9 42,false),(iM 10 45,false)]
def atY:Rg:=[iI 11 0]
def atZ:Rg:=[iM 46 11,iM 47 9,iN 48 47,iB 49 .lss 46 48]
def QH:Rd:=[(iM 52 10,false),(iM 53 11,false),(iX 54 1 52 53,false),(iL 55 54,false),(iM 56 9,false),(iM 57 11,false),(iX 58 1 56 57,false),(iL 59 58,false),(iB 60 .gtr 55 59,false)]
def auA:Rg:=[iM 61 7,iM 62 11,iA 63 (.build [(.int .i64 0),(.int .i64 0),(.int .i64 0)] [(0,1,(Ci 6)),(1,1,(Ci (-1))),(2,1,(Tm 62))]),iA 64 (.bIZ true 3 1 [(.int .i64 0),(.int .i64 0),(.int .i64 0)] [(0,(Tm 63))]),iA 65 (.append 3 24 (Tm 61) (Tm 64)),iM 7 65]
def QI:Rg:=[iM 50 11,iC 51 .add 50 1,iM 11 51]
def QG:aB:=(.seq (sq atZ (.cond (Tm 49) .skip (.exit 2))) (.seq (.block 3 (dq QH (.cond (Tm 60) (.region auA) .skip))) (.region QI)))
def auB:Rg:=[iM 66 7,iM 6 66]
def JQ:aB:=(sq aNW (.seq (sq aNX (.cond (Tm 14) (sq aNY .ret) .skip)) (.seq (sq aaM (.cond (Tm 20) (sq aNZ .ret) .skip)) (sq aOA (.seq (sq aOB (.block 0 (.loop atW))) (dq atX (.seq (sq atY (.block 2 (.loop QG))) (sq auB .ret))))))))
def bpI:List Nat:=[3,24,64]
def aAR:aT:=⟨3,67,JQ,[.tmp 6]⟩
def atH:Rg:=[iA 3 (.box true (Tm 0)),iT 6 false]
def atI:Rg:=[iO 7 7 3,iK 8 67 7,iM 9 8,gO 10 7 3 9 true,gM 11 1 9 true,gM 12 2 9 true,iG 13 (.call 87 [(Tm 10),(Tm 11),(Tm 12)]) 9 true,gN 14 13 9 true,gC 15 .eql 14 0 9 true,iP 16 9 15,iM 6 16]
def DA:aB:=(sq atH (sq atI .ret))
def bhU:List Nat:=[3]
def agL:aT:=⟨3,17,DA,[.tmp 6]⟩
theorem bhF {C:Ctx} (f:aD) (hv:VF f) (d:Nat) (h:d<f.bIS.length) (level:Int) (h0:0≤level) (h4:level≤4) :
  CW.wp C (aS afY.res (aF (.int .i64 (eP f d level:Nat)))) (PF.args [.agg f.cells,.int .i64 d,.int .i64 level]) .nil:=by
 simp only[go_sem,δ,γ,θ,CW,asO,asP,afY,kV h,hv.amR h]
 refine wp_loop (α:=Nat) (fun k=>(((PF.nil.set 2 (.int .i64 level)).set 3 (.bJC f.cells)).set 7 (.int .i64 (upN f k (fF f d))))) (fun _=>.nil) (fun k=>k≤4-level.toNat) (fun k=>4-level.toNat-k) 0 (bLE _) (by (repeat' (first|exact PF.nil_le|refine PF.aG ?_ ?_))<;>first|(simp only[go_sem,γ,upN]<;>rfl)|rfl) PH.nil_le ?_
 intro k hk
 obtain⟨u1,u2⟩:=RJ hv h (k:=k) Om
 simp only[go_sem,δ,γ,θ,asN,asQ,eR u1,yS u1]
 by_cases hlt:k<4-level.toNat
 ·have hc:lvl f (upN f k (fF f d))>level:=by rw[u2]; omega
  have hne:0<upN f k (fF f d):=by
   rcases bNA (upN f k (fF f d)) with e | e
   ·rw[e,hv.root.2.1] at u2; omega
   ·exact e
  simp only[go_sem,δ,γ,θ,hc,asR,eR u1,yX u1,hv.anS hne u1]
  exact aE (k+1) hlt Om (by (repeat' (first|exact PF.nil_le|refine PF.aG ?_ ?_))<;>first|(simp only[go_sem,γ,upN]<;>rfl)|rfl) PH.nil_le
 ·have hc:¬ lvl f (upN f k (fF f d))>level:=by rw[u2]; omega
  have:k=4-level.toNat:=by omega
  subst this
  simp only[go_sem,γ,hc,asS]
  refine aM (.inr rfl) rfl ?_
  rfl
structure rZ (C:Ctx):Prop where
 valid:∀ f:aD,f.Ok→aH C 67 [.agg f.cells] .nil (aF (.bool (cX f)))
 kN:∀ (f:aD) (d:Nat) (level:Int),VF f→d<f.bIS.length→0≤level→level≤4→aH C 88 [.agg f.cells,.int .i64 d,.int .i64 level] .nil (aF (.int .i64 (eP f d level:Nat)))
 frag:∀ (f:aD) (v:Nat),VF f→v<f.bIV.length→aH C 82 [.agg f.cells,.int .i64 v] .nil (aF (.int .i64 (eZ f v)))
theorem byW {C:Ctx} (L:rZ C) (f:aD) (hf:f.Ok) (d level:Int) :
  ZU.wp C (aS sat.res (aF (.int .i64 (atP f d level)))) (PF.args [.agg f.cells,.int .i64 d,.int .i64 level]) .nil:=by
 simp only[go_sem,δ,γ,ZU,bhH,bhI,sat]
 refine aA (L.valid f hf) rfl ?_
 unfold atP
 cases hv:cX f with
 | false =>
  simp only[go_sem,ο,γ,reduceCtorEq,bLK,FI]
  refine aM (.inr rfl) rfl ?_
  rw[bF,if_neg (by simp)]
 | true =>
  have hV:=VF.of hv
  by_cases c1:d<0
  ·simp only[go_sem,ο,γ,reduceCtorEq,bLB,c1,FI]
   refine aM (.inr rfl) rfl ?_
   rw[bF,if_neg Om]
  ·by_cases c2:d≥(f.bIS.length:Nat)
   ·simp only[go_sem,ο,δ,γ,θ,reduceCtorEq,bLB,c1,bKY,c2,FI]
    refine aM (.inr rfl) rfl ?_
    rw[bF,if_neg Om]
   ·by_cases c3:level<0
    ·simp only[go_sem,ο,δ,γ,θ,reduceCtorEq,bLB,c1,bKY,c2,c3,FI]
     refine aM (.inr rfl) rfl ?_
     rw[bF,if_neg Om]
    ·by_cases c4:level>4
     ·simp only[go_sem,ο,δ,γ,θ,reduceCtorEq,bLB,c1,bKY,c2,c3,c4,FI]
      refine aM (.inr rfl) rfl ?_
      rw[bF,if_neg Om]
     ·simp only[go_sem,ο,δ,γ,θ,reduceCtorEq,bLB,c1,bKY,c2,c3,c4,bhJ]
      have hc:=L.kN f d.toNat level hV Om Om Om
      rw[Int.toNat_of_nonneg Om] at hc
      refine aA hc rfl ?_
      simp only[go_sem,ο,γ]
      refine aM (.inr rfl) rfl ?_
      rw[bF,if_pos Om]
def soS (f:aD):Spec:=fun name vs=>match name,vs with
 | 88,[_,.int _ d,.int _ l]=>some ([],fun _=>aF (.int .i64 (eP f d.toNat l:Nat)))
 | 82,[_,.int _ v]=>some ([],fun _=>aF (.int .i64 (eZ f v.toNat)))
 | _,_=>none
theorem atU (f:aD) (d:Nat) (l:Int):soS f 88 [.agg f.cells,.int .i64 d,.int .i64 l]=some ([],fun _=>aF (.int .i64 (eP f d l:Nat))):=rfl
theorem bfE {f:aD} (hV:VF f) {n:Nat} (hn:n<f.bIW.length):0≤lvl f n∧lvl f n≤4:=by
 rcases bNA n with e | e
 ·rw[e,hV.root.2.1]; decide
 ·have:=hV.dom n e hn; omega
theorem baQ {C:Ctx} (L:rZ C) (f:aD) (hf:f.Ok) (dom:Int) :
  yZ.wp C (aS TC.res (bQ (ints (mX f dom)))) (PF.args [.agg f.cells,.int .i64 dom]) .nil:=by
 simp only[go_sem,δ,γ,yZ,agD,agE,agF,TC]
 refine aA (L.valid f hf) rfl ?_
 unfold mX
 cases hv:cX f with
 | false =>
  simp only[go_sem,γ,reduceCtorEq,bLK,wT]
  rw[if_neg (by simp)]
  exact fB rfl
 | true =>
  have hV:=VF.of hv
  by_cases c1:dom<0
  ·simp only[go_sem,γ,reduceCtorEq,bLB,c1,wT]
   rw[if_neg Om]
   exact fB rfl
  ·by_cases c2:dom≥(f.bIW.length:Nat)
   ·simp only[go_sem,δ,γ,θ,reduceCtorEq,bLB,c1,bKY,c2,wT]
    rw[if_neg Om]
    exact fB rfl
   ·obtain⟨n,rfl⟩:∃ n:Nat,dom=n:=⟨dom.toNat,by omega⟩
    have hn:n<f.bIW.length:=by omega
    have hd24:=hV.small.bIS
    have hl04:=bfE hV hn
    simp only[go_sem,δ,γ,θ,reduceCtorEq,bLB,c1,bKY,c2,agG]
    rw[if_pos Om]
    generalize hp:(fun d=>decide ((eP f d (lvl f n):Nat)=n))=p
    refine wp_loop (α:=Nat × PV × PH) (fun t=>((((PF.nil.set 1 (.int .i64 n)).set 2 (.bJC f.cells)).set 5 (t.2.1)).set 6 (.int .i64 t.1))) (fun t=>t.2.2) (fun t=>t.1≤f.bIS.length∧aY t.2.2 1 t.2.1 (dA (pick t.1 p))) (fun t=>f.bIS.length-t.1) (0,.bIU,.nil) ⟨bLE _,.nil⟩ Lq PH.nil_le ?_
    rintro⟨k,v,H0⟩ ⟨hk,hO⟩
    simp only at hk hO ⊢
    simp only[go_sem,δ,γ,θ,agC,agH,bKY]
    by_cases hlt:k<f.bIS.length
    ·have bJA:(k:Int)<(f.bIS.length:Nat):=by omega
     simp only[go_sem,bJA]
     refine bM .nil (soS f) PH.nil_le ?_
     simp only[go_sem,δ,γ,θ,agI,eR hn,yS hn]
     refine bE (atU f k (lvl f n)) (L.kN f k (lvl f n) hV hlt hl04.1 hl04.2) rfl PH.nil_le ?_
     have hpk:p k=decide ((eP f k (lvl f n):Nat)=n):=by rw[← hp]
     have bJQ:=vI k p
     have h11:(1:Nat)*1≤16777216:=by decide
     by_cases c:eP f k (lvl f n)=n
     ·rw[if_pos (by rw[hpk]; simp[c])] at bJQ
      simp only[go_sem,υ,γ,η,ζ,bN (show ((eP f k (lvl f n):Nat):Int)=(n:Int) by omega),agJ,h11]
      refine dC (src:=[[.int .i64 k]]) hO rfl (by unfold roomFor; have:=tW k p; rw[fZ]; simp only[bLH,maxLen]; omega) fun v' H' hO' _=>?_
      rw[sI,← bJQ] at hO'
      simp only[go_sem,γ,JE,ws k]
      exact aE (k+1,v',H') ⟨hlt,hO'⟩ (by simp only; omega) Lq PH.le_refl
     ·rw[if_neg (by rw[hpk]; simp[c])] at bJQ
      simp only[go_sem,γ,bC (show ((eP f k (lvl f n):Nat):Int)≠(n:Int) by omega),JE,ws k]
      rw[← bJQ] at hO
      exact aE (k+1,v,H0) ⟨hlt,hO⟩ (by simp only; omega) Lq PH.le_refl
    ·have bJA:¬ (k:Int)<(f.bIS.length:Nat):=by omega
     have:k=f.bIS.length:=by omega
     subst this
     simp only[go_sem,γ,bJA,VT]
     exact nA hO rfl
theorem bhK {C:Ctx} (L:rZ C) (f:aD) (hf:f.Ok) (dom:Int) :
  CY.wp C (aS afZ.res (bQ (ints (sC f dom)))) (PF.args [.agg f.cells,.int .i64 dom]) .nil:=by
 simp only[go_sem,δ,γ,CY,asU,asV,asW,afZ]
 refine aA (L.valid f hf) rfl ?_
 unfold sC
 cases hv:cX f with
 | false =>
  simp only[go_sem,γ,reduceCtorEq,bLK,PR]
  rw[if_neg (by simp)]
  exact fB rfl
 | true =>
  have hV:=VF.of hv
  by_cases c1:dom<0
  ·simp only[go_sem,γ,reduceCtorEq,bLB,c1,PR]
   rw[if_neg Om]
   exact fB rfl
  ·have hd40:=hV.small.bIW
   have h00:=hV.root.1
   simp only[go_sem,γ,reduceCtorEq,bLB,c1,asX]
   rw[if_pos Om]
   generalize hp:(fun i=>decide (par f i=dom))=p
   have hp0:pick 1 p=[]:=by
    have:=vI 0 p
    rw[if_neg (by rw[← hp]; have:=hV.root.2.2; simp; omega)] at this
    rw[this]; rfl
   refine wp_loop (α:=Nat × PV × PH) (fun t=>((((PF.nil.set 1 (.int .i64 dom)).set 2 (.bJC f.cells)).set 5 (t.2.1)).set 6 (.int .i64 t.1))) (fun t=>t.2.2) (fun t=>1≤t.1∧t.1≤f.bIW.length∧aY t.2.2 1 t.2.1 (dA (pick t.1 p))) (fun t=>f.bIW.length-t.1) (1,.bIU,.nil) ⟨bLG _,h00,by rw[hp0]; exact .nil⟩ Lq PH.nil_le ?_
   rintro⟨k,v,H0⟩ ⟨hk1,hk,hO⟩
   simp only at hk1 hk hO ⊢
   simp only[go_sem,δ,γ,θ,asT,asY,bKY]
   by_cases hlt:k<f.bIW.length
   ·have bJA:(k:Int)<(f.bIW.length:Nat):=by omega
    have hpk:p k=decide (par f k=dom):=by rw[← hp]
    have bJQ:=vI k p
    have h11:(1:Nat)*1≤16777216:=by decide
    by_cases c:par f k=dom
    ·rw[if_pos (by rw[hpk]; simp[c])] at bJQ
     simp only[go_sem,υ,δ,γ,η,θ,ζ,bJA,PS,eR hlt,yX hlt,bN c,asZ,h11]
     refine dC (src:=[[.int .i64 k]]) hO rfl (by unfold roomFor; have:=tW k p; rw[fZ]; simp only[bLH,maxLen]; omega) fun v' H' hO' _=>?_
     rw[sI,← bJQ] at hO'
     simp only[go_sem,γ,PT,ws k]
     exact aE (k+1,v',H') ⟨by omega,hlt,hO'⟩ (by simp only; omega) Lq PH.le_refl
    ·rw[if_neg (by rw[hpk]; simp[c])] at bJQ
     rw[← bJQ] at hO
     simp only[go_sem,δ,γ,θ,bJA,PS,eR hlt,yX hlt,bC c,PT,ws k]
     exact aE (k+1,v,H0) ⟨by omega,hlt,hO⟩ (by simp only; omega) Lq PH.le_refl
   ·have bJA:¬ (k:Int)<(f.bIW.length:Nat):=by omega
    have:k=f.bIW.length:=by omega
    subst this
    simp only[go_sem,γ,bJA,agA]
    exact nA hO rfl
def tK (f:aD) (row:List Int):Int:=match eI (jA f) row 0 with
 | some i=>i
 | none=>-1
theorem bvN {C:Ctx} (f:aD) (row:List Int) (hl:row.length≤16777216):PQ.wp C (aS baP.res (aF (.int .i64 (tK f row)))) (PF.args [.agg f.cells,ints row]) .nil:=by
 unfold tK
 simp only[go_sem,ο,PQ,a1L,a1M,baP]
 refine wp_loop (α:=Nat) (fun k=>(((PF.nil.set 1 (ints row)).set 2 (.bJC f.cells)).set 5 (.int .i64 k))) (fun _=>.nil) (fun k=>k≤row.length∧eI (jA f) row 0=eI (jA f) (row.drop k) k) (fun k=>row.length-k) 0 ⟨bLE _,rfl⟩ Lq PH.nil_le ?_
 rintro k ⟨hk,ha⟩
 simp only[go_sem,ο,γ,a1K,a1N,bKY]
 by_cases hlt:k<row.length
 ·have bJA:(k:Int)<(row.length:Nat):=by omega
  have hat:(row.map fun x=>[PV.int .i64 x])[k]?=some [.int .i64 row[k]]:=by simp[hlt]
  rw[bMU hlt,eI] at ha
  generalize row[k]=x at *
  simp only[go_sem,ο,bJA]
  refine bM .nil dK PH.nil_le ?_
  by_cases c1:x < -1
  ·rw[show jA f x=true from by unfold jA; rw[decide_eq_true c1]; rfl,if_pos rfl] at ha
   simp only[go_sem,ο,γ,TB,hat,c1,anX]
   refine aM (.inr rfl) rfl ?_
   rw[bF,ha]
  ·by_cases c2:x≥(f.bIS.length:Nat)
   ·rw[show jA f x=true from by unfold jA; rw[decide_eq_true c2,Bool.or_true],if_pos rfl] at ha
    simp only[go_sem,ο,δ,γ,θ,reduceCtorEq,TB,hat,c1,bKY,c2,anX]
    refine aM (.inr rfl) rfl ?_
    rw[bF,ha]
   ·rw[show jA f x=false from by unfold jA; rw[decide_eq_false c1,decide_eq_false c2]; rfl,if_neg (by decide)] at ha
    simp only[go_sem,ο,δ,γ,θ,reduceCtorEq,TB,hat,c1,bKY,c2,a1O,ws k]
    exact aE (k+1) ⟨hlt,ha⟩ Om Lq PH.le_refl
 ·have bJA:¬ (k:Int)<(row.length:Nat):=by omega
  have:k=row.length:=by omega
  subst this
  rw[List.drop_length,eI] at ha
  simp only[go_sem,ο,bJA,a1P]
  refine aM (.inr rfl) rfl ?_
  rw[bF,ha]
theorem buE {r e:Int} (h:0≤e):max 0 (min r e)=min (max r 0) e:=by omega
theorem baJ (f:aD) (room:List Int) {k:Nat} (h:k<f.bIS.length):(fX f room).take (k+1)=(fX f room).take k++[vK f room k]:=by
 have hk:k<(fX f room).length:=by rw[pE]; exact h
 rw[bNC hk,aMF]
theorem bpD {C:Ctx} (L:rZ C) (f:aD) (hf:f.Ok) (room:List Int) :
  JK.wp C (aS aAQ.res (bQ (ints (mD f room)))) (PF.args [.agg f.cells,ints room]) .nil:=by
 simp only[go_sem,δ,γ,JK,aMW,aMX,aAQ]
 refine aA (L.valid f hf) rfl ?_
 unfold mD
 cases hv:cX f with
 | false =>
  simp only[go_sem,γ,reduceCtorEq,bLK,aMY]
  exact fB rfl
 | true =>
  have hV:=VF.of hv
  have hd24:=hV.small.bIS
  have hRl:=pE f room
  simp only[go_sem,γ,bLB,aMZ,aNA]
  refine wp_loop (α:=Nat × PV × PH) (fun t=>((((PF.nil.set 1 (ints room)).set 2 (.bJC f.cells)).set 5 (t.2.1)).set 6 (.int .i64 t.1))) (fun t=>t.2.2) (fun t=>t.1≤f.bIS.length∧aY t.2.2 1 t.2.1 (dA ((fX f room).take t.1))) (fun t=>f.bIS.length-t.1) (0,.bIU,.nil) ⟨bLE _,.nil⟩ Lq PH.nil_le ?_
  rintro⟨k,v,H0⟩ ⟨hk,hO⟩
  simp only at hk hO ⊢
  simp only[go_sem,δ,γ,θ,atV,aNB,bKY]
  by_cases hlt:k<f.bIS.length
  ·have bJA:(k:Int)<(f.bIS.length:Nat):=by omega
   obtain⟨hm,he⟩:=hV.bdF hlt
   have hmo:=hV.model _ (bLF hm)
   rw[he] at hmo
   have h11:(1:Nat)*1≤16777216:=by decide
   have bJQ:=baJ f room hlt
   have rest:∀ (x:Int) (F:PF),x=vK f room k→((((((PF.nil.set 1 (ints room)).set 2 (.bJC f.cells)).set 5 (v)).set 6 (.int .i64 k)).set 7 (.int .i64 x)):PF).le F →
     aB.wp C (.region ZX) (dP 1 (jC C (aB.wp C (.region QB)) (dV (fun t:Nat × PV × PH=>((((PF.nil.set 1 (ints room)).set 2 (.bJC f.cells)).set 5 (t.2.1)).set 6 (.int .i64 t.1))) (fun t=>t.2.2) (fun t=>t.1≤f.bIS.length∧aY t.2.2 1 t.2.1 (dA ((fX f room).take t.1))) (fun t=>f.bIS.length-t.1) (f.bIS.length-k) (dP 0 (jC C (aB.wp C (.seq (.region QC) .ret)) (aS [.tmp 4] (bQ (ints (fX f room))))))))) F H0:=by
    intro x F hx hF
    refine tE _ (fun _ _ _ _ a b=>Up.up a b) hF ?_
    simp only[go_sem,υ,γ,η,ζ,ZX,h11]
    refine dC (src:=[[.int .i64 x]]) hO rfl (by unfold roomFor; rw[fZ,bLR]; simp only[bLH,maxLen]; omega) fun v' H' hO' _=>?_
    rw[sI,hx,← bJQ] at hO'
    simp only[go_sem,γ,QB,ws k]
    exact aE (k+1,v',H') ⟨hlt,hO'⟩ (by simp only; omega) Lq PH.le_refl
   simp only[aB.wp,go_sem] at rest
   simp only[go_sem,bJA]
   refine bM .nil dK PH.nil_le ?_
   simp only[go_sem,δ,γ,θ,aNC,kV hlt,hV.EY hlt,arI hm,he]
   by_cases c:room.length=f.bIS.length
   ·have hrk:k<room.length:=by omega
    have hrr:(room.map fun n=>[PV.int .i64 n])[k]?=some [.int .i64 room[k]]:=by simp[hrk]
    simp only[go_sem,δ,γ,θ,reduceCtorEq,ZW,bKY,bN (Om:((room.length:Nat):Int)=(f.bIS.length:Nat)),aND,hrr,max_eq,aYQ]
    refine rest _ _ ?_ Lq
    rw[vK,if_pos c,buE Om,bLP,bLL hrk,bNH]
   ·simp only[go_sem,δ,γ,θ,ZW,bKY,bC (Om:((room.length:Nat):Int)≠(f.bIS.length:Nat))]
    refine rest _ _ ?_ Lq
    rw[vK,if_neg c]
  ·have bJA:¬ (k:Int)<(f.bIS.length:Nat):=by omega
   have:k=f.bIS.length:=by omega
   subst this
   rw[← hRl,bLZ] at hO
   simp only[go_sem,γ,bJA,QC]
   exact nA hO rfl
theorem aUY {C:Ctx} (f:aD) (hV:VF f) (p:cJ) (hp:Fits p.bIT) (d:Nat) (hd:d<f.bIS.length) :
  wA.wp C (aS JD.res (aF (.bool (p.bIT.contains ((mdl f d:Nat):Int))))) (PF.args [.agg p.cells,.agg f.cells,.int .i64 d]) .nil:=by
 have hp':p.bIT.length≤9223372036854775807:=hp
 simp only[go_sem,γ,wA,VM,VN,JD]
 refine wp_loop (α:=Nat) (fun k=>((((PF.nil.set 2 (.int .i64 d)).set 3 (.bJC p.cells)).set 4 (.bJC f.cells)).set 7 (.int .i64 k))) (fun _=>.nil) (fun k=>k≤p.bIT.length∧p.bIT.contains ((mdl f d:Nat):Int)=(p.bIT.drop k).contains ((mdl f d:Nat):Int)) (fun k=>p.bIT.length-k) 0 ⟨bLE _,rfl⟩ Lq PH.nil_le ?_
 rintro k ⟨hk,ha⟩
 simp only[go_sem,δ,γ,θ,VL,VO,bKY]
 by_cases hlt:k<p.bIT.length
 ·have bJA:(k:Int)<(p.bIT.length:Nat):=by omega
  have hat:(p.bIT.map fun x=>[PV.int .i64 x])[k]?=some [.int .i64 p.bIT[k]]:=by simp[hlt]
  rw[bMU hlt,List.contains_cons] at ha
  have hcomm:(p.bIT[k]==((mdl f d:Nat):Int))=(((mdl f d:Nat):Int)==p.bIT[k]):=BEq.comm
  simp only[go_sem,bJA]
  refine bM .nil dK PH.nil_le ?_
  cases c:((mdl f d:Nat):Int)==p.bIT[k] with
  | true =>
   rw[c] at hcomm
   rw[c,Bool.true_or] at ha
   simp only[go_sem,δ,γ,θ,CX,hat,kV hd,hV.EY hd,hcomm,VP]
   refine aM (.inr rfl) rfl ?_
   rw[bF,ha]
  | false =>
   rw[c] at hcomm
   rw[c,Bool.false_or] at ha
   simp only[go_sem,δ,γ,θ,CX,hat,kV hd,hV.EY hd,hcomm,VQ,ws k]
   exact aE (k+1) ⟨hlt,ha⟩ Om Lq PH.le_refl
 ·have bJA:¬ (k:Int)<(p.bIT.length:Nat):=by omega
  have:k=p.bIT.length:=by omega
  subst this
  rw[List.drop_length] at ha
  simp only[go_sem,bJA,VR]
  refine aM (.inr rfl) rfl ?_
  rw[bF,ha]
  rfl
theorem TW {p:Int→Bool} {xs:List Int} {k:Nat} (h:k<xs.length):(xs.take (k+1)).countP p=(xs.take k).countP p+if p xs[k] then 1 else 0:=by
 rw[bNC h,List.countP_append]
 by_cases hp:p xs[k]<;>simp[List.countP_cons,hp]
theorem bhM {C:Ctx} (L:rZ C) (f:aD) (hV:VF f) (row:List Int) (hr:uE f row) (n:Nat) (hn:n<f.bIW.length) :
  CZ.wp C (aS agB.res (aF (.int .i64 (row.countP (jV f n):Nat)))) (PF.args [.agg f.cells,ints row,.int .i64 n]) .nil:=by
 have hlen:=hr.len
 have hl04:=bfE hV hn
 simp only[go_sem,CZ,atB,atC,atD,agB]
 refine wp_loop (α:=Nat) (fun k=>(((((PF.nil.set 1 (ints row)).set 2 (.int .i64 n)).set 3 (.bJC f.cells)).set 7 (.int .i64 ((row.take k).countP (jV f n):Nat))).set 8 (.int .i64 k))) (fun _=>.nil) (fun k=>k≤row.length) (fun k=>row.length-k) 0 (bLE _) Lq PH.nil_le ?_
 intro k hk
 simp only[go_sem,γ,atA,atE,bKY]
 by_cases hlt:k<row.length
 ·have bJA:(k:Int)<(row.length:Nat):=by omega
  have hat:(row.map fun x=>[PV.int .i64 x])[k]?=some [.int .i64 row[k]]:=by simp[hlt]
  have hx:=hr.at_ _ (bLF hlt)
  have hs:=TW (p:=jV f n) hlt
  have hle:(row.take k).countP (jV f n)≤16777216:=by
   have:=List.countP_le_length (p:=jV f n) (l:=row.take k)
   rw[bLR] at this
   omega
  have hid:jV f n row[k]=(decide (0≤row[k])&&decide (eP f row[k].toNat (lvl f n)=n)):=rfl
  have fin:∀ (c:Nat) (F':PF),(row.take (k+1)).countP (jV f n)=c→((((((PF.nil.set 1 (ints row)).set 2 (.int .i64 n)).set 3 (.bJC f.cells)).set 7 (.int .i64 c)).set 8 (.int .i64 (k+1:Nat))):PF).le F'→dV (fun k:Nat=>(((((PF.nil.set 1 (ints row)).set 2 (.int .i64 n)).set 3 (.bJC f.cells)).set 7 (.int .i64 ((row.take k).countP (jV f n):Nat))).set 8 (.int .i64 k))) (fun _=>.nil) (fun k=>k≤row.length) (fun k=>row.length-k) (row.length-k) (dP 0 (jC C (aB.wp C (.seq (.region PW) .ret)) (aS [.tmp 6] (aF (.int .i64 (row.countP (jV f n):Nat)))))) .normal F' .nil :=
   fun c F' e h=>aE (k+1) hlt Om (by rw[e]; exact h) PH.le_refl
  generalize (row.take k).countP (jV f n)=c at *
  generalize row[k]=x at *
  simp only[go_sem,bJA]
  refine bM .nil (soS f) PH.nil_le ?_
  by_cases h0:x≥0
  ·obtain⟨d,rfl⟩:∃ d:Nat,x=d:=⟨x.toNat,by omega⟩
   have hd:d<f.bIS.length:=by omega
   rw[decide_eq_true (Om:(0:Int)≤d),bLN,bNU] at hid
   rw[hid] at hs
   simp only[go_sem,δ,γ,θ,PU,hat,h0,eR hn,yS hn]
   refine bE (atU f d (lvl f n)) (L.kN f d (lvl f n) hV hd hl04.1 hl04.2) rfl PH.nil_le ?_
   by_cases ha:eP f d (lvl f n)=n
   ·rw[decide_eq_true ha,if_pos rfl] at hs
    simp only[go_sem,γ,bN (show ((eP f d (lvl f n):Nat):Int)=(n:Int) by omega),atF,ws c,AI,ws k]
    exact fin (c+1) _ hs Lq
   ·rw[decide_eq_false ha,if_neg (by decide),bMV] at hs
    simp only[go_sem,γ,bC (show ((eP f d (lvl f n):Nat):Int)≠(n:Int) by omega),AI,ws k]
    exact fin c _ hs Lq
  ·rw[decide_eq_false (show ¬ 0≤x from h0),bLI] at hid
   rw[hid,if_neg (by decide),bMV] at hs
   simp only[go_sem,γ,reduceCtorEq,PU,hat,h0,AI,ws k]
   exact fin c _ hs Lq
 ·have bJA:¬ (k:Int)<(row.length:Nat):=by omega
  have:k=row.length:=by omega
  subst this
  simp only[go_sem,γ,bJA,PW,bLZ]
  refine aM (.inr rfl) rfl ?_
  rfl
theorem bhW {C:Ctx} (f:aD) (l:List (List Int)) (hl:fC l) (o i:Nat) (hlt:i<l.length) (K:bY) [Up K] (F:PF) (H:PH)
  (hF:((((((PF.nil.set 1 (lay l)).set 2 (.bJC f.cells)).set 5 (.osl o 1 0 f.bIS.length)).set 6 (.int .i64 i)).set 7 (.int .i64 0)):PF).le F) (hH:(PH.nil.set o (.rows 1 (dA (dU f.bIS.length (l.take i).flatten)))).le H)
  (hK:K (.exit 2) (((((PF.nil.set 1 (lay l)).set 2 (.bJC f.cells)).set 5 (.osl o 1 0 f.bIS.length)).set 6 (.int .i64 i))) (PH.nil.set o (.rows 1 (dA (dU f.bIS.length (l.take (i+1)).flatten))))):aB.wp C (.loop JJ) K F H:=by
 obtain⟨hl1,hl2⟩:=hl
 have hr:(l.map fun r=>[ints r])[i]?=some [ints l[i]]:=by simp[hlt]
 have hft:=oX l hlt
 have hfl:=tL l (i+1)
 rw[hft] at hfl hK
 rw[bLC] at hfl
 generalize bJH:l[i]=row at *
 generalize hn:f.bIS.length=n at *
 generalize hA:(l.take i).flatten=A at *
 refine wp_loop (α:=Nat) (fun k=>(((((PF.nil.set 1 (lay l)).set 2 (.bJC f.cells)).set 5 (.osl o 1 0 n)).set 6 (.int .i64 i)).set 7 (.int .i64 k))) (fun k=>PH.nil.set o (.rows 1 (dA (dU n (A++row.take k))))) (fun k=>k≤row.length) (fun k=>row.length-k) 0 (bLE _) hF (by rw[List.take_zero,bMP]; exact hH) ?_
 intro k hk
 simp only[go_sem,γ,JJ,atS,hr,bKY]
 by_cases hkt:k<row.length
 ·have hkt':(k:Int)<(row.length:Nat):=by omega
  have hrk:(row.map fun n=>[PV.int .i64 n])[k]?=some [.int .i64 row[k]]:=by simp[hkt]
  have htk:A++row.take (k+1)=(A++row.take k)++[row[k]]:=by
   rw[bNC hkt,bMA]
  have fin:∀ (F:PF),((((((PF.nil.set 1 (lay l)).set 2 (.bJC f.cells)).set 5 (.osl o 1 0 n)).set 6 (.int .i64 i)).set 7 (.int .i64 (k+1:Nat))):PF).le F→∀ H:PH,H o=some (.rows 1 (dA (dU n (A++row.take (k+1))))) →
    dV (fun k:Nat=>(((((PF.nil.set 1 (lay l)).set 2 (.bJC f.cells)).set 5 (.osl o 1 0 n)).set 6 (.int .i64 i)).set 7 (.int .i64 k))) (fun k=>PH.nil.set o (.rows 1 (dA (dU n (A++row.take k))))) (fun k=>k≤row.length) (fun k=>row.length-k) (row.length-k) K .normal F H:=by
   intro F hF H hH
   exact aE (k+1) hkt Om hF (PH.aG PH.nil_le hH)
  generalize hx:row[k]=x at *
  by_cases c1:x≥0
  ·by_cases c2:x<(n:Nat)
   ·obtain⟨d,rfl⟩:∃ d:Nat,x=d:=⟨x.toNat,by omega⟩
    have hdn:d<n:=by omega
    have hat:=tT (l:=dU n (A++row.take k)) (i:=d) (by rw[fR]; exact hdn)
    rw[SE _ hdn] at hat
    have hcl:(A++row.take k).count (d:Int)≤16777216:=by
     refine bNE (List.count_le_length ..) ?_
     rw[bLC,bLR]; omega
    have hin:=alZ (A++row.take k) hdn
    rw[← htk] at hin
    have hw:IntKind.i64.wrap ((((A++row.take k).count (d:Int):Nat):Int)+1)=(((A++row.take k).count (d:Int):Nat):Int)+1:=wrap_i64 Om Om
    simp only[go_sem,γ,hkt',AL,hrk,c1,c2,atT,bLX,hat,hw,wV,oZ,hin,ws k,hr]
    exact fin _ Lq _ Sq
   ·have hout:=yF (n:=n) (A++row.take k) (x:=x) Om
    simp only[go_sem,γ,hkt',AL,hrk,c1,c2,wV,ws k,hr]
    exact fin _ Lq _ (by rw[htk,hout]; simp only[go_sem])
  ·have hout:=yF (n:=n) (A++row.take k) (x:=x) Om
   simp only[go_sem,γ,reduceCtorEq,hkt',AL,hrk,c1,wV,ws k,hr]
   exact fin _ Lq _ (by rw[htk,hout]; simp only[go_sem])
 ·have hkt':¬ (k:Int)<(row.length:Nat):=by omega
  have:k=row.length:=by omega
  subst this
  simp only[go_sem,hkt',bLZ]
  exact Up.up Lq hK
theorem bhX {C:Ctx} (L:rZ C) (f:aD) (hf:f.Ok) (l:List (List Int)) (hl:fC l) :
  DC.wp C (aS agM.res (bQ (ints (mA f l)))) (PF.args [.agg f.cells,lay l]) .nil:=by
 simp only[go_sem,δ,γ,DC,atK,atL,agM]
 refine aA (L.valid f hf) rfl ?_
 unfold mA
 cases hv:cX f with
 | false =>
  simp only[go_sem,γ,reduceCtorEq,bLK,atM]
  exact fB rfl
 | true =>
  have hd:=(VF.of hv).small.bIS
  have hb1:((f.bIS.length:Nat):Int)*((8:Nat):Int)≤140737488355328:=by omega
  have hb2:((f.bIS.length:Nat):Int)≤9223372036854775807:=by omega
  simp only[go_sem,δ,γ,θ,bLB,atN,bKY,hb1,hb2]
  refine aN fun o ho=>?_
  simp only[go_sem,γ,atO]
  refine wp_loop (α:=Nat) (fun i=>((((PF.nil.set 1 (lay l)).set 2 (.bJC f.cells)).set 5 (.osl o 1 0 f.bIS.length)).set 6 (.int .i64 i))) (fun i=>PH.nil.set o (.rows 1 (dA (dU f.bIS.length (l.take i).flatten)))) (fun i=>i≤l.length) (fun i=>l.length-i) 0 (bLE _) Lq (PH.aG PH.nil_le (by rw[List.take_zero,List.flatten_nil,WY,qF]; simp only[go_sem])) ?_
  intro i hi
  simp only[go_sem,γ,agN,atQ,bKY]
  have hl1:=hl.rows
  by_cases hlt:i<l.length
  ·have bJA:(i:Int)<(l.length:Nat):=by omega
   simp only[go_sem,bJA,atR]
   have hin:=bhW (C:=C) f l hl o i hlt
   simp only[aB.wp,go_sem] at hin
   refine hin _ _ _ Lq PH.le_refl ?_
   simp only[go_sem,γ,reduceCtorEq,agO,ws i]
   exact aE (i+1) hlt Om Lq PH.le_refl
  ·have bJA:¬ (i:Int)<(l.length:Nat):=by omega
   have:i=l.length:=by omega
   subst this
   simp only[go_sem,γ,bJA,agP,bLZ]
   refine ZS (.inr rfl) (o:=o) (s:=1) (k:=f.bIS.length) (rs:=dA (dU f.bIS.length l.flatten)) rfl Sq (by rw[fZ,fR]; omega) ⟨?_,rfl⟩
   rw[adF,bLQ (by rw[fZ,fR]; omega),fH]
   exact .refl _
structure alT (C:Ctx):Prop extends rZ C where
 bad:∀ (f:aD) (row:List Int),row.length≤16777216→aH C 89 [.agg f.cells,ints row] .nil (aF (.int .i64 (tK f row)))
def aMH (f:aD) (v:Nat) (row:List Int):List fE :=
 if ((row.length:Nat):Int)=eZ f v then (match eI (jA f) row 0 with | some i=>[⟨1,v,(i:Nat)⟩] | none=>tC f (fU f v) v row) else [⟨1,v,(row.length:Nat)⟩]
theorem boH (f:aD) (l:List (List Int)) (v:Nat):sS f l v=aMH f v (l.getD v []):=by
 unfold sS kC aMH
 split<;>rename_i h
 ·split at h
  ·rename_i c
   rw[if_pos c]
   cases hb:eI (jA f) (l.getD v []) 0 with
   | none=>rw[hb] at h; cases h
   | some i=>rw[hb] at h; cases h; rfl
  ·rename_i c
   rw[if_neg c]
   cases h; rfl
 ·split at h
  ·rename_i c
   rw[if_pos c]
   cases hb:eI (jA f) (l.getD v []) 0 with
   | none=>rfl
   | some i=>rw[hb] at h; cases h
  ·cases h
theorem bhS (f:aD) (l:List (List Int)) (v:Nat):(kC f l v).isNone=(decide (((l.getD v []).length:Int)=eZ f v)&&!decide (tK f (l.getD v [])≥0)):=by
 unfold kC tK
 split
 ·rename_i c
  rw[decide_eq_true c]
  cases eI (jA f) (l.getD v []) 0 with
  | none=>rfl
  | some i=>simp
 ·rename_i c
  rw[decide_eq_false c]; rfl
def ssS (f:aD) (row:List Int):Spec:=fun name vs=>match name,vs with
 | 89,_=>some ([],fun _=>aF (.int .i64 (tK f row)))
 | 82,[_,.int _ v]=>some ([],fun _=>aF (.int .i64 (eZ f v.toNat)))
 | _,_=>none
theorem bpF (f:aD) (row:List Int) (v:Nat):ssS f row 82 [.agg f.cells,.int .i64 v]=some ([],fun _=>aF (.int .i64 (eZ f v))):=rfl
theorem baX {C:Ctx} (L:alT C) (f:aD) (hf:f.Ok) (l:List (List Int)) (hl:fC l) :
  zC.wp C (aS TE.res (aF (.bool (oF f l)))) (PF.args [.agg f.cells,lay l]) .nil:=by
 simp only[go_sem,δ,γ,zC,agR,agT,TE]
 refine aA (L.valid f hf) rfl ?_
 unfold oF
 have hlr:=hl.rows
 cases hv:cX f with
 | false =>
  simp only[go_sem,γ,bLK,JN]
  refine aM (.inr rfl) rfl ?_
  simp[bF]
 | true =>
  have hV:=VF.of hv
  by_cases c:l.length=f.bIV.length
  ·have c':(((l.length:Nat):Int) != ((f.bIV.length:Nat):Int))=false:=cA Om
   rw[decide_eq_true c]
   simp only[go_sem,γ,reduceCtorEq,bLB,bKY,c',agU]
   generalize hq:(fun v=>(kC f l v).isNone)=q
   refine wp_loop (α:=Nat) (fun k=>(((PF.nil.set 1 (lay l)).set 2 (.bJC f.cells)).set 5 (.int .i64 k))) (fun _=>.nil) (fun k=>k≤l.length∧oJ q k) (fun k=>l.length-k) 0 ⟨bLE _,.zero⟩ Lq PH.nil_le ?_
   rintro k ⟨hk,ha⟩
   simp only[go_sem,γ,agQ,agV,bKY]
   by_cases hlt:k<l.length
   ·have bJA:(k:Int)<(l.length:Nat):=by omega
    have hqk:q k=(decide (((l[k]).length:Int)=eZ f k)&&!decide (tK f l[k]≥0)):=by
     rw[← hq,← show l.getD k []=l[k] by simp[bLP,hlt]]; exact bhS f l k
    have hrl:(l[k]).length≤16777216:=by
     have h1:=tL l (k+1)
     have:=hl.all
     rw[oX l hlt,bLC] at h1
     omega
    have hat:(l.map fun r=>[ints r])[k]?=some [ints l[k]]:=by simp[hlt]
    generalize l[k]=row at *
    simp only[go_sem,bJA]
    refine bM .nil (ssS f row) PH.nil_le ?_
    simp only[go_sem,δ,γ,agW,hat,bKY]
    refine bE (bpF f row k) (L.frag f k hV Om) rfl PH.nil_le ?_
    by_cases c1:((row.length:Nat):Int)=eZ f k
    ·rw[decide_eq_true c1,bLN] at hqk
     simp only[go_sem,δ,γ,cA c1,hat]
     refine bE (show ssS f row 89 [.agg f.cells,ints row]=some ([],fun _=>aF (.int .i64 (tK f row))) from rfl) (L.bad f row hrl) rfl PH.nil_le ?_
     by_cases c2:tK f row≥0
     ·rw[decide_eq_true c2] at hqk
      simp only[go_sem,γ,reduceCtorEq,c2,JO]
      refine aM (.inr rfl) rfl ?_
      rw[bF,show (bKZ l.length).all q=false from dO hlt hqk]
     ·rw[decide_eq_false c2] at hqk
      simp only[go_sem,γ,reduceCtorEq,c2,agX,ws k]
      exact aE (k+1) ⟨hlt,ha.step hqk⟩ Om Lq PH.nil_le
    ·rw[decide_eq_false c1,bLI] at hqk
     simp only[go_sem,γ,cV c1,JO]
     refine aM (.inr rfl) rfl ?_
     rw[bF,show (bKZ l.length).all q=false from dO hlt hqk]
   ·have bJA:¬ (k:Int)<(l.length:Nat):=by omega
    have:k=l.length:=by omega
    subst this
    simp only[go_sem,bJA,agY]
    refine aM (.inr rfl) rfl ?_
    rw[bF,show (bKZ l.length).all q=true from ha]
  ·have c':(((l.length:Nat):Int) != ((f.bIV.length:Nat):Int))=true:=cV Om
   simp only[go_sem,γ,reduceCtorEq,bLB,bKY,c',JN]
   refine aM (.inr rfl) rfl ?_
   rw[bF,decide_eq_false c]; simp
structure SB (C:Ctx):Prop extends alT C where
 allowed:∀ (f:aD) (p:cJ) (d:Nat),VF f→Fits p.bIT→d<f.bIS.length→aH C 77 [.agg p.cells,.agg f.cells,.int .i64 d] .nil (aF (.bool (p.bIT.contains ((mdl f d:Nat):Int))))
 count:∀ (f:aD) (row:List Int) (n:Nat),VF f→uE f row→n<f.bIW.length→aH C 80 [.agg f.cells,ints row,.int .i64 n] .nil (aF (.int .i64 (row.countP (jV f n):Nat)))
theorem bvM {C:Ctx} (f:aD) (v:Nat) (row:List Int) (hr:uE f row) (K:bY) [Up K] (F:PF) (H:PH)
  (hF:((((((PF.nil.set 1 (.int .i64 v)).set 2 (ints row)).set 3 (.bJC f.cells)).set 8 (.bIU)).set 9 (.int .i64 0)):PF).le F)
  (hK:∀ w H',aY H' 3 w (cP (bO 2 v row.length (home row)))→K (.exit 0) (((((PF.nil.set 1 (.int .i64 v)).set 2 (ints row)).set 3 (.bJC f.cells)).set 8 (w))) H'):aB.wp C (.loop ZY) K F H:=by
 obtain⟨hr1,hr2⟩:=hr
 refine wp_loop (α:=Nat × PV × PH) (fun t=>(((((PF.nil.set 1 (.int .i64 v)).set 2 (ints row)).set 3 (.bJC f.cells)).set 8 (t.2.1)).set 9 (.int .i64 t.1))) (fun t=>t.2.2) (fun t=>t.1≤row.length∧aY t.2.2 3 t.2.1 (cP (bO 2 v t.1 (home row)))) (fun t=>row.length-t.1) (0,.bIU,H) ⟨bLE _,.nil⟩ hF PH.le_refl ?_
 rintro⟨k,w,H0⟩ ⟨hk,hO⟩
 simp only at hk hO ⊢
 simp only[go_sem,γ,ZY,a1Y,bKY]
 by_cases hlt:k<row.length
 ·have bJA:(k:Int)<(row.length:Nat):=by omega
  have hat:(row.map fun n=>[PV.int .i64 n])[k]?=some [.int .i64 row[k]]:=by simp[hlt]
  have hx:=hr2 row[k] (bLF hlt)
  have hh:home row k=decide (row[k]<0):=by simp[home,bLP,hlt]
  have e2:=gG 2 v k (home row)
  have l2:=dE 2 v k (home row)
  generalize row[k]=x at *
  by_cases c:x=-1
  ·rw[if_pos (by rw[hh]; simp; omega)] at e2
   have bKM:(1:Nat)*3≤16777216:=by decide
   simp only[go_sem,ο,υ,δ,γ,η,θ,ζ,bJA,aoC,hat,bN c,aNE,bKM]
   refine dC (src:=[(⟨2,v,k⟩:fE).cells]) hO rfl (by unfold roomFor; rw[fK]; simp only[bLH,maxLen]; omega) fun v' H' g1 _=>?_
   rw[jL,← e2] at g1
   simp only[go_sem,γ,aaD,ws k]
   exact aE (k+1,v',H') ⟨hlt,g1⟩ (by simp only; omega) Lq PH.le_refl
  ·rw[if_neg (by rw[hh]; simp; omega)] at e2
   rw[← e2] at hO
   simp only[go_sem,ο,γ,bJA,aoC,hat,bC c,aaD,ws k]
   exact aE (k+1,w,H0) ⟨hlt,hO⟩ (by simp only; omega) Lq PH.le_refl
 ·have bJA:¬ (k:Int)<(row.length:Nat):=by omega
  have:k=row.length:=by omega
  subst this
  simp only[go_sem,bJA]
  exact Up.up Lq (hK w H0 hO)
theorem byV {C:Ctx} (f:aD) (v:Nat) (row:List Int) (hrl:row.length≤16777216) (w:PV) (d:Nat) (K:bY) [Up K] (F:PF) (H:PH)
  (hF:((((((((PF.nil.set 1 (.int .i64 v)).set 2 (ints row)).set 3 (.bJC f.cells)).set 8 (w)).set 10 (.int .i64 d)).set 11 (.int .i64 0)).set 12 (.int .i64 0)):PF).le F)
  (hK:K (.exit 4) (((((((PF.nil.set 1 (.int .i64 v)).set 2 (ints row)).set 3 (.bJC f.cells)).set 8 (w)).set 10 (.int .i64 d)).set 11 (.int .i64 (row.count (d:Int):Nat)))) H):aB.wp C (.loop ZZ) K F H:=by
 refine wp_loop (α:=Nat) (fun k=>(((((((PF.nil.set 1 (.int .i64 v)).set 2 (ints row)).set 3 (.bJC f.cells)).set 8 (w)).set 10 (.int .i64 d)).set 11 (.int .i64 ((row.take k).count (d:Int):Nat))).set 12 (.int .i64 k))) (fun _=>H) (fun k=>k≤row.length) (fun k=>row.length-k) 0 (bLE _) hF PH.le_refl ?_
 intro k hk
 simp only[go_sem,γ,ZZ,aNJ,bKY]
 by_cases hlt:k<row.length
 ·have bJA:(k:Int)<(row.length:Nat):=by omega
  have hat:(row.map fun n=>[PV.int .i64 n])[k]?=some [.int .i64 row[k]]:=by simp[hlt]
  have hs:=TW (p:=(·==(d:Int))) hlt
  have hle:(row.take k).count (d:Int)≤16777216:=bNE (List.count_le_length ..) (by rw[bLR]; omega)
  simp only[← List.count_eq_countP] at hs
  have fin:∀ (c:Nat) (F':PF),(row.take (k+1)).count (d:Int)=c→((((((((PF.nil.set 1 (.int .i64 v)).set 2 (ints row)).set 3 (.bJC f.cells)).set 8 (w)).set 10 (.int .i64 d)).set 11 (.int .i64 c)).set 12 (.int .i64 (k+1:Nat))):PF).le F' →
    dV (fun k:Nat=>(((((((PF.nil.set 1 (.int .i64 v)).set 2 (ints row)).set 3 (.bJC f.cells)).set 8 (w)).set 10 (.int .i64 d)).set 11 (.int .i64 ((row.take k).count (d:Int):Nat))).set 12 (.int .i64 k))) (fun _=>H) (fun k=>k≤row.length) (fun k=>row.length-k) (row.length-k) K .normal F' H :=
   fun c F' e h=>aE (k+1) hlt Om (by rw[e]; exact h) PH.le_refl
  generalize (row.take k).count (d:Int)=c at *
  generalize row[k]=x at *
  by_cases c1:x=d
  ·rw[if_pos (by simp[c1])] at hs
   simp only[go_sem,γ,bJA,aaE,hat,bN c1,aNK,ws c,aaF,ws k]
   exact fin (c+1) _ hs Lq
  ·rw[if_neg (by simp[c1]),bMV] at hs
   simp only[go_sem,γ,bJA,aaE,hat,bC c1,aaF,ws k]
   exact fin c _ hs Lq
 ·have bJA:¬ (k:Int)<(row.length:Nat):=by omega
  have:k=row.length:=by omega
  subst this
  simp only[go_sem,bJA,bLZ]
  exact Up.up Lq hK
theorem bpV (f:aD) (row:List Int) {k:Nat} (h:k<f.bIS.length):jQ f row k=decide ((row.count (k:Int):Nat)>1):=by
 have:(dU f.bIS.length row)[k]?=some ((row.count (k:Int):Nat):Int):=by
  rw[bLL (by rw[fR]; exact h),SE _ h]
 rw[jQ,bLP,this,bNH]
 exact decide_eq_decide.2 Om
theorem boW {C:Ctx} (f:aD) (hV:VF f) (v:Nat) (row:List Int) (hrl:row.length≤16777216) (l0:List fE) (hl0:l0.length≤16777216) (w0:PV) (K:bY) [Up K] (F:PF) (H:PH)
  (hF:((((((PF.nil.set 1 (.int .i64 v)).set 2 (ints row)).set 3 (.bJC f.cells)).set 8 (w0)).set 10 (.int .i64 0)):PF).le F) (hH:aY H 3 w0 (cP l0))
  (hK:∀ w H',aY H' 3 w (cP (l0++bO 3 v f.bIS.length (jQ f row)))→K (.exit 2) (((((PF.nil.set 1 (.int .i64 v)).set 2 (ints row)).set 3 (.bJC f.cells)).set 8 (w))) H'):aB.wp C (.loop aaA) K F H:=by
 have hs:=hV.small.bIS
 refine wp_loop (α:=Nat × PV × PH) (fun t=>(((((PF.nil.set 1 (.int .i64 v)).set 2 (ints row)).set 3 (.bJC f.cells)).set 8 (t.2.1)).set 10 (.int .i64 t.1))) (fun t=>t.2.2) (fun t=>t.1≤f.bIS.length∧aY t.2.2 3 t.2.1 (cP (l0++bO 3 v t.1 (jQ f row)))) (fun t=>f.bIS.length-t.1) (0,w0,H)
  ⟨bLE _,by rw[show bO 3 v 0 (jQ f row)=[] from rfl,bMP]; exact hH⟩ hF PH.le_refl ?_
 rintro⟨k,w,H0⟩ ⟨hk,hO⟩
 simp only at hk hO ⊢
 simp only[go_sem,δ,γ,θ,aaA,aNG,bKY]
 by_cases hlt:k<f.bIS.length
 ·have bJA:(k:Int)<(f.bIS.length:Nat):=by omega
  have e3:=gG 3 v k (jQ f row)
  have l3:=dE 3 v k (jQ f row)
  rw[bpV f row hlt] at e3
  simp only[go_sem,bJA,aNH,aNI]
  have cnt:=byV (C:=C) f v row hrl w k
  simp only[aB.wp,go_sem] at cnt
  refine cnt _ _ _ Lq ?_
  by_cases c:row.count (k:Int)>1
  ·have c':((row.count (k:Int):Nat):Int)>1:=by omega
   rw[if_pos (by simp; omega)] at e3
   have bKM:(1:Nat)*3≤16777216:=by decide
   simp only[go_sem,υ,δ,γ,η,θ,ζ,aaG,c',aNL,bKM]
   refine dC (src:=[(⟨3,v,k⟩:fE).cells]) hO rfl (by unfold roomFor; rw[fK,bLC]; simp only[bLH,maxLen]; omega) fun v' H' g1 _=>?_
   rw[jL,bMA,← e3] at g1
   simp only[go_sem,γ,aaH,ws k]
   exact aE (k+1,v',H') ⟨hlt,g1⟩ (by simp only; omega) Lq PH.le_refl
  ·have c':¬ ((row.count (k:Int):Nat):Int)>1:=by omega
   rw[if_neg (by simp; omega)] at e3
   rw[← e3] at hO
   simp only[go_sem,γ,aaG,c',aaH,ws k]
   exact aE (k+1,w,H0) ⟨hlt,hO⟩ (by simp only; omega) Lq PH.le_refl
 ·have bJA:¬ (k:Int)<(f.bIS.length:Nat):=by omega
  have:k=f.bIS.length:=by omega
  subst this
  simp only[go_sem,bJA]
  exact Up.up Lq (hK w H0 hO)
def raS (f:aD) (p:cJ):Spec:=fun name vs=>match name,vs with
 | 77,[_,_,.int _ d]=>some ([],fun _=>aF (.bool (p.bIT.contains ((mdl f d.toNat:Nat):Int))))
 | _,_=>none
theorem byQ (f:aD) (p:cJ) (d:Nat):raS f p 77 [.agg p.cells,.agg f.cells,.int .i64 d]=some ([],fun _=>aF (.bool (p.bIT.contains ((mdl f d:Nat):Int)))):=rfl
theorem boU {C:Ctx} (L:SB C) (f:aD) (hV:VF f) (p:cJ) (hp:Fits p.bIT) (o v:Nat) (row:List Int) (hr:uE f row) (l0:List fE) (hl0:l0.length≤100000000) (w0:PV) (K:bY) [Up K] (F:PF) (H:PH)
  (hF:(((((((PF.nil.set 1 (.int .i64 v)).set 2 (ints row)).set 3 (.bJC f.cells)).set 8 (w0)).set 13 (.ptr o 17 0 0)).set 14 (.int .i64 0)):PF).le F) (hH:aY H 3 w0 (cP l0)) (ho:H o=some (.rows 17 [p.cells]))
  (hK:∀ w H',aY H' 3 w (cP (l0++bO 4 v row.length (cU f p row)))→H' o=some (.rows 17 [p.cells])→K (.exit 6) ((((((PF.nil.set 1 (.int .i64 v)).set 2 (ints row)).set 3 (.bJC f.cells)).set 8 (w)).set 13 (.ptr o 17 0 0))) H'):aB.wp C (.loop aaB) K F H:=by
 obtain⟨hr1,hr2⟩:=hr
 refine wp_loop (α:=Nat × PV × PH) (fun t=>((((((PF.nil.set 1 (.int .i64 v)).set 2 (ints row)).set 3 (.bJC f.cells)).set 8 (t.2.1)).set 13 (.ptr o 17 0 0)).set 14 (.int .i64 t.1))) (fun t=>t.2.2) (fun t=>t.1≤row.length∧aY t.2.2 3 t.2.1 (cP (l0++bO 4 v t.1 (cU f p row)))∧t.2.2 o=some (.rows 17 [p.cells])) (fun t=>row.length-t.1) (0,w0,H)
  ⟨bLE _,by rw[show bO 4 v 0 (cU f p row)=[] from rfl,bMP]; exact hH,ho⟩ hF PH.le_refl ?_
 rintro⟨k,w,H0⟩ ⟨hk,hO,ho0⟩
 simp only at hk hO ho0 ⊢
 have hle:=PH.aG PH.nil_le ho0
 simp only[go_sem,γ,aaB,aNO,bKY]
 by_cases hlt:k<row.length
 ·have bJA:(k:Int)<(row.length:Nat):=by omega
  have hat:(row.map fun n=>[PV.int .i64 n])[k]?=some [.int .i64 row[k]]:=by simp[hlt]
  have hx:=hr2 row[k] (bLF hlt)
  have hg:row.getD k 0=row[k]:=by simp[bLP,hlt]
  have ha:cU f p row k=(decide (0≤row[k])&&!p.bIT.contains ((mdl f (row[k]).toNat:Nat):Int)):=by rw[cU,hg]
  have e4:=gG 4 v k (cU f p row)
  have l4:=dE 4 v k (cU f p row)
  rw[ha] at e4
  generalize row[k]=x at *
  have skip:∀ F',bO 4 v (k+1) (cU f p row)=bO 4 v k (cU f p row)→(((((((PF.nil.set 1 (.int .i64 v)).set 2 (ints row)).set 3 (.bJC f.cells)).set 8 (w)).set 13 (.ptr o 17 0 0)).set 14 (.int .i64 (k+1:Nat))):PF).le F' →
    dV (fun t:Nat × PV × PH=>((((((PF.nil.set 1 (.int .i64 v)).set 2 (ints row)).set 3 (.bJC f.cells)).set 8 (t.2.1)).set 13 (.ptr o 17 0 0)).set 14 (.int .i64 t.1))) (fun t=>t.2.2) (fun t=>t.1≤row.length∧aY t.2.2 3 t.2.1 (cP (l0++bO 4 v t.1 (cU f p row)))∧t.2.2 o=some (.rows 17 [p.cells])) (fun t=>row.length-t.1) (row.length-k) K .normal F' H0 :=
   fun F' e h=>aE (k+1,w,H0) ⟨hlt,by simp only; rw[e]; exact hO,ho0⟩ (by simp only; omega) h PH.le_refl
  simp only[go_sem,bJA]
  refine bM (PH.nil.set o (.rows 17 [p.cells])) (raS f p) hle ?_
  by_cases c:x≥0
  ·obtain⟨d,rfl⟩:∃ d:Nat,x=d:=⟨x.toNat,by omega⟩
   have hd:d<f.bIS.length:=by omega
   rw[decide_eq_true (Om:(0:Int)≤d),bLN,bNU] at e4
   simp only[go_sem,δ,γ,reduceCtorEq,aaI,hat,c,ho0]
   refine bE (byQ f p d) (L.allowed f p d hV hp hd) rfl hle ?_
   cases hb:p.bIT.contains ((mdl f d:Nat):Int) with
   | true =>
    rw[hb,if_neg (by decide)] at e4
    simp only[go_sem,γ,bLB,JL,ws k]
    exact skip _ e4 Lq
   | false =>
    rw[hb,if_pos (by decide)] at e4
    have bKM:(1:Nat)*3≤16777216:=by decide
    simp only[go_sem,υ,δ,γ,η,θ,ζ,bLK,aNP,bKM]
    refine dC (src:=[(⟨4,v,k⟩:fE).cells]) hO rfl (by unfold roomFor; rw[fK,bLC]; simp only[bLH,maxLen]; omega) fun v' H' g1 g2=>?_
    rw[jL,bMA,← e4] at g1
    have go:=g2 o _ ho0 (hO.ne ho0 (by decide))
    simp only[go_sem,γ,JL,ws k]
    exact aE (k+1,v',H') ⟨hlt,g1,go⟩ (by simp only; omega) Lq PH.le_refl
  ·rw[decide_eq_false (show ¬ 0≤x from c),bLI,if_neg (by decide)] at e4
   simp only[go_sem,γ,reduceCtorEq,aaI,hat,c,JL,ws k]
   exact skip _ e4 Lq
 ·have bJA:¬ (k:Int)<(row.length:Nat):=by omega
  have:k=row.length:=by omega
  subst this
  simp only[go_sem,bJA]
  exact Up.up Lq (hK w H0 hO ho0)
theorem blC (f:aD) (p:cJ) (row:List Int) {k:Nat} (h0:k≠0) (h:k<f.bIW.length):kO f p row k=(decide (dX f p k>0)&&decide (((row.countP (jV f k):Nat):Int)>dX f p k)):=by
 have:(eA f row)[k]?=some ((row.countP (jV f k):Nat):Int):=by
  simp only[eA,bMH,List.getElem?_range h,bME,nI,if_neg h0]
 rw[kO,bLP,this,bNH]
theorem bcV (f:aD) (hV:VF f) (p:cJ) (v:Int) (row:List Int):bO 5 v 1 (kO f p row)=[]:=by
 have h:=hV.root.1
 have h0:(eA f row)[0]?=some 0:=by
  simp only[eA,bMH,List.getElem?_range h,bME,nI,if_true]
 have:kO f p row 0=false:=by
  rw[kO,bLP,h0,bNH]
  by_cases c:dX f p 0>0
  ·rw[decide_eq_false (Om:¬ (0:Int)>dX f p 0),bMK]
  ·rw[decide_eq_false c,bLI]
 rw[gG,this]; rfl
theorem boV {C:Ctx} (L:SB C) (f:aD) (hV:VF f) (p:cJ) (o v:Nat) (row:List Int) (hr:uE f row) (l0:List fE) (hl0:l0.length≤200000000) (w0:PV) (K:bY) [Up K] (F:PF) (H:PH)
  (hF:(((((((PF.nil.set 1 (.int .i64 v)).set 2 (ints row)).set 3 (.bJC f.cells)).set 8 (w0)).set 13 (.ptr o 17 0 0)).set 15 (.int .i64 1)):PF).le F) (hH:aY H 3 w0 (cP l0)) (ho:H o=some (.rows 17 [p.cells]))
  (hK:∀ w H',aY H' 3 w (cP (l0++bO 5 v f.bIW.length (kO f p row)))→K (.exit 8) ((PF.nil.set 8 (w))) H'):aB.wp C (.loop aaC) K F H:=by
 have hs:=hV.small.bIW
 refine wp_loop (α:=Nat × PV × PH) (fun t=>((((((PF.nil.set 1 (.int .i64 v)).set 2 (ints row)).set 3 (.bJC f.cells)).set 8 (t.2.1)).set 13 (.ptr o 17 0 0)).set 15 (.int .i64 t.1))) (fun t=>t.2.2) (fun t=>1≤t.1∧t.1≤f.bIW.length∧aY t.2.2 3 t.2.1 (cP (l0++bO 5 v t.1 (kO f p row)))∧t.2.2 o=some (.rows 17 [p.cells])) (fun t=>f.bIW.length-t.1) (1,w0,H)
  ⟨bLG _,hV.root.1,by rw[bcV f hV,bMP]; exact hH,ho⟩ hF PH.le_refl ?_
 rintro⟨k,w,H0⟩ ⟨hk1,hk,hO,ho0⟩
 simp only at hk1 hk hO ho0 ⊢
 simp only[go_sem,δ,γ,θ,aaC,aNR,bKY]
 by_cases hlt:k<f.bIW.length
 ·have bJA:(k:Int)<(f.bIW.length:Nat):=by omega
  have e5:=gG 5 v k (kO f p row)
  have l5:=dE 5 v k (kO f p row)
  rw[blC f p row Om hlt] at e5
  obtain⟨q0,q4,-⟩:=hV.pA hlt
  have h5:((lvl f k)<((5:Nat):Int)):=by omega
  have fin:∀ (F':PF),((((((((PF.nil.set 1 (.int .i64 v)).set 2 (ints row)).set 3 (.bJC f.cells)).set 8 (w)).set 13 (.ptr o 17 0 0)).set 15 (.int .i64 k)).set 16 (.int .i64 (dX f p k))):PF).le F' →
    aB.wp C (.seq (.region JM) (.cond (.tmp 145) (.region aaJ) .skip)) (dP 9 (jC C (aB.wp C (.region zB)) (dV (fun t:Nat × PV × PH=>((((((PF.nil.set 1 (.int .i64 v)).set 2 (ints row)).set 3 (.bJC f.cells)).set 8 (t.2.1)).set 13 (.ptr o 17 0 0)).set 15 (.int .i64 t.1))) (fun t=>t.2.2) (fun t=>1≤t.1∧t.1≤f.bIW.length∧aY t.2.2 3 t.2.1 (cP (l0++bO 5 v t.1 (kO f p row)))∧t.2.2 o=some (.rows 17 [p.cells])) (fun t=>f.bIW.length-t.1) (f.bIW.length-k) K))) F' H0:=by
   intro F' hF'
   refine tE _ (fun _ _ _ _ a b=>Up.up a b) hF' ?_
   have hle:row.countP (jV f k)≤16777216:=bNE List.countP_le_length hr.len
   generalize dX f p k=mo at *
   by_cases c1:mo>0
   ·rw[decide_eq_true c1,bLN] at e5
    simp only[go_sem,δ,γ,JM,c1]
    refine aA (L.count f row k hV hr hlt) rfl ?_
    by_cases c2:((row.countP (jV f k):Nat):Int)>mo
    ·rw[decide_eq_true c2,if_pos rfl] at e5
     have bKM:(1:Nat)*3≤16777216:=by decide
     simp only[go_sem,υ,δ,γ,η,θ,ζ,c2,aaJ,bKM]
     refine dC (src:=[(⟨5,v,k⟩:fE).cells]) hO rfl (by unfold roomFor; rw[fK,bLC]; simp only[bLH,maxLen]; omega) fun v' H' g1 g2=>?_
     rw[jL,bMA,← e5] at g1
     have go:=g2 o _ ho0 (hO.ne ho0 (by decide))
     simp only[go_sem,γ,zB,ws k]
     exact aE (k+1,v',H') ⟨by omega,hlt,g1,go⟩ (by simp only; omega) Lq PH.le_refl
    ·rw[decide_eq_false c2,if_neg (by decide)] at e5
     rw[← e5] at hO
     simp only[go_sem,γ,c2,zB,ws k]
     exact aE (k+1,w,H0) ⟨by omega,hlt,hO,ho0⟩ (by simp only; omega) Lq PH.le_refl
   ·rw[decide_eq_false c1,bLI,if_neg (by decide)] at e5
    rw[← e5] at hO
    simp only[go_sem,γ,reduceCtorEq,JM,c1,zB,ws k]
    exact aE (k+1,w,H0) ⟨by omega,hlt,hO,ho0⟩ (by simp only; omega) Lq PH.le_refl
  simp only[aB.wp,go_sem,dX] at fin
  simp only[go_sem,δ,γ,θ,bJA,aNS,eR hlt,yS hlt,q0,h5,Nat.mul_one]
  have hc:lvl f k=0∨lvl f k=1∨lvl f k=2∨lvl f k=3∨lvl f k=4:=by omega
  rcases hc with h | h | h | h | h
  all_goals
   rw[h] at fin ⊢
   simp only[go_sem,ν,δ,γ,θ,ho0]
   exact fin _ (by (repeat' (first|exact PF.nil_le|refine PF.aG ?_ ?_))<;>first|(simp only[go_sem,ν,γ,cJ.spread]<;>rfl)|rfl)
 ·have bJA:¬ (k:Int)<(f.bIW.length:Nat):=by omega
  have:k=f.bIW.length:=by omega
  subst this
  simp only[go_sem,bJA]
  exact Up.up Lq (hK w H0 hO)
theorem brV {f:aD} {row:List Int} (hl:row.length≤16777216) (h:eI (jA f) row 0=none):uE f row:=⟨hl,fun x hx=>by
 have:=vT h x hx
 simp[jA] at this
 omega⟩
theorem bvV {C:Ctx} (L:SB C) (f:aD) (hV:VF f) (bKJ:∀ p∈f.bIX,Fits p.bIT) (v:Nat) (hvf:v<f.bIV.length) (row:List Int) (hrl:row.length≤16777216) :
  QD.wp C (aS baW.res (bQ (mM (aMH f v row)))) (PF.args [.agg f.cells,.int .i64 v,ints row]) .nil:=by
 have h13:(1:Nat)*3≤16777216:=by decide
 simp only[go_sem,δ,γ,QD,a1R,a1S,baW,bKY]
 refine aA (L.frag f v hV hvf) rfl ?_
 unfold aMH
 by_cases c:((row.length:Nat):Int)=eZ f v
 ·rw[if_pos c]
  simp only[go_sem,δ,γ,cA c,a1U]
  refine aA (L.bad f row hrl) rfl ?_
  cases hb:eI (jA f) row 0 with
  | some i =>
   have hbi:tK f row=(i:Int):=by rw[tK,hb]
   simp only[go_sem,υ,δ,γ,η,θ,ζ,aoB,hbi,show (i:Int)≥0 by omega,a1V,h13]
   exact aV (.inr rfl) .nil rfl PH.nil_le ⟨.refl _,rfl⟩
  | none =>
   have hbi:tK f row=-1:=by rw[tK,hb]
   have hr:=brV hrl hb
   obtain⟨hp,he⟩:=qV hV hvf
   have hms:=bKJ _ (bLF hp)
   rw[he] at hms
   have hs:=hV.small
   have s1:=hs.bIS
   have s2:=hs.bIW
   have l2:=dE 2 v row.length (home row)
   have l3:=dE 3 v f.bIS.length (jQ f row)
   have l4:=dE 4 v row.length (cU f (fU f v) row)
   simp only[go_sem,ο,γ,aoB,hbi,show ¬ (-1:Int)≥0 by omega,a1W,a1X]
   have p1:=bvM (C:=C) f v row hr
   simp only[aB.wp,go_sem] at p1
   refine p1 _ _ _ Lq fun w1 H1 g1=>?_
   simp only[go_sem,aNF]
   have p2:=boW (C:=C) f hV v row hrl (bO 2 v row.length (home row)) Om w1
   simp only[aB.wp,go_sem] at p2
   refine p2 _ _ _ Lq g1 fun w2 H2 g2=>?_
   simp only[go_sem]
   refine bM .nil dK PH.nil_le ?_
   simp only[go_sem,δ,γ,θ,aNM,xC hvf,hV.afS hvf,qH hp,he]
   refine aN fun o ho=>?_
   simp only[go_sem,δ,γ,aNN]
   have p3:=boU L f hV (fU f v) hms o v row hr (bO 2 v row.length (home row)++bO 3 v f.bIS.length (jQ f row)) (by rw[bLC]; omega) w2
   simp only[aB.wp,go_sem] at p3
   refine⟨PH.nil_le,?_⟩
   refine p3 _ _ _ Lq (g2.fresh ho _).1 Sq fun w3 H3 g3 k3=>?_
   simp only[go_sem,aNQ]
   have p4:=boV L f hV (fU f v) o v row hr (bO 2 v row.length (home row)++bO 3 v f.bIS.length (jQ f row)++bO 4 v row.length (cU f (fU f v) row)) (by simp only[bLC]; omega) w3
   simp only[aB.wp,go_sem] at p4
   refine p4 _ _ _ Lq g3 k3 fun w4 H4 g4=>?_
   simp only[go_sem,γ,aNT]
   exact kS (.inr rfl) g4 rfl
 ·rw[if_neg c]
  simp only[go_sem,υ,δ,γ,η,θ,ζ,cV c,a1T,h13,bKY]
  exact aV (.inr rfl) .nil rfl PH.nil_le ⟨.refl _,rfl⟩
structure alU (C:Ctx):Prop extends rZ C where
 room:∀ (f:aD) (room:List Int),f.Ok→aH C 85 [.agg f.cells,ints room] .nil (aF (ints (mD f room)))
 loads:∀ (f:aD) (l:List (List Int)),f.Ok→fC l→aH C 84 [.agg f.cells,lay l] .nil (aF (ints (mA f l)))
 row:∀ (f:aD) (v:Nat) (row:List Int),VF f→(∀ p∈f.bIX,Fits p.bIT)→v<f.bIV.length→row.length≤16777216→aH C 90 [.agg f.cells,.int .i64 v,ints row] .nil (aF (mM (aMH f v row)))
def svS (f:aD) (l:List (List Int)) (room:List Int):Spec:=fun name vs=>match name,vs with
 | 90,[_,.int _ v,_]=>some ([],fun _=>aF (mM (sS f l v.toNat)))
 | 85,_=>some ([],fun _=>aF (ints (mD f room)))
 | 84,_=>some ([],fun _=>aF (ints (mA f l)))
 | _,_=>none
theorem bvY {C:Ctx} (f:aD) (hV:VF f) (l:List (List Int)) (room:List Int) (l0:List fE) (hl0:l0.length≤2000000000) (w0:PV) (K:bY) [Up K] (F:PF) (H:PH)
  (hF:(((((PF.nil.set 7 (w0)).set 9 (ints (fX f room))).set 10 (ints (fH f l))).set 11 (.int .i64 0)):PF).le F) (hO:aY H 3 w0 (cP l0))
  (hK:∀ w H',aY H' 3 w (cP (l0++bO 6 (-1) f.bIS.length (over f l room)))→K (.exit 2) ((PF.nil.set 7 (w))) H'):aB.wp C (.loop QG) K F H:=by
 have hs:=hV.small.bIS
 have hrl:=pE f room
 refine wp_loop (α:=Nat × PV × PH) (fun t=>((((PF.nil.set 7 (t.2.1)).set 9 (ints (fX f room))).set 10 (ints (fH f l))).set 11 (.int .i64 t.1))) (fun t=>t.2.2) (fun t=>t.1≤f.bIS.length∧aY t.2.2 3 t.2.1 (cP (l0++bO 6 (-1) t.1 (over f l room)))) (fun t=>f.bIS.length-t.1) (0,w0,H)
  ⟨bLE _,by rw[show bO 6 (-1) 0 (over f l room)=[] from rfl,bMP]; exact hO⟩ hF PH.le_refl ?_
 rintro⟨k,w,H0⟩ ⟨hk,g7⟩
 simp only at hk g7 ⊢
 simp only[go_sem,ο,γ,QG,atZ,bKY,hrl]
 by_cases hlt:k<f.bIS.length
 ·have bJA:(k:Int)<(f.bIS.length:Nat):=by omega
  have hk1:k<(fH f l).length:=by rw[fH,fR]; exact hlt
  have hk2:k<(fX f room).length:=by rw[pE]; exact hlt
  have a1:((fH f l).map fun n=>[PV.int .i64 n])[k]?=some [.int .i64 (fH f l)[k]]:=by simp[hk1]
  have a2:((fX f room).map fun n=>[PV.int .i64 n])[k]?=some [.int .i64 (fX f room)[k]]:=by simp[hk2]
  have ho:over f l room k=decide ((fH f l)[k]>(fX f room)[k]):=by simp only[over,bLP,bLL hk1,bLL hk2,bNH]
  have e6:=gG 6 (-1) k (over f l room)
  have l6:=dE 6 (-1) k (over f l room)
  rw[ho] at e6
  generalize (fH f l)[k]=x at *
  generalize (fX f room)[k]=y at *
  simp only[go_sem,ο,bJA]
  refine bM .nil dK PH.nil_le ?_
  by_cases c:x>y
  ·rw[if_pos (decide_eq_true c)] at e6
   have bKM:(1:Nat)*3≤16777216:=by decide
   simp only[go_sem,ο,υ,δ,γ,η,θ,ζ,QH,a1,a2,c,auA,bKM]
   refine dC (src:=[(⟨6,-1,k⟩:fE).cells]) g7 rfl (by unfold roomFor; rw[fK,bLC]; simp only[bLH,maxLen]; omega) fun v' H' k1 _=>?_
   rw[jL,bMA,← e6] at k1
   simp only[go_sem,ο,γ,QI,ws k]
   exact aE (k+1,v',H') ⟨hlt,k1⟩ (by simp only; omega) Lq PH.le_refl
  ·rw[if_neg (by rw[decide_eq_false c]; decide)] at e6
   rw[← e6] at g7
   simp only[go_sem,ο,γ,QH,a1,a2,c,QI,ws k]
   exact aE (k+1,w,H0) ⟨hlt,g7⟩ (by simp only; omega) Lq PH.le_refl
 ·have bJA:¬ (k:Int)<(f.bIS.length:Nat):=by omega
  have:k=f.bIS.length:=by omega
  subst this
  simp only[go_sem,ο,bJA]
  exact Up.up Lq (hK w H0 g7)
theorem bpH {C:Ctx} (L:alU C) (f:aD) (hf:f.Ok) (l:List (List Int)) (hl:fC l) (room:List Int) :
  JQ.wp C (aS aAR.res (bQ (mM (jR f l room)))) (PF.args [.agg f.cells,lay l,ints room]) .nil:=by
 simp only[go_sem,δ,γ,JQ,aNW,aNX,aAR]
 refine aA (L.valid f hf) rfl ?_
 unfold jR
 have hlr:=hl.rows
 have bKJ:∀ p∈f.bIX,Fits p.bIT:=fun p hp=>(hf.bJI p hp).bIT
 cases hv:cX f with
 | false =>
  simp only[go_sem,ο,γ,reduceCtorEq,bLK,aNY]
  exact kS (rows:=[]) (.inr rfl) .nil rfl
 | true =>
  have hV:=VF.of hv
  by_cases c:l.length=f.bIV.length
  ·have c':(((l.length:Nat):Int) != ((f.bIV.length:Nat):Int))=false:=cA Om
   rw[if_pos c]
   have hv12:=hV.small.bIV
   simp only[go_sem,γ,bLB,aaM,bKY,c',aOA,aOB]
   refine wp_loop (α:=Nat × PV × PH) (fun t=>(((((PF.nil.set 1 (lay l)).set 2 (ints room)).set 3 (.bJC f.cells)).set 7 (t.2.1)).set 8 (.int .i64 t.1))) (fun t=>t.2.2) (fun t=>t.1≤l.length∧aY t.2.2 3 t.2.1 (cP (oL f l t.1))) (fun t=>l.length-t.1) (0,.bIU,.nil) ⟨bLE _,.nil⟩ Lq PH.nil_le ?_
   rintro⟨k,w,H0⟩ ⟨hk,hO⟩
   simp only at hk hO ⊢
   simp only[go_sem,γ,atW,aOC,bKY]
   by_cases hlt:k<l.length
   ·have bJA:(k:Int)<(l.length:Nat):=by omega
    have hfl:=rE hV.small hl (n:=k) Om
    have bJQ:=GC f l k
    have bKM:=ZM hV.small hl hlt
    have hrl:(l[k]).length≤16777216:=by
     have h1:=tL l (k+1)
     have:=hl.all
     rw[oX l hlt,bLC] at h1
     omega
    have hat:(l.map fun r=>[ints r])[k]?=some [ints l[k]]:=by simp[hlt]
    have bJH:=L.row f k l[k] hV bKJ Om hrl
    rw[← show l.getD k []=l[k] by simp[bLP,hlt],← boH] at bJH
    rw[show l.getD k []=l[k] by simp[bLP,hlt]] at bJH
    simp only[go_sem,bJA]
    refine bM .nil (svS f l room) PH.nil_le ?_
    simp only[go_sem,δ,γ,aOD,hat]
    refine bE (show svS f l room 90 [.agg f.cells,.int .i64 k,ints l[k]]=some ([],fun _=>aF (mM (sS f l k))) from rfl) bJH rfl PH.nil_le ?_
    simp only[go_sem,γ]
    refine dC (src:=cP (sS f l k)) hO rfl (by unfold roomFor; rw[fK,fK]; simp only[maxLen]; omega) fun v' H' k1 _=>?_
    have hvr:cP (oL f l k)++cP (sS f l k)=cP (oL f l (k+1)):=by rw[bJQ]; simp only[cP,bMW]
    rw[hvr] at k1
    refine⟨PH.nil_le,?_⟩
    simp only[go_sem,γ,aOE,ws k]
    exact aE (k+1,v',H') ⟨hlt,k1⟩ (by simp only; omega) Lq PH.le_refl
   ·have bJA:¬ (k:Int)<(l.length:Nat):=by omega
    have:k=l.length:=by omega
    subst this
    have hfl:=rE hV.small hl (n:=l.length) (bLG _)
    have bKA:=L.room f room hf
    have hloads:=L.loads f l hf hl
    have e1:mD f room=fX f room:=by rw[mD,hv]; rfl
    have e2:mA f l=fH f l:=by rw[mA,hv]; rfl
    simp only[go_sem,bJA]
    refine bM .nil (svS f l room) PH.nil_le ?_
    simp only[go_sem,δ,γ,atX]
    refine bE (show svS f l room 85 [.agg f.cells,ints room]=some ([],fun _=>aF (ints (mD f room))) from rfl) bKA rfl PH.nil_le ?_
    simp only[go_sem,δ,γ]
    refine bE (show svS f l room 84 [.agg f.cells,lay l]=some ([],fun _=>aF (ints (mA f l))) from rfl) hloads rfl PH.nil_le ?_
    rw[e1,e2]
    simp only[go_sem,γ,atY]
    have p1:=bvY (C:=C) f hV l room (oL f l l.length) Om w
    simp only[aB.wp,go_sem] at p1
    refine p1 _ _ H0 Lq hO fun w' H' hO'=>?_
    simp only[go_sem,γ,auB]
    exact kS (.inr rfl) hO' rfl
  ·have c':(((l.length:Nat):Int) != ((f.bIV.length:Nat):Int))=true:=cV Om
   have h13:(1:Nat)*3≤16777216:=by decide
   rw[if_neg c]
   simp only[go_sem,ο,υ,δ,γ,η,θ,ζ,bLB,aaM,bKY,c',aNZ,h13]
   exact aV (.inr rfl) .nil rfl PH.nil_le ⟨.refl _,rfl⟩
structure bcR (C:Ctx):Prop extends alU C where
 viol:∀ (f:aD) (l:List (List Int)) (room:List Int),f.Ok→fC l→aH C 87 [.agg f.cells,lay l,ints room] .nil (aF (mM (jR f l room)))
theorem bhT {C:Ctx} (L:bcR C) (f:aD) (hf:f.Ok) (l:List (List Int)) (hl:fC l) (room:List Int) :
  DA.wp C (aS agL.res (aF (.bool (oY f l room)))) (PF.args [.agg f.cells,lay l,ints room]) .nil:=by
 simp only[go_sem,δ,γ,DA,atH,atI,agL]
 refine aA (L.valid f hf) rfl ?_
 unfold oY
 cases hv:cX f with
 | false =>
  simp only[go_sem,γ,reduceCtorEq]
  refine aM (.inr rfl) rfl ?_
  rfl
 | true =>
  simp only[go_sem,δ,γ]
  refine aA (L.viol f l room hf hl) rfl ?_
  by_cases c:(jR f l room).length=0
  ·simp only[go_sem,γ,bKY,bN (show (((jR f l room).length:Nat):Int)=0 by omega)]
   refine aM (.inr rfl) rfl ?_
   simp[bF,c]
  ·simp only[go_sem,γ,bKY,bC (show (((jR f l room).length:Nat):Int)≠0 by omega)]
   refine aM (.inr rfl) rfl ?_
   rw[bF,decide_eq_false c]
theorem blJ {C:Ctx} (l:List Int) (hl:Fits l):FY.wp C (aS azX.res (aF (.bool true))) (PF.args [ints l,ints l]) .nil:=by
 have hl':l.length≤9223372036854775807:=hl
 simp only[go_sem,γ,reduceCtorEq,FY,aCW,aCX,azX,bKY,cA (show ((l.length:Nat):Int)=(l.length:Nat) from rfl),aCY]
 refine wp_loop (α:=Nat) (fun k=>(((PF.nil.set 0 (ints l)).set 1 (ints l)).set 5 (.int .i64 k))) (fun _=>.nil) (fun k=>k≤l.length) (fun k=>l.length-k) 0 (bLE _) Lq PH.nil_le ?_
 intro k hk
 simp only[go_sem,γ,reduceCtorEq,aCV,aCZ,bKY]
 by_cases hlt:k<l.length
 ·have bJA:(k:Int)<(l.length:Nat):=by omega
  have hat:(l.map fun x=>[PV.int .i64 x])[k]?=some [.int .i64 l[k]]:=by simp[hlt]
  simp only[go_sem,bJA]
  refine bM .nil dK PH.nil_le ?_
  simp only[go_sem,γ,reduceCtorEq,aDA,hat,cA (show l[k]=l[k] from rfl),aDB,ws k]
  exact aE (k+1) hlt Om Lq PH.le_refl
 ·have bJA:¬ (k:Int)<(l.length:Nat):=by omega
  simp only[go_sem,bJA,aDC]
  refine aM (.inr rfl) rfl ?_
  rfl
theorem bmY {C:Ctx} (l:List fE) (hl:Fits l):HF.wp C (aS aAG.res (aF (.bool true))) (PF.args [mM l,mM l]) .nil:=by
 have hl':l.length≤9223372036854775807:=hl
 simp only[go_sem,γ,reduceCtorEq,HF,aHA,aHB,aAG,bKY,cA (show ((l.length:Nat):Int)=(l.length:Nat) from rfl),aHC]
 refine wp_loop (α:=Nat) (fun k=>(((PF.nil.set 0 (mM l)).set 1 (mM l)).set 5 (.int .i64 k))) (fun _=>.nil) (fun k=>k≤l.length) (fun k=>l.length-k) 0 (bLE _) Lq PH.nil_le ?_
 intro k hk
 simp only[go_sem,γ,reduceCtorEq,aGZ,aHD,bKY]
 by_cases hlt:k<l.length
 ·have bJA:(k:Int)<(l.length:Nat):=by omega
  have hat:(l.map fE.cells)[k]?=some (l[k]).cells:=by simp[hlt]
  simp only[go_sem,bJA]
  refine bM .nil dK PH.nil_le ?_
  simp only[go_sem,δ,γ,reduceCtorEq,aHE,hat,beq_self_eq_true,aHF,ws k]
  exact aE (k+1) hlt Om Lq PH.le_refl
 ·have bJA:¬ (k:Int)<(l.length:Nat):=by omega
  simp only[go_sem,bJA,aHG]
  refine aM (.inr rfl) rfl ?_
  rfl
structure brH (C:Ctx):Prop extends MS C where
 rat:∀ f:aD,f.Ok→∀ d level:Int,aH C 78 [.agg f.cells,.int .i64 d,.int .i64 level] .nil (aF (.int .i64 (atP f d level)))
 rchild:∀ f:aD,f.Ok→∀ d:Int,aH C 79 [.agg f.cells,.int .i64 d] .nil (aF (ints (sC f d)))
 rdrives:∀ f:aD,f.Ok→∀ d:Int,aH C 81 [.agg f.cells,.int .i64 d] .nil (aF (ints (mX f d)))
 rholds:∀ (f:aD) (l:List (List Int)) (room:List Int),f.Ok→fC l→aH C 83 [.agg f.cells,lay l,ints room] .nil (aF (.bool (oY f l room)))
 rloads:∀ (f:aD) (l:List (List Int)),f.Ok→fC l→aH C 84 [.agg f.cells,lay l] .nil (aF (ints (mA f l)))
 rroom:∀ (f:aD) (room:List Int),f.Ok→aH C 85 [.agg f.cells,ints room] .nil (aF (ints (mD f room)))
 rshaped:∀ (f:aD) (l:List (List Int)),f.Ok→fC l→aH C 86 [.agg f.cells,lay l] .nil (aF (.bool (oF f l)))
 rviol:∀ (f:aD) (l:List (List Int)) (room:List Int),f.Ok→fC l→aH C 87 [.agg f.cells,lay l,ints room] .nil (aF (mM (jR f l room)))
 same:∀ l:List Int,Fits l→aH C 94 [ints l,ints l] .nil (aF (.bool true))
 list:∀ l:List fE,Fits l→aH C 22 [mM l,mM l] .nil (aF (.bool true))
theorem aSU {f:aD} (hf:f.Ok) (d:Int):Fits (mX f d):=by
 unfold mX
 split
 ·exact bNE (tW _ _) hf.bIS
 ·exact bLE _
theorem a6L {f:aD} (hf:f.Ok) (d:Int):Fits (sC f d):=by
 unfold sC
 split
 ·exact bNE (tW _ _) hf.bIW
 ·exact bLE _
theorem a6M {f:aD} (hf:f.Ok) (l:List (List Int)):Fits (mA f l):=by
 unfold mA
 split
 ·unfold Fits
  rw[fH,fR]; exact hf.bIS
 ·exact bLE _
theorem bdH {f:aD} (hf:f.Ok) (l:List Int):Fits (mD f l):=by
 unfold mD
 split
 ·unfold Fits
  rw[pE]; exact hf.bIS
 ·exact bLE _
theorem bdI {f:aD} {l:List (List Int)} (hl:fC l) (room:List Int):Fits (jR f l room):=by
 unfold jR Fits
 split
 ·rename_i hv
  have hV:=VF.of hv
  split
  ·rename_i he
   have h1:=rE hV.small hl (n:=l.length) (bLG _)
   have h2:=dE 6 (-1) f.bIS.length (over f l room)
   have h3:=hV.small.bIV
   have h4:=hV.small.bIS
   rw[brR,bLC]
   omega
  ·simp
 ·simp
def agS (f:aD) (l:List (List Int)) (room:List Int) (d level dom:Int):Spec:=fun name _=>match name with
 | 147 | 78=>some ([],fun _=>aF (.int .i64 (atP f d level)))
 | 149 | 81=>some ([],fun _=>aF (ints (mX f dom)))
 | 148 | 79=>some ([],fun _=>aF (ints (sC f dom)))
 | 151 | 84=>some ([],fun _=>aF (ints (mA f l)))
 | 152 | 85=>some ([],fun _=>aF (ints (mD f room)))
 | 153 | 86=>some ([],fun _=>aF (.bool (oF f l)))
 | 154 | 87=>some ([],fun _=>aF (mM (jR f l room)))
 | 150 | 83=>some ([],fun _=>aF (.bool (oY f l room)))
 | 94 | 22=>some ([],fun _=>aF (.bool true))
 | _=>none
theorem aVQ (b:Bool):((b==b) != false)=true:=by cases b<;>rfl
theorem a7P {C:Ctx} (L:brH C) (f:aD) (hf:f.Ok) (l:List (List Int)) (hl:fC l) (room:List Int) (d level dom:Int) :
  yQ.wp C (aS SQ.res (aF (.bool true))) (PF.args [.agg f.cells,lay l,ints room,.int .i64 d,.int .i64 level,.int .i64 dom]) .nil:=by
 have b1:=aVQ (oF f l)
 have b2:=aVQ (oY f l room)
 simp only[go_sem,yQ,adJ,SQ]
 refine bM .nil (agS f l room d level dom) PH.nil_le ?_
 simp only[go_sem,δ,γ,adK]
 refine bE rfl (L.at_ f hf d level) rfl PH.nil_le ?_
 simp only[go_sem,δ,γ]
 refine bE rfl (L.rat f hf d level) rfl PH.nil_le ?_
 simp only[go_sem,δ,γ,bN (show atP f d level=atP f d level from rfl)]
 refine bE rfl (L.bIS f hf dom) rfl PH.nil_le ?_
 simp only[go_sem,δ,γ]
 refine bE rfl (L.rdrives f hf dom) rfl PH.nil_le ?_
 simp only[go_sem,γ]
 refine bE rfl (L.same _ (aSU hf dom)) rfl PH.nil_le ?_
 simp only[go_sem,δ,γ]
 refine bE rfl (L.child f hf dom) rfl PH.nil_le ?_
 simp only[go_sem,δ,γ]
 refine bE rfl (L.rchild f hf dom) rfl PH.nil_le ?_
 simp only[go_sem,γ]
 refine bE rfl (L.same _ (a6L hf dom)) rfl PH.nil_le ?_
 simp only[go_sem,δ,γ]
 refine bE rfl (L.loads f l hf hl) rfl PH.nil_le ?_
 simp only[go_sem,δ,γ]
 refine bE rfl (L.rloads f l hf hl) rfl PH.nil_le ?_
 simp only[go_sem,γ]
 refine bE rfl (L.same _ (a6M hf l)) rfl PH.nil_le ?_
 simp only[go_sem,δ,γ]
 refine bE rfl (L.room f room hf) rfl PH.nil_le ?_
 simp only[go_sem,δ,γ]
 refine bE rfl (L.rroom f room hf) rfl PH.nil_le ?_
 simp only[go_sem,γ]
 refine bE rfl (L.same _ (bdH hf room)) rfl PH.nil_le ?_
 simp only[go_sem,δ,γ]
 refine bE rfl (L.shaped f l hf hl) rfl PH.nil_le ?_
 simp only[go_sem,δ,γ]
 refine bE rfl (L.rshaped f l hf hl) rfl PH.nil_le ?_
 simp only[go_sem,δ,γ,b1]
 refine bE rfl (L.viol f l room hf hl) rfl PH.nil_le ?_
 simp only[go_sem,δ,γ]
 refine bE rfl (L.rviol f l room hf hl) rfl PH.nil_le ?_
 simp only[go_sem,γ]
 refine bE rfl (L.list _ (bdI hl room)) rfl PH.nil_le ?_
 simp only[go_sem,δ,γ]
 refine bE rfl (L.holds f l room hf hl) rfl PH.nil_le ?_
 simp only[go_sem,δ,γ]
 refine bE rfl (L.rholds f l room hf hl) rfl PH.nil_le ?_
 simp only[go_sem,γ,b2]
 refine aM (.inr rfl) rfl ?_
 rfl
def jG (l:List (List Int)):Nat→Nat
 | 0=>l.length
 | k+1=>jG l k+(l.getD k []).length
theorem UE (l:List (List Int)):∀ {k n:Nat},k≤n→jG l k≤jG l n
 | k,0,h=>by rw[Nat.le_zero.1 h]; exact bLG _
 | k,n+1,h=>by
  rcases bLS k (n+1) with h1 | h1
  ·rw[jG]
   have:=UE l (k:=k) (n:=n) Om
   omega
  ·rw[show k=n+1 by omega]; exact bLG _
def aGP (l:List (List Int)):Bool:=decide (300≤jG l l.length)
theorem beL {C:Ctx} (l:List (List Int)) (hl:l.length≤1000000000000000) (hr:∀ r∈l,r.length≤1000000000000000) :
  BS.wp C (aS adM.res (aF (.bool (aGP l)))) (PF.args [lay l]) .nil:=by
 simp only[go_sem,γ,reduceCtorEq,BS,aqC,aqD,aqE,adM,bKY]
 refine wp_loop (α:=Nat) (fun k=>(((PF.nil.set 0 (lay l)).set 3 (.int .i64 (jG l k:Nat))).set 4 (.int .i64 k))) (fun _=>.nil) (fun k=>k≤l.length∧jG l k≤2000000000000000) (fun k=>l.length-k) 0 ⟨bLE _,by rw[jG]; omega⟩ (by (repeat' (first|exact PF.nil_le|refine PF.aG ?_ ?_))<;>first|(simp only[go_sem,γ,reduceCtorEq,jG]<;>rfl)|rfl) PH.nil_le ?_
 rintro k ⟨hk,hb⟩
 have hm:=UE l hk
 unfold aGP
 simp only[go_sem,γ,reduceCtorEq,aqB,aqF,bKY]
 by_cases hlt:k<l.length
 ·have bJA:(k:Int)<(l.length:Nat):=by omega
  by_cases c:jG l k<300
  ·have c':((jG l k:Nat):Int)<300:=by omega
   have hat:(l.map fun r=>[ints r])[k]?=some [ints l[k]]:=by simp[hlt]
   have hrk:=hr _ (bLF hlt)
   have hs:jG l (k+1)=jG l k+(l[k]).length:=by rw[jG]; simp[bLP,hlt]
   have hw:IntKind.i64.wrap (((jG l k:Nat):Int)+((l[k]).length:Nat))=(jG l (k+1):Nat):=by
    rw[hs,wrap_i64 Om Om]; omega
   simp only[go_sem,γ,reduceCtorEq,bJA,c',aqG,hat,bKY,hw,aqH,ws k]
   exact aE (k+1) ⟨hlt,by rw[hs]; omega⟩ Om Lq PH.le_refl
  ·have c':¬ ((jG l k:Nat):Int)<300:=by omega
   simp only[go_sem,γ,reduceCtorEq,bJA,c',NZ,show ((jG l k:Nat):Int)≥300 by omega]
   refine aM (.inr rfl) rfl ?_
   rw[bF,decide_eq_true (Om:300≤jG l l.length)]
 ·have bJA:¬ (k:Int)<(l.length:Nat):=by omega
  have:k=l.length:=by omega
  subst this
  simp only[go_sem,γ,reduceCtorEq,bJA,NZ]
  refine aM (.inr rfl) rfl ?_
  rw[bF]
  exact congrArg PV.bool (decide_eq_decide.2 Om)
structure aVL (C:Ctx):Prop extends aBN C where
 agrees:∀ (f:aD) (l:List (List Int)) (room:List Int) (d level dom:Int),f.Ok→fC l→aH C 19 [.agg f.cells,lay l,ints room,.int .i64 d,.int .i64 level,.int .i64 dom] .nil (aF (.bool true))
 heavy:∀ l:List (List Int),l.length≤1000000000000000→(∀ r∈l,r.length≤1000000000000000)→aH C 21 [lay l] .nil (aF (.bool (aGP l)))
theorem a7T {f:aD} (hv:cX f=true) {l:List (List Int)} (hS:xZ f l):oF f l=true:=by
 unfold oF
 rw[hv,decide_eq_true hS.len,bLN,bLN,bLU]
 intro v hm
 rw[hS.shape (bMQ.1 hm)]
 rfl
theorem bnC {C:Ctx} (Lb:aVL C) (l:List Nat) (hb:∀ x∈l,x<256) (hl:l.length≤9223372036854775807) :
  HG.wp C (aS aAH.res (aF (.bool true))) (PF.args [.sl 1 (jW l)]) .nil:=by
 obtain⟨hv,hf⟩:=blR l (d:=10) (v:=4) (by decide) (by decide)
 have hV:=VF.of hv
 have hd:=hV.small.bIS
 have hS:=bEB l (d:=10) (v:=4) (by decide) (by decide)
 have a1:=NK (l.take 400) 10 4 (bLE _)
 have a2:=(sK (l.take 400) (fT l 10 4) a1 (fT l 10 4).bIV.length).1
 have hOk:=hS.ok hV
 have hsh:=a7T hv hS
 generalize hLe:lT l 10 4=L at *
 generalize hRe:rT l 10 4=raw at *
 have hLe':(cR (l.take 400) (fT l 10 4) (faT l 10 4) (fT l 10 4).bIV.length).1=L:=hLe
 have hRe':(mR (l.take 400) (fT l 10 4) (laT l 10 4)).1=raw:=hRe
 simp only[go_sem,reduceCtorEq,HG,aHH,aAH,aHI]
 refine aQ.nil.buV Lb.toRZ hb hl rfl fun o v H1 T h1=>?_
 simp only[go_sem,γ,aHJ]
 refine h1.bpQ 0 rfl (Lb.tfleet _ v T o 10 4 0 (by decide) (by decide) (bLE _)) rfl fun H2 h2=>?_
 simp only[go_sem,δ]
 refine h2.bDL fun q H3 h3=>?_
 have e3:=h3.at 1 rfl
 have h4:=h3.set 1 rfl (.rows 7 [(fT l 10 4).cells])
 have e4:=h4.at 1 rfl
 simp only[go_sem,δ,γ,e3,aHK]
 refine h4.bpQ 0 rfl (Lb.tlayout _ v T o (faT l 10 4) (fT l 10 4) hV a1) rfl fun H5 h5=>?_
 rw[hLe']
 have e5:=h5.at 1 rfl
 have htr:=Lb.AP _ v T o (laT l 10 4) (fT l 10 4) Om a2
 rw[hRe'] at htr
 simp only[go_sem,δ,γ,aHL,e5]
 refine h5.bpQ 0 rfl htr rfl fun H6 h6=>?_
 have e6:=h6.at 1 rfl
 have hsp:=Lb.shaped _ L hf hOk
 rw[hsh] at hsp
 simp only[go_sem,δ,γ,aHM,e6]
 refine aA hsp rfl ?_
 simp only[go_sem,δ,γ,e6]
 refine aA (Lb.agrees _ L raw 0 4 0 hf hOk) rfl ?_
 simp only[go_sem,γ]
 refine aA Lb.awake rfl ?_
 simp only[go_sem,γ]
 refine aM (.inr rfl) rfl ?_
 rfl
structure gR (C:Ctx):Prop extends abI C where
 r19:aL C 19 SQ
 r21:aL C 21 adM
 r22:aL C 22 aAG
 r46:aL C 46 aRB
 r48:aL C 48 aiX
 r49:aL C 49 aBF
 r51:aL C 51 ajF
 r52:aL C 52 TN
 r53:aL C 53 aBH
 r54:aL C 54 aBI
 r55:aL C 55 bcA
 r56:aL C 56 ajL
 r57:aL C 57 aBE
 r60:aL C 60 ajK
 r61:aL C 61 AH
 r62:aL C 62 TP
 r63:aL C 63 ajM
 r64:aL C 64 TO
 r65:aL C 65 TQ
 r66:aL C 66 bcL
 r67:aL C 67 akR
 r68:aL C 68 bcK
 r69:aL C 69 bcI
 r70:aL C 70 akD
 r71:aL C 71 akE
 r72:aL C 72 LH
 r73:aL C 73 akF
 r74:aL C 74 akG
 r75:aL C 75 TR
 r76:aL C 76 FP
 r77:aL C 77 JD
 r78:aL C 78 sat
 r79:aL C 79 afZ
 r80:aL C 80 agB
 r81:aL C 81 TC
 r83:aL C 83 agL
 r84:aL C 84 agM
 r85:aL C 85 aAQ
 r86:aL C 86 TE
 r87:aL C 87 aAR
 r88:aL C 88 afY
 r89:aL C 89 baP
 r90:aL C 90 baW
 r94:aL C 94 azX
theorem baF {C:Ctx} (c:gR C):azW C :=
 {afU c.toeH with
  int:=fun n hn=>(c.r47.go (a4C (afU c.toeH) n hn) rfl).seen
  mul:=fun a b ha hb la lb=>(c.r36.go (bwH (bgW c.toeH) a b ha hb la lb) rfl).seen
  add:=fun a b ha hb la lb=>(c.r30.go (bvZ (aLZ c.toeH) a b ha hb la lb) rfl).seen
  sub:=fun a b ha hb la lb=>(c.r37.go (bwL (aLZ c.toeH) a b ha hb la lb) rfl).seen }
theorem aMA {C:Ctx} (c:gR C):abR C :=
 {baF c with
  valid:=fun x hx=>c.r56.go (bkA (baF c) x.neg x.num x.den hx.1 hx.2.1 hx.2.2.1 hx.2.2.2) rfl
  big:=fun x=>c.r48.go (bjU x.1 (aI x.2.1) (aI x.2.2)) rfl }
theorem bgX {C:Ctx} (c:gR C):aBW C :=
 {aMA c with
  fits:=fun x=>(c.r57.go (bqO (aMA c) x) rfl).seen
  red:=fun x hx=>(c.r52.go (bbY (aMA c) x hx) rfl).seen
  prod:=fun a b ha hb la lb na nb=>c.r60.go (bjY (baF c) a b ha hb la lb na nb) rfl }
theorem PK {C:Ctx} (c:gR C):yA C :=
 {bgX c with
  order:=fun x y hx hy vx vy=>c.r51.go (bjW (bgX c) x y hx hy vx vy) rfl }
theorem brP {C:Ctx} (c:gR C):a5L C :=
 {PK c with
  less:=fun x y hx hy vx vy=>c.r49.go (bqR (PK c) x y hx hy vx vy) rfl
  same:=fun x y hx hy vx vy=>c.r53.go (bqV (PK c) x y hx hy vx vy) rfl
  sign:=fun x hx vx=>c.r54.go (bqX (PK c) x hx vx) rfl
  plus:=fun x y hx hy=>(c.r46.go (bwN (PK c) x y hx hy) rfl).seen }
theorem aLX {C:Ctx} (c:gR C):abN C :=
 {brP c with
  sum:=fun l hl hf=>(c.r55.go (bwR (brP c) l hl hf) rfl).seen
  inn:=fun n lo hi=>c.r76.go (bcO n lo hi) rfl
  code:=fun k m=>c.r61.go (boY k m) rfl }
theorem a1C {C:Ctx} (c:gR C):alO C :=
 {aLX c with
  small:=fun x hx=>c.r74.go (bkN (aLX c) x hx) rfl
  nums:=fun k m q s0 s1 s2 s3 s4=>c.r72.go (aVJ (aLX c) k m q s0 s1 s2 s3 s4) rfl
  sizes:=fun x1 x2 x3 x4 x5 x6=>c.r73.go (bkL x1 x2 x3 x4 x5 x6) rfl }
theorem a1D {C:Ctx} (c:gR C):alP C :=
 {a1C c with
  smalls:=fun l hl n=>c.r75.go (bcM (a1C c) l hl n) rfl }
theorem a1E {C:Ctx} (c:gR C):alQ C :=
 {a1D c with
  reps:=fun l hl m=>c.r66.go (bwY (a1D c) l hl m) rfl }
theorem a1F {C:Ctx} (c:gR C):alR C :=
 have letter:∀ n:Nat,aH C 65 [.int .u8 n] .nil (aF (.bool (eO n))):=fun n=>c.r65.go (bcF n) rfl
 have digit:∀ n:Nat,aH C 63 [.int .u8 n] .nil (aF (.bool (lW n))):=fun n=>c.r63.go (bkC n) rfl
 {a1E c with
  name:=fun s=>c.r62.go (bcD letter (fun n=>c.r64.go (bcB letter digit n) rfl) s) rfl
  index:=fun l hl s=>c.r71.go (bkI l hl s) rfl }
theorem a1G {C:Ctx} (c:gR C):pH C :=
 {a1F c with
  fresh:=fun l hl s w H hH=>c.r70.go (bkG (a1F c) l hl s w H hH) rfl }
theorem bvH {C:Ctx} (c:gR C):rC C :=
 {a1G c with
  law:=fun l hl=>c.r68.go (bwW (a1G c) l hl) rfl }
theorem bvI {C:Ctx} (c:gR C):alS C :=
 {bvH c with
  dur:=fun m rep hr t h ht hh=>c.r69.go (bwU (a1E c) m rep hr t h ht hh) rfl }
theorem vJ {C:Ctx} (c:gR C):rZ C :=
 {valid:=fun f hf=>c.r67.go (bkR (bvI c) f hf) rfl
  kN:=fun f d level hv hd h0 h4=>c.r88.go (bhF f hv d hd level h0 h4) rfl
  frag:=fun f v hv h=>(c.r82.go (aMO f hv v h) rfl).seen }
theorem a1H {C:Ctx} (c:gR C):alT C :=
 {vJ c with
  bad:=fun f row hl=>c.r89.go (bvN f row hl) rfl }
theorem bvJ {C:Ctx} (c:gR C):SB C :=
 {a1H c with
  allowed:=fun f p d hV hp hd=>c.r77.go (aUY f hV p hp d hd) rfl
  count:=fun f row n hV hr hn=>c.r80.go (bhM (vJ c) f hV row hr n hn) rfl }
theorem SY {C:Ctx} (c:gR C):alU C :=
 {vJ c with
  room:=fun f room hf=>(c.r85.go (bpD (vJ c) f hf room) rfl).seen
  loads:=fun f l hf hl=>(c.r84.go (bhX (vJ c) f hf l hl) rfl).seen
  row:=fun f v row hV bKJ hvf hrl=>(c.r90.go (bvV (bvJ c) f hV bKJ v hvf row hrl) rfl).seen }
theorem bgT {C:Ctx} (c:gR C):bcR C :=
 {SY c with
  viol:=fun f l room hf hl=>(c.r87.go (bpH (SY c) f hf l hl room) rfl).seen }
theorem bBM {C:Ctx} (c:gR C) (hi:rU C):brH C :=
 {adH c.toeH hi with
  rat:=fun f hf d level=>c.r78.go (byW (vJ c) f hf d level) rfl
  rchild:=fun f hf d=>(c.r79.go (bhK (vJ c) f hf d) rfl).seen
  rdrives:=fun f hf d=>(c.r81.go (baQ (vJ c) f hf d) rfl).seen
  rholds:=fun f l room hf hl=>c.r83.go (bhT (bgT c) f hf l hl room) rfl
  rloads:=(SY c).loads
  rroom:=(SY c).room
  rshaped:=fun f l hf hl=>c.r86.go (baX (a1H c) f hf l hl) rfl
  rviol:=(bgT c).viol
  same:=fun l hl=>c.r94.go (blJ l hl) rfl
  list:=fun l hl=>c.r22.go (bmY l hl) rfl }
theorem btS {C:Ctx} (c:gR C) (hi:rU C):aVL C :=
 {bBL c.toabI hi with
  agrees:=fun f l room d level dom hf hl=>c.r19.go (a7P (bBM c hi) f hf l hl room d level dom) rfl
  heavy:=fun l hl hr=>c.r21.go (beL l hl hr) rfl }
theorem a7O {C:Ctx} (c:gR C) (hi:rU C) (r:aL C 13 aAH) (l:List Nat) (hb:∀ x∈l,x<256) (hl:l.length≤9223372036854775807):aH C 13 [.sl 1 (jW l)] .nil (aF (.bool true)) :=
 r.go (bnC (btS c hi) l hb hl) rfl
end Go.PM
