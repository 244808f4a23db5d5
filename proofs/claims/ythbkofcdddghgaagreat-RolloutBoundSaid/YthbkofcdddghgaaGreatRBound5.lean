/-
  Texts of ours, joined: RfW4 RfW5 R2Code R2W1 R2W2 R2W3 R2W4 R2W5 R2W6 R2W7 R2W8 R3W1 R3W2 R3W3 R8W1 R10W1 R10W2 R10W3 R10W4 R10P1 R10W5 R10W6 R10W7 R10W8 R10W9 R10W10 R10W11 R10W12 Jw1. No condition.
-/
import Derived.Test.YthbkofcdddghgaaGreatRBound1
import Derived.Test.YthbkofcdddghgaaGreatRBound2
import Derived.Test.YthbkofcdddghgaaGreatRBound3
import Derived.Test.YthbkofcdddghgaaGreatRBound4

set_option linter.unusedSimpArgs false
set_option linter.unusedVariables false
open Nat renaming reduceEqDiff → γ, reduceAdd → δ, reduceSub → ε, reduceMul → ζ, reduceLT → η, reduceLeDiff → θ, reduceBEq → τ
open Int renaming reduceLT → ι, reduceLE → κ, reduceEq → μ, reduceToNat → ν, reduceAdd → ξ, reduceNeg → ο, reduceBEq → ρ, reduceBNe → σ
open List renaming reduceReplicate → υ
open List renaming length_map → bJC, range → bJD, replicate → bJE, getElem_mem → bJG, length_append → bJL, getElem?_eq_getElem → bJN, mem_cons → bJR, take_of_length_le → bJS, length_singleton → bJT, length_take → bJU, all_eq_true → bJW, getD_eq_getElem?_getD → bJX, take_length → bKB, append_assoc → bKD, mem_range → bKE, drop_zero → bKG, getElem?_map → bKH, mem_map → bKI, getElem?_eq_none → bKM, getElem?_eq_some_iff → bKN, mem_append → bKO, mem_singleton → bKP, length_cons → bKQ, not_mem_nil → bKS, drop_eq_getElem_cons → bKY, getElem?_append_right → bKZ, length_set → bLA, map_cons → bLB, take_succ_eq_append_getElem → bLC, append_nil → bLD, length_drop → bLF, Sublist → bLJ, getElem_map → bLK, getElem_of_mem → bLL, getElem?_append_left → bLN, length_nil → bLO, nodup_append → bLP, contains_iff_mem → bLR, map_append → bLS, mem_of_getElem? → bLT, take_append_drop → bLU, nil_append → bMC, length_replicate → bMG, getElem?_take → bMJ, drop_of_length_le → bMO, getElem?_drop → bMP, eq_nil_of_length_eq_zero → bMQ, set_append_right → bMR, getElem?_take_of_lt → bMS
open Nat renaming le_refl → bJF, gcd → bJH, zero_le → bJO, mul_add → bJP, lt_or_ge → bJV, mul_assoc → bJY, mul_comm → bKA, zero_add → bKC, add_mul → bKF, mul_le_mul_right → bKJ, mod_eq_of_lt → bKK, mod_lt → bKR, add_zero → bKU, pow_succ → bKV, min_eq_left → bLG, mul_le_mul_left → bLH, pos_of_ne_zero → bLI, add_assoc → bLM, pow_pos → bLV, div_lt_iff_lt_mul → bLX, sub_self → bLY, succ_mul → bLZ, eq_zero_or_pos → bMD, div_add_mod → bMK, div_eq_of_lt → bML
open Bool renaming false_and → bJI, not_true → bJK, true_and → bJM, not_false → bJQ, and_eq_true → bJZ, and_false → bKT, and_true → bLE, and_assoc → bMB, false_eq_true → bME
open Option renaming map_eq_some_iff → bJJ, map_some → bKL, getD_some → bLQ, some → bLW, bind_eq_some_iff → bMH, bind_some → bMM
open Array renaming replicate → bKW, length_toList → bMA, getElem?_eq_getElem → bMI, getElem?_eq_some_iff → bMN
open Int renaming tdiv → bKX, toNat_natCast → bMF
namespace Go.PM
open Go Go.Na
structure bkD (C:Ctx):Prop where
 VG:∀ (f:aJ) (v:Nat),VF f→v<f.bHA.length→aD C 156 [.agg f.cells,.int .i64 v] .nil (aE (.int .i64 (eY f v)))
structure bkG (C:Ctx):Prop where
 valid:∀ f:aJ,f.Ok→aD C 161 [.agg f.cells] .nil (aE (.bool (dS f)))
 shape:∀ (f:aJ) (l:List (List Int)) (v:Nat),VF f→iV l→v<l.length→v<f.bHA.length→aD C 160 [.agg f.cells,lay l,.int .i64 v] .nil (aE (shV (lE f l v)))
structure bkE (C:Ctx):Prop where
 valid:∀ f:aJ,f.Ok→aD C 67 [.agg f.cells] .nil (aE (.bool (dS f)))
structure bkF (C:Ctx):Prop where
 valid:∀ f:aJ,f.Ok→aD C 67 [.agg f.cells] .nil (aE (.bool (dS f)))
 VG:∀ (f:aJ) (v:Nat),VF f→v<f.bHA.length→aD C 82 [.agg f.cells,.int .i64 v] .nil (aE (.int .i64 (eY f v)))
 bad:∀ (f:aJ) (row:List Int),row.length≤16777216→aD C 89 [.agg f.cells,ints row] .nil (aE (.int .i64 (DI f row)))
theorem a1H {C:Ctx} (L:bkD C) (f:aJ) (hV:VF f) (l:List (List Int)) (hl:iV l) (v:Nat) (hv:v<l.length) (hvf:v<f.bHA.length) :
  AE.wp C (aT wW.res (bZ (shV (lE f l v)))) (PF.args [.agg f.cells,lay l,.int .i64 v]) .nil:=by
 have hr:(l.map fun r=>[ints r])[v]?=some [ints l[v]]:=by simp[hv]
 have hg:l.getD v []=l[v]:=by simp[bJX,hv]
 have hrl:(l[v]).length≤16777216:=by
  have h1:=axU l (v+1)
  have:=hl.all
  rw[LG l hv,bJL] at h1
  omega
 unfold lE
 rw[hg]
 simp only[go_sem,γ,δ,ε,ζ,η,θ,ι,κ,μ,ν,ξ,ο,ρ,σ,τ,υ,reduceIte,reduceCtorEq,AE,aqD]
 refine aQ fun o ho=>?_
 simp only[go_sem,γ,δ,ε,ζ,η,θ,ι,κ,μ,ν,ξ,ο,ρ,σ,τ,υ,reduceIte,reduceCtorEq]
 refine bU .nil (toS f) PH.nil_le ?_
 generalize l[v]=row at *
 have fin:∀ (x:avN) (F:PF) (H:PH),F 6=some (.ptr o 3 0 0)→F 7=some (.bool true)→H o=some (.rows 3 [x.cells])→aT wW.res (bZ (shV (some x))) .ret F H:=by
  intro x F H h6 h7 hH
  refine aX (.inr rfl) .nil (vs:=[.agg x.cells,.bool true]) ?_ PH.nil_le ⟨.refl _,rfl⟩
  simp only[go_sem,γ,δ,ε,ζ,η,θ,ι,κ,μ,ν,ξ,ο,ρ,σ,τ,υ,reduceIte,reduceCtorEq,wW,h6,h7,hH]
 simp only[go_sem,γ,δ,ε,ζ,η,θ,ι,κ,μ,ν,ξ,ο,ρ,σ,τ,υ,reduceIte,reduceCtorEq,aqE,hr,bJC]
 refine bQ (bhM f v) (L.VG f v hV hvf) Ev PH.nil_le ?_
 by_cases c:((row.length:Nat):Int)=eY f v
 ·rw[if_pos c]
  simp only[go_sem,γ,δ,ε,ζ,η,θ,ι,κ,μ,ν,ξ,ο,ρ,σ,τ,υ,reduceIte,reduceCtorEq,cG c,aqG,hr,bJC]
  refine wp_loop (α:=Nat) (fun k=>bhO f o v row k) (fun k=>PH.nil.set o (.rows 3 [[.int .i64 0,.int .i64 0,.int .i64 0]])) (fun k=>k≤row.length∧eS (jA f) row 0=eS (jA f) (row.drop k) k) (fun k=>row.length-k) 0 ⟨bJO _,rfl⟩ ?_ PH.le_refl ?_
  ·unfold bhO
   (repeat' (first|exact PF.nil_le|refine PF.aI ?_ ?_))<;>first|(simp only[go_sem,γ,δ,ε,ζ,η,θ,ι,κ,μ,ν,ξ,ο,ρ,σ,τ,υ,reduceIte,reduceCtorEq,bJC]<;>rfl)|rfl
  rintro k ⟨hk,hb⟩
  simp only[go_sem,γ,δ,ε,ζ,η,θ,ι,κ,μ,ν,ξ,ο,ρ,σ,τ,υ,reduceIte,reduceCtorEq,aqC,aqH,bhO]
  by_cases hlt:k<row.length
  ·have bHF:(k:Int)<(row.length:Nat):=by omega
   have hrk:(row.map fun n=>[PV.int .i64 n])[k]?=some [.int .i64 row[k]]:=by simp[hlt]
   have hdr:eS (jA f) (row.drop k) k=if jA f row[k] then some k else eS (jA f) (row.drop (k+1)) (k+1):=by
    rw[bKY hlt,eS]
   rw[hdr] at hb
   by_cases c1:row[k] < -1
   ·have hbd:jA f row[k]=true:=by simp[jA,c1]
    rw[hbd] at hb
    simp only[go_sem,γ,δ,ε,ζ,η,θ,ι,κ,μ,ν,ξ,ο,ρ,σ,τ,υ,reduceIte,reduceCtorEq,bHF,yI,hrk,yJ,c1,ON]
    rw[hb]
    exact fin ⟨1,v,k⟩ _ _ Sq Sq Sq
   ·by_cases c2:row[k]≥(f.bGY.length:Nat)
    ·have hbd:jA f row[k]=true:=by simp[jA,c2]
     rw[hbd] at hb
     simp only[go_sem,γ,δ,ε,ζ,η,θ,ι,κ,μ,ν,ξ,ο,ρ,σ,τ,υ,reduceIte,reduceCtorEq,bHF,yI,hrk,yJ,c1,bJC,c2,ON]
     rw[hb]
     exact fin ⟨1,v,k⟩ _ _ Sq Sq Sq
    ·have hbd:jA f row[k]=false:=by simp[jA]; omega
     rw[hbd] at hb
     simp only[go_sem,γ,δ,ε,ζ,η,θ,ι,κ,μ,ν,ξ,ο,ρ,σ,τ,υ,reduceIte,reduceCtorEq,bHF,yI,hrk,yJ,c1,bJC,c2,aqI,wZz k]
     refine aK (k+1) ⟨hlt,hb⟩ Om ?_ PH.le_refl
     exact Lq
  ·have bHF:¬ (k:Int)<(row.length:Nat):=by omega
   have:k=row.length:=by omega
   subst this
   rw[List.drop_length,eS] at hb
   simp only[go_sem,γ,δ,ε,ζ,η,θ,ι,κ,μ,ν,ξ,ο,ρ,σ,τ,υ,reduceIte,reduceCtorEq,bHF,aeH]
   rw[hb]
   refine aX (.inr rfl) .nil (vs:=[.agg [.int .i64 0,.int .i64 0,.int .i64 0],.bool false]) ?_ PH.nil_le ⟨.refl _,rfl⟩
   simp only[go_sem,γ,δ,ε,ζ,η,θ,ι,κ,μ,ν,ξ,ο,ρ,σ,τ,υ,reduceIte,reduceCtorEq,wW]
 ·rw[if_neg c]
  simp only[go_sem,γ,δ,ε,ζ,η,θ,ι,κ,μ,ν,ξ,ο,ρ,σ,τ,υ,reduceIte,reduceCtorEq,cS c,aqF,hr,bJC]
  exact fin ⟨1,v,(row.length:Nat)⟩ _ _ Sq Sq Sq
theorem aML {C:Ctx} (L:bkG C) (f:aJ) (hf:f.Ok) (l:List (List Int)) (hl:iV l) :
  wV.wp C (aT CU.res (bZ (.bool (iU f l)))) (PF.args [.agg f.cells,lay l]) .nil:=by
 simp only[go_sem,γ,δ,ε,ζ,η,θ,ι,κ,μ,ν,ξ,ο,ρ,σ,τ,υ,reduceIte,reduceCtorEq,wV,adX,adY,CU]
 refine aA (L.valid f hf) Ev ?_
 unfold iU
 have hlr:=hl.rows
 cases hv:dS f with
 | false =>
  simp only[go_sem,γ,δ,ε,ζ,η,θ,ι,κ,μ,ν,ξ,ο,ρ,σ,τ,υ,reduceIte,reduceCtorEq,bJQ,HO]
  exact bA Ev (by simp only[bJI])
 | true =>
  have hV:=VF.of hv
  by_cases c:l.length=f.bHA.length
  ·have c':(((l.length:Nat):Int) != ((f.bHA.length:Nat):Int))=false:=cG Om
   rw[decide_eq_true c]
   simp only[go_sem,γ,δ,ε,ζ,η,θ,ι,κ,μ,ν,ξ,ο,ρ,σ,τ,υ,reduceIte,reduceCtorEq,bJK,bJC,c',adZ]
   generalize hq:(fun v=>(lE f l v).isNone)=q
   refine wp_loop (α:=Nat) (fun k=>tSF f l k) (fun _=>.nil) (fun k=>k≤l.length∧mG q k) (fun k=>l.length-k) 0 ⟨bJO _,.zero⟩ ?_ PH.nil_le ?_
   ·unfold tSF
    (repeat' (first|exact PF.nil_le|refine PF.aI ?_ ?_))<;>first|(simp only[go_sem,γ,δ,ε,ζ,η,θ,ι,κ,μ,ν,ξ,ο,ρ,σ,τ,υ,reduceIte,reduceCtorEq,bJC]<;>rfl)|rfl
   rintro k ⟨hk,ha⟩
   simp only[go_sem,γ,δ,ε,ζ,η,θ,ι,κ,μ,ν,ξ,ο,ρ,σ,τ,υ,reduceIte,reduceCtorEq,TO,aeA,tSF]
   by_cases hlt:k<l.length
   ·have bHF:(k:Int)<(l.length:Nat):=by omega
    have hqk:q k=(lE f l k).isNone:=by rw[← hq]
    simp only[go_sem,γ,δ,ε,ζ,η,θ,ι,κ,μ,ν,ξ,ο,ρ,σ,τ,υ,reduceIte,reduceCtorEq,bHF,aeB,aeC]
    refine aA (L.shape f l k hV hl hlt Om) Ev ?_
    cases hs:lE f l k with
    | some x =>
     rw[hs] at hqk
     simp only[go_sem,γ,δ,ε,ζ,η,θ,ι,κ,μ,ν,ξ,ο,ρ,σ,τ,υ,reduceIte,reduceCtorEq,shV]
     refine aQ fun o ho=>?_
     simp only[go_sem,γ,δ,ε,ζ,η,θ,ι,κ,μ,ν,ξ,ο,ρ,σ,τ,υ,reduceIte,reduceCtorEq,HP,aeD]
     exact bA (b:=false) Ev (by rw[show (bJD l.length).all q=false from dO hlt hqk])
    | none =>
     rw[hs] at hqk
     simp only[go_sem,γ,δ,ε,ζ,η,θ,ι,κ,μ,ν,ξ,ο,ρ,σ,τ,υ,reduceIte,reduceCtorEq,shV]
     refine aQ fun o ho=>?_
     simp only[go_sem,γ,δ,ε,ζ,η,θ,ι,κ,μ,ν,ξ,ο,ρ,σ,τ,υ,reduceIte,reduceCtorEq,HP,aeE,wZz k]
     refine aK (k+1) ⟨hlt,ha.step hqk⟩ Om ?_ PH.nil_le
     exact Lq
   ·have bHF:¬ (k:Int)<(l.length:Nat):=by omega
    have:k=l.length:=by omega
    subst this
    simp only[go_sem,γ,δ,ε,ζ,η,θ,ι,κ,μ,ν,ξ,ο,ρ,σ,τ,υ,reduceIte,reduceCtorEq,bHF,TP]
    exact bA (b:=true) Ev (by rw[show (bJD l.length).all q=true from ha])
  ·have c':(((l.length:Nat):Int) != ((f.bHA.length:Nat):Int))=true:=cS Om
   simp only[go_sem,γ,δ,ε,ζ,η,θ,ι,κ,μ,ν,ξ,ο,ρ,σ,τ,υ,reduceIte,reduceCtorEq,bJK,bJC,c',HO]
   exact bA Ev (by rw[decide_eq_false c]; simp only[bJI])
theorem aMJ {C:Ctx} (L:bkF C) (f:aJ) (hf:f.Ok) (l:List (List Int)) (hl:iV l) :
  wT.wp C (aT CS.res (aE (.bool (iU f l)))) (PF.args [.agg f.cells,lay l]) .nil:=by
 simp only[go_sem,γ,δ,ε,ζ,η,θ,ι,κ,μ,ν,ξ,ο,ρ,σ,τ,υ,reduceIte,reduceCtorEq,wT,adP,adQ,CS]
 refine aA (L.valid f hf) Sq ?_
 unfold iU
 have hlr:=hl.rows
 cases hv:dS f with
 | false =>
  simp only[go_sem,γ,δ,ε,ζ,η,θ,ι,κ,μ,ν,ξ,ο,ρ,σ,τ,υ,reduceIte,reduceCtorEq,bJQ,HL]
  refine aM (.inr rfl) Ev ?_
  simp[aW]
 | true =>
  have hV:=VF.of hv
  by_cases c:l.length=f.bHA.length
  ·have c':(((l.length:Nat):Int) != ((f.bHA.length:Nat):Int))=false:=cG Om
   rw[decide_eq_true c]
   simp only[go_sem,γ,δ,ε,ζ,η,θ,ι,κ,μ,ν,ξ,ο,ρ,σ,τ,υ,reduceIte,reduceCtorEq,bJK,bJC,c',adR]
   generalize hq:(fun v=>(lE f l v).isNone)=q
   refine wp_loop (α:=Nat) (fun k=>(((PF.nil.set 1 (lay l)).set 2 (.bG f.cells)).set 5 (.int .i64 k))) (fun _=>.nil) (fun k=>k≤l.length∧mG q k) (fun k=>l.length-k) 0 ⟨bJO _,.zero⟩ Lq PH.nil_le ?_
   rintro k ⟨hk,ha⟩
   simp only[go_sem,γ,δ,ε,ζ,η,θ,ι,κ,μ,ν,ξ,ο,ρ,σ,τ,υ,reduceIte,reduceCtorEq,adO,adS,bJC]
   by_cases hlt:k<l.length
   ·have bHF:(k:Int)<(l.length:Nat):=by omega
    have hqk:q k=(decide (((l[k]).length:Int)=eY f k)&&!decide (DI f l[k]≥0)):=by
     rw[← hq,← show l.getD k []=l[k] by simp[bJX,hlt]]; exact a8T f l k
    have hrl:(l[k]).length≤16777216:=by
     have h1:=axU l (k+1)
     have:=hl.all
     rw[LG l hlt,bJL] at h1
     omega
    have hat:(l.map fun r=>[ints r])[k]?=some [ints l[k]]:=by simp[hlt]
    generalize l[k]=row at *
    simp only[go_sem,γ,δ,ε,ζ,η,θ,ι,κ,μ,ν,ξ,ο,ρ,σ,τ,υ,reduceIte,reduceCtorEq,bHF]
    refine bU .nil (ssS f row) PH.nil_le ?_
    simp only[go_sem,γ,δ,ε,ζ,η,θ,ι,κ,μ,ν,ξ,ο,ρ,σ,τ,υ,reduceIte,reduceCtorEq,adT,hat,bJC]
    refine bQ (bhJ f row k) (L.VG f k hV Om) Sq PH.nil_le ?_
    by_cases c1:((row.length:Nat):Int)=eY f k
    ·rw[decide_eq_true c1,bJM] at hqk
     simp only[go_sem,γ,δ,ε,ζ,η,θ,ι,κ,μ,ν,ξ,ο,ρ,σ,τ,υ,reduceIte,reduceCtorEq,cG c1,hat]
     refine bQ (show ssS f row 89 [.agg f.cells,ints row]=some ([],fun _=>aE (.int .i64 (DI f row))) from rfl) (L.bad f row hrl) Sq PH.nil_le ?_
     by_cases c2:DI f row≥0
     ·rw[decide_eq_true c2] at hqk
      simp only[go_sem,γ,δ,ε,ζ,η,θ,ι,κ,μ,ν,ξ,ο,ρ,σ,τ,υ,reduceIte,reduceCtorEq,c2,HM]
      refine aM (.inr rfl) Ev ?_
      rw[aW,show (bJD l.length).all q=false from dO hlt hqk]
     ·rw[decide_eq_false c2] at hqk
      simp only[go_sem,γ,δ,ε,ζ,η,θ,ι,κ,μ,ν,ξ,ο,ρ,σ,τ,υ,reduceIte,reduceCtorEq,c2,adU,wZz k]
      exact aK (k+1) ⟨hlt,ha.step hqk⟩ Om Lq PH.nil_le
    ·rw[decide_eq_false c1,bJI] at hqk
     simp only[go_sem,γ,δ,ε,ζ,η,θ,ι,κ,μ,ν,ξ,ο,ρ,σ,τ,υ,reduceIte,reduceCtorEq,cS c1,HM]
     refine aM (.inr rfl) Ev ?_
     rw[aW,show (bJD l.length).all q=false from dO hlt hqk]
   ·have bHF:¬ (k:Int)<(l.length:Nat):=by omega
    have:k=l.length:=by omega
    subst this
    simp only[go_sem,γ,δ,ε,ζ,η,θ,ι,κ,μ,ν,ξ,ο,ρ,σ,τ,υ,reduceIte,reduceCtorEq,bHF,adV]
    refine aM (.inr rfl) Ev ?_
    rw[aW,show (bJD l.length).all q=true from ha]
  ·have c':(((l.length:Nat):Int) != ((f.bHA.length:Nat):Int))=true:=cS Om
   simp only[go_sem,γ,δ,ε,ζ,η,θ,ι,κ,μ,ν,ξ,ο,ρ,σ,τ,υ,reduceIte,reduceCtorEq,bJK,bJC,c',HL]
   refine aM (.inr rfl) Ev ?_
   rw[aW,decide_eq_false c]; simp
theorem aGI {C:Ctx} (L:bkE C) (f:aJ) (hf:f.Ok) (room:List Int) :
  HK.wp C (aT adN.res (kF 1 (bH (adJ f room)))) (PF.args [.agg f.cells,ints room]) .nil:=by
 simp only[go_sem,γ,δ,ε,ζ,η,θ,ι,κ,μ,ν,ξ,ο,ρ,σ,τ,υ,reduceIte,reduceCtorEq,HK,aGJ,aGK,adN]
 refine aA (L.valid f hf) Sq ?_
 unfold adJ
 cases hv:dS f with
 | false =>
  simp only[go_sem,γ,δ,ε,ζ,η,θ,ι,κ,μ,ν,ξ,ο,ρ,σ,τ,υ,reduceIte,reduceCtorEq,bJQ,aGL]
  exact CM (.inr rfl) Ev
 | true =>
  have hV:=VF.of hv
  have hd24:=hV.small.bGY
  have hRl:=yD f room
  simp only[go_sem,γ,δ,ε,ζ,η,θ,ι,κ,μ,ν,ξ,ο,ρ,σ,τ,υ,reduceIte,reduceCtorEq,bJK,aGM,aGN]
  refine wp_loop (α:=Nat × PV × PH) (fun t=>((((PF.nil.set 1 (ints room)).set 2 (.bG f.cells)).set 5 (t.2.1)).set 6 (.int .i64 t.1))) (fun t=>t.2.2) (fun t=>t.1≤f.bGY.length∧bO t.2.2 1 t.2.1 (bH ((fA f room).take t.1))) (fun t=>f.bGY.length-t.1) (0,.aB,.nil) ⟨bJO _,.nil⟩ Lq PH.nil_le ?_
  rintro⟨k,v,H0⟩ ⟨hk,hO⟩
  simp only at hk hO ⊢
  simp only[go_sem,γ,δ,ε,ζ,η,θ,ι,κ,μ,ν,ξ,ο,ρ,σ,τ,υ,reduceIte,reduceCtorEq,aqB,aGO,bJC]
  by_cases hlt:k<f.bGY.length
  ·have bHF:(k:Int)<(f.bGY.length:Nat):=by omega
   obtain⟨hm,he⟩:=hV.a5A hlt
   have hmo:=hV.model _ (bJG hm)
   rw[he] at hmo
   have h11:(1:Nat)*1≤16777216:=by decide
   have bHU:=a0Q f room hlt
   have rest:∀ (x:Int) (F:PF),x=qY f room k→((((((PF.nil.set 1 (ints room)).set 2 (.bG f.cells)).set 5 (v)).set 6 (.int .i64 k)).set 7 (.int .i64 x)):PF).le F →
     aC.wp C (.region XE) (dU 1 (gY C (aC.wp C (.region OJ)) (eA (fun t:Nat × PV × PH=>((((PF.nil.set 1 (ints room)).set 2 (.bG f.cells)).set 5 (t.2.1)).set 6 (.int .i64 t.1))) (fun t=>t.2.2) (fun t=>t.1≤f.bGY.length∧bO t.2.2 1 t.2.1 (bH ((fA f room).take t.1))) (fun t=>f.bGY.length-t.1) (f.bGY.length-k) (dU 0 (gY C (aC.wp C (.seq (.region OK) .ret)) (aT [.tmp 4] (bZ (ints (fA f room))))))))) F H0:=by
    intro x F hx hF
    refine sO _ (fun _ _ _ _ a b=>Up.up a b) hF ?_
    simp only[go_sem,γ,δ,ε,ζ,η,θ,ι,κ,μ,ν,ξ,ο,ρ,σ,τ,υ,reduceIte,reduceCtorEq,XE,h11]
    refine fU (src:=[[.int .i64 x]]) hO Sq (by unfold roomFor; rw[gU,bJU]; simp only[bJT,maxLen]; omega) fun v' H' hO' _=>?_
    rw[aZD,hx,← bHU] at hO'
    simp only[go_sem,γ,δ,ε,ζ,η,θ,ι,κ,μ,ν,ξ,ο,ρ,σ,τ,υ,reduceIte,reduceCtorEq,OJ,wZz k]
    exact aK (k+1,v',H') ⟨hlt,hO'⟩ (by simp only; omega) Lq PH.le_refl
   simp only[aC.wp,go_sem] at rest
   simp only[go_sem,γ,δ,ε,ζ,η,θ,ι,κ,μ,ν,ξ,ο,ρ,σ,τ,υ,reduceIte,reduceCtorEq,bHF]
   refine bU .nil eD PH.nil_le ?_
   simp only[go_sem,γ,δ,ε,ζ,η,θ,ι,κ,μ,ν,ξ,ο,ρ,σ,τ,υ,reduceIte,reduceCtorEq,aGP,amI hlt,hV.brF hlt,a6H hm,he]
   by_cases c:room.length=f.bGY.length
   ·have hrk:k<room.length:=by omega
    have hrr:(room.map fun n=>[PV.int .i64 n])[k]?=some [.int .i64 room[k]]:=by simp[hrk]
    simp only[go_sem,γ,δ,ε,ζ,η,θ,ι,κ,μ,ν,ξ,ο,ρ,σ,τ,υ,reduceIte,reduceCtorEq,XD,bJC,bW (Om:((room.length:Nat):Int)=(f.bGY.length:Nat)),aGQ,hrr,max_eq,bmU]
    refine rest _ _ ?_ Lq
    rw[qY,if_pos c,bmT Om,bJX,bJN hrk,bLQ]
   ·simp only[go_sem,γ,δ,ε,ζ,η,θ,ι,κ,μ,ν,ξ,ο,ρ,σ,τ,υ,reduceIte,reduceCtorEq,XD,bJC,bF (Om:((room.length:Nat):Int)≠(f.bGY.length:Nat))]
    refine rest _ _ ?_ Lq
    rw[qY,if_neg c]
  ·have bHF:¬ (k:Int)<(f.bGY.length:Nat):=by omega
   have:k=f.bGY.length:=by omega
   subst this
   rw[← hRl,bKB] at hO
   simp only[go_sem,γ,δ,ε,ζ,η,θ,ι,κ,μ,ν,ξ,ο,ρ,σ,τ,υ,reduceIte,reduceCtorEq,bHF,OK]
   exact HE (.inr rfl) hO Sq
structure bjJ (C:Ctx):Prop where
 begin:∀ n:Int,aD C 144 [.int .i64 n] .nil (aE (BU n))
 step:∀ n p w e:Int,aD C 145 [.int .i64 n,.agg [.int .i64 p,.int .i64 w],.int .i64 e] .nil (aE (mM (mL n p w e)))
 same:∀ xs ys:List Int,xs.length≤9223372036854775806→aD C 91 [ints xs,ints ys] .nil (aE (.bool (xs==ys)))
 upd:∀ (ws:List (List Int)) (p w:Int),ws.length≤1000000→ws.flatten.length≤1000000→aD C 146 [lists ws,.agg [.int .i64 p,.int .i64 w]] .nil (aE (ints (PB ws p w)))
theorem a4G {C:Ctx} (L:bjJ C):DH.wp C (aT YK.res (aE (.bool true))) (PF.args []) .nil:=by
 simp only[go_sem,γ,δ,ε,ζ,η,θ,ι,κ,μ,ν,ξ,ο,ρ,σ,τ,υ,reduceIte,reduceCtorEq,DH,avW,avX,YK]
 refine aA (L.begin 1) Ev ?_
 simp only[go_sem,γ,δ,ε,ζ,η,θ,ι,κ,μ,ν,ξ,ο,ρ,σ,τ,υ,reduceIte,reduceCtorEq,BU]
 refine aQ fun o1 k1=>?_
 simp only[go_sem,γ,δ,ε,ζ,η,θ,ι,κ,μ,ν,ξ,ο,ρ,σ,τ,υ,reduceIte,reduceCtorEq,avY]
 refine aA (L.step 1 1 0 1) Ev ?_
 rw[show mL 1 1 0 1=((2,0),0) by decide]
 simp only[go_sem,γ,δ,ε,ζ,η,θ,ι,κ,μ,ν,ξ,ο,ρ,σ,τ,υ,reduceIte,reduceCtorEq,mM,stV]
 refine aQ fun o2 k2=>?_
 have n21:¬ o2=o1:=(cY.1 k2).1
 have n12:¬ o1=o2:=fun h=>n21 h.symm
 simp only[go_sem,γ,δ,ε,ζ,η,θ,ι,κ,μ,ν,ξ,ο,ρ,σ,τ,υ,reduceIte,reduceCtorEq,avZ,n21,n12]
 refine aA (L.step 1 2 0 2) Ev ?_
 rw[show mL 1 2 0 2=((3,0),0) by decide]
 simp only[go_sem,γ,δ,ε,ζ,η,θ,ι,κ,μ,ν,ξ,ο,ρ,σ,τ,υ,reduceIte,reduceCtorEq,mM,stV,n21,n12]
 refine aQ fun o4 k4=>?_
 have n42:¬ o4=o2:=(cY.1 k4).1
 have n41:¬ o4=o1:=(cY.1 (cY.1 k4).2).1
 have n24:¬ o2=o4:=fun h=>n42 h.symm
 have n14:¬ o1=o4:=fun h=>n41 h.symm
 simp only[go_sem,γ,δ,ε,ζ,η,θ,ι,κ,μ,ν,ξ,ο,ρ,σ,τ,υ,reduceIte,reduceCtorEq,awA,n21,n12,n42,n41,n24,n14]
 refine aA (L.step 1 3 0 3) Ev ?_
 rw[show mL 1 3 0 3=((4,0),0) by decide]
 simp only[go_sem,γ,δ,ε,ζ,η,θ,ι,κ,μ,ν,ξ,ο,ρ,σ,τ,υ,reduceIte,reduceCtorEq,mM,stV,n21,n12,n42,n41,n24,n14]
 refine aQ fun o6 k6=>?_
 have n64:¬ o6=o4:=(cY.1 k6).1
 have n62:¬ o6=o2:=(cY.1 (cY.1 k6).2).1
 have n61:¬ o6=o1:=(cY.1 (cY.1 (cY.1 k6).2).2).1
 have n46:¬ o4=o6:=fun h=>n64 h.symm
 have n26:¬ o2=o6:=fun h=>n62 h.symm
 have n16:¬ o1=o6:=fun h=>n61 h.symm
 simp only[go_sem,γ,δ,ε,ζ,η,θ,ι,κ,μ,ν,ξ,ο,ρ,σ,τ,υ,reduceIte,reduceCtorEq,awB,n21,n12,n42,n41,n24,n14,n64,n62,n61,n46,n26,n16]
 refine aA (L.step 1 4 0 1) Ev ?_
 rw[show mL 1 4 0 1=((0,0),110) by decide]
 simp only[go_sem,γ,δ,ε,ζ,η,θ,ι,κ,μ,ν,ξ,ο,ρ,σ,τ,υ,reduceIte,reduceCtorEq,mM,stV]
 refine aQ fun o8 k8=>?_
 have n86:¬ o8=o6:=(cY.1 k8).1
 have n81:¬ o8=o1:=(cY.1 (cY.1 (cY.1 (cY.1 k8).2).2).2).1
 have n68:¬ o6=o8:=fun h=>n86 h.symm
 have n18:¬ o1=o8:=fun h=>n81 h.symm
 simp only[go_sem,γ,δ,ε,ζ,η,θ,ι,κ,μ,ν,ξ,ο,ρ,σ,τ,υ,reduceIte,reduceCtorEq,awC,n21,n12,n42,n41,n24,n14,n64,n62,n61,n46,n26,n16,n86,n81,n68,n18]
 refine aA (L.upd [[2,1]] 4 0 (by decide) (by decide)) Ev ?_
 rw[show PB [[2,1]] 4 0=[1,2] by decide]
 simp only[go_sem,γ,δ,ε,ζ,η,θ,ι,κ,μ,ν,ξ,ο,ρ,σ,τ,υ,reduceIte,reduceCtorEq]
 refine aA (L.same [1,2] [1,2] (by decide)) Ev ?_
 simp only[go_sem,γ,δ,ε,ζ,η,θ,ι,κ,μ,ν,ξ,ο,ρ,σ,τ,υ,reduceIte,reduceCtorEq,show (([1,2]:List Int)==[1,2])=true from rfl]
 refine aA (L.begin 0) Ev ?_
 simp only[go_sem,γ,δ,ε,ζ,η,θ,ι,κ,μ,ν,ξ,ο,ρ,σ,τ,υ,reduceIte,reduceCtorEq,BU]
 refine aM (.inr rfl) Ev ?_
 rfl
def aqQ:Rg:=[iZ 4]
def aqR:Rg:=[iZ 5]
def aqS:Rg:=[iA 6 (.mv (.const (.int .u64 0)))]
def aqT:Rg:=[iI 7 0]
def aqU:Rg:=[iM 10 7,iM 11 0,iN 12 11,iB 13 .lss 10 12]
def aqV:Rg:=[iM 16 6,iM 8 16]
def aqW:Rg:=[iM 17 7,iM 18 1,iN 19 18,iB 20 .lss 17 19]
def aqX:Rg:=[iM 21 8,iM 22 1,iM 23 7,iX 24 1 22 23,iL 25 24,iA 26 (.conv .u64 (Tm 25)),iB 27 .add 21 26,iM 8 27]
def OX:Rg:=[iM 28 0,iM 29 7,iX 30 1 28 29,iL 31 30,iA 32 (.conv .u64 (Tm 31)),iM 9 32]
def OY:Rg:=[iA 6 (.mv (.const (.int .u64 0)))]
def HY:Rg:=[iM 33 9,iM 34 8,iB 35 .lss 33 34]
def HZ:Rg:=[iM 36 9,iA 37 (.bin .add (Tm 36) (.const (.int .u64 4294967296))),iM 9 37]
def IA:Rg:=[iA 6 (.mv (.const (.int .u64 1)))]
def uM:Rg:=[iM 38 5,iM 39 9,iM 40 8,iB 41 .sub 39 40,iA 42 (.conv .u32 (Tm 41)),iA 43 (.bHE true 1 1 [(.int .u32 0)] [(0,(Tm 42))]),iA 44 (.append 1 4 (Tm 38) (Tm 43)),iM 5 44]
def uN:Rg:=[iM 14 7,iC 15 .add 14 1,iM 7 15]
def aeS:aC:=(.seq (sq aqU (.cond (Tm 13) .skip (.exit 0))) (.seq (.block 1 (sq aqV (.seq (sq aqW (.cond (Tm 20) (.region aqX) .skip)) (sq OX (sq OY (.seq (sq HY (.cond (Tm 35) (sq HZ (.region IA)) .skip)) (.region uM))))))) (.region uN)))
def aeT:Rg:=[iM 45 5,iK 46 38 45,iM 4 46]
def AU:aC:=(sq aqQ (sq aqR (sq aqS (.seq (sq aqT (.block 0 (.loop aeS))) (sq aeT .ret)))))
def a9G:List Nat:=[43]
def OW:aV:=⟨2,47,AU,[.tmp 4]⟩
def aIL:Rg:=[iZ 4]
def aIM:Rg:=[iZ 5]
def aIN:Rg:=[iA 6 (.mv (.const (.int .u64 0)))]
def aIO:Rg:=[iI 7 0]
def aIP:Rg:=[iM 9 7,iM 10 0,iN 11 10,iB 12 .lss 9 11,iM 13 12,gM 14 7 13 false,gM 15 1 13 false,gN 16 15 13 false,gB 17 .lss 14 16 13 false,iQ 18 13 17,iM 19 18,gM 20 6 19 false,iG 21 (.bin .gtr (Tm 20) (.const (.int .u64 0))) 19 false,iQ 22 19 21]
def XK:Rg:=[iM 25 6,iM 8 25]
def XL:Rg:=[iM 26 7,iM 27 0,iN 28 27,iB 29 .lss 26 28]
def XM:Rg:=[iM 30 8,iM 31 0,iM 32 7,iX 33 1 31 32,iL 34 33,iA 35 (.conv .u64 (Tm 34)),iB 36 .add 30 35,iM 8 36]
def IC:Rg:=[iM 37 7,iM 38 1,iN 39 38,iB 40 .lss 37 39]
def ID:Rg:=[iM 41 8,iM 42 1,iM 43 7,iX 44 1 42 43,iL 45 44,iA 46 (.conv .u64 (Tm 45)),iB 47 .add 41 46,iM 8 47]
def yM:Rg:=[iM 48 5,iM 49 8,iA 50 (.conv .u32 (Tm 49)),iA 51 (.bHE true 1 1 [(.int .u32 0)] [(0,(Tm 50))]),iA 52 (.append 1 4 (Tm 48) (Tm 51)),iM 5 52]
def yN:Rg:=[iM 53 8,iA 54 (.bin .shr (Tm 53) (.const (.int .u64 32))),iM 6 54]
def yO:Rg:=[iM 23 7,iC 24 .add 23 1,iM 7 24]
def aqY:aC:=(.seq (sq aIP (.cond (Tm 22) .skip (.exit 0))) (.seq (.block 1 (sq XK (.seq (sq XL (.cond (Tm 29) (.region XM) .skip)) (.seq (sq IC (.cond (Tm 40) (.region ID) .skip)) (sq yM (.region yN)))))) (.region yO)))
def PD:Rg:=[iM 55 5,iK 56 38 55,iM 4 56]
def IB:aC:=(sq aIL (sq aIM (sq aIN (.seq (sq aIO (.block 0 (.loop aqY))) (sq PD .ret)))))
def biC:List Nat:=[51]
def aeV:aV:=⟨2,57,IB,[.tmp 4]⟩
def aqZ:Rg:=[iZ 4]
def arA:Rg:=[iM 10 0,iN 11 10,iM 12 1,iN 13 12,iB 14 .add 11 13,iA 15 (.bHI 1 4 [(.int .u32 0)] (Tm 14) (Tm 14)),iM 5 15]
def arB:Rg:=[iI 6 0]
def arC:Rg:=[iM 16 6,iM 17 0,iN 18 17,iB 19 .lss 16 18]
def PI:Rg:=[iA 7 (.mv (.const (.int .u64 0)))]
def PJ:Rg:=[iI 8 0]
def arD:Rg:=[iM 22 8,iM 23 1,iN 24 23,iB 25 .lss 22 24]
def arE:Rd:=[(iM 28 0,false),(iM 29 6,false),(iX 30 1 28 29,false),(iL 31 30,false),(iA 32 (.conv .u64 (Tm 31)),false),(iM 33 1,false),(iM 34 8,false),(iX 35 1 33 34,false),(iL 36 35,false),(iA 37 (.conv .u64 (Tm 36)),false),(iB 38 .mul 32 37,false),(iM 39 5,false),(iM 40 6,false),(iM 41 8,false),(iB 42 .add 40 41,false),(iX 43 1 39 42,false),(iL 44 43,false),(iA 45 (.conv .u64 (Tm 44)),false),(iB 46 .add 38 45,false),(iM 47 7,false),(iB 48 .add 46 47,false),(iM 9 48,false)]
def arF:Rg:=[iM 49 5,iM 50 6,iM 51 8,iB 52 .add 50 51,iM 53 9,iA 54 (.conv .u32 (Tm 53)),iX 55 1 49 52,iS 1 55 54]
def arG:Rg:=[iM 56 9,iA 57 (.bin .shr (Tm 56) (.const (.int .u64 32))),iM 7 57]
def aeX:Rg:=[iM 26 8,iC 27 .add 26 1,iM 8 27]
def IE:aC:=(.seq (sq arD (.cond (Tm 25) .skip (.exit 2))) (.seq (.block 3 (dq arE (sq arF (.region arG)))) (.region aeX)))
def IF:Rg:=[iM 58 5,iM 59 6,iM 60 1,iN 61 60,iB 62 .add 59 61,iM 63 7,iA 64 (.conv .u32 (Tm 63)),iX 65 1 58 62,iS 1 65 64]
def aeY:Rg:=[iM 20 6,iC 21 .add 20 1,iM 6 21]
def aeW:aC:=(.seq (sq arC (.cond (Tm 19) .skip (.exit 0))) (.seq (.block 1 (sq PI (.seq (sq PJ (.block 2 (.loop IE))) (.region IF)))) (.region aeY)))
def aeZ:Rg:=[iM 66 5,iK 67 38 66,iM 4 67]
def AX:aC:=(sq aqZ (sq arA (.seq (sq arB (.block 0 (.loop aeW))) (sq aeZ .ret))))
def a9I:List Nat:=[]
def PG:aV:=⟨2,68,AX,[.tmp 4]⟩
def aTP:Rg:=[iZ 4,iI 5 0]
def aTQ:Rg:=[iM 7 0,iK 8 41 7,iM 9 8,gM 10 1 9 false,gK 11 41 10 9 false,iQ 12 9 11]
def akW:Rg:=[iZ 4,iI 5 2]
def aTR:Rg:=[iM 13 0,iK 14 38 13,iM 15 1,iK 16 38 15,iK2 17 43 14 16,iM 6 17]
def aTS:Rg:=[iM 18 6,iK 19 41 18]
def aTT:Rg:=[iZ 4,iI 5 2]
def aTU:Rg:=[iM 20 6,iM 4 20,iI 5 0]
def OP:aC:=(sq aTP (.seq (sq aTQ (.cond (Tm 12) (sq akW .ret) .skip)) (sq aTR (.seq (sq aTS (.cond (Tm 19) (sq aTT .ret) .skip)) (sq aTU .ret)))))
def boL:List Nat:=[]
def aHE:aV:=⟨2,21,OP,[.tmp 4,.tmp 5]⟩
def aVB:Rg:=[iZ 4,iI 5 0]
def aVC:Rg:=[iM 6 0,iK 7 41 6,iM 8 7,gM 9 1 8 false,gK 10 41 9 8 false,iQ 11 8 10]
def alC:Rg:=[iZ 4,iI 5 2]
def aVD:Rg:=[iM 12 0,iM 13 1,iK2 14 32 12 13,iC 15 .lss 14 0]
def aVE:Rg:=[iZ 4,iI 5 4]
def aVF:Rg:=[iM 16 0,iK 17 38 16,iM 18 1,iK 19 38 18,iK2 20 42 17 19,iM 4 20,iI 5 0]
def PE:aC:=(sq aVB (.seq (sq aVC (.cond (Tm 11) (sq alC .ret) .skip)) (.seq (sq aVD (.cond (Tm 15) (sq aVE .ret) .skip)) (sq aVF .ret))))
def boZ:List Nat:=[]
def aIQ:aV:=⟨2,21,PE,[.tmp 4,.tmp 5]⟩
def aUT:Rg:=[iZ 4,iI 5 0]
def aUU:Rg:=[iM 7 0,iK 8 41 7,iM 9 8,gM 10 1 9 false,gK 11 41 10 9 false,iQ 12 9 11]
def akZ:Rg:=[iZ 4,iI 5 2]
def aUV:Rg:=[iM 13 0,iK 14 38 13,iM 15 1,iK 16 38 15,iK2 17 44 14 16,iM 6 17]
def aUW:Rg:=[iM 18 6,iK 19 41 18]
def aUX:Rg:=[iZ 4,iI 5 2]
def aUY:Rg:=[iM 20 6,iM 4 20,iI 5 0]
def OZ:aC:=(sq aUT (.seq (sq aUU (.cond (Tm 12) (sq akZ .ret) .skip)) (sq aUV (.seq (sq aUW (.cond (Tm 19) (sq aUX .ret) .skip)) (sq aUY .ret)))))
def boT:List Nat:=[]
def aII:aV:=⟨2,21,OZ,[.tmp 4,.tmp 5]⟩
def aHH:Rg:=[iI 2 0]
def aHI:Rg:=[iM 5 0,iK 6 38 5,iM 0 6]
def aHJ:Rg:=[iM 7 0,iN 8 7,iC 9 .eql 8 0]
def aHK:Rg:=[iI 2 0]
def aHL:Rg:=[iM 10 0,iN 11 10,iC 12 .sub 11 1,iA 13 (.bin .mul (Ci 32) (Tm 12)),iM 3 13]
def aHM:Rg:=[iM 14 0,iM 15 0,iN 16 15,iC 17 .sub 16 1,iX 18 1 14 17,iL 19 18,iM 4 19]
def aHN:Rg:=[iM 20 4,iA 21 (.bin .gtr (Tm 20) (.const (.int .u32 0)))]
def aHO:Rg:=[iM 24 3,iC 25 .add 24 1,iM 3 25]
def aHP:Rg:=[iM 22 4,iA 23 (.bin .quo (Tm 22) (.const (.int .u32 2))),iM 4 23]
def aHG:aC:=(.seq (sq aHN (.cond (Tm 21) .skip (.exit 0))) (.seq (.block 1 (.region aHO)) (.region aHP)))
def aqL:Rg:=[iM 26 3,iM 2 26]
def HS:aC:=(sq aHH (sq aHI (.seq (sq aHJ (.cond (Tm 9) (sq aHK .ret) .skip)) (sq aHL (.seq (sq aHM (.block 0 (.loop aHG))) (sq aqL .ret))))))
def bhQ:List Nat:=[]
def aeI:aV:=⟨1,27,HS,[.tmp 2]⟩
def a9J:Rg:=[iZ 4]
def a9K:Rg:=[iM 9 0,iN 10 9,iC 11 .eql 10 0]
def a9L:Rg:=[iZ 4]
def a9M:Rg:=[iM 12 1,iC 13 .quo 12 32,iA 14 (.bHI 1 4 [(.int .u32 0)] (Tm 13) (Tm 13)),iM 5 14]
def a9N:Rg:=[iA 6 (.mv (.const (.int .u64 0)))]
def a9O:Rg:=[iI 7 0]
def a9P:Rg:=[iM 15 7,iM 16 0,iN 17 16,iB 18 .lss 15 17]
def a9Q:Rg:=[iM 21 0,iM 22 7,iX 23 1 21 22,iL 24 23,iA 25 (.conv .u64 (Tm 24)),iM 26 1,iC 27 .rem 26 32,iA 28 (.conv .u64 (Tm 27)),iB 29 .shl 25 28,iM 30 6,iB 31 .or 29 30,iM 8 31]
def a9R:Rg:=[iM 32 5,iM 33 8,iA 34 (.conv .u32 (Tm 33)),iA 35 (.bHE true 1 1 [(.int .u32 0)] [(0,(Tm 34))]),iA 36 (.append 1 4 (Tm 32) (Tm 35)),iM 5 36]
def a9S:Rg:=[iM 37 8,iA 38 (.bin .shr (Tm 37) (.const (.int .u64 32))),iM 6 38]
def aVH:Rg:=[iM 19 7,iC 20 .add 19 1,iM 7 20]
def aVG:aC:=(.seq (sq a9P (.cond (Tm 18) .skip (.exit 0))) (.seq (.block 1 (sq a9Q (sq a9R (.region a9S)))) (.region aVH)))
def aVI:Rg:=[iM 39 5,iM 40 6,iA 41 (.conv .u32 (Tm 40)),iA 42 (.bHE true 1 1 [(.int .u32 0)] [(0,(Tm 41))]),iA 43 (.append 1 4 (Tm 39) (Tm 42)),iK 44 38 43,iM 4 44]
def XO:aC:=(sq a9J (.seq (sq a9K (.cond (Tm 11) (sq a9L .ret) .skip)) (sq a9M (sq a9N (.seq (sq a9O (.block 0 (.loop aVG))) (sq aVI .ret))))))
def bsI:List Nat:=[35,42]
def uup:aV:=⟨2,45,XO,[.tmp 4]⟩
def aHW:Rg:=[iZ 4]
def aHX:Rg:=[iM 8 1,iC 9 .quo 8 32,iM 10 0,iN 11 10,iB 12 .geq 9 11]
def aHY:Rg:=[iZ 4]
def aHZ:Rg:=[iZ 5]
def aIA:Rg:=[iM 13 1,iC 14 .quo 13 32,iM 6 14]
def aIB:Rg:=[iM 15 6,iM 16 0,iN 17 16,iB 18 .lss 15 17]
def aIC:Rg:=[iM 21 0,iM 22 6,iX 23 1 21 22,iL 24 23,iA 25 (.conv .u64 (Tm 24)),iM 7 25]
def aID:Rg:=[iM 26 6,iC 27 .add 26 1,iM 28 0,iN 29 28,iB 30 .lss 27 29]
def aIE:Rg:=[iM 31 7,iM 32 0,iM 33 6,iC 34 .add 33 1,iX 35 1 32 34,iL 36 35,iA 37 (.conv .u64 (Tm 36)),iA 38 (.bin .shl (Tm 37) (.const (.int .u64 32))),iB 39 .or 31 38,iM 7 39]
def XH:Rg:=[iM 40 5,iM 41 7,iM 42 1,iC 43 .rem 42 32,iA 44 (.conv .u64 (Tm 43)),iB 45 .shr 41 44,iA 46 (.conv .u32 (Tm 45)),iA 47 (.bHE true 1 1 [(.int .u32 0)] [(0,(Tm 46))]),iA 48 (.append 1 4 (Tm 40) (Tm 47)),iM 5 48]
def OT:Rg:=[iM 19 6,iC 20 .add 19 1,iM 6 20]
def aqM:aC:=(.seq (sq aIB (.cond (Tm 18) .skip (.exit 0))) (.seq (.block 1 (sq aIC (.seq (sq aID (.cond (Tm 30) (.region aIE) .skip)) (.region XH)))) (.region OT)))
def aqN:Rg:=[iM 49 5,iK 50 38 49,iM 4 50]
def HW:aC:=(sq aHW (.seq (sq aHX (.cond (Tm 12) (sq aHY .ret) .skip)) (sq aHZ (.seq (sq aIA (.block 0 (.loop aqM))) (sq aqN .ret)))))
def bhU:List Nat:=[47]
def aeQ:aV:=⟨2,51,HW,[.tmp 4]⟩
def arY:Rg:=[iA 1 (.box true (Tm 0)),iT 2 false]
def arZ:Rg:=[iF 3 2 1,iL 4 3,iK 5 38 4,iN 6 5,iC 7 .gtr 6 0,iM 8 7,gF 9 2 1 8 true,gL 10 9 8 true,gK 11 38 10 8 true,gN 12 11 8 true,gC 13 .leq 12 128 8 true,iP 14 8 13,iM 15 14,gF 16 1 1 15 true,gL 17 16 15 true,gK 18 38 17 15 true,gN 19 18 15 true,gC 20 .leq 19 128 15 true,iP 21 15 20,iM 2 21]
def BB:aC:=(sq arY (sq arZ .ret))
def baY:List Nat:=[1]
def PS:aV:=⟨1,22,BB,[.tmp 2]⟩
def arJ:Rg:=[iA 1 (.box true (Tm 0)),iT 2 false]
def arK:Rg:=[iF 3 1 1,iL 4 3,iN 5 4,iC 6 .gtr 5 128,iM 7 6,gF 8 2 1 7 false,gL 9 8 7 false,gN 10 9 7 false,gC 11 .gtr 10 128 7 false,iQ 12 7 11,iM 2 12]
def AY:aC:=(sq arJ (sq arK .ret))
def baH:List Nat:=[1]
def PO:aV:=⟨1,13,AY,[.tmp 2]⟩
def aJA:Rg:=[iA 1 (.box true (Tm 0)),iA 2 (.alloc [(.bool false),.aB,.aB]),iI 3 0]
def aJB:Rg:=[iO 4 3 1,iK 5 48 4]
def aJC:Rg:=[iA 6 (.build [(.bool false),.aB,.aB] []),iS 3 2 6,iI 3 2]
def aJD:Rg:=[iO 7 3 1,iS 3 2 7,iI 3 0]
def IH:aC:=(sq aJA (.seq (sq aJB (.cond (Tm 5) (sq aJC .ret) .skip)) (sq aJD .ret)))
def biS:List Nat:=[1]
def afB:aV:=⟨1,8,IH,[.cell 2 (some 3),.tmp 3]⟩
def afK:Rg:=[iA 1 (.box true (Tm 0)),iA 2 (.alloc [(.bool false),.aB,.aB]),iI 3 0]
def afL:Rg:=[iO 4 3 1,iK 5 56 4,iA 6 (.un .not (Tm 5))]
def afM:Rg:=[iA 7 (.build [(.bool false),.aB,.aB] []),iS 3 2 7,iI 3 1]
def afN:Rg:=[iF 8 0 1,iL 9 8,iF 10 1 1,iL 11 10,iF 12 2 1,iL 13 12,iA 14 (.call 58 [(Tm 9),(Tm 11),(Tm 13)]),iS 3 2 14,iI 3 0]
def xB:aC:=(sq afK (.seq (sq afL (.cond (Tm 6) (sq afM .ret) .skip)) (sq afN .ret)))
def a2L:List Nat:=[1]
def CZ:aV:=⟨1,15,xB,[.cell 2 (some 3),.tmp 3]⟩
def arV:Rg:=[iZ 4]
def arW:Rg:=[iM 8 0,iM 9 1,iK2 10 36 8 9,iM 7 10,iE 11 7 0,iE 12 7 1,iM 5 11,iM 6 12]
def arX:Rg:=[iM 13 5,iM 4 13]
def BA:aC:=(sq arV (sq arW (sq arX .ret)))
def baW:List Nat:=[]
def PR:aV:=⟨2,14,BA,[.tmp 4]⟩
def arL:Rg:=[iA 2 (.box true (Tm 0)),iA 3 (.box true (Tm 1)),iI 4 0]
def arM:Rd:=[(iF 9 1 2,false),(iL 10 9,false),(iF 11 2 3,false),(iL 12 11,false),(iK2 13 60 10 12,true),(iF 14 1 3,true),(iL 15 14,true),(iF 16 2 2,true),(iL 17 16,true),(iK2 18 60 15 17,true),(iM 5 13,false),(iM 6 18,false)]
def arN:Rg:=[iF 19 0 2,iL 20 19,iM 21 20,gM 22 5 21 true,gN 23 22 21 true,gC 24 .gtr 23 0 21 true,iP 25 21 24,iF 26 0 3,iL 27 26,iM 28 27,gM 29 6 28 true,gN 30 29 28 true,gC 31 .gtr 30 0 28 true,iP 32 28 31,iM 7 25,iM 8 32]
def arO:Rg:=[iM 34 7,iM 35 34,gM 36 8 35 true,iG 37 (.un .not (Tm 36)) 35 true,iP 38 35 37,iM 33 38]
def arP:Rg:=[iI 4 (-1)]
def arQ:Rg:=[iM 40 8,iM 41 40,gM 42 7 41 true,iG 43 (.un .not (Tm 42)) 41 true,iP 44 41 43,iM 39 44]
def arR:Rg:=[iI 4 1]
def arS:Rg:=[iM 46 7,iM 45 46]
def arT:Rg:=[iM 47 6,iM 48 5,iK2 49 32 47 48,iM 4 49]
def arU:Rg:=[iM 50 5,iM 51 6,iK2 52 32 50 51,iM 4 52]
def AZ:aC:=(sq arL (dq arM (sq arN (.seq (.block 0 (sq arO (.cond (Tm 33) (sq arP .ret) (sq arQ (.cond (Tm 39) (sq arR .ret) (sq arS (.cond (Tm 45) (sq arT .ret) .skip))))))) (sq arU .ret)))))
def baJ:List Nat:=[2,3]
def PP:aV:=⟨2,53,AZ,[.tmp 4]⟩
def aJG:Rg:=[iA 2 (.box true (Tm 0)),iA 3 (.box true (Tm 1)),iT 4 false]
def aJH:Rg:=[iO 5 3 2,iO 6 3 3,iK2 7 51 5 6,iC 8 .lss 7 0,iM 4 8]
def II:aC:=(sq aJG (sq aJH .ret))
def biV:List Nat:=[2,3]
def afD:aV:=⟨2,9,II,[.tmp 4]⟩
def aJR:Rg:=[iA 2 (.box true (Tm 0)),iA 3 (.box true (Tm 1)),iT 4 false]
def aJS:Rg:=[iO 5 3 2,iO 6 3 3,iK2 7 51 5 6,iC 8 .eql 7 0,iM 4 8]
def IM:aC:=(sq aJR (sq aJS .ret))
def biZ:List Nat:=[2,3]
def afO:aV:=⟨2,9,IM,[.tmp 4]⟩
def aJT:Rg:=[iA 1 (.box true (Tm 0)),iI 2 0]
def aJU:Rd:=[(iO 3 3 1,true),(iA 4 (.call 47 [(Ci 0)]),true),(iK2 5 51 3 4,true),(iM 2 5,false)]
def IN:aC:=(sq aJT (dq aJU .ret))
def bjB:List Nat:=[1]
def afP:aV:=⟨1,6,IN,[.tmp 2]⟩
def aVJ:Rg:=[iA 2 (.box true (Tm 0)),iA 3 (.box true (Tm 1)),iA 4 (.alloc [(.bool false),.aB,.aB]),iI 5 0]
def aVK:Rg:=[iO 15 3 2,iK 16 56 15,iA 17 (.un .not (Tm 16)),iM 18 17,gO 19 3 3 18 false,gK 20 56 19 18 false,iG 21 (.un .not (Tm 20)) 18 false,iQ 22 18 21]
def alE:Rg:=[iA 23 (.build [(.bool false),.aB,.aB] []),iS 3 4 23,iI 5 1]
def aVL:Rd:=[(iF 24 1 2,false),(iL 25 24,false),(iF 26 2 3,false),(iL 27 26,false),(iK2 28 60 25 27,true),(iF 29 1 3,true),(iL 30 29,true),(iF 31 2 2,true),(iL 32 31,true),(iK2 33 60 30 32,true),(iF 34 2 2,true),(iL 35 34,true),(iF 36 2 3,true),(iL 37 36,true),(iK2 38 60 35 37,true),(iM 6 28,false),(iM 7 33,false),(iM 8 38,false)]
def aVM:Rg:=[iF 39 0 2,iL 40 39,iF 41 0 3,iL 42 41,iA 43 (.eqb false (Tm 40) (Tm 42))]
def aVN:Rg:=[iM 45 6,iM 46 7,iK2 47 30 45 46,iM 44 47,iE 48 44 0,iE 49 44 1,iM 9 48,iM 10 49]
def aVO:Rg:=[iF 50 0 2,iL 51 50,iM 52 9,iM 53 8,iA 54 (.call 58 [(Tm 51),(Tm 52),(Tm 53)]),iK 55 57 54,iE 56 55 0,iE 57 55 1,iS 3 4 56,iM 5 57]
def aVP:Rg:=[iM 58 6,iM 59 7,iK2 60 32 58 59,iC 61 .geq 60 0]
def aVQ:Rg:=[iM 63 6,iM 64 7,iK2 65 37 63 64,iM 62 65,iE 66 62 0,iE 67 62 1,iM 11 66,iM 12 67]
def aVR:Rg:=[iF 68 0 2,iL 69 68,iM 70 11,iM 71 8,iA 72 (.call 58 [(Tm 69),(Tm 70),(Tm 71)]),iK 73 57 72,iE 74 73 0,iE 75 73 1,iS 3 4 74,iM 5 75]
def aIW:Rg:=[iM 77 7,iM 78 6,iK2 79 37 77 78,iM 76 79,iE 80 76 0,iE 81 76 1,iM 13 80,iM 14 81]
def aIX:Rg:=[iF 82 0 3,iL 83 82,iM 84 13,iM 85 8,iA 86 (.call 58 [(Tm 83),(Tm 84),(Tm 85)]),iK 87 57 86,iE 88 87 0,iE 89 87 1,iS 3 4 88,iM 5 89]
def yP:aC:=(sq aVJ (.seq (sq aVK (.cond (Tm 22) (sq alE .ret) .skip)) (dq aVL (.seq (sq aVM (.cond (Tm 43) (sq aVN (sq aVO .ret)) .skip)) (.seq (sq aVP (.cond (Tm 61) (sq aVQ (sq aVR .ret)) .skip)) (sq aIW (sq aIX .ret)))))))
def bpB:List Nat:=[2,3]
def alD:aV:=⟨2,90,yP,[.cell 4 (some 3),.tmp 5]⟩
def aVW:Rg:=[iA 2 (.alloc [(.bool false),.aB,.aB]),iI 3 0]
def aVX:Rg:=[iA 8 (.call 47 [(Ci 0)]),iA 4 (.alloc [(.bool false),.aB,.aB]),iS 3 4 8]
def aVY:Rg:=[iI 5 0]
def aVZ:Rg:=[iM 9 5,iM 10 0,iN 11 10,iB 12 .lss 9 11]
def aWA:Rd:=[(iO 16 3 4,false),(iM 17 0,false),(iM 18 5,false),(iX 19 3 17 18,false),(iO 20 3 19,false),(iK2 21 46 16 20,true),(iM 15 21,false),(iE 22 15 0,false),(iE 23 15 1,true),(iA 6 (.alloc [(.bool false),.aB,.aB]),true),(iS 3 6 22,true),(iM 7 23,false)]
def alG:Rg:=[iM 24 7,iC 25 .neq 24 0]
def aWB:Rg:=[iA 26 (.build [(.bool false),.aB,.aB] []),iM 27 7,iS 3 2 26,iM 3 27]
def aWC:Rg:=[iO 28 3 6,iS 3 4 28]
def aWD:Rg:=[iM 13 5,iC 14 .add 13 1,iM 5 14]
def aVV:aC:=(.seq (sq aVZ (.cond (Tm 12) .skip (.exit 0))) (.seq (.block 1 (dq aWA (.seq (sq alG (.cond (Tm 25) (sq aWB .ret) .skip)) (.region aWC)))) (.region aWD)))
def aKA:Rg:=[iO 29 3 4,iS 3 2 29,iI 3 0]
def PQ:aC:=(sq aVW (sq aVX (.seq (sq aVY (.block 0 (.loop aVV))) (sq aKA .ret))))
def bpG:List Nat:=[]
def aJZ:aV:=⟨1,30,PQ,[.cell 2 (some 3),.tmp 3]⟩
def rZ:Rg:=[iT 4 false]
def sA:Rg:=[iM 5 0,iC 6 .geq 5 1,iM 7 6,gM 8 0 7 true,gC 9 .leq 8 6 7 true,iP 10 7 9,iM 11 10,gM 12 1 11 true,gC 13 .geq 12 0 11 true,iP 14 11 13,iM 15 14,gM 16 1 15 true,gC 17 .leq 16 4 15 true,iP 18 15 17,iM 19 18,gM 20 0 19 true,gM 21 1 19 true,gB 22 .add 20 21 19 true,gC 23 .leq 22 8 19 true,iP 24 19 23,iM 4 24]
def lP:aC:=(sq rZ (sq sA .ret))
def bhF:List Nat:=[]
def uK:aV:=⟨2,25,lP,[.tmp 4]⟩
def agR:Rg:=[iT 2 false]
def agS:Rg:=[iM 3 0,iA 4 (.bin .geq (Tm 3) (.const (.int .u8 97))),iM 5 4,gM 6 0 5 true,iG 7 (.bin .leq (Tm 6) (.const (.int .u8 122))) 5 true,iP 8 5 7,iM 9 8,gM 10 0 9 false,iG 11 (.bin .geq (Tm 10) (.const (.int .u8 65))) 9 false,gM 12 11 9 false,gM 13 0 12 true,iG 14 (.bin .leq (Tm 13) (.const (.int .u8 90))) 12 true,iG 15 (.pick (Tm 12) (Tm 14) (.const (.bool false))) 9 false,iQ 16 9 15,iM 2 16]
def xE:aC:=(sq agR (sq agS .ret))
def a3L:List Nat:=[]
def DC:aV:=⟨1,17,xE,[.tmp 2]⟩
def asV:Rg:=[iT 2 false]
def asW:Rg:=[iM 3 0,iA 4 (.bin .geq (Tm 3) (.const (.int .u8 48))),iM 5 4,gM 6 0 5 true,iG 7 (.bin .leq (Tm 6) (.const (.int .u8 57))) 5 true,iP 8 5 7,iM 2 8]
def BF:aC:=(sq asV (sq asW .ret))
def bbP:List Nat:=[]
def PX:aV:=⟨1,9,BF,[.tmp 2]⟩
def agG:Rg:=[iT 2 false]
def agH:Rg:=[iM 3 0,iK 4 65 3,iM 5 4,gM 6 0 5 false,gK 7 63 6 5 false,iQ 8 5 7,iM 9 8,gM 10 0 9 false,iG 11 (.bin .eql (Tm 10) (.const (.int .u8 45))) 9 false,iQ 12 9 11,iM 13 12,gM 14 0 13 false,iG 15 (.bin .eql (Tm 14) (.const (.int .u8 46))) 13 false,iQ 16 13 15,iM 2 16]
def xC:aC:=(sq agG (sq agH .ret))
def a3H:List Nat:=[]
def DA:aV:=⟨1,17,xC,[.tmp 2]⟩
def agJ:Rg:=[iT 2 false]
def agK:Rg:=[iM 4 0,iA 5 (.bIG (Tm 4)),iC 6 .lss 5 1,iM 7 6,gM 8 0 7 false,iG 9 (.bIG (Tm 8)) 7 false,gC 10 .gtr 9 16 7 false,iQ 11 7 10,iM 12 11,gM 13 0 12 false,iG 14 (.bIH (Tm 13) (Ci 0)) 12 false,gK 15 65 14 12 false,iG 16 (.un .not (Tm 15)) 12 false,iQ 17 12 16]
def uS:Rg:=[iT 2 false]
def agL:Rg:=[iI 3 0]
def agM:Rg:=[iM 18 3,iM 19 0,iA 20 (.bIG (Tm 19)),iB 21 .lss 18 20]
def agN:Rg:=[iM 24 0,iM 25 3,iA 26 (.bIH (Tm 24) (Tm 25)),iK 27 64 26,iA 28 (.un .not (Tm 27))]
def agO:Rg:=[iT 2 false]
def agP:Rg:=[iM 22 3,iC 23 .add 22 1,iM 3 23]
def agI:aC:=(.seq (sq agM (.cond (Tm 21) .skip (.exit 0))) (.seq (.block 1 (sq agN (.cond (Tm 28) (sq agO .ret) .skip))) (.region agP)))
def agQ:Rg:=[iT 2 true]
def xD:aC:=(sq agJ (.seq (sq agK (.cond (Tm 17) (sq uS .ret) .skip)) (.seq (sq agL (.block 0 (.loop agI))) (sq agQ .ret))))
def a3J:List Nat:=[]
def DB:aV:=⟨1,29,xD,[.tmp 2]⟩
theorem nP (P:List Nat) (v:Nat):aH P++[[.int .u32 (v:Int)]]=aH (P++[v]):=by simp[aH]
theorem nO {P:List Nat} (h:P.length≤35184372087808):roomFor (aH P).length 1 4:=by
 unfold roomFor
 rw[bS]
 simp only[maxLen]; omega
def RK (a b:List Nat) (v:PV) (c i:Nat):PF:=(((((PF.nil.set 0 (aF a)).set 1 (aF b)).set 5 (v)).set 6 (.int .u64 c)).set 7 (.int .i64 i))
theorem a9F {C:Ctx} (L:nE C) (a b:List Nat) (ha:Lim a) (hb:Lim b) (hle:val b≤val a) (hl:b.length≤a.length) (h1:a.length≤35184372087808) :
  AU.wp C (aT OW.res (bZ (aF (aG (val a-val b))))) (PF.args [aF a,aF b]) .nil:=by
 simp only[go_sem,AU,aqQ,aqR,aqS,aqT,OW]
 refine wp_loop (α:=List Nat × Nat × PV × PH) (fun s=>RK a b s.2.2.1 s.2.1 s.1.length) (fun s=>s.2.2.2)
  (fun s=>s.1.length≤a.length∧Lim s.1∧s.2.1≤1∧val (a.take s.1.length)+4294967296 ^ s.1.length*s.2.1=val s.1+val (b.take s.1.length)∧bO s.2.2.2 1 s.2.2.1 (aH s.1)) (fun s=>a.length-s.1.length) ([],0,.aB,.nil) ⟨by simp,by simp[Lim],by simp,by simp[val],.nil⟩ ?_ PH.nil_le ?_
 ·unfold RK
  exact Lq
 rintro⟨P,c,v,H0⟩ ⟨hP,bHV,hc,bHR,hO⟩
 simp only at hP bHV hc bHR hO ⊢
 simp only[go_sem,γ,reduceCtorEq,aeS,aqU,RK]
 by_cases c1:P.length<a.length
 ·have c1':(P.length:Int)<(a.length:Nat):=by omega
  have hai:=ha _ (bJG c1)
  have hta:=bX a c1
  have hac:(aH a)[P.length]?=some [.int .u32 ((a[P.length]:Nat):Int)]:=bJ a c1
  generalize hx:a[P.length]=x at *
  have ex:IntKind.u64.wrap ((x:Nat):Int)=((x:Nat):Int):=bE Om
  have fin:∀ (t:Nat) (F':PF),t<4294967296→val (b.take (P.length+1))=val (b.take P.length)+4294967296 ^ P.length*t →
    F' 0=some (aF a)→F' 1=some (aF b)→F' 5=some v→F' 8=some (.int .u64 (c+t:Nat))→F' 7=some (.int .i64 P.length) →
    ∀ K:cO,(∀ P' c' v' F2 H2,P'.length=P.length+1→Lim P'→c'≤1→val (a.take (P.length+1))+4294967296 ^ P'.length*c'=val P'+val (b.take (P.length+1))→(RK a b v' c' P'.length).le F2→bO H2 1 v' (aH P')→K .normal F2 H2) →
    aC.wp C (.seq (.region OX) (.seq (.region OY) (.seq (.seq (.region HY) (.cond (.tmp 35) (.seq (.region HZ) (.region IA)) .skip)) (.region uM)))) (dU 1 (gY C (aC.wp C (.region uN)) K)) F' H0:=by
   intro t F' ht htb g0 g1 g5 g8 g7 K hK
   have step:∀ (d c':Nat),d<4294967296→c'≤1→x+4294967296*c'=d+(c+t)→val (a.take (P.length+1))+4294967296 ^ (P.length+1)*c'=val (P++[d])+val (b.take (P.length+1)):=by
    intro d c' hd hc' he
    have h2:4294967296 ^ P.length*(x+4294967296*c')=4294967296 ^ P.length*(d+(c+t)):=by rw[he]
    rw[bJP,bJP,bJP] at h2
    rw[gZ,bKV,bJY,hta,htb]
    omega
   simp only[go_sem,γ,OX,g0,g7,hac,ex,OY,HY,g8]
   by_cases c2:x<c+t
   ·have c2':((x:Nat):Int)<((c+t:Nat):Int):=by omega
    have e1:IntKind.u64.wrap ((x:Int)+4294967296)=((x+4294967296:Nat):Int):=by
     rw[show (x:Int)+4294967296=((x+4294967296:Nat):Int) by omega]
     exact bE Om
    have e2:IntKind.u64.wrap (((x+4294967296:Nat):Int)-((c+t:Nat):Int))=((x+4294967296-(c+t):Nat):Int):=by
     rw[show ((x+4294967296:Nat):Int)-((c+t:Nat):Int)=((x+4294967296-(c+t):Nat):Int) by omega]
     exact bE Om
    have e3:IntKind.u32.wrap ((x+4294967296-(c+t):Nat):Int)=((x+4294967296-(c+t):Nat):Int):=by
     rw[cB,bKK Om]
    have hb1:(1:Nat)*1≤16777216:=by decide
    simp only[go_sem,υ,γ,η,ζ,c2',HZ,e1,IA,uM,g5,g8,e2,e3,hb1]
    refine fU (src:=[[.int .u32 ((x+4294967296-(c+t):Nat):Int)]]) hO rfl (nO Om) fun v' H' hO' _=>?_
    rw[nP] at hO'
    simp only[go_sem,γ,uN,g7,dE (Om:P.length<9223372036854775807)]
    refine hK _ 1 v' _ H' (by simp) (bHV.app fun y hy=>by simp at hy; subst hy; omega) (bJF _) ?_ ?_ hO'
    ·rw[bJL,bJT]
     exact step _ 1 Om (bJF _) Om
    ·unfold RK
     rw[bJL,bJT]
     exact Lq
   ·have c2':¬ ((x:Nat):Int)<((c+t:Nat):Int):=by omega
    have e2:IntKind.u64.wrap (((x:Nat):Int)-((c+t:Nat):Int))=((x-(c+t):Nat):Int):=by
     rw[show ((x:Nat):Int)-((c+t:Nat):Int)=((x-(c+t):Nat):Int) by omega]
     exact bE Om
    have e3:IntKind.u32.wrap ((x-(c+t):Nat):Int)=((x-(c+t):Nat):Int):=by
     rw[cB,bKK Om]
    have hb1:(1:Nat)*1≤16777216:=by decide
    simp only[go_sem,υ,γ,η,ζ,c2',uM,g5,g8,e2,e3,hb1]
    refine fU (src:=[[.int .u32 ((x-(c+t):Nat):Int)]]) hO rfl (nO Om) fun v' H' hO' _=>?_
    rw[nP] at hO'
    simp only[go_sem,γ,uN,g7,dE (Om:P.length<9223372036854775807)]
    refine hK _ 0 v' _ H' (by simp) (bHV.app fun y hy=>by simp at hy; subst hy; omega) (by decide) ?_ ?_ hO'
    ·rw[bJL,bJT]
     exact step _ 0 Om (by decide) Om
    ·unfold RK
     rw[bJL,bJT]
     exact Lq
  simp only[aC.wp,go_sem] at fin
  simp only[go_sem,γ,reduceCtorEq,c1',aqV,aqW]
  by_cases c3:P.length<b.length
  ·have c3':(P.length:Int)<(b.length:Nat):=by omega
   have hbi:=hb _ (bJG c3)
   have htb:=bX b c3
   have eb:IntKind.u64.wrap ((b[P.length]:Nat):Int)=((b[P.length]:Nat):Int):=bE Om
   have es:IntKind.u64.wrap ((c:Int)+(b[P.length]:Int))=((c+b[P.length]:Nat):Int):=eM Om
   simp only[go_sem,γ,reduceCtorEq,c3',aqX,bJ b c3,eb,es]
   refine fin b[P.length] _ hbi htb rfl rfl rfl rfl rfl _ ?_
   intro P' c' v' F2 H2 e1 e2 e3 e4 e5 e6
   rw[← e1] at e4
   exact aK (α:=List Nat × Nat × PV × PH) (P',c',v',H2) ⟨by simp only; omega,e2,e3,e4,e6⟩ (by simp only; omega) e5 PH.le_refl
  ·have c3':¬ (P.length:Int)<(b.length:Nat):=by omega
   have htb:val (b.take (P.length+1))=val (b.take P.length)+4294967296 ^ P.length*0:=by rw[bJS Om,bJS Om]; simp
   simp only[go_sem,c3']
   refine fin 0 _ (by decide) htb rfl rfl rfl rfl rfl _ ?_
   intro P' c' v' F2 H2 e1 e2 e3 e4 e5 e6
   rw[← e1] at e4
   exact aK (α:=List Nat × Nat × PV × PH) (P',c',v',H2) ⟨by simp only; omega,e2,e3,e4,e6⟩ (by simp only; omega) e5 PH.le_refl
 ·have e:P.length=a.length:=by omega
  have c1':¬ (P.length:Int)<(a.length:Nat):=by omega
  have hV:val P=val a-val b:=by
   rw[e,bKB,bJS hl] at bHR
   have hlt:=eJ bHV
   rw[e] at hlt
   rcases bMD c with h | h
   ·subst h; omega
   ·have:c=1:=by omega
    subst this; omega
  simp only[go_sem,γ,reduceCtorEq,c1',aeT]
  have hs:=L.trim _ bHV Om
  rw[hV] at hs
  refine rD hs hO rfl fun F1 H1 _=>?_
  simp only[go_sem]
  exact aX (.inr rfl) .nil rfl PH.nil_le ⟨.refl _,rfl⟩
def pI (a b:List Nat) (o i:Nat):PF:=((((PF.nil.set 0 (aF a)).set 1 (aF b)).set 5 (.osl o 1 0 (a.length+b.length))).set 6 (.int .i64 i))
def utG (a b:List Nat) (o i c j:Nat):PF:=((((((PF.nil.set 0 (aF a)).set 1 (aF b)).set 5 (.osl o 1 0 (a.length+b.length))).set 6 (.int .i64 i)).set 7 (.int .u64 c)).set 8 (.int .i64 j))
theorem a1P {C:Ctx} (a b:List Nat) (ha:Lim a) (hb:Lim b) (h1:a.length≤35184372087808) (h2:b.length≤35184372087808) (L:List Nat) (i:Nat) (hi:i<a.length) (hI:BQ a b L i) (q:Nat) (K:cO) (F:PF) (H:PH) (hF:(pI a b q i).le F) (hH:H q=some (.rows 1 (aH L)))
  (hK:∀ L' F' H',BQ a b L' (i+1)→(pI a b q i).le F'→H' q=some (.rows 1 (aH L'))→K .normal F' H') :
  aC.wp C (.block 1 (.seq (.region PI) (.seq (.seq (.region PJ) (.block 2 (.loop IE))) (.region IF)))) K F H:=by
 have f0:=hF 0 _ (by unfold pI; simp only[go_sem,reduceCtorEq]; rfl)
 have f1:=hF 1 _ (by unfold pI; simp only[go_sem,γ,reduceCtorEq]; rfl)
 have f5:=hF 5 _ (by unfold pI; simp only[go_sem,γ,reduceCtorEq]; rfl)
 have f6:=hF 6 _ (by unfold pI; simp only[go_sem,γ,reduceCtorEq]; rfl)
 have hx:=ha _ (bJG hi)
 have hta:=bX a hi
 generalize hxe:a[i]=x at *
 have hax:(aH a)[i]?=some [.int .u32 ((x:Nat):Int)]:=by rw[bJ a hi,hxe]
 simp only[go_sem,PI,PJ]
 refine wp_loop (α:=List Nat × Nat × Nat) (fun t=>utG a b q i t.2.1 t.2.2) (fun t=>PH.nil.set q (.rows 1 (aH t.1)))
  (fun t=>t.2.2≤b.length∧t.1.length=a.length+b.length∧Lim t.1∧t.2.1<4294967296∧val t.1+4294967296 ^ (i+t.2.2)*t.2.1=val (a.take i)*val b+4294967296 ^ i*(x*val (b.take t.2.2))∧∀ j y,i+b.length≤j→t.1[j]?=some y→y=0) (fun t=>b.length-t.2.2) (L,0,0)
  ⟨by simp,hI.len,hI.lim,by simp,by simp[val,hI.v],hI.z⟩ ?_ (PH.aI PH.nil_le hH) ?_
 ·unfold utG
  exact Lq
 rintro⟨M,c,j⟩ ⟨hj,hM,bHV,hc,bHR,hz⟩
 simp only at hj hM bHV hc bHR hz
 simp only[go_sem,γ,reduceCtorEq,IE,arD,utG]
 by_cases c1:j<b.length
 ·have c1':(j:Int)<(b.length:Nat):=by omega
  have hy:=hb _ (bJG c1)
  have htb:=bX b c1
  generalize hye:b[j]=y at *
  have hby:(aH b)[j]?=some [.int .u32 ((y:Nat):Int)]:=by rw[bJ b c1,hye]
  have hij:i+j<M.length:=by omega
  have hz0:=bHV _ (bJG hij)
  have bIV:=CW hij
  generalize hze:M[i+j]=z at *
  have hMz:(aH M)[i+j]?=some [.int .u32 ((z:Nat):Int)]:=by rw[bJ M hij,hze]
  have ex:IntKind.u64.wrap ((x:Nat):Int)=((x:Nat):Int):=bE Om
  have ey:IntKind.u64.wrap ((y:Nat):Int)=((y:Nat):Int):=bE Om
  have ez:IntKind.u64.wrap ((z:Nat):Int)=((z:Nat):Int):=bE Om
  have em:=aQJ hx hy
  have hxy:x*y≤4294967295*4294967295:=Nat.mul_le_mul Om Om
  have e1:IntKind.u64.wrap (((x*y:Nat):Int)+(z:Int))=((x*y+z:Nat):Int):=eM Om
  have e2:IntKind.u64.wrap (((x*y+z:Nat):Int)+(c:Int))=((x*y+z+c:Nat):Int):=eM Om
  have eij:IntKind.i64.wrap ((i:Int)+(j:Int))=((i+j:Nat):Int):=fK Om
  have hlt:((i+j:Nat):Int)<((a.length+b.length:Nat):Int):=by omega
  generalize ht:x*y+z+c=t at *
  have htt:t<4294967296*4294967296:=by omega
  have bHL:(aH M).set (i+j) [.int .u32 ((t%4294967296:Nat):Int)]=aH (M.set (i+j) (t%4294967296)):=eX M (i+j) _
  simp only[go_sem,c1']
  refine bU .nil eD PH.nil_le ?_
  simp only[go_sem,γ,reduceCtorEq,arE,hax,hby,ex,ey,em,eij,hlt,hMz,ez,e1,e2,arF,cB,bHL,arG,uL,aeX,wZz j]
  refine aK (M.set (i+j) (t%4294967296),t/4294967296,j+1) ⟨by simp only; omega,by simp only[bLA]; exact hM,bHV.set _ (bKR _ (by decide)),by simp only; omega,?_,ahF hz _ _ Om⟩ (by simp only; omega) ?_ (PH.aI PH.nil_le Sq)
  ·simp only
   have h3:=bIV (t%4294967296)
   have h4:4294967296 ^ (i+(j+1))*(t/4294967296)+4294967296 ^ (i+j)*(t%4294967296)=4294967296 ^ (i+j)*t:=by
    rw[← bLM,bKV,bJY,← bJP,bMK]
   have h5:4294967296 ^ (i+j)*t=4294967296 ^ (i+j)*(x*y)+4294967296 ^ (i+j)*z+4294967296 ^ (i+j)*c:=by rw[← ht,bJP,bJP]
   have h6:4294967296 ^ i*(x*val (b.take (j+1)))=4294967296 ^ i*(x*val (b.take j))+4294967296 ^ (i+j)*(x*y):=by
    rw[htb,bJP,bJP,Nat.pow_add]
    congr 1
    rw[Nat.mul_left_comm x,bJY]
   omega
  ·exact Lq
 ·have he:j=b.length:=by omega
  have c1':¬ (j:Int)<(b.length:Nat):=by omega
  subst he
  have hij:i+b.length<M.length:=by omega
  have hz0:M[i+b.length]=0:=hz _ _ (bJF _) (bJN hij)
  have bIV:=CW hij
  have hMz:(aH M)[i+b.length]?=some [.int .u32 ((0:Nat):Int)]:=by rw[bJ M hij,hz0]
  have eij:IntKind.i64.wrap ((i:Int)+((b.length:Nat):Int))=((i+b.length:Nat):Int):=fK Om
  have hlt:((i+b.length:Nat):Int)<((a.length+b.length:Nat):Int):=by omega
  have bHL:(aH M).set (i+b.length) [.int .u32 ((c%4294967296:Nat):Int)]=aH (M.set (i+b.length) c):=by
   rw[bKK hc]; exact eX M _ _
  simp only[go_sem,γ,reduceCtorEq,c1',IF,eij,cB,hlt,hMz,bHL]
  refine hK (M.set (i+b.length) c) _ _ ⟨by rw[bLA]; exact hM,bHV.set _ hc,?_,fun j y hj hy=>?_⟩ (by unfold pI; exact Lq) Sq
  ·have h3:=bIV c
   rw[hz0,Nat.mul_zero,bKU] at h3
   rw[h3,bHR,bKB,hta,bKF,bJY]
  ·rw[List.getElem?_set_ne Om] at hy
   exact hz j y Om hy
theorem a9H {C:Ctx} (L:nE C) (a b:List Nat) (ha:Lim a) (hb:Lim b) (h1:a.length≤8388608) (h2:b.length≤8388608) :
  AX.wp C (aT PG.res (bZ (aF (aG (val a*val b))))) (PF.args [aF a,aF b]) .nil:=by
 have hlen:IntKind.i64.wrap (((a.length:Nat):Int)+((b.length:Nat):Int))=((a.length+b.length:Nat):Int):=fK Om
 have hm1:((a.length+b.length:Nat):Int)*((4:Nat):Int)≤140737488355328:=by omega
 have hm2:((a.length+b.length:Nat):Int)≤9223372036854775807:=by omega
 have hz:bJE (a.length+b.length) [PV.int .u32 0]=aH (bJE (a.length+b.length) 0):=by
  simp[aH]
 simp only[go_sem,γ,reduceCtorEq,AX,aqZ,arA,PG,bJC,hlen,hm1,hm2,hz]
 refine aQ fun o ho=>?_
 simp only[go_sem,γ,arB]
 refine wp_loop (α:=List Nat × Nat) (fun t=>pI a b o t.2) (fun t=>PH.nil.set o (.rows 1 (aH t.1))) (fun t=>t.2≤a.length∧BQ a b t.1 t.2) (fun t=>a.length-t.2) (bJE (a.length+b.length) 0,0)
  ⟨by simp,by simp,tA _,by simp[val,qD],fun j x _ hx=>by rw[List.getElem?_replicate] at hx; split at hx<;>simp_all⟩ ?_ (PH.aI PH.nil_le Sq) ?_
 ·unfold pI
  exact Lq
 rintro⟨M,i⟩ ⟨hi,hI⟩
 simp only at hi hI
 simp only[go_sem,γ,reduceCtorEq,aeW,arC,pI]
 by_cases c1:i<a.length
 ·have c1':(i:Int)<(a.length:Nat):=by omega
  have key:=a1P (C:=C) a b ha hb Om Om M i c1 hI o
  simp only[go_sem] at key
  simp only[go_sem,c1']
  refine key _ _ _ (by unfold pI; exact Lq) Sq ?_
  intro L' F' H' hI' hF' hH'
  have g6:=hF' 6 _ (by unfold pI; simp only[go_sem,γ,reduceCtorEq]; rfl)
  have g0:=hF' 0 _ (by unfold pI; simp only[go_sem,reduceCtorEq]; rfl)
  have g1:=hF' 1 _ (by unfold pI; simp only[go_sem,γ,reduceCtorEq]; rfl)
  have g5:=hF' 5 _ (by unfold pI; simp only[go_sem,γ,reduceCtorEq]; rfl)
  simp only[go_sem,γ,aeY,g6,wZz i]
  refine aK (L',i+1) ⟨by simp only; omega,hI'⟩ (by simp only; omega) ?_ (PH.aI PH.nil_le hH')
  exact Lq
 ·have he:i=a.length:=by omega
  subst he
  have c1':¬ ((a.length:Nat):Int)<(a.length:Nat):=by omega
  have hV:val M=val a*val b:=by rw[hI.v,bKB]
  simp only[go_sem,γ,reduceCtorEq,aeZ]
  have hs:=L.trim _ hI.lim (by rw[hI.len]; omega)
  rw[hV] at hs
  refine oA (o:=o) (s:=1) (k:=a.length+b.length) (rs:=aH M) (v:=aF (aG (val a*val b))) ?_ rfl Sq (by rw[bS,hI.len]; exact bJF _) ?_
  ·rw[bJS (by rw[bS,hI.len]; exact bJF _)]; exact hs
  ·simp only[go_sem,γ,reduceCtorEq]
   exact aX (.inr rfl) .nil rfl PH.nil_le ⟨.refl _,rfl⟩
structure avK (C:Ctx):Prop extends avH C where
 minus:∀ a b,Lim a→Lim b→val b≤val a→b.length≤a.length→a.length≤35184372087808→aD C 42 [aF a,aF b] .nil (aE (aF (aG (val a-val b))))
 times:∀ a b,Lim a→Lim b→a.length≤8388608→b.length≤8388608→aD C 44 [aF a,aF b] .nil (aE (aF (aG (val a*val b))))
theorem boS {C:Ctx} (L:avK C) (a b:List Nat) (ha:Lim a) (hb:Lim b) (la:a.length≤35184372087808) (lb:b.length≤35184372087808) :
  OZ.wp C (aT aII.res (bZ (opV (dP (val a) (val b)) (val a*val b)))) (PF.args [aF a,aF b]) .nil:=by
 unfold opV
 simp only[go_sem,reduceCtorEq,OZ,aUT,aUU,aII]
 refine aA (L.large a ha la) rfl ?_
 by_cases c1:nl (val a)>512
 ·simp only[go_sem,γ,c1,akZ]
  rw[if_pos (by simp[dP,c1])]
  exact eC rfl
 simp only[go_sem,γ,c1]
 refine aA (L.large b hb lb) rfl ?_
 by_cases c2:nl (val b)>512
 ·simp only[go_sem,γ,reduceCtorEq,c2,akZ]
  rw[if_pos (by simp[dP,c2])]
  exact eC rfl
 rw[if_neg (by simp[dP,c1,c2])]
 simp only[go_sem,γ,reduceCtorEq,c2,aUV]
 refine aA (L.trim a ha la) rfl ?_
 simp only[go_sem,γ]
 refine aA (L.trim b hb lb) rfl ?_
 simp only[go_sem]
 have ht:=L.times (aG (val a)) (aG (val b)) (aS _) (aS _) (by rw[aZ]; omega) (by rw[aZ]; omega)
 rw[aR,aR] at ht
 refine aA ht rfl ?_
 have n1:=jZ (a:=val a) (b:=val b) (m:=512) (n:=512) Om Om
 have hl:=L.large (aG (val a*val b)) (aS _) (by rw[aZ]; omega)
 rw[aR] at hl
 simp only[go_sem,γ,aUW]
 refine aA hl rfl ?_
 unfold szV szL szE
 by_cases c3:nl (val a*val b)>512
 ·rw[if_pos c3,if_pos c3]
  simp only[go_sem,γ,c3,aUX]
  exact eC rfl
 ·rw[if_neg c3,if_neg c3]
  simp only[go_sem,γ,c3,aUY]
  exact aX (.inr rfl) .nil rfl PH.nil_le ⟨.refl _,rfl⟩
def tY (a:List Nat) (i:Nat):Nat:=a.getD i 0
theorem awT {a:List Nat} (h:Lim a) (i:Nat):tY a i<4294967296:=by
 unfold tY
 rw[bJX]
 rcases bJV i a.length with h1 | h1
 ·rw[bJN h1]; exact h _ (bJG h1)
 ·rw[bKM h1]; decide
theorem UV {a:List Nat} {i:Nat} (h:i<a.length):tY a i=a[i]:=by simp[tY,bJX,h]
theorem KQ {a:List Nat} {i:Nat} (h:¬ i<a.length):tY a i=0:=by simp[tY,bJX,h]
theorem PK (a:List Nat) (i:Nat):val (a.take (i+1))=val (a.take i)+4294967296 ^ i*tY a i:=by
 rcases bJV i a.length with h | h
 ·rw[UV h]; exact bX a h
 ·rw[KQ Om,bJS Om,bJS Om]; simp
def rB (a b:List Nat) (v:PV) (c i:Nat):PF:=(((((PF.nil.set 0 (aF a)).set 1 (aF b)).set 5 (v)).set 6 (.int .u64 c)).set 7 (.int .i64 i))
theorem biB {C:Ctx} (L:nE C) (a b:List Nat) (ha:Lim a) (hb:Lim b) (h1:a.length≤8388608) (h2:b.length≤8388608) :
  IB.wp C (aT aeV.res (bZ (aF (aG (val a+val b))))) (PF.args [aF a,aF b]) .nil:=by
 simp only[go_sem,IB,aIL,aIM,aIN,aIO,aeV]
 refine wp_loop (α:=List Nat × Nat × PV × PH) (fun s=>rB a b s.2.2.1 s.2.1 s.1.length) (fun s=>s.2.2.2)
  (fun s=>s.1.length≤max a.length b.length+1∧(s.1.length≤max a.length b.length∨s.2.1=0)∧Lim s.1∧s.2.1≤1∧val s.1+4294967296 ^ s.1.length*s.2.1=val (a.take s.1.length)+val (b.take s.1.length)∧bO s.2.2.2 1 s.2.2.1 (aH s.1)) (fun s=>max a.length b.length+1-s.1.length) ([],0,.aB,.nil)
  ⟨by simp,by simp,by simp[Lim],by simp,by simp[val],.nil⟩ ?_ PH.nil_le ?_
 ·unfold rB
  exact Lq
 rintro⟨P,c,v,H0⟩ ⟨hP,hPc,bHV,hc,bHR,hO⟩
 simp only at hP hPc bHV hc bHR hO ⊢
 have hda:=awT ha P.length
 have hdb:=awT hb P.length
 have hta:=PK a P.length
 have htb:=PK b P.length
 generalize hx:tY a P.length=x at *
 generalize hy:tY b P.length=y at *
 have ex:IntKind.u64.wrap ((x:Nat):Int)=((x:Nat):Int):=bE Om
 have ey:IntKind.u64.wrap ((y:Nat):Int)=((y:Nat):Int):=bE Om
 have e1:IntKind.u64.wrap ((c:Int)+(x:Int))=((c+x:Nat):Int):=eM Om
 have e2:IntKind.u64.wrap (((c+x:Nat):Int)+(y:Int))=((c+x+y:Nat):Int):=eM Om
 have hra:P.length<a.length→(aH a)[P.length]?=some [.int .u32 ((x:Nat):Int)]:=fun h=>by rw[bJ a h,← hx,UV h]
 have hrb:P.length<b.length→(aH b)[P.length]?=some [.int .u32 ((y:Nat):Int)]:=fun h=>by rw[bJ b h,← hy,UV h]
 have hxa:¬ P.length<a.length→x=0:=fun h=>by rw[← hx,KQ h]
 have hyb:¬ P.length<b.length→y=0:=fun h=>by rw[← hy,KQ h]
 have body:(P.length≤max a.length b.length)→∀ K:cO,(∀ P' c' v' F2 H2,P'.length=P.length+1→Lim P'→c'≤1→(P.length+1≤max a.length b.length∨c'=0)→val P'+4294967296 ^ P'.length*c'=val (a.take (P.length+1))+val (b.take (P.length+1))→(rB a b v' c' P'.length).le F2→bO H2 1 v' (aH P')→K .normal F2 H2) →
   ∀ F:PF,(rB a b v c P.length).le F→aC.wp C (.seq (.block 1 (.seq (.region XK) (.seq (.seq (.region XL) (.cond (.tmp 29) (.region XM) .skip)) (.seq (.seq (.region IC) (.cond (.tmp 40) (.region ID) .skip)) (.seq (.region yM) (.region yN)))))) (.region yO)) K F H0:=by
  intro hle K hK F hF
  have g0:F 0=some (aF a):=hF 0 _ (by unfold rB; simp only[go_sem,reduceCtorEq])
  have g1:F 1=some (aF b):=hF 1 _ (by unfold rB; simp only[go_sem,γ,reduceCtorEq])
  have g5:F 5=some v:=hF 5 _ (by unfold rB; simp only[go_sem,γ,reduceCtorEq])
  have g6:F 6=some (.int .u64 c):=hF 6 _ (by unfold rB; simp only[go_sem,γ,reduceCtorEq])
  have g7:F 7=some (.int .i64 P.length):=hF 7 _ (by unfold rB; simp only[go_sem,γ,reduceCtorEq])
  have fin:∀ F':PF,F' 0=some (aF a)→F' 1=some (aF b)→F' 5=some v→F' 7=some (.int .i64 P.length)→F' 8=some (.int .u64 (c+x+y:Nat)) →
    aC.wp C (.seq (.region yM) (.region yN)) (dU 1 (gY C (aC.wp C (.region yO)) K)) F' H0:=by
   intro F' q0 q1 q5 q7 q8
   have hb1:(1:Nat)*1≤16777216:=by decide
   generalize ht:c+x+y=t at *
   have htt:t<2*4294967296:=by omega
   simp only[go_sem,υ,γ,η,ζ,yM,q5,q8,hb1,cB]
   refine fU (src:=[[.int .u32 ((t%4294967296:Nat):Int)]]) hO rfl (nO Om) fun v' H' hO' _=>?_
   rw[nP] at hO'
   simp only[go_sem,γ,yN,q8,uL,yO,q7,dE (Om:P.length<9223372036854775807)]
   refine hK (P++[t%4294967296]) (t/4294967296) v' _ H' (by simp) (bHV.app fun y hy=>by simp at hy; subst hy; omega) Om ?_ ?_ ?_ hO'
   ·rcases bJV P.length (max a.length b.length) with h | h
    ·exact .inl h
    ·right
     have h1:=hxa Om
     have h2:=hyb Om
     omega
   ·rw[gZ,bJL,bJT,hta,htb,bKV,bJY,bLM,← bJP]
    rw[show t%4294967296+4294967296*(t/4294967296)=t from Nat.mod_add_div t 4294967296]
    have h3:4294967296 ^ P.length*t=4294967296 ^ P.length*c+4294967296 ^ P.length*x+4294967296 ^ P.length*y:=by rw[← ht,bJP,bJP]
    omega
   ·unfold rB
    rw[bJL,bJT]
    exact Lq
  simp only[aC.wp,go_sem] at fin
  simp only[go_sem,γ,reduceCtorEq,XK,g6,XL,g7,g0]
  by_cases c1:P.length<a.length
  ·have c1':(P.length:Int)<(a.length:Nat):=by omega
   simp only[go_sem,γ,reduceCtorEq,c1',XM,g0,g7,hra c1,ex,e1,IC,g1]
   by_cases c2:P.length<b.length
   ·have c2':(P.length:Int)<(b.length:Nat):=by omega
    simp only[go_sem,γ,c2',ID,g1,g7,hrb c2,ey,e2]
    exact fin _ (by simp only[go_sem,reduceCtorEq,g0]) (by simp only[go_sem,γ,g1]) (by simp only[go_sem,γ,g5]) (by simp only[go_sem,γ,g7]) rfl
   ·have c2':¬ (P.length:Int)<(b.length:Nat):=by omega
    have h0:=hyb c2
    simp only[go_sem,c2']
    exact fin _ (by simp only[go_sem,reduceCtorEq,g0]) (by simp only[go_sem,γ,g1]) (by simp only[go_sem,γ,g5]) (by simp only[go_sem,γ,g7]) (by simp only[go_sem,γ,h0])
  ·have c1':¬ (P.length:Int)<(a.length:Nat):=by omega
   have h0:=hxa c1
   simp only[go_sem,γ,c1',IC,g1,g7]
   by_cases c2:P.length<b.length
   ·have c2':(P.length:Int)<(b.length:Nat):=by omega
    have e2':IntKind.u64.wrap ((c:Int)+(y:Int))=((c+x+y:Nat):Int):=by rw[h0]; exact eM Om
    simp only[go_sem,γ,c2',ID,g1,g7,hrb c2,ey,e2']
    exact fin _ (by simp only[go_sem,reduceCtorEq,g0]) (by simp only[go_sem,γ,g1]) (by simp only[go_sem,γ,g5]) (by simp only[go_sem,γ,g7]) rfl
   ·have c2':¬ (P.length:Int)<(b.length:Nat):=by omega
    have h0':=hyb c2
    simp only[go_sem,c2']
    exact fin _ (by simp only[go_sem,reduceCtorEq,g0]) (by simp only[go_sem,γ,g1]) (by simp only[go_sem,γ,g5]) (by simp only[go_sem,γ,g7]) (by simp only[go_sem,γ,h0,h0'])
 simp only[aC.wp,go_sem] at body
 have hexit:¬ P.length<a.length→¬ P.length<b.length→c=0→∀ F:PF,F 5=some v→aC.wp C (.seq (.region PD) .ret) (aT [.tmp 4] (bZ (aF (aG (val a+val b))))) F H0:=by
  intro n1 n2 n3 F f5
  have hV:val P=val a+val b:=by
   rw[n3,bJS Om,bJS Om] at bHR
   omega
  have hs:=L.trim _ bHV Om
  rw[hV] at hs
  simp only[go_sem,PD,f5]
  refine rD hs hO rfl fun F1 H1 _=>?_
  simp only[go_sem]
  exact aX (.inr rfl) .nil rfl PH.nil_le ⟨.refl _,rfl⟩
 simp only[aC.wp,go_sem] at hexit
 simp only[go_sem,γ,reduceCtorEq,aqY,aIP,rB]
 by_cases c1:P.length<a.length
 ·have c1':(P.length:Int)<(a.length:Nat):=by omega
  simp only[go_sem,γ,reduceCtorEq,c1']
  refine body Om _ ?_ _ (by unfold rB; exact Lq)
  intro P' c' v' F2 H2 e1 e2 e3 e4 e5 e6 e7
  rw[← e1] at e5 e4
  exact aK (α:=List Nat × Nat × PV × PH) (P',c',v',H2) ⟨by simp only; omega,e4,e2,e3,e5,e7⟩ (by simp only; omega) e6 PH.le_refl
 ·have c1':¬ (P.length:Int)<(a.length:Nat):=by omega
  simp only[go_sem,γ,reduceCtorEq,c1']
  by_cases c2:P.length<b.length
  ·have c2':(P.length:Int)<(b.length:Nat):=by omega
   simp only[go_sem,γ,reduceCtorEq,c2']
   refine body Om _ ?_ _ (by unfold rB; exact Lq)
   intro P' c' v' F2 H2 e1 e2 e3 e4 e5 e6 e7
   rw[← e1] at e5 e4
   exact aK (α:=List Nat × Nat × PV × PH) (P',c',v',H2) ⟨by simp only; omega,e4,e2,e3,e5,e7⟩ (by simp only; omega) e6 PH.le_refl
  ·have c2':¬ (P.length:Int)<(b.length:Nat):=by omega
   simp only[go_sem,γ,reduceCtorEq,c2']
   by_cases c3:c=0
   ·have c3':¬ (c:Int)>0:=by omega
    simp only[go_sem,c3']
    exact hexit c1 c2 c3 _ rfl
   ·have c3':(c:Int)>0:=by omega
    simp only[go_sem,c3']
    refine body Om _ ?_ _ (by unfold rB; exact Lq)
    intro P' c' v' F2 H2 e1 e2 e3 e4 e5 e6 e7
    rw[← e1] at e5 e4
    exact aK (α:=List Nat × Nat × PV × PH) (P',c',v',H2) ⟨by simp only; omega,e4,e2,e3,e5,e7⟩ (by simp only; omega) e6 PH.le_refl
structure YH (C:Ctx):Prop extends avK C where
 plus:∀ a b,Lim a→Lim b→a.length≤8388608→b.length≤8388608→aD C 43 [aF a,aF b] .nil (aE (aF (aG (val a+val b))))
theorem boK {C:Ctx} (L:YH C) (a b:List Nat) (ha:Lim a) (hb:Lim b) (la:a.length≤35184372087808) (lb:b.length≤35184372087808) :
  OP.wp C (aT aHE.res (bZ (opV (dP (val a) (val b)) (val a+val b)))) (PF.args [aF a,aF b]) .nil:=by
 unfold opV
 simp only[go_sem,reduceCtorEq,OP,aTP,aTQ,aHE]
 refine aA (L.large a ha la) rfl ?_
 by_cases c1:nl (val a)>512
 ·simp only[go_sem,γ,c1,akW]
  rw[if_pos (by simp[dP,c1])]
  exact eC rfl
 simp only[go_sem,γ,c1]
 refine aA (L.large b hb lb) rfl ?_
 by_cases c2:nl (val b)>512
 ·simp only[go_sem,γ,reduceCtorEq,c2,akW]
  rw[if_pos (by simp[dP,c2])]
  exact eC rfl
 rw[if_neg (by simp[dP,c1,c2])]
 simp only[go_sem,γ,reduceCtorEq,c2,aTR]
 refine aA (L.trim a ha la) rfl ?_
 simp only[go_sem,γ]
 refine aA (L.trim b hb lb) rfl ?_
 simp only[go_sem]
 have ht:=L.plus (aG (val a)) (aG (val b)) (aS _) (aS _) (by rw[aZ]; omega) (by rw[aZ]; omega)
 rw[aR,aR] at ht
 refine aA ht rfl ?_
 have n1:=aDI (a:=val a) (b:=val b) (m:=512) Om Om
 have hl:=L.large (aG (val a+val b)) (aS _) (by rw[aZ]; omega)
 rw[aR] at hl
 simp only[go_sem,γ,aTS]
 refine aA hl rfl ?_
 unfold szV szL szE
 by_cases c3:nl (val a+val b)>512
 ·rw[if_pos c3,if_pos c3]
  simp only[go_sem,γ,c3,aTT]
  exact eC rfl
 ·rw[if_neg c3,if_neg c3]
  simp only[go_sem,γ,c3,aTU]
  exact aX (.inr rfl) .nil rfl PH.nil_le ⟨.refl _,rfl⟩
theorem boY {C:Ctx} (L:YH C) (a b:List Nat) (ha:Lim a) (hb:Lim b) (la:a.length≤35184372087808) (lb:b.length≤35184372087808) :
  PE.wp C (aT aIQ.res (bZ (pH (val a) (val b)))) (PF.args [aF a,aF b]) .nil:=by
 unfold pH
 simp only[go_sem,reduceCtorEq,PE,aVB,aVC,aIQ]
 refine aA (L.large a ha la) rfl ?_
 by_cases c1:nl (val a)>512
 ·simp only[go_sem,γ,c1,alC]
  rw[if_pos (by simp[dP,c1])]
  exact eC rfl
 simp only[go_sem,γ,c1]
 refine aA (L.large b hb lb) rfl ?_
 by_cases c2:nl (val b)>512
 ·simp only[go_sem,γ,reduceCtorEq,c2,alC]
  rw[if_pos (by simp[dP,c2])]
  exact eC rfl
 rw[if_neg (by simp[dP,c1,c2])]
 simp only[go_sem,γ,reduceCtorEq,c2,aVD]
 refine aA (L.cmp a b ha hb la lb) rfl ?_
 by_cases c3:val a<val b
 ·have:dB (val a) (val b)=-1:=by simp[dB,c3]
  rw[if_pos c3]
  simp only[go_sem,ο,γ,this,show ((-1:Int)<0) by decide,aVE]
  exact eC rfl
 ·have:¬ dB (val a) (val b)<0:=by
   unfold dB
   rw[if_neg c3]
   split<;>decide
  rw[if_neg c3]
  have n1:=fD (Nat.sub_le (val a) (val b))
  have n2:=fD (Om:val b≤val a)
  simp only[go_sem,γ,reduceCtorEq,this,aVF]
  refine aA (L.trim a ha la) rfl ?_
  simp only[go_sem,γ]
  refine aA (L.trim b hb lb) rfl ?_
  simp only[go_sem]
  have ht:=L.minus (aG (val a)) (aG (val b)) (aS _) (aS _) (by rw[aR,aR]; omega) (by rw[aZ,aZ]; exact n2) (by rw[aZ]; omega)
  rw[aR,aR] at ht
  refine aA ht rfl ?_
  rw[wU Om]
  simp only[go_sem,γ]
  exact aX (.inr rfl) .nil rfl PH.nil_le ⟨.refl _,rfl⟩
def aHF (k:Nat) (v:Nat):PF:=((PF.nil.set 3 (.int .i64 k)).set 4 (.int .u32 v))
theorem bhP {C:Ctx} (L:nE C) (xs:List Nat) (hx:Lim xs) (lx:xs.length≤35184372087808) :
  HS.wp C (aT aeI.res (aE (.int .i64 (cD (val xs):Nat)))) (PF.args [aF xs]) .nil:=by
 simp only[go_sem,reduceCtorEq,HS,aHH,aHI,aeI]
 refine aA (L.trim xs hx lx) rfl ?_
 have bx:=eW hx
 simp only[go_sem,γ,reduceCtorEq,aHJ,bJC,aZ,yL]
 by_cases c1:nl (val xs)=0
 ·simp only[go_sem,decide_eq_true c1,aHK]
  refine aM (.inr rfl) rfl ?_
  have:val xs=0:=fZ.1 c1
  simp[aW,this,iD]
 obtain⟨n,hn⟩:∃ n,nl (val xs)=n+1:=⟨nl (val xs)-1,by omega⟩
 obtain⟨t,ht,ht0⟩:=aHC (xs:=aG (val xs)) (aS _) (by rw[aR]; exact hn)
 have htl:t<4294967296:=aS _ t (bLT ht)
 have hv:val xs=val ((aG (val xs)).take n)+4294967296 ^ n*t:=by
  have:=aR (val xs)
  have hnl:n<(aG (val xs)).length:=by rw[aZ]; omega
  have hg:(aG (val xs))[n]=t:=by rw[bJN hnl] at ht; exact bLW.inj ht
  conv=>lhs; rw[← this,← bJS (l:=aG (val xs)) (i:=n+1) (by rw[aZ]; omega)]
  rw[bX _ hnl,hg]
 have hb:cD (val xs)=32*n+cD t:=by
  have h3:=eJ ((aS (val xs)).take n)
  rw[bJU,aZ,bLG Om] at h3
  have hk:=awH (lo:=val ((aG (val xs)).take n)) (k:=32*n) (hi:=t) (by rw[Nat.pow_mul]; exact h3) ht0
  rw[← hk,Nat.pow_mul]
  exact congrArg cD hv
 have bHL:(aH (aG (val xs)))[n]?=some [.int .u32 (t:Nat)]:=by
  simp[aH,ht]
 have e1:IntKind.i64.wrap (((nl (val xs):Nat):Int)-1)=(n:Int):=by rw[wrap_i64 Om Om]; omega
 have e2:IntKind.i64.wrap (32*(n:Int))=((32*n:Nat):Int):=by rw[wrap_i64 Om Om]; omega
 simp only[go_sem,γ,reduceCtorEq,decide_eq_false c1,aHL,aHM,bJC,aZ,e1,e2,bHL]
 refine wp_loop (α:=Nat × Nat) (fun a=>aHF a.1 a.2) (fun _=>.nil) (fun a=>a.1+cD a.2=32*n+cD t∧a.2<4294967296) (fun a=>a.2) (32*n,t) ⟨rfl,htl⟩ ?_ PH.nil_le ?_
 ·unfold aHF
  exact Lq
 rintro⟨k,v⟩ ⟨hk,hlt⟩
 simp only at hk hlt
 have hk32:cD t≤32:=(kB t 32).2 htl
 simp only[go_sem,γ,aHG,aHN,aHF]
 by_cases c2:(v:Int)>0
 ·have hv0:v≠0:=by omega
  have hsh:IntKind.u32.wrap (bKX (v:Int) 2)=((v/2:Nat):Int):=by
   rw[show bKX (v:Int) 2=((v/2:Nat):Int) from Int.ofNat_tdiv v 2,cB,bKK Om]
  simp only[go_sem,μ,γ,c2,aHO,aHP,hsh,wZz k]
  refine aK (k+1,v/2) ⟨?_,?_⟩ (Nat.div_lt_self Om (by decide)) ?_ PH.nil_le
  ·have:=mT hv0
   simp only; omega
  ·simp only; omega
  ·exact Lq
 ·have:v=0:=by omega
  subst this
  simp only[go_sem,γ,c2,aqL]
  refine aM (.inr rfl) rfl ?_
  rw[iD] at hk
  simp only[aW,PV.int.injEq,true_and]
  omega
theorem apX (n:Nat):4294967296 ^ (n/32)*2 ^ (n%32)=2 ^ n:=by
 rw[show (4294967296:Nat)=2 ^ 32 by decide,← Nat.pow_mul,← Nat.pow_add]
 congr 1
 omega
theorem a8W (n:Nat):IntKind.i64.wrap (bKX (n:Int) 32)=IntKind.i64.wrap ((n/32:Nat):Int):=by
 rw[show bKX (n:Int) 32=((n/32:Nat):Int) from Int.ofNat_tdiv n 32]
theorem a8X (n:Nat):Int.tmod (n:Int) 32=((n%32:Nat):Int):=Int.ofNat_tmod n 32
def biF (a:List Nat) (n:Nat) (v:PV) (c i:Nat):PF:=(((((PF.nil.set 0 (aF a)).set 1 (.int .i64 n)).set 5 (v)).set 6 (.int .u64 c)).set 7 (.int .i64 i))
theorem bsH {C:Ctx} (L:nE C) (a:List Nat) (n:Nat) (ha:Lim a) (h1:a.length≤8388608) (hn:n≤8388608) (h0:a.length=0→val a=0) :
  XO.wp C (aT uup.res (kF 1 (aH (aG (val a*2 ^ n))))) (PF.args [aF a,.int .i64 n]) .nil:=by
 simp only[go_sem,γ,reduceCtorEq,XO,a9J,a9K,uup,bJC,yL]
 by_cases c0:a.length=0
 ·simp only[go_sem,decide_eq_true c0,a9L]
  rw[h0 c0,Nat.zero_mul,eZ]
  exact CM (.inr rfl) rfl
 have ez:IntKind.i64.wrap (bKX (n:Int) 32)=((n/32:Nat):Int):=by rw[a8W,xH Om]
 have em:=a8X n
 have eu:IntKind.u64.wrap ((n%32:Nat):Int)=((n%32:Nat):Int):=bE Om
 have hsp:=apX n
 have hs:n%32<32:=bKR _ (by decide)
 have hz:n/32≤8388608:=by omega
 generalize hzz:n/32=z at *
 generalize hss:n%32=s at *
 have hm1:((z:Nat):Int)*((4:Nat):Int)≤140737488355328:=by omega
 have hm2:((z:Nat):Int)≤9223372036854775807:=by omega
 have hzr:bJE z [PV.int .u32 0]=aH (bJE z 0):=by
  simp[aH]
 have h2s:2 ^ s≤2147483648:=Nat.pow_le_pow_right (show 0<2 by decide) (Om:s≤31)
 have h2s0:0<2 ^ s:=bLV (by decide)
 simp only[go_sem,μ,γ,decide_eq_false c0,a9M,ez,hm1,hm2,hzr]
 refine aQ fun o ho=>?_
 simp only[go_sem,γ,a9N,a9O]
 refine wp_loop (α:=List Nat × Nat × Nat × PV × PH) (fun t=>biF a n t.2.2.2.1 t.2.1 t.2.2.1) (fun t=>t.2.2.2.2)
  (fun t=>t.2.2.1≤a.length∧t.1.length=z+t.2.2.1∧Lim t.1∧t.2.1<2 ^ s∧val t.1+4294967296 ^ t.1.length*t.2.1=val (a.take t.2.2.1)*2 ^ n∧bO t.2.2.2.2 1 t.2.2.2.1 (aH t.1)) (fun t=>a.length-t.2.2.1) (bJE z 0,0,0,.osl o 1 0 z,PH.nil.set o (.rows 1 (aH (bJE z 0))))
  ⟨by simp,by simp,tA _,h2s0,by simp[val,qD],.inr ⟨o,aH (bJE z 0),by rw[bS,bMG],by simp only[go_sem],by rw[bS]; exact bJF _,bKB⟩⟩ ?_ PH.le_refl ?_
 ·unfold biF
  exact Lq
 rintro⟨P,c,i,v,H0⟩ ⟨hi,hP,bHV,hc,bHR,hO⟩
 simp only at hi hP bHV hc bHR hO ⊢
 simp only[go_sem,γ,reduceCtorEq,aVG,a9P,biF]
 by_cases c1:i<a.length
 ·have c1':(i:Int)<(a.length:Nat):=by omega
  have hai:=ha _ (bJG c1)
  have hta:=bX a c1
  have hax:=bJ a c1
  generalize hx:a[i]=x at *
  have hxs:x*2 ^ s≤4294967295*2147483648:=Nat.mul_le_mul Om h2s
  have ex:IntKind.u64.wrap ((x:Nat):Int)=((x:Nat):Int):=bE Om
  have hxs':2 ^ s*x=x*2 ^ s:=bKA _ _
  have esh:shift .shl .u64 (x:Int) (s:Int)=some (.int .u64 ((2 ^ s*x:Nat):Int)):=HI Om Om
  have eor:=orI (a:=2 ^ s*x) (b:=c) (n:=c+2 ^ s*x) Om Om (by rw[Nat.or_comm]; exact aEK hc Om) Om
  have hdig:(c+2 ^ s*x)/4294967296<2 ^ s:=by
   rw[bLX (by decide)]
   have:2 ^ s*(x+1)≤2 ^ s*4294967296:=bLH _ Om
   rw[bJP,Nat.mul_one] at this
   omega
  have hb1:(1:Nat)*1≤16777216:=by decide
  simp only[go_sem,μ,υ,γ,η,ζ,reduceCtorEq,c1',a9Q,hax,ex,em,eu,esh,eor,a9R,cB,hb1]
  refine fU (src:=[[.int .u32 (((c+2 ^ s*x)%4294967296:Nat):Int)]]) hO rfl (nO Om) fun v' H' hO' _=>?_
  rw[nP] at hO'
  simp only[go_sem,γ,reduceCtorEq,a9S,uL,aVH,wZz i]
  refine aK (P++[(c+2 ^ s*x)%4294967296],(c+2 ^ s*x)/4294967296,i+1,v',H') ⟨by simp only; omega,by simp; omega,bHV.app fun y hy=>by simp at hy; subst hy; exact bKR _ (by decide),hdig,?_,hO'⟩ (by simp only; omega) ?_ PH.le_refl
  ·simp only
   have hp:4294967296 ^ P.length*(2 ^ s*x)=4294967296 ^ i*x*2 ^ n:=by
    rw[hP,Nat.pow_add,← hsp]
    rw[bJY,Nat.mul_left_comm (4294967296 ^ i),← bJY (4294967296 ^ z),bKA (4294967296 ^ z*2 ^ s),bJY,bKA x]
   rw[gZ,bJL,bJT,bKV,bJY,bLM,← bJP,Nat.mod_add_div,hta,bJP,bKF,← bLM,bHR,hp]
  ·exact Lq
 ·have e:i=a.length:=by omega
  subst e
  have c1':¬ ((a.length:Nat):Int)<(a.length:Nat):=by omega
  have hb1:(1:Nat)*1≤16777216:=by decide
  have hV:val (P++[c])=val a*2 ^ n:=by
   rw[gZ,bHR,bKB]
  have hLc:Lim (P++[c]):=bHV.app fun x hx=>by simp at hx; omega
  have ec:IntKind.u32.wrap ((c:Nat):Int)=((c:Nat):Int):=by rw[cB,bKK Om]
  simp only[go_sem,υ,γ,η,ζ,reduceCtorEq,c1',aVI,ec,hb1]
  refine fU (src:=[[.int .u32 ((c:Nat):Int)]]) hO rfl (nO Om) fun v' H' hO' _=>?_
  rw[nP] at hO'
  have hs:=L.trimM _ hLc (by simp; omega)
  rw[hV] at hs
  refine auN hs hO' rfl fun F1 H1 _ r H2 hr _=>?_
  simp only[go_sem]
  exact a8F (.inr rfl) hr rfl
def OS (a:List Nat) (n:Nat) (v:PV) (i:Nat):PF:=((((PF.nil.set 0 (aF a)).set 1 (.int .i64 n)).set 5 (v)).set 6 (.int .i64 i))
theorem bhT {C:Ctx} (L:nE C) (a:List Nat) (n:Nat) (ha:Lim a) (h1:a.length≤8388608) (hn:n≤1000000000) :
  HW.wp C (aT aeQ.res (bZ (aF (aG (val a/2 ^ n))))) (PF.args [aF a,.int .i64 n]) .nil:=by
 have ez:IntKind.i64.wrap (bKX (n:Int) 32)=((n/32:Nat):Int):=by rw[a8W,xH Om]
 have em:=a8X n
 have eu:IntKind.u64.wrap ((n%32:Nat):Int)=((n%32:Nat):Int):=bE Om
 have hsp:=apX n
 have hs:n%32<32:=bKR _ (by decide)
 have hz:n/32≤1000000000:=by omega
 generalize hzz:n/32=z at *
 generalize hss:n%32=s at *
 simp only[go_sem,μ,γ,reduceCtorEq,HW,aHW,aHX,aeQ,bJC,ez]
 by_cases c0:a.length≤z
 ·have c0':((z:Nat):Int)≥(a.length:Nat):=by omega
  have hq:val a/2 ^ n=0:=by
   refine bML (Nat.lt_of_lt_of_le (eJ ha) ?_)
   rw[← hsp]
   exact Nat.le_trans (Nat.pow_le_pow_right (by decide) c0) (Nat.le_mul_of_pos_right _ (bLV (by decide)))
  simp only[go_sem,c0',aHY]
  rw[hq,eZ]
  exact aX (vs:=[.aB]) (.inr rfl) .nil rfl PH.nil_le ⟨.nil 1,rfl⟩
 have c0':¬ ((z:Nat):Int)≥(a.length:Nat):=by omega
 have hR:val a/2 ^ n=val (a.drop z)/2 ^ s:=by
  rw[sC ha Om,← hsp,Nat.div_div_eq_div_mul]
 have hLd:Lim (a.drop z):=ha.drop z
 simp only[go_sem,μ,γ,c0',aHZ,aIA,ez]
 refine wp_loop (α:=List Nat × PV × PH) (fun t=>OS a n t.2.1 (z+t.1.length)) (fun t=>t.2.2)
  (fun t=>z+t.1.length≤a.length∧t.1=dL t.1.length (val (a.drop z)/2 ^ s)∧bO t.2.2 1 t.2.1 (aH t.1)) (fun t=>a.length-t.1.length) ([],.aB,.nil)
  ⟨by simp; omega,rfl,.nil⟩ ?_ PH.nil_le ?_
 ·unfold OS
  (repeat' (first|exact PF.nil_le|refine PF.aI ?_ ?_))<;>first|(simp only[go_sem,γ,reduceCtorEq,bLO]<;>rfl)|rfl
 rintro⟨P,v,H0⟩ ⟨hP,hD,hO⟩
 simp only at hP hD hO ⊢
 simp only[go_sem,γ,reduceCtorEq,aqM,aIB,OS]
 have hlimP:Lim P:=by rw[hD]; exact kP _ _
 by_cases c1:z+P.length<a.length
 ·have c1':((z+P.length:Nat):Int)<(a.length:Nat):=by omega
  have hai:=ha _ (bJG c1)
  have hax:=bJ a c1
  have hkl:P.length≤(a.drop z).length:=by rw[bLF]; omega
  have hvd:=sC hLd hkl
  have hdrop:(a.drop z).drop P.length=a[z+P.length]::a.drop (z+P.length+1):=by
   rw[List.drop_drop,bKY c1]
  generalize hx:a[z+P.length]=x at *
  have ex:IntKind.u64.wrap ((x:Nat):Int)=((x:Nat):Int):=bE Om
  have hb1:(1:Nat)*1≤16777216:=by decide
  have ew:IntKind.i64.wrap (((z+P.length:Nat):Int)+1)=((z+P.length+1:Nat):Int):=dE Om
  have fin:∀ (t:Nat) (F:PF),t<18446744073709551616→val (a.drop z)/4294967296 ^ P.length%(4294967296*4294967296)=t→F 0=some (aF a)→F 1=some (.int .i64 n)→F 5=some v→F 6=some (.int .i64 (z+P.length:Nat))→F 7=some (.int .u64 t) →
    ∀ K:cO,(∀ v' F2 H2,(OS a n v' (z+(P.length+1))).le F2→bO H2 1 v' (aH (P++[t/2 ^ s%4294967296]))→(P++[t/2 ^ s%4294967296])=dL (P.length+1) (val (a.drop z)/2 ^ s)→K .normal F2 H2) →
    aC.wp C (.region XH) (dU 1 (gY C (aC.wp C (.region OT)) K)) F H0:=by
   intro t F ht hte f0 f1 f5 f6 f7 K hK
   have esh:shift .shr .u64 (t:Int) (s:Int)=some (.int .u64 ((t/2 ^ s:Nat):Int)):=bsD Om
   simp only[go_sem,μ,υ,γ,η,ζ,XH,f5,f7,f1,em,eu,esh,cB,hb1]
   refine fU (src:=[[.int .u32 ((t/2 ^ s%4294967296:Nat):Int)]]) hO rfl (nO Om) fun v' H' hO' _=>?_
   rw[nP] at hO'
   simp only[go_sem,γ,OT,f6,ew]
   refine hK v' _ H' ?_ hO' ?_
   ·unfold OS
    exact Lq
   ·rw[sU,← hD]
    congr 2
    have e:val (a.drop z)/4294967296 ^ P.length=t%4294967296+4294967296*(t/4294967296+4294967296*(val (a.drop z)/4294967296 ^ P.length/(4294967296*4294967296))):=by
     have:=Nat.mod_add_div (val (a.drop z)/4294967296 ^ P.length) (4294967296*4294967296)
     rw[hte] at this
     have h2:=Nat.mod_add_div t 4294967296
     rw[bJP,← bLM,h2,← bJY]
     exact this.symm
    have:=TN hs e
    rw[this]
    congr 2
    have h2:=Nat.mod_add_div t 4294967296
    omega
  simp only[aC.wp,go_sem] at fin
  simp only[go_sem,γ,reduceCtorEq,c1',aIC,hax,ex,aID,ew]
  by_cases c2:z+P.length+1<a.length
  ·have c2':((z+P.length+1:Nat):Int)<(a.length:Nat):=by omega
   have hai2:=ha _ (bJG c2)
   have hax2:=bJ a c2
   rw[bKY c2] at hdrop
   generalize hy:a[z+P.length+1]=y at *
   have ey:IntKind.u64.wrap ((y:Nat):Int)=((y:Nat):Int):=bE Om
   have esh:shift .shl .u64 (y:Int) ((32:Nat):Int)=some (.int .u64 ((2 ^ 32*y:Nat):Int)):=HI (by decide) Om
   have eor:=orI (a:=x) (b:=2 ^ 32*y) (n:=x+2 ^ 32*y) Om Om (aEK Om Om) Om
   simp only[go_sem,γ,reduceCtorEq,c2',aIE,ew,hax2,ey,show shift .shl .u64 (y:Int) 32=_ from esh,eor]
   refine fin (x+2 ^ 32*y) _ Om ?_ rfl rfl rfl rfl rfl _ ?_
   ·rw[← hvd,hdrop]
    simp only[val]
    omega
   ·intro v' F2 H2 e1 e2 e3
    refine aK (α:=List Nat × PV × PH) (P++[(x+2 ^ 32*y)/2 ^ s%4294967296],v',H2) ⟨by simp; omega,by simpa using e3,e2⟩ (by simp; omega) ?_ PH.le_refl
    simp only[bJL,bJT]
    exact e1
  ·have c2':¬ ((z+P.length+1:Nat):Int)<(a.length:Nat):=by omega
   rw[bMO (l:=a) (i:=z+P.length+1) Om] at hdrop
   simp only[go_sem,c2']
   refine fin x _ Om ?_ rfl rfl rfl rfl rfl _ ?_
   ·rw[← hvd,hdrop]
    simp only[val]
    omega
   ·intro v' F2 H2 e1 e2 e3
    refine aK (α:=List Nat × PV × PH) (P++[x/2 ^ s%4294967296],v',H2) ⟨by simp; omega,by simpa using e3,e2⟩ (by simp; omega) ?_ PH.le_refl
    simp only[bJL,bJT]
    exact e1
 ·have e:z+P.length=a.length:=by omega
  have c1':¬ ((z+P.length:Nat):Int)<(a.length:Nat):=by omega
  have hV:val P=val (a.drop z)/2 ^ s:=by
   rw[hD]
   refine mC (Nat.lt_of_le_of_lt (Nat.div_le_self _ _) ?_)
   have:=eJ hLd
   rw[bLF] at this
   rw[show P.length=a.length-z by omega]
   exact this
  have hs:=L.trim _ hlimP Om
  rw[hV,← hR] at hs
  simp only[go_sem,γ,reduceCtorEq,c1',aqN]
  refine rD hs hO rfl fun F1 H1 _=>?_
  simp only[go_sem]
  exact aX (.inr rfl) .nil rfl PH.nil_le ⟨.refl _,rfl⟩
structure KE (C:Ctx):Prop extends YH C where
 bits:∀ xs,Lim xs→xs.length≤35184372087808→aD C 31 [aF xs] .nil (aE (.int .i64 (cD (val xs):Nat)))
 upM:∀ (a:List Nat) (n:Nat),Lim a→a.length≤8388608→n≤8388608→(a.length=0→val a=0)→aD C 45 [aF a,.int .i64 n] .nil (kF 1 (aH (aG (val a*2 ^ n))))
 down:∀ (a:List Nat) (n:Nat),Lim a→a.length≤8388608→n≤1000000000→aD C 40 [aF a,.int .i64 n] .nil (aE (aF (aG (val a/2 ^ n))))
def udS:Spec:=fun name vs=>match name,vs with
 | 35,[.int _ v]=>some ([],fun _=>aE (aF (aG v.toNat)))
 | 44,[x,y]=>some ([],fun _=>aE (aF (aG (val (gS x)*val (gS y)))))
 | 32,[x,.osl q _ _ _]=>some ([q],fun H0 r H'=>H'=H0∧∀ xs,Lim xs→H0 q=some (.rows 1 (aH xs))→r=.int .i64 (dB (val (gS x)) (val xs)))
 | _,_=>none
theorem bhS (v:Nat):udS 35 [.int .u64 v]=some ([],fun _=>aE (aF (aG v))):=rfl
theorem a9B (x y:List Nat):udS 44 [aF x,aF y]=some ([],fun _=>aE (aF (aG (val x*val y)))):=by
 show some ([],fun _=>aE (aF (aG (val (gS (aF x))*val (gS (aF y))))))=_; rw[dW,dW]
theorem bdA (q:Nat) (x L:List Nat):(PH.nil.set q (.rows 1 (aH L)))=(PH.nil.set q (.rows 1 (aH L)))∧∀ xs,Lim xs→(PH.nil.set q (.rows 1 (aH L))) q=some (.rows 1 (aH xs))→(PV.int .i64 (dB (val x) (val L)))=.int .i64 (dB (val (gS (aF x))) (val xs)):=by
 refine⟨rfl,fun xs hx e=>?_⟩
 rw[fI] at e
 have:aH L=aH xs:=(cQ.rows.inj (bLW.inj e)).2
 rw[MW this,dW]
def duF (n o lx:Nat) (y:List Nat) (top oq lq:Nat) (k:Int):PF :=
 ((((((PF.nil.set 10 (.int .i64 n)).set 11 (.osl o 1 0 lx)).set 12 (aF y)).set 13 (.int .u64 top)).set 14 (.osl oq 1 0 lq)).set 15 (.int .i64 k))
abbrev dQ (X:List Nat) (Z:List (List PV)):List (List PV):=aH X++Z
theorem IU {X:List Nat} {Z:List (List PV)} {i:Nat} (h:i<X.length):(dQ X Z)[i]?=some [.int .u32 ((X[i]:Nat):Int)]:=by
 rw[dQ,bLN (by rw[bS]; exact h),bJ X h]
theorem atI {X:List Nat} {Z:List (List PV)} {i:Nat} (h:i<X.length) (v:Nat):(dQ X Z).set i [.int .u32 (v:Int)]=dQ (X.set i v) Z:=by
 rw[dQ,List.set_append_left _ _ (by rw[bS]; exact h),eX]
theorem atH {X:List Nat} {Z:List (List PV)} {j m:Nat} (h:j+m≤X.length):((dQ X Z).drop j).take m=aH ((X.drop j).take m):=by
 rw[dQ,List.drop_append_of_le_length (by rw[bS]; omega),List.take_append_of_le_length (by rw[bLF,bS]; omega)]
 unfold aH
 rw[← List.map_drop,← List.map_take]
theorem bsG {C:Ctx} (L:KE C) (n o lx:Nat) (y:List Nat) (top oq lq j:Nat) (X:List Nat) (Z:List (List PV)) (hne:oq≠o) (hy:Lim y) (hX:Lim X) (hlx:X.length=lx) (hl:lx≤5000) (hj:j+(y.length+1)≤lx) (hy0:0<val y)
  (qv:cQ) (g0:Nat) (hg:val ((X.drop j).take (y.length+1))/val y≤g0) (hg0:g0<4294967296) (K:cO) (F:PF) (H:PH) (hF:((duF n o lx y top oq lq j).set 17 (.int .u64 g0)).le F) (hH:((PH.nil.set o (.rows 1 (dQ X Z))).set oq qv).le H)
  (hK:∀ F' H',((duF n o lx y top oq lq j).set 17 (.int .u64 (val ((X.drop j).take (y.length+1))/val y:Nat))).le F'→((PH.nil.set o (.rows 1 (dQ X Z))).set oq qv).le H'→K .normal F' H') :
  aC.wp C (.block 4 (.loop sK)) K F H:=by
 have bID:¬ o=oq:=fun h=>hne h.symm
 have hWl:((X.drop j).take (y.length+1)).length=y.length+1:=by rw[bJU,bLF]; omega
 have hWL:Lim ((X.drop j).take (y.length+1)):=(hX.drop _).take _
 have hcut:=atH (X:=X) (Z:=Z) (j:=j) (m:=y.length+1) Om
 have bIY:j+(y.length+1)≤(dQ X Z).length:=by rw[dQ,bJL,bS]; omega
 have hWn:aH ((X.drop j).take (y.length+1))≠[]:=fun h=>by
  have:=congrArg List.length h
  rw[bS,hWl] at this
  simp at this
 generalize hW:(X.drop j).take (y.length+1)=W at *
 generalize hqq:val W/val y=qq at *
 simp only[go_sem]
 refine wp_loop (α:=Nat) (fun g=>(duF n o lx y top oq lq j).set 17 (.int .u64 g)) (fun _=>(PH.nil.set o (.rows 1 (dQ X Z))).set oq qv) (fun g=>qq≤g∧g<4294967296) (fun g=>g) g0 ⟨hg,hg0⟩ hF hH ?_
 rintro g ⟨hge,hlt⟩
 have e1:IntKind.i64.wrap ((j:Int)+((y.length:Nat):Int))=((j+y.length:Nat):Int):=fK Om
 have e2:IntKind.i64.wrap (((j+y.length:Nat):Int)+1)=((j+y.length+1:Nat):Int):=dE Om
 have b1:(j:Int)≤((j+y.length+1:Nat):Int):=by omega
 have b2:((j+y.length+1:Nat):Int)≤(lx:Nat):=by omega
 have b3:j+y.length+1-j=y.length+1:=by omega
 have mk:=L.make g Om
 have tm:=L.times y (aG g) hy (aS _) Om (by
  have h1:nl g≤1:=lN (by rw[Nat.pow_one]; exact hlt)
  rw[aZ]; omega)
 rw[aR] at tm
 have hnt:(aG (val y*g)).length≤35184372087808:=by
  have h1:nl g≤1:=lN (by rw[Nat.pow_one]; exact hlt)
  have h2:=jZ (a:=val y) (b:=g) (eW hy) h1
  rw[aZ]; omega
 have cm:=L.cmp (aG (val y*g)) W (aS _) hWL hnt Om
 rw[aR] at cm
 simp only[go_sem,sK]
 refine bU .nil udS PH.nil_le ?_
 simp only[go_sem,γ,TZ,duF]
 refine bQ (bhS g) mk Sq PH.nil_le ?_
 simp only[go_sem]
 have tS:=a9B y (aG g)
 rw[aR] at tS
 refine bQ tS tm Sq PH.nil_le ?_
 simp only[go_sem,γ,reduceCtorEq,bJC,e1,e2,b1,b2,b3]
 refine xF (src:=aH W) ?_ ?_ (fun h=>absurd h hWn) fun _ o' ho'=>?_
 ·simp only[go_sem,bID,bIY,hcut]
 ·unfold roomFor
  rw[bS,hWl]
  simp only[maxLen]; omega
 refine⟨PH.nil_le,?_⟩
 rw[bS,hWl]
 have n1:¬ o'=oq:=(cY.1 ho').1
 refine bdB (o:=o') (s:=1) (rs:=aH W) (vs:=[aF (aG (val y*g)),.osl o' 1 0 (y.length+1)]) (v:=.int .i64 (dB (val y*g) (val W))) rfl (.int _ _) Sq ?_ ?_ ?_ Sq PH.nil_le ?_
 ·rw[bLB,bLB,List.map_nil,pO (by rw[bS,hWl]; exact bJF _),bJS (by rw[bS,hWl]; exact bJF _)]
  exact cm
 ·have:=bdA o' (aG (val y*g)) W
  rw[aR] at this
  exact this
 ·rintro r H' ⟨h1,h2⟩
  have:=h2 W hWL (by rw[fI])
  rw[dW,aR] at this
  exact⟨this,h1⟩
 simp only[go_sem,γ]
 by_cases c:val W<val y*g
 ·have hc:dB (val y*g) (val W)=1:=by
   unfold dB
   rw[if_neg Om,if_pos c]
  have hq:qq<g:=by rw[← hqq]; exact (bLX hy0).2 (by rw[bKA]; exact c)
  have ew:IntKind.u64.wrap ((g:Int)-1)=((g-1:Nat):Int):=by rw[wrap_u64 Om Om]; omega
  simp only[go_sem,γ,hc,show (1:Int)>0 by decide,UA,ew]
  refine aK (g-1) ⟨by omega,by omega⟩ Om ?_ ?_
  ·exact Lq
  ·refine PH.aI (PH.aI PH.nil_le ?_) ?_
   ·have n2:¬ o=o':=fun h=>by
     subst h
     rw[bR,if_neg bID,fI] at ho'
     cases ho'
    simp only[go_sem,n2,bID]
   ·have n3:¬ oq=o':=fun h=>n1 h.symm
    simp only[go_sem,n3]
 ·have hc:¬ dB (val y*g) (val W)>0:=by
   unfold dB
   rw[if_neg c]
   split<;>decide
  have hq:g=qq:=by
   have:g≤qq:=by rw[← hqq]; exact (Nat.le_div_iff_mul_le hy0).2 (by rw[bKA]; omega)
   omega
  simp only[go_sem,hc]
  refine hK _ _ ?_ ?_
  ·unfold duF
   (repeat' (first|exact PF.nil_le|refine PF.aI ?_ ?_))<;>first|(simp only[go_sem,γ,← hq]<;>rfl)|rfl
  ·refine PH.aI (PH.aI PH.nil_le ?_) ?_
   ·have n2:¬ o=o':=fun h=>by
     subst h
     rw[bR,if_neg bID,fI] at ho'
     cases ho'
    simp only[go_sem,n2,bID]
   ·have n3:¬ oq=o':=fun h=>n1 h.symm
    simp only[go_sem,n3]
theorem bmP (R k:Nat) (h:k<nl R):∃ h':k<(aG R).length,(aG R)[k]=R/4294967296 ^ k%4294967296:=by
 have hl:k<(aG R).length:=by rw[aZ]; exact h
 refine⟨hl,?_⟩
 have h1:=sC (aS R) (Nat.le_of_lt hl)
 rw[aR,bKY hl] at h1
 have h2:=aS R _ (bJG hl)
 simp only[val] at h1
 rw[← h1,Nat.add_mul_mod_self_left,bKK h2]
theorem bfA (R k:Nat) (h:nl R≤k):R/4294967296 ^ k%4294967296=0:=by
 rw[bML ((gP R k).1 h)]
theorem boD {A P W Z:List Nat} {i:Nat} (hP:P.length=i) (hi:i<W.length) (v:Nat):(A++(P++W.drop i)++Z).set (A.length+i) v=A++((P++[v])++W.drop (i+1))++Z :=
 MW (by rw[← eX]; exact CO hP hi v)
theorem bvJ {C:Ctx} (n o lx:Nat) (y:List Nat) (top oq lq j:Nat) (X:List Nat) (Z:List (List PV)) (hne:oq≠o) (hlx:X.length=lx) (hl:lx≤5000) (hj:j+(y.length+1)≤lx)
  (qv:cQ) (g R:Nat) (K:cO) (F:PF) (H:PH) (hF:((((duF n o lx y top oq lq j).set 17 (.int .u64 g)).set 18 (aF (aG R))).set 19 (.int .i64 0)).le F) (hH:((PH.nil.set o (.rows 1 (dQ X Z))).set oq qv).le H)
  (hK:∀ F' H',((duF n o lx y top oq lq j).set 17 (.int .u64 g)).le F'→((PH.nil.set o (.rows 1 (dQ (X.take j++dL (y.length+1) R++X.drop (j+(y.length+1))) Z))).set oq qv).le H'→K .normal F' H') :
  aC.wp C (.block 6 (.loop sL)) K F H:=by
 have bID:¬ o=oq:=fun h=>hne h.symm
 have hA:(X.take j).length=j:=by rw[bJU]; omega
 have hWl:((X.drop j).take (y.length+1)).length=y.length+1:=by rw[bJU,bLF]; omega
 have hZl:(X.drop (j+(y.length+1))).length=lx-(j+(y.length+1)):=by rw[bLF,hlx]
 have hsplit:X.take j++(X.drop j).take (y.length+1)++X.drop (j+(y.length+1))=X:=by
  rw[bKD,← List.drop_drop,bLU,bLU]
 rw[← hsplit] at hH
 generalize hAA:X.take j=A at *
 generalize hWW:(X.drop j).take (y.length+1)=W at *
 generalize hZZ:X.drop (j+(y.length+1))=Zx at *
 simp only[go_sem]
 refine wp_loop (α:=List Nat) (fun P=>(((duF n o lx y top oq lq j).set 17 (.int .u64 g)).set 18 (aF (aG R))).set 19 (.int .i64 P.length)) (fun P=>(PH.nil.set o (.rows 1 (dQ (A++(P++W.drop P.length)++Zx) Z))).set oq qv)
  (fun P=>P.length≤y.length+1∧P=dL P.length R) (fun P=>y.length+1-P.length) [] ⟨bJO _,rfl⟩ hF (by simpa using hH) ?_
 rintro P ⟨hP,hD⟩
 simp only[go_sem,γ,sL,UB,duF]
 by_cases c:P.length<y.length+1
 ·have c':(P.length:Int)≤(y.length:Nat):=by omega
  have ei:IntKind.i64.wrap ((j:Int)+(P.length:Int))=((j+P.length:Nat):Int):=fK Om
  have hlen:(A++(P++W.drop P.length)++Zx).length=lx:=by
   simp only[bJL,bLF]; omega
  have hi:j+P.length<(A++(P++W.drop P.length)++Zx).length:=by omega
  have b1:((j+P.length:Nat):Int)<(lx:Nat):=by omega
  have r1:=IU (Z:=Z) hi
  have s1:=atI (Z:=Z) hi 0
  have hi2:j+P.length<((A++(P++W.drop P.length)++Zx).set (j+P.length) 0).length:=by rw[bLA]; exact hi
  have hput:=fun v=>boD (A:=A) (P:=P) (W:=W) (Z:=Zx) (i:=P.length) rfl Om v
  rw[hA] at hput
  generalize hXX:A++(P++W.drop P.length)++Zx=XX at *
  have r2:(dQ (A++((P++[0])++W.drop (P.length+1))++Zx) Z)[j+P.length]?=some [.int .u32 ((0:Nat):Int)]:=by
   rw[← hput 0,IU hi2,List.getElem_set_self]
  have s2:∀ v,(dQ (A++((P++[0])++W.drop (P.length+1))++Zx) Z).set (j+P.length) [.int .u32 ((v:Nat):Int)]=dQ (A++((P++[v])++W.drop (P.length+1))++Zx) Z:=by
   intro v
   rw[← hput 0,atI hi2,List.set_set,hput]
  have bIA:=sU P.length R
  rw[← hD] at bIA
  have ew:IntKind.i64.wrap ((P.length:Int)+1)=((P.length+1:Nat):Int):=dE Om
  simp only[go_sem,γ,c',UC,ei,b1,bID,r1,show ([PV.int .u32 (0:Int)])=[PV.int .u32 ((0:Nat):Int)] from rfl,s1,UD,aZ]
  by_cases c2:P.length<nl R
  ·have c2':(P.length:Int)<(nl R:Nat):=by omega
   obtain⟨hl',hv⟩:=bmP R P.length c2
   have hr:=bJ (aG R) hl'
   rw[hv] at hr
   simp only[go_sem,γ,c2',UE,hr,ei,b1,bID,r2,s2,List.set_set,hput,AO,ew]
   refine aK (P++[R/4294967296 ^ P.length%4294967296]) ⟨by simp; omega,by rw[bJL,bJT]; exact bIA.symm⟩ (by simp; omega) ?_ ?_
   ·rw[bJL,bJT]
    exact Lq
   ·rw[bJL,bJT]
    refine PH.aI (PH.aI PH.nil_le ?_) ?_<;>simp only[go_sem,bID,show ¬ oq=o from hne]
  ·have c2':¬ (P.length:Int)<(nl R:Nat):=by omega
   have hv:=bfA R P.length Om
   rw[hv] at bIA
   simp only[go_sem,γ,c2',hput,AO,ew]
   refine aK (P++[0]) ⟨by simp; omega,by rw[bJL,bJT]; exact bIA.symm⟩ (by simp; omega) ?_ ?_
   ·rw[bJL,bJT]
    exact Lq
   ·rw[bJL,bJT]
    refine PH.aI (PH.aI PH.nil_le ?_) ?_<;>simp only[go_sem,bID,show ¬ oq=o from hne]
 ·have c':¬ (P.length:Int)≤(y.length:Nat):=by omega
  have e:P.length=y.length+1:=by omega
  simp only[go_sem,c']
  refine hK _ _ (by unfold duF; exact Lq) ?_
  have h2:A++dL (y.length+1) R++Zx=A++(P++W.drop P.length)++Zx:=by
   rw[bMO Om,bLD,← e,← hD]
  rw[h2]
  exact PH.le_refl
theorem beN {y W:List Nat} {m:Nat} (hy:Lim y) (hW:Lim W) (hly:y.length=m+1) (hlW:W.length=m+2) (ht:0<y[m]):val W/val y≤(4294967296*W[m+1]+W[m])/y[m]:=by
 have h1:=bX y (Om:m<y.length)
 rw[bJS Om] at h1
 have h2:=bX W (Om:m+1<W.length)
 rw[bJS Om,bX W (Om:m<W.length)] at h2
 have h3:=eJ (hW.take m)
 rw[bJU,bLG Om] at h3
 have hp:0<4294967296 ^ m:=bLV (by decide)
 have hb:4294967296 ^ m*y[m]≤val y:=by omega
 have hpos:0<4294967296 ^ m*y[m]:=Nat.mul_pos hp ht
 have e:val W=val (W.take m)+4294967296 ^ m*(4294967296*W[m+1]+W[m]):=by
  rw[h2,bKV,bJP,bJY]; omega
 refine Nat.le_trans (Nat.div_le_div_left hb hpos) ?_
 rw[← Nat.div_div_eq_div_mul,e,Nat.add_mul_div_left _ _ hp,bML h3,bKC]
 exact bJF _
theorem a9C {C:Ctx} (L:KE C) (U0 n o lx lq oq m:Nat) (y z:List Nat) (hne:oq≠o) (hy:Lim y) (hly:y.length=m+1) (ht:0<y[m]) (hlu:lx=lq+(m+1)) (bIT:lx≤5000) (X:List Nat) (hI:mO U0 (val y) (m+1) lx lq lq X (bJE lq 0)) (K:cO) (F:PF) (H:PH)
  (hF:(duF n o lx y (y[m]) oq lq ((lq:Int)-1)).le F) (hH:((PH.nil.set o (.rows 1 (dQ X (aH z)))).set oq (.rows 1 (aH (bJE lq 0)))).le H)
  (hK:∀ X' Q' F' H',mO U0 (val y) (m+1) lx lq 0 X' Q'→(duF n o lx y (y[m]) oq lq (-1)).le F'→((PH.nil.set o (.rows 1 (dQ X' (aH z)))).set oq (.rows 1 (aH Q'))).le H'→K .normal F' H') :
  aC.wp C (.block 2 (.loop sM)) K F H:=by
 have bID:¬ o=oq:=fun h=>hne h.symm
 have hne2:¬ oq=o:=hne
 have hV:val y<4294967296 ^ (m+1):=by have:=eJ hy; rw[hly] at this; exact this
 have hV0:0<val y:=by
  have h1:=bX y (Om:m<y.length)
  rw[bJS Om] at h1
  have:0<4294967296 ^ m*y[m]:=Nat.mul_pos (bLV (by decide)) ht
  omega
 have htl:=hy _ (bJG (Om:m<y.length))
 generalize htop:y[m]=top at *
 simp only[go_sem]
 refine wp_loop (α:=Nat × List Nat × List Nat) (fun t=>duF n o lx y top oq lq ((t.1:Int)-1)) (fun t=>(PH.nil.set o (.rows 1 (dQ t.2.1 (aH z)))).set oq (.rows 1 (aH t.2.2)))
  (fun t=>t.1≤lq∧mO U0 (val y) (m+1) lx lq t.1 t.2.1 t.2.2) (fun t=>t.1) (lq,X,bJE lq 0) ⟨bJF _,hI⟩ hF hH ?_
 rintro⟨k,X,Q⟩ ⟨hk,hI⟩
 simp only at hk hI
 simp only[go_sem,γ,sM,TU,duF]
 by_cases h0:0<k
 ·obtain⟨j,rfl⟩:∃ j,k=j+1:=⟨k-1,by omega⟩
  have hz:((j+1:Nat):Int)-1=(j:Int):=by omega
  have hge:(j:Int)≥0:=by omega
  have dst:=awV hI hV Om hlu
  rw[show m+1+1=m+2 from rfl] at dst
  obtain⟨hlt,hI'⟩:=dst
  have hXl:=hI.lu'
  have hQl:=hI.lq'
  have hWl:((X.drop j).take (m+2)).length=m+2:=by rw[bJU,bLF]; omega
  have hWL:Lim ((X.drop j).take (m+2)):=(hI.limU.drop _).take _
  have hg1:m+1<((X.drop j).take (m+2)).length:=by omega
  have hg0:m<((X.drop j).take (m+2)).length:=by omega
  have a1:j+(m+1)<X.length:=by omega
  have a0:j+m<X.length:=by omega
  have w1:((X.drop j).take (m+2))[m+1]=X[j+(m+1)]:=by simp
  have w0:((X.drop j).take (m+2))[m]=X[j+m]:=by simp
  have hgu:=beN hy hWL hly hWl (by rw[htop]; exact ht)
  rw[w1,w0,htop] at hgu
  have r1:=IU (Z:=aH z) a1
  have r0:=IU (Z:=aH z) a0
  have l1:=hI.limU _ (bJG a1)
  have l0:=hI.limU _ (bJG a0)
  generalize hx1:X[j+(m+1)]=x1 at *
  generalize hx0:X[j+m]=x0 at *
  have e1:IntKind.i64.wrap ((j:Int)+((y.length:Nat):Int))=((j+(m+1):Nat):Int):=by rw[hly]; exact fK Om
  have e0:IntKind.i64.wrap (((j+(m+1):Nat):Int)-1)=((j+m:Nat):Int):=by rw[wrap_i64 Om Om]; omega
  have b1:((j+(m+1):Nat):Int)<(lx:Nat):=by omega
  have b0:((j+m:Nat):Int)<(lx:Nat):=by omega
  have ex1:IntKind.u64.wrap ((x1:Nat):Int)=((x1:Nat):Int):=bE Om
  have ex0:IntKind.u64.wrap ((x0:Nat):Int)=((x0:Nat):Int):=bE Om
  have esh:shift .shl .u64 (x1:Int) 32=some (.int .u64 ((2 ^ 32*x1:Nat):Int)):=HI (s:=32) Om Om
  have e32:(2:Nat) ^ 32=4294967296:=by decide
  have eor:=orI (a:=2 ^ 32*x1) (b:=x0) (n:=2 ^ 32*x1+x0) Om Om (Nat.two_pow_add_eq_or_of_lt Om x1).symm Om
  rw[e32] at esh eor
  have hdd:¬ ((top:Nat):Int)=0:=by omega
  have hq64:(4294967296*x1+x0)/top<18446744073709551616:=Nat.lt_of_le_of_lt (Nat.div_le_self _ _) Om
  have equo:IntKind.u64.wrap (bKX ((4294967296*x1+x0:Nat):Int) ((top:Nat):Int))=(((4294967296*x1+x0)/top:Nat):Int):=by
   rw[show bKX ((4294967296*x1+x0:Nat):Int) ((top:Nat):Int)=(((4294967296*x1+x0)/top:Nat):Int) from rfl]
   exact bE hq64
  have hqB:val ((X.drop j).take (m+2))/val y<4294967296:=(bLX hV0).2 (by rw[bKA]; exact hlt)
  have hcut:=atH (X:=X) (Z:=aH z) (j:=j) (m:=m+2) Om
  have bIY:j+(m+2)≤(dQ X (aH z)).length:=by rw[dQ,bJL,bS]; omega
  have hrest:val ((X.drop j).take (m+2))-val y*(val ((X.drop j).take (m+2))/val y)=val ((X.drop j).take (m+2))%val y:=by
   have:=bMK (val ((X.drop j).take (m+2))) (val y)
   omega
  have hmulle:val y*(val ((X.drop j).take (m+2))/val y)≤val ((X.drop j).take (m+2)):=Nat.mul_div_le _ _
  clear w1 w0
  have gu:=fun g0=>bsG (C:=C) L n o lx y top oq lq j X (aH z) hne hy hI.limU hXl bIT Om hV0 (.rows 1 (aH Q)) g0
  rw[hly,show m+1+1=m+2 from rfl] at gu
  generalize hW:(X.drop j).take (m+2)=W at *
  generalize hqq:val W/val y=qq at *
  have hWn:aH W≠[]:=fun h=>by
   have:=congrArg List.length h
   rw[bS,hWl] at this
   simp at this
  have tail:∀ (g0:Nat) (F:PF) (H:PH),qq≤g0→g0<4294967296→((duF n o lx y top oq lq j).set 17 (.int .u64 g0)).le F→((PH.nil.set o (.rows 1 (dQ X (aH z)))).set oq (.rows 1 (aH Q))).le H →
    aC.wp C (.seq (.block 4 (.loop sK)) (.seq (.region AM) (.seq (.seq (.region AN) (.block 6 (.loop sL))) (.region AP)))) (dU 3 (gY C (aC.wp C (.region AQ)) (eA (fun (t:Nat × List Nat × List Nat)=>duF n o lx y top oq lq ((t.1:Int)-1)) (fun t=>(PH.nil.set o (.rows 1 (dQ t.2.1 (aH z)))).set oq (.rows 1 (aH t.2.2))) (fun t=>t.1≤lq∧mO U0 (val y) (m+1) lx lq t.1 t.2.1 t.2.2) (fun t=>t.1) (j+1) (dU 2 K)))) F H:=by
   intro g0 F H hg hgB hF hH
   have gu:=gu g0 hg hgB
   simp only[go_sem] at gu
   simp only[go_sem]
   refine gu _ F H hF hH ?_
   intro F1 H1 hF1 hH1
   have f11:F1 11=some (.osl o 1 0 lx):=hF1 11 _ (by unfold duF; simp only[go_sem,γ])
   have f12:F1 12=some (aF y):=hF1 12 _ (by unfold duF; simp only[go_sem,γ])
   have f15:F1 15=some (.int .i64 j):=hF1 15 _ (by unfold duF; simp only[go_sem,γ])
   have f17:F1 17=some (.int .u64 (qq:Nat)):=hF1 17 _ (by unfold duF; simp only[go_sem,γ])
   have f10:F1 10=some (.int .i64 n):=hF1 10 _ (by unfold duF; simp only[go_sem,γ])
   have f13:F1 13=some (.int .u64 top):=hF1 13 _ (by unfold duF; simp only[go_sem,γ])
   have f14:F1 14=some (.osl oq 1 0 lq):=hF1 14 _ (by unfold duF; simp only[go_sem,γ])
   have ho:H1 o=some (.rows 1 (dQ X (aH z))):=hH1 o _ (by simp only[go_sem,bID])
   have hoq:H1 oq=some (.rows 1 (aH Q)):=hH1 oq _ Sq
   have b3:(j:Int)≤((j+(m+1)+1:Nat):Int):=by omega
   have b4:((j+(m+1)+1:Nat):Int)≤(lx:Nat):=by omega
   have b5:j+(m+1)+1-j=m+2:=by omega
   have e2:IntKind.i64.wrap (((j+(m+1):Nat):Int)+1)=((j+(m+1)+1:Nat):Int):=dE Om
   simp only[go_sem,γ,reduceCtorEq,AM,f11,f15,f12,bJC,e1,e2,b3,b4,b5]
   refine xF (src:=aH W) ?_ ?_ (fun h=>absurd h hWn) fun _ o' ho'=>?_
   ·simp only[go_sem,ho,bIY,hcut]
   ·unfold roomFor
    rw[bS,hWl]
    simp only[maxLen]; omega
   rw[bS,hWl]
   have n1:¬ oq=o':=fun h=>by subst h; rw[hoq] at ho'; cases ho'
   have n2:¬ o=o':=fun h=>by subst h; rw[ho] at ho'; cases ho'
   have nq:nl qq≤1:=lN (by rw[Nat.pow_one]; exact hqB)
   have tm:=L.times y (aG qq) hy (aS _) Om (by rw[aZ]; omega)
   rw[aR] at tm
   have nW:=eW hWL
   have mn:=L.minus W (aG (val y*qq)) hWL (aS _) (by rw[aR]; exact hmulle) (by rw[aZ]; exact Nat.le_trans (fD hmulle) nW) Om
   rw[aR,hrest] at mn
   have hWt:(aH W).take (m+2)=aH W:=bJS (by rw[bS]; omega)
   simp only[go_sem,f17]
   refine aA (L.make qq Om) Sq ?_
   simp only[go_sem,f12]
   refine aA tm Sq ?_
   simp only[go_sem]
   refine oR (o:=o') (s:=1) (rs:=aH W) mn Sq (by simp only[go_sem,γ,show m+2≤W.length by omega,hWt]) ?_
   simp only[go_sem,γ,AN]
   have hfx:(dQ X (aH z)).map (fun r=>r.map (PV.dC o' 1 (aH W)))=dQ X (aH z):=by
    have:dQ X (aH z)=aH (X++z):=by simp[dQ,aH]
    rw[this]; exact pN _ _ _ _
   have hfq:(aH Q).map (fun r=>r.map (PV.dC o' 1 (aH W)))=aH Q:=pN _ _ _ _
   have ur:=bvJ (C:=C) n o lx y top oq lq j X (aH z) hne hXl bIT Om (.rows 1 (aH Q)) qq (val W%val y)
   rw[hly,show m+1+1=m+2 from rfl] at ur
   simp only[go_sem] at ur
   refine ur _ _ _ ?_ ?_ ?_
   ·unfold duF
    (repeat' (first|exact PF.nil_le|refine PF.aI ?_ ?_))<;>first|(simp only[go_sem,γ,f10,f11,f12,f13,f14,f15,f17,n1,n2]<;>rfl)|rfl
   ·refine PH.aI (PH.aI PH.nil_le ?_) ?_
    ·simp only[go_sem,bID,n2,ho,cQ.frz,hfx]
    ·simp only[go_sem,n1,hoq,cQ.frz,hfq]
   intro F3 H3 hF3 hH3
   have k10:F3 10=some (.int .i64 n):=hF3 10 _ (by unfold duF; simp only[go_sem,γ])
   have k11:F3 11=some (.osl o 1 0 lx):=hF3 11 _ (by unfold duF; simp only[go_sem,γ])
   have k12:F3 12=some (aF y):=hF3 12 _ (by unfold duF; simp only[go_sem,γ])
   have k13:F3 13=some (.int .u64 top):=hF3 13 _ (by unfold duF; simp only[go_sem,γ])
   have k14:F3 14=some (.osl oq 1 0 lq):=hF3 14 _ (by unfold duF; simp only[go_sem,γ])
   have k15:F3 15=some (.int .i64 j):=hF3 15 _ (by unfold duF; simp only[go_sem,γ])
   have k17:F3 17=some (.int .u64 qq):=hF3 17 _ (by unfold duF; simp only[go_sem,γ])
   have ho3:H3 o=some (.rows 1 (dQ (X.take j++dL (m+2) (val W%val y)++X.drop (j+(m+2))) (aH z))):=hH3 o _ (by simp only[go_sem,bID])
   have hq3:H3 oq=some (.rows 1 (aH Q)):=hH3 oq _ Sq
   have hjq:j<Q.length:=by omega
   have rq:=bJ Q hjq
   have hjl:(j:Int)<(lq:Nat):=by omega
   have sq:=eX Q j qq
   have ec:IntKind.u32.wrap ((qq:Nat):Int)=((qq:Nat):Int):=by rw[cB,bKK hqB]
   have ej:IntKind.i64.wrap ((j:Int)-1)=(j:Int)-1:=wrap_i64 Om Om
   simp only[go_sem,γ,AP,k14,k15,k17,hjl,hq3,rq,ec,sq,AQ,ej]
   refine aK (α:=Nat × List Nat × List Nat) (j,_,_) ⟨by simp only; omega,hI'⟩ (by simp only; omega) ?_ ?_
   ·unfold duF
    (repeat' (first|exact PF.nil_le|refine PF.aI ?_ ?_))<;>first|(simp only[go_sem,γ,k10,k11,k12,k13,k14]<;>rfl)|rfl
   ·refine PH.aI (PH.aI PH.nil_le ?_) ?_
    ·simp only[go_sem,bID,ho3]
    ·simp only[go_sem]
  simp only[aC.wp,go_sem] at tail
  simp only[go_sem,hz,hge]
  refine bU .nil eD PH.nil_le ?_
  simp only[go_sem,γ,reduceCtorEq,TV,e1,e0,b1,b0,bID,r1,r0,ex1,ex0,esh,eor,TW,hdd,equo,TX]
  by_cases c:(4294967296*x1+x0)/top>4294967295
  ·have c':(((4294967296*x1+x0)/top:Nat):Int)>4294967295:=by omega
   simp only[go_sem,c',TY]
   exact tail 4294967295 _ _ Om (by decide) (by unfold duF; exact Lq) PH.le_refl
  ·have c':¬ (((4294967296*x1+x0)/top:Nat):Int)>4294967295:=by omega
   simp only[go_sem,c']
   exact tail _ _ _ hgu Om (by unfold duF; exact Lq) PH.le_refl
 ·have:k=0:=by omega
  subst this
  have hz:¬ ((0:Nat):Int)-1≥0:=by decide
  simp only[go_sem,hz]
  refine hK X Q _ _ hI ?_ PH.le_refl
  unfold duF
  (repeat' (first|exact PF.nil_le|refine PF.aI ?_ ?_))<;>first|(simp only[go_sem,ο,γ,show ((0:Nat):Int)-1=-1 from rfl]<;>rfl)|rfl
def bhR (a:List Nat) (d q k r:Nat):PF:=(((((PF.nil.set 0 (aF a)).set 1 (aF [d])).set 6 (.osl q 1 0 a.length)).set 7 (.int .u64 r)).set 8 (.int .i64 ((k:Int)-1)))
theorem a1J {C:Ctx} (L:KE C) (a:List Nat) (d:Nat) (ha:Lim a) (hd0:0<d) (hd:d<4294967296) (h1:a.length≤1000) (F:PF) (f0:F 0=some (aF a)) (f1:F 1=some (aF [d])) :
  aC.wp C (.seq (.region HT) (.seq (.region HU) (.seq (.seq (.region HV) (.block 0 (.loop AG))) (.seq (.region AH) .ret)))) (aT [.tmp 4,.tmp 5] (bZ (oF (val a) d))) F .nil:=by
 have hm1:((a.length:Nat):Int)*((4:Nat):Int)≤140737488355328:=by omega
 have hm2:((a.length:Nat):Int)≤9223372036854775807:=by omega
 have hz:bJE a.length [PV.int .u32 0]=aH (bJE a.length 0++[]):=by
  simp[aH]
 simp only[go_sem,γ,HT,f0,bJC,hm1,hm2,hz]
 refine aQ fun o ho=>?_
 simp only[go_sem,γ,reduceCtorEq,HU,HV,f0,bJC]
 refine wp_loop (α:=Nat × List Nat × Nat) (fun t=>bhR a d o t.1 t.2.2) (fun t=>PH.nil.set o (.rows 1 (aH (bJE t.1 0++t.2.1))))
  (fun t=>t.1+t.2.1.length=a.length∧Lim t.2.1∧t.2.2<d∧val t.2.1*d+t.2.2=val (a.drop t.1)) (fun t=>t.1) (a.length,[],0) ⟨by simp,by simp[Lim],hd0,by simp[val]⟩ ?_ ?_ ?_
 ·unfold bhR
  (repeat' (first|exact PF.nil_le|refine PF.aI ?_ ?_))<;>first|(simp only[go_sem,γ,reduceCtorEq,f0,f1,wrap_i64 (Om:-9223372036854775808≤((a.length:Nat):Int)-1) (Om:((a.length:Nat):Int)-1≤9223372036854775807)]<;>rfl)|rfl
 ·exact PH.aI PH.nil_le Sq
 rintro⟨k,S,r⟩ ⟨hk,bHV,hr,bHR⟩
 simp only at hk bHV hr bHR
 simp only[go_sem,γ,reduceCtorEq,AG,aeN,bhR]
 by_cases h0:0<k
 ·obtain⟨m,rfl⟩:∃ m,k=m+1:=⟨k-1,by omega⟩
  have hzz:((m+1:Nat):Int)-1=(m:Int):=by omega
  have hge:(m:Int)≥0:=by omega
  have hml:m<a.length:=by omega
  have hlt:(m:Int)<(a.length:Nat):=by omega
  have hai:=ha _ (bJG hml)
  have hdrop:val (a.drop m)=a[m]+4294967296*val (a.drop (m+1)):=by rw[bKY hml]; rfl
  have hax:=bJ a hml
  generalize hx:a[m]=x at *
  have ex:IntKind.u64.wrap ((x:Nat):Int)=((x:Nat):Int):=bE Om
  have ed:IntKind.u64.wrap ((d:Nat):Int)=((d:Nat):Int):=bE Om
  have esh:shift .shl .u64 (r:Int) 32=some (.int .u64 ((2 ^ 32*r:Nat):Int)):=HI (s:=32) Om Om
  have e32:(2:Nat) ^ 32=4294967296:=by decide
  have eor:=orI (a:=2 ^ 32*r) (b:=x) (n:=2 ^ 32*r+x) Om Om (Nat.two_pow_add_eq_or_of_lt Om r).symm Om
  rw[e32] at esh eor
  have hq:(4294967296*r+x)/d<4294967296:=by
   rw[bLX hd0]
   have:4294967296*(r+1)≤4294967296*d:=bLH _ hr
   omega
  have hdd:¬ ((d:Nat):Int)=0:=by omega
  have equo:IntKind.u64.wrap (bKX ((4294967296*r+x:Nat):Int) ((d:Nat):Int))=(((4294967296*r+x)/d:Nat):Int):=by
   rw[show bKX ((4294967296*r+x:Nat):Int) ((d:Nat):Int)=(((4294967296*r+x)/d:Nat):Int) from rfl]
   exact bE Om
  have erem:Int.tmod ((4294967296*r+x:Nat):Int) ((d:Nat):Int)=(((4294967296*r+x)%d:Nat):Int):=rfl
  have ec:IntKind.u32.wrap (((4294967296*r+x)/d:Nat):Int)=(((4294967296*r+x)/d:Nat):Int):=by rw[cB,bKK hq]
  have bIX:bJE (m+1) 0++S=bJE m 0++(0::S):=by
   rw[List.replicate_succ',bKD]; rfl
  have hin:(aH (bJE m 0++(0::S)))[m]?=some [.int .u32 ((0:Nat):Int)]:=by
   rw[bJ _ (by simp)]; simp
  have bHL:(aH (bJE m 0++(0::S))).set m [.int .u32 (((4294967296*r+x)/d:Nat):Int)]=aH (bJE m 0++(((4294967296*r+x)/d)::S)):=by
   rw[eX,bMR _ _ (by simp)]; simp
  simp only[go_sem,ν,γ,reduceCtorEq,hzz,hge,aeO,esh,hax,ex,eor,aeP,ed,hdd,equo,ec,hlt,bIX,hin,bHL,TQ,erem,TR]
  refine aK (m,((4294967296*r+x)/d)::S,(4294967296*r+x)%d) ⟨by simp only[bKQ]; omega,fun y hy=>?_,bKR _ hd0,?_⟩ (by simp only; omega) ?_ (PH.aI PH.nil_le Sq)
  ·rw[bJR] at hy
   rcases hy with rfl | hy
   ·exact hq
   ·exact bHV y hy
  ·simp only[val]
   rw[hdrop,← bHR,bKF,bJP,bJY]
   have:=bMK (4294967296*r+x) d
   rw[bKA d] at this
   omega
  ·(repeat' (first|exact PF.nil_le|refine PF.aI ?_ ?_))<;>first|(simp only[go_sem,γ,reduceCtorEq,wrap_i64 (Om:-9223372036854775808≤(m:Int)-1) (Om:(m:Int)-1≤9223372036854775807)]<;>rfl)|rfl
 ·have:k=0:=by omega
  subst this
  have hzz:¬ ((0:Nat):Int)-1≥0:=by decide
  rw[bKG] at bHR
  have hS:S.length=a.length:=by omega
  have hq:val S=val a/d:=by
   rw[← bHR,bKA,Nat.mul_add_div hd0,bML hr,bKU]
  have hrm:r=val a%d:=by rw[← bHR,bKA,Nat.mul_add_mod,bKK hr]
  have hn0:bJE 0 0++S=S:=by simp
  have hl:=L.trim S bHV Om
  have hSt:(aH S).take a.length=aH S:=bJS (by rw[bS]; omega)
  simp only[go_sem,υ,γ,reduceCtorEq,hzz,AH,bMC]
  refine oR (o:=o) (s:=1) (rs:=aH S) hl Sq (by simp only[go_sem,γ,reduceCtorEq,hSt,show a.length≤S.length by omega]) ?_
  simp only[go_sem,γ,reduceCtorEq]
  refine aA (L.make r Om) Sq ?_
  simp only[go_sem,γ,reduceCtorEq]
  refine aX (vs:=[aF (aG (val S)),aF (aG r)]) (.inr rfl) .nil Ev PH.nil_le ⟨?_,rfl⟩
  rw[hq,hrm]
  exact .refl _
theorem bkK {B m:Nat} (h:nl B=m+1):32*m<cD B∧cD B≤32*(m+1):=by
 refine⟨?_,(kC B (m+1)).2 Om⟩
 rcases bJV (32*m) (cD B) with h1 | h1
 ·exact h1
 ·have:=(kC B m).1 h1
  omega
theorem bkL {B:Nat} (h:B≠0):2 ^ (cD B-1)≤B:=by
 rcases bJV B (2 ^ (cD B-1)) with h1 | h1
 ·have h2:=(kB B _).2 h1
  have h3:cD B≠0:=fun e=>h (jB.1 e)
  omega
 ·exact h1
theorem a1K {C:Ctx} (L:KE C) (A B:Nat) (hB:B≠0) (hA:nl A≤512) (hBl:nl B≤512) :
  wX.wp C (aT CV.res (bZ (oF A B))) (PF.args [aF (aG A),aF (aG B)]) .nil:=by
 have LA:=aS A
 have LB:=aS B
 have vA:=aR A
 have vB:=aR B
 have lA:(aG A).length=nl A:=rfl
 have lB:(aG B).length=nl B:=rfl
 simp only[go_sem,γ,reduceCtorEq,wX,aeJ,aeK,CV]
 refine aA (L.cmp _ _ LA LB Om Om) rfl ?_
 rw[vA,vB]
 by_cases c1:A<B
 ·have hc:dB A B<0:=by simp[dB,c1]
  simp only[go_sem,γ,reduceCtorEq,hc,aeL]
  refine aA (L.trim _ LA Om) rfl ?_
  rw[vA]
  simp only[go_sem,γ]
  refine aX (vs:=[.aB,aF (aG A)]) (.inr rfl) .nil rfl PH.nil_le ⟨?_,rfl⟩
  rw[oF,bML c1,bKK c1,eZ]
  exact CoL.tup (CoL.cons (.nil 1) (CoL.cons (.refl _) .nil))
 have hc:¬ dB A B<0:=by
  unfold dB
  rw[if_neg c1]
  split<;>decide
 have hB0:0<B:=bLI hB
 have hnB:nl B≠0:=fun h=>hB (fZ.1 h)
 simp only[go_sem,γ,hc,aeM,bJC,lB]
 by_cases c2:nl B=1
 ·have hBB:B<4294967296:=by have:=(gP B 1).1 Om; simpa using this
  have hlb:aG B=[B]:=lZ hB hBB
  have sh:=a1J (C:=C) L (aG A) B LA hB0 hBB Om
  rw[vA] at sh
  simp only[aC.wp,go_sem] at sh
  simp only[go_sem,bW (Om:((nl B:Nat):Int)=1)]
  exact sh _ rfl (by simp only[go_sem,γ,hlb])
 obtain⟨m,hm⟩:∃ m,nl B=m+1:=⟨nl B-1,by omega⟩
 have hm1:1≤m:=by omega
 obtain⟨hb1,hb2⟩:=bkK hm
 obtain⟨n,hn⟩:∃ n,n+cD B=32*(m+1):=⟨32*(m+1)-cD B,by omega⟩
 have hn32:n<32:=by omega
 have hp2:0<2 ^ n:=bLV (by decide)
 have hBlt:B<2 ^ cD B:=(kB B _).1 (bJF _)
 have hBge:=bkL hB
 have hVhi:B*2 ^ n<4294967296 ^ (m+1):=by
  have:B*2 ^ n<2 ^ cD B*2 ^ n:=Nat.mul_lt_mul_of_pos_right hBlt hp2
  rw[← Nat.pow_add,show cD B+n=32*(m+1) by omega,Nat.pow_mul] at this
  exact this
 have hVlo:4294967296 ^ m*2147483648≤B*2 ^ n:=by
  have:2 ^ (cD B-1)*2 ^ n≤B*2 ^ n:=bKJ _ hBge
  rw[← Nat.pow_add,show cD B-1+n=32*m+31 by omega,Nat.pow_add,Nat.pow_mul] at this
  exact this
 have nV:nl (B*2 ^ n)=m+1:=by
  have h1:=(gP (B*2 ^ n) (m+1)).2 hVhi
  rcases bJV (nl (B*2 ^ n)) (m+1) with h | h
  ·have:=(gP (B*2 ^ n) m).1 Om
   have hpp:0<4294967296 ^ m:=bLV (by decide)
   omega
  ·omega
 have hV0:B*2 ^ n≠0:=Nat.mul_ne_zero hB Om
 have nU1:nl (A*2 ^ n)≤nl A+1:=jZ (bJF _) (lN (by rw[Nat.pow_one]; exact Nat.pow_lt_pow_right (a:=2) (m:=n) (n:=32) (by decide) hn32))
 have hUV:B*2 ^ n≤A*2 ^ n:=bKJ _ Om
 have nUV:m+1≤nl (A*2 ^ n):=by rw[← nV]; exact fD hUV
 have hU0:A*2 ^ n≠0:=by omega
 have e32:IntKind.i64.wrap (32*((nl B:Nat):Int))=((32*(m+1):Nat):Int):=by rw[wrap_i64 Om Om]; omega
 have en:IntKind.i64.wrap (((32*(m+1):Nat):Int)-((cD B:Nat):Int))=(n:Int):=by rw[wrap_i64 Om Om]; omega
 have bt:=L.bits (aG B) LB Om
 rw[vB] at bt
 have ua:=L.upM (aG A) n LA Om Om (fun h=>by have:=eJ LA; rw[h] at this; omega)
 have ub:=(L.upM (aG B) n LB Om Om (fun h=>by have:=eJ LB; rw[h] at this; omega)).freeze
 rw[vA] at ua
 rw[vB] at ub
 have tail:∀ (o:Nat) (F:PF) (H:PH),F 0=some (aF (aG A))→F 1=some (aF (aG B))→F 10=some (.int .i64 n)→F 11=some (.osl o 1 0 (nl (A*2 ^ n)+2))→F 12=some (aF (aG (B*2 ^ n)))→H o=some (.rows 1 (aH (aG (A*2 ^ n))++[[.int .u32 0],[.int .u32 0]])) →
   aC.wp C (.seq (.region AI) (.seq (.region AJ) (.seq (.region AK) (.seq (.seq (.region AL) (.block 2 (.loop sM))) (.seq (.region AR) .ret))))) (aT [.tmp 4,.tmp 5] (bZ (oF A B))) F H:=by
  intro o F H f0 f1 f10 f11 f12 hH
  have LU:=aS (A*2 ^ n)
  have LV:=aS (B*2 ^ n)
  have vU:=aR (A*2 ^ n)
  have vV:=aR (B*2 ^ n)
  have lU:(aG (A*2 ^ n)).length=nl (A*2 ^ n):=rfl
  have lV:(aG (B*2 ^ n)).length=m+1:=nV
  have eu:IntKind.i64.wrap (((nl (A*2 ^ n):Nat):Int)+1)=((nl (A*2 ^ n)+1:Nat):Int):=dE Om
  have b1:((nl (A*2 ^ n)+1:Nat):Int)≤((nl (A*2 ^ n)+2:Nat):Int):=by omega
  simp only[go_sem,γ,reduceCtorEq,AI,f11,f0,f10]
  refine aA ua.freeze rfl ?_
  obtain⟨lq,hlq⟩:∃ lq,nl (A*2 ^ n)+1-(m+1)=lq:=⟨_,rfl⟩
  have hlx:nl (A*2 ^ n)+1=lq+(m+1):=by omega
  have em:IntKind.i64.wrap (((m+1:Nat):Int)-1)=((m:Nat):Int):=by rw[wrap_i64 Om Om]; omega
  have hmV:m<(aG (B*2 ^ n)).length:=by omega
  have rm:=bJ (aG (B*2 ^ n)) hmV
  have tl:=LV _ (bJG hmV)
  have htop:0<(aG (B*2 ^ n))[m]:=by
   have h1:=bX (aG (B*2 ^ n)) hmV
   rw[bJS Om,vV] at h1
   have h2:=eJ (LV.take m)
   rw[bJU,bLG Om] at h2
   have hpp:0<4294967296 ^ m:=bLV (by decide)
   rcases bMD (aG (B*2 ^ n))[m] with h | h
   ·rw[h] at h1; omega
   ·exact h
  have htop31:2147483648≤(aG (B*2 ^ n))[m]:=by
   have h1:=bX (aG (B*2 ^ n)) hmV
   rw[bJS Om,vV] at h1
   have h2:=eJ (LV.take m)
   rw[bJU,bLG Om] at h2
   rcases bJV (aG (B*2 ^ n))[m] 2147483648 with h | h
   ·exfalso
    have h3:4294967296 ^ m*((aG (B*2 ^ n))[m]+1)≤4294967296 ^ m*2147483648:=bLH _ h
    rw[bJP,Nat.mul_one] at h3
    omega
   ·exact h
  have key0:=a9C (C:=C) L (A*2 ^ n) n o (nl (A*2 ^ n)+1) lq
  have hI:mO (A*2 ^ n) (val (aG (B*2 ^ n))) (m+1) (nl (A*2 ^ n)+1) lq lq (aG (A*2 ^ n)++[0]) (bJE lq 0):=by
   refine⟨by rw[bJL,lU]; rfl,bMG,LU.app fun x hx=>by simp at hx; omega,tA _,?_,?_,fun i x _ hx=>aKH hx⟩
   ·rw[fH,vU,qD]; simp[val]
   ·have hlen:(aG (A*2 ^ n)++[0]).length=nl (A*2 ^ n)+1:=by rw[bJL,lU]; rfl
    have hv0:val (aG (A*2 ^ n)++[0])=A*2 ^ n:=by rw[fH,vU]; simp[val]
    rw[sC (LU.app fun x hx=>by simp at hx; omega) Om,hv0,vV,bLX (bLV (by decide))]
    have h1:A*2 ^ n<4294967296 ^ nl (A*2 ^ n):=(gP _ _).1 (bJF _)
    have hx:nl (A*2 ^ n)=m+lq:=by omega
    rw[hx,Nat.pow_add] at h1
    have h2:4294967296 ^ m*4294967296 ^ lq≤(B*2 ^ n)*4294967296 ^ lq:=bKJ _ Om
    omega
  have hrows:aH (aG (A*2 ^ n))++[[PV.int .u32 0],[PV.int .u32 0]]=dQ (aG (A*2 ^ n)++[0]) (aH [0]):=by
   simp[dQ,aH]
  rw[hrows] at hH
  generalize htp:(aG (B*2 ^ n))[m]=top at *
  have et:IntKind.u64.wrap ((top:Nat):Int)=((top:Nat):Int):=bE Om
  have k2:IntKind.i64.wrap (((nl (A*2 ^ n)+1:Nat):Int)-((m+1:Nat):Int))=((lq:Nat):Int):=by rw[wrap_i64 Om Om]; omega
  have k3:((lq:Nat):Int)*((4:Nat):Int)≤140737488355328:=by omega
  have k4:((lq:Nat):Int)≤9223372036854775807:=by omega
  have hz:bJE lq [PV.int .u32 0]=aH (bJE lq 0):=by simp[aH]
  have jq:IntKind.i64.wrap ((lq:Int)-1)=(lq:Int)-1:=wrap_i64 Om Om
  simp only[go_sem,ν,γ,reduceCtorEq,bJC,lU,eu,b1,AJ,f12,lV,em,rm,et,AK,k2,k3,k4,hz]
  refine aQ fun oq hoq=>?_
  have hne:oq≠o:=by rintro rfl; rw[hH] at hoq; cases hoq
  have bID:¬ o=oq:=fun h=>hne h.symm
  have key:=key0 oq m (aG (B*2 ^ n)) [0] hne LV lV (by rw[htp]; exact htop) hlx Om _ hI
  rw[htp] at key
  simp only[go_sem,ο] at key
  simp only[go_sem,γ,AL,jq]
  refine key _ _ _ ?_ ?_ ?_
  ·unfold duF
   exact Lq
  ·refine PH.aI (PH.aI PH.nil_le ?_) ?_
   ·simp only[go_sem,bID,hH]
   ·simp only[go_sem]
  clear key key0
  intro X Q F1 H1 hI1 hF1 hH1
  have g10:F1 10=some (.int .i64 n):=hF1 10 _ (by unfold duF; simp only[go_sem,ο,γ])
  have g11:F1 11=some (.osl o 1 0 (nl (A*2 ^ n)+1)):=hF1 11 _ (by unfold duF; simp only[go_sem,ο,γ])
  have g14:F1 14=some (.osl oq 1 0 lq):=hF1 14 _ (by unfold duF; simp only[go_sem,ο,γ])
  have ho1:H1 o=some (.rows 1 (dQ X (aH [0]))):=hH1 o _ (by simp only[go_sem,bID])
  have hq1:H1 oq=some (.rows 1 (aH Q)):=hH1 oq _ Sq
  have hu:val X<val (aG (B*2 ^ n)):=by have:=hI1.r; rwa [bKG] at this
  have hv':=hI1.v
  rw[vV] at hu hv'
  have hQv:val Q=A/B:=by
   have:A*2 ^ n/(B*2 ^ n)=val Q:=by
    rw[← hv',Nat.add_mul_div_right _ _ Om,bML hu,bKC]
   rw[← this,Nat.mul_div_mul_right _ _ hp2]
  have hUv:val X/2 ^ n=A%B:=by
   have:A*2 ^ n%(B*2 ^ n)=val X:=by rw[← hv',Nat.add_mul_mod_self_right,bKK hu]
   rw[← this,Nat.mul_mod_mul_right,Nat.mul_div_cancel _ hp2]
  have lX:=hI1.lu'
  have lQ:=hI1.lq'
  have hQt:(aH Q).take lq=aH Q:=bJS (by rw[bS]; omega)
  have hXt:(dQ X (aH [0])).take (nl (A*2 ^ n)+1)=aH X:=by
   rw[dQ,List.take_append_of_le_length (by rw[bS]; omega),bJS (by rw[bS]; omega)]
  have hXl:nl (A*2 ^ n)+1≤(dQ X (aH [0])).length:=by rw[dQ,bJL,bS]; omega
  have hfx:(dQ X (aH [0])).map (fun r=>r.map (PV.dC oq 1 (aH Q)))=dQ X (aH [0]):=by
   have:dQ X (aH [0])=aH (X++[0]):=by simp[dQ,aH]
   rw[this]; exact pN _ _ _ _
  have nX:=eW hI1.limU
  have t1:=L.trim Q hI1.limQ Om
  have t2:=L.trim X hI1.limU Om
  have dn:=L.down (aG (val X)) n (aS _) (by rw[aZ]; omega) Om
  rw[aR,hUv] at dn
  rw[hQv] at t1
  generalize aH [0]=Z0 at ho1 hXt hXl hfx
  simp only[go_sem,AR,g14]
  refine oR (o:=oq) (s:=1) (rs:=aH Q) t1 hq1 (by simp only[go_sem,hQt,show lq≤Q.length by omega]) ?_
  simp only[go_sem,γ,g11,bID]
  refine oR (o:=o) (s:=1) (rs:=dQ X Z0) t2 (by simp only[go_sem,bID,ho1,cQ.frz,hfx]) (by simp only[go_sem,γ,hXt,hXl]) ?_
  simp only[go_sem,γ,g10]
  refine aA dn rfl ?_
  simp only[go_sem,γ]
  exact aX (vs:=[aF (aG (A/B)),aF (aG (A%B))]) (.inr rfl) .nil rfl PH.nil_le ⟨.refl _,rfl⟩
 simp only[aC.wp,go_sem] at tail
 simp only[go_sem,γ,bF (Om:¬ ((nl B:Nat):Int)=1),TS,bJC,lB]
 refine aA bt rfl ?_
 simp only[go_sem,γ,reduceCtorEq,e32,en,TT]
 refine eO ua rfl PH.nil_le fun r H1 hr _=>?_
 have hb2:(2:Nat)*1≤16777216:=by decide
 rcases hr with ⟨h0,_⟩ | ⟨o,rs,rfl,rfl,hrl,hrt⟩
 ·exfalso
  have:=congrArg List.length h0
  rw[bS,aZ] at this
  simp at this
  omega
 rw[PH.jD]
 rw[bS,aZ] at hrl hrt
 simp only[go_sem,υ,δ,γ,η,ζ,hb2,bS,aZ]
 refine PZ (src:=[[.int .u32 0],[.int .u32 0]]) (rs:=rs) rfl ?_ Sq hrl ?_ fun o' ho'=>?_
 ·unfold roomFor
  simp only[maxLen,bKQ,bLO]; omega
 ·rw[hrt]
  simp only[go_sem,δ]
  refine aA ub rfl ?_
  simp only[go_sem,γ]
  exact tail o _ _ rfl rfl rfl rfl rfl Sq
 ·rw[hrt]
  simp only[go_sem,δ]
  refine aA ub rfl ?_
  simp only[go_sem,γ]
  exact tail o' _ _ rfl rfl rfl rfl rfl Sq
structure auQ (C:Ctx):Prop extends avJ C where
 int:∀ n:Int,cV n→aD C 47 [.int .i64 n] .nil (aE (.agg (mkT n 1).cells))
 mul:∀ a b,Lim a→Lim b→a.length≤35184372087808→b.length≤35184372087808→aD C 36 [aF a,aF b] .nil (aE (opV (dP (val a) (val b)) (val a*val b)))
 add:∀ a b,Lim a→Lim b→a.length≤35184372087808→b.length≤35184372087808→aD C 30 [aF a,aF b] .nil (aE (opV (dP (val a) (val b)) (val a+val b)))
 sub:∀ a b,Lim a→Lim b→a.length≤35184372087808→b.length≤35184372087808→aD C 37 [aF a,aF b] .nil (aE (pH (val a) (val b)))
theorem arH (a b:Nat):cN a b=(decide (nl b>0)&&(decide (nl b≤128)&&decide (nl a≤128))):=by
 have:=@fZ b
 refine Bool.eq_iff_iff.2 ?_
 rw[fB]
 simp only[bJZ,decide_eq_true_eq]
 omega
theorem baX {C:Ctx} (L:auQ C) (neg:Bool) (a b:List Nat) (ha:Lim a) (hb:Lim b) (la:a.length≤35184372087808) (lb:b.length≤35184372087808) :
  BB.wp C (aT PS.res (aE (.bool (cN (val a) (val b))))) (PF.args [.agg (dX neg a b)]) .nil:=by
 rw[arH]
 simp only[go_sem,γ,BB,arY,arZ,PS]
 refine aA (L.trim b hb lb) rfl ?_
 simp only[go_sem,γ,bJC,aZ]
 by_cases c1:nl (val b)>0
 ·have c1':((nl (val b):Nat):Int)>0:=by omega
  simp only[go_sem,γ,c1']
  refine aA (L.trim b hb lb) rfl ?_
  simp only[go_sem,γ,bJC,aZ]
  by_cases c2:nl (val b)≤128
  ·have c2':((nl (val b):Nat):Int)≤128:=by omega
   simp only[go_sem,δ,γ,θ,c2']
   refine aA (L.trim a ha la) rfl ?_
   simp only[go_sem,γ,bJC,aZ]
   refine aM (.inr rfl) rfl ?_
   have:decide (((nl (val a):Nat):Int)≤128)=decide (nl (val a)≤128):=by
    refine decide_eq_decide.2 ?_
    omega
   rw[aW,this,decide_eq_true c1,decide_eq_true c2]
   rfl
  ·have c2':¬ ((nl (val b):Nat):Int)≤128:=by omega
   simp only[go_sem,γ,reduceCtorEq,c2']
   refine aM (.inr rfl) rfl ?_
   rw[aW,decide_eq_false c2,bJI,bKT]
 ·have c1':¬ ((nl (val b):Nat):Int)>0:=by omega
  simp only[go_sem,γ,reduceCtorEq,c1']
  refine aM (.inr rfl) rfl ?_
  rw[aW,decide_eq_false c1,bJI]
theorem WD {neg:Bool} {a b:Nat} (h:cN a b=true):gE neg a b=.ok (kR neg a b):=by
 obtain⟨h1,h2,h3⟩:=fB.1 h
 have e1:=(kC (a/bJH a b) 128).2 (acT _ h3)
 have e2:=(kC (b/bJH a b) 128).2 (acT _ h2)
 unfold gE kR
 rw[if_neg Om]
def aXL (a b:Nat):Bool:=decide (nl a>128)||decide (nl b>128)
theorem baG {C:Ctx} (neg:Bool) (a b:List Nat) :
  AY.wp C (aT PO.res (aE (.bool (decide (a.length>128)||decide (b.length>128))))) (PF.args [.agg (dX neg a b)]) .nil:=by
 simp only[go_sem,δ,γ,θ,AY,arJ,arK,PO,bJC]
 by_cases c:a.length>128
 ·have c':((a.length:Nat):Int)>128:=by omega
  simp only[go_sem,γ,c']
  refine aM (.inr rfl) rfl ?_
  rw[aW,decide_eq_true c,Bool.true_or]
 ·have c':¬ ((a.length:Nat):Int)>128:=by omega
  simp only[go_sem,γ,reduceCtorEq,c',bJC]
  refine aM (.inr rfl) rfl ?_
  have:decide (((b.length:Nat):Int)>128)=decide (b.length>128):=by
   refine decide_eq_decide.2 ?_
   omega
  rw[aW,this,decide_eq_false c,Bool.false_or]
def axR (x:FV):FR:=if aXL x.2.1 x.2.2 then .error 2 else .ok x
theorem blD (neg:Bool) (a b:Nat):axR (kR neg a b)=gE neg a b:=by
 have e1:=kC (a/bJH a b) 128
 have e2:=kC (b/bJH a b) 128
 unfold axR kR gE aXL
 simp only[Bool.or_eq_true,decide_eq_true_eq]
 by_cases c:nl (a/bJH a b)>128∨nl (b/bJH a b)>128
 ·rw[if_pos c,if_pos Om]
 ·rw[if_neg c,if_neg Om]
structure YI (C:Ctx):Prop extends auQ C where
 valid:∀ x:RF,x.Ok→aD C 56 [.agg x.cells] .nil (aE (.bool (cN (val x.num) (val x.den))))
 big:∀ x:FV,aD C 48 [.agg x.rf.cells] .nil (aE (.bool (aXL x.2.1 x.2.2)))
theorem biR {C:Ctx} (L:YI C) (x:FV):IH.wp C (aT afB.res (bZ (frV (axR x)))) (PF.args [.agg x.rf.cells]) .nil:=by
 simp only[go_sem,δ,IH,aJA,afB]
 refine aQ fun o ho=>?_
 simp only[go_sem,δ,γ,aJB]
 refine aA (L.big x) rfl ?_
 unfold axR
 cases aXL x.2.1 x.2.2 with
 | true =>
  simp only[go_sem,δ,γ,aJC]
  refine fY ?_
  simp only[go_sem,δ,γ]
 | false =>
  obtain⟨n,a,b⟩:=x
  simp only[go_sem,δ,γ,reduceCtorEq,aJD]
  exact aX (.inr rfl) .nil (vs:=[.agg (FV.rf (n,a,b)).cells,.int .i64 0]) Sq PH.nil_le ⟨.refl _,rfl⟩
theorem a2K {C:Ctx} (L:YI C) (x:RF) (hx:x.Ok):xB.wp C (aT CZ.res (bZ (frV (mE x)))) (PF.args [.agg x.cells]) .nil:=by
 simp only[go_sem,δ,xB,afK,CZ]
 refine aQ fun o ho=>?_
 simp only[go_sem,δ,γ,afL]
 refine aA (L.valid x hx) rfl ?_
 unfold mE
 cases hv:cN (val x.num) (val x.den) with
 | false =>
  simp only[go_sem,δ,γ,reduceCtorEq,bJQ,afM]
  refine fY ?_
  simp only[go_sem,δ,γ]
 | true =>
  obtain⟨v1,v2,v3⟩:=fB.1 hv
  have e:=WD (neg:=x.neg) hv
  rw[if_pos rfl,e]
  simp only[go_sem,δ,γ,θ,bJK,afN]
  refine aA (L.lowest x.neg x.num x.den hx.1 hx.2.1 hx.2.2.1 hx.2.2.2 Om Om v1) rfl ?_
  simp only[go_sem,δ,γ]
  exact aX (.inr rfl) .nil (vs:=[.agg (kR x.neg (val x.num) (val x.den)).rf.cells,.int .i64 0]) Sq PH.nil_le ⟨.refl _,rfl⟩
theorem baV {C:Ctx} (L:auQ C) (a b:List Nat) (ha:Lim a) (hb:Lim b) (la:a.length≤35184372087808) (lb:b.length≤35184372087808) (na:nl (val a)≤256) (nb:nl (val b)≤256) :
  BA.wp C (aT PR.res (aE (aF (aG (val a*val b))))) (PF.args [aF a,aF b]) .nil:=by
 simp only[go_sem,γ,reduceCtorEq,BA,arV,arW,PR]
 refine aA (L.mul a b ha hb la lb) rfl ?_
 have:=jZ na nb
 rw[fX Om Om,opV,wU Om]
 simp only[go_sem,γ,reduceCtorEq,arX]
 refine aM (.inr rfl) rfl ?_
 rfl
structure avL (C:Ctx):Prop extends YI C where
 fits:∀ x:FV,aD C 57 [.agg x.rf.cells] .nil (aE (frV (axR x)))
 red:∀ x:RF,x.Ok→aD C 52 [.agg x.cells] .nil (aE (frV (mE x)))
 prod:∀ a b,Lim a→Lim b→a.length≤35184372087808→b.length≤35184372087808→nl (val a)≤256→nl (val b)≤256→aD C 60 [aF a,aF b] .nil (aE (aF (aG (val a*val b))))
def RF.valid (x:RF):Prop:=cN (val x.num) (val x.den)=true
def mX (x y:RF):Int:=pE x.neg (val x.num) (val x.den) y.neg (val y.num) (val y.den)
def voS:Spec:=fun name vs=>match name,vs with
 | 60,[x,y]=>some ([],fun _=>aE (aF (aG (val (gS x)*val (gS y)))))
 | _,_=>none
theorem tH (a b:List Nat):voS 60 [aF a,aF b]=some ([],fun _=>aE (aF (aG (val a*val b)))):=by
 show some _=_; rw[dW,dW]
theorem alN (a b:Nat):dB b a=- dB a b:=by
 unfold dB
 rcases Nat.lt_trichotomy a b with h | h | h
 ·rw[if_neg Om,if_pos h,if_pos h]; rfl
 ·subst h
  rw[if_neg Om,if_neg Om]; rfl
 ·rw[if_pos h,if_neg Om,if_pos h]
set_option maxHeartbeats 1000000 in
theorem baI {C : Ctx} (L : avL C) (x y : RF) (hx : x.Ok) (hy : y.Ok) (vx : x.valid) (vy : y.valid) : AZ.wp C (aT PP.res (aE (.int .i64 (mX x y)))) (PF.args [.agg x.cells, .agg y.cells]) .nil := by
  obtain ⟨n1, a1, b1⟩ := x
  obtain ⟨n2, a2, b2⟩ := y
  obtain ⟨ha1, hb1, la1, lb1⟩ := hx
  obtain ⟨ha2, hb2, la2, lb2⟩ := hy
  obtain ⟨v1, v2, v3⟩ := fB.1 vx
  obtain ⟨w1, w2, w3⟩ := fB.1 vy
  simp only at ha1 hb1 la1 lb1 ha2 hb2 la2 lb2 v1 v2 v3 w1 w2 w3
  have m1 := jZ v3 w2
  have m2 := jZ w3 v2
  have hA : decide (val a1 ≠ 0) = decide (nl (val a1 * val b2) > 0) := by
    refine decide_eq_decide.2 ?_
    have := @fZ (val a1 * val b2)
    rw [Nat.mul_eq_zero] at this
    omega
  have hB : decide (val a2 ≠ 0) = decide (nl (val a2 * val b1) > 0) := by
    refine decide_eq_decide.2 ?_
    have := @fZ (val a2 * val b1)
    rw [Nat.mul_eq_zero] at this
    omega
  unfold mX pE
  simp only [hA, hB]
  simp only[go_sem,ο,γ,AZ,arL,PP]
  refine bU .nil voS PH.nil_le ?_
  simp only[go_sem,ο,δ,γ,θ,arM]
  refine bQ (tH a1 b2) (L.prod a1 b2 ha1 hb2 la1 lb2 Om Om) rfl PH.nil_le ?_
  simp only[go_sem,ο,δ,γ,θ]
  refine bQ (tH a2 b1) (L.prod a2 b1 ha2 hb1 la2 lb1 Om Om) rfl PH.nil_le ?_
  have hc := L.cmp (aG (val a1 * val b2)) (aG (val a2 * val b1)) (aS _) (aS _) (by rw [aZ]; omega) (by rw [aZ]; omega)
  have hd := L.cmp (aG (val a2 * val b1)) (aG (val a1 * val b2)) (aS _) (aS _) (by rw [aZ]; omega) (by rw [aZ]; omega)
  rw [aR, aR] at hc hd
  rw [alN (val a1 * val b2)] at hd
  generalize val a1 * val b2 = A at *
  generalize val a2 * val b1 = B at *
  have gA : decide (((nl A : Nat) : Int) > 0) = decide (nl A > 0) := decide_eq_decide.2 Om
  have gB : decide (((nl B : Nat) : Int) > 0) = decide (nl B > 0) := decide_eq_decide.2 Om
  generalize decide (nl A > 0) = p at *
  generalize decide (nl B > 0) = q at *
  cases n1 <;> cases n2 <;> cases p <;> cases q
  all_goals
    simp only[go_sem,ο,δ,γ,θ,reduceCtorEq,arN,bJC,aZ,gA,gB,arO,arP,arQ,arR,arS,arT,arU]
    first
    | (refine aM (.inr rfl) rfl ?_; rfl)
    | (refine aA hc rfl ?_
       simp only[go_sem,γ]
       refine aM (.inr rfl) rfl ?_
       rfl)
    | (refine aA hd rfl ?_
       simp only[go_sem,γ]
       refine aM (.inr rfl) rfl ?_
       rfl)
structure vQ (C:Ctx):Prop extends avL C where
 order:∀ x y:RF,x.Ok→y.Ok→x.valid→y.valid→aD C 51 [.agg x.cells,.agg y.cells] .nil (aE (.int .i64 (mX x y)))
theorem biU {C:Ctx} (L:vQ C) (x y:RF) (hx:x.Ok) (hy:y.Ok) (vx:x.valid) (vy:y.valid):II.wp C (aT afD.res (aE (.bool (decide (mX x y<0))))) (PF.args [.agg x.cells,.agg y.cells]) .nil:=by
 simp only[go_sem,δ,γ,II,aJG,aJH,afD]
 refine aA (L.order x y hx hy vx vy) rfl ?_
 simp only[go_sem,γ]
 refine aM (.inr rfl) rfl ?_
 rfl
theorem biY {C:Ctx} (L:vQ C) (x y:RF) (hx:x.Ok) (hy:y.Ok) (vx:x.valid) (vy:y.valid):IM.wp C (aT afO.res (aE (.bool (mX x y==0)))) (PF.args [.agg x.cells,.agg y.cells]) .nil:=by
 simp only[go_sem,δ,γ,IM,aJR,aJS,afO]
 refine aA (L.order x y hx hy vx vy) rfl ?_
 simp only[go_sem,γ]
 refine aM (.inr rfl) rfl ?_
 rfl
theorem CH (n:Int):mkT n 1=⟨decide (n<0),aG n.natAbs,aG 1⟩:=by
 unfold mkT kR FV.rf
 rw[show (1:Int).natAbs=1 from rfl,Nat.gcd_one_right,Nat.div_one,Nat.div_one,show decide ((1:Int)<0)=false from rfl]
 congr 1
 by_cases h:n<0
 ·have:n.natAbs≠0:=by omega
  simp[h,this]
 ·simp[h]
theorem CG (n:Int) (h:cV n):(mkT n 1).Ok∧(mkT n 1).valid:=by
 have h1:nl n.natAbs≤2:=lN (by unfold cV at h; omega)
 rw[CH]
 refine⟨⟨aS _,aS _,?_,?_⟩,?_⟩
 ·simp only[aZ]; omega
 ·simp only[tB]; decide
 ·unfold RF.valid
  simp only[aR]
  rw[arH]
  have:nl 1=1:=by rw[nl,tB]; rfl
  simp[this]
  omega
def oW (x:RF):Int:=if val x.num=0 then 0 else if x.neg then -1 else 1
theorem bfT (x:RF):mX x (mkT 0 1)=oW x:=by
 rw[CH]
 unfold mX oW pE
 simp only[aR,show (0:Int).natAbs=0 from rfl,Nat.mul_one,Nat.zero_mul]
 by_cases h:val x.num=0
 ·simp[h,dB]
 ·cases x.neg<;>simp[h,dB]
def viS (r:Int):Spec:=fun name _=>if name=47 then some ([],fun _=>aE (.agg (mkT 0 1).cells)) else some ([],fun _=>aE (.int .i64 r))
theorem bjA {C:Ctx} (L:vQ C) (x:RF) (hx:x.Ok) (vx:x.valid):IN.wp C (aT afP.res (aE (.int .i64 (oW x)))) (PF.args [.agg x.cells]) .nil:=by
 have h0:cV 0:=by unfold cV; omega
 have ho:=L.order x (mkT 0 1) hx (CG 0 h0).1 vx (CG 0 h0).2
 rw[bfT] at ho
 simp only[go_sem,IN,aJT,afP]
 refine bU .nil (viS (oW x)) PH.nil_le ?_
 simp only[go_sem,δ,γ,aJU]
 refine bQ rfl (L.int 0 h0) rfl PH.nil_le ?_
 simp only[go_sem]
 refine bQ rfl ho rfl PH.nil_le ?_
 simp only[go_sem,γ]
 refine aM (.inr rfl) rfl ?_
 rfl
theorem a9T {C:Ctx} (L:vQ C) (n1 n2:Bool) (a1 b1 a2 b2:List Nat) (ha1:Lim a1) (hb1:Lim b1) (ha2:Lim a2) (hb2:Lim b2)
  (la1:a1.length≤35184372087808) (lb1:b1.length≤35184372087808) (la2:a2.length≤35184372087808) (lb2:b2.length≤35184372087808) :
  yP.wp C (aT alD.res (bZ (frV (gQ (n1,val a1,val b1) (n2,val a2,val b2))))) (PF.args [.agg (dX n1 a1 b1),.agg (dX n2 a2 b2)]) .nil:=by
 have vx:aD C 56 [.agg (dX n1 a1 b1)] .nil (aE (.bool (cN (val a1) (val b1)))):=L.valid ⟨n1,a1,b1⟩ ⟨ha1,hb1,la1,lb1⟩
 have vy:aD C 56 [.agg (dX n2 a2 b2)] .nil (aE (.bool (cN (val a2) (val b2)))):=L.valid ⟨n2,a2,b2⟩ ⟨ha2,hb2,la2,lb2⟩
 simp only[go_sem,δ,γ,yP,aVJ,alD]
 refine aQ fun o ho=>?_
 simp only[go_sem,δ,γ,aVK]
 refine aA vx rfl ?_
 simp only[gQ]
 cases hv:cN (val a1) (val b1) with
 | false =>
  simp only[go_sem,δ,γ,reduceCtorEq,bJQ,alE,bJI]
  refine fY ?_
  simp only[go_sem,δ,γ]
 | true =>
  obtain⟨v1,v2,v3⟩:=fB.1 hv
  simp only[go_sem,δ,γ,bJK]
  refine aA vy rfl ?_
  cases hw:cN (val a2) (val b2) with
  | false =>
   simp only[go_sem,δ,γ,reduceCtorEq,bJQ,alE,bKT]
   refine fY ?_
   simp only[go_sem,δ,γ]
  | true =>
   obtain⟨w1,w2,w3⟩:=fB.1 hw
   simp only[go_sem,γ,reduceCtorEq,bJK,bLE]
   refine bU .nil voS PH.nil_le ?_
   simp only[go_sem,δ,γ,θ,aVL]
   refine bQ (tH a1 b2) (L.prod a1 b2 ha1 hb2 la1 lb2 Om Om) rfl PH.nil_le ?_
   simp only[go_sem,δ,γ,θ]
   refine bQ (tH a2 b1) (L.prod a2 b1 ha2 hb1 la2 lb1 Om Om) rfl PH.nil_le ?_
   simp only[go_sem,γ]
   refine bQ (tH b1 b2) (L.prod b1 b2 hb1 hb2 lb1 lb2 Om Om) rfl PH.nil_le ?_
   simp only[go_sem,γ]
   have m1:=jZ v3 w2
   have m2:=jZ w3 v2
   have m3:=jZ v2 w2
   have d0:val b1*val b2≠0:=Nat.mul_ne_zero v1 w1
   generalize hA:val a1*val b2=A at *
   generalize hB:val a2*val b1=B at *
   generalize hD:val b1*val b2=D at *
   have fin:∀ (F:PF) (H:PH) (r:FR),(∃ neg' x y e,frV r=.tup [.agg (dX neg' x y),.int .i64 e]∧F 4=some (.ptr o 3 0 0)∧F 5=some (.int .i64 e)∧H o=some (.rows 3 [dX neg' x y]))→aT [.cell 4 (some 3),.tmp 5] (bZ (frV r)) .ret F H:=by
    rintro F H r ⟨neg',x,y,e,he,f4,f5,hH⟩
    rw[he]
    exact aX (.inr rfl) .nil (vs:=[.agg (dX neg' x y),.int .i64 e]) (by simp only[go_sem,δ,f4,f5,hH]) PH.nil_le ⟨.refl _,rfl⟩
   have eb:(n1==n2)=decide (n1=n2):=by cases n1<;>cases n2<;>rfl
   have low:∀ neg x,nl x≤257→aD C 58 [.bool neg,aF (aG x),aF (aG D)] .nil (aE (.agg (kR neg x D).rf.cells)):=by
    intro neg x hx
    have h1:(aG x).length≤35184372087808:=by rw[aZ]; omega
    have h2:(aG D).length≤35184372087808:=by rw[aZ]; omega
    have:=L.lowest neg (aG x) (aG D) (aS _) (aS _) h1 h2
    rw[aR,aR] at this
    exact this Om Om d0
   have fit:∀ neg x,aD C 57 [.agg (kR neg x D).rf.cells] .nil (aE (frV (gE neg x D))):=fun neg x=>by
    have:=L.fits (kR neg x D)
    rwa [blD] at this
   have lA:(aG A).length≤35184372087808:=by rw[aZ]; omega
   have lB:(aG B).length≤35184372087808:=by rw[aZ]; omega
   simp only[go_sem,δ,γ,θ,aVM]
   by_cases c:n1=n2
   ·rw[if_pos c]
    have c':(n1==n2)=true:=by rw[eb,decide_eq_true c]
    simp only[go_sem,γ,c',aVN]
    have hadd:=L.add (aG A) (aG B) (aS _) (aS _) lA lB
    have nab:=aDI m1 m2
    rw[aR,aR,fX Om Om,opV,wU Om] at hadd
    refine aA hadd rfl ?_
    simp only[go_sem,δ,γ,θ,reduceCtorEq,aVO]
    refine aA (low n1 _ Om) rfl ?_
    simp only[go_sem]
    refine aA (fit n1 _) rfl ?_
    obtain⟨neg',x,y,e,hl⟩:=rK (gE n1 (A+B) D)
    rw[hl]
    simp only[go_sem,δ,γ]
    rw[← hl]
    exact fin _ _ _ ⟨neg',x,y,e,hl,by simp only[go_sem,γ],by simp only[go_sem,γ],by simp only[go_sem]⟩
   ·rw[if_neg c]
    have c':(n1==n2)=false:=by rw[eb,decide_eq_false c]
    simp only[go_sem,γ,c',aVP]
    have hc:=L.cmp (aG A) (aG B) (aS _) (aS _) lA lB
    rw[aR,aR] at hc
    refine aA hc rfl ?_
    have hsub:∀ X Y:Nat,nl X≤256→nl Y≤256→Y≤X→aD C 37 [aF (aG X),aF (aG Y)] .nil (aE (.tup [aF (aG (X-Y)),.int .i64 0])):=by
     intro X Y h1 h2 h
     have:=L.sub (aG X) (aG Y) (aS _) (aS _) (by rw[aZ]; omega) (by rw[aZ]; omega)
     have h3:=fD (Om:X-Y≤X)
     rw[aR,aR,pH,fX Om Om,if_neg (by decide),if_neg Om,wU Om] at this
     exact this
    by_cases g:B≤A
    ·have g':dB A B≥0:=(QQ A B).2 g
     rw[if_pos g]
     simp only[go_sem,γ,g',aVQ]
     refine aA (hsub A B Om Om g) rfl ?_
     simp only[go_sem,δ,γ,θ,aVR]
     have h3:=fD (Om:A-B≤A)
     refine aA (low n1 (A-B) Om) rfl ?_
     simp only[go_sem]
     refine aA (fit n1 _) rfl ?_
     obtain⟨neg',x,y,e,hl⟩:=rK (gE n1 (A-B) D)
     rw[hl]
     simp only[go_sem,δ,γ]
     rw[← hl]
     exact fin _ _ _ ⟨neg',x,y,e,hl,by simp only[go_sem,γ],by simp only[go_sem,γ],by simp only[go_sem]⟩
    ·have g':¬ dB A B≥0:=fun h=>g ((QQ A B).1 h)
     rw[if_neg g]
     simp only[go_sem,γ,g',aIW]
     refine aA (hsub B A Om Om Om) rfl ?_
     simp only[go_sem,δ,γ,θ,aIX]
     have h3:=fD (Om:B-A≤B)
     refine aA (low n2 (B-A) Om) rfl ?_
     simp only[go_sem]
     refine aA (fit n2 _) rfl ?_
     obtain⟨neg',x,y,e,hl⟩:=rK (gE n2 (B-A) D)
     rw[hl]
     simp only[go_sem,δ,γ]
     rw[← hl]
     exact fin _ _ _ ⟨neg',x,y,e,hl,by simp only[go_sem,γ],by simp only[go_sem,γ],by simp only[go_sem]⟩
theorem bpA {C:Ctx} (L:vQ C) (x y:RF) (hx:x.Ok) (hy:y.Ok):yP.wp C (aT alD.res (bZ (frV (gQ x.v y.v)))) (PF.args [.agg x.cells,.agg y.cells]) .nil :=
 a9T L x.neg y.neg x.num x.den y.num y.den hx.1 hx.2.1 hy.1 hy.2.1 hx.2.2.1 hx.2.2.2 hy.2.2.1 hy.2.2.2
structure aXB (C:Ctx):Prop extends vQ C where
 less:∀ x y:RF,x.Ok→y.Ok→x.valid→y.valid→aD C 49 [.agg x.cells,.agg y.cells] .nil (aE (.bool (decide (mX x y<0))))
 same:∀ x y:RF,x.Ok→y.Ok→x.valid→y.valid→aD C 53 [.agg x.cells,.agg y.cells] .nil (aE (.bool (mX x y==0)))
 sign:∀ x:RF,x.Ok→x.valid→aD C 54 [.agg x.cells] .nil (aE (.int .i64 (oW x)))
 plus:∀ x y:RF,x.Ok→y.Ok→aD C 46 [.agg x.cells,.agg y.cells] .nil (aE (frV (gQ x.v y.v)))
def vsF (l:List RF) (o2 o4 k:Nat):PF:=((((PF.nil.set 0 (frs l)).set 2 (.ptr o2 3 0 0)).set 4 (.ptr o4 3 0 0)).set 5 (.int .i64 k))
theorem bpF {C:Ctx} (L:aXB C) (l:List RF) (hl:∀ x∈l,x.Ok) (hlen:l.length≤9223372036854775807) :
  PQ.wp C (aT aJZ.res (bZ (frV (nB (l.map RF.v))))) (PF.args [frs l]) .nil:=by
 have h0:cV 0:=by unfold cV; omega
 have hi:(mkT 0 1).cells=(FV.rf (false,0,1)).cells:=by rw[CH]; rfl
 have hint:=L.int 0 h0
 rw[hi] at hint
 simp only[go_sem,δ,PQ,aVW,aJZ]
 refine aQ fun o2 ho2=>?_
 have h1:aU (PH.nil.set o2 (.rows 3 [[.bool false,.aB,.aB]])) [(o2,.rows 3 [[.bool false,.aB,.aB]])] []:=aU.nil.new (H:=PH.nil) rfl _
 generalize (PH.nil.set o2 _)=H1 at *
 simp only[go_sem,aVX]
 refine aA hint rfl ?_
 simp only[go_sem,δ]
 refine aQ fun o4 ho4=>?_
 have h2:=h1.new ho4 (.rows 3 [(FV.rf (false,0,1)).cells])
 simp only[go_sem,δ,γ,aVY]
 refine wp_loop (α:=Nat × FV × PH) (fun t=>vsF l o2 o4 t.1) (fun t=>t.2.2) (fun t=>t.1≤l.length∧((l.map RF.v).take t.1).foldlM gQ (false,0,1)=.ok t.2.1∧aU t.2.2 [(o2,.rows 3 [[.bool false,.aB,.aB]]),(o4,.rows 3 [(FV.rf t.2.1).cells])] []∧(FV.rf t.2.1).Ok) (fun t=>l.length-t.1)
  (0,(false,0,1),_) ⟨bJO _,rfl,h2,⟨aS _,aS _,?_,?_⟩⟩ ?_ PH.le_refl ?_
 ·show (aG 0).length≤_
  rw[eZ]; simp
 ·show (aG 1).length≤_
  rw[tB]; simp
 ·unfold vsF
  exact Lq
 rintro⟨k,acc,H0⟩ ⟨hk,hf,hH,hacc⟩
 simp only at hk hf hH hacc ⊢
 simp only[go_sem,γ,reduceCtorEq,aVV,aVZ,vsF,bJC]
 by_cases hlt:k<l.length
 ·have bHF:(k:Int)<(l.length:Nat):=by omega
  have hr:(l.map RF.cells)[k]?=some (l[k]).cells:=by simp[hlt]
  have hadd:=L.plus (FV.rf acc) l[k] hacc (hl _ (bJG hlt))
  rw[FV.brV] at hadd
  have bHG:=SK (f:=gQ) (l.map RF.v) (false,0,1) (k:=k) (by simpa using hlt)
  rw[hf] at bHG
  simp only[Except.bind,bLK] at bHG
  have e4:=hH.at 1 rfl
  simp only[go_sem,bHF]
  refine bU .nil (fun _ _=>some ([],fun _=>aE (frV (gQ acc (l[k]).v)))) PH.nil_le ?_
  simp only[go_sem,δ,γ,reduceCtorEq,aWA,e4,hr]
  refine bQ rfl hadd rfl PH.nil_le ?_
  cases he:gQ acc (l[k]).v with
  | error e =>
   have he0:e≠0:=by
    revert he
    obtain⟨n1,a1,b1⟩:=acc
    obtain⟨n2,a2,b2⟩:=(l[k]).v
    simp only[gQ,gE]
    repeat' split
    all_goals (intro h; first | (injection h with h; subst h; decide) | cases h)
   rw[he] at bHG
   simp only[go_sem,δ,γ,reduceCtorEq,frV]
   refine aQ fun o6 ho6=>?_
   simp only[go_sem,δ,γ,reduceCtorEq]
   refine⟨PH.nil_le,?_⟩
   have h6:=hH.new ho6 (.rows 3 [[.bool false,aF [],aF []]])
   have e2:=h6.at 0 rfl
   simp only[go_sem,δ,γ,reduceCtorEq,alG,cS he0,aWB,e2]
   rw[nB,aaR _ _ bHG]
   refine fY ?_
   simp only[go_sem,δ,γ,reduceCtorEq]
  | ok r =>
   rw[he] at bHG
   obtain⟨rn,ra,rb⟩:=r
   simp only[go_sem,δ,γ,reduceCtorEq,frV]
   refine aQ fun o6 ho6=>?_
   simp only[go_sem,δ,γ,reduceCtorEq]
   refine⟨PH.nil_le,?_⟩
   have h6:=hH.new ho6 (.rows 3 [(FV.rf (rn,ra,rb)).cells])
   have e6:=h6.at 2 rfl
   have e4':=h6.at 1 rfl
   generalize hG:H0.set o6 (.rows 3 [(FV.rf (rn,ra,rb)).cells])=H6 at *
   have hG':H0.set o6 (.rows 3 [[.bool rn,aF (aG ra),aF (aG rb)]])=H6:=hG
   simp only[go_sem,σ,δ,γ,reduceCtorEq,alG,aWC,hG',e6,e4',aWD,wZz k]
   have h7:=(h6.set 1 rfl (.rows 3 [(FV.rf (rn,ra,rb)).cells])).buO 2
   refine aK (k+1,(rn,ra,rb),_) ⟨hlt,bHG,h7,aiR he⟩ (by simp only; omega) ?_ PH.le_refl
   exact Lq
 ·have bHF:¬ (k:Int)<(l.length:Nat):=by omega
  have:k=l.length:=by omega
  subst this
  rw[bJS (by simp)] at hf
  rw[nB,hf]
  have e2:=hH.at 0 rfl
  have e4:=hH.at 1 rfl
  obtain⟨n,a,b⟩:=acc
  simp only[go_sem,δ,γ,reduceCtorEq,bHF,aKA,e4,e2]
  exact aX (.inr rfl) .nil (vs:=[.agg (FV.rf (n,a,b)).cells,.int .i64 0]) Sq PH.nil_le ⟨.refl _,rfl⟩
theorem dge {n:Nat} (k:Nat):decide ((n:Int)≥(k:Int))=decide (k≤n):=decide_eq_decide.2 Om
theorem dle {n:Nat} (k:Nat):decide ((n:Int)≤(k:Int))=decide (n≤k):=decide_eq_decide.2 Om
theorem a3K {C:Ctx} (n:Nat):xE.wp C (aT DC.res (aE (.bool (eT n)))) (PF.args [.int .u8 n]) .nil:=by
 have h1:=dge (n:=n) 97
 have h2:=dle (n:=n) 122
 have h3:=dge (n:=n) 65
 have h4:=dle (n:=n) 90
 simp only[Int.cast_ofNat_Int] at h1 h2 h3 h4
 unfold eT
 generalize decide (97≤n)=a at *
 generalize decide (n≤122)=b at *
 generalize decide (65≤n)=c at *
 generalize decide (n≤90)=d at *
 cases a<;>cases b<;>cases c<;>cases d
 all_goals
  simp only[go_sem,γ,reduceCtorEq,xE,agR,agS,DC,h1,h2,h3,h4]
  refine aM (.inr rfl) rfl ?_
  rfl
theorem bbO {C:Ctx} (n:Nat):BF.wp C (aT PX.res (aE (.bool (kI n)))) (PF.args [.int .u8 n]) .nil:=by
 have h1:=dge (n:=n) 48
 have h2:=dle (n:=n) 57
 simp only[Int.cast_ofNat_Int] at h1 h2
 unfold kI
 generalize decide (48≤n)=a at *
 generalize decide (n≤57)=b at *
 cases a<;>cases b
 all_goals
  simp only[go_sem,γ,reduceCtorEq,BF,asV,asW,PX,h1,h2]
  refine aM (.inr rfl) rfl ?_
  rfl
theorem a3G {C:Ctx} (h1:∀ n:Nat,aD C 65 [.int .u8 n] .nil (aE (.bool (eT n)))) (h2:∀ n:Nat,aD C 63 [.int .u8 n] .nil (aE (.bool (kI n)))) (n:Nat) :
  xC.wp C (aT DA.res (aE (.bool (fG n)))) (PF.args [.int .u8 n]) .nil:=by
 have g1:((n:Int)==45)=decide (n=45):=by by_cases h:n=45<;>simp[h]; omega
 have g2:((n:Int)==46)=decide (n=46):=by by_cases h:n=46<;>simp[h]; omega
 have k1:=h1 n
 have k2:=h2 n
 unfold fG
 generalize decide (n=45)=a at *
 generalize decide (n=46)=b at *
 simp only[go_sem,reduceCtorEq,xC,agG,agH,DA]
 refine aA k1 rfl ?_
 cases eT n with
 | true =>
  simp only[go_sem,γ]
  refine aM (.inr rfl) rfl ?_
  rfl
 | false =>
  simp only[go_sem,γ,reduceCtorEq]
  refine aA k2 rfl ?_
  cases kI n<;>cases a<;>cases b
  all_goals
   simp only[go_sem,γ,reduceCtorEq,g1,g2]
   refine aM (.inr rfl) rfl ?_
   rfl
theorem a3I {C:Ctx} (h1:∀ n:Nat,aD C 65 [.int .u8 n] .nil (aE (.bool (eT n)))) (h2:∀ n:Nat,aD C 64 [.int .u8 n] .nil (aE (.bool (fG n)))) (s:List UInt8) :
  xD.wp C (aT DB.res (aE (.bool (isName s)))) (PF.args [.str s]) .nil:=by
 simp only[go_sem,γ,reduceCtorEq,xD,agJ,agK,DB]
 cases s with
 | nil =>
  have h0:decide (((0:Nat):Int)<1)=true:=rfl
  simp only[go_sem,γ,uS,bLO,h0]
  refine aM (.inr rfl) rfl ?_
  rfl
 | cons c t =>
  have hz:(c::t)[0]?=some c:=rfl
  have hN:isName (c::t)=(decide ((c::t).length≤16)&&eT c.toNat&&(c::t).all fun c=>fG c.toNat):=rfl
  have hpos:¬ (((c::t).length:Nat):Int)<1:=by simp only[bKQ]; omega
  generalize c::t=s at *
  by_cases hl:s.length≤16
  ·have hl':¬ ((s.length:Nat):Int)>16:=by omega
   rw[decide_eq_true hl,bJM] at hN
   have k1:=h1 c.toNat
   simp only[go_sem,ν,γ,reduceCtorEq,hpos,hl',hz,bKL]
   refine aA k1 rfl ?_
   cases hc:eT c.toNat with
   | false =>
    simp only[go_sem,γ,reduceCtorEq,bJQ,uS]
    refine aM (.inr rfl) rfl ?_
    rw[aW,hN,hc,bJI]
   | true =>
    rw[hc,bJM] at hN
    simp only[go_sem,γ,reduceCtorEq,bJK,agL]
    refine wp_loop (α:=Nat) (fun k=>((PF.nil.set 0 (.str s)).set 3 (.int .i64 k))) (fun _=>.nil) (fun k=>k≤s.length∧(s.take k).all (fun c=>fG c.toNat)=true) (fun k=>s.length-k) 0 ⟨bJO _,rfl⟩ Lq PH.nil_le ?_
    rintro k ⟨hk,ha⟩
    simp only[go_sem,γ,reduceCtorEq,agI,agM]
    by_cases hlt:k<s.length
    ·have bHF:(k:Int)<(s.length:Nat):=by omega
     have hat:s[k]?=some s[k]:=bJN hlt
     have k2:=h2 (s[k]).toNat
     simp only[go_sem,γ,reduceCtorEq,bHF,agN,hat,bKL]
     refine aA k2 rfl ?_
     cases hi:fG (s[k]).toNat with
     | false =>
      simp only[go_sem,γ,reduceCtorEq,bJQ,agO]
      refine aM (.inr rfl) rfl ?_
      rw[aW,hN,mR hlt hi]
     | true =>
      simp only[go_sem,γ,reduceCtorEq,bJK,agP,wZz k]
      exact aK (k+1) ⟨hlt,by simpa using mQ hlt ha hi⟩ Om Lq PH.le_refl
    ·have bHF:¬ (k:Int)<(s.length:Nat):=by omega
     have:k=s.length:=by omega
     subst this
     rw[bKB] at ha
     simp only[go_sem,bHF,agQ]
     refine aM (.inr rfl) rfl ?_
     rw[aW,hN,ha]
  ·have hl':((s.length:Nat):Int)>16:=by omega
   rw[decide_eq_false hl,bJI,bJI] at hN
   simp only[go_sem,γ,reduceCtorEq,hpos,hl',uS]
   refine aM (.inr rfl) rfl ?_
   rw[aW,hN]
def DM (k m:Int):Bool:=within k 1 6&&(within m 0 4&&decide (k+m≤8))
theorem bhE {C:Ctx} (k m:Int):lP.wp C (aT uK.res (aE (.bool (DM k m)))) (PF.args [.int .i64 k,.int .i64 m]) .nil:=by
 unfold DM within
 by_cases h1:1≤k
 ·by_cases h2:k≤6
  ·by_cases h3:0≤m
   ·by_cases h4:m≤4
    ·have hw:IntKind.i64.wrap (k+m)=k+m:=wrap_i64 Om Om
     simp only[go_sem,γ,reduceCtorEq,lP,rZ,sA,uK,ge_iff_le,h1,h2,h3,h4,hw]
     refine aM (.inr rfl) rfl ?_
     simp[aW,h1,h2,h3,h4]
    ·simp only[go_sem,γ,reduceCtorEq,lP,rZ,sA,uK,ge_iff_le,h1,h2,h3,h4]
     refine aM (.inr rfl) rfl ?_
     simp[aW,h1,h2,h3,h4]
   ·simp only[go_sem,γ,reduceCtorEq,lP,rZ,sA,uK,ge_iff_le,h1,h2,h3]
    refine aM (.inr rfl) rfl ?_
    simp[aW,h1,h2,h3]
  ·simp only[go_sem,γ,reduceCtorEq,lP,rZ,sA,uK,ge_iff_le,h1,h2]
   refine aM (.inr rfl) rfl ?_
   simp[aW,h1,h2]
 ·simp only[go_sem,γ,reduceCtorEq,lP,rZ,sA,uK,ge_iff_le,h1]
  refine aM (.inr rfl) rfl ?_
  simp[aW,h1]
theorem a3Y {C:Ctx} (n lo hi:Int):rH.wp C (aT vP.res (aE (.bool (within n lo hi)))) (PF.args [.int .i64 n,.int .i64 lo,.int .i64 hi]) .nil:=by
 unfold within
 by_cases h:lo≤n
 ·simp only[go_sem,γ,reduceCtorEq,rH,JQ,JR,vP,ge_iff_le,h]
  refine aM (.inr rfl) rfl ?_
  simp[aW,h]
 ·simp only[go_sem,γ,reduceCtorEq,rH,JQ,JR,vP,ge_iff_le,h]
  refine aM (.inr rfl) rfl ?_
  simp[aW,h]
def mZ (a b c d e f:Nat):Bool:=decide (a≤4)&&(decide (b≤4)&&(decide (c≤40)&&(decide (d≤24)&&(decide (e≤4)&&decide (f≤12)))))
theorem bcJ {C:Ctx} (a b c d e f:Nat):BL.wp C (aT QH.res (aE (.bool (mZ a b c d e f)))) (PF.args [.int .i64 a,.int .i64 b,.int .i64 c,.int .i64 d,.int .i64 e,.int .i64 f]) .nil:=by
 have g:∀ x k:Nat,decide ((x:Int)≤(k:Int))=decide (x≤k):=fun x k=>decide_eq_decide.2 Om
 have h1:=g a 4
 have h2:=g b 4
 have h3:=g c 40
 have h4:=g d 24
 have h5:=g e 4
 have h6:=g f 12
 simp only[Int.cast_ofNat_Int] at h1 h2 h3 h4 h5 h6
 unfold mZ
 simp only[go_sem,γ,reduceCtorEq,BL,atT,atU,QH,h1]
 cases decide (a≤4) with
 | false =>
  simp only[go_sem,γ,reduceCtorEq]
  refine aM (.inr rfl) rfl ?_
  rfl
 | true =>
  simp only[go_sem,γ,h2]
  cases decide (b≤4) with
  | false =>
   simp only[go_sem,γ,reduceCtorEq]
   refine aM (.inr rfl) rfl ?_
   rfl
  | true =>
   simp only[go_sem,γ,h3]
   cases decide (c≤40) with
   | false =>
    simp only[go_sem,γ,reduceCtorEq]
    refine aM (.inr rfl) rfl ?_
    rfl
   | true =>
    simp only[go_sem,γ,h4]
    cases decide (d≤24) with
    | false =>
     simp only[go_sem,γ,reduceCtorEq]
     refine aM (.inr rfl) rfl ?_
     rfl
    | true =>
     simp only[go_sem,γ,h5]
     cases decide (e≤4) with
     | false =>
      simp only[go_sem,γ,reduceCtorEq]
      refine aM (.inr rfl) rfl ?_
      rfl
     | true =>
      simp only[go_sem,γ,h6]
      refine aM (.inr rfl) rfl ?_
      rfl
structure YF (C:Ctx):Prop extends aXB C where
 sum:∀ l:List RF,(∀ x∈l,x.Ok)→l.length≤9223372036854775807→aD C 55 [frs l] .nil (aE (frV (nB (l.map RF.v))))
 inn:∀ n lo hi:Int,aD C 76 [.int .i64 n,.int .i64 lo,.int .i64 hi] .nil (aE (.bool (within n lo hi)))
 code:∀ k m:Int,aD C 61 [.int .i64 k,.int .i64 m] .nil (aE (.bool (DM k m)))
def GU (k m q s0 s1 s2 s3 s4:Int):Bool:=DM k m&&(within q k (k+m)&&(decide (s0=0)&&(within s1 0 8&&(within s2 0 8&&(within s3 0 8&&within s4 0 8)))))
theorem bnI (p:dA):GT p=GU p.k p.m p.bIC p.s0 p.s1 p.s2 p.s3 p.s4:=by
 unfold GT GU DM
 have:within p.s0 0 8=true∨p.s0≠0:=by
  by_cases h:p.s0=0
  ·rw[h]; exact .inl rfl
  ·exact .inr h
 simp only[List.all_cons,List.all_nil,bLE]
 rcases this with h | h
 ·rw[h]
  simp only[bJM,bMB]
 ·simp only[h,decide_false,bJI,bKT]
def spR (s1 s2 s3 s4:Int) (k:Nat):Int:=match k with
 | 1=>s1
 | 2=>s2
 | 3=>s3
 | _=>s4
theorem aMU {C:Ctx} (L:YF C) (k m q s0 s1 s2 s3 s4:Int) :
  tR.wp C (aT xI.res (aE (.bool (GU k m q s0 s1 s2 s3 s4)))) (PF.args [.int .i64 k,.int .i64 m,.int .i64 q,.agg [.int .i64 s0,.int .i64 s1,.int .i64 s2,.int .i64 s3,.int .i64 s4]]) .nil:=by
 obtain⟨X,hX⟩:∃ X,GU k m q s0 s1 s2 s3 s4=X:=⟨_,rfl⟩
 rw[hX]
 unfold GU at hX
 simp only[go_sem,γ,reduceCtorEq,tR,UJ,UK,xI]
 refine aA (L.code k m) rfl ?_
 cases h1:DM k m with
 | false =>
  rw[h1,bJI] at hX
  simp only[go_sem,γ,bJQ,sP]
  refine aM (.inr rfl) rfl ?_
  rw[aW,hX]
 | true =>
  rw[h1,bJM] at hX
  have hb:1≤k∧k≤6∧0≤m∧m≤4:=by
   simp only[DM,bJZ,within_iff] at h1
   omega
  have hw:IntKind.i64.wrap (k+m)=k+m:=wrap_i64 Om Om
  simp only[go_sem,γ,reduceCtorEq,bJK,hw]
  refine aA (L.inn q k (k+m)) rfl ?_
  cases h2:within q k (k+m) with
  | false =>
   rw[h2,bJI] at hX
   simp only[go_sem,γ,reduceCtorEq,bJQ,sP]
   refine aM (.inr rfl) rfl ?_
   rw[aW,hX]
  | true =>
   rw[h2,bJM] at hX
   have l50:(0:Int)<((5:Nat):Int):=by decide
   by_cases h3:s0=0
   ·rw[decide_eq_true h3,bJM] at hX
    simp only[go_sem,ν,δ,γ,θ,ζ,reduceCtorEq,bJK,l50,cG h3,UL]
    refine wp_loop (α:=Nat) (fun j=>((PF.nil.set 7 (.bG [.int .i64 s0,.int .i64 s1,.int .i64 s2,.int .i64 s3,.int .i64 s4])).set 9 (.int .i64 j))) (fun _=>.nil) (fun j=>1≤j∧j≤5∧∀ i,1≤i→i<j→within (spR s1 s2 s3 s4 i) 0 8=true) (fun j=>5-j) 1 ⟨by decide,by decide,fun i h1 h2=>by omega⟩ Lq PH.nil_le ?_
    rintro j ⟨hj1,hj5,bIP⟩
    simp only[go_sem,γ,UI,UM]
    by_cases hlt:j<5
    ·have bHF:(j:Int)<5:=by omega
     have hlt5:((j:Nat):Int)<((5:Nat):Int):=by omega
     have hin:=L.inn (spR s1 s2 s3 s4 j) 0 8
     obtain⟨c,hc2⟩:∃ c,within (spR s1 s2 s3 s4 j) 0 8=c:=⟨_,rfl⟩
     rw[hc2] at hin
     have bHG:c=true→∀ i,1≤i→i<j+1→within (spR s1 s2 s3 s4 i) 0 8=true:=fun hc i a b=>by
      by_cases e:i=j
      ·rw[e,hc2,hc]
      ·exact bIP i a Om
     have bad:c=false→X=false:=by
      intro h
      rw[h] at hc2
      have hc:j=1∨j=2∨j=3∨j=4:=by omega
      rw[← hX]
      rcases hc with rfl | rfl | rfl | rfl<;>(simp only[spR] at hc2; rw[hc2]; simp)
     have hc:j=1∨j=2∨j=3∨j=4:=by omega
     cases c with
     | false =>
      have hXf:=bad rfl
      rcases hc with rfl | rfl | rfl | rfl
      all_goals
       simp only[spR] at hin
       simp only[go_sem,δ,γ,θ,ζ,ε,bHF,BK,hlt5]
       refine aA hin rfl ?_
       simp only[go_sem,γ,bJQ,UN]
       refine aM (.inr rfl) rfl ?_
       rw[aW,hXf]
     | true =>
      have hs:=bHG rfl
      rcases hc with rfl | rfl | rfl | rfl
      all_goals
       simp only[spR] at hin
       simp only[go_sem,δ,γ,θ,ζ,ε,bHF,BK,hlt5]
       refine aA hin rfl ?_
       simp only[go_sem,γ,bJK,UO]
       refine aK (_+1) ⟨by omega,hlt,hs⟩ Om Lq PH.le_refl
    ·have bHF:¬ (j:Int)<5:=by omega
     have:j=5:=by omega
     subst this
     simp only[go_sem,ε,bHF,UP]
     refine aM (.inr rfl) rfl ?_
     have a1:=bIP 1 (by decide) (by decide)
     have a2:=bIP 2 (by decide) (by decide)
     have a3:=bIP 3 (by decide) (by decide)
     have a4:=bIP 4 (by decide) (by decide)
     simp only[spR] at a1 a2 a3 a4
     rw[aW,← hX,a1,a2,a3,a4]
     rfl
   ·rw[decide_eq_false h3,bJI] at hX
    simp only[go_sem,ν,δ,γ,θ,ζ,reduceCtorEq,bJK,l50,cS h3,sP]
    refine aM (.inr rfl) rfl ?_
    rw[aW,hX]
theorem nL {x:RF} (h:cH x=true):x.valid:=by
 unfold cH mE at h
 unfold RF.valid
 cases hv:cN (val x.num) (val x.den) with
 | true=>rfl
 | false =>
  rw[hv] at h
  simp at h
theorem bcL {C:Ctx} (L:YF C) (x:RF) (hx:x.Ok):BM.wp C (aT QI.res (aE (.bool (cH x)))) (PF.args [.agg x.cells]) .nil:=by
 have hr:=L.red x hx
 unfold cH
 simp only[go_sem,δ,γ,BM,atV,atW,QI]
 refine aA hr rfl ?_
 cases he:mE x with
 | error e =>
  have h0:=aFN he
  simp only[go_sem,δ,γ,frV]
  refine aQ fun o ho=>?_
  simp only[go_sem,δ,γ,reduceCtorEq,yS,bF h0]
  refine aM (.inr rfl) rfl ?_
  rfl
 | ok r =>
  obtain⟨n,a,b⟩:=r
  have ea:=kC a 1
  have eb:=kC b 1
  have da:decide (((nl a:Nat):Int)≤1)=decide (cD a≤32):=decide_eq_decide.2 Om
  have db:decide (((nl b:Nat):Int)≤1)=decide (cD b≤32):=decide_eq_decide.2 Om
  simp only[go_sem,δ,γ,frV]
  refine aQ fun o ho=>?_
  cases n with
  | true =>
   simp only[go_sem,ρ,δ,γ,θ,reduceCtorEq,yS,bJK]
   refine aM (.inr rfl) rfl ?_
   rfl
  | false =>
   simp only[go_sem,ρ,δ,γ,θ,yS,bJQ,bJC,aZ,da]
   cases decide (cD a≤32) with
   | false =>
    simp only[go_sem,γ,reduceCtorEq]
    refine aM (.inr rfl) rfl ?_
    rfl
   | true =>
    simp only[go_sem,δ,γ,bJC,aZ,db]
    refine aM (.inr rfl) rfl ?_
    rfl
structure aiM (C:Ctx):Prop extends YF C where
 small:∀ x:RF,x.Ok→aD C 74 [.agg x.cells] .nil (aE (.bool (cH x)))
 nums:∀ k m q s0 s1 s2 s3 s4:Int,aD C 72 [.int .i64 k,.int .i64 m,.int .i64 q,.agg [.int .i64 s0,.int .i64 s1,.int .i64 s2,.int .i64 s3,.int .i64 s4]] .nil (aE (.bool (GU k m q s0 s1 s2 s3 s4)))
 sizes:∀ a b c d e f:Nat,aD C 73 [.int .i64 a,.int .i64 b,.int .i64 c,.int .i64 d,.int .i64 e,.int .i64 f] .nil (aE (.bool (mZ a b c d e f)))
theorem aaS {l:List RF} {k:Nat} (h:k<l.length):(l.map RF.cells)[k]?=some (l[k]).cells:=by simp[h]
theorem a3W {C:Ctx} (L:aiM C) (l:List RF) (hl:jE l) (n:Int):xJ.wp C (aT DD.res (aE (.bool (decide ((l.length:Int)=n)&&l.all cH)))) (PF.args [frs l,.int .i64 n]) .nil:=by
 have hf:=hl.fits
 unfold Fits at hf
 simp only[go_sem,γ,reduceCtorEq,xJ,ahH,ahI,DD,bJC]
 by_cases h:((l.length:Nat):Int)=n
 ·rw[decide_eq_true h,bJM]
  subst h
  simp only[go_sem,cG (show ((l.length:Nat):Int)=(l.length:Nat) from rfl),ahK]
  refine wp_loop (α:=Nat) (fun k=>(((PF.nil.set 0 (frs l)).set 1 (.int .i64 (l.length:Nat))).set 5 (.int .i64 k))) (fun _=>.nil) (fun k=>k≤l.length∧(l.take k).all cH=true) (fun k=>l.length-k) 0 ⟨bJO _,rfl⟩ Lq PH.nil_le ?_
  rintro k ⟨hk,ha⟩
  simp only[go_sem,γ,reduceCtorEq,ahG,ahL]
  by_cases hlt:k<l.length
  ·have bHF:(k:Int)<(l.length:Nat):=by omega
   have hs:=L.small l[k] (hl.all _ (bJG hlt))
   simp only[go_sem,δ,γ,reduceCtorEq,bHF,ahM,aaS hlt]
   refine aA hs rfl ?_
   cases hi:cH l[k] with
   | false =>
    simp only[go_sem,γ,reduceCtorEq,bJQ,ahN]
    refine aM (.inr rfl) rfl ?_
    rw[aW,mR hlt hi]
   | true =>
    have ha2:=bJW.1 (mQ hlt ha hi)
    simp only[go_sem,γ,reduceCtorEq,bJK,ahO,wZz k]
    exact aK (k+1) ⟨hlt,ha2⟩ Om Lq PH.le_refl
  ·have bHF:¬ (k:Int)<(l.length:Nat):=by omega
   have:k=l.length:=by omega
   subst this
   rw[bKB] at ha
   simp only[go_sem,bHF,ahP]
   refine aM (.inr rfl) rfl ?_
   rw[aW,ha]
 ·rw[decide_eq_false h,bJI]
  simp only[go_sem,cS h,ahJ]
  refine aM (.inr rfl) rfl ?_
  rfl
structure aiN (C:Ctx):Prop extends aiM C where
 smalls:∀ l:List RF,jE l→∀ n:Int,aD C 75 [frs l,.int .i64 n] .nil (aE (.bool (decide ((l.length:Int)=n)&&l.all cH)))
theorem HJ (x:RF):(oW x==0)=!cA x:=by
 unfold oW cA
 by_cases h:val x.num=0
 ·simp[h]
 ·cases x.neg<;>simp[h]
def XB (l:List RF) (m:Int):Bool:=decide ((l.length:Int)=max m 1)&&l.all cH&&l.all cA
theorem bpN {C:Ctx} (L:aiN C) (l:List RF) (hl:jE l) (m:Int):QG.wp C (aT aKV.res (aE (.bool (XB l m)))) (PF.args [frs l,.int .i64 m]) .nil:=by
 have hf:=hl.fits
 unfold Fits at hf
 have hs:=L.smalls l hl (max m 1)
 unfold XB
 simp only[go_sem,γ,reduceCtorEq,QG,aWP,aWQ,aKV,max_eq]
 refine aA hs rfl ?_
 cases h:(decide ((l.length:Int)=max m 1)&&l.all cH) with
 | false =>
  simp only[go_sem,γ,bJQ,aWR]
  refine aM (.inr rfl) rfl ?_
  rfl
 | true =>
  rw[bJZ] at h
  have bIP:=bJW.1 h.2
  simp only[go_sem,γ,bJK,aWS]
  refine wp_loop (α:=Nat) (fun k=>((PF.nil.set 0 (frs l)).set 5 (.int .i64 k))) (fun _=>.nil) (fun k=>k≤l.length∧(l.take k).all cA=true) (fun k=>l.length-k) 0 ⟨bJO _,rfl⟩ Lq PH.nil_le ?_
  rintro k ⟨hk,ha⟩
  simp only[go_sem,γ,reduceCtorEq,aWO,aWT,bJC]
  by_cases hlt:k<l.length
  ·have bHF:(k:Int)<(l.length:Nat):=by omega
   have hm:=bJG hlt
   have hg:=L.sign l[k] (hl.all _ hm) (nL (bIP _ hm))
   have hz:=HJ l[k]
   simp only[go_sem,δ,γ,reduceCtorEq,bHF,aWU,aaS hlt]
   refine aA hg rfl ?_
   cases hi:cA l[k] with
   | false =>
    rw[hi] at hz
    simp only[go_sem,γ,reduceCtorEq,hz,bJQ,aWV]
    refine aM (.inr rfl) rfl ?_
    rw[aW,mR hlt hi]
   | true =>
    rw[hi] at hz
    have ha2:=bJW.1 (mQ hlt ha hi)
    simp only[go_sem,γ,reduceCtorEq,hz,bJK,aWW,wZz k]
    exact aK (k+1) ⟨hlt,ha2⟩ Om Lq PH.le_refl
  ·have bHF:¬ (k:Int)<(l.length:Nat):=by omega
   have:k=l.length:=by omega
   subst this
   rw[bKB] at ha
   simp only[go_sem,bHF,aWX]
   refine aM (.inr rfl) rfl ?_
   rw[aW,ha]
structure aiO (C:Ctx):Prop extends aiN C where
 reps:∀ l:List RF,jE l→∀ m:Int,aD C 66 [frs l,.int .i64 m] .nil (aE (.bool (XB l m)))
def frD:List PV→RF
 | [.bool n,a,b]=>⟨n,gS a,gS b⟩
 | _=>⟨false,[],[]⟩
theorem amY (x:RF):frD x.cells=x:=by
 show (⟨x.neg,gS (aF x.num),gS (aF x.den)⟩:RF)=x
 rw[dW,dW]
def zdS (r s:Bool):Spec:=fun name vs=>match name,vs with
 | 66,_=>some ([],fun _=>aE (.bool r))
 | 74,[.agg cs]=>some ([],fun _=>aE (.bool (cH (frD cs))))
 | 47,_=>some ([],fun _=>aE (.agg (mkT 1 1).cells))
 | 49,_=>some ([],fun _=>aE (.bool s))
 | _,_=>none
theorem atJ (r s:Bool) (x:RF):zdS r s 74 [.agg x.cells]=some ([],fun _=>aE (.bool (cH x))):=by
 show some ([],fun _=>aE (.bool (cH (frD x.cells))))=_
 rw[amY]
theorem a7H (x y:RF):mX y x=- mX x y:=by
 unfold mX pE
 have e:=alN (val x.num*val y.den) (val y.num*val x.den)
 cases x.neg&&decide (val x.num≠0)<;>cases y.neg&&decide (val y.num≠0)<;>simp only[e,Int.neg_neg]<;>rfl
theorem bfR {x:RF} (hx:x.valid):decide (mX (mkT 1 1) x<0)=!rU x:=by
 rw[a7H x]
 unfold rU
 rw[show cN (val x.num) (val x.den)=true from hx,bJM,CH]
 unfold mX
 simp only[aR,show (1:Int).natAbs=1 from rfl,show decide ((1:Int)<0)=false from rfl]
 by_cases h:pE x.neg (val x.num) (val x.den) false 1 1≤0
 ·rw[decide_eq_true h,decide_eq_false Om]; rfl
 ·rw[decide_eq_false h,decide_eq_true Om]; rfl
def KW (m:Int) (rep:List RF) (t h:RF):Bool:=XB rep m&&(cH t&&(rU t&&cH h))
theorem bpJ {C:Ctx} (L:aiO C) (m:Int) (rep:List RF) (hr:jE rep) (t h:RF) (ht:t.Ok) (hh:h.Ok) :
  QB.wp C (aT aKG.res (aE (.bool (KW m rep t h)))) (PF.args [.int .i64 m,frs rep,.agg t.cells,.agg h.cells]) .nil:=by
 have h1:cV 1:=by unfold cV; omega
 unfold KW
 simp only[go_sem,γ,QB,aWE,aKG]
 refine bU .nil (zdS (XB rep m) (!rU t)) PH.nil_le ?_
 simp only[go_sem,γ,reduceCtorEq,aWF]
 refine bQ rfl (L.reps rep hr m) rfl PH.nil_le ?_
 cases XB rep m with
 | false =>
  simp only[go_sem,γ,reduceCtorEq]
  refine aM (.inr rfl) rfl ?_
  rfl
 | true =>
  simp only[go_sem,δ,γ]
  refine bQ (atJ _ _ t) (L.small t ht) rfl PH.nil_le ?_
  cases hl:cH t with
  | false =>
   simp only[go_sem,γ,reduceCtorEq]
   refine aM (.inr rfl) rfl ?_
   rfl
  | true =>
   have hle:=L.less (mkT 1 1) t (CG 1 h1).1 ht (CG 1 h1).2 (nL hl)
   rw[bfR (nL hl)] at hle
   simp only[go_sem,γ]
   refine bQ rfl (L.int 1 h1) rfl PH.nil_le ?_
   simp only[go_sem,δ,γ]
   refine bQ rfl hle rfl PH.nil_le ?_
   cases rU t with
   | false =>
    simp only[go_sem,γ,reduceCtorEq,bJQ,bJK]
    refine aM (.inr rfl) rfl ?_
    rfl
   | true =>
    simp only[go_sem,δ,γ,bJK,bJQ]
    refine bQ (atJ _ _ h) (L.small h hh) rfl PH.nil_le ?_
    simp only[go_sem,γ]
    refine aM (.inr rfl) rfl ?_
    rfl
theorem bqH (p:dA):yC p=KW p.m p.repair p.target p.bHK:=by
 unfold yC KW XB
 have:(p.repair.all fun x=>cH x&&cA x)=(p.repair.all cH&&p.repair.all cA):=by
  induction p.repair with
  | nil=>rfl
  | cons a t ih =>
   simp only[List.all_cons,ih]
   cases cH a<;>cases cA a<;>simp
 rw[this]
 simp only[bMB]
section
variable {H:PH} {B:List BX} {L:List LI}
theorem aU.aXG (h:aU H B L) (i:Nat) {s b:Nat} {v y:PV} {rows src:List (List PV)} {K:PV→PH→Prop} (hi:L[i]?=some (v,s,rows)) (hy:eN H s y=some src) (hr:roomFor rows.length src.length b)
  (hk:∀ v' H',bO H' s v rows→aU H' B (L.set i (v',s,rows++src))→K v' H'):lS H s b v y K:=by
 rcases h.own i hi with ⟨rfl,rfl⟩ | ⟨q,rs,rfl,h1,h2,h3⟩
 ·exact h.append i hi hy hr fun v' H' h' _=>hk v' H' (.inl ⟨rfl,rfl⟩) h'
 ·have hlen:(rows++src).length=rows.length+src.length:=bJL
  refine⟨src,hy,rfl,rfl,hr,rs,h1,h2,?_,fun o ho=>?_⟩
  ·rw[h3]
   refine hk _ _ (.inr ⟨q,rows++src,rfl,by rw[fI],by rw[hlen]; omega,List.take_left' rfl⟩) (h.yK i hi (.inr ⟨q,rows++src,by rw[hlen],by simp only[bR,if_true],bJF _,bKB⟩) (fun p hp=>by cases hp; exact .inl rfl) fun p _ hp=>?_)
   rw[bR,if_neg (hp q rfl)]
  ·rw[h3]
   have hqo:q≠o:=by rintro rfl; rw[h1] at ho; cases ho
   refine hk _ _ (.inr ⟨q,rs,rfl,by rw[bR,if_neg hqo]; exact h1,h2,h3⟩) (h.yK i hi (.inr ⟨o,rows++src,by rw[hlen],by simp only[bR,if_true],bJF _,bKB⟩) (fun p hp=>by cases hp; exact .inr ho) fun p hpm hp=>?_)
   obtain⟨f1,f2⟩:=h.fresh ho
   have n1:p≠o:=by rintro rfl; exact hpm.elim f1 f2
   rw[bR,if_neg n1]
end
abbrev kL (l:List (List UInt8)):List (List PV):=l.map fun s=>[PV.str s]
def wJ:List (List UInt8)→List UInt8→Nat→Int
 | [],_,_=>-1
 | x::t,s,i=>if x==s then (i:Int) else wJ t s (i+1)
theorem aBE (s:List UInt8):∀ (l:List (List UInt8)) (i:Nat),decide (wJ l s i<0)=!l.contains s
 | [],i=>rfl
 | x::t,i=>by
  rw[wJ,List.contains_cons,BEq.comm (a:=s)]
  by_cases h:(x==s)=true
  ·rw[if_pos h,h,Bool.true_or,decide_eq_false Om]; rfl
  ·rw[if_neg h,aBE s t (i+1)]
   simp only[Bool.not_eq_true] at h
   rw[h,Bool.false_or]
theorem bcG {C:Ctx} (l:List (List UInt8)) (hl:l.length≤1000000) (s:List UInt8):BJ.wp C (aT QD.res (aE (.int .i64 (wJ l s 0)))) (PF.args [.sl 1 (kL l),.str s]) .nil:=by
 simp only[go_sem,BJ,atN,atO,QD]
 refine wp_loop (α:=Nat) (fun k=>(((PF.nil.set 0 (.sl 1 (kL l))).set 1 (.str s)).set 5 (.int .i64 k))) (fun _=>.nil) (fun k=>k≤l.length∧wJ l s 0=wJ (l.drop k) s k) (fun k=>l.length-k) 0 ⟨bJO _,rfl⟩ Lq PH.nil_le ?_
 rintro k ⟨hk,ha⟩
 simp only[go_sem,γ,reduceCtorEq,atM,atP,bJC]
 by_cases hlt:k<l.length
 ·have bHF:(k:Int)<(l.length:Nat):=by omega
  have hat:(kL l)[k]?=some [.str l[k]]:=by simp[hlt]
  rw[bKY hlt,wJ] at ha
  cases hc:l[k]==s with
  | true =>
   rw[hc,if_pos rfl] at ha
   simp only[go_sem,γ,reduceCtorEq,bHF,QE,hat,hc,atQ]
   refine aM (.inr rfl) rfl ?_
   rw[aW,ha]
  | false =>
   rw[hc,if_neg (by decide)] at ha
   simp only[go_sem,γ,reduceCtorEq,bHF,QE,hat,hc,atR,wZz k]
   exact aK (k+1) ⟨hlt,ha⟩ Om Lq PH.le_refl
 ·have bHF:¬ (k:Int)<(l.length:Nat):=by omega
  have:k=l.length:=by omega
  subst this
  rw[List.drop_length,wJ] at ha
  simp only[go_sem,ο,bHF,atS]
  refine aM (.inr rfl) rfl ?_
  rw[aW,ha]
structure aiP (C:Ctx):Prop extends aiO C where
 name:∀ s:List UInt8,aD C 62 [.str s] .nil (aE (.bool (isName s)))
 index:∀ (l:List (List UInt8)),l.length≤1000000→∀ s:List UInt8,aD C 71 [.sl 1 (kL l),.str s] .nil (aE (.int .i64 (wJ l s 0)))
def gT (l:List (List UInt8)) (s:List UInt8):Bool:=isName s&&!l.contains s
def YE (l:List (List UInt8)) (s:List UInt8) (r:PV) (B:List BX) (L:List LI):Prop:=∃ w',r=.tup [w',.bool (gT l s)]∧B=[]∧L=[(w',1,kL (l++[s]))]
theorem bcE {C:Ctx} (L:aiP C) (l:List (List UInt8)) (hl:l.length≤1000000) (s:List UInt8) (w:PV) (H:PH) (hH:aU H [] [(w,1,kL l)]) :
  BI.wp C (aT QC.res (fun r H'=>∃ B' L',YE l s r B' L'∧aU H' B' L')) (PF.args [w,.str s]) H:=by
 have hix:=L.index l hl s
 have hnm:=L.name s
 have hneg:=aBE s l 0
 have h11:(1:Nat)*1≤16777216:=by decide
 have fin:∀ (F:PF) (H':PH) (w':PV) (b:Bool),F 4=some w'→F 5=some (.bool b)→b=gT l s→aU H' [] [(w',1,kL (l++[s]))]→aT [.tmp 4,.tmp 5] (fun r H'=>∃ B' L',YE l s r B' L'∧aU H' B' L') .ret F H':=fun F H' w' b f4 f5 e h' =>
  aX (vs:=[w',.bool b]) (.inr rfl) H' (by simp only[go_sem,f4,f5]) PH.le_refl ⟨[],_,⟨w',by rw[e]; rfl,rfl,rfl⟩,h'⟩
 simp only[go_sem,υ,γ,η,ζ,reduceCtorEq,BI,atK,atL,QC,h11]
 refine hH.aXG 0 (src:=[[.str s]]) rfl rfl (by unfold roomFor; rw[bJC]; simp only[bJT,maxLen]; omega) fun w' H' hO h'=>?_
 have h'':aU H' [] [(w',1,kL (l++[s]))]:=by
  have e:kL (l++[s])=kL l++[[.str s]]:=by simp[kL]
  rw[e]; exact h'
 refine aA hnm rfl ?_
 cases hn:isName s with
 | false =>
  simp only[go_sem,γ,reduceCtorEq]
  exact fin _ _ w' false rfl rfl (by unfold gT; rw[hn,bJI]) h''
 | true =>
  have hfb:gT l s=!l.contains s:=by unfold gT; rw[hn,bJM]
  rcases hO with ⟨z1,rfl⟩ | ⟨q,rs,rfl,q1,q2,q3⟩
  ·simp only[go_sem,γ,reduceCtorEq]
   rw[z1] at hix
   have hix2:aD C 71 [.aB,.str s] .nil (aE (.int .i64 (wJ l s 0))):=hix.args (.cons (.nil 1) (.cons (.refl _) .nil))
   refine aA hix2 rfl ?_
   simp only[go_sem,γ,hneg]
   exact fin _ _ w' _ rfl rfl hfb.symm h''
  ·simp only[go_sem,γ,reduceCtorEq]
   refine BG (vs:=[.osl q 1 0 (kL l).length,.str s]) (.int .i64 (wJ l s 0)) ?_ q1 Sq ?_
   ·rw[bLB,bLB,List.map_nil,pO q2,q3]
    exact hix
   simp only[go_sem,γ,hneg]
   exact fin _ _ w' _ rfl rfl hfb.symm h''
theorem a8U {x:RF} (h:cH x=true):decide (oW x>0)=cA x:=by
 have hv:=nL h
 unfold cH mE at h
 rw[show cN (val x.num) (val x.den)=true from hv,if_pos rfl,WD hv] at h
 unfold oW cA
 by_cases h0:val x.num=0
 ·simp[h0]
 ·have hq:val x.num/bJH (val x.num) (val x.den)≠0:=by
   have:=Nat.div_pos (Nat.gcd_le_left (val x.den) (bLI h0)) (Nat.gcd_pos_of_pos_left _ (bLI h0))
   omega
  have hn:x.neg=false:=by
   unfold kR at h
   simp only[hq,ne_eq,not_false_eq_true,decide_true,bLE,bJZ] at h
   simpa using h.1
  rw[if_neg h0,hn]
  simp[h0]
structure avF (l:cM):Prop where
 exit:∀ x∈l.exit,cH x=true
 row:∀ r∈l.bHD,∀ x∈r,cH x=true
structure nD (C:Ctx):Prop extends aiP C where
 fresh:∀ (l:List (List UInt8)),l.length≤1000000→∀ (s:List UInt8) (w:PV) (H:PH),aU H [] [(w,1,kL l)]→aD C 70 [w,.str s] H (fun r H'=>∃ B' L',YE l s r B' L'∧aU H' B' L')
theorem nD.pos {C:Ctx} (L:nD C) {x:RF} (hx:x.Ok) (h:cH x=true):∃ n:Int,aD C 54 [.agg x.cells] .nil (aE (.int .i64 n))∧decide (n>0)=cA x:=⟨_,L.sign x hx (nL h),a8U h⟩
def zlF (l:cM) (o r i:Nat):PF:=(((((PF.nil.set 1 (.bG l.cells)).set 3 (.int .i64 (l.exit.length:Nat))).set 7 (.osl o 1 0 l.exit.length)).set 8 (.int .i64 r)).set 9 (.int .i64 i))
theorem bjF {C:Ctx} (L:nD C) (l:cM) (o r i:Nat) (row:List RF) (hri:(l.bHD.map fun r=>[frs r])[i]?=some [frs row]) (bHL:jE row) (hlim:∀ x∈row,cH x=true) (hrl:row.length=l.exit.length) (hi:i<l.exit.length) (hn:l.exit.length≤4) (R1:List Bool) (hR:R1.length=l.exit.length) (K:cO) [Up K] (F:PF) (H:PH)
  (hF:((zlF l o r i).set 10 (.int .i64 0)).le F) (hH:(fW o R1).le H)
  (hK:K (.exit 6) (zlF l o r i) (fW o (cP R1 i row row.length))):aC.wp C (.loop IW) K F H:=by
 refine wp_loop (α:=Nat) (fun k=>(zlF l o r i).set 10 (.int .i64 k)) (fun k=>fW o (cP R1 i row k)) (fun k=>k≤row.length) (fun k=>row.length-k) 0 (bJO _) hF hH ?_
 intro k hk
 have hlen:=qX R1 i row k
 have hstep':∀ h:k<row.length,cP R1 i row (k+1)=(cP R1 i row k).set i ((cP R1 i row k).getD i false||cA row[k]&&(cP R1 i row k).getD k false):=fun h=>by
  simp only[cP,bJX,bKH,bJN h,bKL,bLQ]
 have fin:∀ (b:Bool) (F:PF) (H:PH),k<row.length→fL (cP R1 i row (k+1))=(fL (cP R1 i row k)).set i [.bool b]→((zlF l o r i).set 10 (.int .i64 (k+1:Nat))).le F→H o=some (.rows 1 ((fL (cP R1 i row k)).set i [.bool b])) →
   eA (fun k:Nat=>(zlF l o r i).set 10 (.int .i64 k)) (fun k=>fW o (cP R1 i row k)) (fun k=>k≤row.length) (fun k=>row.length-k) (row.length-k) K .normal F H:=by
  intro b F H hlt hb hF hH
  refine aK (k+1) hlt Om hF ?_
  rw[← hb] at hH
  exact PH.aI PH.nil_le hH
 unfold zlF fW at fin
 simp only[go_sem,γ,IW,aKP,zlF,fW]
 by_cases hlt:k<row.length
 ·have bHF:(k:Int)<(l.exit.length:Nat):=by omega
  have hi':(i:Int)<(l.exit.length:Nat):=by omega
  have hat:=oZ (R:=cP R1 i row k) (i:=i) Om
  have hatk:=oZ (R:=cP R1 i row k) (i:=k) Om
  have bHG:=hstep' hlt
  obtain⟨n,hsn,hpos⟩:=L.pos (bHL.all _ (bJG hlt)) (hlim _ (bJG hlt))
  have hfr:=aaS hlt
  generalize hb:(cP R1 i row k).getD i false=b at *
  generalize hc:(cP R1 i row k).getD k false=c at *
  generalize hA:cA row[k]=A at *
  cases b with
  | true =>
   simp only[go_sem,γ,bHF,XY,hi',bKC,hat,IX,wZz k]
   exact fin true _ _ hlt (by rw[bHG,kG,Bool.true_or]) Lq Sq
  | false =>
   simp only[go_sem,δ,γ,θ,bHF,XY,hi',bKC,hat,hri,hfr]
   refine aA hsn rfl ?_
   cases A with
   | false =>
    simp only[go_sem,γ,reduceCtorEq,hpos,hi',bHF,bKC,hat,hatk,IX,wZz k]
    exact fin false _ _ hlt (by rw[bHG,kG,Bool.false_or,bJI]) Lq Sq
   | true =>
    simp only[go_sem,γ,reduceCtorEq,hpos,hi',bHF,bKC,hat,hatk,IX,wZz k]
    exact fin c _ _ hlt (by rw[bHG,kG,Bool.false_or,bJM]) Lq Sq
 ·have bHF:¬ (k:Int)<(l.exit.length:Nat):=by omega
  have:k=row.length:=by omega
  subst this
  simp only[go_sem,bHF]
  refine Up.up ?_ hK
  (repeat' (first|exact PF.nil_le|refine PF.aI ?_ ?_))<;>first|(simp only[go_sem,γ,zlF]<;>rfl)|rfl
theorem bjH {C:Ctx} (L:nD C) (l:cM) (hl:l.Ok) (he:xK l) (hm:avF l) (o r:Nat) (R:List Bool) (hR:R.length=l.exit.length) (K:cO) [Up K] (F:PF) (H:PH)
  (hF:(zlF l o r 0).le F) (hH:(fW o R).le H)
  (hK:K (.exit 4) (zlF l o r l.exit.length) (fW o (cZ l R l.exit.length))):aC.wp C (.loop XQ) K F H:=by
 refine wp_loop (α:=Nat) (fun i=>zlF l o r i) (fun i=>fW o (cZ l R i)) (fun i=>i≤l.exit.length) (fun i=>l.exit.length-i) 0 (bJO _) hF hH ?_
 intro i hi
 have hlen:=nT l R i
 have hn:=he.n
 simp only[go_sem,γ,XQ,aKO,zlF,fW]
 by_cases hlt:i<l.exit.length
 ·have bHF:(i:Int)<(l.exit.length:Nat):=by omega
  have hir:i<l.bHD.length:=by rw[he.bHD]; exact hlt
  have hat:=oZ (R:=cZ l R i) (i:=i) Om
  have hx:=aaS hlt
  have bHL:(l.bHD.map fun r=>[frs r])[i]?=some [frs l.bHD[i]]:=by simp[hir]
  have hrl:(l.bHD[i]).length=l.exit.length:=he.row _ (bJG hir)
  generalize hR1:(cZ l R i).set i ((cZ l R i).getD i false||cA l.exit[i])=R1
  have hR1l:R1.length=l.exit.length:=by rw[← hR1,bLA]; omega
  have bHG:cZ l R (i+1)=cP R1 i l.bHD[i] (l.bHD[i]).length:=by
   simp only[cZ,wR]
   have e1:(l.exit.map cA).getD i false=cA l.exit[i]:=by simp[bJX,hlt]
   have e2:l.bHD.getD i []=l.bHD[i]:=by simp[bJX,hir]
   rw[e1,e2,hR1]
  obtain⟨n,hsn,hpos⟩:=L.pos (hl.exit.all _ (bJG hlt)) (hm.exit _ (bJG hlt))
  have rest:∀ (F:PF) (H:PH),(zlF l o r i).le F→H o=some (.rows 1 (fL R1)) →
    aC.wp C (.seq (.region XW) (.block 6 (.loop IW))) (dU 5 (gY C (aC.wp C (.region XZ)) (eA (fun i:Nat=>zlF l o r i) (fun i=>fW o (cZ l R i)) (fun i=>i≤l.exit.length) (fun i=>l.exit.length-i) (l.exit.length-i) K))) F H:=by
   intro F H hF hH
   refine sO _ (fun _ _ _ _ a b=>Up.up a b) hF ?_
   simp only[go_sem,XW]
   refine bjF L l o r i l.bHD[i] bHL (hl.row _ (bJG hir)) (hm.row _ (bJG hir)) hrl hlt hn R1 hR1l _ _ _ (by (repeat' (first|exact PF.nil_le|refine PF.aI ?_ ?_))<;>first|(simp only[go_sem,γ,zlF]<;>rfl)|rfl) (PH.aI PH.nil_le hH) ?_
   simp only[go_sem,γ,zlF,XZ,wZz i]
   exact aK (i+1) hlt Om Lq (by rw[bHG]; exact PH.le_refl)
  simp only[zlF,fW] at rest
  have rest':=rest
  simp only[aC.wp,go_sem] at rest'
  generalize hb:(cZ l R i).getD i false=b at *
  cases b with
  | true =>
   simp only[go_sem,γ,bHF,XV,bHF,bKC,hat]
   refine rest' _ _ Lq ?_
   rw[← hR1]
   simp only[go_sem,kG,Bool.true_or]
  | false =>
   simp only[go_sem,δ,γ,bHF,XV,bHF,bKC,hat,hx]
   refine aA hsn rfl ?_
   simp only[go_sem,γ,reduceCtorEq,bHF,bKC,hat,hpos]
   refine rest' _ _ Lq ?_
   rw[← hR1]
   simp only[go_sem,kG,Bool.false_or]
 ·have bHF:¬ (i:Int)<(l.exit.length:Nat):=by omega
  have:i=l.exit.length:=by omega
  subst this
  simp only[go_sem,bHF]
  exact Up.up (by (repeat' (first|exact PF.nil_le|refine PF.aI ?_ ?_))<;>first|(simp only[go_sem,γ,zlF]<;>rfl)|rfl) hK
theorem bjG {C:Ctx} (L:nD C) (l:cM) (hl:l.Ok) (he:xK l) (hm:avF l) (o:Nat) (K:cO) [Up K] (F:PF) (H:PH)
  (hF:(((((PF.nil.set 1 (.bG l.cells)).set 3 (.int .i64 (l.exit.length:Nat))).set 7 (.osl o 1 0 l.exit.length)).set 8 (.int .i64 0)):PF).le F) (hH:(fW o (dD l 0)).le H)
  (hK:K (.exit 2) (((PF.nil.set 3 (.int .i64 (l.exit.length:Nat))).set 7 (.osl o 1 0 l.exit.length))) (fW o (dD l l.exit.length))):aC.wp C (.loop XR) K F H:=by
 have hn:=he.n
 refine wp_loop (α:=Nat) (fun r=>((((PF.nil.set 1 (.bG l.cells)).set 3 (.int .i64 (l.exit.length:Nat))).set 7 (.osl o 1 0 l.exit.length)).set 8 (.int .i64 r))) (fun r=>fW o (dD l r)) (fun r=>r≤l.exit.length) (fun r=>l.exit.length-r) 0 (bJO _) hF hH ?_
 intro r hr
 have hlen:=nS l r
 simp only[go_sem,γ,XR,aKM]
 by_cases hlt:r<l.exit.length
 ·have bHF:(r:Int)<(l.exit.length:Nat):=by omega
  simp only[go_sem,bHF,aKN]
  refine bjH L l hl he hm o r (dD l r) hlen _ _ _ (by (repeat' (first|exact PF.nil_le|refine PF.aI ?_ ?_))<;>first|(simp only[go_sem,γ,zlF]<;>rfl)|rfl) PH.le_refl ?_
  simp only[go_sem,γ,zlF,aKQ,wZz r]
  exact aK (r+1) hlt Om Lq PH.le_refl
 ·have bHF:¬ (r:Int)<(l.exit.length:Nat):=by omega
  have:r=l.exit.length:=by omega
  subst this
  simp only[go_sem,bHF]
  exact Up.up Lq hK
theorem bsM {C:Ctx} (R:List Bool) (hR:R.length≤4) (o:Nat) (X:Bool) (hX:X=R.all id) (Q:PV→PH→Prop) (hQ:Q=aE (.bool X)) (F:PF) (H:PH)
  (hF:((((PF.nil.set 3 (.int .i64 (R.length:Nat))).set 7 (.osl o 1 0 R.length)).set 11 (.int .i64 0)):PF).le F) (hH:(fW o R).le H):aC.wp C (.loop XS) (dU 8 (gY C (aC.wp C (.seq (.region YB) .ret)) (aT [.tmp 2] Q))) F H:=by
 subst hX hQ
 refine wp_loop (α:=Nat) (fun k=>(((PF.nil.set 3 (.int .i64 (R.length:Nat))).set 7 (.osl o 1 0 R.length)).set 11 (.int .i64 k))) (fun _=>fW o R) (fun k=>k≤R.length∧(R.take k).all id=true) (fun k=>R.length-k) 0 ⟨bJO _,rfl⟩ hF hH ?_
 rintro k ⟨hk,ha⟩
 simp only[go_sem,γ,XS,aKS,fW]
 by_cases hlt:k<R.length
 ·have bHF:(k:Int)<(R.length:Nat):=by omega
  have hat:=oZ (R:=R) (i:=k) hlt
  have hg:R.getD k false=R[k]:=by simp[bJX,hlt]
  rw[hg] at hat
  cases hc:R[k] with
  | false =>
   rw[hc] at hat
   simp only[go_sem,γ,bHF,YA,bKC,hat,bJQ,aKT]
   refine aM (.inr rfl) rfl ?_
   rw[aW,mR hlt (p:=id) hc]
  | true =>
   rw[hc] at hat
   have ha2:=mQ hlt ha (p:=id) hc
   simp only[go_sem,γ,bHF,YA,bKC,hat,bJK,aKU,wZz k]
   exact aK (k+1) ⟨hlt,by simpa using bJW.1 ha2⟩ Om Lq PH.le_refl
 ·have bHF:¬ (k:Int)<(R.length:Nat):=by omega
  have:k=R.length:=by omega
  subst this
  rw[bKB] at ha
  simp only[go_sem,bHF,YB]
  refine aM (.inr rfl) rfl ?_
  rw[aW,ha]
def Marks (R S:List Bool):Prop:=R.length=S.length∧∀ j:Nat,R[j]?=some true→S[j]?=some true
theorem Marks.brW (R:List Bool):Marks R R:=⟨rfl,fun _ h=>h⟩
theorem Marks.trans {R S T:List Bool} (h:Marks R S) (k:Marks S T):Marks R T:=⟨h.1.trans k.1,fun j a=>k.2 j (h.2 j a)⟩
theorem aCC (R:List Bool) (i:Nat) (b:Bool):Marks R (R.set i (R.getD i false||b)):=by
 refine⟨by rw[bLA],fun j h=>?_⟩
 rw[List.getElem?_set]
 obtain⟨hj,he⟩:=bKN.1 h
 split
 ·rename_i e
  subst e
  rw[if_pos hj,bJX,h]
  rfl
 ·exact h
theorem aoJ (R:List Bool) (i:Nat) (row:List RF):∀ k,Marks R (cP R i row k)
 | 0=>Marks.brW R
 | k+1=>(aoJ R i row k).trans (aCC _ _ _)
theorem zM (l:cM) (R:List Bool):∀ i,Marks R (cZ l R i)
 | 0=>Marks.brW R
 | i+1=>(zM l R i).trans ((aCC _ _ _).trans (aoJ _ _ _ _))
theorem aCD:∀ {R S:List Bool},Marks R S→R≠S→R.count true<S.count true
 | [],[],_,h=>absurd rfl h
 | [],_::_,h,_=>by have:=h.1; simp at this
 | _::_,[],h,_=>by have:=h.1; simp at this
 | a::R,b::S,h,hne=>by
  have h0:a=true→b=true:=fun e=>by
   have:=h.2 0 (by rw[e]; rfl)
   simpa using this
  have ht:Marks R S:=⟨by have:=h.1; simpa using this,fun j hj=>by have:=h.2 (j+1) (by simpa using hj); simpa using this⟩
  by_cases e:R=S
  ·subst e
   have:a≠b:=fun e=>hne (by rw[e])
   cases a<;>cases b<;>simp at this h0 ⊢
  ·have:=aCD ht e
   cases a<;>cases b<;>simp at h0 ⊢<;>omega
theorem YU:∀ {R:List Bool},R.length≤R.count true→R.all id=true
 | [],_=>rfl
 | a::R,h=>by
  have h1:=List.count_le_length (a:=true) (l:=R)
  cases a with
  | true =>
   simp only[List.count_cons_self,bKQ] at h
   simp only[List.all_cons,id,bJM]
   exact YU Om
  | false =>
   simp at h
   omega
theorem HD (l:cM) {s:Nat} (h:dD l (s+1)=dD l s):∀ d,dD l (s+d)=dD l s
 | 0=>rfl
 | d+1=>by
  show cZ l (dD l (s+d)) l.exit.length=_
  rw[HD l h d]
  exact h
theorem adG (l:cM):∀ r,(∃ s,s<r∧dD l (s+1)=dD l s)∨r≤(dD l r).count true
 | 0=>.inr (bJO _)
 | r+1=>by
  rcases adG l r with ⟨s,h1,h2⟩ | h
  ·exact .inl ⟨s,by omega,h2⟩
  ·by_cases e:dD l (r+1)=dD l r
   ·exact .inl ⟨r,by omega,e⟩
   ·have:=aCD (zM l (dD l r) l.exit.length) (fun h=>e h.symm)
    exact .inr (by show r+1≤(cZ l (dD l r) l.exit.length).count true; omega)
theorem bkW (l:cM):uD l=(dD l l.exit.length).all id:=by
 unfold uD
 rcases adG l l.exit.length with ⟨s,h1,h2⟩ | h
 ·obtain⟨d,hd⟩:∃ d,l.exit.length=s+d:=⟨l.exit.length-s,by omega⟩
  rw[show l.exit.length+1=s+(d+1) by omega,hd,HD l h2,HD l h2]
 ·have hf:(dD l l.exit.length).all id=true:=YU (by rw[nS]; exact h)
  have hm:Marks (dD l l.exit.length) (dD l (l.exit.length+1)):=zM l (dD l l.exit.length) l.exit.length
  rw[hf,bJW]
  intro x hx
  obtain⟨j,hj,rfl⟩:=bLL hx
  have hj2:j<(dD l l.exit.length).length:=by rw[hm.1]; exact hj
  have:=hm.2 j (by
   rw[bJN hj2]
   have:=bJW.1 hf _ (bJG hj2)
   simpa using this)
  rw[bJN hj] at this
  simpa using this
def zsS (s:Bool):Spec:=fun name vs=>match name,vs with
 | 47,_=>some ([],fun _=>aE (.agg (mkT 1 1).cells))
 | 53,_=>some ([],fun _=>aE (.bool s))
 | _,_=>none
theorem beX (l:cM):jW l=(within l.start.length 1 4&&((decide ((l.start.length:Int)=l.start.length)&&l.start.all cH)&&((decide ((l.exit.length:Int)=l.start.length)&&l.exit.all cH)&&(decide (l.bHD.length=l.start.length)&&((bJD l.bHD.length).all (pF l)&&(sB l&&uD l)))))):=by
 rw[aQE,decide_eq_true (rfl:(l.start.length:Int)=l.start.length),bJM]
 have:decide (l.exit.length=l.start.length)=decide ((l.exit.length:Int)=l.start.length):=decide_eq_decide.2 Om
 rw[this]
 cases within l.start.length 1 4<;>cases decide ((l.exit.length:Int)=l.start.length)<;>cases decide (l.bHD.length=l.start.length)<;>cases l.start.all cH<;>cases l.exit.all cH<;>simp[bMB]
theorem aFT (l:cM) {i:Nat} (h:i<l.bHD.length):pF l i=((decide (((l.bHD[i]).length:Int)=l.start.length)&&(l.bHD[i]).all cH)&&!((l.bHD[i]).map cA).getD i false):=by
 unfold pF
 have:l.bHD.getD i []=l.bHD[i]:=by simp[bJX,h]
 rw[this]
 have:decide ((l.bHD[i]).length=l.start.length)=decide (((l.bHD[i]).length:Int)=l.start.length):=decide_eq_decide.2 Om
 rw[this]
theorem bpL {C:Ctx} (L:nD C) (l:cM) (hl:l.Ok):QF.wp C (aT aKI.res (aE (.bool (jW l)))) (PF.args [.agg l.cells]) .nil:=by
 have hX:=beX l
 have fail:∀ (F:PF) (H:PH),jW l=false→F 2=some (.bool false)→aT [.tmp 2] (aE (.bool (jW l))) .ret F H:=fun F H e h=>by
  rw[e]
  exact aX (vs:=[.bool false]) (.inr rfl) .nil (by simp only[go_sem,h]) PH.nil_le ⟨rfl,rfl⟩
 have e1:=L.smalls l.start hl.start l.start.length
 have e2:=L.smalls l.exit hl.exit l.start.length
 simp only[go_sem,δ,γ,θ,QF,aWH,aWI,aKI,bJC,aWJ]
 by_cases c1:((l.start.length:Nat):Int)<1
 ·simp only[go_sem,γ,c1,vO]
  exact fail _ _ (by rw[hX,show within l.start.length 1 4=false from by unfold within; rw[decide_eq_false Om,bJI],bJI]) rfl
 by_cases c2:((l.start.length:Nat):Int)>4
 ·simp only[go_sem,γ,reduceCtorEq,c1,c2,vO]
  exact fail _ _ (by rw[hX,show within l.start.length 1 4=false from by unfold within; rw[decide_eq_false (Om:¬ ((l.start.length:Nat):Int)≤4),bKT],bJI]) rfl
 rw[show within l.start.length 1 4=true from by unfold within; rw[decide_eq_true (Om:(1:Int)≤(l.start.length:Nat)),decide_eq_true (Om:((l.start.length:Nat):Int)≤4)]; rfl,bJM] at hX
 simp only[go_sem,δ,γ,θ,reduceCtorEq,c1,c2]
 refine aA e1 rfl ?_
 cases k1:(decide ((l.start.length:Int)=l.start.length)&&l.start.all cH) with
 | false =>
  rw[k1,bJI] at hX
  simp only[go_sem,γ,reduceCtorEq,bJQ,vO]
  exact fail _ _ hX rfl
 | true =>
 rw[k1,bJM] at hX
 simp only[go_sem,γ,reduceCtorEq,bJK]
 refine aA e2 rfl ?_
 cases k2:(decide ((l.exit.length:Int)=l.start.length)&&l.exit.all cH) with
 | false =>
  rw[k2,bJI] at hX
  simp only[go_sem,γ,reduceCtorEq,bJQ,vO]
  exact fail _ _ hX rfl
 | true =>
 rw[k2,bJM] at hX
 rw[bJZ,decide_eq_true_eq] at k2
 have hxl:l.exit.length=l.start.length:=by omega
 have hxlim:=bJW.1 k2.2
 by_cases c3:l.bHD.length=l.start.length
 case neg =>
  rw[decide_eq_false c3,bJI] at hX
  simp only[go_sem,δ,γ,θ,reduceCtorEq,bJK,bJC,cS (Om:((l.bHD.length:Nat):Int)≠(l.start.length:Nat)),vO]
  exact fail _ _ hX rfl
 rw[decide_eq_true c3,bJM] at hX
 simp only[go_sem,δ,γ,θ,reduceCtorEq,bJK,bJC,cG (Om:((l.bHD.length:Nat):Int)=(l.start.length:Nat)),aWK]
 refine wp_loop (α:=Nat) (fun i=>(((PF.nil.set 1 (.bG l.cells)).set 3 (.int .i64 (l.start.length:Nat))).set 4 (.int .i64 i))) (fun _=>.nil) (fun i=>i≤l.start.length∧∀ j,j<i→pF l j=true) (fun i=>l.start.length-i) 0 ⟨bJO _,fun j h=>by omega⟩ Lq PH.nil_le ?_
 rintro i ⟨hi,bIP⟩
 simp only[go_sem,γ,aWG,aWL]
 by_cases hlt:i<l.start.length
 ·have bHF:(i:Int)<(l.start.length:Nat):=by omega
  have hir:i<l.bHD.length:=by omega
  have bHL:(l.bHD.map fun r=>[frs r])[i]?=some [frs l.bHD[i]]:=by simp[hir]
  have hro:=hl.row _ (bJG hir)
  have e3:=L.smalls l.bHD[i] hro l.start.length
  have hrp:=aFT l hir
  have bad:pF l i=false→jW l=false:=fun h=>by
   rw[hX,show (bJD l.bHD.length).all (pF l)=false from List.all_eq_false.2 ⟨i,bKE.2 hir,by simp[h]⟩,bJI]
  simp only[go_sem,δ,γ,θ,bHF,aWM,bHL]
  refine aA e3 rfl ?_
  cases k3:(decide (((l.bHD[i]).length:Int)=l.start.length)&&(l.bHD[i]).all cH) with
  | false =>
   rw[k3,bJI] at hrp
   simp only[go_sem,γ,bJQ,alJ]
   exact fail _ _ (bad hrp) rfl
  | true =>
   rw[k3,bJM] at hrp
   rw[bJZ,decide_eq_true_eq] at k3
   have hrl:(l.bHD[i]).length=l.start.length:=by omega
   have hik:i<(l.bHD[i]).length:=by omega
   have hm:=bJG hik
   have hs:=L.sign _ (hro.all _ hm) (nL (bJW.1 k3.2 _ hm))
   have hz:=HJ (l.bHD[i])[i]
   have hg:((l.bHD[i]).map cA).getD i false=cA (l.bHD[i])[i]:=by simp[bJX,hik]
   rw[hg] at hrp
   have hz2:(oW (l.bHD[i])[i] != 0)=cA (l.bHD[i])[i]:=by
    rw[bne,hz,Bool.not_not]
   simp only[go_sem,δ,γ,θ,bJK,bHL,aaS hik]
   refine aA hs rfl ?_
   cases k4:cA (l.bHD[i])[i] with
   | true =>
    rw[k4] at hrp hz2
    simp only[go_sem,γ,reduceCtorEq,hz2,alJ]
    exact fail _ _ (bad hrp) rfl
   | false =>
    rw[k4] at hrp hz2
    simp only[go_sem,γ,reduceCtorEq,hz2,aWN,wZz i]
    exact aK (i+1) ⟨hlt,fun j hj=>by
     by_cases e:j=i
     ·rw[e]; exact hrp
     ·exact bIP j Om⟩ Om Lq PH.le_refl
 ·have bHF:¬ (i:Int)<(l.start.length:Nat):=by omega
  have:i=l.start.length:=by omega
  subst this
  have hrows:(bJD l.bHD.length).all (pF l)=true:=bJW.2 fun j hj=>bIP j (by rw[← c3]; exact bKE.1 hj)
  rw[hrows,bJM] at hX
  have hrr:∀ r∈l.bHD,r.length=l.start.length∧∀ x∈r,cH x=true:=fun r hr=>by
   obtain⟨j,hj,rfl⟩:=bLL hr
   have h:=bIP j Om
   rw[aFT l hj,bJZ,bJZ,decide_eq_true_eq] at h
   exact⟨by omega,bJW.1 h.1.2⟩
  have hlim:avF l:=⟨hxlim,fun r hr=>(hrr r hr).2⟩
  have hend:xK l:=⟨by omega,by omega,fun r hr=>by rw[(hrr r hr).1,hxl]⟩
  have hsum:=L.sum l.start hl.start.all hl.start.fits
  simp only[go_sem,δ,γ,θ,bHF,aKJ]
  refine aA hsum rfl ?_
  cases hE:nB (l.start.map RF.v) with
  | error e =>
   have he0:=aGT hE
   have:sB l=false:=by unfold sB; rw[hE]
   rw[this,bJI] at hX
   simp only[go_sem,δ,γ,frV]
   refine aQ fun o ho=>?_
   simp only[go_sem,δ,γ]
   refine bU .nil eD PH.nil_le ?_
   simp only[go_sem,γ,XT,cS he0,XU]
   exact fail _ _ hX rfl
  | ok r =>
   have hrok:=aTN hE
   have hrv:=adW hE
   obtain⟨n,a,b⟩:=r
   have h1:cV 1:=by unfold cV; omega
   have hsame:=L.same (FV.rf (n,a,b)) (mkT 1 1) hrok (CG 1 h1).1 (by unfold RF.valid FV.rf; simp only[aR]; exact hrv) (CG 1 h1).2
   have hP:sB l=(mX (FV.rf (n,a,b)) (mkT 1 1)==0):=by
    unfold sB
    rw[hE,CH]
    unfold mX FV.rf
    simp only[aR,show (1:Int).natAbs=1 from rfl,show decide ((1:Int)<0)=false from rfl]
    by_cases h:pE n a b false 1 1=0<;>simp[h]
   simp only[go_sem,δ,γ,frV]
   refine aQ fun o ho=>?_
   have hH:aU (PH.nil.set o (.rows 3 [(FV.rf (n,a,b)).cells])) [(o,.rows 3 [(FV.rf (n,a,b)).cells])] []:=aU.nil.new (H:=PH.nil) rfl _
   simp only[go_sem,δ,γ]
   refine bU (PH.nil.set o (.rows 3 [(FV.rf (n,a,b)).cells])) (zsS (mX (FV.rf (n,a,b)) (mkT 1 1)==0)) PH.le_refl ?_
   simp only[go_sem,δ,γ,XT,cG (show (0:Int)=0 from rfl)]
   refine bQ rfl (L.int 1 h1) rfl PH.le_refl ?_
   simp only[go_sem,γ]
   refine bQ rfl hsame rfl PH.le_refl ?_
   rw[← hP]
   cases hp:sB l with
   | false =>
    rw[hp,bJI] at hX
    simp only[go_sem,γ,reduceCtorEq,bJQ,XU]
    exact fail _ _ hX rfl
   | true =>
    rw[hp,bJM,bkW] at hX
    have hb1:((l.start.length:Nat):Int)*((1:Nat):Int)≤140737488355328:=by omega
    have hb2:((l.start.length:Nat):Int)≤9223372036854775807:=by omega
    simp only[go_sem,γ,reduceCtorEq,bJK,aKK,hb1,hb2]
    refine aQ fun q hq=>?_
    simp only[go_sem,γ,aKL]
    have hz0:bJE l.start.length [PV.bool false]=fL (dD l 0):=by
     rw[← hxl]
     simp[dD,fL]
    rw[← hxl]
    refine bjG L l hl hend hlim q _ _ _ Lq ?_ ?_
    ·refine PH.aI PH.nil_le ?_
     rw[fI,hxl,hz0]
    simp only[go_sem,aKR]
    have hn4:(dD l l.exit.length).length≤4:=by rw[nS]; omega
    refine bsM (dD l l.exit.length) hn4 q (jW l) hX _ rfl _ _ ?_ PH.le_refl
    rw[nS]
    exact Lq
structure pK (C:Ctx):Prop extends nD C where
 law:∀ l:cM,l.Ok→aD C 68 [.agg l.cells] .nil (aE (.bool (jW l)))
def okL (base ns:List (List UInt8)) (P:Nat→Bool) (i:Nat):Bool:=gT (base++ns.take i) (ns.getD i [])&&P i
theorem oY {p:Nat→Bool} (k:Nat) (b:Bool):(b&&(bJD (k+1)).all p)=((b&&(bJD k).all p)&&p k):=by
 rw[List.range_succ,List.all_append]
 cases (bJD k).all p<;>cases b<;>simp
theorem oX {p:Nat→Bool} {b:Bool} {i n:Nat} (hi:i≤n) (h:(b&&(bJD i).all p)=false):(b&&(bJD n).all p)=false:=by
 cases b with
 | false=>rfl
 | true =>
  rw[bJM] at h ⊢
  obtain⟨x,hx,hp⟩:=List.all_eq_false.1 h
  exact List.all_eq_false.2 ⟨x,bKE.2 (by have:=bKE.1 hx; omega),hp⟩
structure fT (H:PH) (w:PV) (base ns:List (List UInt8)) (c:Bool) (i:Nat):Prop where
 ex:∃ names,aU H [] [(w,1,kL names)]∧(c=true→names=base++ns.take i)
section
variable {C:Ctx} {F:PF} {H:PH} {d:Option Nat} {K:PF→PH→Prop}
theorem fT.call (L:nD C) {w:PV} {base ns:List (List UInt8)} {i:Nat} {B:List BX} {names:List (List UInt8)} (h:aU H B [(w,1,kL names)]) (hl:base.length≤1000) (hi:i≤1000) (hn:names=base++ns.take i) (hin:i<ns.length) {a b:Nat} (bIR:aP.evs F [.tmp a,.tmp b]=some [w,.str ns[i]])
  (hk:∀ w' H',aU H' B [(w',1,kL (names++[ns[i]]))]→fT H' w' base ns true (i+1)→K (F.put d (.tup [w',.bool (gT (base++ns.take i) (ns.getD i []))])) H'):fP C 70 [.tmp a,.tmp b] [] d K F H:=by
 refine UG (B1:=[]) (B2:=B) (L1:=[(w,1,kL names)]) (L2:=[]) (Q:=YE names ns[i]) h (fun H0 h0=>L.fresh names (by rw[hn,bJL,bJU]; omega) ns[i] w H0 h0) bIR ?_
 rintro r B' L' H' ⟨w',rfl,rfl,rfl⟩ h'
 have hgd:ns.getD i []=ns[i]:=by simp[bJX,hin]
 rw[hgd,← hn] at hk
 refine hk w' H' h' ⟨names++[ns[i]],h'.sub (List.nil_sublist _) (bLJ.refl _),fun _=>?_⟩
 rw[bLC hin,← bKD,hn]
end
theorem fT.alH {H:PH} {w:PV} {base ns:List (List UInt8)} {c:Bool} {i:Nat} (h:fT H w base ns true i):fT H w base ns c i:=by
 obtain⟨names,h1,h3⟩:=h.ex
 exact⟨names,h1,fun _=>h3 rfl⟩
def FY (f:aJ):Bool:=(bJD f.bHH.length).all (okL [] (f.bHH.map cM.name) fun i=>(f.bHH.map jW).getD i false)
theorem bpQ {C:Ctx} (L:pK C) (f:aJ) (hf:f.Ok) (hs:f.bHH.length≤4) (K:cO) [Up K] (F:PF) (H:PH)
  (hF:(((((((((PF.nil.set 1 (.bG f.cells)).set 3 (.aB)).set 4 (.aB)).set 5 (.aB)).set 6 (.aB)).set 7 (.aB)).set 8 (.bool true)).set 9 (.int .i64 0)):PF).le F)
  (hK:∀ H',K (.exit 0) (((((((PF.nil.set 1 (.bG f.cells)).set 4 (.aB)).set 5 (.aB)).set 6 (.aB)).set 7 (.aB)).set 8 (.bool (FY f)))) H'):aC.wp C (.loop IY) K F H:=by
 obtain⟨ok,hok⟩:∃ ok,okL [] (f.bHH.map cM.name) (fun i=>(f.bHH.map jW).getD i false)=ok:=⟨_,rfl⟩
 unfold FY at hK
 rw[hok] at hK
 refine wp_loop (α:=Nat × PV × PH) (fun s=>((((((((PF.nil.set 1 (.bG f.cells)).set 3 (s.2.1)).set 4 (.aB)).set 5 (.aB)).set 6 (.aB)).set 7 (.aB)).set 8 (.bool (true&&(bJD s.1).all ok))).set 9 (.int .i64 s.1))) (fun s=>s.2.2) (fun s=>s.1≤f.bHH.length∧fT s.2.2 s.2.1 [] (f.bHH.map cM.name) (true&&(bJD s.1).all ok) s.1) (fun s=>f.bHH.length-s.1)
  (0,.aB,H) ⟨bJO _,⟨[],aU.nil.rR 1,fun _=>rfl⟩⟩ hF PH.le_refl ?_
 rintro⟨i,w,H0⟩ ⟨hi,hG⟩
 simp only at hi hG ⊢
 have fin:∀ (b:Bool) (w':PV) (F':PF) (H':PH),i<f.bHH.length→(true&&(bJD (i+1)).all ok)=b→fT H' w' [] (f.bHH.map cM.name) true (i+1) →
   (((((((((PF.nil.set 1 (.bG f.cells)).set 3 (w')).set 4 (.aB)).set 5 (.aB)).set 6 (.aB)).set 7 (.aB)).set 8 (.bool b)).set 9 (.int .i64 (i+1:Nat))):PF).le F' →
   eA (fun s:Nat × PV × PH=>((((((((PF.nil.set 1 (.bG f.cells)).set 3 (s.2.1)).set 4 (.aB)).set 5 (.aB)).set 6 (.aB)).set 7 (.aB)).set 8 (.bool (true&&(bJD s.1).all ok))).set 9 (.int .i64 s.1))) (fun s=>s.2.2) (fun s=>s.1≤f.bHH.length∧fT s.2.2 s.2.1 [] (f.bHH.map cM.name) (true&&(bJD s.1).all ok) s.1) (fun s=>f.bHH.length-s.1) (f.bHH.length-i) K .normal F' H' :=
  fun b w' F' H' hlt hb hG' hF'=>aK (i+1,w',H') ⟨hlt,hG'.alH⟩ (by simp only; omega) (by simp only; rw[hb]; exact hF') PH.le_refl
 have bHG:=oY (p:=ok) i true
 have stop:(true&&(bJD i).all ok)=(true&&(bJD f.bHH.length).all ok)→K (.exit 0) (((((((PF.nil.set 1 (.bG f.cells)).set 4 (.aB)).set 5 (.aB)).set 6 (.aB)).set 7 (.aB)).set 8 (.bool (true&&(bJD i).all ok)))) H0:=fun e=>by
  rw[e,bJM]; exact hK H0
 have hacc:=fun h=>oX (p:=ok) (b:=true) hi h
 generalize hc:(true&&(bJD i).all ok)=c at *
 simp only[go_sem,δ,γ,θ,IY,auC,bJC]
 by_cases hlt:i<f.bHH.length
 ·have bHF:(i:Int)<(f.bHH.length:Nat):=by omega
  cases c with
  | false =>
   simp only[go_sem,γ,bHF]
   exact Up.up Lq (stop (hacc rfl).symm)
  | true =>
   obtain⟨names,g1,g3⟩:=hG.ex
   have hat:(f.bHH.map cM.cells)[i]?=some (f.bHH[i]).cells:=by simp[hlt]
   have hin:i<(f.bHH.map cM.name).length:=by rw[bJC]; exact hlt
   have hoki:ok i=(gT ([]++(f.bHH.map cM.name).take i) ((f.bHH.map cM.name).getD i [])&&jW f.bHH[i]):=by
    rw[← hok]
    unfold okL
    simp[bJX,hlt]
   have hl:=L.law _ (hf.law _ (bJG hlt))
   rw[hoki] at bHG
   simp only[go_sem,δ,γ,θ,bHF,auD,hat]
   refine fT.call L.tonD (ns:=f.bHH.map cM.name) g1 (bJO _) Om (g3 rfl) hin (by simp only[go_sem,γ,bLK]) fun w' H1 h1 hG1=>?_
   generalize gT ([]++(f.bHH.map cM.name).take i) ((f.bHH.map cM.name).getD i [])=fb at *
   cases fb with
   | false =>
    simp only[go_sem,γ,reduceCtorEq,QK,QL,wZz i]
    exact fin false w' _ _ hlt (bHG.trans rfl) hG1 Lq
   | true =>
    simp only[go_sem,δ,γ,θ,QK,hat]
    refine aA hl rfl ?_
    simp only[go_sem,γ,QL,wZz i]
    exact fin _ w' _ _ hlt (bHG.trans rfl) hG1 Lq
 ·have bHF:¬ (i:Int)<(f.bHH.length:Nat):=by omega
  have:i=f.bHH.length:=by omega
  subst this
  simp only[go_sem,γ,reduceCtorEq,bHF]
  exact Up.up Lq (stop hc.symm)
theorem OG {a b c d e f:Nat} (h:mZ a b c d e f=true):a≤4∧b≤4∧c≤40∧d≤24∧e≤4∧f≤12:=by
 simp only[mZ,bJZ,decide_eq_true_eq] at h
 omega
theorem agT {n:Nat} (h:n≤1000):IntKind.i64.wrap ((n:Int)-1)=(n:Int)-1:=wrap_i64 Om Om
def inS:Spec:=fun name vs=>match name,vs with
 | 76,[.int _ n,.int _ lo,.int _ hi]=>some ([],fun _=>aE (.bool (within n lo hi)))
 | _,_=>none
def ajS (bHH:Nat) (m:cU):Bool:=within m.bHS 1 16&&(within m.port 1 64&&within m.law 0 ((bHH:Int)-1))
def aJM (pols:Nat) (v:dY):Bool:=within v.bHM 0 ((pols:Int)-1)
def vK (f:aJ):Bool:=(bJD f.bGZ.length).all (okL [] (f.bGZ.map cU.name) fun i=>(f.bGZ.map (ajS f.bHH.length)).getD i false)
theorem bcO {C:Ctx} (L:pK C) (f:aJ) (hf:f.Ok) (hz:mZ f.bHH.length f.bGZ.length f.bHB.length f.bGY.length f.bHC.length f.bHA.length=true) (b:Bool) (K:cO) [Up K] (F:PF) (H:PH)
  (hF:((((((((PF.nil.set 1 (.bG f.cells)).set 4 (.aB)).set 5 (.aB)).set 6 (.aB)).set 7 (.aB)).set 8 (.bool b)).set 10 (.int .i64 0)):PF).le F)
  (hK:∀ H',K (.exit 2) ((((((PF.nil.set 1 (.bG f.cells)).set 5 (.aB)).set 6 (.aB)).set 7 (.aB)).set 8 (.bool (b&&vK f)))) H'):aC.wp C (.loop IZ) K F H:=by
 obtain⟨hz1,hz2,hz3,hz4,hz5,hz6⟩:=OG hz
 obtain⟨ok,hok⟩:∃ ok,okL [] (f.bGZ.map cU.name) (fun i=>(f.bGZ.map (ajS f.bHH.length)).getD i false)=ok:=⟨_,rfl⟩
 unfold vK at hK
 rw[hok] at hK
 refine wp_loop (α:=Nat × PV × PH) (fun s=>(((((((PF.nil.set 1 (.bG f.cells)).set 4 (s.2.1)).set 5 (.aB)).set 6 (.aB)).set 7 (.aB)).set 8 (.bool (b&&(bJD s.1).all ok))).set 10 (.int .i64 s.1))) (fun s=>s.2.2) (fun s=>s.1≤f.bGZ.length∧fT s.2.2 s.2.1 [] (f.bGZ.map cU.name) (b&&(bJD s.1).all ok) s.1) (fun s=>f.bGZ.length-s.1)
  (0,.aB,H) ⟨bJO _,⟨[],aU.nil.rR 1,fun _=>rfl⟩⟩ (by
   have e:(b&&(bJD 0).all ok)=b:=by cases b<;>rfl
   simp only[e]
   exact hF) PH.le_refl ?_
 rintro⟨i,w,H0⟩ ⟨hi,hG⟩
 simp only at hi hG ⊢
 have fin:∀ (c:Bool) (w':PV) (F':PF) (H':PH),i<f.bGZ.length→(b&&(bJD (i+1)).all ok)=c→fT H' w' [] (f.bGZ.map cU.name) true (i+1) →
   ((((((((PF.nil.set 1 (.bG f.cells)).set 4 (w')).set 5 (.aB)).set 6 (.aB)).set 7 (.aB)).set 8 (.bool c)).set 10 (.int .i64 (i+1:Nat))):PF).le F' →
   eA (fun s:Nat × PV × PH=>(((((((PF.nil.set 1 (.bG f.cells)).set 4 (s.2.1)).set 5 (.aB)).set 6 (.aB)).set 7 (.aB)).set 8 (.bool (b&&(bJD s.1).all ok))).set 10 (.int .i64 s.1))) (fun s=>s.2.2) (fun s=>s.1≤f.bGZ.length∧fT s.2.2 s.2.1 [] (f.bGZ.map cU.name) (b&&(bJD s.1).all ok) s.1) (fun s=>f.bGZ.length-s.1) (f.bGZ.length-i) K .normal F' H' :=
  fun c w' F' H' hlt hb hG' hF'=>aK (i+1,w',H') ⟨hlt,hG'.alH⟩ (by simp only; omega) (by simp only; rw[hb]; exact hF') PH.le_refl
 have bHG:=oY (p:=ok) i b
 have stop:(b&&(bJD i).all ok)=(b&&(bJD f.bGZ.length).all ok)→K (.exit 2) ((((((PF.nil.set 1 (.bG f.cells)).set 5 (.aB)).set 6 (.aB)).set 7 (.aB)).set 8 (.bool (b&&(bJD i).all ok)))) H0:=fun e=>by
  rw[e]; exact hK H0
 have hacc:=fun h=>oX (p:=ok) (b:=b) hi h
 generalize hc:(b&&(bJD i).all ok)=c at *
 simp only[go_sem,δ,γ,θ,IZ,ahR,bJC]
 by_cases hlt:i<f.bGZ.length
 ·have bHF:(i:Int)<(f.bGZ.length:Nat):=by omega
  cases c with
  | false =>
   simp only[go_sem,γ,bHF]
   exact Up.up Lq (stop (hacc rfl).symm)
  | true =>
   obtain⟨names,g1,g3⟩:=hG.ex
   have hat:(f.bGZ.map cU.cells)[i]?=some (f.bGZ[i]).cells:=by simp[hlt]
   have hin:i<(f.bGZ.map cU.name).length:=by rw[bJC]; exact hlt
   have hoki:ok i=(gT ([]++(f.bGZ.map cU.name).take i) ((f.bGZ.map cU.name).getD i [])&&(ajS f.bHH.length) f.bGZ[i]):=by
    rw[← hok]
    unfold okL
    simp[bJX,hlt]
   rw[hoki] at bHG
   have bIL:ajS f.bHH.length f.bGZ[i]=(within (f.bGZ[i]).bHS 1 16&&(within (f.bGZ[i]).port 1 64&&within (f.bGZ[i]).law 0 ((f.bHH.length:Int)-1))):=rfl
   rw[bIL] at bHG
   simp only[go_sem,δ,γ,θ,bHF,ahS,hat]
   refine aQ fun o ho=>?_
   have g4:=g1.new ho (.rows 4 [(f.bGZ[i]).cells])
   have g5:=g4.at 0 rfl
   simp only[go_sem,δ,γ]
   generalize H0.set o (.rows 4 [(f.bGZ[i]).cells])=H2 at *
   simp only[go_sem,δ,γ,θ,ahT,g5]
   refine fT.call L.tonD (ns:=(f.bGZ.map cU.name)) g4 (bJO _) Om (g3 rfl) hin (by simp only[go_sem,γ,bLK]) fun w' H1 h1 hG1=>?_
   have g6:=h1.at 0 rfl
   generalize gT ([]++(f.bGZ.map cU.name).take i) ((f.bGZ.map cU.name).getD i [])=fb at *
   cases fb with
   | false =>
    simp only[go_sem,γ,reduceCtorEq,JB,rE,wZz i]
    exact fin false w' _ _ hlt (bHG.trans rfl) hG1 Lq
   | true =>
    simp only[go_sem,δ,γ,θ,JB,g6]
    refine aA (L.inn (f.bGZ[i]).bHS 1 16) rfl ?_
    cases k0:within (f.bGZ[i]).bHS 1 16 with
    | false =>
     simp only[go_sem,γ,reduceCtorEq,rE,wZz i]
     exact fin false w' _ _ hlt (by rw[bHG,k0]<;>simp) hG1 Lq
    | true =>
     simp only[go_sem,δ,γ,θ,g6]
     refine aA (L.inn (f.bGZ[i]).port 1 64) rfl ?_
     cases k1:within (f.bGZ[i]).port 1 64 with
     | false =>
      simp only[go_sem,γ,reduceCtorEq,rE,wZz i]
      exact fin false w' _ _ hlt (by rw[bHG,k0,k1]<;>simp) hG1 Lq
     | true =>
      simp only[go_sem,δ,γ,θ,g6,bJC,agT (Om:f.bHH.length≤1000)]
      refine aA (L.inn (f.bGZ[i]).law 0 ((f.bHH.length:Int)-1)) rfl ?_
      simp only[go_sem,γ,rE,wZz i]
      exact fin _ w' _ _ hlt (by rw[bHG,k0,k1]<;>simp) hG1 Lq
 ·have bHF:¬ (i:Int)<(f.bGZ.length:Nat):=by omega
  have:i=f.bGZ.length:=by omega
  subst this
  simp only[go_sem,γ,reduceCtorEq,bHF]
  exact Up.up Lq (stop hc.symm)
def avB (f:aJ):Bool:=(bJD f.bHA.length).all (okL [] (f.bHA.map dY.name) fun i=>(f.bHA.map (aJM f.bHC.length)).getD i false)
theorem bpS {C:Ctx} (L:pK C) (f:aJ) (hf:f.Ok) (hz:mZ f.bHH.length f.bGZ.length f.bHB.length f.bGY.length f.bHC.length f.bHA.length=true) (b:Bool) (K:cO) [Up K] (F:PF) (H:PH)
  (hF:(((((PF.nil.set 1 (.bG f.cells)).set 7 (.aB)).set 8 (.bool b)).set 21 (.int .i64 0)):PF).le F)
  (hK:∀ H',K (.exit 14) (((PF.nil.set 1 (.bG f.cells)).set 8 (.bool (b&&avB f)))) H'):aC.wp C (.loop uX) K F H:=by
 obtain⟨hz1,hz2,hz3,hz4,hz5,hz6⟩:=OG hz
 obtain⟨ok,hok⟩:∃ ok,okL [] (f.bHA.map dY.name) (fun i=>(f.bHA.map (aJM f.bHC.length)).getD i false)=ok:=⟨_,rfl⟩
 unfold avB at hK
 rw[hok] at hK
 refine wp_loop (α:=Nat × PV × PH) (fun s=>((((PF.nil.set 1 (.bG f.cells)).set 7 (s.2.1)).set 8 (.bool (b&&(bJD s.1).all ok))).set 21 (.int .i64 s.1))) (fun s=>s.2.2) (fun s=>s.1≤f.bHA.length∧fT s.2.2 s.2.1 [] (f.bHA.map dY.name) (b&&(bJD s.1).all ok) s.1) (fun s=>f.bHA.length-s.1)
  (0,.aB,H) ⟨bJO _,⟨[],aU.nil.rR 1,fun _=>rfl⟩⟩ (by
   have e:(b&&(bJD 0).all ok)=b:=by cases b<;>rfl
   simp only[e]
   exact hF) PH.le_refl ?_
 rintro⟨i,w,H0⟩ ⟨hi,hG⟩
 simp only at hi hG ⊢
 have fin:∀ (c:Bool) (w':PV) (F':PF) (H':PH),i<f.bHA.length→(b&&(bJD (i+1)).all ok)=c→fT H' w' [] (f.bHA.map dY.name) true (i+1) →
   (((((PF.nil.set 1 (.bG f.cells)).set 7 (w')).set 8 (.bool c)).set 21 (.int .i64 (i+1:Nat))):PF).le F' →
   eA (fun s:Nat × PV × PH=>((((PF.nil.set 1 (.bG f.cells)).set 7 (s.2.1)).set 8 (.bool (b&&(bJD s.1).all ok))).set 21 (.int .i64 s.1))) (fun s=>s.2.2) (fun s=>s.1≤f.bHA.length∧fT s.2.2 s.2.1 [] (f.bHA.map dY.name) (b&&(bJD s.1).all ok) s.1) (fun s=>f.bHA.length-s.1) (f.bHA.length-i) K .normal F' H' :=
  fun c w' F' H' hlt hb hG' hF'=>aK (i+1,w',H') ⟨hlt,hG'.alH⟩ (by simp only; omega) (by simp only; rw[hb]; exact hF') PH.le_refl
 have bHG:=oY (p:=ok) i b
 have stop:(b&&(bJD i).all ok)=(b&&(bJD f.bHA.length).all ok)→K (.exit 14) (((PF.nil.set 1 (.bG f.cells)).set 8 (.bool (b&&(bJD i).all ok)))) H0:=fun e=>by
  rw[e]; exact hK H0
 have hacc:=fun h=>oX (p:=ok) (b:=b) hi h
 generalize hc:(b&&(bJD i).all ok)=c at *
 simp only[go_sem,γ,uX,aiJ,bJC]
 by_cases hlt:i<f.bHA.length
 ·have bHF:(i:Int)<(f.bHA.length:Nat):=by omega
  cases c with
  | false =>
   simp only[go_sem,γ,bHF]
   exact Up.up Lq (stop (hacc rfl).symm)
  | true =>
   obtain⟨names,g1,g3⟩:=hG.ex
   have hat:(f.bHA.map dY.cells)[i]?=some (f.bHA[i]).cells:=by simp[hlt]
   have hin:i<(f.bHA.map dY.name).length:=by rw[bJC]; exact hlt
   have hoki:ok i=(gT ([]++(f.bHA.map dY.name).take i) ((f.bHA.map dY.name).getD i [])&&(aJM f.bHC.length) f.bHA[i]):=by
    rw[← hok]
    unfold okL
    simp[bJX,hlt]
   rw[hoki] at bHG
   have bIL:aJM f.bHC.length f.bHA[i]=within (f.bHA[i]).bHM 0 ((f.bHC.length:Int)-1):=rfl
   rw[bIL] at bHG
   simp only[go_sem,δ,γ,θ,bHF,aiK,hat]
   refine fT.call L.tonD (ns:=(f.bHA.map dY.name)) g1 (bJO _) Om (g3 rfl) hin (by simp only[go_sem,γ,bLK]) fun w' H1 h1 hG1=>?_
   generalize gT ([]++(f.bHA.map dY.name).take i) ((f.bHA.map dY.name).getD i [])=fb at *
   cases fb with
   | false =>
    simp only[go_sem,γ]
    refine bU .nil (inS) PH.nil_le ?_
    simp only[go_sem,γ,reduceCtorEq,JN,JO,wZz i]
    exact fin false w' _ _ hlt (bHG.trans rfl) hG1 Lq
   | true =>
    simp only[go_sem,γ]
    refine bU .nil (inS) PH.nil_le ?_
    simp only[go_sem,δ,γ,θ,JN,hat,bJC,agT (Om:f.bHC.length≤1000)]
    refine bQ rfl (L.inn (f.bHA[i]).bHM 0 ((f.bHC.length:Int)-1)) rfl PH.nil_le ?_
    simp only[go_sem,γ,JO,wZz i]
    exact fin _ w' _ _ hlt (bHG.trans rfl) hG1 Lq
 ·have bHF:¬ (i:Int)<(f.bHA.length:Nat):=by omega
  have:i=f.bHA.length:=by omega
  subst this
  simp only[go_sem,γ,reduceCtorEq,bHF]
  exact Up.up Lq (stop hc.symm)
def aZB:Spec:=fun name vs=>match name,vs with
 | 76,[.int _ n,.int _ lo,.int _ hi]=>some ([],fun _=>aE (.bool (within n lo hi)))
 | 74,[.agg cs]=>some ([],fun _=>aE (.bool (cH (frD cs))))
 | _,_=>none
theorem aZC (x:RF):aZB 74 [.agg x.cells]=some ([],fun _=>aE (.bool (cH x))):=by
 show some ([],fun _=>aE (.bool (cH (frD x.cells))))=_
 rw[amY]
def axI (f:aJ) (i:Nat) (d:bN):Bool :=
 within d.level 1 4&&(within d.parent 0 i&&(((f.bHB.map bN.level).getD d.parent.toNat 0==IntKind.i64.wrap (d.level-1))&&(within d.bHY 1 64&&cH d.bHQ)))
theorem bkU (f:aJ) (i:Nat) (d:bN):ER f i d=axI f i d:=by
 unfold ER axI
 have:decide ((f.bHB.map bN.level).getD d.parent.toNat 0=IntKind.i64.wrap (d.level-1))=((f.bHB.map bN.level).getD d.parent.toNat 0==IntKind.i64.wrap (d.level-1)):=by
  generalize (f.bHB.map bN.level).getD d.parent.toNat 0=u
  by_cases h:u=IntKind.i64.wrap (d.level-1)<;>simp[h]
 rw[this]
 cases within d.parent 0 i<;>cases within d.level 1 4<;>cases within d.bHY 1 64<;>simp
def fQ (f:aJ):List (List UInt8):=(f.bHB.drop 1).map bN.name
def tZ (f:aJ) (i:Nat):Bool:=match f.bHB[i+1]? with
 | some d=>axI f i d
 | none=>false
def uB (f:aJ):Bool:=(bJD (f.bHB.length-1)).all (okL [] (fQ f) (tZ f))
theorem axH (f:aJ):(fQ f).length=f.bHB.length-1:=by simp[fQ]
theorem bpP {C:Ctx} (L:pK C) (f:aJ) (hf:f.Ok) (hz3:f.bHB.length≤40) (h0:0<f.bHB.length) (b:Bool) (K:cO) [Up K] (F:PF) (H:PH)
  (hF:(((((((PF.nil.set 1 (.bG f.cells)).set 5 (.aB)).set 6 (.aB)).set 7 (.aB)).set 8 (.bool b)).set 13 (.int .i64 1)):PF).le F)
  (hK:∀ w H',fT H' w [] (fQ f) (b&&uB f) (f.bHB.length-1)→K (.exit 4) ((((((PF.nil.set 1 (.bG f.cells)).set 5 (w)).set 6 (.aB)).set 7 (.aB)).set 8 (.bool (b&&uB f)))) H'):aC.wp C (.loop uT) K F H:=by
 obtain⟨ok,hok⟩:∃ ok,okL [] (fQ f) (tZ f)=ok:=⟨_,rfl⟩
 unfold uB at hK
 rw[hok] at hK
 obtain⟨n,hn⟩:∃ n,f.bHB.length=n+1:=⟨f.bHB.length-1,by omega⟩
 have hnl:=axH f
 have hn1:f.bHB.length-1=n:=by omega
 rw[hn1] at hK hnl
 refine wp_loop (α:=Nat × PV × PH) (fun s=>((((((PF.nil.set 1 (.bG f.cells)).set 5 (s.2.1)).set 6 (.aB)).set 7 (.aB)).set 8 (.bool (b&&(bJD s.1).all ok))).set 13 (.int .i64 (s.1+1:Nat)))) (fun s=>s.2.2) (fun s=>s.1≤n∧fT s.2.2 s.2.1 [] (fQ f) (b&&(bJD s.1).all ok) s.1) (fun s=>n-s.1)
  (0,.aB,H) ⟨bJO _,⟨[],aU.nil.rR 1,fun _=>rfl⟩⟩ (by
   have e:(b&&(bJD 0).all ok)=b:=by cases b<;>rfl
   simp only[e]
   exact hF) PH.le_refl ?_
 rintro⟨i,w,H0⟩ ⟨hi,hG⟩
 simp only at hi hG ⊢
 have fin:∀ (c:Bool) (w':PV) (F':PF) (H':PH),i<n→(b&&(bJD (i+1)).all ok)=c→fT H' w' [] (fQ f) true (i+1) →
   (((((((PF.nil.set 1 (.bG f.cells)).set 5 (w')).set 6 (.aB)).set 7 (.aB)).set 8 (.bool c)).set 13 (.int .i64 (i+1+1:Nat))):PF).le F' →
   eA (fun s:Nat × PV × PH=>((((((PF.nil.set 1 (.bG f.cells)).set 5 (s.2.1)).set 6 (.aB)).set 7 (.aB)).set 8 (.bool (b&&(bJD s.1).all ok))).set 13 (.int .i64 (s.1+1:Nat)))) (fun s=>s.2.2) (fun s=>s.1≤n∧fT s.2.2 s.2.1 [] (fQ f) (b&&(bJD s.1).all ok) s.1) (fun s=>n-s.1) (n-i) K .normal F' H' :=
  fun c w' F' H' hlt hb hG' hF'=>aK (i+1,w',H') ⟨hlt,hG'.alH⟩ (by simp only; omega) (by simp only; rw[hb]; exact hF') PH.le_refl
 have bHG:=oY (p:=ok) i b
 have hacc:=fun h=>oX (p:=ok) (b:=b) hi h
 have stop:(b&&(bJD i).all ok)=(b&&(bJD n).all ok)→((b&&(bJD i).all ok)=true→i=n)→K (.exit 4) ((((((PF.nil.set 1 (.bG f.cells)).set 5 (w)).set 6 (.aB)).set 7 (.aB)).set 8 (.bool (b&&(bJD i).all ok)))) H0:=fun e e2=>by
  obtain⟨names,g1,g3⟩:=hG.ex
  have:=hK w H0 ⟨names,g1,fun h=>by
   have h':=e.trans h
   rw[g3 h',e2 h']⟩
  rwa [← e] at this
 generalize hc:(b&&(bJD i).all ok)=c at *
 simp only[go_sem,δ,γ,θ,uT,ahV,bJC]
 by_cases hlt:i<n
 ·have bHF:((i+1:Nat):Int)<(f.bHB.length:Nat):=by omega
  cases c with
  | false =>
   simp only[go_sem,γ,bHF]
   exact Up.up Lq (stop (hacc rfl).symm (fun h=>by cases h))
  | true =>
   obtain⟨names,g1,g3⟩:=hG.ex
   have hid:i+1<f.bHB.length:=by omega
   have hat:=uA hid
   have hin:i<(fQ f).length:=by omega
   have hnm:(fQ f)[i]=(f.bHB[i+1]).name:=by simp[fQ,Nat.add_comm]
   have hoki:ok i=(gT ([]++(fQ f).take i) ((fQ f).getD i [])&&axI f i f.bHB[i+1]):=by
    rw[← hok]
    unfold okL tZ
    rw[bJN hid]
   have hdo:=hf.dom _ (bJG hid)
   rw[hoki] at bHG
   unfold axI at bHG
   have e1:IntKind.i64.wrap (((i+1:Nat):Int)-1)=(i:Nat):=by rw[wrap_i64 Om Om]; omega
   have winc:IntKind.i64.wrap (((i+1:Nat):Int)+1)=((i+1+1:Nat):Int):=dE Om
   have hsm:=L.small _ hdo.1
   simp only[go_sem,δ,γ,θ,bHF,ahW,hat]
   refine aQ fun o ho=>?_
   have g4:=g1.new ho (.rows 7 [(f.bHB[i+1]).cells])
   have g5:=g4.at 0 rfl
   simp only[go_sem,δ,γ]
   generalize H0.set o (.rows 7 [(f.bHB[i+1]).cells])=H2 at *
   simp only[go_sem,δ,γ,θ,ahX,g5]
   refine fT.call L.tonD (ns:=fQ f) g4 (bJO _) Om (g3 rfl) hin (by simp only[go_sem,γ,hnm]) fun w' H1 h1 hG1=>?_
   have g6:=h1.at 0 rfl
   generalize gT ([]++(fQ f).take i) ((fQ f).getD i [])=fb at *
   generalize hd:f.bHB[i+1]=dd at *
   cases fb with
   | false =>
    simp only[go_sem,γ]
    refine bU .nil aZB PH.nil_le ?_
    simp only[go_sem,γ,reduceCtorEq,JE,lT,winc]
    exact fin false w' _ _ hlt (bHG.trans rfl) hG1 Lq
   | true =>
    simp only[go_sem,γ]
    refine bU .nil aZB PH.nil_le ?_
    simp only[go_sem,δ,γ,θ,reduceCtorEq,JE,g6]
    refine bQ rfl (L.inn dd.level 1 4) rfl PH.nil_le ?_
    cases k0:within dd.level 1 4 with
    | false =>
     simp only[go_sem,γ,reduceCtorEq,lT,winc]
     exact fin false w' _ _ hlt (by rw[bHG,k0]<;>simp) hG1 Lq
    | true =>
     simp only[go_sem,δ,γ,θ,reduceCtorEq,g6,e1]
     refine bQ rfl (L.inn dd.parent 0 (i:Nat)) rfl PH.nil_le ?_
     cases k1:within dd.parent 0 (i:Nat) with
     | false =>
      simp only[go_sem,γ,reduceCtorEq,lT,winc]
      exact fin false w' _ _ hlt (by rw[bHG,k0,k1]<;>simp) hG1 Lq
     | true =>
      obtain⟨p0,p1⟩:=within_iff.1 k1
      obtain⟨p,hp⟩:∃ p:Nat,dd.parent=p:=⟨dd.parent.toNat,by omega⟩
      have hpd:p<f.bHB.length:=by omega
      obtain⟨lv,hlv⟩:∃ lv,(f.bHB.map bN.level).getD dd.parent.toNat 0=lv:=⟨_,rfl⟩
      have hpl:(f.bHB[p]).level=lv:=by rw[← hlv,hp,bMF,nI hpd]
      rw[hlv] at bHG
      have hpat:=uA hpd
      simp only[go_sem,δ,γ,θ,reduceCtorEq,g6,hp,hpat,hpl]
      cases k2:lv==IntKind.i64.wrap (dd.level-1) with
      | false =>
       simp only[go_sem,γ,reduceCtorEq,lT,winc]
       exact fin false w' _ _ hlt (by rw[bHG,k0,k1,k2]<;>simp) hG1 Lq
      | true =>
       simp only[go_sem,δ,γ,θ,reduceCtorEq,g6]
       refine bQ rfl (L.inn dd.bHY 1 64) rfl PH.nil_le ?_
       cases k3:within dd.bHY 1 64 with
       | false =>
        simp only[go_sem,γ,reduceCtorEq,lT,winc]
        exact fin false w' _ _ hlt (by rw[bHG,k0,k1,k2,k3]<;>simp) hG1 Lq
       | true =>
        simp only[go_sem,δ,γ,reduceCtorEq,g6]
        refine bQ (aZC _) hsm rfl PH.nil_le ?_
        simp only[go_sem,γ,lT,winc]
        exact fin _ w' _ _ hlt (by rw[bHG,k0,k1,k2,k3]<;>simp) hG1 Lq
 ·have bHF:¬ ((i+1:Nat):Int)<(f.bHB.length:Nat):=by omega
  have:i=n:=by omega
  subst this
  simp only[go_sem,γ,reduceCtorEq,bHF]
  exact Up.up Lq (stop hc.symm (fun _=>rfl))
def axK (f:aJ) (d:cC):Bool:=within d.model 0 ((f.bGZ.length:Int)-1)&&(within d.machine 0 ((f.bHB.length:Int)-1)&&((f.bHB.map bN.level).getD d.machine.toNat 0==4))
def kA (f:aJ):List (List UInt8):=f.bGY.map cC.name
def sD (f:aJ) (i:Nat):Bool:=match f.bGY[i]? with
 | some d=>axK f d
 | none=>false
def uZ (f:aJ):Bool:=(bJD f.bGY.length).all (okL (fQ f) (kA f) (sD f))
theorem bcN {C:Ctx} (L:pK C) (f:aJ) (hf:f.Ok) (hz3:f.bHB.length≤40) (h0:0<f.bHB.length) (hz4:f.bGY.length≤24) (hz2:f.bGZ.length≤4) (b:Bool) (w0:PV) (K:cO) [Up K] (F:PF) (H:PH)
  (hG0:fT H w0 [] (fQ f) b (f.bHB.length-1)) (hF:(((((((PF.nil.set 1 (.bG f.cells)).set 5 (w0)).set 6 (.aB)).set 7 (.aB)).set 8 (.bool b)).set 15 (.int .i64 0)):PF).le F)
  (hK:∀ H',K (.exit 6) (((((PF.nil.set 1 (.bG f.cells)).set 6 (.aB)).set 7 (.aB)).set 8 (.bool (b&&uZ f)))) H'):aC.wp C (.loop uU) K F H:=by
 obtain⟨ok,hok⟩:∃ ok,okL (fQ f) (kA f) (sD f)=ok:=⟨_,rfl⟩
 unfold uZ at hK
 rw[hok] at hK
 obtain⟨n,hn⟩:∃ n,f.bGY.length=n:=⟨_,rfl⟩
 have hdl:=axH f
 have hnl:(kA f).length=n:=by simp[kA,hn]
 rw[hn] at hK
 refine wp_loop (α:=Nat × PV × PH) (fun s=>((((((PF.nil.set 1 (.bG f.cells)).set 5 (s.2.1)).set 6 (.aB)).set 7 (.aB)).set 8 (.bool (b&&(bJD s.1).all ok))).set 15 (.int .i64 s.1))) (fun s=>s.2.2) (fun s=>s.1≤n∧fT s.2.2 s.2.1 (fQ f) (kA f) (b&&(bJD s.1).all ok) s.1) (fun s=>n-s.1)
  (0,w0,H) ⟨bJO _,by
   obtain⟨names,q1,q2⟩:=hG0.ex
   have e:(b&&(bJD 0).all ok)=b:=by cases b<;>rfl
   refine⟨names,q1,fun h=>?_⟩
   simp only[e] at h
   rw[q2 h,bMC,bJS Om]
   simp⟩ (by
   have e:(b&&(bJD 0).all ok)=b:=by cases b<;>rfl
   simp only[e]
   exact hF) PH.le_refl ?_
 rintro⟨i,w,H0⟩ ⟨hi,hG⟩
 simp only at hi hG ⊢
 have fin:∀ (c:Bool) (w':PV) (F':PF) (H':PH),i<n→(b&&(bJD (i+1)).all ok)=c→fT H' w' (fQ f) (kA f) true (i+1) →
   (((((((PF.nil.set 1 (.bG f.cells)).set 5 (w')).set 6 (.aB)).set 7 (.aB)).set 8 (.bool c)).set 15 (.int .i64 (i+1:Nat))):PF).le F' →
   eA (fun s:Nat × PV × PH=>((((((PF.nil.set 1 (.bG f.cells)).set 5 (s.2.1)).set 6 (.aB)).set 7 (.aB)).set 8 (.bool (b&&(bJD s.1).all ok))).set 15 (.int .i64 s.1))) (fun s=>s.2.2) (fun s=>s.1≤n∧fT s.2.2 s.2.1 (fQ f) (kA f) (b&&(bJD s.1).all ok) s.1) (fun s=>n-s.1) (n-i) K .normal F' H' :=
  fun c w' F' H' hlt hb hG' hF'=>aK (i+1,w',H') ⟨hlt,hG'.alH⟩ (by simp only; omega) (by simp only; rw[hb]; exact hF') PH.le_refl
 have bHG:=oY (p:=ok) i b
 have hacc:=fun h=>oX (p:=ok) (b:=b) hi h
 have stop:(b&&(bJD i).all ok)=(b&&(bJD n).all ok)→K (.exit 6) (((((PF.nil.set 1 (.bG f.cells)).set 6 (.aB)).set 7 (.aB)).set 8 (.bool (b&&(bJD i).all ok)))) H0:=fun e=>by
  rw[e]; exact hK H0
 generalize hc:(b&&(bJD i).all ok)=c at *
 simp only[go_sem,δ,γ,θ,uU,ahY,bJC]
 by_cases hlt:i<n
 ·have bHF:((i:Nat):Int)<(f.bGY.length:Nat):=by omega
  cases c with
  | false =>
   simp only[go_sem,γ,bHF]
   exact Up.up Lq (stop (hacc rfl).symm)
  | true =>
   obtain⟨names,g1,g3⟩:=hG.ex
   have hid:i<f.bGY.length:=by omega
   have hat:=amI hid
   have hin:i<(kA f).length:=by omega
   have hnm:(kA f)[i]=(f.bGY[i]).name:=by simp[kA]
   have hoki:ok i=(gT (fQ f++(kA f).take i) ((kA f).getD i [])&&axK f f.bGY[i]):=by
    rw[← hok]
    unfold okL sD
    rw[bJN hid]
   rw[hoki] at bHG
   unfold axK at bHG
   have winc:IntKind.i64.wrap ((i:Int)+1)=((i+1:Nat):Int):=dE Om
   have e1:=agT (Om:f.bGZ.length≤1000)
   have e2:=agT (Om:f.bHB.length≤1000)
   simp only[go_sem,δ,γ,θ,bHF,ahZ,hat]
   refine aQ fun o ho=>?_
   have g4:=g1.new ho (.rows 3 [(f.bGY[i]).cells])
   have g5:=g4.at 0 rfl
   simp only[go_sem,δ,γ]
   generalize H0.set o (.rows 3 [(f.bGY[i]).cells])=H2 at *
   simp only[go_sem,δ,γ,θ,aiA,g5]
   refine fT.call L.tonD (base:=fQ f) (ns:=kA f) g4 Om Om (g3 rfl) hin (by simp only[go_sem,γ,hnm]) fun w' H1 h1 hG1=>?_
   have g6:=h1.at 0 rfl
   generalize gT (fQ f++(kA f).take i) ((kA f).getD i [])=fb at *
   generalize hd:f.bGY[i]=dd at *
   cases fb with
   | false =>
    simp only[go_sem,γ,reduceCtorEq,JG,rF,winc]
    exact fin false w' _ _ hlt (bHG.trans rfl) hG1 Lq
   | true =>
    simp only[go_sem,δ,γ,θ,JG,g6,bJC,e1]
    refine aA (L.inn dd.model 0 ((f.bGZ.length:Int)-1)) rfl ?_
    cases k0:within dd.model 0 ((f.bGZ.length:Int)-1) with
    | false =>
     simp only[go_sem,γ,reduceCtorEq,rF,winc]
     exact fin false w' _ _ hlt (by rw[bHG,k0]<;>simp) hG1 Lq
    | true =>
     simp only[go_sem,δ,γ,θ,g6,bJC,e2]
     refine aA (L.inn dd.machine 0 ((f.bHB.length:Int)-1)) rfl ?_
     cases k1:within dd.machine 0 ((f.bHB.length:Int)-1) with
     | false =>
      simp only[go_sem,γ,reduceCtorEq,rF,winc]
      exact fin false w' _ _ hlt (by rw[bHG,k0,k1]<;>simp) hG1 Lq
     | true =>
      obtain⟨p0,p1⟩:=within_iff.1 k1
      obtain⟨p,hp⟩:∃ p:Nat,dd.machine=p:=⟨dd.machine.toNat,by omega⟩
      have hpd:p<f.bHB.length:=by omega
      obtain⟨lv,hlv⟩:∃ lv,(f.bHB.map bN.level).getD dd.machine.toNat 0=lv:=⟨_,rfl⟩
      have hpl:(f.bHB[p]).level=lv:=by rw[← hlv,hp,bMF,nI hpd]
      rw[hlv] at bHG
      have hpat:=uA hpd
      simp only[go_sem,δ,γ,θ,g6,hp,hpat,hpl,rF,winc]
      exact fin _ w' _ _ hlt (by rw[bHG,k0,k1]<;>simp) hG1 Lq
 ·have bHF:¬ ((i:Nat):Int)<(f.bGY.length:Nat):=by omega
  have:i=n:=by omega
  subst this
  simp only[go_sem,γ,reduceCtorEq,bHF]
  exact Up.up Lq (stop hc.symm)
theorem WC {xs:List Int} {k:Nat} (h:k<xs.length):(xs.map fun x=>[PV.int .i64 x])[k]?=some [.int .i64 xs[k]]:=by simp[h]
def zpF (f:aJ) (w:PV) (o i:Nat) (c:Bool) (j:Nat):PF:=(((((((PF.nil.set 1 (.bG f.cells)).set 6 (w)).set 7 (.aB)).set 8 (.bool c)).set 17 (.int .i64 i)).set 18 (.ptr o 17 0 0)).set 19 (.int .i64 j))
theorem bjI {C:Ctx} (f:aJ) (w:PV) (o i:Nat) (p:dA) (hl:p.bGZ.length≤9223372036854775807) (j:Nat) (hj:j<p.bGZ.length) (b:Bool) (K:cO) [Up K] (F:PF) (H:PH) (ho:H o=some (.rows 17 [p.cells])) (hF:((zpF f w o i b j).set 20 (.int .i64 0)).le F)
  (hK:K (.exit 12) (zpF f w o i (b&&(p.bGZ.take j).all fun x=>x != p.bGZ[j]) j) H):aC.wp C (.loop JA) K F H:=by
 refine wp_loop (α:=Nat) (fun k=>(zpF f w o i (b&&(p.bGZ.take k).all fun x=>x != p.bGZ[j]) j).set 20 (.int .i64 k)) (fun _=>H) (fun k=>k≤j) (fun k=>j-k) 0 (bJO _) (by
   have e:(b&&(p.bGZ.take 0).all fun x=>x != p.bGZ[j])=b:=by cases b<;>rfl
   simp only[e]
   exact hF) PH.le_refl ?_
 intro k hk
 have hs:∀ h:k<p.bGZ.length,(b&&(p.bGZ.take (k+1)).all fun x=>x != p.bGZ[j])=((b&&(p.bGZ.take k).all fun x=>x != p.bGZ[j])&&(p.bGZ[k] != p.bGZ[j])):=fun h=>by
  rw[bLC h,List.all_append]
  simp[bMB]
 have fin:∀ (c:Bool) (F':PF),k<j→(b&&(p.bGZ.take (k+1)).all fun x=>x != p.bGZ[j])=c→((zpF f w o i c j).set 20 (.int .i64 (k+1:Nat))).le F'→eA (fun k:Nat=>(zpF f w o i (b&&(p.bGZ.take k).all fun x=>x != p.bGZ[j]) j).set 20 (.int .i64 k)) (fun _=>H) (fun k=>k≤j) (fun k=>j-k) (j-k) K .normal F' H :=
  fun c F' hlt e h=>aK (k+1) hlt Om (by rw[e]; exact h) PH.le_refl
 unfold zpF at fin
 simp only[go_sem,γ,JA,aiH,zpF]
 by_cases hlt:k<j
 ·have bHF:(k:Int)<(j:Nat):=by omega
  have hk2:k<p.bGZ.length:=by omega
  have hs:=hs hk2
  generalize (b&&(p.bGZ.take k).all fun x=>x != p.bGZ[j])=c at *
  simp only[go_sem,bHF]
  refine bU .nil eD PH.nil_le ?_
  cases c with
  | false =>
   simp only[go_sem,γ,reduceCtorEq,JJ,JK,wZz k]
   exact fin false _ hlt (hs.trans rfl) Lq
  | true =>
   simp only[go_sem,δ,γ,θ,reduceCtorEq,JJ,ho,WC hk2,WC hj,JK,wZz k]
   exact fin _ _ hlt (hs.trans rfl) Lq
 ·have bHF:¬ (k:Int)<(j:Nat):=by omega
  have:k=j:=by omega
  subst this
  simp only[go_sem,bHF]
  exact Up.up (by (repeat' (first|exact PF.nil_le|refine PF.aI ?_ ?_))<;>first|(simp only[go_sem,γ,zpF]<;>rfl)|rfl) hK
def HC (bGZ:Nat) (ms:List Int) (j:Nat):Bool:=within (ms.getD j 0) 0 ((bGZ:Int)-1)&&(ms.take j).all fun x=>x != ms.getD j 0
theorem bcI {C:Ctx} (L:pK C) (f:aJ) (hz2:f.bGZ.length≤4) (w:PV) (o i:Nat) (p:dA) (hl:p.bGZ.length≤9223372036854775807) (b:Bool) (K:cO) [Up K] (F:PF) (H:PH) (ho:H o=some (.rows 17 [p.cells])) (hF:(zpF f w o i b 0).le F)
  (hK:K (.exit 10) ((((((PF.nil.set 1 (.bG f.cells)).set 6 (w)).set 7 (.aB)).set 8 (.bool (b&&(bJD p.bGZ.length).all (HC f.bGZ.length p.bGZ)))).set 17 (.int .i64 i))) H):aC.wp C (.loop uV) K F H:=by
 obtain⟨ok,hok⟩:∃ ok,HC f.bGZ.length p.bGZ=ok:=⟨_,rfl⟩
 rw[hok] at hK
 refine wp_loop (α:=Nat) (fun j=>zpF f w o i (b&&(bJD j).all ok) j) (fun _=>H) (fun j=>j≤p.bGZ.length) (fun j=>p.bGZ.length-j) 0 (bJO _) (by
   have e:(b&&(bJD 0).all ok)=b:=by cases b<;>rfl
   simp only[e]
   exact hF) PH.le_refl ?_
 intro j hj
 have bHG:=oY (p:=ok) j b
 have hacc:=fun h=>oX (p:=ok) (b:=b) hj h
 have fin:∀ (c:Bool) (F':PF),j<p.bGZ.length→(b&&(bJD (j+1)).all ok)=c→(zpF f w o i c (j+1)).le F'→eA (fun j:Nat=>zpF f w o i (b&&(bJD j).all ok) j) (fun _=>H) (fun j=>j≤p.bGZ.length) (fun j=>p.bGZ.length-j) (p.bGZ.length-j) K .normal F' H :=
  fun c F' hlt e h=>aK (j+1) hlt Om (by rw[e]; exact h) PH.le_refl
 unfold zpF at fin
 have stop:(b&&(bJD j).all ok)=(b&&(bJD p.bGZ.length).all ok)→K (.exit 10) ((((((PF.nil.set 1 (.bG f.cells)).set 6 (w)).set 7 (.aB)).set 8 (.bool (b&&(bJD j).all ok))).set 17 (.int .i64 i))) H:=fun e=>by
  rw[e]; exact hK
 generalize hc:(b&&(bJD j).all ok)=c at *
 simp only[go_sem,δ,γ,θ,uV,aiE,zpF,ho,bJC]
 by_cases hlt:j<p.bGZ.length
 ·have bHF:(j:Int)<(p.bGZ.length:Nat):=by omega
  cases c with
  | false =>
   simp only[go_sem,γ,bHF]
   exact Up.up Lq (stop (hacc rfl).symm)
  | true =>
   have e1:=agT (Om:f.bGZ.length≤1000)
   have hg:p.bGZ.getD j 0=p.bGZ[j]:=by simp[bJX,hlt]
   have hoj:ok j=(within p.bGZ[j] 0 ((f.bGZ.length:Int)-1)&&(p.bGZ.take j).all fun x=>x != p.bGZ[j]):=by
    rw[← hok]
    unfold HC
    rw[hg]
   rw[hoj] at bHG
   simp only[go_sem,γ,bHF]
   refine bU .nil aZB PH.nil_le ?_
   simp only[go_sem,δ,γ,θ,reduceCtorEq,aiF,ho,WC hlt,bJC,e1]
   refine bQ rfl (L.inn p.bGZ[j] 0 ((f.bGZ.length:Int)-1)) Sq PH.nil_le ?_
   simp only[go_sem,γ,aiG]
   refine bjI f w o i p hl j hlt (within p.bGZ[j] 0 ((f.bGZ.length:Int)-1)) _ _ _ ho (by (repeat' (first|exact PF.nil_le|refine PF.aI ?_ ?_))<;>first|(simp only[go_sem,γ,zpF]<;>rfl)|rfl) ?_
   simp only[go_sem,γ,zpF,aiI,wZz j]
   exact fin _ _ hlt (bHG.trans rfl) Lq
 ·have bHF:¬ (j:Int)<(p.bGZ.length:Nat):=by omega
  have:j=p.bGZ.length:=by omega
  subst this
  simp only[go_sem,γ,reduceCtorEq,bHF]
  exact Up.up Lq (stop hc.symm)
def aFC (bGZ:Nat) (p:dA):Bool:=GU p.k p.m p.bIC p.s0 p.s1 p.s2 p.s3 p.s4&&(KW p.m p.repair p.target p.bHK&&(decide (p.bGZ.length>0)&&(bJD p.bGZ.length).all (HC bGZ p.bGZ)))
theorem bnN (bGZ:Nat) (p:dA):iR bGZ p=aFC bGZ p:=by
 unfold iR aFC
 rw[bnI,bqH]
 have h1:decide (p.bGZ.length≠0)=decide (p.bGZ.length>0):=decide_eq_decide.2 Om
 have h2:(bJD p.bGZ.length).all (fun j=>within (p.bGZ.getD j 0) 0 ((bGZ:Int)-1)&&!(p.bGZ.take j).contains (p.bGZ.getD j 0))=(bJD p.bGZ.length).all (HC bGZ p.bGZ):=by
  congr 1
  funext j
  unfold HC
  congr 1
  generalize p.bGZ.getD j 0=x
  induction p.bGZ.take j with
  | nil=>rfl
  | cons a t ih =>
   rw[List.contains_cons,List.all_cons,← ih,Bool.not_or,bne,BEq.comm]
 rw[h1,h2]
 cases GU p.k p.m p.bIC p.s0 p.s1 p.s2 p.s3 p.s4<;>cases KW p.m p.repair p.target p.bHK<;>cases decide (p.bGZ.length>0)<;>simp
structure aiQ (C:Ctx):Prop extends pK C where
 dur:∀ (m:Int) (rep:List RF),jE rep→∀ t h:RF,t.Ok→h.Ok→aD C 69 [.int .i64 m,frs rep,.agg t.cells,.agg h.cells] .nil (aE (.bool (KW m rep t h)))
def jL (f:aJ):List (List UInt8):=f.bHC.map dA.name
def HB (f:aJ) (i:Nat):Bool:=match f.bHC[i]? with
 | some p=>aFC f.bGZ.length p
 | none=>false
def adD (f:aJ):Bool:=(bJD f.bHC.length).all (okL [] (jL f) (HB f))
theorem bpR {C:Ctx} (L:aiQ C) (f:aJ) (hf:f.Ok) (hz5:f.bHC.length≤4) (hz2:f.bGZ.length≤4) (b:Bool) (K:cO) [Up K] (F:PF) (H:PH)
  (hF:((((((PF.nil.set 1 (.bG f.cells)).set 6 (.aB)).set 7 (.aB)).set 8 (.bool b)).set 17 (.int .i64 0)):PF).le F)
  (hK:∀ H',K (.exit 8) ((((PF.nil.set 1 (.bG f.cells)).set 7 (.aB)).set 8 (.bool (b&&adD f)))) H'):aC.wp C (.loop uW) K F H:=by
 obtain⟨ok,hok⟩:∃ ok,okL [] (jL f) (HB f)=ok:=⟨_,rfl⟩
 unfold adD at hK
 rw[hok] at hK
 have hnl:(jL f).length=f.bHC.length:=by simp[jL]
 refine wp_loop (α:=Nat × PV × PH) (fun s=>(((((PF.nil.set 1 (.bG f.cells)).set 6 (s.2.1)).set 7 (.aB)).set 8 (.bool (b&&(bJD s.1).all ok))).set 17 (.int .i64 s.1))) (fun s=>s.2.2) (fun s=>s.1≤f.bHC.length∧fT s.2.2 s.2.1 [] (jL f) (b&&(bJD s.1).all ok) s.1) (fun s=>f.bHC.length-s.1)
  (0,.aB,H) ⟨bJO _,⟨[],aU.nil.rR 1,fun _=>rfl⟩⟩ (by
   have e:(b&&(bJD 0).all ok)=b:=by cases b<;>rfl
   simp only[e]
   exact hF) PH.le_refl ?_
 rintro⟨i,w,H0⟩ ⟨hi,hG⟩
 simp only at hi hG ⊢
 have fin:∀ (c:Bool) (w':PV) (F':PF) (H':PH),i<f.bHC.length→(b&&(bJD (i+1)).all ok)=c→fT H' w' [] (jL f) true (i+1) →
   ((((((PF.nil.set 1 (.bG f.cells)).set 6 (w')).set 7 (.aB)).set 8 (.bool c)).set 17 (.int .i64 (i+1:Nat))):PF).le F' →
   eA (fun s:Nat × PV × PH=>(((((PF.nil.set 1 (.bG f.cells)).set 6 (s.2.1)).set 7 (.aB)).set 8 (.bool (b&&(bJD s.1).all ok))).set 17 (.int .i64 s.1))) (fun s=>s.2.2) (fun s=>s.1≤f.bHC.length∧fT s.2.2 s.2.1 [] (jL f) (b&&(bJD s.1).all ok) s.1) (fun s=>f.bHC.length-s.1) (f.bHC.length-i) K .normal F' H' :=
  fun c w' F' H' hlt hb hG' hF'=>aK (i+1,w',H') ⟨hlt,hG'.alH⟩ (by simp only; omega) (by simp only; rw[hb]; exact hF') PH.le_refl
 have bHG:=oY (p:=ok) i b
 have hacc:=fun h=>oX (p:=ok) (b:=b) hi h
 have stop:(b&&(bJD i).all ok)=(b&&(bJD f.bHC.length).all ok)→K (.exit 8) ((((PF.nil.set 1 (.bG f.cells)).set 7 (.aB)).set 8 (.bool (b&&(bJD i).all ok)))) H0:=fun e=>by
  rw[e]; exact hK H0
 generalize hc:(b&&(bJD i).all ok)=c at *
 simp only[go_sem,δ,γ,θ,uW,aiB,bJC]
 by_cases hlt:i<f.bHC.length
 ·have bHF:(i:Int)<(f.bHC.length:Nat):=by omega
  cases c with
  | false =>
   simp only[go_sem,γ,bHF]
   exact Up.up Lq (stop (hacc rfl).symm)
  | true =>
   obtain⟨names,g1,g3⟩:=hG.ex
   have hat:=oP hlt
   have hin:i<(jL f).length:=by omega
   have hnm:(jL f)[i]=(f.bHC[i]).name:=by simp[jL]
   have hoki:ok i=(gT ([]++(jL f).take i) ((jL f).getD i [])&&aFC f.bGZ.length f.bHC[i]):=by
    rw[← hok]
    unfold okL HB
    rw[bJN hlt]
   have hpo:=hf.bHM _ (bJG hlt)
   rw[hoki] at bHG
   unfold aFC at bHG
   have winc:IntKind.i64.wrap ((i:Int)+1)=((i+1:Nat):Int):=dE Om
   simp only[go_sem,δ,γ,θ,bHF,aiC,hat]
   refine aQ fun o ho=>?_
   have g4:=g1.new ho (.rows 17 [(f.bHC[i]).cells])
   have g5:=g4.at 0 rfl
   simp only[go_sem,δ,γ]
   generalize H0.set o (.rows 17 [(f.bHC[i]).cells])=H2 at *
   simp only[go_sem,δ,γ,θ,aiD,g5]
   refine fT.call L.tonD (ns:=jL f) g4 (bJO _) Om (g3 rfl) hin (by simp only[go_sem,γ,hnm]) fun w' H1 h1 hG1=>?_
   have g6:=h1.at 0 rfl
   generalize gT ([]++(jL f).take i) ((jL f).getD i [])=fb at *
   generalize hd:f.bHC[i]=p at *
   have rest:∀ (c:Bool) (F':PF),(zpF f w' o i c 0).le F'→(c&&(bJD p.bGZ.length).all (HC f.bGZ.length p.bGZ))=(b&&(bJD (i+1)).all ok) →
     aC.wp C (.loop uV) (dU 10 (dU 9 (gY C (aC.wp C (.region JL)) (eA (fun s:Nat × PV × PH=>(((((PF.nil.set 1 (.bG f.cells)).set 6 (s.2.1)).set 7 (.aB)).set 8 (.bool (b&&(bJD s.1).all ok))).set 17 (.int .i64 s.1))) (fun s=>s.2.2) (fun s=>s.1≤f.bHC.length∧fT s.2.2 s.2.1 [] (jL f) (b&&(bJD s.1).all ok) s.1) (fun s=>f.bHC.length-s.1) (f.bHC.length-i) K)))) F' H1:=by
    intro c F' hF' hcc
    refine bcI L.topK f hz2 w' o i p hpo.bGZ c _ _ _ g6 hF' ?_
    rw[hcc]
    simp only[go_sem,γ,JL,winc]
    exact fin _ w' _ _ hlt rfl hG1 Lq
   cases fb with
   | false =>
    simp only[go_sem,γ,reduceCtorEq,JI,rG]
    exact rest false _ (by (repeat' (first|exact PF.nil_le|refine PF.aI ?_ ?_))<;>first|(simp only[go_sem,γ,zpF]<;>rfl)|rfl) (by rw[bHG]; rfl)
   | true =>
    simp only[go_sem,δ,γ,θ,JI,g6]
    refine aA (L.nums p.k p.m p.bIC p.s0 p.s1 p.s2 p.s3 p.s4) Sq ?_
    cases k0:GU p.k p.m p.bIC p.s0 p.s1 p.s2 p.s3 p.s4 with
    | false =>
     simp only[go_sem,γ,reduceCtorEq,rG]
     exact rest false _ (by (repeat' (first|exact PF.nil_le|refine PF.aI ?_ ?_))<;>first|(simp only[go_sem,γ,zpF]<;>rfl)|rfl) (by rw[bHG,k0]; rfl)
    | true =>
     simp only[go_sem,δ,γ,θ,g6]
     refine aA (L.dur p.m p.repair hpo.repair p.target p.bHK hpo.target hpo.bHK) Sq ?_
     cases k1:KW p.m p.repair p.target p.bHK with
     | false =>
      simp only[go_sem,γ,reduceCtorEq,rG]
      exact rest false _ (by (repeat' (first|exact PF.nil_le|refine PF.aI ?_ ?_))<;>first|(simp only[go_sem,γ,zpF]<;>rfl)|rfl) (by rw[bHG,k0,k1]; rfl)
     | true =>
      have hgt:decide (((p.bGZ.length:Nat):Int)>0)=decide (p.bGZ.length>0):=decide_eq_decide.2 Om
      simp only[go_sem,δ,γ,θ,g6,bJC,hgt,rG]
      exact rest _ _ (by (repeat' (first|exact PF.nil_le|refine PF.aI ?_ ?_))<;>first|(simp only[go_sem,γ,zpF]<;>rfl)|rfl) (by rw[bHG,k0,k1]; rfl)
 ·have bHF:¬ (i:Int)<(f.bHC.length:Nat):=by omega
  have:i=f.bHC.length:=by omega
  subst this
  simp only[go_sem,γ,reduceCtorEq,bHF]
  exact Up.up Lq (stop hc.symm)
def nY (r:bN):Bool:=(r.name==[])&&((r.level==0)&&((r.parent==-1)&&((r.bHY==0)&&(cN (val r.bHQ.num) (val r.bHQ.den)&&(oW r.bHQ==0)))))
def a0R (f:aJ):Bool:=match f.bHB with
 | []=>false
 | r::_=>nY r
def bgO (f:aJ):Bool:=within f.bIM 1 4&&(mZ f.bHH.length f.bGZ.length f.bHB.length f.bGY.length f.bHC.length f.bHA.length&&(decide (0<f.bHB.length)&&((((((FY f&&vK f)&&a0R f)&&uB f)&&uZ f)&&adD f)&&avB f)))
theorem aMX (n:Nat) (p q:Nat→Bool):(bJD n).all (fun i=>p i&&q i)=((bJD n).all p&&(bJD n).all q):=by
 induction n with
 | zero=>rfl
 | succ n ih =>
  simp only[List.range_succ,List.all_append,ih,List.all_cons,List.all_nil,bLE]
  cases (bJD n).all p<;>cases (bJD n).all q<;>cases p n<;>simp
theorem vS {α:Type} (l:List α) (p:α→Bool):(bJD l.length).all (fun i=>(l.map p).getD i false)=l.all p:=by
 refine Bool.eq_iff_iff.2 ?_
 rw[bJW,bJW]
 constructor
 ·intro h x hx
  obtain⟨i,hi,rfl⟩:=bLL hx
  have:=h i (bKE.2 hi)
  simpa [bJX,hi] using this
 ·intro h i hi
  have hi:=bKE.1 hi
  simp[bJX,hi,h _ (bJG hi)]
theorem CJ (ns:List (List UInt8)) (n:Nat) (hn:ns.length=n) (P:Nat→Bool):(bJD n).all (okL [] ns P)=(distinct ns&&(bJD n).all P):=by
 subst hn
 have:okL [] ns P=fun i=>(isName (ns.getD i [])&&!(ns.take i).contains (ns.getD i []))&&P i:=by
  funext i
  rfl
 rw[this,aMX]
 rfl
theorem bnJ (base ns:List (List UInt8)) (P Q:Nat→Bool):((bJD base.length).all (okL [] base P)&&(bJD ns.length).all (okL base ns Q))=(distinct (base++ns)&&((bJD base.length).all P&&(bJD ns.length).all Q)):=by
 have e1:okL base ns Q=fun i=>(isName (ns.getD i [])&&!(base++ns.take i).contains (ns.getD i []))&&Q i:=by
  funext i
  rfl
 have e2:distinct (base++ns)=(distinct base&&(bJD ns.length).all fun i=>isName (ns.getD i [])&&!(base++ns.take i).contains (ns.getD i [])):=by
  unfold distinct
  rw[bJL,List.range_add,List.all_append,List.all_map]
  congr 1
  ·refine Bool.eq_iff_iff.2 ?_
   rw[bJW,bJW]
   refine forall_congr' fun i=>forall_congr' fun hi=>?_
   have hi:=bKE.1 hi
   have a1:(base++ns).getD i []=base.getD i []:=by
    simp only[bJX]
    rw[bLN hi]
   have a2:(base++ns).take i=base.take i:=by rw[List.take_append_of_le_length Om]
   rw[a1,a2]
  ·refine Bool.eq_iff_iff.2 ?_
   rw[bJW,bJW]
   refine forall_congr' fun i=>forall_congr' fun _=>?_
   have a1:(base++ns).getD (base.length+i) []=ns.getD i []:=by
    simp only[bJX]
    rw[bKZ Om]
    congr 2
    omega
   have a2:(base++ns).take (base.length+i)=base++ns.take i:=by rw[List.take_append,bJS Om]; congr 2; omega
   simp only[Function.comp,a1,a2]
 rw[CJ base base.length rfl P,e1,aMX,e2]
 cases distinct base<;>cases (bJD base.length).all P<;>simp
theorem bgQ (r:bN):(decide (r.name=[])&&decide (r.level=0)&&decide (r.parent=-1)&&decide (r.bHY=0)&&cH r.bHQ&&!cA r.bHQ)=nY r:=by
 have h1:decide (r.name=[])=(r.name==[]):=by cases r.name<;>rfl
 have h2:decide (r.level=0)=(r.level==0):=by generalize r.level=x; by_cases h:x=0<;>simp[h]
 have h3:decide (r.parent=-1)=(r.parent==-1):=by generalize r.parent=x; by_cases h:x=-1<;>simp[h]
 have h4:decide (r.bHY=0)=(r.bHY==0):=by generalize r.bHY=x; by_cases h:x=0<;>simp[h]
 have h5:(cH r.bHQ&&!cA r.bHQ)=(cN (val r.bHQ.num) (val r.bHQ.den)&&(oW r.bHQ==0)):=by
  rw[HJ]
  by_cases h:val r.bHQ.num=0
  ·have ha:cA r.bHQ=false:=by unfold cA; simp[h]
   rw[ha]
   simp only[bJQ,bLE]
   cases hv:cN (val r.bHQ.num) (val r.bHQ.den) with
   | false =>
    unfold cH mE
    rw[hv]
    rfl
   | true =>
    obtain⟨v1,-,-⟩:=fB.1 hv
    unfold cH mE
    rw[hv,if_pos rfl,WD hv,h]
    unfold kR
    have hb:val r.bHQ.den/bJH 0 (val r.bHQ.den)=1:=by rw[Nat.gcd_zero_left,Nat.div_self (bLI v1)]
    have b0:cD (0/bJH 0 (val r.bHQ.den))=0:=by rw[Nat.zero_div]; exact iD
    have b1:cD 1=1:=by rw[mT (by decide),iD]
    simp only[hb,b0,b1]
    simp
  ·have ha:cA r.bHQ=true:=by unfold cA; simp[h]
   rw[ha]
   simp
 unfold nY
 rw[h1,h2,h3,h4]
 simp only[bMB] at h5 ⊢
 rw[h5]
theorem bdR (f:aJ) {r:bN} {t:List bN} (h:f.bHB=r::t):xM f r t=(nY r&&(bJD t.length).all (tZ f)):=by
 unfold xM
 rw[bgQ]
 congr 2
 funext i
 unfold tZ
 rw[h,List.getElem?_cons_succ]
 cases t[i]? with
 | none=>rfl
 | some d=>exact bkU f i d
theorem a4V (f:aJ):f.bGY.all (gG f)=(bJD f.bGY.length).all (sD f):=by
 have:sD f=fun i=>(f.bGY.map (gG f)).getD i false:=by
  funext i
  unfold sD
  rw[bJX,bKH]
  cases f.bGY[i]? with
  | none=>rfl
  | some d =>
   show axK f d=gG f d
   unfold axK gG
   have:decide ((f.bHB.map bN.level).getD d.machine.toNat 0=4)=((f.bHB.map bN.level).getD d.machine.toNat 0==4):=by
    generalize (f.bHB.map bN.level).getD d.machine.toNat 0=u
    by_cases h:u=4<;>simp[h]
   rw[this,bMB]
 rw[this,vS]
theorem a7Q (f:aJ):f.bHC.all (iR f.bGZ.length)=(bJD f.bHC.length).all (HB f):=by
 have:HB f=fun i=>(f.bHC.map (iR f.bGZ.length)).getD i false:=by
  funext i
  unfold HB
  rw[bJX,bKH]
  cases f.bHC[i]? with
  | none=>rfl
  | some d=>exact (bnN _ d).symm
 rw[this,vS]
theorem bnT (f:aJ):bgO f=dS f:=by
 have hm:ajS f.bHH.length=jC f:=by
  funext m
  unfold ajS jC
  rw[bMB]
 have hvv:aJM f.bHC.length=mF f:=rfl
 have hs:(within f.bIM 1 4&&mZ f.bHH.length f.bGZ.length f.bHB.length f.bGY.length f.bHC.length f.bHA.length)=lF f:=by
  unfold lF mZ
  simp only[bMB]
 unfold bgO dS FY vK adD avB
 rw[CJ _ _ (by rw[bJC]),CJ _ _ (by rw[bJC]),CJ _ _ (by rw[jL,bJC]),CJ _ _ (by rw[bJC]),vS,vS,vS,hm,hvv,a7Q,a4V,← bMB,hs]
 unfold mI a0R
 cases hd:f.bHB with
 | nil=>simp
 | cons r t =>
  have hlen:decide (0<f.bHB.length)=true:=by rw[hd]; simp
  rw[hd] at hlen
  rw[hlen,bJM]
  simp only
  rw[bdR f hd]
  have hn:fQ f=(f.bHB.drop 1).map bN.name:=rfl
  rw[hd] at hn
  have hl:(fQ f).length=t.length:=by rw[hn]; simp
  have two:=bnJ (fQ f) (kA f) (tZ f) (sD f)
  rw[hl,show (kA f).length=f.bGY.length by simp[kA]] at two
  have e1:uB f=(bJD t.length).all (okL [] (fQ f) (tZ f)):=by
   unfold uB
   rw[hd]
   rfl
  have e2:uZ f=(bJD f.bGY.length).all (okL (fQ f) (kA f) (sD f)):=rfl
  rw[e1,e2,← hn]
  rw[show f.bGY.map cC.name=kA f from rfl,show f.bHC.map dA.name=jL f from rfl]
  generalize (bJD t.length).all (okL [] (fQ f) (tZ f))=a at *
  generalize (bJD f.bGY.length).all (okL (fQ f) (kA f) (sD f))=b at *
  generalize distinct (fQ f++kA f)=c at *
  generalize (bJD t.length).all (tZ f)=d at *
  generalize (bJD f.bGY.length).all (sD f)=e at *
  generalize lF f=s
  generalize nY r=ro
  generalize distinct (f.bHH.map cM.name)=n1
  generalize f.bHH.all jW=n2
  generalize distinct (f.bGZ.map cU.name)=n3
  generalize f.bGZ.all (jC f)=n4
  generalize distinct (jL f)=n5
  generalize (bJD f.bHC.length).all (HB f)=n6
  generalize distinct (f.bHA.map dY.name)=n7
  generalize f.bHA.all (mF f)=n8
  have:(s&&(((((((n1&&n2)&&(n3&&n4))&&ro)&&a)&&b)&&(n5&&n6))&&(n7&&n8)))=(s&&(ro&&((n1&&n2)&&((n3&&n4)&&((a&&b)&&((n5&&n6)&&(n7&&n8))))))):=by
   cases s<;>cases ro<;>cases n1<;>cases n2<;>cases n3<;>cases n4<;>simp[bMB]
  rw[this,two]
  cases s<;>cases ro<;>cases n1<;>cases n2<;>cases n3<;>cases n4<;>cases c<;>cases d<;>cases e<;>simp
  cases n5<;>cases n6<;>cases n7<;>cases n8<;>rfl
theorem bgP (f:aJ) (h:0<f.bHB.length):a0R f=nY f.bHB[0]:=by
 obtain⟨a,b,c,d,e,g,i⟩:=f
 cases d with
 | nil=>simp at h
 | cons r t=>rfl
theorem bcP {C:Ctx} (L:aiQ C) (f:aJ) (hf:f.Ok):BN.wp C (aT QJ.res (aE (.bool (dS f)))) (PF.args [.agg f.cells]) .nil:=by
 have hX:=bnT f
 unfold bgO at hX
 have fail:∀ (F:PF) (H:PH),dS f=false→F 2=some (.bool false)→aT [.tmp 2] (aE (.bool (dS f))) .ret F H:=fun F H e h=>by
  rw[e]
  exact aX (vs:=[.bool false]) (.inr rfl) .nil (by simp only[go_sem,h]) PH.nil_le ⟨rfl,rfl⟩
 simp only[go_sem,δ,γ,θ,BN,atX,atY,QJ]
 refine aA (L.inn f.bIM 1 4) rfl ?_
 cases k0:within f.bIM 1 4 with
 | false =>
  rw[k0,bJI] at hX
  simp only[go_sem,γ,bJQ,yT]
  exact fail _ _ hX.symm rfl
 | true =>
 rw[k0,bJM] at hX
 simp only[go_sem,δ,γ,θ,bJK,bJC]
 refine aA (L.sizes f.bHH.length f.bGZ.length f.bHB.length f.bGY.length f.bHC.length f.bHA.length) rfl ?_
 cases k1:mZ f.bHH.length f.bGZ.length f.bHB.length f.bGY.length f.bHC.length f.bHA.length with
 | false =>
  rw[k1,bJI] at hX
  simp only[go_sem,γ,reduceCtorEq,bJQ,yT]
  exact fail _ _ hX.symm rfl
 | true =>
 rw[k1,bJM] at hX
 obtain⟨hz1,hz2,hz3,hz4,hz5,hz6⟩:=OG k1
 by_cases h0:f.bHB.length=0
 ·rw[decide_eq_false Om,bJI] at hX
  simp only[go_sem,δ,γ,θ,reduceCtorEq,bJK,bJC,bW (Om:((f.bHB.length:Nat):Int)=0),yT]
  exact fail _ _ hX.symm rfl
 have h00:0<f.bHB.length:=by omega
 rw[decide_eq_true h00,bJM] at hX
 simp only[go_sem,δ,γ,θ,reduceCtorEq,bJK,bJC,bF (Om:((f.bHB.length:Nat):Int)≠0),atZ,auA,auB]
 refine bpQ L.topK f hf hz1 _ _ _ Lq fun H1=>?_
 simp only[go_sem,ahQ]
 refine bcO L.topK f hf k1 (FY f) _ _ _ Lq fun H2=>?_
 have hd0:=uA h00
 have hsh:=(hf.dom _ (bJG h00)).1
 have hrp:=bgP f h00
 rw[hrp] at hX
 generalize f.bHB[0]=r at *
 have rest:∀ (c:Bool) (F:PF) (H:PH),((((((PF.nil.set 1 (.bG f.cells)).set 5 (.aB)).set 6 (.aB)).set 7 (.aB)).set 8 (.bool c)):PF).le F→c=((FY f&&vK f)&&nY r) →
   aC.wp C (.seq (.seq (.region JD) (.block 4 (.loop uT))) (.seq (.seq (.region JF) (.block 6 (.loop uU))) (.seq (.seq (.region JH) (.block 8 (.loop uW))) (.seq (.seq (.region JM) (.block 14 (.loop uX))) (.seq (.region JP) .ret))))) (aT [.tmp 2] (aE (.bool (dS f)))) F H:=by
  intro c F H hF hc
  refine sO _ (fun _ _ _ _ a b=>Up.up a b) hF ?_
  simp only[go_sem,JD]
  refine bpP L.topK f hf hz3 h00 c _ _ _ Lq fun w H3 hG=>?_
  simp only[go_sem,JF]
  refine bcN L.topK f hf hz3 h00 hz4 hz2 (c&&uB f) w _ _ _ hG Lq fun H4=>?_
  simp only[go_sem,JH]
  refine bpR L f hf hz5 hz2 ((c&&uB f)&&uZ f) _ _ _ Lq fun H5=>?_
  simp only[go_sem,JM]
  refine bpS L.topK f hf k1 (((c&&uB f)&&uZ f)&&adD f) _ _ _ Lq fun H6=>?_
  simp only[go_sem,γ,JP]
  refine aX (vs:=[.bool (dS f)]) (.inr rfl) .nil ?_ PH.nil_le ⟨rfl,rfl⟩
  rw[← hX,hc]
  simp only[go_sem,γ]
 simp only[aC.wp,go_sem] at rest
 simp only[go_sem,ν,δ,γ,θ,ahU,hd0]
 refine aQ fun o ho=>?_
 have g0:(H2.set o (.rows 7 [r.cells])) o=some (.rows 7 [r.cells]):=fI ..
 simp only[go_sem,δ,γ]
 generalize H2.set o (.rows 7 [r.cells])=H3 at *
 cases k2:(FY f&&vK f) with
 | false =>
  simp only[go_sem,ο,γ,reduceCtorEq,JC]
  exact rest false _ _ Lq (by rw[k2]; rfl)
 | true =>
  simp only[go_sem,ο,δ,γ,θ,JC,g0]
  cases k3:r.name==[] with
  | false =>
   simp only[go_sem,ο,γ,reduceCtorEq]
   exact rest false _ _ Lq (by rw[k2]; unfold nY; rw[k3]; rfl)
  | true =>
   simp only[go_sem,ο,δ,γ,θ,g0]
   cases k4:r.level==0 with
   | false =>
    simp only[go_sem,ο,γ,reduceCtorEq]
    exact rest false _ _ Lq (by rw[k2]; unfold nY; rw[k3,k4]; rfl)
   | true =>
    simp only[go_sem,ο,δ,γ,θ,g0]
    cases k5:r.parent==-1 with
    | false =>
     simp only[go_sem,γ,reduceCtorEq]
     exact rest false _ _ Lq (by rw[k2]; unfold nY; rw[k3,k4,k5]; rfl)
    | true =>
     simp only[go_sem,δ,γ,θ,g0]
     cases k6:r.bHY==0 with
     | false =>
      simp only[go_sem,γ,reduceCtorEq]
      exact rest false _ _ Lq (by rw[k2]; unfold nY; rw[k3,k4,k5,k6]; rfl)
     | true =>
      simp only[go_sem,δ,γ,g0]
      refine aA (L.valid _ hsh) rfl ?_
      cases k7:cN (val r.bHQ.num) (val r.bHQ.den) with
      | false =>
       simp only[go_sem,γ,reduceCtorEq]
       exact rest false _ _ Lq (by rw[k2]; unfold nY; rw[k3,k4,k5,k6,k7]; rfl)
      | true =>
       simp only[go_sem,δ,γ,g0]
       refine aA (L.sign _ hsh k7) rfl ?_
       simp only[go_sem,γ]
       exact rest _ _ _ Lq (by rw[k2]; unfold nY; rw[k3,k4,k5,k6,k7]; rfl)
structure cJ (C:Ctx):Prop where
 r24:aN C 24 CF
 r26:aN C 26 YK
 r30:aN C 30 aHE
 r31:aN C 31 aeI
 r32:aN C 32 aHQ
 r33:aN C 33 udiv
 r34:aN C 34 aIF
 r35:aN C 35 aeR
 r36:aN C 36 aII
 r37:aN C 37 aIQ
 r38:aN C 38 afA
 r39:aN C 39 CV
 r40:aN C 40 aeQ
 r41:aN C 41 OV
 r42:aN C 42 OW
 r43:aN C 43 aeV
 r44:aN C 44 PG
 r45:aN C 45 uup
 r46:aN C 46 alD
 r47:aN C 47 aJF
 r48:aN C 48 PO
 r49:aN C 49 afD
 r50:aN C 50 RS
 r51:aN C 51 PP
 r52:aN C 52 CZ
 r53:aN C 53 afO
 r54:aN C 54 afP
 r55:aN C 55 aJZ
 r56:aN C 56 PS
 r57:aN C 57 afB
 r58:aN C 58 CX
 r59:aN C 59 afQ
 r60:aN C 60 PR
 r61:aN C 61 uK
 r62:aN C 62 DB
 r63:aN C 63 PX
 r64:aN C 64 DA
 r65:aN C 65 DC
 r66:aN C 66 aKV
 r67:aN C 67 QJ
 r68:aN C 68 aKI
 r69:aN C 69 aKG
 r70:aN C 70 QC
 r71:aN C 71 QD
 r72:aN C 72 xI
 r73:aN C 73 QH
 r74:aN C 74 QI
 r75:aN C 75 DD
 r76:aN C 76 vP
 r82:aN C 82 adM
 r85:aN C 85 adN
 r86:aN C 86 CS
 r89:aN C 89 aFY
 r91:aN C 91 same
 r95:aN C 95 azP
 r96:aN C 96 aAK
 r97:aN C 97 LN
 r98:aN C 98 aaZ
 r99:aN C 99 abA
 r100:aN C 100 abB
 r101:aN C 101 gone
 r102:aN C 102 abC
 r103:aN C 103 LO
 r104:aN C 104 gin
 r105:aN C 105 azR
 r106:aN C 106 azS
 r107:aN C 107 abF
 r108:aN C 108 abG
 r109:aN C 109 MB
 r110:aN C 110 abH
 r111:aN C 111 ajE
 r112:aN C 112 azV
 r113:aN C 113 LC
 r114:aN C 114 axP
 r115:aN C 115 QX
 r116:aN C 116 vD
 r117:aN C 117 VI
 r118:aN C 118 LM
 r119:aN C 119 axM
 r120:aN C 120 nH
 r121:aN C 121 LL
 r122:aN C 122 aaY
 r123:aN C 123 RE
 r124:aN C 124 CD
 r125:aN C 125 CE
 r126:aN C 126 vJ
 r127:aN C 127 aCH
 r128:aN C 128 acI
 r129:aN C 129 aCX
 r130:aN C 130 aDD
 r131:aN C 131 aDH
 r132:aN C 132 acU
 r133:aN C 133 aDM
 r134:aN C 134 aDV
 r135:aN C 135 acY
 r136:aN C 136 CI
 r137:aN C 137 MP
 r138:aN C 138 rS
 r139:aN C 139 wO
 r140:aN C 140 MX
 r141:aN C 141 MY
 r142:aN C 142 tC
 r143:aN C 143 nup
 r144:aN C 144 PM.begin
 r145:aN C 145 PM.step
 r146:aN C 146 aIK
 r153:aN C 153 CU
 r156:aN C 156 yH
 r160:aN C 160 wW
 r161:aN C 161 OO
 r240:aN C 240 EP
 r241:aN C 241 ZR
 r242:aN C 242 aaD
 r243:aN C 243 awO
 r244:aN C 244 KP
 r245:aN C 245 yH
 r246:aN C 246 BW
 r247:aN C 247 NZ
 r248:aN C 248 KT
 r249:aN C 249 aaC
 r250:aN C 250 CL
 r251:aN C 251 adB
 r252:aN C 252 a0A
 r253:aN C 253 akM
 r254:aN C 254 NZ
 r255:aN C 255 a0G
 r257:aN C 257 qk
 r258:aN C 258 QM
 r260:aN C 260 tE
 r261:aN C 261 NU
 r262:aN C 262 PW
 r263:aN C 263 aKF
 r264:aN C 264 PT
 r265:aN C 265 QA
 r266:aN C 266 a1Q
 r267:aN C 267 aKB
 r268:aN C 268 aIZ
 r269:aN C 269 aJQ
 r270:aN C 270 a0U
 r272:aN C 272 WE
 r277:aN C 277 aEP
theorem uI {C:Ctx} (c:cJ C):oT C :=
 have len:∀ xs,Lim xs→xs.length≤35184372087808→aD C 138 [aF xs] .nil (aE (.int .i64 (nl (val xs):Nat))):=fun xs h l=>c.r138.go (aZV xs h l) rfl
 {length:=len
  large:=fun xs h l=>c.r137.go (a6K xs (len xs h l)) rfl
  sized:=fun xs h l=>(c.r141.go (a6P xs h (len xs h l)) rfl).seen
  trim:=fun xs h l=>(c.r135.go (bfN xs h l (len xs h l)) rfl).seen
  make:=fun v h=>c.r132.go (bfK v h len) rfl
  cmp:=fun xs ys hx hy lx ly=>c.r129.go (bmY xs ys hx hy lx ly (len xs hx lx) (len ys hy ly)) rfl }
theorem buY {C:Ctx} (c:cJ C):auP C :=
 {subtract:=fun A W Z v f o hW hv hl h1 hf bIN=>c.r142.go (aEB A W Z v f hW hv hl h1 hf bIN o) rfl
  restore:=fun A W Z v o hW hv hl h1=>c.r139.go (aMA A W Z v hW hv hl h1 o) rfl }
theorem bfH {C:Ctx} (c:cJ C):avG C :=
 {L:=uI c
  D:=buY c
  up:=fun a s ha hs h1=>c.r143.go (brL a s ha hs h1) rfl
  short:=fun a d ha h0 hd h1=>c.r140.go (a6N (uI c) a d ha h0 hd h1) rfl
  lengthO:=fun xs o hx hl=>c.r138.go (aLY xs hx hl o) rfl }
theorem aCG {C:Ctx} (c:cJ C) (A B:Nat) (hB:B≠0) (hA:nl A≤900) (hBl:nl B≤900):aD C 136 [aF (aG A),aF (aG B)] .nil (aE (oF A B)) :=
 (c.r136.go (aZQ (bfH c) A B hB hA hBl) rfl).seen
theorem wM {C:Ctx} (c:cJ C):qH C :=
 {uI c with
  bits:=fun xs h l=>c.r128.go (bfI xs h l ((uI c).length xs h l)) rfl
  add:=fun xs ys hx hy lx ly=>(c.r127.go (bmV (uI c) xs ys hx hy lx ly) rfl).seen
  sub:=fun xs ys hx hy lx ly=>(c.r134.go (bnG (uI c) xs ys hx hy lx ly) rfl).seen
  mul:=fun xs ys hx hy lx ly=>(c.r133.go (bnE (uI c) xs ys hx hy lx ly) rfl).seen
  gcd:=fun xs ys hx hy lx ly=>(c.r131.go (bnC (uI c) (aCG c) xs ys hx hy lx ly) rfl).seen
  div:=fun xs ys hx hy lx ly=>(c.r130.go (bnA (uI c) (aCG c) xs ys hx hy lx ly) rfl).seen }
theorem QY {C:Ctx} (c:cJ C):DE C :=
 {wM c with
  times:=fun a b ha hb la lb na nb=>c.r121.go (a5F (wM c) a b ha hb la lb na nb) rfl
  zero:=fun neg a b ha la=>c.r122.go (bdY (wM c) neg a b ha la) rfl
  valid:=fun neg a b ha hb la lb=>c.r118.go (a5H (wM c) neg a b ha hb la lb) rfl
  abs:=fun v h1 h2=>c.r119.go (bkX (wM c) v h1 h2) rfl
  lowest:=fun neg a b ha hb la lb na nb h0=>(c.r120.go (aYG (wM c) neg a b ha hb la lb na nb h0) rfl).seen }
theorem a5E {C:Ctx} (c:cJ C) (x y:RF) (hx:x.Ok) (hy:y.Ok):aD C 113 [.agg x.cells,.agg y.cells] .nil (aE (frV (gQ x.v y.v))) :=
 (c.r113.go (bkZ (QY c) x.neg y.neg x.num x.den y.num y.den hx.1 hx.2.1 hy.1 hy.2.1 hx.2.2.1 hx.2.2.2 hy.2.2.1 hy.2.2.2) rfl).seen
theorem aYI {C:Ctx} (c:cJ C):auO C :=
 {QY c with
  frac:=fun n d hn hd=>(c.r115.go (bdW (QY c) n d hn.1 hn.2 hd.1 hd.2) rfl).seen
  red:=fun x hx=>by
   rw[← a0N]
   exact (c.r116.go (aYJ (QY c) x.neg x.num x.den hx.1 hx.2.1 hx.2.2.1 hx.2.2.2) rfl).seen
  ord:=fun x y hx hy=>(c.r114.go (blB (QY c) x.neg y.neg x.num x.den y.num y.den hx.1 hx.2.1 hy.1 hy.2.1 hx.2.2.1 hx.2.2.2 hy.2.2.1 hy.2.2.2) rfl).seen
  plus:=a5E c
  tot:=fun l hl=>(c.r117.go (blH (QY c) (a5E c) l hl.all hl.fits) rfl).seen }
theorem QW {C:Ctx} (c:cJ C):qG C :=
 have inn:∀ n lo hi:Int,aD C 104 [.int .i64 n,.int .i64 lo,.int .i64 hi] .nil (aE (.bool (within n lo hi))):=fun n lo hi=>(c.r104.go (bqK n lo hi) rfl).seen
 have tT:∀ x:RF,x.Ok→aD C 97 [.agg x.cells] .nil (aE (.bool (cA x))):=fun x hx=>(c.r97.go (a5J (wM c) x hx) rfl).seen
 have lim:∀ x:RF,x.Ok→aD C 105 [.agg x.cells] .nil (aE (.bool (cH x))):=fun x hx=>(c.r105.go (blN (aYI c) x hx) rfl).seen
 have letter:∀ n:Nat,aD C 126 [.int .u8 n] .nil (aE (.bool (eT n))):=fun n=>c.r126.go (aZF n) rfl
 have digit:∀ n:Nat,aD C 124 [.int .u8 n] .nil (aE (.bool (kI n))):=fun n=>c.r124.go (a5Z n) rfl
 {aYI c with
  inn:=inn
  tT:=tT
  lim:=lim
  one:=fun x hx=>(c.r101.go (blR (aYI c) x hx) rfl).seen
  allf:=fun p fn l hl h=>(c.r99.go (beC p fn l hl h) rfl).seen
  alli:=fun p fn l hl h=>(c.r100.go (beE p fn l hl h) rfl).seen
  allb:=fun p fn l hl h=>(c.r98.go (beA p fn l hl h) rfl).seen
  ends1:=fun b=>(c.r103.go (a5L b) rfl).seen
  num1:=fun n=>(c.r107.go (beJ inn n) rfl).seen
  rate1:=fun x hx=>(c.r109.go (a5O lim tT x hx) rfl).seen
  name:=fun s=>c.r123.go (bfC letter (fun n=>c.r125.go (a6C letter digit n) rfl) s) rfl }
theorem a5C {C:Ctx} (c:cJ C):avE C :=
 {QW c with
  num:=fun p hp=>(c.r106.go (blP (QW c) p hp) rfl).seen
  rate:=fun p hp=>(c.r108.go (beL (QW c) p hp) rfl).seen
  uniq:=fun l hl=>(c.r110.go (beO (QW c) l hl) rfl).seen }
theorem a5D {C:Ctx} (c:cJ C):YD C :=
 {a5C c with
  ends:=fun l hl he=>(c.r102.go (beH (QW c) l hl he) rfl).seen }
theorem bqI {C:Ctx} (c:cJ C):jG C :=
 {a5D c with
  law:=fun l hl=>(c.r95.go (blL (a5D c) l hl) rfl).seen
  pol:=fun p n hp hn=>(c.r112.go (blT (a5C c) p hp n hn) rfl).seen
  bHJ:=fun f hf=>(c.r111.go (blJ (QW c) f hf) rfl).seen }
theorem aOI {C:Ctx} (c:cJ C) (f:aJ) (hf:f.Ok):aD C 96 [.agg f.cells] .nil (aE (.int .i64 (wY f))):=(c.r96.go (blV (bqI c) f hf) rfl).seen
theorem sJ {C:Ctx} (c:cJ C):nE C:={ trimM:=fun xs h l=>c.r38.go (biD xs h l) rfl }
theorem a7Z {C:Ctx} (c:cJ C):avH C :=
 {sJ c with
  make:=fun v h=>(c.r35.go (bhV (sJ c) v h) rfl).seen
  large:=fun xs h l=>(c.r41.go (a9D (sJ c) xs h l) rfl).seen
  cmp:=fun xs ys hx hy lx ly=>c.r32.go (boM (sJ c) xs ys hx hy lx ly) rfl }
theorem a8B {C:Ctx} (c:cJ C):avK C :=
 {a7Z c with
  minus:=fun a b ha hb hle hl h1=>(c.r42.go (a9F (sJ c) a b ha hb hle hl h1) rfl).seen
  times:=fun a b ha hb h1 h2=>(c.r44.go (a9H (sJ c) a b ha hb h1 h2) rfl).seen }
theorem aFK {C:Ctx} (c:cJ C):YH C :=
 {a8B c with
  plus:=fun a b ha hb h1 h2=>(c.r43.go (biB (sJ c) a b ha hb h1 h2) rfl).seen }
theorem brQ {C:Ctx} (c:cJ C):KE C :=
 {aFK c with
  bits:=fun xs h l=>c.r31.go (bhP (sJ c) xs h l) rfl
  upM:=fun a n ha h1 hn h0=>c.r45.go (bsH (sJ c) a n ha h1 hn h0) rfl
  down:=fun a n ha h1 hn=>(c.r40.go (bhT (sJ c) a n ha h1 hn) rfl).seen }
theorem aFI {C:Ctx} (c:cJ C):YG C :=
 {a7Z c with
  divide:=fun A B hB hA hBl=>(c.r39.go (a1K (brQ c) A B hB hA hBl) rfl).seen }
theorem a8A {C:Ctx} (c:cJ C):avI C :=
 {aFI c with
  gcd:=fun a b ha hb la lb=>(c.r34.go (boQ (aFI c) a b ha hb la lb) rfl).seen
  div:=fun a b ha hb la lb=>(c.r33.go (boO (aFI c) a b ha hb la lb) rfl).seen }
theorem bjV {C:Ctx} (c:cJ C):aXA C :=
 {a8A c with
  lowest:=fun neg a b ha hb la lb na nb h0=>(c.r58.go (a2I (a8A c) neg a b ha hb la lb na nb h0) rfl).seen
  size:=fun v hv=>c.r59.go (bjC v hv.1 hv.2) rfl }
theorem aFJ {C:Ctx} (c:cJ C):avJ C :=
 {bjV c with
  fmk:=fun n d hn hd=>(c.r50.go (biW (bjV c) n d hn hd) rfl).seen }
theorem a0L {C:Ctx} (c:cJ C):auQ C :=
 {aFJ c with
  int:=fun n hn=>(c.r47.go (bpC (aFJ c) n hn) rfl).seen
  mul:=fun a b ha hb la lb=>(c.r36.go (boS (a8B c) a b ha hb la lb) rfl).seen
  add:=fun a b ha hb la lb=>(c.r30.go (boK (aFK c) a b ha hb la lb) rfl).seen
  sub:=fun a b ha hb la lb=>(c.r37.go (boY (aFK c) a b ha hb la lb) rfl).seen }
theorem aFL {C:Ctx} (c:cJ C):YI C :=
 {a0L c with
  valid:=fun x hx=>c.r56.go (baX (a0L c) x.neg x.num x.den hx.1 hx.2.1 hx.2.2.1 hx.2.2.2) rfl
  big:=fun x=>c.r48.go (baG x.1 (aG x.2.1) (aG x.2.2)) rfl }
theorem a8C {C:Ctx} (c:cJ C):avL C :=
 {aFL c with
  fits:=fun x=>(c.r57.go (biR (aFL c) x) rfl).seen
  red:=fun x hx=>(c.r52.go (a2K (aFL c) x hx) rfl).seen
  prod:=fun a b ha hb la lb na nb=>c.r60.go (baV (a0L c) a b ha hb la lb na nb) rfl }
theorem NX {C:Ctx} (c:cJ C):vQ C :=
 {a8C c with
  order:=fun x y hx hy vx vy=>c.r51.go (baI (a8C c) x y hx hy vx vy) rfl }
theorem bjW {C:Ctx} (c:cJ C):aXB C :=
 {NX c with
  less:=fun x y hx hy vx vy=>c.r49.go (biU (NX c) x y hx hy vx vy) rfl
  same:=fun x y hx hy vx vy=>c.r53.go (biY (NX c) x y hx hy vx vy) rfl
  sign:=fun x hx vx=>c.r54.go (bjA (NX c) x hx vx) rfl
  plus:=fun x y hx hy=>(c.r46.go (bpA (NX c) x y hx hy) rfl).seen }
theorem aFH {C:Ctx} (c:cJ C):YF C :=
 {bjW c with
  sum:=fun l hl hf=>(c.r55.go (bpF (bjW c) l hl hf) rfl).seen
  inn:=fun n lo hi=>c.r76.go (a3Y n lo hi) rfl
  code:=fun k m=>c.r61.go (bhE k m) rfl }
theorem aSE {C:Ctx} (c:cJ C):aiM C :=
 {aFH c with
  small:=fun x hx=>c.r74.go (bcL (aFH c) x hx) rfl
  nums:=fun k m q s0 s1 s2 s3 s4=>c.r72.go (aMU (aFH c) k m q s0 s1 s2 s3 s4) rfl
  sizes:=fun x1 x2 x3 x4 x5 x6=>c.r73.go (bcJ x1 x2 x3 x4 x5 x6) rfl }
theorem aSF {C:Ctx} (c:cJ C):aiN C :=
 {aSE c with
  smalls:=fun l hl n=>c.r75.go (a3W (aSE c) l hl n) rfl }
theorem aSG {C:Ctx} (c:cJ C):aiO C :=
 {aSF c with
  reps:=fun l hl m=>c.r66.go (bpN (aSF c) l hl m) rfl }
theorem aSH {C:Ctx} (c:cJ C):aiP C :=
 have letter:∀ n:Nat,aD C 65 [.int .u8 n] .nil (aE (.bool (eT n))):=fun n=>c.r65.go (a3K n) rfl
 have digit:∀ n:Nat,aD C 63 [.int .u8 n] .nil (aE (.bool (kI n))):=fun n=>c.r63.go (bbO n) rfl
 {aSG c with
  name:=fun s=>c.r62.go (a3I letter (fun n=>c.r64.go (a3G letter digit n) rfl) s) rfl
  index:=fun l hl s=>c.r71.go (bcG l hl s) rfl }
theorem aSI {C:Ctx} (c:cJ C):nD C :=
 {aSH c with
  fresh:=fun l hl s w H hH=>c.r70.go (bcE (aSH c) l hl s w H hH) rfl }
theorem bnQ {C:Ctx} (c:cJ C):pK C :=
 {aSI c with
  law:=fun l hl=>c.r68.go (bpL (aSI c) l hl) rfl }
theorem bnR {C:Ctx} (c:cJ C):aiQ C :=
 {bnQ c with
  dur:=fun m rep hr t h ht hh=>c.r69.go (bpJ (aSG c) m rep hr t h ht hh) rfl }
theorem akQ {C:Ctx} (c:cJ C) (f:aJ) (hf:f.Ok):aD C 67 [.agg f.cells] .nil (aE (.bool (dS f))):=c.r67.go (bcP (bnR c) f hf) rfl
theorem brU {C:Ctx} (c:cJ C) (f:aJ) (l:List (List Int)) (hf:f.Ok) (hl:iV l):aD C 153 [.agg f.cells,lay l] .nil (aE (.bool (iU f l))) :=
 (c.r153.go (aML ⟨fun f hf=>(c.r161.go (a8Z (aOI c) f hf) rfl).seen,fun f l v hV hl hv hvf=>(c.r160.go (a1H ⟨fun f v hv h=>(c.r156.go (aGX f hv v h) rfl).seen⟩ f hV l hl v hv hvf) rfl).seen⟩ f hf l hl) rfl).seen
theorem brT {C:Ctx} (c:cJ C):a4C C :=
 {val:=aOI c
  valid:=akQ c
  shaped:=brU c
  rshaped:=fun f l hf hl=>c.r86.go (aMJ ⟨akQ c,fun f v hv h=>(c.r82.go (bhG f hv v h) rfl).seen,fun f row hl=>c.r89.go (boA f row hl) rfl⟩ f hf l hl) rfl }
theorem adI {C:Ctx} (c:cJ C) (l:List Int) (x:Int) (h:l.length≤1000000000000000):aD C 260 [ints l,.int .i64 x] .nil (aE (.bool (l.contains x))):=c.r260.go (aEQ l x (c.r261.go (a7O l h x) rfl)) rfl
theorem aFQ {C:Ctx} (c:cJ C):DF C :=
 {fmk:=(aFJ c).fmk
  next:=fun l T o n a hn ha=>c.r240.go (bdP l T.1 T.2 o n a hn ha) rfl }
theorem bjX {C:Ctx} (c:cJ C):oH C :=
 {aFQ c with
  frac:=fun n d h1 h2 h0=>c.r241.go (bdG (aFQ c) n d h1 h2 h0) rfl
  name:=fun ch n hn=>c.r242.go (bdN ch n hn) rfl }
theorem bvG {C:Ctx} (c:cJ C):BO C :=
 {bjX c with
  dom:=fun o7 ext w1 w2 wd w4 w5 w6 ds hds lev par up H0 hH=>c.r243.go (bkN (bjX c) o7 ext w1 w2 wd w4 w5 w6 ds hds lev par up H0 hH) rfl }
theorem bjY {C:Ctx} (c:cJ C):BP C :=
 {aFQ c with
  size:=fun f v hV h=>(c.r245.go (aGX f hV v h) rfl).seen
  has:=fun l x h=>c.r247.go (bnU l h x) rfl }
theorem bvH {C:Ctx} (c:cJ C):a4B C :=
 {aFQ c with
  fleet:=fun l T o vols a hv ha=>exactly (c.r244.go (a4Q (bvG c) T o vols a hv ha) rfl)
  layout:=fun l T o a f ha hF hV h1=>exactly (c.r246.go (aXX (bjY c) T o a ha f hF hV h1) rfl)
  rooms:=fun l T o a f ha hf hv h1=>exactly (c.r248.go (a4T (bjY c) T o a ha f hv h1 (c.r85.go (aGI ⟨akQ c⟩ f hf []) rfl)) rfl) }
theorem bES {C:Ctx} (c:cJ C) (s:rI C):bjJ C :=
 {begin:=fun n=>c.r144.go (bcV n) rfl
  step:=fun n p w e=>c.r145.go (boI n p w e) rfl
  same:=fun xs ys h=>c.r91.go (bnY xs ys h) rfl
  upd:=fun ws p w h1 h2=>(c.r146.go (boW s ws h1 h2 p w) rfl).brZ }
theorem bjZ {C:Ctx} (c:cJ C):aXC C 250 251 :=
 {usable:=fun f now r hf hl=>c.r250.go (a0E (brT c) f hf now hl r) rfl
  fits:=fun f now r down hu hl hd=>by
   obtain⟨h1,h2,h3,h4⟩:=nC hu
   exact c.r251.go (bfX ⟨adI c⟩ f (VF.of h1) now hl h2 r h3 h4 down hd) rfl }
theorem bnW {C:Ctx} (c:cJ C) (f:aJ) (now:List (List Int)) (r:Int) (hf:f.Ok) (hl:iV now):aD C 262 [.agg f.cells,lay now,.int .i64 r] .nil (aE (.int .i64 (pB f now r))):=c.r262.go (bbM (bjZ c) f hf now hl r) rfl
theorem bnV {C:Ctx} (c:cJ C) (f:aJ) (now:List (List Int)) (r:Int) (hf:f.Ok) (hl:iV now):aD C 264 [.agg f.cells,lay now,.int .i64 r] .nil (aE (aHD (sS f now r) (pB f now r))):=c.r264.go (bbK f now hl r (bnW c f now r hf hl)) rfl
theorem bnX {C:Ctx} (c:cJ C) (s:rI C) (f:aJ) (now:List (List Int)) (r:Int) (ws:List (List Int)) (hf:f.Ok) (hl:iV now) (h1:ws.length≤1000000) (h2:ws.flatten.length≤1000000):aD C 265 [.agg f.cells,lay now,.int .i64 r,lists ws] .nil (aE (.bool (oK f now r ws))) :=
 c.r265.go (bbR { bjZ c with concat:=s.concat,contains:=adI c } f hf now hl r ws h1 h2) rfl
theorem brY {C:Ctx} (c:cJ C) (s:rI C):a4D C :=
 {within:=fun x n hn=>c.r24.go (aZH x n hn) rfl
  awak:=c.r26.go (a4G (bES c s)) rfl
  made:=fun l T=>c.r249.go (bdL (bvH c) T) rfl }
theorem a0T {C:Ctx} (c:cJ C) (s:rI C) (r:aN C 273 MG) (l ord:List Int) (T:TpM l) (n:Int):aD C 273 [ints l,.int .i64 n,ints ord] .nil (aE (.bool true)) :=
 r.go (a5X { brY c s with next:=(aFQ c).next,bound:=bnV c,check:=bnX c s } l T n ord) rfl
end Go.PM
