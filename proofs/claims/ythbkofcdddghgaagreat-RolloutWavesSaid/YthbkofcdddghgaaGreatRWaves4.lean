/-
  Texts of ours, joined: RwW1 RwW2 MdCode R1Code R1W1 R1W2 R1W3 R1W4 MkPlain MdPlain Mv1 MdP2 MkCode MkW1 MkW2 MkW3 MkW4 MkW5 MkW6 MkW7 MkW8 MkW9 MkW10 MkW11 MkW12 MkW13 MkW14 MkW15 MkW16 MdW1 MdW2 MdW3 MdW4 MdW5 MdW6 MdW7 Md. No condition.
-/
import Derived.Test.YthbkofcdddghgaaGreatRWaves1
import Derived.Test.YthbkofcdddghgaaGreatRWaves2
import Derived.Test.YthbkofcdddghgaaGreatRWaves3
import Derived.Lib.ItoaNum
import Derived.Shelf.Sort.Plain
import Derived.Shelf.Slices.CompactI
import Derived.Shelf.Slices.In.SortNone
set_option linter.unusedSimpArgs false
set_option linter.unusedVariables false
open Nat renaming reduceEqDiff → γ, reduceAdd → δ, reduceSub → ε, reduceMul → ζ, reduceLT → η, reduceLeDiff → θ, reduceBEq → τ
open Int renaming reduceLT → ι, reduceLE → κ, reduceEq → μ, reduceToNat → ν, reduceAdd → ξ, reduceNeg → ο, reduceBEq → ρ, reduceBNe → σ
open List renaming reduceReplicate → υ
open List renaming length_map → bJO, range → bJP, replicate → bJR, getElem_mem → bJS, length_append → bJW, getElem?_eq_getElem → bJZ, length_singleton → bKC, mem_cons → bKE, take_of_length_le → bKF, length_take → bKG, getD_eq_getElem?_getD → bKH, all_eq_true → bKK, take_length → bKL, append_assoc → bKP, drop_zero → bKQ, getElem?_map → bKS, mem_map → bKU, mem_singleton → bKV, getElem?_eq_some_iff → bKY, mem_range → bKZ, mem_append → bLB, not_mem_nil → bLC, getElem?_eq_none → bLD, length_cons → bLG, map_append → bLK, take_succ_eq_append_getElem → bLL, append_nil → bLM, drop_eq_getElem_cons → bLN, length_set → bLO, length_drop → bLQ, map_cons → bLR, Sublist → bLU, getElem_of_mem → bLV, getElem?_append_right → bLX, getElem_map → bLY, length_nil → bLZ, nil_append → bMA, nodup_append → bMC, take_append_drop → bMD, getElem?_append_left → bMH, mem_of_getElem? → bMI, contains_iff_mem → bMN, set_append_right → bMQ, getElem?_take → bMU, drop_of_length_le → bMZ, getElem?_drop → bNA, length_replicate → bNB, eq_nil_of_length_eq_zero → bNC, getElem?_take_of_lt → bND
open Nat renaming le_refl → bJQ, gcd → bJT, zero_le → bJY, mul_add → bKB, lt_or_ge → bKI, mul_assoc → bKJ, zero_add → bKN, mul_comm → bKO, add_mul → bKR, mul_le_mul_right → bKT, mod_eq_of_lt → bKW, mod_lt → bLE, add_zero → bLH, pow_succ → bLI, min_eq_left → bLS, mul_le_mul_left → bLT, pos_of_ne_zero → bLW, add_assoc → bMB, pow_pos → bME, sub_self → bMF, div_lt_iff_lt_mul → bMJ, eq_zero_or_pos → bMO, div_add_mod → bMV, div_eq_of_lt → bMW
open Bool renaming false_and → bJU, not_true → bJV, true_and → bKA, not_false → bKD, and_eq_true → bKM, and_false → bLA, and_true → bLP, and_assoc → bMM, false_eq_true → bMP
open Option renaming map_eq_some_iff → bJX, map_some → bKX, some → bMG, getD_some → bMK, bind_eq_some_iff → bMR, bind_some → bMX
open Int renaming tdiv → bLF, toNat_natCast → bMT
open Array renaming replicate → bLJ, length_toList → bML, getElem?_eq_getElem → bMS, getElem?_eq_some_iff → bMY
namespace Go.PM
open Go Go.Na
structure SP (C:Ctx) (us ft:Nat):Prop where
 usable:∀ (f:aJ) (now:List (List Int)) (r:Int),f.Ok→eT now→aD C us [.agg f.cells,lay now,.int .i64 r] .nil (aE (.bool (fJ f now r)))
 fits:∀ (f:aJ) (now:List (List Int)) (r:Int) (down:List Int),fJ f now r=true→eT now→down.length≤1000000000000000→aD C ft [.agg f.cells,lay now,.int .i64 r,ints down] .nil (aE (.bool (fA f now r down)))
theorem bdI {C:Ctx} (Lb:SP C 250 251) (f:aJ) (hf:f.Ok) (now:List (List Int)) (hl:eT now) (r:Int) :
  CF.wp C (aU RU.res (aE (.int .i64 (fL f now r)))) (PF.args [.agg f.cells,lay now,.int .i64 r]) .nil:=by
 have hE:fL f now r=if fJ f now r then (if lK f now r then 0 else 116) else 1:=rfl
 simp only[go_sem,γ,δ,ε,ζ,η,θ,ι,κ,μ,ν,ξ,ο,ρ,σ,τ,υ,reduceIte,reduceCtorEq,CF,awC,awD,RU]
 refine aA (Lb.usable f now r hf hl) Ev ?_
 cases hu:fJ f now r with
 | false =>
  rw[hu] at hE
  simp only[go_sem,γ,δ,ε,ζ,η,θ,ι,κ,μ,ν,ξ,ο,ρ,σ,τ,υ,reduceIte,reduceCtorEq,awE]
  refine aL (.inr rfl) Ev ?_
  rw[aT,hE]; rfl
 | true =>
  rw[hu,if_pos rfl] at hE
  have hV:=VF.of (gV hu).1
  have hd:=hV.small.bHK
  simp only[go_sem,γ,δ,ε,ζ,η,θ,ι,κ,μ,ν,ξ,ο,ρ,σ,τ,υ,reduceIte,reduceCtorEq,awF,bJO]
  refine wp_loop (α:=Nat) (fun k=>(((((PF.nil.set 1 (lay now)).set 2 (.int .i64 r)).set 3 (.bH f.cells)).set 15 (.int .i64 (f.bHK.length:Nat))).set 16 (.int .i64 k))) (fun _=>.nil) (fun k=>k≤f.bHK.length∧wQ f now r k=true) (fun k=>f.bHK.length-k) 0 ⟨bJY _,rfl⟩ Lq PH.nil_le ?_
  rintro k ⟨hk,hok⟩
  simp only[go_sem,γ,δ,ε,ζ,η,θ,ι,κ,μ,ν,ξ,ο,ρ,σ,τ,υ,reduceIte,reduceCtorEq,awB,awG]
  by_cases hlt:k<f.bHK.length
  ·have bHR:(k:Int)<(f.bHK.length:Nat):=by omega
   have hs:=TR f now r k
   rw[hok,bKA] at hs
   simp only[go_sem,γ,δ,ε,ζ,η,θ,ι,κ,μ,ν,ξ,ο,ρ,σ,τ,υ,reduceIte,reduceCtorEq,bHR,awH,awI]
   refine aA (Lb.fits f now r [(k:Int)] hu hl (by simp)) Ev ?_
   cases bIZ:fA f now r [(k:Int)] with
   | false =>
    simp only[go_sem,γ,δ,ε,ζ,η,θ,ι,κ,μ,ν,ξ,ο,ρ,σ,τ,υ,reduceIte,reduceCtorEq,awJ]
    refine aL (.inr rfl) Ev ?_
    rw[aT,hE]
    have:=aoA hlt bIZ
    rw[show lK f now r=false from this]; rfl
   | true =>
    rw[bIZ] at hs
    simp only[go_sem,γ,δ,ε,ζ,η,θ,ι,κ,μ,ν,ξ,ο,ρ,σ,τ,υ,reduceIte,reduceCtorEq,awK,wZz k]
    exact aG (k+1) ⟨hlt,hs⟩ Om Lq PH.nil_le
  ·have bHR:¬ (k:Int)<(f.bHK.length:Nat):=by omega
   have:k=f.bHK.length:=by omega
   subst this
   simp only[go_sem,γ,δ,ε,ζ,η,θ,ι,κ,μ,ν,ξ,ο,ρ,σ,τ,υ,reduceIte,reduceCtorEq,bHR,aiT]
   refine aL (.inr rfl) Ev ?_
   rw[aT,hE,show lK f now r=true from hok]; rfl
theorem bjK {C:Ctx} (Lb:SP C 253 255) (f:aJ) (hf:f.Ok) (now:List (List Int)) (hl:eT now) (r:Int) :
  JI.wp C (aU ahD.res (aE (.int .i64 (fL f now r)))) (PF.args [.agg f.cells,lay now,.int .i64 r]) .nil:=by
 have hE:fL f now r=if fJ f now r then (if lK f now r then 0 else 116) else 1:=rfl
 simp only[go_sem,γ,δ,ε,ζ,η,θ,ι,κ,μ,ν,ξ,ο,ρ,σ,τ,υ,reduceIte,reduceCtorEq,JI,aNC,aND,ahD]
 refine aA (Lb.usable f now r hf hl) Ev ?_
 cases hu:fJ f now r with
 | false =>
  rw[hu] at hE
  simp only[go_sem,γ,δ,ε,ζ,η,θ,ι,κ,μ,ν,ξ,ο,ρ,σ,τ,υ,reduceIte,reduceCtorEq,aNE]
  refine aL (.inr rfl) Ev ?_
  rw[aT,hE]; rfl
 | true =>
  rw[hu,if_pos rfl] at hE
  have hV:=VF.of (gV hu).1
  have hd:=hV.small.bHK
  simp only[go_sem,γ,δ,ε,ζ,η,θ,ι,κ,μ,ν,ξ,ο,ρ,σ,τ,υ,reduceIte,reduceCtorEq,aNF]
  refine wp_loop (α:=Nat) (fun k=>((((PF.nil.set 1 (lay now)).set 2 (.int .i64 r)).set 3 (.bH f.cells)).set 7 (.int .i64 k))) (fun _=>.nil) (fun k=>k≤f.bHK.length∧wQ f now r k=true) (fun k=>f.bHK.length-k) 0 ⟨bJY _,rfl⟩ Lq PH.nil_le ?_
  rintro k ⟨hk,hok⟩
  simp only[go_sem,γ,δ,ε,ζ,η,θ,ι,κ,μ,ν,ξ,ο,ρ,σ,τ,υ,reduceIte,reduceCtorEq,aNB,aNG,bJO]
  by_cases hlt:k<f.bHK.length
  ·have bHR:(k:Int)<(f.bHK.length:Nat):=by omega
   have hs:=TR f now r k
   rw[hok,bKA] at hs
   simp only[go_sem,γ,δ,ε,ζ,η,θ,ι,κ,μ,ν,ξ,ο,ρ,σ,τ,υ,reduceIte,reduceCtorEq,bHR,aNH]
   refine aA (Lb.fits f now r [(k:Int)] hu hl (by simp)) Ev ?_
   cases bIZ:fA f now r [(k:Int)] with
   | false =>
    simp only[go_sem,γ,δ,ε,ζ,η,θ,ι,κ,μ,ν,ξ,ο,ρ,σ,τ,υ,reduceIte,reduceCtorEq,aNI]
    refine aL (.inr rfl) Ev ?_
    rw[aT,hE]
    have:=aoA hlt bIZ
    rw[show lK f now r=false from this]; rfl
   | true =>
    rw[bIZ] at hs
    simp only[go_sem,γ,δ,ε,ζ,η,θ,ι,κ,μ,ν,ξ,ο,ρ,σ,τ,υ,reduceIte,reduceCtorEq,aNJ,wZz k]
    exact aG (k+1) ⟨hlt,hs⟩ Om Lq PH.nil_le
  ·have bHR:¬ (k:Int)<(f.bHK.length:Nat):=by omega
   have:k=f.bHK.length:=by omega
   subst this
   simp only[go_sem,γ,δ,ε,ζ,η,θ,ι,κ,μ,ν,ξ,ο,ρ,σ,τ,υ,reduceIte,reduceCtorEq,bHR,aNK]
   refine aL (.inr rfl) Ev ?_
   rw[aT,hE,show lK f now r=true from hok]; rfl
def XD (a b:List (List Int)):Bool:=a==b
theorem alM {a b:List (List Int)} (h:a≠b):XD a b=false:=by unfold XD; simpa using h
theorem QF {α:Type} {a b:List α} {k:Nat} (ha:k<a.length) (hb:k<b.length) (h:a.take k=b.take k) (e:a[k]=b[k]):a.take (k+1)=b.take (k+1):=by
 rw[bLL ha,bLL hb,h,e]
abbrev DG (ws:List (List Int)):PV:=.sl 1 (ws.map fun w=>[ints w])
theorem biG {C:Ctx} (a b:List (List Int)) (ha:a.length≤1000000000000000) (hb:∀ w∈a,w.length≤1000000000000000) :
  IF.wp C (aU afM.res (aE (.bool (XD a b)))) (PF.args [DG a,DG b]) .nil:=by
 simp only[go_sem,γ,δ,ε,ζ,η,θ,ι,κ,μ,ν,ξ,ο,ρ,σ,τ,υ,reduceIte,reduceCtorEq,IF,aJU,aJV,afM,bJO]
 by_cases c:a.length=b.length
 ·simp only[go_sem,γ,δ,ε,ζ,η,θ,ι,κ,μ,ν,ξ,ο,ρ,σ,τ,υ,reduceIte,reduceCtorEq,c,bV (show ((b.length:Nat):Int)=(b.length:Nat) from rfl),aJX]
  refine wp_loop (α:=Nat) (fun k=>(((PF.nil.set 0 (DG a)).set 1 (DG b)).set 5 (.int .i64 k))) (fun _=>.nil) (fun k=>k≤a.length∧a.take k=b.take k) (fun k=>a.length-k) 0 ⟨bJY _,rfl⟩ Lq PH.nil_le ?_
  rintro k ⟨hk,hs⟩
  simp only[go_sem,γ,δ,ε,ζ,η,θ,ι,κ,μ,ν,ξ,ο,ρ,σ,τ,υ,reduceIte,reduceCtorEq,asU,aJY,bJO]
  by_cases hlt:k<a.length
  ·have bHR:(k:Int)<(a.length:Nat):=by omega
   have hltb:k<b.length:=by omega
   have hat:(a.map fun w=>[ints w])[k]?=some [ints a[k]]:=by simp[hlt]
   have hbt:(b.map fun w=>[ints w])[k]?=some [ints b[k]]:=by simp[hltb]
   have hw:=hb a[k] (bJS hlt)
   have bIM:=QF hlt hltb hs
   have hbad:a[k]≠b[k]→a≠b:=fun h e=>h (by subst e; rfl)
   generalize a[k]=x at *
   generalize b[k]=y at *
   simp only[go_sem,γ,δ,ε,ζ,η,θ,ι,κ,μ,ν,ξ,ο,ρ,σ,τ,υ,reduceIte,reduceCtorEq,bHR]
   refine bP .nil dX PH.nil_le ?_
   simp only[go_sem,γ,δ,ε,ζ,η,θ,ι,κ,μ,ν,ξ,ο,ρ,σ,τ,υ,reduceIte,reduceCtorEq,aJZ,hat,hbt,bJO]
   by_cases cl:x.length=y.length
   ·simp only[go_sem,γ,δ,ε,ζ,η,θ,ι,κ,μ,ν,ξ,ο,ρ,σ,τ,υ,reduceIte,reduceCtorEq,cl,bV (show ((y.length:Nat):Int)=(y.length:Nat) from rfl),aKB]
    refine wp_loop (α:=Nat) (fun j=>((((PF.nil.set 0 (DG a)).set 1 (DG b)).set 5 (.int .i64 k)).set 6 (.int .i64 j))) (fun _=>.nil) (fun j=>j≤x.length∧x.take j=y.take j) (fun j=>x.length-j) 0 ⟨bJY _,rfl⟩ Lq PH.nil_le ?_
    rintro j ⟨hj,hjs⟩
    simp only[go_sem,γ,δ,ε,ζ,η,θ,ι,κ,μ,ν,ξ,ο,ρ,σ,τ,υ,reduceIte,reduceCtorEq,asT,aKC,hat,bJO]
    by_cases jlt:j<x.length
    ·have jlt':(j:Int)<(x.length:Nat):=by omega
     have jltb:j<y.length:=by omega
     have hax:(x.map fun n=>[PV.int .i64 n])[j]?=some [.int .i64 x[j]]:=by simp[jlt]
     have hbx:(y.map fun n=>[PV.int .i64 n])[j]?=some [.int .i64 y[j]]:=by simp[jltb]
     simp only[go_sem,γ,δ,ε,ζ,η,θ,ι,κ,μ,ν,ξ,ο,ρ,σ,τ,υ,reduceIte,reduceCtorEq,jlt']
     refine bP .nil dX PH.nil_le ?_
     simp only[go_sem,γ,δ,ε,ζ,η,θ,ι,κ,μ,ν,ξ,ο,ρ,σ,τ,υ,reduceIte,reduceCtorEq,aKD,hat,hbt,hax,hbx]
     by_cases ce:x[j]=y[j]
     ·simp only[go_sem,γ,δ,ε,ζ,η,θ,ι,κ,μ,ν,ξ,ο,ρ,σ,τ,υ,reduceIte,reduceCtorEq,bV ce,asW,wZz j]
      exact aG (j+1) ⟨jlt,QF jlt jltb hjs ce⟩ Om Lq PH.nil_le
     ·simp only[go_sem,γ,δ,ε,ζ,η,θ,ι,κ,μ,ν,ξ,ο,ρ,σ,τ,υ,reduceIte,reduceCtorEq,cI ce,asV]
      refine aL (.inr rfl) Ev ?_
      rw[aT,alM (hbad fun e=>ce (by subst e; rfl))]
    ·have jlt':¬ (j:Int)<(x.length:Nat):=by omega
     have:j=x.length:=by omega
     subst this
     rw[bKL,cl,bKL] at hjs
     simp only[go_sem,γ,δ,ε,ζ,η,θ,ι,κ,μ,ν,ξ,ο,ρ,σ,τ,υ,reduceIte,reduceCtorEq,jlt',asX,wZz k]
     exact aG (k+1) ⟨hlt,bIM hjs⟩ Om Lq PH.nil_le
   ·simp only[go_sem,γ,δ,ε,ζ,η,θ,ι,κ,μ,ν,ξ,ο,ρ,σ,τ,υ,reduceIte,reduceCtorEq,cI (Om:((x.length:Nat):Int)≠(y.length:Nat)),aKA]
    refine aL (.inr rfl) Ev ?_
    rw[aT,alM (hbad fun e=>cl (by subst e; rfl))]
  ·have bHR:¬ (k:Int)<(a.length:Nat):=by omega
   have:k=a.length:=by omega
   subst this
   rw[bKL,c,bKL] at hs
   subst hs
   simp only[go_sem,γ,δ,ε,ζ,η,θ,ι,κ,μ,ν,ξ,ο,ρ,σ,τ,υ,reduceIte,reduceCtorEq,bHR,asY]
   refine aL (.inr rfl) Ev ?_
   rw[aT]
   unfold XD
   simp
 ·simp only[go_sem,γ,δ,ε,ζ,η,θ,ι,κ,μ,ν,ξ,ο,ρ,σ,τ,υ,reduceIte,reduceCtorEq,cI (Om:((a.length:Nat):Int)≠(b.length:Nat)),aJW]
  refine aL (.inr rfl) Ev ?_
  rw[aT,alM (fun e=>c (by subst e; rfl))]
def QH (a b:Int):PV:=.tup [.int .i64 a,.int .i64 b]
theorem bdG {C:Ctx} (f:aJ) (now:List (List Int)) (hl:eT now) (r:Int) (hc:aD C 262 [.agg f.cells,lay now,.int .i64 r] .nil (aE (.int .i64 (fL f now r)))) :
  CE.wp C (aU RS.res (aE (QH (tE f now r) (fL f now r)))) (PF.args [.agg f.cells,lay now,.int .i64 r]) .nil:=by
 have hB:tE f now r=if fL f now r=0 then fR f now r now.length else 0:=rfl
 simp only[go_sem,γ,δ,ε,ζ,η,θ,ι,κ,μ,ν,ξ,ο,ρ,σ,τ,υ,reduceIte,reduceCtorEq,CE,avS,avT,RS]
 refine aA hc Ev ?_
 by_cases c:fL f now r≠0
 ·rw[if_neg c] at hB
  simp only[go_sem,γ,δ,ε,ζ,η,θ,ι,κ,μ,ν,ξ,ο,ρ,σ,τ,υ,reduceIte,reduceCtorEq,RT,cI c,avU]
  refine aL (.inr rfl) Ev ?_
  rw[hB]; rfl
 have c:fL f now r=0:=Decidable.not_not.1 c
 obtain⟨hu,ha⟩:=tH c
 rw[if_pos c] at hB
 rw[hB,c]
 have hV:=VF.of (gV hu).1
 have hd:=hV.small.bHK
 have hrows:=hl.rows
 have hvl:=(gV hu).2.1
 obtain⟨-,-,h0,h4⟩:=gV hu
 simp only[go_sem,γ,δ,ε,ζ,η,θ,ι,κ,μ,ν,ξ,ο,ρ,σ,τ,υ,reduceIte,reduceCtorEq,RT,bV (show (0:Int)=0 from rfl),avV,avW,bJO]
 refine wp_loop (α:=Nat) (fun v=>((((((PF.nil.set 2 (.int .i64 r)).set 3 (.bH f.cells)).set 9 (.int .i64 (fR f now r v))).set 29 (lay now)).set 30 (.int .i64 (now.length:Nat))).set 31 (.int .i64 v))) (fun _=>.nil) (fun v=>v≤now.length) (fun v=>now.length-v) 0 (bJY _) ?_ PH.nil_le ?_
 ·have:fR f now r 0=if (1:Int)<(f.bHK.length:Nat) then 1 else ((f.bHK.length:Nat):Int):=by
   unfold fR; split<;>omega
  (repeat' (first|exact PF.nil_le|refine PF.aI ?_ ?_))<;>first|(simp only[go_sem,γ,δ,ε,ζ,η,θ,ι,κ,μ,ν,ξ,ο,ρ,σ,τ,υ,reduceIte,reduceCtorEq,this,bJO]<;>rfl)|rfl
 intro v hv
 simp only[go_sem,γ,δ,ε,ζ,η,θ,ι,κ,μ,ν,ξ,ο,ρ,σ,τ,υ,reduceIte,reduceCtorEq,aiJ,avX]
 by_cases hlt:v<now.length
 ·have bHR:(v:Int)<(now.length:Nat):=by omega
  have hat:(now.map fun r=>[ints r])[v]?=some [ints now[v]]:=by simp[hlt]
  have hgd:now.getD v []=now[v]:=by simp[bKH,hlt]
  have hv2:v<f.bHM.length:=by omega
  obtain⟨hp,he⟩:=nM hV hv2
  have u:=vG hu hlt
  have hskip:=zQ (f:=f) (now:=now) (r:=r) (v:=v)
  have hgo:=LW (f:=f) (now:=now) (r:=r) (v:=v)
  have hpos:=XC hu ha hlt
  have hbl:=qS hu ha (v+1) hlt
  have hbl0:=qS hu ha v Om
  have hbn:=kM f now r v
  have hbn1:=kM f now r (v+1)
  rw[hgd] at u hskip hgo hpos
  generalize now[v]=row at *
  simp only[go_sem,γ,δ,ε,ζ,η,θ,ι,κ,μ,ν,ξ,ο,ρ,σ,τ,υ,reduceIte,reduceCtorEq,bHR,avY,hat,avZ]
  refine aQ fun o ho=>?_
  simp only[go_sem,γ,δ,ε,ζ,η,θ,ι,κ,μ,ν,ξ,ο,ρ,σ,τ,υ,reduceIte,reduceCtorEq,awA,aiK,bJO]
  refine wp_loop (α:=Nat) (fun k=>((((((((((((PF.nil.set 2 (.int .i64 r)).set 3 (.bH f.cells)).set 9 (.int .i64 (fR f now r v))).set 10 (.int .i64 v)).set 12 (.map o)).set 13 (.int .i64 ((bE (row.take k)).length:Nat))).set 29 (lay now)).set 30 (.int .i64 (now.length:Nat))).set 31 (.int .i64 v)).set 37 (ints row)).set 38 (.int .i64 (row.length:Nat))).set 39 (.int .i64 k)))
   (fun k=>PH.nil.set o (.map (false,[.int .i64]) (zA (bE (row.take k))))) (fun k=>k≤row.length) (fun k=>row.length-k) 0 (bJY _) (by (repeat' (first|exact PF.nil_le|refine PF.aI ?_ ?_))<;>first|(simp only[go_sem,γ,δ,ε,ζ,η,θ,ι,κ,μ,ν,ξ,ο,ρ,σ,τ,υ,reduceIte,reduceCtorEq,List.take_zero,bJO]<;>rfl)|rfl) ?_ ?_
  ·rw[List.take_zero,show bE []=[] from rfl,bbE]; exact PH.le_refl
  intro k hk
  have hkl:=GZ (row.take k)
  rw[bKG] at hkl
  simp only[go_sem,γ,δ,ε,ζ,η,θ,ι,κ,μ,ν,ξ,ο,ρ,σ,τ,υ,reduceIte,reduceCtorEq,aiI,aiL]
  by_cases klt:k<row.length
  ·have klt':(k:Int)<(row.length:Nat):=by omega
   have hra:(row.map fun n=>[PV.int .i64 n])[k]?=some [.int .i64 row[k]]:=by simp[klt]
   have hs:=UJ klt
   by_cases cg:0≤row[k]
   ·rw[if_pos cg] at hs
    have hlen:(bE (row.take (k+1))).length=(bE (row.take k)).length+1:=by rw[hs,bJW]; rfl
    simp only[go_sem,γ,δ,ε,ζ,η,θ,ι,κ,μ,ν,ξ,ο,ρ,σ,τ,υ,reduceIte,reduceCtorEq,klt',JV,hra,JW,show row[k]≥0 from cg,aiM,bbF,aiN,dC (Om:(bE (row.take k)).length<9223372036854775807),JX,wZz k]
    refine aG (k+1) klt Om (by (repeat' (first|exact PF.nil_le|refine PF.aI ?_ ?_))<;>first|(simp only[go_sem,γ,δ,ε,ζ,η,θ,ι,κ,μ,ν,ξ,ο,ρ,σ,τ,υ,reduceIte,reduceCtorEq,hlen]<;>rfl)|rfl) ?_
    rw[hs]
    exact PH.aI PH.nil_le Sq
   ·rw[if_neg cg,bLM] at hs
    simp only[go_sem,γ,δ,ε,ζ,η,θ,ι,κ,μ,ν,ξ,ο,ρ,σ,τ,υ,reduceIte,reduceCtorEq,klt',JV,hra,JW,show ¬ row[k]≥0 from cg,JX,wZz k]
    refine aG (k+1) klt Om (by (repeat' (first|exact PF.nil_le|refine PF.aI ?_ ?_))<;>first|(simp only[go_sem,γ,δ,ε,ζ,η,θ,ι,κ,μ,ν,ξ,ο,ρ,σ,τ,υ,reduceIte,reduceCtorEq,hs]<;>rfl)|rfl) ?_
    rw[hs]
    exact PH.le_refl
  ·have klt':¬ (k:Int)<(row.length:Nat):=by omega
   have:k=row.length:=by omega
   subst this
   rw[bKL] at hkl
   have hfull:=agW (bE row)
   have hzero:=a5P (bE row)
   have hule:=ZO (bE row)
   simp only[go_sem,γ,δ,ε,ζ,η,θ,ι,κ,μ,ν,ξ,ο,ρ,σ,τ,υ,reduceIte,reduceCtorEq,klt',bKL,aiO,a5A,aiP]
   by_cases cz:(jT (bE row)).length=0
   ·have hn:¬ ((bE row).Nodup∧bE row≠[]):=fun h=>h.2 (hzero.1 cz)
    simp only[go_sem,γ,δ,ε,ζ,η,θ,ι,κ,μ,ν,ξ,ο,ρ,σ,τ,υ,reduceIte,reduceCtorEq,bX (show (((jT (bE row)).length:Nat):Int)=0 by omega),vN,wZz v]
    exact aG (v+1) hlt Om (by (repeat' (first|exact PF.nil_le|refine PF.aI ?_ ?_))<;>first|(simp only[go_sem,γ,δ,ε,ζ,η,θ,ι,κ,μ,ν,ξ,ο,ρ,σ,τ,υ,reduceIte,reduceCtorEq,hskip hn]<;>rfl)|rfl) PH.nil_le
   ·simp only[go_sem,γ,δ,ε,ζ,η,θ,ι,κ,μ,ν,ξ,ο,ρ,σ,τ,υ,reduceIte,reduceCtorEq,bG (show (((jT (bE row)).length:Nat):Int)≠0 by omega)]
    by_cases cn:(jT (bE row)).length=(bE row).length
    ·have hy:(bE row).Nodup∧bE row≠[]:=⟨hfull.1 cn,fun e=>cz (hzero.2 e)⟩
     have h1:=hpos hy
     have h2:=hgo hy rfl rfl
     obtain⟨u1,-,u3,u4,u5,u6⟩:=u
     rw[cn]
     have w1:IntKind.i64.wrap ((((bE row).length:Nat):Int)-(cY f v).k)=(((bE row).length:Nat):Int)-(cY f v).k:=wrap_i64 Om Om
     have w2:IntKind.i64.wrap ((((bE row).length:Nat):Int)-(cY f v).k-r)=(((bE row).length:Nat):Int)-(cY f v).k-r:=wrap_i64 Om Om
     simp only[go_sem,γ,δ,ε,ζ,η,θ,ι,κ,μ,ν,ξ,ο,ρ,σ,τ,υ,reduceIte,reduceCtorEq,bV (show (((bE row).length:Nat):Int)=((bE row).length:Nat) from rfl)]
     refine bP .nil dX PH.nil_le ?_
     simp only[go_sem,γ,δ,ε,ζ,η,θ,ι,κ,μ,ν,ξ,ο,ρ,σ,τ,υ,reduceIte,reduceCtorEq,aiQ,rN hv2,hV.PK hv2,mP hp,he,w1,w2]
     have he10:(((bE row).length:Nat):Int)-(cY f v).k-r≤10:=by omega
     generalize (((bE row).length:Nat):Int)-(cY f v).k-r=e at *
     have w3:IntKind.i64.wrap ((((bE row).length:Nat):Int)+e)=(((bE row).length:Nat):Int)+e:=wrap_i64 Om Om
     have w4:IntKind.i64.wrap ((((bE row).length:Nat):Int)+e-1)=(((bE row).length:Nat):Int)+e-1:=wrap_i64 Om Om
     have he0:¬ e=0:=by omega
     have hq0:0≤bLF ((((bE row).length:Nat):Int)+e-1) e:=Int.tdiv_nonneg Om Om
     have w5:IntKind.i64.wrap (bLF ((((bE row).length:Nat):Int)+e-1) e)=bLF ((((bE row).length:Nat):Int)+e-1) e:=wrap_i64 Om (by
      have:bLF ((((bE row).length:Nat):Int)+e-1) e≤100:=by
       rw[h2] at hbl; split at hbl<;>omega
      omega)
     simp only[go_sem,γ,δ,ε,ζ,η,θ,ι,κ,μ,ν,ξ,ο,ρ,σ,τ,υ,reduceIte,reduceCtorEq,aiR,w3,w4,he0,w5,vN,wZz v]
     exact aG (v+1) hlt Om (by (repeat' (first|exact PF.nil_le|refine PF.aI ?_ ?_))<;>first|(simp only[go_sem,γ,δ,ε,ζ,η,θ,ι,κ,μ,ν,ξ,ο,ρ,σ,τ,υ,reduceIte,reduceCtorEq,h2]<;>rfl)|rfl) PH.nil_le
    ·have hn:¬ ((bE row).Nodup∧bE row≠[]):=fun h=>cn (hfull.2 h.1)
     simp only[go_sem,γ,δ,ε,ζ,η,θ,ι,κ,μ,ν,ξ,ο,ρ,σ,τ,υ,reduceIte,reduceCtorEq,cI (show (((jT (bE row)).length:Nat):Int)≠((bE row).length:Nat) by omega),vN,wZz v]
     exact aG (v+1) hlt Om (by (repeat' (first|exact PF.nil_le|refine PF.aI ?_ ?_))<;>first|(simp only[go_sem,γ,δ,ε,ζ,η,θ,ι,κ,μ,ν,ξ,ο,ρ,σ,τ,υ,reduceIte,reduceCtorEq,hskip hn]<;>rfl)|rfl) PH.nil_le
 ·have bHR:¬ (v:Int)<(now.length:Nat):=by omega
  have:v=now.length:=by omega
  subst this
  simp only[go_sem,γ,δ,ε,ζ,η,θ,ι,κ,μ,ν,ξ,ο,ρ,σ,τ,υ,reduceIte,reduceCtorEq,bHR,aiS]
  refine aL (.inr rfl) Ev ?_
  rfl
def aAT:Rg:=[iI 4 0]
def aAU:Rg:=[iM 7 0,iA 8 (.bHZ (Tm 7)),iF 9 1 8,iL 10 9,iC 11 .rem 10 3,iM 5 11]
def aAV:Rd:=[(iM 12 0,false),(iA 13 (.bHZ (Tm 12)),false),(iF 14 1 13,false),(iL 15 14,false),(iM 16 0,false),(iA 17 (.bHZ (Tm 16)),false),(iF 18 0 17,false),(iL 19 18,false),(iN 20 19,false),(iB 21 .lss 15 20,false)]
def aAW:Rd:=[(iM 22 0,false),(iA 23 (.bHZ (Tm 22)),false),(iF 24 0 23,false),(iL 25 24,false),(iM 26 0,false),(iA 27 (.bHZ (Tm 26)),false),(iF 28 1 27,false),(iL 29 28,false),(iX 30 1 25 29,false),(iL 31 30,false),(iM 5 31,false)]
def WW:Rg:=[iM 32 0,iA 33 (.bHZ (Tm 32)),iF 34 1 33,iL 35 34,iC 36 .add 35 1,iA 37 (.bHZ (Tm 32)),iF 38 1 37,iS 1 38 36]
def WX:Rg:=[iM 39 1,iC 40 .lss 39 1]
def WY:Rg:=[iI 4 0]
def WZ:Rg:=[iM 41 5,iM 42 1,iB 43 .rem 41 42,iM 6 43]
def XA:Rg:=[iM 44 6,iC 45 .lss 44 0]
def XB:Rg:=[iM 46 6,iM 47 1,iB 48 .add 46 47,iM 4 48]
def MH:Rg:=[iM 49 6,iM 4 49]
def FU:aC:=(sq aAT (sq aAU (.seq (dq aAV (.cond (Tm 21) (.draw aAW) .skip)) (sq WW (.seq (sq WX (.cond (Tm 40) (sq WY .ret) .skip)) (sq WZ (.seq (sq XA (.cond (Tm 45) (sq XB .ret) .skip)) (sq MH .ret))))))))
def bfO:List Nat:=[]
def FT:aW:=⟨2,50,FU,[.tmp 4]⟩
def aAG:Rg:=[iA 4 (.alloc [(.bool false),.aB,.aB])]
def aAH:Rg:=[iM 8 0,iM 9 1,iK2 10 50 8 9,iM 7 10,iE 11 7 0,iE 12 7 1,iA 5 (.alloc [(.bool false),.aB,.aB]),iS 3 5 11,iM 6 12]
def aAI:Rg:=[iO 13 3 5,iS 3 4 13]
def FO:aC:=(sq aAG (sq aAH (sq aAI .ret)))
def bfF:List Nat:=[]
def abX:aW:=⟨2,14,FO,[.cell 4 (some 3)]⟩
def aAR:Rg:=[iA 4 (.mv (.const (.str [])))]
def aAS:Rg:=[iM 5 0,iM 6 1,iC 7 .quo 6 26,iC 8 .rem 7 26,iA 9 (.bin .add (Ci 97) (Tm 8)),iA 10 (.conv .u8 (Tm 9)),iM 11 1,iC 12 .rem 11 26,iA 13 (.bin .add (Ci 97) (Tm 12)),iA 14 (.conv .u8 (Tm 13)),iA 15 (.bHQ true 1 3 [(.int .u8 0)] [(0,(Tm 5)),(1,(Tm 10)),(2,(Tm 14))]),iA 16 (.bIA (Tm 15)),iM 4 16]
def FS:aC:=(sq aAR (sq aAS .ret))
def bfM:List Nat:=[15]
def acJ:aW:=⟨2,17,FS,[.tmp 4]⟩
def aRI:Rg:=[iI 8 0]
def aRJ:Rg:=[iM 10 0,iA 11 (.bHZ (Tm 10)),iF 12 3 11,iL 13 12,iN 14 13,iM 9 14]
def aRK:Rd:=[(iM 15 0,true),(iM 16 0,true),(iA 17 (.bHZ (Tm 16)),true),(iF 18 3 17,true),(iL 19 18,true),(iM 20 9,false),(iA 21 (.call 242 [(.const (.int .u8 110)),(Tm 20)]),true),(iM 22 1,true),(iM 23 2,true),(iM 24 3,true),(iA 25 (.call 241 [(Ci 0),(Ci 1)]),true),(iA 26 (.build [(.str []),(.int .i64 0),(.int .i64 0),(.int .i64 0),(.bool false),.aB,.aB] [(0,1,(Tm 21)),(1,1,(Tm 22)),(2,1,(Tm 23)),(3,1,(Tm 24)),(4,3,(Tm 25))]),false),(iA 27 (.bHQ true 7 1 [(.str []),(.int .i64 0),(.int .i64 0),(.int .i64 0),(.bool false),.aB,.aB] [(0,(Tm 26))]),false),(iA 28 (.append 7 96 (Tm 19) (Tm 27)),true),(iA 29 (.bHZ (Tm 15)),false),(iF 30 3 29,false)]
def aRL:Rd:=[(iS 1 30 28,true)]
def aRM:Rg:=[iM 31 9,iM 8 31]
def MD:aC:=(sq aRI (sq aRJ (.seq (dq aRK (.draw aRL)) (sq aRM .ret))))
def blK:List Nat:=[27]
def aAE:aW:=⟨4,32,MD,[.tmp 8]⟩
def aoO:Rg:=[iA 4 (.alloc [(.int .i64 0),.aB,.aB,.aB,.aB,.aB,.aB])]
def aoP:Rg:=[iM 20 0,iA 21 (.call 240 [(Tm 20),(Ci 2)]),iA 22 (.bin .add (Ci 1) (Tm 21)),iA 23 (.build [(.int .i64 0),.aB,.aB,.aB,.aB,.aB,.aB] [(0,1,(Tm 22))]),iA 5 (.alloc [(.int .i64 0),.aB,.aB,.aB,.aB,.aB,.aB]),iS 7 5 23]
def aoQ:Rg:=[iA 24 (.call 241 [(Ci 1),(Ci 1)]),iA 25 (.bHQ true 3 1 [(.bool false),.aB,.aB] [(0,(Tm 24))]),iA 26 (.call 241 [(Ci 0),(Ci 1)]),iA 27 (.bHQ true 3 1 [(.bool false),.aB,.aB] [(0,(Tm 26))]),iA 28 (.bHQ true 1 1 [.aB] [(0,(Tm 27))]),iM 29 0,iA 30 (.call 240 [(Tm 29),(Ci 100)]),iA 31 (.bin .add (Ci 100) (Tm 30)),iA 32 (.call 241 [(Ci 1),(Tm 31)]),iA 33 (.bHQ true 3 1 [(.bool false),.aB,.aB] [(0,(Tm 32))]),iA 34 (.build [(.str []),.aB,.aB,.aB] [(0,1,(.const (.str [100,105,115,107]))),(1,1,(Tm 25)),(2,1,(Tm 28)),(3,1,(Tm 33))]),iA 35 (.bHQ true 4 1 [(.str []),.aB,.aB,.aB] [(0,(Tm 34))]),iF 36 1 5,iS 1 36 35]
def aoR:Rg:=[iM 37 0,iA 38 (.call 240 [(Tm 37),(Ci 2)]),iA 39 (.bin .add (Ci 3) (Tm 38)),iM 40 0,iA 41 (.call 240 [(Tm 40),(Ci 9)]),iA 42 (.bin .add (Ci 8) (Tm 41)),iA 43 (.build [(.str []),(.int .i64 0),(.int .i64 0),(.int .i64 0)] [(0,1,(.const (.str [98,105,103]))),(1,1,(Tm 39)),(2,1,(Tm 42)),(3,1,(Ci 0))]),iM 44 0,iA 45 (.call 240 [(Tm 44),(Ci 3)]),iA 46 (.bin .add (Ci 1) (Tm 45)),iM 47 0,iA 48 (.call 240 [(Tm 47),(Ci 9)]),iA 49 (.bin .add (Ci 4) (Tm 48)),iA 50 (.build [(.str []),(.int .i64 0),(.int .i64 0),(.int .i64 0)] [(0,1,(.const (.str [111,108,100]))),(1,1,(Tm 46)),(2,1,(Tm 49)),(3,1,(Ci 0))]),iA 51 (.bHQ true 4 2 [(.str []),(.int .i64 0),(.int .i64 0),(.int .i64 0)] [(0,(Tm 43)),(1,(Tm 50))]),iF 52 2 5,iS 1 52 51]
def aoS:Rg:=[iA 53 (.call 241 [(Ci 0),(Ci 1)]),iA 54 (.build [(.str []),(.int .i64 0),(.int .i64 0),(.int .i64 0),(.bool false),.aB,.aB] [(2,1,(Ci (-1))),(4,3,(Tm 53))]),iA 55 (.bHQ false 7 1 [(.str []),(.int .i64 0),(.int .i64 0),(.int .i64 0),(.bool false),.aB,.aB] [(0,(Tm 54))]),iF 56 3 5,iS 1 56 55]
def aoT:Rg:=[iM 57 0,iA 58 (.call 240 [(Tm 57),(Ci 3)]),iA 59 (.bin .add (Ci 3) (Tm 58)),iM 6 59]
def aoU:Rg:=[iI 7 0,iI 8 0,iI 9 0]
def aoV:Rg:=[iI 10 0]
def aoW:Rg:=[iM 60 10,iM 61 6,iB 62 .lss 60 61]
def aoX:Rg:=[iM 65 10,iC 66 .eql 65 0,iM 67 66,gM 68 0 67 false,iG 69 (.call 240 [(Tm 68),(Ci 4)]) 67 false,gC 70 .eql 69 0 67 false,iQ 71 67 70]
def EY:Rg:=[iM 72 0,iA 73 (.call 240 [(Tm 72),(Ci 17)]),iA 74 (.bin .add (Ci 16) (Tm 73)),iA 75 (.call 243 [(Tm 5),(Ci 1),(Ci 0),(Tm 74)]),iM 7 75]
def EZ:Rg:=[iM 76 7,iM 77 0,iA 78 (.call 240 [(Tm 77),(Ci 17)]),iA 79 (.bin .add (Ci 16) (Tm 78)),iA 80 (.call 243 [(Tm 5),(Ci 2),(Tm 76),(Tm 79)]),iM 8 80]
def FA:Rg:=[iM 81 8,iM 82 0,iA 83 (.call 240 [(Tm 82),(Ci 9)]),iA 84 (.bin .add (Ci 8) (Tm 83)),iA 85 (.call 243 [(Tm 5),(Ci 3),(Tm 81),(Tm 84)]),iM 9 85]
def abC:Rg:=[iM 86 0,iA 87 (.call 240 [(Tm 86),(Ci 2)]),iC 88 .eql 87 0]
def abD:Rg:=[iM 89 8,iM 90 0,iA 91 (.call 240 [(Tm 90),(Ci 9)]),iA 92 (.bin .add (Ci 8) (Tm 91)),iA 93 (.call 243 [(Tm 5),(Ci 3),(Tm 89),(Tm 92)]),iM 9 93]
def uL:Rg:=[iM 94 9,iM 95 0,iA 96 (.call 240 [(Tm 95),(Ci 9)]),iA 97 (.bin .add (Ci 8) (Tm 96)),iA 98 (.call 243 [(Tm 5),(Ci 4),(Tm 94),(Tm 97)]),iM 11 98]
def uM:Rg:=[iM 99 0,iA 100 (.call 240 [(Tm 99),(Ci 2)]),iA 101 (.bin .add (Ci 1) (Tm 100)),iM 12 101]
def abE:Rg:=[iM 102 12,iC 103 .gtr 102 0,iM 104 103,gF 105 4 5 104 true,gL 106 105 104 true,gN 107 106 104 true,gC 108 .lss 107 9 104 true,iP 109 104 108]
def abF:Rg:=[iI 13 0]
def abG:Rg:=[iM 112 0,iA 113 (.call 240 [(Tm 112),(Ci 4)]),iC 114 .eql 113 0]
def abH:Rg:=[iI 13 1]
def FB:Rd:=[(iF 115 4 5,true),(iL 116 115,true),(iF 117 4 5,false),(iL 118 117,false),(iN 119 118,false),(iA 120 (.call 242 [(.const (.int .u8 100)),(Tm 119)]),true),(iM 121 13,true),(iM 122 11,true),(iA 123 (.build [(.str []),(.int .i64 0),(.int .i64 0)] [(0,1,(Tm 120)),(1,1,(Tm 121)),(2,1,(Tm 122))]),false),(iA 124 (.bHQ true 3 1 [(.str []),(.int .i64 0),(.int .i64 0)] [(0,(Tm 123))]),false),(iA 125 (.append 3 32 (Tm 116) (Tm 124)),true),(iF 126 4 5,false)]
def FC:Rd:=[(iS 1 126 125,true)]
def FD:Rg:=[iM 110 12,iC 111 .sub 110 1,iM 12 111]
def qU:aC:=(.seq (sq abE (.cond (Tm 109) .skip (.exit 2))) (.seq (.block 3 (sq abF (.seq (sq abG (.cond (Tm 114) (.region abH) .skip)) (dq FB (.draw FC))))) (.region FD)))
def FF:Rg:=[iM 63 10,iC 64 .add 63 1,iM 10 64]
def EU:aC:=(.seq (sq aoW (.cond (Tm 62) .skip (.exit 0))) (.seq (.block 1 (.seq (sq aoX (.cond (Tm 71) (sq EY (sq EZ (.region FA))) (sq abC (.cond (Tm 88) (.region abD) .skip)))) (sq uL (sq uM (.block 2 (.loop qU)))))) (.region FF)))
def abI:Rg:=[iM 127 0,iA 128 (.call 240 [(Tm 127),(Ci 2)]),iA 129 (.bin .add (Ci 1) (Tm 128)),iM 14 129]
def abJ:Rg:=[iM 130 14,iC 131 .gtr 130 0]
def FG:Rg:=[iM 134 0,iA 135 (.call 240 [(Tm 134),(Ci 2)]),iA 136 (.bin .add (Ci 1) (Tm 135)),iM 15 136]
def FH:Rg:=[iM 137 0,iA 138 (.call 240 [(Tm 137),(Ci 3)]),iM 16 138]
def FI:Rg:=[iM 139 14,iA 140 (.call 242 [(.const (.int .u8 112)),(Tm 139)]),iM 141 15,iM 142 16,iM 143 15,iM 144 0,iM 145 16,iC 146 .add 145 1,iK2 147 240 144 146,iB 148 .add 143 147,iA 149 (.bHQ true 1 2 [(.int .i64 0)] [(0,(Ci 0)),(1,(Ci 1))]),iA 150 (.call 241 [(Ci 1),(Ci 1000)]),iA 151 (.call 241 [(Ci 30),(Ci 1)]),iA 152 (.build [(.str []),(.int .i64 0),(.int .i64 0),(.int .i64 0),(.int .i64 0),(.int .i64 0),(.int .i64 0),(.int .i64 0),(.int .i64 0),.aB,.aB,(.bool false),.aB,.aB,(.bool false),.aB,.aB] [(0,1,(Tm 140)),(1,1,(Tm 141)),(2,1,(Tm 142)),(3,1,(Tm 148)),(9,1,(Tm 149)),(11,3,(Tm 150)),(14,3,(Tm 151))]),iA 17 (.alloc [(.str []),(.int .i64 0),(.int .i64 0),(.int .i64 0),(.int .i64 0),(.int .i64 0),(.int .i64 0),(.int .i64 0),(.int .i64 0),.aB,.aB,(.bool false),.aB,.aB,(.bool false),.aB,.aB]),iS 17 17 152]
def FJ:Rg:=[iM 153 0,iA 154 (.call 240 [(Tm 153),(Ci 4)]),iF 155 4 17,iA 156 (.idxA 5 1 (Tm 155) (Ci 3)),iS 1 156 154]
def FK:Rg:=[iM 157 0,iA 158 (.call 240 [(Tm 157),(Ci 3)]),iF 159 4 17,iA 160 (.idxA 5 1 (Tm 159) (Ci 4)),iS 1 160 158]
def FL:Rg:=[iM 161 0,iA 162 (.call 240 [(Tm 161),(Ci 5)]),iC 163 .eql 162 0]
def FN:Rg:=[iA 164 (.bHQ true 1 1 [(.int .i64 0)] [(0,(Ci 0))]),iF 165 9 17,iS 1 165 164]
def abK:Rg:=[iI 18 0]
def abL:Rg:=[iM 166 18,iM 167 16,iA 168 (.bIL true (Tm 167) (Ci 1)),iB 169 .lss 166 168]
def abM:Rd:=[(iF 172 10 17,true),(iL 173 172,true),(iA 174 (.call 241 [(Ci 1),(Ci 2)]),true),(iA 175 (.bHQ true 3 1 [(.bool false),.aB,.aB] [(0,(Tm 174))]),false),(iA 176 (.append 3 56 (Tm 173) (Tm 175)),true),(iF 177 10 17,false)]
def abN:Rd:=[(iS 1 177 176,true)]
def abO:Rg:=[iM 170 18,iC 171 .add 170 1,iM 18 171]
def EV:aC:=(.seq (sq abL (.cond (Tm 169) .skip (.exit 6))) (.seq (.block 7 (dq abM (.draw abN))) (.region abO)))
def abP:Rg:=[iF 178 5 5,iL 179 178,iO 180 17 17,iA 181 (.bHQ true 17 1 [(.str []),(.int .i64 0),(.int .i64 0),(.int .i64 0),(.int .i64 0),(.int .i64 0),(.int .i64 0),(.int .i64 0),(.int .i64 0),.aB,.aB,(.bool false),.aB,.aB,(.bool false),.aB,.aB] [(0,(Tm 180))]),iA 182 (.append 17 240 (Tm 179) (Tm 181)),iF 183 5 5,iS 1 183 182]
def abQ:Rg:=[iM 132 14,iC 133 .sub 132 1,iM 14 133]
def EW:aC:=(.seq (sq abJ (.cond (Tm 131) .skip (.exit 4))) (.seq (.block 5 (sq FG (sq FH (sq FI (sq FJ (sq FK (.seq (sq FL (.cond (Tm 163) (.region FN) .skip)) (.seq (sq abK (.block 6 (.loop EV))) (.region abP))))))))) (.region abQ)))
def abR:Rg:=[iM 184 0,iM 185 1,iK2 186 240 184 185,iA 187 (.bin .add (Ci 1) (Tm 186)),iM 19 187]
def abS:Rg:=[iM 188 19,iC 189 .gtr 188 0]
def abT:Rd:=[(iF 192 6 5,true),(iL 193 192,true),(iM 194 19,false),(iA 195 (.call 242 [(.const (.int .u8 118)),(Tm 194)]),true),(iM 196 0,true),(iF 197 5 5,true),(iL 198 197,true),(iN 199 198,true),(iK2 200 240 196 199,true),(iA 201 (.build [(.str []),(.int .i64 0)] [(0,1,(Tm 195)),(1,1,(Tm 200))]),false),(iA 202 (.bHQ true 2 1 [(.str []),(.int .i64 0)] [(0,(Tm 201))]),false),(iA 203 (.append 2 24 (Tm 193) (Tm 202)),true),(iF 204 6 5,false)]
def abU:Rd:=[(iS 1 204 203,true)]
def abV:Rg:=[iM 190 19,iC 191 .sub 190 1,iM 19 191]
def EX:aC:=(.seq (sq abS (.cond (Tm 189) .skip (.exit 8))) (.seq (.block 9 (dq abT (.draw abU))) (.region abV)))
def abW:Rg:=[iO 205 7 5,iS 7 4 205]
def zU:aC:=(sq aoO (sq aoP (sq aoQ (sq aoR (sq aoS (sq aoT (sq aoU (.seq (sq aoV (.block 0 (.loop EU))) (.seq (sq abI (.block 4 (.loop EW))) (.seq (sq abR (.block 8 (.loop EX))) (sq abW .ret)))))))))))
def a7S:List Nat:=[25,27,28,33,35,51,124,149,164,175,181,202]
def MF:aW:=⟨2,206,zU,[.cell 4 (some 7)]⟩
def abY:Rg:=[iA 3 (.box true (Tm 1)),iZ 4]
def abZ:Rg:=[iZ 5]
def acA:Rg:=[iI 6 0]
def acB:Rg:=[iM 11 6,iF 12 6 3,iL 13 12,iN 14 13,iB 15 .lss 11 14]
def acC:Rg:=[iA 18 (.bHQ false 1 0 [(.int .i64 0)] []),iM 7 18]
def acD:Rg:=[iI 8 0]
def acE:Rg:=[iM 19 8,iO 20 7 3,iM 21 6,iK2 22 245 20 21,iB 23 .lss 19 22]
def acF:Rg:=[iM 26 0,iF 27 4 3,iL 28 27,iN 29 28,iK2 30 240 26 29,iM 9 30]
def acG:Rg:=[iI 10 0]
def acH:Rg:=[iM 31 10,iF 32 4 3,iL 33 32,iN 34 33,iB 35 .lss 31 34,iM 36 35,gM 37 7 36 true,gM 38 9 36 true,gK2 39 247 37 38 36 true,iP 40 36 39]
def TY:Rg:=[iM 43 9,iC 44 .add 43 1,iF 45 4 3,iL 46 45,iN 47 46,iB 48 .rem 44 47,iM 9 48]
def TZ:Rg:=[iM 41 10,iC 42 .add 41 1,iM 10 42]
def zV:aC:=(.seq (sq acH (.cond (Tm 40) .skip (.exit 4))) (.seq (.block 5 (.region TY)) (.region TZ)))
def UA:Rg:=[iM 49 7,iM 50 9,iK2 51 247 49 50,iM 52 51,gM 53 0 52 false,iG 54 (.call 240 [(Tm 53),(Ci 12)]) 52 false,gC 55 .eql 54 0 52 false,iQ 56 52 55]
def zX:Rg:=[iI 9 (-1)]
def zY:Rg:=[iM 57 7,iM 58 9,iA 59 (.bHQ true 1 1 [(.int .i64 0)] [(0,(Tm 58))]),iA 60 (.append 1 8 (Tm 57) (Tm 59)),iM 7 60]
def zZ:Rg:=[iM 24 8,iC 25 .add 24 1,iM 8 25]
def zW:aC:=(.seq (sq acE (.cond (Tm 23) .skip (.exit 2))) (.seq (.block 3 (sq acF (.seq (sq acG (.block 4 (.loop zV))) (.seq (sq UA (.cond (Tm 56) (.region zX) .skip)) (.region zY))))) (.region zZ)))
def UB:Rg:=[iM 61 5,iM 62 7,iA 63 (.bHQ true 1 1 [.aB] [(0,(Tm 62))]),iA 64 (.append 1 24 (Tm 61) (Tm 63)),iM 5 64]
def UC:Rg:=[iM 16 6,iC 17 .add 16 1,iM 6 17]
def TX:aC:=(.seq (sq acB (.cond (Tm 15) .skip (.exit 0))) (.seq (.block 1 (sq acC (.seq (sq acD (.block 2 (.loop zW))) (.region UB)))) (.region UC)))
def UD:Rg:=[iM 65 5,iM 4 65]
def wV:aC:=(sq abY (sq abZ (.seq (sq acA (.block 0 (.loop TX))) (sq UD .ret))))
def a2C:List Nat:=[3,59,63]
def CY:aW:=⟨2,66,wV,[.tmp 4]⟩
def aoZ:Rg:=[iA 3 (.box true (Tm 1)),iZ 4]
def apA:Rg:=[iO 7 7 3,iA 8 (.call 85 [(Tm 7),(.const .aB)]),iM 5 8]
def apB:Rg:=[iI 6 0]
def apC:Rg:=[iM 9 6,iM 10 5,iN 11 10,iB 12 .lss 9 11]
def apD:Rg:=[iM 15 0,iA 16 (.call 240 [(Tm 15),(Ci 9)])]
def yJ:Rg:=[iC 18 .eql 16 0,iM 17 18]
def apE:Rg:=[iM 19 5,iM 20 6,iX 21 1 19 20,⟨none,.store 1 (Tm 21) (Ci 0),none⟩]
def MJ:Rg:=[iC 23 .eql 16 1,iM 22 23]
def apF:Rg:=[iM 24 5,iM 25 6,iM 26 0,iM 27 5,iM 28 6,iX 29 1 27 28,iL 30 29,iC 31 .add 30 1,iK2 32 240 26 31,iX 33 1 24 25,iS 1 33 32]
def MK:Rg:=[iM 13 6,iC 14 .add 13 1,iM 6 14]
def acK:aC:=(.seq (sq apC (.cond (Tm 12) .skip (.exit 0))) (.seq (.block 1 (sq apD (.block 2 (sq yJ (.cond (Tm 17) (.region apE) (sq MJ (.cond (Tm 22) (.region apF) .skip))))))) (.region MK)))
def FX:Rg:=[iM 34 5,iM 4 34]
def AA:aC:=(sq aoZ (sq apA (.seq (sq apB (.block 0 (.loop acK))) (sq FX .ret))))
def a7V:List Nat:=[3]
def MI:aW:=⟨2,35,AA,[.tmp 4]⟩
def aAM:Rg:=[iA 2 (.alloc [(.int .i64 0),.aB,.aB,.aB,.aB,.aB,.aB,.aB,.aB]),iA 3 (.mv (.const (.lit (.pointer none))))]
def aAN:Rg:=[iM 7 0,iA 8 (.build [.aB,(.int .i64 0)] [(0,1,(Tm 7))]),iA 9 (.box false (Tm 8)),iM 4 9]
def aAO:Rg:=[iM 10 4,iA 11 (.call 244 [(Tm 10),(Ci 3)]),iA 5 (.alloc [(.int .i64 0),.aB,.aB,.aB,.aB,.aB,.aB]),iS 7 5 11]
def aAP:Rg:=[iM 12 4,iO 13 7 5,iK2 14 246 12 13,iM 6 14]
def aAQ:Rd:=[(iO 15 7 5,true),(iM 16 6,true),(iM 17 4,false),(iO 18 7 5,false),(iK2 19 248 17 18,true),(iA 20 (.build [(.int .i64 0),.aB,.aB,.aB,.aB,.aB,.aB,.aB,.aB] [(0,7,(Tm 15)),(7,1,(Tm 16)),(8,1,(Tm 19))]),false),(iM 21 4,true),(iS 9 2 20,true),(iM 3 21,false)]
def FQ:aC:=(sq aAM (sq aAN (sq aAO (sq aAP (dq aAQ .ret)))))
def bfK:List Nat:=[]
def acI:aW:=⟨1,22,FQ,[.cell 2 (some 9),.tmp 3]⟩
def aMX:Rg:=[iZ 2]
def aMY:Rg:=[iM 4 0,iN 5 4,iM 3 5]
def aMZ:Rg:=[iM 6 3,iC 7 .gtr 6 0,iM 8 7,gM 9 0 8 true,gM 10 3 8 true,gC 11 .sub 10 1 8 true,iG 12 (.bIF 1 (Tm 9) (Tm 11)) 8 true,gL 13 12 8 true,iG 14 (.bin .eql (Tm 13) (.const (.int .u32 0))) 8 true,iP 15 8 14]
def aNA:Rg:=[iM 16 3,iC 17 .sub 16 1,iM 3 17]
def aMW:aC:=(.seq (sq aMZ (.cond (Tm 15) .skip (.exit 0))) (.block 1 (.region aNA)))
def ZS:Rg:=[iM 18 0,iM 19 3,iA 20 (.slice 1 (Tm 18) none (some (Tm 19)) none),iA 21 (.append 1 4 (.const .aB) (Tm 20)),iM 2 21]
def JH:aC:=(sq aMX (sq aMY (.seq (.block 0 (.loop aMW)) (sq ZS .ret))))
def bjI:List Nat:=[]
def ahC:aW:=⟨1,22,JH,[.tmp 2]⟩
def aML:Rg:=[iZ 2]
def aMM:Rg:=[iM 3 0,iA 4 (.conv .u32 (Tm 3)),iM 5 0,iA 6 (.bin .shr (Tm 5) (.const (.int .u64 32))),iA 7 (.conv .u32 (Tm 6)),iA 8 (.bHQ true 1 2 [(.int .u32 0)] [(0,(Tm 4)),(1,(Tm 7))]),iK 9 38 8,iM 2 9]
def IY:aC:=(sq aML (sq aMM .ret))
def bjA:List Nat:=[8]
def agT:aW:=⟨1,10,IY,[.tmp 2]⟩
def atN:Rg:=[iT 2 false]
def atO:Rg:=[iM 3 0,iK 4 38 3,iN 5 4,iC 6 .gtr 5 512,iM 2 6]
def BR:aC:=(sq atN (sq atO .ret))
def bbT:List Nat:=[]
def QP:aW:=⟨1,7,BR,[.tmp 2]⟩
def aXZ:Rg:=[iI 4 0]
def aYA:Rg:=[iM 6 0,iK 7 38 6,iM 8 1,iK 9 38 8,iM 0 7,iM 1 9]
def aYB:Rg:=[iM 10 0,iN 11 10,iM 12 1,iN 13 12,iB 14 .neq 11 13]
def aYC:Rg:=[iM 15 0,iN 16 15,iM 17 1,iN 18 17,iB 19 .lss 16 18]
def aYD:Rg:=[iI 4 (-1)]
def aYE:Rg:=[iI 4 1]
def aYF:Rg:=[iM 20 0,iN 21 20,iC 22 .sub 21 1,iM 5 22]
def aYG:Rg:=[iM 23 5,iC 24 .geq 23 0]
def aYH:Rd:=[(iM 27 0,false),(iM 28 5,false),(iX 29 1 27 28,false),(iL 30 29,false),(iM 31 1,false),(iM 32 5,false),(iX 33 1 31 32,false),(iL 34 33,false),(iB 35 .lss 30 34,false)]
def aYI:Rg:=[iI 4 (-1)]
def aLX:Rd:=[(iM 36 0,false),(iM 37 5,false),(iX 38 1 36 37,false),(iL 39 38,false),(iM 40 1,false),(iM 41 5,false),(iX 42 1 40 41,false),(iL 43 42,false),(iB 44 .gtr 39 43,false)]
def aLY:Rg:=[iI 4 1]
def aLZ:Rg:=[iM 25 5,iC 26 .sub 25 1,iM 5 26]
def aLW:aC:=(.seq (sq aYG (.cond (Tm 24) .skip (.exit 0))) (.seq (.block 1 (.seq (dq aYH (.cond (Tm 35) (sq aYI .ret) .skip)) (dq aLX (.cond (Tm 44) (sq aLY .ret) .skip)))) (.region aLZ)))
def aMA:Rg:=[iI 4 0]
def QK:aC:=(sq aXZ (sq aYA (.seq (sq aYB (.cond (Tm 14) (.seq (sq aYC (.cond (Tm 19) (sq aYD .ret) .skip)) (sq aYE .ret)) .skip)) (.seq (sq aYF (.block 0 (.loop aLW))) (sq aMA .ret)))))
def bpI:List Nat:=[]
def aLV:aW:=⟨2,45,QK,[.tmp 4]⟩
def agL:Rg:=[iZ 4,iZ 5]
def agM:Rg:=[iM 20 0,iM 21 1,iK2 22 32 20 21,iC 23 .lss 22 0]
def agN:Rg:=[iM 24 0,iK 25 38 24,iZ 4,iM 5 25]
def agO:Rg:=[iM 26 1,iN 27 26,iC 28 .eql 27 1]
def IU:Rg:=[iM 29 0,iN 30 29,iA 31 (.bHU 1 4 [(.int .u32 0)] (Tm 30) (Tm 30)),iM 6 31]
def IV:Rg:=[iA 7 (.mv (.const (.int .u64 0)))]
def IW:Rg:=[iM 32 0,iN 33 32,iC 34 .sub 33 1,iM 8 34]
def agP:Rg:=[iM 35 8,iC 36 .geq 35 0]
def agQ:Rg:=[iM 39 7,iA 40 (.bin .shl (Tm 39) (.const (.int .u64 32))),iM 41 0,iM 42 8,iX 43 1 41 42,iL 44 43,iA 45 (.conv .u64 (Tm 44)),iB 46 .or 40 45,iM 9 46]
def agR:Rg:=[iM 47 6,iM 48 8,iM 49 9,iM 50 1,iA 51 (.bIF 1 (Tm 50) (Ci 0)),iL 52 51,iA 53 (.conv .u64 (Tm 52)),iB 54 .quo 49 53,iA 55 (.conv .u32 (Tm 54)),iX 56 1 47 48,iS 1 56 55]
def VS:Rg:=[iM 57 9,iM 58 1,iA 59 (.bIF 1 (Tm 58) (Ci 0)),iL 60 59,iA 61 (.conv .u64 (Tm 60)),iB 62 .rem 57 61,iM 7 62]
def VT:Rg:=[iM 37 8,iC 38 .sub 37 1,iM 8 38]
def BF:aC:=(.seq (sq agP (.cond (Tm 36) .skip (.exit 0))) (.seq (.block 1 (sq agQ (sq agR (.region VS)))) (.region VT)))
def BG:Rg:=[iM 63 6,iK 64 38 63,iM 65 7,iK 66 35 65,iM 4 64,iM 5 66]
def VU:Rg:=[iM 67 1,iN 68 67,iA 69 (.bin .mul (Ci 32) (Tm 68)),iM 70 1,iK 71 31 70,iB 72 .sub 69 71,iM 10 72]
def VV:Rg:=[iM 73 0,iM 74 10,iK2 75 45 73 74,iA 76 (.bHQ true 1 2 [(.int .u32 0)] [(0,(.const (.int .u32 0))),(1,(.const (.int .u32 0)))]),iA 77 (.append 1 4 (Tm 75) (Tm 76)),iM 78 1,iM 79 10,iK2 80 45 78 79,iM 11 77,iM 12 80]
def BH:Rg:=[iM 81 11,iM 82 0,iM 83 10,iK2 84 45 82 83,iN 85 84,iC 86 .add 85 1,iA 87 (.slice 1 (Tm 81) none (some (Tm 86)) none),iM 11 87]
def BI:Rg:=[iM 88 12,iM 89 12,iN 90 89,iC 91 .sub 90 1,iX 92 1 88 91,iL 93 92,iA 94 (.conv .u64 (Tm 93)),iM 13 94]
def BJ:Rg:=[iM 95 11,iN 96 95,iM 97 12,iN 98 97,iB 99 .sub 96 98,iA 100 (.bHU 1 4 [(.int .u32 0)] (Tm 99) (Tm 99)),iM 14 100]
def BK:Rg:=[iM 101 14,iN 102 101,iC 103 .sub 102 1,iM 15 103]
def VW:Rg:=[iM 104 15,iC 105 .geq 104 0]
def VX:Rd:=[(iM 108 11,false),(iM 109 15,false),(iM 110 12,false),(iN 111 110,false),(iB 112 .add 109 111,false),(iX 113 1 108 112,false),(iL 114 113,false),(iA 115 (.conv .u64 (Tm 114)),false),(iA 116 (.bin .shl (Tm 115) (.const (.int .u64 32))),false),(iM 117 11,false),(iM 118 15,false),(iM 119 12,false),(iN 120 119,false),(iB 121 .add 118 120,false),(iC 122 .sub 121 1,false),(iX 123 1 117 122,false),(iL 124 123,false),(iA 125 (.conv .u64 (Tm 124)),false),(iB 126 .or 116 125,false),(iM 16 126,false)]
def VY:Rg:=[iM 127 16,iM 128 13,iB 129 .quo 127 128,iM 17 129]
def VZ:Rg:=[iM 130 17,iA 131 (.bin .gtr (Tm 130) (.const (.int .u64 4294967295)))]
def WA:Rg:=[iA 17 (.mv (.const (.int .u64 4294967295)))]
def WB:Rd:=[(iM 132 12,true),(iM 133 17,false),(iK 134 35 133,true),(iK2 135 44 132 134,true),(iM 136 11,true),(iM 137 15,true),(iM 138 15,true),(iM 139 12,true),(iN 140 139,true),(iB 141 .add 138 140,true),(iC 142 .add 141 1,true),(iA 143 (.slice 1 (Tm 136) (some (Tm 137)) (some (Tm 142)) none),true),(iA 144 (.append 1 4 (.const .aB) (Tm 143)),true),(iK2 145 32 135 144,true),(iC 146 .gtr 145 0,false)]
def WC:Rg:=[iM 147 17,iA 148 (.bin .sub (Tm 147) (.const (.int .u64 1))),iM 17 148]
def sW:aC:=(.seq (dq WB (.cond (Tm 146) .skip (.exit 4))) (.block 5 (.region WC)))
def BL:Rg:=[iM 149 11,iM 150 15,iM 151 15,iM 152 12,iN 153 152,iB 154 .add 151 153,iC 155 .add 154 1,iA 156 (.slice 1 (Tm 149) (some (Tm 150)) (some (Tm 155)) none),iA 157 (.append 1 4 (.const .aB) (Tm 156)),iM 158 12,iM 159 17,iK 160 35 159,iK2 161 44 158 160,iK2 162 42 157 161,iM 18 162]
def BM:Rg:=[iI 19 0]
def WD:Rg:=[iM 163 19,iM 164 12,iN 165 164,iB 166 .leq 163 165]
def WE:Rg:=[iM 169 11,iM 170 15,iM 171 19,iB 172 .add 170 171,iX 173 1 169 172,⟨none,.store 1 (Tm 173) (.const (.int .u32 0)),none⟩]
def WF:Rg:=[iM 174 19,iM 175 18,iN 176 175,iB 177 .lss 174 176]
def WG:Rg:=[iM 178 11,iM 179 15,iM 180 19,iB 181 .add 179 180,iM 182 18,iM 183 19,iX 184 1 182 183,iL 185 184,iX 186 1 178 181,iS 1 186 185]
def BN:Rg:=[iM 167 19,iC 168 .add 167 1,iM 19 168]
def sX:aC:=(.seq (sq WD (.cond (Tm 166) .skip (.exit 6))) (.seq (.block 7 (sq WE (sq WF (.cond (Tm 177) (.region WG) .skip)))) (.region BN)))
def BO:Rg:=[iM 187 14,iM 188 15,iM 189 17,iA 190 (.conv .u32 (Tm 189)),iX 191 1 187 188,iS 1 191 190]
def BP:Rg:=[iM 106 15,iC 107 .sub 106 1,iM 15 107]
def sY:aC:=(.seq (sq VW (.cond (Tm 105) .skip (.exit 2))) (.seq (.block 3 (dq VX (sq VY (.seq (sq VZ (.cond (Tm 131) (.region WA) .skip)) (.seq (.block 4 (.loop sW)) (sq BL (.seq (sq BM (.block 6 (.loop sX))) (.region BO)))))))) (.region BP)))
def BQ:Rg:=[iM 192 14,iK 193 38 192,iM 194 11,iK 195 38 194,iM 196 10,iK2 197 40 195 196,iM 4 193,iM 5 197]
def xU:aC:=(sq agL (.seq (sq agM (.cond (Tm 23) (sq agN .ret) .skip)) (.seq (sq agO (.cond (Tm 28) (sq IU (sq IV (.seq (sq IW (.block 0 (.loop BF))) (sq BG .ret)))) .skip)) (sq VU (sq VV (sq BH (sq BI (sq BJ (.seq (sq BK (.block 2 (.loop sY))) (sq BQ .ret))))))))))
def a5N:List Nat:=[76]
def DY:aW:=⟨2,198,xU,[.tmp 4,.tmp 5]⟩
def aYJ:Rg:=[iZ 4,iZ 5,iI 6 0]
def aYK:Rg:=[iM 9 0,iK 10 41 9,iM 11 10,gM 12 1 11 false,gK 13 41 12 11 false,iQ 14 11 13]
def anO:Rg:=[iZ 4,iZ 5,iI 6 2]
def aYL:Rg:=[iM 15 1,iK 16 38 15,iN 17 16,iC 18 .eql 17 0]
def aYM:Rg:=[iZ 4,iZ 5,iI 6 3]
def aYN:Rg:=[iM 20 0,iK 21 38 20,iM 22 1,iK 23 38 22,iK2 24 39 21 23,iM 19 24,iE 25 19 0,iE 26 19 1,iM 7 25,iM 8 26]
def aYO:Rg:=[iM 27 7,iM 28 8,iM 4 27,iM 5 28,iI 6 0]
def QL:aC:=(sq aYJ (.seq (sq aYK (.cond (Tm 14) (sq anO .ret) .skip)) (.seq (sq aYL (.cond (Tm 18) (sq aYM .ret) .skip)) (sq aYN (sq aYO .ret)))))
def bpK:List Nat:=[]
def udiv:aW:=⟨2,29,QL,[.tmp 4,.tmp 5,.tmp 6]⟩
def aYQ:Rg:=[iZ 4,iI 5 0]
def aYR:Rg:=[iM 10 0,iK 11 41 10,iM 12 11,gM 13 1 12 false,gK 14 41 13 12 false,iQ 15 12 14]
def anP:Rg:=[iZ 4,iI 5 2]
def aYS:Rg:=[iM 16 0,iK 17 38 16,iM 18 1,iK 19 38 18,iM 6 17,iM 7 19]
def aYT:Rg:=[iM 20 7,iN 21 20,iC 22 .gtr 21 0]
def aYU:Rg:=[iM 24 6,iM 25 7,iK2 26 39 24 25,iM 23 26,iE 27 23 0,iE 28 23 1,iM 8 27,iM 9 28]
def aYV:Rg:=[iM 29 7,iM 30 9,iM 6 29,iM 7 30]
def aYP:aC:=(.seq (sq aYT (.cond (Tm 22) .skip (.exit 0))) (.block 1 (sq aYU (.region aYV))))
def aYW:Rg:=[iM 31 6,iM 4 31,iI 5 0]
def QO:aC:=(sq aYQ (.seq (sq aYR (.cond (Tm 15) (sq anP .ret) .skip)) (sq aYS (.seq (.block 0 (.loop aYP)) (sq aYW .ret)))))
def bpM:List Nat:=[]
def aMK:aW:=⟨2,32,QO,[.tmp 4,.tmp 5]⟩
def ahP:Rg:=[iA 6 (.alloc [(.bool false),.aB,.aB])]
def ahQ:Rg:=[iM 9 1,iK 10 38 9,iM 11 2,iK 12 38 11,iM 1 10,iM 2 12]
def ahR:Rg:=[iM 13 1,iN 14 13,iC 15 .eql 14 0]
def ahS:Rg:=[iA 16 (.bHQ true 1 1 [(.int .u32 0)] [(0,(.const (.int .u32 1)))]),iA 17 (.build [(.bool false),.aB,.aB] [(2,1,(Tm 16))]),iS 3 6 17]
def ahT:Rg:=[iM 19 1,iM 20 2,iK2 21 34 19 20,iM 18 21,iE 22 18 0,iE 23 18 1,iM 7 22,iM 8 23]
def ahU:Rg:=[iM 24 7,iN 25 24,iC 26 .gtr 25 1,iM 27 26,gM 28 7 27 false,iG 29 (.bIF 1 (Tm 28) (Ci 0)) 27 false,gL 30 29 27 false,iG 31 (.bin .gtr (Tm 30) (.const (.int .u32 1))) 27 false,iQ 32 27 31]
def JM:Rg:=[iM 34 1,iM 35 7,iK2 36 33 34 35,iM 33 36,iE 37 33 0,iE 38 33 1,iE 39 33 2,iM 1 37]
def JN:Rg:=[iM 41 2,iM 42 7,iK2 43 33 41 42,iM 40 43,iE 44 40 0,iE 45 40 1,iE 46 40 2,iM 2 44]
def vK:Rg:=[iM 47 0,iM 48 1,iM 49 2,iA 50 (.build [(.bool false),.aB,.aB] [(0,1,(Tm 47)),(1,1,(Tm 48)),(2,1,(Tm 49))]),iS 3 6 50]
def xW:aC:=(sq ahP (sq ahQ (.seq (sq ahR (.cond (Tm 15) (sq ahS .ret) .skip)) (.seq (sq ahT (sq ahU (.cond (Tm 32) (sq JM (.region JN)) .skip))) (sq vK .ret)))))
def a5W:List Nat:=[16]
def EA:aW:=⟨3,51,xW,[.cell 6 (some 3)]⟩
def aOJ:Rg:=[iA 2 (.mv (.const (.int .u64 0)))]
def aOK:Rg:=[iM 3 0,iC 4 .lss 3 0]
def aOL:Rg:=[iM 5 0,iC 6 .add 5 1,iA 7 (.un .neg (Tm 6)),iA 8 (.conv .u64 (Tm 7)),iA 9 (.bin .add (Tm 8) (.const (.int .u64 1))),iM 2 9]
def aOM:Rg:=[iM 10 0,iA 11 (.conv .u64 (Tm 10)),iM 2 11]
def JR:aC:=(sq aOJ (.seq (sq aOK (.cond (Tm 4) (sq aOL .ret) .skip)) (sq aOM .ret)))
def bjY:List Nat:=[]
def aiB:aW:=⟨1,12,JR,[.tmp 2]⟩
def aNW:Rg:=[iA 4 (.alloc [(.bool false),.aB,.aB]),iI 5 0]
def aNX:Rg:=[iM 6 1,iC 7 .eql 6 0]
def aNY:Rg:=[iA 8 (.build [(.bool false),.aB,.aB] []),iS 3 4 8,iI 5 3]
def aNZ:Rg:=[iM 9 0,iC 10 .lss 9 0,iM 11 1,iC 12 .lss 11 0,iA 13 (.eqb true (Tm 10) (Tm 12)),iM 14 0,iK 15 59 14,iK 16 35 15,iM 17 1,iK 18 59 17,iK 19 35 18,iA 20 (.call 58 [(Tm 13),(Tm 16),(Tm 19)]),iS 3 4 20,iI 5 0]
def JO:aC:=(sq aNW (.seq (sq aNX (.cond (Tm 7) (sq aNY .ret) .skip)) (sq aNZ .ret)))
def bjS:List Nat:=[]
def TQ:aW:=⟨2,21,JO,[.cell 4 (some 3),.tmp 5]⟩
def aZW:Rg:=[iA 2 (.alloc [(.bool false),.aB,.aB])]
def aZX:Rg:=[iM 6 0,iA 7 (.call 50 [(Tm 6),(Ci 1)]),iM 5 7,iE 8 5 0,iE 9 5 1,iA 3 (.alloc [(.bool false),.aB,.aB]),iS 3 3 8,iM 4 9]
def aZY:Rg:=[iO 10 3 3,iS 3 2 10]
def RH:aC:=(sq aZW (sq aZX (sq aZY .ret)))
def bpY:List Nat:=[]
def aNT:aW:=⟨1,11,RH,[.cell 2 (some 3)]⟩
def utF (xs:List Nat) (n:Nat):PF:=((PF.nil.set 0 (aF xs)).set 3 (.int .i64 n))
theorem bjH {C:Ctx} (xs:List Nat) (hx:Lim xs) (hl:xs.length≤35184372087808):JH.wp C (aU ahC.res (kO 1 (aK (aH (val xs))))) (PF.args [aF xs]) .nil:=by
 simp only[go_sem,γ,reduceCtorEq,JH,aMX,aMY,ahC,bJO]
 refine wp_loop (α:=Nat) (fun n=>utF xs n) (fun _=>.nil) (fun n=>n≤xs.length∧∀ j x,n≤j→xs[j]?=some x→x=0) (fun n=>n) xs.length ⟨bJQ _,fun j x hj hxj=>?_⟩ ?_ PH.nil_le ?_
 ·rw[bLD hj] at hxj; cases hxj
 ·unfold utF
  exact Lq
 rintro n ⟨hn,hz⟩
 have done:(0<n→∀ h:n-1<xs.length,xs[n-1]≠0)→∀ F:PF,(utF xs n).le F→aC.wp C (.seq (.region ZS) .ret) (aU [.tmp 2] (kO 1 (aK (aH (val xs))))) F .nil:=by
  intro h F hF
  have f0:F 0=some (aF xs):=hF 0 _ (by unfold utF; simp only[go_sem,reduceCtorEq])
  have f3:F 3=some (.int .i64 n):=hF 3 _ (by unfold utF; simp only[go_sem,reduceCtorEq])
  have ht:xs.take n=aH (val xs):=IR hx hn hz fun x h0 hxj=>by
   rw[bJZ Om] at hxj
   injection hxj with hxj
   subst hxj
   exact h h0 Om
  have hc:((n:Nat):Int)≤(xs.length:Nat):=by omega
  simp only[go_sem,ν,γ,reduceCtorEq,ZS,f0,f3,bJO,hc,or_true,bKQ]
  refine gG (rows:=[]) (src:=aK (aH (val xs))) .nil ?_ ?_ fun v H' ho _=>?_
  ·simp only[go_sem]
   rw[← ht,← List.map_take]
  ·unfold roomFor
   rw[bT,← ht,bKG]
   simp only[bLZ,maxLen]
   omega
  ·exact ID (.inr rfl) (by simpa using ho) rfl
 simp only[aC.wp,go_sem] at done
 simp only[go_sem,γ,reduceCtorEq,aMW,aMZ,utF]
 by_cases h0:0<n
 ·have h0':((n:Nat):Int)>0:=by omega
  have hlt:n-1<xs.length:=by omega
  have hat:=bL xs hlt
  have hw:IntKind.i64.wrap ((n:Int)-1)=((n-1:Nat):Int):=tX Om h0
  simp only[go_sem,γ,reduceCtorEq,h0',hw,hat]
  by_cases c:xs[n-1]=0
  ·simp only[go_sem,γ,reduceCtorEq,bX (Om:((xs[n-1]:Nat):Int)=0),aNA,hw]
   refine aG (n-1) ⟨by omega,fun j x hj hxj=>?_⟩ Om ?_ PH.nil_le
   ·by_cases e:j=n-1
    ·subst e
     rw[bJZ hlt] at hxj
     injection hxj with hxj
     omega
    ·exact hz j x Om hxj
   ·exact Lq
  ·simp only[go_sem,bG (Om:((xs[n-1]:Nat):Int)≠0)]
   exact done (fun _ _=>c) _ (by unfold utF; exact Lq)
 ·have h0':¬ ((n:Nat):Int)>0:=by omega
  simp only[go_sem,γ,reduceCtorEq,h0']
  exact done (fun h=>absurd h h0) _ (by unfold utF; exact Lq)
structure nT (C:Ctx):Prop where
 trimM:∀ xs,Lim xs→xs.length≤35184372087808→aD C 38 [aF xs] .nil (kO 1 (aK (aH (val xs))))
theorem nT.trim {C:Ctx} (L:nT C) (xs:List Nat) (hx:Lim xs) (hl:xs.length≤35184372087808):aD C 38 [aF xs] .nil (aE (aF (aH (val xs)))):=(L.trimM xs hx hl).freeze
theorem biZ {C:Ctx} (L:nT C) (v:Nat) (hv:v<18446744073709551616):IY.wp C (aU agT.res (cA (aF (aH v)))) (PF.args [.int .u64 v]) .nil:=by
 have e1:IntKind.u32.wrap ((v:Nat):Int)=((v%4294967296:Nat):Int):=cC v
 have hd:v/4294967296<4294967296:=by omega
 have e3:IntKind.u32.wrap ((v/4294967296:Nat):Int)=((v/4294967296:Nat):Int):=by rw[cC,bKW hd]
 have hL:Lim [v%4294967296,v/4294967296]:=by
  intro x hx
  simp only[bKE,List.mem_nil_iff,or_false] at hx
  rcases hx with rfl | rfl
  ·exact bLE _ (by decide)
  ·exact hd
 have bID:val [v%4294967296,v/4294967296]=v:=by simp only[val,Nat.mul_zero,bLH]; exact Nat.mod_add_div v 4294967296
 have hsh:shift .shr .u64 (v:Int) 32=some (.int .u64 ((v/4294967296:Nat):Int)):=vD
 have hb:(2:Nat)*1≤16777216:=by decide
 simp only[go_sem,υ,δ,γ,η,ζ,reduceCtorEq,IY,aML,aMM,agT,e1,hsh,e3,hb]
 have ht:=L.trim [v%4294967296,v/4294967296] hL (by simp)
 rw[bID] at ht
 refine aA ht rfl ?_
 simp only[go_sem,γ]
 exact aX (.inr rfl) .nil rfl PH.nil_le ⟨.refl _,rfl⟩
theorem bbS {C:Ctx} (L:nT C) (xs:List Nat) (hx:Lim xs) (hl:xs.length≤35184372087808):BR.wp C (aU QP.res (cA (.bool (decide (nl (val xs)>512))))) (PF.args [aF xs]) .nil:=by
 simp only[go_sem,reduceCtorEq,BR,atN,atO,QP]
 refine aA (L.trim xs hx hl) rfl ?_
 simp only[go_sem,γ,bJO,aZ]
 refine bA rfl ?_
 rw[decide_eq_decide]
 omega
theorem a1V {a b:Nat} (h:nl a<nl b):dD a b=-1:=by
 have:a<b:=by
  rcases bKI a b with h' | h'
  ·exact h'
  ·have:=fI h'; omega
 simp[dD,this]
theorem a1U {a b:Nat} (h:nl b<nl a):dD a b=1:=by
 have:b<a:=by
  rcases bKI b a with h' | h'
  ·exact h'
  ·have:=fI h'; omega
 have h2:¬ a<b:=by omega
 simp[dD,this,h2]
def a5K (X Y:List Nat) (i:Int):PF:=(((PF.nil.set 0 (aF X)).set 1 (aF Y)).set 5 (.int .i64 i))
theorem bpH {C:Ctx} (L:nT C) (xs ys:List Nat) (hx:Lim xs) (hy:Lim ys) (lx:xs.length≤35184372087808) (ly:ys.length≤35184372087808) :
  QK.wp C (aU aLV.res (aE (.int .i64 (dD (val xs) (val ys))))) (PF.args [aF xs,aF ys]) .nil:=by
 simp only[go_sem,reduceCtorEq,QK,aXZ,aYA,aLV]
 refine aA (L.trim xs hx lx) Ev ?_
 simp only[go_sem,γ]
 refine aA (L.trim ys hy ly) Ev ?_
 have bx:=eY hx
 have by':=eY hy
 simp only[go_sem,γ,reduceCtorEq,aYB,bJO,aZ]
 by_cases c0:nl (val xs)≠nl (val ys)
 ·simp only[go_sem,γ,reduceCtorEq,cI (show ((nl (val xs):Nat):Int)≠(nl (val ys):Nat) by omega),aYC]
  by_cases c1:nl (val xs)<nl (val ys)
  ·simp only[go_sem,ο,bJO,aZ,show ((nl (val xs):Nat):Int)<(nl (val ys):Nat) by omega,aYD]
   refine aL (.inr rfl) Ev ?_
   rw[a1V c1]; rfl
  ·simp only[go_sem,bJO,aZ,show ¬ ((nl (val xs):Nat):Int)<(nl (val ys):Nat) by omega,aYE]
   refine aL (.inr rfl) Ev ?_
   rw[a1U Om]; rfl
 replace c0:=Decidable.of_not_not c0
 simp only[go_sem,γ,reduceCtorEq,bV (show ((nl (val xs):Nat):Int)=(nl (val ys):Nat) by omega),aYF,bJO,aZ]
 have ex:=aS (val xs)
 have ey:=aS (val ys)
 have LX:=aV (val xs)
 have LY:=aV (val ys)
 generalize hX:aH (val xs)=X at *
 generalize hY:aH (val ys)=Y at *
 have hlX:X.length=nl (val xs):=by rw[← hX]; rfl
 have hlY:Y.length=nl (val xs):=by rw[c0,← hY]; rfl
 refine wp_loop (α:=Nat) (fun k=>a5K X Y ((k:Int)-1)) (fun _=>.nil) (fun k=>k≤nl (val xs)∧X.drop k=Y.drop k) (fun k=>k) (nl (val xs)) ⟨bJQ _,?_⟩ ?_ PH.nil_le ?_
 ·rw[bMZ Om,bMZ Om]
 ·unfold a5K
  (repeat' (first|exact PF.nil_le|refine PF.aI ?_ ?_))<;>first|(simp only[go_sem,γ,reduceCtorEq,wrap_i64 (show -9223372036854775808≤((nl (val xs):Nat):Int)-1 by omega) (show ((nl (val xs):Nat):Int)-1≤9223372036854775807 by omega)]<;>rfl)|rfl
 rintro k ⟨hk,hd⟩
 simp only[go_sem,γ,reduceCtorEq,aLW,aYG,a5K]
 by_cases h0:0<k
 ·obtain⟨m,rfl⟩:∃ m,k=m+1:=⟨k-1,by omega⟩
  have hz:((m+1:Nat):Int)-1=(m:Int):=by omega
  have hge:(m:Int)≥0:=by omega
  have x1:m<X.length:=by omega
  have y1:m<Y.length:=by omega
  simp only[go_sem,hz,hge]
  refine bP .nil dX PH.nil_le ?_
  simp only[go_sem,γ,reduceCtorEq,aYH,bL X x1,bL Y y1]
  by_cases c3:X[m]<Y[m]
  ·simp only[go_sem,ο,show ((X[m]:Nat):Int)<(Y[m]:Nat) by omega,aYI]
   refine aL (.inr rfl) Ev ?_
   have:=aaY LX x1 y1 hd c3
   rw[ex,ey] at this
   simp[aT,dD,this]
  ·simp only[go_sem,show ¬ ((X[m]:Nat):Int)<(Y[m]:Nat) by omega]
   refine bP .nil dX PH.nil_le ?_
   simp only[go_sem,γ,reduceCtorEq,aLX,bL X x1,bL Y y1]
   by_cases c4:X[m]>Y[m]
   ·simp only[go_sem,show ((X[m]:Nat):Int)>(Y[m]:Nat) by omega,aLY]
    refine aL (.inr rfl) Ev ?_
    have:=aaY LY y1 x1 hd.symm c4
    rw[ex,ey] at this
    have h2:¬ val xs<val ys:=by omega
    simp[aT,dD,this,h2]
   ·simp only[go_sem,γ,reduceCtorEq,show ¬ ((X[m]:Nat):Int)>(Y[m]:Nat) by omega,aLZ]
    refine aG m ⟨by omega,apG x1 y1 hd Om⟩ Om ?_ PH.nil_le
    (repeat' (first|exact PF.nil_le|refine PF.aI ?_ ?_))<;>first|(simp only[go_sem,γ,reduceCtorEq,wrap_i64 (Om:-9223372036854775808≤(m:Int)-1) (Om:(m:Int)-1≤9223372036854775807)]<;>rfl)|rfl
 ·have:k=0:=by omega
  subst this
  have hz:¬ ((0:Nat):Int)-1≥0:=by decide
  simp only[go_sem,hz,aMA]
  refine aL (.inr rfl) Ev ?_
  rw[bKQ,bKQ] at hd
  have:val xs=val ys:=by rw[← ex,← ey,hd]
  simp[aT,dD,this]
theorem zH (n:Nat):(((n:Nat):Int)==0)=decide (n=0):=by
 by_cases h:n=0
 ·subst h; rfl
 ·rw[bG Om,decide_eq_false h]
structure ayW (C:Ctx):Prop extends nT C where
 make:∀ v:Nat,v<18446744073709551616→aD C 35 [.int .u64 v] .nil (aE (aF (aH v)))
 large:∀ xs,Lim xs→xs.length≤35184372087808→aD C 41 [aF xs] .nil (aE (.bool (decide (nl (val xs)>512))))
 cmp:∀ xs ys,Lim xs→Lim ys→xs.length≤35184372087808→ys.length≤35184372087808→aD C 32 [aF xs,aF ys] .nil (aE (.int .i64 (dD (val xs) (val ys))))
def a5O (a b:Nat):PF:=((PF.nil.set 6 (aF (aH a))).set 7 (aF (aH b)))
structure aaL (C:Ctx):Prop extends ayW C where
 divide:∀ A B:Nat,B≠0→nl A≤512→nl B≤512→aD C 39 [aF (aH A),aF (aH B)] .nil (aE (oS A B))
def a2R (a b:Nat):PV:=if dS a b then .tup [aF [],.int .i64 2] else .tup [aF (aH (bJT a b)),.int .i64 0]
theorem bpL {C:Ctx} (L:aaL C) (a b:List Nat) (ha:Lim a) (hb:Lim b) (la:a.length≤35184372087808) (lb:b.length≤35184372087808) :
  QO.wp C (aU aMK.res (cA (a2R (val a) (val b)))) (PF.args [aF a,aF b]) .nil:=by
 unfold a2R
 simp only[go_sem,reduceCtorEq,QO,aYQ,aYR,aMK]
 refine aA (L.large a ha la) rfl ?_
 by_cases c1:nl (val a)>512
 ·simp only[go_sem,γ,c1,anP]
  rw[if_pos (by simp[dS,c1])]
  exact eF rfl
 simp only[go_sem,γ,c1]
 refine aA (L.large b hb lb) rfl ?_
 by_cases c2:nl (val b)>512
 ·simp only[go_sem,γ,reduceCtorEq,c2,anP]
  rw[if_pos (by simp[dS,c2])]
  exact eF rfl
 rw[if_neg (by simp[dS,c1,c2])]
 simp only[go_sem,γ,reduceCtorEq,c2,aYS]
 refine aA (L.trim a ha la) rfl ?_
 simp only[go_sem,γ]
 refine aA (L.trim b hb lb) rfl ?_
 simp only[go_sem,γ]
 refine wp_loop (α:=Nat × Nat) (fun t=>a5O t.1 t.2) (fun _=>.nil) (fun t=>bJT t.1 t.2=bJT (val a) (val b)∧nl t.1≤512∧nl t.2≤512) (fun t=>t.2) (val a,val b) ⟨rfl,by simp only; omega,by simp only; omega⟩ ?_ PH.nil_le ?_
 ·unfold a5O
  exact Lq
 rintro⟨x,y⟩ ⟨hg,hx,hy⟩
 simp only at hg hx hy
 simp only[go_sem,γ,aYP,aYT,a5O,aZ]
 by_cases c3:y=0
 ·subst c3
  have:¬ ((nl 0:Nat):Int)>0:=by rw[wJ]; decide
  simp only[go_sem,γ,this,aYW]
  refine aX (vs:=[aF (aH x),.int .i64 0]) (.inr rfl) .nil rfl PH.nil_le ⟨?_,rfl⟩
  rw[← hg,Nat.gcd_zero_right]
  exact .refl _
 ·have h0:nl y≠0:=fun h=>c3 (gR.1 h)
  have:((nl y:Nat):Int)>0:=by omega
  simp only[go_sem,γ,this,aYU]
  refine aA (L.divide x y c3 Om Om) rfl ?_
  simp only[go_sem,γ,oS,aYV]
  have hlt:x%y<y:=bLE _ (bLW c3)
  refine aG (y,x%y) ⟨?_,hy,?_⟩ hlt ?_ PH.nil_le
  ·simp only
   rw[← hg,Nat.gcd_comm y,← Nat.gcd_rec y x,Nat.gcd_comm]
  ·have:=fI (Nat.le_of_lt hlt)
   simp only; omega
  ·exact Lq
theorem bpJ {C:Ctx} (L:aaL C) (a b:List Nat) (ha:Lim a) (hb:Lim b) (la:a.length≤35184372087808) (lb:b.length≤35184372087808) :
  QL.wp C (aU udiv.res (cA (lG (val a) (val b)))) (PF.args [aF a,aF b]) .nil:=by
 unfold lG
 simp only[go_sem,reduceCtorEq,QL,aYJ,aYK,udiv]
 refine aA (L.large a ha la) rfl ?_
 by_cases c1:nl (val a)>512
 ·simp only[go_sem,γ,c1,anO]
  rw[if_pos (by simp[dS,c1])]
  exact pZ rfl
 simp only[go_sem,γ,c1]
 refine aA (L.large b hb lb) rfl ?_
 by_cases c2:nl (val b)>512
 ·simp only[go_sem,γ,reduceCtorEq,c2,anO]
  rw[if_pos (by simp[dS,c2])]
  exact pZ rfl
 rw[if_neg (by simp[dS,c1,c2])]
 simp only[go_sem,γ,reduceCtorEq,c2,aYL]
 refine aA (L.trim b hb lb) rfl ?_
 simp only[go_sem,γ,bJO,aZ,zH,gR]
 by_cases c3:val b=0
 ·rw[if_pos c3]
  simp only[go_sem,decide_eq_true c3,aYM]
  exact pZ rfl
 rw[if_neg c3]
 simp only[go_sem,reduceCtorEq,decide_eq_false c3,aYN]
 refine aA (L.trim a ha la) rfl ?_
 simp only[go_sem,γ]
 refine aA (L.trim b hb lb) rfl ?_
 simp only[go_sem]
 refine aA (L.divide (val a) (val b) c3 Om Om) rfl ?_
 simp only[go_sem,γ,oS,aYO]
 exact aX (.inr rfl) .nil rfl PH.nil_le ⟨.refl _,rfl⟩
def kZ (neg:Bool) (a b:Nat):FV:=(neg&&decide (a/bJT a b≠0),a/bJT a b,b/bJT a b)
structure ayX (C:Ctx):Prop extends aaL C where
 gcd:∀ a b,Lim a→Lim b→a.length≤35184372087808→b.length≤35184372087808→aD C 34 [aF a,aF b] .nil (aE (a2R (val a) (val b)))
 div:∀ a b,Lim a→Lim b→a.length≤35184372087808→b.length≤35184372087808→aD C 33 [aF a,aF b] .nil (aE (lG (val a) (val b)))
theorem rD {n:Nat} (h:nl n≤512):(aH n).length≤35184372087808:=by rw[aZ]; omega
theorem tN:aH 1=[1]:=mM (by decide) (by decide)
theorem adP {n:Nat} (h:n≠0):aH n=n%4294967296::aH (n/4294967296):=pY h
theorem xB {n:Nat} (h:n≠0):(nl n>1∨n%4294967296>1)↔n≠1:=by
 constructor
 ·rintro h1 rfl
  rcases h1 with h1 | h1
  ·rw[nl,tN] at h1; simp at h1
  ·omega
 ·intro h1
  by_cases c:nl n>1
  ·exact .inl c
  ·have:n<4294967296 ^ 1:=(gY n 1).1 Om
   rw[Nat.pow_one] at this
   rw[bKW this]
   exact .inr Om
theorem a5V {C:Ctx} (L:ayX C) (neg:Bool) (a b:List Nat) (ha:Lim a) (hb:Lim b) (la:a.length≤35184372087808) (lb:b.length≤35184372087808) (na:nl (val a)≤512) (nb:nl (val b)≤512) (h0:val b≠0) :
  xW.wp C (aU EA.res (cA (.agg (kZ neg (val a) (val b)).rf.cells))) (PF.args [.bool neg,aF a,aF b]) .nil:=by
 have hg0:bJT (val a) (val b)≠0:=fun h=>h0 (Nat.eq_zero_of_gcd_eq_zero_right h)
 have hgb:bJT (val a) (val b)≤val b:=Nat.gcd_le_right _ (bLW h0)
 have ng:nl (bJT (val a) (val b))≤512:=Nat.le_trans (fI hgb) nb
 have hnb:dS (val a) (val b)=false:=gP na nb
 simp only[go_sem,δ,xW,ahP,ahQ,EA]
 refine aQ fun o ho=>?_
 simp only[go_sem,γ]
 refine aA (L.trim a ha la) rfl ?_
 simp only[go_sem,γ]
 refine aA (L.trim b hb lb) rfl ?_
 simp only[go_sem,γ,ahR,bJO,aZ,zH,gR]
 by_cases c1:val a=0
 ·simp only[go_sem,υ,δ,γ,η,θ,ζ,decide_eq_true c1,ahS]
  have e:(kZ neg (val a) (val b)).rf=⟨false,[],[1]⟩:=by
   rw[c1]
   unfold kZ FV.rf
   simp[fC,Nat.div_self (bLW h0),tN]
  rw[e]
  refine aX (vs:=[.agg [.bool false,.aB,aF [1]]]) (.inr rfl) .nil ?_ PH.nil_le ⟨show Co (.agg _) (.agg _) from CoL.agg (CoL.cons (.refl _) (CoL.cons (.nil 1) (CoL.cons (.refl _) .nil))),rfl⟩
  simp only[go_sem,δ,γ]
  rfl
 have hgcd:=L.gcd (aH (val a)) (aH (val b)) (aV _) (aV _) (rD na) (rD nb)
 rw[aS,aS,a2R,hnb] at hgcd
 simp only[go_sem,γ,decide_eq_false c1,ahT]
 refine aA hgcd rfl ?_
 have fin:∀ x y:Nat,x=val a/bJT (val a) (val b)→y=val b/bJT (val a) (val b)→∀ (F:PF) (H:PH),F 0=some (.bool neg)→F 1=some (aF (aH x))→F 2=some (aF (aH y))→F 6=some (.ptr o 3 0 0)→H o=some (.rows 3 [[.bool false,.aB,.aB]]) →
   aC.wp C (.seq (.region vK) .ret) (aU [.cell 6 (some 3)] (cA (.agg (kZ neg (val a) (val b)).rf.cells))) F H:=by
  intro x y hx hy F H f0 f1 f2 f6 hH
  subst hx; subst hy
  simp only[go_sem,δ,γ,θ,vK,f0,f1,f2,f6,hH]
  have hq:val a/bJT (val a) (val b)≠0:=by
   have:=Nat.div_pos (Nat.gcd_le_left (val b) (bLW c1)) (bLW hg0)
   omega
  have e:(kZ neg (val a) (val b)).rf=⟨neg,aH (val a/bJT (val a) (val b)),aH (val b/bJT (val a) (val b))⟩:=by
   unfold kZ FV.rf
   simp only[hq,ne_eq,not_false_eq_true,decide_true,bLP]
  rw[e]
  refine aX (vs:=[.agg (eC neg (aH (val a/bJT (val a) (val b))) (aH (val b/bJT (val a) (val b))))]) (.inr rfl) .nil ?_ PH.nil_le ⟨.refl _,rfl⟩
  simp only[go_sem,δ,γ,f6]
 simp only[aC.wp,go_sem] at fin
 have hd:=fun x (hx:nl x≤512)=>L.div (aH x) (aH (bJT (val a) (val b))) (aV _) (aV _) (rD hx) (rD ng)
 simp only[aS,lG] at hd
 have tail:bJT (val a) (val b)≠1→∀ (F:PF) (H:PH),F 0=some (.bool neg)→F 1=some (aF (aH (val a)))→F 2=some (aF (aH (val b)))→F 6=some (.ptr o 3 0 0)→F 7=some (aF (aH (bJT (val a) (val b))))→H o=some (.rows 3 [[.bool false,.aB,.aB]]) →
   aC.wp C (.seq (.seq (.region JM) (.region JN)) (.seq (.region vK) .ret)) (aU [.cell 6 (some 3)] (cA (.agg (kZ neg (val a) (val b)).rf.cells))) F H:=by
  intro _ F H f0 f1 f2 f6 f7 hH
  have d1:=hd (val a) na
  have d2:=hd (val b) nb
  rw[gP na ng,if_neg hg0] at d1
  rw[gP nb ng,if_neg hg0] at d2
  simp only[go_sem,γ,JM,f1,f7]
  refine aA d1 rfl ?_
  simp only[go_sem,γ,bMP,JN,f2,f7]
  refine aA d2 rfl ?_
  simp only[go_sem,γ,bMP]
  exact fin _ _ rfl rfl _ _ (by simp only[go_sem,reduceCtorEq,f0]) rfl rfl (by simp only[go_sem,γ,f6]) hH
 simp only[aC.wp,go_sem] at tail
 simp only[go_sem,γ,bMP,ahU,bJO,aZ]
 by_cases c2:nl (bJT (val a) (val b))>1
 ·have c2':((nl (bJT (val a) (val b)):Nat):Int)>1:=by omega
  simp only[go_sem,γ,c2']
  exact tail ((xB hg0).1 (.inl c2)) _ _ rfl rfl rfl rfl rfl Sq
 ·have c2':¬ ((nl (bJT (val a) (val b)):Nat):Int)>1:=by omega
  simp only[go_sem,ν,γ,reduceCtorEq,c2',adP hg0]
  by_cases c3:bJT (val a) (val b)%4294967296>1
  ·have c3':((bJT (val a) (val b)%4294967296:Nat):Int)>1:=by omega
   simp only[go_sem,c3']
   exact tail ((xB hg0).1 (.inr c3)) _ _ rfl rfl rfl rfl (by simp only[go_sem,γ,adP hg0]) Sq
  ·have c3':¬ ((bJT (val a) (val b)%4294967296:Nat):Int)>1:=by omega
   have h1:bJT (val a) (val b)=1:=by
    rcases Decidable.em (bJT (val a) (val b)=1) with h | h
    ·exact h
    ·rcases (xB hg0).2 h with h | h
     ·exact absurd h c2
     ·exact absurd h c3
   simp only[go_sem,c3']
   exact fin (val a) (val b) (by rw[h1,Nat.div_one]) (by rw[h1,Nat.div_one]) _ _ rfl rfl rfl rfl Sq
theorem bjX {C:Ctx} (v:Int) (h1:-9223372036854775808≤v) (h2:v≤9223372036854775807) :
  JR.wp C (aU aiB.res (aE (.int .u64 (v.natAbs:Nat)))) (PF.args [.int .i64 v]) .nil:=by
 simp only[go_sem,γ,reduceCtorEq,JR,aOJ,aOK,aiB]
 by_cases c:v<0
 ·have e1:IntKind.i64.wrap (v+1)=v+1:=wrap_i64 Om Om
  have e2:IntKind.i64.wrap (0-(v+1))=-(v+1):=by rw[wrap_i64 Om Om]; omega
  have e3:IntKind.u64.wrap (IntKind.u64.wrap (-(v+1))+1)=((v.natAbs:Nat):Int):=by
   rw[fK,fK]; omega
  simp only[go_sem,γ,reduceCtorEq,c,aOL,e1,e2,e3]
  refine aL (.inr rfl) rfl ?_
  rfl
 ·have e:IntKind.u64.wrap v=((v.natAbs:Nat):Int):=by
   rw[fK]; omega
  simp only[go_sem,γ,reduceCtorEq,c,aOM,e]
  refine aL (.inr rfl) rfl ?_
  rfl
structure a1F (C:Ctx):Prop extends ayX C where
 lowest:∀ neg a b,Lim a→Lim b→a.length≤35184372087808→b.length≤35184372087808→nl (val a)≤512→nl (val b)≤512→val b≠0→aD C 58 [.bool neg,aF a,aF b] .nil (aE (.agg (kZ neg (val a) (val b)).rf.cells))
 size:∀ v:Int,cW v→aD C 59 [.int .i64 v] .nil (aE (.int .u64 (v.natAbs:Nat)))
def mkT (n d:Int):RF:=(kZ (decide (n<0) != decide (d<0)) n.natAbs d.natAbs).rf
def EB (n d:Int):PV:=if d=0 then yM 3 else .tup [.agg (mkT n d).cells,.int .i64 0]
theorem bjR {C:Ctx} (L:a1F C) (n d:Int) (h1:cW n) (h2:cW d) :
  JO.wp C (aU TQ.res (cA (EB n d))) (PF.args [.int .i64 n,.int .i64 d]) .nil:=by
 simp only[go_sem,δ,JO,aNW,aNX]
 refine aQ fun o ho=>?_
 unfold EB
 by_cases c:d=0
 ·subst c
  simp only[go_sem,ρ,δ,γ,aNY]
  refine gQ ?_
  simp only[go_sem,δ,γ,TQ]
 ·rw[if_neg c]
  simp only[go_sem,γ,reduceCtorEq,bG c,aNZ]
  refine aA (L.size n h1) rfl ?_
  simp only[go_sem]
  refine aA (L.make n.natAbs Om) rfl ?_
  simp only[go_sem,γ]
  refine aA (L.size d h2) rfl ?_
  simp only[go_sem]
  refine aA (L.make d.natAbs Om) rfl ?_
  simp only[go_sem]
  have n1:nl n.natAbs≤2:=mG Om
  have n2:nl d.natAbs≤2:=mG Om
  have low:=L.lowest (decide (n<0) != decide (d<0)) (aH n.natAbs) (aH d.natAbs) (aV _) (aV _) (by rw[aZ]; omega) (by rw[aZ]; omega)
  rw[aS,aS] at low
  have low:=low Om Om Om
  refine aA low rfl ?_
  simp only[go_sem,δ,γ]
  exact aX (.inr rfl) .nil (vs:=[.agg (mkT n d).cells,.int .i64 0]) (by simp only[go_sem,δ,γ,TQ]; rfl) PH.nil_le ⟨.refl _,rfl⟩
structure ayY (C:Ctx):Prop extends a1F C where
 fmk:∀ n d:Int,cW n→cW d→aD C 50 [.int .i64 n,.int .i64 d] .nil (aE (EB n d))
theorem bpX {C:Ctx} (L:ayY C) (n:Int) (h1:cW n) :
  RH.wp C (aU aNT.res (cA (.agg (mkT n 1).cells))) (PF.args [.int .i64 n]) .nil:=by
 simp only[go_sem,δ,RH,aZW,aZX,aNT]
 refine aQ fun o ho=>?_
 simp only[go_sem,reduceCtorEq]
 refine aA (L.fmk n 1 h1 (by unfold cW; omega)) rfl ?_
 unfold EB
 rw[if_neg (by decide)]
 simp only[go_sem,δ,γ]
 refine aQ fun p hp=>?_
 have hne:o≠p:=by
  rintro rfl
  simp only[bM,if_true] at hp
  cases hp
 have bIP:p≠o:=fun h=>hne h.symm
 simp only[go_sem,δ,γ,hne,aZY]
 refine aX (vs:=[.agg (mkT n 1).cells]) (.inr rfl) .nil ?_ PH.nil_le ⟨.refl _,rfl⟩
 simp only[go_sem,δ,γ,bIP]
def fG (l:List Nat) (n a:Nat):Nat × Nat:=if l.length≤a∨n<2 then (0,a) else (l.getD a 0%n,a+1)
def ayH (l:List Nat) (a:Nat):RF × Nat :=
 let x:=fG l 6 a
 let y:=fG l 8 x.2
 (mkT ((1+x.1:Nat):Int) ((1+y.1:Nat):Int),y.2)
abbrev oR:RF:=mkT 0 1
def buS (l:List Nat) (i j a:Nat):RF × Nat :=
 if j=i+1 then ayH l a
 else if j=i then (oR,a)
 else let t:=fG l 3 a
  if t.1=0 then ayH l t.2 else (oR,t.2)
def bsN (l:List Nat) (i a:Nat):Nat→List RF × Nat
 | 0=>([],a)
 | j+1=>let s:=bsN l i a j
  let z:=buS l i j s.2
  (s.1++[z.1],z.2)
structure bqT where
 start:List RF
 exit:List RF
 bHP:List (List RF)
 left:Nat
 a:Nat
def bvK (l:List Nat) (n i:Nat) (s:bqT):Nat × Nat:=if i+1<n then fG l (s.left+1) s.a else (s.left,s.a)
def bvF (l:List Nat) (n i a:Nat):RF × Nat :=
 let e:=ayH l a
 if i+1<n then (let t:=fG l 3 e.2; (if t.1=0 then oR else e.1,t.2)) else e
def brI (l:List Nat) (n a:Nat):Nat→bqT
 | 0=>⟨[],[],[],8,a⟩
 | i+1=>let s:=brI l n a i
  let k:=bvK l n i s
  let e:=bvF l n i k.2
  let r:=bsN l i e.2 n
  ⟨s.start++[mkT (k.1:Nat) 8],s.exit++[e.1],s.bHP++[r.1],s.left-k.1,r.2⟩
def bBT (l:List Nat) (brZ a:Nat):cN × Nat :=
 let t:=fG l brZ a
 let s:=brI l (1+t.1) t.2 (1+t.1)
 (⟨[],s.start,s.bHP,s.exit⟩,s.a)
def bsI (l:List Nat) (a:Nat):Nat→List RF × Nat
 | 0=>([],a)
 | k+1=>let s:=bsI l a k
  let z:=ayH l s.2
  (s.1++[z.1],z.2)
abbrev yS (n:Nat):List UInt8:=Lib.decDigits n
def bkN (l:List Nat) (a:Nat):Nat→List cN × Nat
 | 0=>([],a)
 | k+1=>let s:=bkN l a k
  let z:=bBT l 2 s.2
  (s.1++[{ z.1 with name:=[108,97,119]++yS k }],z.2)
def aUJ (l:List Nat) (bHT a:Nat):Nat→List cV × Nat
 | 0=>([],a)
 | k+1=>let s:=aUJ l bHT a k
  let x:=fG l 4 s.2
  let y:=fG l 8 x.2
  let z:=fG l bHT y.2
  (s.1++[⟨[109]++yS k,(1+x.1:Nat),(1+y.1:Nat),(z.1:Nat)⟩],z.2)
structure GS where
 bHV:List bR
 bIJ:List cG
 a:Nat
def bkI (l:List Nat) (mc bHK domain:Nat) (s:GS):Nat→GS
 | 0=>s
 | i+1=>let s:=bkI l mc bHK domain s i
  if s.bIJ.length<bHK then
   let t:=fG l mc s.a
   { s with bIJ:=s.bIJ++[⟨[100]++yS s.bIJ.length,(t.1:Nat),(domain:Nat)⟩],a:=t.2 }
  else s
def aUG (level:Nat):UInt8:=match level with
 | 0=>45
 | 1=>115
 | 2=>114
 | 3=>107
 | _=>109
def bBL (l:List Nat) (level domain:Nat) (s:GS):GS :=
 let u:=fG l 16 s.a
 let t:=fG l 3 u.2
 let k:=fG l 6 t.2
 let sh:RF × Nat:=if t.1=0 then (mkT 1 ((2+k.1:Nat):Int),k.2) else (oR,t.2)
 { s with bHV:=s.bHV++[⟨[aUG level]++yS s.bHV.length,(level:Nat),(domain:Nat),(1+u.1:Nat),sh.1⟩],a:=sh.2 }
def bvH (bHK:Nat) (s:GS):Bool:=decide (bHK≤s.bIJ.length)||decide (35≤s.bHV.length)
def bkJ (l:List Nat) (level bHK domain:Nat) (rec:Nat→GS→GS) (s:GS):Nat→GS
 | 0=>s
 | i+1=>let s:=bkJ l level bHK domain rec s i
  if bvH bHK s then s else (let s':=bBL l level domain s; rec (s'.bHV.length-1) s')
def bkL (l:List Nat) (mc bHK:Nat):Nat→Nat→GS→GS
 | 0,domain,s=>let t:=fG l 2 s.a
  bkI l mc bHK domain { s with a:=t.2 } (1+t.1)
 | k+1,domain,s=>let t:=fG l 2 s.a
  bkJ l (4-k) bHK domain (bkL l mc bHK k) { s with a:=t.2 } (if 4-k=2 then 1 else 1+t.1)
def jE:bR:=⟨[],0,-1,0,oR⟩
def TI (l:List Nat) (a:Nat):Int × Nat :=
 let t:=fG l 3 a
 let k:=fG l 3 t.2
 if t.1=0 then ((1+k.1:Nat),k.2) else (0,t.2)
def boM (l:List Nat) (bHL i a:Nat):dB × Nat :=
 let k:=fG l 2 a
 let m:=fG l 3 k.2
 let h:=fG l 4 m.2
 let q:=fG l (m.1+1) h.2
 let r:=bsI l q.2 (max m.1 1)
 let g:=fG l 9 r.2
 let s1:=TI l g.2
 let s2:=TI l s1.2
 let s3:=TI l s2.2
 let s4:=TI l s3.2
 let f:=fG l bHL s4.2
 let b:=fG l 2 f.2
 let ms:List Int × Nat:=if 1<bHL then (if b.1=0 then ([(f.1:Int),1-(f.1:Int)],b.2) else ([(f.1:Int)],b.2)) else ([(f.1:Int)],f.2)
 (⟨[112]++yS i,(1+k.1:Nat),(m.1:Nat),(1+k.1+q.1:Nat),0,s1.1,s2.1,s3.1,s4.1,ms.1,r.1,mkT (g.1:Nat) 8,mkT ((1+h.1:Nat):Int) 1⟩,ms.2)
def asJ (l:List Nat) (bHL a:Nat):Nat→List dB × Nat
 | 0=>([],a)
 | k+1=>let s:=asJ l bHL a k
  let z:=boM l bHL k s.2
  (s.1++[z.1],z.2)
def aOD (l:List Nat) (pols a:Nat):Nat→List eG × Nat
 | 0=>([],a)
 | k+1=>let s:=aOD l pols a k
  let z:=fG l pols s.2
  (s.1++[⟨[118]++yS k,(z.1:Nat)⟩],z.2)
def acS (l:List Nat) (bHK bHM a:Nat):aJ × Nat :=
 let e:=fG l 2 a
 let lw:=fG l 2 e.2
 let bHT:=bkN l lw.2 (1+lw.1)
 let md:=fG l 2 bHT.2
 let bHL:=aUJ l (1+lw.1) md.2 (1+md.1)
 let g:=bkL l (1+md.1) bHK 4 0 ⟨[jE],[],bHL.2⟩
 let pl:=fG l 2 g.a
 let pols:=asJ l (1+md.1) pl.2 (1+pl.1)
 let vo:=fG l (bHM+1) pols.2
 let vols:=aOD l (1+pl.1) vo.2 vo.1
 (⟨(1+e.1:Nat),bHT.1,bHL.1,g.bHV,g.bIJ,pols.1,vols.1⟩,vols.2)
def nxM (l:List Int) (n a:Nat):Nat:=if n=0 then 0 else ((l.getD a ((a%3:Nat):Int))%(n:Int)).toNat
theorem cO (l:List Int) {n:Nat} (h:0<n) (a:Nat):nxM l n a<n:=by
 unfold nxM
 rw[if_neg Om]
 have h1:=Int.emod_lt_of_pos (l.getD a ((a%3:Nat):Int)) (Om:(0:Int)<n)
 have h2:=Int.emod_nonneg (l.getD a ((a%3:Nat):Int)) (Om:(n:Int)≠0)
 omega
def dO (c:UInt8) (n:Nat):List UInt8:=[c,UInt8.ofNat (97+n/26%26),UInt8.ofNat (97+n%26)]
def dK (ds:List bR) (level parent bIK:Nat):List bR:=ds++[⟨dO 110 ds.length,(level:Nat),(parent:Nat),(bIK:Nat),oR⟩]
structure MS where
 bHV:List bR
 bIJ:List cG
 site:Nat
 room:Nat
 rack:Nat
 a:Nat
def eJ (l:List Int) (i:Nat) (s:MS):MS :=
 let new (a:Nat):MS :=
  let d1:=dK s.bHV 1 0 (16+nxM l 17 a)
  let d2:=dK d1 2 s.bHV.length (16+nxM l 17 (a+1))
  let d3:=dK d2 3 d1.length (8+nxM l 9 (a+2))
  ⟨d3,s.bIJ,s.bHV.length,d1.length,d2.length,a+3⟩
 if i=0 then new s.a
 else if nxM l 4 s.a=0 then new (s.a+1)
 else if nxM l 2 (s.a+1)=0 then ⟨dK s.bHV 3 s.room (8+nxM l 9 (s.a+2)),s.bIJ,s.site,s.room,s.bHV.length,s.a+3⟩
 else { s with a:=s.a+2 }
def jB (l:List Int) (m:Nat):Nat→List cG × Nat→List cG × Nat
 | 0,s=>s
 | k+1,s=>if s.1.length<9 then jB l m k (s.1++[⟨dO 100 s.1.length,((if nxM l 4 s.2=0 then 1 else 0:Nat):Int),(m:Nat)⟩],s.2+1) else s
def yV (l:List Int) (i:Nat) (s:MS):MS :=
 let p:=eJ l i s
 let ds:=dK p.bHV 4 p.rack (8+nxM l 9 p.a)
 let d:=jB l p.bHV.length (1+nxM l 2 (p.a+1)) (p.bIJ,p.a+2)
 { p with bHV:=ds,bIJ:=d.1,a:=d.2 }
def eI (l:List Int) (s:MS):Nat→MS
 | 0=>s
 | i+1=>yV l i (eI l s i)
def oT (l:List Int) (n a:Nat):dB :=
 let k:=1+nxM l 2 a
 let m:=nxM l 3 (a+1)
 ⟨dO 112 n,(k:Nat),(m:Nat),(k+nxM l (m+1) (a+2):Nat),0,0,0,(nxM l 4 (a+3):Nat),(nxM l 3 (a+4):Nat),if nxM l 5 (a+5)=0 then [0] else [0,1],bJR (max m 1) (mkT 1 2),mkT 1 1000,mkT 30 1⟩
def iR (l:List Int):Nat→Nat→List dB
 | 0,_=>[]
 | n+1,a=>oT l (n+1) a::iR l n (a+6)
def kV (l:List Int) (pols:Nat):Nat→Nat→List eG
 | 0,_=>[]
 | n+1,a=>⟨dO 118 (n+1),(nxM l pols a:Nat)⟩::kV l pols n (a+1)
def dH (l:List Int) (bHM a:Nat):aJ × Nat :=
 let law:cN:=⟨[100,105,115,107],[mkT 1 1],[[mkT 0 1]],[mkT 1 ((100+nxM l 100 (a+1):Nat):Int)]⟩
 let m1:cV:=⟨[98,105,103],(3+nxM l 2 (a+2):Nat),(8+nxM l 9 (a+3):Nat),0⟩
 let m2:cV:=⟨[111,108,100],(1+nxM l 3 (a+4):Nat),(4+nxM l 9 (a+5):Nat),0⟩
 let s:=eI l ⟨[jE],[],0,0,0,a+7⟩ (3+nxM l 3 (a+6))
 let np:=1+nxM l 2 s.a
 let nv:=1+nxM l bHM (s.a+1+6*np)
 (⟨(1+nxM l 2 a:Nat),[law],[m1,m2],s.bHV,s.bIJ,iR l np (s.a+1),kV l np nv (s.a+2+6*np)⟩,s.a+2+6*np+nv)
def pF (row:List Int) (n:Nat):Nat→Nat→Nat
 | 0,d=>d
 | k+1,d=>if row.contains (d:Int) then pF row n k ((d+1)%n) else d
def uV (l:List Int) (row:List Int) (n a:Nat):Int × Nat :=
 let d:=pF row n n (nxM l n a)
 if row.contains (d:Int) then (-1,a+1) else if nxM l 12 (a+1)=0 then (-1,a+2) else ((d:Int),a+2)
def jS (l:List Int) (n a:Nat):Nat→List Int × Nat
 | 0=>([],a)
 | i+1=>let s:=jS l n a i
  let z:=uV l s.1 n s.2
  (s.1++[z.1],z.2)
def dA (l:List Int) (f:aJ) (a:Nat):Nat→List (List Int) × Nat
 | 0=>([],a)
 | v+1=>let s:=dA l f a v
  let r:=jS l f.bHK.length s.2 (fB f v).toNat
  (s.1++[r.1],r.2)
def wU (l:List Int) (x:Int) (a:Nat):Int × Nat :=
 if nxM l 9 a=0 then (0,a+1) else if nxM l 9 a=1 then ((nxM l (x+1).toNat (a+1):Nat),a+2) else (x,a+1)
def fF (l:List Int):List Int→Nat→List Int × Nat
 | [],a=>([],a)
 | x::xs,a=>let z:=wU l x a
  let r:=fF l xs z.2
  (z.1::r.1,r.2)
theorem aRQ (l:List Int) (m:Nat):∀ (k:Nat) (s:List cG × Nat),s.1.length≤9→(jB l m k s).1.length≤9∧s.2≤(jB l m k s).2∧(jB l m k s).2≤s.2+k
 | 0,s,h=>⟨h,bJQ _,bJQ _⟩
 | k+1,s,h=>by
  rw[jB]
  split
  ·have:=aRQ l m k (s.1++[⟨dO 100 s.1.length,((if nxM l 4 s.2=0 then 1 else 0:Nat):Int),(m:Nat)⟩],s.2+1) (by simp; omega)
   simp only at this
   omega
  ·exact⟨h,bJQ _,by omega⟩
theorem aUI (a b:Nat):mkT (a:Int) (b:Int)=⟨false,aH (a/bJT a b),aH (b/bJT a b)⟩:=by
 have h1:decide ((a:Int)<0)=false:=decide_eq_false Om
 have h2:decide ((b:Int)<0)=false:=decide_eq_false Om
 unfold mkT kZ FV.rf
 rw[h1,h2,Int.natAbs_natCast,Int.natAbs_natCast]
 rfl
structure SmF (x:RF) (p q:Nat):Prop where
 eq:x=⟨false,aH (p/bJT p q),aH (q/bJT p q)⟩
 a:p≤64
 b:q≤64
 pos:0<q
theorem SmF.mk' {a b:Nat} (ha:a≤64) (hb:b≤64) (h:0<b):SmF (mkT (a:Int) (b:Int)) a b:=⟨aUI a b,ha,hb,h⟩
theorem SmF.num {x:RF} {a b:Nat} (h:SmF x a b):val x.num=a/bJT a b:=by rw[h.eq,aS]
theorem SmF.den {x:RF} {a b:Nat} (h:SmF x a b):val x.den=b/bJT a b:=by rw[h.eq,aS]
theorem SmF.v {x:RF} {a b:Nat} (h:SmF x a b):x.v=(false,a/bJT a b,b/bJT a b):=by
 unfold RF.v
 rw[h.num,h.den,h.eq]
theorem SmF.aHW {x:RF} {a b:Nat} (_:SmF x a b):a/bJT a b≤a:=Nat.div_le_self ..
theorem SmF.aAF {x:RF} {a b:Nat} (_:SmF x a b):b/bJT a b≤b:=Nat.div_le_self ..
theorem SmF.den_pos {x:RF} {a b:Nat} (h:SmF x a b):0<b/bJT a b:=Nat.div_pos (Nat.le_of_dvd h.pos (Nat.gcd_dvd_right a b)) (Nat.gcd_pos_of_pos_right a h.pos)
theorem vY {n:Nat} (h:n≤4096):cD n≤32:=(kK n 32).2 Om
theorem aPL {n:Nat} (h:0<n):0<cD n:=by
 rcases bMO (cD n) with e | e
 ·rw[jH] at e; omega
 ·exact e
theorem RD {a b:Nat} (ha:a≤4096) (hb:b≤4096) (h:0<b):cP a b=true:=by
 have h1:=vY ha
 have h2:=vY hb
 have h3:=aPL h
 unfold cP
 rw[decide_eq_true h3,decide_eq_true (Om:cD b≤4096),decide_eq_true (Om:cD a≤4096)]
 rfl
theorem bnN {n:Bool} {a b:Nat} (ha:a≤4096) (hb:b≤4096):gS n a b=.ok (n&&decide (a/bJT a b≠0),a/bJT a b,b/bJT a b):=by
 have h1:=vY (Nat.le_trans (Nat.div_le_self a (bJT a b)) ha)
 have h2:=vY (Nat.le_trans (Nat.div_le_self b (bJT a b)) hb)
 unfold gS
 rw[if_neg Om]
theorem SmF.lim {x:RF} {a b:Nat} (h:SmF x a b):cJ x=true:=by
 have h1:=h.aHW
 have h2:=h.aAF
 have h3:=h.den_pos
 have:=h.a
 have:=h.b
 have hn:x.neg=false:=by rw[h.eq]
 unfold cJ mR
 rw[h.num,h.den,hn,RD Om Om h3,if_pos rfl,bnN Om Om]
 have e1:=Nat.div_le_self (a/bJT a b) (bJT (a/bJT a b) (b/bJT a b))
 have e2:=Nat.div_le_self (b/bJT a b) (bJT (a/bJT a b) (b/bJT a b))
 simp only[bJU,bKD,bKA,bKM,decide_eq_true_eq]
 exact⟨vY Om,vY Om⟩
theorem SmF.uI {x:RF} {a b:Nat} (h:SmF x a b) (ha:0<a):cB x=true:=by
 unfold cB
 rw[h.num]
 exact decide_eq_true (Nat.ne_of_gt (Nat.div_pos (Nat.le_of_dvd ha (Nat.gcd_dvd_left a b)) (Nat.gcd_pos_of_pos_right a h.pos)))
theorem SmF.zero {x:RF} {b:Nat} (h:SmF x 0 b):cB x=false:=by
 unfold cB
 rw[h.num,Nat.zero_div]
 rfl
theorem SmF.one {x:RF} {a b:Nat} (h:SmF x a b) (hab:a≤b):sF x=true:=by
 have h1:=h.aHW
 have h2:=h.aAF
 have h3:=h.den_pos
 have:=h.a
 have:=h.b
 have hn:x.neg=false:=by rw[h.eq]
 unfold sF
 rw[h.num,h.den,hn,RD Om Om h3]
 have:a/bJT a b≤b/bJT a b:=Nat.div_le_div_right hab
 show (true&&decide (dD (a/bJT a b*1) (1*(b/bJT a b))≤0))=true
 rw[Nat.mul_one,Nat.one_mul,bKA]
 refine decide_eq_true ?_
 unfold dD
 split
 ·decide
 ·split
  ·omega
  ·decide
theorem SmF.ok {x:RF} {a b:Nat} (h:SmF x a b):x.Ok:=by
 have h1:=h.aHW
 have h2:=h.aAF
 have:=h.a
 have:=h.b
 have k1:nl (a/bJT a b)≤1:=(gY _ _).2 Om
 have k2:nl (b/bJT a b)≤1:=(gY _ _).2 Om
 rw[h.eq]
 refine⟨aV _,aV _,?_,?_⟩
 ·show (aH _).length≤_
  rw[aZ]; omega
 ·show (aH _).length≤_
  rw[aZ]; omega
theorem TW {l:List (List UInt8)} (h1:∀ x∈l,isName x=true) (h2:l.Nodup):distinct l=true:=by
 unfold distinct
 rw[bKK]
 intro i hi
 rw[bKZ] at hi
 have e:l.getD i []=l[i]:=by simp[bKH,hi]
 rw[e,h1 _ (bJS hi),bKA]
 have:¬ l[i]∈l.take i:=by
  intro hm
  obtain⟨j,hj,e⟩:=bLV hm
  rw[bKG] at hj
  rw[List.getElem_take] at e
  have:=(List.nodup_iff_pairwise_ne.1 h2)
  rw[List.pairwise_iff_getElem] at this
  exact this j i Om hi Om e
 simp[this]
theorem OG {l:List (List UInt8)} {g:List UInt8→Nat} (h:∀ i (hi:i<l.length),g l[i]=i):l.Nodup:=by
 rw[List.nodup_iff_pairwise_ne,List.pairwise_iff_getElem]
 intro i j hi hj hlt e
 have h1:=h i hi
 have h2:=h j hj
 rw[e] at h1
 omega
theorem nH (a b:Nat) (ha:a<4294967296) (hb:b<4294967296):(mkT (a:Int) (b:Int)).Ok:=by
 rw[aUI]
 have h1:=Nat.div_le_self a (bJT a b)
 have h2:=Nat.div_le_self b (bJT a b)
 have k1:nl (a/bJT a b)≤1:=(gY _ _).2 Om
 have k2:nl (b/bJT a b)≤1:=(gY _ _).2 Om
 refine⟨aV _,aV _,?_,?_⟩
 ·show (aH _).length≤_
  rw[aZ]; omega
 ·show (aH _).length≤_
  rw[aZ]; omega
theorem kA {n:Nat} (h:n≤1000000):cW (n:Int):=by unfold cW; omega
def LN (ds:List bR):Prop:=∀ x∈ds,x.bIC.Ok∧cW x.level∧cW x.parent
def aaG (ds:List cG):Prop:=∀ x∈ds,cW x.model∧cW x.machine
theorem LN.dom {ds:List bR} (h:LN ds) {level parent bIK:Nat} (h1:level≤1000) (h2:parent≤1000):LN (dK ds level parent bIK):=fun x hx=>by
 unfold dK at hx
 rw[bLB,bKV] at hx
 rcases hx with hx | rfl
 ·exact h x hx
 ·exact⟨nH 0 1 (by decide) (by decide),kA Om,kA Om⟩
structure MOk (k:Nat) (a0:Nat) (s:MS):Prop where
 len:s.bHV.length≤1+4*k
 bHV:LN s.bHV
 dlen:s.bIJ.length≤9
 bIJ:aaG s.bIJ
 room:s.room≤4*k
 rack:s.rack≤4*k
 lo:a0≤s.a
 hi:s.a≤a0+8*k
structure POk (k:Nat) (a0:Nat) (s:MS):Prop where
 len:s.bHV.length≤4+4*k
 bHV:LN s.bHV
 dlen:s.bIJ.length≤9
 bIJ:aaG s.bIJ
 room:s.room≤3+4*k
 rack:s.rack≤3+4*k
 lo:a0≤s.a
 hi:s.a≤a0+8*k+4
theorem nG (ds:List bR) (a b c:Nat):(dK ds a b c).length=ds.length+1:=by simp[dK]
theorem VN (l:List Int) (i:Nat) {k a0:Nat} {s:MS} (hk:k≤100) (h:MOk k a0 s):POk k a0 (eJ l i s):=by
 obtain⟨h1,h2,h3,h4,h5,h6,h7,h8⟩:=h
 have key:∀ a,s.a≤a→a≤s.a+1→POk k a0 ⟨dK (dK (dK s.bHV 1 0 (16+nxM l 17 a)) 2 s.bHV.length (16+nxM l 17 (a+1))) 3 (dK s.bHV 1 0 (16+nxM l 17 a)).length (8+nxM l 9 (a+2)),s.bIJ,s.bHV.length,(dK s.bHV 1 0 (16+nxM l 17 a)).length,(dK (dK s.bHV 1 0 (16+nxM l 17 a)) 2 s.bHV.length (16+nxM l 17 (a+1))).length,a+3⟩:=fun a g1 g2 =>
  ⟨by simp only[nG]; omega,((h2.dom Om Om).dom Om Om).dom Om (by rw[nG]; omega),h3,h4,by simp only[nG]; omega,by simp only[nG]; omega,by simp only; omega,by simp only; omega⟩
 unfold eJ
 simp only
 split
 ·exact key _ (bJQ _) Om
 ·split
  ·exact key _ Om (bJQ _)
  ·split
   ·exact⟨by simp only[nG]; omega,h2.dom Om Om,h3,h4,by simp only; omega,by simp only; omega,by simp only; omega,by simp only; omega⟩
   ·exact⟨by simp only; omega,h2,h3,h4,by simp only; omega,by simp only; omega,by simp only; omega,by simp only; omega⟩
theorem apI (l:List Int) {m:Nat} (hm:m≤1000):∀ (k:Nat) (s:List cG × Nat),aaG s.1→aaG (jB l m k s).1
 | 0,s,h=>h
 | k+1,s,h=>by
  rw[jB]
  split
  ·refine apI l hm k _ fun x hx=>?_
   rw[bLB,bKV] at hx
   rcases hx with hx | rfl
   ·exact h x hx
   ·refine⟨kA ?_,kA Om⟩
    split<;>omega
  ·exact h
theorem a3L (l:List Int) (i:Nat) {k a0:Nat} {s:MS} (hk:k≤100) (h:MOk k a0 s):MOk (k+1) a0 (yV l i s):=by
 obtain⟨h1,h2,h3,h4,h5,h6,h7,h8⟩:=VN l i hk h
 have n2:=cO l (show 0<2 by decide) ((eJ l i s).a+1)
 unfold yV
 simp only
 obtain⟨g1,g2,g3⟩:=aRQ l (eJ l i s).bHV.length (1+nxM l 2 ((eJ l i s).a+1)) ((eJ l i s).bIJ,(eJ l i s).a+2) h3
 have g4:=apI l (m:=(eJ l i s).bHV.length) Om (1+nxM l 2 ((eJ l i s).a+1)) ((eJ l i s).bIJ,(eJ l i s).a+2) h4
 simp only at g2 g3
 exact⟨by simp only[nG]; omega,h2.dom Om Om,g1,g4,by simp only; omega,by simp only; omega,by simp only; omega,by simp only; omega⟩
theorem pA (l:List Int) {a0:Nat} {s:MS} (h:MOk 0 a0 s):∀ k,k≤100→MOk k a0 (eI l s k)
 | 0,_=>h
 | k+1,hk=>a3L l k Om (pA l h k Om)
theorem aeF (a:Nat):MOk 0 a ⟨[jE],[],0,0,0,a⟩ :=
 ⟨by simp,fun x hx=>by
  rw[bKV] at hx
  subst hx
  exact⟨nH 0 1 (by decide) (by decide),by unfold cW jE; simp,by unfold cW jE; simp⟩,by simp,(fun x hx=>by cases hx),by simp,by simp,bJQ _,by simp only; omega⟩
theorem qB (l:List Int):∀ n a,(iR l n a).length=n
 | 0,_=>rfl
 | n+1,a=>by rw[iR,bLG,qB l n]
theorem zM (l:List Int) (p:Nat):∀ n a,(kV l p n a).length=n
 | 0,_=>rfl
 | n+1,a=>by rw[kV,bLG,zM l p n]
theorem bnA:(mkT 1 2).Ok:=nH 1 2 (by decide) (by decide)
theorem boJ (l:List Int) (n a:Nat):(oT l n a).Ok:=by
 have n1:=cO l (show 0<2 by decide) a
 have n2:=cO l (show 0<3 by decide) (a+1)
 have n3:=cO l (Om:0<nxM l 3 (a+1)+1) (a+2)
 unfold oT
 refine⟨kA Om,kA Om,kA Om,?_,?_,⟨?_,?_⟩,nH 1 1000 (by decide) (by decide),nH 30 1 (by decide) (by decide)⟩
 ·simp only; split<;>decide
 ·simp only
  intro m hm
  split at hm
  ·rw[bKV] at hm; subst hm; exact kA (n:=0) (by decide)
  ·rw[bKE,bKV] at hm
   rcases hm with rfl | rfl
   ·exact kA (n:=0) (by decide)
   ·exact kA (n:=1) (by decide)
 ·show (bJR _ _).length≤_
  rw[bNB]; omega
 ·intro x hx
  rw[List.eq_of_mem_replicate hx]; exact bnA
theorem aIR (l:List Int):∀ n a,∀ p∈iR l n a,p.Ok
 | 0,_,p,h=>by cases h
 | n+1,a,p,h=>by
  rw[iR,bKE] at h
  rcases h with rfl | h
  ·exact boJ l _ _
  ·exact aIR l n _ p h
theorem aOC (l:List Int) {p:Nat} (hp:0<p) (hp2:p≤1000):∀ n a,∀ x∈kV l p n a,0≤x.bHY∧x.bHY<p∧cW x.bHY
 | 0,_,x,h=>by cases h
 | n+1,a,x,h=>by
  rw[kV,bKE] at h
  rcases h with rfl | h
  ·have:=cO l hp a
   exact⟨by simp only; omega,by simp only; omega,kA Om⟩
  ·exact aOC l hp hp2 n _ x h
theorem aIQ (l:List Int):∀ n a,∀ p∈iR l n a,1≤p.k∧p.k≤2∧0≤p.m∧p.m≤2
 | 0,_,p,h=>by cases h
 | n+1,a,p,h=>by
  rw[iR,bKE] at h
  rcases h with rfl | h
  ·have n1:=cO l (show 0<2 by decide) a
   have n2:=cO l (show 0<3 by decide) (a+1)
   unfold oT
   simp only
   omega
  ·exact aIQ l n _ p h
structure FM (f:aJ):Prop where
 ok:f.Ok
 km:∀ p∈f.bHO,1≤p.k∧p.k≤2∧0≤p.m∧p.m≤2
 bHK:f.bHK.length≤9
 pols:1≤f.bHO.length∧f.bHO.length≤2
 vols:∀ x∈f.bHM,0≤x.bHY∧x.bHY<f.bHO.length
theorem yL (l:List Int) {bHM:Nat} (hv:bHM≤1000) (a:Nat):FM (dH l bHM a).1∧(dH l bHM a).1.bHM.length≤1+bHM∧a≤(dH l bHM a).2∧(dH l bHM a).2≤a+100+bHM:=by
 have n3:=cO l (show 0<3 by decide) (a+6)
 obtain⟨h1,h2,h3,h4,-,-,h7,h8⟩:=pA l (aeF (a+7)) (3+nxM l 3 (a+6)) Om
 unfold dH
 simp only
 generalize eI l ⟨[jE],[],0,0,0,a+7⟩ (3+nxM l 3 (a+6))=s at *
 have n2:=cO l (show 0<2 by decide) s.a
 have nv:nxM l bHM (s.a+1+6*(1+nxM l 2 s.a))≤bHM:=by
  rcases bMO bHM with e | e
  ·subst e; unfold nxM; simp
  ·exact Nat.le_of_lt (cO l e _)
 have n100:=cO l (show 0<100 by decide) (a+1)
 have hvo:=aOC l (p:=1+nxM l 2 s.a) Om Om (1+nxM l bHM (s.a+1+6*(1+nxM l 2 s.a))) (s.a+2+6*(1+nxM l 2 s.a))
 refine⟨⟨⟨by simp,by simp,by unfold Fits; simp only; omega,by unfold Fits; simp only; omega,by unfold Fits; rw[qB]; omega,by unfold Fits; rw[zM]; omega,?_,h2,h4,fun p hp=>aIR l _ _ p hp,fun x hx=>(hvo x hx).2.2⟩,fun p hp=>aIQ l _ _ p hp,h3,by rw[qB]; omega,fun x hx=>by rw[qB]; exact⟨(hvo x hx).1,by have:=(hvo x hx).2.1; omega⟩⟩,by rw[zM]; omega,by omega,by omega⟩
 intro x hx
 rw[bKV] at hx
 subst hx
 refine⟨⟨by simp,fun x hx=>?_⟩,⟨by simp,fun x hx=>?_⟩,by simp,fun r hr=>?_⟩
 ·rw[bKV] at hx; subst hx; exact nH 1 1 (by decide) (by decide)
 ·rw[bKV] at hx; subst hx; exact nH 1 _ (by decide) Om
 ·rw[bKV] at hr
  subst hr
  refine⟨by simp,fun x hx=>?_⟩
  rw[bKV] at hx; subst hx; exact nH 0 1 (by decide) (by decide)
theorem FM.pol {f:aJ} (h:FM f) {v:Nat} (hv:v<f.bHM.length):uG f v<f.bHO.length∧cY f v∈f.bHO:=by
 have h1:=h.vols _ (bJS hv)
 have h2:uG f v=(f.bHM[v]).bHY.toNat:=by rw[uG,oC hv]
 have h3:uG f v<f.bHO.length:=by omega
 refine⟨h3,?_⟩
 unfold cY
 rw[bKH,bJZ h3,bMK]
 exact bJS h3
theorem FM.XH {f:aJ} (h:FM f) {v:Nat} (hv:v<f.bHM.length):1≤fB f v∧fB f v≤4:=by
 have:=h.km _ (h.pol hv).2
 unfold fB
 omega
theorem DR (l:List Int) (n a:Nat):∀ k,(jS l n a k).1.length=k∧a≤(jS l n a k).2∧(jS l n a k).2≤a+2*k
 | 0=>⟨rfl,bJQ _,bJQ _⟩
 | k+1=>by
  obtain⟨h1,h2,h3⟩:=DR l n a k
  rw[jS]
  simp only[bJW,bKC,h1,true_and]
  unfold uV
  simp only
  split
  ·simp only; omega
  ·split<;>simp only<;>omega
theorem qY (l:List Int) {f:aJ} (hf:FM f) (a:Nat):∀ k,k≤f.bHM.length→(dA l f a k).1.length=k∧(∀ r∈(dA l f a k).1,r.length≤4)∧a≤(dA l f a k).2∧(dA l f a k).2≤a+8*k
 | 0,_=>⟨rfl,(fun r h=>by cases h),bJQ _,bJQ _⟩
 | k+1,hk=>by
  obtain⟨h1,h2,h3,h4⟩:=qY l hf a k Om
  have hfr:=hf.XH (v:=k) Om
  obtain⟨r1,r2,r3⟩:=DR l f.bHK.length (dA l f a k).2 (fB f k).toNat
  rw[dA]
  simp only[bJW,bKC,h1,true_and]
  refine⟨fun r hr=>?_,by omega,by omega⟩
  rw[bLB,bKV] at hr
  rcases hr with hr | rfl
  ·exact h2 r hr
  ·rw[r1]; omega
def aKH:Rg:=[iA 2 (.box true (Tm 0)),iI 4 0]
def aKI:Rd:=[(iF 6 5 2,false),(iL 7 6,false),(iF 8 6 2,false),(iL 9 8,false),(iM 10 1,false),(iX 11 2 9 10,false),(iF 12 1 11,false),(iL 13 12,false),(iX 14 17 7 13,false),(iO 15 17 14,false),(iA 5 (.alloc [(.str []),(.int .i64 0),(.int .i64 0),(.int .i64 0),(.int .i64 0),(.int .i64 0),(.int .i64 0),(.int .i64 0),(.int .i64 0),.aB,.aB,(.bool false),.aB,.aB,(.bool false),.aB,.aB]),true),(iS 17 5 15,true)]
def aKJ:Rg:=[iF 16 1 5,iL 17 16,iF 18 2 5,iL 19 18,iB 20 .add 17 19,iM 4 20]
def IH:aC:=(sq aKH (dq aKI (sq aKJ .ret)))
def biL:List Nat:=[2]
def afO:aW:=⟨2,21,IH,[.tmp 4]⟩
abbrev bvW (l:List Nat):List (List PV):=l.map fun (n:Nat)=>[PV.int .u8 (n:Int)]
abbrev ayK (v:PV) (a:Nat):cT:=.rows 2 [[v,.int .i64 a]]
structure Tp (l:List Nat) (v:PV):Prop where
 seen:Seen 1 v (bvW l)
 byte:∀ x∈l,x<256
 len:l.length≤400
section
variable {C:Ctx} {F:PF} {H:PH} {l:List Nat} {v:PV} {o a:Nat}
end
abbrev SZ (l:List RF):List (List PV):=l.map RF.cells
theorem a2P (l:List RF) (x:RF):SZ l++[x.cells]=SZ (l++[x]):=by simp[SZ]
theorem MY (l:List RF):(SZ l).length=l.length:=by simp[SZ]
theorem Tp.frz {l:List Nat} {v:PV} (T:Tp l v) (q s:Nat) (rs:List (List PV)):PV.dE q s rs v=v:=by
 rcases T.seen with ⟨_,rfl⟩ | rfl<;>rfl



section
variable {C:Ctx} {F:PF} {H Hs:PH} {l:List Nat} {v:PV} {o a:Nat}
end
theorem bK.uE {H:PH} {s:Nat} {v:PV} {rows:List (List PV)} (h:bK H s v rows):PV.uE v=some (.int .i64 (rows.length:Nat)):=by
 rcases h with ⟨rfl,rfl⟩ | ⟨q,rs,rfl,_⟩<;>rfl
abbrev dL (l:List bR):List (List PV):=l.map bR.cells
abbrev eD (l:List cG):List (List PV):=l.map cG.cells
abbrev flB (ext wl wm wd wr wp wv:PV):cT:=.rows 7 [[ext,wl,wm,wd,wr,wp,wv]]
structure GE where
 o:Nat
 fo:Nat
 qm:Nat
 ext:PV
 wl:PV
 wp:PV
 wv:PV
abbrev GE.boxes (G:GE) (v:PV) (mc:Nat) (wd wr:PV) (a:Nat):List BX:=[(G.o,ayK v a),(G.fo,flB G.ext G.wl (.osl G.qm 4 0 mc) wd wr G.wp G.wv)]
theorem bK.one {H:PH} {s:Nat} {v:PV} {rows:List (List PV)} (h:bK H s v rows) (hn:0<rows.length):∃ q,v=.osl q s 0 rows.length:=by
 rcases h with ⟨rfl,_⟩ | ⟨q,rs,rfl,_⟩
 ·simp at hn
 ·exact⟨q,rfl⟩


structure FE where
 o:Nat
 o6:Nat
 o7:Nat
 bHK:Nat
 bHM:Nat
abbrev flZ:cT:=flB (.int .i64 0) .aB .aB .aB .aB .aB .aB
abbrev FE.boxes (E:FE) (v ext w1 w2 w3 w4 w5 w6:PV) (a:Nat):List BX:=[(E.o,ayK v a),(E.o7,flB ext w1 w2 w3 w4 w5 w6),(E.o6,flZ)]
abbrev aFK (l:List cN):List (List PV):=l.map cN.cells
abbrev a9H (l:List cV):List (List PV):=l.map cV.cells


abbrev FE.lists (w1 w2 w3 w4 w5:PV) (lw:List cN) (md:List cV) (dm:List bR) (dv:List cG) (pr:List (List PV)):List LI:=[(w1,4,aFK lw),(w2,4,a9H md),(w3,7,dL dm),(w4,3,eD dv),(w5,17,pr)]
abbrev lH (l:List dB):List (List PV):=l.map dB.cells
abbrev pC (l:List eG):List (List PV):=l.map eG.cells
theorem rG {rows:List (List PV)} (h:∀ r∈rows,∀ c∈r,c.oid=none):Flat rows:=Flat.of fun r hr c hc q s rs=>uU (h r hr c hc) q s rs
theorem aRP (l:List bR):Flat (dL l):=rG fun r hr c hc=>by
 obtain⟨x,_,rfl⟩:=bKU.1 hr
 simp only[bR.cells,bKE,bLC,or_false] at hc
 rcases hc with rfl | rfl | rfl | rfl | rfl | rfl | rfl<;>rfl
theorem aRR (l:List cG):Flat (eD l):=rG fun r hr c hc=>by
 obtain⟨x,_,rfl⟩:=bKU.1 hr
 simp only[cG.cells,bKE,bLC,or_false] at hc
 rcases hc with rfl | rfl | rfl<;>rfl
theorem bpZ (l:List eG):Flat (pC l):=rG fun r hr c hc=>by
 obtain⟨x,_,rfl⟩:=bKU.1 hr
 simp only[eG.cells,bKE,bLC,or_false] at hc
 rcases hc with rfl | rfl<;>rfl
theorem aWE (l:List dB):Flat (lH l):=rG fun r hr c hc=>by
 obtain⟨x,_,rfl⟩:=bKU.1 hr
 simp only[dB.cells,bKE,bLC,or_false] at hc
 rcases hc with rfl | rfl | rfl | rfl | rfl | rfl | rfl | rfl | rfl | rfl | rfl | rfl | rfl | rfl | rfl | rfl | rfl<;>rfl
def a7F (l:List Nat) (v:PV) (o bHK bHM a:Nat) (r:PV) (H:PH):Prop:=Co r (.agg (acS l bHK bHM a).1.cells)∧H=PH.nil.set o (ayK v (acS l bHK bHM a).2)
theorem a7F.exact {C:Ctx} {name:Nat} {args:List PV} {H:PH} {l:List Nat} {v:PV} {o bHK bHM a:Nat} (h:aD C name args H (a7F l v o bHK bHM a)):aD C name args H (fun r H=>r=.agg (acS l bHK bHM a).1.cells∧H=PH.nil.set o (ayK v (acS l bHK bHM a).2)) :=
 h.post fun r H' hr=>⟨_,hr.1,rfl,hr.2⟩
theorem bvU (x:Int) {n:Int} (h:0<n):(if Int.tmod x n<0 then Int.tmod x n+n else Int.tmod x n)=x%n:=by
 rcases Int.le_total 0 x with c | c
 ·have e:=Int.tmod_eq_emod_of_nonneg c (b:=n)
  have h1:=Int.emod_nonneg x (Om:n≠0)
  rw[e,if_neg Om]
 ·have e:Int.tmod x n=-((-x)%n):=by rw[← Int.tmod_eq_emod_of_nonneg (Om:0≤-x),Int.neg_tmod,Int.neg_neg]
  have h1:=Int.emod_nonneg (-x) (Om:n≠0)
  have h2:=Int.neg_emod (a:=-x) (b:=n)
  rw[Int.neg_neg] at h2
  rw[e,h2]
  by_cases d:n ∣ -x
  ·rw[if_pos d,Int.emod_eq_zero_of_dvd d]
   simp
  ·have h3:(-x)%n≠0:=fun h=>d (Int.dvd_of_emod_eq_zero h)
   rw[if_neg d,if_pos Om]
   omega
abbrev bJ (l:List Int) (a:Nat):cT:=.rows 2 [[ints l,.int .i64 (a:Nat)]]
def aaJ (l:List Int) (o n a:Nat) (r:PV) (H:PH):Prop:=r=.int .i64 (nxM l n a:Nat)∧H=PH.nil.set o (bJ l (a+1))
theorem bfN {C:Ctx} (l:List Int) (hl:l.length≤9223372036854775807) (h64:∀ x∈l,cW x) (o n a:Nat) (hn:n≤1000000) (ha:a≤1000000):FU.wp C (aU FT.res (aaJ l o n a)) (PF.args [.ptr o 2 0 0,.int .i64 n]) (PH.nil.set o (bJ l a)):=by
 have ew:IntKind.i64.wrap ((a:Int)+1)=((a+1:Nat):Int):=dC Om
 have e3:Int.tmod ((a:Nat):Int) 3=((a%3:Nat):Int):=rfl
 have rest:∀ (x:Int) (F:PF),cW x→x=l.getD a ((a%3:Nat):Int)→F 0=some (.ptr o 2 0 0)→F 1=some (.int .i64 n)→F 5=some (.int .i64 x) →
   aC.wp C (.seq (.region WW) (.seq (.seq (.region WX) (.cond (.tmp 40) (.seq (.region WY) .ret) .skip)) (.seq (.region WZ) (.seq (.seq (.region XA) (.cond (.tmp 45) (.seq (.region XB) .ret) .skip)) (.seq (.region MH) .ret))))) (aU FT.res (aaJ l o n a)) F (PH.nil.set o (bJ l a)):=by
  intro x F hx he f0 f1 f5
  simp only[go_sem,γ,δ,ε,ζ,η,θ,ι,κ,μ,ν,ξ,ο,ρ,σ,τ,υ,reduceIte,reduceCtorEq,WW,f0,ew,WX,f1,FT]
  by_cases c:n=0
  ·have c':((n:Nat):Int)<1:=by omega
   simp only[go_sem,γ,δ,ε,ζ,η,θ,ι,κ,μ,ν,ξ,ο,ρ,σ,τ,υ,reduceIte,reduceCtorEq,c',WY]
   refine aX (vs:=[.int .i64 0]) (.inr rfl) _ rfl PH.le_refl ⟨?_,rfl⟩
   unfold nxM
   rw[if_pos c]; rfl
  ·have c':¬ ((n:Nat):Int)<1:=by omega
   have hn0:¬ ((n:Nat):Int)=0:=by omega
   have hm:=bvU x (Om:(0:Int)<n)
   have h1:=Int.emod_nonneg x (Om:(n:Int)≠0)
   have h2:=Int.emod_lt_of_pos x (Om:(0:Int)<n)
   have hT:nxM l n a=(x%(n:Int)).toNat:=by unfold nxM; rw[if_neg c,he]
   simp only[go_sem,γ,δ,ε,ζ,η,θ,ι,κ,μ,ν,ξ,ο,ρ,σ,τ,υ,reduceIte,reduceCtorEq,c',WZ,f5,f1,hn0,XA]
   by_cases d:Int.tmod x n<0
   ·rw[if_pos d] at hm
    have e4:IntKind.i64.wrap (Int.tmod x n+n)=((nxM l n a:Nat):Int):=by rw[hm,wrap_i64 Om Om,hT]; omega
    simp only[go_sem,γ,δ,ε,ζ,η,θ,ι,κ,μ,ν,ξ,ο,ρ,σ,τ,υ,reduceIte,reduceCtorEq,d,XB,f1,e4]
    exact aX (vs:=[.int .i64 (nxM l n a:Nat)]) (.inr rfl) _ rfl PH.le_refl ⟨rfl,rfl⟩
   ·rw[if_neg d] at hm
    have e4:Int.tmod x n=((nxM l n a:Nat):Int):=by rw[hm,hT]; omega
    have d':¬ ((nxM l n a:Nat):Int)<0:=by omega
    simp only[go_sem,γ,δ,ε,ζ,η,θ,ι,κ,μ,ν,ξ,ο,ρ,σ,τ,υ,reduceIte,reduceCtorEq,e4,d',MH]
    exact aX (vs:=[.int .i64 (nxM l n a:Nat)]) (.inr rfl) _ rfl PH.le_refl ⟨rfl,rfl⟩
 simp only[aC.wp,go_sem] at rest
 simp only[go_sem,γ,δ,ε,ζ,η,θ,ι,κ,μ,ν,ξ,ο,ρ,σ,τ,υ,reduceIte,reduceCtorEq,FU,aAT,aAU,FT,e3]
 refine bP .nil dX PH.nil_le ?_
 simp only[go_sem,γ,δ,ε,ζ,η,θ,ι,κ,μ,ν,ξ,ο,ρ,σ,τ,υ,reduceIte,reduceCtorEq,aAV,bJO]
 by_cases c:a<l.length
 ·have c':(a:Int)<(l.length:Nat):=by omega
  have hat:(l.map fun n=>[PV.int .i64 n])[a]?=some [.int .i64 l[a]]:=by simp[c]
  simp only[go_sem,γ,δ,ε,ζ,η,θ,ι,κ,μ,ν,ξ,ο,ρ,σ,τ,υ,reduceIte,reduceCtorEq,c']
  refine bP .nil dX PH.nil_le ?_
  simp only[go_sem,γ,δ,ε,ζ,η,θ,ι,κ,μ,ν,ξ,ο,ρ,σ,τ,υ,reduceIte,reduceCtorEq,aAW,hat]
  refine rest l[a] _ (h64 _ (bJS c)) (by simp[bKH,c]) ?_ ?_ ?_
  all_goals exact rfl
 ·have c':¬ (a:Int)<(l.length:Nat):=by omega
  simp only[go_sem,γ,δ,ε,ζ,η,θ,ι,κ,μ,ν,ξ,ο,ρ,σ,τ,υ,reduceIte,reduceCtorEq,c']
  refine rest ((a%3:Nat):Int) _ (by unfold cW; omega) (by simp[bKH,bLD (Om:l.length≤a)]) ?_ ?_ ?_
  all_goals exact rfl
def TpM (l:List Int):Prop:=l.length≤9223372036854775807∧∀ x∈l,cW x
structure EI (C:Ctx):Prop where
 fmk:∀ n d:Int,cW n→cW d→aD C 50 [.int .i64 n,.int .i64 d] .nil (aE (EB n d))
 next:∀ l:List Int,TpM l→∀ o n a:Nat,n≤1000000→a≤1000000→aD C 240 [.ptr o 2 0 0,.int .i64 n] (PH.nil.set o (bJ l a)) (aaJ l o n a)
theorem cH {C:Ctx} {F:PF} {H:PH} {l:List Int} {o a:Nat} (Lb:EI C) (T:TpM l) {n:Nat} {args:List aP} {d:Option Nat} {K:PF→PH→Prop} (hn:n≤1000000) (ha:a≤1000000) (bJD:aP.evs F args=some [.ptr o 2 0 0,.int .i64 n]) (ho:H o=some (bJ l a))
  (hk:K (F.put d (.int .i64 (nxM l n a:Nat))) (H.set o (bJ l (a+1)))):fW C 240 args [] d K F H :=
 CI (Lb.next l T o n a hn ha) ho bJD hk
theorem bfE {C:Ctx} (Lb:EI C) (n d:Int) (h1:cW n) (h2:cW d) (hd:d≠0):FO.wp C (aU abX.res (aE (.agg (mkT n d).cells))) (PF.args [.int .i64 n,.int .i64 d]) .nil:=by
 simp only[go_sem,γ,δ,ε,ζ,η,θ,ι,κ,μ,ν,ξ,ο,ρ,σ,τ,υ,reduceIte,reduceCtorEq,FO,aAG,abX]
 refine aQ fun p hp=>?_
 simp only[go_sem,γ,δ,ε,ζ,η,θ,ι,κ,μ,ν,ξ,ο,ρ,σ,τ,υ,reduceIte,reduceCtorEq,aAH]
 refine aA (Lb.fmk n d h1 h2) rfl ?_
 unfold EB
 rw[if_neg hd]
 simp only[go_sem,γ,δ,ε,ζ,η,θ,ι,κ,μ,ν,ξ,ο,ρ,σ,τ,υ,reduceIte,reduceCtorEq]
 refine aQ fun q hq=>?_
 have n3:¬ q=p:=(cX.1 hq).1
 have n3':¬ p=q:=fun h=>n3 h.symm
 simp only[go_sem,γ,δ,ε,ζ,η,θ,ι,κ,μ,ν,ξ,ο,ρ,σ,τ,υ,reduceIte,reduceCtorEq,aAI,n3,n3']
 refine aL (vs:=[.agg (mkT n d).cells]) (.inr rfl) ?_ rfl
 simp only[go_sem,γ,δ,ε,ζ,η,θ,ι,κ,μ,ν,ξ,ο,ρ,σ,τ,υ,reduceIte,reduceCtorEq]
theorem bfL {C:Ctx} (c:UInt8) (n:Nat) (hn:n<100):FS.wp C (aU acJ.res (aE (.str (dO c n)))) (PF.args [.int .u8 c.toNat,.int .i64 n]) .nil:=by
 have e1:bLF ((n:Nat):Int) 26=((n/26:Nat):Int):=rfl
 have e2:Int.tmod ((n/26:Nat):Int) 26=((n/26%26:Nat):Int):=rfl
 have e3:Int.tmod ((n:Nat):Int) 26=((n%26:Nat):Int):=rfl
 have w1:IntKind.i64.wrap (97+((n/26%26:Nat):Int))=((97+n/26%26:Nat):Int):=by rw[wrap_i64 Om Om]; omega
 have w2:IntKind.i64.wrap (97+((n%26:Nat):Int))=((97+n%26:Nat):Int):=by rw[wrap_i64 Om Om]; omega
 have w3:IntKind.u8.wrap ((97+n/26%26:Nat):Int)=((97+n/26%26:Nat):Int):=wrap_u8 Om Om
 have w4:IntKind.u8.wrap ((97+n%26:Nat):Int)=((97+n%26:Nat):Int):=wrap_u8 Om Om
 have w0:IntKind.i64.wrap ((n/26:Nat):Int)=((n/26:Nat):Int):=sN Om
 have hbr:pK [[PV.int .u8 ((c.toNat:Nat):Int)],[PV.int .u8 ((97+n/26%26:Nat):Int)],[PV.int .u8 ((97+n%26:Nat):Int)]]=some (dO c n):=by
  show some [UInt8.ofNat c.toNat,_,_]=_
  rw[UInt8.ofNat_toNat]
  rfl
 have h13:(1:Nat)*3≤16777216:=by decide
 simp only[go_sem,γ,δ,ε,ζ,η,θ,ι,κ,μ,ν,ξ,ο,ρ,σ,τ,υ,reduceIte,reduceCtorEq,FS,aAR,aAS,acJ,e1,w0,e2,e3,w1,w2,w3,w4,h13,hbr]
 refine aL (.inr rfl) rfl ?_
 rfl
structure oU (C:Ctx):Prop extends EI C where
 frac:∀ n d:Int,cW n→cW d→d≠0→aD C 241 [.int .i64 n,.int .i64 d] .nil (aE (.agg (mkT n d).cells))
 name:∀ (c:UInt8) (n:Nat),n<100→aD C 242 [.int .u8 c.toNat,.int .i64 n] .nil (aE (.str (dO c n)))
def mdS (l:List Int):Spec:=fun name vs=>match name,vs with
 | 242,[.int _ c,.int _ i]=>some ([],fun _=>aE (.str (dO (UInt8.ofNat c.toNat) i.toNat)))
 | 241,[.int _ n,.int _ d]=>some ([],fun _=>aE (.agg (mkT n d).cells))
 | 240,[.ptr o _ _ _,.int _ n]=>some ([o],fun H0 r H'=>∀ a,H0 o=some (bJ l a)→aaJ l o n.toNat a r H')
 | _,_=>none
section
variable {C:Ctx} {F:PF} {H Hs:PH} {l:List Int} {o a:Nat}
theorem a7P (Lb:EI C) (T:TpM l) {n:Nat} {st:Bool} {args:List aP} {d:Option Nat} {K:PF→PH→Prop} (hn:n≤1000000) (ha:a≤1000000) (bJD:aP.evs F args=some [.ptr o 2 0 0,.int .i64 n]) (ho:H o=some (bJ l a))
  (hle:Hs.le (H.set o (bJ l (a+1)))) (hk:K (F.put d (.int .i64 (nxM l n a:Nat))) (H.set o (bJ l (a+1)))):dOp C Hs (mdS l) st (.call 240 args) d K F H:=by
 refine aAD (x:=bJ l a) (y:=bJ l (a+1)) (r:=.int .i64 (nxM l n a:Nat)) (R:=fun H0 r H'=>∀ a,H0 o=some (bJ l a)→aaJ l o n a r H') rfl ho (Lb.next l T o n a hn ha) ?_ ?_ bJD hle hk
 ·intro b hb
  rw[eS] at hb
  injection hb with hb
  injection hb with _ hb
  injection hb with hb _
  injection hb with _ hb
  injection hb with hb _
  injection hb with _ hb
  have:a=b:=by omega
  subst this
  exact⟨rfl,rfl⟩
 ·intro r' H' hr
  exact hr a (by rw[eS])
theorem MC (Lb:oU C) {c:UInt8} {n:Nat} {st:Bool} {args:List aP} {d:Option Nat} {K:PF→PH→Prop} (hn:n<100) (bJD:aP.evs F args=some [.int .u8 c.toNat,.int .i64 n]) (hle:Hs.le H) (hk:K (F.put d (.str (dO c n))) H):dOp C Hs (mdS l) st (.call 242 args) d K F H :=
 bS (v:=.str (dO c n)) (by show some _=_; rw[bMT,UInt8.ofNat_toNat]; rfl) (Lb.name c n hn) bJD hle hk
theorem aoM (Lb:oU C) {n m:Int} {st:Bool} {args:List aP} {d:Option Nat} {K:PF→PH→Prop} (hn:cW n) (hm:cW m) (h0:m≠0) (bJD:aP.evs F args=some [.int .i64 n,.int .i64 m]) (hle:Hs.le H) (hk:K (F.put d (.agg (mkT n m).cells)) H):dOp C Hs (mdS l) st (.call 241 args) d K F H :=
 bS (v:=.agg (mkT n m).cells) rfl (Lb.frac n m hn hm h0) bJD hle hk
end
def bqS (o7:Nat) (ext w1 w2 w4 w5 w6:PV) (ds:List bR) (lev par up:Nat) (r:PV) (B':List BX) (L':List LI):Prop:=r=.int .i64 (ds.length:Nat)∧∃ w',B'=[(o7,flB ext w1 w2 w' w4 w5 w6)]∧L'=[(w',7,dL (dK ds lev par up))]
theorem blJ {C:Ctx} (Lb:oU C) (o7:Nat) (ext w1 w2 wd w4 w5 w6:PV) (ds:List bR) (hds:ds.length≤90) (lev par up:Nat) (H0:PH) (hH:aR H0 [(o7,flB ext w1 w2 wd w4 w5 w6)] [(wd,7,dL ds)]) :
  MD.wp C (aU aAE.res (fun r H'=>∃ B' L',bqS o7 ext w1 w2 w4 w5 w6 ds lev par up r B' L'∧aR H' B' L')) (PF.args [.ptr o7 7 0 0,.int .i64 lev,.int .i64 par,.int .i64 up]) H0:=by
 have b:=hH.at 0 rfl
 have lw:=(hH.own 0 rfl).uE
 rw[bJO] at lw
 simp only[go_sem,γ,δ,ε,ζ,η,θ,ι,κ,μ,ν,ξ,ο,ρ,σ,τ,υ,reduceIte,reduceCtorEq,MD,aRI,aRJ,aAE,b,lw]
 refine bP (PH.nil.set o7 (flB ext w1 w2 wd w4 w5 w6)) (mdS []) (PH.aI PH.nil_le b) ?_
 simp only[go_sem,γ,δ,ε,ζ,η,θ,ι,κ,μ,ν,ξ,ο,ρ,σ,τ,υ,reduceIte,reduceCtorEq,aRK]
 refine MC Lb (c:=110) (n:=ds.length) Om rfl (PH.aI PH.nil_le b) ?_
 simp only[go_sem,γ,δ,ε,ζ,η,θ,ι,κ,μ,ν,ξ,ο,ρ,σ,τ,υ,reduceIte,reduceCtorEq]
 refine aoM Lb (n:=0) (m:=1) (by unfold cW; omega) (by unfold cW; omega) (by decide) rfl (PH.aI PH.nil_le b) ?_
 have h17:(1:Nat)*7≤16777216:=by decide
 simp only[go_sem,γ,δ,ε,ζ,η,θ,ι,κ,μ,ν,ξ,ο,ρ,σ,τ,υ,reduceIte,reduceCtorEq,h17]
 refine hH.append 0 (src:=[(⟨dO 110 ds.length,(lev:Nat),(par:Nat),(up:Nat),oR⟩:bR).cells]) rfl rfl (by unfold roomFor; rw[bJO]; simp only[bKC,maxLen]; omega) fun w' H2 h5 hw=>?_
 obtain⟨q,rfl⟩:=hw (by simp)
 have b2:=h5.at 0 rfl
 refine⟨PH.aI PH.nil_le b2,?_⟩
 refine bP .nil dX PH.nil_le ?_
 simp only[go_sem,γ,δ,ε,ζ,η,θ,ι,κ,μ,ν,ξ,ο,ρ,σ,τ,υ,reduceIte,reduceCtorEq,aRL,b2,bKE,bLC,or_false,forall_eq]
 have h6:=h5.set 0 rfl (flB ext w1 w2 (.osl q 7 0 (dL ds++[(⟨dO 110 ds.length,(lev:Nat),(par:Nat),(up:Nat),oR⟩:bR).cells]).length) w4 w5 w6)
 refine⟨PH.nil_le,?_⟩
 simp only[go_sem,γ,δ,ε,ζ,η,θ,ι,κ,μ,ν,ξ,ο,ρ,σ,τ,υ,reduceIte,reduceCtorEq,aRM]
 have e:dL (dK ds lev par up)=dL ds++[(⟨dO 110 ds.length,(lev:Nat),(par:Nat),(up:Nat),oR⟩:bR).cells]:=by simp[dL,dK]
 refine aX (vs:=[.int .i64 (ds.length:Nat)]) (.inr rfl) _ rfl PH.le_refl ⟨_,_,⟨rfl,.osl q 7 0 (dL ds++[(⟨dO 110 ds.length,(lev:Nat),(par:Nat),(up:Nat),oR⟩:bR).cells]).length,rfl,rfl⟩,?_⟩
 rw[e]
 exact h6
structure CQ (C:Ctx):Prop extends oU C where
 dom:∀ (o7:Nat) (ext w1 w2 wd w4 w5 w6:PV) (ds:List bR),ds.length≤90→∀ (lev par up:Nat) (H0:PH),aR H0 [(o7,flB ext w1 w2 wd w4 w5 w6)] [(wd,7,dL ds)] →
  aD C 243 [.ptr o7 7 0 0,.int .i64 lev,.int .i64 par,.int .i64 up] H0 (fun r H'=>∃ B' L',bqS o7 ext w1 w2 w4 w5 w6 ds lev par up r B' L'∧aR H' B' L')
theorem rO {C:Ctx} {F:PF} {H:PH} (Lb:CQ C) {o7:Nat} {ext w1 w2 wd w4 w5 w6:PV} {ds:List bR} {B2:List BX} {L2:List LI} {lev par up:Nat} {args:List aP} {d:Option Nat} {K:PF→PH→Prop}
  (h:aR H ((o7,flB ext w1 w2 wd w4 w5 w6)::B2) ((wd,7,dL ds)::L2)) (hds:ds.length≤90) (bJD:aP.evs F args=some [.ptr o7 7 0 0,.int .i64 lev,.int .i64 par,.int .i64 up])
  (hk:∀ wd' H',aR H' ((o7,flB ext w1 w2 wd' w4 w5 w6)::B2) ((wd',7,dL (dK ds lev par up))::L2)→K (F.put d (.int .i64 (ds.length:Nat))) H'):fW C 243 args [] d K F H:=by
 refine WI (B1:=[(o7,flB ext w1 w2 wd w4 w5 w6)]) (L1:=[(wd,7,dL ds)]) h (fun H0 hH0=>Lb.dom o7 ext w1 w2 wd w4 w5 w6 ds hds lev par up H0 hH0) bJD ?_
 rintro r B' L' H' ⟨rfl,wd',rfl,rfl⟩ h'
 exact hk wd' H' h'
structure ME where
 o:Nat
 o4:Nat
 o5:Nat
 vols:Nat
abbrev ME.boxes (E:ME) (l:List Int) (ext w1 w2 wd wr wp wv:PV) (a:Nat):List BX:=[(E.o5,flB ext w1 w2 wd wr wp wv),(E.o,bJ l a),(E.o4,flZ)]
def uA (E:ME):PF:=((((PF.nil.set 0 (.ptr E.o 2 0 0)).set 1 (.int .i64 E.vols)).set 4 (.ptr E.o4 7 0 0)).set 5 (.ptr E.o5 7 0 0))
def eV (E:ME) (n room rack i:Nat):PF:=((((((((PF.nil.set 0 (.ptr E.o 2 0 0)).set 1 (.int .i64 E.vols)).set 4 (.ptr E.o4 7 0 0)).set 5 (.ptr E.o5 7 0 0)).set 6 (.int .i64 n)).set 8 (.int .i64 room)).set 9 (.int .i64 rack)).set 10 (.int .i64 i))
def jP (E:ME) (n room rack i m k:Nat):PF:=((((((((((PF.nil.set 0 (.ptr E.o 2 0 0)).set 1 (.int .i64 E.vols)).set 4 (.ptr E.o4 7 0 0)).set 5 (.ptr E.o5 7 0 0)).set 6 (.int .i64 n)).set 8 (.int .i64 room)).set 9 (.int .i64 rack)).set 10 (.int .i64 i)).set 11 (.int .i64 m)).set 12 (.int .i64 k))
theorem blL {C:Ctx} (Lb:oU C) {l:List Int} (T:TpM l) (E:ME) (n room rack i m:Nat) (ext w1 w2 wd:PV) (ds:List bR) (k0:Nat) (s0:List cG × Nat) (wr0:PV) (h0:s0.1.length≤9) (ha:s0.2+k0≤100000) (K:cQ) (F:PF) (H:PH)
  (hF:(jP E n room rack i m k0).le F) (hH:aR H (E.boxes l ext w1 w2 wd wr0 .aB .aB s0.2) [(wd,7,dL ds),(wr0,3,eD s0.1)])
  (hK:∀ wr F' H',(eV E n room rack i).le F'→aR H' (E.boxes l ext w1 w2 wd wr .aB .aB (jB l m k0 s0).2) [(wd,7,dL ds),(wr,3,eD (jB l m k0 s0).1)]→K (.exit 2) F' H') :
  aC.wp C (.loop qU) K F H:=by
 refine wp_loop (α:=Nat × (List cG × Nat) × PV × PH) (fun t=>jP E n room rack i m t.1) (fun t=>t.2.2.2)
  (fun t=>jB l m t.1 t.2.1=jB l m k0 s0∧t.2.1.1.length≤9∧t.2.1.2+t.1≤100000∧aR t.2.2.2 (E.boxes l ext w1 w2 wd t.2.2.1 .aB .aB t.2.1.2) [(wd,7,dL ds),(t.2.2.1,3,eD t.2.1.1)]) (fun t=>t.1) (k0,s0,wr0,H) ⟨rfl,h0,ha,hH⟩ hF PH.le_refl ?_
 rintro⟨k,s,wr,H0⟩ ⟨hE,hl,hb,hH⟩
 simp only at hE hl hb hH ⊢
 have b5:=hH.at 0 rfl
 have lw:=(hH.own 1 rfl).uE
 rw[bJO] at lw
 simp only[go_sem,γ,δ,ε,ζ,η,θ,ι,κ,μ,ν,ξ,ο,ρ,σ,τ,υ,reduceIte,reduceCtorEq,qU,abE,jP]
 have out:∀ F',(jP E n room rack i m k).le F'→jB l m k s=s→K (.exit 2) F' H0:=fun F' hF' e=>by
  refine hK wr F' H0 ?_ (by rw[← hE,e]; exact hH)
  have h1:(eV E n room rack i).le (jP E n room rack i m k):=by
   unfold eV jP
   exact Lq
  exact fun j u hj=>hF' j u (h1 j u hj)
 cases k with
 | zero =>
  have hc:¬ (((0:Nat):Int)>0):=by omega
  simp only[go_sem,γ,δ,ε,ζ,η,θ,ι,κ,μ,ν,ξ,ο,ρ,σ,τ,υ,reduceIte,reduceCtorEq,hc]
  refine out _ ?_ rfl
  unfold jP
  exact Lq
 | succ k =>
  have hc:(((k+1:Nat):Int)>0):=by omega
  by_cases c:s.1.length<9
  ·have c':((s.1.length:Nat):Int)<9:=by omega
   have e1:IntKind.i64.wrap (((k+1:Nat):Int)-1)=((k:Nat):Int):=by rw[wrap_i64 Om Om]; omega
   simp only[go_sem,γ,δ,ε,ζ,η,θ,ι,κ,μ,ν,ξ,ο,ρ,σ,τ,υ,reduceIte,reduceCtorEq,hc,b5,lw,c',abF,abG]
   refine cH Lb.toEI T (o:=E.o) (n:=4) (a:=s.2) (by decide) Om rfl (hH.at 1 rfl) ?_
   have h1:=hH.set 1 rfl (bJ l (s.2+1))
   have b1:=h1.at 0 rfl
   have go:∀ (x:Nat) (F':PF),x=(if nxM l 4 s.2=0 then 1 else 0)→(jP E n room rack i m (k+1)).le F'→F' 13=some (.int .i64 x) →
     aC.wp C (.seq (.seq (.draw FB) (.draw FC)) (.region FD)) (eE (fun t:Nat × (List cG × Nat) × PV × PH=>jP E n room rack i m t.1) (fun t=>t.2.2.2)
      (fun t=>jB l m t.1 t.2.1=jB l m k0 s0∧t.2.1.1.length≤9∧t.2.1.2+t.1≤100000∧aR t.2.2.2 (E.boxes l ext w1 w2 wd t.2.2.1 .aB .aB t.2.1.2) [(wd,7,dL ds),(t.2.2.1,3,eD t.2.1.1)]) (fun t=>t.1) (k+1) K) F' (H0.set E.o (bJ l (s.2+1))):=by
    intro x F' hx hF' f13
    have f0:F' 0=some (.ptr E.o 2 0 0):=hF' 0 _ (by unfold jP; simp only[go_sem,γ,δ,ε,ζ,η,θ,ι,κ,μ,ν,ξ,ο,ρ,σ,τ,υ,reduceIte,reduceCtorEq])
    have f1:F' 1=some (.int .i64 E.vols):=hF' 1 _ (by unfold jP; simp only[go_sem,γ,δ,ε,ζ,η,θ,ι,κ,μ,ν,ξ,ο,ρ,σ,τ,υ,reduceIte,reduceCtorEq])
    have f4:F' 4=some (.ptr E.o4 7 0 0):=hF' 4 _ (by unfold jP; simp only[go_sem,γ,δ,ε,ζ,η,θ,ι,κ,μ,ν,ξ,ο,ρ,σ,τ,υ,reduceIte,reduceCtorEq])
    have f5:F' 5=some (.ptr E.o5 7 0 0):=hF' 5 _ (by unfold jP; simp only[go_sem,γ,δ,ε,ζ,η,θ,ι,κ,μ,ν,ξ,ο,ρ,σ,τ,υ,reduceIte,reduceCtorEq])
    have f6:F' 6=some (.int .i64 n):=hF' 6 _ (by unfold jP; simp only[go_sem,γ,δ,ε,ζ,η,θ,ι,κ,μ,ν,ξ,ο,ρ,σ,τ,υ,reduceIte,reduceCtorEq])
    have f8:F' 8=some (.int .i64 room):=hF' 8 _ (by unfold jP; simp only[go_sem,γ,δ,ε,ζ,η,θ,ι,κ,μ,ν,ξ,ο,ρ,σ,τ,υ,reduceIte,reduceCtorEq])
    have f9:F' 9=some (.int .i64 rack):=hF' 9 _ (by unfold jP; simp only[go_sem,γ,δ,ε,ζ,η,θ,ι,κ,μ,ν,ξ,ο,ρ,σ,τ,υ,reduceIte,reduceCtorEq])
    have f10:F' 10=some (.int .i64 i):=hF' 10 _ (by unfold jP; simp only[go_sem,γ,δ,ε,ζ,η,θ,ι,κ,μ,ν,ξ,ο,ρ,σ,τ,υ,reduceIte,reduceCtorEq])
    have f11:F' 11=some (.int .i64 m):=hF' 11 _ (by unfold jP; simp only[go_sem,γ,δ,ε,ζ,η,θ,ι,κ,μ,ν,ξ,ο,ρ,σ,τ,υ,reduceIte,reduceCtorEq])
    have f12:F' 12=some (.int .i64 (k+1:Nat)):=hF' 12 _ (by unfold jP; simp only[go_sem,γ,δ,ε,ζ,η,θ,ι,κ,μ,ν,ξ,ο,ρ,σ,τ,υ,reduceIte,reduceCtorEq])
    simp only[go_sem,γ,δ,ε,ζ,η,θ,ι,κ,μ,ν,ξ,ο,ρ,σ,τ,υ,reduceIte,reduceCtorEq]
    refine bP (PH.nil.set E.o5 (flB ext w1 w2 wd wr .aB .aB)) (mdS l) (PH.aI PH.nil_le b1) ?_
    have h13:(1:Nat)*3≤16777216:=by decide
    simp only[go_sem,γ,δ,ε,ζ,η,θ,ι,κ,μ,ν,ξ,ο,ρ,σ,τ,υ,reduceIte,reduceCtorEq,FB,f5,b1,lw]
    refine MC Lb (c:=100) (n:=s.1.length) Om rfl (PH.aI PH.nil_le b1) ?_
    simp only[go_sem,γ,δ,ε,ζ,η,θ,ι,κ,μ,ν,ξ,ο,ρ,σ,τ,υ,reduceIte,reduceCtorEq,f13,f11,h13]
    refine h1.append 1 (src:=[(⟨dO 100 s.1.length,(x:Nat),(m:Nat)⟩:cG).cells]) rfl rfl (by unfold roomFor; rw[bJO]; simp only[bKC,maxLen]; omega) fun w' H2 h5 hw=>?_
    obtain⟨q,rfl⟩:=hw (by simp)
    have b2:=h5.at 0 rfl
    simp only[go_sem,γ,δ,ε,ζ,η,θ,ι,κ,μ,ν,ξ,ο,ρ,σ,τ,υ,reduceIte,reduceCtorEq,f5]
    refine⟨PH.aI PH.nil_le b2,?_⟩
    refine bP .nil dX PH.nil_le ?_
    simp only[go_sem,γ,δ,ε,ζ,η,θ,ι,κ,μ,ν,ξ,ο,ρ,σ,τ,υ,reduceIte,reduceCtorEq,FC,f5,b2,bKE,bLC,or_false,forall_eq]
    have h6:=h5.set 0 rfl (flB ext w1 w2 wd (.osl q 3 0 (eD s.1++[(⟨dO 100 s.1.length,(x:Nat),(m:Nat)⟩:cG).cells]).length) .aB .aB)
    refine⟨PH.nil_le,?_⟩
    simp only[go_sem,γ,δ,ε,ζ,η,θ,ι,κ,μ,ν,ξ,ο,ρ,σ,τ,υ,reduceIte,reduceCtorEq,FD,f12,e1]
    refine aG (k,(s.1++[⟨dO 100 s.1.length,(x:Nat),(m:Nat)⟩],s.2+1),.osl q 3 0 (eD s.1++[(⟨dO 100 s.1.length,(x:Nat),(m:Nat)⟩:cG).cells]).length,_) ⟨?_,by simp only[bJW,bKC]; omega,by simp only; omega,?_⟩ (by simp only; omega) ?_ PH.le_refl
    ·simp only
     rw[← hE,jB,if_pos c,hx]
    ·have e:eD (s.1++[⟨dO 100 s.1.length,(x:Nat),(m:Nat)⟩])=eD s.1++[(⟨dO 100 s.1.length,(x:Nat),(m:Nat)⟩:cG).cells]:=by simp[eD]
     simp only
     rw[e]
     exact h6
    ·unfold jP
     exact Lq
   simp only[aC.wp,go_sem] at go
   by_cases d:nxM l 4 s.2=0
   ·simp only[go_sem,γ,δ,ε,ζ,η,θ,ι,κ,μ,ν,ξ,ο,ρ,σ,τ,υ,reduceIte,reduceCtorEq,bX (Om:((nxM l 4 s.2:Nat):Int)=0),abH]
    refine go 1 _ (by rw[if_pos d]) ?_ rfl
    unfold jP
    exact Lq
   ·simp only[go_sem,γ,δ,ε,ζ,η,θ,ι,κ,μ,ν,ξ,ο,ρ,σ,τ,υ,reduceIte,reduceCtorEq,bG (Om:((nxM l 4 s.2:Nat):Int)≠0)]
    refine go 0 _ (by rw[if_neg d]) ?_ rfl
    unfold jP
    exact Lq
  ·have c':¬ ((s.1.length:Nat):Int)<9:=by omega
   simp only[go_sem,γ,δ,ε,ζ,η,θ,ι,κ,μ,ν,ξ,ο,ρ,σ,τ,υ,reduceIte,reduceCtorEq,hc,b5,lw,c']
   refine out _ ?_ (by rw[jB,if_neg c])
   unfold jP
   exact Lq
theorem gW {a b:Nat} (h:a+b≤1000000):IntKind.i64.wrap ((a:Int)+(b:Int))=((a+b:Nat):Int):=sN Om
theorem aRN {C:Ctx} (Lb:CQ C) {l:List Int} (T:TpM l) (E:ME) (n room rack i a:Nat) (ha:a≤100000) (ext w1 w2 wd wr:PV) (ds:List bR) (hds:ds.length≤60) (L2:List LI) (K:cQ) (F:PF) (H:PH)
  (hF:(eV E n room rack i).le F) (hH:aR H (E.boxes l ext w1 w2 wd wr .aB .aB a) ((wd,7,dL ds)::L2))
  (hK:∀ wd' F' H',(eV E n (dK ds 1 0 (16+nxM l 17 a)).length (dK (dK ds 1 0 (16+nxM l 17 a)) 2 ds.length (16+nxM l 17 (a+1))).length i).le F' →
   aR H' (E.boxes l ext w1 w2 wd' wr .aB .aB (a+3)) ((wd',7,dL (dK (dK (dK ds 1 0 (16+nxM l 17 a)) 2 ds.length (16+nxM l 17 (a+1))) 3 (dK ds 1 0 (16+nxM l 17 a)).length (8+nxM l 9 (a+2))))::L2)→K .normal F' H') :
  aC.wp C (.seq (.region EY) (.seq (.region EZ) (.region FA))) K F H:=by
 have f0:F 0=some (.ptr E.o 2 0 0):=hF 0 _ (by unfold eV; simp only[go_sem,γ,δ,ε,ζ,η,θ,ι,κ,μ,ν,ξ,ο,ρ,σ,τ,υ,reduceIte,reduceCtorEq])
 have f1:F 1=some (.int .i64 E.vols):=hF 1 _ (by unfold eV; simp only[go_sem,γ,δ,ε,ζ,η,θ,ι,κ,μ,ν,ξ,ο,ρ,σ,τ,υ,reduceIte,reduceCtorEq])
 have f4:F 4=some (.ptr E.o4 7 0 0):=hF 4 _ (by unfold eV; simp only[go_sem,γ,δ,ε,ζ,η,θ,ι,κ,μ,ν,ξ,ο,ρ,σ,τ,υ,reduceIte,reduceCtorEq])
 have f5:F 5=some (.ptr E.o5 7 0 0):=hF 5 _ (by unfold eV; simp only[go_sem,γ,δ,ε,ζ,η,θ,ι,κ,μ,ν,ξ,ο,ρ,σ,τ,υ,reduceIte,reduceCtorEq])
 have f6:F 6=some (.int .i64 n):=hF 6 _ (by unfold eV; simp only[go_sem,γ,δ,ε,ζ,η,θ,ι,κ,μ,ν,ξ,ο,ρ,σ,τ,υ,reduceIte,reduceCtorEq])
 have f10:F 10=some (.int .i64 i):=hF 10 _ (by unfold eV; simp only[go_sem,γ,δ,ε,ζ,η,θ,ι,κ,μ,ν,ξ,ο,ρ,σ,τ,υ,reduceIte,reduceCtorEq])
 have n1:=cO l (show 0<17 by decide) a
 have n2:=cO l (show 0<17 by decide) (a+1)
 have n3:=cO l (show 0<9 by decide) (a+2)
 have e1:IntKind.i64.wrap (16+((nxM l 17 a:Nat):Int))=((16+nxM l 17 a:Nat):Int):=gW (a:=16) Om
 have e2:IntKind.i64.wrap (16+((nxM l 17 (a+1):Nat):Int))=((16+nxM l 17 (a+1):Nat):Int):=gW (a:=16) Om
 have e3:IntKind.i64.wrap (8+((nxM l 9 (a+2):Nat):Int))=((8+nxM l 9 (a+2):Nat):Int):=gW (a:=8) Om
 have c1:=nG ds 1 0 (16+nxM l 17 a)
 have c2:=nG (dK ds 1 0 (16+nxM l 17 a)) 2 ds.length (16+nxM l 17 (a+1))
 simp only[go_sem,γ,δ,ε,ζ,η,θ,ι,κ,μ,ν,ξ,ο,ρ,σ,τ,υ,reduceIte,reduceCtorEq,EY,f0]
 refine cH Lb.toEI T (o:=E.o) (n:=17) (a:=a) (by decide) Om rfl (hH.at 1 rfl) ?_
 have h1:=hH.set 1 rfl (bJ l (a+1))
 simp only[go_sem,γ,δ,ε,ζ,η,θ,ι,κ,μ,ν,ξ,ο,ρ,σ,τ,υ,reduceIte,reduceCtorEq,e1,f5]
 refine rO Lb (lev:=1) (par:=0) (up:=16+nxM l 17 a) h1 Om (by simp only[go_sem,γ,δ,ε,ζ,η,θ,ι,κ,μ,ν,ξ,ο,ρ,σ,τ,υ,reduceIte,reduceCtorEq,f5]; rfl) fun wd1 H1 h2=>?_
 simp only[go_sem,γ,δ,ε,ζ,η,θ,ι,κ,μ,ν,ξ,ο,ρ,σ,τ,υ,reduceIte,reduceCtorEq,EZ,f0]
 refine cH Lb.toEI T (o:=E.o) (n:=17) (a:=a+1) (by decide) Om rfl (h2.at 1 rfl) ?_
 have h3:=h2.set 1 rfl (bJ l (a+1+1))
 simp only[go_sem,γ,δ,ε,ζ,η,θ,ι,κ,μ,ν,ξ,ο,ρ,σ,τ,υ,reduceIte,reduceCtorEq,e2,f5]
 refine rO Lb (lev:=2) (par:=ds.length) (up:=16+nxM l 17 (a+1)) h3 Om (by simp only[go_sem,γ,δ,ε,ζ,η,θ,ι,κ,μ,ν,ξ,ο,ρ,σ,τ,υ,reduceIte,reduceCtorEq,f5]; rfl) fun wd2 H2 h4=>?_
 simp only[go_sem,γ,δ,ε,ζ,η,θ,ι,κ,μ,ν,ξ,ο,ρ,σ,τ,υ,reduceIte,reduceCtorEq,FA,f0]
 refine cH Lb.toEI T (o:=E.o) (n:=9) (a:=a+2) (by decide) Om rfl (h4.at 1 rfl) ?_
 have h5:=h4.set 1 rfl (bJ l (a+2+1))
 simp only[go_sem,γ,δ,ε,ζ,η,θ,ι,κ,μ,ν,ξ,ο,ρ,σ,τ,υ,reduceIte,reduceCtorEq,e3,f5]
 refine rO Lb (lev:=3) (par:=(dK ds 1 0 (16+nxM l 17 a)).length) (up:=8+nxM l 9 (a+2)) h5 Om (by simp only[go_sem,γ,δ,ε,ζ,η,θ,ι,κ,μ,ν,ξ,ο,ρ,σ,τ,υ,reduceIte,reduceCtorEq,f5]; rfl) fun wd3 H3 h6=>?_
 simp only[go_sem,γ,δ,ε,ζ,η,θ,ι,κ,μ,ν,ξ,ο,ρ,σ,τ,υ,reduceIte,reduceCtorEq]
 refine hK wd3 _ _ ?_ h6
 unfold eV
 exact Lq
theorem bfC {C:Ctx} (Lb:CQ C) {l:List Int} (T:TpM l) (E:ME) (n i:Nat) (p:MS) (hp:p.a≤50000) (hl:p.bHV.length≤60) (hd:p.bIJ.length≤9) (ext w1 w2 wd wr:PV) (K:cQ) (F:PF) (H:PH)
  (hF:(eV E n p.room p.rack i).le F) (hH:aR H (E.boxes l ext w1 w2 wd wr .aB .aB p.a) [(wd,7,dL p.bHV),(wr,3,eD p.bIJ)])
  (hK:∀ wd' wr' F' H',(eV E n p.room p.rack i).le F'→aR H' (E.boxes l ext w1 w2 wd' wr' .aB .aB (jB l p.bHV.length (1+nxM l 2 (p.a+1)) (p.bIJ,p.a+2)).2) [(wd',7,dL (dK p.bHV 4 p.rack (8+nxM l 9 p.a))),(wr',3,eD (jB l p.bHV.length (1+nxM l 2 (p.a+1)) (p.bIJ,p.a+2)).1)]→K .normal F' H') :
  aC.wp C (.seq (.region uL) (.seq (.region uM) (.block 2 (.loop qU)))) K F H:=by
 have f0:F 0=some (.ptr E.o 2 0 0):=hF 0 _ (by unfold eV; simp only[go_sem,γ,δ,ε,ζ,η,θ,ι,κ,μ,ν,ξ,ο,ρ,σ,τ,υ,reduceIte,reduceCtorEq])
 have f1:F 1=some (.int .i64 E.vols):=hF 1 _ (by unfold eV; simp only[go_sem,γ,δ,ε,ζ,η,θ,ι,κ,μ,ν,ξ,ο,ρ,σ,τ,υ,reduceIte,reduceCtorEq])
 have f4:F 4=some (.ptr E.o4 7 0 0):=hF 4 _ (by unfold eV; simp only[go_sem,γ,δ,ε,ζ,η,θ,ι,κ,μ,ν,ξ,ο,ρ,σ,τ,υ,reduceIte,reduceCtorEq])
 have f5:F 5=some (.ptr E.o5 7 0 0):=hF 5 _ (by unfold eV; simp only[go_sem,γ,δ,ε,ζ,η,θ,ι,κ,μ,ν,ξ,ο,ρ,σ,τ,υ,reduceIte,reduceCtorEq])
 have f6:F 6=some (.int .i64 n):=hF 6 _ (by unfold eV; simp only[go_sem,γ,δ,ε,ζ,η,θ,ι,κ,μ,ν,ξ,ο,ρ,σ,τ,υ,reduceIte,reduceCtorEq])
 have f8:F 8=some (.int .i64 p.room):=hF 8 _ (by unfold eV; simp only[go_sem,γ,δ,ε,ζ,η,θ,ι,κ,μ,ν,ξ,ο,ρ,σ,τ,υ,reduceIte,reduceCtorEq])
 have f9:F 9=some (.int .i64 p.rack):=hF 9 _ (by unfold eV; simp only[go_sem,γ,δ,ε,ζ,η,θ,ι,κ,μ,ν,ξ,ο,ρ,σ,τ,υ,reduceIte,reduceCtorEq])
 have f10:F 10=some (.int .i64 i):=hF 10 _ (by unfold eV; simp only[go_sem,γ,δ,ε,ζ,η,θ,ι,κ,μ,ν,ξ,ο,ρ,σ,τ,υ,reduceIte,reduceCtorEq])
 have n1:=cO l (show 0<9 by decide) p.a
 have n2:=cO l (show 0<2 by decide) (p.a+1)
 have e1:IntKind.i64.wrap (8+((nxM l 9 p.a:Nat):Int))=((8+nxM l 9 p.a:Nat):Int):=gW (a:=8) Om
 have e2:IntKind.i64.wrap (1+((nxM l 2 (p.a+1):Nat):Int))=((1+nxM l 2 (p.a+1):Nat):Int):=gW (a:=1) Om
 simp only[go_sem,γ,δ,ε,ζ,η,θ,ι,κ,μ,ν,ξ,ο,ρ,σ,τ,υ,reduceIte,reduceCtorEq,uL,f0,f9]
 refine cH Lb.toEI T (o:=E.o) (n:=9) (a:=p.a) (by decide) Om rfl (hH.at 1 rfl) ?_
 have h1:=hH.set 1 rfl (bJ l (p.a+1))
 simp only[go_sem,γ,δ,ε,ζ,η,θ,ι,κ,μ,ν,ξ,ο,ρ,σ,τ,υ,reduceIte,reduceCtorEq,e1,f5,f9]
 refine rO Lb (lev:=4) (par:=p.rack) (up:=8+nxM l 9 p.a) h1 Om (by simp only[go_sem,γ,δ,ε,ζ,η,θ,ι,κ,μ,ν,ξ,ο,ρ,σ,τ,υ,reduceIte,reduceCtorEq,f5,f9]; rfl) fun wd1 H1 h2=>?_
 simp only[go_sem,γ,δ,ε,ζ,η,θ,ι,κ,μ,ν,ξ,ο,ρ,σ,τ,υ,reduceIte,reduceCtorEq,uM,f0]
 refine cH Lb.toEI T (o:=E.o) (n:=2) (a:=p.a+1) (by decide) Om rfl (h2.at 1 rfl) ?_
 have h3:=h2.set 1 rfl (bJ l (p.a+1+1))
 simp only[go_sem,γ,δ,ε,ζ,η,θ,ι,κ,μ,ν,ξ,ο,ρ,σ,τ,υ,reduceIte,reduceCtorEq,e2]
 refine blL Lb.tooU T E n p.room p.rack i p.bHV.length ext w1 w2 wd1 _ (1+nxM l 2 (p.a+1)) (p.bIJ,p.a+2) wr hd (by simp only; omega) _ _ _ ?_ h3 ?_
 ·unfold jP
  exact Lq
 ·intro wr' F' H' hF' h'
  exact hK wd1 wr' F' H' hF' h'
theorem a7Q {C:Ctx} (Lb:CQ C) {l:List Int} (T:TpM l) (E:ME) (n a0:Nat) (hn:n≤10) (ha:a0≤10000) (ext w1 w2 wd0:PV) (K:cQ) (F:PF) (H:PH)
  (hF:(eV E n 0 0 0).le F) (hH:aR H (E.boxes l ext w1 w2 wd0 .aB .aB .aB a0) [(wd0,7,dL [jE]),(.aB,3,eD [])])
  (hK:∀ wd wr F' H',(uA E).le F'→aR H' (E.boxes l ext w1 w2 wd wr .aB .aB (eI l ⟨[jE],[],0,0,0,a0⟩ n).a) [(wd,7,dL (eI l ⟨[jE],[],0,0,0,a0⟩ n).bHV),(wr,3,eD (eI l ⟨[jE],[],0,0,0,a0⟩ n).bIJ)]→K (.exit 0) F' H') :
  aC.wp C (.loop EU) K F H:=by
 generalize hs0:(⟨[jE],[],0,0,0,a0⟩:MS)=s0 at *
 have hM0:MOk 0 a0 s0:=by rw[← hs0]; exact aeF a0
 refine wp_loop (α:=Nat × PV × PV × PH) (fun t=>eV E n (eI l s0 t.1).room (eI l s0 t.1).rack t.1) (fun t=>t.2.2.2)
  (fun t=>t.1≤n∧aR t.2.2.2 (E.boxes l ext w1 w2 t.2.1 t.2.2.1 .aB .aB (eI l s0 t.1).a) [(t.2.1,7,dL (eI l s0 t.1).bHV),(t.2.2.1,3,eD (eI l s0 t.1).bIJ)]) (fun t=>n-t.1) (0,wd0,.aB,H) ⟨bJY _,by rw[← hs0]; exact hH⟩ (by rw[← hs0]; exact hF) PH.le_refl ?_
 rintro⟨i,wd,wr,H0⟩ ⟨hi,hH⟩
 simp only at hi hH ⊢
 have hM:=pA l hM0 i Om
 have bHS:eI l s0 (i+1)=yV l i (eI l s0 i):=rfl
 generalize hs:eI l s0 i=s at *
 obtain⟨m1,m2,m3,m4,m5,m6,m7,m8⟩:=hM
 simp only[go_sem,γ,δ,ε,ζ,η,θ,ι,κ,μ,ν,ξ,ο,ρ,σ,τ,υ,reduceIte,reduceCtorEq,EU,aoW,eV]
 by_cases hlt:i<n
 ·have bHR:(i:Int)<(n:Nat):=by omega
  have rest:∀ (p:MS) (wd':PV) (F':PF) (H':PH),eJ l i s=p→(eV E n p.room p.rack i).le F'→aR H' (E.boxes l ext w1 w2 wd' wr .aB .aB p.a) [(wd',7,dL p.bHV),(wr,3,eD p.bIJ)] →
    aC.wp C (.seq (.region uL) (.seq (.region uM) (.block 2 (.loop qU)))) (dW 1 (iV C (aC.wp C (.region FF)) (eE (fun t:Nat × PV × PV × PH=>eV E n (eI l s0 t.1).room (eI l s0 t.1).rack t.1) (fun t=>t.2.2.2)
     (fun t=>t.1≤n∧aR t.2.2.2 (E.boxes l ext w1 w2 t.2.1 t.2.2.1 .aB .aB (eI l s0 t.1).a) [(t.2.1,7,dL (eI l s0 t.1).bHV),(t.2.2.1,3,eD (eI l s0 t.1).bIJ)]) (fun t=>n-t.1) (n-i) K))) F' H':=by
   intro p wd' F' H' hp hF' h'
   obtain⟨p1,p2,p3,p4,p5,p6,p7,p8⟩:=VN l i (k:=i) (a0:=a0) Om (⟨m1,m2,m3,m4,m5,m6,m7,m8⟩:MOk i a0 s)
   rw[hp] at p1 p3 p7 p8
   refine bfC Lb T E n i p Om Om p3 ext w1 w2 wd' wr _ _ _ hF' h' ?_
   intro wd2 wr2 F2 H2 hF2 h2
   have f0:F2 0=some (.ptr E.o 2 0 0):=hF2 0 _ (by unfold eV; simp only[go_sem,γ,δ,ε,ζ,η,θ,ι,κ,μ,ν,ξ,ο,ρ,σ,τ,υ,reduceIte,reduceCtorEq])
   have f1:F2 1=some (.int .i64 E.vols):=hF2 1 _ (by unfold eV; simp only[go_sem,γ,δ,ε,ζ,η,θ,ι,κ,μ,ν,ξ,ο,ρ,σ,τ,υ,reduceIte,reduceCtorEq])
   have f4:F2 4=some (.ptr E.o4 7 0 0):=hF2 4 _ (by unfold eV; simp only[go_sem,γ,δ,ε,ζ,η,θ,ι,κ,μ,ν,ξ,ο,ρ,σ,τ,υ,reduceIte,reduceCtorEq])
   have f5:F2 5=some (.ptr E.o5 7 0 0):=hF2 5 _ (by unfold eV; simp only[go_sem,γ,δ,ε,ζ,η,θ,ι,κ,μ,ν,ξ,ο,ρ,σ,τ,υ,reduceIte,reduceCtorEq])
   have f6:F2 6=some (.int .i64 n):=hF2 6 _ (by unfold eV; simp only[go_sem,γ,δ,ε,ζ,η,θ,ι,κ,μ,ν,ξ,ο,ρ,σ,τ,υ,reduceIte,reduceCtorEq])
   have f8:F2 8=some (.int .i64 p.room):=hF2 8 _ (by unfold eV; simp only[go_sem,γ,δ,ε,ζ,η,θ,ι,κ,μ,ν,ξ,ο,ρ,σ,τ,υ,reduceIte,reduceCtorEq])
   have f9:F2 9=some (.int .i64 p.rack):=hF2 9 _ (by unfold eV; simp only[go_sem,γ,δ,ε,ζ,η,θ,ι,κ,μ,ν,ξ,ο,ρ,σ,τ,υ,reduceIte,reduceCtorEq])
   have f10:F2 10=some (.int .i64 i):=hF2 10 _ (by unfold eV; simp only[go_sem,γ,δ,ε,ζ,η,θ,ι,κ,μ,ν,ξ,ο,ρ,σ,τ,υ,reduceIte,reduceCtorEq])
   have hnew:eI l s0 (i+1)={ p with bHV:=dK p.bHV 4 p.rack (8+nxM l 9 p.a),bIJ:=(jB l p.bHV.length (1+nxM l 2 (p.a+1)) (p.bIJ,p.a+2)).1,a:=(jB l p.bHV.length (1+nxM l 2 (p.a+1)) (p.bIJ,p.a+2)).2 }:=by
    rw[bHS]; unfold yV; rw[hp]
   simp only[go_sem,γ,δ,ε,ζ,η,θ,ι,κ,μ,ν,ξ,ο,ρ,σ,τ,υ,reduceIte,reduceCtorEq,FF,f10,wZz i]
   refine aG (i+1,wd2,wr2,H2) ⟨hlt,?_⟩ (by simp only; omega) ?_ PH.le_refl
   ·simp only
    rw[hnew]
    exact h2
   ·simp only
    rw[hnew]
    unfold eV
    exact Lq
  have hp0:=fun p (h:eJ l i s=p)=>h
  simp only[go_sem,γ,δ,ε,ζ,η,θ,ι,κ,μ,ν,ξ,ο,ρ,σ,τ,υ,reduceIte,reduceCtorEq,bHR,aoX]
  by_cases c0:i=0
  ·simp only[go_sem,γ,δ,ε,ζ,η,θ,ι,κ,μ,ν,ξ,ο,ρ,σ,τ,υ,reduceIte,reduceCtorEq,bX (Om:((i:Nat):Int)=0)]
   refine aRN Lb T E n s.room s.rack i s.a Om ext w1 w2 wd wr s.bHV Om [(wr,3,eD s.bIJ)] _ _ _ (by unfold eV; exact Lq) hH ?_
   intro wd' F' H' hF' h'
   have hp:eJ l i s=⟨dK (dK (dK s.bHV 1 0 (16+nxM l 17 s.a)) 2 s.bHV.length (16+nxM l 17 (s.a+1))) 3 (dK s.bHV 1 0 (16+nxM l 17 s.a)).length (8+nxM l 9 (s.a+2)),s.bIJ,s.bHV.length,(dK s.bHV 1 0 (16+nxM l 17 s.a)).length,(dK (dK s.bHV 1 0 (16+nxM l 17 s.a)) 2 s.bHV.length (16+nxM l 17 (s.a+1))).length,s.a+3⟩:=by
    unfold eJ
    simp only
    rw[if_pos c0]
   exact rest _ wd' F' H' hp hF' h'
  simp only[go_sem,γ,δ,ε,ζ,η,θ,ι,κ,μ,ν,ξ,ο,ρ,σ,τ,υ,reduceIte,reduceCtorEq,bG (Om:((i:Nat):Int)≠0)]
  refine cH Lb.toEI T (o:=E.o) (n:=4) (a:=s.a) (by decide) Om rfl (hH.at 1 rfl) ?_
  have h1:=hH.set 1 rfl (bJ l (s.a+1))
  by_cases c1:nxM l 4 s.a=0
  ·simp only[go_sem,γ,δ,ε,ζ,η,θ,ι,κ,μ,ν,ξ,ο,ρ,σ,τ,υ,reduceIte,reduceCtorEq,bX (Om:((nxM l 4 s.a:Nat):Int)=0)]
   refine aRN Lb T E n s.room s.rack i (s.a+1) Om ext w1 w2 wd wr s.bHV Om [(wr,3,eD s.bIJ)] _ _ _ (by unfold eV; exact Lq) h1 ?_
   intro wd' F' H' hF' h'
   have hp:eJ l i s=⟨dK (dK (dK s.bHV 1 0 (16+nxM l 17 (s.a+1))) 2 s.bHV.length (16+nxM l 17 (s.a+1+1))) 3 (dK s.bHV 1 0 (16+nxM l 17 (s.a+1))).length (8+nxM l 9 (s.a+1+2)),s.bIJ,s.bHV.length,(dK s.bHV 1 0 (16+nxM l 17 (s.a+1))).length,(dK (dK s.bHV 1 0 (16+nxM l 17 (s.a+1))) 2 s.bHV.length (16+nxM l 17 (s.a+1+1))).length,s.a+1+3⟩:=by
    unfold eJ
    simp only
    rw[if_neg c0,if_pos c1]
   exact rest _ wd' F' H' hp hF' h'
  simp only[go_sem,γ,δ,ε,ζ,η,θ,ι,κ,μ,ν,ξ,ο,ρ,σ,τ,υ,reduceIte,reduceCtorEq,bG (Om:((nxM l 4 s.a:Nat):Int)≠0),abC]
  refine cH Lb.toEI T (o:=E.o) (n:=2) (a:=s.a+1) (by decide) Om rfl (h1.at 1 rfl) ?_
  have h2:=h1.set 1 rfl (bJ l (s.a+1+1))
  rw[PH.set_set] at h2
  by_cases c2:nxM l 2 (s.a+1)=0
  ·have n3:=cO l (show 0<9 by decide) (s.a+2)
   have e3:IntKind.i64.wrap (8+((nxM l 9 (s.a+2):Nat):Int))=((8+nxM l 9 (s.a+2):Nat):Int):=gW (a:=8) Om
   simp only[go_sem,γ,δ,ε,ζ,η,θ,ι,κ,μ,ν,ξ,ο,ρ,σ,τ,υ,reduceIte,reduceCtorEq,bX (show ((nxM l 2 (s.a+1):Nat):Int)=0 by omega),abD]
   refine cH Lb.toEI T (o:=E.o) (n:=9) (a:=s.a+2) (by decide) Om rfl (h2.at 1 rfl) ?_
   have h3:=h2.set 1 rfl (bJ l (s.a+2+1))
   rw[PH.set_set] at h3
   simp only[go_sem,γ,δ,ε,ζ,η,θ,ι,κ,μ,ν,ξ,ο,ρ,σ,τ,υ,reduceIte,reduceCtorEq,e3]
   refine rO Lb (lev:=3) (par:=s.room) (up:=8+nxM l 9 (s.a+2)) h3 Om rfl fun wd3 H3 h4=>?_
   have hp:eJ l i s=⟨dK s.bHV 3 s.room (8+nxM l 9 (s.a+2)),s.bIJ,s.site,s.room,s.bHV.length,s.a+3⟩:=by
    unfold eJ
    simp only
    rw[if_neg c0,if_neg c1,if_pos c2]
   simp only[go_sem,γ,δ,ε,ζ,η,θ,ι,κ,μ,ν,ξ,ο,ρ,σ,τ,υ,reduceIte,reduceCtorEq]
   exact rest _ wd3 _ _ hp (by unfold eV; exact Lq) h4
  ·have hp:eJ l i s={ s with a:=s.a+2 }:=by
    unfold eJ
    simp only
    rw[if_neg c0,if_neg c1,if_neg c2]
   simp only[go_sem,γ,δ,ε,ζ,η,θ,ι,κ,μ,ν,ξ,ο,ρ,σ,τ,υ,reduceIte,reduceCtorEq,bG (show ((nxM l 2 (s.a+1):Nat):Int)≠0 by omega)]
   exact rest _ wd _ _ hp (by unfold eV; exact Lq) h2
 ·have bHR:¬ (i:Int)<(n:Nat):=by omega
  have:i=n:=by omega
  subst this
  simp only[go_sem,γ,δ,ε,ζ,η,θ,ι,κ,μ,ν,ξ,ο,ρ,σ,τ,υ,reduceIte,reduceCtorEq,bHR]
  refine hK wd wr _ _ ?_ ?_
  ·unfold uA
   exact Lq
  ·rw[hs]; exact hH
abbrev mH (P:dB) (w:PV):List PV:=[.str P.name,.int .i64 P.k,.int .i64 P.m,.int .i64 P.bIO,.int .i64 P.s0,.int .i64 P.s1,.int .i64 P.s2,.int .i64 P.s3,.int .i64 P.s4,ints P.bHL,w,
 .bool P.target.neg,aF P.target.num,aF P.target.den,.bool P.bHW.neg,aF P.bHW.num,aF P.bHW.den]
def uB (E:ME) (t m q j:Nat):PF:=((((((((PF.nil.set 0 (.ptr E.o 2 0 0)).set 1 (.int .i64 E.vols)).set 4 (.ptr E.o4 7 0 0)).set 5 (.ptr E.o5 7 0 0)).set 14 (.int .i64 t)).set 16 (.int .i64 m)).set 17 (.ptr q 17 0 0)).set 18 (.int .i64 j))
def zT (E:ME) (t m q:Nat):PF:=(((((((PF.nil.set 0 (.ptr E.o 2 0 0)).set 1 (.int .i64 E.vols)).set 4 (.ptr E.o4 7 0 0)).set 5 (.ptr E.o5 7 0 0)).set 14 (.int .i64 t)).set 16 (.int .i64 m)).set 17 (.ptr q 17 0 0))
abbrev tK (n:Nat):List (List PV):=SZ (bJR n (mkT 1 2))
theorem aPT (n:Nat):tK n++[(mkT 1 2).cells]=tK (n+1):=by
 unfold tK
 rw[List.replicate_succ',a2P]
theorem blN {C:Ctx} (Lb:oU C) (E:ME) (t m q:Nat) (P:dB) (B:List BX) (L:List LI) (hm:m≤100) (K:cQ) (F:PF) (H:PH)
  (hF:(uB E t m q 0).le F) (hH:aR H ((q,.rows 17 [mH P .aB])::B) L)
  (hK:∀ w F' H',(uB E t m q (max m 1)).le F'→aR H' ((q,.rows 17 [mH P w])::B) (L++[(w,3,tK (max m 1))])→K (.exit 6) F' H') :
  aC.wp C (.loop EV) K F H:=by
 refine wp_loop (α:=Nat × PV × PH) (fun s=>uB E t m q s.1) (fun s=>s.2.2) (fun s=>s.1≤max m 1∧aR s.2.2 ((q,.rows 17 [mH P s.2.1])::B) (L++[(s.2.1,3,tK s.1)])) (fun s=>max m 1-s.1) (0,.aB,H) ⟨bJY _,hH.nI 3⟩ hF PH.le_refl ?_
 rintro⟨j,w,H0⟩ ⟨hj,hH⟩
 simp only at hj hH ⊢
 have emax:max ((m:Nat):Int) 1=((max m 1:Nat):Int):=by omega
 simp only[go_sem,γ,δ,ε,ζ,η,θ,ι,κ,μ,ν,ξ,ο,ρ,σ,τ,υ,reduceIte,reduceCtorEq,EV,abL,uB,max_eq,emax]
 by_cases hlt:j<max m 1
 ·have bHR:(j:Int)<((max m 1:Nat):Int):=by omega
  have b:=hH.at 0 rfl
  simp only[go_sem,γ,δ,ε,ζ,η,θ,ι,κ,μ,ν,ξ,ο,ρ,σ,τ,υ,reduceIte,reduceCtorEq,bHR]
  refine bP (PH.nil.set q (.rows 17 [mH P w])) (mdS []) (PH.aI PH.nil_le b) ?_
  simp only[go_sem,γ,δ,ε,ζ,η,θ,ι,κ,μ,ν,ξ,ο,ρ,σ,τ,υ,reduceIte,reduceCtorEq,abM,b]
  refine aoM Lb (n:=1) (m:=2) (by unfold cW; omega) (by unfold cW; omega) (by decide) rfl (PH.aI PH.nil_le b) ?_
  have h13:(1:Nat)*3≤16777216:=by decide
  simp only[go_sem,γ,δ,ε,ζ,η,θ,ι,κ,μ,ν,ξ,ο,ρ,σ,τ,υ,reduceIte,reduceCtorEq,h13]
  refine hH.append (v:=w) (s:=3) (rows:=tK j) L.length (src:=[(mkT 1 2).cells]) (by simp) rfl (by unfold roomFor; rw[MY,bNB]; simp only[bKC,maxLen]; omega) fun w' H2 h5 hw=>?_
  obtain⟨z,rfl⟩:=hw (by simp)
  rw[bMQ _ _ (bJQ _),bMF] at h5
  have b2:=h5.at 0 rfl
  refine⟨PH.aI PH.nil_le b2,?_⟩
  refine bP .nil dX PH.nil_le ?_
  simp only[go_sem,γ,δ,ε,ζ,η,θ,ι,κ,μ,ν,ξ,ο,ρ,σ,τ,υ,reduceIte,reduceCtorEq,abN,b2,bKE,bLC,or_false,forall_eq]
  have h6:=h5.set 0 rfl (.rows 17 [mH P (.osl z 3 0 (tK j++[(mkT 1 2).cells]).length)])
  refine⟨PH.nil_le,?_⟩
  simp only[go_sem,γ,δ,ε,ζ,η,θ,ι,κ,μ,ν,ξ,ο,ρ,σ,τ,υ,reduceIte,reduceCtorEq,abO,wZz j]
  refine aG (j+1,.osl z 3 0 (tK j++[(mkT 1 2).cells]).length,_) ⟨hlt,?_⟩ (by simp only; omega) ?_ PH.le_refl
  ·simp only
   rw[← aPT]
   exact h6
  ·exact Lq
 ·have bHR:¬ (j:Int)<((max m 1:Nat):Int):=by omega
  have:j=max m 1:=by omega
  subst this
  simp only[go_sem,γ,δ,ε,ζ,η,θ,ι,κ,μ,ν,ξ,ο,ρ,σ,τ,υ,reduceIte,reduceCtorEq,bHR]
  refine hK w _ _ ?_ hH
  unfold uB
  exact Lq
theorem blM {C:Ctx} (Lb:oU C) {l:List Int} (T:TpM l) (E:ME) (t a:Nat) (ht:t<100) (ha:a≤50000) (ext w1 w2 wd wr wp:PV) (L:List LI) (X:aC) (K:cQ) (F:PF) (H:PH)
  (f0:F 0=some (.ptr E.o 2 0 0)) (f1:F 1=some (.int .i64 E.vols)) (f4:F 4=some (.ptr E.o4 7 0 0)) (f5:F 5=some (.ptr E.o5 7 0 0)) (f14:F 14=some (.int .i64 t))
  (hH:aR H (E.boxes l ext w1 w2 wd wr wp .aB a) L)
  (hK:∀ q F' H',(zT E t (nxM l 3 (a+1)) q).le F'→aR H' ((q,.rows 17 [mH (oT l t a) .aB])::E.boxes l ext w1 w2 wd wr wp .aB (a+6)) L→aC.wp C X K F' H') :
  aC.wp C (.seq (.region FG) (.seq (.region FH) (.seq (.region FI) (.seq (.region FJ) (.seq (.region FK) (.seq (.seq (.region FL) (.cond (.tmp 163) (.region FN) .skip)) X)))))) K F H:=by
 have n1:=cO l (show 0<2 by decide) a
 have n2:=cO l (show 0<3 by decide) (a+1)
 have n3:=cO l (Om:0<nxM l 3 (a+1)+1) (a+2)
 have e1:IntKind.i64.wrap (1+((nxM l 2 a:Nat):Int))=((1+nxM l 2 a:Nat):Int):=gW (a:=1) Om
 have e2:IntKind.i64.wrap (((nxM l 3 (a+1):Nat):Int)+1)=((nxM l 3 (a+1)+1:Nat):Int):=dC Om
 have e3:IntKind.i64.wrap (((1+nxM l 2 a:Nat):Int)+((nxM l (nxM l 3 (a+1)+1) (a+2):Nat):Int))=((1+nxM l 2 a+nxM l (nxM l 3 (a+1)+1) (a+2):Nat):Int):=gW Om
 have h12:(2:Nat)*1≤16777216:=by decide
 have h35:(3:Int)<((5:Nat):Int):=by decide
 have h45:(4:Int)<((5:Nat):Int):=by decide
 have h11:(1:Nat)*1≤16777216:=by decide
 simp only[go_sem,γ,δ,ε,ζ,η,θ,ι,κ,μ,ν,ξ,ο,ρ,σ,τ,υ,reduceIte,reduceCtorEq,FG,f0]
 refine cH Lb.toEI T (o:=E.o) (n:=2) (a:=a) (by decide) Om rfl (hH.at 1 rfl) ?_
 have h1:=hH.set 1 rfl (bJ l (a+1))
 simp only[go_sem,γ,δ,ε,ζ,η,θ,ι,κ,μ,ν,ξ,ο,ρ,σ,τ,υ,reduceIte,reduceCtorEq,e1,FH,f0]
 refine cH Lb.toEI T (o:=E.o) (n:=3) (a:=a+1) (by decide) Om rfl (h1.at 1 rfl) ?_
 have h2:=h1.set 1 rfl (bJ l (a+2))
 rw[PH.set_set] at h2
 simp only[go_sem,γ,δ,ε,ζ,η,θ,ι,κ,μ,ν,ξ,ο,ρ,σ,τ,υ,reduceIte,reduceCtorEq,FI,f14]
 refine aA (Lb.name 112 t ht) rfl ?_
 simp only[go_sem,γ,δ,ε,ζ,η,θ,ι,κ,μ,ν,ξ,ο,ρ,σ,τ,υ,reduceIte,reduceCtorEq,f0,e2]
 refine cH Lb.toEI T (o:=E.o) (n:=nxM l 3 (a+1)+1) (a:=a+2) Om Om rfl (h2.at 1 rfl) ?_
 have h3:=h2.set 1 rfl (bJ l (a+3))
 rw[PH.set_set] at h3
 simp only[go_sem,γ,δ,ε,ζ,η,θ,ι,κ,μ,ν,ξ,ο,ρ,σ,τ,υ,reduceIte,reduceCtorEq,e3,h12]
 refine aA (Lb.frac 1 1000 (by unfold cW; omega) (by unfold cW; omega) (by decide)) rfl ?_
 simp only[go_sem,γ,δ,ε,ζ,η,θ,ι,κ,μ,ν,ξ,ο,ρ,σ,τ,υ,reduceIte,reduceCtorEq]
 refine aA (Lb.frac 30 1 (by unfold cW; omega) (by unfold cW; omega) (by decide)) rfl ?_
 simp only[go_sem,γ,δ,ε,ζ,η,θ,ι,κ,μ,ν,ξ,ο,ρ,σ,τ,υ,reduceIte,reduceCtorEq,bKE,bLC,or_false,forall_eq,forall_eq_or_imp]
 refine aQ fun q hq=>?_
 have h4:=h3.new hq (.rows 17 [[.str (dO 112 t),.int .i64 (1+nxM l 2 a:Nat),.int .i64 (nxM l 3 (a+1):Nat),.int .i64 (1+nxM l 2 a+nxM l (nxM l 3 (a+1)+1) (a+2):Nat),.int .i64 0,.int .i64 0,.int .i64 0,.int .i64 0,.int .i64 0,ints [0,1],.aB,.bool (mkT 1 1000).neg,aF (mkT 1 1000).num,aF (mkT 1 1000).den,.bool (mkT 30 1).neg,aF (mkT 30 1).num,aF (mkT 30 1).den]])
 have nq:¬ E.o=q:=h4.ne 1 3 rfl rfl (by decide)
 have nq':¬ q=E.o:=fun h=>nq h.symm
 simp only[go_sem,γ,δ,ε,ζ,η,θ,ι,κ,μ,ν,ξ,ο,ρ,σ,τ,υ,reduceIte,reduceCtorEq,bKE,bLC,or_false,forall_eq,forall_eq_or_imp,FJ,f0]
 refine cH Lb.toEI T (o:=E.o) (n:=4) (a:=a+3) (by decide) Om rfl (h4.at 1 rfl) ?_
 have h5:=h4.set 1 rfl (bJ l (a+4))
 have h6:=h5.set 3 rfl (.rows 17 [[.str (dO 112 t),.int .i64 (1+nxM l 2 a:Nat),.int .i64 (nxM l 3 (a+1):Nat),.int .i64 (1+nxM l 2 a+nxM l (nxM l 3 (a+1)+1) (a+2):Nat),.int .i64 0,.int .i64 0,.int .i64 0,.int .i64 (nxM l 4 (a+3):Nat),.int .i64 0,ints [0,1],.aB,.bool (mkT 1 1000).neg,aF (mkT 1 1000).num,aF (mkT 1 1000).den,.bool (mkT 30 1).neg,aF (mkT 30 1).num,aF (mkT 30 1).den]])
 simp only[go_sem,γ,δ,ε,ζ,η,θ,ι,κ,μ,ν,ξ,ο,ρ,σ,τ,υ,reduceIte,reduceCtorEq,h35,nq,nq',bKE,bLC,or_false,forall_eq,FK,f0]
 refine cH Lb.toEI T (o:=E.o) (n:=3) (a:=a+4) (by decide) Om rfl (h6.at 1 rfl) ?_
 have h7:=h6.set 1 rfl (bJ l (a+5))
 have h8:=h7.set 3 rfl (.rows 17 [[.str (dO 112 t),.int .i64 (1+nxM l 2 a:Nat),.int .i64 (nxM l 3 (a+1):Nat),.int .i64 (1+nxM l 2 a+nxM l (nxM l 3 (a+1)+1) (a+2):Nat),.int .i64 0,.int .i64 0,.int .i64 0,.int .i64 (nxM l 4 (a+3):Nat),.int .i64 (nxM l 3 (a+4):Nat),ints [0,1],.aB,.bool (mkT 1 1000).neg,aF (mkT 1 1000).num,aF (mkT 1 1000).den,.bool (mkT 30 1).neg,aF (mkT 30 1).num,aF (mkT 30 1).den]])
 simp only[go_sem,γ,δ,ε,ζ,η,θ,ι,κ,μ,ν,ξ,ο,ρ,σ,τ,υ,reduceIte,reduceCtorEq,h45,nq,nq',bKE,bLC,or_false,forall_eq,FL,f0]
 refine cH Lb.toEI T (o:=E.o) (n:=5) (a:=a+5) (by decide) Om rfl (h8.at 1 rfl) ?_
 have h9:=h8.set 1 rfl (bJ l (a+6))
 by_cases c:nxM l 5 (a+5)=0
 ·have h10:=h9.set 3 rfl (.rows 17 [mH (oT l t a) .aB])
  have eP:mH (oT l t a) .aB=[.str (dO 112 t),.int .i64 (1+nxM l 2 a:Nat),.int .i64 (nxM l 3 (a+1):Nat),.int .i64 (1+nxM l 2 a+nxM l (nxM l 3 (a+1)+1) (a+2):Nat),.int .i64 0,.int .i64 0,.int .i64 0,.int .i64 (nxM l 4 (a+3):Nat),.int .i64 (nxM l 3 (a+4):Nat),ints [0],.aB,.bool (mkT 1 1000).neg,aF (mkT 1 1000).num,aF (mkT 1 1000).den,.bool (mkT 30 1).neg,aF (mkT 30 1).num,aF (mkT 30 1).den]:=by
   unfold oT mH
   simp only[if_pos c]
  have h11':=h10.perm (List.perm_append_comm (l₁:=E.boxes l ext w1 w2 wd wr wp .aB (a+6)) (l₂:=[(q,.rows 17 [mH (oT l t a) .aB])])) (List.Perm.refl _)
  simp only[go_sem,γ,δ,ε,ζ,η,θ,ι,κ,μ,ν,ξ,ο,ρ,σ,τ,υ,reduceIte,reduceCtorEq,bX (show ((nxM l 5 (a+5):Nat):Int)=0 by omega),FN,h11,nq,nq',bKE,bLC,or_false,forall_eq]
  rw[eP] at h11'
  refine hK q _ _ ?_ (by rw[eP]; exact h11')
  unfold zT
  exact Lq
 ·have eP:mH (oT l t a) .aB=[.str (dO 112 t),.int .i64 (1+nxM l 2 a:Nat),.int .i64 (nxM l 3 (a+1):Nat),.int .i64 (1+nxM l 2 a+nxM l (nxM l 3 (a+1)+1) (a+2):Nat),.int .i64 0,.int .i64 0,.int .i64 0,.int .i64 (nxM l 4 (a+3):Nat),.int .i64 (nxM l 3 (a+4):Nat),ints [0,1],.aB,.bool (mkT 1 1000).neg,aF (mkT 1 1000).num,aF (mkT 1 1000).den,.bool (mkT 30 1).neg,aF (mkT 30 1).num,aF (mkT 30 1).den]:=by
   unfold oT mH
   simp only[if_neg c]
  simp only[go_sem,γ,δ,ε,ζ,η,θ,ι,κ,μ,ν,ξ,ο,ρ,σ,τ,υ,reduceIte,reduceCtorEq,bG (show ((nxM l 5 (a+5):Nat):Int)≠0 by omega)]
  refine hK q _ _ ?_ ?_
  ·unfold zT
   exact Lq
  ·rw[eP]
   exact h9.perm (List.perm_append_comm (l₁:=E.boxes l ext w1 w2 wd wr wp .aB (a+6)) (l₂:=[(q,.rows 17 [_])])) (List.Perm.refl _)
def a1Z (E:ME) (t:Nat):PF:=(((((PF.nil.set 0 (.ptr E.o 2 0 0)).set 1 (.int .i64 E.vols)).set 4 (.ptr E.o4 7 0 0)).set 5 (.ptr E.o5 7 0 0)).set 14 (.int .i64 t))
theorem bfB {C:Ctx} (Lb:oU C) {l:List Int} (T:TpM l) (E:ME) (n a0:Nat) (hn:n≤10) (ha:a0≤10000) (x0:Int) (w1 w2 wd wr:PV) (o1:w1.oid=none) (o2:w2.oid=none) (dm:List bR) (dv:List cG) (K:cQ) (F:PF) (H:PH)
  (hF:(a1Z E n).le F) (hH:aR H (E.boxes l (.int .i64 x0) w1 w2 wd wr .aB .aB a0) [(wd,7,dL dm),(wr,3,eD dv)])
  (hK:∀ wp F' H',(uA E).le F'→aR H' (E.boxes l (.int .i64 x0) w1 w2 wd wr wp .aB (a0+6*n)) [(wd,7,dL dm),(wr,3,eD dv),(wp,17,lH (iR l n a0))]→K (.exit 4) F' H') :
  aC.wp C (.loop EW) K F H:=by
 refine wp_loop (α:=Nat × List dB × PV × PH) (fun s=>a1Z E s.1) (fun s=>s.2.2.2)
  (fun s=>s.1≤n∧s.2.1.length=n-s.1∧s.2.1++iR l s.1 (a0+6*(n-s.1))=iR l n a0∧aR s.2.2.2 (E.boxes l (.int .i64 x0) w1 w2 wd wr s.2.2.1 .aB (a0+6*(n-s.1))) [(wd,7,dL dm),(wr,3,eD dv),(s.2.2.1,17,lH s.2.1)]) (fun s=>s.1) (n,[],.aB,H)
  ⟨bJQ _,by simp,by simp,by simp only[bMF,Nat.mul_zero,bLH]; exact hH.nI 17⟩ hF PH.le_refl ?_
 rintro⟨t,done,wp,H0⟩ ⟨ht,hdl,hE,hH⟩
 simp only at ht hdl hE hH ⊢
 simp only[go_sem,γ,δ,ε,ζ,η,θ,ι,κ,μ,ν,ξ,ο,ρ,σ,τ,υ,reduceIte,reduceCtorEq,EW,abJ,a1Z]
 cases t with
 | zero =>
  have hc:¬ (((0:Nat):Int)>0):=by omega
  have e:done=iR l n a0:=by rw[← hE,iR,bLM]
  rw[Nat.sub_zero,e] at hH
  simp only[go_sem,γ,δ,ε,ζ,η,θ,ι,κ,μ,ν,ξ,ο,ρ,σ,τ,υ,reduceIte,reduceCtorEq,hc]
  refine hK wp _ _ ?_ hH
  unfold uA
  exact Lq
 | succ t =>
  have hc:(((t+1:Nat):Int)>0):=by omega
  obtain⟨a,hae⟩:∃ a,a=a0+6*(n-(t+1)):=⟨_,rfl⟩
  have ha6:a0+6*(n-t)=a+6:=by omega
  rw[← hae] at hE hH
  simp only[go_sem,γ,δ,ε,ζ,η,θ,ι,κ,μ,ν,ξ,ο,ρ,σ,τ,υ,reduceIte,reduceCtorEq,hc]
  refine blM Lb T E (t+1) a Om Om (.int .i64 x0) w1 w2 wd wr wp _ _ _ _ _ Ev Ev Ev Ev Ev hH ?_
  intro q F1 H1 hF1 h1
  have f0:F1 0=some (.ptr E.o 2 0 0):=hF1 0 _ (by unfold zT; simp only[go_sem,γ,δ,ε,ζ,η,θ,ι,κ,μ,ν,ξ,ο,ρ,σ,τ,υ,reduceIte,reduceCtorEq])
  have f1:F1 1=some (.int .i64 E.vols):=hF1 1 _ (by unfold zT; simp only[go_sem,γ,δ,ε,ζ,η,θ,ι,κ,μ,ν,ξ,ο,ρ,σ,τ,υ,reduceIte,reduceCtorEq])
  have f4:F1 4=some (.ptr E.o4 7 0 0):=hF1 4 _ (by unfold zT; simp only[go_sem,γ,δ,ε,ζ,η,θ,ι,κ,μ,ν,ξ,ο,ρ,σ,τ,υ,reduceIte,reduceCtorEq])
  have f5:F1 5=some (.ptr E.o5 7 0 0):=hF1 5 _ (by unfold zT; simp only[go_sem,γ,δ,ε,ζ,η,θ,ι,κ,μ,ν,ξ,ο,ρ,σ,τ,υ,reduceIte,reduceCtorEq])
  have f14:F1 14=some (.int .i64 (t+1:Nat)):=hF1 14 _ (by unfold zT; simp only[go_sem,γ,δ,ε,ζ,η,θ,ι,κ,μ,ν,ξ,ο,ρ,σ,τ,υ,reduceIte,reduceCtorEq])
  have f16:F1 16=some (.int .i64 (nxM l 3 (a+1):Nat)):=hF1 16 _ (by unfold zT; simp only[go_sem,γ,δ,ε,ζ,η,θ,ι,κ,μ,ν,ξ,ο,ρ,σ,τ,υ,reduceIte,reduceCtorEq])
  have f17:F1 17=some (.ptr q 17 0 0):=hF1 17 _ (by unfold zT; simp only[go_sem,γ,δ,ε,ζ,η,θ,ι,κ,μ,ν,ξ,ο,ρ,σ,τ,υ,reduceIte,reduceCtorEq])
  have n3:=cO l (show 0<3 by decide) (a+1)
  have hPr:(oT l (t+1) a).repair=bJR (max (nxM l 3 (a+1)) 1) (mkT 1 2):=rfl
  have hE2:(done++[oT l (t+1) a])++iR l t (a+6)=iR l n a0:=by rw[← hE,iR,bKP]; rfl
  generalize oT l (t+1) a=P at *
  simp only[go_sem,γ,δ,ε,ζ,η,θ,ι,κ,μ,ν,ξ,ο,ρ,σ,τ,υ,reduceIte,reduceCtorEq,abK]
  refine blN Lb E (t+1) (nxM l 3 (a+1)) q P _ _ Om _ _ _ (by unfold uB; (repeat' (first|exact PF.nil_le|refine PF.aI ?_ ?_))<;>first|(simp only[go_sem,γ,δ,ε,ζ,η,θ,ι,κ,μ,ν,ξ,ο,ρ,σ,τ,υ,reduceIte,reduceCtorEq,f0,f1,f4,f5,f14,f16,f17]<;>rfl)|rfl) h1 ?_
  intro w F2 H2 hF2 h2
  have g0:F2 0=some (.ptr E.o 2 0 0):=hF2 0 _ (by unfold uB; simp only[go_sem,γ,δ,ε,ζ,η,θ,ι,κ,μ,ν,ξ,ο,ρ,σ,τ,υ,reduceIte,reduceCtorEq])
  have g1:F2 1=some (.int .i64 E.vols):=hF2 1 _ (by unfold uB; simp only[go_sem,γ,δ,ε,ζ,η,θ,ι,κ,μ,ν,ξ,ο,ρ,σ,τ,υ,reduceIte,reduceCtorEq])
  have g4:F2 4=some (.ptr E.o4 7 0 0):=hF2 4 _ (by unfold uB; simp only[go_sem,γ,δ,ε,ζ,η,θ,ι,κ,μ,ν,ξ,ο,ρ,σ,τ,υ,reduceIte,reduceCtorEq])
  have g5:F2 5=some (.ptr E.o5 7 0 0):=hF2 5 _ (by unfold uB; simp only[go_sem,γ,δ,ε,ζ,η,θ,ι,κ,μ,ν,ξ,ο,ρ,σ,τ,υ,reduceIte,reduceCtorEq])
  have g14:F2 14=some (.int .i64 (t+1:Nat)):=hF2 14 _ (by unfold uB; simp only[go_sem,γ,δ,ε,ζ,η,θ,ι,κ,μ,ν,ξ,ο,ρ,σ,τ,υ,reduceIte,reduceCtorEq])
  have g17:F2 17=some (.ptr q 17 0 0):=hF2 17 _ (by unfold uB; simp only[go_sem,γ,δ,ε,ζ,η,θ,ι,κ,μ,ν,ξ,ο,ρ,σ,τ,υ,reduceIte,reduceCtorEq])
  obtain⟨o,hw⟩:=(h2.own 3 rfl).one (by rw[MY,bNB]; omega)
  rw[MY,bNB] at hw
  subst hw
  have bq:=h2.at 0 rfl
  have b5:=h2.at 1 rfl
  have h17:(1:Nat)*17≤16777216:=by decide
  have e1:IntKind.i64.wrap (((t+1:Nat):Int)-1)=((t:Nat):Int):=by rw[wrap_i64 Om Om]; omega
  simp only[go_sem,γ,δ,ε,ζ,η,θ,ι,κ,μ,ν,ξ,ο,ρ,σ,τ,υ,reduceIte,reduceCtorEq,abP,g5,g17,bq,b5,h17]
  refine h2.append (v:=wp) (s:=17) (rows:=lH done) 2 (src:=[mH P (.osl o 3 0 (max (nxM l 3 (a+1)) 1))]) rfl Sq (by unfold roomFor; rw[bJO,hdl]; simp only[bKC,maxLen]; omega) fun wp' H3 h3 hw=>?_
  obtain⟨z,rfl⟩:=hw (by simp)
  have b3:=h3.at 1 rfl
  simp only[go_sem,γ,δ,ε,ζ,η,θ,ι,κ,μ,ν,ξ,ο,ρ,σ,τ,υ,reduceIte,reduceCtorEq,g5,b3,bKE,bLC,or_false,forall_eq]
  have h4:=h3.set 1 rfl (flB (.int .i64 x0) w1 w2 wd wr (.osl z 17 0 (lH done++[mH P (.osl o 3 0 (max (nxM l 3 (a+1)) 1))]).length) .aB)
  simp only[go_sem,γ,δ,ε,ζ,η,θ,ι,κ,μ,ν,ξ,ο,ρ,σ,τ,υ,reduceIte,reduceCtorEq,abQ,g14,e1]
  generalize hwp:(PV.osl z 17 0 (lH done++[mH P (.osl o 3 0 (max (nxM l 3 (a+1)) 1))]).length)=wp' at *
  obtain⟨rs,z1,z2,z3,z4,z5⟩:=h4.frz 3 rfl
  have y1:=z4 0 _ (by decide) rfl
  have y2:=z4 1 _ (by decide) rfl
  have y3:=z4 2 _ (by decide) rfl
  simp only at y1 y2 y3
  have y4:=uU o1 o 3 rs
  have y5:=uU o2 o 3 rs
  refine aqO (t,done++[P],wp',(H3.set E.o5 (flB (.int .i64 x0) w1 w2 wd wr wp' .aB)).frz o 3 rs) z1 ⟨by omega,by simp only[bJW,bKC,hdl]; omega,by simp only; rw[ha6]; exact hE2,?_⟩ (by simp only; omega) ?_ PH.le_refl
  ·simp only
   rw[ha6]
   have eB:(E.boxes l (.int .i64 x0) w1 w2 wd wr wp' .aB (a+6)).map (fun b=>(b.1,b.2.frz o 3 rs))=E.boxes l (.int .i64 x0) w1 w2 wd wr wp' .aB (a+6):=by
    show [(E.o5,cT.rows 7 [[.int .i64 x0,PV.dE o 3 rs w1,PV.dE o 3 rs w2,PV.dE o 3 rs wd,PV.dE o 3 rs wr,PV.dE o 3 rs wp',.aB]]),(E.o,bJ l (a+6)),(E.o4,flZ)]=_
    rw[y1,y2,y3,y4,y5]
   have e5:(lH done++[mH P (.osl o 3 0 (max (nxM l 3 (a+1)) 1))]).map (fun r=>r.map (PV.dE o 3 rs))=lH (done++[P]):=by
    rw[bLK,aWE]
    have:([mH P (.osl o 3 0 (max (nxM l 3 (a+1)) 1))]:List (List PV)).map (fun r=>r.map (PV.dE o 3 rs))=[P.cells]:=by
     show [[PV.str P.name,.int .i64 P.k,.int .i64 P.m,.int .i64 P.bIO,.int .i64 P.s0,.int .i64 P.s1,.int .i64 P.s2,.int .i64 P.s3,.int .i64 P.s4,ints P.bHL,PV.dE o 3 rs (.osl o 3 0 (max (nxM l 3 (a+1)) 1)),.bool P.target.neg,aF P.target.num,aF P.target.den,.bool P.bHW.neg,aF P.bHW.num,aF P.bHW.den]]=_
     rw[z2]
     unfold dB.cells
     rw[hPr]
    rw[this]
    simp[lH]
   have eL:([(wd,7,dL dm),(wr,3,eD dv),(wp',17,lH done++[mH P (.osl o 3 0 (max (nxM l 3 (a+1)) 1))])]:List LI).map (fun x=>(x.1,x.2.1,x.2.2.map fun r=>r.map (PV.dE o 3 rs)))=[(wd,7,dL dm),(wr,3,eD dv),(wp',17,lH (done++[P]))]:=by
    show [(wd,7,(dL dm).map _),(wr,3,(eD dv).map _),(wp',17,(lH done++[mH P (.osl o 3 0 (max (nxM l 3 (a+1)) 1))]).map _)]=_
    rw[aRP,aRR,e5]
   rw[← eB,← eL]
   exact z5.sub (List.sublist_cons_self ..) (bLU.refl _)
  ·(repeat' (first|exact PF.nil_le|refine PF.aI ?_ ?_))<;>first|(simp only[go_sem,γ,δ,ε,ζ,η,θ,ι,κ,μ,ν,ξ,ο,ρ,σ,τ,υ,reduceIte,reduceCtorEq,g0,g1,g4,g5]<;>rfl)|rfl
def a2A (E:ME) (t:Nat):PF:=((((PF.nil.set 0 (.ptr E.o 2 0 0)).set 4 (.ptr E.o4 7 0 0)).set 5 (.ptr E.o5 7 0 0)).set 19 (.int .i64 t))
def a1Y (E:ME):PF:=(((PF.nil.set 0 (.ptr E.o 2 0 0)).set 4 (.ptr E.o4 7 0 0)).set 5 (.ptr E.o5 7 0 0))
theorem bfD {C:Ctx} (Lb:oU C) {l:List Int} (T:TpM l) (E:ME) (n a0:Nat) (hn:n≤90) (ha:a0≤10000) (ext w1 w2 wd wr wp:PV) (ps:List dB) (hps:ps.length≤1000) (dm:List bR) (dv:List cG) (K:cQ) (F:PF) (H:PH)
  (hF:(a2A E n).le F) (hH:aR H (E.boxes l ext w1 w2 wd wr wp .aB a0) [(wd,7,dL dm),(wr,3,eD dv),(wp,17,lH ps)])
  (hK:∀ wv F' H',(a1Y E).le F'→aR H' (E.boxes l ext w1 w2 wd wr wp wv (a0+n)) [(wd,7,dL dm),(wr,3,eD dv),(wp,17,lH ps),(wv,2,pC (kV l ps.length n a0))]→K (.exit 8) F' H') :
  aC.wp C (.loop EX) K F H:=by
 refine wp_loop (α:=Nat × List eG × PV × PH) (fun s=>a2A E s.1) (fun s=>s.2.2.2)
  (fun s=>s.1≤n∧s.2.1.length=n-s.1∧s.2.1++kV l ps.length s.1 (a0+(n-s.1))=kV l ps.length n a0∧aR s.2.2.2 (E.boxes l ext w1 w2 wd wr wp s.2.2.1 (a0+(n-s.1))) [(wd,7,dL dm),(wr,3,eD dv),(wp,17,lH ps),(s.2.2.1,2,pC s.2.1)]) (fun s=>s.1) (n,[],.aB,H)
  ⟨bJQ _,by simp,by simp,by simp only[bMF,bLH]; exact hH.nI 2⟩ hF PH.le_refl ?_
 rintro⟨t,done,wv,H0⟩ ⟨ht,hdl,hE,hH⟩
 simp only at ht hdl hE hH ⊢
 simp only[go_sem,γ,δ,ε,ζ,η,θ,ι,κ,μ,ν,ξ,ο,ρ,σ,τ,υ,reduceIte,reduceCtorEq,EX,abS,a2A]
 cases t with
 | zero =>
  have hc:¬ (((0:Nat):Int)>0):=by omega
  have e:done=kV l ps.length n a0:=by rw[← hE,kV,bLM]
  rw[Nat.sub_zero,e] at hH
  simp only[go_sem,γ,δ,ε,ζ,η,θ,ι,κ,μ,ν,ξ,ο,ρ,σ,τ,υ,reduceIte,reduceCtorEq,hc]
  refine hK wv _ _ ?_ hH
  unfold a1Y
  exact Lq
 | succ t =>
  have hc:(((t+1:Nat):Int)>0):=by omega
  obtain⟨a,hae⟩:∃ a,a=a0+(n-(t+1)):=⟨_,rfl⟩
  have ha6:a0+(n-t)=a+1:=by omega
  rw[← hae] at hE hH
  have b5:=hH.at 0 rfl
  have lw:=(hH.own 2 rfl).uE
  rw[bJO] at lw
  have h1:=hH.set 1 rfl (bJ l (a+1))
  have b1:=h1.at 0 rfl
  have e1:IntKind.i64.wrap (((t+1:Nat):Int)-1)=((t:Nat):Int):=by rw[wrap_i64 Om Om]; omega
  have h12:(1:Nat)*2≤16777216:=by decide
  simp only[go_sem,γ,δ,ε,ζ,η,θ,ι,κ,μ,ν,ξ,ο,ρ,σ,τ,υ,reduceIte,reduceCtorEq,hc]
  refine bP (PH.nil.set E.o5 (flB ext w1 w2 wd wr wp wv)) (mdS l) (PH.aI PH.nil_le b5) ?_
  simp only[go_sem,γ,δ,ε,ζ,η,θ,ι,κ,μ,ν,ξ,ο,ρ,σ,τ,υ,reduceIte,reduceCtorEq,abT,b5]
  refine MC Lb (c:=118) (n:=t+1) Om (by simp only[go_sem,γ,δ,ε,ζ,η,θ,ι,κ,μ,ν,ξ,ο,ρ,σ,τ,υ,reduceIte,reduceCtorEq]; rfl) (PH.aI PH.nil_le b5) ?_
  simp only[go_sem,γ,δ,ε,ζ,η,θ,ι,κ,μ,ν,ξ,ο,ρ,σ,τ,υ,reduceIte,reduceCtorEq,b5,lw]
  refine a7P Lb.toEI T (o:=E.o) (n:=ps.length) (a:=a) Om Om Sq (hH.at 1 rfl) (PH.aI PH.nil_le b1) ?_
  simp only[go_sem,γ,δ,ε,ζ,η,θ,ι,κ,μ,ν,ξ,ο,ρ,σ,τ,υ,reduceIte,reduceCtorEq,h12]
  refine h1.append (v:=wv) (s:=2) (rows:=pC done) 3 (src:=[(⟨dO 118 (t+1),(nxM l ps.length a:Nat)⟩:eG).cells]) rfl Sq (by unfold roomFor; rw[bJO,hdl]; simp only[bKC,maxLen]; omega) fun w' H2 h5 hw=>?_
  obtain⟨z,rfl⟩:=hw (by simp)
  have b2:=h5.at 0 rfl
  refine⟨PH.aI PH.nil_le b2,?_⟩
  refine bP .nil dX PH.nil_le ?_
  simp only[go_sem,γ,δ,ε,ζ,η,θ,ι,κ,μ,ν,ξ,ο,ρ,σ,τ,υ,reduceIte,reduceCtorEq,abU,b2,bKE,bLC,or_false,forall_eq]
  have h6:=h5.set 0 rfl (flB ext w1 w2 wd wr wp (.osl z 2 0 (pC done++[(⟨dO 118 (t+1),(nxM l ps.length a:Nat)⟩:eG).cells]).length))
  refine⟨PH.nil_le,?_⟩
  simp only[go_sem,γ,δ,ε,ζ,η,θ,ι,κ,μ,ν,ξ,ο,ρ,σ,τ,υ,reduceIte,reduceCtorEq,abV,e1]
  refine aG (t,done++[⟨dO 118 (t+1),(nxM l ps.length a:Nat)⟩],.osl z 2 0 (pC done++[(⟨dO 118 (t+1),(nxM l ps.length a:Nat)⟩:eG).cells]).length,_) ⟨by omega,by simp only[bJW,bKC,hdl]; omega,?_,?_⟩ (by simp only; omega) ?_ PH.le_refl
  ·simp only
   rw[ha6,← hE,kV,bKP]
   rfl
  ·simp only
   rw[ha6]
   have e:pC (done++[⟨dO 118 (t+1),(nxM l ps.length a:Nat)⟩])=pC done++[(⟨dO 118 (t+1),(nxM l ps.length a:Nat)⟩:eG).cells]:=by simp[pC]
   rw[e]
   exact h6
  ·exact Lq
def aQZ (l:List Int) (o vols a:Nat) (r:PV) (H:PH):Prop:=Co r (.agg (dH l vols a).1.cells)∧H=PH.nil.set o (bJ l (dH l vols a).2)
theorem a7R {C:Ctx} (Lb:CQ C) {l:List Int} (T:TpM l) (o vols a:Nat) (hv:vols≤50) (ha:a≤1000) :
  zU.wp C (aU MF.res (aQZ l o vols a)) (PF.args [.ptr o 2 0 0,.int .i64 vols]) (PH.nil.set o (bJ l a)):=by
 have hR:∀ r H,aQZ l o vols a r H↔Co r (.agg (dH l vols a).1.cells)∧H=PH.nil.set o (bJ l (dH l vols a).2):=fun _ _=>Iff.rfl
 have hT:dH l vols a=dH l vols a:=rfl
 conv at hT=>rhs; unfold dH
 dsimp only at hT
 have n1:=cO l (show 0<2 by decide) a
 have n2:=cO l (show 0<100 by decide) (a+1)
 have n3:=cO l (show 0<2 by decide) (a+2)
 have n4:=cO l (show 0<9 by decide) (a+3)
 have n5:=cO l (show 0<3 by decide) (a+4)
 have n6:=cO l (show 0<9 by decide) (a+5)
 have n7:=cO l (show 0<3 by decide) (a+6)
 have e1:IntKind.i64.wrap (1+((nxM l 2 a:Nat):Int))=((1+nxM l 2 a:Nat):Int):=gW (a:=1) Om
 have e2:IntKind.i64.wrap (100+((nxM l 100 (a+1):Nat):Int))=((100+nxM l 100 (a+1):Nat):Int):=gW (a:=100) Om
 have e3:IntKind.i64.wrap (3+((nxM l 2 (a+2):Nat):Int))=((3+nxM l 2 (a+2):Nat):Int):=gW (a:=3) Om
 have e4:IntKind.i64.wrap (8+((nxM l 9 (a+3):Nat):Int))=((8+nxM l 9 (a+3):Nat):Int):=gW (a:=8) Om
 have e5:IntKind.i64.wrap (1+((nxM l 3 (a+4):Nat):Int))=((1+nxM l 3 (a+4):Nat):Int):=gW (a:=1) Om
 have e6:IntKind.i64.wrap (4+((nxM l 9 (a+5):Nat):Int))=((4+nxM l 9 (a+5):Nat):Int):=gW (a:=4) Om
 have e7:IntKind.i64.wrap (3+((nxM l 3 (a+6):Nat):Int))=((3+nxM l 3 (a+6):Nat):Int):=gW (a:=3) Om
 have hM:=pA l (aeF (a+7)) (3+nxM l 3 (a+6)) Om
 have h0:aR (PH.nil.set o (bJ l a)) [(o,bJ l a)] []:=aR.nil.new (H:=PH.nil) rfl (bJ l a)
 have h13:(1:Nat)*3≤16777216:=by decide
 have h11:(1:Nat)*1≤16777216:=by decide
 have h14:(1:Nat)*4≤16777216:=by decide
 have h24:(2:Nat)*4≤16777216:=by decide
 have h17:(1:Nat)*7≤16777216:=by decide
 simp only[go_sem,γ,δ,ε,ζ,η,θ,ι,κ,μ,ν,ξ,ο,ρ,σ,τ,υ,reduceIte,reduceCtorEq,zU,aoO,MF]
 refine aQ fun o4 ho4=>?_
 have h1:=h0.new ho4 flZ
 simp only[go_sem,γ,δ,ε,ζ,η,θ,ι,κ,μ,ν,ξ,ο,ρ,σ,τ,υ,reduceIte,reduceCtorEq,aoP]
 refine cH Lb.toEI T (o:=o) (n:=2) (a:=a) (by decide) Om rfl (h1.at 0 rfl) ?_
 have h2:=h1.set 0 rfl (bJ l (a+1))
 simp only[go_sem,γ,δ,ε,ζ,η,θ,ι,κ,μ,ν,ξ,ο,ρ,σ,τ,υ,reduceIte,reduceCtorEq,e1]
 refine aQ fun o5 ho5=>?_
 have h3:=h2.new ho5 (flB (.int .i64 (1+nxM l 2 a:Nat)) .aB .aB .aB .aB .aB .aB)
 have n05:¬ o=o5:=h3.ne 0 2 rfl rfl (by decide)
 have n50:¬ o5=o:=fun h=>n05 h.symm
 simp only[go_sem,γ,δ,ε,ζ,η,θ,ι,κ,μ,ν,ξ,ο,ρ,σ,τ,υ,reduceIte,reduceCtorEq,aoQ,bKE,bLC,or_false,forall_eq,forall_eq_or_imp]
 refine aA (Lb.frac 1 1 (by unfold cW; omega) (by unfold cW; omega) (by decide)) rfl ?_
 simp only[go_sem,γ,δ,ε,ζ,η,θ,ι,κ,μ,ν,ξ,ο,ρ,σ,τ,υ,reduceIte,reduceCtorEq,h13]
 refine aA (Lb.frac 0 1 (by unfold cW; omega) (by unfold cW; omega) (by decide)) rfl ?_
 simp only[go_sem,γ,δ,ε,ζ,η,θ,ι,κ,μ,ν,ξ,ο,ρ,σ,τ,υ,reduceIte,reduceCtorEq,h13,h11]
 refine cH Lb.toEI T (o:=o) (n:=100) (a:=a+1) (by decide) Om rfl (h3.at 0 rfl) ?_
 have h4:=h3.set 0 rfl (bJ l (a+2))
 simp only[go_sem,γ,δ,ε,ζ,η,θ,ι,κ,μ,ν,ξ,ο,ρ,σ,τ,υ,reduceIte,reduceCtorEq,e2]
 refine aA (Lb.frac 1 (100+nxM l 100 (a+1):Nat) (by unfold cW; omega) (by unfold cW; omega) Om) rfl ?_
 have h5:=h4.set 2 rfl (flB (.int .i64 (1+nxM l 2 a:Nat)) (.sl 4 (aFK [⟨[100,105,115,107],[mkT 1 1],[[mkT 0 1]],[mkT 1 ((100+nxM l 100 (a+1):Nat):Int)]⟩])) .aB .aB .aB .aB .aB)
 simp only[go_sem,γ,δ,ε,ζ,η,θ,ι,κ,μ,ν,ξ,ο,ρ,σ,τ,υ,reduceIte,reduceCtorEq,h13,h14,n05,n50,bKE,bLC,or_false,forall_eq,aoR]
 refine cH Lb.toEI T (o:=o) (n:=2) (a:=a+2) (by decide) Om rfl (h5.at 0 rfl) ?_
 have h6:=h5.set 0 rfl (bJ l (a+3))
 simp only[go_sem,γ,δ,ε,ζ,η,θ,ι,κ,μ,ν,ξ,ο,ρ,σ,τ,υ,reduceIte,reduceCtorEq,e3]
 refine cH Lb.toEI T (o:=o) (n:=9) (a:=a+3) (by decide) Om rfl (h6.at 0 rfl) ?_
 have h7:=h6.set 0 rfl (bJ l (a+4))
 rw[PH.set_set] at h7
 simp only[go_sem,γ,δ,ε,ζ,η,θ,ι,κ,μ,ν,ξ,ο,ρ,σ,τ,υ,reduceIte,reduceCtorEq,e4]
 refine cH Lb.toEI T (o:=o) (n:=3) (a:=a+4) (by decide) Om rfl (h7.at 0 rfl) ?_
 have h8:=h7.set 0 rfl (bJ l (a+5))
 rw[PH.set_set] at h8
 simp only[go_sem,γ,δ,ε,ζ,η,θ,ι,κ,μ,ν,ξ,ο,ρ,σ,τ,υ,reduceIte,reduceCtorEq,e5]
 refine cH Lb.toEI T (o:=o) (n:=9) (a:=a+5) (by decide) Om rfl (h8.at 0 rfl) ?_
 have h9:=h8.set 0 rfl (bJ l (a+6))
 rw[PH.set_set] at h9
 obtain⟨w1,hw1⟩:∃ w1,w1=PV.sl 4 (aFK [⟨[100,105,115,107],[mkT 1 1],[[mkT 0 1]],[mkT 1 ((100+nxM l 100 (a+1):Nat):Int)]⟩]):=⟨_,rfl⟩
 obtain⟨w2,hw2⟩:∃ w2,w2=PV.sl 4 (a9H [⟨[98,105,103],(3+nxM l 2 (a+2):Nat),(8+nxM l 9 (a+3):Nat),0⟩,⟨[111,108,100],(1+nxM l 3 (a+4):Nat),(4+nxM l 9 (a+5):Nat),0⟩]):=⟨_,rfl⟩
 have h10:=h9.set 2 rfl (flB (.int .i64 (1+nxM l 2 a:Nat)) w1 w2 .aB .aB .aB .aB)
 rw[hw1,hw2] at h10
 simp only[go_sem,γ,δ,ε,ζ,η,θ,ι,κ,μ,ν,ξ,ο,ρ,σ,τ,υ,reduceIte,reduceCtorEq,e6,h24,n05,n50,bKE,bLC,or_false,forall_eq,aoS]
 refine aA (Lb.frac 0 1 (by unfold cW; omega) (by unfold cW; omega) (by decide)) rfl ?_
 simp only[go_sem,γ,δ,ε,ζ,η,θ,ι,κ,μ,ν,ξ,ο,ρ,σ,τ,υ,reduceIte,reduceCtorEq,h17]
 refine aQ fun od hod=>?_
 have h11':=h10.aGX (s:=7) (rows:=dL [jE]) hod
 have n5d:¬ o5=od:=h11'.neL 2 0 rfl rfl rfl
 have nd5:¬ od=o5:=fun h=>n5d h.symm
 have h12:=h11'.set 2 rfl (flB (.int .i64 (1+nxM l 2 a:Nat)) w1 w2 (.osl od 7 0 1) .aB .aB .aB)
 rw[hw1,hw2] at h12
 simp only[go_sem,γ,δ,ε,ζ,η,θ,ι,κ,μ,ν,ξ,ο,ρ,σ,τ,υ,reduceIte,reduceCtorEq,n5d,nd5,bKE,bLC,or_false,forall_eq,aoT]
 refine cH Lb.toEI T (o:=o) (n:=3) (a:=a+6) (by decide) Om rfl (h12.at 0 rfl) ?_
 have h13':=h12.set 0 rfl (bJ l (a+7))
 simp only[go_sem,γ,δ,ε,ζ,η,θ,ι,κ,μ,ν,ξ,ο,ρ,σ,τ,υ,reduceIte,reduceCtorEq,e7,aoU,aoV]
 obtain⟨E,hE⟩:∃ E:ME,E=⟨o,o4,o5,vols⟩:=⟨_,rfl⟩
 have h14':=(h13'.nI 3).perm (B':=E.boxes l (.int .i64 (1+nxM l 2 a:Nat)) w1 w2 (.osl od 7 0 1) .aB .aB .aB (a+7)) (L':=[(.osl od 7 0 1,7,dL [jE]),(.aB,3,eD [])])
  (by rw[hE,hw1,hw2]; exact (List.Perm.cons _ (List.Perm.swap _ _ _)).trans (List.Perm.swap _ _ _)) (List.Perm.refl _)
 refine a7Q Lb T E (3+nxM l 3 (a+6)) (a+7) Om Om (.int .i64 (1+nxM l 2 a:Nat)) w1 w2 (.osl od 7 0 1) _ _ _ ?_ h14' ?_
 ·rw[hE]
  unfold eV
  exact Lq
 clear h14' h13' h12 h11' h10 h9 h8 h7 h6 h5 h4 h3 h2 h1 h0 ho4 ho5 hod
 intro wd wr F1 H1 hF1 h1
 have f0:F1 0=some (.ptr o 2 0 0):=hF1 0 _ (by rw[hE]; unfold uA; simp only[go_sem,γ,δ,ε,ζ,η,θ,ι,κ,μ,ν,ξ,ο,ρ,σ,τ,υ,reduceIte,reduceCtorEq])
 have f1:F1 1=some (.int .i64 vols):=hF1 1 _ (by rw[hE]; unfold uA; simp only[go_sem,γ,δ,ε,ζ,η,θ,ι,κ,μ,ν,ξ,ο,ρ,σ,τ,υ,reduceIte,reduceCtorEq])
 have f4:F1 4=some (.ptr o4 7 0 0):=hF1 4 _ (by rw[hE]; unfold uA; simp only[go_sem,γ,δ,ε,ζ,η,θ,ι,κ,μ,ν,ξ,ο,ρ,σ,τ,υ,reduceIte,reduceCtorEq])
 have f5:F1 5=some (.ptr o5 7 0 0):=hF1 5 _ (by rw[hE]; unfold uA; simp only[go_sem,γ,δ,ε,ζ,η,θ,ι,κ,μ,ν,ξ,ο,ρ,σ,τ,υ,reduceIte,reduceCtorEq])
 generalize eI l ⟨[jE],[],0,0,0,a+7⟩ (3+nxM l 3 (a+6))=s at *
 have sa:=hM.hi
 have n8:=cO l (show 0<2 by decide) s.a
 have e8:IntKind.i64.wrap (1+((nxM l 2 s.a:Nat):Int))=((1+nxM l 2 s.a:Nat):Int):=gW (a:=1) Om
 have q1:=h1.at 1 rfl
 rw[hE] at q1
 simp only[go_sem,γ,δ,ε,ζ,η,θ,ι,κ,μ,ν,ξ,ο,ρ,σ,τ,υ,reduceIte,reduceCtorEq,abI,f0]
 refine cH Lb.toEI T (o:=o) (n:=2) (a:=s.a) (by decide) Om rfl q1 ?_
 have h2:=h1.set 1 rfl (bJ l (s.a+1))
 simp only[go_sem,γ,δ,ε,ζ,η,θ,ι,κ,μ,ν,ξ,ο,ρ,σ,τ,υ,reduceIte,reduceCtorEq,e8]
 refine bfB Lb.tooU T E (1+nxM l 2 s.a) (s.a+1) Om Om _ w1 w2 wd wr (by rw[hw1]; rfl) (by rw[hw2]; rfl) _ _ _ _ _ ?_ (by rw[hE] at h2 ⊢; exact h2) ?_
 ·rw[hE]
  unfold a1Z
  exact Lq
 clear q1 h2 h1 f0 f1 f4 f5 hF1
 intro wp F2 H2 hF2 h1
 have f0:F2 0=some (.ptr o 2 0 0):=hF2 0 _ (by rw[hE]; unfold uA; simp only[go_sem,γ,δ,ε,ζ,η,θ,ι,κ,μ,ν,ξ,ο,ρ,σ,τ,υ,reduceIte,reduceCtorEq])
 have f1:F2 1=some (.int .i64 vols):=hF2 1 _ (by rw[hE]; unfold uA; simp only[go_sem,γ,δ,ε,ζ,η,θ,ι,κ,μ,ν,ξ,ο,ρ,σ,τ,υ,reduceIte,reduceCtorEq])
 have f4:F2 4=some (.ptr o4 7 0 0):=hF2 4 _ (by rw[hE]; unfold uA; simp only[go_sem,γ,δ,ε,ζ,η,θ,ι,κ,μ,ν,ξ,ο,ρ,σ,τ,υ,reduceIte,reduceCtorEq])
 have f5:F2 5=some (.ptr o5 7 0 0):=hF2 5 _ (by rw[hE]; unfold uA; simp only[go_sem,γ,δ,ε,ζ,η,θ,ι,κ,μ,ν,ξ,ο,ρ,σ,τ,υ,reduceIte,reduceCtorEq])
 obtain⟨b,hb⟩:∃ b,b=s.a+1+6*(1+nxM l 2 s.a):=⟨_,rfl⟩
 rw[← hb] at h1
 have n9:nxM l vols b≤vols:=by
  rcases bMO vols with e | e
  ·subst e; unfold nxM; simp
  ·exact Nat.le_of_lt (cO l e _)
 have e9:IntKind.i64.wrap (1+((nxM l vols b:Nat):Int))=((1+nxM l vols b:Nat):Int):=gW (a:=1) Om
 have q1:=h1.at 1 rfl
 rw[hE] at q1
 simp only[go_sem,γ,δ,ε,ζ,η,θ,ι,κ,μ,ν,ξ,ο,ρ,σ,τ,υ,reduceIte,reduceCtorEq,abR,f0,f1]
 refine cH Lb.toEI T (o:=o) (n:=vols) (a:=b) Om Om rfl q1 ?_
 have h2:=h1.set 1 rfl (bJ l (b+1))
 have hpl:=qB l (1+nxM l 2 s.a) (s.a+1)
 simp only[go_sem,γ,δ,ε,ζ,η,θ,ι,κ,μ,ν,ξ,ο,ρ,σ,τ,υ,reduceIte,reduceCtorEq,e9]
 refine bfD Lb.tooU T E (1+nxM l vols b) (b+1) Om Om _ w1 w2 wd wr wp _ (by rw[hpl]; omega) _ _ _ _ _ ?_ (by rw[hE] at h2 ⊢; exact h2) ?_
 ·rw[hE]
  unfold a2A
  exact Lq
 clear q1 h2 h1 f0 f1 f4 f5 hF2
 intro wv F3 H3 hF3 h1
 have f4:F3 4=some (.ptr o4 7 0 0):=hF3 4 _ (by rw[hE]; unfold a1Y; simp only[go_sem,γ,δ,ε,ζ,η,θ,ι,κ,μ,ν,ξ,ο,ρ,σ,τ,υ,reduceIte,reduceCtorEq])
 have f5:F3 5=some (.ptr o5 7 0 0):=hF3 5 _ (by rw[hE]; unfold a1Y; simp only[go_sem,γ,δ,ε,ζ,η,θ,ι,κ,μ,ν,ξ,ο,ρ,σ,τ,υ,reduceIte,reduceCtorEq])
 rw[hpl] at h1
 rw[hE] at h1
 have b5:=h1.at 0 rfl
 have b4:=h1.at 2 rfl
 have key:∀ {s:Nat} {v:PV} {rows:List (List PV)},bK H3 s v rows→PV.one v=true:=by
  rintro s v rows (⟨_,rfl⟩ | ⟨q,rs,rfl,_⟩)<;>rfl
 have k1:=key (h1.own 0 rfl)
 have k2:=key (h1.own 1 rfl)
 have k3:=key (h1.own 2 rfl)
 have k4:=key (h1.own 3 rfl)
 have k5:PV.one w1=true:=by rw[hw1]; rfl
 have k6:PV.one w2=true:=by rw[hw2]; rfl
 simp only[PV.one] at k1 k2 k3 k4 k5 k6
 simp only[go_sem,γ,δ,ε,ζ,η,θ,ι,κ,μ,ν,ξ,ο,ρ,σ,τ,υ,reduceIte,reduceCtorEq,abW,f4,f5,b5,b4,bKE,bLC,or_false,forall_eq,forall_eq_or_imp,k1,k2,k3,k4,k5,k6]
 have h2:=h1.set 2 rfl (flB (.int .i64 (1+nxM l 2 a:Nat)) w1 w2 wd wr wp wv)
 have h3:=h2.sub (B':=[(o,bJ l (b+1+(1+nxM l vols b)))]) (bLU.cons _ (bLU.cons_cons _ (List.nil_sublist _))) (bLU.refl _)
 obtain⟨φ,H6,z1,z2,z3,z4⟩:=aR.giveUp _ h3 (fun x hx=>by
  simp only[bKE,bLC,or_false] at hx
  rcases hx with rfl | rfl | rfl | rfl
  ·exact aRP _
  ·exact aRR _
  ·exact aWE _
  ·exact bpZ _) (fun b hb q s rs=>by
  simp only[bKE,bLC,or_false] at hb
  subst hb
  rfl)
 refine anF (vs:=[.agg [.int .i64 (1+nxM l 2 a:Nat),w1,w2,wd,wr,wp,wv]]) (.inr rfl) (by simp only[go_sem,γ,δ,ε,ζ,η,θ,ι,κ,μ,ν,ξ,ο,ρ,σ,τ,υ,reduceIte,reduceCtorEq,f4]) (z4 _ _ (.done (H2:=PH.nil.set o (bJ l (b+1+(1+nxM l vols b)))) ?_ (PH.aI PH.nil_le (z3.at 0 rfl))))
 have hb2:s.a+2+6*(1+nxM l 2 s.a)=b+1:=by omega
 rw[hb2,← hb] at hT
 rw[hR,hT]
 refine⟨CoL.agg ?_,rfl⟩
 have s1:=z1 (wd,7,dL s.bHV) (by simp)
 have s2:=z1 (wr,3,eD s.bIJ) (by simp)
 have s3:=z1 (wp,17,lH (iR l (1+nxM l 2 s.a) (s.a+1))) (by simp)
 have s4:=z1 (wv,2,pC (kV l (1+nxM l 2 s.a) (1+nxM l vols b) (b+1))) (by simp)
 have s0:φ (.int .i64 (1+nxM l 2 a:Nat))=.int .i64 (1+nxM l 2 a:Nat):=z2 _ rfl
 have s5:φ w1=w1:=z2 _ (by rw[hw1]; rfl)
 have s6:φ w2=w2:=z2 _ (by rw[hw2]; rfl)
 show CoL [φ (.int .i64 (1+nxM l 2 a:Nat)),φ w1,φ w2,φ wd,φ wr,φ wp,φ wv] _
 rw[s0,s5,s6,hw1,hw2]
 exact CoL.cons (.refl _) (CoL.cons (.refl _) (CoL.cons (.refl _) (CoL.cons s1.co (CoL.cons s2.co (CoL.cons s3.co (CoL.cons s4.co .nil))))))
structure bqU (x:RF):Prop where
 lim:cJ x=true
 ok:x.Ok
theorem SmF.o {x:RF} {a b:Nat} (h:SmF x a b):bqU x:=⟨h.lim,h.ok⟩
theorem ZU:SmF oR 0 1:=SmF.mk' (a:=0) (b:=1) (by decide) (by decide) (by decide)
theorem aKN {α:Type} {P:Nat→α→Prop} {xs:List α} {x:α} (h:∀ i (hi:i<xs.length),P i xs[i]) (hx:P xs.length x):∀ i (hi:i<(xs++[x]).length),P i (xs++[x])[i]:=by
 intro i hi
 by_cases hlt:i<xs.length
 ·rw[List.getElem_append_left hlt]; exact h i hlt
 ·rw[bJW,bKC] at hi
  have:i=xs.length:=by omega
  subst this
  rw[List.getElem_append_right Om]
  simpa using hx
theorem aRB {α:Type} {p:α→Bool} {l:List α} (h:∀ i (hi:i<l.length),p l[i]=true):l.all p=true:=by
 rw[bKK]
 intro x hx
 obtain⟨i,hi,rfl⟩:=bLV hx
 exact h i hi
theorem eN {n lo hi:Int} (h1:lo≤n) (h2:n≤hi):within n lo hi=true:=within_iff.2 ⟨h1,h2⟩
abbrev lvs (ds:List bR):List Int:=ds.map bR.level
def bxR (ds:List bR) (i:Nat) (d:bR):Prop:=∃ lev p u:Nat,d.name=[aUG lev]++yS (i+1)∧d.level=lev∧1≤lev∧lev≤4∧d.parent=p∧p≤i∧(lvs ds)[p]?=some ((lev:Int)-1)∧d.bIK=u∧1≤u∧u≤16∧bqU d.bIC
def bxT (ds:List bR) (mc i:Nat) (d:cG):Prop:=∃ m c:Nat,d.name=[100]++yS i∧d.model=m∧m<mc∧d.machine=c∧(lvs ds)[c]?=some 4
structure GV (mc bHK:Nat) (s:GS):Prop where
 len:s.bHV.length≤35
 bIJ:s.bIJ.length≤bHK
 root:s.bHV[0]?=some jE
 dom:∀ i (hi:i+1<s.bHV.length),bxR s.bHV i s.bHV[i+1]
 drv:∀ i (hi:i<s.bIJ.length),bxT s.bHV mc i s.bIJ[i]
theorem GV.a {mc bHK:Nat} {s:GS} (h:GV mc bHK s) (x:Nat):GV mc bHK { s with a:=x }:=⟨h.len,h.bIJ,h.root,h.dom,h.drv⟩
theorem amI {ds:List bR} {p:Nat} {x:Int} {t:List bR} (h:(lvs ds)[p]?=some x):(lvs (ds++t))[p]?=some x:=by
 unfold lvs at *
 rw[bLK,bMH]
 ·exact h
 ·exact (bKY.1 h).1

def unM:List UInt8→Nat
 | [_,a,b]=>(a.toNat-97)*26+(b.toNat-97)
 | _=>0
theorem bkX:∀ k:Fin 100,fN (UInt8.ofNat (97+k.val/26%26)).toNat=true∧fN (UInt8.ofNat (97+k.val%26)).toNat=true∧unM (dO 0 k.val)=k.val:=by decide +kernel
theorem ZN (c:UInt8) {k:Nat} (hk:k<100):unM (dO c k)=k:=(bkX ⟨k,hk⟩).2.2
theorem YN {c:UInt8} (hc:eX c.toNat=true) {k:Nat} (hk:k<100):isName (dO c k)=true:=by
 obtain⟨h1,h2,-⟩:=bkX ⟨k,hk⟩
 simp only at h1 h2
 have hi:fN c.toNat=true:=by unfold fN; rw[hc]; rfl
 unfold dO isName
 simp only[bLG,bLZ,List.all_cons,List.all_nil,hc,hi,h1,h2]
 rfl
def bxS (ds:List bR) (i:Nat) (d:bR):Prop:=∃ lev p u:Nat,d.name=dO 110 (i+1)∧d.level=lev∧1≤lev∧lev≤4∧d.parent=p∧p≤i∧(lvs ds)[p]?=some ((lev:Int)-1)∧d.bIK=u∧1≤u∧u≤64∧d.bIC=oR
def WS (ds:List bR) (i:Nat) (d:cG):Prop:=∃ m c:Nat,d.name=dO 100 i∧d.model=m∧m<2∧d.machine=c∧(lvs ds)[c]?=some 4
structure DV (ds:List bR):Prop where
 root:ds[0]?=some jE
 dom:∀ i (hi:i+1<ds.length),bxS ds i ds[i+1]
theorem DV.new {ds:List bR} (h:DV ds) {level parent up:Nat} (h1:1≤level) (h4:level≤4) (hp:(lvs ds)[parent]?=some ((level:Int)-1)) (u1:1≤up) (u2:up≤64) :
  DV (dK ds level parent up)∧(lvs (dK ds level parent up))[ds.length]?=some (level:Int):=by
 have hpl:parent<ds.length:=by
  have:=(bKY.1 hp).1
  rwa [bJO] at this
 unfold dK
 refine⟨⟨by rw[bMH Om]; exact h.root,fun i hi=>?_⟩,?_⟩
 ·simp only[bJW,bKC] at hi
  by_cases hlt:i+1<ds.length
  ·rw[List.getElem_append_left hlt]
   obtain⟨lev,p,v,g1,g2,g3,g4,g5,g6,g7,g8⟩:=h.dom i hlt
   exact⟨lev,p,v,g1,g2,g3,g4,g5,g6,amI g7,g8⟩
  ·have:i+1=ds.length:=by omega
   rw[List.getElem_append_right Om]
   simp only[List.getElem_singleton]
   exact⟨level,parent,up,by rw[this],rfl,h1,h4,rfl,by omega,amI hp,rfl,u1,u2,rfl⟩
 ·unfold lvs
  rw[bLK,bLX (by rw[bJO]; exact bJQ _),bJO,bMF]
  rfl
theorem mC {ds:List bR} {a b c p:Nat} {x:Int} (h:(lvs ds)[p]?=some x):(lvs (dK ds a b c))[p]?=some x:=amI h
structure MV (k:Nat) (s:MS):Prop where
 dv:DV s.bHV
 drv:∀ i (hi:i<s.bIJ.length),WS s.bHV i s.bIJ[i]
 at_:0<k→(lvs s.bHV)[s.room]?=some 2∧(lvs s.bHV)[s.rack]?=some 3
theorem alL {ds ds':List bR} {rs:List cG} (h:∀ i (hi:i<rs.length),WS ds i rs[i]) (hk:∀ (p:Nat) (x:Int),(lvs ds)[p]?=some x→(lvs ds')[p]?=some x):∀ i (hi:i<rs.length),WS ds' i rs[i]:=fun i hi=>by
 obtain⟨m,c,h1,h2,h3,h4,h5⟩:=h i hi
 exact⟨m,c,h1,h2,h3,h4,hk _ _ h5⟩
theorem bhV (l:List Int) (i:Nat) {s:MS} (h:MV i s):MV 1 (eJ l i s):=by
 obtain⟨h1,h2,h3⟩:=h
 have key:∀ a,MV 1 ⟨dK (dK (dK s.bHV 1 0 (16+nxM l 17 a)) 2 s.bHV.length (16+nxM l 17 (a+1))) 3 (dK s.bHV 1 0 (16+nxM l 17 a)).length (8+nxM l 9 (a+2)),s.bIJ,s.bHV.length,(dK s.bHV 1 0 (16+nxM l 17 a)).length,(dK (dK s.bHV 1 0 (16+nxM l 17 a)) 2 s.bHV.length (16+nxM l 17 (a+1))).length,a+3⟩:=fun a=>by
  have n1:=cO l (show 0<17 by decide) a
  have n2:=cO l (show 0<17 by decide) (a+1)
  have n3:=cO l (show 0<9 by decide) (a+2)
  have r0:(lvs s.bHV)[0]?=some (((1:Nat):Int)-1):=by
   unfold lvs
   rw[bKS,h1.root]; rfl
  obtain⟨d1,e1⟩:=h1.new (level:=1) (parent:=0) (up:=16+nxM l 17 a) (by decide) (by decide) r0 Om Om
  obtain⟨d2,e2⟩:=d1.new (level:=2) (parent:=s.bHV.length) (up:=16+nxM l 17 (a+1)) (by decide) (by decide) e1 Om Om
  obtain⟨d3,e3⟩:=d2.new (level:=3) (parent:=(dK s.bHV 1 0 (16+nxM l 17 a)).length) (up:=8+nxM l 9 (a+2)) (by decide) (by decide) e2 Om Om
  exact⟨d3,alL h2 fun p x hx=>mC (mC (mC hx)),fun _=>⟨mC e2,e3⟩⟩
 unfold eJ
 simp only
 split
 ·exact key _
 ·rename_i hi
  obtain⟨g1,g2⟩:=h3 Om
  split
  ·exact key _
  ·split
   ·have n3:=cO l (show 0<9 by decide) (s.a+2)
    obtain⟨d3,e3⟩:=h1.new (level:=3) (parent:=s.room) (up:=8+nxM l 9 (s.a+2)) (by decide) (by decide) g1 Om Om
    exact⟨d3,alL h2 fun p x hx=>mC hx,fun _=>⟨mC g1,e3⟩⟩
   ·exact⟨h1,h2,fun _=>⟨g1,g2⟩⟩
theorem a7X (l:List Int) {ds:List bR} {m:Nat} (hm:(lvs ds)[m]?=some 4):∀ (k:Nat) (s:List cG × Nat),(∀ i (hi:i<s.1.length),WS ds i s.1[i])→∀ i (hi:i<(jB l m k s).1.length),WS ds i (jB l m k s).1[i]
 | 0,s,h=>h
 | k+1,s,h=>by
  rw[jB]
  split
  ·refine a7X l hm k _ (aKN (P:=fun i (x:cG)=>WS ds i x) h ⟨_,m,rfl,rfl,?_,rfl,hm⟩)
   split<;>decide
  ·exact h
theorem bnP (l:List Int) (i:Nat) {s:MS} (h:MV i s):MV (i+1) (yV l i s):=by
 obtain⟨h1,h2,h3⟩:=bhV l i h
 obtain⟨g1,g2⟩:=h3 (by decide)
 have n3:=cO l (show 0<9 by decide) (eJ l i s).a
 obtain⟨d3,e3⟩:=h1.new (level:=4) (parent:=(eJ l i s).rack) (up:=8+nxM l 9 (eJ l i s).a) (by decide) (by decide) g2 Om Om
 unfold yV
 simp only
 exact⟨d3,a7X l e3 _ _ (alL h2 fun p x hx=>mC hx),fun _=>⟨mC g1,mC g2⟩⟩
theorem aFM (l:List Int) (a:Nat):∀ k,MV k (eI l ⟨[jE],[],0,0,0,a⟩ k)
 | 0=>⟨⟨rfl,fun i hi=>absurd hi (by simp[eI])⟩,fun i hi=>absurd hi (by simp[eI]),fun h=>absurd h Om⟩
 | k+1=>bnP l k (aFM l a k)
theorem blR {ds:List bR} (h:DV ds) (hl:ds.length≤100) (f:aJ) (hf:f.bHN=ds):mV f=true:=by
 have hr:=h.root
 have hdom:=h.dom
 unfold mV
 rw[hf]
 cases hdm:ds with
 | nil=>rw[hdm] at hr; cases hr
 | cons r t =>
  rw[hdm] at hr
  have:r=jE:=by simpa using hr
  subst this
  show yI f jE t=true
  unfold yI
  simp only[bKM]
  refine⟨⟨⟨⟨⟨⟨rfl,rfl⟩,rfl⟩,rfl⟩,ZU.lim⟩,by rw[show jE.bIC=oR from rfl,ZU.zero]; rfl⟩,?_⟩
  rw[bKK]
  intro i hi
  rw[bKZ] at hi
  rw[bJZ hi]
  obtain⟨lev,p,u,h1,h2,h3,h4,h5,h6,h7,h8,h9,h10,h11⟩:=hdom i (by rw[hdm]; simp; omega)
  have e:ds[i+1]'(by rw[hdm]; simp; omega)=t[i]:=by simp[hdm]
  rw[e] at h1 h2 h5 h8 h11
  show FW f i t[i]=true
  unfold FW
  simp only[bKM]
  refine⟨⟨⟨⟨?_,?_⟩,?_⟩,?_⟩,by rw[h11]; exact ZU.lim⟩
  ·rw[h5]; exact eN Om Om
  ·rw[h5,h2,hf,bMT,bKH,h7,ajI Om Om]
   exact decide_eq_true rfl
  ·rw[h2]; exact eN Om Om
  ·rw[h8]; exact eN Om Om
theorem bfR {ds:List bR} {rs:List cG} (h:DV ds) (hr:∀ i (hi:i<rs.length),WS ds i rs[i]) (l1:ds.length≤90) (l2:rs.length≤90):distinct ((ds.drop 1).map bR.name++rs.map cG.name)=true:=by
 have hA:∀ i (hi:i<((ds.drop 1).map bR.name).length),((ds.drop 1).map bR.name)[i]=dO 110 (i+1):=by
  intro i hi
  rw[bJO,bLQ] at hi
  obtain⟨lev,p,u,h1,-⟩:=h.dom i Om
  rw[bLY,List.getElem_drop]
  simp only[Nat.add_comm 1 i]
  exact h1
 have hB:∀ i (hi:i<(rs.map cG.name).length),(rs.map cG.name)[i]=dO 100 i:=by
  intro i hi
  rw[bJO] at hi
  obtain⟨m,c,h1,-⟩:=hr i hi
  rw[bLY]; exact h1
 have lA:((ds.drop 1).map bR.name).length≤90:=by rw[bJO,bLQ]; omega
 have lB:(rs.map cG.name).length≤90:=by rw[bJO]; omega
 generalize (ds.drop 1).map bR.name=A at *
 generalize rs.map cG.name=B at *
 refine TW ?_ ?_
 ·intro x hx
  rcases bLB.1 hx with hx | hx
  ·obtain⟨i,hi,rfl⟩:=bLV hx
   rw[hA i hi]
   exact YN (by decide) Om
  ·obtain⟨i,hi,rfl⟩:=bLV hx
   rw[hB i hi]
   exact YN (by decide) Om
 ·rw[bMC]
  refine⟨OG (g:=fun s=>unM s-1) fun i hi=>?_,OG (g:=unM) fun i hi=>?_,fun x hx y hy e=>?_⟩
  ·rw[hA i hi,ZN _ Om]; omega
  ·rw[hB i hi]; exact ZN _ Om
  ·obtain⟨i,hi,rfl⟩:=bLV hx
   obtain⟨j,hj,rfl⟩:=bLV hy
   rw[hA i hi,hB j hj] at e
   exact absurd (List.cons.inj e).1 (by decide)
theorem aER:cJ (mkT 1 2)=true∧cB (mkT 1 2)=true:=by decide +kernel
theorem XP:cJ (mkT 1 1000)=true∧sF (mkT 1 1000)=true∧cJ (mkT 30 1)=true:=by decide +kernel
theorem bsE (l:List Int) (n a:Nat):jD 2 (oT l n a)=true:=by
 have n1:=cO l (show 0<2 by decide) a
 have n2:=cO l (show 0<3 by decide) (a+1)
 have n3:=cO l (Om:0<nxM l 3 (a+1)+1) (a+2)
 have n4:=cO l (show 0<4 by decide) (a+3)
 have n5:=cO l (show 0<3 by decide) (a+4)
 unfold oT jD HR yZ
 simp only[bKM,List.all_cons,List.all_nil,bLP]
 refine⟨⟨⟨⟨⟨⟨⟨⟨eN Om Om,eN Om Om⟩,decide_eq_true Om⟩,eN Om Om⟩,rfl⟩,eN Om Om,eN Om Om,eN Om Om,eN Om Om,eN Om Om⟩,?_⟩,⟨⟨⟨decide_eq_true (by rw[bNB]; omega),?_⟩,XP.1⟩,XP.2.1⟩,XP.2.2⟩,?_⟩
 ·split<;>rfl
 ·rw[bKK]
  intro x hx
  rw[List.eq_of_mem_replicate hx,aER.1,aER.2]
  rfl
 ·split<;>decide
theorem ZE (l:List Int):∀ n a i (hi:i<(iR l n a).length),(iR l n a)[i].name=dO 112 (n-i)∧jD 2 (iR l n a)[i]=true
 | 0,_,i,hi=>by cases hi
 | n+1,a,0,_=>⟨rfl,bsE l _ _⟩
 | n+1,a,i+1,hi=>by
  have:=ZE l n (a+6) i (by simpa [iR] using hi)
  simp only[iR,List.getElem_cons_succ]
  rw[show n+1-(i+1)=n-i by omega]
  exact this
theorem aOB (l:List Int) (p:Nat):∀ n a i (hi:i<(kV l p n a).length),(kV l p n a)[i].name=dO 118 (n-i)
 | 0,_,i,hi=>by cases hi
 | n+1,a,0,_=>rfl
 | n+1,a,i+1,hi=>by
  have:=aOB l p n (a+1) i (by simpa [kV] using hi)
  simp only[kV,List.getElem_cons_succ]
  rw[show n+1-(i+1)=n-i by omega]
  exact this
theorem LC {l:List (List UInt8)} {c:UInt8} (hc:eX c.toNat=true) (hn:l.length≤90) (h:∀ i (hi:i<l.length),l[i]=dO c (l.length-i)):distinct l=true:=by
 refine TW (fun x hx=>?_) (OG (g:=fun s=>l.length-unM s) fun i hi=>?_)
 ·obtain⟨i,hi,rfl⟩:=bLV hx
  rw[h i hi]; exact YN hc Om
 ·rw[h i hi,ZN _ Om]; omega
theorem brH:∀ x:Fin 100,kC ⟨[100,105,115,107],[mkT 1 1],[[mkT 0 1]],[mkT 1 ((100+x.val:Nat):Int)]⟩=true:=by decide +kernel
theorem wX (l:List Int) {bHM:Nat} (hv:bHM≤11) (a:Nat):dM (dH l bHM a).1=true:=by
 obtain⟨F,hvl,-,-⟩:=yL l (bHM:=bHM) Om a
 have n3:=cO l (show 0<3 by decide) (a+6)
 have hM:=pA l (aeF (a+7)) (3+nxM l 3 (a+6)) Om
 have hV:=aFM l (a+7) (3+nxM l 3 (a+6))
 have hd:=F.bHK
 have hvo:=F.vols
 have hp:=F.pols
 unfold dH at hd hvl hvo hp ⊢
 simp only at hd hvl hvo hp ⊢
 generalize eI l ⟨[jE],[],0,0,0,a+7⟩ (3+nxM l 3 (a+6))=s at *
 have e1:=cO l (show 0<2 by decide) a
 have e2:=cO l (show 0<2 by decide) (a+2)
 have e3:=cO l (show 0<9 by decide) (a+3)
 have e4:=cO l (show 0<3 by decide) (a+4)
 have e5:=cO l (show 0<9 by decide) (a+5)
 have e6:=cO l (show 0<100 by decide) (a+1)
 have hlen:=hM.len
 have e7:=cO l (show 0<2 by decide) s.a
 have hdv:=hM.dlen
 unfold dM
 rw[blR hV.dv Om _ rfl]
 simp only[bKM,bLP]
 refine⟨⟨?_,⟨⟨⟨⟨?_,?_⟩,?_⟩,?_⟩,?_⟩⟩,⟨⟨⟨(show distinct [[100,105,115,107]]=true by decide +kernel),(show distinct [[98,105,103],[111,108,100]]=true by decide +kernel)⟩,bfR hV.dv hV.drv Om Om⟩,?_⟩,?_⟩
 ·unfold lT
  simp only[bKM]
  exact⟨⟨⟨⟨⟨⟨eN Om Om,rfl⟩,rfl⟩,decide_eq_true Om⟩,decide_eq_true Om⟩,decide_eq_true Om⟩,decide_eq_true Om⟩
 ·simp only[List.all_cons,List.all_nil,bLP]
  exact brH ⟨_,e6⟩
 ·simp only[List.all_cons,List.all_nil,bLP,bKM,jI]
  exact⟨⟨⟨eN Om Om,eN Om Om⟩,rfl⟩,⟨eN Om Om,eN Om Om⟩,rfl⟩
 ·refine aRB fun i hi=>?_
  obtain⟨m,c,-,h2,h3,h4,h5⟩:=hV.drv i hi
  have hc:=(bKY.1 h5).1
  rw[bJO] at hc
  unfold gT
  simp only[bKM]
  rw[h2,h4,bMT,bKH,h5]
  exact⟨⟨eN Om (by simp only[bLG,bLZ]; omega),eN Om Om⟩,rfl⟩
 ·exact aRB fun i hi=>(ZE l _ _ i hi).2
 ·rw[bKK]
  intro x hx
  have:=hvo x hx
  exact eN this.1 (show x.bHY≤((iR l (1+nxM l 2 s.a) (s.a+1)).length:Int)-1 by omega)
 ·refine LC (c:=112) (by decide) (by rw[bJO]; omega) fun i hi=>?_
  have h1:=(ZE l _ _ i (by simpa using hi)).1
  rw[bLY,h1,bJO,qB]
 ·refine LC (c:=118) (by decide) (by rw[bJO]; omega) fun i hi=>?_
  have h1:=aOB l _ _ _ i (by simpa using hi)
  rw[bLY,h1,bJO,zM]


theorem CoL.a3V:CoL [] []:=⟨rfl,fun j p q h=>by simp at h⟩
theorem CoL.mU {p q:PV} {ps qs:List PV} (h:Co p q) (hs:CoL ps qs):CoL (p::ps) (q::qs):=by
 refine⟨by simp[hs.len],fun j x y a b=>?_⟩
 cases j with
 | zero =>
  simp only[List.getElem?_cons_zero,bMG.injEq] at a b
  subst a; subst b; exact h
 | succ j=>exact hs.at_ j x y (by simpa using a) (by simpa using b)
theorem aD.a4Y {C:Ctx} {name:Nat} {R:PV→PH→Prop} {x:PV} {s:Nat} (h:aD C name [x,.sl s []] .nil R):aD C name [x,.aB] .nil R :=
 h.args (.mU (.refl _) (.mU (.nil s) .a3V))
theorem aD.seen {C:Ctx} {name:Nat} {args:List PV} {H:PH} {v:PV} (h:aD C name args H (cA v)):aD C name args H (aE v) :=
 h.post fun r H' hr=>⟨v,hr.1,rfl,hr.2⟩
def DL:aJ:=⟨0,[],[],[],[],[],[]⟩
theorem a4C:DL.Ok:=⟨by decide,by decide,by decide,by decide,by decide,by decide,(fun _ h=>by cases h),(fun _ h=>by cases h),(fun _ h=>by cases h),(fun _ h=>by cases h),(fun _ h=>by cases h)⟩
theorem a4B:Co (.agg [.int .i64 0,.aB,.aB,.aB,.aB,.aB,.aB]) (.agg DL.cells):=by
 have:CoL [.int .i64 0,.aB,.aB,.aB,.aB,.aB,.aB] DL.cells :=
  .mU (.refl _) (.mU (.nil _) (.mU (.nil _) (.mU (.nil _) (.mU (.nil _) (.mU (.nil _) (.mU (.nil _) .a3V))))))
 exact .agg this.len this.at_
theorem biK {C:Ctx} (f:aJ) (hv:VF f) (v:Nat) (h:v<f.bHM.length) :
  IH.wp C (aU afO.res (cA (.int .i64 (fB f v)))) (PF.args [.agg f.cells,.int .i64 v]) .nil:=by
 obtain⟨hp,he⟩:=nM hv h
 have hpol:=hv.bHY _ (bJS hp)
 rw[he] at hpol
 have hw:IntKind.i64.wrap ((cY f v).k+(cY f v).m)=(cY f v).k+(cY f v).m:=wrap_i64 Om Om
 simp only[go_sem,γ,δ,ε,ζ,η,θ,ι,κ,μ,ν,ξ,ο,ρ,σ,τ,υ,reduceIte,reduceCtorEq,IH,aKH,afO]
 refine bP .nil dX PH.nil_le ?_
 simp only[go_sem,γ,δ,ε,ζ,η,θ,ι,κ,μ,ν,ξ,ο,ρ,σ,τ,υ,reduceIte,reduceCtorEq,aKI,rN h,hv.PK h,mP hp,he]
 refine aQ fun o ho=>?_
 simp only[go_sem,γ,δ,ε,ζ,η,θ,ι,κ,μ,ν,ξ,ο,ρ,σ,τ,υ,reduceIte,reduceCtorEq,aKJ,hw]
 refine⟨PH.nil_le,?_⟩
 exact lD (n:=(cY f v).k+(cY f v).m) Ev rfl
abbrev iiv (l:List Int):List (List PV):=l.map fun x=>[PV.int .i64 x]
abbrev oZ (l:List (List Int)):List (List PV):=l.map fun r=>[ints r]
theorem bnO (l:List (List Int)):Flat (oZ l):=rG fun r hr c hc=>by
 obtain⟨x,_,rfl⟩:=bKU.1 hr
 rw[bKV] at hc
 subst hc
 rfl
theorem exactly {C:Ctx} {name:Nat} {args:List PV} {H H2:PH} {v:PV} (h:aD C name args H (fun r H'=>Co r v∧H'=H2)):aD C name args H (fun r H'=>r=v∧H'=H2) :=
 h.post fun r H' hr=>⟨_,hr.1,rfl,hr.2⟩
structure tZ (f:aJ) (L:List (List Int)):Prop where
 len:L.length=f.bHM.length
 row:∀ v (h:v<L.length),((L[v].length:Nat):Int)=fB f v
 home:∀ r∈L,∀ x∈r,-1≤x∧x<f.bHK.length
theorem tZ.bvG {f:aJ} {L:List (List Int)} (h:tZ f L) (hV:VF f):∀ k,k≤L.length→(L.take k).flatten.length≤k*8:=by
 have hl:=h.len
 intro k
 induction k with
 | zero=>intro _; simp
 | succ k ih =>
  intro hk
  rw[MU L hk,bJW]
  have h1:=ih Om
  have h2:=h.row k hk
  obtain⟨hp,he⟩:=nM hV (Om:k<f.bHM.length)
  have hpol:=hV.bHY _ (bJS hp)
  rw[he] at hpol
  unfold fB at h2
  omega
theorem tZ.ok {f:aJ} (hV:VF f) {L:List (List Int)} (h:tZ f L):eT L:=by
 have hv:=hV.small.bHM
 have hl:=h.len
 have:=h.bvG hV L.length (bJQ _)
 rw[bKL] at this
 exact⟨by omega,by omega⟩

section
variable {H:PH} {B:List BX} {L:List LI}
end
theorem UG {p:Int→Bool}:∀ {l:List Int} {i:Nat},(∀ x∈l,p x=false)→eW p l i=none
 | [],_,_=>rfl
 | y::t,i,h=>by
  rw[eW,h y (by simp),if_neg (by decide)]
  exact UG fun x hx=>h x (by simp[hx])
theorem tZ.shape {f:aJ} {L:List (List Int)} (h:tZ f L) {v:Nat} (hv:v<L.length):lS f L v=none:=by
 have e:L.getD v []=L[v]:=by simp[bKH,hv]
 unfold lS
 rw[e,if_pos (h.row v hv),UG]
 ·rfl
 ·intro x hx
  have:=h.home _ (bJS hv) x hx
  simp[jG]
  omega
theorem apH (l:List Int) (m:Nat):∀ (k:Nat) (s:List cG × Nat),s.1.length≤(jB l m k s).1.length
 | 0,s=>bJQ _
 | k+1,s=>by
  rw[jB]
  split
  ·have:=apH l m k (s.1++[⟨dO 100 s.1.length,((if nxM l 4 s.2=0 then 1 else 0:Nat):Int),(m:Nat)⟩],s.2+1)
   simp only[bJW,bKC] at this
   omega
  ·exact bJQ _
theorem bfQ (l:List Int) (m k:Nat) (s:List cG × Nat):1≤(jB l m (k+1) s).1.length:=by
 rw[jB]
 split
 ·have:=apH l m k (s.1++[⟨dO 100 s.1.length,((if nxM l 4 s.2=0 then 1 else 0:Nat):Int),(m:Nat)⟩],s.2+1)
  simp only[bJW,bKC] at this
  omega
 ·omega
theorem a3M (l:List Int) (s:MS) (k:Nat):1≤(eI l s (k+1)).bIJ.length:=by
 rw[eI]
 unfold yV
 simp only
 rw[show 1+nxM l 2 ((eJ l k (eI l s k)).a+1)=nxM l 2 ((eJ l k (eI l s k)).a+1)+1 by omega]
 exact bfQ l _ _ _
theorem acR (l:List Int) (bHM a:Nat):1≤(dH l bHM a).1.bHK.length:=by
 unfold dH
 simp only
 rw[show 3+nxM l 3 (a+6)=(2+nxM l 3 (a+6))+1 by omega]
 exact a3M l _ _
theorem aBP (row:List Int) {n:Nat} (hn:0<n):∀ k d,d<n→pF row n k d<n
 | 0,d,h=>h
 | k+1,d,h=>by
  rw[pF]
  split
  ·exact aBP row hn k _ (bLE _ hn)
  ·exact h
theorem bgO (l:List Int) (row:List Int) {n:Nat} (hn:0<n) (a:Nat):-1≤(uV l row n a).1∧(uV l row n a).1<n:=by
 have:=aBP row hn n (nxM l n a) (cO l hn a)
 unfold uV
 simp only
 split
 ·simp only; omega
 ·split<;>simp only<;>omega
theorem aWU (l:List Int) {n:Nat} (hn:0<n) (a:Nat):∀ k,∀ x∈(jS l n a k).1,-1≤x∧x<n
 | 0,x,h=>by cases h
 | k+1,x,h=>by
  rw[jS] at h
  simp only[bLB,bKV] at h
  rcases h with h | rfl
  ·exact aWU l hn a k x h
  ·exact bgO l _ hn _
theorem aqJ (l:List Int) {f:aJ} (hf:FM f) (h0:1≤f.bHK.length) (a:Nat):∀ k,k≤f.bHM.length →
  (∀ v (h:v<(dA l f a k).1.length),(((dA l f a k).1[v].length:Nat):Int)=fB f v)∧∀ r∈(dA l f a k).1,∀ x∈r,-1≤x∧x<f.bHK.length
 | 0,_=>⟨fun v h=>absurd h (by simp[dA]),fun r h=>by cases h⟩
 | k+1,hk=>by
  obtain⟨h1,h2⟩:=aqJ l hf h0 a k Om
  obtain⟨k1,-,-,-⟩:=qY l hf a k Om
  have hfr:=hf.XH (v:=k) Om
  obtain⟨r1,-,-⟩:=DR l f.bHK.length (dA l f a k).2 (fB f k).toNat
  rw[dA]
  simp only
  refine⟨aKN (P:=fun v (r:List Int)=>((r.length:Nat):Int)=fB f v) h1 ?_,fun r hr=>?_⟩
  ·rw[k1,r1]; omega
  ·rw[bLB,bKV] at hr
   rcases hr with hr | rfl
   ·exact h2 r hr
   ·exact aWU l Om _ _
theorem a8X (l:List Int) (bHM a b:Nat) (hv:bHM≤1000):tZ (dH l bHM a).1 (dA l (dH l bHM a).1 b (dH l bHM a).1.bHM.length).1:=by
 have hF:=(yL l hv a).1
 obtain⟨h1,h2⟩:=aqJ l hF (acR l bHM a) b _ (bJQ _)
 obtain⟨k1,-,-,-⟩:=qY l hF b _ (bJQ _)
 exact⟨k1,h1,h2⟩
structure CR (C:Ctx):Prop extends EI C where
 size:∀ (f:aJ) (v:Nat),VF f→v<f.bHM.length→aD C 245 [.agg f.cells,.int .i64 v] .nil (aE (.int .i64 (fB f v)))
 has:∀ (l:List Int) (x:Int),l.length≤1000000000000000→aD C 247 [ints l,.int .i64 x] .nil (aE (.bool (l.contains x)))
theorem WH {C:Ctx} {F:PF} {H:PH} (Lb:CR C) {row:List Int} (bHX:row.length≤1000) {q n:Nat} (hn:n=row.length) {x:Int} {args:List aP} {d:Option Nat} {K:PF→PH→Prop} (hO:bK H 1 (.osl q 1 0 n) (iiv row)) (ha:aP.evs F args=some [.osl q 1 0 n,.int .i64 x])
  (hk:K (F.put d (.bool (row.contains x))) H):fW C 247 args [] d K F H:=by
 obtain⟨rs,h1,h2,h3,h4⟩:=hO.id rfl
 subst hn
 rw[bJO] at h3 h4
 refine CH (.bool _) ?_ h1 ha hk
 rw[bLR,oA h3,h4]
 exact Lb.has row x Om
def bfH (f:aJ) (o:Nat) (w:PV) (v:Nat):PF:=((((PF.nil.set 0 (.ptr o 2 0 0)).set 3 (.bH f.cells)).set 5 (w)).set 6 (.int .i64 v))
def gI (f:aJ) (o:Nat) (w:PV) (v q i:Nat):PF:=((((((PF.nil.set 0 (.ptr o 2 0 0)).set 3 (.bH f.cells)).set 5 (w)).set 6 (.int .i64 v)).set 7 (.osl q 1 0 i)).set 8 (.int .i64 i))
def a2D (f:aJ) (o:Nat) (w:PV) (v q i d j:Nat):PF:=((((((((PF.nil.set 0 (.ptr o 2 0 0)).set 3 (.bH f.cells)).set 5 (w)).set 6 (.int .i64 v)).set 7 (.osl q 1 0 i)).set 8 (.int .i64 i)).set 9 (.int .i64 d)).set 10 (.int .i64 j))
theorem bfI {C:Ctx} (Lb:CR C) (f:aJ) (hd0:1≤f.bHK.length) (hd:f.bHK.length≤1000) (o:Nat) (w:PV) (v q i d0:Nat) (row:List Int) (hi:i=row.length) (bHX:row.length≤1000) (hdl:d0<f.bHK.length) (K:cQ) (F:PF) (H:PH)
  (hF:(a2D f o w v q i d0 0).le F) (hO:bK H 1 (.osl q 1 0 i) (iiv row))
  (hK:∀ F',(gI f o w v q i).le F'→F' 9=some (.int .i64 (pF row f.bHK.length f.bHK.length d0:Nat))→K (.exit 4) F' H) :
  aC.wp C (.loop zV) K F H:=by
 refine wp_loop (α:=Nat × Nat) (fun s=>a2D f o w v q i s.2 s.1) (fun _=>H) (fun s=>s.1≤f.bHK.length∧s.2<f.bHK.length∧pF row f.bHK.length (f.bHK.length-s.1) s.2=pF row f.bHK.length f.bHK.length d0) (fun s=>f.bHK.length-s.1) (0,d0) ⟨bJY _,hdl,rfl⟩ hF PH.le_refl ?_
 rintro⟨j,d⟩ ⟨hj,hdd,hE⟩
 simp only at hj hdd hE ⊢
 simp only[go_sem,γ,δ,ε,ζ,η,θ,ι,κ,μ,ν,ξ,ο,ρ,σ,τ,υ,reduceIte,reduceCtorEq,zV,acH,a2D,bJO]
 by_cases hlt:j<f.bHK.length
 ·have bHR:(j:Int)<(f.bHK.length:Nat):=by omega
  simp only[go_sem,γ,δ,ε,ζ,η,θ,ι,κ,μ,ν,ξ,ο,ρ,σ,τ,υ,reduceIte,reduceCtorEq,bHR]
  refine WH Lb (x:=(d:Nat)) bHX hi hO rfl ?_
  obtain⟨k,hk⟩:∃ k,f.bHK.length-j=k+1:=⟨f.bHK.length-j-1,by omega⟩
  rw[hk,pF] at hE
  cases hc:row.contains ((d:Nat):Int) with
  | true =>
   rw[hc,if_pos rfl] at hE
   have hz:¬ ((f.bHK.length:Nat):Int)=0:=by omega
   have em:Int.tmod ((d+1:Nat):Int) (f.bHK.length:Nat)=(((d+1)%f.bHK.length:Nat):Int):=Int.ofNat_tmod _ _
   simp only[go_sem,γ,δ,ε,ζ,η,θ,ι,κ,μ,ν,ξ,ο,ρ,σ,τ,υ,reduceIte,reduceCtorEq,TY,bJO,wZz d,hz,em,TZ,wZz j]
   refine aG (j+1,(d+1)%f.bHK.length) ⟨hlt,bLE _ Om,?_⟩ (by simp only; omega) Lq PH.le_refl
   simp only
   rw[show f.bHK.length-(j+1)=k by omega]
   exact hE
  | false =>
   rw[hc,if_neg (by simp)] at hE
   simp only[go_sem,γ,δ,ε,ζ,η,θ,ι,κ,μ,ν,ξ,ο,ρ,σ,τ,υ,reduceIte,reduceCtorEq]
   refine hK _ ?_ ?_
   ·unfold gI
    exact Lq
   ·rw[← hE]; simp only[go_sem,γ,δ,ε,ζ,η,θ,ι,κ,μ,ν,ξ,ο,ρ,σ,τ,υ,reduceIte,reduceCtorEq]
 ·have bHR:¬ (j:Int)<(f.bHK.length:Nat):=by omega
  have hz:f.bHK.length-j=0:=by omega
  rw[hz,pF] at hE
  simp only[go_sem,γ,δ,ε,ζ,η,θ,ι,κ,μ,ν,ξ,ο,ρ,σ,τ,υ,reduceIte,reduceCtorEq,bHR]
  refine hK _ ?_ ?_
  ·unfold gI
   exact Lq
  ·rw[← hE]; simp only[go_sem,γ,δ,ε,ζ,η,θ,ι,κ,μ,ν,ξ,ο,ρ,σ,τ,υ,reduceIte,reduceCtorEq]
theorem blP {C:Ctx} (Lb:CR C) {l:List Int} (T:TpM l) (o:Nat) (f:aJ) (hV:VF f) (hd0:1≤f.bHK.length) (v:Nat) (hvl:v<f.bHM.length) (n:Nat) (hn:fB f v=n) (hn8:n≤8) (w:PV) (R:List (List PV)) (q0 a:Nat) (ha:a≤50000) (K:cQ) (F:PF) (H:PH)
  (hF:(gI f o w v q0 0).le F) (hH:aR H [(o,bJ l a)] [(w,1,R),(.osl q0 1 0 0,1,iiv [])])
  (hK:∀ q F' H',(gI f o w v q n).le F'→aR H' [(o,bJ l (jS l f.bHK.length a n).2)] [(w,1,R),(.osl q 1 0 n,1,iiv (jS l f.bHK.length a n).1)]→K (.exit 2) F' H') :
  aC.wp C (.loop zW) K F H:=by
 have hd24:=hV.small.bHK
 refine wp_loop (α:=Nat × Nat × PH) (fun s=>gI f o w v s.2.1 s.1) (fun s=>s.2.2) (fun s=>s.1≤n∧aR s.2.2 [(o,bJ l (jS l f.bHK.length a s.1).2)] [(w,1,R),(.osl s.2.1 1 0 s.1,1,iiv (jS l f.bHK.length a s.1).1)]) (fun s=>n-s.1) (0,q0,H) ⟨bJY _,hH⟩ hF PH.le_refl ?_
 rintro⟨i,q,H0⟩ ⟨hi,hH⟩
 simp only at hi hH ⊢
 obtain⟨k1,k2,k3⟩:=DR l f.bHK.length a i
 have bHS:jS l f.bHK.length a (i+1)=((jS l f.bHK.length a i).1++[(uV l (jS l f.bHK.length a i).1 f.bHK.length (jS l f.bHK.length a i).2).1],(uV l (jS l f.bHK.length a i).1 f.bHK.length (jS l f.bHK.length a i).2).2):=rfl
 generalize hs:jS l f.bHK.length a i=s at *
 have hsz:=Lb.size f v hV hvl
 rw[hn] at hsz
 simp only[go_sem,γ,δ,ε,ζ,η,θ,ι,κ,μ,ν,ξ,ο,ρ,σ,τ,υ,reduceIte,reduceCtorEq,zW,acE,gI]
 refine aA hsz rfl ?_
 by_cases hlt:i<n
 ·have bHR:(i:Int)<(n:Nat):=by omega
  have nd:=cO l (Om:0<f.bHK.length) s.2
  have h11:(1:Nat)*1≤16777216:=by decide
  simp only[go_sem,γ,δ,ε,ζ,η,θ,ι,κ,μ,ν,ξ,ο,ρ,σ,τ,υ,reduceIte,reduceCtorEq,bHR,acF,bJO]
  refine cH Lb.toEI T (o:=o) (n:=f.bHK.length) (a:=s.2) Om Om rfl (hH.at 0 rfl) ?_
  have h1:=hH.set 0 rfl (bJ l (s.2+1))
  simp only[go_sem,γ,δ,ε,ζ,η,θ,ι,κ,μ,ν,ξ,ο,ρ,σ,τ,υ,reduceIte,reduceCtorEq,acG]
  refine bfI Lb f hd0 Om o w v q i (nxM l f.bHK.length s.2) s.1 k1.symm Om nd _ _ _ (by unfold a2D; exact Lq) (h1.own 1 rfl) ?_
  intro F1 hF1 f9
  have f0:F1 0=some (.ptr o 2 0 0):=hF1 0 _ (by unfold gI; simp only[go_sem,γ,δ,ε,ζ,η,θ,ι,κ,μ,ν,ξ,ο,ρ,σ,τ,υ,reduceIte,reduceCtorEq])
  have f3:F1 3=some (.bH f.cells):=hF1 3 _ (by unfold gI; simp only[go_sem,γ,δ,ε,ζ,η,θ,ι,κ,μ,ν,ξ,ο,ρ,σ,τ,υ,reduceIte,reduceCtorEq])
  have f5:F1 5=some w:=hF1 5 _ (by unfold gI; simp only[go_sem,γ,δ,ε,ζ,η,θ,ι,κ,μ,ν,ξ,ο,ρ,σ,τ,υ,reduceIte,reduceCtorEq])
  have f6:F1 6=some (.int .i64 v):=hF1 6 _ (by unfold gI; simp only[go_sem,γ,δ,ε,ζ,η,θ,ι,κ,μ,ν,ξ,ο,ρ,σ,τ,υ,reduceIte,reduceCtorEq])
  have f7:F1 7=some (.osl q 1 0 i):=hF1 7 _ (by unfold gI; simp only[go_sem,γ,δ,ε,ζ,η,θ,ι,κ,μ,ν,ξ,ο,ρ,σ,τ,υ,reduceIte,reduceCtorEq])
  have f8:F1 8=some (.int .i64 i):=hF1 8 _ (by unfold gI; simp only[go_sem,γ,δ,ε,ζ,η,θ,ι,κ,μ,ν,ξ,ο,ρ,σ,τ,υ,reduceIte,reduceCtorEq])
  have hhome:uV l s.1 f.bHK.length s.2=if s.1.contains ((pF s.1 f.bHK.length f.bHK.length (nxM l f.bHK.length s.2):Nat):Int) then (-1,s.2+1) else if nxM l 12 (s.2+1)=0 then (-1,s.2+2) else (((pF s.1 f.bHK.length f.bHK.length (nxM l f.bHK.length s.2):Nat):Int),s.2+2):=rfl
  generalize pF s.1 f.bHK.length f.bHK.length (nxM l f.bHK.length s.2)=d at *
  have fin:∀ (x:Int) (b:Nat) (F':PF) (H':PH),uV l s.1 f.bHK.length s.2=(x,b)→(gI f o w v q i).le F'→F' 9=some (.int .i64 x)→aR H' [(o,bJ l b)] [(w,1,R),(.osl q 1 0 i,1,iiv s.1)] →
    aC.wp C (.region zY) (dW 3 (iV C (aC.wp C (.region zZ)) (eE (fun s:Nat × Nat × PH=>gI f o w v s.2.1 s.1) (fun s=>s.2.2) (fun s=>s.1≤n∧aR s.2.2 [(o,bJ l (jS l f.bHK.length a s.1).2)] [(w,1,R),(.osl s.2.1 1 0 s.1,1,iiv (jS l f.bHK.length a s.1).1)]) (fun s=>n-s.1) (n-i) K))) F' H':=by
   intro x b F' H' hx hF' g9 hH'
   have g0:F' 0=some (.ptr o 2 0 0):=hF' 0 _ (by unfold gI; simp only[go_sem,γ,δ,ε,ζ,η,θ,ι,κ,μ,ν,ξ,ο,ρ,σ,τ,υ,reduceIte,reduceCtorEq])
   have g3:F' 3=some (.bH f.cells):=hF' 3 _ (by unfold gI; simp only[go_sem,γ,δ,ε,ζ,η,θ,ι,κ,μ,ν,ξ,ο,ρ,σ,τ,υ,reduceIte,reduceCtorEq])
   have g5:F' 5=some w:=hF' 5 _ (by unfold gI; simp only[go_sem,γ,δ,ε,ζ,η,θ,ι,κ,μ,ν,ξ,ο,ρ,σ,τ,υ,reduceIte,reduceCtorEq])
   have g6:F' 6=some (.int .i64 v):=hF' 6 _ (by unfold gI; simp only[go_sem,γ,δ,ε,ζ,η,θ,ι,κ,μ,ν,ξ,ο,ρ,σ,τ,υ,reduceIte,reduceCtorEq])
   have g7:F' 7=some (.osl q 1 0 i):=hF' 7 _ (by unfold gI; simp only[go_sem,γ,δ,ε,ζ,η,θ,ι,κ,μ,ν,ξ,ο,ρ,σ,τ,υ,reduceIte,reduceCtorEq])
   have g8:F' 8=some (.int .i64 i):=hF' 8 _ (by unfold gI; simp only[go_sem,γ,δ,ε,ζ,η,θ,ι,κ,μ,ν,ξ,ο,ρ,σ,τ,υ,reduceIte,reduceCtorEq])
   simp only[go_sem,γ,δ,ε,ζ,η,θ,ι,κ,μ,ν,ξ,ο,ρ,σ,τ,υ,reduceIte,reduceCtorEq,zY,g7,g9,h11]
   refine hH'.append 1 (src:=[[.int .i64 x]]) rfl rfl (by unfold roomFor; rw[bJO,k1]; simp only[bKC,maxLen]; omega) fun w' H2 h5 hw=>?_
   obtain⟨z,rfl⟩:=hw (by simp)
   have e:iiv s.1++[[PV.int .i64 x]]=iiv (s.1++[x]):=by simp[iiv]
   have el:(iiv s.1++[[PV.int .i64 x]]).length=i+1:=by simp[k1]
   rw[el] at h5
   rw[el]
   simp only[go_sem,γ,δ,ε,ζ,η,θ,ι,κ,μ,ν,ξ,ο,ρ,σ,τ,υ,reduceIte,reduceCtorEq,zZ,g8,wZz i]
   refine aG (i+1,z,H2) ⟨hlt,?_⟩ (by simp only; omega) ?_ PH.le_refl
   ·simp only
    rw[bHS,hx,← e]
    exact h5
   ·unfold gI
    exact Lq
  simp only[aC.wp,go_sem] at fin
  simp only[go_sem,γ,δ,ε,ζ,η,θ,ι,κ,μ,ν,ξ,ο,ρ,σ,τ,υ,reduceIte,reduceCtorEq,UA,f7,f9]
  refine WH Lb (x:=(d:Nat)) Om k1.symm (h1.own 1 rfl) rfl ?_
  cases hc:s.1.contains ((d:Nat):Int) with
  | true =>
   rw[hc,if_pos rfl] at hhome
   simp only[go_sem,γ,δ,ε,ζ,η,θ,ι,κ,μ,ν,ξ,ο,ρ,σ,τ,υ,reduceIte,reduceCtorEq,zX]
   refine fin (-1) (s.2+1) _ _ hhome ?_ rfl h1
   unfold gI
   exact Lq
  | false =>
   rw[hc,if_neg (by simp)] at hhome
   simp only[go_sem,γ,δ,ε,ζ,η,θ,ι,κ,μ,ν,ξ,ο,ρ,σ,τ,υ,reduceIte,reduceCtorEq,f0]
   refine cH Lb.toEI T (o:=o) (n:=12) (a:=s.2+1) (by decide) Om rfl (h1.at 0 rfl) ?_
   have h2:=h1.set 0 rfl (bJ l (s.2+2))
   by_cases c:nxM l 12 (s.2+1)=0
   ·rw[if_pos c] at hhome
    simp only[go_sem,γ,δ,ε,ζ,η,θ,ι,κ,μ,ν,ξ,ο,ρ,σ,τ,υ,reduceIte,reduceCtorEq,bX (show ((nxM l 12 (s.2+1):Nat):Int)=0 by omega),zX]
    refine fin (-1) (s.2+2) _ _ hhome ?_ rfl (by rw[PH.set_set] at h2; exact h2)
    unfold gI
    exact Lq
   ·rw[if_neg c] at hhome
    simp only[go_sem,γ,δ,ε,ζ,η,θ,ι,κ,μ,ν,ξ,ο,ρ,σ,τ,υ,reduceIte,reduceCtorEq,bG (show ((nxM l 12 (s.2+1):Nat):Int)≠0 by omega)]
    refine fin d (s.2+2) _ _ hhome ?_ (by simp only[go_sem,γ,δ,ε,ζ,η,θ,ι,κ,μ,ν,ξ,ο,ρ,σ,τ,υ,reduceIte,reduceCtorEq,f9]) (by rw[PH.set_set] at h2; exact h2)
    unfold gI
    exact Lq
 ·have bHR:¬ (i:Int)<(n:Nat):=by omega
  have:i=n:=by omega
  subst this
  simp only[go_sem,γ,δ,ε,ζ,η,θ,ι,κ,μ,ν,ξ,ο,ρ,σ,τ,υ,reduceIte,reduceCtorEq,bHR]
  refine hK q _ _ ?_ (by rw[hs]; exact hH)
  unfold gI
  exact Lq

def bkF (l:List Int) (o a:Nat) (f:aJ) (r:PV) (H:PH):Prop:=Co r (lay (dA l f a f.bHM.length).1)∧H=PH.nil.set o (bJ l (dA l f a f.bHM.length).2)
theorem a2B {C:Ctx} (Lb:CR C) {l:List Int} (T:TpM l) (o a:Nat) (ha:a≤10000) (f:aJ) (hF:FM f) (hV:VF f) (hd0:1≤f.bHK.length) :
  wV.wp C (aU CY.res (bkF l o a f)) (PF.args [.ptr o 2 0 0,.agg f.cells]) (PH.nil.set o (bJ l a)):=by
 have hvl:=hV.small.bHM
 have h0:aR (PH.nil.set o (bJ l a)) [(o,bJ l a)] [(.aB,1,oZ [])]:=(aR.nil.new (H:=PH.nil) rfl (bJ l a)).nI 1
 have hR:∀ r H,bkF l o a f r H↔Co r (lay (dA l f a f.bHM.length).1)∧H=PH.nil.set o (bJ l (dA l f a f.bHM.length).2):=fun _ _=>Iff.rfl
 simp only[go_sem,γ,δ,ε,ζ,η,θ,ι,κ,μ,ν,ξ,ο,ρ,σ,τ,υ,reduceIte,reduceCtorEq,wV,abY,CY,abZ,acA]
 refine wp_loop (α:=Nat × PV × PH) (fun s=>bfH f o s.2.1 s.1) (fun s=>s.2.2) (fun s=>s.1≤f.bHM.length∧aR s.2.2 [(o,bJ l (dA l f a s.1).2)] [(s.2.1,1,oZ (dA l f a s.1).1)]) (fun s=>f.bHM.length-s.1) (0,.aB,_) ⟨bJY _,h0⟩ ?_ PH.le_refl ?_
 ·unfold bfH
  exact Lq
 rintro⟨i,w,H0⟩ ⟨hi,hH⟩
 simp only at hi hH ⊢
 obtain⟨k1,-,k3,k4⟩:=qY l hF a i hi
 simp only[go_sem,γ,δ,ε,ζ,η,θ,ι,κ,μ,ν,ξ,ο,ρ,σ,τ,υ,reduceIte,reduceCtorEq,TX,acB,bfH,bJO]
 by_cases hlt:i<f.bHM.length
 ·have bHR:(i:Int)<(f.bHM.length:Nat):=by omega
  have hfr:=hF.XH hlt
  obtain⟨n,hn⟩:∃ n:Nat,fB f i=n:=⟨(fB f i).toNat,by omega⟩
  have bHS:dA l f a (i+1)=((dA l f a i).1++[(jS l f.bHK.length (dA l f a i).2 (fB f i).toNat).1],(jS l f.bHK.length (dA l f a i).2 (fB f i).toNat).2):=rfl
  rw[hn,bMT] at bHS
  generalize hs:dA l f a i=s at *
  have h11:(1:Nat)*1≤16777216:=by decide
  have h01:(0:Nat)*1≤16777216:=by decide
  simp only[go_sem,γ,δ,ε,ζ,η,θ,ι,κ,μ,ν,ξ,ο,ρ,σ,τ,υ,reduceIte,reduceCtorEq,bHR,acC,h01]
  refine aQ fun q0 hq0=>?_
  have h1:=hH.aGX (s:=1) (rows:=iiv []) hq0
  obtain⟨r1,-,-⟩:=DR l f.bHK.length s.2 n
  simp only[go_sem,γ,δ,ε,ζ,η,θ,ι,κ,μ,ν,ξ,ο,ρ,σ,τ,υ,reduceIte,reduceCtorEq,acD]
  refine blP Lb T o f hV hd0 i hlt n hn Om w (oZ s.1) q0 s.2 Om _ _ _ (by unfold gI; exact Lq) h1 ?_
  intro q F1 H1 hF1 h2
  generalize bHX:jS l f.bHK.length s.2 n=row at *
  have f0:F1 0=some (.ptr o 2 0 0):=hF1 0 _ (by unfold gI; simp only[go_sem,γ,δ,ε,ζ,η,θ,ι,κ,μ,ν,ξ,ο,ρ,σ,τ,υ,reduceIte,reduceCtorEq])
  have f3:F1 3=some (.bH f.cells):=hF1 3 _ (by unfold gI; simp only[go_sem,γ,δ,ε,ζ,η,θ,ι,κ,μ,ν,ξ,ο,ρ,σ,τ,υ,reduceIte,reduceCtorEq])
  have f5:F1 5=some w:=hF1 5 _ (by unfold gI; simp only[go_sem,γ,δ,ε,ζ,η,θ,ι,κ,μ,ν,ξ,ο,ρ,σ,τ,υ,reduceIte,reduceCtorEq])
  have f6:F1 6=some (.int .i64 i):=hF1 6 _ (by unfold gI; simp only[go_sem,γ,δ,ε,ζ,η,θ,ι,κ,μ,ν,ξ,ο,ρ,σ,τ,υ,reduceIte,reduceCtorEq])
  have f7:F1 7=some (.osl q 1 0 n):=hF1 7 _ (by unfold gI; simp only[go_sem,γ,δ,ε,ζ,η,θ,ι,κ,μ,ν,ξ,ο,ρ,σ,τ,υ,reduceIte,reduceCtorEq])
  simp only[go_sem,γ,δ,ε,ζ,η,θ,ι,κ,μ,ν,ξ,ο,ρ,σ,τ,υ,reduceIte,reduceCtorEq,UB,f5,f7,h11]
  refine h2.append 0 (src:=[[.osl q 1 0 n]]) rfl Sq (by unfold roomFor; rw[bJO,k1]; simp only[bKC,maxLen]; omega) fun w' H' h3 hw=>?_
  obtain⟨q',rfl⟩:=hw (by simp)
  generalize hw':(PV.osl q' 1 0 (oZ s.1++[[PV.osl q 1 0 n]]).length)=w' at *
  obtain⟨rs,z1,z2,z3,z4,z5⟩:=h3.frz 1 rfl
  have y1:=z4 0 _ (by decide) rfl
  simp only at y1
  have yf:PV.frz q 1 rs w'=w':=by rw[← hw'] at y1 ⊢; exact y1
  simp only[go_sem,γ,δ,ε,ζ,η,θ,ι,κ,μ,ν,ξ,ο,ρ,σ,τ,υ,reduceIte,reduceCtorEq,UC,f6,wZz i]
  refine aqO (i+1,w',H'.frz q 1 rs) z1 ⟨hlt,?_⟩ (by simp only; omega) ?_ PH.le_refl
  ·simp only
   rw[bHS]
   have eB:([(o,bJ l row.2)]:List BX).map (fun b=>(b.1,b.2.frz q 1 rs))=[(o,bJ l row.2)]:=rfl
   have e5:(oZ s.1++[[PV.osl q 1 0 n]]).map (fun r=>r.map (PV.dE q 1 rs))=oZ (s.1++[row.1]):=by
    rw[bLK,bnO]
    show oZ s.1++[[PV.dE q 1 rs (.osl q 1 0 n)]]=_
    rw[z2]
    simp[oZ]
   rw[← eB,← e5]
   exact z5
  ·(repeat' (first|exact PF.nil_le|refine PF.aI ?_ ?_))<;>first|(simp only[go_sem,γ,δ,ε,ζ,η,θ,ι,κ,μ,ν,ξ,ο,ρ,σ,τ,υ,reduceIte,reduceCtorEq,f0,f3,yf]<;>rfl)|rfl
 ·have bHR:¬ (i:Int)<(f.bHM.length:Nat):=by omega
  have:i=f.bHM.length:=by omega
  subst this
  simp only[go_sem,γ,δ,ε,ζ,η,θ,ι,κ,μ,ν,ξ,ο,ρ,σ,τ,υ,reduceIte,reduceCtorEq,bHR,UD]
  rcases hH.own 0 rfl with ⟨h1',rfl⟩ | ⟨q,rs,rfl,_⟩
  ·refine aX (vs:=[.aB]) (.inr rfl) (PH.nil.set o (bJ l (dA l f a f.bHM.length).2)) Sq (PH.aI PH.nil_le (hH.at 0 rfl)) ?_
   rw[aT,hR]
   refine⟨?_,rfl⟩
   unfold lay
   rw[show (dA l f a f.bHM.length).1.map (fun r=>[ints r])=[] from h1']
   exact .nil 1
  ·obtain⟨rs,g1,g2,g3,-,g4⟩:=hH.frz 0 rfl
   refine anF (vs:=[.osl q 1 0 (oZ (dA l f a f.bHM.length).1).length]) (.inr rfl) Sq (.step g1 (.done (H2:=PH.nil.set o (bJ l (dA l f a f.bHM.length).2)) ?_ (PH.aI PH.nil_le ?_)))
   ·rw[aT,g3,hR]
    exact⟨.refl _,rfl⟩
   ·have:=g4.at 0 rfl
    rw[this]
    rfl
section
variable {H:PH} {B:List BX} {L:List LI} {s:Nat} {rows:List (List PV)}
theorem aR.bvM (h:aR H B L) {r:PV} {H':PH} (m:kO s rows r H') (ha:kN H .nil H'):aR (H.eQ .nil H') B (L++[(r,s,rows)]):=by
 obtain⟨hO,hk⟩:=m.eQ ha
 have h1:=h.nI s
 have e:(L++[(PV.aB,s,([]:List (List PV)))]).set L.length (r,s,rows)=L++[(r,s,rows)]:=by
  rw[bMQ _ _ (bJQ _),bMF]; rfl
 rw[← e]
 refine h1.zG L.length (v:=.aB) (s:=s) (rows:=[]) (by simp) hO (fun q hq=>.inr ?_) fun q hq _=>?_
 ·rcases m with ⟨-,rfl,-⟩ | ⟨p,rs,rfl,rfl,-⟩
  ·cases hq
  ·cases hq
   exact ha q (.rows s rs) (by rw[eS]) rfl
 ·obtain⟨x,hx⟩:=h1.DU hq
  rw[hx]; exact hk q x hx
theorem kO.some (s:Nat) (rows:List (List PV)) (G:PH):∃ r H',kO s rows r H'∧kN G .nil H':=by
 obtain⟨o,ho⟩:=G.fresh
 refine⟨.osl o s 0 rows.length,PH.nil.set o (.rows s rows),.inr ⟨o,rows,rfl,rfl,bJQ _,bKL⟩,fun q x hx _=>?_⟩
 rw[bM] at hx
 split at hx
 ·rename_i e; rw[e]; exact ho
 ·cases hx
end

section
variable {C:Ctx} {F:PF} {H Hs:PH} {tn a a2:Nat} {raw:List Int} {R:Nat→PV→PH→Prop} {st:Bool} {args:List aP} {d:Option Nat} {K:PF→PH→Prop}
end
section
variable {C:Ctx} {F:PF} {H:PH} {B:List BX} {L:List LI} {args:List aP} {d:Option Nat} {K:PF→PH→Prop}
end
theorem baX {f:aJ} (hV:VF f) (room:List Int) {d:Nat} (hd:d<f.bHK.length):0≤rI f room d∧rI f room d≤ext f d∧1≤ext f d∧ext f d≤16:=by
 obtain⟨hm,he⟩:=hV.a8C hd
 have:=hV.model _ (bJS hm)
 rw[he] at this
 unfold rI
 split
 ·omega
 ·omega
theorem abB (l:List Int) (x:Int):∀ (xs:List Int) (a:Nat),fF l (xs++[x]) a=((fF l xs a).1++[(wU l x (fF l xs a).2).1],(wU l x (fF l xs a).2).2)
 | [],a=>rfl
 | y::ys,a=>by
  rw[List.cons_append,fF,abB l x ys]
  rfl
theorem aAC (l:List Int):∀ (xs:List Int) (a:Nat),(fF l xs a).1.length=xs.length∧a≤(fF l xs a).2∧(fF l xs a).2≤a+2*xs.length
 | [],a=>⟨rfl,bJQ _,bJQ _⟩
 | x::xs,a=>by
  obtain⟨h1,h2,h3⟩:=aAC l xs (wU l x a).2
  have h4:a≤(wU l x a).2∧(wU l x a).2≤a+2:=by
   unfold wU
   split
   ·simp
   ·split<;>simp
  rw[fF]
  simp only[bLG,h1,true_and]
  omega
theorem aR.store {H:PH} {B:List BX} {L:List LI} (h:aR H B L) (i:Nat) {q s n:Nat} {rows:List (List PV)} (hi:L[i]?=some (.osl q s 0 n,s,rows)) (k:Nat) (c:List PV) :
  ∃ rs,H q=some (.rows s rs)∧n≤rs.length∧rs.take n=rows∧aR (H.set q (.rows s (rs.set k c))) B (L.set i (.osl q s 0 n,s,rows.set k c)):=by
 obtain⟨rs,h1,h2,h3,h4⟩:=(h.own i hi).id rfl
 injection h2 with _ _ _ hn
 subst hn
 refine⟨rs,h1,h3,h4,h.zG i hi (.inr ⟨q,rs.set k c,by rw[bLO],by rw[eS],by rw[bLO,bLO]; exact h3,by rw[bLO,List.take_set,h4]⟩) (fun p hp=>.inl hp) fun p _ hp=>?_⟩
 have:p≠q:=hp q rfl
 rw[bM,if_neg this]
def azC (l:List Int) (o a:Nat) (f:aJ) (r:PV) (H:PH):Prop:=Co r (ints (fF l (fQ f []) a).1)∧H=PH.nil.set o (bJ l (fF l (fQ f []) a).2)
def uC (o:Nat) (q n i:Nat):PF:=(((PF.nil.set 0 (.ptr o 2 0 0)).set 5 (.osl q 1 0 n)).set 6 (.int .i64 i))
theorem a7U {C:Ctx} (Lb:CR C) {l:List Int} (T:TpM l) (o a:Nat) (ha:a≤10000) (f:aJ) (hv:dM f=true) (hd0:1≤f.bHK.length)
  (hr:aD C 85 [.agg f.cells,ints []] .nil (kO 1 (bD (afK f [])))) :
  AA.wp C (aU MI.res (azC l o a f)) (PF.args [.ptr o 2 0 0,.agg f.cells]) (PH.nil.set o (bJ l a)):=by
 have hV:=VF.of hv
 have hd24:=hV.small.bHK
 have hX:afK f []=fQ f []:=by unfold afK; rw[hv]; rfl
 rw[hX] at hr
 have hXl:=PR f []
 have hXi:∀ i (h:i<(fQ f []).length),0≤(fQ f [])[i]∧(fQ f [])[i]≤16:=fun i h=>by
  rw[aJN]
  have:=baX hV [] (Om:i<f.bHK.length)
  omega
 have hR:∀ r H,azC l o a f r H↔Co r (ints (fF l (fQ f []) a).1)∧H=PH.nil.set o (bJ l (fF l (fQ f []) a).2):=fun _ _=>Iff.rfl
 generalize fQ f []=X at *
 have h0:aR (PH.nil.set o (bJ l a)) [(o,bJ l a)] []:=aR.nil.new (H:=PH.nil) rfl (bJ l a)
 simp only[go_sem,γ,δ,ε,ζ,η,θ,ι,κ,μ,ν,ξ,ο,ρ,σ,τ,υ,reduceIte,reduceCtorEq,AA,aoZ,MI,apA]
 refine fP hr.a4Y rfl PH.nil_le ?_
 intro r H' hm hap
 have h1:=h0.bvM hm hap
 obtain⟨q,rfl⟩:=(h1.own 0 rfl).one (by rw[cK]; omega)
 rw[cK,hXl] at h1
 simp only[go_sem,γ,δ,ε,ζ,η,θ,ι,κ,μ,ν,ξ,ο,ρ,σ,τ,υ,reduceIte,reduceCtorEq,cK,hXl,apB]
 generalize hn:f.bHK.length=n at *
 refine wp_loop (α:=Nat × PH) (fun s=>uC o q n s.1) (fun s=>s.2) (fun s=>s.1≤n∧aR s.2 [(o,bJ l (fF l (X.take s.1) a).2)] [(.osl q 1 0 n,1,bD ((fF l (X.take s.1) a).1++X.drop s.1))]) (fun s=>n-s.1) (0,_) ⟨bJY _,h1⟩ ?_ PH.le_refl ?_
 ·unfold uC
  exact Lq
 rintro⟨i,H0⟩ ⟨hi,hH⟩
 simp only at hi hH ⊢
 obtain⟨k1,k2,k3⟩:=aAC l (X.take i) a
 rw[bKG,bLS Om] at k1 k3
 simp only[go_sem,γ,δ,ε,ζ,η,θ,ι,κ,μ,ν,ξ,ο,ρ,σ,τ,υ,reduceIte,reduceCtorEq,acK,apC,uC]
 by_cases hlt:i<n
 ·have bHR:(i:Int)<(n:Nat):=by omega
  have hiX:i<X.length:=by omega
  have hx:=hXi i hiX
  have bHS:fF l (X.take (i+1)) a=((fF l (X.take i) a).1++[(wU l X[i] (fF l (X.take i) a).2).1],(wU l X[i] (fF l (X.take i) a).2).2):=by
   rw[bLL hiX,abB]
  have hdrop:X.drop i=X[i]::X.drop (i+1):=bLN hiX
  generalize fF l (X.take i) a=s at *
  have hcut:wU l X[i] s.2=if nxM l 9 s.2=0 then (0,s.2+1) else if nxM l 9 s.2=1 then (((nxM l (X[i]+1).toNat (s.2+1):Nat):Int),s.2+2) else (X[i],s.2+1):=rfl
  generalize X[i]=x at *
  simp only[go_sem,γ,δ,ε,ζ,η,θ,ι,κ,μ,ν,ξ,ο,ρ,σ,τ,υ,reduceIte,reduceCtorEq,bHR,apD]
  refine cH Lb.toEI T (o:=o) (n:=9) (a:=s.2) (by decide) Om rfl (hH.at 0 rfl) ?_
  have h2:=hH.set 0 rfl (bJ l (s.2+1))
  have hY:∀ v:Int,(bD (s.1++X.drop i)).set i [.int .i64 v]=bD ((s.1++[v])++X.drop (i+1)):=fun v=>by
   rw[a8V,hdrop,bMQ _ _ Om,k1,bMF,List.set_cons_zero,bKP]
   rfl
  have fin:∀ (y:Int) (b:Nat) (F':PF) (H':PH),wU l x s.2=(y,b)→(uC o q n i).le F'→aR H' [(o,bJ l b)] [(.osl q 1 0 n,1,bD ((s.1++[y])++X.drop (i+1)))] →
    aC.wp C (.region MK) (eE (fun s:Nat × PH=>uC o q n s.1) (fun s=>s.2) (fun s=>s.1≤n∧aR s.2 [(o,bJ l (fF l (X.take s.1) a).2)] [(.osl q 1 0 n,1,bD ((fF l (X.take s.1) a).1++X.drop s.1))]) (fun s=>n-s.1) (n-i) (dW 0 (iV C (aC.wp C ((aC.region FX).seq aC.ret)) (aU [dR.tmp 4] (azC l o a f))))) F' H':=by
   intro y b F' H' hy hF' hH'
   have g0:F' 0=some (.ptr o 2 0 0):=hF' 0 _ (by unfold uC; simp only[go_sem,γ,δ,ε,ζ,η,θ,ι,κ,μ,ν,ξ,ο,ρ,σ,τ,υ,reduceIte,reduceCtorEq])
   have g5:F' 5=some (.osl q 1 0 n):=hF' 5 _ (by unfold uC; simp only[go_sem,γ,δ,ε,ζ,η,θ,ι,κ,μ,ν,ξ,ο,ρ,σ,τ,υ,reduceIte,reduceCtorEq])
   have g6:F' 6=some (.int .i64 i):=hF' 6 _ (by unfold uC; simp only[go_sem,γ,δ,ε,ζ,η,θ,ι,κ,μ,ν,ξ,ο,ρ,σ,τ,υ,reduceIte,reduceCtorEq])
   simp only[go_sem,γ,δ,ε,ζ,η,θ,ι,κ,μ,ν,ξ,ο,ρ,σ,τ,υ,reduceIte,reduceCtorEq,MK,g6,wZz i]
   refine aG (i+1,H') ⟨hlt,?_⟩ (by simp only; omega) ?_ PH.le_refl
   ·simp only
    rw[bHS,hy]
    exact hH'
   ·unfold uC
    exact Lq
  simp only[aC.wp,go_sem] at fin
  simp only[go_sem,γ,δ,ε,ζ,η,θ,ι,κ,μ,ν,ξ,ο,ρ,σ,τ,υ,reduceIte,reduceCtorEq]
  by_cases c0:nxM l 9 s.2=0
  ·rw[if_pos c0] at hcut
   obtain⟨rs,b1,b2,b3,h3⟩:=h2.store 0 rfl i [.int .i64 0]
   rw[hY] at h3
   have hil:i<rs.length:=by omega
   have hir:rs[i]?=some [.int .i64 x]:=by
    have:(rs.take n)[i]?=some [.int .i64 x]:=by
     rw[b3]
     unfold bD
     rw[bKS,hdrop,bLX Om,k1,bMF]
     rfl
    rwa [bND hlt] at this
   simp only[go_sem,γ,δ,ε,ζ,η,θ,ι,κ,μ,ν,ξ,ο,ρ,σ,τ,υ,reduceIte,reduceCtorEq,bX (Om:((nxM l 9 s.2:Nat):Int)=0),yJ,apE,bHR,b1,hir,bKN]
   refine fin 0 (s.2+1) _ _ hcut ?_ h3
   unfold uC
   exact Lq
  by_cases c1:nxM l 9 s.2=1
  ·rw[if_neg c0,if_pos c1] at hcut
   obtain⟨xn,hxn⟩:∃ xn:Nat,x=xn:=⟨x.toNat,by omega⟩
   subst hxn
   rw[show ((xn:Int)+1).toNat=xn+1 by omega] at hcut
   obtain⟨rs,b1,b2,b3,-⟩:=h2.store 0 rfl i [.int .i64 0]
   have hir:rs[i]?=some [.int .i64 xn]:=by
    have:(rs.take n)[i]?=some [.int .i64 xn]:=by
     rw[b3]
     unfold bD
     rw[bKS,hdrop,bLX Om,k1,bMF]
     rfl
    rwa [bND hlt] at this
   have e1:IntKind.i64.wrap ((xn:Int)+1)=((xn+1:Nat):Int):=dC Om
   have h4:=h2.set 0 rfl (bJ l (s.2+2))
   rw[PH.set_set] at h4
   obtain⟨rs2,d1,d2,d3,h5⟩:=h4.store 0 rfl i [.int .i64 (nxM l (xn+1) (s.2+1):Nat)]
   rw[hY] at h5
   have hir2:rs2[i]?=some [.int .i64 xn]:=by
    have:(rs2.take n)[i]?=some [.int .i64 xn]:=by
     rw[d3]
     unfold bD
     rw[bKS,hdrop,bLX Om,k1,bMF]
     rfl
    rwa [bND hlt] at this
   simp only[go_sem,γ,δ,ε,ζ,η,θ,ι,κ,μ,ν,ξ,ο,ρ,σ,τ,υ,reduceIte,reduceCtorEq,bG (Om:((nxM l 9 s.2:Nat):Int)≠0),bX (Om:((nxM l 9 s.2:Nat):Int)=1),yJ,MJ,apF,bHR,b1,hir,e1]
   refine cH Lb.toEI T (o:=o) (n:=xn+1) (a:=s.2+1) Om Om rfl (h2.at 0 rfl) ?_
   simp only[go_sem,γ,δ,ε,ζ,η,θ,ι,κ,μ,ν,ξ,ο,ρ,σ,τ,υ,reduceIte,reduceCtorEq,bHR,d1,hir2,bKN]
   refine fin _ (s.2+2) _ _ hcut ?_ h5
   unfold uC
   exact Lq
  ·rw[if_neg c0,if_neg c1] at hcut
   simp only[go_sem,γ,δ,ε,ζ,η,θ,ι,κ,μ,ν,ξ,ο,ρ,σ,τ,υ,reduceIte,reduceCtorEq,bG (Om:((nxM l 9 s.2:Nat):Int)≠0),bG (Om:((nxM l 9 s.2:Nat):Int)≠1),yJ,MJ]
   refine fin x (s.2+1) _ _ hcut ?_ ?_
   ·unfold uC
    exact Lq
   ·rw[bKP,List.singleton_append,← hdrop]
    exact h2
 ·have bHR:¬ (i:Int)<(n:Nat):=by omega
  have:i=n:=by omega
  subst this
  have et:X.take i=X:=bKF Om
  have ed:X.drop i=[]:=List.drop_eq_nil_of_le Om
  rw[et,ed,bLM] at hH
  simp only[go_sem,γ,δ,ε,ζ,η,θ,ι,κ,μ,ν,ξ,ο,ρ,σ,τ,υ,reduceIte,reduceCtorEq,bHR,FX]
  obtain⟨rs,g1,g2,g3,-,g4⟩:=hH.frz 0 rfl
  refine anF (vs:=[.osl q 1 0 i]) (.inr rfl) rfl (.step g1 (.done (H2:=PH.nil.set o (bJ l (fF l X a).2)) ?_ (PH.aI PH.nil_le ?_)))
  ·rw[aT,g3,hR]
   exact⟨.refl _,rfl⟩
  ·have:=g4.at 0 rfl
   rw[this]
   rfl
def adY:Rg:=[iI 4 0]
def adZ:Rg:=[iM 6 1,iC 7 .lss 6 1]
def aeA:Rg:=[iI 4 0]
def aeB:Rg:=[iM 8 0,iM 9 1,iB 10 .rem 8 9,iM 5 10]
def aeC:Rg:=[iM 11 5,iC 12 .lss 11 0]
def aeD:Rg:=[iM 13 5,iM 14 1,iB 15 .add 13 14,iM 4 15]
def aeE:Rg:=[iM 16 5,iM 4 16]
def xH:aC:=(sq adY (.seq (sq adZ (.cond (Tm 7) (sq aeA .ret) .skip)) (sq aeB (.seq (sq aeC (.cond (Tm 12) (sq aeD .ret) .skip)) (sq aeE .ret)))))
def a3K:List Nat:=[]
def DH:aW:=⟨2,17,xH,[.tmp 4]⟩
def aXM:Rg:=[iA 4 (.box false (Tm 1)),iA 6 (.alloc [(.int .i64 0),(.int .i64 0)]),iI 7 0]
def aXN:Rg:=[iF 10 1 4,iL 11 10,iC 12 .lss 11 0,iM 13 12,gF 14 1 4 13 false,gL 15 14 13 false,gM 16 0 13 false,gB 17 .geq 15 16 13 false,iQ 18 13 17]
def anM:Rg:=[iA 19 (.build [(.int .i64 0),(.int .i64 0)] []),iS 2 6 19,iI 7 110]
def aXO:Rd:=[(iA 21 (.bJG (true,[.int .i64,.int .i64])),true),(iA 22 (.build [(.int .i64 0),(.int .i64 0)] [(0,1,(Ci 1)),(1,1,(Ci 1))]),true),(⟨none,.insert (true,[.int .i64,.int .i64]) (Tm 21) (Tm 22) (Ci 2),none⟩,true),(iA 23 (.build [(.int .i64 0),(.int .i64 0)] [(0,1,(Ci 2)),(1,1,(Ci 2))]),true),(⟨none,.insert (true,[.int .i64,.int .i64]) (Tm 21) (Tm 23) (Ci 3),none⟩,true),(iA 24 (.build [(.int .i64 0),(.int .i64 0)] [(0,1,(Ci 3)),(1,1,(Ci 3))]),true),(⟨none,.insert (true,[.int .i64,.int .i64]) (Tm 21) (Tm 24) (Ci 1),none⟩,true),(iA 25 (.build [(.int .i64 0),(.int .i64 0)] [(0,1,(Ci 3)),(1,1,(Ci 4))]),true),(⟨none,.insert (true,[.int .i64,.int .i64]) (Tm 21) (Tm 25) (Ci 5),none⟩,true),(iM 26 21,false),(iF 27 0 4,true),(iL 28 27,true),(iM 29 2,true),(iA 30 (.build [(.int .i64 0),(.int .i64 0)] [(0,1,(Tm 28)),(1,1,(Tm 29))]),true),(iA 31 (.lookup (true,[.int .i64,.int .i64]) (.int .i64 0) (Tm 26) (Tm 30) true),false),(iM 20 31,false),(iE 32 20 0,false),(iE 33 20 1,false),(iM 8 32,false),(iM 9 33,false)]
def qF:Rg:=[iM 40 9,iA 41 (.un .not (Tm 40)),iM 39 41]
def qG:Rg:=[iA 42 (.build [(.int .i64 0),(.int .i64 0)] []),iS 2 6 42,iI 7 110]
def qH:Rg:=[iM 44 2,iC 45 .neq 44 3,iM 43 45]
def qI:Rg:=[iM 46 8,iF 47 0 4,iS 1 47 46]
def aXP:Rg:=[iF 49 1 4,iL 50 49,iM 51 0,iC 52 .sub 51 1,iB 53 .eql 50 52,iM 48 53]
def aXQ:Rg:=[iF 54 0 4,⟨none,.store 1 (Tm 54) (Ci 4),none⟩]
def aKX:Rg:=[iM 34 8,iF 35 1 4,iL 36 35,iC 37 .add 36 1,iA 38 (.build [(.int .i64 0),(.int .i64 0)] [(0,1,(Tm 34)),(1,1,(Tm 37))]),iS 2 4 38]
def nO:Rg:=[iO 55 2 4,iS 2 6 55,iI 7 0]
def QD:aC:=(sq aXM (.seq (sq aXN (.cond (Tm 18) (sq anM .ret) .skip)) (dq aXO (.seq (.block 0 (sq qF (.cond (Tm 39) (sq qG .ret) (sq qH (.cond (Tm 43) (.region qI) (sq aXP (.cond (Tm 48) (.region aXQ) (.region aKX)))))))) (sq nO .ret)))))
def bpE:List Nat:=[]
def step:aW:=⟨3,56,QD,[.cell 6 (some 2),.tmp 7]⟩
def aWX:Rg:=[iT 4 false]
def aWY:Rg:=[iM 6 0,iN 7 6,iM 8 1,iN 9 8,iB 10 .neq 7 9]
def aWZ:Rg:=[iT 4 false]
def aXA:Rg:=[iI 5 0]
def aXB:Rg:=[iM 11 5,iM 12 0,iN 13 12,iB 14 .lss 11 13]
def aXC:Rd:=[(iM 17 0,false),(iM 18 5,false),(iX 19 1 17 18,false),(iL 20 19,false),(iM 21 1,false),(iM 22 5,false),(iX 23 1 21 22,false),(iL 24 23,false),(iB 25 .neq 20 24,false)]
def aXD:Rg:=[iT 4 false]
def aXE:Rg:=[iM 15 5,iC 16 .add 15 1,iM 5 16]
def aWW:aC:=(.seq (sq aXB (.cond (Tm 14) .skip (.exit 0))) (.seq (.block 1 (dq aXC (.cond (Tm 25) (sq aXD .ret) .skip))) (.region aXE)))
def aXF:Rg:=[iT 4 true]
def PU:aC:=(sq aWX (.seq (sq aWY (.cond (Tm 10) (sq aWZ .ret) .skip)) (.seq (sq aXA (.block 0 (.loop aWW))) (sq aXF .ret))))
def boU:List Nat:=[]
def same:aW:=⟨2,26,PU,[.tmp 4]⟩
def aZD:Rg:=[iA 3 (.box true (Tm 1)),iZ 4]
def aZE:Rg:=[iF 7 0 3,iL 8 7,iC 9 .lss 8 1,iM 10 9,gF 11 0 3 10 false,gL 12 11 10 false,gC 13 .gtr 12 5 10 false,iQ 14 10 13,iM 15 14,gF 16 1 3 15 false,gL 17 16 15 false,gC 18 .lss 17 0 15 false,iQ 19 15 18]
def TK:Rg:=[iZ 4]
def TL:Rg:=[iF 20 1 3,iL 21 20,iM 22 0,iN 23 22,iA 24 (.bIL false (Tm 21) (Tm 23)),iM 5 24]
def TM:Rg:=[iM 25 5,iM 26 0,iN 27 26,iB 28 .lss 25 27,iM 29 28,gF 30 0 3 29 true,gL 31 30 29 true,gC 32 .eql 31 3 29 true,gM 33 32 29 true,gF 34 0 3 33 false,gL 35 34 33 false,gC 36 .eql 35 4 33 false,iG 37 (.pick (Tm 33) (.const (.bool true)) (Tm 36)) 29 true,iP 38 29 37]
def anR:Rg:=[iM 39 5,iC 40 .add 39 1,iM 5 40]
def anS:Rg:=[iM 41 0,iM 42 5,iA 43 (.slice 1 (Tm 41) none (some (Tm 42)) none),iK 44 178 43,iM 6 44]
def TN:Rg:=[iM 45 6,iK 46 180 45]
def TO:Rg:=[iM 47 6,iK 48 177 47,iM 4 48]
def QU:aC:=(sq aZD (.seq (sq aZE (.cond (Tm 19) (sq TK .ret) .skip)) (sq TL (.seq (sq TM (.cond (Tm 38) (.region anR) .skip)) (sq anS (sq TN (sq TO .ret)))))))
def bpS:List Nat:=[3]
def aMP:aW:=⟨2,49,QU,[.tmp 4]⟩
def azT:Rg:=[iA 2 (.alloc [(.int .i64 0),(.int .i64 0)])]
def azU:Rg:=[iM 3 0,iC 4 .lss 3 1]
def azV:Rg:=[iA 5 (.build [(.int .i64 0),(.int .i64 0)] [(0,1,(Ci 4))]),iS 2 2 5]
def azW:Rg:=[iA 6 (.build [(.int .i64 0),(.int .i64 0)] [(0,1,(Ci 1))]),iS 2 2 6]
def EM:aC:=(sq azT (.seq (sq azU (.cond (Tm 4) (sq azV .ret) .skip)) (sq azW .ret)))
def beS:List Nat:=[]
def begin:aW:=⟨1,7,EM,[.cell 2 (some 2)]⟩
def aoE:Rg:=[iZ 2]
def aoF:Rg:=[iI 3 0]
def aoG:Rg:=[iM 9 0,iN 10 9,iI 11 0]
def aoH:Rg:=[iB 12 .lss 11 10]
def aoI:Rg:=[iX 13 1 9 11,iL 14 13,iM 5 14]
def aoJ:Rg:=[iM 15 3,iM 16 5,iN 17 16,iB 18 .add 15 17,iM 3 18]
def aoK:Rg:=[iM 19 3,iC 20 .lss 19 0]
def a7N:Rg:=[iA 21 .stuck,⟨none,.stuck,none⟩]
def aoL:Rg:=[iC 22 .add 11 1,iM 11 22]
def aoD:aC:=(sq aoH (.seq (.cond (Tm 12) .skip (.exit 0)) (.seq (.block 1 (sq aoI (sq aoJ (sq aoK (.cond (Tm 20) (.region a7N) .skip))))) (.region aoL))))
def aaZ:Rg:=[iM 23 3,iA 24 (.call 179 [(.const .aB),(Tm 23)]),iM 6 24]
def EQ:Rg:=[iM 25 0,iN 26 25,iI 27 0]
def ER:Rg:=[iB 28 .lss 27 26]
def ES:Rg:=[iX 29 1 25 27,iL 30 29,iM 8 30]
def ET:Rg:=[iM 31 6,iM 32 8,iA 33 (.append 1 8 (Tm 31) (Tm 32)),iM 6 33]
def uJ:Rg:=[iC 34 .add 27 1,iM 27 34]
def EP:aC:=(sq ER (.seq (.cond (Tm 28) .skip (.exit 2)) (.seq (.block 3 (sq ES (.region ET))) (.region uJ))))
def uK:Rg:=[iM 35 6,iM 2 35]
def zS:aC:=(sq aoE (sq aoF (.seq (sq aoG (.block 0 (.loop aoD))) (sq aaZ (.seq (sq EQ (.block 2 (.loop EP))) (sq uK .ret))))))
def a7O:List Nat:=[]
def concat:aW:=⟨1,36,zS,[.tmp 2]⟩
def azM:Rg:=[iT 0 false]
def azN:Rg:=[iA 10 (.call 144 [(Ci 1)]),iA 1 (.alloc [(.int .i64 0),(.int .i64 0)]),iS 2 1 10]
def azO:Rg:=[iO 12 2 1,iA 13 (.call 145 [(Ci 1),(Tm 12),(Ci 1)]),iM 11 13,iE 14 11 0,iE 15 11 1,iA 2 (.alloc [(.int .i64 0),(.int .i64 0)]),iS 2 2 14,iM 3 15]
def azP:Rg:=[iO 17 2 2,iA 18 (.call 145 [(Ci 1),(Tm 17),(Ci 2)]),iM 16 18,iE 19 16 0,iE 20 16 1,iA 4 (.alloc [(.int .i64 0),(.int .i64 0)]),iS 2 4 19,iM 5 20]
def azQ:Rg:=[iO 22 2 4,iA 23 (.call 145 [(Ci 1),(Tm 22),(Ci 3)]),iM 21 23,iE 24 21 0,iE 25 21 1,iA 6 (.alloc [(.int .i64 0),(.int .i64 0)]),iS 2 6 24,iM 7 25]
def azR:Rg:=[iO 27 2 6,iA 28 (.call 145 [(Ci 1),(Tm 27),(Ci 1)]),iM 26 28,iE 29 26 0,iE 30 26 1,iA 8 (.alloc [(.int .i64 0),(.int .i64 0)]),iS 2 8 29,iM 9 30]
def azS:Rg:=[iO 31 2 1,iA 32 (.build [(.int .i64 0),(.int .i64 0)] [(0,1,(Ci 1))]),iA 33 (.eqs false [.int,.int] (Tm 31) (Tm 32)),iM 34 33,gM 35 3 34 true,gC 36 .eql 35 0 34 true,iP 37 34 36,iM 38 37,gM 39 5 38 true,gC 40 .eql 39 0 38 true,iP 41 38 40,iM 42 41,gM 43 7 42 true,gC 44 .eql 43 0 42 true,iP 45 42 44,iM 46 45,gM 47 9 46 true,gC 48 .eql 47 110 46 true,iP 49 46 48,iM 50 49,gO 51 2 6 50 true,iG 52 (.build [(.int .i64 0),(.int .i64 0)] [(0,1,(Ci 4))]) 50 true,iG 53 (.eqs false [.int,.int] (Tm 51) (Tm 52)) 50 true,iP 54 50 53,iM 55 54,iG 56 (.bHQ true 1 2 [(.int .i64 0)] [(0,(Ci 2)),(1,(Ci 1))]) 55 true,iG 57 (.bHQ true 1 1 [.aB] [(0,(Tm 56))]) 55 true,gO 58 2 6 55 true,gK2 59 146 57 58 55 true,iG 60 (.bHQ true 1 2 [(.int .i64 0)] [(0,(Ci 1)),(1,(Ci 2))]) 55 true,gK2 61 91 59 60 55 true,iP 62 55 61,iM 63 62,iG 64 (.call 144 [(Ci 0)]) 63 true,iG 65 (.build [(.int .i64 0),(.int .i64 0)] [(0,1,(Ci 4))]) 63 true,iG 66 (.eqs false [.int,.int] (Tm 64) (Tm 65)) 63 true,iP 67 63 66,iM 0 67]
def EK:aC:=(sq azM (sq azN (sq azO (sq azP (sq azQ (sq azR (sq azS .ret)))))))
def beQ:List Nat:=[56,57,60]
def aaQ:aW:=⟨0,68,EK,[.tmp 0]⟩
def brK:Rg:=[iA 5 (.box true (Tm 1)),iT 8 false]
def brL:Rg:=[iM 20 3,iN 21 20,iC 22 .gtr 21 20]
def brM:Rg:=[iA 23 (.call 26 []),iM 8 23]
def brN:Rg:=[iI 9 0]
def brO:Rg:=[iM 24 9,iM 25 3,iN 26 25,iB 27 .lss 24 26]
def brP:Rg:=[iM 30 3,iM 31 9,iX 32 1 30 31,iL 33 32,iN 34 33,iC 35 .gtr 34 20]
def brQ:Rg:=[iA 36 (.call 26 []),iM 8 36]
def brR:Rg:=[iM 28 9,iC 29 .add 28 1,iM 9 29]
def brJ:aC:=(.seq (sq brO (.cond (Tm 27) .skip (.exit 0))) (.seq (.block 1 (sq brP (.cond (Tm 35) (sq brQ .ret) .skip))) (.region brR)))
def brS:Rg:=[iM 37 0,iA 38 (.call 24 [(Tm 37),(Ci 5)]),iM 10 38]
def bnG:Rd:=[(iF 39 0 5,false),(iL 40 39,false),(iA 41 (.call 24 [(Tm 40),(Ci 5)]),true),(iA 42 (.bin .add (Ci 1) (Tm 41)),true),(iF 43 1 5,true),(iL 44 43,true),(iA 45 (.call 24 [(Tm 44),(Ci 5)]),true),(iA 46 (.build [(.int .i64 0),(.int .i64 0)] [(0,1,(Tm 42)),(1,1,(Tm 45))]),false),(iA 11 (.alloc [(.int .i64 0),(.int .i64 0)]),true),(iS 2 11 46,true)]
def bnH:Rg:=[iM 48 0,iO 49 2 5,iM 50 2,iA 51 (.call 145 [(Tm 48),(Tm 49),(Tm 50)]),iM 47 51,iE 52 47 0,iE 53 47 1,iA 12 (.alloc [(.int .i64 0),(.int .i64 0)]),iS 2 12 52,iM 13 53]
def bnI:Rg:=[iM 55 0,iO 56 2 5,iM 57 2,iA 58 (.call 92 [(Tm 55),(Tm 56),(Tm 57)]),iM 54 58,iE 59 54 0,iE 60 54 1,iA 14 (.alloc [(.int .i64 0),(.int .i64 0)]),iS 2 14 59,iM 15 60]
def bnJ:Rd:=[(iM 62 10,true),(iO 63 2 11,true),(iM 64 2,false),(iA 65 (.call 24 [(Tm 64),(Ci 4)]),true),(iA 66 (.bin .add (Ci 1) (Tm 65)),false),(iA 67 (.call 145 [(Tm 62),(Tm 63),(Tm 66)]),true),(iM 61 67,false),(iE 68 61 0,false),(iE 69 61 1,true),(iA 16 (.alloc [(.int .i64 0),(.int .i64 0)]),true),(iS 2 16 68,true),(iM 17 69,false)]
def bnK:Rd:=[(iM 71 10,true),(iO 72 2 11,true),(iM 73 2,false),(iA 74 (.call 24 [(Tm 73),(Ci 4)]),true),(iA 75 (.bin .add (Ci 1) (Tm 74)),false),(iA 76 (.call 92 [(Tm 71),(Tm 72),(Tm 75)]),true),(iM 70 76,false),(iE 77 70 0,false),(iE 78 70 1,true),(iA 18 (.alloc [(.int .i64 0),(.int .i64 0)]),true),(iS 2 18 77,true),(iM 19 78,false)]
def bnL:Rd:=[(iA 79 (.call 26 []),true),(iM 80 79,false),(gO 81 2 12 80 true,false),(gO 82 2 14 80 true,false),(iG 83 (.eqs false [.int,.int] (Tm 81) (Tm 82)) 80 true,false),(iP 84 80 83,false),(iM 85 84,false),(gM 86 13 85 true,false),(gM 87 15 85 true,false),(gB 88 .eql 86 87 85 true,false),(iP 89 85 88,false),(iM 90 89,false),(gO 91 2 16 90 true,false),(gO 92 2 18 90 true,false),(iG 93 (.eqs false [.int,.int] (Tm 91) (Tm 92)) 90 true,false),(iP 94 90 93,false),(iM 95 94,false),(gM 96 17 95 true,false),(gM 97 19 95 true,false),(gB 98 .eql 96 97 95 true,false),(iP 99 95 98,false),(iM 100 99,false),(gM 101 3 100 true,false),(gO 102 2 5 100 true,false),(gK2 103 146 101 102 100 true,true),(gM 104 3 100 true,true),(gO 105 2 5 100 true,true),(gK2 106 93 104 105 100 true,true),(gK2 107 91 103 106 100 true,true),(iP 108 100 107,false),(iM 109 108,false),(gM 110 3 109 true,false),(gO 111 2 11 109 true,false),(gK2 112 146 110 111 109 true,true),(gM 113 3 109 true,true),(gO 114 2 11 109 true,true),(gK2 115 93 113 114 109 true,true),(gK2 116 91 112 115 109 true,true),(iP 117 109 116,false),(iM 8 117,false)]
def bgV:aC:=(sq brK (.seq (sq brL (.cond (Tm 22) (sq brM .ret) .skip)) (.seq (sq brN (.block 0 (.loop brJ))) (sq brS (dq bnG (sq bnH (sq bnI (dq bnJ (dq bnK (dq bnL .ret))))))))))
def law:aW:=⟨4,118,bgV,[.tmp 8]⟩
open Go Go.RowKit Go.Sort Go.Shelf Go.Proofs
section
variable {E:Env} {H:PH} {w:World}
theorem bN.aaR (hW:bN E H w) {w':World} (hs:w.heap.size≤w'.heap.size) (hb:∀ b,b<w.heap.size→w'.heap[b]?=w.heap[b]?):bN E H w':=by
 refine⟨fun b cs h=>?_,fun o x h=>?_,fun o n h=>?_⟩
 ·obtain⟨h1,ty,fr,h2⟩:=hW.g b cs h
  exact⟨h1,ty,fr,(hb b (bMY.1 h2).1).trans h2⟩
 ·obtain⟨h1,h2⟩:=hW.h o x h
  exact⟨Nat.lt_of_lt_of_le h1 hs,h2.mono (.refl E) (hb o h1)⟩
 ·obtain⟨cur,ty,fr,h1,h2⟩:=hW.s o n h
  exact⟨cur,ty,fr,(hb o (bMY.1 h1).1).trans h1,h2⟩
theorem Ext.aaR {E':Env} {H':PH} {w1 w2:World} (h:Ext E H w E' H' w1) (ho:w2.os=w1.os) (ht:w2.tape=w1.tape) (hp:w2.output=w1.output) (hs:w1.heap.size≤w2.heap.size)
  (hb:∀ b,b<w1.heap.size→w2.heap[b]?=w1.heap[b]?):Ext E H w E' H' w2 :=
 ⟨h.env,ho.trans h.os,ht.trans h.tape,hp.trans h.output,Nat.le_trans h.size hs,fun b hlt hn=>(hb b (Nat.lt_of_lt_of_le hlt h.size)).trans (h.block b hlt hn),h.new,h.newG⟩
theorem adQ (hW:bN E H w) {o off:Nat} {rs:List (List PV)} {xs:List Int} (ho:H o=some (.rows 1 rs)) (hx:(rs.drop off).take xs.length=bD xs):Holds (Value.int .i64) w o off xs.toArray:=by
 obtain⟨-,cur,ty,h1,h2,h3,h4,h5⟩:=hW.h o _ ho
 intro j hj
 have hj':j<xs.length:=by simpa using hj
 have hat:at2 rs (off+j) 0=some (.int .i64 xs[j]):=by
  have e:((rs.drop off).take xs.length)[j]?=(bD xs)[j]?:=by rw[hx]
  rw[bND hj',bNA] at e
  unfold at2
  rw[e]
  simp[bD,hj']
 obtain⟨u,e1,e2,e3⟩:=h5 _ 0 _ hat
 cases e3
 have e4:xs.toArray[j]! = xs[j]:=by simp[hj']
 refine⟨?_,?_⟩
 ·simp only[World.cell?,h1,Option.isSome_none,bMP,if_false]
  rw[e4]
  simpa using e1
 ·simp[World.frozen?,h1]
theorem aWF (hW:bN E H w) {o:Nat} {xs ys:List Int} (ho:H o=some (.rows 1 (bD xs))) (hl:ys.length=xs.length) (n:Nat) (os:Array Obj) :
  bN E (H.set o (.rows 1 (bD ys))) (grow (putRow (Value.int .i64) (Sort.ahead w n) o 0 ys.toArray) os)∧Ext E H w E (H.set o (.rows 1 (bD ys))) (grow (putRow (Value.int .i64) (Sort.ahead w n) o 0 ys.toArray) os):=by
 obtain⟨-,cur,ty,h1,h2,h3,h4,h5⟩:=hW.h o _ ho
 have hlen:xs.length≤cur.size:=by simpa [bD] using h4
 have hR:jF E 1 (bD ys) (putCells (Value.int .i64) 0 ys.toArray cur):=by
  refine⟨fun r hr=>?_,?_,fun i j pv hp=>?_⟩
  ·unfold bD at hr
   rw[bKU] at hr
   obtain⟨n,-,rfl⟩:=hr
   rfl
  ·simp[bD,putCells]; omega
  ·unfold at2 bD at hp
   rw[bKS,bMR] at hp
   obtain⟨r,hr,hp⟩:=hp
   rw[bJX] at hr
   obtain⟨m,hm,rfl⟩:=hr
   have hi:=(bKY.1 hm).1
   cases j with
   | succ j=>simp at hp
   | zero =>
    simp at hp
    subst hp
    refine⟨.int .i64 m,?_,rfl,.int _ _⟩
    have hc:i<cur.size:=by omega
    simp only[Nat.mul_one,bLH,putCells,Array.getElem?_mapIdx,bMS hc,bKX,bJY,true_and,bKN,Nat.sub_zero,List.size_toArray]
    rw[if_pos hi]
    have:ys.toArray[i]! = m:=by
     obtain⟨h,e⟩:=bKY.1 hm
     simp[h,e]
    rw[this]
 obtain⟨k1,k2⟩:=hW.anK ho h1 (by simp[putCells]) hR
 have hheap:∀ b,b<(w.setRow o (putCells (Value.int .i64) 0 ys.toArray cur)).heap.size→(grow (putRow (Value.int .i64) (Sort.ahead w n) o 0 ys.toArray) os).heap[b]?=(w.setRow o (putCells (Value.int .i64) 0 ys.toArray cur)).heap[b]?:=by
  intro b hb
  have hb':b<w.heap.size:=by simpa [World.setRow] using hb
  have e1:(grow (putRow (Value.int .i64) (Sort.ahead w n) o 0 ys.toArray) os).heap[b]?=(putRow (Value.int .i64) (Sort.ahead w n) o 0 ys.toArray).heap[b]?:=by
   unfold grow
   exact Array.getElem?_append_left (by simpa using hb')
  rw[e1]
  simp only[putRow,mapBlock,World.setRow,Array.getElem?_modify,heap_ahead]
  by_cases e:o=b
  ·subst e
   simp[h1,onCells]
  ·simp[e]
 have hsize:(w.setRow o (putCells (Value.int .i64) 0 ys.toArray cur)).heap.size≤(grow (putRow (Value.int .i64) (Sort.ahead w n) o 0 ys.toArray) os).heap.size:=by
  simp[World.setRow]
 exact⟨k1.aaR hsize hheap,k2.aaR rfl rfl rfl hsize hheap⟩
end
section
variable {C:Ctx} {ρ:Ren} {name:Nat}
def sorted (xs:List Int):List Int:=xs.mergeSort fun x y=>decide (x≤y)
theorem a5D (L:Lays.n189 C.P ρ) (hn:C.num name=ρ.f 189) (hf:∃ fn,C.P.funcs[C.num name]?=some fn∧fn.body.isSome=true∧(fn.name=="runtime.NumGoroutine")=false) (o:Nat) (xs:List Int) (hx:xs≠[]) (hl:xs.length<4611686018427387904) :
  aD C name [.osl o 1 0 xs.length] (PH.nil.set o (.rows 1 (bD xs))) (fun r H'=>r=.tup []∧H'=PH.nil.set o (.rows 1 (bD (sorted xs)))):=by
 refine⟨hf,fun E w vs hN hW hvs=>?_⟩
 have ho:(PH.nil.set o (.rows 1 (bD xs))) o=some (.rows 1 (bD xs)):=by simp[bW]
 obtain⟨vl⟩:=vs
 cases hvs with
 | cons h1 h2 =>
 cases h2
 cases h1 with
 | @osl _ _ _ _ cap n a hb hsp bJK hlen bJF hs bIQ =>
 have hcap:cap≠0:=by
  intro e; subst e
  exact hx (bNC Om)
 have ha:a=⟨o,0,none⟩:=by
  obtain⟨b,off,sp⟩:=a
  simp only at hb hsp bJK
  subst hb; subst hsp
  rcases bJK with h | h
  ·exact (hcap h).elim
  ·simp at h; subst h; rfl
 subst ha
 rw[hn]
 have hH:=adQ hW (off:=0) (xs:=xs) ho (by rw[bKQ]; exact bKF (by simp[bD]))
 refine (Any.slices_Sort_int L o 0 cap xs w hH (hW.h o _ ho).1 hl).mono fun e w' he=>?_
 obtain⟨rfl,n,os,rfl⟩:=he
 obtain⟨k1,k2⟩:=aWF hW ho (ys:=sorted xs) (by simp[sorted]) n os
 rw[show (PH.nil.set o (.rows 1 (bD xs))).set o (.rows 1 (bD (sorted xs)))=PH.nil.set o (.rows 1 (bD (sorted xs))) from PH.ext fun q=>by simp only[bW]; split<;>rfl] at k1 k2
 exact⟨_,.tup [],E,_,rfl,k1,.tup #[] rfl (by simp),k2,rfl,rfl⟩
theorem aQN (L:Lays.n189 C.P ρ) (hn:C.num name=ρ.f 189) (hf:∃ fn,C.P.funcs[C.num name]?=some fn∧fn.body.isSome=true∧(fn.name=="runtime.NumGoroutine")=false) (v:PV) (H:PH)
  (hv:v=.aB∨∃ o off,v=.osl o 1 off 0):aD C name [v] H (fun r H'=>r=.tup []∧H'=H):=by
 refine⟨hf,fun E w vs hN hW hvs=>?_⟩
 obtain⟨vl⟩:=vs
 cases hvs with
 | cons h1 h2 =>
 cases h2
 rename_i u
 have:∃ p cap,u=.slice p 0 cap:=by
  rcases hv with rfl | ⟨o,off,rfl⟩
  ·cases h1; exact⟨none,0,rfl⟩
  ·cases h1; exact⟨_,_,rfl⟩
 obtain⟨p,cap,rfl⟩:=this
 rw[hn]
 refine (Any.slices_Sort_int_none L p cap w).mono fun e w' he=>?_
 obtain⟨rfl,rfl⟩:=he
 exact⟨_,.tup [],E,_,rfl,hW,.tup #[] rfl (by simp),.refl _ _ _,rfl,rfl⟩
theorem axT (L:Lays2.n20 C.P ρ) (hn:C.num name=ρ.f 20) (hf:∃ fn,C.P.funcs[C.num name]?=some fn∧fn.body.isSome=true∧(fn.name=="runtime.NumGoroutine")=false) (o:Nat) (xs:List Int) (hx:xs≠[]) (hl:xs.length<4611686018427387904) :
  aD C name [.osl o 1 0 xs.length] (PH.nil.set o (.rows 1 (bD xs))) (fun r H'=>r=.osl o 1 0 (Lib.compact xs).length∧H'=PH.nil.set o (.rows 1 (bD (Lib.compact xs++bJR (xs.length-(Lib.compact xs).length) 0)))):=by
 refine⟨hf,fun E w vs hN hW hvs=>?_⟩
 have ho:(PH.nil.set o (.rows 1 (bD xs))) o=some (.rows 1 (bD xs)):=by simp[bW]
 obtain⟨vl⟩:=vs
 cases hvs with
 | cons h1 h2 =>
 cases h2
 cases h1 with
 | @osl _ _ _ _ cap n a hb hsp bJK hlen bJF hs bIQ =>
 have hcap:cap≠0:=by
  intro e; subst e
  exact hx (bNC Om)
 have ha:a=⟨o,0,none⟩:=by
  obtain⟨b,off,sp⟩:=a
  simp only at hb hsp bJK
  subst hb; subst hsp
  rcases bJK with h | h
  ·exact (hcap h).elim
  ·simp at h; subst h; rfl
 subst ha
 rw[hn]
 have hH:=adQ hW (off:=0) (xs:=xs) ho (by rw[bKQ]; exact bKF (by simp[bD]))
 have hle:(Lib.compact xs).length≤xs.length:=by
  unfold Lib.compact Lib.compactUpTo
  have:=List.length_filter_le (Lib.keeps xs.toArray) (bJP xs.length)
  simpa using this
 refine (Any.slices_Compact_int L o 0 cap xs w hH Om hlen).mono fun e w' he=>?_
 obtain⟨rfl,n,rfl⟩:=he
 have key:=aWF hW ho (ys:=Lib.compact xs++bJR (xs.length-(Lib.compact xs).length) 0) (by simp; omega) n #[]
 rw[grow_empty] at key
 obtain⟨k1,k2⟩:=key
 rw[show ∀ z,(PH.nil.set o (.rows 1 (bD xs))).set o (.rows 1 z)=PH.nil.set o (.rows 1 z) from fun z=>PH.ext fun q=>by simp only[bW]; split<;>rfl] at k1 k2
 exact⟨_,.osl o 1 0 _,E,_,rfl,k1,.osl rfl rfl (.inr (by simp)) Om bJF hs bIQ,k2,rfl,rfl⟩
theorem alJ (L:Lays2.n20 C.P ρ) (hn:C.num name=ρ.f 20) (hf:∃ fn,C.P.funcs[C.num name]?=some fn∧fn.body.isSome=true∧(fn.name=="runtime.NumGoroutine")=false) (v:PV) (H:PH)
  (hv:v=.aB∨∃ o off,v=.osl o 1 off 0):aD C name [v] H (fun r H'=>r=v∧H'=H):=by
 refine⟨hf,fun E w vs hN hW hvs=>?_⟩
 obtain⟨vl⟩:=vs
 cases hvs with
 | cons h1 h2 =>
 cases h2
 rename_i u
 have:∃ p cap,u=.slice p 0 cap:=by
  rcases hv with rfl | ⟨o,off,rfl⟩
  ·cases h1; exact⟨none,0,rfl⟩
  ·cases h1; exact⟨_,_,rfl⟩
 obtain⟨p,cap,rfl⟩:=this
 rw[hn]
 refine (Any.slices_Compact_int_empty L p cap w).mono fun e w' he=>?_
 obtain⟨rfl,rfl⟩:=he
 exact⟨_,v,E,_,rfl,hW,h1,.refl _ _ _,rfl,rfl⟩
end
abbrev lists (ws:List (List Int)):PV:=.sl 1 (ws.map fun w=>[ints w])
def akY (xs:List Int) (r:PV) (H:PH):Prop:=(xs=[]∧r=.aB∧H=.nil)∨(xs≠[]∧∃ o,r=.osl o 1 0 xs.length∧H=PH.nil.set o (.rows 1 (bD xs)))
def bkK (n:Int) (r:PV) (H:PH):Prop:=(n=0∧r=.aB∧H=.nil)∨(0<n∧∃ o,r=.osl o 1 0 0∧H=PH.nil.set o (.rows 1 []))
def a1T (ws:List (List Int)) (i:Nat):PF:=((((((PF.nil.set 0 (lists ws)).set 2 (.aB)).set 3 (.int .i64 ((ws.take i).flatten.length:Nat))).set 9 (lists ws)).set 10 (.int .i64 (ws.length:Nat))).set 11 (.int .i64 i))
def EN (ws:List (List Int)) (v:PV) (i:Nat):PF:=(((((PF.nil.set 2 (.aB)).set 6 (v)).set 25 (lists ws)).set 26 (.int .i64 (ws.length:Nat))).set 27 (.int .i64 i))
theorem apM (ws:List (List Int)) {i:Nat} (h:i<ws.length):(ws.take (i+1)).flatten=(ws.take i).flatten++ws[i]:=by
 rw[bLL h,List.flatten_append]; simp
theorem alR (ws:List (List Int)) (i:Nat):(ws.take i).flatten.length≤ws.flatten.length:=by
 conv=>rhs; rw[← bMD i ws,List.flatten_append,bJW]
 omega
theorem a7M {C:Ctx} (ws:List (List Int)) (h1:ws.length≤1000000) (h2:ws.flatten.length≤1000000) (hg:∀ n:Int,0≤n→n≤1000000→aD C 179 [.aB,.int .i64 n] .nil (bkK n)) :
  zS.wp C (aU concat.res (akY ws.flatten)) (PF.args [lists ws]) .nil:=by
 simp only[go_sem,γ,δ,ε,ζ,η,θ,ι,κ,μ,ν,ξ,ο,ρ,σ,τ,υ,reduceIte,reduceCtorEq,zS,aoE,aoF,aoG,lists,concat]
 refine wp_loop (α:=Nat) (a1T ws) (fun _=>.nil) (fun i=>i≤ws.length) (fun i=>ws.length-i) 0 Om ?_ PH.nil_le ?_
 ·unfold a1T
  exact Lq
 intro i hi
 simp only[go_sem,γ,δ,ε,ζ,η,θ,ι,κ,μ,ν,ξ,ο,ρ,σ,τ,υ,reduceIte,reduceCtorEq,aoD,aoH,a1T]
 refine kW (fun h=>?_) (fun h=>?_)
 ·have hlt:i<ws.length:=by simpa using h
  have hx:(ws.map fun w=>[ints w])[i]?=some [ints ws[i]]:=by simp[hlt]
  have hf:=apM ws hlt
  have hle:=alR ws (i+1)
  have hlen:(ws.take (i+1)).flatten.length=(ws.take i).flatten.length+ws[i].length:=by rw[hf,bJW]
  have hw:IntKind.i64.wrap (((ws.take i).flatten.length:Nat)+(ws[i].length:Int))=((ws.take (i+1)).flatten.length:Nat):=by
   rw[hlen]
   rw[show (((ws.take i).flatten.length:Nat):Int)+(ws[i].length:Int)=(((ws.take i).flatten.length+ws[i].length:Nat):Int) by omega]
   exact sN Om
  have hn:¬ (((ws.take (i+1)).flatten.length:Nat):Int)<0:=by omega
  simp only[go_sem,γ,δ,ε,ζ,η,θ,ι,κ,μ,ν,ξ,ο,ρ,σ,τ,υ,reduceIte,reduceCtorEq,aoI,aoJ,hx,hw,aoK,hn,aoL]
  refine aG (i+1) Om Om ?_ PH.nil_le
  unfold a1T
  (repeat' (first|exact PF.nil_le|refine PF.aI ?_ ?_))<;>first|(simp only[go_sem,γ,δ,ε,ζ,η,θ,ι,κ,μ,ν,ξ,ο,ρ,σ,τ,υ,reduceIte,reduceCtorEq,wZz i]<;>rfl)|rfl
 ·have he:i=ws.length:=by simp at h; omega
  subst he
  have ht:(ws.take ws.length).flatten=ws.flatten:=by rw[bKL]
  simp only[go_sem,γ,δ,ε,ζ,η,θ,ι,κ,μ,ν,ξ,ο,ρ,σ,τ,υ,reduceIte,reduceCtorEq,aaZ,ht]
  refine fP (hg (ws.flatten.length:Nat) Om Om) Ev PH.nil_le ?_
  intro r H' hr ha
  rcases hr with ⟨hn,rfl,rfl⟩ | ⟨hn,o,rfl,rfl⟩
  ·have h0:ws.flatten=[]:=bNC Om
   rw[PH.lC]
   simp only[go_sem,γ,δ,ε,ζ,η,θ,ι,κ,μ,ν,ξ,ο,ρ,σ,τ,υ,reduceIte,reduceCtorEq,EQ]
   refine wp_loop (α:=Nat) (EN ws .aB) (fun _=>.nil) (fun i=>i≤ws.length) (fun i=>ws.length-i) 0 Om ?_ PH.nil_le ?_
   ·unfold EN
    exact Lq
   intro i hi
   simp only[go_sem,γ,δ,ε,ζ,η,θ,ι,κ,μ,ν,ξ,ο,ρ,σ,τ,υ,reduceIte,reduceCtorEq,EP,ER,EN]
   refine kW (fun h=>?_) (fun h=>?_)
   ·have hlt:i<ws.length:=by simpa using h
    have hx:(ws.map fun w=>[ints w])[i]?=some [ints ws[i]]:=by simp[hlt]
    have he:ws[i]=[]:=by
     rw[List.flatten_eq_nil_iff] at h0
     exact h0 _ (bJS _)
    simp only[go_sem,γ,δ,ε,ζ,η,θ,ι,κ,μ,ν,ξ,ο,ρ,σ,τ,υ,reduceIte,reduceCtorEq,ES,ET,hx,he]
    refine yB (src:=[]) rfl (by unfold roomFor; simp) (fun _=>?_) (fun h=>(h rfl).elim)
    simp only[go_sem,γ,δ,ε,ζ,η,θ,ι,κ,μ,ν,ξ,ο,ρ,σ,τ,υ,reduceIte,reduceCtorEq,uJ]
    refine aG (i+1) Om Om ?_ PH.nil_le
    unfold EN
    (repeat' (first|exact PF.nil_le|refine PF.aI ?_ ?_))<;>first|(simp only[go_sem,γ,δ,ε,ζ,η,θ,ι,κ,μ,ν,ξ,ο,ρ,σ,τ,υ,reduceIte,reduceCtorEq,wZz i]<;>rfl)|rfl
   ·simp only[go_sem,γ,δ,ε,ζ,η,θ,ι,κ,μ,ν,ξ,ο,ρ,σ,τ,υ,reduceIte,reduceCtorEq,uK]
    exact aX (.inr rfl) .nil Ev PH.nil_le (.inl ⟨h0,rfl,rfl⟩)
  ·have h0:ws.flatten≠[]:=by intro e; rw[e] at hn; simp at hn
   rw[PH.kG]
   simp only[go_sem,γ,δ,ε,ζ,η,θ,ι,κ,μ,ν,ξ,ο,ρ,σ,τ,υ,reduceIte,reduceCtorEq,EQ]
   refine wp_loop (α:=Nat × Nat) (fun a=>EN ws (.osl a.2 1 0 (ws.take a.1).flatten.length) a.1) (fun a=>PH.nil.set a.2 (.rows 1 (bD (ws.take a.1).flatten))) (fun a=>a.1≤ws.length) (fun a=>ws.length-a.1) (0,o) (by simp) ?_ ?_ ?_
   ·unfold EN
    exact Lq
   ·exact PH.aI PH.nil_le (by simp only[go_sem,γ,δ,ε,ζ,η,θ,ι,κ,μ,ν,ξ,ο,ρ,σ,τ,υ,reduceIte,reduceCtorEq]; rfl)
   rintro⟨i,q⟩ hi
   simp only[go_sem,γ,δ,ε,ζ,η,θ,ι,κ,μ,ν,ξ,ο,ρ,σ,τ,υ,reduceIte,reduceCtorEq,EP,ER,EN]
   simp only at hi
   refine kW (fun h=>?_) (fun h=>?_)
   ·have hlt:i<ws.length:=by simpa using h
    have hx:(ws.map fun w=>[ints w])[i]?=some [ints ws[i]]:=by simp[hlt]
    have hf:=apM ws hlt
    have hle:=alR ws (i+1)
    have hlen:(ws.take (i+1)).flatten.length=(ws.take i).flatten.length+ws[i].length:=by rw[hf,bJW]
    have hrows:(bD (ws.take i).flatten).take (ws.take i).flatten.length++(ws[i].map fun n=>[PV.int .i64 n])=bD (ws.take (i+1)).flatten:=by
     rw[bKF (by unfold bD; rw[bJO]; exact bJQ _),hf]; unfold bD; rw[bLK]
    have fin:∀ (q':Nat) (H':PH),H' q'=some (.rows 1 (bD (ws.take (i+1)).flatten))→∀ F':PF,F' 2=some .aB→F' 6=some (.osl q' 1 0 (ws.take (i+1)).flatten.length)→F' 25=some (lists ws)→F' 26=some (.int .i64 ws.length)→F' 27=some (.int .i64 ((i+1:Nat):Int)) →
      eE (fun a:Nat × Nat=>EN ws (.osl a.2 1 0 (ws.take a.1).flatten.length) a.1) (fun a=>PH.nil.set a.2 (.rows 1 (bD (ws.take a.1).flatten))) (fun a=>a.1≤ws.length) (fun a=>ws.length-a.1) (ws.length-i) (dW 2 (iV C (aC.wp C ((aC.region uK).seq aC.ret)) (aU [.tmp 2] (akY ws.flatten)))) .normal F' H':=by
     intro q' H' e1 F' f2 f6 f25 f26 f27
     refine aG (i+1,q') (by simp only; omega) (by simp only; omega) ?_ (PH.aI PH.nil_le e1)
     unfold EN
     exact PF.aI (PF.aI (PF.aI (PF.aI (PF.aI PF.nil_le f2) f6) f25) f26) f27
    simp only[go_sem,γ,δ,ε,ζ,η,θ,ι,κ,μ,ν,ξ,ο,ρ,σ,τ,υ,reduceIte,reduceCtorEq,ES,ET,hx]
    refine yC (src:=ws[i].map fun n=>[PV.int .i64 n]) (rs:=bD (ws.take i).flatten) rfl (by unfold roomFor; rw[bJO]; simp only[maxLen]; omega) Sq (by unfold bD; rw[bJO]; exact bJQ _) ?_ ?_
    ·rw[hrows,bJO,← hlen]
     simp only[go_sem,γ,δ,ε,ζ,η,θ,ι,κ,μ,ν,ξ,ο,ρ,σ,τ,υ,reduceIte,reduceCtorEq,uJ,wZz i]
     exact fin q _ Sq _ Sq Sq Sq Sq Sq
    ·intro q' hq'
     rw[hrows,bJO,← hlen]
     simp only[go_sem,γ,δ,ε,ζ,η,θ,ι,κ,μ,ν,ξ,ο,ρ,σ,τ,υ,reduceIte,reduceCtorEq,uJ,wZz i]
     exact fin q' _ Sq _ Sq Sq Sq Sq Sq
   ·have he:i=ws.length:=by simp at h; omega
    subst he
    simp only[go_sem,γ,δ,ε,ζ,η,θ,ι,κ,μ,ν,ξ,ο,ρ,σ,τ,υ,reduceIte,reduceCtorEq,uK]
    refine aX (.inr rfl) (PH.nil.set q (.rows 1 (bD ws.flatten))) Ev (PH.aI PH.nil_le (by simp only[go_sem,γ,δ,ε,ζ,η,θ,ι,κ,μ,ν,ξ,ο,ρ,σ,τ,υ,reduceIte,reduceCtorEq,ht])) (.inr ⟨h0,q,?_,rfl⟩)
    simp only[aT,ht]
abbrev WPs:=List (PV × List Int)
def fH (ps:WPs):List (List PV):=ps.map fun p=>[p.1]
def kY (ps:WPs):List LI:=ps.map fun p=>(p.1,1,bD p.2)
def wls (ps:WPs):List (List Int):=ps.map (·.2)
def fD (vo:PV) (ps:WPs):List LI:=(vo,1,fH ps)::kY ps
section
variable {H:PH} {B:List BX}
theorem nL (ps:WPs):(fH ps).length=ps.length:=bJO _
theorem amB {ps:WPs} {i:Nat} {v:PV} {w:List Int} (hi:ps[i]?=some (v,w)):(kY ps)[i]?=some (v,1,bD w):=by
 unfold kY
 rw[bKS,hi]; rfl
theorem ZB {ps:WPs} {i:Nat} {v:PV} {w:List Int} (hi:ps[i]?=some (v,w)):(fH ps)[i]?=some [v]:=by
 unfold fH
 rw[bKS,hi]; rfl
theorem aR.ayI (h:aR H B []):aR H B (fD .aB []):=h.nI 1
theorem aR.inner {vo:PV} {ps:WPs} (h:aR H B (fD vo ps)) {i:Nat} {v:PV} {w:List Int} (hi:ps[i]?=some (v,w)):bK H 1 v (bD w):=h.own (i+1) (amB hi)
theorem aR.outer {vo:PV} {ps:WPs} (h:aR H B (fD vo ps)):bK H 1 vo (fH ps):=h.own 0 rfl
theorem lM (a b:List Int):bD (a++b)=bD a++bD b:=bLK
theorem aR.bkP {vo:PV} {ps:WPs} (h:aR H B (fD vo ps)) {i b:Nat} {v y:PV} {w src:List Int} {K:PV→PH→Prop} (hi:ps[i]?=some (v,w)) (hy:dN H 1 y=some (bD src)) (hr:roomFor w.length src.length b) (hne:src≠[])
  (hk:∀ q H',aR H' B ((vo,1,fH ps)::(kY ps).set i (.osl q 1 0 (w++src).length,1,bD (w++src)))→K (.osl q 1 0 (w++src).length) H'):lF H 1 b v y K:=by
 have bIP:bD src≠[]:=fun e=>hne (List.map_eq_nil_iff.1 e)
 refine h.append (i+1) (amB hi) hy (by rw[cK,cK]; exact hr) fun v' H' h' hv=>?_
 obtain⟨q,rfl⟩:=hv bIP
 rw[← lM,cK] at h' ⊢
 exact hk q H' h'
theorem aR.bbI {qo n i:Nat} {ps:WPs} {v':PV} {w':List Int} (h:aR H B ((.osl qo 1 0 n,1,fH ps)::(kY ps).set i (v',1,bD w'))) :
  ∃ rs,H qo=some (.rows 1 rs)∧n≤rs.length∧rs.take n=fH ps∧aR (H.set qo (.rows 1 (rs.set i [v']))) B (fD (.osl qo 1 0 n) (ps.set i (v',w'))):=by
 obtain⟨rs,h1,h2,h3,h4⟩:=h.store 0 rfl i [v']
 refine⟨rs,h1,h2,h3,?_⟩
 have e:fD (.osl qo 1 0 n) (ps.set i (v',w'))=((.osl qo 1 0 n,1,fH ps)::(kY ps).set i (v',1,bD w')).set 0 (.osl qo 1 0 n,1,(fH ps).set i [v']):=by
  unfold fD fH kY
  rw[List.map_set,List.map_set]
  rfl
 rw[e]
 exact h4
theorem aR.bnS {vo:PV} {ps:WPs} {b:Nat} {y:PV} {K:PV→PH→Prop} (h:aR H B (fD vo ps)) (hy:dN H 1 y=some [[.aB]]) (hr:roomFor ps.length 1 b)
  (hk:∀ q H',aR H' B (fD (.osl q 1 0 (ps.length+1)) (ps++[(.aB,[])]))→K (.osl q 1 0 (ps.length+1)) H'):lF H 1 b vo y K:=by
 refine h.append 0 (src:=[[.aB]]) rfl hy (by rw[nL]; exact hr) fun v' H' h' hv=>?_
 obtain⟨q,rfl⟩:=hv (by simp)
 have h2:=h'.nI 1
 rw[bJW,nL] at h2 ⊢
 refine hk q H' ?_
 have e:fD (.osl q 1 0 (ps.length+1)) (ps++[(.aB,[])])=(((vo,1,fH ps)::kY ps).set 0 (.osl q 1 0 (ps.length+1),1,fH ps++[[.aB]]))++[(.aB,1,[])]:=by
  unfold fD fH kY
  rw[bLK,bLK]
  rfl
 rw[e]
 exact h2
def oV (fs:List (List PV)) (ws:List (List Int)):Prop:=fs.length=ws.length∧∀ (i:Nat) r w,fs[i]?=some r→ws[i]?=some w→r=[ints w]∨(r=[.aB]∧w=[])
theorem oV.nil:oV [] []:=⟨rfl,fun i r w h=>by cases h⟩
theorem oV.snoc {fs:List (List PV)} {ws:List (List Int)} {u:PV} {w:List Int} (h:oV fs ws) (hu:u=ints w∨(u=.aB∧w=[])):oV (fs++[[u]]) (ws++[w]):=by
 refine⟨by simp[h.1],fun i r x hr hx=>?_⟩
 rcases Nat.lt_trichotomy i fs.length with c | c | c
 ·rw[bMH c] at hr
  rw[bMH (by rw[← h.1]; exact c)] at hx
  exact h.2 i r x hr hx
 ·subst c
  rw[bLX (bJQ _),bMF] at hr
  rw[h.1,bLX (bJQ _),bMF] at hx
  cases hr; cases hx
  rcases hu with rfl | ⟨rfl,rfl⟩
  ·exact .inl rfl
  ·exact .inr ⟨rfl,rfl⟩
 ·rw[bLX Om,bLD (by simp; omega)] at hr
  cases hr
theorem oV.flat {fs:List (List PV)} {ws:List (List Int)} (h:oV fs ws):Flat fs:=Flat.of fun r hr c hc q s rs=>by
 obtain⟨i,hi⟩:=List.mem_iff_getElem?.1 hr
 have hl:=(bKY.1 hi).1
 rcases h.2 i r _ hi (bJZ (by rw[← h.1]; exact hl)) with rfl | ⟨rfl,-⟩
 ·rw[bKV] at hc; subst hc; rfl
 ·rw[bKV] at hc; subst hc; rfl
theorem oV.co {fs:List (List PV)} {ws:List (List Int)} (h:oV fs ws):Co (.sl 1 fs) (lists ws):=by
 have key:∀ (i:Nat) r t,fs[i]?=some r→(ws.map fun w=>[ints w])[i]?=some t→∃ w,t=[ints w]∧(r=[ints w]∨(r=[.aB]∧w=[])):=fun i r t hr ht=>by
  rw[bKS] at ht
  cases hw:ws[i]? with
  | none=>rw[hw] at ht; cases ht
  | some w =>
   rw[hw] at ht
   cases ht
   exact⟨w,rfl,h.2 i r w hr hw⟩
 refine .sl (by rw[bJO,h.1]) (fun i r t hr ht=>?_) (fun i j p q hp hq=>?_)
 ·obtain⟨w,rfl,h1 | ⟨h1,-⟩⟩:=key i r t hr ht<;>subst h1<;>rfl
 ·unfold at2 at hp hq
  cases hr:fs[i]? with
  | none=>rw[hr] at hp; cases hp
  | some r =>
   cases ht:(ws.map fun w=>[ints w])[i]? with
   | none=>rw[ht] at hq; cases hq
   | some t =>
    rw[hr] at hp
    rw[ht] at hq
    obtain⟨w,rfl,h1⟩:=key i r t hr ht
    rcases h1 with rfl | ⟨rfl,rfl⟩
    ·have:some p=some q:=hp.symm.trans hq
     cases this
     exact .refl _
    ·cases j with
     | zero=>cases hp; cases hq; exact .nil 1
     | succ j=>cases hp
end
def Fx (u:PV):Prop:=∀ q s rs,PV.frz q s rs u=u
theorem Fx.int (k:IntKind) (n:Int):Fx (.int k n):=fun _ _ _=>rfl
theorem Fx.bool (b:Bool):Fx (.bool b):=fun _ _ _=>rfl
theorem Fx.sl (n:Nat) (r:List (List PV)):Fx (.sl n r):=fun _ _ _=>rfl
theorem Fx.aB:Fx .aB:=fun _ _ _=>rfl
theorem Fx.ptr (q z i c:Nat):Fx (.ptr q z i c):=fun _ _ _=>rfl
theorem Fx.bH (c:List PV):Fx (.bH c):=fun _ _ _=>rfl
theorem bK.dE {H:PH} {s:Nat} {v:PV} {rows:List (List PV)} (h:bK H s v rows) (q z:Nat) (rs:List (List PV)):PV.frz q z rs v=PV.dE q z rs v:=by
 rcases h with ⟨-,rfl⟩ | ⟨p,rs',rfl,-⟩<;>rfl
def aNS (φ:PV→PV) (F:PF):PF:=fun i=>(F i).map φ
theorem TP (φ:PV→PV) (F:PF) (i:Nat):aNS φ F i=(F i).map φ:=rfl
theorem YO:∀ (ps:WPs) {H:PH} {B:List BX} {vo:PV} (fs:List (List PV)) (ws0:List (List Int)),oV fs ws0→aR H B ((vo,1,fs++fH ps)::kY ps)→(∀ b∈B,∀ q s rs,cT.frz q s rs b.2=b.2) →
  ∃ (φ:PV→PV) (H1:PH),Co (φ vo) (lists (ws0++wls ps))∧(∀ u,Fx u→φ u=u)∧(∀ e:Int,φ (.tup [vo,.int .i64 e])=.tup [φ vo,.int .i64 e])∧aR H1 B []∧(∀ F:PF,jC F H (aNS φ F) H1)∧∀ o,(H o=none∨vo.oid=some o∨∃ p∈ps,p.1.oid=some o)→H1 o=none
 | [],H,B,vo,fs,ws0,hs,h,hB=>by
  have e0:fs++fH []=fs:=bLM fs
  have e1:ws0++wls []=ws0:=bLM ws0
  rw[e0] at h
  rw[e1]
  rcases h.own 0 rfl with ⟨h1,rfl⟩ | ⟨q,rs,rfl,_⟩
  ·refine⟨id,H,?_,fun _ _=>rfl,fun _=>rfl,h.a2F 0,fun F=>?_,fun o ho=>?_⟩
   ·subst h1
    have:ws0=[]:=List.length_eq_zero_iff.1 hs.1.symm
    subst this
    exact .nil 1
   ·have:aNS id F=F:=funext fun i=>by rw[TP]; simp
    rw[this]
    exact .refl _ _
   ·rcases ho with ho | ho | ⟨p,hp,-⟩
    ·exact ho
    ·cases ho
    ·cases hp
  ·obtain⟨rs,z1,z2,z3,z4,z5⟩:=h.frz 0 rfl
   refine⟨PV.frz q 1 rs,H.frz q 1 rs,?_,fun u hu=>hu _ _ _,fun e=>?_,?_,fun F=>.step q z1 (.refl _ _),fun o ho=>?_⟩
   ·rw[z3]; exact hs.co
   ·show PV.tup [PV.dE q 1 rs (.osl q 1 0 fs.length),.int .i64 e]=_
    rw[z2,z3]
   ·have eB:(B.map fun b=>(b.1,b.2.frz q 1 rs))=B:=by
     conv=>rhs; rw[← List.map_id B]
     refine List.map_congr_left fun b hb=>?_
     rw[hB b hb q 1 rs]; rfl
    rw[eB] at z5
    exact z5
   ·rw[wF]
    rcases ho with ho | ho | ⟨p,hp,-⟩
    ·rw[ho]; split<;>rfl
    ·have:q=o:=by injection ho
     rw[if_pos this.symm]
    ·cases hp
 | (v,w)::ps,H,B,vo,fs,ws0,hs,h,hB=>by
  have eo:∀ u:PV,fs++[[u]]++fH ps=fs++[u]::fH ps:=fun u=>by rw[bKP]; rfl
  have ew:ws0++[w]++wls ps=ws0++wls ((v,w)::ps):=by rw[bKP]; rfl
  have ho:bK H 1 v (bD w):=h.own 1 rfl
  rcases ho with ⟨h1,rfl⟩ | ⟨q,rs,rfl,_⟩
  ·have hw:w=[]:=List.map_eq_nil_iff.1 h1
   have h2:=h.a2F 1
   obtain⟨φ,H1,k1,k2,k3,k4,k5,k6⟩:=YO ps (fs++[[.aB]]) (ws0++[w]) (hs.snoc (.inr ⟨rfl,hw⟩)) (by rw[eo]; exact h2) hB
   rw[ew] at k1
   refine⟨φ,H1,k1,k2,k3,k4,k5,fun o ho=>k6 o ?_⟩
   rcases ho with ho | ho | ⟨p,hp,ho⟩
   ·exact .inl ho
   ·exact .inr (.inl ho)
   ·rcases bKE.1 hp with rfl | hp
    ·cases ho
    ·exact .inr (.inr ⟨p,hp,ho⟩)
  ·obtain⟨rs,z1,z2,z3,z4,z5⟩:=h.frz 1 rfl
   have eB:(B.map fun b=>(b.1,b.2.frz q 1 rs))=B:=by
    conv=>rhs; rw[← List.map_id B]
    refine List.map_congr_left fun b hb=>?_
    rw[hB b hb q 1 rs]; rfl
   have y0:PV.dE q 1 rs vo=vo:=z4 0 _ (by decide) rfl
   have y0':PV.frz q 1 rs vo=vo:=((h.own 0 rfl).dE q 1 rs).trans y0
   have yp:∀ p∈ps,PV.dE q 1 rs p.1=p.1:=fun p hp=>by
    obtain⟨j,hj⟩:=List.mem_iff_getElem?.1 hp
    exact z4 (j+2) (p.1,1,bD p.2) Om (amB hj)
   have er:(fs++fH ((.osl q 1 0 (bD w).length,w)::ps)).map (fun r=>r.map (PV.dE q 1 rs))=fs++[[ints w]]++fH ps:=by
    rw[bLK,hs.flat,bKP]
    congr 1
    show [PV.dE q 1 rs (.osl q 1 0 (bD w).length)]::(fH ps).map _=_
    rw[z2]
    have:(fH ps).map (fun r=>r.map (PV.dE q 1 rs))=fH ps:=by
     unfold fH
     rw[List.map_map]
     refine List.map_congr_left fun p hp=>?_
     show [PV.dE q 1 rs p.1]=_
     rw[yp p hp]
    rw[this]
    rfl
   have ei:(kY ps).map (fun x=>(x.1,x.2.1,x.2.2.map fun r=>r.map (PV.dE q 1 rs)))=kY ps:=by
    unfold kY
    rw[List.map_map]
    refine List.map_congr_left fun p _=>?_
    show (p.1,1,(bD p.2).map fun r=>r.map (PV.dE q 1 rs))=_
    rw[show (bD p.2).map (fun r=>r.map (PV.dE q 1 rs))=bD p.2 from Flat.map p.2 (fun x c hc q s rs=>by rw[bKV] at hc; subst hc; rfl) q 1 rs]
   have z6:aR (H.frz q 1 rs) B ((vo,1,fs++[[ints w]]++fH ps)::kY ps):=by
    rw[eB] at z5
    have z7:aR (H.frz q 1 rs) B ((vo,1,(fs++fH ((.osl q 1 0 (bD w).length,w)::ps)).map (fun r=>r.map (PV.dE q 1 rs)))::(kY ps).map (fun x=>(x.1,x.2.1,x.2.2.map fun r=>r.map (PV.dE q 1 rs)))):=z5
    rw[er,ei] at z7
    exact z7
   obtain⟨φ,H1,k1,k2,k3,k4,k5,k6⟩:=YO ps (fs++[[ints w]]) (ws0++[w]) (hs.snoc (.inl rfl)) z6 hB
   rw[ew] at k1
   refine⟨fun u=>φ (PV.frz q 1 rs u),H1,?_,fun u hu=>?_,fun e=>?_,k4,fun F=>.step q z1 ?_,fun o ho=>k6 o ?_⟩
   ·simp only
    rw[y0']; exact k1
   ·simp only
    rw[hu,k2 u hu]
   ·simp only
    rw[y0']
    have yt:PV.frz q 1 rs (.tup [vo,.int .i64 e])=.tup [PV.frz q 1 rs vo,.int .i64 e]:=by
     rcases h.own 0 rfl with ⟨-,e0⟩ | ⟨p,rs',e0,-⟩<;>(subst e0; rfl)
    rw[yt,y0',k3]
   ·have:aNS (fun u=>φ (PV.frz q 1 rs u)) F=aNS φ (F.frz q 1 rs):=funext fun i=>by
     rw[TP,TP,qW,Option.map_map]
     rfl
    rw[this]
    exact k5 _
   ·rw[wF]
    rcases ho with ho | ho | ⟨p,hp,ho⟩
    ·left; rw[ho]; split<;>rfl
    ·exact .inr (.inl ho)
    ·rcases bKE.1 hp with rfl | hp
     ·have:q=o:=by injection ho
      left; rw[if_pos this.symm]
     ·exact .inr (.inr ⟨p,hp,ho⟩)
theorem aoN {C:Ctx} {F:PF} {H Hs:PH} {S:Spec} {name:Nat} {D:List Nat} {vs:List PV} {v:PV} {args:List aP} {st:Bool} {d:Option Nat} {K:PF→PH→Prop} (hS:S name vs=some (D,fun G r H'=>r=v∧H'=G)) (hD:∀ o∈D,∃ x,H o=some x)
  (h:aD C name vs (H.only D) (fun r H'=>r=v∧H'=H.only D)) (ha:aP.evs F args=some vs) (hle:Hs.le H) (hk:K (F.put d v) H):dOp C Hs S st (.call name args) d K F H:=by
 refine⟨vs,D,_,ha,hS,hD,h,fun G=>⟨v,_,⟨rfl,rfl⟩,fun q y hy hn=>?_⟩,fun r H' hr _=>?_⟩
 ·rw[hy] at hn; cases hn
 ·obtain⟨rfl,rfl⟩:=hr
  rw[PH.OY _ (DN H D)]
  exact⟨hle,hk⟩
theorem bK.lenOf {H:PH} {v:PV} {rows:List (List PV)} {s:Nat} (h:bK H s v rows):PV.uE v=some (.int .i64 (rows.length:Nat)):=by
 rcases h with ⟨rfl,rfl⟩ | ⟨q,rs,rfl,-⟩<;>rfl
theorem aOP {C:Ctx} {F:PF} {H:PH} {name:Nat} {d:Option Nat} {v x u:PV} {l:List Int} {args:List aP} {K:PF→PH→Prop} (hv:Plain u) (h:aD C name [ints l,x] .nil (aE u)) (hx:Fx x) (hO:bK H 1 v (bD l)) (ha:aP.evs F args=some [v,x])
  (hk:K (F.put d u) H):fW C name args [] d K F H:=by
 rcases hO with ⟨h0,rfl⟩ | ⟨q,rs,rfl,h1,h2,h3⟩
 ·have:l=[]:=List.map_eq_nil_iff.1 h0
  subst this
  exact aA (h.args (.mU (.nil 1) (.mU (.refl x) .a3V))) ha hk
 ·refine CH hv ?_ h1 ha hk
  rw[bLR,bLR,List.map_nil,hx,oA h2,h3]
  exact h
def pB (l:List Int):Bool:=decide l.Nodup
theorem VA (l:List Int) (x:Int):pB (l++[x])=(pB l&&!l.contains x):=by
 unfold pB
 rw[Bool.eq_iff_iff,decide_eq_true_iff,bKM,decide_eq_true_iff,bMC]
 constructor
 ·rintro⟨h1,-,h3⟩
  refine⟨h1,?_⟩
  cases hc:l.contains x with
  | false=>rfl
  | true=>exact absurd rfl (h3 x (bMN.1 hc) x (by simp))
 ·rintro⟨h1,h2⟩
  refine⟨h1,by simp,fun a ha b hb=>?_⟩
  rw[bKV] at hb
  subst hb
  rintro rfl
  rw[bMN.2 ha] at h2
  cases h2
def vbF (f:aJ) (now:List (List Int)) (r b:Int) (v:Nat) (row:List Int) (w:PV) (k:Nat):PF:=((((((((PF.nil.set 1 (lay now)).set 2 (.int .i64 r)).set 3 (.bH f.cells)).set 9 (.int .i64 b)).set 10 (.int .i64 v)).set 11 (w)).set 12 (.bool (!pB (bE (row.take k))))).set 13 (.int .i64 k))
theorem bcJ {C:Ctx} (Lb:azB C) (f:aJ) (now:List (List Int)) (hl:eT now) (r:Int) (hc:aD C 266 [.agg f.cells,lay now,.int .i64 r] .nil (aE (.int .i64 (fL f now r)))) :
  BW.wp C (aU RE.res (aE (QH (tE f now r) (fL f now r)))) (PF.args [.agg f.cells,lay now,.int .i64 r]) .nil:=by
 have hB:tE f now r=if fL f now r=0 then fR f now r now.length else 0:=rfl
 simp only[go_sem,γ,δ,ε,ζ,η,θ,ι,κ,μ,ν,ξ,ο,ρ,σ,τ,υ,reduceIte,reduceCtorEq,BW,auI,auJ,RE]
 refine aA hc Ev ?_
 by_cases c:fL f now r≠0
 ·rw[if_neg c] at hB
  simp only[go_sem,γ,δ,ε,ζ,η,θ,ι,κ,μ,ν,ξ,ο,ρ,σ,τ,υ,reduceIte,reduceCtorEq,RG,cI c,auK]
  refine aL (.inr rfl) Ev ?_
  rw[hB]; rfl
 have c:fL f now r=0:=Decidable.not_not.1 c
 obtain⟨hu,ha⟩:=tH c
 rw[if_pos c] at hB
 rw[hB,c]
 have hV:=VF.of (gV hu).1
 have hd:=hV.small.bHK
 have hrows:=hl.rows
 have hvl:=(gV hu).2.1
 obtain⟨-,-,h0,h4⟩:=gV hu
 simp only[go_sem,γ,δ,ε,ζ,η,θ,ι,κ,μ,ν,ξ,ο,ρ,σ,τ,υ,reduceIte,reduceCtorEq,RG,bV (show (0:Int)=0 from rfl),auL,auM,bJO]
 refine wp_loop (α:=Nat) (fun v=>(((((PF.nil.set 1 (lay now)).set 2 (.int .i64 r)).set 3 (.bH f.cells)).set 9 (.int .i64 (fR f now r v))).set 10 (.int .i64 v))) (fun _=>.nil) (fun v=>v≤now.length) (fun v=>now.length-v) 0 (bJY _) ?_ PH.nil_le ?_
 ·have:fR f now r 0=if (1:Int)<(f.bHK.length:Nat) then 1 else ((f.bHK.length:Nat):Int):=by
   unfold fR; split<;>omega
  (repeat' (first|exact PF.nil_le|refine PF.aI ?_ ?_))<;>first|(simp only[go_sem,γ,δ,ε,ζ,η,θ,ι,κ,μ,ν,ξ,ο,ρ,σ,τ,υ,reduceIte,reduceCtorEq,this,bJO]<;>rfl)|rfl
 intro v hv
 simp only[go_sem,γ,δ,ε,ζ,η,θ,ι,κ,μ,ν,ξ,ο,ρ,σ,τ,υ,reduceIte,reduceCtorEq,ahF,auN,bJO]
 by_cases hlt:v<now.length
 ·have bHR:(v:Int)<(now.length:Nat):=by omega
  have hat:(now.map fun r=>[ints r])[v]?=some [ints now[v]]:=by simp[hlt]
  have hgd:now.getD v []=now[v]:=by simp[bKH,hlt]
  have hv2:v<f.bHM.length:=by omega
  have u:=vG hu hlt
  have hskip:=zQ (f:=f) (now:=now) (r:=r) (v:=v)
  have hgo:=LW (f:=f) (now:=now) (r:=r) (v:=v)
  have hpos:=XC hu ha hlt
  have hbl:=qS hu ha (v+1) hlt
  have hbl0:=qS hu ha v Om
  have hbn:=kM f now r v
  have hbn1:=kM f now r (v+1)
  rw[hgd] at u hskip hgo hpos
  generalize now[v]=row at *
  obtain⟨u1,-,u3,u4,u5,u6⟩:=u
  simp only[go_sem,γ,δ,ε,ζ,η,θ,ι,κ,μ,ν,ξ,ο,ρ,σ,τ,υ,reduceIte,reduceCtorEq,bHR,auO,auP,auQ]
  refine wp_loop (α:=Nat × PV × PH) (fun s=>vbF f now r (fR f now r v) v row s.2.1 s.1) (fun s=>s.2.2) (fun s=>s.1≤row.length∧aR s.2.2 [] [(s.2.1,1,bD (bE (row.take s.1)))]) (fun s=>row.length-s.1) (0,.aB,.nil) ⟨bJY _,?_⟩ ?_ PH.le_refl ?_
  ·exact aR.nil.nI 1
  ·unfold vbF
   (repeat' (first|exact PF.nil_le|refine PF.aI ?_ ?_))<;>first|(simp only[go_sem,γ,δ,ε,ζ,η,θ,ι,κ,μ,ν,ξ,ο,ρ,σ,τ,υ,reduceIte,reduceCtorEq,List.take_zero,pB,bE,List.filter_nil,List.nodup_nil,decide_true,bJV]<;>rfl)|rfl
  rintro⟨k,w,H⟩ ⟨hk,hH⟩
  simp only at hk hH ⊢
  have hkl:=GZ (row.take k)
  rw[bKG] at hkl
  have hO:=hH.own 0 rfl
  simp only[go_sem,γ,δ,ε,ζ,η,θ,ι,κ,μ,ν,ξ,ο,ρ,σ,τ,υ,reduceIte,reduceCtorEq,ahE,ahG,vbF,hat,bJO]
  by_cases klt:k<row.length
  ·have klt':(k:Int)<(row.length:Nat):=by omega
   have hra:(row.map fun n=>[PV.int .i64 n])[k]?=some [.int .i64 row[k]]:=by simp[klt]
   have hs:=UJ klt
   by_cases cg:0≤row[k]
   ·rw[if_pos cg] at hs
    have hnd:=VA (bE (row.take k)) row[k]
    rw[← hs] at hnd
    cases hb:pB (bE (row.take k)) with
    | false =>
     rw[hb,bJU] at hnd
     simp only[go_sem,γ,δ,ε,ζ,η,θ,ι,κ,μ,ν,ξ,ο,ρ,σ,τ,υ,reduceIte,reduceCtorEq,klt',vH,hat,hra,show row[k]≥0 from cg,JJ,hb,bKD]
     simp only[go_sem,γ,δ,ε,ζ,η,θ,ι,κ,μ,ν,ξ,ο,ρ,σ,τ,υ,reduceIte,reduceCtorEq,vI,hat,hra]
     refine hH.append 0 (src:=[[.int .i64 row[k]]]) rfl Sq (by unfold roomFor; rw[cK]; simp only[bKC,maxLen]; omega) fun w' H' h3 hw=>?_
     simp only[go_sem,γ,δ,ε,ζ,η,θ,ι,κ,μ,ν,ξ,ο,ρ,σ,τ,υ,reduceIte,reduceCtorEq,rM,wZz k]
     refine aG (k+1,w',H') ⟨klt,?_⟩ (by simp only; omega) (by (repeat' (first|exact PF.nil_le|refine PF.aI ?_ ?_))<;>first|(simp only[go_sem,γ,δ,ε,ζ,η,θ,ι,κ,μ,ν,ξ,ο,ρ,σ,τ,υ,reduceIte,reduceCtorEq,hnd]<;>rfl)|rfl) PH.le_refl
     simp only
     rw[hs,lM]
     exact h3
    | true =>
     rw[hb,bKA] at hnd
     simp only[go_sem,γ,δ,ε,ζ,η,θ,ι,κ,μ,ν,ξ,ο,ρ,σ,τ,υ,reduceIte,reduceCtorEq,klt',vH,hat,hra,show row[k]≥0 from cg,JJ,hb,bJV]
     refine aOP (l:=bE (row.take k)) (.bool _) (Lb.has _ row[k] Om) (.int _ _) hO Sq ?_
     have hnd':(!pB (bE (row.take (k+1))))=(bE (row.take k)).contains row[k]:=by rw[hnd,Bool.not_not]
     cases hc:(bE (row.take k)).contains row[k] with
     | false =>
      rw[hc] at hnd'
      simp only[go_sem,γ,δ,ε,ζ,η,θ,ι,κ,μ,ν,ξ,ο,ρ,σ,τ,υ,reduceIte,reduceCtorEq]
      simp only[go_sem,γ,δ,ε,ζ,η,θ,ι,κ,μ,ν,ξ,ο,ρ,σ,τ,υ,reduceIte,reduceCtorEq,vI,hat,hra]
      refine hH.append 0 (src:=[[.int .i64 row[k]]]) rfl Sq (by unfold roomFor; rw[cK]; simp only[bKC,maxLen]; omega) fun w' H' h3 hw=>?_
      simp only[go_sem,γ,δ,ε,ζ,η,θ,ι,κ,μ,ν,ξ,ο,ρ,σ,τ,υ,reduceIte,reduceCtorEq,rM,wZz k]
      refine aG (k+1,w',H') ⟨klt,?_⟩ (by simp only; omega) (by (repeat' (first|exact PF.nil_le|refine PF.aI ?_ ?_))<;>first|(simp only[go_sem,γ,δ,ε,ζ,η,θ,ι,κ,μ,ν,ξ,ο,ρ,σ,τ,υ,reduceIte,reduceCtorEq,hnd']<;>rfl)|rfl) PH.le_refl
      simp only
      rw[hs,lM]
      exact h3
     | true =>
      rw[hc] at hnd'
      simp only[go_sem,γ,δ,ε,ζ,η,θ,ι,κ,μ,ν,ξ,ο,ρ,σ,τ,υ,reduceIte,reduceCtorEq]
      simp only[go_sem,γ,δ,ε,ζ,η,θ,ι,κ,μ,ν,ξ,ο,ρ,σ,τ,υ,reduceIte,reduceCtorEq,vI,hat,hra]
      refine hH.append 0 (src:=[[.int .i64 row[k]]]) rfl Sq (by unfold roomFor; rw[cK]; simp only[bKC,maxLen]; omega) fun w' H' h3 hw=>?_
      simp only[go_sem,γ,δ,ε,ζ,η,θ,ι,κ,μ,ν,ξ,ο,ρ,σ,τ,υ,reduceIte,reduceCtorEq,rM,wZz k]
      refine aG (k+1,w',H') ⟨klt,?_⟩ (by simp only; omega) (by (repeat' (first|exact PF.nil_le|refine PF.aI ?_ ?_))<;>first|(simp only[go_sem,γ,δ,ε,ζ,η,θ,ι,κ,μ,ν,ξ,ο,ρ,σ,τ,υ,reduceIte,reduceCtorEq,hnd']<;>rfl)|rfl) PH.le_refl
      simp only
      rw[hs,lM]
      exact h3
   ·rw[if_neg cg,bLM] at hs
    simp only[go_sem,γ,δ,ε,ζ,η,θ,ι,κ,μ,ν,ξ,ο,ρ,σ,τ,υ,reduceIte,reduceCtorEq,klt',vH,hat,hra,show ¬ row[k]≥0 from cg,rM,wZz k]
    refine aG (k+1,w,H) ⟨klt,?_⟩ (by simp only; omega) (by (repeat' (first|exact PF.nil_le|refine PF.aI ?_ ?_))<;>first|(simp only[go_sem,γ,δ,ε,ζ,η,θ,ι,κ,μ,ν,ξ,ο,ρ,σ,τ,υ,reduceIte,reduceCtorEq,hs]<;>rfl)|rfl) PH.le_refl
    simp only
    rw[hs]
    exact hH
  ·have klt':¬ (k:Int)<(row.length:Nat):=by omega
   have:k=row.length:=by omega
   subst this
   rw[bKL] at hkl hO
   have hln:=hO.lenOf
   rw[cK] at hln
   simp only[go_sem,γ,δ,ε,ζ,η,θ,ι,κ,μ,ν,ξ,ο,ρ,σ,τ,υ,reduceIte,reduceCtorEq,klt',bKL,ahH,hln,ahI]
   cases hb:pB (bE row) with
   | false =>
    have hn:¬ ((bE row).Nodup∧bE row≠[]):=fun h=>by
     have:pB (bE row)=true:=decide_eq_true h.1
     rw[hb] at this; cases this
    simp only[go_sem,γ,δ,ε,ζ,η,θ,ι,κ,μ,ν,ξ,ο,ρ,σ,τ,υ,reduceIte,reduceCtorEq,bKD,vJ,wZz v]
    exact aG (v+1) hlt Om (by (repeat' (first|exact PF.nil_le|refine PF.aI ?_ ?_))<;>first|(simp only[go_sem,γ,δ,ε,ζ,η,θ,ι,κ,μ,ν,ξ,ο,ρ,σ,τ,υ,reduceIte,reduceCtorEq,hskip hn]<;>rfl)|rfl) PH.nil_le
   | true =>
    by_cases cz:(bE row).length=0
    ·have hn:¬ ((bE row).Nodup∧bE row≠[]):=fun h=>h.2 (List.length_eq_zero_iff.1 cz)
     simp only[go_sem,γ,δ,ε,ζ,η,θ,ι,κ,μ,ν,ξ,ο,ρ,σ,τ,υ,reduceIte,reduceCtorEq,bJV,bX (show (((bE row).length:Nat):Int)=0 by omega),vJ,wZz v]
     exact aG (v+1) hlt Om (by (repeat' (first|exact PF.nil_le|refine PF.aI ?_ ?_))<;>first|(simp only[go_sem,γ,δ,ε,ζ,η,θ,ι,κ,μ,ν,ξ,ο,ρ,σ,τ,υ,reduceIte,reduceCtorEq,hskip hn]<;>rfl)|rfl) PH.nil_le
    ·have hy:(bE row).Nodup∧bE row≠[]:=⟨of_decide_eq_true hb,fun e=>cz (by rw[e]; rfl)⟩
     have h1:=hpos hy
     have h2:=hgo hy rfl rfl
     have w1:IntKind.i64.wrap ((((bE row).length:Nat):Int)-(cY f v).k)=(((bE row).length:Nat):Int)-(cY f v).k:=wrap_i64 Om Om
     have w2:IntKind.i64.wrap ((((bE row).length:Nat):Int)-(cY f v).k-r)=(((bE row).length:Nat):Int)-(cY f v).k-r:=wrap_i64 Om Om
     simp only[go_sem,γ,δ,ε,ζ,η,θ,ι,κ,μ,ν,ξ,ο,ρ,σ,τ,υ,reduceIte,reduceCtorEq,bJV,bG (show (((bE row).length:Nat):Int)≠0 by omega),ahJ]
     refine aA (Lb.k f v hV hv2) Ev ?_
     simp only[go_sem,γ,δ,ε,ζ,η,θ,ι,κ,μ,ν,ξ,ο,ρ,σ,τ,υ,reduceIte,reduceCtorEq,w1,w2]
     have he10:(((bE row).length:Nat):Int)-(cY f v).k-r≤10:=by omega
     generalize (((bE row).length:Nat):Int)-(cY f v).k-r=e at *
     have w3:IntKind.i64.wrap ((((bE row).length:Nat):Int)+e)=(((bE row).length:Nat):Int)+e:=wrap_i64 Om Om
     have w4:IntKind.i64.wrap ((((bE row).length:Nat):Int)+e-1)=(((bE row).length:Nat):Int)+e-1:=wrap_i64 Om Om
     have he0:¬ e=0:=by omega
     have hq0:0≤bLF ((((bE row).length:Nat):Int)+e-1) e:=Int.tdiv_nonneg Om Om
     have w5:IntKind.i64.wrap (bLF ((((bE row).length:Nat):Int)+e-1) e)=bLF ((((bE row).length:Nat):Int)+e-1) e:=wrap_i64 Om (by
      have:bLF ((((bE row).length:Nat):Int)+e-1) e≤100:=by
       rw[h2] at hbl; split at hbl<;>omega
      omega)
     simp only[go_sem,γ,δ,ε,ζ,η,θ,ι,κ,μ,ν,ξ,ο,ρ,σ,τ,υ,reduceIte,reduceCtorEq,ahK,w3,w4,he0,w5,vJ,wZz v]
     exact aG (v+1) hlt Om (by (repeat' (first|exact PF.nil_le|refine PF.aI ?_ ?_))<;>first|(simp only[go_sem,γ,δ,ε,ζ,η,θ,ι,κ,μ,ν,ξ,ο,ρ,σ,τ,υ,reduceIte,reduceCtorEq,h2]<;>rfl)|rfl) PH.nil_le
 ·have bHR:¬ (v:Int)<(now.length:Nat):=by omega
  have:v=now.length:=by omega
  subst this
  simp only[go_sem,γ,δ,ε,ζ,η,θ,ι,κ,μ,ν,ξ,ο,ρ,σ,τ,υ,reduceIte,reduceCtorEq,bHR,ahL]
  refine aL (.inr rfl) Ev ?_
  rfl
def LM (H:PH) (l:List Int) (r:PV) (H':PH):Prop:=∃ p,H p=none∧r=.osl p 1 0 l.length∧H'=H.set p (.rows 1 (bD l))
theorem baI {C:Ctx} (H:PH) (q:Nat) (rs:List (List PV)) (l:List Int) (hq:H q=some (.rows 1 rs)) (h1:l.length≤rs.length) (h2:rs.take l.length=bD l) (hl:l.length≤1000000) :
  BA.wp C (aU PA.res (LM H l)) (PF.args [.osl q 1 0 l.length]) H:=by
 have hview:dN H 1 (.osl q 1 0 l.length)=some (bD l):=by
  have:=(show bK H 1 (.osl q 1 0 (bD l).length) (bD l) from .inr ⟨q,rs,rfl,hq,by rw[cK]; exact h1,by rw[cK]; exact h2⟩).view
  rwa [cK] at this
 simp only[go_sem,γ,δ,ε,ζ,η,θ,ι,κ,μ,ν,ξ,ο,ρ,σ,τ,υ,reduceIte,reduceCtorEq,BA,arT,arU,PA,bne_self_eq_false,arV]
 refine aQ fun o ho=>?_
 have hqo:¬ q=o:=fun e=>by rw[e,ho] at hq; cases hq
 have hne:¬ o=q:=fun e=>hqo e.symm
 have hview2:dN (H.set o (.rows 1 [])) 1 (.osl q 1 0 l.length)=some (bD l):=auR (PH.xG _ ho) hview
 simp only[go_sem,γ,δ,ε,ζ,η,θ,ι,κ,μ,ν,ξ,ο,ρ,σ,τ,υ,reduceIte,reduceCtorEq]
 refine yC hview2 (by unfold roomFor; rw[cK]; simp only[maxLen]; omega) (by rw[eS]) (bJQ _) ?_ ?_
 ·simp only[go_sem,γ,δ,ε,ζ,η,θ,ι,κ,μ,ν,ξ,ο,ρ,σ,τ,υ,reduceIte,reduceCtorEq,cK,bKN]
  refine aX (.inr rfl) (H.set o (.rows 1 (bD l))) Ev ?_ ⟨o,ho,rfl,rfl⟩
  rw[bMA]
  exact PH.le_refl
 ·intro p hp
  rw[bM] at hp
  split at hp
  ·cases hp
  ·rename_i hpo
   simp only[go_sem,γ,δ,ε,ζ,η,θ,ι,κ,μ,ν,ξ,ο,ρ,σ,τ,υ,reduceIte,reduceCtorEq,cK,bKN]
   refine aX (.inr rfl) (H.set p (.rows 1 (bD l))) Ev ?_ ⟨p,hp,rfl,rfl⟩
   intro a x ha
   rw[bM] at ha ⊢
   split at ha
   ·rename_i e; rw[if_pos e]; exact ha
   ·rename_i e
    rw[if_neg e]
    exact PH.xG _ ho a x ha
theorem beY {C:Ctx} {F:PF} {H Hs:PH} {S:Spec} {name:Nat} {D:List Nat} {vs:List PV} {l:List Int} {args:List aP} {st:Bool} {d:Option Nat} {K:PF→PH→Prop} (hS:S name vs=some (D,fun G r H'=>LM G l r H')) (hD:∀ o∈D,∃ x,H o=some x)
  (h:aD C name vs (H.only D) (LM (H.only D) l)) (ha:aP.evs F args=some vs) (hle:Hs.le H) (hk:∀ p,H p=none→K (F.put d (.osl p 1 0 l.length)) (H.set p (.rows 1 (bD l)))):dOp C Hs S st (.call name args) d K F H:=by
 refine⟨vs,D,_,ha,hS,hD,h,fun G=>?_,fun r H' hr hap=>?_⟩
 ·obtain⟨p,hp,hpD⟩:=G.MX D
  refine⟨_,_,⟨p,by rw[mO,if_neg hpD],rfl,rfl⟩,fun q y hy hn=>?_⟩
  rw[bM] at hy
  split at hy
  ·rename_i e; rw[e]; exact hp
  ·rw[hy] at hn; cases hn
 ·obtain⟨p,hp,rfl,rfl⟩:=hr
  have hpH:H p=none:=hap p _ (by rw[eS]) hp
  have e:H.eQ (H.only D) ((H.only D).set p (.rows 1 (bD l)))=H.set p (.rows 1 (bD l)):=PH.ext fun q=>by
   show (H.eQ (H.only D) ((H.only D).set p (.rows 1 (bD l)))) q=(H.set p (.rows 1 (bD l))) q
   rw[lN,bM,bM]
   by_cases c:q=p
   ·rw[if_pos c,if_pos c]
   ·rw[if_neg c,if_neg c]
    cases hq:(H.only D) q with
    | none=>rfl
    | some x=>exact (DN H D q x hq).symm
  rw[e]
  exact⟨PH.le_trans hle (PH.xG _ hpH),hk p hpH⟩
theorem aR.aGV {H:PH} {B:List BX} {vo:PV} {ps:WPs} (h:aR H B (fD vo ps)) {i:Nat} (hi:i<ps.length) :
  ∃ qo rs,vo=.osl qo 1 0 ps.length∧H qo=some (.rows 1 rs)∧rs[i]?=some [ps[i].1]∧i<rs.length:=by
 rcases h.outer with ⟨h1,-⟩ | ⟨q,rs,rfl,h1,h2,h3⟩
 ·have:(fH ps).length=0:=by rw[h1]; rfl
  rw[nL] at this
  omega
 ·rw[nL] at h2 h3
  refine⟨q,rs,by rw[nL],h1,?_,by omega⟩
  have:=ZB (ps:=ps) (i:=i) (v:=ps[i].1) (w:=ps[i].2) (by rw[bJZ hi])
  rw[← h3,bND hi] at this
  exact this
theorem aR.aVH {H:PH} {B:List BX} {vo:PV} {ps:WPs} (h:aR H B (fD vo ps)):PV.uE vo=some (.int .i64 (ps.length:Nat)):=by
 have:=h.outer.lenOf
 rwa [nL] at this
theorem aR.amC {H:PH} {B:List BX} {vo:PV} {ps:WPs} (h:aR H B (fD vo ps)) {i:Nat} (hi:i<ps.length):bK H 1 ps[i].1 (bD ps[i].2):=h.inner (by rw[bJZ hi])
theorem a0I (ps:WPs):(wls ps).length=ps.length:=bJO _
def SO (ws:List (List Int)) (e:Int) (r:PV) (H:PH):Prop:=∃ vo ps,r=.tup [vo,.int .i64 e]∧aR H [] (fD vo ps)∧wls ps=ws
theorem uY {res:List dR} {F:PF} {H:PH} {vo:PV} {ps:WPs} {ws:List (List Int)} {c:Int} {e:lZ} (he:e=.normal∨e=.ret) (h:dR.evs F H res=some [vo,.int .i64 c]) (hH:aR H [] (fD vo ps)) (hw:wls ps=ws):aU res (SO ws c) e F H :=
 aX he H h PH.le_refl ⟨vo,ps,rfl,hH,hw⟩
def wwS (q:Nat) (l:List Int) (b:Bool):Spec:=fun name vs=>match name,vs with
 | 277,_=>some ([q],fun G r H'=>LM G l r H')
 | 251,[_,_,_,.osl p _ _ _]=>some ([p],fun G r H'=>r=.bool b∧H'=G)
 | _,_=>none
theorem aqK {C:Ctx} {H:PH} {name:Nat} {pre:List PV} {v u:PV} {l:List Int} (hv:Plain u) (hp:∀ x∈pre,Fx x) (hO:bK H 1 v (bD l)) (hne:l≠[]) (h:aD C name (pre++[ints l]) .nil (aE u)) :
  ∃ q,v=.osl q 1 0 l.length∧(∃ x,H q=some x)∧aD C name (pre++[v]) (H.only [q]) (fun r H'=>r=u∧H'=H.only [q]):=by
 rcases hO with ⟨h0,-⟩ | ⟨q,rs,rfl,h1,h2,h3⟩
 ·exact absurd (List.map_eq_nil_iff.1 h0) hne
 ·rw[cK] at h2 h3 ⊢
  refine⟨q,rfl,⟨_,h1⟩,?_⟩
  rw[YZ h1]
  refine aD.bgW hv ?_
  have e:pre.map (PV.frz q 1 rs)=pre:=by
   conv=>rhs; rw[← List.map_id pre]
   exact List.map_congr_left fun x hx=>hp x hx q 1 rs
  rw[bLK,e,bLR,List.map_nil,oA h2,h3]
  exact h
theorem amG {α:Type} (L:List α) (x:α) (n:Nat) (h:L.length=n):(L++[x])[n]?=some x:=by
 subst h; simp
theorem kT (vo:PV) (ps:WPs):(fD vo ps).length=ps.length+1:=by unfold fD kY; simp
structure buA (C:Ctx):Prop extends SP C 250 251 where
 check:∀ (f:aJ) (now:List (List Int)) (r:Int),f.Ok→eT now→aD C 262 [.agg f.cells,lay now,.int .i64 r] .nil (aE (.int .i64 (fL f now r)))
 clone:∀ (H:PH) (q:Nat) (rs:List (List PV)) (l:List Int),H q=some (.rows 1 rs)→l.length≤rs.length→rs.take l.length=bD l→l.length≤1000000→aD C 277 [.osl q 1 0 l.length] H (LM H l)
structure alE (f:aJ) (now:List (List Int)) (r:Int) (d:Nat) (ps:WPs):Prop where
 eq:wls ps=lY f now r d
 num:ps.length≤d
 len:∀ i (h:i<ps.length),1≤(ps[i].2).length∧(ps[i].2).length≤d
theorem alE.of {f:aJ} {now:List (List Int)} {r:Int} (ha:lK f now r=true) {d:Nat} (hd:d≤f.bHK.length) {ps:WPs} (h:wls ps=lY f now r d):alE f now r d ps:=by
 have k:=RR ha d hd
 rw[← h] at k
 have h1:∀ i (h:i<ps.length),ps[i].2∈wls ps:=fun i hi=>bKU.2 ⟨ps[i],bJS hi,rfl⟩
 have ne:∀ l∈wls ps,1≤l.length:=fun l hl=>by
  have:=k.ok l hl
  unfold RQ at this
  cases l with
  | nil=>cases this
  | cons x xs=>rw[bLG]; omega
 refine⟨h,?_,fun i hi=>⟨ne _ (h1 i hi),?_⟩⟩
 ·have h2:(wls ps).length≤(wls ps).flatten.length:=by
   generalize wls ps=w at ne
   induction w with
   | nil=>exact bJQ _
   | cons l w ih =>
    have:=ih fun x hx=>ne x (List.mem_cons_of_mem _ hx)
    have:=ne l (by simp)
    rw[List.flatten_cons,bJW,bLG]
    omega
  rw[a0I,k.len] at h2
  exact h2
 ·have:=(List.sublist_flatten_of_mem (h1 i hi)).length_le
  rw[k.len] at this
  exact this
theorem aIS {f:aJ} {now:List (List Int)} {r:Int} {ps:WPs} {d i:Nat} (hi:i<ps.length) (hno:∀ j (h:j<ps.length),j<i→fA f now r (ps[j].2++[(d:Int)])=false) (hyes:fA f now r (ps[i].2++[(d:Int)])=true) (v:PV) :
  IA f now r (wls ps) d=wls (ps.set i (v,ps[i].2++[(d:Int)])):=by
 have e:(wls ps).findIdx? (fun l=>fA f now r (l++[(d:Int)]))=some i:=by
  rw[List.findIdx?_eq_some_iff_getElem]
  refine⟨by rw[a0I]; exact hi,by simpa [wls] using hyes,fun j hj=>?_⟩
  have:=hno j Om hj
  simpa [wls] using this
 unfold IA
 rw[e]
 simp only
 unfold wls
 rw[List.map_set,bKH,bKS,bJZ hi]
 rfl
theorem asL {f:aJ} {now:List (List Int)} {r:Int} {ps:WPs} {d:Nat} (hno:∀ j (h:j<ps.length),fA f now r (ps[j].2++[(d:Int)])=false) :
  IA f now r (wls ps) d=wls ps++[[(d:Int)]]:=by
 have e:(wls ps).findIdx? (fun l=>fA f now r (l++[(d:Int)]))=none:=by
  rw[List.findIdx?_eq_none_iff]
  intro l hl
  obtain⟨p,hp,rfl⟩:=bKU.1 hl
  obtain⟨j,hj,rfl⟩:=bLV hp
  rw[hno j hj]
 unfold IA
 rw[e]
theorem bdY {C:Ctx} (Lb:buA C) (f:aJ) (hf:f.Ok) (now:List (List Int)) (hl:eT now) (r:Int) :
  CJ.wp C (aU RW.res (SO (jN f now r) (fL f now r))) (PF.args [.agg f.cells,lay now,.int .i64 r]) .nil:=by
 have hB:jN f now r=if fL f now r=0 then lY f now r f.bHK.length else []:=rfl
 simp only[go_sem,γ,δ,ε,ζ,η,θ,ι,κ,μ,ν,ξ,ο,ρ,σ,τ,υ,reduceIte,reduceCtorEq,CJ,awN,awO,RW]
 refine aA (Lb.check f now r hf hl) Ev ?_
 by_cases c:fL f now r≠0
 ·rw[if_neg c] at hB
  simp only[go_sem,γ,δ,ε,ζ,η,θ,ι,κ,μ,ν,ξ,ο,ρ,σ,τ,υ,reduceIte,reduceCtorEq,RX,cI c,awP]
  exact uY (.inr rfl) Sq (aR.ayI aR.nil) hB.symm
 have c:fL f now r=0:=Decidable.not_not.1 c
 obtain⟨hu,ha⟩:=tH c
 rw[if_pos c] at hB
 rw[hB,c]
 have hV:=VF.of (gV hu).1
 have hd:=hV.small.bHK
 generalize hn:f.bHK.length=n at *
 simp only[go_sem,γ,δ,ε,ζ,η,θ,ι,κ,μ,ν,ξ,ο,ρ,σ,τ,υ,reduceIte,reduceCtorEq,RX,bV (show (0:Int)=0 from rfl),awQ,awR,bJO,hn]
 refine wp_loop (α:=Nat × PV × WPs × PH) (fun s=>((((((PF.nil.set 1 (lay now)).set 2 (.int .i64 r)).set 3 (.bH f.cells)).set 9 (s.2.1)).set 22 (.int .i64 n)).set 23 (.int .i64 s.1))) (fun s=>s.2.2.2) (fun s=>s.1≤n∧alE f now r s.1 s.2.2.1∧aR s.2.2.2 [] (fD s.2.1 s.2.2.1)) (fun s=>n-s.1) (0,.aB,[],.nil)
  ⟨bJY _,.of ha (bJY _) rfl,aR.ayI aR.nil⟩ Lq PH.le_refl ?_
 rintro⟨d,vo,ps,H⟩ ⟨hdn,hw,hH⟩
 simp only at hdn hw hH ⊢
 simp only[go_sem,γ,δ,ε,ζ,η,θ,ι,κ,μ,ν,ξ,ο,ρ,σ,τ,υ,reduceIte,reduceCtorEq,ajK,awS]
 by_cases hlt:d<n
 ·have bHR:(d:Int)<(n:Nat):=by omega
  have hnl:=hH.aVH
  have hnum:=hw.num
  simp only[go_sem,γ,δ,ε,ζ,η,θ,ι,κ,μ,ν,ξ,ο,ρ,σ,τ,υ,reduceIte,reduceCtorEq,bHR,awT,awU,hnl]
  refine wp_loop (α:=Nat × PH) (fun s=>((((((((((PF.nil.set 1 (lay now)).set 2 (.int .i64 r)).set 3 (.bH f.cells)).set 9 (vo)).set 10 (.int .i64 d)).set 22 (.int .i64 n)).set 23 (.int .i64 d)).set 26 (vo)).set 27 (.int .i64 (ps.length:Nat))).set 28 (.int .i64 s.1))) (fun s=>s.2) (fun s=>s.1≤ps.length∧(∀ j (h:j<ps.length),j<s.1→fA f now r (ps[j].2++[(d:Int)])=false)∧aR s.2 [] (fD vo ps)) (fun s=>ps.length-s.1) (0,H)
   ⟨bJY _,fun j _ h=>by omega,hH⟩ Lq PH.le_refl ?_
  clear hH hnl
  rintro⟨i,H⟩ ⟨hi,hno,hH⟩
  simp only at hi hno hH ⊢
  simp only[go_sem,γ,δ,ε,ζ,η,θ,ι,κ,μ,ν,ξ,ο,ρ,σ,τ,υ,reduceIte,reduceCtorEq,ajJ,awV]
  by_cases ilt:i<ps.length
  ·have ilt':(i:Int)<(ps.length:Nat):=by omega
   obtain⟨qo,rs,rfl,b1,b2,b3⟩:=hH.aGV ilt
   obtain⟨q,hq⟩:=(hH.amC ilt).one (by rw[cK]; exact (hw.len i ilt).1)
   have hlen:=hw.len i ilt
   rw[cK] at hq
   have hO:=hH.amC ilt
   have bJH:=hH.inner (i:=i) (v:=ps[i].1) (w:=ps[i].2) (by rw[bJZ ilt])
   have hhit:=aIS (f:=f) (now:=now) (r:=r) (d:=d) ilt hno
   have bIM:fA f now r (ps[i].2++[(d:Int)])=false→∀ j (h:j<ps.length),j<i+1→fA f now r (ps[j].2++[(d:Int)])=false:=fun h j hj hji=>by
    by_cases e:j=i
    ·subst e; exact h
    ·exact hno j hj Om
   have hpi:ps[i]?=some (ps[i].1,ps[i].2):=by rw[bJZ ilt]
   generalize ps[i].2=w at *
   generalize ps[i].1=v at *
   subst hq
   rcases hO with ⟨-,e⟩ | ⟨q',rs',e,o1,o2,o3⟩
   ·cases e
   rw[cK] at e o2 o3
   cases e
   have cc:=Lb.clone (H.only [q]) q rs' w (by rw[mO,if_pos (by simp)]; exact o1) o2 o3 Om
   simp only[go_sem,γ,δ,ε,ζ,η,θ,ι,κ,μ,ν,ξ,ο,ρ,σ,τ,υ,reduceIte,reduceCtorEq,ilt',ajL,b1,b2,b3,bKN]
   refine bP .nil (wwS q w (fA f now r (w++[(d:Int)]))) PH.nil_le ?_
   simp only[go_sem,γ,δ,ε,ζ,η,θ,ι,κ,μ,ν,ξ,ο,ρ,σ,τ,υ,reduceIte,reduceCtorEq,ajM]
   refine beY (l:=w) (D:=[q]) rfl (fun o ho=>by rw[bKV] at ho; subst ho; exact⟨_,o1⟩) cc Sq PH.nil_le fun p hp=>?_
   have h2:=hH.aGX (s:=1) (rows:=bD w) hp
   rw[cK] at h2
   simp only[go_sem,γ,δ,ε,ζ,η,θ,ι,κ,μ,ν,ξ,ο,ρ,σ,τ,υ,reduceIte,reduceCtorEq]
   refine h2.append (ps.length+1) (rows:=bD w) (src:=[[.int .i64 d]]) (amG _ _ _ (kT _ _)) Sq (by unfold roomFor; rw[cK]; simp only[bKC,maxLen]; omega) fun v' H' h3 hv'=>?_
   have hsrc:bD w++[[.int .i64 d]]=bD (w++[(d:Int)]):=by rw[lM]; rfl
   rw[hsrc] at h3
   have hO3:bK H' 1 v' (bD (w++[(d:Int)])):=h3.own (ps.length+1) (by rw[List.getElem?_set_self (by rw[bJW,kT]; simp)])
   have h4:aR H' [] (fD (.osl qo 1 0 ps.length) ps):=by
    have:=h3
    rw[bMQ _ _ (by rw[kT]; exact bJQ _),kT,bMF] at this
    exact this.sub (bLU.refl _) (List.sublist_append_left ..)
   obtain⟨p',rfl,hx,bIR⟩:=aqK (C:=C) (name:=251) (pre:=[.agg f.cells,lay now,.int .i64 r]) (u:=.bool (fA f now r (w++[(d:Int)]))) (.bool _) (fun x hx=>by
    simp only[bKE,bLC,or_false] at hx
    rcases hx with rfl | rfl | rfl
    ·exact fun _ _ _=>rfl
    ·exact .sl _ _
    ·exact .int _ _) hO3 (by simp) (Lb.fits f now r (w++[(d:Int)]) hu hl (by rw[bJW,bKC]; omega))
   refine⟨PH.nil_le,?_⟩
   refine aoN (D:=[p']) rfl (fun o ho=>by rw[bKV] at ho; subst ho; exact hx) bIR (by simp only[go_sem,γ,δ,ε,ζ,η,θ,ι,κ,μ,ν,ξ,ο,ρ,σ,τ,υ,reduceIte,reduceCtorEq]; rfl) PH.nil_le ?_
   cases bIZ:fA f now r (w++[(d:Int)]) with
   | true =>
    have hw2:wls (ps.set i (PV.aB,w++[(d:Int)]))=lY f now r (d+1):=by
     rw[← hhit bIZ .aB,hw.eq]; rfl
    simp only[go_sem,γ,δ,ε,ζ,η,θ,ι,κ,μ,ν,ξ,ο,ρ,σ,τ,υ,reduceIte,reduceCtorEq,ajN]
    refine h4.bkP (src:=[(d:Int)]) hpi (by simp only[go_sem,γ,δ,ε,ζ,η,θ,ι,κ,μ,ν,ξ,ο,ρ,σ,τ,υ,reduceIte,reduceCtorEq]; rfl) (by unfold roomFor; simp only[bKC,maxLen]; omega) (by simp) fun q2 H2 h5=>?_
    obtain⟨rs2,e1,e2,e3,h6⟩:=h5.bbI
    have il2:i<rs2.length:=by omega
    have hat2:rs2[i]?=some [.osl q 1 0 w.length]:=by
     have:=ZB hpi
     rw[← e3,bND ilt] at this
     exact this
    simp only[go_sem,γ,δ,ε,ζ,η,θ,ι,κ,μ,ν,ξ,ο,ρ,σ,τ,υ,reduceIte,reduceCtorEq,e1,il2,hat2,ilt',bKN,JY,wZz d]
    refine aG (d+1,PV.osl qo 1 0 ps.length,ps.set i (PV.osl q2 1 0 (w++[(d:Int)]).length,w++[(d:Int)]),H2.set qo (.rows 1 (rs2.set i [.osl q2 1 0 (w++[(d:Int)]).length]))) ⟨hlt,.of ha Om ?_,?_⟩ (by simp only; omega) Lq (by simp only; exact PH.le_refl)
    ·rw[← hw2]
     unfold wls
     rw[List.map_set,List.map_set]
    ·simp only
     exact h6
   | false =>
    simp only[go_sem,γ,δ,ε,ζ,η,θ,ι,κ,μ,ν,ξ,ο,ρ,σ,τ,υ,reduceIte,reduceCtorEq,ajO,wZz i]
    exact aG (i+1,H') ⟨ilt,bIM bIZ,h4⟩ (by simp only; omega) Lq PH.le_refl
  ·have ilt':¬ (i:Int)<(ps.length:Nat):=by omega
   have:i=ps.length:=by omega
   subst this
   have hmiss:=asL (f:=f) (now:=now) (r:=r) (d:=d) (ps:=ps) fun j hj=>hno j hj hj
   simp only[go_sem,γ,δ,ε,ζ,η,θ,ι,κ,μ,ν,ξ,ο,ρ,σ,τ,υ,reduceIte,reduceCtorEq,ilt',ajP]
   refine aQ fun o ho=>?_
   have h2:=hH.aGX (s:=1) (rows:=bD [(d:Int)]) ho
   simp only[go_sem,γ,δ,ε,ζ,η,θ,ι,κ,μ,ν,ξ,ο,ρ,σ,τ,υ,reduceIte,reduceCtorEq]
   refine h2.append 0 (rows:=fH ps) (src:=[[.osl o 1 0 1]]) rfl Sq (by unfold roomFor; rw[nL]; simp only[bKC,maxLen]; omega) fun v' H' h3 hv'=>?_
   simp only[go_sem,γ,δ,ε,ζ,η,θ,ι,κ,μ,ν,ξ,ο,ρ,σ,τ,υ,reduceIte,reduceCtorEq,JY,wZz d]
   refine aG (d+1,v',ps++[(PV.osl o 1 0 1,[(d:Int)])],H') ⟨hlt,.of ha Om ?_,?_⟩ (by simp only; omega) Lq PH.le_refl
   ·show wls (ps++[(PV.osl o 1 0 1,[(d:Int)])])=IA f now r (lY f now r d) d
    rw[← hw.eq,hmiss]
    unfold wls
    rw[bLK]; rfl
   ·have e:fD v' (ps++[(PV.osl o 1 0 1,[(d:Int)])])=((fD vo ps)++[(PV.osl o 1 0 (bD [(d:Int)]).length,1,bD [(d:Int)])]).set 0 (v',1,fH ps++[[PV.osl o 1 0 1]]):=by
     unfold fD fH kY
     rw[bLK,bLK]
     rfl
    simp only
    rw[e]
    exact h3
 ·have bHR:¬ (d:Int)<(n:Nat):=by omega
  have:d=n:=by omega
  subst this
  simp only[go_sem,γ,δ,ε,ζ,η,θ,ι,κ,μ,ν,ξ,ο,ρ,σ,τ,υ,reduceIte,reduceCtorEq,bHR,ajQ]
  exact uY (.inr rfl) Sq hH hw.eq
def vwS (b:Bool):Spec:=fun name vs=>match name,vs with
 | 255,[_,_,_,.osl p _ _ _]=>some ([p],fun G r H'=>r=.bool b∧H'=G)
 | _,_=>none
structure btZ (C:Ctx):Prop extends SP C 253 255 where
 able:∀ (f:aJ) (now:List (List Int)) (r:Int),f.Ok→eT now→aD C 266 [.agg f.cells,lay now,.int .i64 r] .nil (aE (.int .i64 (fL f now r)))
theorem bsW {C:Ctx} {K:PF→PH→Prop} {F:PF} {H:PH} {vo v:PV} {ps:WPs} {w:List Int} {i d:Nat} (hH:aR H [] (fD vo ps)) (hpi:ps[i]?=some (v,w)) (hw:w.length≤1000) (f9:F 9=some vo) (f10:F 10=some (.int .i64 d)) (f11:F 11=some (.int .i64 i))
  (hk:∀ v' H' F',aR H' [] (fD vo (ps.set i (v',w++[(d:Int)])))→(∀ j,j<58→F' j=F j)→K F' H'):wpOps C vM K F H:=by
 have ilt:i<ps.length:=(bKY.1 hpi).1
 have ilt':(i:Int)<(ps.length:Nat):=by omega
 obtain⟨qo,rs,rfl,b1,b2,b3⟩:=hH.aGV ilt
 have e0:ps[i].1=v:=by rw[bJZ ilt] at hpi; injection hpi with hpi; rw[hpi]
 rw[e0] at b2
 simp only[go_sem,γ,δ,ε,ζ,η,θ,ι,κ,μ,ν,ξ,ο,ρ,σ,τ,υ,reduceIte,reduceCtorEq,vM,f9,f10,f11,ilt',b1,b2,b3,bKN]
 refine hH.bkP (src:=[(d:Int)]) hpi (by simp only[go_sem,γ,δ,ε,ζ,η,θ,ι,κ,μ,ν,ξ,ο,ρ,σ,τ,υ,reduceIte,reduceCtorEq]; rfl) (by unfold roomFor; simp only[bKC,maxLen]; omega) (by simp) fun q2 H2 h5=>?_
 obtain⟨rs2,e1,e2,e3,h6⟩:=h5.bbI
 have il2:i<rs2.length:=by omega
 have hat2:rs2[i]?=some [v]:=by
  have:=ZB hpi
  rw[← e3,bND ilt] at this
  exact this
 simp only[go_sem,γ,δ,ε,ζ,η,θ,ι,κ,μ,ν,ξ,ο,ρ,σ,τ,υ,reduceIte,reduceCtorEq,e1,il2,hat2,ilt',f9,f10,f11,bKN,bKE,bLC,or_false,forall_eq]
 refine hk _ _ _ h6 fun j hj=>?_
 have low:j≠58∧j≠59∧j≠60∧j≠61∧j≠62∧j≠63∧j≠64∧j≠65∧j≠66∧j≠67:=by omega
 obtain⟨l1,l2,l3,l4,l5,l6,l7,l8,l9,l10⟩:=low
 simp only[go_sem,γ,δ,ε,ζ,η,θ,ι,κ,μ,ν,ξ,ο,ρ,σ,τ,υ,reduceIte,reduceCtorEq,l1,l2,l3,l4,l5,l6,l7,l8,l9,l10]
def AtV (i:Nat) (b:Bool):Int:=if b then (i:Int)-1 else -1
theorem bdE {C : Ctx} (Lb : btZ C) (f : aJ) (hf : f.Ok) (now : List (List Int)) (hl : eT now) (r : Int) :
    CC.wp C (aU RN.res (SO (jN f now r) (fL f now r))) (PF.args [.agg f.cells, lay now, .int .i64 r]) .nil := by
  have hB : jN f now r = if fL f now r = 0 then lY f now r f.bHK.length else [] := rfl
  simp only[go_sem,γ,δ,ε,ζ,η,θ,ι,κ,μ,ν,ξ,ο,ρ,σ,τ,υ,reduceIte,reduceCtorEq,CC,avJ,avK,RN]
  refine aA (Lb.able f now r hf hl) Ev ?_
  by_cases c : fL f now r ≠ 0
  · rw [if_neg c] at hB
    simp only[go_sem,γ,δ,ε,ζ,η,θ,ι,κ,μ,ν,ξ,ο,ρ,σ,τ,υ,reduceIte,reduceCtorEq,RP,cI c,avL]
    exact uY (.inr rfl) Sq (aR.ayI aR.nil) hB.symm
  have c : fL f now r = 0 := Decidable.not_not.1 c
  obtain ⟨hu, ha⟩ := tH c
  rw [if_pos c] at hB
  rw [hB, c]
  have hV := VF.of (gV hu).1
  have hd := hV.small.bHK
  generalize hn : f.bHK.length = n at *
  simp only[go_sem,γ,δ,ε,ζ,η,θ,ι,κ,μ,ν,ξ,ο,ρ,σ,τ,υ,reduceIte,reduceCtorEq,RP,bV (show (0 : Int) = 0 from rfl),avM,avN]
  refine wp_loop (α := Nat × PV × WPs × PH) (fun s => (((((PF.nil.set 1 (lay now)).set 2 (.int .i64 r)).set 3 (.bH f.cells)).set 9 (s.2.1)).set 10 (.int .i64 s.1))) (fun s => s.2.2.2) (fun s => s.1 ≤ n ∧ alE f now r s.1 s.2.2.1 ∧ aR s.2.2.2 [] (fD s.2.1 s.2.2.1)) (fun s => n - s.1) (0, .aB, [], .nil)
    ⟨bJY _, .of ha (bJY _) rfl, aR.ayI aR.nil⟩ Lq PH.le_refl ?_
  rintro ⟨d, vo, ps, H⟩ ⟨hdn, hw, hH⟩
  simp only at hdn hw hH ⊢
  simp only[go_sem,γ,δ,ε,ζ,η,θ,ι,κ,μ,ν,ξ,ο,ρ,σ,τ,υ,reduceIte,reduceCtorEq,aiD,avO,bJO,hn]
  by_cases hlt : d < n
  · have bHR : (d : Int) < (n : Nat) := by omega
    have hnl := hH.aVH
    have hnum := hw.num
    simp only[go_sem,γ,δ,ε,ζ,η,θ,ι,κ,μ,ν,ξ,ο,ρ,σ,τ,υ,reduceIte,reduceCtorEq,bHR,avP,avQ]
    refine wp_loop (α := Nat × Bool × PH) (fun s => (((((((PF.nil.set 1 (lay now)).set 2 (.int .i64 r)).set 3 (.bH f.cells)).set 9 (vo)).set 10 (.int .i64 d)).set 11 (.int .i64 (AtV s.1 s.2.1))).set 12 (.int .i64 s.1))) (fun s => s.2.2)
      (fun s => s.1 ≤ ps.length ∧ aR s.2.2 [] (fD vo ps) ∧ (s.2.1 = false → ∀ j (h : j < ps.length), j < s.1 → fA f now r (ps[j].2 ++ [(d : Int)]) = false) ∧ (s.2.1 = true → 0 < s.1 ∧ (∀ j (h : j < ps.length), j < s.1 - 1 → fA f now r (ps[j].2 ++ [(d : Int)]) = false) ∧ ∀ (h : s.1 - 1 < ps.length), fA f now r (ps[s.1 - 1].2 ++ [(d : Int)]) = true))
      (fun s => ps.length - s.1) (0, false, H)
      ⟨bJY _, hH, fun _ j _ h => by omega, fun h => by cases h⟩ (by (repeat' (first|exact PF.nil_le|refine PF.aI ?_ ?_)) <;> first|(simp only[go_sem,γ,δ,ε,ζ,η,θ,ι,κ,μ,ν,ξ,ο,ρ,σ,τ,υ,reduceIte,reduceCtorEq,AtV] <;> rfl)|rfl) PH.le_refl ?_
    clear hH
    rintro ⟨i, b, H⟩ ⟨hi, hH, hno, hyes⟩
    simp only at hi hno hyes hH ⊢
    have put : ∀ (vo2 : PV) (ps2 : WPs) (i2 : Nat) (v : PV) (w : List Int) (F' : PF) (H' : PH), aR H' [] (fD vo2 ps2) → ps2[i2]? = some (v, w) → w.length ≤ 1000 → (∀ v', wls (ps2.set i2 (v', w ++ [(d : Int)])) = lY f now r (d + 1)) →
        (((((((PF.nil.set 1 (lay now)).set 2 (.int .i64 r)).set 3 (.bH f.cells)).set 9 (vo2)).set 10 (.int .i64 d)).set 11 (.int .i64 i2))).le F' → wpOps C vM
          (dW 1 (iV C (aC.wp C (aC.region JT)) (eE (fun s : Nat × PV × WPs × PH => (((((PF.nil.set 1 (lay now)).set 2 (.int .i64 r)).set 3 (.bH f.cells)).set 9 (s.2.1)).set 10 (.int .i64 s.1))) (fun s => s.2.2.2) (fun s => s.1 ≤ n ∧ alE f now r s.1 s.2.2.1 ∧ aR s.2.2.2 [] (fD s.2.1 s.2.2.1)) (fun s => n - s.1) (n - d)
            (dW 0 (iV C (aC.wp C ((aC.region JU).seq aC.ret)) (aU [dR.tmp 6, dR.tmp 7] (SO (lY f now r n) 0)))))) .normal) F' H' := by
      intro vo2 ps2 i2 v w F' H' h1 h2 h3 h4 hF'
      refine bsW (i := i2) (d := d) h1 h2 h3 (hF' 9 _ Sq) (hF' 10 _ Sq) (hF' 11 _ Sq) fun v' H2 F2 h5 hF2 => ?_
      have g1 := (hF2 1 (by decide)).trans (hF' 1 _ (by simp only[go_sem,γ,δ,ε,ζ,η,θ,ι,κ,μ,ν,ξ,ο,ρ,σ,τ,υ,reduceIte,reduceCtorEq]; rfl))
      have g2 := (hF2 2 (by decide)).trans (hF' 2 _ (by simp only[go_sem,γ,δ,ε,ζ,η,θ,ι,κ,μ,ν,ξ,ο,ρ,σ,τ,υ,reduceIte,reduceCtorEq]; rfl))
      have g3 := (hF2 3 (by decide)).trans (hF' 3 _ (by simp only[go_sem,γ,δ,ε,ζ,η,θ,ι,κ,μ,ν,ξ,ο,ρ,σ,τ,υ,reduceIte,reduceCtorEq]; rfl))
      have g9 := (hF2 9 (by decide)).trans (hF' 9 _ (by simp only[go_sem,γ,δ,ε,ζ,η,θ,ι,κ,μ,ν,ξ,ο,ρ,σ,τ,υ,reduceIte,reduceCtorEq]; rfl))
      have g10 := (hF2 10 (by decide)).trans (hF' 10 _ (by simp only[go_sem,γ,δ,ε,ζ,η,θ,ι,κ,μ,ν,ξ,ο,ρ,σ,τ,υ,reduceIte,reduceCtorEq]; rfl))
      simp only[go_sem,γ,δ,ε,ζ,η,θ,ι,κ,μ,ν,ξ,ο,ρ,σ,τ,υ,reduceIte,reduceCtorEq,JT,g10,wZz d]
      refine aG (d + 1, vo2, ps2.set i2 (v', w ++ [(d : Int)]), H2) ⟨hlt, .of ha Om (h4 v'), h5⟩ (by simp only; omega) (by (repeat' (first|exact PF.nil_le|refine PF.aI ?_ ?_)) <;> first|(simp only[go_sem,γ,δ,ε,ζ,η,θ,ι,κ,μ,ν,ξ,ο,ρ,σ,τ,υ,reduceIte,reduceCtorEq,g1,g2,g3,g9] <;> rfl)|rfl) PH.le_refl
    simp only [aC.wp, go_sem] at put
    have out : i = ps.length → b = false → ∀ F' : PF, (((((((PF.nil.set 1 (lay now)).set 2 (.int .i64 r)).set 3 (.bH f.cells)).set 9 (vo)).set 10 (.int .i64 d)).set 11 (.int .i64 (-1)))).le F' → True := fun _ _ _ _ => trivial
    clear out
    simp only[go_sem,γ,δ,ε,ζ,η,θ,ι,κ,μ,ν,ξ,ο,ρ,σ,τ,υ,reduceIte,reduceCtorEq,aiC,avR,hnl]
    cases b with
    | true =>
      obtain ⟨h0, h1, h2⟩ := hyes rfl
      obtain ⟨i, rfl⟩ : ∃ j, i = j + 1 := ⟨i - 1, by omega⟩
      rw [Nat.add_sub_cancel] at h1 h2
      have ilt : i < ps.length := by omega
      have hpi : ps[i]? = some (ps[i].1, ps[i].2) := by rw [bJZ ilt]
      have hlen := hw.len i ilt
      have hhit := aIS (f := f) (now := now) (r := r) (d := d) ilt h1 (h2 ilt)
      have eA : AtV (i + 1) true = (i : Int) := by unfold AtV; simp
      have fin : ∀ F' : PF, (((((((PF.nil.set 1 (lay now)).set 2 (.int .i64 r)).set 3 (.bH f.cells)).set 9 (vo)).set 10 (.int .i64 d)).set 11 (.int .i64 i))).le F' → _ := fun F' hF' => put vo ps i _ _ F' H hH hpi Om (fun v' => by rw [← hhit v', hw.eq]; rfl) hF'
      by_cases c1 : i + 1 < ps.length
      · have c1' : ((i + 1 : Nat) : Int) < (ps.length : Nat) := by omega
        simp only[go_sem,γ,δ,ε,ζ,η,θ,ι,κ,μ,ν,ξ,ο,ρ,σ,τ,υ,reduceIte,reduceCtorEq,c1',eA,show ¬ (i : Int) < 0 by omega,vL]
        exact fin _ Lq
      · have c1' : ¬ ((i + 1 : Nat) : Int) < (ps.length : Nat) := by omega
        simp only[go_sem,γ,δ,ε,ζ,η,θ,ι,κ,μ,ν,ξ,ο,ρ,σ,τ,υ,reduceIte,reduceCtorEq,c1',eA,show ¬ (i : Int) < 0 by omega,vL]
        exact fin _ Lq
    | false =>
      have hno := hno rfl
      have eA : ∀ i, AtV i false = -1 := fun i => rfl
      by_cases ilt : i < ps.length
      · have ilt' : (i : Int) < (ps.length : Nat) := by omega
        obtain ⟨qo, rs, rfl, b1, b2, b3⟩ := hH.aGV ilt
        have hlen := hw.len i ilt
        have hO := hH.amC ilt
        have hview := hO.view
        simp only[go_sem,γ,δ,ε,ζ,η,θ,ι,κ,μ,ν,ξ,ο,ρ,σ,τ,υ,reduceIte,reduceCtorEq,ilt',eA]
        refine bP .nil (vwS (fA f now r (ps[i].2 ++ [(d : Int)]))) PH.nil_le ?_
        simp only[go_sem,γ,δ,ε,ζ,η,θ,ι,κ,μ,ν,ξ,ο,ρ,σ,τ,υ,reduceIte,reduceCtorEq,aiE,ilt',b1,b2,b3,bKN]
        have h2 := hH.nI 1
        refine h2.append (ps.length + 1) (rows := []) (src := bD ps[i].2) (amG _ _ _ (kT _ _)) hview (by unfold roomFor; rw [cK]; simp only [bLZ, maxLen]; omega) fun v2 H2 h3 _ => ?_
        rw [bMA] at h3
        refine ⟨PH.nil_le, ?_⟩
        refine h3.append (ps.length + 1) (rows := bD ps[i].2) (src := [[.int .i64 d]]) (by rw [List.getElem?_set_self (by rw [bJW, kT]; simp)]) Sq (by unfold roomFor; rw [cK]; simp only [bKC, maxLen]; omega) fun v3 H3 h4 _ => ?_
        refine ⟨PH.nil_le, ?_⟩
        have hsrc : bD ps[i].2 ++ [[.int .i64 d]] = bD (ps[i].2 ++ [(d : Int)]) := by rw [lM]; rfl
        rw [hsrc, List.set_set] at h4
        have hO3 : bK H3 1 v3 (bD (ps[i].2 ++ [(d : Int)])) := h4.own (ps.length + 1) (by rw [List.getElem?_set_self (by rw [bJW, kT]; simp)])
        have h5 : aR H3 [] (fD (.osl qo 1 0 ps.length) ps) := by
          have := h4
          rw [bMQ _ _ (by rw [kT]; exact bJQ _), kT, bMF] at this
          exact this.sub (bLU.refl _) (List.sublist_append_left ..)
        obtain ⟨p', rfl, hx, bIR⟩ := aqK (C := C) (name := 255) (pre := [.agg f.cells, lay now, .int .i64 r]) (u := .bool (fA f now r (ps[i].2 ++ [(d : Int)]))) (.bool _) (fun x hx => by
          simp only [bKE, bLC, or_false] at hx
          rcases hx with rfl | rfl | rfl
          · exact fun _ _ _ => rfl
          · exact .sl _ _
          · exact .int _ _) hO3 (by simp) (Lb.fits f now r (ps[i].2 ++ [(d : Int)]) hu hl (by rw [bJW, bKC]; omega))
        refine aoN (D := [p']) rfl (fun o ho => by rw [bKV] at ho; subst ho; exact hx) bIR (by simp only[go_sem,γ,δ,ε,ζ,η,θ,ι,κ,μ,ν,ξ,ο,ρ,σ,τ,υ,reduceIte,reduceCtorEq]; rfl) PH.nil_le ?_
        cases bIZ : fA f now r (ps[i].2 ++ [(d : Int)]) with
        | true =>
          simp only[go_sem,γ,δ,ε,ζ,η,θ,ι,κ,μ,ν,ξ,ο,ρ,σ,τ,υ,reduceIte,reduceCtorEq,aiF,JS,wZz i]
          refine aG (i + 1, true, H3) ⟨ilt, h5, (fun h => by cases h), fun _ => ⟨Nat.succ_pos _, ?_, ?_⟩⟩ (by simp only; omega) ?_ PH.le_refl
          · simp only [Nat.add_sub_cancel]; exact hno
          · simp only [Nat.add_sub_cancel]; exact fun _ => bIZ
          · have : AtV (i + 1) true = (i : Int) := by unfold AtV; simp
            (repeat' (first|exact PF.nil_le|refine PF.aI ?_ ?_)) <;> first|(simp only[go_sem,γ,δ,ε,ζ,η,θ,ι,κ,μ,ν,ξ,ο,ρ,σ,τ,υ,reduceIte,reduceCtorEq,this] <;> rfl)|rfl
        | false =>
          simp only[go_sem,γ,δ,ε,ζ,η,θ,ι,κ,μ,ν,ξ,ο,ρ,σ,τ,υ,reduceIte,reduceCtorEq,JS,wZz i]
          refine aG (i + 1, false, H3) ⟨ilt, h5, (fun _ j hj hji => ?_), fun h => by cases h⟩ (by simp only; omega) (by (repeat' (first|exact PF.nil_le|refine PF.aI ?_ ?_)) <;> first|(simp only[go_sem,γ,δ,ε,ζ,η,θ,ι,κ,μ,ν,ξ,ο,ρ,σ,τ,υ,reduceIte,reduceCtorEq,eA] <;> rfl)|rfl) PH.le_refl
          simp only at hji
          by_cases e : j = i
          · subst e; exact bIZ
          · exact hno j hj Om
      · have ilt' : ¬ (i : Int) < (ps.length : Nat) := by omega
        have : i = ps.length := by omega
        subst this
        have hmiss := asL (f := f) (now := now) (r := r) (d := d) (ps := ps) fun j hj => hno j hj hj
        simp only[go_sem,γ,δ,ε,ζ,η,θ,ι,κ,μ,ν,ξ,ο,ρ,σ,τ,υ,reduceIte,reduceCtorEq,ilt',eA,vL,aiG]
        refine hH.bnS Sq (by unfold roomFor; simp only [maxLen]; omega) fun q H' h3 => ?_
        have w1 : IntKind.i64.wrap (((ps.length + 1 : Nat) : Int) - 1) = (ps.length : Nat) := by
          rw [show ((ps.length + 1 : Nat) : Int) - 1 = ((ps.length : Nat) : Int) by omega]
          exact sN Om
        simp only[go_sem,γ,δ,ε,ζ,η,θ,ι,κ,μ,ν,ξ,ο,ρ,σ,τ,υ,reduceIte,reduceCtorEq,aiH,w1]
        refine put _ _ ps.length .aB [] _ H' h3 (amG _ _ _ rfl) (by simp) (fun v' => ?_) Lq
        have : (ps ++ [(PV.aB, ([] : List Int))]).set ps.length (v', [] ++ [(d : Int)]) = ps ++ [(v', [(d : Int)])] := by
          rw [bMQ _ _ (bJQ _), bMF]; rfl
        rw [this]
        show _ = IA f now r (lY f now r d) d
        rw [← hw.eq, hmiss]
        unfold wls
        rw [bLK]; rfl
  · have bHR : ¬ (d : Int) < (n : Nat) := by omega
    have : d = n := by omega
    subst this
    simp only[go_sem,γ,δ,ε,ζ,η,θ,ι,κ,μ,ν,ξ,ο,ρ,σ,τ,υ,reduceIte,reduceCtorEq,bHR,JU]
    exact uY (.inr rfl) Sq hH hw.eq
end Go.PM
