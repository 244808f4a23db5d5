/-
  Texts of ours, joined: RwW7 RwW8 RwW9 MdW12 RoW5 RoW6 RoW2 RoW7 RfW3 RwL1 L11W11 L11W12 L11W13 R11W3 R11W4 R11W5 R11W6 L11W14 L11W15 RwL2 RwL3 RfW4 RfW5 R2Code R2W1 R2W2 R2W3 R2W4 R2W5 R2W6 R2W7 R2W8 R3W1 R3W2 R3W3 R8W1 R10. No condition.
-/
import Derived.Test.YthbkofcdddghgaaGreatRRight1
import Derived.Test.YthbkofcdddghgaaGreatRRight2
import Derived.Test.YthbkofcdddghgaaGreatRRight3
import Derived.Test.YthbkofcdddghgaaGreatRRight4

set_option linter.unusedSimpArgs false
set_option linter.unusedVariables false
open Nat renaming reduceEqDiff → γ, reduceAdd → δ, reduceSub → ε, reduceMul → ζ, reduceLT → η, reduceLeDiff → θ, reduceBEq → τ
open Int renaming reduceLT → ι, reduceLE → κ, reduceEq → μ, reduceToNat → ν, reduceAdd → ξ, reduceNeg → ο, reduceBEq → ρ, reduceBNe → σ
open List renaming reduceReplicate → υ
open List renaming length_map → bKI, range → bKJ, replicate → bKL, getElem_mem → bKM, length_append → bKQ, getElem?_eq_getElem → bKU, length_singleton → bKX, mem_cons → bKY, take_of_length_le → bKZ, all_eq_true → bLA, length_take → bLB, getD_eq_getElem?_getD → bLC, take_length → bLG, append_assoc → bLI, drop_zero → bLK, mem_range → bLL, getElem?_map → bLN, mem_map → bLP, mem_singleton → bLR, getElem?_eq_some_iff → bLU, mem_append → bLV, getElem?_eq_none → bLW, length_cons → bLX, not_mem_nil → bLZ, take_succ_eq_append_getElem → bMA, append_nil → bMF, map_cons → bMG, drop_eq_getElem_cons → bMH, length_set → bMJ, Sublist → bMK, length_drop → bML, map_append → bMM, getElem_of_mem → bMP, getElem?_append_right → bMR, getElem_map → bMS, nodup_append → bMT, contains_iff_mem → bMV, length_nil → bMW, take_append_drop → bMX, nil_append → bMY, getElem?_append_left → bNB, mem_of_getElem? → bNC, getElem?_take → bNP, drop_of_length_le → bNU, getElem?_drop → bNV, length_replicate → bNW, set_append_right → bNX, eq_nil_of_length_eq_zero → bNY, getElem?_take_of_lt → bNZ
open Nat renaming le_refl → bKK, gcd → bKN, zero_le → bKT, mul_add → bKV, lt_or_ge → bLD, mul_assoc → bLE, mul_comm → bLH, zero_add → bLJ, add_mul → bLM, mul_le_mul_right → bLO, mod_eq_of_lt → bLS, mod_lt → bLY, add_zero → bMB, pow_succ → bMC, min_eq_left → bMN, mul_le_mul_left → bMO, pos_of_ne_zero → bMQ, add_assoc → bMU, pow_pos → bMZ, div_lt_iff_lt_mul → bND, le_trans → bNF, sub_self → bNG, succ_mul → bNH, eq_zero_or_pos → bNK, div_add_mod → bNQ, div_eq_of_lt → bNR
open Bool renaming false_and → bKO, not_true → bKR, true_and → bKS, not_false → bKW, and_eq_true → bLF, and_false → bLQ, and_true → bMI, and_assoc → bNJ, false_eq_true → bNL
open Option renaming map_eq_some_iff → bKP, map_some → bLT, some → bNA, getD_some → bNE, bind_eq_some_iff → bNM, bind_some → bNS
open Array renaming replicate → bMD, length_toList → bNI, getElem?_eq_getElem → bNN, getElem?_eq_some_iff → bNT
open Int renaming tdiv → bME, toNat_natCast → bNO
namespace Go.PM
open Go Go.Na
theorem WE.heap {H H':PH} {xs:List Int} {r:PV} (h:WE xs r H') (hap:kN H .nil H'):aS (H.eJ .nil H') [] [(r,1,bE xs)]:=by
 rcases h with ⟨rfl,rfl,rfl⟩ | ⟨hne,o,rfl,rfl⟩
 ·rw[PH.kY]; exact aS.nil.pJ 1
 ·rw[PH.kJ]
  have:=(aS.nil (H:=H)).aGJ (s:=1) (rows:=bE xs) (hap o _ (by rw[eS]) rfl)
  rw[cT] at this
  exact this
def GT (all:List Int) (k:Nat):Bool:=(bKJ k).all fun d=>all.contains (d:Int)
theorem a2H (all:List Int) (k:Nat):GT all (k+1)=(GT all k&&all.contains (k:Int)):=by
 unfold GT
 rw[List.range_succ,List.all_append]
 simp
theorem bgJ {all:List Int} {n k:Nat} (h:k<n) (hs:all.contains (k:Int)=false):GT all n=false:=by
 unfold GT
 rw[Bool.eq_false_iff,ne_eq,bLA]
 intro hk
 rw[hk k (bLL.2 h)] at hs
 cases hs
theorem a6X (f:aH) (now:List (List Int)) (r:Int) (w:List (List Int)):jO f now r w=(dQ f now r&&((decide (w.flatten.length=f.bIE.length)&&GT w.flatten f.bIE.length)&&w.all (jJ f now r))):=rfl
theorem a6R {α:Type} {p:α→Bool} {l:List α} {k:Nat} (h:k<l.length):(l.take (k+1)).all p=((l.take k).all p&&p l[k]):=by
 rw[bMA h,List.all_append]
 simp
theorem aQB {α:Type} {p:α→Bool} {l:List α} {k:Nat} (h:k<l.length) (hp:p l[k]=false):l.all p=false:=by
 rw[List.all_eq_false]
 exact⟨l[k],bKM h,by rw[hp]; simp⟩
def amQ (f:aH) (now:List (List Int)) (r:Int) (ws:List (List Int)) (k:Nat):Bool:=(ws.take k).all (jJ f now r)
theorem aHJ (f:aH) (now:List (List Int)) (r:Int) (ws:List (List Int)):amQ f now r ws ws.length=ws.all (jJ f now r):=by unfold amQ; rw[bLG]
theorem arG {f:aH} {now:List (List Int)} {r:Int} {ws:List (List Int)} {k:Nat} (h:k<ws.length):amQ f now r ws (k+1)=(amQ f now r ws k&&jJ f now r ws[k]):=a6R h
theorem zH (f:aH) (now:List (List Int)) (r:Int) (l:List Int):jJ f now r l=(!l.isEmpty&&eY f now r l):=rfl
structure buR (C:Ctx):Prop extends RZ C 250 251 where
 concat:∀ ws:List (List Int),ws.length≤1000000→ws.flatten.length≤1000000→aE C 178 [lists ws] .nil (WE ws.flatten)
 contains:∀ (l:List Int) (x:Int),l.length≤1000000000000000→aE C 260 [ints l,.int .i64 x] .nil (aD (.bool (l.contains x)))
theorem bdO {C:Ctx} (Lb:buR C) (f:aH) (hf:f.Ok) (now:List (List Int)) (hl:eX now) (r:Int) (ws:List (List Int)) (h1:ws.length≤1000000) (h2:ws.flatten.length≤1000000) :
  CC.wp C (aT RE.res (aD (.bool (jO f now r ws)))) (PF.args [.agg f.cells,lay now,.int .i64 r,lists ws]) .nil:=by
 have hE:=a6X f now r ws
 have no:∀ b:Bool,jO f now r ws=b→∀ F' H',F' 8=some (.bool b)→aT [.tmp 8] (aD (.bool (jO f now r ws))) .ret F' H':=fun b hb F' H' h8=>by
  refine aL (.inr rfl) (vs:=[.bool b]) (by simp only[go_sem,γ,δ,ε,ζ,η,θ,ι,κ,μ,ν,ξ,ο,ρ,σ,τ,υ,reduceIte,reduceCtorEq,h8]) ?_
  rw[aV,hb]
 simp only[go_sem,γ,δ,ε,ζ,η,θ,ι,κ,μ,ν,ξ,ο,ρ,σ,τ,υ,reduceIte,reduceCtorEq,CC,avQ,avR,RE]
 refine aA (Lb.usable f now r hf hl) Ev ?_
 cases hu:dQ f now r with
 | false =>
  rw[hu,bKO] at hE
  simp only[go_sem,γ,δ,ε,ζ,η,θ,ι,κ,μ,ν,ξ,ο,ρ,σ,τ,υ,reduceIte,reduceCtorEq,avS]
  exact no _ hE _ _ Ev
 | true =>
  rw[hu,bKS] at hE
  have hV:=VF.of (jI hu).1
  have hd:=hV.small.bIE
  simp only[go_sem,γ,δ,ε,ζ,η,θ,ι,κ,μ,ν,ξ,ο,ρ,σ,τ,υ,reduceIte,reduceCtorEq,avT]
  refine fE (Lb.concat ws h1 h2) Ev PH.nil_le ?_
  intro v H' hr hap
  have hH:=hr.heap hap
  generalize PH.eJ PH.nil PH.nil H'=H at hH
  have hO:=hH.own 0 rfl
  have hln:=hO.lenOf
  rw[cT] at hln
  simp only[go_sem,γ,δ,ε,ζ,η,θ,ι,κ,μ,ν,ξ,ο,ρ,σ,τ,υ,reduceIte,reduceCtorEq,avU,hln,bKI]
  by_cases cl:ws.flatten.length=f.bIE.length
  ·rw[decide_eq_true cl,bKS] at hE
   simp only[go_sem,γ,δ,ε,ζ,η,θ,ι,κ,μ,ν,ξ,ο,ρ,σ,τ,υ,reduceIte,reduceCtorEq,cA (Om:((ws.flatten.length:Nat):Int)=(f.bIE.length:Nat)),avW,bKI]
   refine wp_loop (α:=Nat) (fun k=>(((((((PF.nil.set 1 (lay now)).set 2 (.int .i64 r)).set 3 (lists ws)).set 4 (.bH f.cells)).set 9 (v)).set 28 (.int .i64 (f.bIE.length:Nat))).set 29 (.int .i64 k))) (fun _=>H) (fun k=>k≤f.bIE.length∧GT ws.flatten k=true) (fun k=>f.bIE.length-k) 0 ⟨bKT _,rfl⟩ Lq PH.le_refl ?_
   rintro k ⟨hk,hok⟩
   simp only[go_sem,γ,δ,ε,ζ,η,θ,ι,κ,μ,ν,ξ,ο,ρ,σ,τ,υ,reduceIte,reduceCtorEq,aiS,avX]
   by_cases hlt:k<f.bIE.length
   ·have bIL:(k:Int)<(f.bIE.length:Nat):=by omega
    have hs:=a2H ws.flatten k
    rw[hok,bKS] at hs
    simp only[go_sem,γ,δ,ε,ζ,η,θ,ι,κ,μ,ν,ξ,ο,ρ,σ,τ,υ,reduceIte,reduceCtorEq,bIL,avY,avZ]
    refine RD (l:=ws.flatten) (.bool _) (Lb.contains _ (k:Int) Om) (.int _ _) hO Sq ?_
    cases hc:ws.flatten.contains (k:Int) with
    | false =>
     simp only[go_sem,γ,δ,ε,ζ,η,θ,ι,κ,μ,ν,ξ,ο,ρ,σ,τ,υ,reduceIte,reduceCtorEq,aiU]
     refine no _ ?_ _ _ Ev
     rw[hE,bgJ hlt hc,bKO]
    | true =>
     rw[hc] at hs
     simp only[go_sem,γ,δ,ε,ζ,η,θ,ι,κ,μ,ν,ξ,ο,ρ,σ,τ,υ,reduceIte,reduceCtorEq,aiV,wZz k]
     exact aI (k+1) ⟨hlt,hs⟩ Om Lq PH.le_refl
   ·have bIL:¬ (k:Int)<(f.bIE.length:Nat):=by omega
    have:k=f.bIE.length:=by omega
    subst this
    rw[hok,bKS] at hE
    simp only[go_sem,γ,δ,ε,ζ,η,θ,ι,κ,μ,ν,ξ,ο,ρ,σ,τ,υ,reduceIte,reduceCtorEq,bIL,aiW,bKI]
    refine wp_loop (α:=Nat) (fun k=>((((((PF.nil.set 1 (lay now)).set 2 (.int .i64 r)).set 4 (.bH f.cells)).set 37 (lists ws)).set 38 (.int .i64 (ws.length:Nat))).set 39 (.int .i64 k))) (fun _=>.nil) (fun k=>k≤ws.length∧amQ f now r ws k=true) (fun k=>ws.length-k) 0 ⟨bKT _,rfl⟩ (by (repeat' (first|exact PF.nil_le|refine PF.aK ?_ ?_))<;>first|(simp only[go_sem,γ,δ,ε,ζ,η,θ,ι,κ,μ,ν,ξ,ο,ρ,σ,τ,υ,reduceIte,reduceCtorEq,bKI]<;>rfl)|rfl) PH.nil_le ?_
    rintro k ⟨hk,hok⟩
    simp only[go_sem,γ,δ,ε,ζ,η,θ,ι,κ,μ,ν,ξ,ο,ρ,σ,τ,υ,reduceIte,reduceCtorEq,aiT,aiX]
    by_cases hlt:k<ws.length
    ·have bIL:(k:Int)<(ws.length:Nat):=by omega
     have hat:(ws.map fun w=>[ints w])[k]?=some [ints ws[k]]:=by simp[hlt]
     have hs:=arG (f:=f) (now:=now) (r:=r) hlt
     have hnoB:=aQB (p:=jJ f now r) hlt
     have hle:=(List.sublist_flatten_of_mem (bKM hlt)).length_le
     rw[hok,bKS,zH] at hs
     rw[zH] at hnoB
     generalize ws[k]=w at *
     simp only[go_sem,γ,δ,ε,ζ,η,θ,ι,κ,μ,ν,ξ,ο,ρ,σ,τ,υ,reduceIte,reduceCtorEq,bIL,aiY,hat,aiZ,bKI]
     by_cases cz:w.length=0
     ·have:w=[]:=List.length_eq_zero_iff.1 cz
      simp only[go_sem,γ,δ,ε,ζ,η,θ,ι,κ,μ,ν,ξ,ο,ρ,σ,τ,υ,reduceIte,reduceCtorEq,bT (Om:((w.length:Nat):Int)=0),JP]
      refine no _ ?_ _ _ Ev
      rw[hE]
      exact hnoB (by rw[this]; rfl)
     ·have hne:w.isEmpty=false:=by cases w with
       | nil=>exact absurd rfl cz
       | cons x xs=>rfl
      rw[hne,bKW,bKS] at hs hnoB
      simp only[go_sem,γ,δ,ε,ζ,η,θ,ι,κ,μ,ν,ξ,ο,ρ,σ,τ,υ,reduceIte,reduceCtorEq,bF (Om:((w.length:Nat):Int)≠0)]
      refine aA (Lb.fits f now r w hu hl Om) Ev ?_
      cases bJT:eY f now r w with
      | false =>
       simp only[go_sem,γ,δ,ε,ζ,η,θ,ι,κ,μ,ν,ξ,ο,ρ,σ,τ,υ,reduceIte,reduceCtorEq,JP]
       refine no _ ?_ _ _ Ev
       rw[hE]
       exact hnoB bJT
      | true =>
       rw[bJT] at hs
       simp only[go_sem,γ,δ,ε,ζ,η,θ,ι,κ,μ,ν,ξ,ο,ρ,σ,τ,υ,reduceIte,reduceCtorEq,ajA,wZz k]
       exact aI (k+1) ⟨hlt,hs⟩ Om Lq PH.nil_le
    ·have bIL:¬ (k:Int)<(ws.length:Nat):=by omega
     have:k=ws.length:=by omega
     subst this
     rw[aHJ] at hok
     simp only[go_sem,γ,δ,ε,ζ,η,θ,ι,κ,μ,ν,ξ,ο,ρ,σ,τ,υ,reduceIte,reduceCtorEq,bIL,ajB]
     refine no _ ?_ _ _ Ev
     rw[hE]
     exact hok
  ·rw[decide_eq_false cl,bKO,bKO] at hE
   simp only[go_sem,γ,δ,ε,ζ,η,θ,ι,κ,μ,ν,ξ,ο,ρ,σ,τ,υ,reduceIte,reduceCtorEq,cQ (Om:((ws.flatten.length:Nat):Int)≠(f.bIE.length:Nat)),avV]
   exact no _ hE _ _ Ev
theorem boW {ws:List (List Int)} {i k:Nat} (hi:i<ws.length) (hk:k<ws[i].length):((ws.take i).flatten++ws[i].take k++[ws[i][k]]).Sublist ws.flatten:=by
 have e1:(ws.take i).flatten++ws[i].take k++[ws[i][k]]=(ws.take i).flatten++ws[i].take (k+1):=by
  rw[bMA hk,bLI]
 have e2:(ws.take (i+1)).flatten=(ws.take i).flatten++ws[i]:=by
  rw[bMA hi,List.flatten_append]; simp
 have e3:ws.flatten=(ws.take (i+1)).flatten++(ws.drop (i+1)).flatten:=by rw[← List.flatten_append,bMX]
 rw[e1,e3,e2]
 exact (bMK.append (bMK.refl _) (List.take_sublist ..)).trans (List.sublist_append_left ..)
theorem bkJ {n:Nat} {all pre:List Int} {d:Int} (hs:(pre++[d]).Sublist all) (h:d<0∨(n:Int)≤d∨pre.contains d=true):tR n all=false:=by
 cases hw:tR n all with
 | false=>rfl
 | true =>
  obtain⟨-,h2,h3⟩:=mE.1 hw
  have hr:=h3 d (hs.subset (by simp))
  rcases h with h | h | h
  ·omega
  ·omega
  ·have:=h2.sublist hs
   rw[bMT] at this
   exact absurd rfl (this.2.2 d (bMV.1 h) d (by simp))
structure Diff (n:Nat) (l:List Int):Prop where
 nd:l.Nodup
 rng:InR l n
theorem Diff.snoc {n:Nat} {l:List Int} {d:Int} (h:Diff n l) (h0:0≤d) (h1:d<n) (hc:l.contains d=false):Diff n (l++[d]):=by
 refine⟨?_,fun x hx=>?_⟩
 ·have:=aPD l d
  rw[hc,bKW,bMI] at this
  have h2:aeK l=true:=decide_eq_true h.nd
  rw[h2] at this
  exact of_decide_eq_true this
 ·rcases bLV.1 hx with hx | hx
  ·exact h.rng x hx
  ·rw[bLR] at hx; subst hx; exact⟨h0,h1⟩
def vrS (b:Bool):Spec:=fun name _=>match name with
 | 255=>some ([],fun _=>aD (.bool b))
 | _=>none
structure buQ (C:Ctx):Prop extends RZ C 253 255 where
 has:∀ (l:List Int) (x:Int),l.length≤1000000000000000→aE C 254 [ints l,.int .i64 x] .nil (aD (.bool (l.contains x)))
theorem bcQ {C:Ctx} (Lb:buQ C) (f:aH) (hf:f.Ok) (now:List (List Int)) (hl:eX now) (r:Int) (ws:List (List Int)) (h1:ws.length≤1000000) (h2:ws.flatten.length≤1000000) :
  BS.wp C (aT QU.res (aD (.bool (jO f now r ws)))) (PF.args [.agg f.cells,lay now,.int .i64 r,lists ws]) .nil:=by
 have hE:jO f now r ws=(dQ f now r&&(tR f.bIE.length ws.flatten&&ws.all (jJ f now r))):=rfl
 have no:∀ b:Bool,jO f now r ws=b→∀ F' H',F' 8=some (.bool b)→aT [.tmp 8] (aD (.bool (jO f now r ws))) .ret F' H':=fun b hb F' H' h8=>by
  refine aL (.inr rfl) (vs:=[.bool b]) (by simp only[go_sem,γ,δ,ε,ζ,η,θ,ι,κ,μ,ν,ξ,ο,ρ,σ,τ,υ,reduceIte,reduceCtorEq,h8]) ?_
  rw[aV,hb]
 simp only[go_sem,γ,δ,ε,ζ,η,θ,ι,κ,μ,ν,ξ,ο,ρ,σ,τ,υ,reduceIte,reduceCtorEq,BS,auG,auH,QU]
 refine aA (Lb.usable f now r hf hl) Ev ?_
 cases hu:dQ f now r with
 | false =>
  rw[hu,bKO] at hE
  simp only[go_sem,γ,δ,ε,ζ,η,θ,ι,κ,μ,ν,ξ,ο,ρ,σ,τ,υ,reduceIte,reduceCtorEq,auI]
  exact no _ hE _ _ Ev
 | true =>
  rw[hu,bKS] at hE
  have hV:=VF.of (jI hu).1
  have hd:=hV.small.bIE
  simp only[go_sem,γ,δ,ε,ζ,η,θ,ι,κ,μ,ν,ξ,ο,ρ,σ,τ,υ,reduceIte,reduceCtorEq,auJ,auK]
  refine wp_loop (α:=Nat × PV × PH) (fun s=>((((((PF.nil.set 1 (lay now)).set 2 (.int .i64 r)).set 3 (lists ws)).set 4 (.bH f.cells)).set 9 (s.2.1)).set 10 (.int .i64 s.1))) (fun s=>s.2.2) (fun s=>s.1≤ws.length∧aS s.2.2 [] [(s.2.1,1,bE (ws.take s.1).flatten)]∧Diff f.bIE.length (ws.take s.1).flatten∧amQ f now r ws s.1=true) (fun s=>ws.length-s.1) (0,.aB,.nil)
   ⟨bKT _,aS.nil.pJ 1,⟨.nil,fun x hx=>by cases hx⟩,rfl⟩ Lq PH.le_refl ?_
  rintro⟨i,v,H⟩ ⟨hi,hH,hD,hok⟩
  simp only at hi hH hD hok ⊢
  simp only[go_sem,γ,δ,ε,ζ,η,θ,ι,κ,μ,ν,ξ,ο,ρ,σ,τ,υ,reduceIte,reduceCtorEq,ahJ,auL,bKI]
  by_cases hlt:i<ws.length
  ·have bIL:(i:Int)<(ws.length:Nat):=by omega
   have hat:(ws.map fun w=>[ints w])[i]?=some [ints ws[i]]:=by simp[hlt]
   have hs:=arG (f:=f) (now:=now) (r:=r) hlt
   have hnoB:=aQB (p:=jJ f now r) hlt
   have hle:=(List.sublist_flatten_of_mem (bKM hlt)).length_le
   have hsub:=fun k (hk:k<ws[i].length)=>boW hlt hk
   have hfs:(ws.take (i+1)).flatten=(ws.take i).flatten++ws[i]:=by
    rw[bMA hlt,List.flatten_append]; simp
   have hfl:(ws.take i).flatten.length≤ws.flatten.length:=SI ws i
   rw[hok,bKS,zH] at hs
   rw[zH] at hnoB
   generalize ws[i]=w at *
   generalize (ws.take i).flatten=pre at *
   simp only[go_sem,γ,δ,ε,ζ,η,θ,ι,κ,μ,ν,ξ,ο,ρ,σ,τ,υ,reduceIte,reduceCtorEq,bIL,auM]
   refine wp_loop (α:=Nat × PV × PH) (fun s=>(((((((PF.nil.set 1 (lay now)).set 2 (.int .i64 r)).set 3 (lists ws)).set 4 (.bH f.cells)).set 9 (s.2.1)).set 10 (.int .i64 i)).set 11 (.int .i64 s.1))) (fun s=>s.2.2) (fun s=>s.1≤w.length∧aS s.2.2 [] [(s.2.1,1,bE (pre++w.take s.1))]∧Diff f.bIE.length (pre++w.take s.1)) (fun s=>w.length-s.1) (0,v,H)
    ⟨bKT _,by rw[List.take_zero,bMF]; exact hH,by rw[List.take_zero,bMF]; exact hD⟩ Lq PH.le_refl ?_
   clear hH hD
   rintro⟨k,v,H⟩ ⟨hk,hH,hD⟩
   simp only at hk hH hD ⊢
   have hO:=hH.own 0 rfl
   simp only[go_sem,γ,δ,ε,ζ,η,θ,ι,κ,μ,ν,ξ,ο,ρ,σ,τ,υ,reduceIte,reduceCtorEq,ahI,auN,hat,bKI]
   by_cases klt:k<w.length
   ·have klt':(k:Int)<(w.length:Nat):=by omega
    have hra:(w.map fun n=>[PV.int .i64 n])[k]?=some [.int .i64 w[k]]:=by simp[klt]
    have hsb:=hsub k klt
    have hws:w.take (k+1)=w.take k++[w[k]]:=bMA klt
    have hsl:=hsb.length_le
    rw[bKQ,bKX] at hsl
    have bad:∀ (F':PF) (H':PH),(w[k]<0∨(f.bIE.length:Int)≤w[k]∨(pre++w.take k).contains w[k]=true)→F' 8=some (.bool false)→aT [.tmp 8] (aD (.bool (jO f now r ws))) .ret F' H':=fun F' H' h h8=>no _ (by rw[hE,bkJ hsb h,bKO]) _ _ h8
    generalize w[k]=d at *
    generalize hlE:pre++w.take k=l at *
    simp only[go_sem,γ,δ,ε,ζ,η,θ,ι,κ,μ,ν,ξ,ο,ρ,σ,τ,υ,reduceIte,reduceCtorEq,klt',auO,hat,hra,auP,bKI]
    by_cases c1:d<0
    ·simp only[go_sem,γ,δ,ε,ζ,η,θ,ι,κ,μ,ν,ξ,ο,ρ,σ,τ,υ,reduceIte,reduceCtorEq,c1,vE]
     exact bad _ _ (.inl c1) Ev
    ·by_cases c2:d≥(f.bIE.length:Nat)
     ·simp only[go_sem,γ,δ,ε,ζ,η,θ,ι,κ,μ,ν,ξ,ο,ρ,σ,τ,υ,reduceIte,reduceCtorEq,c1,c2,vE]
      exact bad _ _ (.inr (.inl c2)) Ev
     ·simp only[go_sem,γ,δ,ε,ζ,η,θ,ι,κ,μ,ν,ξ,ο,ρ,σ,τ,υ,reduceIte,reduceCtorEq,c1,c2]
      refine RD (l:=l) (.bool _) (Lb.has l d Om) (.int _ _) hO Sq ?_
      cases hc:l.contains d with
      | true =>
       simp only[go_sem,γ,δ,ε,ζ,η,θ,ι,κ,μ,ν,ξ,ο,ρ,σ,τ,υ,reduceIte,reduceCtorEq,vE]
       exact bad _ _ (.inr (.inr hc)) Ev
      | false =>
       simp only[go_sem,γ,δ,ε,ζ,η,θ,ι,κ,μ,ν,ξ,ο,ρ,σ,τ,υ,reduceIte,reduceCtorEq,ahK]
       refine hH.append 0 (rows:=bE l) (src:=[[.int .i64 d]]) rfl Sq (by unfold roomFor; rw[cT]; simp only[bKX,maxLen]; omega) fun v2 H2 h3 _=>?_
       simp only[go_sem,γ,δ,ε,ζ,η,θ,ι,κ,μ,ν,ξ,ο,ρ,σ,τ,υ,reduceIte,reduceCtorEq,ahL,wZz k]
       refine aI (k+1,v2,H2) ⟨klt,?_,?_⟩ (by simp only; omega) Lq PH.le_refl
       ·simp only
        rw[hws,← bLI,hlE,wW]
        exact h3
       ·simp only
        rw[hws,← bLI,hlE]
        exact hD.snoc Om Om hc
   ·have klt':¬ (k:Int)<(w.length:Nat):=by omega
    have:k=w.length:=by omega
    subst this
    rw[bLG] at hH hD
    rw[← hfs] at hH hD
    simp only[go_sem,γ,δ,ε,ζ,η,θ,ι,κ,μ,ν,ξ,ο,ρ,σ,τ,υ,reduceIte,reduceCtorEq,klt']
    refine bS .nil (vrS (eY f now r w)) PH.nil_le ?_
    simp only[go_sem,γ,δ,ε,ζ,η,θ,ι,κ,μ,ν,ξ,ο,ρ,σ,τ,υ,reduceIte,reduceCtorEq,ahM,hat,bKI]
    by_cases cz:w.length=0
    ·have:w=[]:=List.length_eq_zero_iff.1 cz
     simp only[go_sem,γ,δ,ε,ζ,η,θ,ι,κ,μ,ν,ξ,ο,ρ,σ,τ,υ,reduceIte,reduceCtorEq,bT (Om:((w.length:Nat):Int)=0),JH]
     refine no _ ?_ _ _ Ev
     rw[hE,hnoB (by rw[this]; rfl),bLQ]
    ·have hne:w.isEmpty=false:=by cases w with
      | nil=>exact absurd rfl cz
      | cons x xs=>rfl
     rw[hne,bKW,bKS] at hs hnoB
     simp only[go_sem,γ,δ,ε,ζ,η,θ,ι,κ,μ,ν,ξ,ο,ρ,σ,τ,υ,reduceIte,reduceCtorEq,bF (Om:((w.length:Nat):Int)≠0),hat]
     refine bQ rfl (Lb.fits f now r w hu hl Om) Ev PH.nil_le ?_
     cases bJT:eY f now r w with
     | false =>
      simp only[go_sem,γ,δ,ε,ζ,η,θ,ι,κ,μ,ν,ξ,ο,ρ,σ,τ,υ,reduceIte,reduceCtorEq,JH]
      refine no _ ?_ _ _ Ev
      rw[hE,hnoB bJT,bLQ]
     | true =>
      rw[bJT] at hs
      simp only[go_sem,γ,δ,ε,ζ,η,θ,ι,κ,μ,ν,ξ,ο,ρ,σ,τ,υ,reduceIte,reduceCtorEq,ahN,wZz i]
      exact aI (i+1,v,H) ⟨hlt,hH,hD,hs⟩ (by simp only; omega) Lq PH.le_refl
  ·have bIL:¬ (i:Int)<(ws.length:Nat):=by omega
   have:i=ws.length:=by omega
   subst this
   rw[bLG] at hH hD
   rw[aHJ] at hok
   have hln:=(hH.own 0 rfl).lenOf
   rw[cT] at hln
   rw[hok,bMI] at hE
   by_cases cl:ws.flatten.length=f.bIE.length
   ·simp only[go_sem,γ,δ,ε,ζ,η,θ,ι,κ,μ,ν,ξ,ο,ρ,σ,τ,υ,reduceIte,reduceCtorEq,bIL,JI,hln,bKI,bT (Om:((ws.flatten.length:Nat):Int)=(f.bIE.length:Nat))]
    refine no _ ?_ _ _ Ev
    rw[hE]
    exact mE.2 ⟨cl,hD.nd,hD.rng⟩
   ·simp only[go_sem,γ,δ,ε,ζ,η,θ,ι,κ,μ,ν,ξ,ο,ρ,σ,τ,υ,reduceIte,reduceCtorEq,bIL,JI,hln,bKI,bF (Om:((ws.flatten.length:Nat):Int)≠(f.bIE.length:Nat))]
    refine no _ ?_ _ _ Ev
    rw[hE]
    cases hw:tR f.bIE.length ws.flatten with
    | false=>rfl
    | true=>exact absurd (mE.1 hw).1 cl
theorem aE.bgZ {C:Ctx} {name:Nat} {args:List PV} {H:PH} {ws:List (List Int)} {e:Int} (h:aE C name args H (a0H ws e)):aE C name args H (bZ (.tup [lists ws,.int .i64 e])) :=
 ⟨h.1,fun E w vs hN hW hvs=>(h.2 E w vs hN hW hvs).mono fun x w' he=>by
  obtain⟨u,pv,E',H',rfl,hW',hr,hE,vo,ps,rfl,hH,rfl⟩:=he
  obtain⟨φ,H1,k1,-,k3,-,k5,-⟩:=XW ps [] [] .nil hH (fun b hb=>by cases hb)
  obtain⟨E2,z1,z2,z3⟩:=(k5 (PF.nil.set 0 (.tup [vo,.int .i64 e]))).sound hW'
  have bKD:=z3 (fun _=>u) (fun i p hi=>by
   rw[lK] at hi
   split at hi
   ·cases hi; exact hr
   ·cases hi) 0 (.tup [φ vo,.int .i64 e]) (by rw[TB,lK,if_pos rfl,bLT,k3])
  refine⟨u,_,E2,.nil,rfl,z1.weaken PH.nil_le,bKD,(hE.trans z2).drop PH.nil_le,.tup rfl fun j p q hp hq=>?_,rfl⟩
  match j with
  | 0=>cases hp; cases hq; exact k1
  | 1=>cases hp; cases hq; exact .refl _
  | j+2=>cases hp⟩
abbrev fM (l:List Int):aH:=(dH l 3 0).1
abbrev a3F (l:List Int):List (List Int):=(cZ l (fM l) (dH l 3 0).2 (fM l).bIG.length).1
abbrev pM (l:List Int):Nat:=(cZ l (fM l) (dH l 3 0).2 (fM l).bIG.length).2
abbrev aJD (l:List Int):List Int:=(fF l (fL (fM l) []) (pM l)).1
structure a6O (C:Ctx):Prop extends EB C where
 fleet:∀ l:List Int,TpM l→∀ o vols a:Nat,vols≤50→a≤1000→aE C 244 [.ptr o 2 0 0,.int .i64 vols] (PH.nil.set o (bG l a)) (fun r H=>r=.agg (dH l vols a).1.cells∧H=PH.nil.set o (bG l (dH l vols a).2))
 layout:∀ l:List Int,TpM l→∀ (o a:Nat) (f:aH),a≤10000→FM f→VF f→1≤f.bIE.length→aE C 246 [.ptr o 2 0 0,.agg f.cells] (PH.nil.set o (bG l a)) (fun r H=>r=lay (cZ l f a f.bIG.length).1∧H=PH.nil.set o (bG l (cZ l f a f.bIG.length).2))
 rooms:∀ l:List Int,TpM l→∀ (o a:Nat) (f:aH),a≤10000→f.Ok→dM f=true→1≤f.bIE.length→aE C 248 [.ptr o 2 0 0,.agg f.cells] (PH.nil.set o (bG l a)) (fun r H=>r=ints (fF l (fL f []) a).1∧H=PH.nil.set o (bG l (fF l (fL f []) a).2))
def mdC (l R:List Int) (p:Nat):Spec:=fun _ vs=>match vs with
 | .ptr o _ _ _::_=>some ([o],fun _ r H'=>r=ints R∧H'=PH.nil.set o (bG l p))
 | _=>none
def a0G (l:List Int) (r:PV) (H:PH):Prop:=∃ o,r=.tup [.agg ((fM l).cells++[lay (a3F l),ints (aJD l)]),.ptr o 2 0 0]∧H=PH.nil.set o (bG l (fF l (fL (fM l) []) (pM l)).2)
theorem bfA {C:Ctx} (Lb:a6O C) {l:List Int} (T:TpM l):FJ.wp C (aT abQ.res (a0G l)) (PF.args [ints l]) .nil:=by
 obtain⟨hF,hvl,-,hp1⟩:=yE l (bIG:=3) (by decide) 0
 have hv:=wN l (bIG:=3) (by decide) 0
 have hd0:=abZ l 3 0
 have hV:=VF.of hv
 obtain⟨-,-,-,hp2⟩:=qU l hF (dH l 3 0).2 _ (bKK _)
 have hp2':pM l≤10000:=by
  show (cZ l (dH l 3 0).1 (dH l 3 0).2 (dH l 3 0).1.bIG.length).2≤10000
  omega
 obtain⟨f,hfe⟩:∃ f,(dH l 3 0).1=f:=⟨_,rfl⟩
 obtain⟨p1,hp1e⟩:∃ p,(dH l 3 0).2=p:=⟨_,rfl⟩
 obtain⟨L,hLe⟩:∃ L,a3F l=L:=⟨_,rfl⟩
 obtain⟨p2,hp2e⟩:∃ p,pM l=p:=⟨_,rfl⟩
 obtain⟨R,hRe⟩:∃ R,aJD l=R:=⟨_,rfl⟩
 obtain⟨p3,hp3e⟩:∃ p,(fF l (fL (fM l) []) (pM l)).2=p:=⟨_,rfl⟩
 have cF:∀ o,aE C 244 [.ptr o 2 0 0,.int .i64 3] (PH.nil.set o (bG l 0)) (fun r H=>r=.agg f.cells∧H=PH.nil.set o (bG l p1)):=fun o=>by
  have:=Lb.fleet l T o 3 0 (by decide) (by decide)
  rw[hfe,hp1e] at this
  exact this
 have cL:∀ o,aE C 246 [.ptr o 2 0 0,.agg f.cells] (PH.nil.set o (bG l p1)) (fun r H=>r=lay L∧H=PH.nil.set o (bG l p2)):=fun o=>by
  have:=Lb.layout l T o (dH l 3 0).2 (dH l 3 0).1 Om hF hV hd0
  rw[show (cZ l (dH l 3 0).1 (dH l 3 0).2 (dH l 3 0).1.bIG.length).1=L from hLe,show (cZ l (dH l 3 0).1 (dH l 3 0).2 (dH l 3 0).1.bIG.length).2=p2 from hp2e,hfe,hp1e] at this
  exact this
 have cR:∀ o,aE C 248 [.ptr o 2 0 0,.agg f.cells] (PH.nil.set o (bG l p2)) (fun r H=>r=ints R∧H=PH.nil.set o (bG l p3)):=fun o=>by
  have:=Lb.rooms l T o (pM l) (fM l) hp2' hF.ok hv hd0
  rw[show (fF l (fL (fM l) []) (pM l)).1=R from hRe,hp3e,show fM l=f from hfe,hp2e] at this
  exact this
 have hR:∀ r H,a0G l r H↔∃ o,r=.tup [.agg (f.cells++[lay L,ints R]),.ptr o 2 0 0]∧H=PH.nil.set o (bG l p3):=fun r H=>by
  rw[← hfe,← hLe,← hRe,← hp3e]
  exact Iff.rfl
 simp only[go_sem,γ,δ,ε,ζ,η,θ,ι,κ,μ,ν,ξ,ο,ρ,σ,τ,υ,reduceIte,reduceCtorEq,FJ,azZ,abQ]
 refine aQ fun o2 ho2=>?_
 have h1:aS (PH.nil.set o2 (.rows 9 [[.int .i64 0,.aB,.aB,.aB,.aB,.aB,.aB,.aB,.aB]])) [(o2,.rows 9 [[.int .i64 0,.aB,.aB,.aB,.aB,.aB,.aB,.aB,.aB]])] []:=aS.nil.new (H:=PH.nil) ho2 _
 simp only[go_sem,γ,δ,ε,ζ,η,θ,ι,κ,μ,ν,ξ,ο,ρ,σ,τ,υ,reduceIte,reduceCtorEq,aAA]
 refine aQ fun o ho=>?_
 have h2:=h1.new ho (bG l 0)
 simp only[go_sem,γ,δ,ε,ζ,η,θ,ι,κ,μ,ν,ξ,ο,ρ,σ,τ,υ,reduceIte,reduceCtorEq,aAB]
 refine CB (cF o) (h2.at 1 rfl) rfl ?_
 have h3:=h2.set 1 rfl (bG l p1)
 rw[PH.set_set] at h3
 simp only[go_sem,γ,δ,ε,ζ,η,θ,ι,κ,μ,ν,ξ,ο,ρ,σ,τ,υ,reduceIte,reduceCtorEq]
 refine aQ fun o5 ho5=>?_
 have h4:=h3.new ho5 (.rows 7 [f.cells])
 have n5:¬ o=o5:=h4.ne 1 2 rfl rfl (by decide)
 have n2:¬ o2=o5:=h4.ne 0 2 rfl rfl (by decide)
 have n02:¬ o2=o:=h4.ne 0 1 rfl rfl (by decide)
 have n5':¬ o5=o:=fun h=>n5 h.symm
 have n2':¬ o5=o2:=fun h=>n2 h.symm
 have n02':¬ o=o2:=fun h=>n02 h.symm
 simp only[go_sem,γ,δ,ε,ζ,η,θ,ι,κ,μ,ν,ξ,ο,ρ,σ,τ,υ,reduceIte,reduceCtorEq,aAC,bKY,bLZ,or_false,forall_eq,forall_eq_or_imp]
 refine CB (cL o) (h4.at 1 rfl) rfl ?_
 have h5:=h4.set 1 rfl (bG l p2)
 have b5:=h5.at 2 rfl
 simp only[go_sem,γ,δ,ε,ζ,η,θ,ι,κ,μ,ν,ξ,ο,ρ,σ,τ,υ,reduceIte,reduceCtorEq]
 refine bS (PH.nil.set o5 (.rows 7 [f.cells])) (mdC l R p3) (PH.aK PH.nil_le b5) ?_
 simp only[go_sem,γ,δ,ε,ζ,η,θ,ι,κ,μ,ν,ξ,ο,ρ,σ,τ,υ,reduceIte,reduceCtorEq,aAD,n5,n2,n02,n5',n2',n02']
 have h6:=h5.set 1 rfl (bG l p3)
 have b6:=h6.at 2 rfl
 rw[PH.set_set] at h6
 refine azQ (x:=bG l p2) (y:=bG l p3) (r:=ints R) (R:=fun _ r H'=>r=ints R∧H'=PH.nil.set o (bG l p3)) rfl (h5.at 1 rfl) (cR o) ⟨rfl,rfl⟩ (fun r' H' h=>h) rfl (PH.aK PH.nil_le b6) ?_
 simp only[go_sem,γ,δ,ε,ζ,η,θ,ι,κ,μ,ν,ξ,ο,ρ,σ,τ,υ,reduceIte,reduceCtorEq,n5,n2,n02,n5',n2',n02',bKY,bLZ,or_false,forall_eq,forall_eq_or_imp]
 have h7:=h6.set 0 rfl (.rows 9 [f.cells++[lay L,ints R]])
 refine⟨PH.aK PH.nil_le (h7.at 2 rfl),?_⟩
 refine aX (vs:=[.agg (f.cells++[lay L,ints R]),.ptr o 2 0 0]) (.inr rfl) (PH.nil.set o (bG l p3)) ?_ (PH.aK PH.nil_le (h7.at 1 rfl)) ?_
 ·simp only[go_sem,γ,δ,ε,ζ,η,θ,ι,κ,μ,ν,ξ,ο,ρ,σ,τ,υ,reduceIte,reduceCtorEq,n02,n02',n2,n2']
  rfl
 ·rw[hR]
  exact⟨o,rfl,rfl⟩


def axW (xs ys:List Int) (i:Nat):PF:=(((PF.nil.set 0 (ints xs)).set 1 (ints ys)).set 4 (.bool false)).set 5 (.int .i64 i)
theorem bpE {C:Ctx} (xs ys:List Int) (bJZ:xs.length≤9223372036854775806):PI.wp C (aT same.res (aD (.bool (xs==ys)))) (PF.args [ints xs,ints ys]) .nil:=by
 simp only[go_sem,γ,δ,ε,ζ,η,θ,ι,κ,μ,ν,ξ,ο,ρ,σ,τ,υ,reduceIte,reduceCtorEq,PI,aVZ,aWA,ints,same,bKI]
 refine kV (fun h=>?_) (fun h=>?_)
 ·simp only[go_sem,γ,δ,ε,ζ,η,θ,ι,κ,μ,ν,ξ,ο,ρ,σ,τ,υ,reduceIte,reduceCtorEq,aWB]
  refine aL (.inr rfl) Ev ?_
  have:¬ xs=ys:=by rintro rfl; simp at h
  simp[aV,this]
 ·have hl:xs.length=ys.length:=by simp at h; omega
  simp only[go_sem,γ,δ,ε,ζ,η,θ,ι,κ,μ,ν,ξ,ο,ρ,σ,τ,υ,reduceIte,reduceCtorEq,aWC]
  refine wp_loop (α:=Nat) (axW xs ys) (fun _=>.nil) (fun i=>i≤xs.length∧xs.take i=ys.take i) (fun i=>xs.length-i) 0 ⟨by omega,by simp⟩ ?_ PH.nil_le ?_
  ·unfold axW
   refine PF.aK (PF.aK (PF.aK (PF.aK PF.nil_le ?_) ?_) ?_) ?_<;>simp only[go_sem,γ,δ,ε,ζ,η,θ,ι,κ,μ,ν,ξ,ο,ρ,σ,τ,υ,reduceIte,reduceCtorEq,ints]<;>rfl
  ·rintro i ⟨hi,htake⟩
   simp only[go_sem,γ,δ,ε,ζ,η,θ,ι,κ,μ,ν,ξ,ο,ρ,σ,τ,υ,reduceIte,reduceCtorEq,aVY,aWD,axW,ints,bKI]
   refine kV (fun h=>?_) (fun h=>?_)
   ·have hlt:i<xs.length:=by simpa using h
    simp only[go_sem,γ,δ,ε,ζ,η,θ,ι,κ,μ,ν,ξ,ο,ρ,σ,τ,υ,reduceIte,reduceCtorEq]
    refine bS .nil eC PH.nil_le ?_
    have hx:(xs.map fun n=>[PV.int .i64 n])[i]?=some [.int .i64 xs[i]]:=by simp[hlt]
    have hy:(ys.map fun n=>[PV.int .i64 n])[i]?=some [.int .i64 ys[i]]:=by simp[show i<ys.length by omega]
    simp only[go_sem,γ,δ,ε,ζ,η,θ,ι,κ,μ,ν,ξ,ο,ρ,σ,τ,υ,reduceIte,reduceCtorEq,aWE,bNO,Int.natCast_nonneg,hx,hy,loadCells,bKX,bKK]
    refine kV (fun h2=>?_) (fun h2=>?_)
    ·simp only[go_sem,γ,δ,ε,ζ,η,θ,ι,κ,μ,ν,ξ,ο,ρ,σ,τ,υ,reduceIte,reduceCtorEq,aWF]
     refine aL (.inr rfl) Ev ?_
     have hne:xs[i]≠ys[i]:=by simpa using h2
     have:¬ xs=ys:=by rintro rfl; simp at hne
     simp[aV,this]
    ·have he:xs[i]=ys[i]:=by simpa using h2
     simp only[go_sem,γ,δ,ε,ζ,η,θ,ι,κ,μ,ν,ξ,ο,ρ,σ,τ,υ,reduceIte,reduceCtorEq,aWG]
     refine aI (i+1) ⟨by omega,?_⟩ Om ?_ PH.nil_le
     ·rw[bMA hlt,bMA (by omega:i<ys.length),htake,he]
     ·unfold axW
      have hw:IntKind.i64.wrap ((i:Int)+1)=((i+1:Nat):Int):=by
       exact dC Om
      refine PF.aK (PF.aK (PF.aK (PF.aK PF.nil_le ?_) ?_) ?_) ?_<;>simp only[go_sem,γ,δ,ε,ζ,η,θ,ι,κ,μ,ν,ξ,ο,ρ,σ,τ,υ,reduceIte,reduceCtorEq,ints,hw]
   ·have hge:i=xs.length:=by simp at h; omega
    simp only[go_sem,γ,δ,ε,ζ,η,θ,ι,κ,μ,ν,ξ,ο,ρ,σ,τ,υ,reduceIte,reduceCtorEq,aWH]
    refine aL (.inr rfl) Ev ?_
    subst hge
    have:xs=ys:=by
     rw[bLG] at htake
     rw[htake,hl,bLG]
    simp[aV,this]


def wvT (f:aH) (now:List (List Int)) (r:Int):PV:=.tup [lists (fT f now r),.int .i64 (jG f now r)]
structure a6Q (C:Ctx):Prop where
 within:∀ x n:Int,InK .i64 n→aE C 24 [.int .i64 x,.int .i64 n] .nil (aD (.int .i64 (wi x n)))
 awak:aE C 26 [] .nil (aD (.bool true))
 made:∀ l:List Int,TpM l→aE C 249 [ints l] .nil (a0G l)
theorem a6B (f:aH) (now:List (List Int)) (r:Int):(fT f now r).flatten.length≤f.bIE.length∧(fT f now r).length≤f.bIE.length∧∀ w∈fT f now r,w.length≤f.bIE.length:=by
 by_cases c:jG f now r=0
 ·obtain⟨hu,ha⟩:=yC c
  have k:=tQ ha f.bIE.length (bKK _)
  have e:fT f now r=nL f now r f.bIE.length:=by unfold fT; rw[if_pos c]
  rw[← e] at k
  refine⟨Nat.le_of_eq k.len,?_,fun w hw=>?_⟩
  ·have:=(a0K.of (ps:=(fT f now r).map fun w=>(PV.aB,w)) ha (bKK _) (by unfold wls; rw[List.map_map,e]; exact List.map_id _)).num
   rwa [bKI] at this
  ·have:=(List.sublist_flatten_of_mem hw).length_le
   rw[k.len] at this
   exact this
 ·have e:fT f now r=[]:=by unfold fT; rw[if_neg c]
  rw[e]
  exact⟨bKT _,bKT _,fun w hw=>by cases hw⟩
theorem bCM:InK .i64 2:=⟨by decide,by decide⟩
structure a0F (f:aH) (L:List (List Int)):Prop where
 ok:f.Ok
 val:dM f=true
 lay:eX L
 shp:tW f L
theorem bvJ (l:List Int):a0F (fM l) (a3F l) :=
 {val:=wN l (bIG:=3) (by decide) 0
  ok:=(yE l (bIG:=3) (by decide) 0).1.ok
  shp:=a8J l 3 0 (dH l 3 0).2 (by decide)
  lay:=(a8J l 3 0 (dH l 3 0).2 (by decide)).ok (VF.of (wN l (bIG:=3) (by decide) 0)) }

theorem tW.move {f:aH} {L:List (List Int)} (h:tW f L) {x k d:Nat} (hx:x<L.length) (hd:d<f.bIE.length):tW f (L.set x (L[x].set k d)):=by
 refine⟨by rw[bMJ]; exact h.len,fun v hv=>?_,fun r hr=>?_⟩
 ·rw[bMJ] at hv
  have:=h.row v hv
  rw[List.getElem_set]
  split
  ·rename_i e
   subst e
   rw[bMJ]; exact this
  ·exact this
 ·rcases List.mem_or_eq_of_mem_set hr with hr | rfl
  ·exact h.home r hr
  ·intro y hy
   rcases List.mem_or_eq_of_mem_set hy with hy | rfl
   ·exact h.home _ (bKM hx) y hy
   ·omega

theorem bbA (f:aH) (l:List (List Int)) (v:Nat):(lL f l v).isNone=(decide (((l.getD v []).length:Int)=fB f v)&&!decide (EE f (l.getD v [])≥0)):=by
 unfold lL EE
 split
 ·rename_i c
  rw[decide_eq_true c]
  cases eV (jE f) (l.getD v []) 0 with
  | none=>rfl
  | some i=>simp
 ·rename_i c
  rw[decide_eq_false c]; rfl
def ssS (f:aH) (row:List Int):Spec:=fun name vs=>match name,vs with
 | 89,_=>some ([],fun _=>aD (.int .i64 (EE f row)))
 | 82,[_,.int _ v]=>some ([],fun _=>aD (.int .i64 (fB f v.toNat)))
 | _,_=>none
theorem biO (f:aH) (row:List Int) (v:Nat):ssS f row 82 [.agg f.cells,.int .i64 v]=some ([],fun _=>aD (.int .i64 (fB f v))):=rfl




theorem a2L {f:aH} (hv:dM f=true) {l:List (List Int)} (hS:tW f l):gS f l=true:=by
 unfold gS
 rw[hv,decide_eq_true hS.len,bKS,bKS,bLA]
 intro v hm
 rw[hS.shape (bLL.1 hm)]
 rfl
theorem bwQ (x:Int) {n:Int} (hn:1≤n):0≤wi x n∧wi x n<n:=by
 have h1:=Int.tmod_lt_of_pos x (Om:0<n)
 have h2:=Int.lt_tmod_of_pos x (Om:0<n)
 unfold wi
 rw[if_neg Om]
 split<;>omega
theorem a0F.usable {f:aH} {L:List (List Int)} (h:a0F f L) {r:Int} (h0:0≤r) (h4:r≤4):dQ f L r=true:=by
 unfold dQ
 rw[h.val,a2L h.val h.shp,decide_eq_true h0,decide_eq_true h4]
 rfl
theorem bhV {f:aH} {now:List (List Int)} {r:Int} (hu:dQ f now r=true):∀ v,v<now.length→(∀ d∈now.getD v [],d<(f.bIE.length:Int))∧0≤(dB f v).k+r:=fun v hv=>by
 have:=vC hu hv
 exact⟨this.2.1,by omega⟩
theorem aPR {f:aH} {now:List (List Int)} {r:Int} (c:jG f now r=0):sZ f now r≤(fT f now r).length∧jO f now r (fT f now r)=true∧∀ w∈fT f now r,FW f now r w=true:=by
 obtain⟨hu,ha⟩:=yC c
 have e:fT f now r=nL f now r f.bIE.length:=by unfold fT; rw[if_pos c]
 have eb:sZ f now r=fS f now r now.length:=by unfold sZ; rw[if_pos c]
 have k:=tQ ha f.bIE.length (bKK _)
 rw[e,eb]
 refine⟨azL (mE.2 ⟨k.len,k.nd,k.rng⟩) (bLA.2 k.ok) ha (bhV hu) _ (bKK _),aPQ hu ha,fun w hw=>?_⟩
 have:=k.ok w hw
 unfold jJ at this
 rw[bLF] at this
 unfold FW
 rw[hu,this.2]; rfl
structure beG (C:Ctx):Prop extends a6Q C where
 waves:∀ (f:aH) (now:List (List Int)) (r:Int),f.Ok→eX now→aE C 263 [.agg f.cells,lay now,.int .i64 r] .nil (aD (wvT f now r))
 bound:∀ (f:aH) (now:List (List Int)) (r:Int),f.Ok→eX now→aE C 264 [.agg f.cells,lay now,.int .i64 r] .nil (aD (a4L (sZ f now r) (jG f now r)))
 check:∀ (f:aH) (now:List (List Int)) (r:Int) (ws:List (List Int)),f.Ok→eX now→ws.length≤1000000→ws.flatten.length≤1000000→aE C 265 [.agg f.cells,lay now,.int .i64 r,lists ws] .nil (aD (.bool (jO f now r ws)))
 rcheck:∀ (f:aH) (now:List (List Int)) (r:Int) (ws:List (List Int)),f.Ok→eX now→ws.length≤1000000→ws.flatten.length≤1000000→aE C 269 [.agg f.cells,lay now,.int .i64 r,lists ws] .nil (aD (.bool (jO f now r ws)))
 fits:∀ (f:aH) (now:List (List Int)) (r:Int) (down:List Int),f.Ok→eX now→down.length≤1000000000000000→aE C 252 [.agg f.cells,lay now,.int .i64 r,ints down] .nil (aD (.bool (FW f now r down)))
def lgS:Spec:=fun name _=>match name with
 | 252=>some ([],fun _=>aD (.bool true))
 | _=>none
theorem a8Q {C:Ctx} (Lb:beG C) (l:List Int) (T:TpM l) (rv:Int) :
  AC.wp C (aT NH.res (aD (.bool true))) (PF.args [ints l,.int .i64 rv]) .nil:=by
 have hC:=bvJ l
 simp only[go_sem,γ,δ,ε,ζ,η,θ,ι,κ,μ,ν,ξ,ο,ρ,σ,τ,υ,reduceIte,reduceCtorEq,AC,aqB,aqC,NH]
 refine fE (Lb.made l T) Sq PH.nil_le ?_
 rintro _ _ ⟨o,rfl,rfl⟩ hap
 obtain⟨R,hR⟩:∃ R,aJD l=R:=⟨_,rfl⟩
 rw[hR]
 generalize a3F l=L at *
 generalize fM l=f at *
 generalize PH.eJ PH.nil PH.nil _=H0
 have hd:=(VF.of hC.val).small.bIE
 simp only[go_sem,γ,δ,ε,ζ,η,θ,ι,κ,μ,ν,ξ,ο,ρ,σ,τ,υ,reduceIte,reduceCtorEq]
 refine aQ fun o7 ho7=>?_
 have b7:(H0.set o7 (.rows 9 [f.cells++[lay L,ints R]])) o7=some (.rows 9 [f.cells++[lay L,ints R]]):=by rw[eS]
 simp only[go_sem,γ,δ,ε,ζ,η,θ,ι,κ,μ,ν,ξ,ο,ρ,σ,τ,υ,reduceIte,reduceCtorEq,aqD,List.cons_append,bMY,bKY,bLZ,or_false,forall_eq,forall_eq_or_imp]
 refine aA (Lb.within rv 2 bCM) Ev ?_
 have hr:=bwQ rv (show (1:Int)≤2 by decide)
 have hu:=hC.usable hr.1 (Om:wi rv 2≤4)
 generalize wi rv 2=r at *
 generalize hHe:H0.set o7 (.rows 9 [f.cells++[lay L,ints R]])=H at *
 rw[show (H0.set o7 (.rows 9 [[PV.int IntKind.i64 f.bJS,PV.sl 4 (List.map cK.cells f.bIN),PV.sl 4 (List.map cV.cells f.bIF),PV.sl 7 (List.map bP.cells f.bIH),PV.sl 3 (List.map cD.cells f.bIE),PV.sl 17 (List.map dA.cells f.bII),PV.sl 2 (List.map eD.cells f.bIG),lay L,ints R]]))=H from hHe]
 simp only[go_sem,γ,δ,ε,ζ,η,θ,ι,κ,μ,ν,ξ,ο,ρ,σ,τ,υ,reduceIte,reduceCtorEq,aqE,b7,List.cons_append,bMY]
 refine aA (Lb.waves f L r hC.ok hC.lay) Ev ?_
 have hw:=a6B f L r
 by_cases c:jG f L r≠0
 ·have e1:jG f L r=116:=by
   unfold jG at c ⊢
   rw[hu] at c ⊢
   simp only[if_true] at c ⊢
   split at c
   ·exact absurd rfl c
   ·rename_i h; rw[if_neg h]
  have e2:fT f L r=[]:=by unfold fT; rw[if_neg c]
  simp only[go_sem,γ,δ,ε,ζ,η,θ,ι,κ,μ,ν,ξ,ο,ρ,σ,τ,υ,reduceIte,reduceCtorEq,wvT,NI,cQ c,aqF]
  refine aA Lb.awak Ev ?_
  simp only[go_sem,γ,δ,ε,ζ,η,θ,ι,κ,μ,ν,ξ,ο,ρ,σ,τ,υ,reduceIte,reduceCtorEq,e1,e2,bKI]
  refine aL (.inr rfl) Ev ?_
  rfl
 have c:jG f L r=0:=Decidable.not_not.1 c
 obtain⟨w1,w2,w3⟩:=aPR c
 have hgen:∀ w∈fT f L r,FW f L r w=true∧w.length≤24:=fun w hm=>⟨w3 w hm,by have:=hw.2.2 w hm; omega⟩
 have cc1:=Lb.check f L r (fT f L r) hC.ok hC.lay Om Om
 have cc2:=Lb.rcheck f L r (fT f L r) hC.ok hC.lay Om Om
 have cb:=Lb.bound f L r hC.ok hC.lay
 rw[c] at cb
 rw[w2] at cc1 cc2
 have hlen:=hw.2.1
 simp only[go_sem,γ,δ,ε,ζ,η,θ,ι,κ,μ,ν,ξ,ο,ρ,σ,τ,υ,reduceIte,reduceCtorEq,wvT,c,NI,cA (show (0:Int)=0 from rfl),aqG,b7,List.cons_append,bMY]
 refine aA cb Ev ?_
 generalize fT f L r=W at *
 generalize sZ f L r=n at *
 simp only[go_sem,γ,δ,ε,ζ,η,θ,ι,κ,μ,ν,ξ,ο,ρ,σ,τ,υ,reduceIte,reduceCtorEq,a4L,aqH,bKI,show ¬ ((W.length:Nat):Int)<n by omega,b7,List.cons_append,bMY,cA (show (0:Int)=0 from rfl)]
 refine aA cc1 Ev ?_
 simp only[go_sem,γ,δ,ε,ζ,η,θ,ι,κ,μ,ν,ξ,ο,ρ,σ,τ,υ,reduceIte,reduceCtorEq,b7,List.cons_append,bMY]
 refine aA cc2 Ev ?_
 simp only[go_sem,γ,δ,ε,ζ,η,θ,ι,κ,μ,ν,ξ,ο,ρ,σ,τ,υ,reduceIte,reduceCtorEq,aqI]
 refine wp_loop (α:=Nat) (fun k=>((((PF.nil.set 5 (.ptr o7 9 0 0)).set 7 (.int .i64 r)).set 8 (lists W)).set 12 (.int .i64 k))) (fun _=>H) (fun k=>k≤W.length) (fun k=>W.length-k) 0 (bKT _) Lq PH.le_refl ?_
 intro k hk
 simp only[go_sem,γ,δ,ε,ζ,η,θ,ι,κ,μ,ν,ξ,ο,ρ,σ,τ,υ,reduceIte,reduceCtorEq,adH,adI,bKI]
 by_cases hlt:k<W.length
 ·have bIL:(k:Int)<(W.length:Nat):=by omega
  have hat:(W.map fun w=>[ints w])[k]?=some [ints W[k]]:=by simp[hlt]
  have hg:=hgen W[k] (bKM hlt)
  have cf:=Lb.fits f L r W[k] hC.ok hC.lay Om
  rw[hg.1] at cf
  generalize W[k]=w at *
  simp only[go_sem,γ,δ,ε,ζ,η,θ,ι,κ,μ,ν,ξ,ο,ρ,σ,τ,υ,reduceIte,reduceCtorEq,bIL]
  refine bS .nil lgS PH.nil_le ?_
  simp only[go_sem,γ,δ,ε,ζ,η,θ,ι,κ,μ,ν,ξ,ο,ρ,σ,τ,υ,reduceIte,reduceCtorEq,adJ,b7,hat,List.cons_append,bMY]
  refine bQ rfl cf Ev PH.nil_le ?_
  simp only[go_sem,γ,δ,ε,ζ,η,θ,ι,κ,μ,ν,ξ,ο,ρ,σ,τ,υ,reduceIte,reduceCtorEq,adK,wZz k]
  exact aI (k+1) hlt Om Lq PH.le_refl
 ·have bIL:¬ (k:Int)<(W.length:Nat):=by omega
  simp only[go_sem,γ,δ,ε,ζ,η,θ,ι,κ,μ,ν,ξ,ο,ρ,σ,τ,υ,reduceIte,reduceCtorEq,bIL,adL]
  refine aA Lb.awak Ev ?_
  simp only[go_sem,γ,δ,ε,ζ,η,θ,ι,κ,μ,ν,ξ,ο,ρ,σ,τ,υ,reduceIte,reduceCtorEq]
  refine aL (.inr rfl) Ev ?_
  rfl
theorem aS.aB {H:PH} {B:List BX} {L:List LI} (h:aS H B L):∀ m,aS H B (L++mA (bKL m (.aB,[])))
 | 0=>by
  show aS H B (L++[])
  rw[bMF]; exact h
 | m+1=>by
  have:=(aS.aB h m).pJ 1
  rw[bLI] at this
  have e:mA (bKL (m+1) (PV.aB,([]:List Int)))=mA (bKL m (.aB,[]))++[(.aB,1,[])]:=by
   unfold mA
   rw[List.replicate_succ',bMM]
   rfl
  rw[e]
  exact this
structure blJ (C:Ctx):Prop where
 WQ:∀ (f:aH) (v:Nat),VF f→v<f.bIG.length→aE C 156 [.agg f.cells,.int .i64 v] .nil (aD (.int .i64 (fB f v)))
structure blM (C:Ctx):Prop where
 valid:∀ f:aH,f.Ok→aE C 161 [.agg f.cells] .nil (aD (.bool (dM f)))
 shape:∀ (f:aH) (l:List (List Int)) (v:Nat),VF f→eX l→v<l.length→v<f.bIG.length→aE C 160 [.agg f.cells,lay l,.int .i64 v] .nil (aD (shV (lL f l v)))
structure blK (C:Ctx):Prop where
 valid:∀ f:aH,f.Ok→aE C 67 [.agg f.cells] .nil (aD (.bool (dM f)))
structure blL (C:Ctx):Prop where
 valid:∀ f:aH,f.Ok→aE C 67 [.agg f.cells] .nil (aD (.bool (dM f)))
 WQ:∀ (f:aH) (v:Nat),VF f→v<f.bIG.length→aE C 82 [.agg f.cells,.int .i64 v] .nil (aD (.int .i64 (fB f v)))
 bad:∀ (f:aH) (row:List Int),row.length≤16777216→aE C 89 [.agg f.cells,ints row] .nil (aD (.int .i64 (EE f row)))
theorem a4K {C:Ctx} (L:blJ C) (f:aH) (hV:VF f) (l:List (List Int)) (hl:eX l) (v:Nat) (hv:v<l.length) (hvf:v<f.bIG.length) :
  AX.wp C (aT xK.res (bZ (shV (lL f l v)))) (PF.args [.agg f.cells,lay l,.int .i64 v]) .nil:=by
 have hr:(l.map fun r=>[ints r])[v]?=some [ints l[v]]:=by simp[hv]
 have hg:l.getD v []=l[v]:=by simp[bLC,hv]
 have hrl:(l[v]).length≤16777216:=by
  have h1:=aAY l (v+1)
  have:=hl.all
  rw[ML l hv,bKQ] at h1
  omega
 unfold lL
 rw[hg]
 simp only[go_sem,γ,δ,ε,ζ,η,θ,ι,κ,μ,ν,ξ,ο,ρ,σ,τ,υ,reduceIte,reduceCtorEq,AX,asN]
 refine aQ fun o ho=>?_
 simp only[go_sem,γ,δ,ε,ζ,η,θ,ι,κ,μ,ν,ξ,ο,ρ,σ,τ,υ,reduceIte,reduceCtorEq]
 refine bS .nil (toS f) PH.nil_le ?_
 generalize l[v]=row at *
 have fin:∀ (x:ayP) (F:PF) (H:PH),F 6=some (.ptr o 3 0 0)→F 7=some (.bool true)→H o=some (.rows 3 [x.cells])→aT xK.res (bZ (shV (some x))) .ret F H:=by
  intro x F H h6 h7 hH
  refine aX (.inr rfl) .nil (vs:=[.agg x.cells,.bool true]) ?_ PH.nil_le ⟨.refl _,rfl⟩
  simp only[go_sem,γ,δ,ε,ζ,η,θ,ι,κ,μ,ν,ξ,ο,ρ,σ,τ,υ,reduceIte,reduceCtorEq,xK,h6,h7,hH]
 simp only[go_sem,γ,δ,ε,ζ,η,θ,ι,κ,μ,ν,ξ,ο,ρ,σ,τ,υ,reduceIte,reduceCtorEq,asO,hr,bKI]
 refine bQ (biR f v) (L.WQ f v hV hvf) Ev PH.nil_le ?_
 by_cases c:((row.length:Nat):Int)=fB f v
 ·rw[if_pos c]
  simp only[go_sem,γ,δ,ε,ζ,η,θ,ι,κ,μ,ν,ξ,ο,ρ,σ,τ,υ,reduceIte,reduceCtorEq,cA c,asQ,hr,bKI]
  refine wp_loop (α:=Nat) (fun k=>biT f o v row k) (fun k=>PH.nil.set o (.rows 3 [[.int .i64 0,.int .i64 0,.int .i64 0]])) (fun k=>k≤row.length∧eV (jE f) row 0=eV (jE f) (row.drop k) k) (fun k=>row.length-k) 0 ⟨bKT _,rfl⟩ ?_ PH.le_refl ?_
  ·unfold biT
   (repeat' (first|exact PF.nil_le|refine PF.aK ?_ ?_))<;>first|(simp only[go_sem,γ,δ,ε,ζ,η,θ,ι,κ,μ,ν,ξ,ο,ρ,σ,τ,υ,reduceIte,reduceCtorEq,bKI]<;>rfl)|rfl
  rintro k ⟨hk,hb⟩
  simp only[go_sem,γ,δ,ε,ζ,η,θ,ι,κ,μ,ν,ξ,ο,ρ,σ,τ,υ,reduceIte,reduceCtorEq,asM,asR,biT]
  by_cases hlt:k<row.length
  ·have bIL:(k:Int)<(row.length:Nat):=by omega
   have hrk:(row.map fun n=>[PV.int .i64 n])[k]?=some [.int .i64 row[k]]:=by simp[hlt]
   have hdr:eV (jE f) (row.drop k) k=if jE f row[k] then some k else eV (jE f) (row.drop (k+1)) (k+1):=by
    rw[bMH hlt,eV]
   rw[hdr] at hb
   by_cases c1:row[k] < -1
   ·have hbd:jE f row[k]=true:=by simp[jE,c1]
    rw[hbd] at hb
    simp only[go_sem,γ,δ,ε,ζ,η,θ,ι,κ,μ,ν,ξ,ο,ρ,σ,τ,υ,reduceIte,reduceCtorEq,bIL,yY,hrk,yZ,c1,PT]
    rw[hb]
    exact fin ⟨1,v,k⟩ _ _ Sq Sq Sq
   ·by_cases c2:row[k]≥(f.bIE.length:Nat)
    ·have hbd:jE f row[k]=true:=by simp[jE,c2]
     rw[hbd] at hb
     simp only[go_sem,γ,δ,ε,ζ,η,θ,ι,κ,μ,ν,ξ,ο,ρ,σ,τ,υ,reduceIte,reduceCtorEq,bIL,yY,hrk,yZ,c1,bKI,c2,PT]
     rw[hb]
     exact fin ⟨1,v,k⟩ _ _ Sq Sq Sq
    ·have hbd:jE f row[k]=false:=by simp[jE]; omega
     rw[hbd] at hb
     simp only[go_sem,γ,δ,ε,ζ,η,θ,ι,κ,μ,ν,ξ,ο,ρ,σ,τ,υ,reduceIte,reduceCtorEq,bIL,yY,hrk,yZ,c1,bKI,c2,asS,wZz k]
     refine aI (k+1) ⟨hlt,hb⟩ Om ?_ PH.le_refl
     exact Lq
  ·have bIL:¬ (k:Int)<(row.length:Nat):=by omega
   have:k=row.length:=by omega
   subst this
   rw[List.drop_length,eV] at hb
   simp only[go_sem,γ,δ,ε,ζ,η,θ,ι,κ,μ,ν,ξ,ο,ρ,σ,τ,υ,reduceIte,reduceCtorEq,bIL,agB]
   rw[hb]
   refine aX (.inr rfl) .nil (vs:=[.agg [.int .i64 0,.int .i64 0,.int .i64 0],.bool false]) ?_ PH.nil_le ⟨.refl _,rfl⟩
   simp only[go_sem,γ,δ,ε,ζ,η,θ,ι,κ,μ,ν,ξ,ο,ρ,σ,τ,υ,reduceIte,reduceCtorEq,xK]
 ·rw[if_neg c]
  simp only[go_sem,γ,δ,ε,ζ,η,θ,ι,κ,μ,ν,ξ,ο,ρ,σ,τ,υ,reduceIte,reduceCtorEq,cQ c,asP,hr,bKI]
  exact fin ⟨1,v,(row.length:Nat)⟩ _ _ Sq Sq Sq
theorem aPN {C:Ctx} (L:blM C) (f:aH) (hf:f.Ok) (l:List (List Int)) (hl:eX l) :
  xJ.wp C (aT DP.res (bZ (.bool (gS f l)))) (PF.args [.agg f.cells,lay l]) .nil:=by
 simp only[go_sem,γ,δ,ε,ζ,η,θ,ι,κ,μ,ν,ξ,ο,ρ,σ,τ,υ,reduceIte,reduceCtorEq,xJ,afR,afS,DP]
 refine aA (L.valid f hf) Ev ?_
 unfold gS
 have hlr:=hl.rows
 cases hv:dM f with
 | false =>
  simp only[go_sem,γ,δ,ε,ζ,η,θ,ι,κ,μ,ν,ξ,ο,ρ,σ,τ,υ,reduceIte,reduceCtorEq,bKW,II]
  exact bA Ev (by simp only[bKO])
 | true =>
  have hV:=VF.of hv
  by_cases c:l.length=f.bIG.length
  ·have c':(((l.length:Nat):Int) != ((f.bIG.length:Nat):Int))=false:=cA Om
   rw[decide_eq_true c]
   simp only[go_sem,γ,δ,ε,ζ,η,θ,ι,κ,μ,ν,ξ,ο,ρ,σ,τ,υ,reduceIte,reduceCtorEq,bKR,bKI,c',afT]
   generalize hq:(fun v=>(lL f l v).isNone)=q
   refine wp_loop (α:=Nat) (fun k=>tSF f l k) (fun _=>.nil) (fun k=>k≤l.length∧mR q k) (fun k=>l.length-k) 0 ⟨bKT _,.zero⟩ ?_ PH.nil_le ?_
   ·unfold tSF
    (repeat' (first|exact PF.nil_le|refine PF.aK ?_ ?_))<;>first|(simp only[go_sem,γ,δ,ε,ζ,η,θ,ι,κ,μ,ν,ξ,ο,ρ,σ,τ,υ,reduceIte,reduceCtorEq,bKI]<;>rfl)|rfl
   rintro k ⟨hk,ha⟩
   simp only[go_sem,γ,δ,ε,ζ,η,θ,ι,κ,μ,ν,ξ,ο,ρ,σ,τ,υ,reduceIte,reduceCtorEq,UZ,afU,tSF]
   by_cases hlt:k<l.length
   ·have bIL:(k:Int)<(l.length:Nat):=by omega
    have hqk:q k=(lL f l k).isNone:=by rw[← hq]
    simp only[go_sem,γ,δ,ε,ζ,η,θ,ι,κ,μ,ν,ξ,ο,ρ,σ,τ,υ,reduceIte,reduceCtorEq,bIL,afV,afW]
    refine aA (L.shape f l k hV hl hlt Om) Ev ?_
    cases hs:lL f l k with
    | some x =>
     rw[hs] at hqk
     simp only[go_sem,γ,δ,ε,ζ,η,θ,ι,κ,μ,ν,ξ,ο,ρ,σ,τ,υ,reduceIte,reduceCtorEq,shV]
     refine aQ fun o ho=>?_
     simp only[go_sem,γ,δ,ε,ζ,η,θ,ι,κ,μ,ν,ξ,ο,ρ,σ,τ,υ,reduceIte,reduceCtorEq,IJ,afX]
     exact bA (b:=false) Ev (by rw[show (bKJ l.length).all q=false from dP hlt hqk])
    | none =>
     rw[hs] at hqk
     simp only[go_sem,γ,δ,ε,ζ,η,θ,ι,κ,μ,ν,ξ,ο,ρ,σ,τ,υ,reduceIte,reduceCtorEq,shV]
     refine aQ fun o ho=>?_
     simp only[go_sem,γ,δ,ε,ζ,η,θ,ι,κ,μ,ν,ξ,ο,ρ,σ,τ,υ,reduceIte,reduceCtorEq,IJ,afY,wZz k]
     refine aI (k+1) ⟨hlt,ha.step hqk⟩ Om ?_ PH.nil_le
     exact Lq
   ·have bIL:¬ (k:Int)<(l.length:Nat):=by omega
    have:k=l.length:=by omega
    subst this
    simp only[go_sem,γ,δ,ε,ζ,η,θ,ι,κ,μ,ν,ξ,ο,ρ,σ,τ,υ,reduceIte,reduceCtorEq,bIL,VA]
    exact bA (b:=true) Ev (by rw[show (bKJ l.length).all q=true from ha])
  ·have c':(((l.length:Nat):Int) != ((f.bIG.length:Nat):Int))=true:=cQ Om
   simp only[go_sem,γ,δ,ε,ζ,η,θ,ι,κ,μ,ν,ξ,ο,ρ,σ,τ,υ,reduceIte,reduceCtorEq,bKR,bKI,c',II]
   exact bA Ev (by rw[decide_eq_false c]; simp only[bKO])
theorem aPL {C:Ctx} (L:blL C) (f:aH) (hf:f.Ok) (l:List (List Int)) (hl:eX l) :
  xH.wp C (aT DO.res (aD (.bool (gS f l)))) (PF.args [.agg f.cells,lay l]) .nil:=by
 simp only[go_sem,γ,δ,ε,ζ,η,θ,ι,κ,μ,ν,ξ,ο,ρ,σ,τ,υ,reduceIte,reduceCtorEq,xH,afJ,afK,DO]
 refine aA (L.valid f hf) Sq ?_
 unfold gS
 have hlr:=hl.rows
 cases hv:dM f with
 | false =>
  simp only[go_sem,γ,δ,ε,ζ,η,θ,ι,κ,μ,ν,ξ,ο,ρ,σ,τ,υ,reduceIte,reduceCtorEq,bKW,IF]
  refine aL (.inr rfl) Ev ?_
  simp[aV]
 | true =>
  have hV:=VF.of hv
  by_cases c:l.length=f.bIG.length
  ·have c':(((l.length:Nat):Int) != ((f.bIG.length:Nat):Int))=false:=cA Om
   rw[decide_eq_true c]
   simp only[go_sem,γ,δ,ε,ζ,η,θ,ι,κ,μ,ν,ξ,ο,ρ,σ,τ,υ,reduceIte,reduceCtorEq,bKR,bKI,c',afL]
   generalize hq:(fun v=>(lL f l v).isNone)=q
   refine wp_loop (α:=Nat) (fun k=>(((PF.nil.set 1 (lay l)).set 2 (.bH f.cells)).set 5 (.int .i64 k))) (fun _=>.nil) (fun k=>k≤l.length∧mR q k) (fun k=>l.length-k) 0 ⟨bKT _,.zero⟩ Lq PH.nil_le ?_
   rintro k ⟨hk,ha⟩
   simp only[go_sem,γ,δ,ε,ζ,η,θ,ι,κ,μ,ν,ξ,ο,ρ,σ,τ,υ,reduceIte,reduceCtorEq,afI,afM,bKI]
   by_cases hlt:k<l.length
   ·have bIL:(k:Int)<(l.length:Nat):=by omega
    have hqk:q k=(decide (((l[k]).length:Int)=fB f k)&&!decide (EE f l[k]≥0)):=by
     rw[← hq,← show l.getD k []=l[k] by simp[bLC,hlt]]; exact bbA f l k
    have hrl:(l[k]).length≤16777216:=by
     have h1:=aAY l (k+1)
     have:=hl.all
     rw[ML l hlt,bKQ] at h1
     omega
    have hat:(l.map fun r=>[ints r])[k]?=some [ints l[k]]:=by simp[hlt]
    generalize l[k]=row at *
    simp only[go_sem,γ,δ,ε,ζ,η,θ,ι,κ,μ,ν,ξ,ο,ρ,σ,τ,υ,reduceIte,reduceCtorEq,bIL]
    refine bS .nil (ssS f row) PH.nil_le ?_
    simp only[go_sem,γ,δ,ε,ζ,η,θ,ι,κ,μ,ν,ξ,ο,ρ,σ,τ,υ,reduceIte,reduceCtorEq,afN,hat,bKI]
    refine bQ (biO f row k) (L.WQ f k hV Om) Sq PH.nil_le ?_
    by_cases c1:((row.length:Nat):Int)=fB f k
    ·rw[decide_eq_true c1,bKS] at hqk
     simp only[go_sem,γ,δ,ε,ζ,η,θ,ι,κ,μ,ν,ξ,ο,ρ,σ,τ,υ,reduceIte,reduceCtorEq,cA c1,hat]
     refine bQ (show ssS f row 89 [.agg f.cells,ints row]=some ([],fun _=>aD (.int .i64 (EE f row))) from rfl) (L.bad f row hrl) Sq PH.nil_le ?_
     by_cases c2:EE f row≥0
     ·rw[decide_eq_true c2] at hqk
      simp only[go_sem,γ,δ,ε,ζ,η,θ,ι,κ,μ,ν,ξ,ο,ρ,σ,τ,υ,reduceIte,reduceCtorEq,c2,IG]
      refine aL (.inr rfl) Ev ?_
      rw[aV,show (bKJ l.length).all q=false from dP hlt hqk]
     ·rw[decide_eq_false c2] at hqk
      simp only[go_sem,γ,δ,ε,ζ,η,θ,ι,κ,μ,ν,ξ,ο,ρ,σ,τ,υ,reduceIte,reduceCtorEq,c2,afO,wZz k]
      exact aI (k+1) ⟨hlt,ha.step hqk⟩ Om Lq PH.nil_le
    ·rw[decide_eq_false c1,bKO] at hqk
     simp only[go_sem,γ,δ,ε,ζ,η,θ,ι,κ,μ,ν,ξ,ο,ρ,σ,τ,υ,reduceIte,reduceCtorEq,cQ c1,IG]
     refine aL (.inr rfl) Ev ?_
     rw[aV,show (bKJ l.length).all q=false from dP hlt hqk]
   ·have bIL:¬ (k:Int)<(l.length:Nat):=by omega
    have:k=l.length:=by omega
    subst this
    simp only[go_sem,γ,δ,ε,ζ,η,θ,ι,κ,μ,ν,ξ,ο,ρ,σ,τ,υ,reduceIte,reduceCtorEq,bIL,afP]
    refine aL (.inr rfl) Ev ?_
    rw[aV,show (bKJ l.length).all q=true from ha]
  ·have c':(((l.length:Nat):Int) != ((f.bIG.length:Nat):Int))=true:=cQ Om
   simp only[go_sem,γ,δ,ε,ζ,η,θ,ι,κ,μ,ν,ξ,ο,ρ,σ,τ,υ,reduceIte,reduceCtorEq,bKR,bKI,c',IF]
   refine aL (.inr rfl) Ev ?_
   rw[aV,decide_eq_false c]; simp
theorem aJT {C:Ctx} (L:blK C) (f:aH) (hf:f.Ok) (room:List Int) :
  IE.wp C (aT afH.res (kO 1 (bE (afD f room)))) (PF.args [.agg f.cells,ints room]) .nil:=by
 simp only[go_sem,γ,δ,ε,ζ,η,θ,ι,κ,μ,ν,ξ,ο,ρ,σ,τ,υ,reduceIte,reduceCtorEq,IE,aJU,aJV,afH]
 refine aA (L.valid f hf) Sq ?_
 unfold afD
 cases hv:dM f with
 | false =>
  simp only[go_sem,γ,δ,ε,ζ,η,θ,ι,κ,μ,ν,ξ,ο,ρ,σ,τ,υ,reduceIte,reduceCtorEq,bKW,aJW]
  exact DJ (.inr rfl) Ev
 | true =>
  have hV:=VF.of hv
  have hd24:=hV.small.bIE
  have hRl:=PD f room
  simp only[go_sem,γ,δ,ε,ζ,η,θ,ι,κ,μ,ν,ξ,ο,ρ,σ,τ,υ,reduceIte,reduceCtorEq,bKR,aJX,aJY]
  refine wp_loop (α:=Nat × PV × PH) (fun t=>((((PF.nil.set 1 (ints room)).set 2 (.bH f.cells)).set 5 (t.2.1)).set 6 (.int .i64 t.1))) (fun t=>t.2.2) (fun t=>t.1≤f.bIE.length∧bJ t.2.2 1 t.2.1 (bE ((fL f room).take t.1))) (fun t=>f.bIE.length-t.1) (0,.aB,.nil) ⟨bKT _,.nil⟩ Lq PH.nil_le ?_
  rintro⟨k,v,H0⟩ ⟨hk,hO⟩
  simp only at hk hO ⊢
  simp only[go_sem,γ,δ,ε,ζ,η,θ,ι,κ,μ,ν,ξ,ο,ρ,σ,τ,υ,reduceIte,reduceCtorEq,asL,aJZ,bKI]
  by_cases hlt:k<f.bIE.length
  ·have bIL:(k:Int)<(f.bIE.length:Nat):=by omega
   obtain⟨hm,he⟩:=hV.a7O hlt
   have hmo:=hV.model _ (bKM hm)
   rw[he] at hmo
   have h11:(1:Nat)*1≤16777216:=by decide
   have bJA:=a3S f room hlt
   have rest:∀ (x:Int) (F:PF),x=rE f room k→((((((PF.nil.set 1 (ints room)).set 2 (.bH f.cells)).set 5 (v)).set 6 (.int .i64 k)).set 7 (.int .i64 x)):PF).le F →
     aC.wp C (.region YR) (dZ 1 (jB C (aC.wp C (.region PP)) (eI (fun t:Nat × PV × PH=>((((PF.nil.set 1 (ints room)).set 2 (.bH f.cells)).set 5 (t.2.1)).set 6 (.int .i64 t.1))) (fun t=>t.2.2) (fun t=>t.1≤f.bIE.length∧bJ t.2.2 1 t.2.1 (bE ((fL f room).take t.1))) (fun t=>f.bIE.length-t.1) (f.bIE.length-k) (dZ 0 (jB C (aC.wp C (.seq (.region PQ) .ret)) (aT [.tmp 4] (bZ (ints (fL f room))))))))) F H0:=by
    intro x F hx hF
    refine sV _ (fun _ _ _ _ a b=>Up.up a b) hF ?_
    simp only[go_sem,γ,δ,ε,ζ,η,θ,ι,κ,μ,ν,ξ,ο,ρ,σ,τ,υ,reduceIte,reduceCtorEq,YR,h11]
    refine gD (src:=[[.int .i64 x]]) hO Sq (by unfold roomFor; rw[cT,bLB]; simp only[bKX,maxLen]; omega) fun v' H' hO' _=>?_
    rw[a2K,hx,← bJA] at hO'
    simp only[go_sem,γ,δ,ε,ζ,η,θ,ι,κ,μ,ν,ξ,ο,ρ,σ,τ,υ,reduceIte,reduceCtorEq,PP,wZz k]
    exact aI (k+1,v',H') ⟨hlt,hO'⟩ (by simp only; omega) Lq PH.le_refl
   simp only[aC.wp,go_sem] at rest
   simp only[go_sem,γ,δ,ε,ζ,η,θ,ι,κ,μ,ν,ξ,ο,ρ,σ,τ,υ,reduceIte,reduceCtorEq,bIL]
   refine bS .nil eC PH.nil_le ?_
   simp only[go_sem,γ,δ,ε,ζ,η,θ,ι,κ,μ,ν,ξ,ο,ρ,σ,τ,υ,reduceIte,reduceCtorEq,aKA,aoL hlt,hV.bsJ hlt,a8W hm,he]
   by_cases c:room.length=f.bIE.length
   ·have hrk:k<room.length:=by omega
    have hrr:(room.map fun n=>[PV.int .i64 n])[k]?=some [.int .i64 room[k]]:=by simp[hrk]
    simp only[go_sem,γ,δ,ε,ζ,η,θ,ι,κ,μ,ν,ξ,ο,ρ,σ,τ,υ,reduceIte,reduceCtorEq,YQ,bKI,bT (Om:((room.length:Nat):Int)=(f.bIE.length:Nat)),aKB,hrr,max_eq,boA]
    refine rest _ _ ?_ Lq
    rw[rE,if_pos c,bnZ Om,bLC,bKU hrk,bNE]
   ·simp only[go_sem,γ,δ,ε,ζ,η,θ,ι,κ,μ,ν,ξ,ο,ρ,σ,τ,υ,reduceIte,reduceCtorEq,YQ,bKI,bF (Om:((room.length:Nat):Int)≠(f.bIE.length:Nat))]
    refine rest _ _ ?_ Lq
    rw[rE,if_neg c]
  ·have bIL:¬ (k:Int)<(f.bIE.length:Nat):=by omega
   have:k=f.bIE.length:=by omega
   subst this
   rw[← hRl,bLG] at hO
   simp only[go_sem,γ,δ,ε,ζ,η,θ,ι,κ,μ,ν,ξ,ο,ρ,σ,τ,υ,reduceIte,reduceCtorEq,bIL,PQ]
   exact HX (.inr rfl) hO Sq
structure bkP (C:Ctx):Prop where
 begin:∀ n:Int,aE C 144 [.int .i64 n] .nil (aD (CQ n))
 step:∀ n p w e:Int,aE C 145 [.int .i64 n,.agg [.int .i64 p,.int .i64 w],.int .i64 e] .nil (aD (mW (mV n p w e)))
 same:∀ xs ys:List Int,xs.length≤9223372036854775806→aE C 91 [ints xs,ints ys] .nil (aD (.bool (xs==ys)))
 upd:∀ (ws:List (List Int)) (p w:Int),ws.length≤1000000→ws.flatten.length≤1000000→aE C 146 [lists ws,.agg [.int .i64 p,.int .i64 w]] .nil (aD (ints (QI ws p w)))
theorem a6T {C:Ctx} (L:bkP C):ED.wp C (aT ZY.res (aD (.bool true))) (PF.args []) .nil:=by
 simp only[go_sem,γ,δ,ε,ζ,η,θ,ι,κ,μ,ν,ξ,ο,ρ,σ,τ,υ,reduceIte,reduceCtorEq,ED,ayY,ayZ,ZY]
 refine aA (L.begin 1) Ev ?_
 simp only[go_sem,γ,δ,ε,ζ,η,θ,ι,κ,μ,ν,ξ,ο,ρ,σ,τ,υ,reduceIte,reduceCtorEq,CQ]
 refine aQ fun o1 k1=>?_
 simp only[go_sem,γ,δ,ε,ζ,η,θ,ι,κ,μ,ν,ξ,ο,ρ,σ,τ,υ,reduceIte,reduceCtorEq,azA]
 refine aA (L.step 1 1 0 1) Ev ?_
 rw[show mV 1 1 0 1=((2,0),0) by decide]
 simp only[go_sem,γ,δ,ε,ζ,η,θ,ι,κ,μ,ν,ξ,ο,ρ,σ,τ,υ,reduceIte,reduceCtorEq,mW,stV]
 refine aQ fun o2 k2=>?_
 have n21:¬ o2=o1:=(cX.1 k2).1
 have n12:¬ o1=o2:=fun h=>n21 h.symm
 simp only[go_sem,γ,δ,ε,ζ,η,θ,ι,κ,μ,ν,ξ,ο,ρ,σ,τ,υ,reduceIte,reduceCtorEq,azB,n21,n12]
 refine aA (L.step 1 2 0 2) Ev ?_
 rw[show mV 1 2 0 2=((3,0),0) by decide]
 simp only[go_sem,γ,δ,ε,ζ,η,θ,ι,κ,μ,ν,ξ,ο,ρ,σ,τ,υ,reduceIte,reduceCtorEq,mW,stV,n21,n12]
 refine aQ fun o4 k4=>?_
 have n42:¬ o4=o2:=(cX.1 k4).1
 have n41:¬ o4=o1:=(cX.1 (cX.1 k4).2).1
 have n24:¬ o2=o4:=fun h=>n42 h.symm
 have n14:¬ o1=o4:=fun h=>n41 h.symm
 simp only[go_sem,γ,δ,ε,ζ,η,θ,ι,κ,μ,ν,ξ,ο,ρ,σ,τ,υ,reduceIte,reduceCtorEq,azC,n21,n12,n42,n41,n24,n14]
 refine aA (L.step 1 3 0 3) Ev ?_
 rw[show mV 1 3 0 3=((4,0),0) by decide]
 simp only[go_sem,γ,δ,ε,ζ,η,θ,ι,κ,μ,ν,ξ,ο,ρ,σ,τ,υ,reduceIte,reduceCtorEq,mW,stV,n21,n12,n42,n41,n24,n14]
 refine aQ fun o6 k6=>?_
 have n64:¬ o6=o4:=(cX.1 k6).1
 have n62:¬ o6=o2:=(cX.1 (cX.1 k6).2).1
 have n61:¬ o6=o1:=(cX.1 (cX.1 (cX.1 k6).2).2).1
 have n46:¬ o4=o6:=fun h=>n64 h.symm
 have n26:¬ o2=o6:=fun h=>n62 h.symm
 have n16:¬ o1=o6:=fun h=>n61 h.symm
 simp only[go_sem,γ,δ,ε,ζ,η,θ,ι,κ,μ,ν,ξ,ο,ρ,σ,τ,υ,reduceIte,reduceCtorEq,azD,n21,n12,n42,n41,n24,n14,n64,n62,n61,n46,n26,n16]
 refine aA (L.step 1 4 0 1) Ev ?_
 rw[show mV 1 4 0 1=((0,0),110) by decide]
 simp only[go_sem,γ,δ,ε,ζ,η,θ,ι,κ,μ,ν,ξ,ο,ρ,σ,τ,υ,reduceIte,reduceCtorEq,mW,stV]
 refine aQ fun o8 k8=>?_
 have n86:¬ o8=o6:=(cX.1 k8).1
 have n81:¬ o8=o1:=(cX.1 (cX.1 (cX.1 (cX.1 k8).2).2).2).1
 have n68:¬ o6=o8:=fun h=>n86 h.symm
 have n18:¬ o1=o8:=fun h=>n81 h.symm
 simp only[go_sem,γ,δ,ε,ζ,η,θ,ι,κ,μ,ν,ξ,ο,ρ,σ,τ,υ,reduceIte,reduceCtorEq,azE,n21,n12,n42,n41,n24,n14,n64,n62,n61,n46,n26,n16,n86,n81,n68,n18]
 refine aA (L.upd [[2,1]] 4 0 (by decide) (by decide)) Ev ?_
 rw[show QI [[2,1]] 4 0=[1,2] by decide]
 simp only[go_sem,γ,δ,ε,ζ,η,θ,ι,κ,μ,ν,ξ,ο,ρ,σ,τ,υ,reduceIte,reduceCtorEq]
 refine aA (L.same [1,2] [1,2] (by decide)) Ev ?_
 simp only[go_sem,γ,δ,ε,ζ,η,θ,ι,κ,μ,ν,ξ,ο,ρ,σ,τ,υ,reduceIte,reduceCtorEq,show (([1,2]:List Int)==[1,2])=true from rfl]
 refine aA (L.begin 0) Ev ?_
 simp only[go_sem,γ,δ,ε,ζ,η,θ,ι,κ,μ,ν,ξ,ο,ρ,σ,τ,υ,reduceIte,reduceCtorEq,CQ]
 refine aL (.inr rfl) Ev ?_
 rfl
def atA:Rg:=[iZ 4]
def atB:Rg:=[iZ 5]
def atC:Rg:=[iA 6 (.mv (.const (.int .u64 0)))]
def atD:Rg:=[iI 7 0]
def atE:Rg:=[iM 10 7,iM 11 0,iN 12 11,iB 13 .lss 10 12]
def atF:Rg:=[iM 16 6,iM 8 16]
def atG:Rg:=[iM 17 7,iM 18 1,iN 19 18,iB 20 .lss 17 19]
def atH:Rg:=[iM 21 8,iM 22 1,iM 23 7,iX 24 1 22 23,iL 25 24,iA 26 (.conv .u64 (Tm 25)),iB 27 .add 21 26,iM 8 27]
def QE:Rg:=[iM 28 0,iM 29 7,iX 30 1 28 29,iL 31 30,iA 32 (.conv .u64 (Tm 31)),iM 9 32]
def QF:Rg:=[iA 6 (.mv (.const (.int .u64 0)))]
def IT:Rg:=[iM 33 9,iM 34 8,iB 35 .lss 33 34]
def IU:Rg:=[iM 36 9,iA 37 (.bin .add (Tm 36) (.const (.int .u64 4294967296))),iM 9 37]
def IV:Rg:=[iA 6 (.mv (.const (.int .u64 1)))]
def uY:Rg:=[iM 38 5,iM 39 9,iM 40 8,iB 41 .sub 39 40,iA 42 (.conv .u32 (Tm 41)),iA 43 (.bIK true 1 1 [(.int .u32 0)] [(0,(Tm 42))]),iA 44 (.append 1 4 (Tm 38) (Tm 43)),iM 5 44]
def uZ:Rg:=[iM 14 7,iC 15 .add 14 1,iM 7 15]
def agM:aC:=(.seq (sq atE (.cond (Tm 13) .skip (.exit 0))) (.seq (.block 1 (sq atF (.seq (sq atG (.cond (Tm 20) (.region atH) .skip)) (sq QE (sq QF (.seq (sq IT (.cond (Tm 35) (sq IU (.region IV)) .skip)) (.region uY))))))) (.region uZ)))
def agN:Rg:=[iM 45 5,iK 46 38 45,iM 4 46]
def BM:aC:=(sq atA (sq atB (sq atC (.seq (sq atD (.block 0 (.loop agM))) (sq agN .ret)))))
def bbN:List Nat:=[43]
def QD:aW:=⟨2,47,BM,[.tmp 4]⟩
def aLV:Rg:=[iZ 4]
def aLW:Rg:=[iZ 5]
def aLX:Rg:=[iA 6 (.mv (.const (.int .u64 0)))]
def aLY:Rg:=[iI 7 0]
def aLZ:Rg:=[iM 9 7,iM 10 0,iN 11 10,iB 12 .lss 9 11,iM 13 12,gM 14 7 13 false,gM 15 1 13 false,gN 16 15 13 false,gB 17 .lss 14 16 13 false,iQ 18 13 17,iM 19 18,gM 20 6 19 false,iG 21 (.bin .gtr (Tm 20) (.const (.int .u64 0))) 19 false,iQ 22 19 21]
def YX:Rg:=[iM 25 6,iM 8 25]
def YY:Rg:=[iM 26 7,iM 27 0,iN 28 27,iB 29 .lss 26 28]
def YZ:Rg:=[iM 30 8,iM 31 0,iM 32 7,iX 33 1 31 32,iL 34 33,iA 35 (.conv .u64 (Tm 34)),iB 36 .add 30 35,iM 8 36]
def IX:Rg:=[iM 37 7,iM 38 1,iN 39 38,iB 40 .lss 37 39]
def IY:Rg:=[iM 41 8,iM 42 1,iM 43 7,iX 44 1 42 43,iL 45 44,iA 46 (.conv .u64 (Tm 45)),iB 47 .add 41 46,iM 8 47]
def zC:Rg:=[iM 48 5,iM 49 8,iA 50 (.conv .u32 (Tm 49)),iA 51 (.bIK true 1 1 [(.int .u32 0)] [(0,(Tm 50))]),iA 52 (.append 1 4 (Tm 48) (Tm 51)),iM 5 52]
def zD:Rg:=[iM 53 8,iA 54 (.bin .shr (Tm 53) (.const (.int .u64 32))),iM 6 54]
def zE:Rg:=[iM 23 7,iC 24 .add 23 1,iM 7 24]
def atI:aC:=(.seq (sq aLZ (.cond (Tm 22) .skip (.exit 0))) (.seq (.block 1 (sq YX (.seq (sq YY (.cond (Tm 29) (.region YZ) .skip)) (.seq (sq IX (.cond (Tm 40) (.region IY) .skip)) (sq zC (.region zD)))))) (.region zE)))
def QK:Rg:=[iM 55 5,iK 56 38 55,iM 4 56]
def IW:aC:=(sq aLV (sq aLW (sq aLX (.seq (sq aLY (.block 0 (.loop atI))) (sq QK .ret)))))
def bjH:List Nat:=[51]
def agP:aW:=⟨2,57,IW,[.tmp 4]⟩
def atJ:Rg:=[iZ 4]
def atK:Rg:=[iM 10 0,iN 11 10,iM 12 1,iN 13 12,iB 14 .add 11 13,iA 15 (.bIO 1 4 [(.int .u32 0)] (Tm 14) (Tm 14)),iM 5 15]
def atL:Rg:=[iI 6 0]
def atM:Rg:=[iM 16 6,iM 17 0,iN 18 17,iB 19 .lss 16 18]
def QN:Rg:=[iA 7 (.mv (.const (.int .u64 0)))]
def QO:Rg:=[iI 8 0]
def atN:Rg:=[iM 22 8,iM 23 1,iN 24 23,iB 25 .lss 22 24]
def atO:Rd:=[(iM 28 0,false),(iM 29 6,false),(iX 30 1 28 29,false),(iL 31 30,false),(iA 32 (.conv .u64 (Tm 31)),false),(iM 33 1,false),(iM 34 8,false),(iX 35 1 33 34,false),(iL 36 35,false),(iA 37 (.conv .u64 (Tm 36)),false),(iB 38 .mul 32 37,false),(iM 39 5,false),(iM 40 6,false),(iM 41 8,false),(iB 42 .add 40 41,false),(iX 43 1 39 42,false),(iL 44 43,false),(iA 45 (.conv .u64 (Tm 44)),false),(iB 46 .add 38 45,false),(iM 47 7,false),(iB 48 .add 46 47,false),(iM 9 48,false)]
def atP:Rg:=[iM 49 5,iM 50 6,iM 51 8,iB 52 .add 50 51,iM 53 9,iA 54 (.conv .u32 (Tm 53)),iX 55 1 49 52,iS 1 55 54]
def atQ:Rg:=[iM 56 9,iA 57 (.bin .shr (Tm 56) (.const (.int .u64 32))),iM 7 57]
def agR:Rg:=[iM 26 8,iC 27 .add 26 1,iM 8 27]
def IZ:aC:=(.seq (sq atN (.cond (Tm 25) .skip (.exit 2))) (.seq (.block 3 (dq atO (sq atP (.region atQ)))) (.region agR)))
def JA:Rg:=[iM 58 5,iM 59 6,iM 60 1,iN 61 60,iB 62 .add 59 61,iM 63 7,iA 64 (.conv .u32 (Tm 63)),iX 65 1 58 62,iS 1 65 64]
def agS:Rg:=[iM 20 6,iC 21 .add 20 1,iM 6 21]
def agQ:aC:=(.seq (sq atM (.cond (Tm 19) .skip (.exit 0))) (.seq (.block 1 (sq QN (.seq (sq QO (.block 2 (.loop IZ))) (.region JA)))) (.region agS)))
def agT:Rg:=[iM 66 5,iK 67 38 66,iM 4 67]
def BP:aC:=(sq atJ (sq atK (.seq (sq atL (.block 0 (.loop agQ))) (sq agT .ret))))
def bbP:List Nat:=[]
def QM:aW:=⟨2,68,BP,[.tmp 4]⟩
def aWV:Rg:=[iZ 4,iI 5 0]
def aWW:Rg:=[iM 7 0,iK 8 41 7,iM 9 8,gM 10 1 9 false,gK 11 41 10 9 false,iQ 12 9 11]
def anB:Rg:=[iZ 4,iI 5 2]
def aWX:Rg:=[iM 13 0,iK 14 38 13,iM 15 1,iK 16 38 15,iK2 17 43 14 16,iM 6 17]
def aWY:Rg:=[iM 18 6,iK 19 41 18]
def aWZ:Rg:=[iZ 4,iI 5 2]
def aXA:Rg:=[iM 20 6,iM 4 20,iI 5 0]
def PW:aC:=(sq aWV (.seq (sq aWW (.cond (Tm 12) (sq anB .ret) .skip)) (sq aWX (.seq (sq aWY (.cond (Tm 19) (sq aWZ .ret) .skip)) (sq aXA .ret)))))
def bpR:List Nat:=[]
def aKO:aW:=⟨2,21,PW,[.tmp 4,.tmp 5]⟩
def aYH:Rg:=[iZ 4,iI 5 0]
def aYI:Rg:=[iM 6 0,iK 7 41 6,iM 8 7,gM 9 1 8 false,gK 10 41 9 8 false,iQ 11 8 10]
def anH:Rg:=[iZ 4,iI 5 2]
def aYJ:Rg:=[iM 12 0,iM 13 1,iK2 14 32 12 13,iC 15 .lss 14 0]
def aYK:Rg:=[iZ 4,iI 5 4]
def aYL:Rg:=[iM 16 0,iK 17 38 16,iM 18 1,iK 19 38 18,iK2 20 42 17 19,iM 4 20,iI 5 0]
def QL:aC:=(sq aYH (.seq (sq aYI (.cond (Tm 11) (sq anH .ret) .skip)) (.seq (sq aYJ (.cond (Tm 15) (sq aYK .ret) .skip)) (sq aYL .ret))))
def bqF:List Nat:=[]
def aMA:aW:=⟨2,21,QL,[.tmp 4,.tmp 5]⟩
def aXZ:Rg:=[iZ 4,iI 5 0]
def aYA:Rg:=[iM 7 0,iK 8 41 7,iM 9 8,gM 10 1 9 false,gK 11 41 10 9 false,iQ 12 9 11]
def anE:Rg:=[iZ 4,iI 5 2]
def aYB:Rg:=[iM 13 0,iK 14 38 13,iM 15 1,iK 16 38 15,iK2 17 44 14 16,iM 6 17]
def aYC:Rg:=[iM 18 6,iK 19 41 18]
def aYD:Rg:=[iZ 4,iI 5 2]
def aYE:Rg:=[iM 20 6,iM 4 20,iI 5 0]
def QG:aC:=(sq aXZ (.seq (sq aYA (.cond (Tm 12) (sq anE .ret) .skip)) (sq aYB (.seq (sq aYC (.cond (Tm 19) (sq aYD .ret) .skip)) (sq aYE .ret)))))
def bpZ:List Nat:=[]
def aLS:aW:=⟨2,21,QG,[.tmp 4,.tmp 5]⟩
def aKR:Rg:=[iI 2 0]
def aKS:Rg:=[iM 5 0,iK 6 38 5,iM 0 6]
def aKT:Rg:=[iM 7 0,iN 8 7,iC 9 .eql 8 0]
def aKU:Rg:=[iI 2 0]
def aKV:Rg:=[iM 10 0,iN 11 10,iC 12 .sub 11 1,iA 13 (.bin .mul (Ci 32) (Tm 12)),iM 3 13]
def aKW:Rg:=[iM 14 0,iM 15 0,iN 16 15,iC 17 .sub 16 1,iX 18 1 14 17,iL 19 18,iM 4 19]
def aKX:Rg:=[iM 20 4,iA 21 (.bin .gtr (Tm 20) (.const (.int .u32 0)))]
def aKY:Rg:=[iM 24 3,iC 25 .add 24 1,iM 3 25]
def aKZ:Rg:=[iM 22 4,iA 23 (.bin .quo (Tm 22) (.const (.int .u32 2))),iM 4 23]
def aKQ:aC:=(.seq (sq aKX (.cond (Tm 21) .skip (.exit 0))) (.seq (.block 1 (.region aKY)) (.region aKZ)))
def asV:Rg:=[iM 26 3,iM 2 26]
def IM:aC:=(sq aKR (sq aKS (.seq (sq aKT (.cond (Tm 9) (sq aKU .ret) .skip)) (sq aKV (.seq (sq aKW (.block 0 (.loop aKQ))) (sq asV .ret))))))
def biV:List Nat:=[]
def agC:aW:=⟨1,27,IM,[.tmp 2]⟩
def bbQ:Rg:=[iZ 4]
def bbR:Rg:=[iM 9 0,iN 10 9,iC 11 .eql 10 0]
def bbS:Rg:=[iZ 4]
def bbT:Rg:=[iM 12 1,iC 13 .quo 12 32,iA 14 (.bIO 1 4 [(.int .u32 0)] (Tm 13) (Tm 13)),iM 5 14]
def bbU:Rg:=[iA 6 (.mv (.const (.int .u64 0)))]
def bbV:Rg:=[iI 7 0]
def bbW:Rg:=[iM 15 7,iM 16 0,iN 17 16,iB 18 .lss 15 17]
def bbX:Rg:=[iM 21 0,iM 22 7,iX 23 1 21 22,iL 24 23,iA 25 (.conv .u64 (Tm 24)),iM 26 1,iC 27 .rem 26 32,iA 28 (.conv .u64 (Tm 27)),iB 29 .shl 25 28,iM 30 6,iB 31 .or 29 30,iM 8 31]
def bbY:Rg:=[iM 32 5,iM 33 8,iA 34 (.conv .u32 (Tm 33)),iA 35 (.bIK true 1 1 [(.int .u32 0)] [(0,(Tm 34))]),iA 36 (.append 1 4 (Tm 32) (Tm 35)),iM 5 36]
def bbZ:Rg:=[iM 37 8,iA 38 (.bin .shr (Tm 37) (.const (.int .u64 32))),iM 6 38]
def aYN:Rg:=[iM 19 7,iC 20 .add 19 1,iM 7 20]
def aYM:aC:=(.seq (sq bbW (.cond (Tm 18) .skip (.exit 0))) (.seq (.block 1 (sq bbX (sq bbY (.region bbZ)))) (.region aYN)))
def aYO:Rg:=[iM 39 5,iM 40 6,iA 41 (.conv .u32 (Tm 40)),iA 42 (.bIK true 1 1 [(.int .u32 0)] [(0,(Tm 41))]),iA 43 (.append 1 4 (Tm 39) (Tm 42)),iK 44 38 43,iM 4 44]
def ZB:aC:=(sq bbQ (.seq (sq bbR (.cond (Tm 11) (sq bbS .ret) .skip)) (sq bbT (sq bbU (.seq (sq bbV (.block 0 (.loop aYM))) (sq aYO .ret))))))
def btN:List Nat:=[35,42]
def uup:aW:=⟨2,45,ZB,[.tmp 4]⟩
def aLG:Rg:=[iZ 4]
def aLH:Rg:=[iM 8 1,iC 9 .quo 8 32,iM 10 0,iN 11 10,iB 12 .geq 9 11]
def aLI:Rg:=[iZ 4]
def aLJ:Rg:=[iZ 5]
def aLK:Rg:=[iM 13 1,iC 14 .quo 13 32,iM 6 14]
def aLL:Rg:=[iM 15 6,iM 16 0,iN 17 16,iB 18 .lss 15 17]
def aLM:Rg:=[iM 21 0,iM 22 6,iX 23 1 21 22,iL 24 23,iA 25 (.conv .u64 (Tm 24)),iM 7 25]
def aLN:Rg:=[iM 26 6,iC 27 .add 26 1,iM 28 0,iN 29 28,iB 30 .lss 27 29]
def aLO:Rg:=[iM 31 7,iM 32 0,iM 33 6,iC 34 .add 33 1,iX 35 1 32 34,iL 36 35,iA 37 (.conv .u64 (Tm 36)),iA 38 (.bin .shl (Tm 37) (.const (.int .u64 32))),iB 39 .or 31 38,iM 7 39]
def YU:Rg:=[iM 40 5,iM 41 7,iM 42 1,iC 43 .rem 42 32,iA 44 (.conv .u64 (Tm 43)),iB 45 .shr 41 44,iA 46 (.conv .u32 (Tm 45)),iA 47 (.bIK true 1 1 [(.int .u32 0)] [(0,(Tm 46))]),iA 48 (.append 1 4 (Tm 40) (Tm 47)),iM 5 48]
def QA:Rg:=[iM 19 6,iC 20 .add 19 1,iM 6 20]
def asW:aC:=(.seq (sq aLL (.cond (Tm 18) .skip (.exit 0))) (.seq (.block 1 (sq aLM (.seq (sq aLN (.cond (Tm 30) (.region aLO) .skip)) (.region YU)))) (.region QA)))
def asX:Rg:=[iM 49 5,iK 50 38 49,iM 4 50]
def IR:aC:=(sq aLG (.seq (sq aLH (.cond (Tm 12) (sq aLI .ret) .skip)) (sq aLJ (.seq (sq aLK (.block 0 (.loop asW))) (sq asX .ret)))))
def biZ:List Nat:=[47]
def agK:aW:=⟨2,51,IR,[.tmp 4]⟩
def auT:Rg:=[iA 1 (.box true (Tm 0)),iT 2 false]
def auU:Rg:=[iF 3 2 1,iL 4 3,iK 5 38 4,iN 6 5,iC 7 .gtr 6 0,iM 8 7,gF 9 2 1 8 true,gL 10 9 8 true,gK 11 38 10 8 true,gN 12 11 8 true,gC 13 .leq 12 128 8 true,iP 14 8 13,iM 15 14,gF 16 1 1 15 true,gL 17 16 15 true,gK 18 38 17 15 true,gN 19 18 15 true,gC 20 .leq 19 128 15 true,iP 21 15 20,iM 2 21]
def BU:aC:=(sq auT (sq auU .ret))
def bcV:List Nat:=[1]
def QX:aW:=⟨1,22,BU,[.tmp 2]⟩
def atU:Rg:=[iA 1 (.box true (Tm 0)),iT 2 false]
def atV:Rg:=[iF 3 1 1,iL 4 3,iN 5 4,iC 6 .gtr 5 128,iM 7 6,gF 8 2 1 7 false,gL 9 8 7 false,gN 10 9 7 false,gC 11 .gtr 10 128 7 false,iQ 12 7 11,iM 2 12]
def BQ:aC:=(sq atU (sq atV .ret))
def bcN:List Nat:=[1]
def QS:aW:=⟨1,13,BQ,[.tmp 2]⟩
def aMK:Rg:=[iA 1 (.box true (Tm 0)),iA 2 (.alloc [(.bool false),.aB,.aB]),iI 3 0]
def aML:Rg:=[iO 4 3 1,iK 5 48 4]
def aMM:Rg:=[iA 6 (.build [(.bool false),.aB,.aB] []),iS 3 2 6,iI 3 2]
def aMN:Rg:=[iO 7 3 1,iS 3 2 7,iI 3 0]
def JC:aC:=(sq aMK (.seq (sq aML (.cond (Tm 5) (sq aMM .ret) .skip)) (sq aMN .ret)))
def bjX:List Nat:=[1]
def agV:aW:=⟨1,8,JC,[.cell 2 (some 3),.tmp 3]⟩
def ahE:Rg:=[iA 1 (.box true (Tm 0)),iA 2 (.alloc [(.bool false),.aB,.aB]),iI 3 0]
def ahF:Rg:=[iO 4 3 1,iK 5 56 4,iA 6 (.un .not (Tm 5))]
def ahG:Rg:=[iA 7 (.build [(.bool false),.aB,.aB] []),iS 3 2 7,iI 3 1]
def ahH:Rg:=[iF 8 0 1,iL 9 8,iF 10 1 1,iL 11 10,iF 12 2 1,iL 13 12,iA 14 (.call 58 [(Tm 9),(Tm 11),(Tm 13)]),iS 3 2 14,iI 3 0]
def xO:aC:=(sq ahE (.seq (sq ahF (.cond (Tm 6) (sq ahG .ret) .skip)) (sq ahH .ret)))
def a5P:List Nat:=[1]
def DU:aW:=⟨1,15,xO,[.cell 2 (some 3),.tmp 3]⟩
def auQ:Rg:=[iZ 4]
def auR:Rg:=[iM 8 0,iM 9 1,iK2 10 36 8 9,iM 7 10,iE 11 7 0,iE 12 7 1,iM 5 11,iM 6 12]
def auS:Rg:=[iM 13 5,iM 4 13]
def BT:aC:=(sq auQ (sq auR (sq auS .ret)))
def bcT:List Nat:=[]
def QW:aW:=⟨2,14,BT,[.tmp 4]⟩
def atW:Rg:=[iA 2 (.box true (Tm 0)),iA 3 (.box true (Tm 1)),iI 4 0]
def atX:Rd:=[(iF 9 1 2,false),(iL 10 9,false),(iF 11 2 3,false),(iL 12 11,false),(iK2 13 60 10 12,true),(iF 14 1 3,true),(iL 15 14,true),(iF 16 2 2,true),(iL 17 16,true),(iK2 18 60 15 17,true),(iM 5 13,false),(iM 6 18,false)]
def atY:Rg:=[iF 19 0 2,iL 20 19,iM 21 20,gM 22 5 21 true,gN 23 22 21 true,gC 24 .gtr 23 0 21 true,iP 25 21 24,iF 26 0 3,iL 27 26,iM 28 27,gM 29 6 28 true,gN 30 29 28 true,gC 31 .gtr 30 0 28 true,iP 32 28 31,iM 7 25,iM 8 32]
def atZ:Rg:=[iM 34 7,iM 35 34,gM 36 8 35 true,iG 37 (.un .not (Tm 36)) 35 true,iP 38 35 37,iM 33 38]
def auA:Rg:=[iI 4 (-1)]
def auB:Rg:=[iM 40 8,iM 41 40,gM 42 7 41 true,iG 43 (.un .not (Tm 42)) 41 true,iP 44 41 43,iM 39 44]
def auC:Rg:=[iI 4 1]
def auD:Rg:=[iM 46 7,iM 45 46]
def auE:Rg:=[iM 47 6,iM 48 5,iK2 49 32 47 48,iM 4 49]
def auF:Rg:=[iM 50 5,iM 51 6,iK2 52 32 50 51,iM 4 52]
def BR:aC:=(sq atW (dq atX (sq atY (.seq (.block 0 (sq atZ (.cond (Tm 33) (sq auA .ret) (sq auB (.cond (Tm 39) (sq auC .ret) (sq auD (.cond (Tm 45) (sq auE .ret) .skip))))))) (sq auF .ret)))))
def bcP:List Nat:=[2,3]
def QT:aW:=⟨2,53,BR,[.tmp 4]⟩
def aMQ:Rg:=[iA 2 (.box true (Tm 0)),iA 3 (.box true (Tm 1)),iT 4 false]
def aMR:Rg:=[iO 5 3 2,iO 6 3 3,iK2 7 51 5 6,iC 8 .lss 7 0,iM 4 8]
def JD:aC:=(sq aMQ (sq aMR .ret))
def bkA:List Nat:=[2,3]
def agX:aW:=⟨2,9,JD,[.tmp 4]⟩
def aNA:Rg:=[iA 2 (.box true (Tm 0)),iA 3 (.box true (Tm 1)),iT 4 false]
def aNB:Rg:=[iO 5 3 2,iO 6 3 3,iK2 7 51 5 6,iC 8 .eql 7 0,iM 4 8]
def JJ:aC:=(sq aNA (sq aNB .ret))
def bkE:List Nat:=[2,3]
def ahO:aW:=⟨2,9,JJ,[.tmp 4]⟩
def aNC:Rg:=[iA 1 (.box true (Tm 0)),iI 2 0]
def aND:Rd:=[(iO 3 3 1,true),(iA 4 (.call 47 [(Ci 0)]),true),(iK2 5 51 3 4,true),(iM 2 5,false)]
def JK:aC:=(sq aNC (dq aND .ret))
def bkG:List Nat:=[1]
def ahP:aW:=⟨1,6,JK,[.tmp 2]⟩
def aYP:Rg:=[iA 2 (.box true (Tm 0)),iA 3 (.box true (Tm 1)),iA 4 (.alloc [(.bool false),.aB,.aB]),iI 5 0]
def aYQ:Rg:=[iO 15 3 2,iK 16 56 15,iA 17 (.un .not (Tm 16)),iM 18 17,gO 19 3 3 18 false,gK 20 56 19 18 false,iG 21 (.un .not (Tm 20)) 18 false,iQ 22 18 21]
def anJ:Rg:=[iA 23 (.build [(.bool false),.aB,.aB] []),iS 3 4 23,iI 5 1]
def aYR:Rd:=[(iF 24 1 2,false),(iL 25 24,false),(iF 26 2 3,false),(iL 27 26,false),(iK2 28 60 25 27,true),(iF 29 1 3,true),(iL 30 29,true),(iF 31 2 2,true),(iL 32 31,true),(iK2 33 60 30 32,true),(iF 34 2 2,true),(iL 35 34,true),(iF 36 2 3,true),(iL 37 36,true),(iK2 38 60 35 37,true),(iM 6 28,false),(iM 7 33,false),(iM 8 38,false)]
def aYS:Rg:=[iF 39 0 2,iL 40 39,iF 41 0 3,iL 42 41,iA 43 (.eqb false (Tm 40) (Tm 42))]
def aYT:Rg:=[iM 45 6,iM 46 7,iK2 47 30 45 46,iM 44 47,iE 48 44 0,iE 49 44 1,iM 9 48,iM 10 49]
def aYU:Rg:=[iF 50 0 2,iL 51 50,iM 52 9,iM 53 8,iA 54 (.call 58 [(Tm 51),(Tm 52),(Tm 53)]),iK 55 57 54,iE 56 55 0,iE 57 55 1,iS 3 4 56,iM 5 57]
def aYV:Rg:=[iM 58 6,iM 59 7,iK2 60 32 58 59,iC 61 .geq 60 0]
def aYW:Rg:=[iM 63 6,iM 64 7,iK2 65 37 63 64,iM 62 65,iE 66 62 0,iE 67 62 1,iM 11 66,iM 12 67]
def aYX:Rg:=[iF 68 0 2,iL 69 68,iM 70 11,iM 71 8,iA 72 (.call 58 [(Tm 69),(Tm 70),(Tm 71)]),iK 73 57 72,iE 74 73 0,iE 75 73 1,iS 3 4 74,iM 5 75]
def aMG:Rg:=[iM 77 7,iM 78 6,iK2 79 37 77 78,iM 76 79,iE 80 76 0,iE 81 76 1,iM 13 80,iM 14 81]
def aMH:Rg:=[iF 82 0 3,iL 83 82,iM 84 13,iM 85 8,iA 86 (.call 58 [(Tm 83),(Tm 84),(Tm 85)]),iK 87 57 86,iE 88 87 0,iE 89 87 1,iS 3 4 88,iM 5 89]
def zF:aC:=(sq aYP (.seq (sq aYQ (.cond (Tm 22) (sq anJ .ret) .skip)) (dq aYR (.seq (sq aYS (.cond (Tm 43) (sq aYT (sq aYU .ret)) .skip)) (.seq (sq aYV (.cond (Tm 61) (sq aYW (sq aYX .ret)) .skip)) (sq aMG (sq aMH .ret)))))))
def bqH:List Nat:=[2,3]
def anI:aW:=⟨2,90,zF,[.cell 4 (some 3),.tmp 5]⟩
def aZC:Rg:=[iA 2 (.alloc [(.bool false),.aB,.aB]),iI 3 0]
def aZD:Rg:=[iA 8 (.call 47 [(Ci 0)]),iA 4 (.alloc [(.bool false),.aB,.aB]),iS 3 4 8]
def aZE:Rg:=[iI 5 0]
def aZF:Rg:=[iM 9 5,iM 10 0,iN 11 10,iB 12 .lss 9 11]
def aZG:Rd:=[(iO 16 3 4,false),(iM 17 0,false),(iM 18 5,false),(iX 19 3 17 18,false),(iO 20 3 19,false),(iK2 21 46 16 20,true),(iM 15 21,false),(iE 22 15 0,false),(iE 23 15 1,true),(iA 6 (.alloc [(.bool false),.aB,.aB]),true),(iS 3 6 22,true),(iM 7 23,false)]
def anL:Rg:=[iM 24 7,iC 25 .neq 24 0]
def aZH:Rg:=[iA 26 (.build [(.bool false),.aB,.aB] []),iM 27 7,iS 3 2 26,iM 3 27]
def aZI:Rg:=[iO 28 3 6,iS 3 4 28]
def aZJ:Rg:=[iM 13 5,iC 14 .add 13 1,iM 5 14]
def aZB:aC:=(.seq (sq aZF (.cond (Tm 12) .skip (.exit 0))) (.seq (.block 1 (dq aZG (.seq (sq anL (.cond (Tm 25) (sq aZH .ret) .skip)) (.region aZI)))) (.region aZJ)))
def aNJ:Rg:=[iO 29 3 4,iS 3 2 29,iI 3 0]
def QV:aC:=(sq aZC (sq aZD (.seq (sq aZE (.block 0 (.loop aZB))) (sq aNJ .ret))))
def bqM:List Nat:=[]
def aNI:aW:=⟨1,30,QV,[.cell 2 (some 3),.tmp 3]⟩
def sF:Rg:=[iT 4 false]
def sG:Rg:=[iM 5 0,iC 6 .geq 5 1,iM 7 6,gM 8 0 7 true,gC 9 .leq 8 6 7 true,iP 10 7 9,iM 11 10,gM 12 1 11 true,gC 13 .geq 12 0 11 true,iP 14 11 13,iM 15 14,gM 16 1 15 true,gC 17 .leq 16 4 15 true,iP 18 15 17,iM 19 18,gM 20 0 19 true,gM 21 1 19 true,gB 22 .add 20 21 19 true,gC 23 .leq 22 8 19 true,iP 24 19 23,iM 4 24]
def mD:aC:=(sq sF (sq sG .ret))
def biK:List Nat:=[]
def uW:aW:=⟨2,25,mD,[.tmp 4]⟩
def aiO:Rg:=[iT 2 false]
def aiP:Rg:=[iM 3 0,iA 4 (.bin .geq (Tm 3) (.const (.int .u8 97))),iM 5 4,gM 6 0 5 true,iG 7 (.bin .leq (Tm 6) (.const (.int .u8 122))) 5 true,iP 8 5 7,iM 9 8,gM 10 0 9 false,iG 11 (.bin .geq (Tm 10) (.const (.int .u8 65))) 9 false,gM 12 11 9 false,gM 13 0 12 true,iG 14 (.bin .leq (Tm 13) (.const (.int .u8 90))) 12 true,iG 15 (.pick (Tm 12) (Tm 14) (.const (.bool false))) 9 false,iQ 16 9 15,iM 2 16]
def xR:aC:=(sq aiO (sq aiP .ret))
def a6H:List Nat:=[]
def DY:aW:=⟨1,17,xR,[.tmp 2]⟩
def avO:Rg:=[iT 2 false]
def avP:Rg:=[iM 3 0,iA 4 (.bin .geq (Tm 3) (.const (.int .u8 48))),iM 5 4,gM 6 0 5 true,iG 7 (.bin .leq (Tm 6) (.const (.int .u8 57))) 5 true,iP 8 5 7,iM 2 8]
def BZ:aC:=(sq avO (sq avP .ret))
def bdM:List Nat:=[]
def RB:aW:=⟨1,9,BZ,[.tmp 2]⟩
def aiD:Rg:=[iT 2 false]
def aiE:Rg:=[iM 3 0,iK 4 65 3,iM 5 4,gM 6 0 5 false,gK 7 63 6 5 false,iQ 8 5 7,iM 9 8,gM 10 0 9 false,iG 11 (.bin .eql (Tm 10) (.const (.int .u8 45))) 9 false,iQ 12 9 11,iM 13 12,gM 14 0 13 false,iG 15 (.bin .eql (Tm 14) (.const (.int .u8 46))) 13 false,iQ 16 13 15,iM 2 16]
def xP:aC:=(sq aiD (sq aiE .ret))
def a6D:List Nat:=[]
def DW:aW:=⟨1,17,xP,[.tmp 2]⟩
def aiG:Rg:=[iT 2 false]
def aiH:Rg:=[iM 4 0,iA 5 (.bJM (Tm 4)),iC 6 .lss 5 1,iM 7 6,gM 8 0 7 false,iG 9 (.bJM (Tm 8)) 7 false,gC 10 .gtr 9 16 7 false,iQ 11 7 10,iM 12 11,gM 13 0 12 false,iG 14 (.bJN (Tm 13) (Ci 0)) 12 false,gK 15 65 14 12 false,iG 16 (.un .not (Tm 15)) 12 false,iQ 17 12 16]
def vG:Rg:=[iT 2 false]
def aiI:Rg:=[iI 3 0]
def aiJ:Rg:=[iM 18 3,iM 19 0,iA 20 (.bJM (Tm 19)),iB 21 .lss 18 20]
def aiK:Rg:=[iM 24 0,iM 25 3,iA 26 (.bJN (Tm 24) (Tm 25)),iK 27 64 26,iA 28 (.un .not (Tm 27))]
def aiL:Rg:=[iT 2 false]
def aiM:Rg:=[iM 22 3,iC 23 .add 22 1,iM 3 23]
def aiF:aC:=(.seq (sq aiJ (.cond (Tm 21) .skip (.exit 0))) (.seq (.block 1 (sq aiK (.cond (Tm 28) (sq aiL .ret) .skip))) (.region aiM)))
def aiN:Rg:=[iT 2 true]
def xQ:aC:=(sq aiG (.seq (sq aiH (.cond (Tm 17) (sq vG .ret) .skip)) (.seq (sq aiI (.block 0 (.loop aiF))) (sq aiN .ret))))
def a6F:List Nat:=[]
def DX:aW:=⟨1,29,xQ,[.tmp 2]⟩
theorem oF (P:List Nat) (v:Nat):aJ P++[[.int .u32 (v:Int)]]=aJ (P++[v]):=by simp[aJ]
theorem oE {P:List Nat} (h:P.length≤35184372087808):roomFor (aJ P).length 1 4:=by
 unfold roomFor
 rw[bU]
 simp only[maxLen]; omega
def SV (a b:List Nat) (v:PV) (c i:Nat):PF:=(((((PF.nil.set 0 (aF a)).set 1 (aF b)).set 5 (v)).set 6 (.int .u64 c)).set 7 (.int .i64 i))
theorem bbM {C:Ctx} (L:nN C) (a b:List Nat) (ha:Lim a) (hb:Lim b) (hle:val b≤val a) (hl:b.length≤a.length) (h1:a.length≤35184372087808) :
  BM.wp C (aT QD.res (bZ (aF (aG (val a-val b))))) (PF.args [aF a,aF b]) .nil:=by
 simp only[go_sem,BM,atA,atB,atC,atD,QD]
 refine wp_loop (α:=List Nat × Nat × PV × PH) (fun s=>SV a b s.2.2.1 s.2.1 s.1.length) (fun s=>s.2.2.2)
  (fun s=>s.1.length≤a.length∧Lim s.1∧s.2.1≤1∧val (a.take s.1.length)+4294967296 ^ s.1.length*s.2.1=val s.1+val (b.take s.1.length)∧bJ s.2.2.2 1 s.2.2.1 (aJ s.1)) (fun s=>a.length-s.1.length) ([],0,.aB,.nil) ⟨by simp,by simp[Lim],by simp,by simp[val],.nil⟩ ?_ PH.nil_le ?_
 ·unfold SV
  exact Lq
 rintro⟨P,c,v,H0⟩ ⟨hP,bJB,hc,bIX,hO⟩
 simp only at hP bJB hc bIX hO ⊢
 simp only[go_sem,γ,reduceCtorEq,agM,atE,SV]
 by_cases c1:P.length<a.length
 ·have c1':(P.length:Int)<(a.length:Nat):=by omega
  have hai:=ha _ (bKM c1)
  have hta:=bX a c1
  have hac:(aJ a)[P.length]?=some [.int .u32 ((a[P.length]:Nat):Int)]:=bK a c1
  generalize hx:a[P.length]=x at *
  have ex:IntKind.u64.wrap ((x:Nat):Int)=((x:Nat):Int):=bD Om
  have fin:∀ (t:Nat) (F':PF),t<4294967296→val (b.take (P.length+1))=val (b.take P.length)+4294967296 ^ P.length*t →
    F' 0=some (aF a)→F' 1=some (aF b)→F' 5=some v→F' 8=some (.int .u64 (c+t:Nat))→F' 7=some (.int .i64 P.length) →
    ∀ K:cO,(∀ P' c' v' F2 H2,P'.length=P.length+1→Lim P'→c'≤1→val (a.take (P.length+1))+4294967296 ^ P'.length*c'=val P'+val (b.take (P.length+1))→(SV a b v' c' P'.length).le F2→bJ H2 1 v' (aJ P')→K .normal F2 H2) →
    aC.wp C (.seq (.region QE) (.seq (.region QF) (.seq (.seq (.region IT) (.cond (.tmp 35) (.seq (.region IU) (.region IV)) .skip)) (.region uY)))) (dZ 1 (jB C (aC.wp C (.region uZ)) K)) F' H0:=by
   intro t F' ht htb g0 g1 g5 g8 g7 K hK
   have step:∀ (d c':Nat),d<4294967296→c'≤1→x+4294967296*c'=d+(c+t)→val (a.take (P.length+1))+4294967296 ^ (P.length+1)*c'=val (P++[d])+val (b.take (P.length+1)):=by
    intro d c' hd hc' he
    have h2:4294967296 ^ P.length*(x+4294967296*c')=4294967296 ^ P.length*(d+(c+t)):=by rw[he]
    rw[bKV,bKV,bKV] at h2
    rw[iJ,bMC,bLE,hta,htb]
    omega
   simp only[go_sem,γ,QE,g0,g7,hac,ex,QF,IT,g8]
   by_cases c2:x<c+t
   ·have c2':((x:Nat):Int)<((c+t:Nat):Int):=by omega
    have e1:IntKind.u64.wrap ((x:Int)+4294967296)=((x+4294967296:Nat):Int):=by
     rw[show (x:Int)+4294967296=((x+4294967296:Nat):Int) by omega]
     exact bD Om
    have e2:IntKind.u64.wrap (((x+4294967296:Nat):Int)-((c+t:Nat):Int))=((x+4294967296-(c+t):Nat):Int):=by
     rw[show ((x+4294967296:Nat):Int)-((c+t:Nat):Int)=((x+4294967296-(c+t):Nat):Int) by omega]
     exact bD Om
    have e3:IntKind.u32.wrap ((x+4294967296-(c+t):Nat):Int)=((x+4294967296-(c+t):Nat):Int):=by
     rw[cC,bLS Om]
    have hb1:(1:Nat)*1≤16777216:=by decide
    simp only[go_sem,υ,γ,η,ζ,c2',IU,e1,IV,uY,g5,g8,e2,e3,hb1]
    refine gD (src:=[[.int .u32 ((x+4294967296-(c+t):Nat):Int)]]) hO rfl (oE Om) fun v' H' hO' _=>?_
    rw[oF] at hO'
    simp only[go_sem,γ,uZ,g7,dC (Om:P.length<9223372036854775807)]
    refine hK _ 1 v' _ H' (by simp) (bJB.app fun y hy=>by simp at hy; subst hy; omega) (bKK _) ?_ ?_ hO'
    ·rw[bKQ,bKX]
     exact step _ 1 Om (bKK _) Om
    ·unfold SV
     rw[bKQ,bKX]
     exact Lq
   ·have c2':¬ ((x:Nat):Int)<((c+t:Nat):Int):=by omega
    have e2:IntKind.u64.wrap (((x:Nat):Int)-((c+t:Nat):Int))=((x-(c+t):Nat):Int):=by
     rw[show ((x:Nat):Int)-((c+t:Nat):Int)=((x-(c+t):Nat):Int) by omega]
     exact bD Om
    have e3:IntKind.u32.wrap ((x-(c+t):Nat):Int)=((x-(c+t):Nat):Int):=by
     rw[cC,bLS Om]
    have hb1:(1:Nat)*1≤16777216:=by decide
    simp only[go_sem,υ,γ,η,ζ,c2',uY,g5,g8,e2,e3,hb1]
    refine gD (src:=[[.int .u32 ((x-(c+t):Nat):Int)]]) hO rfl (oE Om) fun v' H' hO' _=>?_
    rw[oF] at hO'
    simp only[go_sem,γ,uZ,g7,dC (Om:P.length<9223372036854775807)]
    refine hK _ 0 v' _ H' (by simp) (bJB.app fun y hy=>by simp at hy; subst hy; omega) (by decide) ?_ ?_ hO'
    ·rw[bKQ,bKX]
     exact step _ 0 Om (by decide) Om
    ·unfold SV
     rw[bKQ,bKX]
     exact Lq
  simp only[aC.wp,go_sem] at fin
  simp only[go_sem,γ,reduceCtorEq,c1',atF,atG]
  by_cases c3:P.length<b.length
  ·have c3':(P.length:Int)<(b.length:Nat):=by omega
   have hbi:=hb _ (bKM c3)
   have htb:=bX b c3
   have eb:IntKind.u64.wrap ((b[P.length]:Nat):Int)=((b[P.length]:Nat):Int):=bD Om
   have es:IntKind.u64.wrap ((c:Int)+(b[P.length]:Int))=((c+b[P.length]:Nat):Int):=eQ Om
   simp only[go_sem,γ,reduceCtorEq,c3',atH,bK b c3,eb,es]
   refine fin b[P.length] _ hbi htb rfl rfl rfl rfl rfl _ ?_
   intro P' c' v' F2 H2 e1 e2 e3 e4 e5 e6
   rw[← e1] at e4
   exact aI (α:=List Nat × Nat × PV × PH) (P',c',v',H2) ⟨by simp only; omega,e2,e3,e4,e6⟩ (by simp only; omega) e5 PH.le_refl
  ·have c3':¬ (P.length:Int)<(b.length:Nat):=by omega
   have htb:val (b.take (P.length+1))=val (b.take P.length)+4294967296 ^ P.length*0:=by rw[bKZ Om,bKZ Om]; simp
   simp only[go_sem,c3']
   refine fin 0 _ (by decide) htb rfl rfl rfl rfl rfl _ ?_
   intro P' c' v' F2 H2 e1 e2 e3 e4 e5 e6
   rw[← e1] at e4
   exact aI (α:=List Nat × Nat × PV × PH) (P',c',v',H2) ⟨by simp only; omega,e2,e3,e4,e6⟩ (by simp only; omega) e5 PH.le_refl
 ·have e:P.length=a.length:=by omega
  have c1':¬ (P.length:Int)<(a.length:Nat):=by omega
  have hV:val P=val a-val b:=by
   rw[e,bLG,bKZ hl] at bIX
   have hlt:=eN bJB
   rw[e] at hlt
   rcases bNK c with h | h
   ·subst h; omega
   ·have:c=1:=by omega
    subst this; omega
  simp only[go_sem,γ,reduceCtorEq,c1',agN]
  have hs:=L.trim _ bJB Om
  rw[hV] at hs
  refine rK hs hO rfl fun F1 H1 _=>?_
  simp only[go_sem]
  exact aX (.inr rfl) .nil rfl PH.nil_le ⟨.refl _,rfl⟩
def pP (a b:List Nat) (o i:Nat):PF:=((((PF.nil.set 0 (aF a)).set 1 (aF b)).set 5 (.osl o 1 0 (a.length+b.length))).set 6 (.int .i64 i))
def utG (a b:List Nat) (o i c j:Nat):PF:=((((((PF.nil.set 0 (aF a)).set 1 (aF b)).set 5 (.osl o 1 0 (a.length+b.length))).set 6 (.int .i64 i)).set 7 (.int .u64 c)).set 8 (.int .i64 j))
theorem a4T {C:Ctx} (a b:List Nat) (ha:Lim a) (hb:Lim b) (h1:a.length≤35184372087808) (h2:b.length≤35184372087808) (L:List Nat) (i:Nat) (hi:i<a.length) (hI:CM a b L i) (q:Nat) (K:cO) (F:PF) (H:PH) (hF:(pP a b q i).le F) (hH:H q=some (.rows 1 (aJ L)))
  (hK:∀ L' F' H',CM a b L' (i+1)→(pP a b q i).le F'→H' q=some (.rows 1 (aJ L'))→K .normal F' H') :
  aC.wp C (.block 1 (.seq (.region QN) (.seq (.seq (.region QO) (.block 2 (.loop IZ))) (.region JA)))) K F H:=by
 have f0:=hF 0 _ (by unfold pP; simp only[go_sem,reduceCtorEq]; rfl)
 have f1:=hF 1 _ (by unfold pP; simp only[go_sem,γ,reduceCtorEq]; rfl)
 have f5:=hF 5 _ (by unfold pP; simp only[go_sem,γ,reduceCtorEq]; rfl)
 have f6:=hF 6 _ (by unfold pP; simp only[go_sem,γ,reduceCtorEq]; rfl)
 have hx:=ha _ (bKM hi)
 have hta:=bX a hi
 generalize hxe:a[i]=x at *
 have hax:(aJ a)[i]?=some [.int .u32 ((x:Nat):Int)]:=by rw[bK a hi,hxe]
 simp only[go_sem,QN,QO]
 refine wp_loop (α:=List Nat × Nat × Nat) (fun t=>utG a b q i t.2.1 t.2.2) (fun t=>PH.nil.set q (.rows 1 (aJ t.1)))
  (fun t=>t.2.2≤b.length∧t.1.length=a.length+b.length∧Lim t.1∧t.2.1<4294967296∧val t.1+4294967296 ^ (i+t.2.2)*t.2.1=val (a.take i)*val b+4294967296 ^ i*(x*val (b.take t.2.2))∧∀ j y,i+b.length≤j→t.1[j]?=some y→y=0) (fun t=>b.length-t.2.2) (L,0,0)
  ⟨by simp,hI.len,hI.lim,by simp,by simp[val,hI.v],hI.z⟩ ?_ (PH.aK PH.nil_le hH) ?_
 ·unfold utG
  exact Lq
 rintro⟨M,c,j⟩ ⟨hj,hM,bJB,hc,bIX,hz⟩
 simp only at hj hM bJB hc bIX hz
 simp only[go_sem,γ,reduceCtorEq,IZ,atN,utG]
 by_cases c1:j<b.length
 ·have c1':(j:Int)<(b.length:Nat):=by omega
  have hy:=hb _ (bKM c1)
  have htb:=bX b c1
  generalize hye:b[j]=y at *
  have hby:(aJ b)[j]?=some [.int .u32 ((y:Nat):Int)]:=by rw[bK b c1,hye]
  have hij:i+j<M.length:=by omega
  have hz0:=bJB _ (bKM hij)
  have bKB:=DR hij
  generalize hze:M[i+j]=z at *
  have hMz:(aJ M)[i+j]?=some [.int .u32 ((z:Nat):Int)]:=by rw[bK M hij,hze]
  have ex:IntKind.u64.wrap ((x:Nat):Int)=((x:Nat):Int):=bD Om
  have ey:IntKind.u64.wrap ((y:Nat):Int)=((y:Nat):Int):=bD Om
  have ez:IntKind.u64.wrap ((z:Nat):Int)=((z:Nat):Int):=bD Om
  have em:=aTN hx hy
  have hxy:x*y≤4294967295*4294967295:=Nat.mul_le_mul Om Om
  have e1:IntKind.u64.wrap (((x*y:Nat):Int)+(z:Int))=((x*y+z:Nat):Int):=eQ Om
  have e2:IntKind.u64.wrap (((x*y+z:Nat):Int)+(c:Int))=((x*y+z+c:Nat):Int):=eQ Om
  have eij:IntKind.i64.wrap ((i:Int)+(j:Int))=((i+j:Nat):Int):=fO Om
  have hlt:((i+j:Nat):Int)<((a.length+b.length:Nat):Int):=by omega
  generalize ht:x*y+z+c=t at *
  have htt:t<4294967296*4294967296:=by omega
  have bIR:(aJ M).set (i+j) [.int .u32 ((t%4294967296:Nat):Int)]=aJ (M.set (i+j) (t%4294967296)):=fA M (i+j) _
  simp only[go_sem,c1']
  refine bS .nil eC PH.nil_le ?_
  simp only[go_sem,γ,reduceCtorEq,atO,hax,hby,ex,ey,em,eij,hlt,hMz,ez,e1,e2,atP,cC,bIR,atQ,uX,agR,wZz j]
  refine aI (M.set (i+j) (t%4294967296),t/4294967296,j+1) ⟨by simp only; omega,by simp only[bMJ]; exact hM,bJB.set _ (bLY _ (by decide)),by simp only; omega,?_,ajK hz _ _ Om⟩ (by simp only; omega) ?_ (PH.aK PH.nil_le Sq)
  ·simp only
   have h3:=bKB (t%4294967296)
   have h4:4294967296 ^ (i+(j+1))*(t/4294967296)+4294967296 ^ (i+j)*(t%4294967296)=4294967296 ^ (i+j)*t:=by
    rw[← bMU,bMC,bLE,← bKV,bNQ]
   have h5:4294967296 ^ (i+j)*t=4294967296 ^ (i+j)*(x*y)+4294967296 ^ (i+j)*z+4294967296 ^ (i+j)*c:=by rw[← ht,bKV,bKV]
   have h6:4294967296 ^ i*(x*val (b.take (j+1)))=4294967296 ^ i*(x*val (b.take j))+4294967296 ^ (i+j)*(x*y):=by
    rw[htb,bKV,bKV,Nat.pow_add]
    congr 1
    rw[Nat.mul_left_comm x,bLE]
   omega
  ·exact Lq
 ·have he:j=b.length:=by omega
  have c1':¬ (j:Int)<(b.length:Nat):=by omega
  subst he
  have hij:i+b.length<M.length:=by omega
  have hz0:M[i+b.length]=0:=hz _ _ (bKK _) (bKU hij)
  have bKB:=DR hij
  have hMz:(aJ M)[i+b.length]?=some [.int .u32 ((0:Nat):Int)]:=by rw[bK M hij,hz0]
  have eij:IntKind.i64.wrap ((i:Int)+((b.length:Nat):Int))=((i+b.length:Nat):Int):=fO Om
  have hlt:((i+b.length:Nat):Int)<((a.length+b.length:Nat):Int):=by omega
  have bIR:(aJ M).set (i+b.length) [.int .u32 ((c%4294967296:Nat):Int)]=aJ (M.set (i+b.length) c):=by
   rw[bLS hc]; exact fA M _ _
  simp only[go_sem,γ,reduceCtorEq,c1',JA,eij,cC,hlt,hMz,bIR]
  refine hK (M.set (i+b.length) c) _ _ ⟨by rw[bMJ]; exact hM,bJB.set _ hc,?_,fun j y hj hy=>?_⟩ (by unfold pP; exact Lq) Sq
  ·have h3:=bKB c
   rw[hz0,Nat.mul_zero,bMB] at h3
   rw[h3,bIX,bLG,hta,bLM,bLE]
  ·rw[List.getElem?_set_ne Om] at hy
   exact hz j y Om hy
theorem bbO {C:Ctx} (L:nN C) (a b:List Nat) (ha:Lim a) (hb:Lim b) (h1:a.length≤8388608) (h2:b.length≤8388608) :
  BP.wp C (aT QM.res (bZ (aF (aG (val a*val b))))) (PF.args [aF a,aF b]) .nil:=by
 have hlen:IntKind.i64.wrap (((a.length:Nat):Int)+((b.length:Nat):Int))=((a.length+b.length:Nat):Int):=fO Om
 have hm1:((a.length+b.length:Nat):Int)*((4:Nat):Int)≤140737488355328:=by omega
 have hm2:((a.length+b.length:Nat):Int)≤9223372036854775807:=by omega
 have hz:bKL (a.length+b.length) [PV.int .u32 0]=aJ (bKL (a.length+b.length) 0):=by
  simp[aJ]
 simp only[go_sem,γ,reduceCtorEq,BP,atJ,atK,QM,bKI,hlen,hm1,hm2,hz]
 refine aQ fun o ho=>?_
 simp only[go_sem,γ,atL]
 refine wp_loop (α:=List Nat × Nat) (fun t=>pP a b o t.2) (fun t=>PH.nil.set o (.rows 1 (aJ t.1))) (fun t=>t.2≤a.length∧CM a b t.1 t.2) (fun t=>a.length-t.2) (bKL (a.length+b.length) 0,0)
  ⟨by simp,by simp,tG _,by simp[val,qI],fun j x _ hx=>by rw[List.getElem?_replicate] at hx; split at hx<;>simp_all⟩ ?_ (PH.aK PH.nil_le Sq) ?_
 ·unfold pP
  exact Lq
 rintro⟨M,i⟩ ⟨hi,hI⟩
 simp only at hi hI
 simp only[go_sem,γ,reduceCtorEq,agQ,atM,pP]
 by_cases c1:i<a.length
 ·have c1':(i:Int)<(a.length:Nat):=by omega
  have key:=a4T (C:=C) a b ha hb Om Om M i c1 hI o
  simp only[go_sem] at key
  simp only[go_sem,c1']
  refine key _ _ _ (by unfold pP; exact Lq) Sq ?_
  intro L' F' H' hI' hF' hH'
  have g6:=hF' 6 _ (by unfold pP; simp only[go_sem,γ,reduceCtorEq]; rfl)
  have g0:=hF' 0 _ (by unfold pP; simp only[go_sem,reduceCtorEq]; rfl)
  have g1:=hF' 1 _ (by unfold pP; simp only[go_sem,γ,reduceCtorEq]; rfl)
  have g5:=hF' 5 _ (by unfold pP; simp only[go_sem,γ,reduceCtorEq]; rfl)
  simp only[go_sem,γ,agS,g6,wZz i]
  refine aI (L',i+1) ⟨by simp only; omega,hI'⟩ (by simp only; omega) ?_ (PH.aK PH.nil_le hH')
  exact Lq
 ·have he:i=a.length:=by omega
  subst he
  have c1':¬ ((a.length:Nat):Int)<(a.length:Nat):=by omega
  have hV:val M=val a*val b:=by rw[hI.v,bLG]
  simp only[go_sem,γ,reduceCtorEq,agT]
  have hs:=L.trim _ hI.lim (by rw[hI.len]; omega)
  rw[hV] at hs
  refine oL (o:=o) (s:=1) (k:=a.length+b.length) (rs:=aJ M) (v:=aF (aG (val a*val b))) ?_ rfl Sq (by rw[bU,hI.len]; exact bKK _) ?_
  ·rw[bKZ (by rw[bU,hI.len]; exact bKK _)]; exact hs
  ·simp only[go_sem,γ,reduceCtorEq]
   exact aX (.inr rfl) .nil rfl PH.nil_le ⟨.refl _,rfl⟩
structure ayM (C:Ctx):Prop extends ayJ C where
 minus:∀ a b,Lim a→Lim b→val b≤val a→b.length≤a.length→a.length≤35184372087808→aE C 42 [aF a,aF b] .nil (aD (aF (aG (val a-val b))))
 times:∀ a b,Lim a→Lim b→a.length≤8388608→b.length≤8388608→aE C 44 [aF a,aF b] .nil (aD (aF (aG (val a*val b))))
theorem bpY {C:Ctx} (L:ayM C) (a b:List Nat) (ha:Lim a) (hb:Lim b) (la:a.length≤35184372087808) (lb:b.length≤35184372087808) :
  QG.wp C (aT aLS.res (bZ (opV (dS (val a) (val b)) (val a*val b)))) (PF.args [aF a,aF b]) .nil:=by
 unfold opV
 simp only[go_sem,reduceCtorEq,QG,aXZ,aYA,aLS]
 refine aA (L.large a ha la) rfl ?_
 by_cases c1:nl (val a)>512
 ·simp only[go_sem,γ,c1,anE]
  rw[if_pos (by simp[dS,c1])]
  exact eF rfl
 simp only[go_sem,γ,c1]
 refine aA (L.large b hb lb) rfl ?_
 by_cases c2:nl (val b)>512
 ·simp only[go_sem,γ,reduceCtorEq,c2,anE]
  rw[if_pos (by simp[dS,c2])]
  exact eF rfl
 rw[if_neg (by simp[dS,c1,c2])]
 simp only[go_sem,γ,reduceCtorEq,c2,aYB]
 refine aA (L.trim a ha la) rfl ?_
 simp only[go_sem,γ]
 refine aA (L.trim b hb lb) rfl ?_
 simp only[go_sem]
 have ht:=L.times (aG (val a)) (aG (val b)) (aU _) (aU _) (by rw[aZ]; omega) (by rw[aZ]; omega)
 rw[aR,aR] at ht
 refine aA ht rfl ?_
 have n1:=kI (a:=val a) (b:=val b) (m:=512) (n:=512) Om Om
 have hl:=L.large (aG (val a*val b)) (aU _) (by rw[aZ]; omega)
 rw[aR] at hl
 simp only[go_sem,γ,aYC]
 refine aA hl rfl ?_
 unfold szV szL szE
 by_cases c3:nl (val a*val b)>512
 ·rw[if_pos c3,if_pos c3]
  simp only[go_sem,γ,c3,aYD]
  exact eF rfl
 ·rw[if_neg c3,if_neg c3]
  simp only[go_sem,γ,c3,aYE]
  exact aX (.inr rfl) .nil rfl PH.nil_le ⟨.refl _,rfl⟩
def uK (a:List Nat) (i:Nat):Nat:=a.getD i 0
theorem azW {a:List Nat} (h:Lim a) (i:Nat):uK a i<4294967296:=by
 unfold uK
 rw[bLC]
 rcases bLD i a.length with h1 | h1
 ·rw[bKU h1]; exact h _ (bKM h1)
 ·rw[bLW h1]; decide
theorem WG {a:List Nat} {i:Nat} (h:i<a.length):uK a i=a[i]:=by simp[uK,bLC,h]
theorem LT {a:List Nat} {i:Nat} (h:¬ i<a.length):uK a i=0:=by simp[uK,bLC,h]
theorem QP (a:List Nat) (i:Nat):val (a.take (i+1))=val (a.take i)+4294967296 ^ i*uK a i:=by
 rcases bLD i a.length with h | h
 ·rw[WG h]; exact bX a h
 ·rw[LT Om,bKZ Om,bKZ Om]; simp
def rH (a b:List Nat) (v:PV) (c i:Nat):PF:=(((((PF.nil.set 0 (aF a)).set 1 (aF b)).set 5 (v)).set 6 (.int .u64 c)).set 7 (.int .i64 i))
theorem bjG {C:Ctx} (L:nN C) (a b:List Nat) (ha:Lim a) (hb:Lim b) (h1:a.length≤8388608) (h2:b.length≤8388608) :
  IW.wp C (aT agP.res (bZ (aF (aG (val a+val b))))) (PF.args [aF a,aF b]) .nil:=by
 simp only[go_sem,IW,aLV,aLW,aLX,aLY,agP]
 refine wp_loop (α:=List Nat × Nat × PV × PH) (fun s=>rH a b s.2.2.1 s.2.1 s.1.length) (fun s=>s.2.2.2)
  (fun s=>s.1.length≤max a.length b.length+1∧(s.1.length≤max a.length b.length∨s.2.1=0)∧Lim s.1∧s.2.1≤1∧val s.1+4294967296 ^ s.1.length*s.2.1=val (a.take s.1.length)+val (b.take s.1.length)∧bJ s.2.2.2 1 s.2.2.1 (aJ s.1)) (fun s=>max a.length b.length+1-s.1.length) ([],0,.aB,.nil)
  ⟨by simp,by simp,by simp[Lim],by simp,by simp[val],.nil⟩ ?_ PH.nil_le ?_
 ·unfold rH
  exact Lq
 rintro⟨P,c,v,H0⟩ ⟨hP,hPc,bJB,hc,bIX,hO⟩
 simp only at hP hPc bJB hc bIX hO ⊢
 have hda:=azW ha P.length
 have hdb:=azW hb P.length
 have hta:=QP a P.length
 have htb:=QP b P.length
 generalize hx:uK a P.length=x at *
 generalize hy:uK b P.length=y at *
 have ex:IntKind.u64.wrap ((x:Nat):Int)=((x:Nat):Int):=bD Om
 have ey:IntKind.u64.wrap ((y:Nat):Int)=((y:Nat):Int):=bD Om
 have e1:IntKind.u64.wrap ((c:Int)+(x:Int))=((c+x:Nat):Int):=eQ Om
 have e2:IntKind.u64.wrap (((c+x:Nat):Int)+(y:Int))=((c+x+y:Nat):Int):=eQ Om
 have hra:P.length<a.length→(aJ a)[P.length]?=some [.int .u32 ((x:Nat):Int)]:=fun h=>by rw[bK a h,← hx,WG h]
 have hrb:P.length<b.length→(aJ b)[P.length]?=some [.int .u32 ((y:Nat):Int)]:=fun h=>by rw[bK b h,← hy,WG h]
 have hxa:¬ P.length<a.length→x=0:=fun h=>by rw[← hx,LT h]
 have hyb:¬ P.length<b.length→y=0:=fun h=>by rw[← hy,LT h]
 have body:(P.length≤max a.length b.length)→∀ K:cO,(∀ P' c' v' F2 H2,P'.length=P.length+1→Lim P'→c'≤1→(P.length+1≤max a.length b.length∨c'=0)→val P'+4294967296 ^ P'.length*c'=val (a.take (P.length+1))+val (b.take (P.length+1))→(rH a b v' c' P'.length).le F2→bJ H2 1 v' (aJ P')→K .normal F2 H2) →
   ∀ F:PF,(rH a b v c P.length).le F→aC.wp C (.seq (.block 1 (.seq (.region YX) (.seq (.seq (.region YY) (.cond (.tmp 29) (.region YZ) .skip)) (.seq (.seq (.region IX) (.cond (.tmp 40) (.region IY) .skip)) (.seq (.region zC) (.region zD)))))) (.region zE)) K F H0:=by
  intro hle K hK F hF
  have g0:F 0=some (aF a):=hF 0 _ (by unfold rH; simp only[go_sem,reduceCtorEq])
  have g1:F 1=some (aF b):=hF 1 _ (by unfold rH; simp only[go_sem,γ,reduceCtorEq])
  have g5:F 5=some v:=hF 5 _ (by unfold rH; simp only[go_sem,γ,reduceCtorEq])
  have g6:F 6=some (.int .u64 c):=hF 6 _ (by unfold rH; simp only[go_sem,γ,reduceCtorEq])
  have g7:F 7=some (.int .i64 P.length):=hF 7 _ (by unfold rH; simp only[go_sem,γ,reduceCtorEq])
  have fin:∀ F':PF,F' 0=some (aF a)→F' 1=some (aF b)→F' 5=some v→F' 7=some (.int .i64 P.length)→F' 8=some (.int .u64 (c+x+y:Nat)) →
    aC.wp C (.seq (.region zC) (.region zD)) (dZ 1 (jB C (aC.wp C (.region zE)) K)) F' H0:=by
   intro F' q0 q1 q5 q7 q8
   have hb1:(1:Nat)*1≤16777216:=by decide
   generalize ht:c+x+y=t at *
   have htt:t<2*4294967296:=by omega
   simp only[go_sem,υ,γ,η,ζ,zC,q5,q8,hb1,cC]
   refine gD (src:=[[.int .u32 ((t%4294967296:Nat):Int)]]) hO rfl (oE Om) fun v' H' hO' _=>?_
   rw[oF] at hO'
   simp only[go_sem,γ,zD,q8,uX,zE,q7,dC (Om:P.length<9223372036854775807)]
   refine hK (P++[t%4294967296]) (t/4294967296) v' _ H' (by simp) (bJB.app fun y hy=>by simp at hy; subst hy; omega) Om ?_ ?_ ?_ hO'
   ·rcases bLD P.length (max a.length b.length) with h | h
    ·exact .inl h
    ·right
     have h1:=hxa Om
     have h2:=hyb Om
     omega
   ·rw[iJ,bKQ,bKX,hta,htb,bMC,bLE,bMU,← bKV]
    rw[show t%4294967296+4294967296*(t/4294967296)=t from Nat.mod_add_div t 4294967296]
    have h3:4294967296 ^ P.length*t=4294967296 ^ P.length*c+4294967296 ^ P.length*x+4294967296 ^ P.length*y:=by rw[← ht,bKV,bKV]
    omega
   ·unfold rH
    rw[bKQ,bKX]
    exact Lq
  simp only[aC.wp,go_sem] at fin
  simp only[go_sem,γ,reduceCtorEq,YX,g6,YY,g7,g0]
  by_cases c1:P.length<a.length
  ·have c1':(P.length:Int)<(a.length:Nat):=by omega
   simp only[go_sem,γ,reduceCtorEq,c1',YZ,g0,g7,hra c1,ex,e1,IX,g1]
   by_cases c2:P.length<b.length
   ·have c2':(P.length:Int)<(b.length:Nat):=by omega
    simp only[go_sem,γ,c2',IY,g1,g7,hrb c2,ey,e2]
    exact fin _ (by simp only[go_sem,reduceCtorEq,g0]) (by simp only[go_sem,γ,g1]) (by simp only[go_sem,γ,g5]) (by simp only[go_sem,γ,g7]) rfl
   ·have c2':¬ (P.length:Int)<(b.length:Nat):=by omega
    have h0:=hyb c2
    simp only[go_sem,c2']
    exact fin _ (by simp only[go_sem,reduceCtorEq,g0]) (by simp only[go_sem,γ,g1]) (by simp only[go_sem,γ,g5]) (by simp only[go_sem,γ,g7]) (by simp only[go_sem,γ,h0])
  ·have c1':¬ (P.length:Int)<(a.length:Nat):=by omega
   have h0:=hxa c1
   simp only[go_sem,γ,c1',IX,g1,g7]
   by_cases c2:P.length<b.length
   ·have c2':(P.length:Int)<(b.length:Nat):=by omega
    have e2':IntKind.u64.wrap ((c:Int)+(y:Int))=((c+x+y:Nat):Int):=by rw[h0]; exact eQ Om
    simp only[go_sem,γ,c2',IY,g1,g7,hrb c2,ey,e2']
    exact fin _ (by simp only[go_sem,reduceCtorEq,g0]) (by simp only[go_sem,γ,g1]) (by simp only[go_sem,γ,g5]) (by simp only[go_sem,γ,g7]) rfl
   ·have c2':¬ (P.length:Int)<(b.length:Nat):=by omega
    have h0':=hyb c2
    simp only[go_sem,c2']
    exact fin _ (by simp only[go_sem,reduceCtorEq,g0]) (by simp only[go_sem,γ,g1]) (by simp only[go_sem,γ,g5]) (by simp only[go_sem,γ,g7]) (by simp only[go_sem,γ,h0,h0'])
 simp only[aC.wp,go_sem] at body
 have hexit:¬ P.length<a.length→¬ P.length<b.length→c=0→∀ F:PF,F 5=some v→aC.wp C (.seq (.region QK) .ret) (aT [.tmp 4] (bZ (aF (aG (val a+val b))))) F H0:=by
  intro n1 n2 n3 F f5
  have hV:val P=val a+val b:=by
   rw[n3,bKZ Om,bKZ Om] at bIX
   omega
  have hs:=L.trim _ bJB Om
  rw[hV] at hs
  simp only[go_sem,QK,f5]
  refine rK hs hO rfl fun F1 H1 _=>?_
  simp only[go_sem]
  exact aX (.inr rfl) .nil rfl PH.nil_le ⟨.refl _,rfl⟩
 simp only[aC.wp,go_sem] at hexit
 simp only[go_sem,γ,reduceCtorEq,atI,aLZ,rH]
 by_cases c1:P.length<a.length
 ·have c1':(P.length:Int)<(a.length:Nat):=by omega
  simp only[go_sem,γ,reduceCtorEq,c1']
  refine body Om _ ?_ _ (by unfold rH; exact Lq)
  intro P' c' v' F2 H2 e1 e2 e3 e4 e5 e6 e7
  rw[← e1] at e5 e4
  exact aI (α:=List Nat × Nat × PV × PH) (P',c',v',H2) ⟨by simp only; omega,e4,e2,e3,e5,e7⟩ (by simp only; omega) e6 PH.le_refl
 ·have c1':¬ (P.length:Int)<(a.length:Nat):=by omega
  simp only[go_sem,γ,reduceCtorEq,c1']
  by_cases c2:P.length<b.length
  ·have c2':(P.length:Int)<(b.length:Nat):=by omega
   simp only[go_sem,γ,reduceCtorEq,c2']
   refine body Om _ ?_ _ (by unfold rH; exact Lq)
   intro P' c' v' F2 H2 e1 e2 e3 e4 e5 e6 e7
   rw[← e1] at e5 e4
   exact aI (α:=List Nat × Nat × PV × PH) (P',c',v',H2) ⟨by simp only; omega,e4,e2,e3,e5,e7⟩ (by simp only; omega) e6 PH.le_refl
  ·have c2':¬ (P.length:Int)<(b.length:Nat):=by omega
   simp only[go_sem,γ,reduceCtorEq,c2']
   by_cases c3:c=0
   ·have c3':¬ (c:Int)>0:=by omega
    simp only[go_sem,c3']
    exact hexit c1 c2 c3 _ rfl
   ·have c3':(c:Int)>0:=by omega
    simp only[go_sem,c3']
    refine body Om _ ?_ _ (by unfold rH; exact Lq)
    intro P' c' v' F2 H2 e1 e2 e3 e4 e5 e6 e7
    rw[← e1] at e5 e4
    exact aI (α:=List Nat × Nat × PV × PH) (P',c',v',H2) ⟨by simp only; omega,e4,e2,e3,e5,e7⟩ (by simp only; omega) e6 PH.le_refl
structure ZU (C:Ctx):Prop extends ayM C where
 plus:∀ a b,Lim a→Lim b→a.length≤8388608→b.length≤8388608→aE C 43 [aF a,aF b] .nil (aD (aF (aG (val a+val b))))
theorem bpQ {C:Ctx} (L:ZU C) (a b:List Nat) (ha:Lim a) (hb:Lim b) (la:a.length≤35184372087808) (lb:b.length≤35184372087808) :
  PW.wp C (aT aKO.res (bZ (opV (dS (val a) (val b)) (val a+val b)))) (PF.args [aF a,aF b]) .nil:=by
 unfold opV
 simp only[go_sem,reduceCtorEq,PW,aWV,aWW,aKO]
 refine aA (L.large a ha la) rfl ?_
 by_cases c1:nl (val a)>512
 ·simp only[go_sem,γ,c1,anB]
  rw[if_pos (by simp[dS,c1])]
  exact eF rfl
 simp only[go_sem,γ,c1]
 refine aA (L.large b hb lb) rfl ?_
 by_cases c2:nl (val b)>512
 ·simp only[go_sem,γ,reduceCtorEq,c2,anB]
  rw[if_pos (by simp[dS,c2])]
  exact eF rfl
 rw[if_neg (by simp[dS,c1,c2])]
 simp only[go_sem,γ,reduceCtorEq,c2,aWX]
 refine aA (L.trim a ha la) rfl ?_
 simp only[go_sem,γ]
 refine aA (L.trim b hb lb) rfl ?_
 simp only[go_sem]
 have ht:=L.plus (aG (val a)) (aG (val b)) (aU _) (aU _) (by rw[aZ]; omega) (by rw[aZ]; omega)
 rw[aR,aR] at ht
 refine aA ht rfl ?_
 have n1:=aGL (a:=val a) (b:=val b) (m:=512) Om Om
 have hl:=L.large (aG (val a+val b)) (aU _) (by rw[aZ]; omega)
 rw[aR] at hl
 simp only[go_sem,γ,aWY]
 refine aA hl rfl ?_
 unfold szV szL szE
 by_cases c3:nl (val a+val b)>512
 ·rw[if_pos c3,if_pos c3]
  simp only[go_sem,γ,c3,aWZ]
  exact eF rfl
 ·rw[if_neg c3,if_neg c3]
  simp only[go_sem,γ,c3,aXA]
  exact aX (.inr rfl) .nil rfl PH.nil_le ⟨.refl _,rfl⟩
theorem bqE {C:Ctx} (L:ZU C) (a b:List Nat) (ha:Lim a) (hb:Lim b) (la:a.length≤35184372087808) (lb:b.length≤35184372087808) :
  QL.wp C (aT aMA.res (bZ (pO (val a) (val b)))) (PF.args [aF a,aF b]) .nil:=by
 unfold pO
 simp only[go_sem,reduceCtorEq,QL,aYH,aYI,aMA]
 refine aA (L.large a ha la) rfl ?_
 by_cases c1:nl (val a)>512
 ·simp only[go_sem,γ,c1,anH]
  rw[if_pos (by simp[dS,c1])]
  exact eF rfl
 simp only[go_sem,γ,c1]
 refine aA (L.large b hb lb) rfl ?_
 by_cases c2:nl (val b)>512
 ·simp only[go_sem,γ,reduceCtorEq,c2,anH]
  rw[if_pos (by simp[dS,c2])]
  exact eF rfl
 rw[if_neg (by simp[dS,c1,c2])]
 simp only[go_sem,γ,reduceCtorEq,c2,aYJ]
 refine aA (L.cmp a b ha hb la lb) rfl ?_
 by_cases c3:val a<val b
 ·have:dD (val a) (val b)=-1:=by simp[dD,c3]
  rw[if_pos c3]
  simp only[go_sem,ο,γ,this,show ((-1:Int)<0) by decide,aYK]
  exact eF rfl
 ·have:¬ dD (val a) (val b)<0:=by
   unfold dD
   rw[if_neg c3]
   split<;>decide
  rw[if_neg c3]
  have n1:=fH (Nat.sub_le (val a) (val b))
  have n2:=fH (Om:val b≤val a)
  simp only[go_sem,γ,reduceCtorEq,this,aYL]
  refine aA (L.trim a ha la) rfl ?_
  simp only[go_sem,γ]
  refine aA (L.trim b hb lb) rfl ?_
  simp only[go_sem]
  have ht:=L.minus (aG (val a)) (aG (val b)) (aU _) (aU _) (by rw[aR,aR]; omega) (by rw[aZ,aZ]; exact n2) (by rw[aZ]; omega)
  rw[aR,aR] at ht
  refine aA ht rfl ?_
  rw[xI Om]
  simp only[go_sem,γ]
  exact aX (.inr rfl) .nil rfl PH.nil_le ⟨.refl _,rfl⟩
def aKP (k:Nat) (v:Nat):PF:=((PF.nil.set 3 (.int .i64 k)).set 4 (.int .u32 v))
theorem biU {C:Ctx} (L:nN C) (xs:List Nat) (hx:Lim xs) (lx:xs.length≤35184372087808) :
  IM.wp C (aT agC.res (aD (.int .i64 (cE (val xs):Nat)))) (PF.args [aF xs]) .nil:=by
 simp only[go_sem,reduceCtorEq,IM,aKR,aKS,agC]
 refine aA (L.trim xs hx lx) rfl ?_
 have bx:=eZ hx
 simp only[go_sem,γ,reduceCtorEq,aKT,bKI,aZ,zB]
 by_cases c1:nl (val xs)=0
 ·simp only[go_sem,decide_eq_true c1,aKU]
  refine aL (.inr rfl) rfl ?_
  have:val xs=0:=gP.1 c1
  simp[aV,this,iU]
 obtain⟨n,hn⟩:∃ n,nl (val xs)=n+1:=⟨nl (val xs)-1,by omega⟩
 obtain⟨t,ht,ht0⟩:=aKN (xs:=aG (val xs)) (aU _) (by rw[aR]; exact hn)
 have htl:t<4294967296:=aU _ t (bNC ht)
 have hv:val xs=val ((aG (val xs)).take n)+4294967296 ^ n*t:=by
  have:=aR (val xs)
  have hnl:n<(aG (val xs)).length:=by rw[aZ]; omega
  have hg:(aG (val xs))[n]=t:=by rw[bKU hnl] at ht; exact bNA.inj ht
  conv=>lhs; rw[← this,← bKZ (l:=aG (val xs)) (i:=n+1) (by rw[aZ]; omega)]
  rw[bX _ hnl,hg]
 have hb:cE (val xs)=32*n+cE t:=by
  have h3:=eN ((aU (val xs)).take n)
  rw[bLB,aZ,bMN Om] at h3
  have hk:=azJ (lo:=val ((aG (val xs)).take n)) (k:=32*n) (hi:=t) (by rw[Nat.pow_mul]; exact h3) ht0
  rw[← hk,Nat.pow_mul]
  exact congrArg cE hv
 have bIR:(aJ (aG (val xs)))[n]?=some [.int .u32 (t:Nat)]:=by
  simp[aJ,ht]
 have e1:IntKind.i64.wrap (((nl (val xs):Nat):Int)-1)=(n:Int):=by rw[wrap_i64 Om Om]; omega
 have e2:IntKind.i64.wrap (32*(n:Int))=((32*n:Nat):Int):=by rw[wrap_i64 Om Om]; omega
 simp only[go_sem,γ,reduceCtorEq,decide_eq_false c1,aKV,aKW,bKI,aZ,e1,e2,bIR]
 refine wp_loop (α:=Nat × Nat) (fun a=>aKP a.1 a.2) (fun _=>.nil) (fun a=>a.1+cE a.2=32*n+cE t∧a.2<4294967296) (fun a=>a.2) (32*n,t) ⟨rfl,htl⟩ ?_ PH.nil_le ?_
 ·unfold aKP
  exact Lq
 rintro⟨k,v⟩ ⟨hk,hlt⟩
 simp only at hk hlt
 have hk32:cE t≤32:=(kL t 32).2 htl
 simp only[go_sem,γ,aKQ,aKX,aKP]
 by_cases c2:(v:Int)>0
 ·have hv0:v≠0:=by omega
  have hsh:IntKind.u32.wrap (bME (v:Int) 2)=((v/2:Nat):Int):=by
   rw[show bME (v:Int) 2=((v/2:Nat):Int) from Int.ofNat_tdiv v 2,cC,bLS Om]
  simp only[go_sem,μ,γ,c2,aKY,aKZ,hsh,wZz k]
  refine aI (k+1,v/2) ⟨?_,?_⟩ (Nat.div_lt_self Om (by decide)) ?_ PH.nil_le
  ·have:=nC hv0
   simp only; omega
  ·simp only; omega
  ·exact Lq
 ·have:v=0:=by omega
  subst this
  simp only[go_sem,γ,c2,asV]
  refine aL (.inr rfl) rfl ?_
  rw[iU] at hk
  simp only[aV,PV.int.injEq,true_and]
  omega
theorem asC (n:Nat):4294967296 ^ (n/32)*2 ^ (n%32)=2 ^ n:=by
 rw[show (4294967296:Nat)=2 ^ 32 by decide,← Nat.pow_mul,← Nat.pow_add]
 congr 1
 omega
theorem bbD (n:Nat):IntKind.i64.wrap (bME (n:Int) 32)=IntKind.i64.wrap ((n/32:Nat):Int):=by
 rw[show bME (n:Int) 32=((n/32:Nat):Int) from Int.ofNat_tdiv n 32]
theorem bbE (n:Nat):Int.tmod (n:Int) 32=((n%32:Nat):Int):=Int.ofNat_tmod n 32
def bjK (a:List Nat) (n:Nat) (v:PV) (c i:Nat):PF:=(((((PF.nil.set 0 (aF a)).set 1 (.int .i64 n)).set 5 (v)).set 6 (.int .u64 c)).set 7 (.int .i64 i))
theorem btM {C:Ctx} (L:nN C) (a:List Nat) (n:Nat) (ha:Lim a) (h1:a.length≤8388608) (hn:n≤8388608) (h0:a.length=0→val a=0) :
  ZB.wp C (aT uup.res (kO 1 (aJ (aG (val a*2 ^ n))))) (PF.args [aF a,.int .i64 n]) .nil:=by
 simp only[go_sem,γ,reduceCtorEq,ZB,bbQ,bbR,uup,bKI,zB]
 by_cases c0:a.length=0
 ·simp only[go_sem,decide_eq_true c0,bbS]
  rw[h0 c0,Nat.zero_mul,fC]
  exact DJ (.inr rfl) rfl
 have ez:IntKind.i64.wrap (bME (n:Int) 32)=((n/32:Nat):Int):=by rw[bbD,xV Om]
 have em:=bbE n
 have eu:IntKind.u64.wrap ((n%32:Nat):Int)=((n%32:Nat):Int):=bD Om
 have hsp:=asC n
 have hs:n%32<32:=bLY _ (by decide)
 have hz:n/32≤8388608:=by omega
 generalize hzz:n/32=z at *
 generalize hss:n%32=s at *
 have hm1:((z:Nat):Int)*((4:Nat):Int)≤140737488355328:=by omega
 have hm2:((z:Nat):Int)≤9223372036854775807:=by omega
 have hzr:bKL z [PV.int .u32 0]=aJ (bKL z 0):=by
  simp[aJ]
 have h2s:2 ^ s≤2147483648:=Nat.pow_le_pow_right (show 0<2 by decide) (Om:s≤31)
 have h2s0:0<2 ^ s:=bMZ (by decide)
 simp only[go_sem,μ,γ,decide_eq_false c0,bbT,ez,hm1,hm2,hzr]
 refine aQ fun o ho=>?_
 simp only[go_sem,γ,bbU,bbV]
 refine wp_loop (α:=List Nat × Nat × Nat × PV × PH) (fun t=>bjK a n t.2.2.2.1 t.2.1 t.2.2.1) (fun t=>t.2.2.2.2)
  (fun t=>t.2.2.1≤a.length∧t.1.length=z+t.2.2.1∧Lim t.1∧t.2.1<2 ^ s∧val t.1+4294967296 ^ t.1.length*t.2.1=val (a.take t.2.2.1)*2 ^ n∧bJ t.2.2.2.2 1 t.2.2.2.1 (aJ t.1)) (fun t=>a.length-t.2.2.1) (bKL z 0,0,0,.osl o 1 0 z,PH.nil.set o (.rows 1 (aJ (bKL z 0))))
  ⟨by simp,by simp,tG _,h2s0,by simp[val,qI],.inr ⟨o,aJ (bKL z 0),by rw[bU,bNW],by simp only[go_sem],by rw[bU]; exact bKK _,bLG⟩⟩ ?_ PH.le_refl ?_
 ·unfold bjK
  exact Lq
 rintro⟨P,c,i,v,H0⟩ ⟨hi,hP,bJB,hc,bIX,hO⟩
 simp only at hi hP bJB hc bIX hO ⊢
 simp only[go_sem,γ,reduceCtorEq,aYM,bbW,bjK]
 by_cases c1:i<a.length
 ·have c1':(i:Int)<(a.length:Nat):=by omega
  have hai:=ha _ (bKM c1)
  have hta:=bX a c1
  have hax:=bK a c1
  generalize hx:a[i]=x at *
  have hxs:x*2 ^ s≤4294967295*2147483648:=Nat.mul_le_mul Om h2s
  have ex:IntKind.u64.wrap ((x:Nat):Int)=((x:Nat):Int):=bD Om
  have hxs':2 ^ s*x=x*2 ^ s:=bLH _ _
  have esh:shift .shl .u64 (x:Int) (s:Int)=some (.int .u64 ((2 ^ s*x:Nat):Int)):=IC Om Om
  have eor:=orI (a:=2 ^ s*x) (b:=c) (n:=c+2 ^ s*x) Om Om (by rw[Nat.or_comm]; exact aHM hc Om) Om
  have hdig:(c+2 ^ s*x)/4294967296<2 ^ s:=by
   rw[bND (by decide)]
   have:2 ^ s*(x+1)≤2 ^ s*4294967296:=bMO _ Om
   rw[bKV,Nat.mul_one] at this
   omega
  have hb1:(1:Nat)*1≤16777216:=by decide
  simp only[go_sem,μ,υ,γ,η,ζ,reduceCtorEq,c1',bbX,hax,ex,em,eu,esh,eor,bbY,cC,hb1]
  refine gD (src:=[[.int .u32 (((c+2 ^ s*x)%4294967296:Nat):Int)]]) hO rfl (oE Om) fun v' H' hO' _=>?_
  rw[oF] at hO'
  simp only[go_sem,γ,reduceCtorEq,bbZ,uX,aYN,wZz i]
  refine aI (P++[(c+2 ^ s*x)%4294967296],(c+2 ^ s*x)/4294967296,i+1,v',H') ⟨by simp only; omega,by simp; omega,bJB.app fun y hy=>by simp at hy; subst hy; exact bLY _ (by decide),hdig,?_,hO'⟩ (by simp only; omega) ?_ PH.le_refl
  ·simp only
   have hp:4294967296 ^ P.length*(2 ^ s*x)=4294967296 ^ i*x*2 ^ n:=by
    rw[hP,Nat.pow_add,← hsp]
    rw[bLE,Nat.mul_left_comm (4294967296 ^ i),← bLE (4294967296 ^ z),bLH (4294967296 ^ z*2 ^ s),bLE,bLH x]
   rw[iJ,bKQ,bKX,bMC,bLE,bMU,← bKV,Nat.mod_add_div,hta,bKV,bLM,← bMU,bIX,hp]
  ·exact Lq
 ·have e:i=a.length:=by omega
  subst e
  have c1':¬ ((a.length:Nat):Int)<(a.length:Nat):=by omega
  have hb1:(1:Nat)*1≤16777216:=by decide
  have hV:val (P++[c])=val a*2 ^ n:=by
   rw[iJ,bIX,bLG]
  have hLc:Lim (P++[c]):=bJB.app fun x hx=>by simp at hx; omega
  have ec:IntKind.u32.wrap ((c:Nat):Int)=((c:Nat):Int):=by rw[cC,bLS Om]
  simp only[go_sem,υ,γ,η,ζ,reduceCtorEq,c1',aYO,ec,hb1]
  refine gD (src:=[[.int .u32 ((c:Nat):Int)]]) hO rfl (oE Om) fun v' H' hO' _=>?_
  rw[oF] at hO'
  have hs:=L.trimM _ hLc (by simp; omega)
  rw[hV] at hs
  refine axP hs hO' rfl fun F1 H1 _ r H2 hr _=>?_
  simp only[go_sem]
  exact baL (.inr rfl) hr rfl
def PZ (a:List Nat) (n:Nat) (v:PV) (i:Nat):PF:=((((PF.nil.set 0 (aF a)).set 1 (.int .i64 n)).set 5 (v)).set 6 (.int .i64 i))
theorem biY {C:Ctx} (L:nN C) (a:List Nat) (n:Nat) (ha:Lim a) (h1:a.length≤8388608) (hn:n≤1000000000) :
  IR.wp C (aT agK.res (bZ (aF (aG (val a/2 ^ n))))) (PF.args [aF a,.int .i64 n]) .nil:=by
 have ez:IntKind.i64.wrap (bME (n:Int) 32)=((n/32:Nat):Int):=by rw[bbD,xV Om]
 have em:=bbE n
 have eu:IntKind.u64.wrap ((n%32:Nat):Int)=((n%32:Nat):Int):=bD Om
 have hsp:=asC n
 have hs:n%32<32:=bLY _ (by decide)
 have hz:n/32≤1000000000:=by omega
 generalize hzz:n/32=z at *
 generalize hss:n%32=s at *
 simp only[go_sem,μ,γ,reduceCtorEq,IR,aLG,aLH,agK,bKI,ez]
 by_cases c0:a.length≤z
 ·have c0':((z:Nat):Int)≥(a.length:Nat):=by omega
  have hq:val a/2 ^ n=0:=by
   refine bNR (Nat.lt_of_lt_of_le (eN ha) ?_)
   rw[← hsp]
   exact bNF (Nat.pow_le_pow_right (by decide) c0) (Nat.le_mul_of_pos_right _ (bMZ (by decide)))
  simp only[go_sem,c0',aLI]
  rw[hq,fC]
  exact aX (vs:=[.aB]) (.inr rfl) .nil rfl PH.nil_le ⟨.nil 1,rfl⟩
 have c0':¬ ((z:Nat):Int)≥(a.length:Nat):=by omega
 have hR:val a/2 ^ n=val (a.drop z)/2 ^ s:=by
  rw[sI ha Om,← hsp,Nat.div_div_eq_div_mul]
 have hLd:Lim (a.drop z):=ha.drop z
 simp only[go_sem,μ,γ,c0',aLJ,aLK,ez]
 refine wp_loop (α:=List Nat × PV × PH) (fun t=>PZ a n t.2.1 (z+t.1.length)) (fun t=>t.2.2)
  (fun t=>z+t.1.length≤a.length∧t.1=dO t.1.length (val (a.drop z)/2 ^ s)∧bJ t.2.2 1 t.2.1 (aJ t.1)) (fun t=>a.length-t.1.length) ([],.aB,.nil)
  ⟨by simp; omega,rfl,.nil⟩ ?_ PH.nil_le ?_
 ·unfold PZ
  (repeat' (first|exact PF.nil_le|refine PF.aK ?_ ?_))<;>first|(simp only[go_sem,γ,reduceCtorEq,bMW]<;>rfl)|rfl
 rintro⟨P,v,H0⟩ ⟨hP,hD,hO⟩
 simp only at hP hD hO ⊢
 simp only[go_sem,γ,reduceCtorEq,asW,aLL,PZ]
 have hlimP:Lim P:=by rw[hD]; exact kW _ _
 by_cases c1:z+P.length<a.length
 ·have c1':((z+P.length:Nat):Int)<(a.length:Nat):=by omega
  have hai:=ha _ (bKM c1)
  have hax:=bK a c1
  have hkl:P.length≤(a.drop z).length:=by rw[bML]; omega
  have hvd:=sI hLd hkl
  have hdrop:(a.drop z).drop P.length=a[z+P.length]::a.drop (z+P.length+1):=by
   rw[List.drop_drop,bMH c1]
  generalize hx:a[z+P.length]=x at *
  have ex:IntKind.u64.wrap ((x:Nat):Int)=((x:Nat):Int):=bD Om
  have hb1:(1:Nat)*1≤16777216:=by decide
  have ew:IntKind.i64.wrap (((z+P.length:Nat):Int)+1)=((z+P.length+1:Nat):Int):=dC Om
  have fin:∀ (t:Nat) (F:PF),t<18446744073709551616→val (a.drop z)/4294967296 ^ P.length%(4294967296*4294967296)=t→F 0=some (aF a)→F 1=some (.int .i64 n)→F 5=some v→F 6=some (.int .i64 (z+P.length:Nat))→F 7=some (.int .u64 t) →
    ∀ K:cO,(∀ v' F2 H2,(PZ a n v' (z+(P.length+1))).le F2→bJ H2 1 v' (aJ (P++[t/2 ^ s%4294967296]))→(P++[t/2 ^ s%4294967296])=dO (P.length+1) (val (a.drop z)/2 ^ s)→K .normal F2 H2) →
    aC.wp C (.region YU) (dZ 1 (jB C (aC.wp C (.region QA)) K)) F H0:=by
   intro t F ht hte f0 f1 f5 f6 f7 K hK
   have esh:shift .shr .u64 (t:Int) (s:Int)=some (.int .u64 ((t/2 ^ s:Nat):Int)):=btI Om
   simp only[go_sem,μ,υ,γ,η,ζ,YU,f5,f7,f1,em,eu,esh,cC,hb1]
   refine gD (src:=[[.int .u32 ((t/2 ^ s%4294967296:Nat):Int)]]) hO rfl (oE Om) fun v' H' hO' _=>?_
   rw[oF] at hO'
   simp only[go_sem,γ,QA,f6,ew]
   refine hK v' _ H' ?_ hO' ?_
   ·unfold PZ
    exact Lq
   ·rw[tB,← hD]
    congr 2
    have e:val (a.drop z)/4294967296 ^ P.length=t%4294967296+4294967296*(t/4294967296+4294967296*(val (a.drop z)/4294967296 ^ P.length/(4294967296*4294967296))):=by
     have:=Nat.mod_add_div (val (a.drop z)/4294967296 ^ P.length) (4294967296*4294967296)
     rw[hte] at this
     have h2:=Nat.mod_add_div t 4294967296
     rw[bKV,← bMU,h2,← bLE]
     exact this.symm
    have:=UY hs e
    rw[this]
    congr 2
    have h2:=Nat.mod_add_div t 4294967296
    omega
  simp only[aC.wp,go_sem] at fin
  simp only[go_sem,γ,reduceCtorEq,c1',aLM,hax,ex,aLN,ew]
  by_cases c2:z+P.length+1<a.length
  ·have c2':((z+P.length+1:Nat):Int)<(a.length:Nat):=by omega
   have hai2:=ha _ (bKM c2)
   have hax2:=bK a c2
   rw[bMH c2] at hdrop
   generalize hy:a[z+P.length+1]=y at *
   have ey:IntKind.u64.wrap ((y:Nat):Int)=((y:Nat):Int):=bD Om
   have esh:shift .shl .u64 (y:Int) ((32:Nat):Int)=some (.int .u64 ((2 ^ 32*y:Nat):Int)):=IC (by decide) Om
   have eor:=orI (a:=x) (b:=2 ^ 32*y) (n:=x+2 ^ 32*y) Om Om (aHM Om Om) Om
   simp only[go_sem,γ,reduceCtorEq,c2',aLO,ew,hax2,ey,show shift .shl .u64 (y:Int) 32=_ from esh,eor]
   refine fin (x+2 ^ 32*y) _ Om ?_ rfl rfl rfl rfl rfl _ ?_
   ·rw[← hvd,hdrop]
    simp only[val]
    omega
   ·intro v' F2 H2 e1 e2 e3
    refine aI (α:=List Nat × PV × PH) (P++[(x+2 ^ 32*y)/2 ^ s%4294967296],v',H2) ⟨by simp; omega,by simpa using e3,e2⟩ (by simp; omega) ?_ PH.le_refl
    simp only[bKQ,bKX]
    exact e1
  ·have c2':¬ ((z+P.length+1:Nat):Int)<(a.length:Nat):=by omega
   rw[bNU (l:=a) (i:=z+P.length+1) Om] at hdrop
   simp only[go_sem,c2']
   refine fin x _ Om ?_ rfl rfl rfl rfl rfl _ ?_
   ·rw[← hvd,hdrop]
    simp only[val]
    omega
   ·intro v' F2 H2 e1 e2 e3
    refine aI (α:=List Nat × PV × PH) (P++[x/2 ^ s%4294967296],v',H2) ⟨by simp; omega,by simpa using e3,e2⟩ (by simp; omega) ?_ PH.le_refl
    simp only[bKQ,bKX]
    exact e1
 ·have e:z+P.length=a.length:=by omega
  have c1':¬ ((z+P.length:Nat):Int)<(a.length:Nat):=by omega
  have hV:val P=val (a.drop z)/2 ^ s:=by
   rw[hD]
   refine mO (Nat.lt_of_le_of_lt (Nat.div_le_self _ _) ?_)
   have:=eN hLd
   rw[bML] at this
   rw[show P.length=a.length-z by omega]
   exact this
  have hs:=L.trim _ hlimP Om
  rw[hV,← hR] at hs
  simp only[go_sem,γ,reduceCtorEq,c1',asX]
  refine rK hs hO rfl fun F1 H1 _=>?_
  simp only[go_sem]
  exact aX (.inr rfl) .nil rfl PH.nil_le ⟨.refl _,rfl⟩
structure LF (C:Ctx):Prop extends ZU C where
 bits:∀ xs,Lim xs→xs.length≤35184372087808→aE C 31 [aF xs] .nil (aD (.int .i64 (cE (val xs):Nat)))
 upM:∀ (a:List Nat) (n:Nat),Lim a→a.length≤8388608→n≤8388608→(a.length=0→val a=0)→aE C 45 [aF a,.int .i64 n] .nil (kO 1 (aJ (aG (val a*2 ^ n))))
 down:∀ (a:List Nat) (n:Nat),Lim a→a.length≤8388608→n≤1000000000→aE C 40 [aF a,.int .i64 n] .nil (aD (aF (aG (val a/2 ^ n))))
def udS:Spec:=fun name vs=>match name,vs with
 | 35,[.int _ v]=>some ([],fun _=>aD (aF (aG v.toNat)))
 | 44,[x,y]=>some ([],fun _=>aD (aF (aG (val (gY x)*val (gY y)))))
 | 32,[x,.osl q _ _ _]=>some ([q],fun H0 r H'=>H'=H0∧∀ xs,Lim xs→H0 q=some (.rows 1 (aJ xs))→r=.int .i64 (dD (val (gY x)) (val xs)))
 | _,_=>none
theorem biX (v:Nat):udS 35 [.int .u64 v]=some ([],fun _=>aD (aF (aG v))):=rfl
theorem bbI (x y:List Nat):udS 44 [aF x,aF y]=some ([],fun _=>aD (aF (aG (val x*val y)))):=by
 show some ([],fun _=>aD (aF (aG (val (gY (aF x))*val (gY (aF y))))))=_; rw[dY,dY]
theorem beO (q:Nat) (x L:List Nat):(PH.nil.set q (.rows 1 (aJ L)))=(PH.nil.set q (.rows 1 (aJ L)))∧∀ xs,Lim xs→(PH.nil.set q (.rows 1 (aJ L))) q=some (.rows 1 (aJ xs))→(PV.int .i64 (dD (val x) (val L)))=.int .i64 (dD (val (gY (aF x))) (val xs)):=by
 refine⟨rfl,fun xs hx e=>?_⟩
 rw[eS] at e
 have:aJ L=aJ xs:=(cS.rows.inj (bNA.inj e)).2
 rw[NV this,dY]
def duF (n o lx:Nat) (y:List Nat) (top oq lq:Nat) (k:Int):PF :=
 ((((((PF.nil.set 10 (.int .i64 n)).set 11 (.osl o 1 0 lx)).set 12 (aF y)).set 13 (.int .u64 top)).set 14 (.osl oq 1 0 lq)).set 15 (.int .i64 k))
abbrev dT (X:List Nat) (Z:List (List PV)):List (List PV):=aJ X++Z
theorem JR {X:List Nat} {Z:List (List PV)} {i:Nat} (h:i<X.length):(dT X Z)[i]?=some [.int .u32 ((X[i]:Nat):Int)]:=by
 rw[dT,bNB (by rw[bU]; exact h),bK X h]
theorem awK {X:List Nat} {Z:List (List PV)} {i:Nat} (h:i<X.length) (v:Nat):(dT X Z).set i [.int .u32 (v:Int)]=dT (X.set i v) Z:=by
 rw[dT,List.set_append_left _ _ (by rw[bU]; exact h),fA]
theorem awJ {X:List Nat} {Z:List (List PV)} {j m:Nat} (h:j+m≤X.length):((dT X Z).drop j).take m=aJ ((X.drop j).take m):=by
 rw[dT,List.drop_append_of_le_length (by rw[bU]; omega),List.take_append_of_le_length (by rw[bML,bU]; omega)]
 unfold aJ
 rw[← List.map_drop,← List.map_take]
theorem btL {C:Ctx} (L:LF C) (n o lx:Nat) (y:List Nat) (top oq lq j:Nat) (X:List Nat) (Z:List (List PV)) (hne:oq≠o) (hy:Lim y) (hX:Lim X) (hlx:X.length=lx) (hl:lx≤5000) (hj:j+(y.length+1)≤lx) (hy0:0<val y)
  (qv:cS) (g0:Nat) (hg:val ((X.drop j).take (y.length+1))/val y≤g0) (hg0:g0<4294967296) (K:cO) (F:PF) (H:PH) (hF:((duF n o lx y top oq lq j).set 17 (.int .u64 g0)).le F) (hH:((PH.nil.set o (.rows 1 (dT X Z))).set oq qv).le H)
  (hK:∀ F' H',((duF n o lx y top oq lq j).set 17 (.int .u64 (val ((X.drop j).take (y.length+1))/val y:Nat))).le F'→((PH.nil.set o (.rows 1 (dT X Z))).set oq qv).le H'→K .normal F' H') :
  aC.wp C (.block 4 (.loop sR)) K F H:=by
 have bJJ:¬ o=oq:=fun h=>hne h.symm
 have hWl:((X.drop j).take (y.length+1)).length=y.length+1:=by rw[bLB,bML]; omega
 have hWL:Lim ((X.drop j).take (y.length+1)):=(hX.drop _).take _
 have hcut:=awJ (X:=X) (Z:=Z) (j:=j) (m:=y.length+1) Om
 have bKE:j+(y.length+1)≤(dT X Z).length:=by rw[dT,bKQ,bU]; omega
 have hWn:aJ ((X.drop j).take (y.length+1))≠[]:=fun h=>by
  have:=congrArg List.length h
  rw[bU,hWl] at this
  simp at this
 generalize hW:(X.drop j).take (y.length+1)=W at *
 generalize hqq:val W/val y=qq at *
 simp only[go_sem]
 refine wp_loop (α:=Nat) (fun g=>(duF n o lx y top oq lq j).set 17 (.int .u64 g)) (fun _=>(PH.nil.set o (.rows 1 (dT X Z))).set oq qv) (fun g=>qq≤g∧g<4294967296) (fun g=>g) g0 ⟨hg,hg0⟩ hF hH ?_
 rintro g ⟨hge,hlt⟩
 have e1:IntKind.i64.wrap ((j:Int)+((y.length:Nat):Int))=((j+y.length:Nat):Int):=fO Om
 have e2:IntKind.i64.wrap (((j+y.length:Nat):Int)+1)=((j+y.length+1:Nat):Int):=dC Om
 have b1:(j:Int)≤((j+y.length+1:Nat):Int):=by omega
 have b2:((j+y.length+1:Nat):Int)≤(lx:Nat):=by omega
 have b3:j+y.length+1-j=y.length+1:=by omega
 have mk:=L.make g Om
 have tm:=L.times y (aG g) hy (aU _) Om (by
  have h1:nl g≤1:=mB (by rw[Nat.pow_one]; exact hlt)
  rw[aZ]; omega)
 rw[aR] at tm
 have hnt:(aG (val y*g)).length≤35184372087808:=by
  have h1:nl g≤1:=mB (by rw[Nat.pow_one]; exact hlt)
  have h2:=kI (a:=val y) (b:=g) (eZ hy) h1
  rw[aZ]; omega
 have cm:=L.cmp (aG (val y*g)) W (aU _) hWL hnt Om
 rw[aR] at cm
 simp only[go_sem,sR]
 refine bS .nil udS PH.nil_le ?_
 simp only[go_sem,γ,VL,duF]
 refine bQ (biX g) mk Sq PH.nil_le ?_
 simp only[go_sem]
 have tS:=bbI y (aG g)
 rw[aR] at tS
 refine bQ tS tm Sq PH.nil_le ?_
 simp only[go_sem,γ,reduceCtorEq,bKI,e1,e2,b1,b2,b3]
 refine xS (src:=aJ W) ?_ ?_ (fun h=>absurd h hWn) fun _ o' ho'=>?_
 ·simp only[go_sem,bJJ,bKE,hcut]
 ·unfold roomFor
  rw[bU,hWl]
  simp only[maxLen]; omega
 refine⟨PH.nil_le,?_⟩
 rw[bU,hWl]
 have n1:¬ o'=oq:=(cX.1 ho').1
 refine beQ (o:=o') (s:=1) (rs:=aJ W) (vs:=[aF (aG (val y*g)),.osl o' 1 0 (y.length+1)]) (v:=.int .i64 (dD (val y*g) (val W))) rfl (.int _ _) Sq ?_ ?_ ?_ Sq PH.nil_le ?_
 ·rw[bMG,bMG,List.map_nil,nT (by rw[bU,hWl]; exact bKK _),bKZ (by rw[bU,hWl]; exact bKK _)]
  exact cm
 ·have:=beO o' (aG (val y*g)) W
  rw[aR] at this
  exact this
 ·rintro r H' ⟨h1,h2⟩
  have:=h2 W hWL (by rw[eS])
  rw[dY,aR] at this
  exact⟨this,h1⟩
 simp only[go_sem,γ]
 by_cases c:val W<val y*g
 ·have hc:dD (val y*g) (val W)=1:=by
   unfold dD
   rw[if_neg Om,if_pos c]
  have hq:qq<g:=by rw[← hqq]; exact (bND hy0).2 (by rw[bLH]; exact c)
  have ew:IntKind.u64.wrap ((g:Int)-1)=((g-1:Nat):Int):=by rw[wrap_u64 Om Om]; omega
  simp only[go_sem,γ,hc,show (1:Int)>0 by decide,VM,ew]
  refine aI (g-1) ⟨by omega,by omega⟩ Om ?_ ?_
  ·exact Lq
  ·refine PH.aK (PH.aK PH.nil_le ?_) ?_
   ·have n2:¬ o=o':=fun h=>by
     subst h
     rw[bL,if_neg bJJ,eS] at ho'
     cases ho'
    simp only[go_sem,n2,bJJ]
   ·have n3:¬ oq=o':=fun h=>n1 h.symm
    simp only[go_sem,n3]
 ·have hc:¬ dD (val y*g) (val W)>0:=by
   unfold dD
   rw[if_neg c]
   split<;>decide
  have hq:g=qq:=by
   have:g≤qq:=by rw[← hqq]; exact (Nat.le_div_iff_mul_le hy0).2 (by rw[bLH]; omega)
   omega
  simp only[go_sem,hc]
  refine hK _ _ ?_ ?_
  ·unfold duF
   (repeat' (first|exact PF.nil_le|refine PF.aK ?_ ?_))<;>first|(simp only[go_sem,γ,← hq]<;>rfl)|rfl
  ·refine PH.aK (PH.aK PH.nil_le ?_) ?_
   ·have n2:¬ o=o':=fun h=>by
     subst h
     rw[bL,if_neg bJJ,eS] at ho'
     cases ho'
    simp only[go_sem,n2,bJJ]
   ·have n3:¬ oq=o':=fun h=>n1 h.symm
    simp only[go_sem,n3]
theorem bnV (R k:Nat) (h:k<nl R):∃ h':k<(aG R).length,(aG R)[k]=R/4294967296 ^ k%4294967296:=by
 have hl:k<(aG R).length:=by rw[aZ]; exact h
 refine⟨hl,?_⟩
 have h1:=sI (aU R) (Nat.le_of_lt hl)
 rw[aR,bMH hl] at h1
 have h2:=aU R _ (bKM hl)
 simp only[val] at h1
 rw[← h1,Nat.add_mul_mod_self_left,bLS h2]
theorem bgP (R k:Nat) (h:nl R≤k):R/4294967296 ^ k%4294967296=0:=by
 rw[bNR ((gV R k).1 h)]
theorem bpJ {A P W Z:List Nat} {i:Nat} (hP:P.length=i) (hi:i<W.length) (v:Nat):(A++(P++W.drop i)++Z).set (A.length+i) v=A++((P++[v])++W.drop (i+1))++Z :=
 NV (by rw[← fA]; exact DL hP hi v)
theorem bwO {C:Ctx} (n o lx:Nat) (y:List Nat) (top oq lq j:Nat) (X:List Nat) (Z:List (List PV)) (hne:oq≠o) (hlx:X.length=lx) (hl:lx≤5000) (hj:j+(y.length+1)≤lx)
  (qv:cS) (g R:Nat) (K:cO) (F:PF) (H:PH) (hF:((((duF n o lx y top oq lq j).set 17 (.int .u64 g)).set 18 (aF (aG R))).set 19 (.int .i64 0)).le F) (hH:((PH.nil.set o (.rows 1 (dT X Z))).set oq qv).le H)
  (hK:∀ F' H',((duF n o lx y top oq lq j).set 17 (.int .u64 g)).le F'→((PH.nil.set o (.rows 1 (dT (X.take j++dO (y.length+1) R++X.drop (j+(y.length+1))) Z))).set oq qv).le H'→K .normal F' H') :
  aC.wp C (.block 6 (.loop sS)) K F H:=by
 have bJJ:¬ o=oq:=fun h=>hne h.symm
 have hA:(X.take j).length=j:=by rw[bLB]; omega
 have hWl:((X.drop j).take (y.length+1)).length=y.length+1:=by rw[bLB,bML]; omega
 have hZl:(X.drop (j+(y.length+1))).length=lx-(j+(y.length+1)):=by rw[bML,hlx]
 have hsplit:X.take j++(X.drop j).take (y.length+1)++X.drop (j+(y.length+1))=X:=by
  rw[bLI,← List.drop_drop,bMX,bMX]
 rw[← hsplit] at hH
 generalize hAA:X.take j=A at *
 generalize hWW:(X.drop j).take (y.length+1)=W at *
 generalize hZZ:X.drop (j+(y.length+1))=Zx at *
 simp only[go_sem]
 refine wp_loop (α:=List Nat) (fun P=>(((duF n o lx y top oq lq j).set 17 (.int .u64 g)).set 18 (aF (aG R))).set 19 (.int .i64 P.length)) (fun P=>(PH.nil.set o (.rows 1 (dT (A++(P++W.drop P.length)++Zx) Z))).set oq qv)
  (fun P=>P.length≤y.length+1∧P=dO P.length R) (fun P=>y.length+1-P.length) [] ⟨bKT _,rfl⟩ hF (by simpa using hH) ?_
 rintro P ⟨hP,hD⟩
 simp only[go_sem,γ,sS,VN,duF]
 by_cases c:P.length<y.length+1
 ·have c':(P.length:Int)≤(y.length:Nat):=by omega
  have ei:IntKind.i64.wrap ((j:Int)+(P.length:Int))=((j+P.length:Nat):Int):=fO Om
  have hlen:(A++(P++W.drop P.length)++Zx).length=lx:=by
   simp only[bKQ,bML]; omega
  have hi:j+P.length<(A++(P++W.drop P.length)++Zx).length:=by omega
  have b1:((j+P.length:Nat):Int)<(lx:Nat):=by omega
  have r1:=JR (Z:=Z) hi
  have s1:=awK (Z:=Z) hi 0
  have hi2:j+P.length<((A++(P++W.drop P.length)++Zx).set (j+P.length) 0).length:=by rw[bMJ]; exact hi
  have hput:=fun v=>bpJ (A:=A) (P:=P) (W:=W) (Z:=Zx) (i:=P.length) rfl Om v
  rw[hA] at hput
  generalize hXX:A++(P++W.drop P.length)++Zx=XX at *
  have r2:(dT (A++((P++[0])++W.drop (P.length+1))++Zx) Z)[j+P.length]?=some [.int .u32 ((0:Nat):Int)]:=by
   rw[← hput 0,JR hi2,List.getElem_set_self]
  have s2:∀ v,(dT (A++((P++[0])++W.drop (P.length+1))++Zx) Z).set (j+P.length) [.int .u32 ((v:Nat):Int)]=dT (A++((P++[v])++W.drop (P.length+1))++Zx) Z:=by
   intro v
   rw[← hput 0,awK hi2,List.set_set,hput]
  have bJG:=tB P.length R
  rw[← hD] at bJG
  have ew:IntKind.i64.wrap ((P.length:Int)+1)=((P.length+1:Nat):Int):=dC Om
  simp only[go_sem,γ,c',VO,ei,b1,bJJ,r1,show ([PV.int .u32 (0:Int)])=[PV.int .u32 ((0:Nat):Int)] from rfl,s1,VP,aZ]
  by_cases c2:P.length<nl R
  ·have c2':(P.length:Int)<(nl R:Nat):=by omega
   obtain⟨hl',hv⟩:=bnV R P.length c2
   have hr:=bK (aG R) hl'
   rw[hv] at hr
   simp only[go_sem,γ,c2',VQ,hr,ei,b1,bJJ,r2,s2,List.set_set,hput,BH,ew]
   refine aI (P++[R/4294967296 ^ P.length%4294967296]) ⟨by simp; omega,by rw[bKQ,bKX]; exact bJG.symm⟩ (by simp; omega) ?_ ?_
   ·rw[bKQ,bKX]
    exact Lq
   ·rw[bKQ,bKX]
    refine PH.aK (PH.aK PH.nil_le ?_) ?_<;>simp only[go_sem,bJJ,show ¬ oq=o from hne]
  ·have c2':¬ (P.length:Int)<(nl R:Nat):=by omega
   have hv:=bgP R P.length Om
   rw[hv] at bJG
   simp only[go_sem,γ,c2',hput,BH,ew]
   refine aI (P++[0]) ⟨by simp; omega,by rw[bKQ,bKX]; exact bJG.symm⟩ (by simp; omega) ?_ ?_
   ·rw[bKQ,bKX]
    exact Lq
   ·rw[bKQ,bKX]
    refine PH.aK (PH.aK PH.nil_le ?_) ?_<;>simp only[go_sem,bJJ,show ¬ oq=o from hne]
 ·have c':¬ (P.length:Int)≤(y.length:Nat):=by omega
  have e:P.length=y.length+1:=by omega
  simp only[go_sem,c']
  refine hK _ _ (by unfold duF; exact Lq) ?_
  have h2:A++dO (y.length+1) R++Zx=A++(P++W.drop P.length)++Zx:=by
   rw[bNU Om,bMF,← e,← hD]
  rw[h2]
  exact PH.le_refl
theorem bgB {y W:List Nat} {m:Nat} (hy:Lim y) (hW:Lim W) (hly:y.length=m+1) (hlW:W.length=m+2) (ht:0<y[m]):val W/val y≤(4294967296*W[m+1]+W[m])/y[m]:=by
 have h1:=bX y (Om:m<y.length)
 rw[bKZ Om] at h1
 have h2:=bX W (Om:m+1<W.length)
 rw[bKZ Om,bX W (Om:m<W.length)] at h2
 have h3:=eN (hW.take m)
 rw[bLB,bMN Om] at h3
 have hp:0<4294967296 ^ m:=bMZ (by decide)
 have hb:4294967296 ^ m*y[m]≤val y:=by omega
 have hpos:0<4294967296 ^ m*y[m]:=Nat.mul_pos hp ht
 have e:val W=val (W.take m)+4294967296 ^ m*(4294967296*W[m+1]+W[m]):=by
  rw[h2,bMC,bKV,bLE]; omega
 refine bNF (Nat.div_le_div_left hb hpos) ?_
 rw[← Nat.div_div_eq_div_mul,e,Nat.add_mul_div_left _ _ hp,bNR h3,bLJ]
 exact bKK _
theorem bbJ {C:Ctx} (L:LF C) (U0 n o lx lq oq m:Nat) (y z:List Nat) (hne:oq≠o) (hy:Lim y) (hly:y.length=m+1) (ht:0<y[m]) (hlu:lx=lq+(m+1)) (bJZ:lx≤5000) (X:List Nat) (hI:mY U0 (val y) (m+1) lx lq lq X (bKL lq 0)) (K:cO) (F:PF) (H:PH)
  (hF:(duF n o lx y (y[m]) oq lq ((lq:Int)-1)).le F) (hH:((PH.nil.set o (.rows 1 (dT X (aJ z)))).set oq (.rows 1 (aJ (bKL lq 0)))).le H)
  (hK:∀ X' Q' F' H',mY U0 (val y) (m+1) lx lq 0 X' Q'→(duF n o lx y (y[m]) oq lq (-1)).le F'→((PH.nil.set o (.rows 1 (dT X' (aJ z)))).set oq (.rows 1 (aJ Q'))).le H'→K .normal F' H') :
  aC.wp C (.block 2 (.loop sT)) K F H:=by
 have bJJ:¬ o=oq:=fun h=>hne h.symm
 have hne2:¬ oq=o:=hne
 have hV:val y<4294967296 ^ (m+1):=by have:=eN hy; rw[hly] at this; exact this
 have hV0:0<val y:=by
  have h1:=bX y (Om:m<y.length)
  rw[bKZ Om] at h1
  have:0<4294967296 ^ m*y[m]:=Nat.mul_pos (bMZ (by decide)) ht
  omega
 have htl:=hy _ (bKM (Om:m<y.length))
 generalize htop:y[m]=top at *
 simp only[go_sem]
 refine wp_loop (α:=Nat × List Nat × List Nat) (fun t=>duF n o lx y top oq lq ((t.1:Int)-1)) (fun t=>(PH.nil.set o (.rows 1 (dT t.2.1 (aJ z)))).set oq (.rows 1 (aJ t.2.2)))
  (fun t=>t.1≤lq∧mY U0 (val y) (m+1) lx lq t.1 t.2.1 t.2.2) (fun t=>t.1) (lq,X,bKL lq 0) ⟨bKK _,hI⟩ hF hH ?_
 rintro⟨k,X,Q⟩ ⟨hk,hI⟩
 simp only at hk hI
 simp only[go_sem,γ,sT,VG,duF]
 by_cases h0:0<k
 ·obtain⟨j,rfl⟩:∃ j,k=j+1:=⟨k-1,by omega⟩
  have hz:((j+1:Nat):Int)-1=(j:Int):=by omega
  have hge:(j:Int)≥0:=by omega
  have dst:=azY hI hV Om hlu
  rw[show m+1+1=m+2 from rfl] at dst
  obtain⟨hlt,hI'⟩:=dst
  have hXl:=hI.lu'
  have hQl:=hI.lq'
  have hWl:((X.drop j).take (m+2)).length=m+2:=by rw[bLB,bML]; omega
  have hWL:Lim ((X.drop j).take (m+2)):=(hI.limU.drop _).take _
  have hg1:m+1<((X.drop j).take (m+2)).length:=by omega
  have hg0:m<((X.drop j).take (m+2)).length:=by omega
  have a1:j+(m+1)<X.length:=by omega
  have a0:j+m<X.length:=by omega
  have w1:((X.drop j).take (m+2))[m+1]=X[j+(m+1)]:=by simp
  have w0:((X.drop j).take (m+2))[m]=X[j+m]:=by simp
  have hgu:=bgB hy hWL hly hWl (by rw[htop]; exact ht)
  rw[w1,w0,htop] at hgu
  have r1:=JR (Z:=aJ z) a1
  have r0:=JR (Z:=aJ z) a0
  have l1:=hI.limU _ (bKM a1)
  have l0:=hI.limU _ (bKM a0)
  generalize hx1:X[j+(m+1)]=x1 at *
  generalize hx0:X[j+m]=x0 at *
  have e1:IntKind.i64.wrap ((j:Int)+((y.length:Nat):Int))=((j+(m+1):Nat):Int):=by rw[hly]; exact fO Om
  have e0:IntKind.i64.wrap (((j+(m+1):Nat):Int)-1)=((j+m:Nat):Int):=by rw[wrap_i64 Om Om]; omega
  have b1:((j+(m+1):Nat):Int)<(lx:Nat):=by omega
  have b0:((j+m:Nat):Int)<(lx:Nat):=by omega
  have ex1:IntKind.u64.wrap ((x1:Nat):Int)=((x1:Nat):Int):=bD Om
  have ex0:IntKind.u64.wrap ((x0:Nat):Int)=((x0:Nat):Int):=bD Om
  have esh:shift .shl .u64 (x1:Int) 32=some (.int .u64 ((2 ^ 32*x1:Nat):Int)):=IC (s:=32) Om Om
  have e32:(2:Nat) ^ 32=4294967296:=by decide
  have eor:=orI (a:=2 ^ 32*x1) (b:=x0) (n:=2 ^ 32*x1+x0) Om Om (Nat.two_pow_add_eq_or_of_lt Om x1).symm Om
  rw[e32] at esh eor
  have hdd:¬ ((top:Nat):Int)=0:=by omega
  have hq64:(4294967296*x1+x0)/top<18446744073709551616:=Nat.lt_of_le_of_lt (Nat.div_le_self _ _) Om
  have equo:IntKind.u64.wrap (bME ((4294967296*x1+x0:Nat):Int) ((top:Nat):Int))=(((4294967296*x1+x0)/top:Nat):Int):=by
   rw[show bME ((4294967296*x1+x0:Nat):Int) ((top:Nat):Int)=(((4294967296*x1+x0)/top:Nat):Int) from rfl]
   exact bD hq64
  have hqB:val ((X.drop j).take (m+2))/val y<4294967296:=(bND hV0).2 (by rw[bLH]; exact hlt)
  have hcut:=awJ (X:=X) (Z:=aJ z) (j:=j) (m:=m+2) Om
  have bKE:j+(m+2)≤(dT X (aJ z)).length:=by rw[dT,bKQ,bU]; omega
  have hrest:val ((X.drop j).take (m+2))-val y*(val ((X.drop j).take (m+2))/val y)=val ((X.drop j).take (m+2))%val y:=by
   have:=bNQ (val ((X.drop j).take (m+2))) (val y)
   omega
  have hmulle:val y*(val ((X.drop j).take (m+2))/val y)≤val ((X.drop j).take (m+2)):=Nat.mul_div_le _ _
  clear w1 w0
  have gu:=fun g0=>btL (C:=C) L n o lx y top oq lq j X (aJ z) hne hy hI.limU hXl bJZ Om hV0 (.rows 1 (aJ Q)) g0
  rw[hly,show m+1+1=m+2 from rfl] at gu
  generalize hW:(X.drop j).take (m+2)=W at *
  generalize hqq:val W/val y=qq at *
  have hWn:aJ W≠[]:=fun h=>by
   have:=congrArg List.length h
   rw[bU,hWl] at this
   simp at this
  have tail:∀ (g0:Nat) (F:PF) (H:PH),qq≤g0→g0<4294967296→((duF n o lx y top oq lq j).set 17 (.int .u64 g0)).le F→((PH.nil.set o (.rows 1 (dT X (aJ z)))).set oq (.rows 1 (aJ Q))).le H →
    aC.wp C (.seq (.block 4 (.loop sR)) (.seq (.region BF) (.seq (.seq (.region BG) (.block 6 (.loop sS))) (.region BI)))) (dZ 3 (jB C (aC.wp C (.region BJ)) (eI (fun (t:Nat × List Nat × List Nat)=>duF n o lx y top oq lq ((t.1:Int)-1)) (fun t=>(PH.nil.set o (.rows 1 (dT t.2.1 (aJ z)))).set oq (.rows 1 (aJ t.2.2))) (fun t=>t.1≤lq∧mY U0 (val y) (m+1) lx lq t.1 t.2.1 t.2.2) (fun t=>t.1) (j+1) (dZ 2 K)))) F H:=by
   intro g0 F H hg hgB hF hH
   have gu:=gu g0 hg hgB
   simp only[go_sem] at gu
   simp only[go_sem]
   refine gu _ F H hF hH ?_
   intro F1 H1 hF1 hH1
   have f11:F1 11=some (.osl o 1 0 lx):=hF1 11 _ (by unfold duF; simp only[go_sem,γ])
   have f12:F1 12=some (aF y):=hF1 12 _ (by unfold duF; simp only[go_sem,γ])
   have f15:F1 15=some (.int .i64 j):=hF1 15 _ (by unfold duF; simp only[go_sem,γ])
   have f17:F1 17=some (.int .u64 (qq:Nat)):=hF1 17 _ (by unfold duF; simp only[go_sem,γ])
   have f10:F1 10=some (.int .i64 n):=hF1 10 _ (by unfold duF; simp only[go_sem,γ])
   have f13:F1 13=some (.int .u64 top):=hF1 13 _ (by unfold duF; simp only[go_sem,γ])
   have f14:F1 14=some (.osl oq 1 0 lq):=hF1 14 _ (by unfold duF; simp only[go_sem,γ])
   have ho:H1 o=some (.rows 1 (dT X (aJ z))):=hH1 o _ (by simp only[go_sem,bJJ])
   have hoq:H1 oq=some (.rows 1 (aJ Q)):=hH1 oq _ Sq
   have b3:(j:Int)≤((j+(m+1)+1:Nat):Int):=by omega
   have b4:((j+(m+1)+1:Nat):Int)≤(lx:Nat):=by omega
   have b5:j+(m+1)+1-j=m+2:=by omega
   have e2:IntKind.i64.wrap (((j+(m+1):Nat):Int)+1)=((j+(m+1)+1:Nat):Int):=dC Om
   simp only[go_sem,γ,reduceCtorEq,BF,f11,f15,f12,bKI,e1,e2,b3,b4,b5]
   refine xS (src:=aJ W) ?_ ?_ (fun h=>absurd h hWn) fun _ o' ho'=>?_
   ·simp only[go_sem,ho,bKE,hcut]
   ·unfold roomFor
    rw[bU,hWl]
    simp only[maxLen]; omega
   rw[bU,hWl]
   have n1:¬ oq=o':=fun h=>by subst h; rw[hoq] at ho'; cases ho'
   have n2:¬ o=o':=fun h=>by subst h; rw[ho] at ho'; cases ho'
   have nq:nl qq≤1:=mB (by rw[Nat.pow_one]; exact hqB)
   have tm:=L.times y (aG qq) hy (aU _) Om (by rw[aZ]; omega)
   rw[aR] at tm
   have nW:=eZ hWL
   have mn:=L.minus W (aG (val y*qq)) hWL (aU _) (by rw[aR]; exact hmulle) (by rw[aZ]; exact bNF (fH hmulle) nW) Om
   rw[aR,hrest] at mn
   have hWt:(aJ W).take (m+2)=aJ W:=bKZ (by rw[bU]; omega)
   simp only[go_sem,f17]
   refine aA (L.make qq Om) Sq ?_
   simp only[go_sem,f12]
   refine aA tm Sq ?_
   simp only[go_sem]
   refine oY (o:=o') (s:=1) (rs:=aJ W) mn Sq (by simp only[go_sem,γ,show m+2≤W.length by omega,hWt]) ?_
   simp only[go_sem,γ,BG]
   have hfx:(dT X (aJ z)).map (fun r=>r.map (PV.dE o' 1 (aJ W)))=dT X (aJ z):=by
    have:dT X (aJ z)=aJ (X++z):=by simp[dT,aJ]
    rw[this]; exact pU _ _ _ _
   have hfq:(aJ Q).map (fun r=>r.map (PV.dE o' 1 (aJ W)))=aJ Q:=pU _ _ _ _
   have ur:=bwO (C:=C) n o lx y top oq lq j X (aJ z) hne hXl bJZ Om (.rows 1 (aJ Q)) qq (val W%val y)
   rw[hly,show m+1+1=m+2 from rfl] at ur
   simp only[go_sem] at ur
   refine ur _ _ _ ?_ ?_ ?_
   ·unfold duF
    (repeat' (first|exact PF.nil_le|refine PF.aK ?_ ?_))<;>first|(simp only[go_sem,γ,f10,f11,f12,f13,f14,f15,f17,n1,n2]<;>rfl)|rfl
   ·refine PH.aK (PH.aK PH.nil_le ?_) ?_
    ·simp only[go_sem,bJJ,n2,ho,cS.frz,hfx]
    ·simp only[go_sem,n1,hoq,cS.frz,hfq]
   intro F3 H3 hF3 hH3
   have k10:F3 10=some (.int .i64 n):=hF3 10 _ (by unfold duF; simp only[go_sem,γ])
   have k11:F3 11=some (.osl o 1 0 lx):=hF3 11 _ (by unfold duF; simp only[go_sem,γ])
   have k12:F3 12=some (aF y):=hF3 12 _ (by unfold duF; simp only[go_sem,γ])
   have k13:F3 13=some (.int .u64 top):=hF3 13 _ (by unfold duF; simp only[go_sem,γ])
   have k14:F3 14=some (.osl oq 1 0 lq):=hF3 14 _ (by unfold duF; simp only[go_sem,γ])
   have k15:F3 15=some (.int .i64 j):=hF3 15 _ (by unfold duF; simp only[go_sem,γ])
   have k17:F3 17=some (.int .u64 qq):=hF3 17 _ (by unfold duF; simp only[go_sem,γ])
   have ho3:H3 o=some (.rows 1 (dT (X.take j++dO (m+2) (val W%val y)++X.drop (j+(m+2))) (aJ z))):=hH3 o _ (by simp only[go_sem,bJJ])
   have hq3:H3 oq=some (.rows 1 (aJ Q)):=hH3 oq _ Sq
   have hjq:j<Q.length:=by omega
   have rq:=bK Q hjq
   have hjl:(j:Int)<(lq:Nat):=by omega
   have sq:=fA Q j qq
   have ec:IntKind.u32.wrap ((qq:Nat):Int)=((qq:Nat):Int):=by rw[cC,bLS hqB]
   have ej:IntKind.i64.wrap ((j:Int)-1)=(j:Int)-1:=wrap_i64 Om Om
   simp only[go_sem,γ,BI,k14,k15,k17,hjl,hq3,rq,ec,sq,BJ,ej]
   refine aI (α:=Nat × List Nat × List Nat) (j,_,_) ⟨by simp only; omega,hI'⟩ (by simp only; omega) ?_ ?_
   ·unfold duF
    (repeat' (first|exact PF.nil_le|refine PF.aK ?_ ?_))<;>first|(simp only[go_sem,γ,k10,k11,k12,k13,k14]<;>rfl)|rfl
   ·refine PH.aK (PH.aK PH.nil_le ?_) ?_
    ·simp only[go_sem,bJJ,ho3]
    ·simp only[go_sem]
  simp only[aC.wp,go_sem] at tail
  simp only[go_sem,hz,hge]
  refine bS .nil eC PH.nil_le ?_
  simp only[go_sem,γ,reduceCtorEq,VH,e1,e0,b1,b0,bJJ,r1,r0,ex1,ex0,esh,eor,VI,hdd,equo,VJ]
  by_cases c:(4294967296*x1+x0)/top>4294967295
  ·have c':(((4294967296*x1+x0)/top:Nat):Int)>4294967295:=by omega
   simp only[go_sem,c',VK]
   exact tail 4294967295 _ _ Om (by decide) (by unfold duF; exact Lq) PH.le_refl
  ·have c':¬ (((4294967296*x1+x0)/top:Nat):Int)>4294967295:=by omega
   simp only[go_sem,c']
   exact tail _ _ _ hgu Om (by unfold duF; exact Lq) PH.le_refl
 ·have:k=0:=by omega
  subst this
  have hz:¬ ((0:Nat):Int)-1≥0:=by decide
  simp only[go_sem,hz]
  refine hK X Q _ _ hI ?_ PH.le_refl
  unfold duF
  (repeat' (first|exact PF.nil_le|refine PF.aK ?_ ?_))<;>first|(simp only[go_sem,ο,γ,show ((0:Nat):Int)-1=-1 from rfl]<;>rfl)|rfl
def biW (a:List Nat) (d q k r:Nat):PF:=(((((PF.nil.set 0 (aF a)).set 1 (aF [d])).set 6 (.osl q 1 0 a.length)).set 7 (.int .u64 r)).set 8 (.int .i64 ((k:Int)-1)))
theorem a4N {C:Ctx} (L:LF C) (a:List Nat) (d:Nat) (ha:Lim a) (hd0:0<d) (hd:d<4294967296) (h1:a.length≤1000) (F:PF) (f0:F 0=some (aF a)) (f1:F 1=some (aF [d])) :
  aC.wp C (.seq (.region IN) (.seq (.region IP) (.seq (.seq (.region IQ) (.block 0 (.loop AZ))) (.seq (.region BA) .ret)))) (aT [.tmp 4,.tmp 5] (bZ (oO (val a) d))) F .nil:=by
 have hm1:((a.length:Nat):Int)*((4:Nat):Int)≤140737488355328:=by omega
 have hm2:((a.length:Nat):Int)≤9223372036854775807:=by omega
 have hz:bKL a.length [PV.int .u32 0]=aJ (bKL a.length 0++[]):=by
  simp[aJ]
 simp only[go_sem,γ,IN,f0,bKI,hm1,hm2,hz]
 refine aQ fun o ho=>?_
 simp only[go_sem,γ,reduceCtorEq,IP,IQ,f0,bKI]
 refine wp_loop (α:=Nat × List Nat × Nat) (fun t=>biW a d o t.1 t.2.2) (fun t=>PH.nil.set o (.rows 1 (aJ (bKL t.1 0++t.2.1))))
  (fun t=>t.1+t.2.1.length=a.length∧Lim t.2.1∧t.2.2<d∧val t.2.1*d+t.2.2=val (a.drop t.1)) (fun t=>t.1) (a.length,[],0) ⟨by simp,by simp[Lim],hd0,by simp[val]⟩ ?_ ?_ ?_
 ·unfold biW
  (repeat' (first|exact PF.nil_le|refine PF.aK ?_ ?_))<;>first|(simp only[go_sem,γ,reduceCtorEq,f0,f1,wrap_i64 (Om:-9223372036854775808≤((a.length:Nat):Int)-1) (Om:((a.length:Nat):Int)-1≤9223372036854775807)]<;>rfl)|rfl
 ·exact PH.aK PH.nil_le Sq
 rintro⟨k,S,r⟩ ⟨hk,bJB,hr,bIX⟩
 simp only at hk bJB hr bIX
 simp only[go_sem,γ,reduceCtorEq,AZ,agH,biW]
 by_cases h0:0<k
 ·obtain⟨m,rfl⟩:∃ m,k=m+1:=⟨k-1,by omega⟩
  have hzz:((m+1:Nat):Int)-1=(m:Int):=by omega
  have hge:(m:Int)≥0:=by omega
  have hml:m<a.length:=by omega
  have hlt:(m:Int)<(a.length:Nat):=by omega
  have hai:=ha _ (bKM hml)
  have hdrop:val (a.drop m)=a[m]+4294967296*val (a.drop (m+1)):=by rw[bMH hml]; rfl
  have hax:=bK a hml
  generalize hx:a[m]=x at *
  have ex:IntKind.u64.wrap ((x:Nat):Int)=((x:Nat):Int):=bD Om
  have ed:IntKind.u64.wrap ((d:Nat):Int)=((d:Nat):Int):=bD Om
  have esh:shift .shl .u64 (r:Int) 32=some (.int .u64 ((2 ^ 32*r:Nat):Int)):=IC (s:=32) Om Om
  have e32:(2:Nat) ^ 32=4294967296:=by decide
  have eor:=orI (a:=2 ^ 32*r) (b:=x) (n:=2 ^ 32*r+x) Om Om (Nat.two_pow_add_eq_or_of_lt Om r).symm Om
  rw[e32] at esh eor
  have hq:(4294967296*r+x)/d<4294967296:=by
   rw[bND hd0]
   have:4294967296*(r+1)≤4294967296*d:=bMO _ hr
   omega
  have hdd:¬ ((d:Nat):Int)=0:=by omega
  have equo:IntKind.u64.wrap (bME ((4294967296*r+x:Nat):Int) ((d:Nat):Int))=(((4294967296*r+x)/d:Nat):Int):=by
   rw[show bME ((4294967296*r+x:Nat):Int) ((d:Nat):Int)=(((4294967296*r+x)/d:Nat):Int) from rfl]
   exact bD Om
  have erem:Int.tmod ((4294967296*r+x:Nat):Int) ((d:Nat):Int)=(((4294967296*r+x)%d:Nat):Int):=rfl
  have ec:IntKind.u32.wrap (((4294967296*r+x)/d:Nat):Int)=(((4294967296*r+x)/d:Nat):Int):=by rw[cC,bLS hq]
  have bKD:bKL (m+1) 0++S=bKL m 0++(0::S):=by
   rw[List.replicate_succ',bLI]; rfl
  have hin:(aJ (bKL m 0++(0::S)))[m]?=some [.int .u32 ((0:Nat):Int)]:=by
   rw[bK _ (by simp)]; simp
  have bIR:(aJ (bKL m 0++(0::S))).set m [.int .u32 (((4294967296*r+x)/d:Nat):Int)]=aJ (bKL m 0++(((4294967296*r+x)/d)::S)):=by
   rw[fA,bNX _ _ (by simp)]; simp
  simp only[go_sem,ν,γ,reduceCtorEq,hzz,hge,agI,esh,hax,ex,eor,agJ,ed,hdd,equo,ec,hlt,bKD,hin,bIR,VB,erem,VC]
  refine aI (m,((4294967296*r+x)/d)::S,(4294967296*r+x)%d) ⟨by simp only[bLX]; omega,fun y hy=>?_,bLY _ hd0,?_⟩ (by simp only; omega) ?_ (PH.aK PH.nil_le Sq)
  ·rw[bKY] at hy
   rcases hy with rfl | hy
   ·exact hq
   ·exact bJB y hy
  ·simp only[val]
   rw[hdrop,← bIX,bLM,bKV,bLE]
   have:=bNQ (4294967296*r+x) d
   rw[bLH d] at this
   omega
  ·(repeat' (first|exact PF.nil_le|refine PF.aK ?_ ?_))<;>first|(simp only[go_sem,γ,reduceCtorEq,wrap_i64 (Om:-9223372036854775808≤(m:Int)-1) (Om:(m:Int)-1≤9223372036854775807)]<;>rfl)|rfl
 ·have:k=0:=by omega
  subst this
  have hzz:¬ ((0:Nat):Int)-1≥0:=by decide
  rw[bLK] at bIX
  have hS:S.length=a.length:=by omega
  have hq:val S=val a/d:=by
   rw[← bIX,bLH,Nat.mul_add_div hd0,bNR hr,bMB]
  have hrm:r=val a%d:=by rw[← bIX,bLH,Nat.mul_add_mod,bLS hr]
  have hn0:bKL 0 0++S=S:=by simp
  have hl:=L.trim S bJB Om
  have hSt:(aJ S).take a.length=aJ S:=bKZ (by rw[bU]; omega)
  simp only[go_sem,υ,γ,reduceCtorEq,hzz,BA,bMY]
  refine oY (o:=o) (s:=1) (rs:=aJ S) hl Sq (by simp only[go_sem,γ,reduceCtorEq,hSt,show a.length≤S.length by omega]) ?_
  simp only[go_sem,γ,reduceCtorEq]
  refine aA (L.make r Om) Sq ?_
  simp only[go_sem,γ,reduceCtorEq]
  refine aX (vs:=[aF (aG (val S)),aF (aG r)]) (.inr rfl) .nil Ev PH.nil_le ⟨?_,rfl⟩
  rw[hq,hrm]
  exact .refl _
theorem blP {B m:Nat} (h:nl B=m+1):32*m<cE B∧cE B≤32*(m+1):=by
 refine⟨?_,(kM B (m+1)).2 Om⟩
 rcases bLD (32*m) (cE B) with h1 | h1
 ·exact h1
 ·have:=(kM B m).1 h1
  omega
theorem blQ {B:Nat} (h:B≠0):2 ^ (cE B-1)≤B:=by
 rcases bLD B (2 ^ (cE B-1)) with h1 | h1
 ·have h2:=(kL B _).2 h1
  have h3:cE B≠0:=fun e=>h (jF.1 e)
  omega
 ·exact h1
theorem a4O {C:Ctx} (L:LF C) (A B:Nat) (hB:B≠0) (hA:nl A≤512) (hBl:nl B≤512) :
  xL.wp C (aT DQ.res (bZ (oO A B))) (PF.args [aF (aG A),aF (aG B)]) .nil:=by
 have LA:=aU A
 have LB:=aU B
 have vA:=aR A
 have vB:=aR B
 have lA:(aG A).length=nl A:=rfl
 have lB:(aG B).length=nl B:=rfl
 simp only[go_sem,γ,reduceCtorEq,xL,agD,agE,DQ]
 refine aA (L.cmp _ _ LA LB Om Om) rfl ?_
 rw[vA,vB]
 by_cases c1:A<B
 ·have hc:dD A B<0:=by simp[dD,c1]
  simp only[go_sem,γ,reduceCtorEq,hc,agF]
  refine aA (L.trim _ LA Om) rfl ?_
  rw[vA]
  simp only[go_sem,γ]
  refine aX (vs:=[.aB,aF (aG A)]) (.inr rfl) .nil rfl PH.nil_le ⟨?_,rfl⟩
  rw[oO,bNR c1,bLS c1,fC]
  exact CoL.tup (CoL.cons (.nil 1) (CoL.cons (.refl _) .nil))
 have hc:¬ dD A B<0:=by
  unfold dD
  rw[if_neg c1]
  split<;>decide
 have hB0:0<B:=bMQ hB
 have hnB:nl B≠0:=fun h=>hB (gP.1 h)
 simp only[go_sem,γ,hc,agG,bKI,lB]
 by_cases c2:nl B=1
 ·have hBB:B<4294967296:=by have:=(gV B 1).1 Om; simpa using this
  have hlb:aG B=[B]:=mK hB hBB
  have sh:=a4N (C:=C) L (aG A) B LA hB0 hBB Om
  rw[vA] at sh
  simp only[aC.wp,go_sem] at sh
  simp only[go_sem,bT (Om:((nl B:Nat):Int)=1)]
  exact sh _ rfl (by simp only[go_sem,γ,hlb])
 obtain⟨m,hm⟩:∃ m,nl B=m+1:=⟨nl B-1,by omega⟩
 have hm1:1≤m:=by omega
 obtain⟨hb1,hb2⟩:=blP hm
 obtain⟨n,hn⟩:∃ n,n+cE B=32*(m+1):=⟨32*(m+1)-cE B,by omega⟩
 have hn32:n<32:=by omega
 have hp2:0<2 ^ n:=bMZ (by decide)
 have hBlt:B<2 ^ cE B:=(kL B _).1 (bKK _)
 have hBge:=blQ hB
 have hVhi:B*2 ^ n<4294967296 ^ (m+1):=by
  have:B*2 ^ n<2 ^ cE B*2 ^ n:=Nat.mul_lt_mul_of_pos_right hBlt hp2
  rw[← Nat.pow_add,show cE B+n=32*(m+1) by omega,Nat.pow_mul] at this
  exact this
 have hVlo:4294967296 ^ m*2147483648≤B*2 ^ n:=by
  have:2 ^ (cE B-1)*2 ^ n≤B*2 ^ n:=bLO _ hBge
  rw[← Nat.pow_add,show cE B-1+n=32*m+31 by omega,Nat.pow_add,Nat.pow_mul] at this
  exact this
 have nV:nl (B*2 ^ n)=m+1:=by
  have h1:=(gV (B*2 ^ n) (m+1)).2 hVhi
  rcases bLD (nl (B*2 ^ n)) (m+1) with h | h
  ·have:=(gV (B*2 ^ n) m).1 Om
   have hpp:0<4294967296 ^ m:=bMZ (by decide)
   omega
  ·omega
 have hV0:B*2 ^ n≠0:=Nat.mul_ne_zero hB Om
 have nU1:nl (A*2 ^ n)≤nl A+1:=kI (bKK _) (mB (by rw[Nat.pow_one]; exact Nat.pow_lt_pow_right (a:=2) (m:=n) (n:=32) (by decide) hn32))
 have hUV:B*2 ^ n≤A*2 ^ n:=bLO _ Om
 have nUV:m+1≤nl (A*2 ^ n):=by rw[← nV]; exact fH hUV
 have hU0:A*2 ^ n≠0:=by omega
 have e32:IntKind.i64.wrap (32*((nl B:Nat):Int))=((32*(m+1):Nat):Int):=by rw[wrap_i64 Om Om]; omega
 have en:IntKind.i64.wrap (((32*(m+1):Nat):Int)-((cE B:Nat):Int))=(n:Int):=by rw[wrap_i64 Om Om]; omega
 have bt:=L.bits (aG B) LB Om
 rw[vB] at bt
 have ua:=L.upM (aG A) n LA Om Om (fun h=>by have:=eN LA; rw[h] at this; omega)
 have ub:=(L.upM (aG B) n LB Om Om (fun h=>by have:=eN LB; rw[h] at this; omega)).freeze
 rw[vA] at ua
 rw[vB] at ub
 have tail:∀ (o:Nat) (F:PF) (H:PH),F 0=some (aF (aG A))→F 1=some (aF (aG B))→F 10=some (.int .i64 n)→F 11=some (.osl o 1 0 (nl (A*2 ^ n)+2))→F 12=some (aF (aG (B*2 ^ n)))→H o=some (.rows 1 (aJ (aG (A*2 ^ n))++[[.int .u32 0],[.int .u32 0]])) →
   aC.wp C (.seq (.region BB) (.seq (.region BC) (.seq (.region BD) (.seq (.seq (.region BE) (.block 2 (.loop sT))) (.seq (.region BK) .ret))))) (aT [.tmp 4,.tmp 5] (bZ (oO A B))) F H:=by
  intro o F H f0 f1 f10 f11 f12 hH
  have LU:=aU (A*2 ^ n)
  have LV:=aU (B*2 ^ n)
  have vU:=aR (A*2 ^ n)
  have vV:=aR (B*2 ^ n)
  have lU:(aG (A*2 ^ n)).length=nl (A*2 ^ n):=rfl
  have lV:(aG (B*2 ^ n)).length=m+1:=nV
  have eu:IntKind.i64.wrap (((nl (A*2 ^ n):Nat):Int)+1)=((nl (A*2 ^ n)+1:Nat):Int):=dC Om
  have b1:((nl (A*2 ^ n)+1:Nat):Int)≤((nl (A*2 ^ n)+2:Nat):Int):=by omega
  simp only[go_sem,γ,reduceCtorEq,BB,f11,f0,f10]
  refine aA ua.freeze rfl ?_
  obtain⟨lq,hlq⟩:∃ lq,nl (A*2 ^ n)+1-(m+1)=lq:=⟨_,rfl⟩
  have hlx:nl (A*2 ^ n)+1=lq+(m+1):=by omega
  have em:IntKind.i64.wrap (((m+1:Nat):Int)-1)=((m:Nat):Int):=by rw[wrap_i64 Om Om]; omega
  have hmV:m<(aG (B*2 ^ n)).length:=by omega
  have rm:=bK (aG (B*2 ^ n)) hmV
  have tl:=LV _ (bKM hmV)
  have htop:0<(aG (B*2 ^ n))[m]:=by
   have h1:=bX (aG (B*2 ^ n)) hmV
   rw[bKZ Om,vV] at h1
   have h2:=eN (LV.take m)
   rw[bLB,bMN Om] at h2
   have hpp:0<4294967296 ^ m:=bMZ (by decide)
   rcases bNK (aG (B*2 ^ n))[m] with h | h
   ·rw[h] at h1; omega
   ·exact h
  have htop31:2147483648≤(aG (B*2 ^ n))[m]:=by
   have h1:=bX (aG (B*2 ^ n)) hmV
   rw[bKZ Om,vV] at h1
   have h2:=eN (LV.take m)
   rw[bLB,bMN Om] at h2
   rcases bLD (aG (B*2 ^ n))[m] 2147483648 with h | h
   ·exfalso
    have h3:4294967296 ^ m*((aG (B*2 ^ n))[m]+1)≤4294967296 ^ m*2147483648:=bMO _ h
    rw[bKV,Nat.mul_one] at h3
    omega
   ·exact h
  have key0:=bbJ (C:=C) L (A*2 ^ n) n o (nl (A*2 ^ n)+1) lq
  have hI:mY (A*2 ^ n) (val (aG (B*2 ^ n))) (m+1) (nl (A*2 ^ n)+1) lq lq (aG (A*2 ^ n)++[0]) (bKL lq 0):=by
   refine⟨by rw[bKQ,lU]; rfl,bNW,LU.app fun x hx=>by simp at hx; omega,tG _,?_,?_,fun i x _ hx=>aNO hx⟩
   ·rw[fK,vU,qI]; simp[val]
   ·have hlen:(aG (A*2 ^ n)++[0]).length=nl (A*2 ^ n)+1:=by rw[bKQ,lU]; rfl
    have hv0:val (aG (A*2 ^ n)++[0])=A*2 ^ n:=by rw[fK,vU]; simp[val]
    rw[sI (LU.app fun x hx=>by simp at hx; omega) Om,hv0,vV,bND (bMZ (by decide))]
    have h1:A*2 ^ n<4294967296 ^ nl (A*2 ^ n):=(gV _ _).1 (bKK _)
    have hx:nl (A*2 ^ n)=m+lq:=by omega
    rw[hx,Nat.pow_add] at h1
    have h2:4294967296 ^ m*4294967296 ^ lq≤(B*2 ^ n)*4294967296 ^ lq:=bLO _ Om
    omega
  have hrows:aJ (aG (A*2 ^ n))++[[PV.int .u32 0],[PV.int .u32 0]]=dT (aG (A*2 ^ n)++[0]) (aJ [0]):=by
   simp[dT,aJ]
  rw[hrows] at hH
  generalize htp:(aG (B*2 ^ n))[m]=top at *
  have et:IntKind.u64.wrap ((top:Nat):Int)=((top:Nat):Int):=bD Om
  have k2:IntKind.i64.wrap (((nl (A*2 ^ n)+1:Nat):Int)-((m+1:Nat):Int))=((lq:Nat):Int):=by rw[wrap_i64 Om Om]; omega
  have k3:((lq:Nat):Int)*((4:Nat):Int)≤140737488355328:=by omega
  have k4:((lq:Nat):Int)≤9223372036854775807:=by omega
  have hz:bKL lq [PV.int .u32 0]=aJ (bKL lq 0):=by simp[aJ]
  have jq:IntKind.i64.wrap ((lq:Int)-1)=(lq:Int)-1:=wrap_i64 Om Om
  simp only[go_sem,ν,γ,reduceCtorEq,bKI,lU,eu,b1,BC,f12,lV,em,rm,et,BD,k2,k3,k4,hz]
  refine aQ fun oq hoq=>?_
  have hne:oq≠o:=by rintro rfl; rw[hH] at hoq; cases hoq
  have bJJ:¬ o=oq:=fun h=>hne h.symm
  have key:=key0 oq m (aG (B*2 ^ n)) [0] hne LV lV (by rw[htp]; exact htop) hlx Om _ hI
  rw[htp] at key
  simp only[go_sem,ο] at key
  simp only[go_sem,γ,BE,jq]
  refine key _ _ _ ?_ ?_ ?_
  ·unfold duF
   exact Lq
  ·refine PH.aK (PH.aK PH.nil_le ?_) ?_
   ·simp only[go_sem,bJJ,hH]
   ·simp only[go_sem]
  clear key key0
  intro X Q F1 H1 hI1 hF1 hH1
  have g10:F1 10=some (.int .i64 n):=hF1 10 _ (by unfold duF; simp only[go_sem,ο,γ])
  have g11:F1 11=some (.osl o 1 0 (nl (A*2 ^ n)+1)):=hF1 11 _ (by unfold duF; simp only[go_sem,ο,γ])
  have g14:F1 14=some (.osl oq 1 0 lq):=hF1 14 _ (by unfold duF; simp only[go_sem,ο,γ])
  have ho1:H1 o=some (.rows 1 (dT X (aJ [0]))):=hH1 o _ (by simp only[go_sem,bJJ])
  have hq1:H1 oq=some (.rows 1 (aJ Q)):=hH1 oq _ Sq
  have hu:val X<val (aG (B*2 ^ n)):=by have:=hI1.r; rwa [bLK] at this
  have hv':=hI1.v
  rw[vV] at hu hv'
  have hQv:val Q=A/B:=by
   have:A*2 ^ n/(B*2 ^ n)=val Q:=by
    rw[← hv',Nat.add_mul_div_right _ _ Om,bNR hu,bLJ]
   rw[← this,Nat.mul_div_mul_right _ _ hp2]
  have hUv:val X/2 ^ n=A%B:=by
   have:A*2 ^ n%(B*2 ^ n)=val X:=by rw[← hv',Nat.add_mul_mod_self_right,bLS hu]
   rw[← this,Nat.mul_mod_mul_right,Nat.mul_div_cancel _ hp2]
  have lX:=hI1.lu'
  have lQ:=hI1.lq'
  have hQt:(aJ Q).take lq=aJ Q:=bKZ (by rw[bU]; omega)
  have hXt:(dT X (aJ [0])).take (nl (A*2 ^ n)+1)=aJ X:=by
   rw[dT,List.take_append_of_le_length (by rw[bU]; omega),bKZ (by rw[bU]; omega)]
  have hXl:nl (A*2 ^ n)+1≤(dT X (aJ [0])).length:=by rw[dT,bKQ,bU]; omega
  have hfx:(dT X (aJ [0])).map (fun r=>r.map (PV.dE oq 1 (aJ Q)))=dT X (aJ [0]):=by
   have:dT X (aJ [0])=aJ (X++[0]):=by simp[dT,aJ]
   rw[this]; exact pU _ _ _ _
  have nX:=eZ hI1.limU
  have t1:=L.trim Q hI1.limQ Om
  have t2:=L.trim X hI1.limU Om
  have dn:=L.down (aG (val X)) n (aU _) (by rw[aZ]; omega) Om
  rw[aR,hUv] at dn
  rw[hQv] at t1
  generalize aJ [0]=Z0 at ho1 hXt hXl hfx
  simp only[go_sem,BK,g14]
  refine oY (o:=oq) (s:=1) (rs:=aJ Q) t1 hq1 (by simp only[go_sem,hQt,show lq≤Q.length by omega]) ?_
  simp only[go_sem,γ,g11,bJJ]
  refine oY (o:=o) (s:=1) (rs:=dT X Z0) t2 (by simp only[go_sem,bJJ,ho1,cS.frz,hfx]) (by simp only[go_sem,γ,hXt,hXl]) ?_
  simp only[go_sem,γ,g10]
  refine aA dn rfl ?_
  simp only[go_sem,γ]
  exact aX (vs:=[aF (aG (A/B)),aF (aG (A%B))]) (.inr rfl) .nil rfl PH.nil_le ⟨.refl _,rfl⟩
 simp only[aC.wp,go_sem] at tail
 simp only[go_sem,γ,bF (Om:¬ ((nl B:Nat):Int)=1),VD,bKI,lB]
 refine aA bt rfl ?_
 simp only[go_sem,γ,reduceCtorEq,e32,en,VE]
 refine fE ua rfl PH.nil_le fun r H1 hr _=>?_
 have hb2:(2:Nat)*1≤16777216:=by decide
 rcases hr with ⟨h0,_⟩ | ⟨o,rs,rfl,rfl,hrl,hrt⟩
 ·exfalso
  have:=congrArg List.length h0
  rw[bU,aZ] at this
  simp at this
  omega
 rw[PH.kJ]
 rw[bU,aZ] at hrl hrt
 simp only[go_sem,υ,δ,γ,η,ζ,hb2,bU,aZ]
 refine xT (src:=[[.int .u32 0],[.int .u32 0]]) (rs:=rs) rfl ?_ Sq hrl ?_ fun o' ho'=>?_
 ·unfold roomFor
  simp only[maxLen,bLX,bMW]; omega
 ·rw[hrt]
  simp only[go_sem,δ]
  refine aA ub rfl ?_
  simp only[go_sem,γ]
  exact tail o _ _ rfl rfl rfl rfl rfl Sq
 ·rw[hrt]
  simp only[go_sem,δ]
  refine aA ub rfl ?_
  simp only[go_sem,γ]
  exact tail o' _ _ rfl rfl rfl rfl rfl Sq
structure axS (C:Ctx):Prop extends ayL C where
 int:∀ n:Int,cW n→aE C 47 [.int .i64 n] .nil (aD (.agg (mkT n 1).cells))
 mul:∀ a b,Lim a→Lim b→a.length≤35184372087808→b.length≤35184372087808→aE C 36 [aF a,aF b] .nil (aD (opV (dS (val a) (val b)) (val a*val b)))
 add:∀ a b,Lim a→Lim b→a.length≤35184372087808→b.length≤35184372087808→aE C 30 [aF a,aF b] .nil (aD (opV (dS (val a) (val b)) (val a+val b)))
 sub:∀ a b,Lim a→Lim b→a.length≤35184372087808→b.length≤35184372087808→aE C 37 [aF a,aF b] .nil (aD (pO (val a) (val b)))
theorem atR (a b:Nat):cN a b=(decide (nl b>0)&&(decide (nl b≤128)&&decide (nl a≤128))):=by
 have:=@gP b
 refine Bool.eq_iff_iff.2 ?_
 rw[fD]
 simp only[bLF,decide_eq_true_eq]
 omega
theorem bcU {C:Ctx} (L:axS C) (neg:Bool) (a b:List Nat) (ha:Lim a) (hb:Lim b) (la:a.length≤35184372087808) (lb:b.length≤35184372087808) :
  BU.wp C (aT QX.res (aD (.bool (cN (val a) (val b))))) (PF.args [.agg (eA neg a b)]) .nil:=by
 rw[atR]
 simp only[go_sem,γ,BU,auT,auU,QX]
 refine aA (L.trim b hb lb) rfl ?_
 simp only[go_sem,γ,bKI,aZ]
 by_cases c1:nl (val b)>0
 ·have c1':((nl (val b):Nat):Int)>0:=by omega
  simp only[go_sem,γ,c1']
  refine aA (L.trim b hb lb) rfl ?_
  simp only[go_sem,γ,bKI,aZ]
  by_cases c2:nl (val b)≤128
  ·have c2':((nl (val b):Nat):Int)≤128:=by omega
   simp only[go_sem,δ,γ,θ,c2']
   refine aA (L.trim a ha la) rfl ?_
   simp only[go_sem,γ,bKI,aZ]
   refine aL (.inr rfl) rfl ?_
   have:decide (((nl (val a):Nat):Int)≤128)=decide (nl (val a)≤128):=by
    refine decide_eq_decide.2 ?_
    omega
   rw[aV,this,decide_eq_true c1,decide_eq_true c2]
   rfl
  ·have c2':¬ ((nl (val b):Nat):Int)≤128:=by omega
   simp only[go_sem,γ,reduceCtorEq,c2']
   refine aL (.inr rfl) rfl ?_
   rw[aV,decide_eq_false c2,bKO,bLQ]
 ·have c1':¬ ((nl (val b):Nat):Int)>0:=by omega
  simp only[go_sem,γ,reduceCtorEq,c1']
  refine aL (.inr rfl) rfl ?_
  rw[aV,decide_eq_false c1,bKO]
theorem XN {neg:Bool} {a b:Nat} (h:cN a b=true):gQ neg a b=.ok (kX neg a b):=by
 obtain⟨h1,h2,h3⟩:=fD.1 h
 have e1:=(kM (a/bKN a b) 128).2 (aeI _ h3)
 have e2:=(kM (b/bKN a b) 128).2 (aeI _ h2)
 unfold gQ kX
 rw[if_neg Om]
def a0T (a b:Nat):Bool:=decide (nl a>128)||decide (nl b>128)
theorem bcM {C:Ctx} (neg:Bool) (a b:List Nat) :
  BQ.wp C (aT QS.res (aD (.bool (decide (a.length>128)||decide (b.length>128))))) (PF.args [.agg (eA neg a b)]) .nil:=by
 simp only[go_sem,δ,γ,θ,BQ,atU,atV,QS,bKI]
 by_cases c:a.length>128
 ·have c':((a.length:Nat):Int)>128:=by omega
  simp only[go_sem,γ,c']
  refine aL (.inr rfl) rfl ?_
  rw[aV,decide_eq_true c,Bool.true_or]
 ·have c':¬ ((a.length:Nat):Int)>128:=by omega
  simp only[go_sem,γ,reduceCtorEq,c',bKI]
  refine aL (.inr rfl) rfl ?_
  have:decide (((b.length:Nat):Int)>128)=decide (b.length>128):=by
   refine decide_eq_decide.2 ?_
   omega
  rw[aV,this,decide_eq_false c,Bool.false_or]
def aAU (x:FV):FR:=if a0T x.2.1 x.2.2 then .error 2 else .ok x
theorem bmI (neg:Bool) (a b:Nat):aAU (kX neg a b)=gQ neg a b:=by
 have e1:=kM (a/bKN a b) 128
 have e2:=kM (b/bKN a b) 128
 unfold aAU kX gQ a0T
 simp only[Bool.or_eq_true,decide_eq_true_eq]
 by_cases c:nl (a/bKN a b)>128∨nl (b/bKN a b)>128
 ·rw[if_pos c,if_pos Om]
 ·rw[if_neg c,if_neg Om]
structure ZV (C:Ctx):Prop extends axS C where
 valid:∀ x:RF,x.Ok→aE C 56 [.agg x.cells] .nil (aD (.bool (cN (val x.num) (val x.den))))
 big:∀ x:FV,aE C 48 [.agg x.rf.cells] .nil (aD (.bool (a0T x.2.1 x.2.2)))
theorem bjW {C:Ctx} (L:ZV C) (x:FV):JC.wp C (aT agV.res (bZ (frV (aAU x)))) (PF.args [.agg x.rf.cells]) .nil:=by
 simp only[go_sem,δ,JC,aMK,agV]
 refine aQ fun o ho=>?_
 simp only[go_sem,δ,γ,aML]
 refine aA (L.big x) rfl ?_
 unfold aAU
 cases a0T x.2.1 x.2.2 with
 | true =>
  simp only[go_sem,δ,γ,aMM]
  refine gJ ?_
  simp only[go_sem,δ,γ]
 | false =>
  obtain⟨n,a,b⟩:=x
  simp only[go_sem,δ,γ,reduceCtorEq,aMN]
  exact aX (.inr rfl) .nil (vs:=[.agg (FV.rf (n,a,b)).cells,.int .i64 0]) Sq PH.nil_le ⟨.refl _,rfl⟩
theorem a5O {C:Ctx} (L:ZV C) (x:RF) (hx:x.Ok):xO.wp C (aT DU.res (bZ (frV (mP x)))) (PF.args [.agg x.cells]) .nil:=by
 simp only[go_sem,δ,xO,ahE,DU]
 refine aQ fun o ho=>?_
 simp only[go_sem,δ,γ,ahF]
 refine aA (L.valid x hx) rfl ?_
 unfold mP
 cases hv:cN (val x.num) (val x.den) with
 | false =>
  simp only[go_sem,δ,γ,reduceCtorEq,bKW,ahG]
  refine gJ ?_
  simp only[go_sem,δ,γ]
 | true =>
  obtain⟨v1,v2,v3⟩:=fD.1 hv
  have e:=XN (neg:=x.neg) hv
  rw[if_pos rfl,e]
  simp only[go_sem,δ,γ,θ,bKR,ahH]
  refine aA (L.lowest x.neg x.num x.den hx.1 hx.2.1 hx.2.2.1 hx.2.2.2 Om Om v1) rfl ?_
  simp only[go_sem,δ,γ]
  exact aX (.inr rfl) .nil (vs:=[.agg (kX x.neg (val x.num) (val x.den)).rf.cells,.int .i64 0]) Sq PH.nil_le ⟨.refl _,rfl⟩
theorem bcS {C:Ctx} (L:axS C) (a b:List Nat) (ha:Lim a) (hb:Lim b) (la:a.length≤35184372087808) (lb:b.length≤35184372087808) (na:nl (val a)≤256) (nb:nl (val b)≤256) :
  BT.wp C (aT QW.res (aD (aF (aG (val a*val b))))) (PF.args [aF a,aF b]) .nil:=by
 simp only[go_sem,γ,reduceCtorEq,BT,auQ,auR,QW]
 refine aA (L.mul a b ha hb la lb) rfl ?_
 have:=kI na nb
 rw[gI Om Om,opV,xI Om]
 simp only[go_sem,γ,reduceCtorEq,auS]
 refine aL (.inr rfl) rfl ?_
 rfl
structure ayN (C:Ctx):Prop extends ZV C where
 fits:∀ x:FV,aE C 57 [.agg x.rf.cells] .nil (aD (frV (aAU x)))
 red:∀ x:RF,x.Ok→aE C 52 [.agg x.cells] .nil (aD (frV (mP x)))
 prod:∀ a b,Lim a→Lim b→a.length≤35184372087808→b.length≤35184372087808→nl (val a)≤256→nl (val b)≤256→aE C 60 [aF a,aF b] .nil (aD (aF (aG (val a*val b))))
def RF.valid (x:RF):Prop:=cN (val x.num) (val x.den)=true
def nG (x y:RF):Int:=pK x.neg (val x.num) (val x.den) y.neg (val y.num) (val y.den)
def voS:Spec:=fun name vs=>match name,vs with
 | 60,[x,y]=>some ([],fun _=>aD (aF (aG (val (gY x)*val (gY y)))))
 | _,_=>none
theorem tP (a b:List Nat):voS 60 [aF a,aF b]=some ([],fun _=>aD (aF (aG (val a*val b)))):=by
 show some _=_; rw[dY,dY]
theorem anQ (a b:Nat):dD b a=- dD a b:=by
 unfold dD
 rcases Nat.lt_trichotomy a b with h | h | h
 ·rw[if_neg Om,if_pos h,if_pos h]; rfl
 ·subst h
  rw[if_neg Om,if_neg Om]; rfl
 ·rw[if_pos h,if_neg Om,if_pos h]
set_option maxHeartbeats 1000000 in
theorem bcO {C : Ctx} (L : ayN C) (x y : RF) (hx : x.Ok) (hy : y.Ok) (vx : x.valid) (vy : y.valid) : BR.wp C (aT QT.res (aD (.int .i64 (nG x y)))) (PF.args [.agg x.cells, .agg y.cells]) .nil := by
  obtain ⟨n1, a1, b1⟩ := x
  obtain ⟨n2, a2, b2⟩ := y
  obtain ⟨ha1, hb1, la1, lb1⟩ := hx
  obtain ⟨ha2, hb2, la2, lb2⟩ := hy
  obtain ⟨v1, v2, v3⟩ := fD.1 vx
  obtain ⟨w1, w2, w3⟩ := fD.1 vy
  simp only at ha1 hb1 la1 lb1 ha2 hb2 la2 lb2 v1 v2 v3 w1 w2 w3
  have m1 := kI v3 w2
  have m2 := kI w3 v2
  have hA : decide (val a1 ≠ 0) = decide (nl (val a1 * val b2) > 0) := by
    refine decide_eq_decide.2 ?_
    have := @gP (val a1 * val b2)
    rw [Nat.mul_eq_zero] at this
    omega
  have hB : decide (val a2 ≠ 0) = decide (nl (val a2 * val b1) > 0) := by
    refine decide_eq_decide.2 ?_
    have := @gP (val a2 * val b1)
    rw [Nat.mul_eq_zero] at this
    omega
  unfold nG pK
  simp only [hA, hB]
  simp only[go_sem,ο,γ,BR,atW,QT]
  refine bS .nil voS PH.nil_le ?_
  simp only[go_sem,ο,δ,γ,θ,atX]
  refine bQ (tP a1 b2) (L.prod a1 b2 ha1 hb2 la1 lb2 Om Om) rfl PH.nil_le ?_
  simp only[go_sem,ο,δ,γ,θ]
  refine bQ (tP a2 b1) (L.prod a2 b1 ha2 hb1 la2 lb1 Om Om) rfl PH.nil_le ?_
  have hc := L.cmp (aG (val a1 * val b2)) (aG (val a2 * val b1)) (aU _) (aU _) (by rw [aZ]; omega) (by rw [aZ]; omega)
  have hd := L.cmp (aG (val a2 * val b1)) (aG (val a1 * val b2)) (aU _) (aU _) (by rw [aZ]; omega) (by rw [aZ]; omega)
  rw [aR, aR] at hc hd
  rw [anQ (val a1 * val b2)] at hd
  generalize val a1 * val b2 = A at *
  generalize val a2 * val b1 = B at *
  have gA : decide (((nl A : Nat) : Int) > 0) = decide (nl A > 0) := decide_eq_decide.2 Om
  have gB : decide (((nl B : Nat) : Int) > 0) = decide (nl B > 0) := decide_eq_decide.2 Om
  generalize decide (nl A > 0) = p at *
  generalize decide (nl B > 0) = q at *
  cases n1 <;> cases n2 <;> cases p <;> cases q
  all_goals
    simp only[go_sem,ο,δ,γ,θ,reduceCtorEq,atY,bKI,aZ,gA,gB,atZ,auA,auB,auC,auD,auE,auF]
    first
    | (refine aL (.inr rfl) rfl ?_; rfl)
    | (refine aA hc rfl ?_
       simp only[go_sem,γ]
       refine aL (.inr rfl) rfl ?_
       rfl)
    | (refine aA hd rfl ?_
       simp only[go_sem,γ]
       refine aL (.inr rfl) rfl ?_
       rfl)
structure wF (C:Ctx):Prop extends ayN C where
 order:∀ x y:RF,x.Ok→y.Ok→x.valid→y.valid→aE C 51 [.agg x.cells,.agg y.cells] .nil (aD (.int .i64 (nG x y)))
theorem bjZ {C:Ctx} (L:wF C) (x y:RF) (hx:x.Ok) (hy:y.Ok) (vx:x.valid) (vy:y.valid):JD.wp C (aT agX.res (aD (.bool (decide (nG x y<0))))) (PF.args [.agg x.cells,.agg y.cells]) .nil:=by
 simp only[go_sem,δ,γ,JD,aMQ,aMR,agX]
 refine aA (L.order x y hx hy vx vy) rfl ?_
 simp only[go_sem,γ]
 refine aL (.inr rfl) rfl ?_
 rfl
theorem bkD {C:Ctx} (L:wF C) (x y:RF) (hx:x.Ok) (hy:y.Ok) (vx:x.valid) (vy:y.valid):JJ.wp C (aT ahO.res (aD (.bool (nG x y==0)))) (PF.args [.agg x.cells,.agg y.cells]) .nil:=by
 simp only[go_sem,δ,γ,JJ,aNA,aNB,ahO]
 refine aA (L.order x y hx hy vx vy) rfl ?_
 simp only[go_sem,γ]
 refine aL (.inr rfl) rfl ?_
 rfl
theorem DD (n:Int):mkT n 1=⟨decide (n<0),aG n.natAbs,aG 1⟩:=by
 unfold mkT kX FV.rf
 rw[show (1:Int).natAbs=1 from rfl,Nat.gcd_one_right,Nat.div_one,Nat.div_one,show decide ((1:Int)<0)=false from rfl]
 congr 1
 by_cases h:n<0
 ·have:n.natAbs≠0:=by omega
  simp[h,this]
 ·simp[h]
theorem DC (n:Int) (h:cW n):(mkT n 1).Ok∧(mkT n 1).valid:=by
 have h1:nl n.natAbs≤2:=mB (by unfold cW at h; omega)
 rw[DD]
 refine⟨⟨aU _,aU _,?_,?_⟩,?_⟩
 ·simp only[aZ]; omega
 ·simp only[tH]; decide
 ·unfold RF.valid
  simp only[aR]
  rw[atR]
  have:nl 1=1:=by rw[nl,tH]; rfl
  simp[this]
  omega
def pC (x:RF):Int:=if val x.num=0 then 0 else if x.neg then -1 else 1
theorem bhI (x:RF):nG x (mkT 0 1)=pC x:=by
 rw[DD]
 unfold nG pC pK
 simp only[aR,show (0:Int).natAbs=0 from rfl,Nat.mul_one,Nat.zero_mul]
 by_cases h:val x.num=0
 ·simp[h,dD]
 ·cases x.neg<;>simp[h,dD]
def viS (r:Int):Spec:=fun name _=>if name=47 then some ([],fun _=>aD (.agg (mkT 0 1).cells)) else some ([],fun _=>aD (.int .i64 r))
theorem bkF {C:Ctx} (L:wF C) (x:RF) (hx:x.Ok) (vx:x.valid):JK.wp C (aT ahP.res (aD (.int .i64 (pC x)))) (PF.args [.agg x.cells]) .nil:=by
 have h0:cW 0:=by unfold cW; omega
 have ho:=L.order x (mkT 0 1) hx (DC 0 h0).1 vx (DC 0 h0).2
 rw[bhI] at ho
 simp only[go_sem,JK,aNC,ahP]
 refine bS .nil (viS (pC x)) PH.nil_le ?_
 simp only[go_sem,δ,γ,aND]
 refine bQ rfl (L.int 0 h0) rfl PH.nil_le ?_
 simp only[go_sem]
 refine bQ rfl ho rfl PH.nil_le ?_
 simp only[go_sem,γ]
 refine aL (.inr rfl) rfl ?_
 rfl
theorem bcA {C:Ctx} (L:wF C) (n1 n2:Bool) (a1 b1 a2 b2:List Nat) (ha1:Lim a1) (hb1:Lim b1) (ha2:Lim a2) (hb2:Lim b2)
  (la1:a1.length≤35184372087808) (lb1:b1.length≤35184372087808) (la2:a2.length≤35184372087808) (lb2:b2.length≤35184372087808) :
  zF.wp C (aT anI.res (bZ (frV (gW (n1,val a1,val b1) (n2,val a2,val b2))))) (PF.args [.agg (eA n1 a1 b1),.agg (eA n2 a2 b2)]) .nil:=by
 have vx:aE C 56 [.agg (eA n1 a1 b1)] .nil (aD (.bool (cN (val a1) (val b1)))):=L.valid ⟨n1,a1,b1⟩ ⟨ha1,hb1,la1,lb1⟩
 have vy:aE C 56 [.agg (eA n2 a2 b2)] .nil (aD (.bool (cN (val a2) (val b2)))):=L.valid ⟨n2,a2,b2⟩ ⟨ha2,hb2,la2,lb2⟩
 simp only[go_sem,δ,γ,zF,aYP,anI]
 refine aQ fun o ho=>?_
 simp only[go_sem,δ,γ,aYQ]
 refine aA vx rfl ?_
 simp only[gW]
 cases hv:cN (val a1) (val b1) with
 | false =>
  simp only[go_sem,δ,γ,reduceCtorEq,bKW,anJ,bKO]
  refine gJ ?_
  simp only[go_sem,δ,γ]
 | true =>
  obtain⟨v1,v2,v3⟩:=fD.1 hv
  simp only[go_sem,δ,γ,bKR]
  refine aA vy rfl ?_
  cases hw:cN (val a2) (val b2) with
  | false =>
   simp only[go_sem,δ,γ,reduceCtorEq,bKW,anJ,bLQ]
   refine gJ ?_
   simp only[go_sem,δ,γ]
  | true =>
   obtain⟨w1,w2,w3⟩:=fD.1 hw
   simp only[go_sem,γ,reduceCtorEq,bKR,bMI]
   refine bS .nil voS PH.nil_le ?_
   simp only[go_sem,δ,γ,θ,aYR]
   refine bQ (tP a1 b2) (L.prod a1 b2 ha1 hb2 la1 lb2 Om Om) rfl PH.nil_le ?_
   simp only[go_sem,δ,γ,θ]
   refine bQ (tP a2 b1) (L.prod a2 b1 ha2 hb1 la2 lb1 Om Om) rfl PH.nil_le ?_
   simp only[go_sem,γ]
   refine bQ (tP b1 b2) (L.prod b1 b2 hb1 hb2 lb1 lb2 Om Om) rfl PH.nil_le ?_
   simp only[go_sem,γ]
   have m1:=kI v3 w2
   have m2:=kI w3 v2
   have m3:=kI v2 w2
   have d0:val b1*val b2≠0:=Nat.mul_ne_zero v1 w1
   generalize hA:val a1*val b2=A at *
   generalize hB:val a2*val b1=B at *
   generalize hD:val b1*val b2=D at *
   have fin:∀ (F:PF) (H:PH) (r:FR),(∃ neg' x y e,frV r=.tup [.agg (eA neg' x y),.int .i64 e]∧F 4=some (.ptr o 3 0 0)∧F 5=some (.int .i64 e)∧H o=some (.rows 3 [eA neg' x y]))→aT [.cell 4 (some 3),.tmp 5] (bZ (frV r)) .ret F H:=by
    rintro F H r ⟨neg',x,y,e,he,f4,f5,hH⟩
    rw[he]
    exact aX (.inr rfl) .nil (vs:=[.agg (eA neg' x y),.int .i64 e]) (by simp only[go_sem,δ,f4,f5,hH]) PH.nil_le ⟨.refl _,rfl⟩
   have eb:(n1==n2)=decide (n1=n2):=by cases n1<;>cases n2<;>rfl
   have low:∀ neg x,nl x≤257→aE C 58 [.bool neg,aF (aG x),aF (aG D)] .nil (aD (.agg (kX neg x D).rf.cells)):=by
    intro neg x hx
    have h1:(aG x).length≤35184372087808:=by rw[aZ]; omega
    have h2:(aG D).length≤35184372087808:=by rw[aZ]; omega
    have:=L.lowest neg (aG x) (aG D) (aU _) (aU _) h1 h2
    rw[aR,aR] at this
    exact this Om Om d0
   have fit:∀ neg x,aE C 57 [.agg (kX neg x D).rf.cells] .nil (aD (frV (gQ neg x D))):=fun neg x=>by
    have:=L.fits (kX neg x D)
    rwa [bmI] at this
   have lA:(aG A).length≤35184372087808:=by rw[aZ]; omega
   have lB:(aG B).length≤35184372087808:=by rw[aZ]; omega
   simp only[go_sem,δ,γ,θ,aYS]
   by_cases c:n1=n2
   ·rw[if_pos c]
    have c':(n1==n2)=true:=by rw[eb,decide_eq_true c]
    simp only[go_sem,γ,c',aYT]
    have hadd:=L.add (aG A) (aG B) (aU _) (aU _) lA lB
    have nab:=aGL m1 m2
    rw[aR,aR,gI Om Om,opV,xI Om] at hadd
    refine aA hadd rfl ?_
    simp only[go_sem,δ,γ,θ,reduceCtorEq,aYU]
    refine aA (low n1 _ Om) rfl ?_
    simp only[go_sem]
    refine aA (fit n1 _) rfl ?_
    obtain⟨neg',x,y,e,hl⟩:=rR (gQ n1 (A+B) D)
    rw[hl]
    simp only[go_sem,δ,γ]
    rw[← hl]
    exact fin _ _ _ ⟨neg',x,y,e,hl,by simp only[go_sem,γ],by simp only[go_sem,γ],by simp only[go_sem]⟩
   ·rw[if_neg c]
    have c':(n1==n2)=false:=by rw[eb,decide_eq_false c]
    simp only[go_sem,γ,c',aYV]
    have hc:=L.cmp (aG A) (aG B) (aU _) (aU _) lA lB
    rw[aR,aR] at hc
    refine aA hc rfl ?_
    have hsub:∀ X Y:Nat,nl X≤256→nl Y≤256→Y≤X→aE C 37 [aF (aG X),aF (aG Y)] .nil (aD (.tup [aF (aG (X-Y)),.int .i64 0])):=by
     intro X Y h1 h2 h
     have:=L.sub (aG X) (aG Y) (aU _) (aU _) (by rw[aZ]; omega) (by rw[aZ]; omega)
     have h3:=fH (Om:X-Y≤X)
     rw[aR,aR,pO,gI Om Om,if_neg (by decide),if_neg Om,xI Om] at this
     exact this
    by_cases g:B≤A
    ·have g':dD A B≥0:=(SB A B).2 g
     rw[if_pos g]
     simp only[go_sem,γ,g',aYW]
     refine aA (hsub A B Om Om g) rfl ?_
     simp only[go_sem,δ,γ,θ,aYX]
     have h3:=fH (Om:A-B≤A)
     refine aA (low n1 (A-B) Om) rfl ?_
     simp only[go_sem]
     refine aA (fit n1 _) rfl ?_
     obtain⟨neg',x,y,e,hl⟩:=rR (gQ n1 (A-B) D)
     rw[hl]
     simp only[go_sem,δ,γ]
     rw[← hl]
     exact fin _ _ _ ⟨neg',x,y,e,hl,by simp only[go_sem,γ],by simp only[go_sem,γ],by simp only[go_sem]⟩
    ·have g':¬ dD A B≥0:=fun h=>g ((SB A B).1 h)
     rw[if_neg g]
     simp only[go_sem,γ,g',aMG]
     refine aA (hsub B A Om Om Om) rfl ?_
     simp only[go_sem,δ,γ,θ,aMH]
     have h3:=fH (Om:B-A≤B)
     refine aA (low n2 (B-A) Om) rfl ?_
     simp only[go_sem]
     refine aA (fit n2 _) rfl ?_
     obtain⟨neg',x,y,e,hl⟩:=rR (gQ n2 (B-A) D)
     rw[hl]
     simp only[go_sem,δ,γ]
     rw[← hl]
     exact fin _ _ _ ⟨neg',x,y,e,hl,by simp only[go_sem,γ],by simp only[go_sem,γ],by simp only[go_sem]⟩
theorem bqG {C:Ctx} (L:wF C) (x y:RF) (hx:x.Ok) (hy:y.Ok):zF.wp C (aT anI.res (bZ (frV (gW x.v y.v)))) (PF.args [.agg x.cells,.agg y.cells]) .nil :=
 bcA L x.neg y.neg x.num x.den y.num y.den hx.1 hx.2.1 hy.1 hy.2.1 hx.2.2.1 hx.2.2.2 hy.2.2.1 hy.2.2.2
structure a0J (C:Ctx):Prop extends wF C where
 less:∀ x y:RF,x.Ok→y.Ok→x.valid→y.valid→aE C 49 [.agg x.cells,.agg y.cells] .nil (aD (.bool (decide (nG x y<0))))
 same:∀ x y:RF,x.Ok→y.Ok→x.valid→y.valid→aE C 53 [.agg x.cells,.agg y.cells] .nil (aD (.bool (nG x y==0)))
 sign:∀ x:RF,x.Ok→x.valid→aE C 54 [.agg x.cells] .nil (aD (.int .i64 (pC x)))
 plus:∀ x y:RF,x.Ok→y.Ok→aE C 46 [.agg x.cells,.agg y.cells] .nil (aD (frV (gW x.v y.v)))
def vsF (l:List RF) (o2 o4 k:Nat):PF:=((((PF.nil.set 0 (frs l)).set 2 (.ptr o2 3 0 0)).set 4 (.ptr o4 3 0 0)).set 5 (.int .i64 k))
theorem bqL {C:Ctx} (L:a0J C) (l:List RF) (hl:∀ x∈l,x.Ok) (hlen:l.length≤9223372036854775807) :
  QV.wp C (aT aNI.res (bZ (frV (nK (l.map RF.v))))) (PF.args [frs l]) .nil:=by
 have h0:cW 0:=by unfold cW; omega
 have hi:(mkT 0 1).cells=(FV.rf (false,0,1)).cells:=by rw[DD]; rfl
 have hint:=L.int 0 h0
 rw[hi] at hint
 simp only[go_sem,δ,QV,aZC,aNI]
 refine aQ fun o2 ho2=>?_
 have h1:aS (PH.nil.set o2 (.rows 3 [[.bool false,.aB,.aB]])) [(o2,.rows 3 [[.bool false,.aB,.aB]])] []:=aS.nil.new (H:=PH.nil) rfl _
 generalize (PH.nil.set o2 _)=H1 at *
 simp only[go_sem,aZD]
 refine aA hint rfl ?_
 simp only[go_sem,δ]
 refine aQ fun o4 ho4=>?_
 have h2:=h1.new ho4 (.rows 3 [(FV.rf (false,0,1)).cells])
 simp only[go_sem,δ,γ,aZE]
 refine wp_loop (α:=Nat × FV × PH) (fun t=>vsF l o2 o4 t.1) (fun t=>t.2.2) (fun t=>t.1≤l.length∧((l.map RF.v).take t.1).foldlM gW (false,0,1)=.ok t.2.1∧aS t.2.2 [(o2,.rows 3 [[.bool false,.aB,.aB]]),(o4,.rows 3 [(FV.rf t.2.1).cells])] []∧(FV.rf t.2.1).Ok) (fun t=>l.length-t.1)
  (0,(false,0,1),_) ⟨bKT _,rfl,h2,⟨aU _,aU _,?_,?_⟩⟩ ?_ PH.le_refl ?_
 ·show (aG 0).length≤_
  rw[fC]; simp
 ·show (aG 1).length≤_
  rw[tH]; simp
 ·unfold vsF
  exact Lq
 rintro⟨k,acc,H0⟩ ⟨hk,hf,hH,hacc⟩
 simp only at hk hf hH hacc ⊢
 simp only[go_sem,γ,reduceCtorEq,aZB,aZF,vsF,bKI]
 by_cases hlt:k<l.length
 ·have bIL:(k:Int)<(l.length:Nat):=by omega
  have hr:(l.map RF.cells)[k]?=some (l[k]).cells:=by simp[hlt]
  have hadd:=L.plus (FV.rf acc) l[k] hacc (hl _ (bKM hlt))
  rw[FV.bsZ] at hadd
  have bIM:=TU (f:=gW) (l.map RF.v) (false,0,1) (k:=k) (by simpa using hlt)
  rw[hf] at bIM
  simp only[Except.bind,bMS] at bIM
  have e4:=hH.at 1 rfl
  simp only[go_sem,bIL]
  refine bS .nil (fun _ _=>some ([],fun _=>aD (frV (gW acc (l[k]).v)))) PH.nil_le ?_
  simp only[go_sem,δ,γ,reduceCtorEq,aZG,e4,hr]
  refine bQ rfl hadd rfl PH.nil_le ?_
  cases he:gW acc (l[k]).v with
  | error e =>
   have he0:e≠0:=by
    revert he
    obtain⟨n1,a1,b1⟩:=acc
    obtain⟨n2,a2,b2⟩:=(l[k]).v
    simp only[gW,gQ]
    repeat' split
    all_goals (intro h; first | (injection h with h; subst h; decide) | cases h)
   rw[he] at bIM
   simp only[go_sem,δ,γ,reduceCtorEq,frV]
   refine aQ fun o6 ho6=>?_
   simp only[go_sem,δ,γ,reduceCtorEq]
   refine⟨PH.nil_le,?_⟩
   have h6:=hH.new ho6 (.rows 3 [[.bool false,aF [],aF []]])
   have e2:=h6.at 0 rfl
   simp only[go_sem,δ,γ,reduceCtorEq,anL,cQ he0,aZH,e2]
   rw[nK,acG _ _ bIM]
   refine gJ ?_
   simp only[go_sem,δ,γ,reduceCtorEq]
  | ok r =>
   rw[he] at bIM
   obtain⟨rn,ra,rb⟩:=r
   simp only[go_sem,δ,γ,reduceCtorEq,frV]
   refine aQ fun o6 ho6=>?_
   simp only[go_sem,δ,γ,reduceCtorEq]
   refine⟨PH.nil_le,?_⟩
   have h6:=hH.new ho6 (.rows 3 [(FV.rf (rn,ra,rb)).cells])
   have e6:=h6.at 2 rfl
   have e4':=h6.at 1 rfl
   generalize hG:H0.set o6 (.rows 3 [(FV.rf (rn,ra,rb)).cells])=H6 at *
   have hG':H0.set o6 (.rows 3 [[.bool rn,aF (aG ra),aF (aG rb)]])=H6:=hG
   simp only[go_sem,σ,δ,γ,reduceCtorEq,anL,aZI,hG',e6,e4',aZJ,wZz k]
   have h7:=(h6.set 1 rfl (.rows 3 [(FV.rf (rn,ra,rb)).cells])).bvW 2
   refine aI (k+1,(rn,ra,rb),_) ⟨hlt,bIM,h7,akW he⟩ (by simp only; omega) ?_ PH.le_refl
   exact Lq
 ·have bIL:¬ (k:Int)<(l.length:Nat):=by omega
  have:k=l.length:=by omega
  subst this
  rw[bKZ (by simp)] at hf
  rw[nK,hf]
  have e2:=hH.at 0 rfl
  have e4:=hH.at 1 rfl
  obtain⟨n,a,b⟩:=acc
  simp only[go_sem,δ,γ,reduceCtorEq,bIL,aNJ,e4,e2]
  exact aX (.inr rfl) .nil (vs:=[.agg (FV.rf (n,a,b)).cells,.int .i64 0]) Sq PH.nil_le ⟨.refl _,rfl⟩
theorem dge {n:Nat} (k:Nat):decide ((n:Int)≥(k:Int))=decide (k≤n):=decide_eq_decide.2 Om
theorem dle {n:Nat} (k:Nat):decide ((n:Int)≤(k:Int))=decide (n≤k):=decide_eq_decide.2 Om
theorem a6G {C:Ctx} (n:Nat):xR.wp C (aT DY.res (aD (.bool (eW n)))) (PF.args [.int .u8 n]) .nil:=by
 have h1:=dge (n:=n) 97
 have h2:=dle (n:=n) 122
 have h3:=dge (n:=n) 65
 have h4:=dle (n:=n) 90
 simp only[Int.cast_ofNat_Int] at h1 h2 h3 h4
 unfold eW
 generalize decide (97≤n)=a at *
 generalize decide (n≤122)=b at *
 generalize decide (65≤n)=c at *
 generalize decide (n≤90)=d at *
 cases a<;>cases b<;>cases c<;>cases d
 all_goals
  simp only[go_sem,γ,reduceCtorEq,xR,aiO,aiP,DY,h1,h2,h3,h4]
  refine aL (.inr rfl) rfl ?_
  rfl
theorem bdL {C:Ctx} (n:Nat):BZ.wp C (aT RB.res (aD (.bool (kR n)))) (PF.args [.int .u8 n]) .nil:=by
 have h1:=dge (n:=n) 48
 have h2:=dle (n:=n) 57
 simp only[Int.cast_ofNat_Int] at h1 h2
 unfold kR
 generalize decide (48≤n)=a at *
 generalize decide (n≤57)=b at *
 cases a<;>cases b
 all_goals
  simp only[go_sem,γ,reduceCtorEq,BZ,avO,avP,RB,h1,h2]
  refine aL (.inr rfl) rfl ?_
  rfl
theorem a6C {C:Ctx} (h1:∀ n:Nat,aE C 65 [.int .u8 n] .nil (aD (.bool (eW n)))) (h2:∀ n:Nat,aE C 63 [.int .u8 n] .nil (aD (.bool (kR n)))) (n:Nat) :
  xP.wp C (aT DW.res (aD (.bool (fJ n)))) (PF.args [.int .u8 n]) .nil:=by
 have g1:((n:Int)==45)=decide (n=45):=by by_cases h:n=45<;>simp[h]; omega
 have g2:((n:Int)==46)=decide (n=46):=by by_cases h:n=46<;>simp[h]; omega
 have k1:=h1 n
 have k2:=h2 n
 unfold fJ
 generalize decide (n=45)=a at *
 generalize decide (n=46)=b at *
 simp only[go_sem,reduceCtorEq,xP,aiD,aiE,DW]
 refine aA k1 rfl ?_
 cases eW n with
 | true =>
  simp only[go_sem,γ]
  refine aL (.inr rfl) rfl ?_
  rfl
 | false =>
  simp only[go_sem,γ,reduceCtorEq]
  refine aA k2 rfl ?_
  cases kR n<;>cases a<;>cases b
  all_goals
   simp only[go_sem,γ,reduceCtorEq,g1,g2]
   refine aL (.inr rfl) rfl ?_
   rfl
theorem a6E {C:Ctx} (h1:∀ n:Nat,aE C 65 [.int .u8 n] .nil (aD (.bool (eW n)))) (h2:∀ n:Nat,aE C 64 [.int .u8 n] .nil (aD (.bool (fJ n)))) (s:List UInt8) :
  xQ.wp C (aT DX.res (aD (.bool (isName s)))) (PF.args [.str s]) .nil:=by
 simp only[go_sem,γ,reduceCtorEq,xQ,aiG,aiH,DX]
 cases s with
 | nil =>
  have h0:decide (((0:Nat):Int)<1)=true:=rfl
  simp only[go_sem,γ,vG,bMW,h0]
  refine aL (.inr rfl) rfl ?_
  rfl
 | cons c t =>
  have hz:(c::t)[0]?=some c:=rfl
  have hN:isName (c::t)=(decide ((c::t).length≤16)&&eW c.toNat&&(c::t).all fun c=>fJ c.toNat):=rfl
  have hpos:¬ (((c::t).length:Nat):Int)<1:=by simp only[bLX]; omega
  generalize c::t=s at *
  by_cases hl:s.length≤16
  ·have hl':¬ ((s.length:Nat):Int)>16:=by omega
   rw[decide_eq_true hl,bKS] at hN
   have k1:=h1 c.toNat
   simp only[go_sem,ν,γ,reduceCtorEq,hpos,hl',hz,bLT]
   refine aA k1 rfl ?_
   cases hc:eW c.toNat with
   | false =>
    simp only[go_sem,γ,reduceCtorEq,bKW,vG]
    refine aL (.inr rfl) rfl ?_
    rw[aV,hN,hc,bKO]
   | true =>
    rw[hc,bKS] at hN
    simp only[go_sem,γ,reduceCtorEq,bKR,aiI]
    refine wp_loop (α:=Nat) (fun k=>((PF.nil.set 0 (.str s)).set 3 (.int .i64 k))) (fun _=>.nil) (fun k=>k≤s.length∧(s.take k).all (fun c=>fJ c.toNat)=true) (fun k=>s.length-k) 0 ⟨bKT _,rfl⟩ Lq PH.nil_le ?_
    rintro k ⟨hk,ha⟩
    simp only[go_sem,γ,reduceCtorEq,aiF,aiJ]
    by_cases hlt:k<s.length
    ·have bIL:(k:Int)<(s.length:Nat):=by omega
     have hat:s[k]?=some s[k]:=bKU hlt
     have k2:=h2 (s[k]).toNat
     simp only[go_sem,γ,reduceCtorEq,bIL,aiK,hat,bLT]
     refine aA k2 rfl ?_
     cases hi:fJ (s[k]).toNat with
     | false =>
      simp only[go_sem,γ,reduceCtorEq,bKW,aiL]
      refine aL (.inr rfl) rfl ?_
      rw[aV,hN,nB hlt hi]
     | true =>
      simp only[go_sem,γ,reduceCtorEq,bKR,aiM,wZz k]
      exact aI (k+1) ⟨hlt,by simpa using nA hlt ha hi⟩ Om Lq PH.le_refl
    ·have bIL:¬ (k:Int)<(s.length:Nat):=by omega
     have:k=s.length:=by omega
     subst this
     rw[bLG] at ha
     simp only[go_sem,bIL,aiN]
     refine aL (.inr rfl) rfl ?_
     rw[aV,hN,ha]
  ·have hl':((s.length:Nat):Int)>16:=by omega
   rw[decide_eq_false hl,bKO,bKO] at hN
   simp only[go_sem,γ,reduceCtorEq,hpos,hl',vG]
   refine aL (.inr rfl) rfl ?_
   rw[aV,hN]
def EI (k m:Int):Bool:=within k 1 6&&(within m 0 4&&decide (k+m≤8))
theorem biJ {C:Ctx} (k m:Int):mD.wp C (aT uW.res (aD (.bool (EI k m)))) (PF.args [.int .i64 k,.int .i64 m]) .nil:=by
 unfold EI within
 by_cases h1:1≤k
 ·by_cases h2:k≤6
  ·by_cases h3:0≤m
   ·by_cases h4:m≤4
    ·have hw:IntKind.i64.wrap (k+m)=k+m:=wrap_i64 Om Om
     simp only[go_sem,γ,reduceCtorEq,mD,sF,sG,uW,ge_iff_le,h1,h2,h3,h4,hw]
     refine aL (.inr rfl) rfl ?_
     simp[aV,h1,h2,h3,h4]
    ·simp only[go_sem,γ,reduceCtorEq,mD,sF,sG,uW,ge_iff_le,h1,h2,h3,h4]
     refine aL (.inr rfl) rfl ?_
     simp[aV,h1,h2,h3,h4]
   ·simp only[go_sem,γ,reduceCtorEq,mD,sF,sG,uW,ge_iff_le,h1,h2,h3]
    refine aL (.inr rfl) rfl ?_
    simp[aV,h1,h2,h3]
  ·simp only[go_sem,γ,reduceCtorEq,mD,sF,sG,uW,ge_iff_le,h1,h2]
   refine aL (.inr rfl) rfl ?_
   simp[aV,h1,h2]
 ·simp only[go_sem,γ,reduceCtorEq,mD,sF,sG,uW,ge_iff_le,h1]
  refine aL (.inr rfl) rfl ?_
  simp[aV,h1]
theorem a6L {C:Ctx} (n lo hi:Int):rO.wp C (aT wE.res (aD (.bool (within n lo hi)))) (PF.args [.int .i64 n,.int .i64 lo,.int .i64 hi]) .nil:=by
 unfold within
 by_cases h:lo≤n
 ·simp only[go_sem,γ,reduceCtorEq,rO,KO,KP,wE,ge_iff_le,h]
  refine aL (.inr rfl) rfl ?_
  simp[aV,h]
 ·simp only[go_sem,γ,reduceCtorEq,rO,KO,KP,wE,ge_iff_le,h]
  refine aL (.inr rfl) rfl ?_
  simp[aV,h]
def nI (a b c d e f:Nat):Bool:=decide (a≤4)&&(decide (b≤4)&&(decide (c≤40)&&(decide (d≤24)&&(decide (e≤4)&&decide (f≤12)))))
theorem bdX {C:Ctx} (a b c d e f:Nat):CH.wp C (aT RP.res (aD (.bool (nI a b c d e f)))) (PF.args [.int .i64 a,.int .i64 b,.int .i64 c,.int .i64 d,.int .i64 e,.int .i64 f]) .nil:=by
 have g:∀ x k:Nat,decide ((x:Int)≤(k:Int))=decide (x≤k):=fun x k=>decide_eq_decide.2 Om
 have h1:=g a 4
 have h2:=g b 4
 have h3:=g c 40
 have h4:=g d 24
 have h5:=g e 4
 have h6:=g f 12
 simp only[Int.cast_ofNat_Int] at h1 h2 h3 h4 h5 h6
 unfold nI
 simp only[go_sem,γ,reduceCtorEq,CH,awV,awW,RP,h1]
 cases decide (a≤4) with
 | false =>
  simp only[go_sem,γ,reduceCtorEq]
  refine aL (.inr rfl) rfl ?_
  rfl
 | true =>
  simp only[go_sem,γ,h2]
  cases decide (b≤4) with
  | false =>
   simp only[go_sem,γ,reduceCtorEq]
   refine aL (.inr rfl) rfl ?_
   rfl
  | true =>
   simp only[go_sem,γ,h3]
   cases decide (c≤40) with
   | false =>
    simp only[go_sem,γ,reduceCtorEq]
    refine aL (.inr rfl) rfl ?_
    rfl
   | true =>
    simp only[go_sem,γ,h4]
    cases decide (d≤24) with
    | false =>
     simp only[go_sem,γ,reduceCtorEq]
     refine aL (.inr rfl) rfl ?_
     rfl
    | true =>
     simp only[go_sem,γ,h5]
     cases decide (e≤4) with
     | false =>
      simp only[go_sem,γ,reduceCtorEq]
      refine aL (.inr rfl) rfl ?_
      rfl
     | true =>
      simp only[go_sem,γ,h6]
      refine aL (.inr rfl) rfl ?_
      rfl
structure ZS (C:Ctx):Prop extends a0J C where
 sum:∀ l:List RF,(∀ x∈l,x.Ok)→l.length≤9223372036854775807→aE C 55 [frs l] .nil (aD (frV (nK (l.map RF.v))))
 inn:∀ n lo hi:Int,aE C 76 [.int .i64 n,.int .i64 lo,.int .i64 hi] .nil (aD (.bool (within n lo hi)))
 code:∀ k m:Int,aE C 61 [.int .i64 k,.int .i64 m] .nil (aD (.bool (EI k m)))
def HM (k m q s0 s1 s2 s3 s4:Int):Bool:=EI k m&&(within q k (k+m)&&(decide (s0=0)&&(within s1 0 8&&(within s2 0 8&&(within s3 0 8&&within s4 0 8)))))
theorem boP (p:dA):HL p=HM p.k p.m p.bJI p.s0 p.s1 p.s2 p.s3 p.s4:=by
 unfold HL HM EI
 have:within p.s0 0 8=true∨p.s0≠0:=by
  by_cases h:p.s0=0
  ·rw[h]; exact .inl rfl
  ·exact .inr h
 simp only[List.all_cons,List.all_nil,bMI]
 rcases this with h | h
 ·rw[h]
  simp only[bKS,bNJ]
 ·simp only[h,decide_false,bKO,bLQ]
def spR (s1 s2 s3 s4:Int) (k:Nat):Int:=match k with
 | 1=>s1
 | 2=>s2
 | 3=>s3
 | _=>s4
theorem aPW {C:Ctx} (L:ZS C) (k m q s0 s1 s2 s3 s4:Int) :
  uE.wp C (aT xW.res (aD (.bool (HM k m q s0 s1 s2 s3 s4)))) (PF.args [.int .i64 k,.int .i64 m,.int .i64 q,.agg [.int .i64 s0,.int .i64 s1,.int .i64 s2,.int .i64 s3,.int .i64 s4]]) .nil:=by
 obtain⟨X,hX⟩:∃ X,HM k m q s0 s1 s2 s3 s4=X:=⟨_,rfl⟩
 rw[hX]
 unfold HM at hX
 simp only[go_sem,γ,reduceCtorEq,uE,VV,VW,xW]
 refine aA (L.code k m) rfl ?_
 cases h1:EI k m with
 | false =>
  rw[h1,bKO] at hX
  simp only[go_sem,γ,bKW,sW]
  refine aL (.inr rfl) rfl ?_
  rw[aV,hX]
 | true =>
  rw[h1,bKS] at hX
  have hb:1≤k∧k≤6∧0≤m∧m≤4:=by
   simp only[EI,bLF,within_iff] at h1
   omega
  have hw:IntKind.i64.wrap (k+m)=k+m:=wrap_i64 Om Om
  simp only[go_sem,γ,reduceCtorEq,bKR,hw]
  refine aA (L.inn q k (k+m)) rfl ?_
  cases h2:within q k (k+m) with
  | false =>
   rw[h2,bKO] at hX
   simp only[go_sem,γ,reduceCtorEq,bKW,sW]
   refine aL (.inr rfl) rfl ?_
   rw[aV,hX]
  | true =>
   rw[h2,bKS] at hX
   have l50:(0:Int)<((5:Nat):Int):=by decide
   by_cases h3:s0=0
   ·rw[decide_eq_true h3,bKS] at hX
    simp only[go_sem,ν,δ,γ,θ,ζ,reduceCtorEq,bKR,l50,cA h3,VX]
    refine wp_loop (α:=Nat) (fun j=>((PF.nil.set 7 (.bH [.int .i64 s0,.int .i64 s1,.int .i64 s2,.int .i64 s3,.int .i64 s4])).set 9 (.int .i64 j))) (fun _=>.nil) (fun j=>1≤j∧j≤5∧∀ i,1≤i→i<j→within (spR s1 s2 s3 s4 i) 0 8=true) (fun j=>5-j) 1 ⟨by decide,by decide,fun i h1 h2=>by omega⟩ Lq PH.nil_le ?_
    rintro j ⟨hj1,hj5,bJV⟩
    simp only[go_sem,γ,VU,VY]
    by_cases hlt:j<5
    ·have bIL:(j:Int)<5:=by omega
     have hlt5:((j:Nat):Int)<((5:Nat):Int):=by omega
     have hin:=L.inn (spR s1 s2 s3 s4 j) 0 8
     obtain⟨c,hc2⟩:∃ c,within (spR s1 s2 s3 s4 j) 0 8=c:=⟨_,rfl⟩
     rw[hc2] at hin
     have bIM:c=true→∀ i,1≤i→i<j+1→within (spR s1 s2 s3 s4 i) 0 8=true:=fun hc i a b=>by
      by_cases e:i=j
      ·rw[e,hc2,hc]
      ·exact bJV i a Om
     have bad:c=false→X=false:=by
      intro h
      rw[h] at hc2
      have hc:j=1∨j=2∨j=3∨j=4:=by omega
      rw[← hX]
      rcases hc with rfl | rfl | rfl | rfl<;>(simp only[spR] at hc2; rw[hc2]; simp)
     have hc:j=1∨j=2∨j=3∨j=4:=by omega
     cases c with
     | false =>
      have hXf:=bad rfl
      rcases hc with rfl | rfl | rfl | rfl
      all_goals
       simp only[spR] at hin
       simp only[go_sem,δ,γ,θ,ζ,ε,bIL,CG,hlt5]
       refine aA hin rfl ?_
       simp only[go_sem,γ,bKW,VZ]
       refine aL (.inr rfl) rfl ?_
       rw[aV,hXf]
     | true =>
      have hs:=bIM rfl
      rcases hc with rfl | rfl | rfl | rfl
      all_goals
       simp only[spR] at hin
       simp only[go_sem,δ,γ,θ,ζ,ε,bIL,CG,hlt5]
       refine aA hin rfl ?_
       simp only[go_sem,γ,bKR,WA]
       refine aI (_+1) ⟨by omega,hlt,hs⟩ Om Lq PH.le_refl
    ·have bIL:¬ (j:Int)<5:=by omega
     have:j=5:=by omega
     subst this
     simp only[go_sem,ε,bIL,WB]
     refine aL (.inr rfl) rfl ?_
     have a1:=bJV 1 (by decide) (by decide)
     have a2:=bJV 2 (by decide) (by decide)
     have a3:=bJV 3 (by decide) (by decide)
     have a4:=bJV 4 (by decide) (by decide)
     simp only[spR] at a1 a2 a3 a4
     rw[aV,← hX,a1,a2,a3,a4]
     rfl
   ·rw[decide_eq_false h3,bKO] at hX
    simp only[go_sem,ν,δ,γ,θ,ζ,reduceCtorEq,bKR,l50,cQ h3,sW]
    refine aL (.inr rfl) rfl ?_
    rw[aV,hX]
theorem nZ {x:RF} (h:cI x=true):x.valid:=by
 unfold cI mP at h
 unfold RF.valid
 cases hv:cN (val x.num) (val x.den) with
 | true=>rfl
 | false =>
  rw[hv] at h
  simp at h
theorem bdZ {C:Ctx} (L:ZS C) (x:RF) (hx:x.Ok):CI.wp C (aT RQ.res (aD (.bool (cI x)))) (PF.args [.agg x.cells]) .nil:=by
 have hr:=L.red x hx
 unfold cI
 simp only[go_sem,δ,γ,CI,awX,awY,RQ]
 refine aA hr rfl ?_
 cases he:mP x with
 | error e =>
  have h0:=aIZ he
  simp only[go_sem,δ,γ,frV]
  refine aQ fun o ho=>?_
  simp only[go_sem,δ,γ,reduceCtorEq,zJ,bF h0]
  refine aL (.inr rfl) rfl ?_
  rfl
 | ok r =>
  obtain⟨n,a,b⟩:=r
  have ea:=kM a 1
  have eb:=kM b 1
  have da:decide (((nl a:Nat):Int)≤1)=decide (cE a≤32):=decide_eq_decide.2 Om
  have db:decide (((nl b:Nat):Int)≤1)=decide (cE b≤32):=decide_eq_decide.2 Om
  simp only[go_sem,δ,γ,frV]
  refine aQ fun o ho=>?_
  cases n with
  | true =>
   simp only[go_sem,ρ,δ,γ,θ,reduceCtorEq,zJ,bKR]
   refine aL (.inr rfl) rfl ?_
   rfl
  | false =>
   simp only[go_sem,ρ,δ,γ,θ,zJ,bKW,bKI,aZ,da]
   cases decide (cE a≤32) with
   | false =>
    simp only[go_sem,γ,reduceCtorEq]
    refine aL (.inr rfl) rfl ?_
    rfl
   | true =>
    simp only[go_sem,δ,γ,bKI,aZ,db]
    refine aL (.inr rfl) rfl ?_
    rfl
structure akR (C:Ctx):Prop extends ZS C where
 small:∀ x:RF,x.Ok→aE C 74 [.agg x.cells] .nil (aD (.bool (cI x)))
 nums:∀ k m q s0 s1 s2 s3 s4:Int,aE C 72 [.int .i64 k,.int .i64 m,.int .i64 q,.agg [.int .i64 s0,.int .i64 s1,.int .i64 s2,.int .i64 s3,.int .i64 s4]] .nil (aD (.bool (HM k m q s0 s1 s2 s3 s4)))
 sizes:∀ a b c d e f:Nat,aE C 73 [.int .i64 a,.int .i64 b,.int .i64 c,.int .i64 d,.int .i64 e,.int .i64 f] .nil (aD (.bool (nI a b c d e f)))
theorem acH {l:List RF} {k:Nat} (h:k<l.length):(l.map RF.cells)[k]?=some (l[k]).cells:=by simp[h]
theorem a6J {C:Ctx} (L:akR C) (l:List RF) (hl:jK l) (n:Int):xX.wp C (aT DZ.res (aD (.bool (decide ((l.length:Int)=n)&&l.all cI)))) (PF.args [frs l,.int .i64 n]) .nil:=by
 have hf:=hl.fits
 unfold Fits at hf
 simp only[go_sem,γ,reduceCtorEq,xX,ajM,ajN,DZ,bKI]
 by_cases h:((l.length:Nat):Int)=n
 ·rw[decide_eq_true h,bKS]
  subst h
  simp only[go_sem,cA (show ((l.length:Nat):Int)=(l.length:Nat) from rfl),ajP]
  refine wp_loop (α:=Nat) (fun k=>(((PF.nil.set 0 (frs l)).set 1 (.int .i64 (l.length:Nat))).set 5 (.int .i64 k))) (fun _=>.nil) (fun k=>k≤l.length∧(l.take k).all cI=true) (fun k=>l.length-k) 0 ⟨bKT _,rfl⟩ Lq PH.nil_le ?_
  rintro k ⟨hk,ha⟩
  simp only[go_sem,γ,reduceCtorEq,ajL,ajQ]
  by_cases hlt:k<l.length
  ·have bIL:(k:Int)<(l.length:Nat):=by omega
   have hs:=L.small l[k] (hl.all _ (bKM hlt))
   simp only[go_sem,δ,γ,reduceCtorEq,bIL,ajR,acH hlt]
   refine aA hs rfl ?_
   cases hi:cI l[k] with
   | false =>
    simp only[go_sem,γ,reduceCtorEq,bKW,ajS]
    refine aL (.inr rfl) rfl ?_
    rw[aV,nB hlt hi]
   | true =>
    have ha2:=bLA.1 (nA hlt ha hi)
    simp only[go_sem,γ,reduceCtorEq,bKR,ajT,wZz k]
    exact aI (k+1) ⟨hlt,ha2⟩ Om Lq PH.le_refl
  ·have bIL:¬ (k:Int)<(l.length:Nat):=by omega
   have:k=l.length:=by omega
   subst this
   rw[bLG] at ha
   simp only[go_sem,bIL,ajU]
   refine aL (.inr rfl) rfl ?_
   rw[aV,ha]
 ·rw[decide_eq_false h,bKO]
  simp only[go_sem,cQ h,ajO]
  refine aL (.inr rfl) rfl ?_
  rfl
structure akS (C:Ctx):Prop extends akR C where
 smalls:∀ l:List RF,jK l→∀ n:Int,aE C 75 [frs l,.int .i64 n] .nil (aD (.bool (decide ((l.length:Int)=n)&&l.all cI)))
theorem ID (x:RF):(pC x==0)=!cB x:=by
 unfold pC cB
 by_cases h:val x.num=0
 ·simp[h]
 ·cases x.neg<;>simp[h]
def YO (l:List RF) (m:Int):Bool:=decide ((l.length:Int)=max m 1)&&l.all cI&&l.all cB
theorem bqT {C:Ctx} (L:akS C) (l:List RF) (hl:jK l) (m:Int):RN.wp C (aT aOC.res (aD (.bool (YO l m)))) (PF.args [frs l,.int .i64 m]) .nil:=by
 have hf:=hl.fits
 unfold Fits at hf
 have hs:=L.smalls l hl (max m 1)
 unfold YO
 simp only[go_sem,γ,reduceCtorEq,RN,aZW,aZX,aOC,max_eq]
 refine aA hs rfl ?_
 cases h:(decide ((l.length:Int)=max m 1)&&l.all cI) with
 | false =>
  simp only[go_sem,γ,bKW,aZY]
  refine aL (.inr rfl) rfl ?_
  rfl
 | true =>
  rw[bLF] at h
  have bJV:=bLA.1 h.2
  simp only[go_sem,γ,bKR,aZZ]
  refine wp_loop (α:=Nat) (fun k=>((PF.nil.set 0 (frs l)).set 5 (.int .i64 k))) (fun _=>.nil) (fun k=>k≤l.length∧(l.take k).all cB=true) (fun k=>l.length-k) 0 ⟨bKT _,rfl⟩ Lq PH.nil_le ?_
  rintro k ⟨hk,ha⟩
  simp only[go_sem,γ,reduceCtorEq,aZV,a0A,bKI]
  by_cases hlt:k<l.length
  ·have bIL:(k:Int)<(l.length:Nat):=by omega
   have hm:=bKM hlt
   have hg:=L.sign l[k] (hl.all _ hm) (nZ (bJV _ hm))
   have hz:=ID l[k]
   simp only[go_sem,δ,γ,reduceCtorEq,bIL,a0B,acH hlt]
   refine aA hg rfl ?_
   cases hi:cB l[k] with
   | false =>
    rw[hi] at hz
    simp only[go_sem,γ,reduceCtorEq,hz,bKW,a0C]
    refine aL (.inr rfl) rfl ?_
    rw[aV,nB hlt hi]
   | true =>
    rw[hi] at hz
    have ha2:=bLA.1 (nA hlt ha hi)
    simp only[go_sem,γ,reduceCtorEq,hz,bKR,a0D,wZz k]
    exact aI (k+1) ⟨hlt,ha2⟩ Om Lq PH.le_refl
  ·have bIL:¬ (k:Int)<(l.length:Nat):=by omega
   have:k=l.length:=by omega
   subst this
   rw[bLG] at ha
   simp only[go_sem,bIL,a0E]
   refine aL (.inr rfl) rfl ?_
   rw[aV,ha]
structure akT (C:Ctx):Prop extends akS C where
 reps:∀ l:List RF,jK l→∀ m:Int,aE C 66 [frs l,.int .i64 m] .nil (aD (.bool (YO l m)))
def frD:List PV→RF
 | [.bool n,a,b]=>⟨n,gY a,gY b⟩
 | _=>⟨false,[],[]⟩
theorem apA (x:RF):frD x.cells=x:=by
 show (⟨x.neg,gY (aF x.num),gY (aF x.den)⟩:RF)=x
 rw[dY,dY]
def zdS (r s:Bool):Spec:=fun name vs=>match name,vs with
 | 66,_=>some ([],fun _=>aD (.bool r))
 | 74,[.agg cs]=>some ([],fun _=>aD (.bool (cI (frD cs))))
 | 47,_=>some ([],fun _=>aD (.agg (mkT 1 1).cells))
 | 49,_=>some ([],fun _=>aD (.bool s))
 | _,_=>none
theorem awL (r s:Bool) (x:RF):zdS r s 74 [.agg x.cells]=some ([],fun _=>aD (.bool (cI x))):=by
 show some ([],fun _=>aD (.bool (cI (frD x.cells))))=_
 rw[apA]
theorem a9V (x y:RF):nG y x=- nG x y:=by
 unfold nG pK
 have e:=anQ (val x.num*val y.den) (val y.num*val x.den)
 cases x.neg&&decide (val x.num≠0)<;>cases y.neg&&decide (val y.num≠0)<;>simp only[e,Int.neg_neg]<;>rfl
theorem bhG {x:RF} (hx:x.valid):decide (nG (mkT 1 1) x<0)=!sB x:=by
 rw[a9V x]
 unfold sB
 rw[show cN (val x.num) (val x.den)=true from hx,bKS,DD]
 unfold nG
 simp only[aR,show (1:Int).natAbs=1 from rfl,show decide ((1:Int)<0)=false from rfl]
 by_cases h:pK x.neg (val x.num) (val x.den) false 1 1≤0
 ·rw[decide_eq_true h,decide_eq_false Om]; rfl
 ·rw[decide_eq_false h,decide_eq_true Om]; rfl
def MC (m:Int) (rep:List RF) (t h:RF):Bool:=YO rep m&&(cI t&&(sB t&&cI h))
theorem bqP {C:Ctx} (L:akT C) (m:Int) (rep:List RF) (hr:jK rep) (t h:RF) (ht:t.Ok) (hh:h.Ok) :
  RI.wp C (aT aNN.res (aD (.bool (MC m rep t h)))) (PF.args [.int .i64 m,frs rep,.agg t.cells,.agg h.cells]) .nil:=by
 have h1:cW 1:=by unfold cW; omega
 unfold MC
 simp only[go_sem,γ,RI,aZL,aNN]
 refine bS .nil (zdS (YO rep m) (!sB t)) PH.nil_le ?_
 simp only[go_sem,γ,reduceCtorEq,aZM]
 refine bQ rfl (L.reps rep hr m) rfl PH.nil_le ?_
 cases YO rep m with
 | false =>
  simp only[go_sem,γ,reduceCtorEq]
  refine aL (.inr rfl) rfl ?_
  rfl
 | true =>
  simp only[go_sem,δ,γ]
  refine bQ (awL _ _ t) (L.small t ht) rfl PH.nil_le ?_
  cases hl:cI t with
  | false =>
   simp only[go_sem,γ,reduceCtorEq]
   refine aL (.inr rfl) rfl ?_
   rfl
  | true =>
   have hle:=L.less (mkT 1 1) t (DC 1 h1).1 ht (DC 1 h1).2 (nZ hl)
   rw[bhG (nZ hl)] at hle
   simp only[go_sem,γ]
   refine bQ rfl (L.int 1 h1) rfl PH.nil_le ?_
   simp only[go_sem,δ,γ]
   refine bQ rfl hle rfl PH.nil_le ?_
   cases sB t with
   | false =>
    simp only[go_sem,γ,reduceCtorEq,bKW,bKR]
    refine aL (.inr rfl) rfl ?_
    rfl
   | true =>
    simp only[go_sem,δ,γ,bKR,bKW]
    refine bQ (awL _ _ h) (L.small h hh) rfl PH.nil_le ?_
    simp only[go_sem,γ]
    refine aL (.inr rfl) rfl ?_
    rfl
theorem brM (p:dA):yT p=MC p.m p.repair p.target p.bIQ:=by
 unfold yT MC YO
 have:(p.repair.all fun x=>cI x&&cB x)=(p.repair.all cI&&p.repair.all cB):=by
  induction p.repair with
  | nil=>rfl
  | cons a t ih =>
   simp only[List.all_cons,ih]
   cases cI a<;>cases cB a<;>simp
 rw[this]
 simp only[bNJ]
section
variable {H:PH} {B:List BX} {L:List LI}
theorem aS.a0O (h:aS H B L) (i:Nat) {s b:Nat} {v y:PV} {rows src:List (List PV)} {K:PV→PH→Prop} (hi:L[i]?=some (v,s,rows)) (hy:dR H s y=some src) (hr:roomFor rows.length src.length b)
  (hk:∀ v' H',bJ H' s v rows→aS H' B (L.set i (v',s,rows++src))→K v' H'):mF H s b v y K:=by
 rcases h.own i hi with ⟨rfl,rfl⟩ | ⟨q,rs,rfl,h1,h2,h3⟩
 ·exact h.append i hi hy hr fun v' H' h' _=>hk v' H' (.inl ⟨rfl,rfl⟩) h'
 ·have hlen:(rows++src).length=rows.length+src.length:=bKQ
  refine⟨src,hy,rfl,rfl,hr,rs,h1,h2,?_,fun o ho=>?_⟩
  ·rw[h3]
   refine hk _ _ (.inr ⟨q,rows++src,rfl,by rw[eS],by rw[hlen]; omega,List.take_left' rfl⟩) (h.zA i hi (.inr ⟨q,rows++src,by rw[hlen],by simp only[bL,if_true],bKK _,bLG⟩) (fun p hp=>by cases hp; exact .inl rfl) fun p _ hp=>?_)
   rw[bL,if_neg (hp q rfl)]
  ·rw[h3]
   have hqo:q≠o:=by rintro rfl; rw[h1] at ho; cases ho
   refine hk _ _ (.inr ⟨q,rs,rfl,by rw[bL,if_neg hqo]; exact h1,h2,h3⟩) (h.zA i hi (.inr ⟨o,rows++src,by rw[hlen],by simp only[bL,if_true],bKK _,bLG⟩) (fun p hp=>by cases hp; exact .inr ho) fun p hpm hp=>?_)
   obtain⟨f1,f2⟩:=h.fresh ho
   have n1:p≠o:=by rintro rfl; exact hpm.elim f1 f2
   rw[bL,if_neg n1]
end
abbrev kT (l:List (List UInt8)):List (List PV):=l.map fun s=>[PV.str s]
def wV:List (List UInt8)→List UInt8→Nat→Int
 | [],_,_=>-1
 | x::t,s,i=>if x==s then (i:Int) else wV t s (i+1)
theorem aEI (s:List UInt8):∀ (l:List (List UInt8)) (i:Nat),decide (wV l s i<0)=!l.contains s
 | [],i=>rfl
 | x::t,i=>by
  rw[wV,List.contains_cons,BEq.comm (a:=s)]
  by_cases h:(x==s)=true
  ·rw[if_pos h,h,Bool.true_or,decide_eq_false Om]; rfl
  ·rw[if_neg h,aEI s t (i+1)]
   simp only[Bool.not_eq_true] at h
   rw[h,Bool.false_or]
theorem bdU {C:Ctx} (l:List (List UInt8)) (hl:l.length≤1000000) (s:List UInt8):CF.wp C (aT RK.res (aD (.int .i64 (wV l s 0)))) (PF.args [.sl 1 (kT l),.str s]) .nil:=by
 simp only[go_sem,CF,awP,awQ,RK]
 refine wp_loop (α:=Nat) (fun k=>(((PF.nil.set 0 (.sl 1 (kT l))).set 1 (.str s)).set 5 (.int .i64 k))) (fun _=>.nil) (fun k=>k≤l.length∧wV l s 0=wV (l.drop k) s k) (fun k=>l.length-k) 0 ⟨bKT _,rfl⟩ Lq PH.nil_le ?_
 rintro k ⟨hk,ha⟩
 simp only[go_sem,γ,reduceCtorEq,awO,awR,bKI]
 by_cases hlt:k<l.length
 ·have bIL:(k:Int)<(l.length:Nat):=by omega
  have hat:(kT l)[k]?=some [.str l[k]]:=by simp[hlt]
  rw[bMH hlt,wV] at ha
  cases hc:l[k]==s with
  | true =>
   rw[hc,if_pos rfl] at ha
   simp only[go_sem,γ,reduceCtorEq,bIL,RL,hat,hc,awS]
   refine aL (.inr rfl) rfl ?_
   rw[aV,ha]
  | false =>
   rw[hc,if_neg (by decide)] at ha
   simp only[go_sem,γ,reduceCtorEq,bIL,RL,hat,hc,awT,wZz k]
   exact aI (k+1) ⟨hlt,ha⟩ Om Lq PH.le_refl
 ·have bIL:¬ (k:Int)<(l.length:Nat):=by omega
  have:k=l.length:=by omega
  subst this
  rw[List.drop_length,wV] at ha
  simp only[go_sem,ο,bIL,awU]
  refine aL (.inr rfl) rfl ?_
  rw[aV,ha]
structure akU (C:Ctx):Prop extends akT C where
 name:∀ s:List UInt8,aE C 62 [.str s] .nil (aD (.bool (isName s)))
 index:∀ (l:List (List UInt8)),l.length≤1000000→∀ s:List UInt8,aE C 71 [.sl 1 (kT l),.str s] .nil (aD (.int .i64 (wV l s 0)))
def gZ (l:List (List UInt8)) (s:List UInt8):Bool:=isName s&&!l.contains s
def ZQ (l:List (List UInt8)) (s:List UInt8) (r:PV) (B:List BX) (L:List LI):Prop:=∃ w',r=.tup [w',.bool (gZ l s)]∧B=[]∧L=[(w',1,kT (l++[s]))]
theorem bdS {C:Ctx} (L:akU C) (l:List (List UInt8)) (hl:l.length≤1000000) (s:List UInt8) (w:PV) (H:PH) (hH:aS H [] [(w,1,kT l)]) :
  CE.wp C (aT RJ.res (fun r H'=>∃ B' L',ZQ l s r B' L'∧aS H' B' L')) (PF.args [w,.str s]) H:=by
 have hix:=L.index l hl s
 have hnm:=L.name s
 have hneg:=aEI s l 0
 have h11:(1:Nat)*1≤16777216:=by decide
 have fin:∀ (F:PF) (H':PH) (w':PV) (b:Bool),F 4=some w'→F 5=some (.bool b)→b=gZ l s→aS H' [] [(w',1,kT (l++[s]))]→aT [.tmp 4,.tmp 5] (fun r H'=>∃ B' L',ZQ l s r B' L'∧aS H' B' L') .ret F H':=fun F H' w' b f4 f5 e h' =>
  aX (vs:=[w',.bool b]) (.inr rfl) H' (by simp only[go_sem,f4,f5]) PH.le_refl ⟨[],_,⟨w',by rw[e]; rfl,rfl,rfl⟩,h'⟩
 simp only[go_sem,υ,γ,η,ζ,reduceCtorEq,CE,awM,awN,RJ,h11]
 refine hH.a0O 0 (src:=[[.str s]]) rfl rfl (by unfold roomFor; rw[bKI]; simp only[bKX,maxLen]; omega) fun w' H' hO h'=>?_
 have h'':aS H' [] [(w',1,kT (l++[s]))]:=by
  have e:kT (l++[s])=kT l++[[.str s]]:=by simp[kT]
  rw[e]; exact h'
 refine aA hnm rfl ?_
 cases hn:isName s with
 | false =>
  simp only[go_sem,γ,reduceCtorEq]
  exact fin _ _ w' false rfl rfl (by unfold gZ; rw[hn,bKO]) h''
 | true =>
  have hfb:gZ l s=!l.contains s:=by unfold gZ; rw[hn,bKS]
  rcases hO with ⟨z1,rfl⟩ | ⟨q,rs,rfl,q1,q2,q3⟩
  ·simp only[go_sem,γ,reduceCtorEq]
   rw[z1] at hix
   have hix2:aE C 71 [.aB,.str s] .nil (aD (.int .i64 (wV l s 0))):=hix.args (.cons (.nil 1) (.cons (.refl _) .nil))
   refine aA hix2 rfl ?_
   simp only[go_sem,γ,hneg]
   exact fin _ _ w' _ rfl rfl hfb.symm h''
  ·simp only[go_sem,γ,reduceCtorEq]
   refine CA (vs:=[.osl q 1 0 (kT l).length,.str s]) (.int .i64 (wV l s 0)) ?_ q1 Sq ?_
   ·rw[bMG,bMG,List.map_nil,nT q2,q3]
    exact hix
   simp only[go_sem,γ,hneg]
   exact fin _ _ w' _ rfl rfl hfb.symm h''
theorem bbB {x:RF} (h:cI x=true):decide (pC x>0)=cB x:=by
 have hv:=nZ h
 unfold cI mP at h
 rw[show cN (val x.num) (val x.den)=true from hv,if_pos rfl,XN hv] at h
 unfold pC cB
 by_cases h0:val x.num=0
 ·simp[h0]
 ·have hq:val x.num/bKN (val x.num) (val x.den)≠0:=by
   have:=Nat.div_pos (Nat.gcd_le_left (val x.den) (bMQ h0)) (Nat.gcd_pos_of_pos_left _ (bMQ h0))
   omega
  have hn:x.neg=false:=by
   unfold kX at h
   simp only[hq,ne_eq,not_false_eq_true,decide_true,bMI,bLF] at h
   simpa using h.1
  rw[if_neg h0,hn]
  simp[h0]
structure ayH (l:cK):Prop where
 exit:∀ x∈l.exit,cI x=true
 row:∀ r∈l.bIJ,∀ x∈r,cI x=true
structure nM (C:Ctx):Prop extends akU C where
 fresh:∀ (l:List (List UInt8)),l.length≤1000000→∀ (s:List UInt8) (w:PV) (H:PH),aS H [] [(w,1,kT l)]→aE C 70 [w,.str s] H (fun r H'=>∃ B' L',ZQ l s r B' L'∧aS H' B' L')
theorem nM.pos {C:Ctx} (L:nM C) {x:RF} (hx:x.Ok) (h:cI x=true):∃ n:Int,aE C 54 [.agg x.cells] .nil (aD (.int .i64 n))∧decide (n>0)=cB x:=⟨_,L.sign x hx (nZ h),bbB h⟩
def zlF (l:cK) (o r i:Nat):PF:=(((((PF.nil.set 1 (.bH l.cells)).set 3 (.int .i64 (l.exit.length:Nat))).set 7 (.osl o 1 0 l.exit.length)).set 8 (.int .i64 r)).set 9 (.int .i64 i))
theorem bkL {C:Ctx} (L:nM C) (l:cK) (o r i:Nat) (row:List RF) (hri:(l.bIJ.map fun r=>[frs r])[i]?=some [frs row]) (bIR:jK row) (hlim:∀ x∈row,cI x=true) (hrl:row.length=l.exit.length) (hi:i<l.exit.length) (hn:l.exit.length≤4) (R1:List Bool) (hR:R1.length=l.exit.length) (K:cO) [Up K] (F:PF) (H:PH)
  (hF:((zlF l o r i).set 10 (.int .i64 0)).le F) (hH:(gG o R1).le H)
  (hK:K (.exit 6) (zlF l o r i) (gG o (cP R1 i row row.length))):aC.wp C (.loop JT) K F H:=by
 refine wp_loop (α:=Nat) (fun k=>(zlF l o r i).set 10 (.int .i64 k)) (fun k=>gG o (cP R1 i row k)) (fun k=>k≤row.length) (fun k=>row.length-k) 0 (bKT _) hF hH ?_
 intro k hk
 have hlen:=rD R1 i row k
 have hstep':∀ h:k<row.length,cP R1 i row (k+1)=(cP R1 i row k).set i ((cP R1 i row k).getD i false||cB row[k]&&(cP R1 i row k).getD k false):=fun h=>by
  simp only[cP,bLC,bLN,bKU h,bLT,bNE]
 have fin:∀ (b:Bool) (F:PF) (H:PH),k<row.length→fP (cP R1 i row (k+1))=(fP (cP R1 i row k)).set i [.bool b]→((zlF l o r i).set 10 (.int .i64 (k+1:Nat))).le F→H o=some (.rows 1 ((fP (cP R1 i row k)).set i [.bool b])) →
   eI (fun k:Nat=>(zlF l o r i).set 10 (.int .i64 k)) (fun k=>gG o (cP R1 i row k)) (fun k=>k≤row.length) (fun k=>row.length-k) (row.length-k) K .normal F H:=by
  intro b F H hlt hb hF hH
  refine aI (k+1) hlt Om hF ?_
  rw[← hb] at hH
  exact PH.aK PH.nil_le hH
 unfold zlF gG at fin
 simp only[go_sem,γ,JT,aNW,zlF,gG]
 by_cases hlt:k<row.length
 ·have bIL:(k:Int)<(l.exit.length:Nat):=by omega
  have hi':(i:Int)<(l.exit.length:Nat):=by omega
  have hat:=pF (R:=cP R1 i row k) (i:=i) Om
  have hatk:=pF (R:=cP R1 i row k) (i:=k) Om
  have bIM:=hstep' hlt
  obtain⟨n,hsn,hpos⟩:=L.pos (bIR.all _ (bKM hlt)) (hlim _ (bKM hlt))
  have hfr:=acH hlt
  generalize hb:(cP R1 i row k).getD i false=b at *
  generalize hc:(cP R1 i row k).getD k false=c at *
  generalize hA:cB row[k]=A at *
  cases b with
  | true =>
   simp only[go_sem,γ,bIL,ZK,hi',bLJ,hat,JU,wZz k]
   exact fin true _ _ hlt (by rw[bIM,kP,Bool.true_or]) Lq Sq
  | false =>
   simp only[go_sem,δ,γ,θ,bIL,ZK,hi',bLJ,hat,hri,hfr]
   refine aA hsn rfl ?_
   cases A with
   | false =>
    simp only[go_sem,γ,reduceCtorEq,hpos,hi',bIL,bLJ,hat,hatk,JU,wZz k]
    exact fin false _ _ hlt (by rw[bIM,kP,Bool.false_or,bKO]) Lq Sq
   | true =>
    simp only[go_sem,γ,reduceCtorEq,hpos,hi',bIL,bLJ,hat,hatk,JU,wZz k]
    exact fin c _ _ hlt (by rw[bIM,kP,Bool.false_or,bKS]) Lq Sq
 ·have bIL:¬ (k:Int)<(l.exit.length:Nat):=by omega
  have:k=row.length:=by omega
  subst this
  simp only[go_sem,bIL]
  refine Up.up ?_ hK
  (repeat' (first|exact PF.nil_le|refine PF.aK ?_ ?_))<;>first|(simp only[go_sem,γ,zlF]<;>rfl)|rfl
theorem bkN {C:Ctx} (L:nM C) (l:cK) (hl:l.Ok) (he:xY l) (hm:ayH l) (o r:Nat) (R:List Bool) (hR:R.length=l.exit.length) (K:cO) [Up K] (F:PF) (H:PH)
  (hF:(zlF l o r 0).le F) (hH:(gG o R).le H)
  (hK:K (.exit 4) (zlF l o r l.exit.length) (gG o (cY l R l.exit.length))):aC.wp C (.loop ZD) K F H:=by
 refine wp_loop (α:=Nat) (fun i=>zlF l o r i) (fun i=>gG o (cY l R i)) (fun i=>i≤l.exit.length) (fun i=>l.exit.length-i) 0 (bKT _) hF hH ?_
 intro i hi
 have hlen:=oH l R i
 have hn:=he.n
 simp only[go_sem,γ,ZD,aNV,zlF,gG]
 by_cases hlt:i<l.exit.length
 ·have bIL:(i:Int)<(l.exit.length:Nat):=by omega
  have hir:i<l.bIJ.length:=by rw[he.bIJ]; exact hlt
  have hat:=pF (R:=cY l R i) (i:=i) Om
  have hx:=acH hlt
  have bIR:(l.bIJ.map fun r=>[frs r])[i]?=some [frs l.bIJ[i]]:=by simp[hir]
  have hrl:(l.bIJ[i]).length=l.exit.length:=he.row _ (bKM hir)
  generalize hR1:(cY l R i).set i ((cY l R i).getD i false||cB l.exit[i])=R1
  have hR1l:R1.length=l.exit.length:=by rw[← hR1,bMJ]; omega
  have bIM:cY l R (i+1)=cP R1 i l.bIJ[i] (l.bIJ[i]).length:=by
   simp only[cY,xF]
   have e1:(l.exit.map cB).getD i false=cB l.exit[i]:=by simp[bLC,hlt]
   have e2:l.bIJ.getD i []=l.bIJ[i]:=by simp[bLC,hir]
   rw[e1,e2,hR1]
  obtain⟨n,hsn,hpos⟩:=L.pos (hl.exit.all _ (bKM hlt)) (hm.exit _ (bKM hlt))
  have rest:∀ (F:PF) (H:PH),(zlF l o r i).le F→H o=some (.rows 1 (fP R1)) →
    aC.wp C (.seq (.region ZJ) (.block 6 (.loop JT))) (dZ 5 (jB C (aC.wp C (.region ZL)) (eI (fun i:Nat=>zlF l o r i) (fun i=>gG o (cY l R i)) (fun i=>i≤l.exit.length) (fun i=>l.exit.length-i) (l.exit.length-i) K))) F H:=by
   intro F H hF hH
   refine sV _ (fun _ _ _ _ a b=>Up.up a b) hF ?_
   simp only[go_sem,ZJ]
   refine bkL L l o r i l.bIJ[i] bIR (hl.row _ (bKM hir)) (hm.row _ (bKM hir)) hrl hlt hn R1 hR1l _ _ _ (by (repeat' (first|exact PF.nil_le|refine PF.aK ?_ ?_))<;>first|(simp only[go_sem,γ,zlF]<;>rfl)|rfl) (PH.aK PH.nil_le hH) ?_
   simp only[go_sem,γ,zlF,ZL,wZz i]
   exact aI (i+1) hlt Om Lq (by rw[bIM]; exact PH.le_refl)
  simp only[zlF,gG] at rest
  have rest':=rest
  simp only[aC.wp,go_sem] at rest'
  generalize hb:(cY l R i).getD i false=b at *
  cases b with
  | true =>
   simp only[go_sem,γ,bIL,ZI,bIL,bLJ,hat]
   refine rest' _ _ Lq ?_
   rw[← hR1]
   simp only[go_sem,kP,Bool.true_or]
  | false =>
   simp only[go_sem,δ,γ,bIL,ZI,bIL,bLJ,hat,hx]
   refine aA hsn rfl ?_
   simp only[go_sem,γ,reduceCtorEq,bIL,bLJ,hat,hpos]
   refine rest' _ _ Lq ?_
   rw[← hR1]
   simp only[go_sem,kP,Bool.false_or]
 ·have bIL:¬ (i:Int)<(l.exit.length:Nat):=by omega
  have:i=l.exit.length:=by omega
  subst this
  simp only[go_sem,bIL]
  exact Up.up (by (repeat' (first|exact PF.nil_le|refine PF.aK ?_ ?_))<;>first|(simp only[go_sem,γ,zlF]<;>rfl)|rfl) hK
theorem bkM {C:Ctx} (L:nM C) (l:cK) (hl:l.Ok) (he:xY l) (hm:ayH l) (o:Nat) (K:cO) [Up K] (F:PF) (H:PH)
  (hF:(((((PF.nil.set 1 (.bH l.cells)).set 3 (.int .i64 (l.exit.length:Nat))).set 7 (.osl o 1 0 l.exit.length)).set 8 (.int .i64 0)):PF).le F) (hH:(gG o (dJ l 0)).le H)
  (hK:K (.exit 2) (((PF.nil.set 3 (.int .i64 (l.exit.length:Nat))).set 7 (.osl o 1 0 l.exit.length))) (gG o (dJ l l.exit.length))):aC.wp C (.loop ZE) K F H:=by
 have hn:=he.n
 refine wp_loop (α:=Nat) (fun r=>((((PF.nil.set 1 (.bH l.cells)).set 3 (.int .i64 (l.exit.length:Nat))).set 7 (.osl o 1 0 l.exit.length)).set 8 (.int .i64 r))) (fun r=>gG o (dJ l r)) (fun r=>r≤l.exit.length) (fun r=>l.exit.length-r) 0 (bKT _) hF hH ?_
 intro r hr
 have hlen:=oG l r
 simp only[go_sem,γ,ZE,aNT]
 by_cases hlt:r<l.exit.length
 ·have bIL:(r:Int)<(l.exit.length:Nat):=by omega
  simp only[go_sem,bIL,aNU]
  refine bkN L l hl he hm o r (dJ l r) hlen _ _ _ (by (repeat' (first|exact PF.nil_le|refine PF.aK ?_ ?_))<;>first|(simp only[go_sem,γ,zlF]<;>rfl)|rfl) PH.le_refl ?_
  simp only[go_sem,γ,zlF,aNX,wZz r]
  exact aI (r+1) hlt Om Lq PH.le_refl
 ·have bIL:¬ (r:Int)<(l.exit.length:Nat):=by omega
  have:r=l.exit.length:=by omega
  subst this
  simp only[go_sem,bIL]
  exact Up.up Lq hK
theorem btR {C:Ctx} (R:List Bool) (hR:R.length≤4) (o:Nat) (X:Bool) (hX:X=R.all id) (Q:PV→PH→Prop) (hQ:Q=aD (.bool X)) (F:PF) (H:PH)
  (hF:((((PF.nil.set 3 (.int .i64 (R.length:Nat))).set 7 (.osl o 1 0 R.length)).set 11 (.int .i64 0)):PF).le F) (hH:(gG o R).le H):aC.wp C (.loop ZF) (dZ 8 (jB C (aC.wp C (.seq (.region ZN) .ret)) (aT [.tmp 2] Q))) F H:=by
 subst hX hQ
 refine wp_loop (α:=Nat) (fun k=>(((PF.nil.set 3 (.int .i64 (R.length:Nat))).set 7 (.osl o 1 0 R.length)).set 11 (.int .i64 k))) (fun _=>gG o R) (fun k=>k≤R.length∧(R.take k).all id=true) (fun k=>R.length-k) 0 ⟨bKT _,rfl⟩ hF hH ?_
 rintro k ⟨hk,ha⟩
 simp only[go_sem,γ,ZF,aNZ,gG]
 by_cases hlt:k<R.length
 ·have bIL:(k:Int)<(R.length:Nat):=by omega
  have hat:=pF (R:=R) (i:=k) hlt
  have hg:R.getD k false=R[k]:=by simp[bLC,hlt]
  rw[hg] at hat
  cases hc:R[k] with
  | false =>
   rw[hc] at hat
   simp only[go_sem,γ,bIL,ZM,bLJ,hat,bKW,aOA]
   refine aL (.inr rfl) rfl ?_
   rw[aV,nB hlt (p:=id) hc]
  | true =>
   rw[hc] at hat
   have ha2:=nA hlt ha (p:=id) hc
   simp only[go_sem,γ,bIL,ZM,bLJ,hat,bKR,aOB,wZz k]
   exact aI (k+1) ⟨hlt,by simpa using bLA.1 ha2⟩ Om Lq PH.le_refl
 ·have bIL:¬ (k:Int)<(R.length:Nat):=by omega
  have:k=R.length:=by omega
  subst this
  rw[bLG] at ha
  simp only[go_sem,bIL,ZN]
  refine aL (.inr rfl) rfl ?_
  rw[aV,ha]
def Marks (R S:List Bool):Prop:=R.length=S.length∧∀ j:Nat,R[j]?=some true→S[j]?=some true
theorem Marks.btA (R:List Bool):Marks R R:=⟨rfl,fun _ h=>h⟩
theorem Marks.trans {R S T:List Bool} (h:Marks R S) (k:Marks S T):Marks R T:=⟨h.1.trans k.1,fun j a=>k.2 j (h.2 j a)⟩
theorem aFE (R:List Bool) (i:Nat) (b:Bool):Marks R (R.set i (R.getD i false||b)):=by
 refine⟨by rw[bMJ],fun j h=>?_⟩
 rw[List.getElem?_set]
 obtain⟨hj,he⟩:=bLU.1 h
 split
 ·rename_i e
  subst e
  rw[if_pos hj,bLC,h]
  rfl
 ·exact h
theorem aqK (R:List Bool) (i:Nat) (row:List RF):∀ k,Marks R (cP R i row k)
 | 0=>Marks.btA R
 | k+1=>(aqK R i row k).trans (aFE _ _ _)
theorem AD (l:cK) (R:List Bool):∀ i,Marks R (cY l R i)
 | 0=>Marks.btA R
 | i+1=>(AD l R i).trans ((aFE _ _ _).trans (aqK _ _ _ _))
theorem aFF:∀ {R S:List Bool},Marks R S→R≠S→R.count true<S.count true
 | [],[],_,h=>absurd rfl h
 | [],_::_,h,_=>by have:=h.1; simp at this
 | _::_,[],h,_=>by have:=h.1; simp at this
 | a::R,b::S,h,hne=>by
  have h0:a=true→b=true:=fun e=>by
   have:=h.2 0 (by rw[e]; rfl)
   simpa using this
  have ht:Marks R S:=⟨by have:=h.1; simpa using this,fun j hj=>by have:=h.2 (j+1) (by simpa using hj); simpa using this⟩
  by_cases e:R=S
  ·subst e
   have:a≠b:=fun e=>hne (by rw[e])
   cases a<;>cases b<;>simp at this h0 ⊢
  ·have:=aFF ht e
   cases a<;>cases b<;>simp at h0 ⊢<;>omega
theorem aaI:∀ {R:List Bool},R.length≤R.count true→R.all id=true
 | [],_=>rfl
 | a::R,h=>by
  have h1:=List.count_le_length (a:=true) (l:=R)
  cases a with
  | true =>
   simp only[List.count_cons_self,bLX] at h
   simp only[List.all_cons,id,bKS]
   exact aaI Om
  | false =>
   simp at h
   omega
theorem HW (l:cK) {s:Nat} (h:dJ l (s+1)=dJ l s):∀ d,dJ l (s+d)=dJ l s
 | 0=>rfl
 | d+1=>by
  show cY l (dJ l (s+d)) l.exit.length=_
  rw[HW l h d]
  exact h
theorem aeZ (l:cK):∀ r,(∃ s,s<r∧dJ l (s+1)=dJ l s)∨r≤(dJ l r).count true
 | 0=>.inr (bKT _)
 | r+1=>by
  rcases aeZ l r with ⟨s,h1,h2⟩ | h
  ·exact .inl ⟨s,by omega,h2⟩
  ·by_cases e:dJ l (r+1)=dJ l r
   ·exact .inl ⟨r,by omega,e⟩
   ·have:=aFF (AD l (dJ l r) l.exit.length) (fun h=>e h.symm)
    exact .inr (by show r+1≤(cY l (dJ l r) l.exit.length).count true; omega)
theorem bmB (l:cK):uO l=(dJ l l.exit.length).all id:=by
 unfold uO
 rcases aeZ l l.exit.length with ⟨s,h1,h2⟩ | h
 ·obtain⟨d,hd⟩:∃ d,l.exit.length=s+d:=⟨l.exit.length-s,by omega⟩
  rw[show l.exit.length+1=s+(d+1) by omega,hd,HW l h2,HW l h2]
 ·have hf:(dJ l l.exit.length).all id=true:=aaI (by rw[oG]; exact h)
  have hm:Marks (dJ l l.exit.length) (dJ l (l.exit.length+1)):=AD l (dJ l l.exit.length) l.exit.length
  rw[hf,bLA]
  intro x hx
  obtain⟨j,hj,rfl⟩:=bMP hx
  have hj2:j<(dJ l l.exit.length).length:=by rw[hm.1]; exact hj
  have:=hm.2 j (by
   rw[bKU hj2]
   have:=bLA.1 hf _ (bKM hj2)
   simpa using this)
  rw[bKU hj] at this
  simpa using this
def zsS (s:Bool):Spec:=fun name vs=>match name,vs with
 | 47,_=>some ([],fun _=>aD (.agg (mkT 1 1).cells))
 | 53,_=>some ([],fun _=>aD (.bool s))
 | _,_=>none
theorem bgM (l:cK):kE l=(within l.start.length 1 4&&((decide ((l.start.length:Int)=l.start.length)&&l.start.all cI)&&((decide ((l.exit.length:Int)=l.start.length)&&l.exit.all cI)&&(decide (l.bIJ.length=l.start.length)&&((bKJ l.bIJ.length).all (pL l)&&(sH l&&uO l)))))):=by
 rw[aTI,decide_eq_true (rfl:(l.start.length:Int)=l.start.length),bKS]
 have:decide (l.exit.length=l.start.length)=decide ((l.exit.length:Int)=l.start.length):=decide_eq_decide.2 Om
 rw[this]
 cases within l.start.length 1 4<;>cases decide ((l.exit.length:Int)=l.start.length)<;>cases decide (l.bIJ.length=l.start.length)<;>cases l.start.all cI<;>cases l.exit.all cI<;>simp[bNJ]
theorem aJE (l:cK) {i:Nat} (h:i<l.bIJ.length):pL l i=((decide (((l.bIJ[i]).length:Int)=l.start.length)&&(l.bIJ[i]).all cI)&&!((l.bIJ[i]).map cB).getD i false):=by
 unfold pL
 have:l.bIJ.getD i []=l.bIJ[i]:=by simp[bLC,h]
 rw[this]
 have:decide ((l.bIJ[i]).length=l.start.length)=decide (((l.bIJ[i]).length:Int)=l.start.length):=decide_eq_decide.2 Om
 rw[this]
theorem bqR {C:Ctx} (L:nM C) (l:cK) (hl:l.Ok):RM.wp C (aT aNP.res (aD (.bool (kE l)))) (PF.args [.agg l.cells]) .nil:=by
 have hX:=bgM l
 have fail:∀ (F:PF) (H:PH),kE l=false→F 2=some (.bool false)→aT [.tmp 2] (aD (.bool (kE l))) .ret F H:=fun F H e h=>by
  rw[e]
  exact aX (vs:=[.bool false]) (.inr rfl) .nil (by simp only[go_sem,h]) PH.nil_le ⟨rfl,rfl⟩
 have e1:=L.smalls l.start hl.start l.start.length
 have e2:=L.smalls l.exit hl.exit l.start.length
 simp only[go_sem,δ,γ,θ,RM,aZO,aZP,aNP,bKI,aZQ]
 by_cases c1:((l.start.length:Nat):Int)<1
 ·simp only[go_sem,γ,c1,wD]
  exact fail _ _ (by rw[hX,show within l.start.length 1 4=false from by unfold within; rw[decide_eq_false Om,bKO],bKO]) rfl
 by_cases c2:((l.start.length:Nat):Int)>4
 ·simp only[go_sem,γ,reduceCtorEq,c1,c2,wD]
  exact fail _ _ (by rw[hX,show within l.start.length 1 4=false from by unfold within; rw[decide_eq_false (Om:¬ ((l.start.length:Nat):Int)≤4),bLQ],bKO]) rfl
 rw[show within l.start.length 1 4=true from by unfold within; rw[decide_eq_true (Om:(1:Int)≤(l.start.length:Nat)),decide_eq_true (Om:((l.start.length:Nat):Int)≤4)]; rfl,bKS] at hX
 simp only[go_sem,δ,γ,θ,reduceCtorEq,c1,c2]
 refine aA e1 rfl ?_
 cases k1:(decide ((l.start.length:Int)=l.start.length)&&l.start.all cI) with
 | false =>
  rw[k1,bKO] at hX
  simp only[go_sem,γ,reduceCtorEq,bKW,wD]
  exact fail _ _ hX rfl
 | true =>
 rw[k1,bKS] at hX
 simp only[go_sem,γ,reduceCtorEq,bKR]
 refine aA e2 rfl ?_
 cases k2:(decide ((l.exit.length:Int)=l.start.length)&&l.exit.all cI) with
 | false =>
  rw[k2,bKO] at hX
  simp only[go_sem,γ,reduceCtorEq,bKW,wD]
  exact fail _ _ hX rfl
 | true =>
 rw[k2,bKS] at hX
 rw[bLF,decide_eq_true_eq] at k2
 have hxl:l.exit.length=l.start.length:=by omega
 have hxlim:=bLA.1 k2.2
 by_cases c3:l.bIJ.length=l.start.length
 case neg =>
  rw[decide_eq_false c3,bKO] at hX
  simp only[go_sem,δ,γ,θ,reduceCtorEq,bKR,bKI,cQ (Om:((l.bIJ.length:Nat):Int)≠(l.start.length:Nat)),wD]
  exact fail _ _ hX rfl
 rw[decide_eq_true c3,bKS] at hX
 simp only[go_sem,δ,γ,θ,reduceCtorEq,bKR,bKI,cA (Om:((l.bIJ.length:Nat):Int)=(l.start.length:Nat)),aZR]
 refine wp_loop (α:=Nat) (fun i=>(((PF.nil.set 1 (.bH l.cells)).set 3 (.int .i64 (l.start.length:Nat))).set 4 (.int .i64 i))) (fun _=>.nil) (fun i=>i≤l.start.length∧∀ j,j<i→pL l j=true) (fun i=>l.start.length-i) 0 ⟨bKT _,fun j h=>by omega⟩ Lq PH.nil_le ?_
 rintro i ⟨hi,bJV⟩
 simp only[go_sem,γ,aZN,aZS]
 by_cases hlt:i<l.start.length
 ·have bIL:(i:Int)<(l.start.length:Nat):=by omega
  have hir:i<l.bIJ.length:=by omega
  have bIR:(l.bIJ.map fun r=>[frs r])[i]?=some [frs l.bIJ[i]]:=by simp[hir]
  have hro:=hl.row _ (bKM hir)
  have e3:=L.smalls l.bIJ[i] hro l.start.length
  have hrp:=aJE l hir
  have bad:pL l i=false→kE l=false:=fun h=>by
   rw[hX,show (bKJ l.bIJ.length).all (pL l)=false from List.all_eq_false.2 ⟨i,bLL.2 hir,by simp[h]⟩,bKO]
  simp only[go_sem,δ,γ,θ,bIL,aZT,bIR]
  refine aA e3 rfl ?_
  cases k3:(decide (((l.bIJ[i]).length:Int)=l.start.length)&&(l.bIJ[i]).all cI) with
  | false =>
   rw[k3,bKO] at hrp
   simp only[go_sem,γ,bKW,anN]
   exact fail _ _ (bad hrp) rfl
  | true =>
   rw[k3,bKS] at hrp
   rw[bLF,decide_eq_true_eq] at k3
   have hrl:(l.bIJ[i]).length=l.start.length:=by omega
   have hik:i<(l.bIJ[i]).length:=by omega
   have hm:=bKM hik
   have hs:=L.sign _ (hro.all _ hm) (nZ (bLA.1 k3.2 _ hm))
   have hz:=ID (l.bIJ[i])[i]
   have hg:((l.bIJ[i]).map cB).getD i false=cB (l.bIJ[i])[i]:=by simp[bLC,hik]
   rw[hg] at hrp
   have hz2:(pC (l.bIJ[i])[i] != 0)=cB (l.bIJ[i])[i]:=by
    rw[bne,hz,Bool.not_not]
   simp only[go_sem,δ,γ,θ,bKR,bIR,acH hik]
   refine aA hs rfl ?_
   cases k4:cB (l.bIJ[i])[i] with
   | true =>
    rw[k4] at hrp hz2
    simp only[go_sem,γ,reduceCtorEq,hz2,anN]
    exact fail _ _ (bad hrp) rfl
   | false =>
    rw[k4] at hrp hz2
    simp only[go_sem,γ,reduceCtorEq,hz2,aZU,wZz i]
    exact aI (i+1) ⟨hlt,fun j hj=>by
     by_cases e:j=i
     ·rw[e]; exact hrp
     ·exact bJV j Om⟩ Om Lq PH.le_refl
 ·have bIL:¬ (i:Int)<(l.start.length:Nat):=by omega
  have:i=l.start.length:=by omega
  subst this
  have hrows:(bKJ l.bIJ.length).all (pL l)=true:=bLA.2 fun j hj=>bJV j (by rw[← c3]; exact bLL.1 hj)
  rw[hrows,bKS] at hX
  have hrr:∀ r∈l.bIJ,r.length=l.start.length∧∀ x∈r,cI x=true:=fun r hr=>by
   obtain⟨j,hj,rfl⟩:=bMP hr
   have h:=bJV j Om
   rw[aJE l hj,bLF,bLF,decide_eq_true_eq] at h
   exact⟨by omega,bLA.1 h.1.2⟩
  have hlim:ayH l:=⟨hxlim,fun r hr=>(hrr r hr).2⟩
  have hend:xY l:=⟨by omega,by omega,fun r hr=>by rw[(hrr r hr).1,hxl]⟩
  have hsum:=L.sum l.start hl.start.all hl.start.fits
  simp only[go_sem,δ,γ,θ,bIL,aNQ]
  refine aA hsum rfl ?_
  cases hE:nK (l.start.map RF.v) with
  | error e =>
   have he0:=aKE hE
   have:sH l=false:=by unfold sH; rw[hE]
   rw[this,bKO] at hX
   simp only[go_sem,δ,γ,frV]
   refine aQ fun o ho=>?_
   simp only[go_sem,δ,γ]
   refine bS .nil eC PH.nil_le ?_
   simp only[go_sem,γ,ZG,cQ he0,ZH]
   exact fail _ _ hX rfl
  | ok r =>
   have hrok:=aWT hE
   have hrv:=afQ hE
   obtain⟨n,a,b⟩:=r
   have h1:cW 1:=by unfold cW; omega
   have hsame:=L.same (FV.rf (n,a,b)) (mkT 1 1) hrok (DC 1 h1).1 (by unfold RF.valid FV.rf; simp only[aR]; exact hrv) (DC 1 h1).2
   have hP:sH l=(nG (FV.rf (n,a,b)) (mkT 1 1)==0):=by
    unfold sH
    rw[hE,DD]
    unfold nG FV.rf
    simp only[aR,show (1:Int).natAbs=1 from rfl,show decide ((1:Int)<0)=false from rfl]
    by_cases h:pK n a b false 1 1=0<;>simp[h]
   simp only[go_sem,δ,γ,frV]
   refine aQ fun o ho=>?_
   have hH:aS (PH.nil.set o (.rows 3 [(FV.rf (n,a,b)).cells])) [(o,.rows 3 [(FV.rf (n,a,b)).cells])] []:=aS.nil.new (H:=PH.nil) rfl _
   simp only[go_sem,δ,γ]
   refine bS (PH.nil.set o (.rows 3 [(FV.rf (n,a,b)).cells])) (zsS (nG (FV.rf (n,a,b)) (mkT 1 1)==0)) PH.le_refl ?_
   simp only[go_sem,δ,γ,ZG,cA (show (0:Int)=0 from rfl)]
   refine bQ rfl (L.int 1 h1) rfl PH.le_refl ?_
   simp only[go_sem,γ]
   refine bQ rfl hsame rfl PH.le_refl ?_
   rw[← hP]
   cases hp:sH l with
   | false =>
    rw[hp,bKO] at hX
    simp only[go_sem,γ,reduceCtorEq,bKW,ZH]
    exact fail _ _ hX rfl
   | true =>
    rw[hp,bKS,bmB] at hX
    have hb1:((l.start.length:Nat):Int)*((1:Nat):Int)≤140737488355328:=by omega
    have hb2:((l.start.length:Nat):Int)≤9223372036854775807:=by omega
    simp only[go_sem,γ,reduceCtorEq,bKR,aNR,hb1,hb2]
    refine aQ fun q hq=>?_
    simp only[go_sem,γ,aNS]
    have hz0:bKL l.start.length [PV.bool false]=fP (dJ l 0):=by
     rw[← hxl]
     simp[dJ,fP]
    rw[← hxl]
    refine bkM L l hl hend hlim q _ _ _ Lq ?_ ?_
    ·refine PH.aK PH.nil_le ?_
     rw[eS,hxl,hz0]
    simp only[go_sem,aNY]
    have hn4:(dJ l l.exit.length).length≤4:=by rw[oG]; omega
    refine btR (dJ l l.exit.length) hn4 q (kE l) hX _ rfl _ _ ?_ PH.le_refl
    rw[oG]
    exact Lq
structure pS (C:Ctx):Prop extends nM C where
 law:∀ l:cK,l.Ok→aE C 68 [.agg l.cells] .nil (aD (.bool (kE l)))
def okL (base ns:List (List UInt8)) (P:Nat→Bool) (i:Nat):Bool:=gZ (base++ns.take i) (ns.getD i [])&&P i
theorem pE {p:Nat→Bool} (k:Nat) (b:Bool):(b&&(bKJ (k+1)).all p)=((b&&(bKJ k).all p)&&p k):=by
 rw[List.range_succ,List.all_append]
 cases (bKJ k).all p<;>cases b<;>simp
theorem pD {p:Nat→Bool} {b:Bool} {i n:Nat} (hi:i≤n) (h:(b&&(bKJ i).all p)=false):(b&&(bKJ n).all p)=false:=by
 cases b with
 | false=>rfl
 | true =>
  rw[bKS] at h ⊢
  obtain⟨x,hx,hp⟩:=List.all_eq_false.1 h
  exact List.all_eq_false.2 ⟨x,bLL.2 (by have:=bLL.1 hx; omega),hp⟩
structure fZ (H:PH) (w:PV) (base ns:List (List UInt8)) (c:Bool) (i:Nat):Prop where
 ex:∃ names,aS H [] [(w,1,kT names)]∧(c=true→names=base++ns.take i)
section
variable {C:Ctx} {F:PF} {H:PH} {d:Option Nat} {K:PF→PH→Prop}
theorem fZ.call (L:nM C) {w:PV} {base ns:List (List UInt8)} {i:Nat} {B:List BX} {names:List (List UInt8)} (h:aS H B [(w,1,kT names)]) (hl:base.length≤1000) (hi:i≤1000) (hn:names=base++ns.take i) (hin:i<ns.length) {a b:Nat} (bJX:aP.evs F [.tmp a,.tmp b]=some [w,.str ns[i]])
  (hk:∀ w' H',aS H' B [(w',1,kT (names++[ns[i]]))]→fZ H' w' base ns true (i+1)→K (F.put d (.tup [w',.bool (gZ (base++ns.take i) (ns.getD i []))])) H'):fU C 70 [.tmp a,.tmp b] [] d K F H:=by
 refine VS (B1:=[]) (B2:=B) (L1:=[(w,1,kT names)]) (L2:=[]) (Q:=ZQ names ns[i]) h (fun H0 h0=>L.fresh names (by rw[hn,bKQ,bLB]; omega) ns[i] w H0 h0) bJX ?_
 rintro r B' L' H' ⟨w',rfl,rfl,rfl⟩ h'
 have hgd:ns.getD i []=ns[i]:=by simp[bLC,hin]
 rw[hgd,← hn] at hk
 refine hk w' H' h' ⟨names++[ns[i]],h'.sub (List.nil_sublist _) (bMK.refl _),fun _=>?_⟩
 rw[bMA hin,← bLI,hn]
end
theorem fZ.anM {H:PH} {w:PV} {base ns:List (List UInt8)} {c:Bool} {i:Nat} (h:fZ H w base ns true i):fZ H w base ns c i:=by
 obtain⟨names,h1,h3⟩:=h.ex
 exact⟨names,h1,fun _=>h3 rfl⟩
def GW (f:aH):Bool:=(bKJ f.bIN.length).all (okL [] (f.bIN.map cK.name) fun i=>(f.bIN.map kE).getD i false)
theorem bqW {C:Ctx} (L:pS C) (f:aH) (hf:f.Ok) (hs:f.bIN.length≤4) (K:cO) [Up K] (F:PF) (H:PH)
  (hF:(((((((((PF.nil.set 1 (.bH f.cells)).set 3 (.aB)).set 4 (.aB)).set 5 (.aB)).set 6 (.aB)).set 7 (.aB)).set 8 (.bool true)).set 9 (.int .i64 0)):PF).le F)
  (hK:∀ H',K (.exit 0) (((((((PF.nil.set 1 (.bH f.cells)).set 4 (.aB)).set 5 (.aB)).set 6 (.aB)).set 7 (.aB)).set 8 (.bool (GW f)))) H'):aC.wp C (.loop JV) K F H:=by
 obtain⟨ok,hok⟩:∃ ok,okL [] (f.bIN.map cK.name) (fun i=>(f.bIN.map kE).getD i false)=ok:=⟨_,rfl⟩
 unfold GW at hK
 rw[hok] at hK
 refine wp_loop (α:=Nat × PV × PH) (fun s=>((((((((PF.nil.set 1 (.bH f.cells)).set 3 (s.2.1)).set 4 (.aB)).set 5 (.aB)).set 6 (.aB)).set 7 (.aB)).set 8 (.bool (true&&(bKJ s.1).all ok))).set 9 (.int .i64 s.1))) (fun s=>s.2.2) (fun s=>s.1≤f.bIN.length∧fZ s.2.2 s.2.1 [] (f.bIN.map cK.name) (true&&(bKJ s.1).all ok) s.1) (fun s=>f.bIN.length-s.1)
  (0,.aB,H) ⟨bKT _,⟨[],aS.nil.pJ 1,fun _=>rfl⟩⟩ hF PH.le_refl ?_
 rintro⟨i,w,H0⟩ ⟨hi,hG⟩
 simp only at hi hG ⊢
 have fin:∀ (b:Bool) (w':PV) (F':PF) (H':PH),i<f.bIN.length→(true&&(bKJ (i+1)).all ok)=b→fZ H' w' [] (f.bIN.map cK.name) true (i+1) →
   (((((((((PF.nil.set 1 (.bH f.cells)).set 3 (w')).set 4 (.aB)).set 5 (.aB)).set 6 (.aB)).set 7 (.aB)).set 8 (.bool b)).set 9 (.int .i64 (i+1:Nat))):PF).le F' →
   eI (fun s:Nat × PV × PH=>((((((((PF.nil.set 1 (.bH f.cells)).set 3 (s.2.1)).set 4 (.aB)).set 5 (.aB)).set 6 (.aB)).set 7 (.aB)).set 8 (.bool (true&&(bKJ s.1).all ok))).set 9 (.int .i64 s.1))) (fun s=>s.2.2) (fun s=>s.1≤f.bIN.length∧fZ s.2.2 s.2.1 [] (f.bIN.map cK.name) (true&&(bKJ s.1).all ok) s.1) (fun s=>f.bIN.length-s.1) (f.bIN.length-i) K .normal F' H' :=
  fun b w' F' H' hlt hb hG' hF'=>aI (i+1,w',H') ⟨hlt,hG'.anM⟩ (by simp only; omega) (by simp only; rw[hb]; exact hF') PH.le_refl
 have bIM:=pE (p:=ok) i true
 have stop:(true&&(bKJ i).all ok)=(true&&(bKJ f.bIN.length).all ok)→K (.exit 0) (((((((PF.nil.set 1 (.bH f.cells)).set 4 (.aB)).set 5 (.aB)).set 6 (.aB)).set 7 (.aB)).set 8 (.bool (true&&(bKJ i).all ok)))) H0:=fun e=>by
  rw[e,bKS]; exact hK H0
 have hacc:=fun h=>pD (p:=ok) (b:=true) hi h
 generalize hc:(true&&(bKJ i).all ok)=c at *
 simp only[go_sem,δ,γ,θ,JV,axE,bKI]
 by_cases hlt:i<f.bIN.length
 ·have bIL:(i:Int)<(f.bIN.length:Nat):=by omega
  cases c with
  | false =>
   simp only[go_sem,γ,bIL]
   exact Up.up Lq (stop (hacc rfl).symm)
  | true =>
   obtain⟨names,g1,g3⟩:=hG.ex
   have hat:(f.bIN.map cK.cells)[i]?=some (f.bIN[i]).cells:=by simp[hlt]
   have hin:i<(f.bIN.map cK.name).length:=by rw[bKI]; exact hlt
   have hoki:ok i=(gZ ([]++(f.bIN.map cK.name).take i) ((f.bIN.map cK.name).getD i [])&&kE f.bIN[i]):=by
    rw[← hok]
    unfold okL
    simp[bLC,hlt]
   have hl:=L.law _ (hf.law _ (bKM hlt))
   rw[hoki] at bIM
   simp only[go_sem,δ,γ,θ,bIL,axF,hat]
   refine fZ.call L.tonM (ns:=f.bIN.map cK.name) g1 (bKT _) Om (g3 rfl) hin (by simp only[go_sem,γ,bMS]) fun w' H1 h1 hG1=>?_
   generalize gZ ([]++(f.bIN.map cK.name).take i) ((f.bIN.map cK.name).getD i [])=fb at *
   cases fb with
   | false =>
    simp only[go_sem,γ,reduceCtorEq,RS,RT,wZz i]
    exact fin false w' _ _ hlt (bIM.trans rfl) hG1 Lq
   | true =>
    simp only[go_sem,δ,γ,θ,RS,hat]
    refine aA hl rfl ?_
    simp only[go_sem,γ,RT,wZz i]
    exact fin _ w' _ _ hlt (bIM.trans rfl) hG1 Lq
 ·have bIL:¬ (i:Int)<(f.bIN.length:Nat):=by omega
  have:i=f.bIN.length:=by omega
  subst this
  simp only[go_sem,γ,reduceCtorEq,bIL]
  exact Up.up Lq (stop hc.symm)
theorem PL {a b c d e f:Nat} (h:nI a b c d e f=true):a≤4∧b≤4∧c≤40∧d≤24∧e≤4∧f≤12:=by
 simp only[nI,bLF,decide_eq_true_eq] at h
 omega
theorem aiQ {n:Nat} (h:n≤1000):IntKind.i64.wrap ((n:Int)-1)=(n:Int)-1:=wrap_i64 Om Om
def inS:Spec:=fun name vs=>match name,vs with
 | 76,[.int _ n,.int _ lo,.int _ hi]=>some ([],fun _=>aD (.bool (within n lo hi)))
 | _,_=>none
def alW (bIN:Nat) (m:cV):Bool:=within m.bIY 1 16&&(within m.port 1 64&&within m.law 0 ((bIN:Int)-1))
def aMW (pols:Nat) (v:eD):Bool:=within v.bIS 0 ((pols:Int)-1)
def vZ (f:aH):Bool:=(bKJ f.bIF.length).all (okL [] (f.bIF.map cV.name) fun i=>(f.bIF.map (alW f.bIN.length)).getD i false)
theorem beC {C:Ctx} (L:pS C) (f:aH) (hf:f.Ok) (hz:nI f.bIN.length f.bIF.length f.bIH.length f.bIE.length f.bII.length f.bIG.length=true) (b:Bool) (K:cO) [Up K] (F:PF) (H:PH)
  (hF:((((((((PF.nil.set 1 (.bH f.cells)).set 4 (.aB)).set 5 (.aB)).set 6 (.aB)).set 7 (.aB)).set 8 (.bool b)).set 10 (.int .i64 0)):PF).le F)
  (hK:∀ H',K (.exit 2) ((((((PF.nil.set 1 (.bH f.cells)).set 5 (.aB)).set 6 (.aB)).set 7 (.aB)).set 8 (.bool (b&&vZ f)))) H'):aC.wp C (.loop JW) K F H:=by
 obtain⟨hz1,hz2,hz3,hz4,hz5,hz6⟩:=PL hz
 obtain⟨ok,hok⟩:∃ ok,okL [] (f.bIF.map cV.name) (fun i=>(f.bIF.map (alW f.bIN.length)).getD i false)=ok:=⟨_,rfl⟩
 unfold vZ at hK
 rw[hok] at hK
 refine wp_loop (α:=Nat × PV × PH) (fun s=>(((((((PF.nil.set 1 (.bH f.cells)).set 4 (s.2.1)).set 5 (.aB)).set 6 (.aB)).set 7 (.aB)).set 8 (.bool (b&&(bKJ s.1).all ok))).set 10 (.int .i64 s.1))) (fun s=>s.2.2) (fun s=>s.1≤f.bIF.length∧fZ s.2.2 s.2.1 [] (f.bIF.map cV.name) (b&&(bKJ s.1).all ok) s.1) (fun s=>f.bIF.length-s.1)
  (0,.aB,H) ⟨bKT _,⟨[],aS.nil.pJ 1,fun _=>rfl⟩⟩ (by
   have e:(b&&(bKJ 0).all ok)=b:=by cases b<;>rfl
   simp only[e]
   exact hF) PH.le_refl ?_
 rintro⟨i,w,H0⟩ ⟨hi,hG⟩
 simp only at hi hG ⊢
 have fin:∀ (c:Bool) (w':PV) (F':PF) (H':PH),i<f.bIF.length→(b&&(bKJ (i+1)).all ok)=c→fZ H' w' [] (f.bIF.map cV.name) true (i+1) →
   ((((((((PF.nil.set 1 (.bH f.cells)).set 4 (w')).set 5 (.aB)).set 6 (.aB)).set 7 (.aB)).set 8 (.bool c)).set 10 (.int .i64 (i+1:Nat))):PF).le F' →
   eI (fun s:Nat × PV × PH=>(((((((PF.nil.set 1 (.bH f.cells)).set 4 (s.2.1)).set 5 (.aB)).set 6 (.aB)).set 7 (.aB)).set 8 (.bool (b&&(bKJ s.1).all ok))).set 10 (.int .i64 s.1))) (fun s=>s.2.2) (fun s=>s.1≤f.bIF.length∧fZ s.2.2 s.2.1 [] (f.bIF.map cV.name) (b&&(bKJ s.1).all ok) s.1) (fun s=>f.bIF.length-s.1) (f.bIF.length-i) K .normal F' H' :=
  fun c w' F' H' hlt hb hG' hF'=>aI (i+1,w',H') ⟨hlt,hG'.anM⟩ (by simp only; omega) (by simp only; rw[hb]; exact hF') PH.le_refl
 have bIM:=pE (p:=ok) i b
 have stop:(b&&(bKJ i).all ok)=(b&&(bKJ f.bIF.length).all ok)→K (.exit 2) ((((((PF.nil.set 1 (.bH f.cells)).set 5 (.aB)).set 6 (.aB)).set 7 (.aB)).set 8 (.bool (b&&(bKJ i).all ok)))) H0:=fun e=>by
  rw[e]; exact hK H0
 have hacc:=fun h=>pD (p:=ok) (b:=b) hi h
 generalize hc:(b&&(bKJ i).all ok)=c at *
 simp only[go_sem,δ,γ,θ,JW,ajW,bKI]
 by_cases hlt:i<f.bIF.length
 ·have bIL:(i:Int)<(f.bIF.length:Nat):=by omega
  cases c with
  | false =>
   simp only[go_sem,γ,bIL]
   exact Up.up Lq (stop (hacc rfl).symm)
  | true =>
   obtain⟨names,g1,g3⟩:=hG.ex
   have hat:(f.bIF.map cV.cells)[i]?=some (f.bIF[i]).cells:=by simp[hlt]
   have hin:i<(f.bIF.map cV.name).length:=by rw[bKI]; exact hlt
   have hoki:ok i=(gZ ([]++(f.bIF.map cV.name).take i) ((f.bIF.map cV.name).getD i [])&&(alW f.bIN.length) f.bIF[i]):=by
    rw[← hok]
    unfold okL
    simp[bLC,hlt]
   rw[hoki] at bIM
   have bJR:alW f.bIN.length f.bIF[i]=(within (f.bIF[i]).bIY 1 16&&(within (f.bIF[i]).port 1 64&&within (f.bIF[i]).law 0 ((f.bIN.length:Int)-1))):=rfl
   rw[bJR] at bIM
   simp only[go_sem,δ,γ,θ,bIL,ajX,hat]
   refine aQ fun o ho=>?_
   have g4:=g1.new ho (.rows 4 [(f.bIF[i]).cells])
   have g5:=g4.at 0 rfl
   simp only[go_sem,δ,γ]
   generalize H0.set o (.rows 4 [(f.bIF[i]).cells])=H2 at *
   simp only[go_sem,δ,γ,θ,ajY,g5]
   refine fZ.call L.tonM (ns:=(f.bIF.map cV.name)) g4 (bKT _) Om (g3 rfl) hin (by simp only[go_sem,γ,bMS]) fun w' H1 h1 hG1=>?_
   have g6:=h1.at 0 rfl
   generalize gZ ([]++(f.bIF.map cV.name).take i) ((f.bIF.map cV.name).getD i [])=fb at *
   cases fb with
   | false =>
    simp only[go_sem,γ,reduceCtorEq,JY,rL,wZz i]
    exact fin false w' _ _ hlt (bIM.trans rfl) hG1 Lq
   | true =>
    simp only[go_sem,δ,γ,θ,JY,g6]
    refine aA (L.inn (f.bIF[i]).bIY 1 16) rfl ?_
    cases k0:within (f.bIF[i]).bIY 1 16 with
    | false =>
     simp only[go_sem,γ,reduceCtorEq,rL,wZz i]
     exact fin false w' _ _ hlt (by rw[bIM,k0]<;>simp) hG1 Lq
    | true =>
     simp only[go_sem,δ,γ,θ,g6]
     refine aA (L.inn (f.bIF[i]).port 1 64) rfl ?_
     cases k1:within (f.bIF[i]).port 1 64 with
     | false =>
      simp only[go_sem,γ,reduceCtorEq,rL,wZz i]
      exact fin false w' _ _ hlt (by rw[bIM,k0,k1]<;>simp) hG1 Lq
     | true =>
      simp only[go_sem,δ,γ,θ,g6,bKI,aiQ (Om:f.bIN.length≤1000)]
      refine aA (L.inn (f.bIF[i]).law 0 ((f.bIN.length:Int)-1)) rfl ?_
      simp only[go_sem,γ,rL,wZz i]
      exact fin _ w' _ _ hlt (by rw[bIM,k0,k1]<;>simp) hG1 Lq
 ·have bIL:¬ (i:Int)<(f.bIF.length:Nat):=by omega
  have:i=f.bIF.length:=by omega
  subst this
  simp only[go_sem,γ,reduceCtorEq,bIL]
  exact Up.up Lq (stop hc.symm)
def ayD (f:aH):Bool:=(bKJ f.bIG.length).all (okL [] (f.bIG.map eD.name) fun i=>(f.bIG.map (aMW f.bII.length)).getD i false)
theorem bqY {C:Ctx} (L:pS C) (f:aH) (hf:f.Ok) (hz:nI f.bIN.length f.bIF.length f.bIH.length f.bIE.length f.bII.length f.bIG.length=true) (b:Bool) (K:cO) [Up K] (F:PF) (H:PH)
  (hF:(((((PF.nil.set 1 (.bH f.cells)).set 7 (.aB)).set 8 (.bool b)).set 21 (.int .i64 0)):PF).le F)
  (hK:∀ H',K (.exit 14) (((PF.nil.set 1 (.bH f.cells)).set 8 (.bool (b&&ayD f)))) H'):aC.wp C (.loop vL) K F H:=by
 obtain⟨hz1,hz2,hz3,hz4,hz5,hz6⟩:=PL hz
 obtain⟨ok,hok⟩:∃ ok,okL [] (f.bIG.map eD.name) (fun i=>(f.bIG.map (aMW f.bII.length)).getD i false)=ok:=⟨_,rfl⟩
 unfold ayD at hK
 rw[hok] at hK
 refine wp_loop (α:=Nat × PV × PH) (fun s=>((((PF.nil.set 1 (.bH f.cells)).set 7 (s.2.1)).set 8 (.bool (b&&(bKJ s.1).all ok))).set 21 (.int .i64 s.1))) (fun s=>s.2.2) (fun s=>s.1≤f.bIG.length∧fZ s.2.2 s.2.1 [] (f.bIG.map eD.name) (b&&(bKJ s.1).all ok) s.1) (fun s=>f.bIG.length-s.1)
  (0,.aB,H) ⟨bKT _,⟨[],aS.nil.pJ 1,fun _=>rfl⟩⟩ (by
   have e:(b&&(bKJ 0).all ok)=b:=by cases b<;>rfl
   simp only[e]
   exact hF) PH.le_refl ?_
 rintro⟨i,w,H0⟩ ⟨hi,hG⟩
 simp only at hi hG ⊢
 have fin:∀ (c:Bool) (w':PV) (F':PF) (H':PH),i<f.bIG.length→(b&&(bKJ (i+1)).all ok)=c→fZ H' w' [] (f.bIG.map eD.name) true (i+1) →
   (((((PF.nil.set 1 (.bH f.cells)).set 7 (w')).set 8 (.bool c)).set 21 (.int .i64 (i+1:Nat))):PF).le F' →
   eI (fun s:Nat × PV × PH=>((((PF.nil.set 1 (.bH f.cells)).set 7 (s.2.1)).set 8 (.bool (b&&(bKJ s.1).all ok))).set 21 (.int .i64 s.1))) (fun s=>s.2.2) (fun s=>s.1≤f.bIG.length∧fZ s.2.2 s.2.1 [] (f.bIG.map eD.name) (b&&(bKJ s.1).all ok) s.1) (fun s=>f.bIG.length-s.1) (f.bIG.length-i) K .normal F' H' :=
  fun c w' F' H' hlt hb hG' hF'=>aI (i+1,w',H') ⟨hlt,hG'.anM⟩ (by simp only; omega) (by simp only; rw[hb]; exact hF') PH.le_refl
 have bIM:=pE (p:=ok) i b
 have stop:(b&&(bKJ i).all ok)=(b&&(bKJ f.bIG.length).all ok)→K (.exit 14) (((PF.nil.set 1 (.bH f.cells)).set 8 (.bool (b&&(bKJ i).all ok)))) H0:=fun e=>by
  rw[e]; exact hK H0
 have hacc:=fun h=>pD (p:=ok) (b:=b) hi h
 generalize hc:(b&&(bKJ i).all ok)=c at *
 simp only[go_sem,γ,vL,akO,bKI]
 by_cases hlt:i<f.bIG.length
 ·have bIL:(i:Int)<(f.bIG.length:Nat):=by omega
  cases c with
  | false =>
   simp only[go_sem,γ,bIL]
   exact Up.up Lq (stop (hacc rfl).symm)
  | true =>
   obtain⟨names,g1,g3⟩:=hG.ex
   have hat:(f.bIG.map eD.cells)[i]?=some (f.bIG[i]).cells:=by simp[hlt]
   have hin:i<(f.bIG.map eD.name).length:=by rw[bKI]; exact hlt
   have hoki:ok i=(gZ ([]++(f.bIG.map eD.name).take i) ((f.bIG.map eD.name).getD i [])&&(aMW f.bII.length) f.bIG[i]):=by
    rw[← hok]
    unfold okL
    simp[bLC,hlt]
   rw[hoki] at bIM
   have bJR:aMW f.bII.length f.bIG[i]=within (f.bIG[i]).bIS 0 ((f.bII.length:Int)-1):=rfl
   rw[bJR] at bIM
   simp only[go_sem,δ,γ,θ,bIL,akP,hat]
   refine fZ.call L.tonM (ns:=(f.bIG.map eD.name)) g1 (bKT _) Om (g3 rfl) hin (by simp only[go_sem,γ,bMS]) fun w' H1 h1 hG1=>?_
   generalize gZ ([]++(f.bIG.map eD.name).take i) ((f.bIG.map eD.name).getD i [])=fb at *
   cases fb with
   | false =>
    simp only[go_sem,γ]
    refine bS .nil (inS) PH.nil_le ?_
    simp only[go_sem,γ,reduceCtorEq,KL,KM,wZz i]
    exact fin false w' _ _ hlt (bIM.trans rfl) hG1 Lq
   | true =>
    simp only[go_sem,γ]
    refine bS .nil (inS) PH.nil_le ?_
    simp only[go_sem,δ,γ,θ,KL,hat,bKI,aiQ (Om:f.bII.length≤1000)]
    refine bQ rfl (L.inn (f.bIG[i]).bIS 0 ((f.bII.length:Int)-1)) rfl PH.nil_le ?_
    simp only[go_sem,γ,KM,wZz i]
    exact fin _ w' _ _ hlt (bIM.trans rfl) hG1 Lq
 ·have bIL:¬ (i:Int)<(f.bIG.length:Nat):=by omega
  have:i=f.bIG.length:=by omega
  subst this
  simp only[go_sem,γ,reduceCtorEq,bIL]
  exact Up.up Lq (stop hc.symm)
def a2I:Spec:=fun name vs=>match name,vs with
 | 76,[.int _ n,.int _ lo,.int _ hi]=>some ([],fun _=>aD (.bool (within n lo hi)))
 | 74,[.agg cs]=>some ([],fun _=>aD (.bool (cI (frD cs))))
 | _,_=>none
theorem a2J (x:RF):a2I 74 [.agg x.cells]=some ([],fun _=>aD (.bool (cI x))):=by
 show some ([],fun _=>aD (.bool (cI (frD x.cells))))=_
 rw[apA]
def aAL (f:aH) (i:Nat) (d:bP):Bool :=
 within d.level 1 4&&(within d.parent 0 i&&(((f.bIH.map bP.level).getD d.parent.toNat 0==IntKind.i64.wrap (d.level-1))&&(within d.bJE 1 64&&cI d.bIW)))
theorem blZ (f:aH) (i:Nat) (d:bP):FO f i d=aAL f i d:=by
 unfold FO aAL
 have:decide ((f.bIH.map bP.level).getD d.parent.toNat 0=IntKind.i64.wrap (d.level-1))=((f.bIH.map bP.level).getD d.parent.toNat 0==IntKind.i64.wrap (d.level-1)):=by
  generalize (f.bIH.map bP.level).getD d.parent.toNat 0=u
  by_cases h:u=IntKind.i64.wrap (d.level-1)<;>simp[h]
 rw[this]
 cases within d.parent 0 i<;>cases within d.level 1 4<;>cases within d.bJE 1 64<;>simp
def fV (f:aH):List (List UInt8):=(f.bIH.drop 1).map bP.name
def uL (f:aH) (i:Nat):Bool:=match f.bIH[i+1]? with
 | some d=>aAL f i d
 | none=>false
def uN (f:aH):Bool:=(bKJ (f.bIH.length-1)).all (okL [] (fV f) (uL f))
theorem aAK (f:aH):(fV f).length=f.bIH.length-1:=by simp[fV]
theorem bqV {C:Ctx} (L:pS C) (f:aH) (hf:f.Ok) (hz3:f.bIH.length≤40) (h0:0<f.bIH.length) (b:Bool) (K:cO) [Up K] (F:PF) (H:PH)
  (hF:(((((((PF.nil.set 1 (.bH f.cells)).set 5 (.aB)).set 6 (.aB)).set 7 (.aB)).set 8 (.bool b)).set 13 (.int .i64 1)):PF).le F)
  (hK:∀ w H',fZ H' w [] (fV f) (b&&uN f) (f.bIH.length-1)→K (.exit 4) ((((((PF.nil.set 1 (.bH f.cells)).set 5 (w)).set 6 (.aB)).set 7 (.aB)).set 8 (.bool (b&&uN f)))) H'):aC.wp C (.loop vH) K F H:=by
 obtain⟨ok,hok⟩:∃ ok,okL [] (fV f) (uL f)=ok:=⟨_,rfl⟩
 unfold uN at hK
 rw[hok] at hK
 obtain⟨n,hn⟩:∃ n,f.bIH.length=n+1:=⟨f.bIH.length-1,by omega⟩
 have hnl:=aAK f
 have hn1:f.bIH.length-1=n:=by omega
 rw[hn1] at hK hnl
 refine wp_loop (α:=Nat × PV × PH) (fun s=>((((((PF.nil.set 1 (.bH f.cells)).set 5 (s.2.1)).set 6 (.aB)).set 7 (.aB)).set 8 (.bool (b&&(bKJ s.1).all ok))).set 13 (.int .i64 (s.1+1:Nat)))) (fun s=>s.2.2) (fun s=>s.1≤n∧fZ s.2.2 s.2.1 [] (fV f) (b&&(bKJ s.1).all ok) s.1) (fun s=>n-s.1)
  (0,.aB,H) ⟨bKT _,⟨[],aS.nil.pJ 1,fun _=>rfl⟩⟩ (by
   have e:(b&&(bKJ 0).all ok)=b:=by cases b<;>rfl
   simp only[e]
   exact hF) PH.le_refl ?_
 rintro⟨i,w,H0⟩ ⟨hi,hG⟩
 simp only at hi hG ⊢
 have fin:∀ (c:Bool) (w':PV) (F':PF) (H':PH),i<n→(b&&(bKJ (i+1)).all ok)=c→fZ H' w' [] (fV f) true (i+1) →
   (((((((PF.nil.set 1 (.bH f.cells)).set 5 (w')).set 6 (.aB)).set 7 (.aB)).set 8 (.bool c)).set 13 (.int .i64 (i+1+1:Nat))):PF).le F' →
   eI (fun s:Nat × PV × PH=>((((((PF.nil.set 1 (.bH f.cells)).set 5 (s.2.1)).set 6 (.aB)).set 7 (.aB)).set 8 (.bool (b&&(bKJ s.1).all ok))).set 13 (.int .i64 (s.1+1:Nat)))) (fun s=>s.2.2) (fun s=>s.1≤n∧fZ s.2.2 s.2.1 [] (fV f) (b&&(bKJ s.1).all ok) s.1) (fun s=>n-s.1) (n-i) K .normal F' H' :=
  fun c w' F' H' hlt hb hG' hF'=>aI (i+1,w',H') ⟨hlt,hG'.anM⟩ (by simp only; omega) (by simp only; rw[hb]; exact hF') PH.le_refl
 have bIM:=pE (p:=ok) i b
 have hacc:=fun h=>pD (p:=ok) (b:=b) hi h
 have stop:(b&&(bKJ i).all ok)=(b&&(bKJ n).all ok)→((b&&(bKJ i).all ok)=true→i=n)→K (.exit 4) ((((((PF.nil.set 1 (.bH f.cells)).set 5 (w)).set 6 (.aB)).set 7 (.aB)).set 8 (.bool (b&&(bKJ i).all ok)))) H0:=fun e e2=>by
  obtain⟨names,g1,g3⟩:=hG.ex
  have:=hK w H0 ⟨names,g1,fun h=>by
   have h':=e.trans h
   rw[g3 h',e2 h']⟩
  rwa [← e] at this
 generalize hc:(b&&(bKJ i).all ok)=c at *
 simp only[go_sem,δ,γ,θ,vH,akA,bKI]
 by_cases hlt:i<n
 ·have bIL:((i+1:Nat):Int)<(f.bIH.length:Nat):=by omega
  cases c with
  | false =>
   simp only[go_sem,γ,bIL]
   exact Up.up Lq (stop (hacc rfl).symm (fun h=>by cases h))
  | true =>
   obtain⟨names,g1,g3⟩:=hG.ex
   have hid:i+1<f.bIH.length:=by omega
   have hat:=uM hid
   have hin:i<(fV f).length:=by omega
   have hnm:(fV f)[i]=(f.bIH[i+1]).name:=by simp[fV,Nat.add_comm]
   have hoki:ok i=(gZ ([]++(fV f).take i) ((fV f).getD i [])&&aAL f i f.bIH[i+1]):=by
    rw[← hok]
    unfold okL uL
    rw[bKU hid]
   have hdo:=hf.dom _ (bKM hid)
   rw[hoki] at bIM
   unfold aAL at bIM
   have e1:IntKind.i64.wrap (((i+1:Nat):Int)-1)=(i:Nat):=by rw[wrap_i64 Om Om]; omega
   have winc:IntKind.i64.wrap (((i+1:Nat):Int)+1)=((i+1+1:Nat):Int):=dC Om
   have hsm:=L.small _ hdo.1
   simp only[go_sem,δ,γ,θ,bIL,akB,hat]
   refine aQ fun o ho=>?_
   have g4:=g1.new ho (.rows 7 [(f.bIH[i+1]).cells])
   have g5:=g4.at 0 rfl
   simp only[go_sem,δ,γ]
   generalize H0.set o (.rows 7 [(f.bIH[i+1]).cells])=H2 at *
   simp only[go_sem,δ,γ,θ,akC,g5]
   refine fZ.call L.tonM (ns:=fV f) g4 (bKT _) Om (g3 rfl) hin (by simp only[go_sem,γ,hnm]) fun w' H1 h1 hG1=>?_
   have g6:=h1.at 0 rfl
   generalize gZ ([]++(fV f).take i) ((fV f).getD i [])=fb at *
   generalize hd:f.bIH[i+1]=dd at *
   cases fb with
   | false =>
    simp only[go_sem,γ]
    refine bS .nil a2I PH.nil_le ?_
    simp only[go_sem,γ,reduceCtorEq,KC,mG,winc]
    exact fin false w' _ _ hlt (bIM.trans rfl) hG1 Lq
   | true =>
    simp only[go_sem,γ]
    refine bS .nil a2I PH.nil_le ?_
    simp only[go_sem,δ,γ,θ,reduceCtorEq,KC,g6]
    refine bQ rfl (L.inn dd.level 1 4) rfl PH.nil_le ?_
    cases k0:within dd.level 1 4 with
    | false =>
     simp only[go_sem,γ,reduceCtorEq,mG,winc]
     exact fin false w' _ _ hlt (by rw[bIM,k0]<;>simp) hG1 Lq
    | true =>
     simp only[go_sem,δ,γ,θ,reduceCtorEq,g6,e1]
     refine bQ rfl (L.inn dd.parent 0 (i:Nat)) rfl PH.nil_le ?_
     cases k1:within dd.parent 0 (i:Nat) with
     | false =>
      simp only[go_sem,γ,reduceCtorEq,mG,winc]
      exact fin false w' _ _ hlt (by rw[bIM,k0,k1]<;>simp) hG1 Lq
     | true =>
      obtain⟨p0,p1⟩:=within_iff.1 k1
      obtain⟨p,hp⟩:∃ p:Nat,dd.parent=p:=⟨dd.parent.toNat,by omega⟩
      have hpd:p<f.bIH.length:=by omega
      obtain⟨lv,hlv⟩:∃ lv,(f.bIH.map bP.level).getD dd.parent.toNat 0=lv:=⟨_,rfl⟩
      have hpl:(f.bIH[p]).level=lv:=by rw[← hlv,hp,bNO,nU hpd]
      rw[hlv] at bIM
      have hpat:=uM hpd
      simp only[go_sem,δ,γ,θ,reduceCtorEq,g6,hp,hpat,hpl]
      cases k2:lv==IntKind.i64.wrap (dd.level-1) with
      | false =>
       simp only[go_sem,γ,reduceCtorEq,mG,winc]
       exact fin false w' _ _ hlt (by rw[bIM,k0,k1,k2]<;>simp) hG1 Lq
      | true =>
       simp only[go_sem,δ,γ,θ,reduceCtorEq,g6]
       refine bQ rfl (L.inn dd.bJE 1 64) rfl PH.nil_le ?_
       cases k3:within dd.bJE 1 64 with
       | false =>
        simp only[go_sem,γ,reduceCtorEq,mG,winc]
        exact fin false w' _ _ hlt (by rw[bIM,k0,k1,k2,k3]<;>simp) hG1 Lq
       | true =>
        simp only[go_sem,δ,γ,reduceCtorEq,g6]
        refine bQ (a2J _) hsm rfl PH.nil_le ?_
        simp only[go_sem,γ,mG,winc]
        exact fin _ w' _ _ hlt (by rw[bIM,k0,k1,k2,k3]<;>simp) hG1 Lq
 ·have bIL:¬ ((i+1:Nat):Int)<(f.bIH.length:Nat):=by omega
  have:i=n:=by omega
  subst this
  simp only[go_sem,γ,reduceCtorEq,bIL]
  exact Up.up Lq (stop hc.symm (fun _=>rfl))
def aAN (f:aH) (d:cD):Bool:=within d.model 0 ((f.bIF.length:Int)-1)&&(within d.machine 0 ((f.bIH.length:Int)-1)&&((f.bIH.map bP.level).getD d.machine.toNat 0==4))
def kK (f:aH):List (List UInt8):=f.bIE.map cD.name
def sK (f:aH) (i:Nat):Bool:=match f.bIE[i]? with
 | some d=>aAN f d
 | none=>false
def vN (f:aH):Bool:=(bKJ f.bIE.length).all (okL (fV f) (kK f) (sK f))
theorem beB {C:Ctx} (L:pS C) (f:aH) (hf:f.Ok) (hz3:f.bIH.length≤40) (h0:0<f.bIH.length) (hz4:f.bIE.length≤24) (hz2:f.bIF.length≤4) (b:Bool) (w0:PV) (K:cO) [Up K] (F:PF) (H:PH)
  (hG0:fZ H w0 [] (fV f) b (f.bIH.length-1)) (hF:(((((((PF.nil.set 1 (.bH f.cells)).set 5 (w0)).set 6 (.aB)).set 7 (.aB)).set 8 (.bool b)).set 15 (.int .i64 0)):PF).le F)
  (hK:∀ H',K (.exit 6) (((((PF.nil.set 1 (.bH f.cells)).set 6 (.aB)).set 7 (.aB)).set 8 (.bool (b&&vN f)))) H'):aC.wp C (.loop vI) K F H:=by
 obtain⟨ok,hok⟩:∃ ok,okL (fV f) (kK f) (sK f)=ok:=⟨_,rfl⟩
 unfold vN at hK
 rw[hok] at hK
 obtain⟨n,hn⟩:∃ n,f.bIE.length=n:=⟨_,rfl⟩
 have hdl:=aAK f
 have hnl:(kK f).length=n:=by simp[kK,hn]
 rw[hn] at hK
 refine wp_loop (α:=Nat × PV × PH) (fun s=>((((((PF.nil.set 1 (.bH f.cells)).set 5 (s.2.1)).set 6 (.aB)).set 7 (.aB)).set 8 (.bool (b&&(bKJ s.1).all ok))).set 15 (.int .i64 s.1))) (fun s=>s.2.2) (fun s=>s.1≤n∧fZ s.2.2 s.2.1 (fV f) (kK f) (b&&(bKJ s.1).all ok) s.1) (fun s=>n-s.1)
  (0,w0,H) ⟨bKT _,by
   obtain⟨names,q1,q2⟩:=hG0.ex
   have e:(b&&(bKJ 0).all ok)=b:=by cases b<;>rfl
   refine⟨names,q1,fun h=>?_⟩
   simp only[e] at h
   rw[q2 h,bMY,bKZ Om]
   simp⟩ (by
   have e:(b&&(bKJ 0).all ok)=b:=by cases b<;>rfl
   simp only[e]
   exact hF) PH.le_refl ?_
 rintro⟨i,w,H0⟩ ⟨hi,hG⟩
 simp only at hi hG ⊢
 have fin:∀ (c:Bool) (w':PV) (F':PF) (H':PH),i<n→(b&&(bKJ (i+1)).all ok)=c→fZ H' w' (fV f) (kK f) true (i+1) →
   (((((((PF.nil.set 1 (.bH f.cells)).set 5 (w')).set 6 (.aB)).set 7 (.aB)).set 8 (.bool c)).set 15 (.int .i64 (i+1:Nat))):PF).le F' →
   eI (fun s:Nat × PV × PH=>((((((PF.nil.set 1 (.bH f.cells)).set 5 (s.2.1)).set 6 (.aB)).set 7 (.aB)).set 8 (.bool (b&&(bKJ s.1).all ok))).set 15 (.int .i64 s.1))) (fun s=>s.2.2) (fun s=>s.1≤n∧fZ s.2.2 s.2.1 (fV f) (kK f) (b&&(bKJ s.1).all ok) s.1) (fun s=>n-s.1) (n-i) K .normal F' H' :=
  fun c w' F' H' hlt hb hG' hF'=>aI (i+1,w',H') ⟨hlt,hG'.anM⟩ (by simp only; omega) (by simp only; rw[hb]; exact hF') PH.le_refl
 have bIM:=pE (p:=ok) i b
 have hacc:=fun h=>pD (p:=ok) (b:=b) hi h
 have stop:(b&&(bKJ i).all ok)=(b&&(bKJ n).all ok)→K (.exit 6) (((((PF.nil.set 1 (.bH f.cells)).set 6 (.aB)).set 7 (.aB)).set 8 (.bool (b&&(bKJ i).all ok)))) H0:=fun e=>by
  rw[e]; exact hK H0
 generalize hc:(b&&(bKJ i).all ok)=c at *
 simp only[go_sem,δ,γ,θ,vI,akD,bKI]
 by_cases hlt:i<n
 ·have bIL:((i:Nat):Int)<(f.bIE.length:Nat):=by omega
  cases c with
  | false =>
   simp only[go_sem,γ,bIL]
   exact Up.up Lq (stop (hacc rfl).symm)
  | true =>
   obtain⟨names,g1,g3⟩:=hG.ex
   have hid:i<f.bIE.length:=by omega
   have hat:=aoL hid
   have hin:i<(kK f).length:=by omega
   have hnm:(kK f)[i]=(f.bIE[i]).name:=by simp[kK]
   have hoki:ok i=(gZ (fV f++(kK f).take i) ((kK f).getD i [])&&aAN f f.bIE[i]):=by
    rw[← hok]
    unfold okL sK
    rw[bKU hid]
   rw[hoki] at bIM
   unfold aAN at bIM
   have winc:IntKind.i64.wrap ((i:Int)+1)=((i+1:Nat):Int):=dC Om
   have e1:=aiQ (Om:f.bIF.length≤1000)
   have e2:=aiQ (Om:f.bIH.length≤1000)
   simp only[go_sem,δ,γ,θ,bIL,akE,hat]
   refine aQ fun o ho=>?_
   have g4:=g1.new ho (.rows 3 [(f.bIE[i]).cells])
   have g5:=g4.at 0 rfl
   simp only[go_sem,δ,γ]
   generalize H0.set o (.rows 3 [(f.bIE[i]).cells])=H2 at *
   simp only[go_sem,δ,γ,θ,akF,g5]
   refine fZ.call L.tonM (base:=fV f) (ns:=kK f) g4 Om Om (g3 rfl) hin (by simp only[go_sem,γ,hnm]) fun w' H1 h1 hG1=>?_
   have g6:=h1.at 0 rfl
   generalize gZ (fV f++(kK f).take i) ((kK f).getD i [])=fb at *
   generalize hd:f.bIE[i]=dd at *
   cases fb with
   | false =>
    simp only[go_sem,γ,reduceCtorEq,KE,rM,winc]
    exact fin false w' _ _ hlt (bIM.trans rfl) hG1 Lq
   | true =>
    simp only[go_sem,δ,γ,θ,KE,g6,bKI,e1]
    refine aA (L.inn dd.model 0 ((f.bIF.length:Int)-1)) rfl ?_
    cases k0:within dd.model 0 ((f.bIF.length:Int)-1) with
    | false =>
     simp only[go_sem,γ,reduceCtorEq,rM,winc]
     exact fin false w' _ _ hlt (by rw[bIM,k0]<;>simp) hG1 Lq
    | true =>
     simp only[go_sem,δ,γ,θ,g6,bKI,e2]
     refine aA (L.inn dd.machine 0 ((f.bIH.length:Int)-1)) rfl ?_
     cases k1:within dd.machine 0 ((f.bIH.length:Int)-1) with
     | false =>
      simp only[go_sem,γ,reduceCtorEq,rM,winc]
      exact fin false w' _ _ hlt (by rw[bIM,k0,k1]<;>simp) hG1 Lq
     | true =>
      obtain⟨p0,p1⟩:=within_iff.1 k1
      obtain⟨p,hp⟩:∃ p:Nat,dd.machine=p:=⟨dd.machine.toNat,by omega⟩
      have hpd:p<f.bIH.length:=by omega
      obtain⟨lv,hlv⟩:∃ lv,(f.bIH.map bP.level).getD dd.machine.toNat 0=lv:=⟨_,rfl⟩
      have hpl:(f.bIH[p]).level=lv:=by rw[← hlv,hp,bNO,nU hpd]
      rw[hlv] at bIM
      have hpat:=uM hpd
      simp only[go_sem,δ,γ,θ,g6,hp,hpat,hpl,rM,winc]
      exact fin _ w' _ _ hlt (by rw[bIM,k0,k1]<;>simp) hG1 Lq
 ·have bIL:¬ ((i:Nat):Int)<(f.bIE.length:Nat):=by omega
  have:i=n:=by omega
  subst this
  simp only[go_sem,γ,reduceCtorEq,bIL]
  exact Up.up Lq (stop hc.symm)
theorem XM {xs:List Int} {k:Nat} (h:k<xs.length):(xs.map fun x=>[PV.int .i64 x])[k]?=some [.int .i64 xs[k]]:=by simp[h]
def zpF (f:aH) (w:PV) (o i:Nat) (c:Bool) (j:Nat):PF:=(((((((PF.nil.set 1 (.bH f.cells)).set 6 (w)).set 7 (.aB)).set 8 (.bool c)).set 17 (.int .i64 i)).set 18 (.ptr o 17 0 0)).set 19 (.int .i64 j))
theorem bkO {C:Ctx} (f:aH) (w:PV) (o i:Nat) (p:dA) (hl:p.bIF.length≤9223372036854775807) (j:Nat) (hj:j<p.bIF.length) (b:Bool) (K:cO) [Up K] (F:PF) (H:PH) (ho:H o=some (.rows 17 [p.cells])) (hF:((zpF f w o i b j).set 20 (.int .i64 0)).le F)
  (hK:K (.exit 12) (zpF f w o i (b&&(p.bIF.take j).all fun x=>x != p.bIF[j]) j) H):aC.wp C (.loop JX) K F H:=by
 refine wp_loop (α:=Nat) (fun k=>(zpF f w o i (b&&(p.bIF.take k).all fun x=>x != p.bIF[j]) j).set 20 (.int .i64 k)) (fun _=>H) (fun k=>k≤j) (fun k=>j-k) 0 (bKT _) (by
   have e:(b&&(p.bIF.take 0).all fun x=>x != p.bIF[j])=b:=by cases b<;>rfl
   simp only[e]
   exact hF) PH.le_refl ?_
 intro k hk
 have hs:∀ h:k<p.bIF.length,(b&&(p.bIF.take (k+1)).all fun x=>x != p.bIF[j])=((b&&(p.bIF.take k).all fun x=>x != p.bIF[j])&&(p.bIF[k] != p.bIF[j])):=fun h=>by
  rw[bMA h,List.all_append]
  simp[bNJ]
 have fin:∀ (c:Bool) (F':PF),k<j→(b&&(p.bIF.take (k+1)).all fun x=>x != p.bIF[j])=c→((zpF f w o i c j).set 20 (.int .i64 (k+1:Nat))).le F'→eI (fun k:Nat=>(zpF f w o i (b&&(p.bIF.take k).all fun x=>x != p.bIF[j]) j).set 20 (.int .i64 k)) (fun _=>H) (fun k=>k≤j) (fun k=>j-k) (j-k) K .normal F' H :=
  fun c F' hlt e h=>aI (k+1) hlt Om (by rw[e]; exact h) PH.le_refl
 unfold zpF at fin
 simp only[go_sem,γ,JX,akM,zpF]
 by_cases hlt:k<j
 ·have bIL:(k:Int)<(j:Nat):=by omega
  have hk2:k<p.bIF.length:=by omega
  have hs:=hs hk2
  generalize (b&&(p.bIF.take k).all fun x=>x != p.bIF[j])=c at *
  simp only[go_sem,bIL]
  refine bS .nil eC PH.nil_le ?_
  cases c with
  | false =>
   simp only[go_sem,γ,reduceCtorEq,KH,KI,wZz k]
   exact fin false _ hlt (hs.trans rfl) Lq
  | true =>
   simp only[go_sem,δ,γ,θ,reduceCtorEq,KH,ho,XM hk2,XM hj,KI,wZz k]
   exact fin _ _ hlt (hs.trans rfl) Lq
 ·have bIL:¬ (k:Int)<(j:Nat):=by omega
  have:k=j:=by omega
  subst this
  simp only[go_sem,bIL]
  exact Up.up (by (repeat' (first|exact PF.nil_le|refine PF.aK ?_ ?_))<;>first|(simp only[go_sem,γ,zpF]<;>rfl)|rfl) hK
def HU (bIF:Nat) (ms:List Int) (j:Nat):Bool:=within (ms.getD j 0) 0 ((bIF:Int)-1)&&(ms.take j).all fun x=>x != ms.getD j 0
theorem bdW {C:Ctx} (L:pS C) (f:aH) (hz2:f.bIF.length≤4) (w:PV) (o i:Nat) (p:dA) (hl:p.bIF.length≤9223372036854775807) (b:Bool) (K:cO) [Up K] (F:PF) (H:PH) (ho:H o=some (.rows 17 [p.cells])) (hF:(zpF f w o i b 0).le F)
  (hK:K (.exit 10) ((((((PF.nil.set 1 (.bH f.cells)).set 6 (w)).set 7 (.aB)).set 8 (.bool (b&&(bKJ p.bIF.length).all (HU f.bIF.length p.bIF)))).set 17 (.int .i64 i))) H):aC.wp C (.loop vJ) K F H:=by
 obtain⟨ok,hok⟩:∃ ok,HU f.bIF.length p.bIF=ok:=⟨_,rfl⟩
 rw[hok] at hK
 refine wp_loop (α:=Nat) (fun j=>zpF f w o i (b&&(bKJ j).all ok) j) (fun _=>H) (fun j=>j≤p.bIF.length) (fun j=>p.bIF.length-j) 0 (bKT _) (by
   have e:(b&&(bKJ 0).all ok)=b:=by cases b<;>rfl
   simp only[e]
   exact hF) PH.le_refl ?_
 intro j hj
 have bIM:=pE (p:=ok) j b
 have hacc:=fun h=>pD (p:=ok) (b:=b) hj h
 have fin:∀ (c:Bool) (F':PF),j<p.bIF.length→(b&&(bKJ (j+1)).all ok)=c→(zpF f w o i c (j+1)).le F'→eI (fun j:Nat=>zpF f w o i (b&&(bKJ j).all ok) j) (fun _=>H) (fun j=>j≤p.bIF.length) (fun j=>p.bIF.length-j) (p.bIF.length-j) K .normal F' H :=
  fun c F' hlt e h=>aI (j+1) hlt Om (by rw[e]; exact h) PH.le_refl
 unfold zpF at fin
 have stop:(b&&(bKJ j).all ok)=(b&&(bKJ p.bIF.length).all ok)→K (.exit 10) ((((((PF.nil.set 1 (.bH f.cells)).set 6 (w)).set 7 (.aB)).set 8 (.bool (b&&(bKJ j).all ok))).set 17 (.int .i64 i))) H:=fun e=>by
  rw[e]; exact hK
 generalize hc:(b&&(bKJ j).all ok)=c at *
 simp only[go_sem,δ,γ,θ,vJ,akJ,zpF,ho,bKI]
 by_cases hlt:j<p.bIF.length
 ·have bIL:(j:Int)<(p.bIF.length:Nat):=by omega
  cases c with
  | false =>
   simp only[go_sem,γ,bIL]
   exact Up.up Lq (stop (hacc rfl).symm)
  | true =>
   have e1:=aiQ (Om:f.bIF.length≤1000)
   have hg:p.bIF.getD j 0=p.bIF[j]:=by simp[bLC,hlt]
   have hoj:ok j=(within p.bIF[j] 0 ((f.bIF.length:Int)-1)&&(p.bIF.take j).all fun x=>x != p.bIF[j]):=by
    rw[← hok]
    unfold HU
    rw[hg]
   rw[hoj] at bIM
   simp only[go_sem,γ,bIL]
   refine bS .nil a2I PH.nil_le ?_
   simp only[go_sem,δ,γ,θ,reduceCtorEq,akK,ho,XM hlt,bKI,e1]
   refine bQ rfl (L.inn p.bIF[j] 0 ((f.bIF.length:Int)-1)) Sq PH.nil_le ?_
   simp only[go_sem,γ,akL]
   refine bkO f w o i p hl j hlt (within p.bIF[j] 0 ((f.bIF.length:Int)-1)) _ _ _ ho (by (repeat' (first|exact PF.nil_le|refine PF.aK ?_ ?_))<;>first|(simp only[go_sem,γ,zpF]<;>rfl)|rfl) ?_
   simp only[go_sem,γ,zpF,akN,wZz j]
   exact fin _ _ hlt (bIM.trans rfl) Lq
 ·have bIL:¬ (j:Int)<(p.bIF.length:Nat):=by omega
  have:j=p.bIF.length:=by omega
  subst this
  simp only[go_sem,γ,reduceCtorEq,bIL]
  exact Up.up Lq (stop hc.symm)
def aIG (bIF:Nat) (p:dA):Bool:=HM p.k p.m p.bJI p.s0 p.s1 p.s2 p.s3 p.s4&&(MC p.m p.repair p.target p.bIQ&&(decide (p.bIF.length>0)&&(bKJ p.bIF.length).all (HU bIF p.bIF)))
theorem boU (bIF:Nat) (p:dA):jA bIF p=aIG bIF p:=by
 unfold jA aIG
 rw[boP,brM]
 have h1:decide (p.bIF.length≠0)=decide (p.bIF.length>0):=decide_eq_decide.2 Om
 have h2:(bKJ p.bIF.length).all (fun j=>within (p.bIF.getD j 0) 0 ((bIF:Int)-1)&&!(p.bIF.take j).contains (p.bIF.getD j 0))=(bKJ p.bIF.length).all (HU bIF p.bIF):=by
  congr 1
  funext j
  unfold HU
  congr 1
  generalize p.bIF.getD j 0=x
  induction p.bIF.take j with
  | nil=>rfl
  | cons a t ih =>
   rw[List.contains_cons,List.all_cons,← ih,Bool.not_or,bne,BEq.comm]
 rw[h1,h2]
 cases HM p.k p.m p.bJI p.s0 p.s1 p.s2 p.s3 p.s4<;>cases MC p.m p.repair p.target p.bIQ<;>cases decide (p.bIF.length>0)<;>simp
structure akV (C:Ctx):Prop extends pS C where
 dur:∀ (m:Int) (rep:List RF),jK rep→∀ t h:RF,t.Ok→h.Ok→aE C 69 [.int .i64 m,frs rep,.agg t.cells,.agg h.cells] .nil (aD (.bool (MC m rep t h)))
def jT (f:aH):List (List UInt8):=f.bII.map dA.name
def HT (f:aH) (i:Nat):Bool:=match f.bII[i]? with
 | some p=>aIG f.bIF.length p
 | none=>false
def aeS (f:aH):Bool:=(bKJ f.bII.length).all (okL [] (jT f) (HT f))
theorem bqX {C:Ctx} (L:akV C) (f:aH) (hf:f.Ok) (hz5:f.bII.length≤4) (hz2:f.bIF.length≤4) (b:Bool) (K:cO) [Up K] (F:PF) (H:PH)
  (hF:((((((PF.nil.set 1 (.bH f.cells)).set 6 (.aB)).set 7 (.aB)).set 8 (.bool b)).set 17 (.int .i64 0)):PF).le F)
  (hK:∀ H',K (.exit 8) ((((PF.nil.set 1 (.bH f.cells)).set 7 (.aB)).set 8 (.bool (b&&aeS f)))) H'):aC.wp C (.loop vK) K F H:=by
 obtain⟨ok,hok⟩:∃ ok,okL [] (jT f) (HT f)=ok:=⟨_,rfl⟩
 unfold aeS at hK
 rw[hok] at hK
 have hnl:(jT f).length=f.bII.length:=by simp[jT]
 refine wp_loop (α:=Nat × PV × PH) (fun s=>(((((PF.nil.set 1 (.bH f.cells)).set 6 (s.2.1)).set 7 (.aB)).set 8 (.bool (b&&(bKJ s.1).all ok))).set 17 (.int .i64 s.1))) (fun s=>s.2.2) (fun s=>s.1≤f.bII.length∧fZ s.2.2 s.2.1 [] (jT f) (b&&(bKJ s.1).all ok) s.1) (fun s=>f.bII.length-s.1)
  (0,.aB,H) ⟨bKT _,⟨[],aS.nil.pJ 1,fun _=>rfl⟩⟩ (by
   have e:(b&&(bKJ 0).all ok)=b:=by cases b<;>rfl
   simp only[e]
   exact hF) PH.le_refl ?_
 rintro⟨i,w,H0⟩ ⟨hi,hG⟩
 simp only at hi hG ⊢
 have fin:∀ (c:Bool) (w':PV) (F':PF) (H':PH),i<f.bII.length→(b&&(bKJ (i+1)).all ok)=c→fZ H' w' [] (jT f) true (i+1) →
   ((((((PF.nil.set 1 (.bH f.cells)).set 6 (w')).set 7 (.aB)).set 8 (.bool c)).set 17 (.int .i64 (i+1:Nat))):PF).le F' →
   eI (fun s:Nat × PV × PH=>(((((PF.nil.set 1 (.bH f.cells)).set 6 (s.2.1)).set 7 (.aB)).set 8 (.bool (b&&(bKJ s.1).all ok))).set 17 (.int .i64 s.1))) (fun s=>s.2.2) (fun s=>s.1≤f.bII.length∧fZ s.2.2 s.2.1 [] (jT f) (b&&(bKJ s.1).all ok) s.1) (fun s=>f.bII.length-s.1) (f.bII.length-i) K .normal F' H' :=
  fun c w' F' H' hlt hb hG' hF'=>aI (i+1,w',H') ⟨hlt,hG'.anM⟩ (by simp only; omega) (by simp only; rw[hb]; exact hF') PH.le_refl
 have bIM:=pE (p:=ok) i b
 have hacc:=fun h=>pD (p:=ok) (b:=b) hi h
 have stop:(b&&(bKJ i).all ok)=(b&&(bKJ f.bII.length).all ok)→K (.exit 8) ((((PF.nil.set 1 (.bH f.cells)).set 7 (.aB)).set 8 (.bool (b&&(bKJ i).all ok)))) H0:=fun e=>by
  rw[e]; exact hK H0
 generalize hc:(b&&(bKJ i).all ok)=c at *
 simp only[go_sem,δ,γ,θ,vK,akG,bKI]
 by_cases hlt:i<f.bII.length
 ·have bIL:(i:Int)<(f.bII.length:Nat):=by omega
  cases c with
  | false =>
   simp only[go_sem,γ,bIL]
   exact Up.up Lq (stop (hacc rfl).symm)
  | true =>
   obtain⟨names,g1,g3⟩:=hG.ex
   have hat:=mN hlt
   have hin:i<(jT f).length:=by omega
   have hnm:(jT f)[i]=(f.bII[i]).name:=by simp[jT]
   have hoki:ok i=(gZ ([]++(jT f).take i) ((jT f).getD i [])&&aIG f.bIF.length f.bII[i]):=by
    rw[← hok]
    unfold okL HT
    rw[bKU hlt]
   have hpo:=hf.bIS _ (bKM hlt)
   rw[hoki] at bIM
   unfold aIG at bIM
   have winc:IntKind.i64.wrap ((i:Int)+1)=((i+1:Nat):Int):=dC Om
   simp only[go_sem,δ,γ,θ,bIL,akH,hat]
   refine aQ fun o ho=>?_
   have g4:=g1.new ho (.rows 17 [(f.bII[i]).cells])
   have g5:=g4.at 0 rfl
   simp only[go_sem,δ,γ]
   generalize H0.set o (.rows 17 [(f.bII[i]).cells])=H2 at *
   simp only[go_sem,δ,γ,θ,akI,g5]
   refine fZ.call L.tonM (ns:=jT f) g4 (bKT _) Om (g3 rfl) hin (by simp only[go_sem,γ,hnm]) fun w' H1 h1 hG1=>?_
   have g6:=h1.at 0 rfl
   generalize gZ ([]++(jT f).take i) ((jT f).getD i [])=fb at *
   generalize hd:f.bII[i]=p at *
   have rest:∀ (c:Bool) (F':PF),(zpF f w' o i c 0).le F'→(c&&(bKJ p.bIF.length).all (HU f.bIF.length p.bIF))=(b&&(bKJ (i+1)).all ok) →
     aC.wp C (.loop vJ) (dZ 10 (dZ 9 (jB C (aC.wp C (.region KJ)) (eI (fun s:Nat × PV × PH=>(((((PF.nil.set 1 (.bH f.cells)).set 6 (s.2.1)).set 7 (.aB)).set 8 (.bool (b&&(bKJ s.1).all ok))).set 17 (.int .i64 s.1))) (fun s=>s.2.2) (fun s=>s.1≤f.bII.length∧fZ s.2.2 s.2.1 [] (jT f) (b&&(bKJ s.1).all ok) s.1) (fun s=>f.bII.length-s.1) (f.bII.length-i) K)))) F' H1:=by
    intro c F' hF' hcc
    refine bdW L.topS f hz2 w' o i p hpo.bIF c _ _ _ g6 hF' ?_
    rw[hcc]
    simp only[go_sem,γ,KJ,winc]
    exact fin _ w' _ _ hlt rfl hG1 Lq
   cases fb with
   | false =>
    simp only[go_sem,γ,reduceCtorEq,KG,rN]
    exact rest false _ (by (repeat' (first|exact PF.nil_le|refine PF.aK ?_ ?_))<;>first|(simp only[go_sem,γ,zpF]<;>rfl)|rfl) (by rw[bIM]; rfl)
   | true =>
    simp only[go_sem,δ,γ,θ,KG,g6]
    refine aA (L.nums p.k p.m p.bJI p.s0 p.s1 p.s2 p.s3 p.s4) Sq ?_
    cases k0:HM p.k p.m p.bJI p.s0 p.s1 p.s2 p.s3 p.s4 with
    | false =>
     simp only[go_sem,γ,reduceCtorEq,rN]
     exact rest false _ (by (repeat' (first|exact PF.nil_le|refine PF.aK ?_ ?_))<;>first|(simp only[go_sem,γ,zpF]<;>rfl)|rfl) (by rw[bIM,k0]; rfl)
    | true =>
     simp only[go_sem,δ,γ,θ,g6]
     refine aA (L.dur p.m p.repair hpo.repair p.target p.bIQ hpo.target hpo.bIQ) Sq ?_
     cases k1:MC p.m p.repair p.target p.bIQ with
     | false =>
      simp only[go_sem,γ,reduceCtorEq,rN]
      exact rest false _ (by (repeat' (first|exact PF.nil_le|refine PF.aK ?_ ?_))<;>first|(simp only[go_sem,γ,zpF]<;>rfl)|rfl) (by rw[bIM,k0,k1]; rfl)
     | true =>
      have hgt:decide (((p.bIF.length:Nat):Int)>0)=decide (p.bIF.length>0):=decide_eq_decide.2 Om
      simp only[go_sem,δ,γ,θ,g6,bKI,hgt,rN]
      exact rest _ _ (by (repeat' (first|exact PF.nil_le|refine PF.aK ?_ ?_))<;>first|(simp only[go_sem,γ,zpF]<;>rfl)|rfl) (by rw[bIM,k0,k1]; rfl)
 ·have bIL:¬ (i:Int)<(f.bII.length:Nat):=by omega
  have:i=f.bII.length:=by omega
  subst this
  simp only[go_sem,γ,reduceCtorEq,bIL]
  exact Up.up Lq (stop hc.symm)
def oJ (r:bP):Bool:=(r.name==[])&&((r.level==0)&&((r.parent==-1)&&((r.bJE==0)&&(cN (val r.bIW.num) (val r.bIW.den)&&(pC r.bIW==0)))))
def a3T (f:aH):Bool:=match f.bIH with
 | []=>false
 | r::_=>oJ r
def bhS (f:aH):Bool:=within f.bJS 1 4&&(nI f.bIN.length f.bIF.length f.bIH.length f.bIE.length f.bII.length f.bIG.length&&(decide (0<f.bIH.length)&&((((((GW f&&vZ f)&&a3T f)&&uN f)&&vN f)&&aeS f)&&ayD f)))
theorem aPZ (n:Nat) (p q:Nat→Bool):(bKJ n).all (fun i=>p i&&q i)=((bKJ n).all p&&(bKJ n).all q):=by
 induction n with
 | zero=>rfl
 | succ n ih =>
  simp only[List.range_succ,List.all_append,ih,List.all_cons,List.all_nil,bMI]
  cases (bKJ n).all p<;>cases (bKJ n).all q<;>cases p n<;>simp
theorem wG {α:Type} (l:List α) (p:α→Bool):(bKJ l.length).all (fun i=>(l.map p).getD i false)=l.all p:=by
 refine Bool.eq_iff_iff.2 ?_
 rw[bLA,bLA]
 constructor
 ·intro h x hx
  obtain⟨i,hi,rfl⟩:=bMP hx
  have:=h i (bLL.2 hi)
  simpa [bLC,hi] using this
 ·intro h i hi
  have hi:=bLL.1 hi
  simp[bLC,hi,h _ (bKM hi)]
theorem DF (ns:List (List UInt8)) (n:Nat) (hn:ns.length=n) (P:Nat→Bool):(bKJ n).all (okL [] ns P)=(distinct ns&&(bKJ n).all P):=by
 subst hn
 have:okL [] ns P=fun i=>(isName (ns.getD i [])&&!(ns.take i).contains (ns.getD i []))&&P i:=by
  funext i
  rfl
 rw[this,aPZ]
 rfl
theorem boQ (base ns:List (List UInt8)) (P Q:Nat→Bool):((bKJ base.length).all (okL [] base P)&&(bKJ ns.length).all (okL base ns Q))=(distinct (base++ns)&&((bKJ base.length).all P&&(bKJ ns.length).all Q)):=by
 have e1:okL base ns Q=fun i=>(isName (ns.getD i [])&&!(base++ns.take i).contains (ns.getD i []))&&Q i:=by
  funext i
  rfl
 have e2:distinct (base++ns)=(distinct base&&(bKJ ns.length).all fun i=>isName (ns.getD i [])&&!(base++ns.take i).contains (ns.getD i [])):=by
  unfold distinct
  rw[bKQ,List.range_add,List.all_append,List.all_map]
  congr 1
  ·refine Bool.eq_iff_iff.2 ?_
   rw[bLA,bLA]
   refine forall_congr' fun i=>forall_congr' fun hi=>?_
   have hi:=bLL.1 hi
   have a1:(base++ns).getD i []=base.getD i []:=by
    simp only[bLC]
    rw[bNB hi]
   have a2:(base++ns).take i=base.take i:=by rw[List.take_append_of_le_length Om]
   rw[a1,a2]
  ·refine Bool.eq_iff_iff.2 ?_
   rw[bLA,bLA]
   refine forall_congr' fun i=>forall_congr' fun _=>?_
   have a1:(base++ns).getD (base.length+i) []=ns.getD i []:=by
    simp only[bLC]
    rw[bMR Om]
    congr 2
    omega
   have a2:(base++ns).take (base.length+i)=base++ns.take i:=by rw[List.take_append,bKZ Om]; congr 2; omega
   simp only[Function.comp,a1,a2]
 rw[DF base base.length rfl P,e1,aPZ,e2]
 cases distinct base<;>cases (bKJ base.length).all P<;>simp
theorem bhU (r:bP):(decide (r.name=[])&&decide (r.level=0)&&decide (r.parent=-1)&&decide (r.bJE=0)&&cI r.bIW&&!cB r.bIW)=oJ r:=by
 have h1:decide (r.name=[])=(r.name==[]):=by cases r.name<;>rfl
 have h2:decide (r.level=0)=(r.level==0):=by generalize r.level=x; by_cases h:x=0<;>simp[h]
 have h3:decide (r.parent=-1)=(r.parent==-1):=by generalize r.parent=x; by_cases h:x=-1<;>simp[h]
 have h4:decide (r.bJE=0)=(r.bJE==0):=by generalize r.bJE=x; by_cases h:x=0<;>simp[h]
 have h5:(cI r.bIW&&!cB r.bIW)=(cN (val r.bIW.num) (val r.bIW.den)&&(pC r.bIW==0)):=by
  rw[ID]
  by_cases h:val r.bIW.num=0
  ·have ha:cB r.bIW=false:=by unfold cB; simp[h]
   rw[ha]
   simp only[bKW,bMI]
   cases hv:cN (val r.bIW.num) (val r.bIW.den) with
   | false =>
    unfold cI mP
    rw[hv]
    rfl
   | true =>
    obtain⟨v1,-,-⟩:=fD.1 hv
    unfold cI mP
    rw[hv,if_pos rfl,XN hv,h]
    unfold kX
    have hb:val r.bIW.den/bKN 0 (val r.bIW.den)=1:=by rw[Nat.gcd_zero_left,Nat.div_self (bMQ v1)]
    have b0:cE (0/bKN 0 (val r.bIW.den))=0:=by rw[Nat.zero_div]; exact iU
    have b1:cE 1=1:=by rw[nC (by decide),iU]
    simp only[hb,b0,b1]
    simp
  ·have ha:cB r.bIW=true:=by unfold cB; simp[h]
   rw[ha]
   simp
 unfold oJ
 rw[h1,h2,h3,h4]
 simp only[bNJ] at h5 ⊢
 rw[h5]
theorem bfG (f:aH) {r:bP} {t:List bP} (h:f.bIH=r::t):yA f r t=(oJ r&&(bKJ t.length).all (uL f)):=by
 unfold yA
 rw[bhU]
 congr 2
 funext i
 unfold uL
 rw[h,List.getElem?_cons_succ]
 cases t[i]? with
 | none=>rfl
 | some d=>exact blZ f i d
theorem a7J (f:aH):f.bIE.all (gR f)=(bKJ f.bIE.length).all (sK f):=by
 have:sK f=fun i=>(f.bIE.map (gR f)).getD i false:=by
  funext i
  unfold sK
  rw[bLC,bLN]
  cases f.bIE[i]? with
  | none=>rfl
  | some d =>
   show aAN f d=gR f d
   unfold aAN gR
   have:decide ((f.bIH.map bP.level).getD d.machine.toNat 0=4)=((f.bIH.map bP.level).getD d.machine.toNat 0==4):=by
    generalize (f.bIH.map bP.level).getD d.machine.toNat 0=u
    by_cases h:u=4<;>simp[h]
   rw[this,bNJ]
 rw[this,wG]
theorem baC (f:aH):f.bII.all (jA f.bIF.length)=(bKJ f.bII.length).all (HT f):=by
 have:HT f=fun i=>(f.bII.map (jA f.bIF.length)).getD i false:=by
  funext i
  unfold HT
  rw[bLC,bLN]
  cases f.bII[i]? with
  | none=>rfl
  | some d=>exact (boU _ d).symm
 rw[this,wG]
theorem bpA (f:aH):bhS f=dM f:=by
 have hm:alW f.bIN.length=jH f:=by
  funext m
  unfold alW jH
  rw[bNJ]
 have hvv:aMW f.bII.length=mQ f:=rfl
 have hs:(within f.bJS 1 4&&nI f.bIN.length f.bIF.length f.bIH.length f.bIE.length f.bII.length f.bIG.length)=lM f:=by
  unfold lM nI
  simp only[bNJ]
 unfold bhS dM GW vZ aeS ayD
 rw[DF _ _ (by rw[bKI]),DF _ _ (by rw[bKI]),DF _ _ (by rw[jT,bKI]),DF _ _ (by rw[bKI]),wG,wG,wG,hm,hvv,baC,a7J,← bNJ,hs]
 unfold mS a3T
 cases hd:f.bIH with
 | nil=>simp
 | cons r t =>
  have hlen:decide (0<f.bIH.length)=true:=by rw[hd]; simp
  rw[hd] at hlen
  rw[hlen,bKS]
  simp only
  rw[bfG f hd]
  have hn:fV f=(f.bIH.drop 1).map bP.name:=rfl
  rw[hd] at hn
  have hl:(fV f).length=t.length:=by rw[hn]; simp
  have two:=boQ (fV f) (kK f) (uL f) (sK f)
  rw[hl,show (kK f).length=f.bIE.length by simp[kK]] at two
  have e1:uN f=(bKJ t.length).all (okL [] (fV f) (uL f)):=by
   unfold uN
   rw[hd]
   rfl
  have e2:vN f=(bKJ f.bIE.length).all (okL (fV f) (kK f) (sK f)):=rfl
  rw[e1,e2,← hn]
  rw[show f.bIE.map cD.name=kK f from rfl,show f.bII.map dA.name=jT f from rfl]
  generalize (bKJ t.length).all (okL [] (fV f) (uL f))=a at *
  generalize (bKJ f.bIE.length).all (okL (fV f) (kK f) (sK f))=b at *
  generalize distinct (fV f++kK f)=c at *
  generalize (bKJ t.length).all (uL f)=d at *
  generalize (bKJ f.bIE.length).all (sK f)=e at *
  generalize lM f=s
  generalize oJ r=ro
  generalize distinct (f.bIN.map cK.name)=n1
  generalize f.bIN.all kE=n2
  generalize distinct (f.bIF.map cV.name)=n3
  generalize f.bIF.all (jH f)=n4
  generalize distinct (jT f)=n5
  generalize (bKJ f.bII.length).all (HT f)=n6
  generalize distinct (f.bIG.map eD.name)=n7
  generalize f.bIG.all (mQ f)=n8
  have:(s&&(((((((n1&&n2)&&(n3&&n4))&&ro)&&a)&&b)&&(n5&&n6))&&(n7&&n8)))=(s&&(ro&&((n1&&n2)&&((n3&&n4)&&((a&&b)&&((n5&&n6)&&(n7&&n8))))))):=by
   cases s<;>cases ro<;>cases n1<;>cases n2<;>cases n3<;>cases n4<;>simp[bNJ]
  rw[this,two]
  cases s<;>cases ro<;>cases n1<;>cases n2<;>cases n3<;>cases n4<;>cases c<;>cases d<;>cases e<;>simp
  cases n5<;>cases n6<;>cases n7<;>cases n8<;>rfl
theorem bhT (f:aH) (h:0<f.bIH.length):a3T f=oJ f.bIH[0]:=by
 obtain⟨a,b,c,d,e,g,i⟩:=f
 cases d with
 | nil=>simp at h
 | cons r t=>rfl
theorem beD {C:Ctx} (L:akV C) (f:aH) (hf:f.Ok):CJ.wp C (aT RR.res (aD (.bool (dM f)))) (PF.args [.agg f.cells]) .nil:=by
 have hX:=bpA f
 unfold bhS at hX
 have fail:∀ (F:PF) (H:PH),dM f=false→F 2=some (.bool false)→aT [.tmp 2] (aD (.bool (dM f))) .ret F H:=fun F H e h=>by
  rw[e]
  exact aX (vs:=[.bool false]) (.inr rfl) .nil (by simp only[go_sem,h]) PH.nil_le ⟨rfl,rfl⟩
 simp only[go_sem,δ,γ,θ,CJ,awZ,axA,RR]
 refine aA (L.inn f.bJS 1 4) rfl ?_
 cases k0:within f.bJS 1 4 with
 | false =>
  rw[k0,bKO] at hX
  simp only[go_sem,γ,bKW,zK]
  exact fail _ _ hX.symm rfl
 | true =>
 rw[k0,bKS] at hX
 simp only[go_sem,δ,γ,θ,bKR,bKI]
 refine aA (L.sizes f.bIN.length f.bIF.length f.bIH.length f.bIE.length f.bII.length f.bIG.length) rfl ?_
 cases k1:nI f.bIN.length f.bIF.length f.bIH.length f.bIE.length f.bII.length f.bIG.length with
 | false =>
  rw[k1,bKO] at hX
  simp only[go_sem,γ,reduceCtorEq,bKW,zK]
  exact fail _ _ hX.symm rfl
 | true =>
 rw[k1,bKS] at hX
 obtain⟨hz1,hz2,hz3,hz4,hz5,hz6⟩:=PL k1
 by_cases h0:f.bIH.length=0
 ·rw[decide_eq_false Om,bKO] at hX
  simp only[go_sem,δ,γ,θ,reduceCtorEq,bKR,bKI,bT (Om:((f.bIH.length:Nat):Int)=0),zK]
  exact fail _ _ hX.symm rfl
 have h00:0<f.bIH.length:=by omega
 rw[decide_eq_true h00,bKS] at hX
 simp only[go_sem,δ,γ,θ,reduceCtorEq,bKR,bKI,bF (Om:((f.bIH.length:Nat):Int)≠0),axB,axC,axD]
 refine bqW L.topS f hf hz1 _ _ _ Lq fun H1=>?_
 simp only[go_sem,ajV]
 refine beC L.topS f hf k1 (GW f) _ _ _ Lq fun H2=>?_
 have hd0:=uM h00
 have hsh:=(hf.dom _ (bKM h00)).1
 have hrp:=bhT f h00
 rw[hrp] at hX
 generalize f.bIH[0]=r at *
 have rest:∀ (c:Bool) (F:PF) (H:PH),((((((PF.nil.set 1 (.bH f.cells)).set 5 (.aB)).set 6 (.aB)).set 7 (.aB)).set 8 (.bool c)):PF).le F→c=((GW f&&vZ f)&&oJ r) →
   aC.wp C (.seq (.seq (.region KB) (.block 4 (.loop vH))) (.seq (.seq (.region KD) (.block 6 (.loop vI))) (.seq (.seq (.region KF) (.block 8 (.loop vK))) (.seq (.seq (.region KK) (.block 14 (.loop vL))) (.seq (.region KN) .ret))))) (aT [.tmp 2] (aD (.bool (dM f)))) F H:=by
  intro c F H hF hc
  refine sV _ (fun _ _ _ _ a b=>Up.up a b) hF ?_
  simp only[go_sem,KB]
  refine bqV L.topS f hf hz3 h00 c _ _ _ Lq fun w H3 hG=>?_
  simp only[go_sem,KD]
  refine beB L.topS f hf hz3 h00 hz4 hz2 (c&&uN f) w _ _ _ hG Lq fun H4=>?_
  simp only[go_sem,KF]
  refine bqX L f hf hz5 hz2 ((c&&uN f)&&vN f) _ _ _ Lq fun H5=>?_
  simp only[go_sem,KK]
  refine bqY L.topS f hf k1 (((c&&uN f)&&vN f)&&aeS f) _ _ _ Lq fun H6=>?_
  simp only[go_sem,γ,KN]
  refine aX (vs:=[.bool (dM f)]) (.inr rfl) .nil ?_ PH.nil_le ⟨rfl,rfl⟩
  rw[← hX,hc]
  simp only[go_sem,γ]
 simp only[aC.wp,go_sem] at rest
 simp only[go_sem,ν,δ,γ,θ,ajZ,hd0]
 refine aQ fun o ho=>?_
 have g0:(H2.set o (.rows 7 [r.cells])) o=some (.rows 7 [r.cells]):=eS ..
 simp only[go_sem,δ,γ]
 generalize H2.set o (.rows 7 [r.cells])=H3 at *
 cases k2:(GW f&&vZ f) with
 | false =>
  simp only[go_sem,ο,γ,reduceCtorEq,JZ]
  exact rest false _ _ Lq (by rw[k2]; rfl)
 | true =>
  simp only[go_sem,ο,δ,γ,θ,JZ,g0]
  cases k3:r.name==[] with
  | false =>
   simp only[go_sem,ο,γ,reduceCtorEq]
   exact rest false _ _ Lq (by rw[k2]; unfold oJ; rw[k3]; rfl)
  | true =>
   simp only[go_sem,ο,δ,γ,θ,g0]
   cases k4:r.level==0 with
   | false =>
    simp only[go_sem,ο,γ,reduceCtorEq]
    exact rest false _ _ Lq (by rw[k2]; unfold oJ; rw[k3,k4]; rfl)
   | true =>
    simp only[go_sem,ο,δ,γ,θ,g0]
    cases k5:r.parent==-1 with
    | false =>
     simp only[go_sem,γ,reduceCtorEq]
     exact rest false _ _ Lq (by rw[k2]; unfold oJ; rw[k3,k4,k5]; rfl)
    | true =>
     simp only[go_sem,δ,γ,θ,g0]
     cases k6:r.bJE==0 with
     | false =>
      simp only[go_sem,γ,reduceCtorEq]
      exact rest false _ _ Lq (by rw[k2]; unfold oJ; rw[k3,k4,k5,k6]; rfl)
     | true =>
      simp only[go_sem,δ,γ,g0]
      refine aA (L.valid _ hsh) rfl ?_
      cases k7:cN (val r.bIW.num) (val r.bIW.den) with
      | false =>
       simp only[go_sem,γ,reduceCtorEq]
       exact rest false _ _ Lq (by rw[k2]; unfold oJ; rw[k3,k4,k5,k6,k7]; rfl)
      | true =>
       simp only[go_sem,δ,γ,g0]
       refine aA (L.sign _ hsh k7) rfl ?_
       simp only[go_sem,γ]
       exact rest _ _ _ Lq (by rw[k2]; unfold oJ; rw[k3,k4,k5,k6,k7]; rfl)
structure cG (C:Ctx):Prop where
 r24:aN C 24 DB
 r26:aN C 26 ZY
 r30:aN C 30 aKO
 r31:aN C 31 agC
 r32:aN C 32 aLA
 r33:aN C 33 udiv
 r34:aN C 34 aLP
 r35:aN C 35 agL
 r36:aN C 36 aLS
 r37:aN C 37 aMA
 r38:aN C 38 agU
 r39:aN C 39 DQ
 r40:aN C 40 agK
 r41:aN C 41 QC
 r42:aN C 42 QD
 r43:aN C 43 agP
 r44:aN C 44 QM
 r45:aN C 45 uup
 r46:aN C 46 anI
 r47:aN C 47 aMP
 r48:aN C 48 QS
 r49:aN C 49 agX
 r50:aN C 50 TC
 r51:aN C 51 QT
 r52:aN C 52 DU
 r53:aN C 53 ahO
 r54:aN C 54 ahP
 r55:aN C 55 aNI
 r56:aN C 56 QX
 r57:aN C 57 agV
 r58:aN C 58 DS
 r59:aN C 59 ahQ
 r60:aN C 60 QW
 r61:aN C 61 uW
 r62:aN C 62 DX
 r63:aN C 63 RB
 r64:aN C 64 DW
 r65:aN C 65 DY
 r66:aN C 66 aOC
 r67:aN C 67 RR
 r68:aN C 68 aNP
 r69:aN C 69 aNN
 r70:aN C 70 RJ
 r71:aN C 71 RK
 r72:aN C 72 xW
 r73:aN C 73 RP
 r74:aN C 74 RQ
 r75:aN C 75 DZ
 r76:aN C 76 wE
 r82:aN C 82 afG
 r85:aN C 85 afH
 r86:aN C 86 DO
 r89:aN C 89 aJJ
 r91:aN C 91 same
 r95:aN C 95 aCT
 r96:aN C 96 aDO
 r97:aN C 97 MT
 r98:aN C 98 acO
 r99:aN C 99 acP
 r100:aN C 100 acQ
 r101:aN C 101 gone
 r102:aN C 102 acR
 r103:aN C 103 MU
 r104:aN C 104 gin
 r105:aN C 105 aCV
 r106:aN C 106 aCW
 r107:aN C 107 acU
 r108:aN C 108 acV
 r109:aN C 109 ND
 r110:aN C 110 acW
 r111:aN C 111 alI
 r112:aN C 112 aCZ
 r113:aN C 113 MH
 r114:aN C 114 aAS
 r115:aN C 115 SJ
 r116:aN C 116 vP
 r117:aN C 117 WS
 r118:aN C 118 MR
 r119:aN C 119 aAP
 r120:aN C 120 nS
 r121:aN C 121 MQ
 r122:aN C 122 acN
 r123:aN C 123 SQ
 r124:aN C 124 CZ
 r125:aN C 125 DA
 r126:aN C 126 vY
 r127:aN C 127 aFJ
 r128:aN C 128 adX
 r129:aN C 129 aFZ
 r130:aN C 130 aGF
 r131:aN C 131 aGK
 r132:aN C 132 aeJ
 r133:aN C 133 aGP
 r134:aN C 134 aGY
 r135:aN C 135 aeN
 r136:aN C 136 DE
 r137:aN C 137 NQ
 r138:aN C 138 rZ
 r139:aN C 139 xB
 r140:aN C 140 NW
 r141:aN C 141 NX
 r142:aN C 142 tI
 r143:aN C 143 nup
 r144:aN C 144 PM.begin
 r145:aN C 145 PM.step
 r146:aN C 146 aLU
 r153:aN C 153 DP
 r156:aN C 156 yX
 r160:aN C 160 xK
 r161:aN C 161 PU
 r240:aN C 240 FL
 r241:aN C 241 abF
 r242:aN C 242 abR
 r243:aN C 243 azR
 r244:aN C 244 LS
 r245:aN C 245 yX
 r246:aN C 246 CS
 r247:aN C 247 PB
 r248:aN C 248 LZ
 r249:aN C 249 abQ
 r250:aN C 250 DH
 r251:aN C 251 aeR
 r252:aN C 252 aeP
 r253:aN C 253 DI
 r254:aN C 254 PB
 r255:aN C 255 aeW
 r257:aN C 257 qk
 r258:aN C 258 tV
 r260:aN C 260 tL
 r261:aN C 261 OT
 r262:aN C 262 RA
 r263:aN C 263 RG
 r264:aN C 264 QY
 r265:aN C 265 RE
 r266:aN C 266 a4U
 r267:aN C 267 aNK
 r268:aN C 268 aMJ
 r269:aN C 269 QU
 r270:aN C 270 a3X
 r272:aN C 272 XO
 r277:aN C 277 OO
theorem uU {C:Ctx} (c:cG C):oZ C :=
 have len:∀ xs,Lim xs→xs.length≤35184372087808→aE C 138 [aF xs] .nil (aD (.int .i64 (nl (val xs):Nat))):=fun xs h l=>c.r138.go (a3C xs h l) rfl
 {length:=len
  large:=fun xs h l=>c.r137.go (a8Z xs (len xs h l)) rfl
  sized:=fun xs h l=>(c.r141.go (a9E xs h (len xs h l)) rfl).seen
  trim:=fun xs h l=>(c.r135.go (bhD xs h l (len xs h l)) rfl).seen
  make:=fun v h=>c.r132.go (bhA v h len) rfl
  cmp:=fun xs ys hx hy lx ly=>c.r129.go (boE xs ys hx hy lx ly (len xs hx lx) (len ys hy ly)) rfl }
theorem bwF {C:Ctx} (c:cG C):axR C :=
 {subtract:=fun A W Z v f o hW hv hl h1 hf bJT=>c.r142.go (aHE A W Z v f hW hv hl h1 hf bJT o) rfl
  restore:=fun A W Z v o hW hv hl h1=>c.r139.go (aPE A W Z v hW hv hl h1 o) rfl }
theorem bgW {C:Ctx} (c:cG C):ayI C :=
 {L:=uU c
  D:=bwF c
  up:=fun a s ha hs h1=>c.r143.go (bsP a s ha hs h1) rfl
  short:=fun a d ha h0 hd h1=>c.r140.go (a9C (uU c) a d ha h0 hd h1) rfl
  lengthO:=fun xs o hx hl=>c.r138.go (aPC xs hx hl o) rfl }
theorem aFI {C:Ctx} (c:cG C) (A B:Nat) (hB:B≠0) (hA:nl A≤900) (hBl:nl B≤900):aE C 136 [aF (aG A),aF (aG B)] .nil (aD (oO A B)) :=
 (c.r136.go (a2Y (bgW c) A B hB hA hBl) rfl).seen
theorem wZ {C:Ctx} (c:cG C):qM C :=
 {uU c with
  bits:=fun xs h l=>c.r128.go (bgX xs h l ((uU c).length xs h l)) rfl
  add:=fun xs ys hx hy lx ly=>(c.r127.go (boB (uU c) xs ys hx hy lx ly) rfl).seen
  sub:=fun xs ys hx hy lx ly=>(c.r134.go (boN (uU c) xs ys hx hy lx ly) rfl).seen
  mul:=fun xs ys hx hy lx ly=>(c.r133.go (boL (uU c) xs ys hx hy lx ly) rfl).seen
  gcd:=fun xs ys hx hy lx ly=>(c.r131.go (boJ (uU c) (aFI c) xs ys hx hy lx ly) rfl).seen
  div:=fun xs ys hx hy lx ly=>(c.r130.go (boG (uU c) (aFI c) xs ys hx hy lx ly) rfl).seen }
theorem SK {C:Ctx} (c:cG C):EA C :=
 {wZ c with
  times:=fun a b ha hb la lb na nb=>c.r121.go (a7T (wZ c) a b ha hb la lb na nb) rfl
  zero:=fun neg a b ha la=>c.r122.go (bfM (wZ c) neg a b ha la) rfl
  valid:=fun neg a b ha hb la lb=>c.r118.go (a7V (wZ c) neg a b ha hb la lb) rfl
  abs:=fun v h1 h2=>c.r119.go (bmC (wZ c) v h1 h2) rfl
  lowest:=fun neg a b ha hb la lb na nb h0=>(c.r120.go (a1N (wZ c) neg a b ha hb la lb na nb h0) rfl).seen }
theorem a7S {C:Ctx} (c:cG C) (x y:RF) (hx:x.Ok) (hy:y.Ok):aE C 113 [.agg x.cells,.agg y.cells] .nil (aD (frV (gW x.v y.v))) :=
 (c.r113.go (bmE (SK c) x.neg y.neg x.num x.den y.num y.den hx.1 hx.2.1 hy.1 hy.2.1 hx.2.2.1 hx.2.2.2 hy.2.2.1 hy.2.2.2) rfl).seen
theorem a1P {C:Ctx} (c:cG C):axQ C :=
 {SK c with
  frac:=fun n d hn hd=>(c.r115.go (bfK (SK c) n d hn.1 hn.2 hd.1 hd.2) rfl).seen
  red:=fun x hx=>by
   rw[← a3O]
   exact (c.r116.go (a1Q (SK c) x.neg x.num x.den hx.1 hx.2.1 hx.2.2.1 hx.2.2.2) rfl).seen
  ord:=fun x y hx hy=>(c.r114.go (bmG (SK c) x.neg y.neg x.num x.den y.num y.den hx.1 hx.2.1 hy.1 hy.2.1 hx.2.2.1 hx.2.2.2 hy.2.2.1 hy.2.2.2) rfl).seen
  plus:=a7S c
  tot:=fun l hl=>(c.r117.go (bmM (SK c) (a7S c) l hl.all hl.fits) rfl).seen }
theorem SH {C:Ctx} (c:cG C):qL C :=
 have inn:∀ n lo hi:Int,aE C 104 [.int .i64 n,.int .i64 lo,.int .i64 hi] .nil (aD (.bool (within n lo hi))):=fun n lo hi=>(c.r104.go (brP n lo hi) rfl).seen
 have uF:∀ x:RF,x.Ok→aE C 97 [.agg x.cells] .nil (aD (.bool (cB x))):=fun x hx=>(c.r97.go (a7X (wZ c) x hx) rfl).seen
 have lim:∀ x:RF,x.Ok→aE C 105 [.agg x.cells] .nil (aD (.bool (cI x))):=fun x hx=>(c.r105.go (bmS (a1P c) x hx) rfl).seen
 have letter:∀ n:Nat,aE C 126 [.int .u8 n] .nil (aD (.bool (eW n))):=fun n=>c.r126.go (a2M n) rfl
 have digit:∀ n:Nat,aE C 124 [.int .u8 n] .nil (aD (.bool (kR n))):=fun n=>c.r124.go (a8K n) rfl
 {a1P c with
  inn:=inn
  uF:=uF
  lim:=lim
  one:=fun x hx=>(c.r101.go (bmW (a1P c) x hx) rfl).seen
  allf:=fun p fn l hl h=>(c.r99.go (bfQ p fn l hl h) rfl).seen
  alli:=fun p fn l hl h=>(c.r100.go (bfS p fn l hl h) rfl).seen
  allb:=fun p fn l hl h=>(c.r98.go (bfO p fn l hl h) rfl).seen
  ends1:=fun b=>(c.r103.go (a7Z b) rfl).seen
  num1:=fun n=>(c.r107.go (bfX inn n) rfl).seen
  rate1:=fun x hx=>(c.r109.go (a8C lim uF x hx) rfl).seen
  name:=fun s=>c.r123.go (bgR letter (fun n=>c.r125.go (a8O letter digit n) rfl) s) rfl }
theorem a7Q {C:Ctx} (c:cG C):ayG C :=
 {SH c with
  num:=fun p hp=>(c.r106.go (bmU (SH c) p hp) rfl).seen
  rate:=fun p hp=>(c.r108.go (bfZ (SH c) p hp) rfl).seen
  uniq:=fun l hl=>(c.r110.go (bgC (SH c) l hl) rfl).seen }
theorem a7R {C:Ctx} (c:cG C):ZP C :=
 {a7Q c with
  ends:=fun l hl he=>(c.r102.go (bfV (SH c) l hl he) rfl).seen }
theorem brN {C:Ctx} (c:cG C):jN C :=
 {a7R c with
  law:=fun l hl=>(c.r95.go (bmQ (a7R c) l hl) rfl).seen
  pol:=fun p n hp hn=>(c.r112.go (bmY (a7Q c) p hp n hn) rfl).seen
  bIP:=fun f hf=>(c.r111.go (bmO (SH c) f hf) rfl).seen }
theorem aRL {C:Ctx} (c:cG C) (f:aH) (hf:f.Ok):aE C 96 [.agg f.cells] .nil (aD (.int .i64 (pQ f))):=(c.r96.go (bnA (brN c) f hf) rfl).seen
theorem sQ {C:Ctx} (c:cG C):nN C:={ trimM:=fun xs h l=>c.r38.go (bjI xs h l) rfl }
theorem baF {C:Ctx} (c:cG C):ayJ C :=
 {sQ c with
  make:=fun v h=>(c.r35.go (bjA (sQ c) v h) rfl).seen
  large:=fun xs h l=>(c.r41.go (bbK (sQ c) xs h l) rfl).seen
  cmp:=fun xs ys hx hy lx ly=>c.r32.go (bpS (sQ c) xs ys hx hy lx ly) rfl }
theorem baH {C:Ctx} (c:cG C):ayM C :=
 {baF c with
  minus:=fun a b ha hb hle hl h1=>(c.r42.go (bbM (sQ c) a b ha hb hle hl h1) rfl).seen
  times:=fun a b ha hb h1 h2=>(c.r44.go (bbO (sQ c) a b ha hb h1 h2) rfl).seen }
theorem aIW {C:Ctx} (c:cG C):ZU C :=
 {baH c with
  plus:=fun a b ha hb h1 h2=>(c.r43.go (bjG (sQ c) a b ha hb h1 h2) rfl).seen }
theorem bsU {C:Ctx} (c:cG C):LF C :=
 {aIW c with
  bits:=fun xs h l=>c.r31.go (biU (sQ c) xs h l) rfl
  upM:=fun a n ha h1 hn h0=>c.r45.go (btM (sQ c) a n ha h1 hn h0) rfl
  down:=fun a n ha h1 hn=>(c.r40.go (biY (sQ c) a n ha h1 hn) rfl).seen }
theorem aIU {C:Ctx} (c:cG C):ZT C :=
 {baF c with
  divide:=fun A B hB hA hBl=>(c.r39.go (a4O (bsU c) A B hB hA hBl) rfl).seen }
theorem baG {C:Ctx} (c:cG C):ayK C :=
 {aIU c with
  gcd:=fun a b ha hb la lb=>(c.r34.go (bpW (aIU c) a b ha hb la lb) rfl).seen
  div:=fun a b ha hb la lb=>(c.r33.go (bpU (aIU c) a b ha hb la lb) rfl).seen }
theorem blD {C:Ctx} (c:cG C):a0I C :=
 {baG c with
  lowest:=fun neg a b ha hb la lb na nb h0=>(c.r58.go (a5M (baG c) neg a b ha hb la lb na nb h0) rfl).seen
  size:=fun v hv=>c.r59.go (bkH v hv.1 hv.2) rfl }
theorem aIV {C:Ctx} (c:cG C):ayL C :=
 {blD c with
  fmk:=fun n d hn hd=>(c.r50.go (bkB (blD c) n d hn hd) rfl).seen }
theorem a3M {C:Ctx} (c:cG C):axS C :=
 {aIV c with
  int:=fun n hn=>(c.r47.go (bqI (aIV c) n hn) rfl).seen
  mul:=fun a b ha hb la lb=>(c.r36.go (bpY (baH c) a b ha hb la lb) rfl).seen
  add:=fun a b ha hb la lb=>(c.r30.go (bpQ (aIW c) a b ha hb la lb) rfl).seen
  sub:=fun a b ha hb la lb=>(c.r37.go (bqE (aIW c) a b ha hb la lb) rfl).seen }
theorem aIX {C:Ctx} (c:cG C):ZV C :=
 {a3M c with
  valid:=fun x hx=>c.r56.go (bcU (a3M c) x.neg x.num x.den hx.1 hx.2.1 hx.2.2.1 hx.2.2.2) rfl
  big:=fun x=>c.r48.go (bcM x.1 (aG x.2.1) (aG x.2.2)) rfl }
theorem baI {C:Ctx} (c:cG C):ayN C :=
 {aIX c with
  fits:=fun x=>(c.r57.go (bjW (aIX c) x) rfl).seen
  red:=fun x hx=>(c.r52.go (a5O (aIX c) x hx) rfl).seen
  prod:=fun a b ha hb la lb na nb=>c.r60.go (bcS (a3M c) a b ha hb la lb na nb) rfl }
theorem OZ {C:Ctx} (c:cG C):wF C :=
 {baI c with
  order:=fun x y hx hy vx vy=>c.r51.go (bcO (baI c) x y hx hy vx vy) rfl }
theorem blE {C:Ctx} (c:cG C):a0J C :=
 {OZ c with
  less:=fun x y hx hy vx vy=>c.r49.go (bjZ (OZ c) x y hx hy vx vy) rfl
  same:=fun x y hx hy vx vy=>c.r53.go (bkD (OZ c) x y hx hy vx vy) rfl
  sign:=fun x hx vx=>c.r54.go (bkF (OZ c) x hx vx) rfl
  plus:=fun x y hx hy=>(c.r46.go (bqG (OZ c) x y hx hy) rfl).seen }
theorem aIT {C:Ctx} (c:cG C):ZS C :=
 {blE c with
  sum:=fun l hl hf=>(c.r55.go (bqL (blE c) l hl hf) rfl).seen
  inn:=fun n lo hi=>c.r76.go (a6L n lo hi) rfl
  code:=fun k m=>c.r61.go (biJ k m) rfl }
theorem aVI {C:Ctx} (c:cG C):akR C :=
 {aIT c with
  small:=fun x hx=>c.r74.go (bdZ (aIT c) x hx) rfl
  nums:=fun k m q s0 s1 s2 s3 s4=>c.r72.go (aPW (aIT c) k m q s0 s1 s2 s3 s4) rfl
  sizes:=fun x1 x2 x3 x4 x5 x6=>c.r73.go (bdX x1 x2 x3 x4 x5 x6) rfl }
theorem aVJ {C:Ctx} (c:cG C):akS C :=
 {aVI c with
  smalls:=fun l hl n=>c.r75.go (a6J (aVI c) l hl n) rfl }
theorem aVK {C:Ctx} (c:cG C):akT C :=
 {aVJ c with
  reps:=fun l hl m=>c.r66.go (bqT (aVJ c) l hl m) rfl }
theorem aVL {C:Ctx} (c:cG C):akU C :=
 have letter:∀ n:Nat,aE C 65 [.int .u8 n] .nil (aD (.bool (eW n))):=fun n=>c.r65.go (a6G n) rfl
 have digit:∀ n:Nat,aE C 63 [.int .u8 n] .nil (aD (.bool (kR n))):=fun n=>c.r63.go (bdL n) rfl
 {aVK c with
  name:=fun s=>c.r62.go (a6E letter (fun n=>c.r64.go (a6C letter digit n) rfl) s) rfl
  index:=fun l hl s=>c.r71.go (bdU l hl s) rfl }
theorem aVM {C:Ctx} (c:cG C):nM C :=
 {aVL c with
  fresh:=fun l hl s w H hH=>c.r70.go (bdS (aVL c) l hl s w H hH) rfl }
theorem boX {C:Ctx} (c:cG C):pS C :=
 {aVM c with
  law:=fun l hl=>c.r68.go (bqR (aVM c) l hl) rfl }
theorem boY {C:Ctx} (c:cG C):akV C :=
 {boX c with
  dur:=fun m rep hr t h ht hh=>c.r69.go (bqP (aVK c) m rep hr t h ht hh) rfl }
theorem amV {C:Ctx} (c:cG C) (f:aH) (hf:f.Ok):aE C 67 [.agg f.cells] .nil (aD (.bool (dM f))):=c.r67.go (beD (boY c) f hf) rfl
theorem bsY {C:Ctx} (c:cG C) (f:aH) (l:List (List Int)) (hf:f.Ok) (hl:eX l):aE C 153 [.agg f.cells,lay l] .nil (aD (.bool (gS f l))) :=
 (c.r153.go (aPN ⟨fun f hf=>(c.r161.go (bbG (aRL c) f hf) rfl).seen,fun f l v hV hl hv hvf=>(c.r160.go (a4K ⟨fun f v hv h=>(c.r156.go (aKI f hv v h) rfl).seen⟩ f hV l hl v hv hvf) rfl).seen⟩ f hf l hl) rfl).seen
theorem afC {C:Ctx} (c:cG C):ZW C :=
 {val:=aRL c
  valid:=amV c
  shaped:=bsY c
  rshaped:=fun f l hf hl=>c.r86.go (aPL ⟨amV c,fun f v hv h=>(c.r82.go (biL f hv v h) rfl).seen,fun f row hl=>c.r89.go (bpG f row hl) rfl⟩ f hf l hl) rfl }
theorem HY {C:Ctx} (c:cG C) (l:List Int) (x:Int) (h:l.length≤1000000000000000):aE C 260 [ints l,.int .i64 x] .nil (aD (.bool (l.contains x))):=c.r260.go (aHT l x (c.r261.go (baA l h x) rfl)) rfl
theorem bsX {C:Ctx} (c:cG C) (f:aH) (now:List (List Int)) (r:Int) (down:List Int) (hf:f.Ok) (hl:eX now) (hd:down.length≤1000000000000000):aE C 252 [.agg f.cells,lay now,.int .i64 r,ints down] .nil (aD (.bool (FW f now r down))) :=
 c.r252.go (bhJ f now r down (c.r250.go (aeT (afC c) f hf now hl r) rfl) (fun hu=>by
  obtain⟨h1,h2,h3,h4⟩:=jI hu
  exact c.r251.go (aHW ⟨HY c⟩ f (VF.of h1) now hl h2 r h3 h4 down hd) rfl)) rfl
theorem a3R {C:Ctx} (c:cG C):EB C :=
 {fmk:=(aIV c).fmk
  next:=fun l T o n a hn ha=>c.r240.go (bfE l T.1 T.2 o n a hn ha) rfl }
theorem blF {C:Ctx} (c:cG C):oQ C :=
 {a3R c with
  frac:=fun n d h1 h2 h0=>c.r241.go (beV (a3R c) n d h1 h2 h0) rfl
  name:=fun ch n hn=>c.r242.go (bfC ch n hn) rfl }
theorem bwL {C:Ctx} (c:cG C):CK C :=
 {blF c with
  dom:=fun o7 ext w1 w2 wd w4 w5 w6 ds hds lev par up H0 hH=>c.r243.go (blS (blF c) o7 ext w1 w2 wd w4 w5 w6 ds hds lev par up H0 hH) rfl }
theorem blG {C:Ctx} (c:cG C):CL C :=
 {a3R c with
  size:=fun f v hV h=>(c.r245.go (aKI f hV v h) rfl).seen
  has:=fun l x h=>c.r247.go (aVO l h x) rfl }
theorem bwM {C:Ctx} (c:cG C):a6O C :=
 {a3R c with
  fleet:=fun l T o vols a hv ha=>exactly (c.r244.go (a7E (bwL c) T o vols a hv ha) rfl)
  layout:=fun l T o a f ha hF hV h1=>exactly (c.r246.go (a1F (blG c) T o a ha f hF hV h1) rfl)
  rooms:=fun l T o a f ha hf hv h1=>exactly (c.r248.go (a7H (blG c) T o a ha f hv h1 (c.r85.go (aJT ⟨amV c⟩ f hf []) rfl)) rfl) }
theorem bFY {C:Ctx} (c:cG C) (s:rP C):bkP C :=
 {begin:=fun n=>c.r144.go (beJ n) rfl
  step:=fun n p w e=>c.r145.go (bpO n p w e) rfl
  same:=fun xs ys h=>c.r91.go (bpE xs ys h) rfl
  upd:=fun ws p w h1 h2=>(c.r146.go (bqC s ws h1 h2 p w) rfl).btE }
theorem a3V {C:Ctx} (c:cG C):RZ C 250 251 :=
 {usable:=fun f now r hf hl=>c.r250.go (aeT (afC c) f hf now hl r) rfl
  fits:=fun f now r down hu hl hd=>by
   obtain⟨h1,h2,h3,h4⟩:=jI hu
   exact c.r251.go (aHW ⟨HY c⟩ f (VF.of h1) now hl h2 r h3 h4 down hd) rfl }
theorem baN {C:Ctx} (c:cG C):a6P C:=⟨fun l x h=>c.r254.go (aVO l h x) rfl,fun f v hV h=>c.r257.go (bwJ f hV v h) rfl⟩
theorem btD {C:Ctx} (c:cG C):RZ C 253 255 :=
 {usable:=fun f now r hf hl=>c.r253.go (a3K (afC c) (fun f hf=>c.r258.go (aOD (afC c) f hf) rfl) f hf now hl r) rfl
  fits:=fun f now r down hu hl hd=>by
   obtain⟨h1,h2,h3,h4⟩:=jI hu
   exact c.r255.go (bhQ (baN c) f (VF.of h1) now hl h2 r h3 h4 down hd) rfl }
theorem aVX {C:Ctx} (c:cG C) (f:aH) (now:List (List Int)) (r:Int) (hf:f.Ok) (hl:eX now):aE C 262 [.agg f.cells,lay now,.int .i64 r] .nil (aD (.int .i64 (jG f now r))):=c.r262.go (bdJ (a3V c) f hf now hl r) rfl
theorem bpD {C:Ctx} (c:cG C) (f:aH) (now:List (List Int)) (r:Int) (hf:f.Ok) (hl:eX now):aE C 263 [.agg f.cells,lay now,.int .i64 r] .nil (aD (wvT f now r)) :=
 (aE.bgZ (c.r263.go (bdQ { a3V c with check:=aVX c,clone:=fun H q rs l h1 h2 h3 h4=>c.r277.go (a9W H q rs l h1 h2 h3 h4) rfl } f hf now hl r) rfl)).seen
theorem bpB {C:Ctx} (c:cG C) (f:aH) (now:List (List Int)) (r:Int) (hf:f.Ok) (hl:eX now):aE C 264 [.agg f.cells,lay now,.int .i64 r] .nil (aD (a4L (sZ f now r) (jG f now r))):=c.r264.go (bdH f now hl r (aVX c f now r hf hl)) rfl
theorem bpC {C:Ctx} (c:cG C) (s:rP C) (f:aH) (now:List (List Int)) (r:Int) (ws:List (List Int)) (hf:f.Ok) (hl:eX now) (h1:ws.length≤1000000) (h2:ws.flatten.length≤1000000):aE C 265 [.agg f.cells,lay now,.int .i64 r,lists ws] .nil (aD (.bool (jO f now r ws))) :=
 c.r265.go (bdO { a3V c with concat:=s.concat,contains:=HY c } f hf now hl r ws h1 h2) rfl
theorem bhX {C:Ctx} (c:cG C) (f:aH) (now:List (List Int)) (r:Int) (ws:List (List Int)) (hf:f.Ok) (hl:eX now) (h1:ws.length≤1000000) (h2:ws.flatten.length≤1000000):aE C 269 [.agg f.cells,lay now,.int .i64 r,lists ws] .nil (aD (.bool (jO f now r ws))) :=
 c.r269.go (bcQ { btD c with has:=(baN c).has } f hf now hl r ws h1 h2) rfl
theorem btC {C:Ctx} (c:cG C) (s:rP C):a6Q C :=
 {within:=fun x n hn=>c.r24.go (a2P x n hn) rfl
  awak:=c.r26.go (a6T (bFY c s)) rfl
  made:=fun l T=>c.r249.go (bfA (bwM c) T) rfl }
theorem a3W {C:Ctx} (c:cG C) (s:rP C) (r:aN C 276 NH) (l:List Int) (T:TpM l) (n:Int):aE C 276 [ints l,.int .i64 n] .nil (aD (.bool true)) :=
 r.go (a8Q { btC c s with waves:=bpD c,bound:=bpB c,check:=bpC c s,rcheck:=bhX c,fits:=bsX c } l T n) rfl
end Go.PM
