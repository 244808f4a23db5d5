/-
  Texts of ours, joined: RoW1 RoW4 RwW7 RwW8 RwW9 MdW12 RoW5 RoW6 RoW2 RoW7 RfW3 RwL1 L11W11 L11W12 L11W13 R11W3 R11W4 R11W5 R11W6 L11W14 L11W15 RwL2 RwL3 RfW4 RfW5 R2Code R2W1 R2W2 R2W3 R2W4 R2W5 R2W6 R2W7 R2W8 R3W1 R3W2 R3W. No condition.
-/
import Derived.Test.YthbkofcdddghgaaGreatRWaves1
import Derived.Test.YthbkofcdddghgaaGreatRWaves2
import Derived.Test.YthbkofcdddghgaaGreatRWaves3
import Derived.Test.YthbkofcdddghgaaGreatRWaves4

set_option linter.unusedSimpArgs false
set_option linter.unusedVariables false
open Nat renaming reduceEqDiff → γ, reduceAdd → δ, reduceSub → ε, reduceMul → ζ, reduceLT → η, reduceLeDiff → θ, reduceBEq → τ
open Int renaming reduceLT → ι, reduceLE → κ, reduceEq → μ, reduceToNat → ν, reduceAdd → ξ, reduceNeg → ο, reduceBEq → ρ, reduceBNe → σ
open List renaming reduceReplicate → υ
open List renaming length_map → bJO, range → bJP, replicate → bJR, getElem_mem → bJS, length_append → bJW, getElem?_eq_getElem → bJZ, length_singleton → bKC, mem_cons → bKE, take_of_length_le → bKF, length_take → bKG, getD_eq_getElem?_getD → bKH, all_eq_true → bKK, take_length → bKL, append_assoc → bKP, drop_zero → bKQ, getElem?_map → bKS, mem_map → bKU, mem_singleton → bKV, getElem?_eq_some_iff → bKY, mem_range → bKZ, mem_append → bLB, not_mem_nil → bLC, getElem?_eq_none → bLD, length_cons → bLG, map_append → bLK, take_succ_eq_append_getElem → bLL, append_nil → bLM, drop_eq_getElem_cons → bLN, length_set → bLO, length_drop → bLQ, map_cons → bLR, Sublist → bLU, getElem_of_mem → bLV, getElem?_append_right → bLX, getElem_map → bLY, length_nil → bLZ, nil_append → bMA, nodup_append → bMC, take_append_drop → bMD, getElem?_append_left → bMH, mem_of_getElem? → bMI, contains_iff_mem → bMN, set_append_right → bMQ, getElem?_take → bMU, drop_of_length_le → bMZ, getElem?_drop → bNA, length_replicate → bNB, eq_nil_of_length_eq_zero → bNC, getElem?_take_of_lt → bND
open Nat renaming le_refl → bJQ, gcd → bJT, zero_le → bJY, mul_add → bKB, lt_or_ge → bKI, mul_assoc → bKJ, zero_add → bKN, mul_comm → bKO, add_mul → bKR, mul_le_mul_right → bKT, mod_eq_of_lt → bKW, mod_lt → bLE, add_zero → bLH, pow_succ → bLI, min_eq_left → bLS, mul_le_mul_left → bLT, pos_of_ne_zero → bLW, add_assoc → bMB, pow_pos → bME, sub_self → bMF, div_lt_iff_lt_mul → bMJ, eq_zero_or_pos → bMO, div_add_mod → bMV, div_eq_of_lt → bMW
open Bool renaming false_and → bJU, not_true → bJV, true_and → bKA, not_false → bKD, and_eq_true → bKM, and_false → bLA, and_true → bLP, and_assoc → bMM, false_eq_true → bMP
open Option renaming map_eq_some_iff → bJX, map_some → bKX, some → bMG, getD_some → bMK, bind_eq_some_iff → bMR, bind_some → bMX
open Int renaming tdiv → bLF, toNat_natCast → bMT
open Array renaming replicate → bLJ, length_toList → bML, getElem?_eq_getElem → bMS, getElem?_eq_some_iff → bMY
namespace Go.PM
open Go
def wi (x n:Int):Int:=if n<1 then 0 else if x.tmod n<0 then x.tmod n+n else x.tmod n
theorem a3J {C:Ctx} (x n:Int) (hn:InK .i64 n):xH.wp C (aU DH.res (aE (.int .i64 (wi x n)))) (PF.args [.int .i64 x,.int .i64 n]) .nil:=by
 simp only[go_sem,γ,δ,ε,ζ,η,θ,ι,κ,μ,ν,ξ,ο,ρ,σ,τ,υ,reduceIte,reduceCtorEq,xH,adY,adZ,DH]
 refine kW (fun h=>?_) (fun h=>?_)
 ·simp only[go_sem,γ,δ,ε,ζ,η,θ,ι,κ,μ,ν,ξ,ο,ρ,σ,τ,υ,reduceIte,reduceCtorEq,aeA]
  refine aL (.inr rfl) Ev ?_
  simp only[decide_eq_true_eq] at h
  simp[aT,wi,h]
 ·simp only[decide_eq_false_iff_not] at h
  have h0:n≠0:=by omega
  simp only[go_sem,γ,δ,ε,ζ,η,θ,ι,κ,μ,ν,ξ,ο,ρ,σ,τ,υ,reduceIte,reduceCtorEq,aeB,aeC,h0]
  refine kW (fun h2=>?_) (fun h2=>?_)
  ·simp only[decide_eq_true_eq] at h2
   simp only[go_sem,γ,δ,ε,ζ,η,θ,ι,κ,μ,ν,ξ,ο,ρ,σ,τ,υ,reduceIte,reduceCtorEq,aeD]
   refine aL (.inr rfl) Ev ?_
   have h3:=Int.lt_tmod_of_pos x (Om:0<n)
   have:=hn.2
   have e:IntKind.i64.max=9223372036854775807:=by decide
   simp only[aT,wi,if_neg h,if_pos h2]
   rw[wrap_i64 Om Om]
  ·simp only[decide_eq_false_iff_not] at h2
   simp only[go_sem,γ,δ,ε,ζ,η,θ,ι,κ,μ,ν,ξ,ο,ρ,σ,τ,υ,reduceIte,reduceCtorEq,aeE]
   refine aL (.inr rfl) Ev ?_
   simp only[aT,wi,if_neg h,if_neg h2]
def CW (n:Int):PV:=.agg [.int .i64 (if n<1 then 4 else 1),.int .i64 0]
theorem beR {C:Ctx} (n:Int):EM.wp C (aU begin.res (aE (CW n))) (PF.args [.int .i64 n]) .nil:=by
 simp only[go_sem,γ,δ,ε,ζ,η,θ,ι,κ,μ,ν,ξ,ο,ρ,σ,τ,υ,reduceIte,reduceCtorEq,EM,azT,begin]
 refine aQ fun o ho=>?_
 simp only[go_sem,γ,δ,ε,ζ,η,θ,ι,κ,μ,ν,ξ,ο,ρ,σ,τ,υ,reduceIte,reduceCtorEq,azU]
 refine kW (fun h=>?_) (fun h=>?_)
 ·simp only[go_sem,γ,δ,ε,ζ,η,θ,ι,κ,μ,ν,ξ,ο,ρ,σ,τ,υ,reduceIte,reduceCtorEq,azV]
  refine aL (.inr rfl) Ev ?_
  simp only[decide_eq_true_eq] at h
  simp[aT,CW,h]
 ·simp only[go_sem,γ,δ,ε,ζ,η,θ,ι,κ,μ,ν,ξ,ο,ρ,σ,τ,υ,reduceIte,reduceCtorEq,azW]
  refine aL (.inr rfl) Ev ?_
  simp only[decide_eq_false_iff_not] at h
  simp[aT,CW,h]
def mY (n p w e:Int):(Int × Int) × Int :=
 if w<0∨w≥n then ((0,0),110)
 else if p=1∧e=1 then ((2,w),0)
 else if p=2∧e=2 then ((3,w),0)
 else if p=3∧e=3∧w=IntKind.i64.wrap (n-1) then ((4,w),0)
 else if p=3∧e=3 then ((1,IntKind.i64.wrap (w+1)),0)
 else if p=3∧e=4 then ((5,w),0)
 else ((0,0),110)
def stV (x:Int × Int):PV:=.agg [.int .i64 x.1,.int .i64 x.2]
def mZ (x:(Int × Int) × Int):PV:=.tup [stV x.1,.int .i64 x.2]
theorem bpD {C:Ctx} (n p w e:Int):QD.wp C (aU step.res (aE (mZ (mY n p w e)))) (PF.args [.int .i64 n,.agg [.int .i64 p,.int .i64 w],.int .i64 e]) .nil:=by
 simp only[go_sem,γ,δ,ε,ζ,η,θ,ι,κ,μ,ν,ξ,ο,ρ,σ,τ,υ,reduceIte,reduceCtorEq,QD,aXM,step]
 refine aQ fun o4 ho4=>?_
 simp only[go_sem,γ,δ,ε,ζ,η,θ,ι,κ,μ,ν,ξ,ο,ρ,σ,τ,υ,reduceIte,reduceCtorEq]
 refine aQ fun o6 ho6=>?_
 have n64:¬ o6=o4:=(cX.1 ho6).1
 have n46:¬ o4=o6:=fun h=>n64 h.symm
 simp only[go_sem,γ,δ,ε,ζ,η,θ,ι,κ,μ,ν,ξ,ο,ρ,σ,τ,υ,reduceIte,reduceCtorEq,aXN,n64,n46]
 by_cases h1:w<0
 ·simp only[go_sem,γ,δ,ε,ζ,η,θ,ι,κ,μ,ν,ξ,ο,ρ,σ,τ,υ,reduceIte,reduceCtorEq,h1,anM,n64,n46]
  refine aL (.inr rfl) Ev ?_
  simp[aT,mY,h1,mZ,stV]
 simp only[go_sem,γ,δ,ε,ζ,η,θ,ι,κ,μ,ν,ξ,ο,ρ,σ,τ,υ,reduceIte,reduceCtorEq,h1,n64,n46]
 by_cases h2:w≥n
 ·simp only[go_sem,γ,δ,ε,ζ,η,θ,ι,κ,μ,ν,ξ,ο,ρ,σ,τ,υ,reduceIte,reduceCtorEq,h2,anM,n64,n46]
  refine aL (.inr rfl) Ev ?_
  simp[aT,mY,h2,mZ,stV]
 simp only[go_sem,γ,δ,ε,ζ,η,θ,ι,κ,μ,ν,ξ,ο,ρ,σ,τ,υ,reduceIte,reduceCtorEq,h2,aXO,n64,n46]
 refine bP ((PH.nil.set o4 (.rows 2 [[.int .i64 p,.int .i64 w]]))) dX (PH.aI PH.nil_le (by simp only[go_sem,γ,δ,ε,ζ,η,θ,ι,κ,μ,ν,ξ,ο,ρ,σ,τ,υ,reduceIte,reduceCtorEq,n64,n46])) ?_
 simp only[go_sem,γ,δ,ε,ζ,η,θ,ι,κ,μ,ν,ξ,ο,ρ,σ,τ,υ,reduceIte,reduceCtorEq]
 refine aQ fun o21 ho21=>?_
 have n214:¬ o21=o4:=(cX.1 (cX.1 ho21).2).1
 have n421:¬ o4=o21:=fun h=>n214 h.symm
 have n216:¬ o21=o6:=(cX.1 ho21).1
 have n621:¬ o6=o21:=fun h=>n216 h.symm
 simp only[go_sem,γ,δ,ε,ζ,η,θ,ι,κ,μ,ν,ξ,ο,ρ,σ,τ,υ,reduceIte,reduceCtorEq]
 refine SS (o:=o21) (kv:=.agg [.int .i64 1,.int .i64 1]) (vv:=.int .i64 2) (key:=[.int .i64 1,.int .i64 1]) (g:=fun _=>none) Sq Sq Sq Sq Sq (by rfl) (by simp only[go_sem,γ,δ,ε,ζ,η,θ,ι,κ,μ,ν,ξ,ο,ρ,σ,τ,υ,reduceIte,reduceCtorEq,n214]) ?_
 simp only[go_sem,γ,δ,ε,ζ,η,θ,ι,κ,μ,ν,ξ,ο,ρ,σ,τ,υ,reduceIte,reduceCtorEq]
 refine SS (o:=o21) (kv:=.agg [.int .i64 2,.int .i64 2]) (vv:=.int .i64 3) (key:=[.int .i64 2,.int .i64 2]) (g:=eU.upd (fun _=>none) [.int .i64 1,.int .i64 1] (.int .i64 2)) Sq Sq Sq Sq Sq (by rfl) (by simp only[go_sem,γ,δ,ε,ζ,η,θ,ι,κ,μ,ν,ξ,ο,ρ,σ,τ,υ,reduceIte,reduceCtorEq,n214]) ?_
 simp only[go_sem,γ,δ,ε,ζ,η,θ,ι,κ,μ,ν,ξ,ο,ρ,σ,τ,υ,reduceIte,reduceCtorEq]
 refine SS (o:=o21) (kv:=.agg [.int .i64 3,.int .i64 3]) (vv:=.int .i64 1) (key:=[.int .i64 3,.int .i64 3]) (g:=eU.upd (eU.upd (fun _=>none) [.int .i64 1,.int .i64 1] (.int .i64 2)) [.int .i64 2,.int .i64 2] (.int .i64 3)) Sq Sq Sq Sq Sq (by rfl) (by simp only[go_sem,γ,δ,ε,ζ,η,θ,ι,κ,μ,ν,ξ,ο,ρ,σ,τ,υ,reduceIte,reduceCtorEq,n214]) ?_
 simp only[go_sem,γ,δ,ε,ζ,η,θ,ι,κ,μ,ν,ξ,ο,ρ,σ,τ,υ,reduceIte,reduceCtorEq]
 refine SS (o:=o21) (kv:=.agg [.int .i64 3,.int .i64 4]) (vv:=.int .i64 5) (key:=[.int .i64 3,.int .i64 4]) (g:=eU.upd (eU.upd (eU.upd (fun _=>none) [.int .i64 1,.int .i64 1] (.int .i64 2)) [.int .i64 2,.int .i64 2] (.int .i64 3)) [.int .i64 3,.int .i64 3] (.int .i64 1)) Sq Sq Sq Sq Sq (by rfl) (by simp only[go_sem,γ,δ,ε,ζ,η,θ,ι,κ,μ,ν,ξ,ο,ρ,σ,τ,υ,reduceIte,reduceCtorEq,n214]) ?_
 simp only[go_sem,γ,δ,ε,ζ,η,θ,ι,κ,μ,ν,ξ,ο,ρ,σ,τ,υ,reduceIte,reduceCtorEq]
 have hkey:∀ a b:Int,([KS.int .i64 p,KS.int .i64 e]=[KS.int .i64 a,KS.int .i64 b])=(p=a∧e=b):=fun a b=>by simp
 simp only[go_sem,γ,δ,ε,ζ,η,θ,ι,κ,μ,ν,ξ,ο,ρ,σ,τ,υ,reduceIte,reduceCtorEq,n64,n46,n214,n421,n216,n621,eU.upd,hkey]
 by_cases q4:p=3∧e=4
 ·obtain⟨rfl,rfl⟩:=q4
  simp only[go_sem,γ,δ,ε,ζ,η,θ,ι,κ,μ,ν,ξ,ο,ρ,σ,τ,υ,reduceIte,reduceCtorEq,qF,qG,qH,qI,nO,n64,n46,n214,n421,n216,n621]
  refine aL (.inr rfl) Ev ?_
  simp[aT,mY,h1,h2,mZ,stV]
 by_cases q3:p=3∧e=3
 ·obtain⟨rfl,rfl⟩:=q3
  simp only[go_sem,γ,δ,ε,ζ,η,θ,ι,κ,μ,ν,ξ,ο,ρ,σ,τ,υ,reduceIte,reduceCtorEq,qF,qG,qH,qI,nO,n64,n46,n214,n421,n216,n621,aXP]
  by_cases hw:w=IntKind.i64.wrap (n-1)
  ·simp only[go_sem,γ,δ,ε,ζ,η,θ,ι,κ,μ,ν,ξ,ο,ρ,σ,τ,υ,reduceIte,reduceCtorEq,bX hw,aXQ,qF,qG,qH,qI,nO,n64,n46,n214,n421,n216,n621]
   refine aL (.inr rfl) Ev ?_
   simp[aT,mY,h1,h2,← hw,mZ,stV]
  ·simp only[go_sem,γ,δ,ε,ζ,η,θ,ι,κ,μ,ν,ξ,ο,ρ,σ,τ,υ,reduceIte,reduceCtorEq,bG hw,aKX,qF,qG,qH,qI,nO,n64,n46,n214,n421,n216,n621]
   refine aL (.inr rfl) Ev ?_
   simp[aT,mY,h1,h2,hw,mZ,stV]
 by_cases q2:p=2∧e=2
 ·obtain⟨rfl,rfl⟩:=q2
  simp only[go_sem,γ,δ,ε,ζ,η,θ,ι,κ,μ,ν,ξ,ο,ρ,σ,τ,υ,reduceIte,reduceCtorEq,qF,qG,qH,qI,nO,n64,n46,n214,n421,n216,n621]
  refine aL (.inr rfl) Ev ?_
  simp[aT,mY,h1,h2,mZ,stV]
 by_cases q1:p=1∧e=1
 ·obtain⟨rfl,rfl⟩:=q1
  simp only[go_sem,γ,δ,ε,ζ,η,θ,ι,κ,μ,ν,ξ,ο,ρ,σ,τ,υ,reduceIte,reduceCtorEq,qF,qG,qH,qI,nO,n64,n46,n214,n421,n216,n621]
  refine aL (.inr rfl) Ev ?_
  simp[aT,mY,h1,h2,mZ,stV]
 simp only[go_sem,γ,δ,ε,ζ,η,θ,ι,κ,μ,ν,ξ,ο,ρ,σ,τ,υ,reduceIte,reduceCtorEq,q1,q2,q3,q4,qF,qG,qH,qI,nO,n64,n46,n214,n421,n216,n621]
 refine aL (.inr rfl) Ev ?_
 have q3':¬ (p=3∧e=3∧w=IntKind.i64.wrap (n-1)):=fun h=>q3 ⟨h.1,h.2.1⟩
 simp only[aT,mY,h1,h2,q1,q2,q3,q3',q4,mZ,stV,or_self,if_false]
def BU (len:Nat) (p w:Int):Nat:=if w<len then (if p=3∨p=4 then w.toNat+1 else w.toNat) else len
def QV (ws:List (List Int)) (p w:Int):List Int:=if p<1∨p>5∨w<0 then [] else RO.tL [] (ws.take (BU ws.length p w)).flatten
structure vX (C:Ctx):Prop where
 concat:∀ ws:List (List Int),ws.length≤1000000→ws.flatten.length≤1000000→aD C 178 [lists ws] .nil (akY ws.flatten)
 sort:∀ (o:Nat) (xs:List Int),xs≠[]→xs.length<4611686018427387904→aD C 180 [.osl o 1 0 xs.length] (PH.nil.set o (.rows 1 (bD xs))) (fun r H'=>r=.tup []∧H'=PH.nil.set o (.rows 1 (bD (sorted xs))))
 sort0:aD C 180 [.aB] .nil (fun r H'=>r=.tup []∧H'=.nil)
 compact:∀ (o:Nat) (xs:List Int),xs≠[]→xs.length<4611686018427387904→aD C 177 [.osl o 1 0 xs.length] (PH.nil.set o (.rows 1 (bD xs))) (fun r H'=>r=.osl o 1 0 (Lib.compact xs).length∧H'=PH.nil.set o (.rows 1 (bD (Lib.compact xs++bJR (xs.length-(Lib.compact xs).length) 0))))
 compact0:aD C 177 [.aB] .nil (fun r H'=>r=.aB∧H'=.nil)
theorem a8U (xs:List Int):(bD xs).length=xs.length:=by simp[bD]
theorem tU {C:Ctx} (L:vX C) (ws:List (List Int)) (h1:ws.length≤1000000) (h2:ws.flatten.length≤1000000) (n:Nat) (hn:n≤ws.length) (F:PF) (f0:F 0=some (lists ws)) (f5:F 5=some (.int .i64 n)) :
  aC.wp C (.seq (.region anS) (.seq (.region TN) (.seq (.region TO) .ret))) (aU [.tmp 4] (cA (ints (RO.tL [] (ws.take n).flatten)))) F .nil:=by
 have hr:(ws.map fun w=>[ints w]).take n=(ws.take n).map fun w=>[ints w]:=by rw[List.map_take]
 have hc1:(n:Int)≤(ws.length:Nat):=by omega
 simp only[go_sem,γ,δ,ε,ζ,η,θ,ι,κ,μ,ν,ξ,ο,ρ,σ,τ,υ,reduceIte,reduceCtorEq,anS,f0,f5,hr,hc1]
 have hfl:=alR ws n
 refine fP (L.concat (ws.take n) (by rw[bKG]; omega) Om) Ev PH.nil_le ?_
 rw[← RO.aPP]
 generalize (ws.take n).flatten=xs at hfl
 intro r H' hr ha
 rcases hr with ⟨h0,rfl,rfl⟩ | ⟨h0,o,rfl,rfl⟩
 ·subst h0
  rw[PH.lC]
  simp only[go_sem,γ,δ,ε,ζ,η,θ,ι,κ,μ,ν,ξ,ο,ρ,σ,τ,υ,reduceIte,reduceCtorEq,TN]
  refine fP L.sort0 Ev PH.nil_le ?_
  rintro r H' ⟨rfl,rfl⟩ -
  rw[PH.lC]
  simp only[go_sem,γ,δ,ε,ζ,η,θ,ι,κ,μ,ν,ξ,ο,ρ,σ,τ,υ,reduceIte,reduceCtorEq,TO]
  refine fP L.compact0 Ev PH.nil_le ?_
  rintro r H' ⟨rfl,rfl⟩ -
  rw[PH.lC]
  simp only[go_sem,γ,δ,ε,ζ,η,θ,ι,κ,μ,ν,ξ,ο,ρ,σ,τ,υ,reduceIte,reduceCtorEq]
  have e:Lib.compact (RO.srt [])=[]:=by simp[RO.srt,Lib.compact,Lib.compactUpTo]
  rw[e]
  exact aX (vs:=[.aB]) (.inr rfl) .nil Ev PH.nil_le ⟨.nil 1,rfl⟩
 ·rw[PH.kG]
  simp only[go_sem,γ,δ,ε,ζ,η,θ,ι,κ,μ,ν,ξ,ο,ρ,σ,τ,υ,reduceIte,reduceCtorEq,TN]
  refine fP (L.sort o xs h0 Om) Ev PH.le_refl ?_
  rintro r H' ⟨rfl,rfl⟩ -
  rw[PH.lO,PH.set_set]
  simp only[go_sem,γ,δ,ε,ζ,η,θ,ι,κ,μ,ν,ξ,ο,ρ,σ,τ,υ,reduceIte,reduceCtorEq,TO]
  have hsl:(sorted xs).length=xs.length:=by simp[sorted]
  have hs0:sorted xs≠[]:=by
   intro e; rw[e] at hsl; exact h0 (bNC hsl.symm)
  refine fP (L.compact o (sorted xs) hs0 Om) (by rw[hsl]; simp only[go_sem,γ,δ,ε,ζ,η,θ,ι,κ,μ,ν,ξ,ο,ρ,σ,τ,υ,reduceIte,reduceCtorEq]) PH.le_refl ?_
  rintro r H' ⟨rfl,rfl⟩ -
  rw[PH.lO,PH.set_set]
  simp only[go_sem,γ,δ,ε,ζ,η,θ,ι,κ,μ,ν,ξ,ο,ρ,σ,τ,υ,reduceIte,reduceCtorEq]
  refine aJL (o:=o) (s:=1) (k:=(Lib.compact (sorted xs)).length) (rs:=bD (Lib.compact (sorted xs)++bJR ((sorted xs).length-(Lib.compact (sorted xs)).length) 0)) (.inr rfl) Sq Sq (by rw[a8U,bJW]; omega) ⟨?_,rfl⟩
  have e:(bD (Lib.compact (sorted xs)++bJR ((sorted xs).length-(Lib.compact (sorted xs)).length) 0)).take (Lib.compact (sorted xs)).length=bD (Lib.compact (sorted xs)):=by
   unfold bD
   rw[bLK,List.take_append_of_le_length (by rw[bJO]; exact bJQ _),bKF (by rw[bJO]; exact bJQ _)]
  rw[e]
  exact .refl _
theorem bpR {C:Ctx} (L:vX C) (ws:List (List Int)) (h1:ws.length≤1000000) (h2:ws.flatten.length≤1000000) (p w:Int) :
  QU.wp C (aU aMP.res (cA (ints (QV ws p w)))) (PF.args [lists ws,.agg [.int .i64 p,.int .i64 w]]) .nil:=by
 simp only[go_sem,γ,δ,ε,ζ,η,θ,ι,κ,μ,ν,ξ,ο,ρ,σ,τ,υ,reduceIte,reduceCtorEq,QU,aZD,aZE,aMP]
 by_cases c1:p<1
 ·simp only[go_sem,γ,δ,ε,ζ,η,θ,ι,κ,μ,ν,ξ,ο,ρ,σ,τ,υ,reduceIte,reduceCtorEq,c1,TK]
  refine aX (.inr rfl) .nil Ev PH.nil_le ⟨?_,rfl⟩
  simp only[QV,c1,true_or,if_true]; exact .nil 1
 simp only[go_sem,γ,δ,ε,ζ,η,θ,ι,κ,μ,ν,ξ,ο,ρ,σ,τ,υ,reduceIte,reduceCtorEq,c1]
 by_cases c2:p>5
 ·simp only[go_sem,γ,δ,ε,ζ,η,θ,ι,κ,μ,ν,ξ,ο,ρ,σ,τ,υ,reduceIte,reduceCtorEq,c2,TK]
  refine aX (.inr rfl) .nil Ev PH.nil_le ⟨?_,rfl⟩
  simp only[QV,c2,true_or,or_true,if_true]; exact .nil 1
 simp only[go_sem,γ,δ,ε,ζ,η,θ,ι,κ,μ,ν,ξ,ο,ρ,σ,τ,υ,reduceIte,reduceCtorEq,c2]
 by_cases c3:w<0
 ·simp only[go_sem,γ,δ,ε,ζ,η,θ,ι,κ,μ,ν,ξ,ο,ρ,σ,τ,υ,reduceIte,reduceCtorEq,c3,TK]
  refine aX (.inr rfl) .nil Ev PH.nil_le ⟨?_,rfl⟩
  simp only[QV,c3,or_true,if_true]; exact .nil 1
 simp only[go_sem,γ,δ,ε,ζ,η,θ,ι,κ,μ,ν,ξ,ο,ρ,σ,τ,υ,reduceIte,reduceCtorEq,c3]
 have hu:QV ws p w=RO.tL [] (ws.take (BU ws.length p w)).flatten:=by
  simp only[QV,c1,c2,c3,or_self,if_false]
 rw[hu]
 by_cases c4:w<ws.length
 ·have c5:¬ (ws.length:Int)<w:=by omega
  simp only[go_sem,γ,δ,ε,ζ,η,θ,ι,κ,μ,ν,ξ,ο,ρ,σ,τ,υ,reduceIte,reduceCtorEq,TL,c5,TM,c4]
  by_cases c6:p=3
  ·subst c6
   have e:BU ws.length 3 w=w.toNat+1:=by simp[BU,c4]
   rw[e]
   simp only[go_sem,γ,δ,ε,ζ,η,θ,ι,κ,μ,ν,ξ,ο,ρ,σ,τ,υ,reduceIte,reduceCtorEq,anR]
   refine tU L ws h1 h2 _ Om _ Sq (by simp only[go_sem,γ,δ,ε,ζ,η,θ,ι,κ,μ,ν,ξ,ο,ρ,σ,τ,υ,reduceIte,reduceCtorEq]; rw[wrap_i64 Om Om]; omega)
  simp only[go_sem,γ,δ,ε,ζ,η,θ,ι,κ,μ,ν,ξ,ο,ρ,σ,τ,υ,reduceIte,reduceCtorEq,bG c6]
  by_cases c7:p=4
  ·subst c7
   have e:BU ws.length 4 w=w.toNat+1:=by simp[BU,c4]
   rw[e]
   simp only[go_sem,γ,δ,ε,ζ,η,θ,ι,κ,μ,ν,ξ,ο,ρ,σ,τ,υ,reduceIte,reduceCtorEq,anR]
   refine tU L ws h1 h2 _ Om _ Sq (by simp only[go_sem,γ,δ,ε,ζ,η,θ,ι,κ,μ,ν,ξ,ο,ρ,σ,τ,υ,reduceIte,reduceCtorEq]; rw[wrap_i64 Om Om]; omega)
  have e:BU ws.length p w=w.toNat:=by simp[BU,c4,c6,c7]
  rw[e]
  simp only[go_sem,γ,δ,ε,ζ,η,θ,ι,κ,μ,ν,ξ,ο,ρ,σ,τ,υ,reduceIte,reduceCtorEq,bG c7]
  refine tU L ws h1 h2 _ Om _ Sq (by simp only[go_sem,γ,δ,ε,ζ,η,θ,ι,κ,μ,ν,ξ,ο,ρ,σ,τ,υ,reduceIte,reduceCtorEq]; omega)
 ·have e:BU ws.length p w=ws.length:=by simp[BU,c4]
  rw[e]
  by_cases c5:(ws.length:Int)<w
  ·simp only[go_sem,γ,δ,ε,ζ,η,θ,ι,κ,μ,ν,ξ,ο,ρ,σ,τ,υ,reduceIte,reduceCtorEq,TL,c5,TM]
   refine tU L ws h1 h2 _ (bJQ _) _ Sq Sq
  ·have c6:w=(ws.length:Nat):=by omega
   subst c6
   simp only[go_sem,γ,δ,ε,ζ,η,θ,ι,κ,μ,ν,ξ,ο,ρ,σ,τ,υ,reduceIte,reduceCtorEq,TL,TM]
   refine tU L ws h1 h2 _ (bJQ _) _ Sq Sq
open Go Go.Na
theorem akY.heap {H H':PH} {xs:List Int} {r:PV} (h:akY xs r H') (hap:kN H .nil H'):aR (H.eQ .nil H') [] [(r,1,bD xs)]:=by
 rcases h with ⟨rfl,rfl,rfl⟩ | ⟨hne,o,rfl,rfl⟩
 ·rw[PH.lC]; exact aR.nil.nI 1
 ·rw[PH.kG]
  have:=(aR.nil (H:=H)).aGX (s:=1) (rows:=bD xs) (hap o _ (by rw[eS]) rfl)
  rw[cK] at this
  exact this
structure Diff (n:Nat) (l:List Int):Prop where
 nd:l.Nodup
 rng:InR l n
theorem Diff.snoc {n:Nat} {l:List Int} {d:Int} (h:Diff n l) (h0:0≤d) (h1:d<n) (hc:l.contains d=false):Diff n (l++[d]):=by
 refine⟨?_,fun x hx=>?_⟩
 ·have:=VA l d
  rw[hc,bKD,bLP] at this
  have h2:pB l=true:=decide_eq_true h.nd
  rw[h2] at this
  exact of_decide_eq_true this
 ·rcases bLB.1 hx with hx | hx
  ·exact h.rng x hx
  ·rw[bKV] at hx; subst hx; exact⟨h0,h1⟩
theorem aD.aGW {C:Ctx} {name:Nat} {args:List PV} {H:PH} {ws:List (List Int)} {e:Int} (h:aD C name args H (SO ws e)):aD C name args H (cA (.tup [lists ws,.int .i64 e])) :=
 ⟨h.1,fun E w vs hN hW hvs=>(h.2 E w vs hN hW hvs).mono fun x w' he=>by
  obtain⟨u,pv,E',H',rfl,hW',hr,hE,vo,ps,rfl,hH,rfl⟩:=he
  obtain⟨φ,H1,k1,-,k3,-,k5,-⟩:=YO ps [] [] .nil hH (fun b hb=>by cases hb)
  obtain⟨E2,z1,z2,z3⟩:=(k5 (PF.nil.set 0 (.tup [vo,.int .i64 e]))).sound hW'
  have bJJ:=z3 (fun _=>u) (fun i p hi=>by
   rw[lP] at hi
   split at hi
   ·cases hi; exact hr
   ·cases hi) 0 (.tup [φ vo,.int .i64 e]) (by rw[TP,lP,if_pos rfl,bKX,k3])
  refine⟨u,_,E2,.nil,rfl,z1.weaken PH.nil_le,bJJ,(hE.trans z2).drop PH.nil_le,.tup rfl fun j p q hp hq=>?_,rfl⟩
  match j with
  | 0=>cases hp; cases hq; exact k1
  | 1=>cases hp; cases hq; exact .refl _
  | j+2=>cases hp⟩
abbrev fM (l:List Int):aJ:=(dH l 3 0).1
abbrev a4D (l:List Int):List (List Int):=(dA l (fM l) (dH l 3 0).2 (fM l).bHM.length).1
abbrev pM (l:List Int):Nat:=(dA l (fM l) (dH l 3 0).2 (fM l).bHM.length).2
abbrev aJO (l:List Int):List Int:=(fF l (fQ (fM l) []) (pM l)).1
structure a7G (C:Ctx):Prop extends EI C where
 fleet:∀ l:List Int,TpM l→∀ o vols a:Nat,vols≤50→a≤1000→aD C 244 [.ptr o 2 0 0,.int .i64 vols] (PH.nil.set o (bJ l a)) (fun r H=>r=.agg (dH l vols a).1.cells∧H=PH.nil.set o (bJ l (dH l vols a).2))
 layout:∀ l:List Int,TpM l→∀ (o a:Nat) (f:aJ),a≤10000→FM f→VF f→1≤f.bHK.length→aD C 246 [.ptr o 2 0 0,.agg f.cells] (PH.nil.set o (bJ l a)) (fun r H=>r=lay (dA l f a f.bHM.length).1∧H=PH.nil.set o (bJ l (dA l f a f.bHM.length).2))
 rooms:∀ l:List Int,TpM l→∀ (o a:Nat) (f:aJ),a≤10000→f.Ok→dM f=true→1≤f.bHK.length→aD C 248 [.ptr o 2 0 0,.agg f.cells] (PH.nil.set o (bJ l a)) (fun r H=>r=ints (fF l (fQ f []) a).1∧H=PH.nil.set o (bJ l (fF l (fQ f []) a).2))
def mdC (l R:List Int) (p:Nat):Spec:=fun _ vs=>match vs with
 | .ptr o _ _ _::_=>some ([o],fun _ r H'=>r=ints R∧H'=PH.nil.set o (bJ l p))
 | _=>none
def a1E (l:List Int) (r:PV) (H:PH):Prop:=∃ o,r=.tup [.agg ((fM l).cells++[lay (a4D l),ints (aJO l)]),.ptr o 2 0 0]∧H=PH.nil.set o (bJ l (fF l (fQ (fM l) []) (pM l)).2)
theorem bfJ {C:Ctx} (Lb:a7G C) {l:List Int} (T:TpM l):FQ.wp C (aU acI.res (a1E l)) (PF.args [ints l]) .nil:=by
 obtain⟨hF,hvl,-,hp1⟩:=yL l (bHM:=3) (by decide) 0
 have hv:=wX l (bHM:=3) (by decide) 0
 have hd0:=acR l 3 0
 have hV:=VF.of hv
 obtain⟨-,-,-,hp2⟩:=qY l hF (dH l 3 0).2 _ (bJQ _)
 have hp2':pM l≤10000:=by
  show (dA l (dH l 3 0).1 (dH l 3 0).2 (dH l 3 0).1.bHM.length).2≤10000
  omega
 obtain⟨f,hfe⟩:∃ f,(dH l 3 0).1=f:=⟨_,rfl⟩
 obtain⟨p1,hp1e⟩:∃ p,(dH l 3 0).2=p:=⟨_,rfl⟩
 obtain⟨L,hLe⟩:∃ L,a4D l=L:=⟨_,rfl⟩
 obtain⟨p2,hp2e⟩:∃ p,pM l=p:=⟨_,rfl⟩
 obtain⟨R,hRe⟩:∃ R,aJO l=R:=⟨_,rfl⟩
 obtain⟨p3,hp3e⟩:∃ p,(fF l (fQ (fM l) []) (pM l)).2=p:=⟨_,rfl⟩
 have cF:∀ o,aD C 244 [.ptr o 2 0 0,.int .i64 3] (PH.nil.set o (bJ l 0)) (fun r H=>r=.agg f.cells∧H=PH.nil.set o (bJ l p1)):=fun o=>by
  have:=Lb.fleet l T o 3 0 (by decide) (by decide)
  rw[hfe,hp1e] at this
  exact this
 have cL:∀ o,aD C 246 [.ptr o 2 0 0,.agg f.cells] (PH.nil.set o (bJ l p1)) (fun r H=>r=lay L∧H=PH.nil.set o (bJ l p2)):=fun o=>by
  have:=Lb.layout l T o (dH l 3 0).2 (dH l 3 0).1 Om hF hV hd0
  rw[show (dA l (dH l 3 0).1 (dH l 3 0).2 (dH l 3 0).1.bHM.length).1=L from hLe,show (dA l (dH l 3 0).1 (dH l 3 0).2 (dH l 3 0).1.bHM.length).2=p2 from hp2e,hfe,hp1e] at this
  exact this
 have cR:∀ o,aD C 248 [.ptr o 2 0 0,.agg f.cells] (PH.nil.set o (bJ l p2)) (fun r H=>r=ints R∧H=PH.nil.set o (bJ l p3)):=fun o=>by
  have:=Lb.rooms l T o (pM l) (fM l) hp2' hF.ok hv hd0
  rw[show (fF l (fQ (fM l) []) (pM l)).1=R from hRe,hp3e,show fM l=f from hfe,hp2e] at this
  exact this
 have hR:∀ r H,a1E l r H↔∃ o,r=.tup [.agg (f.cells++[lay L,ints R]),.ptr o 2 0 0]∧H=PH.nil.set o (bJ l p3):=fun r H=>by
  rw[← hfe,← hLe,← hRe,← hp3e]
  exact Iff.rfl
 simp only[go_sem,γ,δ,ε,ζ,η,θ,ι,κ,μ,ν,ξ,ο,ρ,σ,τ,υ,reduceIte,reduceCtorEq,FQ,aAM,acI]
 refine aQ fun o2 ho2=>?_
 have h1:aR (PH.nil.set o2 (.rows 9 [[.int .i64 0,.aB,.aB,.aB,.aB,.aB,.aB,.aB,.aB]])) [(o2,.rows 9 [[.int .i64 0,.aB,.aB,.aB,.aB,.aB,.aB,.aB,.aB]])] []:=aR.nil.new (H:=PH.nil) ho2 _
 simp only[go_sem,γ,δ,ε,ζ,η,θ,ι,κ,μ,ν,ξ,ο,ρ,σ,τ,υ,reduceIte,reduceCtorEq,aAN]
 refine aQ fun o ho=>?_
 have h2:=h1.new ho (bJ l 0)
 simp only[go_sem,γ,δ,ε,ζ,η,θ,ι,κ,μ,ν,ξ,ο,ρ,σ,τ,υ,reduceIte,reduceCtorEq,aAO]
 refine CI (cF o) (h2.at 1 rfl) rfl ?_
 have h3:=h2.set 1 rfl (bJ l p1)
 rw[PH.set_set] at h3
 simp only[go_sem,γ,δ,ε,ζ,η,θ,ι,κ,μ,ν,ξ,ο,ρ,σ,τ,υ,reduceIte,reduceCtorEq]
 refine aQ fun o5 ho5=>?_
 have h4:=h3.new ho5 (.rows 7 [f.cells])
 have n5:¬ o=o5:=h4.ne 1 2 rfl rfl (by decide)
 have n2:¬ o2=o5:=h4.ne 0 2 rfl rfl (by decide)
 have n02:¬ o2=o:=h4.ne 0 1 rfl rfl (by decide)
 have n5':¬ o5=o:=fun h=>n5 h.symm
 have n2':¬ o5=o2:=fun h=>n2 h.symm
 have n02':¬ o=o2:=fun h=>n02 h.symm
 simp only[go_sem,γ,δ,ε,ζ,η,θ,ι,κ,μ,ν,ξ,ο,ρ,σ,τ,υ,reduceIte,reduceCtorEq,aAP,bKE,bLC,or_false,forall_eq,forall_eq_or_imp]
 refine CI (cL o) (h4.at 1 rfl) rfl ?_
 have h5:=h4.set 1 rfl (bJ l p2)
 have b5:=h5.at 2 rfl
 simp only[go_sem,γ,δ,ε,ζ,η,θ,ι,κ,μ,ν,ξ,ο,ρ,σ,τ,υ,reduceIte,reduceCtorEq]
 refine bP (PH.nil.set o5 (.rows 7 [f.cells])) (mdC l R p3) (PH.aI PH.nil_le b5) ?_
 simp only[go_sem,γ,δ,ε,ζ,η,θ,ι,κ,μ,ν,ξ,ο,ρ,σ,τ,υ,reduceIte,reduceCtorEq,aAQ,n5,n2,n02,n5',n2',n02']
 have h6:=h5.set 1 rfl (bJ l p3)
 have b6:=h6.at 2 rfl
 rw[PH.set_set] at h6
 refine aAD (x:=bJ l p2) (y:=bJ l p3) (r:=ints R) (R:=fun _ r H'=>r=ints R∧H'=PH.nil.set o (bJ l p3)) rfl (h5.at 1 rfl) (cR o) ⟨rfl,rfl⟩ (fun r' H' h=>h) rfl (PH.aI PH.nil_le b6) ?_
 simp only[go_sem,γ,δ,ε,ζ,η,θ,ι,κ,μ,ν,ξ,ο,ρ,σ,τ,υ,reduceIte,reduceCtorEq,n5,n2,n02,n5',n2',n02',bKE,bLC,or_false,forall_eq,forall_eq_or_imp]
 have h7:=h6.set 0 rfl (.rows 9 [f.cells++[lay L,ints R]])
 refine⟨PH.aI PH.nil_le (h7.at 2 rfl),?_⟩
 refine aX (vs:=[.agg (f.cells++[lay L,ints R]),.ptr o 2 0 0]) (.inr rfl) (PH.nil.set o (bJ l p3)) ?_ (PH.aI PH.nil_le (h7.at 1 rfl)) ?_
 ·simp only[go_sem,γ,δ,ε,ζ,η,θ,ι,κ,μ,ν,ξ,ο,ρ,σ,τ,υ,reduceIte,reduceCtorEq,n02,n02',n2,n2']
  rfl
 ·rw[hR]
  exact⟨o,rfl,rfl⟩


def ayJ (xs ys:List Int) (i:Nat):PF:=(((PF.nil.set 0 (ints xs)).set 1 (ints ys)).set 4 (.bool false)).set 5 (.int .i64 i)
theorem boT {C:Ctx} (xs ys:List Int) (bJF:xs.length≤9223372036854775806):PU.wp C (aU same.res (aE (.bool (xs==ys)))) (PF.args [ints xs,ints ys]) .nil:=by
 simp only[go_sem,γ,δ,ε,ζ,η,θ,ι,κ,μ,ν,ξ,ο,ρ,σ,τ,υ,reduceIte,reduceCtorEq,PU,aWX,aWY,ints,same,bJO]
 refine kW (fun h=>?_) (fun h=>?_)
 ·simp only[go_sem,γ,δ,ε,ζ,η,θ,ι,κ,μ,ν,ξ,ο,ρ,σ,τ,υ,reduceIte,reduceCtorEq,aWZ]
  refine aL (.inr rfl) Ev ?_
  have:¬ xs=ys:=by rintro rfl; simp at h
  simp[aT,this]
 ·have hl:xs.length=ys.length:=by simp at h; omega
  simp only[go_sem,γ,δ,ε,ζ,η,θ,ι,κ,μ,ν,ξ,ο,ρ,σ,τ,υ,reduceIte,reduceCtorEq,aXA]
  refine wp_loop (α:=Nat) (ayJ xs ys) (fun _=>.nil) (fun i=>i≤xs.length∧xs.take i=ys.take i) (fun i=>xs.length-i) 0 ⟨by omega,by simp⟩ ?_ PH.nil_le ?_
  ·unfold ayJ
   refine PF.aI (PF.aI (PF.aI (PF.aI PF.nil_le ?_) ?_) ?_) ?_<;>simp only[go_sem,γ,δ,ε,ζ,η,θ,ι,κ,μ,ν,ξ,ο,ρ,σ,τ,υ,reduceIte,reduceCtorEq,ints]<;>rfl
  ·rintro i ⟨hi,htake⟩
   simp only[go_sem,γ,δ,ε,ζ,η,θ,ι,κ,μ,ν,ξ,ο,ρ,σ,τ,υ,reduceIte,reduceCtorEq,aWW,aXB,ayJ,ints,bJO]
   refine kW (fun h=>?_) (fun h=>?_)
   ·have hlt:i<xs.length:=by simpa using h
    simp only[go_sem,γ,δ,ε,ζ,η,θ,ι,κ,μ,ν,ξ,ο,ρ,σ,τ,υ,reduceIte,reduceCtorEq]
    refine bP .nil dX PH.nil_le ?_
    have hx:(xs.map fun n=>[PV.int .i64 n])[i]?=some [.int .i64 xs[i]]:=by simp[hlt]
    have hy:(ys.map fun n=>[PV.int .i64 n])[i]?=some [.int .i64 ys[i]]:=by simp[show i<ys.length by omega]
    simp only[go_sem,γ,δ,ε,ζ,η,θ,ι,κ,μ,ν,ξ,ο,ρ,σ,τ,υ,reduceIte,reduceCtorEq,aXC,bMT,Int.natCast_nonneg,hx,hy,loadCells,bKC,bJQ]
    refine kW (fun h2=>?_) (fun h2=>?_)
    ·simp only[go_sem,γ,δ,ε,ζ,η,θ,ι,κ,μ,ν,ξ,ο,ρ,σ,τ,υ,reduceIte,reduceCtorEq,aXD]
     refine aL (.inr rfl) Ev ?_
     have hne:xs[i]≠ys[i]:=by simpa using h2
     have:¬ xs=ys:=by rintro rfl; simp at hne
     simp[aT,this]
    ·have he:xs[i]=ys[i]:=by simpa using h2
     simp only[go_sem,γ,δ,ε,ζ,η,θ,ι,κ,μ,ν,ξ,ο,ρ,σ,τ,υ,reduceIte,reduceCtorEq,aXE]
     refine aG (i+1) ⟨by omega,?_⟩ Om ?_ PH.nil_le
     ·rw[bLL hlt,bLL (by omega:i<ys.length),htake,he]
     ·unfold ayJ
      have hw:IntKind.i64.wrap ((i:Int)+1)=((i+1:Nat):Int):=by
       exact dC Om
      refine PF.aI (PF.aI (PF.aI (PF.aI PF.nil_le ?_) ?_) ?_) ?_<;>simp only[go_sem,γ,δ,ε,ζ,η,θ,ι,κ,μ,ν,ξ,ο,ρ,σ,τ,υ,reduceIte,reduceCtorEq,ints,hw]
   ·have hge:i=xs.length:=by simp at h; omega
    simp only[go_sem,γ,δ,ε,ζ,η,θ,ι,κ,μ,ν,ξ,ο,ρ,σ,τ,υ,reduceIte,reduceCtorEq,aXF]
    refine aL (.inr rfl) Ev ?_
    subst hge
    have:xs=ys:=by
     rw[bKL] at htake
     rw[htake,hl,bKL]
    simp[aT,this]


def wvT (f:aJ) (now:List (List Int)) (r:Int):PV:=.tup [lists (jN f now r),.int .i64 (fL f now r)]
structure a7H (C:Ctx):Prop where
 within:∀ x n:Int,InK .i64 n→aD C 24 [.int .i64 x,.int .i64 n] .nil (aE (.int .i64 (wi x n)))
 awak:aD C 26 [] .nil (aE (.bool true))
 made:∀ l:List Int,TpM l→aD C 249 [ints l] .nil (a1E l)
structure beO (C:Ctx):Prop extends a7H C where
 waves:∀ (f:aJ) (now:List (List Int)) (r:Int),f.Ok→eT now→aD C 263 [.agg f.cells,lay now,.int .i64 r] .nil (aE (wvT f now r))
 rwaves:∀ (f:aJ) (now:List (List Int)) (r:Int),f.Ok→eT now→aD C 267 [.agg f.cells,lay now,.int .i64 r] .nil (aE (wvT f now r))
 bound:∀ (f:aJ) (now:List (List Int)) (r:Int),f.Ok→eT now→aD C 264 [.agg f.cells,lay now,.int .i64 r] .nil (aE (QH (tE f now r) (fL f now r)))
 rbound:∀ (f:aJ) (now:List (List Int)) (r:Int),f.Ok→eT now→aD C 268 [.agg f.cells,lay now,.int .i64 r] .nil (aE (QH (tE f now r) (fL f now r)))
 same:∀ (a b:List (List Int)),a.length≤1000000000000000→(∀ w∈a,w.length≤1000000000000000)→aD C 270 [lists a,lists b] .nil (aE (.bool (XD a b)))
theorem a7Y (a:List (List Int)):XD a a=true:=by unfold XD; simp
theorem a6I (f:aJ) (now:List (List Int)) (r:Int):(jN f now r).flatten.length≤f.bHK.length∧(jN f now r).length≤f.bHK.length∧∀ w∈jN f now r,w.length≤f.bHK.length:=by
 by_cases c:fL f now r=0
 ·obtain⟨hu,ha⟩:=tH c
  have k:=RR ha f.bHK.length (bJQ _)
  have e:jN f now r=lY f now r f.bHK.length:=by unfold jN; rw[if_pos c]
  rw[← e] at k
  refine⟨Nat.le_of_eq k.len,?_,fun w hw=>?_⟩
  ·have:=(alE.of (ps:=(jN f now r).map fun w=>(PV.aB,w)) ha (bJQ _) (by unfold wls; rw[List.map_map,e]; exact List.map_id _)).num
   rwa [bJO] at this
  ·have:=(List.sublist_flatten_of_mem hw).length_le
   rw[k.len] at this
   exact this
 ·have e:jN f now r=[]:=by unfold jN; rw[if_neg c]
  rw[e]
  exact⟨bJY _,bJY _,fun w hw=>by cases hw⟩
theorem bBS:InK .i64 3:=⟨by decide,by decide⟩
structure a1D (f:aJ) (L:List (List Int)):Prop where
 ok:f.Ok
 val:dM f=true
 lay:eT L
 shp:tZ f L
theorem buR (l:List Int):a1D (fM l) (a4D l) :=
 {val:=wX l (bHM:=3) (by decide) 0
  ok:=(yL l (bHM:=3) (by decide) 0).1.ok
  shp:=a8X l 3 0 (dH l 3 0).2 (by decide)
  lay:=(a8X l 3 0 (dH l 3 0).2 (by decide)).ok (VF.of (wX l (bHM:=3) (by decide) 0)) }
theorem a9D {C:Ctx} (Lb:beO C) (l:List Int) (T:TpM l) (rv:Int) (raw:Bool) :
  AI.wp C (aU NP.res (aE (.bool true))) (PF.args [ints l,.int .i64 rv,.bool raw]) .nil:=by
 have hC:=buR l
 simp only[go_sem,γ,δ,ε,ζ,η,θ,ι,κ,μ,ν,ξ,ο,ρ,σ,τ,υ,reduceIte,reduceCtorEq,AI,aqP,aqQ,NP]
 refine fP (Lb.made l T) Sq PH.nil_le ?_
 rintro _ _ ⟨o,rfl,rfl⟩ hap
 obtain⟨R,hR⟩:∃ R,aJO l=R:=⟨_,rfl⟩
 rw[hR]
 generalize a4D l=L at *
 generalize fM l=f at *
 generalize PH.eQ PH.nil PH.nil _=H0
 obtain⟨hOk,hv,hL,-⟩:=hC
 have hd:=(VF.of hv).small.bHK
 simp only[go_sem,γ,δ,ε,ζ,η,θ,ι,κ,μ,ν,ξ,ο,ρ,σ,τ,υ,reduceIte,reduceCtorEq]
 refine aQ fun o7 ho7=>?_
 have tail:∀ (r:Int) (F':PF) (H:PH),(((PF.nil.set 7 (.ptr o7 9 0 0)).set 9 (.int .i64 r))).le F'→H o7=some (.rows 9 [f.cells++[lay L,ints R]]) →
   aC.wp C (.seq (.region NS) (.seq (.region NT) (.seq (.region NU) (.seq (.region NV) (.seq (.region NW) (.seq (.region HI) .ret)))))) (aU [.tmp 6] (aE (.bool true))) F' H:=by
  intro r F' H hF' b7
  have f7:F' 7=some (.ptr o7 9 0 0):=hF' 7 _ Sq
  have f9:F' 9=some (.int .i64 r):=hF' 9 _ Sq
  have hw:=a6I f L r
  have c9:=(Lb.waves DL L r a4C hL).args (.mU a4B (.mU (.refl (lay L)) (.mU (.refl (.int .i64 r)) .a3V)))
  have e9:wvT DL L r=.tup [lists [],.int .i64 1]:=rfl
  rw[e9] at c9
  simp only[go_sem,γ,δ,ε,ζ,η,θ,ι,κ,μ,ν,ξ,ο,ρ,σ,τ,υ,reduceIte,reduceCtorEq,NS,f7,f9,b7,List.cons_append,bMA]
  refine aA (Lb.waves f L r hOk hL) Ev ?_
  simp only[go_sem,γ,δ,ε,ζ,η,θ,ι,κ,μ,ν,ξ,ο,ρ,σ,τ,υ,reduceIte,reduceCtorEq,wvT,NT,f7,f9,b7,List.cons_append,bMA]
  refine aA (Lb.rwaves f L r hOk hL) Ev ?_
  simp only[go_sem,γ,δ,ε,ζ,η,θ,ι,κ,μ,ν,ξ,ο,ρ,σ,τ,υ,reduceIte,reduceCtorEq,wvT,NU,f7,f9,b7,List.cons_append,bMA]
  refine aA (Lb.bound f L r hOk hL) Ev ?_
  simp only[go_sem,γ,δ,ε,ζ,η,θ,ι,κ,μ,ν,ξ,ο,ρ,σ,τ,υ,reduceIte,reduceCtorEq,QH,NV,f7,f9,b7,List.cons_append,bMA]
  refine aA (Lb.rbound f L r hOk hL) Ev ?_
  simp only[go_sem,γ,δ,ε,ζ,η,θ,ι,κ,μ,ν,ξ,ο,ρ,σ,τ,υ,reduceIte,reduceCtorEq,QH,NW,f7,f9,b7,List.cons_append,bMA]
  refine aA c9 Ev ?_
  simp only[go_sem,γ,δ,ε,ζ,η,θ,ι,κ,μ,ν,ξ,ο,ρ,σ,τ,υ,reduceIte,reduceCtorEq,HI]
  refine aA Lb.awak Ev ?_
  simp only[go_sem,γ,δ,ε,ζ,η,θ,ι,κ,μ,ν,ξ,ο,ρ,σ,τ,υ,reduceIte,reduceCtorEq]
  refine aA (Lb.same (jN f L r) (jN f L r) Om (fun w hw2=>by have:=hw.2.2 w hw2; omega)) Ev ?_
  simp only[go_sem,γ,δ,ε,ζ,η,θ,ι,κ,μ,ν,ξ,ο,ρ,σ,τ,υ,reduceIte,reduceCtorEq,a7Y,beq_self_eq_true]
  refine aL (.inr rfl) Ev ?_
  rfl
 simp only[aC.wp,go_sem] at tail
 have b7:(H0.set o7 (.rows 9 [f.cells++[lay L,ints R]])) o7=some (.rows 9 [f.cells++[lay L,ints R]]):=by rw[eS]
 cases raw with
 | true =>
  simp only[go_sem,γ,δ,ε,ζ,η,θ,ι,κ,μ,ν,ξ,ο,ρ,σ,τ,υ,reduceIte,reduceCtorEq,NQ,NR,List.cons_append,bMA,bKE,bLC,or_false,forall_eq,forall_eq_or_imp]
  refine tail rv _ _ Lq b7
 | false =>
  simp only[go_sem,γ,δ,ε,ζ,η,θ,ι,κ,μ,ν,ξ,ο,ρ,σ,τ,υ,reduceIte,reduceCtorEq,NQ,NR,aqR,List.cons_append,bMA,bKE,bLC,or_false,forall_eq,forall_eq_or_imp]
  refine aA (Lb.within rv 3 bBS) Ev ?_
  simp only[go_sem,γ,δ,ε,ζ,η,θ,ι,κ,μ,ν,ξ,ο,ρ,σ,τ,υ,reduceIte,reduceCtorEq]
  refine tail (wi rv 3) _ _ Lq b7

theorem tZ.move {f:aJ} {L:List (List Int)} (h:tZ f L) {x k d:Nat} (hx:x<L.length) (hd:d<f.bHK.length):tZ f (L.set x (L[x].set k d)):=by
 refine⟨by rw[bLO]; exact h.len,fun v hv=>?_,fun r hr=>?_⟩
 ·rw[bLO] at hv
  have:=h.row v hv
  rw[List.getElem_set]
  split
  ·rename_i e
   subst e
   rw[bLO]; exact this
  ·exact this
 ·rcases List.mem_or_eq_of_mem_set hr with hr | rfl
  ·exact h.home r hr
  ·intro y hy
   rcases List.mem_or_eq_of_mem_set hy with hy | rfl
   ·exact h.home _ (bJS hx) y hy
   ·omega

theorem bbH (f:aJ) (l:List (List Int)) (v:Nat):(lS f l v).isNone=(decide (((l.getD v []).length:Int)=fB f v)&&!decide (EL f (l.getD v [])≥0)):=by
 unfold lS EL
 split
 ·rename_i c
  rw[decide_eq_true c]
  cases eW (jG f) (l.getD v []) 0 with
  | none=>rfl
  | some i=>simp
 ·rename_i c
  rw[decide_eq_false c]; rfl
def ssS (f:aJ) (row:List Int):Spec:=fun name vs=>match name,vs with
 | 89,_=>some ([],fun _=>aE (.int .i64 (EL f row)))
 | 82,[_,.int _ v]=>some ([],fun _=>aE (.int .i64 (fB f v.toNat)))
 | _,_=>none
theorem biN (f:aJ) (row:List Int) (v:Nat):ssS f row 82 [.agg f.cells,.int .i64 v]=some ([],fun _=>aE (.int .i64 (fB f v))):=rfl




theorem a3G {f:aJ} (hv:dM f=true) {l:List (List Int)} (hS:tZ f l):gU f l=true:=by
 unfold gU
 rw[hv,decide_eq_true hS.len,bKA,bKA,bKK]
 intro v hm
 rw[hS.shape (bKZ.1 hm)]
 rfl
theorem a1D.usable {f:aJ} {L:List (List Int)} (h:a1D f L) {r:Int} (h0:0≤r) (h4:r≤4):fJ f L r=true:=by
 unfold fJ
 rw[h.val,a3G h.val h.shp,decide_eq_true h0,decide_eq_true h4]
 rfl
theorem aR.aB {H:PH} {B:List BX} {L:List LI} (h:aR H B L):∀ m,aR H B (L++kY (bJR m (.aB,[])))
 | 0=>by
  show aR H B (L++[])
  rw[bLM]; exact h
 | m+1=>by
  have:=(aR.aB h m).nI 1
  rw[bKP] at this
  have e:kY (bJR (m+1) (PV.aB,([]:List Int)))=kY (bJR m (.aB,[]))++[(.aB,1,[])]:=by
   unfold kY
   rw[List.replicate_succ',bLK]
   rfl
  rw[e]
  exact this
structure bkZ (C:Ctx):Prop where
 XH:∀ (f:aJ) (v:Nat),VF f→v<f.bHM.length→aD C 156 [.agg f.cells,.int .i64 v] .nil (aE (.int .i64 (fB f v)))
structure blC (C:Ctx):Prop where
 valid:∀ f:aJ,f.Ok→aD C 161 [.agg f.cells] .nil (aE (.bool (dM f)))
 shape:∀ (f:aJ) (l:List (List Int)) (v:Nat),VF f→eT l→v<l.length→v<f.bHM.length→aD C 160 [.agg f.cells,lay l,.int .i64 v] .nil (aE (shV (lS f l v)))
structure blA (C:Ctx):Prop where
 valid:∀ f:aJ,f.Ok→aD C 67 [.agg f.cells] .nil (aE (.bool (dM f)))
structure blB (C:Ctx):Prop where
 valid:∀ f:aJ,f.Ok→aD C 67 [.agg f.cells] .nil (aE (.bool (dM f)))
 XH:∀ (f:aJ) (v:Nat),VF f→v<f.bHM.length→aD C 82 [.agg f.cells,.int .i64 v] .nil (aE (.int .i64 (fB f v)))
 bad:∀ (f:aJ) (row:List Int),row.length≤16777216→aD C 89 [.agg f.cells,ints row] .nil (aE (.int .i64 (EL f row)))
theorem a5J {C:Ctx} (L:bkZ C) (f:aJ) (hV:VF f) (l:List (List Int)) (hl:eT l) (v:Nat) (hv:v<l.length) (hvf:v<f.bHM.length) :
  BD.wp C (aU xT.res (cA (shV (lS f l v)))) (PF.args [.agg f.cells,lay l,.int .i64 v]) .nil:=by
 have hr:(l.map fun r=>[ints r])[v]?=some [ints l[v]]:=by simp[hv]
 have hg:l.getD v []=l[v]:=by simp[bKH,hv]
 have hrl:(l[v]).length≤16777216:=by
  have h1:=aBK l (v+1)
  have:=hl.all
  rw[MU l hv,bJW] at h1
  omega
 unfold lS
 rw[hg]
 simp only[go_sem,γ,δ,ε,ζ,η,θ,ι,κ,μ,ν,ξ,ο,ρ,σ,τ,υ,reduceIte,reduceCtorEq,BD,atC]
 refine aQ fun o ho=>?_
 simp only[go_sem,γ,δ,ε,ζ,η,θ,ι,κ,μ,ν,ξ,ο,ρ,σ,τ,υ,reduceIte,reduceCtorEq]
 refine bP .nil (toS f) PH.nil_le ?_
 generalize l[v]=row at *
 have fin:∀ (x:azD) (F:PF) (H:PH),F 6=some (.ptr o 3 0 0)→F 7=some (.bool true)→H o=some (.rows 3 [x.cells])→aU xT.res (cA (shV (some x))) .ret F H:=by
  intro x F H h6 h7 hH
  refine aX (.inr rfl) .nil (vs:=[.agg x.cells,.bool true]) ?_ PH.nil_le ⟨.refl _,rfl⟩
  simp only[go_sem,γ,δ,ε,ζ,η,θ,ι,κ,μ,ν,ξ,ο,ρ,σ,τ,υ,reduceIte,reduceCtorEq,xT,h6,h7,hH]
 simp only[go_sem,γ,δ,ε,ζ,η,θ,ι,κ,μ,ν,ξ,ο,ρ,σ,τ,υ,reduceIte,reduceCtorEq,atD,hr,bJO]
 refine bS (biQ f v) (L.XH f v hV hvf) Ev PH.nil_le ?_
 by_cases c:((row.length:Nat):Int)=fB f v
 ·rw[if_pos c]
  simp only[go_sem,γ,δ,ε,ζ,η,θ,ι,κ,μ,ν,ξ,ο,ρ,σ,τ,υ,reduceIte,reduceCtorEq,bV c,atF,hr,bJO]
  refine wp_loop (α:=Nat) (fun k=>biS f o v row k) (fun k=>PH.nil.set o (.rows 3 [[.int .i64 0,.int .i64 0,.int .i64 0]])) (fun k=>k≤row.length∧eW (jG f) row 0=eW (jG f) (row.drop k) k) (fun k=>row.length-k) 0 ⟨bJY _,rfl⟩ ?_ PH.le_refl ?_
  ·unfold biS
   (repeat' (first|exact PF.nil_le|refine PF.aI ?_ ?_))<;>first|(simp only[go_sem,γ,δ,ε,ζ,η,θ,ι,κ,μ,ν,ξ,ο,ρ,σ,τ,υ,reduceIte,reduceCtorEq,bJO]<;>rfl)|rfl
  rintro k ⟨hk,hb⟩
  simp only[go_sem,γ,δ,ε,ζ,η,θ,ι,κ,μ,ν,ξ,ο,ρ,σ,τ,υ,reduceIte,reduceCtorEq,atB,atG,biS]
  by_cases hlt:k<row.length
  ·have bHR:(k:Int)<(row.length:Nat):=by omega
   have hrk:(row.map fun n=>[PV.int .i64 n])[k]?=some [.int .i64 row[k]]:=by simp[hlt]
   have hdr:eW (jG f) (row.drop k) k=if jG f row[k] then some k else eW (jG f) (row.drop (k+1)) (k+1):=by
    rw[bLN hlt,eW]
   rw[hdr] at hb
   by_cases c1:row[k] < -1
   ·have hbd:jG f row[k]=true:=by simp[jG,c1]
    rw[hbd] at hb
    simp only[go_sem,γ,δ,ε,ζ,η,θ,ι,κ,μ,ν,ξ,ο,ρ,σ,τ,υ,reduceIte,reduceCtorEq,bHR,zE,hrk,zF,c1,QG]
    rw[hb]
    exact fin ⟨1,v,k⟩ _ _ Sq Sq Sq
   ·by_cases c2:row[k]≥(f.bHK.length:Nat)
    ·have hbd:jG f row[k]=true:=by simp[jG,c2]
     rw[hbd] at hb
     simp only[go_sem,γ,δ,ε,ζ,η,θ,ι,κ,μ,ν,ξ,ο,ρ,σ,τ,υ,reduceIte,reduceCtorEq,bHR,zE,hrk,zF,c1,bJO,c2,QG]
     rw[hb]
     exact fin ⟨1,v,k⟩ _ _ Sq Sq Sq
    ·have hbd:jG f row[k]=false:=by simp[jG]; omega
     rw[hbd] at hb
     simp only[go_sem,γ,δ,ε,ζ,η,θ,ι,κ,μ,ν,ξ,ο,ρ,σ,τ,υ,reduceIte,reduceCtorEq,bHR,zE,hrk,zF,c1,bJO,c2,atH,wZz k]
     refine aG (k+1) ⟨hlt,hb⟩ Om ?_ PH.le_refl
     exact Lq
  ·have bHR:¬ (k:Int)<(row.length:Nat):=by omega
   have:k=row.length:=by omega
   subst this
   rw[List.drop_length,eW] at hb
   simp only[go_sem,γ,δ,ε,ζ,η,θ,ι,κ,μ,ν,ξ,ο,ρ,σ,τ,υ,reduceIte,reduceCtorEq,bHR,agJ]
   rw[hb]
   refine aX (.inr rfl) .nil (vs:=[.agg [.int .i64 0,.int .i64 0,.int .i64 0],.bool false]) ?_ PH.nil_le ⟨.refl _,rfl⟩
   simp only[go_sem,γ,δ,ε,ζ,η,θ,ι,κ,μ,ν,ξ,ο,ρ,σ,τ,υ,reduceIte,reduceCtorEq,xT]
 ·rw[if_neg c]
  simp only[go_sem,γ,δ,ε,ζ,η,θ,ι,κ,μ,ν,ξ,ο,ρ,σ,τ,υ,reduceIte,reduceCtorEq,cI c,atE,hr,bJO]
  exact fin ⟨1,v,(row.length:Nat)⟩ _ _ Sq Sq Sq
theorem aQQ {C:Ctx} (L:blC C) (f:aJ) (hf:f.Ok) (l:List (List Int)) (hl:eT l) :
  xS.wp C (aU DX.res (cA (.bool (gU f l)))) (PF.args [.agg f.cells,lay l]) .nil:=by
 simp only[go_sem,γ,δ,ε,ζ,η,θ,ι,κ,μ,ν,ξ,ο,ρ,σ,τ,υ,reduceIte,reduceCtorEq,xS,afZ,agA,DX]
 refine aA (L.valid f hf) Ev ?_
 unfold gU
 have hlr:=hl.rows
 cases hv:dM f with
 | false =>
  simp only[go_sem,γ,δ,ε,ζ,η,θ,ι,κ,μ,ν,ξ,ο,ρ,σ,τ,υ,reduceIte,reduceCtorEq,bKD,IP]
  exact bA Ev (by simp only[bJU])
 | true =>
  have hV:=VF.of hv
  by_cases c:l.length=f.bHM.length
  ·have c':(((l.length:Nat):Int) != ((f.bHM.length:Nat):Int))=false:=bV Om
   rw[decide_eq_true c]
   simp only[go_sem,γ,δ,ε,ζ,η,θ,ι,κ,μ,ν,ξ,ο,ρ,σ,τ,υ,reduceIte,reduceCtorEq,bJV,bJO,c',agB]
   generalize hq:(fun v=>(lS f l v).isNone)=q
   refine wp_loop (α:=Nat) (fun k=>tSF f l k) (fun _=>.nil) (fun k=>k≤l.length∧mT q k) (fun k=>l.length-k) 0 ⟨bJY _,.zero⟩ ?_ PH.nil_le ?_
   ·unfold tSF
    (repeat' (first|exact PF.nil_le|refine PF.aI ?_ ?_))<;>first|(simp only[go_sem,γ,δ,ε,ζ,η,θ,ι,κ,μ,ν,ξ,ο,ρ,σ,τ,υ,reduceIte,reduceCtorEq,bJO]<;>rfl)|rfl
   rintro k ⟨hk,ha⟩
   simp only[go_sem,γ,δ,ε,ζ,η,θ,ι,κ,μ,ν,ξ,ο,ρ,σ,τ,υ,reduceIte,reduceCtorEq,VQ,agC,tSF]
   by_cases hlt:k<l.length
   ·have bHR:(k:Int)<(l.length:Nat):=by omega
    have hqk:q k=(lS f l k).isNone:=by rw[← hq]
    simp only[go_sem,γ,δ,ε,ζ,η,θ,ι,κ,μ,ν,ξ,ο,ρ,σ,τ,υ,reduceIte,reduceCtorEq,bHR,agD,agE]
    refine aA (L.shape f l k hV hl hlt Om) Ev ?_
    cases hs:lS f l k with
    | some x =>
     rw[hs] at hqk
     simp only[go_sem,γ,δ,ε,ζ,η,θ,ι,κ,μ,ν,ξ,ο,ρ,σ,τ,υ,reduceIte,reduceCtorEq,shV]
     refine aQ fun o ho=>?_
     simp only[go_sem,γ,δ,ε,ζ,η,θ,ι,κ,μ,ν,ξ,ο,ρ,σ,τ,υ,reduceIte,reduceCtorEq,IQ,agF]
     exact bA (b:=false) Ev (by rw[show (bJP l.length).all q=false from dQ hlt hqk])
    | none =>
     rw[hs] at hqk
     simp only[go_sem,γ,δ,ε,ζ,η,θ,ι,κ,μ,ν,ξ,ο,ρ,σ,τ,υ,reduceIte,reduceCtorEq,shV]
     refine aQ fun o ho=>?_
     simp only[go_sem,γ,δ,ε,ζ,η,θ,ι,κ,μ,ν,ξ,ο,ρ,σ,τ,υ,reduceIte,reduceCtorEq,IQ,agG,wZz k]
     refine aG (k+1) ⟨hlt,ha.step hqk⟩ Om ?_ PH.nil_le
     exact Lq
   ·have bHR:¬ (k:Int)<(l.length:Nat):=by omega
    have:k=l.length:=by omega
    subst this
    simp only[go_sem,γ,δ,ε,ζ,η,θ,ι,κ,μ,ν,ξ,ο,ρ,σ,τ,υ,reduceIte,reduceCtorEq,bHR,VR]
    exact bA (b:=true) Ev (by rw[show (bJP l.length).all q=true from ha])
  ·have c':(((l.length:Nat):Int) != ((f.bHM.length:Nat):Int))=true:=cI Om
   simp only[go_sem,γ,δ,ε,ζ,η,θ,ι,κ,μ,ν,ξ,ο,ρ,σ,τ,υ,reduceIte,reduceCtorEq,bJV,bJO,c',IP]
   exact bA Ev (by rw[decide_eq_false c]; simp only[bJU])
theorem aQO {C:Ctx} (L:blB C) (f:aJ) (hf:f.Ok) (l:List (List Int)) (hl:eT l) :
  xQ.wp C (aU DW.res (aE (.bool (gU f l)))) (PF.args [.agg f.cells,lay l]) .nil:=by
 simp only[go_sem,γ,δ,ε,ζ,η,θ,ι,κ,μ,ν,ξ,ο,ρ,σ,τ,υ,reduceIte,reduceCtorEq,xQ,afR,afS,DW]
 refine aA (L.valid f hf) Sq ?_
 unfold gU
 have hlr:=hl.rows
 cases hv:dM f with
 | false =>
  simp only[go_sem,γ,δ,ε,ζ,η,θ,ι,κ,μ,ν,ξ,ο,ρ,σ,τ,υ,reduceIte,reduceCtorEq,bKD,IL]
  refine aL (.inr rfl) Ev ?_
  simp[aT]
 | true =>
  have hV:=VF.of hv
  by_cases c:l.length=f.bHM.length
  ·have c':(((l.length:Nat):Int) != ((f.bHM.length:Nat):Int))=false:=bV Om
   rw[decide_eq_true c]
   simp only[go_sem,γ,δ,ε,ζ,η,θ,ι,κ,μ,ν,ξ,ο,ρ,σ,τ,υ,reduceIte,reduceCtorEq,bJV,bJO,c',afT]
   generalize hq:(fun v=>(lS f l v).isNone)=q
   refine wp_loop (α:=Nat) (fun k=>(((PF.nil.set 1 (lay l)).set 2 (.bH f.cells)).set 5 (.int .i64 k))) (fun _=>.nil) (fun k=>k≤l.length∧mT q k) (fun k=>l.length-k) 0 ⟨bJY _,.zero⟩ Lq PH.nil_le ?_
   rintro k ⟨hk,ha⟩
   simp only[go_sem,γ,δ,ε,ζ,η,θ,ι,κ,μ,ν,ξ,ο,ρ,σ,τ,υ,reduceIte,reduceCtorEq,afQ,afU,bJO]
   by_cases hlt:k<l.length
   ·have bHR:(k:Int)<(l.length:Nat):=by omega
    have hqk:q k=(decide (((l[k]).length:Int)=fB f k)&&!decide (EL f l[k]≥0)):=by
     rw[← hq,← show l.getD k []=l[k] by simp[bKH,hlt]]; exact bbH f l k
    have hrl:(l[k]).length≤16777216:=by
     have h1:=aBK l (k+1)
     have:=hl.all
     rw[MU l hlt,bJW] at h1
     omega
    have hat:(l.map fun r=>[ints r])[k]?=some [ints l[k]]:=by simp[hlt]
    generalize l[k]=row at *
    simp only[go_sem,γ,δ,ε,ζ,η,θ,ι,κ,μ,ν,ξ,ο,ρ,σ,τ,υ,reduceIte,reduceCtorEq,bHR]
    refine bP .nil (ssS f row) PH.nil_le ?_
    simp only[go_sem,γ,δ,ε,ζ,η,θ,ι,κ,μ,ν,ξ,ο,ρ,σ,τ,υ,reduceIte,reduceCtorEq,afV,hat,bJO]
    refine bS (biN f row k) (L.XH f k hV Om) Sq PH.nil_le ?_
    by_cases c1:((row.length:Nat):Int)=fB f k
    ·rw[decide_eq_true c1,bKA] at hqk
     simp only[go_sem,γ,δ,ε,ζ,η,θ,ι,κ,μ,ν,ξ,ο,ρ,σ,τ,υ,reduceIte,reduceCtorEq,bV c1,hat]
     refine bS (show ssS f row 89 [.agg f.cells,ints row]=some ([],fun _=>aE (.int .i64 (EL f row))) from rfl) (L.bad f row hrl) Sq PH.nil_le ?_
     by_cases c2:EL f row≥0
     ·rw[decide_eq_true c2] at hqk
      simp only[go_sem,γ,δ,ε,ζ,η,θ,ι,κ,μ,ν,ξ,ο,ρ,σ,τ,υ,reduceIte,reduceCtorEq,c2,IM]
      refine aL (.inr rfl) Ev ?_
      rw[aT,show (bJP l.length).all q=false from dQ hlt hqk]
     ·rw[decide_eq_false c2] at hqk
      simp only[go_sem,γ,δ,ε,ζ,η,θ,ι,κ,μ,ν,ξ,ο,ρ,σ,τ,υ,reduceIte,reduceCtorEq,c2,afW,wZz k]
      exact aG (k+1) ⟨hlt,ha.step hqk⟩ Om Lq PH.nil_le
    ·rw[decide_eq_false c1,bJU] at hqk
     simp only[go_sem,γ,δ,ε,ζ,η,θ,ι,κ,μ,ν,ξ,ο,ρ,σ,τ,υ,reduceIte,reduceCtorEq,cI c1,IM]
     refine aL (.inr rfl) Ev ?_
     rw[aT,show (bJP l.length).all q=false from dQ hlt hqk]
   ·have bHR:¬ (k:Int)<(l.length:Nat):=by omega
    have:k=l.length:=by omega
    subst this
    simp only[go_sem,γ,δ,ε,ζ,η,θ,ι,κ,μ,ν,ξ,ο,ρ,σ,τ,υ,reduceIte,reduceCtorEq,bHR,afX]
    refine aL (.inr rfl) Ev ?_
    rw[aT,show (bJP l.length).all q=true from ha]
  ·have c':(((l.length:Nat):Int) != ((f.bHM.length:Nat):Int))=true:=cI Om
   simp only[go_sem,γ,δ,ε,ζ,η,θ,ι,κ,μ,ν,ξ,ο,ρ,σ,τ,υ,reduceIte,reduceCtorEq,bJV,bJO,c',IL]
   refine aL (.inr rfl) Ev ?_
   rw[aT,decide_eq_false c]; simp
theorem aKO {C:Ctx} (L:blA C) (f:aJ) (hf:f.Ok) (room:List Int) :
  IK.wp C (aU afP.res (kO 1 (bD (afK f room)))) (PF.args [.agg f.cells,ints room]) .nil:=by
 simp only[go_sem,γ,δ,ε,ζ,η,θ,ι,κ,μ,ν,ξ,ο,ρ,σ,τ,υ,reduceIte,reduceCtorEq,IK,aKP,aKQ,afP]
 refine aA (L.valid f hf) Sq ?_
 unfold afK
 cases hv:dM f with
 | false =>
  simp only[go_sem,γ,δ,ε,ζ,η,θ,ι,κ,μ,ν,ξ,ο,ρ,σ,τ,υ,reduceIte,reduceCtorEq,bKD,aKR]
  exact DQ (.inr rfl) Ev
 | true =>
  have hV:=VF.of hv
  have hd24:=hV.small.bHK
  have hRl:=PR f room
  simp only[go_sem,γ,δ,ε,ζ,η,θ,ι,κ,μ,ν,ξ,ο,ρ,σ,τ,υ,reduceIte,reduceCtorEq,bJV,aKS,aKT]
  refine wp_loop (α:=Nat × PV × PH) (fun t=>((((PF.nil.set 1 (ints room)).set 2 (.bH f.cells)).set 5 (t.2.1)).set 6 (.int .i64 t.1))) (fun t=>t.2.2) (fun t=>t.1≤f.bHK.length∧bK t.2.2 1 t.2.1 (bD ((fQ f room).take t.1))) (fun t=>f.bHK.length-t.1) (0,.aB,.nil) ⟨bJY _,.nil⟩ Lq PH.nil_le ?_
  rintro⟨k,v,H0⟩ ⟨hk,hO⟩
  simp only at hk hO ⊢
  simp only[go_sem,γ,δ,ε,ζ,η,θ,ι,κ,μ,ν,ξ,ο,ρ,σ,τ,υ,reduceIte,reduceCtorEq,atA,aKU,bJO]
  by_cases hlt:k<f.bHK.length
  ·have bHR:(k:Int)<(f.bHK.length:Nat):=by omega
   obtain⟨hm,he⟩:=hV.a8C hlt
   have hmo:=hV.model _ (bJS hm)
   rw[he] at hmo
   have h11:(1:Nat)*1≤16777216:=by decide
   have bIG:=a4U f room hlt
   have rest:∀ (x:Int) (F:PF),x=rI f room k→((((((PF.nil.set 1 (ints room)).set 2 (.bH f.cells)).set 5 (v)).set 6 (.int .i64 k)).set 7 (.int .i64 x)):PF).le F →
     aC.wp C (.region ZJ) (dW 1 (iV C (aC.wp C (.region QB)) (eE (fun t:Nat × PV × PH=>((((PF.nil.set 1 (ints room)).set 2 (.bH f.cells)).set 5 (t.2.1)).set 6 (.int .i64 t.1))) (fun t=>t.2.2) (fun t=>t.1≤f.bHK.length∧bK t.2.2 1 t.2.1 (bD ((fQ f room).take t.1))) (fun t=>f.bHK.length-t.1) (f.bHK.length-k) (dW 0 (iV C (aC.wp C (.seq (.region QC) .ret)) (aU [.tmp 4] (cA (ints (fQ f room))))))))) F H0:=by
    intro x F hx hF
    refine tA _ (fun _ _ _ _ a b=>Up.up a b) hF ?_
    simp only[go_sem,γ,δ,ε,ζ,η,θ,ι,κ,μ,ν,ξ,ο,ρ,σ,τ,υ,reduceIte,reduceCtorEq,ZJ,h11]
    refine gG (src:=[[.int .i64 x]]) hO Sq (by unfold roomFor; rw[cK,bKG]; simp only[bKC,maxLen]; omega) fun v' H' hO' _=>?_
    rw[a3F,hx,← bIG] at hO'
    simp only[go_sem,γ,δ,ε,ζ,η,θ,ι,κ,μ,ν,ξ,ο,ρ,σ,τ,υ,reduceIte,reduceCtorEq,QB,wZz k]
    exact aG (k+1,v',H') ⟨hlt,hO'⟩ (by simp only; omega) Lq PH.le_refl
   simp only[aC.wp,go_sem] at rest
   simp only[go_sem,γ,δ,ε,ζ,η,θ,ι,κ,μ,ν,ξ,ο,ρ,σ,τ,υ,reduceIte,reduceCtorEq,bHR]
   refine bP .nil dX PH.nil_le ?_
   simp only[go_sem,γ,δ,ε,ζ,η,θ,ι,κ,μ,ν,ξ,ο,ρ,σ,τ,υ,reduceIte,reduceCtorEq,aKV,aoY hlt,hV.brY hlt,a9I hm,he]
   by_cases c:room.length=f.bHK.length
   ·have hrk:k<room.length:=by omega
    have hrr:(room.map fun n=>[PV.int .i64 n])[k]?=some [.int .i64 room[k]]:=by simp[hrk]
    simp only[go_sem,γ,δ,ε,ζ,η,θ,ι,κ,μ,ν,ξ,ο,ρ,σ,τ,υ,reduceIte,reduceCtorEq,ZI,bJO,bX (Om:((room.length:Nat):Int)=(f.bHK.length:Nat)),aKW,hrr,max_eq,bnR]
    refine rest _ _ ?_ Lq
    rw[rI,if_pos c,bnQ Om,bKH,bJZ hrk,bMK]
   ·simp only[go_sem,γ,δ,ε,ζ,η,θ,ι,κ,μ,ν,ξ,ο,ρ,σ,τ,υ,reduceIte,reduceCtorEq,ZI,bJO,bG (Om:((room.length:Nat):Int)≠(f.bHK.length:Nat))]
    refine rest _ _ ?_ Lq
    rw[rI,if_neg c]
  ·have bHR:¬ (k:Int)<(f.bHK.length:Nat):=by omega
   have:k=f.bHK.length:=by omega
   subst this
   rw[← hRl,bKL] at hO
   simp only[go_sem,γ,δ,ε,ζ,η,θ,ι,κ,μ,ν,ξ,ο,ρ,σ,τ,υ,reduceIte,reduceCtorEq,bHR,QC]
   exact ID (.inr rfl) hO Sq
structure bkE (C:Ctx):Prop where
 begin:∀ n:Int,aD C 144 [.int .i64 n] .nil (aE (CW n))
 step:∀ n p w e:Int,aD C 145 [.int .i64 n,.agg [.int .i64 p,.int .i64 w],.int .i64 e] .nil (aE (mZ (mY n p w e)))
 same:∀ xs ys:List Int,xs.length≤9223372036854775806→aD C 91 [ints xs,ints ys] .nil (aE (.bool (xs==ys)))
 upd:∀ (ws:List (List Int)) (p w:Int),ws.length≤1000000→ws.flatten.length≤1000000→aD C 146 [lists ws,.agg [.int .i64 p,.int .i64 w]] .nil (aE (ints (QV ws p w)))
theorem a7I {C:Ctx} (L:bkE C):EK.wp C (aU aaQ.res (aE (.bool true))) (PF.args []) .nil:=by
 simp only[go_sem,γ,δ,ε,ζ,η,θ,ι,κ,μ,ν,ξ,ο,ρ,σ,τ,υ,reduceIte,reduceCtorEq,EK,azM,azN,aaQ]
 refine aA (L.begin 1) Ev ?_
 simp only[go_sem,γ,δ,ε,ζ,η,θ,ι,κ,μ,ν,ξ,ο,ρ,σ,τ,υ,reduceIte,reduceCtorEq,CW]
 refine aQ fun o1 k1=>?_
 simp only[go_sem,γ,δ,ε,ζ,η,θ,ι,κ,μ,ν,ξ,ο,ρ,σ,τ,υ,reduceIte,reduceCtorEq,azO]
 refine aA (L.step 1 1 0 1) Ev ?_
 rw[show mY 1 1 0 1=((2,0),0) by decide]
 simp only[go_sem,γ,δ,ε,ζ,η,θ,ι,κ,μ,ν,ξ,ο,ρ,σ,τ,υ,reduceIte,reduceCtorEq,mZ,stV]
 refine aQ fun o2 k2=>?_
 have n21:¬ o2=o1:=(cX.1 k2).1
 have n12:¬ o1=o2:=fun h=>n21 h.symm
 simp only[go_sem,γ,δ,ε,ζ,η,θ,ι,κ,μ,ν,ξ,ο,ρ,σ,τ,υ,reduceIte,reduceCtorEq,azP,n21,n12]
 refine aA (L.step 1 2 0 2) Ev ?_
 rw[show mY 1 2 0 2=((3,0),0) by decide]
 simp only[go_sem,γ,δ,ε,ζ,η,θ,ι,κ,μ,ν,ξ,ο,ρ,σ,τ,υ,reduceIte,reduceCtorEq,mZ,stV,n21,n12]
 refine aQ fun o4 k4=>?_
 have n42:¬ o4=o2:=(cX.1 k4).1
 have n41:¬ o4=o1:=(cX.1 (cX.1 k4).2).1
 have n24:¬ o2=o4:=fun h=>n42 h.symm
 have n14:¬ o1=o4:=fun h=>n41 h.symm
 simp only[go_sem,γ,δ,ε,ζ,η,θ,ι,κ,μ,ν,ξ,ο,ρ,σ,τ,υ,reduceIte,reduceCtorEq,azQ,n21,n12,n42,n41,n24,n14]
 refine aA (L.step 1 3 0 3) Ev ?_
 rw[show mY 1 3 0 3=((4,0),0) by decide]
 simp only[go_sem,γ,δ,ε,ζ,η,θ,ι,κ,μ,ν,ξ,ο,ρ,σ,τ,υ,reduceIte,reduceCtorEq,mZ,stV,n21,n12,n42,n41,n24,n14]
 refine aQ fun o6 k6=>?_
 have n64:¬ o6=o4:=(cX.1 k6).1
 have n62:¬ o6=o2:=(cX.1 (cX.1 k6).2).1
 have n61:¬ o6=o1:=(cX.1 (cX.1 (cX.1 k6).2).2).1
 have n46:¬ o4=o6:=fun h=>n64 h.symm
 have n26:¬ o2=o6:=fun h=>n62 h.symm
 have n16:¬ o1=o6:=fun h=>n61 h.symm
 simp only[go_sem,γ,δ,ε,ζ,η,θ,ι,κ,μ,ν,ξ,ο,ρ,σ,τ,υ,reduceIte,reduceCtorEq,azR,n21,n12,n42,n41,n24,n14,n64,n62,n61,n46,n26,n16]
 refine aA (L.step 1 4 0 1) Ev ?_
 rw[show mY 1 4 0 1=((0,0),110) by decide]
 simp only[go_sem,γ,δ,ε,ζ,η,θ,ι,κ,μ,ν,ξ,ο,ρ,σ,τ,υ,reduceIte,reduceCtorEq,mZ,stV]
 refine aQ fun o8 k8=>?_
 have n86:¬ o8=o6:=(cX.1 k8).1
 have n81:¬ o8=o1:=(cX.1 (cX.1 (cX.1 (cX.1 k8).2).2).2).1
 have n68:¬ o6=o8:=fun h=>n86 h.symm
 have n18:¬ o1=o8:=fun h=>n81 h.symm
 simp only[go_sem,γ,δ,ε,ζ,η,θ,ι,κ,μ,ν,ξ,ο,ρ,σ,τ,υ,reduceIte,reduceCtorEq,azS,n21,n12,n42,n41,n24,n14,n64,n62,n61,n46,n26,n16,n86,n81,n68,n18]
 refine aA (L.upd [[2,1]] 4 0 (by decide) (by decide)) Ev ?_
 rw[show QV [[2,1]] 4 0=[1,2] by decide]
 simp only[go_sem,γ,δ,ε,ζ,η,θ,ι,κ,μ,ν,ξ,ο,ρ,σ,τ,υ,reduceIte,reduceCtorEq]
 refine aA (L.same [1,2] [1,2] (by decide)) Ev ?_
 simp only[go_sem,γ,δ,ε,ζ,η,θ,ι,κ,μ,ν,ξ,ο,ρ,σ,τ,υ,reduceIte,reduceCtorEq,show (([1,2]:List Int)==[1,2])=true from rfl]
 refine aA (L.begin 0) Ev ?_
 simp only[go_sem,γ,δ,ε,ζ,η,θ,ι,κ,μ,ν,ξ,ο,ρ,σ,τ,υ,reduceIte,reduceCtorEq,CW]
 refine aL (.inr rfl) Ev ?_
 rfl
def atP:Rg:=[iZ 4]
def atQ:Rg:=[iZ 5]
def atR:Rg:=[iA 6 (.mv (.const (.int .u64 0)))]
def atS:Rg:=[iI 7 0]
def atT:Rg:=[iM 10 7,iM 11 0,iN 12 11,iB 13 .lss 10 12]
def atU:Rg:=[iM 16 6,iM 8 16]
def atV:Rg:=[iM 17 7,iM 18 1,iN 19 18,iB 20 .lss 17 19]
def atW:Rg:=[iM 21 8,iM 22 1,iM 23 7,iX 24 1 22 23,iL 25 24,iA 26 (.conv .u64 (Tm 25)),iB 27 .add 21 26,iM 8 27]
def QR:Rg:=[iM 28 0,iM 29 7,iX 30 1 28 29,iL 31 30,iA 32 (.conv .u64 (Tm 31)),iM 9 32]
def QS:Rg:=[iA 6 (.mv (.const (.int .u64 0)))]
def IZ:Rg:=[iM 33 9,iM 34 8,iB 35 .lss 33 34]
def JA:Rg:=[iM 36 9,iA 37 (.bin .add (Tm 36) (.const (.int .u64 4294967296))),iM 9 37]
def JB:Rg:=[iA 6 (.mv (.const (.int .u64 1)))]
def vE:Rg:=[iM 38 5,iM 39 9,iM 40 8,iB 41 .sub 39 40,iA 42 (.conv .u32 (Tm 41)),iA 43 (.bHQ true 1 1 [(.int .u32 0)] [(0,(Tm 42))]),iA 44 (.append 1 4 (Tm 38) (Tm 43)),iM 5 44]
def vF:Rg:=[iM 14 7,iC 15 .add 14 1,iM 7 15]
def agU:aC:=(.seq (sq atT (.cond (Tm 13) .skip (.exit 0))) (.seq (.block 1 (sq atU (.seq (sq atV (.cond (Tm 20) (.region atW) .skip)) (sq QR (sq QS (.seq (sq IZ (.cond (Tm 35) (sq JA (.region JB)) .skip)) (.region vE))))))) (.region vF)))
def agV:Rg:=[iM 45 5,iK 46 38 45,iM 4 46]
def BS:aC:=(sq atP (sq atQ (sq atR (.seq (sq atS (.block 0 (.loop agU))) (sq agV .ret)))))
def bbV:List Nat:=[43]
def QQ:aW:=⟨2,47,BS,[.tmp 4]⟩
def aMQ:Rg:=[iZ 4]
def aMR:Rg:=[iZ 5]
def aMS:Rg:=[iA 6 (.mv (.const (.int .u64 0)))]
def aMT:Rg:=[iI 7 0]
def aMU:Rg:=[iM 9 7,iM 10 0,iN 11 10,iB 12 .lss 9 11,iM 13 12,gM 14 7 13 false,gM 15 1 13 false,gN 16 15 13 false,gB 17 .lss 14 16 13 false,iQ 18 13 17,iM 19 18,gM 20 6 19 false,iG 21 (.bin .gtr (Tm 20) (.const (.int .u64 0))) 19 false,iQ 22 19 21]
def ZP:Rg:=[iM 25 6,iM 8 25]
def ZQ:Rg:=[iM 26 7,iM 27 0,iN 28 27,iB 29 .lss 26 28]
def ZR:Rg:=[iM 30 8,iM 31 0,iM 32 7,iX 33 1 31 32,iL 34 33,iA 35 (.conv .u64 (Tm 34)),iB 36 .add 30 35,iM 8 36]
def JD:Rg:=[iM 37 7,iM 38 1,iN 39 38,iB 40 .lss 37 39]
def JE:Rg:=[iM 41 8,iM 42 1,iM 43 7,iX 44 1 42 43,iL 45 44,iA 46 (.conv .u64 (Tm 45)),iB 47 .add 41 46,iM 8 47]
def zI:Rg:=[iM 48 5,iM 49 8,iA 50 (.conv .u32 (Tm 49)),iA 51 (.bHQ true 1 1 [(.int .u32 0)] [(0,(Tm 50))]),iA 52 (.append 1 4 (Tm 48) (Tm 51)),iM 5 52]
def zJ:Rg:=[iM 53 8,iA 54 (.bin .shr (Tm 53) (.const (.int .u64 32))),iM 6 54]
def zK:Rg:=[iM 23 7,iC 24 .add 23 1,iM 7 24]
def atX:aC:=(.seq (sq aMU (.cond (Tm 22) .skip (.exit 0))) (.seq (.block 1 (sq ZP (.seq (sq ZQ (.cond (Tm 29) (.region ZR) .skip)) (.seq (sq JD (.cond (Tm 40) (.region JE) .skip)) (sq zI (.region zJ)))))) (.region zK)))
def QX:Rg:=[iM 55 5,iK 56 38 55,iM 4 56]
def JC:aC:=(sq aMQ (sq aMR (sq aMS (.seq (sq aMT (.block 0 (.loop atX))) (sq QX .ret)))))
def bjG:List Nat:=[51]
def agX:aW:=⟨2,57,JC,[.tmp 4]⟩
def atY:Rg:=[iZ 4]
def atZ:Rg:=[iM 10 0,iN 11 10,iM 12 1,iN 13 12,iB 14 .add 11 13,iA 15 (.bHU 1 4 [(.int .u32 0)] (Tm 14) (Tm 14)),iM 5 15]
def auA:Rg:=[iI 6 0]
def auB:Rg:=[iM 16 6,iM 17 0,iN 18 17,iB 19 .lss 16 18]
def RA:Rg:=[iA 7 (.mv (.const (.int .u64 0)))]
def RB:Rg:=[iI 8 0]
def auC:Rg:=[iM 22 8,iM 23 1,iN 24 23,iB 25 .lss 22 24]
def auD:Rd:=[(iM 28 0,false),(iM 29 6,false),(iX 30 1 28 29,false),(iL 31 30,false),(iA 32 (.conv .u64 (Tm 31)),false),(iM 33 1,false),(iM 34 8,false),(iX 35 1 33 34,false),(iL 36 35,false),(iA 37 (.conv .u64 (Tm 36)),false),(iB 38 .mul 32 37,false),(iM 39 5,false),(iM 40 6,false),(iM 41 8,false),(iB 42 .add 40 41,false),(iX 43 1 39 42,false),(iL 44 43,false),(iA 45 (.conv .u64 (Tm 44)),false),(iB 46 .add 38 45,false),(iM 47 7,false),(iB 48 .add 46 47,false),(iM 9 48,false)]
def auE:Rg:=[iM 49 5,iM 50 6,iM 51 8,iB 52 .add 50 51,iM 53 9,iA 54 (.conv .u32 (Tm 53)),iX 55 1 49 52,iS 1 55 54]
def auF:Rg:=[iM 56 9,iA 57 (.bin .shr (Tm 56) (.const (.int .u64 32))),iM 7 57]
def agZ:Rg:=[iM 26 8,iC 27 .add 26 1,iM 8 27]
def JF:aC:=(.seq (sq auC (.cond (Tm 25) .skip (.exit 2))) (.seq (.block 3 (dq auD (sq auE (.region auF)))) (.region agZ)))
def JG:Rg:=[iM 58 5,iM 59 6,iM 60 1,iN 61 60,iB 62 .add 59 61,iM 63 7,iA 64 (.conv .u32 (Tm 63)),iX 65 1 58 62,iS 1 65 64]
def ahA:Rg:=[iM 20 6,iC 21 .add 20 1,iM 6 21]
def agY:aC:=(.seq (sq auB (.cond (Tm 19) .skip (.exit 0))) (.seq (.block 1 (sq RA (.seq (sq RB (.block 2 (.loop JF))) (.region JG)))) (.region ahA)))
def ahB:Rg:=[iM 66 5,iK 67 38 66,iM 4 67]
def BV:aC:=(sq atY (sq atZ (.seq (sq auA (.block 0 (.loop agY))) (sq ahB .ret))))
def bbX:List Nat:=[]
def QZ:aW:=⟨2,68,BV,[.tmp 4]⟩
def aXT:Rg:=[iZ 4,iI 5 0]
def aXU:Rg:=[iM 7 0,iK 8 41 7,iM 9 8,gM 10 1 9 false,gK 11 41 10 9 false,iQ 12 9 11]
def anN:Rg:=[iZ 4,iI 5 2]
def aXV:Rg:=[iM 13 0,iK 14 38 13,iM 15 1,iK 16 38 15,iK2 17 43 14 16,iM 6 17]
def aXW:Rg:=[iM 18 6,iK 19 41 18]
def aXX:Rg:=[iZ 4,iI 5 2]
def aXY:Rg:=[iM 20 6,iM 4 20,iI 5 0]
def QJ:aC:=(sq aXT (.seq (sq aXU (.cond (Tm 12) (sq anN .ret) .skip)) (sq aXV (.seq (sq aXW (.cond (Tm 19) (sq aXX .ret) .skip)) (sq aXY .ret)))))
def bpG:List Nat:=[]
def aLJ:aW:=⟨2,21,QJ,[.tmp 4,.tmp 5]⟩
def aZF:Rg:=[iZ 4,iI 5 0]
def aZG:Rg:=[iM 6 0,iK 7 41 6,iM 8 7,gM 9 1 8 false,gK 10 41 9 8 false,iQ 11 8 10]
def anT:Rg:=[iZ 4,iI 5 2]
def aZH:Rg:=[iM 12 0,iM 13 1,iK2 14 32 12 13,iC 15 .lss 14 0]
def aZI:Rg:=[iZ 4,iI 5 4]
def aZJ:Rg:=[iM 16 0,iK 17 38 16,iM 18 1,iK 19 38 18,iK2 20 42 17 19,iM 4 20,iI 5 0]
def QY:aC:=(sq aZF (.seq (sq aZG (.cond (Tm 11) (sq anT .ret) .skip)) (.seq (sq aZH (.cond (Tm 15) (sq aZI .ret) .skip)) (sq aZJ .ret))))
def bpU:List Nat:=[]
def aMV:aW:=⟨2,21,QY,[.tmp 4,.tmp 5]⟩
def aYX:Rg:=[iZ 4,iI 5 0]
def aYY:Rg:=[iM 7 0,iK 8 41 7,iM 9 8,gM 10 1 9 false,gK 11 41 10 9 false,iQ 12 9 11]
def anQ:Rg:=[iZ 4,iI 5 2]
def aYZ:Rg:=[iM 13 0,iK 14 38 13,iM 15 1,iK 16 38 15,iK2 17 44 14 16,iM 6 17]
def aZA:Rg:=[iM 18 6,iK 19 41 18]
def aZB:Rg:=[iZ 4,iI 5 2]
def aZC:Rg:=[iM 20 6,iM 4 20,iI 5 0]
def QT:aC:=(sq aYX (.seq (sq aYY (.cond (Tm 12) (sq anQ .ret) .skip)) (sq aYZ (.seq (sq aZA (.cond (Tm 19) (sq aZB .ret) .skip)) (sq aZC .ret)))))
def bpO:List Nat:=[]
def aMN:aW:=⟨2,21,QT,[.tmp 4,.tmp 5]⟩
def aLM:Rg:=[iI 2 0]
def aLN:Rg:=[iM 5 0,iK 6 38 5,iM 0 6]
def aLO:Rg:=[iM 7 0,iN 8 7,iC 9 .eql 8 0]
def aLP:Rg:=[iI 2 0]
def aLQ:Rg:=[iM 10 0,iN 11 10,iC 12 .sub 11 1,iA 13 (.bin .mul (Ci 32) (Tm 12)),iM 3 13]
def aLR:Rg:=[iM 14 0,iM 15 0,iN 16 15,iC 17 .sub 16 1,iX 18 1 14 17,iL 19 18,iM 4 19]
def aLS:Rg:=[iM 20 4,iA 21 (.bin .gtr (Tm 20) (.const (.int .u32 0)))]
def aLT:Rg:=[iM 24 3,iC 25 .add 24 1,iM 3 25]
def aLU:Rg:=[iM 22 4,iA 23 (.bin .quo (Tm 22) (.const (.int .u32 2))),iM 4 23]
def aLL:aC:=(.seq (sq aLS (.cond (Tm 21) .skip (.exit 0))) (.seq (.block 1 (.region aLT)) (.region aLU)))
def atK:Rg:=[iM 26 3,iM 2 26]
def IT:aC:=(sq aLM (sq aLN (.seq (sq aLO (.cond (Tm 9) (sq aLP .ret) .skip)) (sq aLQ (.seq (sq aLR (.block 0 (.loop aLL))) (sq atK .ret))))))
def biU:List Nat:=[]
def agK:aW:=⟨1,27,IT,[.tmp 2]⟩
def bbY:Rg:=[iZ 4]
def bbZ:Rg:=[iM 9 0,iN 10 9,iC 11 .eql 10 0]
def bcA:Rg:=[iZ 4]
def bcB:Rg:=[iM 12 1,iC 13 .quo 12 32,iA 14 (.bHU 1 4 [(.int .u32 0)] (Tm 13) (Tm 13)),iM 5 14]
def bcC:Rg:=[iA 6 (.mv (.const (.int .u64 0)))]
def bcD:Rg:=[iI 7 0]
def bcE:Rg:=[iM 15 7,iM 16 0,iN 17 16,iB 18 .lss 15 17]
def bcF:Rg:=[iM 21 0,iM 22 7,iX 23 1 21 22,iL 24 23,iA 25 (.conv .u64 (Tm 24)),iM 26 1,iC 27 .rem 26 32,iA 28 (.conv .u64 (Tm 27)),iB 29 .shl 25 28,iM 30 6,iB 31 .or 29 30,iM 8 31]
def bcG:Rg:=[iM 32 5,iM 33 8,iA 34 (.conv .u32 (Tm 33)),iA 35 (.bHQ true 1 1 [(.int .u32 0)] [(0,(Tm 34))]),iA 36 (.append 1 4 (Tm 32) (Tm 35)),iM 5 36]
def bcH:Rg:=[iM 37 8,iA 38 (.bin .shr (Tm 37) (.const (.int .u64 32))),iM 6 38]
def aZL:Rg:=[iM 19 7,iC 20 .add 19 1,iM 7 20]
def aZK:aC:=(.seq (sq bcE (.cond (Tm 18) .skip (.exit 0))) (.seq (.block 1 (sq bcF (sq bcG (.region bcH)))) (.region aZL)))
def aZM:Rg:=[iM 39 5,iM 40 6,iA 41 (.conv .u32 (Tm 40)),iA 42 (.bHQ true 1 1 [(.int .u32 0)] [(0,(Tm 41))]),iA 43 (.append 1 4 (Tm 39) (Tm 42)),iK 44 38 43,iM 4 44]
def ZT:aC:=(sq bbY (.seq (sq bbZ (.cond (Tm 11) (sq bcA .ret) .skip)) (sq bcB (sq bcC (.seq (sq bcD (.block 0 (.loop aZK))) (sq aZM .ret))))))
def bsV:List Nat:=[35,42]
def uup:aW:=⟨2,45,ZT,[.tmp 4]⟩
def aMB:Rg:=[iZ 4]
def aMC:Rg:=[iM 8 1,iC 9 .quo 8 32,iM 10 0,iN 11 10,iB 12 .geq 9 11]
def aMD:Rg:=[iZ 4]
def aME:Rg:=[iZ 5]
def aMF:Rg:=[iM 13 1,iC 14 .quo 13 32,iM 6 14]
def aMG:Rg:=[iM 15 6,iM 16 0,iN 17 16,iB 18 .lss 15 17]
def aMH:Rg:=[iM 21 0,iM 22 6,iX 23 1 21 22,iL 24 23,iA 25 (.conv .u64 (Tm 24)),iM 7 25]
def aMI:Rg:=[iM 26 6,iC 27 .add 26 1,iM 28 0,iN 29 28,iB 30 .lss 27 29]
def aMJ:Rg:=[iM 31 7,iM 32 0,iM 33 6,iC 34 .add 33 1,iX 35 1 32 34,iL 36 35,iA 37 (.conv .u64 (Tm 36)),iA 38 (.bin .shl (Tm 37) (.const (.int .u64 32))),iB 39 .or 31 38,iM 7 39]
def ZM:Rg:=[iM 40 5,iM 41 7,iM 42 1,iC 43 .rem 42 32,iA 44 (.conv .u64 (Tm 43)),iB 45 .shr 41 44,iA 46 (.conv .u32 (Tm 45)),iA 47 (.bHQ true 1 1 [(.int .u32 0)] [(0,(Tm 46))]),iA 48 (.append 1 4 (Tm 40) (Tm 47)),iM 5 48]
def QN:Rg:=[iM 19 6,iC 20 .add 19 1,iM 6 20]
def atL:aC:=(.seq (sq aMG (.cond (Tm 18) .skip (.exit 0))) (.seq (.block 1 (sq aMH (.seq (sq aMI (.cond (Tm 30) (.region aMJ) .skip)) (.region ZM)))) (.region QN)))
def atM:Rg:=[iM 49 5,iK 50 38 49,iM 4 50]
def IX:aC:=(sq aMB (.seq (sq aMC (.cond (Tm 12) (sq aMD .ret) .skip)) (sq aME (.seq (sq aMF (.block 0 (.loop atL))) (sq atM .ret)))))
def biY:List Nat:=[47]
def agS:aW:=⟨2,51,IX,[.tmp 4]⟩
def avH:Rg:=[iA 1 (.box true (Tm 0)),iT 2 false]
def avI:Rg:=[iF 3 2 1,iL 4 3,iK 5 38 4,iN 6 5,iC 7 .gtr 6 0,iM 8 7,gF 9 2 1 8 true,gL 10 9 8 true,gK 11 38 10 8 true,gN 12 11 8 true,gC 13 .leq 12 128 8 true,iP 14 8 13,iM 15 14,gF 16 1 1 15 true,gL 17 16 15 true,gK 18 38 17 15 true,gN 19 18 15 true,gC 20 .leq 19 128 15 true,iP 21 15 20,iM 2 21]
def CB:aC:=(sq avH (sq avI .ret))
def bdD:List Nat:=[1]
def RM:aW:=⟨1,22,CB,[.tmp 2]⟩
def auS:Rg:=[iA 1 (.box true (Tm 0)),iT 2 false]
def auT:Rg:=[iF 3 1 1,iL 4 3,iN 5 4,iC 6 .gtr 5 128,iM 7 6,gF 8 2 1 7 false,gL 9 8 7 false,gN 10 9 7 false,gC 11 .gtr 10 128 7 false,iQ 12 7 11,iM 2 12]
def BY:aC:=(sq auS (sq auT .ret))
def bcM:List Nat:=[1]
def RI:aW:=⟨1,13,BY,[.tmp 2]⟩
def aNO:Rg:=[iA 1 (.box true (Tm 0)),iA 2 (.alloc [(.bool false),.aB,.aB]),iI 3 0]
def aNP:Rg:=[iO 4 3 1,iK 5 48 4]
def aNQ:Rg:=[iA 6 (.build [(.bool false),.aB,.aB] []),iS 3 2 6,iI 3 2]
def aNR:Rg:=[iO 7 3 1,iS 3 2 7,iI 3 0]
def JK:aC:=(sq aNO (.seq (sq aNP (.cond (Tm 5) (sq aNQ .ret) .skip)) (sq aNR .ret)))
def bjN:List Nat:=[1]
def ahM:aW:=⟨1,8,JK,[.cell 2 (some 3),.tmp 3]⟩
def ahV:Rg:=[iA 1 (.box true (Tm 0)),iA 2 (.alloc [(.bool false),.aB,.aB]),iI 3 0]
def ahW:Rg:=[iO 4 3 1,iK 5 56 4,iA 6 (.un .not (Tm 5))]
def ahX:Rg:=[iA 7 (.build [(.bool false),.aB,.aB] []),iS 3 2 7,iI 3 1]
def ahY:Rg:=[iF 8 0 1,iL 9 8,iF 10 1 1,iL 11 10,iF 12 2 1,iL 13 12,iA 14 (.call 58 [(Tm 9),(Tm 11),(Tm 13)]),iS 3 2 14,iI 3 0]
def xX:aC:=(sq ahV (.seq (sq ahW (.cond (Tm 6) (sq ahX .ret) .skip)) (sq ahY .ret)))
def a5Y:List Nat:=[1]
def EC:aW:=⟨1,15,xX,[.cell 2 (some 3),.tmp 3]⟩
def avE:Rg:=[iZ 4]
def avF:Rg:=[iM 8 0,iM 9 1,iK2 10 36 8 9,iM 7 10,iE 11 7 0,iE 12 7 1,iM 5 11,iM 6 12]
def avG:Rg:=[iM 13 5,iM 4 13]
def CA:aC:=(sq avE (sq avF (sq avG .ret)))
def bdB:List Nat:=[]
def RL:aW:=⟨2,14,CA,[.tmp 4]⟩
def auU:Rg:=[iA 2 (.box true (Tm 0)),iA 3 (.box true (Tm 1)),iI 4 0]
def auV:Rd:=[(iF 9 1 2,false),(iL 10 9,false),(iF 11 2 3,false),(iL 12 11,false),(iK2 13 60 10 12,true),(iF 14 1 3,true),(iL 15 14,true),(iF 16 2 2,true),(iL 17 16,true),(iK2 18 60 15 17,true),(iM 5 13,false),(iM 6 18,false)]
def auW:Rg:=[iF 19 0 2,iL 20 19,iM 21 20,gM 22 5 21 true,gN 23 22 21 true,gC 24 .gtr 23 0 21 true,iP 25 21 24,iF 26 0 3,iL 27 26,iM 28 27,gM 29 6 28 true,gN 30 29 28 true,gC 31 .gtr 30 0 28 true,iP 32 28 31,iM 7 25,iM 8 32]
def auX:Rg:=[iM 34 7,iM 35 34,gM 36 8 35 true,iG 37 (.un .not (Tm 36)) 35 true,iP 38 35 37,iM 33 38]
def auY:Rg:=[iI 4 (-1)]
def auZ:Rg:=[iM 40 8,iM 41 40,gM 42 7 41 true,iG 43 (.un .not (Tm 42)) 41 true,iP 44 41 43,iM 39 44]
def avA:Rg:=[iI 4 1]
def avB:Rg:=[iM 46 7,iM 45 46]
def avC:Rg:=[iM 47 6,iM 48 5,iK2 49 32 47 48,iM 4 49]
def avD:Rg:=[iM 50 5,iM 51 6,iK2 52 32 50 51,iM 4 52]
def BZ:aC:=(sq auU (dq auV (sq auW (.seq (.block 0 (sq auX (.cond (Tm 33) (sq auY .ret) (sq auZ (.cond (Tm 39) (sq avA .ret) (sq avB (.cond (Tm 45) (sq avC .ret) .skip))))))) (sq avD .ret)))))
def bcO:List Nat:=[2,3]
def RJ:aW:=⟨2,53,BZ,[.tmp 4]⟩
def aNU:Rg:=[iA 2 (.box true (Tm 0)),iA 3 (.box true (Tm 1)),iT 4 false]
def aNV:Rg:=[iO 5 3 2,iO 6 3 3,iK2 7 51 5 6,iC 8 .lss 7 0,iM 4 8]
def JL:aC:=(sq aNU (sq aNV .ret))
def bjQ:List Nat:=[2,3]
def ahO:aW:=⟨2,9,JL,[.tmp 4]⟩
def aOF:Rg:=[iA 2 (.box true (Tm 0)),iA 3 (.box true (Tm 1)),iT 4 false]
def aOG:Rg:=[iO 5 3 2,iO 6 3 3,iK2 7 51 5 6,iC 8 .eql 7 0,iM 4 8]
def JP:aC:=(sq aOF (sq aOG .ret))
def bjU:List Nat:=[2,3]
def ahZ:aW:=⟨2,9,JP,[.tmp 4]⟩
def aOH:Rg:=[iA 1 (.box true (Tm 0)),iI 2 0]
def aOI:Rd:=[(iO 3 3 1,true),(iA 4 (.call 47 [(Ci 0)]),true),(iK2 5 51 3 4,true),(iM 2 5,false)]
def JQ:aC:=(sq aOH (dq aOI .ret))
def bjW:List Nat:=[1]
def aiA:aW:=⟨1,6,JQ,[.tmp 2]⟩
def aZN:Rg:=[iA 2 (.box true (Tm 0)),iA 3 (.box true (Tm 1)),iA 4 (.alloc [(.bool false),.aB,.aB]),iI 5 0]
def aZO:Rg:=[iO 15 3 2,iK 16 56 15,iA 17 (.un .not (Tm 16)),iM 18 17,gO 19 3 3 18 false,gK 20 56 19 18 false,iG 21 (.un .not (Tm 20)) 18 false,iQ 22 18 21]
def anV:Rg:=[iA 23 (.build [(.bool false),.aB,.aB] []),iS 3 4 23,iI 5 1]
def aZP:Rd:=[(iF 24 1 2,false),(iL 25 24,false),(iF 26 2 3,false),(iL 27 26,false),(iK2 28 60 25 27,true),(iF 29 1 3,true),(iL 30 29,true),(iF 31 2 2,true),(iL 32 31,true),(iK2 33 60 30 32,true),(iF 34 2 2,true),(iL 35 34,true),(iF 36 2 3,true),(iL 37 36,true),(iK2 38 60 35 37,true),(iM 6 28,false),(iM 7 33,false),(iM 8 38,false)]
def aZQ:Rg:=[iF 39 0 2,iL 40 39,iF 41 0 3,iL 42 41,iA 43 (.eqb false (Tm 40) (Tm 42))]
def aZR:Rg:=[iM 45 6,iM 46 7,iK2 47 30 45 46,iM 44 47,iE 48 44 0,iE 49 44 1,iM 9 48,iM 10 49]
def aZS:Rg:=[iF 50 0 2,iL 51 50,iM 52 9,iM 53 8,iA 54 (.call 58 [(Tm 51),(Tm 52),(Tm 53)]),iK 55 57 54,iE 56 55 0,iE 57 55 1,iS 3 4 56,iM 5 57]
def aZT:Rg:=[iM 58 6,iM 59 7,iK2 60 32 58 59,iC 61 .geq 60 0]
def aZU:Rg:=[iM 63 6,iM 64 7,iK2 65 37 63 64,iM 62 65,iE 66 62 0,iE 67 62 1,iM 11 66,iM 12 67]
def aZV:Rg:=[iF 68 0 2,iL 69 68,iM 70 11,iM 71 8,iA 72 (.call 58 [(Tm 69),(Tm 70),(Tm 71)]),iK 73 57 72,iE 74 73 0,iE 75 73 1,iS 3 4 74,iM 5 75]
def aNL:Rg:=[iM 77 7,iM 78 6,iK2 79 37 77 78,iM 76 79,iE 80 76 0,iE 81 76 1,iM 13 80,iM 14 81]
def aNM:Rg:=[iF 82 0 3,iL 83 82,iM 84 13,iM 85 8,iA 86 (.call 58 [(Tm 83),(Tm 84),(Tm 85)]),iK 87 57 86,iE 88 87 0,iE 89 87 1,iS 3 4 88,iM 5 89]
def zL:aC:=(sq aZN (.seq (sq aZO (.cond (Tm 22) (sq anV .ret) .skip)) (dq aZP (.seq (sq aZQ (.cond (Tm 43) (sq aZR (sq aZS .ret)) .skip)) (.seq (sq aZT (.cond (Tm 61) (sq aZU (sq aZV .ret)) .skip)) (sq aNL (sq aNM .ret)))))))
def bpW:List Nat:=[2,3]
def anU:aW:=⟨2,90,zL,[.cell 4 (some 3),.tmp 5]⟩
def a0A:Rg:=[iA 2 (.alloc [(.bool false),.aB,.aB]),iI 3 0]
def a0B:Rg:=[iA 8 (.call 47 [(Ci 0)]),iA 4 (.alloc [(.bool false),.aB,.aB]),iS 3 4 8]
def a0C:Rg:=[iI 5 0]
def a0D:Rg:=[iM 9 5,iM 10 0,iN 11 10,iB 12 .lss 9 11]
def a0E:Rd:=[(iO 16 3 4,false),(iM 17 0,false),(iM 18 5,false),(iX 19 3 17 18,false),(iO 20 3 19,false),(iK2 21 46 16 20,true),(iM 15 21,false),(iE 22 15 0,false),(iE 23 15 1,true),(iA 6 (.alloc [(.bool false),.aB,.aB]),true),(iS 3 6 22,true),(iM 7 23,false)]
def anX:Rg:=[iM 24 7,iC 25 .neq 24 0]
def a0F:Rg:=[iA 26 (.build [(.bool false),.aB,.aB] []),iM 27 7,iS 3 2 26,iM 3 27]
def a0G:Rg:=[iO 28 3 6,iS 3 4 28]
def a0H:Rg:=[iM 13 5,iC 14 .add 13 1,iM 5 14]
def aZZ:aC:=(.seq (sq a0D (.cond (Tm 12) .skip (.exit 0))) (.seq (.block 1 (dq a0E (.seq (sq anX (.cond (Tm 25) (sq a0F .ret) .skip)) (.region a0G)))) (.region a0H)))
def aOO:Rg:=[iO 29 3 4,iS 3 2 29,iI 3 0]
def RK:aC:=(sq a0A (sq a0B (.seq (sq a0C (.block 0 (.loop aZZ))) (sq aOO .ret))))
def bqB:List Nat:=[]
def aON:aW:=⟨1,30,RK,[.cell 2 (some 3),.tmp 3]⟩
def sJ:Rg:=[iT 4 false]
def sK:Rg:=[iM 5 0,iC 6 .geq 5 1,iM 7 6,gM 8 0 7 true,gC 9 .leq 8 6 7 true,iP 10 7 9,iM 11 10,gM 12 1 11 true,gC 13 .geq 12 0 11 true,iP 14 11 13,iM 15 14,gM 16 1 15 true,gC 17 .leq 16 4 15 true,iP 18 15 17,iM 19 18,gM 20 0 19 true,gM 21 1 19 true,gB 22 .add 20 21 19 true,gC 23 .leq 22 8 19 true,iP 24 19 23,iM 4 24]
def mI:aC:=(sq sJ (sq sK .ret))
def biJ:List Nat:=[]
def vC:aW:=⟨2,25,mI,[.tmp 4]⟩
def ajF:Rg:=[iT 2 false]
def ajG:Rg:=[iM 3 0,iA 4 (.bin .geq (Tm 3) (.const (.int .u8 97))),iM 5 4,gM 6 0 5 true,iG 7 (.bin .leq (Tm 6) (.const (.int .u8 122))) 5 true,iP 8 5 7,iM 9 8,gM 10 0 9 false,iG 11 (.bin .geq (Tm 10) (.const (.int .u8 65))) 9 false,gM 12 11 9 false,gM 13 0 12 true,iG 14 (.bin .leq (Tm 13) (.const (.int .u8 90))) 12 true,iG 15 (.pick (Tm 12) (Tm 14) (.const (.bool false))) 9 false,iQ 16 9 15,iM 2 16]
def yA:aC:=(sq ajF (sq ajG .ret))
def a6O:List Nat:=[]
def EF:aW:=⟨1,17,yA,[.tmp 2]⟩
def awL:Rg:=[iT 2 false]
def awM:Rg:=[iM 3 0,iA 4 (.bin .geq (Tm 3) (.const (.int .u8 48))),iM 5 4,gM 6 0 5 true,iG 7 (.bin .leq (Tm 6) (.const (.int .u8 57))) 5 true,iP 8 5 7,iM 2 8]
def CG:aC:=(sq awL (sq awM .ret))
def bdL:List Nat:=[]
def RV:aW:=⟨1,9,CG,[.tmp 2]⟩
def aiU:Rg:=[iT 2 false]
def aiV:Rg:=[iM 3 0,iK 4 65 3,iM 5 4,gM 6 0 5 false,gK 7 63 6 5 false,iQ 8 5 7,iM 9 8,gM 10 0 9 false,iG 11 (.bin .eql (Tm 10) (.const (.int .u8 45))) 9 false,iQ 12 9 11,iM 13 12,gM 14 0 13 false,iG 15 (.bin .eql (Tm 14) (.const (.int .u8 46))) 13 false,iQ 16 13 15,iM 2 16]
def xY:aC:=(sq aiU (sq aiV .ret))
def a6K:List Nat:=[]
def ED:aW:=⟨1,17,xY,[.tmp 2]⟩
def aiX:Rg:=[iT 2 false]
def aiY:Rg:=[iM 4 0,iA 5 (.bIS (Tm 4)),iC 6 .lss 5 1,iM 7 6,gM 8 0 7 false,iG 9 (.bIS (Tm 8)) 7 false,gC 10 .gtr 9 16 7 false,iQ 11 7 10,iM 12 11,gM 13 0 12 false,iG 14 (.bIT (Tm 13) (Ci 0)) 12 false,gK 15 65 14 12 false,iG 16 (.un .not (Tm 15)) 12 false,iQ 17 12 16]
def vO:Rg:=[iT 2 false]
def aiZ:Rg:=[iI 3 0]
def ajA:Rg:=[iM 18 3,iM 19 0,iA 20 (.bIS (Tm 19)),iB 21 .lss 18 20]
def ajB:Rg:=[iM 24 0,iM 25 3,iA 26 (.bIT (Tm 24) (Tm 25)),iK 27 64 26,iA 28 (.un .not (Tm 27))]
def ajC:Rg:=[iT 2 false]
def ajD:Rg:=[iM 22 3,iC 23 .add 22 1,iM 3 23]
def aiW:aC:=(.seq (sq ajA (.cond (Tm 21) .skip (.exit 0))) (.seq (.block 1 (sq ajB (.cond (Tm 28) (sq ajC .ret) .skip))) (.region ajD)))
def ajE:Rg:=[iT 2 true]
def xZ:aC:=(sq aiX (.seq (sq aiY (.cond (Tm 17) (sq vO .ret) .skip)) (.seq (sq aiZ (.block 0 (.loop aiW))) (sq ajE .ret))))
def a6M:List Nat:=[]
def EE:aW:=⟨1,29,xZ,[.tmp 2]⟩
theorem oJ (P:List Nat) (v:Nat):aK P++[[.int .u32 (v:Int)]]=aK (P++[v]):=by simp[aK]
theorem oI {P:List Nat} (h:P.length≤35184372087808):roomFor (aK P).length 1 4:=by
 unfold roomFor
 rw[bT]
 simp only[maxLen]; omega
def TJ (a b:List Nat) (v:PV) (c i:Nat):PF:=(((((PF.nil.set 0 (aF a)).set 1 (aF b)).set 5 (v)).set 6 (.int .u64 c)).set 7 (.int .i64 i))
theorem bbU {C:Ctx} (L:nT C) (a b:List Nat) (ha:Lim a) (hb:Lim b) (hle:val b≤val a) (hl:b.length≤a.length) (h1:a.length≤35184372087808) :
  BS.wp C (aU QQ.res (cA (aF (aH (val a-val b))))) (PF.args [aF a,aF b]) .nil:=by
 simp only[go_sem,BS,atP,atQ,atR,atS,QQ]
 refine wp_loop (α:=List Nat × Nat × PV × PH) (fun s=>TJ a b s.2.2.1 s.2.1 s.1.length) (fun s=>s.2.2.2)
  (fun s=>s.1.length≤a.length∧Lim s.1∧s.2.1≤1∧val (a.take s.1.length)+4294967296 ^ s.1.length*s.2.1=val s.1+val (b.take s.1.length)∧bK s.2.2.2 1 s.2.2.1 (aK s.1)) (fun s=>a.length-s.1.length) ([],0,.aB,.nil) ⟨by simp,by simp[Lim],by simp,by simp[val],.nil⟩ ?_ PH.nil_le ?_
 ·unfold TJ
  exact Lq
 rintro⟨P,c,v,H0⟩ ⟨hP,bIH,hc,bID,hO⟩
 simp only at hP bIH hc bID hO ⊢
 simp only[go_sem,γ,reduceCtorEq,agU,atT,TJ]
 by_cases c1:P.length<a.length
 ·have c1':(P.length:Int)<(a.length:Nat):=by omega
  have hai:=ha _ (bJS c1)
  have hta:=bY a c1
  have hac:(aK a)[P.length]?=some [.int .u32 ((a[P.length]:Nat):Int)]:=bL a c1
  generalize hx:a[P.length]=x at *
  have ex:IntKind.u64.wrap ((x:Nat):Int)=((x:Nat):Int):=bF Om
  have fin:∀ (t:Nat) (F':PF),t<4294967296→val (b.take (P.length+1))=val (b.take P.length)+4294967296 ^ P.length*t →
    F' 0=some (aF a)→F' 1=some (aF b)→F' 5=some v→F' 8=some (.int .u64 (c+t:Nat))→F' 7=some (.int .i64 P.length) →
    ∀ K:cQ,(∀ P' c' v' F2 H2,P'.length=P.length+1→Lim P'→c'≤1→val (a.take (P.length+1))+4294967296 ^ P'.length*c'=val P'+val (b.take (P.length+1))→(TJ a b v' c' P'.length).le F2→bK H2 1 v' (aK P')→K .normal F2 H2) →
    aC.wp C (.seq (.region QR) (.seq (.region QS) (.seq (.seq (.region IZ) (.cond (.tmp 35) (.seq (.region JA) (.region JB)) .skip)) (.region vE)))) (dW 1 (iV C (aC.wp C (.region vF)) K)) F' H0:=by
   intro t F' ht htb g0 g1 g5 g8 g7 K hK
   have step:∀ (d c':Nat),d<4294967296→c'≤1→x+4294967296*c'=d+(c+t)→val (a.take (P.length+1))+4294967296 ^ (P.length+1)*c'=val (P++[d])+val (b.take (P.length+1)):=by
    intro d c' hd hc' he
    have h2:4294967296 ^ P.length*(x+4294967296*c')=4294967296 ^ P.length*(d+(c+t)):=by rw[he]
    rw[bKB,bKB,bKB] at h2
    rw[iW,bLI,bKJ,hta,htb]
    omega
   simp only[go_sem,γ,QR,g0,g7,hac,ex,QS,IZ,g8]
   by_cases c2:x<c+t
   ·have c2':((x:Nat):Int)<((c+t:Nat):Int):=by omega
    have e1:IntKind.u64.wrap ((x:Int)+4294967296)=((x+4294967296:Nat):Int):=by
     rw[show (x:Int)+4294967296=((x+4294967296:Nat):Int) by omega]
     exact bF Om
    have e2:IntKind.u64.wrap (((x+4294967296:Nat):Int)-((c+t:Nat):Int))=((x+4294967296-(c+t):Nat):Int):=by
     rw[show ((x+4294967296:Nat):Int)-((c+t:Nat):Int)=((x+4294967296-(c+t):Nat):Int) by omega]
     exact bF Om
    have e3:IntKind.u32.wrap ((x+4294967296-(c+t):Nat):Int)=((x+4294967296-(c+t):Nat):Int):=by
     rw[cC,bKW Om]
    have hb1:(1:Nat)*1≤16777216:=by decide
    simp only[go_sem,υ,γ,η,ζ,c2',JA,e1,JB,vE,g5,g8,e2,e3,hb1]
    refine gG (src:=[[.int .u32 ((x+4294967296-(c+t):Nat):Int)]]) hO rfl (oI Om) fun v' H' hO' _=>?_
    rw[oJ] at hO'
    simp only[go_sem,γ,vF,g7,dC (Om:P.length<9223372036854775807)]
    refine hK _ 1 v' _ H' (by simp) (bIH.app fun y hy=>by simp at hy; subst hy; omega) (bJQ _) ?_ ?_ hO'
    ·rw[bJW,bKC]
     exact step _ 1 Om (bJQ _) Om
    ·unfold TJ
     rw[bJW,bKC]
     exact Lq
   ·have c2':¬ ((x:Nat):Int)<((c+t:Nat):Int):=by omega
    have e2:IntKind.u64.wrap (((x:Nat):Int)-((c+t:Nat):Int))=((x-(c+t):Nat):Int):=by
     rw[show ((x:Nat):Int)-((c+t:Nat):Int)=((x-(c+t):Nat):Int) by omega]
     exact bF Om
    have e3:IntKind.u32.wrap ((x-(c+t):Nat):Int)=((x-(c+t):Nat):Int):=by
     rw[cC,bKW Om]
    have hb1:(1:Nat)*1≤16777216:=by decide
    simp only[go_sem,υ,γ,η,ζ,c2',vE,g5,g8,e2,e3,hb1]
    refine gG (src:=[[.int .u32 ((x-(c+t):Nat):Int)]]) hO rfl (oI Om) fun v' H' hO' _=>?_
    rw[oJ] at hO'
    simp only[go_sem,γ,vF,g7,dC (Om:P.length<9223372036854775807)]
    refine hK _ 0 v' _ H' (by simp) (bIH.app fun y hy=>by simp at hy; subst hy; omega) (by decide) ?_ ?_ hO'
    ·rw[bJW,bKC]
     exact step _ 0 Om (by decide) Om
    ·unfold TJ
     rw[bJW,bKC]
     exact Lq
  simp only[aC.wp,go_sem] at fin
  simp only[go_sem,γ,reduceCtorEq,c1',atU,atV]
  by_cases c3:P.length<b.length
  ·have c3':(P.length:Int)<(b.length:Nat):=by omega
   have hbi:=hb _ (bJS c3)
   have htb:=bY b c3
   have eb:IntKind.u64.wrap ((b[P.length]:Nat):Int)=((b[P.length]:Nat):Int):=bF Om
   have es:IntKind.u64.wrap ((c:Int)+(b[P.length]:Int))=((c+b[P.length]:Nat):Int):=eO Om
   simp only[go_sem,γ,reduceCtorEq,c3',atW,bL b c3,eb,es]
   refine fin b[P.length] _ hbi htb rfl rfl rfl rfl rfl _ ?_
   intro P' c' v' F2 H2 e1 e2 e3 e4 e5 e6
   rw[← e1] at e4
   exact aG (α:=List Nat × Nat × PV × PH) (P',c',v',H2) ⟨by simp only; omega,e2,e3,e4,e6⟩ (by simp only; omega) e5 PH.le_refl
  ·have c3':¬ (P.length:Int)<(b.length:Nat):=by omega
   have htb:val (b.take (P.length+1))=val (b.take P.length)+4294967296 ^ P.length*0:=by rw[bKF Om,bKF Om]; simp
   simp only[go_sem,c3']
   refine fin 0 _ (by decide) htb rfl rfl rfl rfl rfl _ ?_
   intro P' c' v' F2 H2 e1 e2 e3 e4 e5 e6
   rw[← e1] at e4
   exact aG (α:=List Nat × Nat × PV × PH) (P',c',v',H2) ⟨by simp only; omega,e2,e3,e4,e6⟩ (by simp only; omega) e5 PH.le_refl
 ·have e:P.length=a.length:=by omega
  have c1':¬ (P.length:Int)<(a.length:Nat):=by omega
  have hV:val P=val a-val b:=by
   rw[e,bKL,bKF hl] at bID
   have hlt:=eM bIH
   rw[e] at hlt
   rcases bMO c with h | h
   ·subst h; omega
   ·have:c=1:=by omega
    subst this; omega
  simp only[go_sem,γ,reduceCtorEq,c1',agV]
  have hs:=L.trim _ bIH Om
  rw[hV] at hs
  refine rP hs hO rfl fun F1 H1 _=>?_
  simp only[go_sem]
  exact aX (.inr rfl) .nil rfl PH.nil_le ⟨.refl _,rfl⟩
def pS (a b:List Nat) (o i:Nat):PF:=((((PF.nil.set 0 (aF a)).set 1 (aF b)).set 5 (.osl o 1 0 (a.length+b.length))).set 6 (.int .i64 i))
def utG (a b:List Nat) (o i c j:Nat):PF:=((((((PF.nil.set 0 (aF a)).set 1 (aF b)).set 5 (.osl o 1 0 (a.length+b.length))).set 6 (.int .i64 i)).set 7 (.int .u64 c)).set 8 (.int .i64 j))
theorem a5R {C:Ctx} (a b:List Nat) (ha:Lim a) (hb:Lim b) (h1:a.length≤35184372087808) (h2:b.length≤35184372087808) (L:List Nat) (i:Nat) (hi:i<a.length) (hI:CS a b L i) (q:Nat) (K:cQ) (F:PF) (H:PH) (hF:(pS a b q i).le F) (hH:H q=some (.rows 1 (aK L)))
  (hK:∀ L' F' H',CS a b L' (i+1)→(pS a b q i).le F'→H' q=some (.rows 1 (aK L'))→K .normal F' H') :
  aC.wp C (.block 1 (.seq (.region RA) (.seq (.seq (.region RB) (.block 2 (.loop JF))) (.region JG)))) K F H:=by
 have f0:=hF 0 _ (by unfold pS; simp only[go_sem,reduceCtorEq]; rfl)
 have f1:=hF 1 _ (by unfold pS; simp only[go_sem,γ,reduceCtorEq]; rfl)
 have f5:=hF 5 _ (by unfold pS; simp only[go_sem,γ,reduceCtorEq]; rfl)
 have f6:=hF 6 _ (by unfold pS; simp only[go_sem,γ,reduceCtorEq]; rfl)
 have hx:=ha _ (bJS hi)
 have hta:=bY a hi
 generalize hxe:a[i]=x at *
 have hax:(aK a)[i]?=some [.int .u32 ((x:Nat):Int)]:=by rw[bL a hi,hxe]
 simp only[go_sem,RA,RB]
 refine wp_loop (α:=List Nat × Nat × Nat) (fun t=>utG a b q i t.2.1 t.2.2) (fun t=>PH.nil.set q (.rows 1 (aK t.1)))
  (fun t=>t.2.2≤b.length∧t.1.length=a.length+b.length∧Lim t.1∧t.2.1<4294967296∧val t.1+4294967296 ^ (i+t.2.2)*t.2.1=val (a.take i)*val b+4294967296 ^ i*(x*val (b.take t.2.2))∧∀ j y,i+b.length≤j→t.1[j]?=some y→y=0) (fun t=>b.length-t.2.2) (L,0,0)
  ⟨by simp,hI.len,hI.lim,by simp,by simp[val,hI.v],hI.z⟩ ?_ (PH.aI PH.nil_le hH) ?_
 ·unfold utG
  exact Lq
 rintro⟨M,c,j⟩ ⟨hj,hM,bIH,hc,bID,hz⟩
 simp only at hj hM bIH hc bID hz
 simp only[go_sem,γ,reduceCtorEq,JF,auC,utG]
 by_cases c1:j<b.length
 ·have c1':(j:Int)<(b.length:Nat):=by omega
  have hy:=hb _ (bJS c1)
  have htb:=bY b c1
  generalize hye:b[j]=y at *
  have hby:(aK b)[j]?=some [.int .u32 ((y:Nat):Int)]:=by rw[bL b c1,hye]
  have hij:i+j<M.length:=by omega
  have hz0:=bIH _ (bJS hij)
  have bJH:=DZ hij
  generalize hze:M[i+j]=z at *
  have hMz:(aK M)[i+j]?=some [.int .u32 ((z:Nat):Int)]:=by rw[bL M hij,hze]
  have ex:IntKind.u64.wrap ((x:Nat):Int)=((x:Nat):Int):=bF Om
  have ey:IntKind.u64.wrap ((y:Nat):Int)=((y:Nat):Int):=bF Om
  have ez:IntKind.u64.wrap ((z:Nat):Int)=((z:Nat):Int):=bF Om
  have em:=aUK hx hy
  have hxy:x*y≤4294967295*4294967295:=Nat.mul_le_mul Om Om
  have e1:IntKind.u64.wrap (((x*y:Nat):Int)+(z:Int))=((x*y+z:Nat):Int):=eO Om
  have e2:IntKind.u64.wrap (((x*y+z:Nat):Int)+(c:Int))=((x*y+z+c:Nat):Int):=eO Om
  have eij:IntKind.i64.wrap ((i:Int)+(j:Int))=((i+j:Nat):Int):=fT Om
  have hlt:((i+j:Nat):Int)<((a.length+b.length:Nat):Int):=by omega
  generalize ht:x*y+z+c=t at *
  have htt:t<4294967296*4294967296:=by omega
  have bHX:(aK M).set (i+j) [.int .u32 ((t%4294967296:Nat):Int)]=aK (M.set (i+j) (t%4294967296)):=eZ M (i+j) _
  simp only[go_sem,c1']
  refine bP .nil dX PH.nil_le ?_
  simp only[go_sem,γ,reduceCtorEq,auD,hax,hby,ex,ey,em,eij,hlt,hMz,ez,e1,e2,auE,cC,bHX,auF,vD,agZ,wZz j]
  refine aG (M.set (i+j) (t%4294967296),t/4294967296,j+1) ⟨by simp only; omega,by simp only[bLO]; exact hM,bIH.set _ (bLE _ (by decide)),by simp only; omega,?_,ajR hz _ _ Om⟩ (by simp only; omega) ?_ (PH.aI PH.nil_le Sq)
  ·simp only
   have h3:=bJH (t%4294967296)
   have h4:4294967296 ^ (i+(j+1))*(t/4294967296)+4294967296 ^ (i+j)*(t%4294967296)=4294967296 ^ (i+j)*t:=by
    rw[← bMB,bLI,bKJ,← bKB,bMV]
   have h5:4294967296 ^ (i+j)*t=4294967296 ^ (i+j)*(x*y)+4294967296 ^ (i+j)*z+4294967296 ^ (i+j)*c:=by rw[← ht,bKB,bKB]
   have h6:4294967296 ^ i*(x*val (b.take (j+1)))=4294967296 ^ i*(x*val (b.take j))+4294967296 ^ (i+j)*(x*y):=by
    rw[htb,bKB,bKB,Nat.pow_add]
    congr 1
    rw[Nat.mul_left_comm x,bKJ]
   omega
  ·exact Lq
 ·have he:j=b.length:=by omega
  have c1':¬ (j:Int)<(b.length:Nat):=by omega
  subst he
  have hij:i+b.length<M.length:=by omega
  have hz0:M[i+b.length]=0:=hz _ _ (bJQ _) (bJZ hij)
  have bJH:=DZ hij
  have hMz:(aK M)[i+b.length]?=some [.int .u32 ((0:Nat):Int)]:=by rw[bL M hij,hz0]
  have eij:IntKind.i64.wrap ((i:Int)+((b.length:Nat):Int))=((i+b.length:Nat):Int):=fT Om
  have hlt:((i+b.length:Nat):Int)<((a.length+b.length:Nat):Int):=by omega
  have bHX:(aK M).set (i+b.length) [.int .u32 ((c%4294967296:Nat):Int)]=aK (M.set (i+b.length) c):=by
   rw[bKW hc]; exact eZ M _ _
  simp only[go_sem,γ,reduceCtorEq,c1',JG,eij,cC,hlt,hMz,bHX]
  refine hK (M.set (i+b.length) c) _ _ ⟨by rw[bLO]; exact hM,bIH.set _ hc,?_,fun j y hj hy=>?_⟩ (by unfold pS; exact Lq) Sq
  ·have h3:=bJH c
   rw[hz0,Nat.mul_zero,bLH] at h3
   rw[h3,bID,bKL,hta,bKR,bKJ]
  ·rw[List.getElem?_set_ne Om] at hy
   exact hz j y Om hy
theorem bbW {C:Ctx} (L:nT C) (a b:List Nat) (ha:Lim a) (hb:Lim b) (h1:a.length≤8388608) (h2:b.length≤8388608) :
  BV.wp C (aU QZ.res (cA (aF (aH (val a*val b))))) (PF.args [aF a,aF b]) .nil:=by
 have hlen:IntKind.i64.wrap (((a.length:Nat):Int)+((b.length:Nat):Int))=((a.length+b.length:Nat):Int):=fT Om
 have hm1:((a.length+b.length:Nat):Int)*((4:Nat):Int)≤140737488355328:=by omega
 have hm2:((a.length+b.length:Nat):Int)≤9223372036854775807:=by omega
 have hz:bJR (a.length+b.length) [PV.int .u32 0]=aK (bJR (a.length+b.length) 0):=by
  simp[aK]
 simp only[go_sem,γ,reduceCtorEq,BV,atY,atZ,QZ,bJO,hlen,hm1,hm2,hz]
 refine aQ fun o ho=>?_
 simp only[go_sem,γ,auA]
 refine wp_loop (α:=List Nat × Nat) (fun t=>pS a b o t.2) (fun t=>PH.nil.set o (.rows 1 (aK t.1))) (fun t=>t.2≤a.length∧CS a b t.1 t.2) (fun t=>a.length-t.2) (bJR (a.length+b.length) 0,0)
  ⟨by simp,by simp,tM _,by simp[val,qL],fun j x _ hx=>by rw[List.getElem?_replicate] at hx; split at hx<;>simp_all⟩ ?_ (PH.aI PH.nil_le Sq) ?_
 ·unfold pS
  exact Lq
 rintro⟨M,i⟩ ⟨hi,hI⟩
 simp only at hi hI
 simp only[go_sem,γ,reduceCtorEq,agY,auB,pS]
 by_cases c1:i<a.length
 ·have c1':(i:Int)<(a.length:Nat):=by omega
  have key:=a5R (C:=C) a b ha hb Om Om M i c1 hI o
  simp only[go_sem] at key
  simp only[go_sem,c1']
  refine key _ _ _ (by unfold pS; exact Lq) Sq ?_
  intro L' F' H' hI' hF' hH'
  have g6:=hF' 6 _ (by unfold pS; simp only[go_sem,γ,reduceCtorEq]; rfl)
  have g0:=hF' 0 _ (by unfold pS; simp only[go_sem,reduceCtorEq]; rfl)
  have g1:=hF' 1 _ (by unfold pS; simp only[go_sem,γ,reduceCtorEq]; rfl)
  have g5:=hF' 5 _ (by unfold pS; simp only[go_sem,γ,reduceCtorEq]; rfl)
  simp only[go_sem,γ,ahA,g6,wZz i]
  refine aG (L',i+1) ⟨by simp only; omega,hI'⟩ (by simp only; omega) ?_ (PH.aI PH.nil_le hH')
  exact Lq
 ·have he:i=a.length:=by omega
  subst he
  have c1':¬ ((a.length:Nat):Int)<(a.length:Nat):=by omega
  have hV:val M=val a*val b:=by rw[hI.v,bKL]
  simp only[go_sem,γ,reduceCtorEq,ahB]
  have hs:=L.trim _ hI.lim (by rw[hI.len]; omega)
  rw[hV] at hs
  refine oP (o:=o) (s:=1) (k:=a.length+b.length) (rs:=aK M) (v:=aF (aH (val a*val b))) ?_ rfl Sq (by rw[bT,hI.len]; exact bJQ _) ?_
  ·rw[bKF (by rw[bT,hI.len]; exact bJQ _)]; exact hs
  ·simp only[go_sem,γ,reduceCtorEq]
   exact aX (.inr rfl) .nil rfl PH.nil_le ⟨.refl _,rfl⟩
structure ayZ (C:Ctx):Prop extends ayW C where
 minus:∀ a b,Lim a→Lim b→val b≤val a→b.length≤a.length→a.length≤35184372087808→aD C 42 [aF a,aF b] .nil (aE (aF (aH (val a-val b))))
 times:∀ a b,Lim a→Lim b→a.length≤8388608→b.length≤8388608→aD C 44 [aF a,aF b] .nil (aE (aF (aH (val a*val b))))
theorem bpN {C:Ctx} (L:ayZ C) (a b:List Nat) (ha:Lim a) (hb:Lim b) (la:a.length≤35184372087808) (lb:b.length≤35184372087808) :
  QT.wp C (aU aMN.res (cA (opV (dS (val a) (val b)) (val a*val b)))) (PF.args [aF a,aF b]) .nil:=by
 unfold opV
 simp only[go_sem,reduceCtorEq,QT,aYX,aYY,aMN]
 refine aA (L.large a ha la) rfl ?_
 by_cases c1:nl (val a)>512
 ·simp only[go_sem,γ,c1,anQ]
  rw[if_pos (by simp[dS,c1])]
  exact eF rfl
 simp only[go_sem,γ,c1]
 refine aA (L.large b hb lb) rfl ?_
 by_cases c2:nl (val b)>512
 ·simp only[go_sem,γ,reduceCtorEq,c2,anQ]
  rw[if_pos (by simp[dS,c2])]
  exact eF rfl
 rw[if_neg (by simp[dS,c1,c2])]
 simp only[go_sem,γ,reduceCtorEq,c2,aYZ]
 refine aA (L.trim a ha la) rfl ?_
 simp only[go_sem,γ]
 refine aA (L.trim b hb lb) rfl ?_
 simp only[go_sem]
 have ht:=L.times (aH (val a)) (aH (val b)) (aV _) (aV _) (by rw[aZ]; omega) (by rw[aZ]; omega)
 rw[aS,aS] at ht
 refine aA ht rfl ?_
 have n1:=kF (a:=val a) (b:=val b) (m:=512) (n:=512) Om Om
 have hl:=L.large (aH (val a*val b)) (aV _) (by rw[aZ]; omega)
 rw[aS] at hl
 simp only[go_sem,γ,aZA]
 refine aA hl rfl ?_
 unfold szV szL szE
 by_cases c3:nl (val a*val b)>512
 ·rw[if_pos c3,if_pos c3]
  simp only[go_sem,γ,c3,aZB]
  exact eF rfl
 ·rw[if_neg c3,if_neg c3]
  simp only[go_sem,γ,c3,aZC]
  exact aX (.inr rfl) .nil rfl PH.nil_le ⟨.refl _,rfl⟩
def uN (a:List Nat) (i:Nat):Nat:=a.getD i 0
theorem aAJ {a:List Nat} (h:Lim a) (i:Nat):uN a i<4294967296:=by
 unfold uN
 rw[bKH]
 rcases bKI i a.length with h1 | h1
 ·rw[bJZ h1]; exact h _ (bJS h1)
 ·rw[bLD h1]; decide
theorem WV {a:List Nat} {i:Nat} (h:i<a.length):uN a i=a[i]:=by simp[uN,bKH,h]
theorem MG {a:List Nat} {i:Nat} (h:¬ i<a.length):uN a i=0:=by simp[uN,bKH,h]
theorem RC (a:List Nat) (i:Nat):val (a.take (i+1))=val (a.take i)+4294967296 ^ i*uN a i:=by
 rcases bKI i a.length with h | h
 ·rw[WV h]; exact bY a h
 ·rw[MG Om,bKF Om,bKF Om]; simp
def rL (a b:List Nat) (v:PV) (c i:Nat):PF:=(((((PF.nil.set 0 (aF a)).set 1 (aF b)).set 5 (v)).set 6 (.int .u64 c)).set 7 (.int .i64 i))
theorem bjF {C:Ctx} (L:nT C) (a b:List Nat) (ha:Lim a) (hb:Lim b) (h1:a.length≤8388608) (h2:b.length≤8388608) :
  JC.wp C (aU agX.res (cA (aF (aH (val a+val b))))) (PF.args [aF a,aF b]) .nil:=by
 simp only[go_sem,JC,aMQ,aMR,aMS,aMT,agX]
 refine wp_loop (α:=List Nat × Nat × PV × PH) (fun s=>rL a b s.2.2.1 s.2.1 s.1.length) (fun s=>s.2.2.2)
  (fun s=>s.1.length≤max a.length b.length+1∧(s.1.length≤max a.length b.length∨s.2.1=0)∧Lim s.1∧s.2.1≤1∧val s.1+4294967296 ^ s.1.length*s.2.1=val (a.take s.1.length)+val (b.take s.1.length)∧bK s.2.2.2 1 s.2.2.1 (aK s.1)) (fun s=>max a.length b.length+1-s.1.length) ([],0,.aB,.nil)
  ⟨by simp,by simp,by simp[Lim],by simp,by simp[val],.nil⟩ ?_ PH.nil_le ?_
 ·unfold rL
  exact Lq
 rintro⟨P,c,v,H0⟩ ⟨hP,hPc,bIH,hc,bID,hO⟩
 simp only at hP hPc bIH hc bID hO ⊢
 have hda:=aAJ ha P.length
 have hdb:=aAJ hb P.length
 have hta:=RC a P.length
 have htb:=RC b P.length
 generalize hx:uN a P.length=x at *
 generalize hy:uN b P.length=y at *
 have ex:IntKind.u64.wrap ((x:Nat):Int)=((x:Nat):Int):=bF Om
 have ey:IntKind.u64.wrap ((y:Nat):Int)=((y:Nat):Int):=bF Om
 have e1:IntKind.u64.wrap ((c:Int)+(x:Int))=((c+x:Nat):Int):=eO Om
 have e2:IntKind.u64.wrap (((c+x:Nat):Int)+(y:Int))=((c+x+y:Nat):Int):=eO Om
 have hra:P.length<a.length→(aK a)[P.length]?=some [.int .u32 ((x:Nat):Int)]:=fun h=>by rw[bL a h,← hx,WV h]
 have hrb:P.length<b.length→(aK b)[P.length]?=some [.int .u32 ((y:Nat):Int)]:=fun h=>by rw[bL b h,← hy,WV h]
 have hxa:¬ P.length<a.length→x=0:=fun h=>by rw[← hx,MG h]
 have hyb:¬ P.length<b.length→y=0:=fun h=>by rw[← hy,MG h]
 have body:(P.length≤max a.length b.length)→∀ K:cQ,(∀ P' c' v' F2 H2,P'.length=P.length+1→Lim P'→c'≤1→(P.length+1≤max a.length b.length∨c'=0)→val P'+4294967296 ^ P'.length*c'=val (a.take (P.length+1))+val (b.take (P.length+1))→(rL a b v' c' P'.length).le F2→bK H2 1 v' (aK P')→K .normal F2 H2) →
   ∀ F:PF,(rL a b v c P.length).le F→aC.wp C (.seq (.block 1 (.seq (.region ZP) (.seq (.seq (.region ZQ) (.cond (.tmp 29) (.region ZR) .skip)) (.seq (.seq (.region JD) (.cond (.tmp 40) (.region JE) .skip)) (.seq (.region zI) (.region zJ)))))) (.region zK)) K F H0:=by
  intro hle K hK F hF
  have g0:F 0=some (aF a):=hF 0 _ (by unfold rL; simp only[go_sem,reduceCtorEq])
  have g1:F 1=some (aF b):=hF 1 _ (by unfold rL; simp only[go_sem,γ,reduceCtorEq])
  have g5:F 5=some v:=hF 5 _ (by unfold rL; simp only[go_sem,γ,reduceCtorEq])
  have g6:F 6=some (.int .u64 c):=hF 6 _ (by unfold rL; simp only[go_sem,γ,reduceCtorEq])
  have g7:F 7=some (.int .i64 P.length):=hF 7 _ (by unfold rL; simp only[go_sem,γ,reduceCtorEq])
  have fin:∀ F':PF,F' 0=some (aF a)→F' 1=some (aF b)→F' 5=some v→F' 7=some (.int .i64 P.length)→F' 8=some (.int .u64 (c+x+y:Nat)) →
    aC.wp C (.seq (.region zI) (.region zJ)) (dW 1 (iV C (aC.wp C (.region zK)) K)) F' H0:=by
   intro F' q0 q1 q5 q7 q8
   have hb1:(1:Nat)*1≤16777216:=by decide
   generalize ht:c+x+y=t at *
   have htt:t<2*4294967296:=by omega
   simp only[go_sem,υ,γ,η,ζ,zI,q5,q8,hb1,cC]
   refine gG (src:=[[.int .u32 ((t%4294967296:Nat):Int)]]) hO rfl (oI Om) fun v' H' hO' _=>?_
   rw[oJ] at hO'
   simp only[go_sem,γ,zJ,q8,vD,zK,q7,dC (Om:P.length<9223372036854775807)]
   refine hK (P++[t%4294967296]) (t/4294967296) v' _ H' (by simp) (bIH.app fun y hy=>by simp at hy; subst hy; omega) Om ?_ ?_ ?_ hO'
   ·rcases bKI P.length (max a.length b.length) with h | h
    ·exact .inl h
    ·right
     have h1:=hxa Om
     have h2:=hyb Om
     omega
   ·rw[iW,bJW,bKC,hta,htb,bLI,bKJ,bMB,← bKB]
    rw[show t%4294967296+4294967296*(t/4294967296)=t from Nat.mod_add_div t 4294967296]
    have h3:4294967296 ^ P.length*t=4294967296 ^ P.length*c+4294967296 ^ P.length*x+4294967296 ^ P.length*y:=by rw[← ht,bKB,bKB]
    omega
   ·unfold rL
    rw[bJW,bKC]
    exact Lq
  simp only[aC.wp,go_sem] at fin
  simp only[go_sem,γ,reduceCtorEq,ZP,g6,ZQ,g7,g0]
  by_cases c1:P.length<a.length
  ·have c1':(P.length:Int)<(a.length:Nat):=by omega
   simp only[go_sem,γ,reduceCtorEq,c1',ZR,g0,g7,hra c1,ex,e1,JD,g1]
   by_cases c2:P.length<b.length
   ·have c2':(P.length:Int)<(b.length:Nat):=by omega
    simp only[go_sem,γ,c2',JE,g1,g7,hrb c2,ey,e2]
    exact fin _ (by simp only[go_sem,reduceCtorEq,g0]) (by simp only[go_sem,γ,g1]) (by simp only[go_sem,γ,g5]) (by simp only[go_sem,γ,g7]) rfl
   ·have c2':¬ (P.length:Int)<(b.length:Nat):=by omega
    have h0:=hyb c2
    simp only[go_sem,c2']
    exact fin _ (by simp only[go_sem,reduceCtorEq,g0]) (by simp only[go_sem,γ,g1]) (by simp only[go_sem,γ,g5]) (by simp only[go_sem,γ,g7]) (by simp only[go_sem,γ,h0])
  ·have c1':¬ (P.length:Int)<(a.length:Nat):=by omega
   have h0:=hxa c1
   simp only[go_sem,γ,c1',JD,g1,g7]
   by_cases c2:P.length<b.length
   ·have c2':(P.length:Int)<(b.length:Nat):=by omega
    have e2':IntKind.u64.wrap ((c:Int)+(y:Int))=((c+x+y:Nat):Int):=by rw[h0]; exact eO Om
    simp only[go_sem,γ,c2',JE,g1,g7,hrb c2,ey,e2']
    exact fin _ (by simp only[go_sem,reduceCtorEq,g0]) (by simp only[go_sem,γ,g1]) (by simp only[go_sem,γ,g5]) (by simp only[go_sem,γ,g7]) rfl
   ·have c2':¬ (P.length:Int)<(b.length:Nat):=by omega
    have h0':=hyb c2
    simp only[go_sem,c2']
    exact fin _ (by simp only[go_sem,reduceCtorEq,g0]) (by simp only[go_sem,γ,g1]) (by simp only[go_sem,γ,g5]) (by simp only[go_sem,γ,g7]) (by simp only[go_sem,γ,h0,h0'])
 simp only[aC.wp,go_sem] at body
 have hexit:¬ P.length<a.length→¬ P.length<b.length→c=0→∀ F:PF,F 5=some v→aC.wp C (.seq (.region QX) .ret) (aU [.tmp 4] (cA (aF (aH (val a+val b))))) F H0:=by
  intro n1 n2 n3 F f5
  have hV:val P=val a+val b:=by
   rw[n3,bKF Om,bKF Om] at bID
   omega
  have hs:=L.trim _ bIH Om
  rw[hV] at hs
  simp only[go_sem,QX,f5]
  refine rP hs hO rfl fun F1 H1 _=>?_
  simp only[go_sem]
  exact aX (.inr rfl) .nil rfl PH.nil_le ⟨.refl _,rfl⟩
 simp only[aC.wp,go_sem] at hexit
 simp only[go_sem,γ,reduceCtorEq,atX,aMU,rL]
 by_cases c1:P.length<a.length
 ·have c1':(P.length:Int)<(a.length:Nat):=by omega
  simp only[go_sem,γ,reduceCtorEq,c1']
  refine body Om _ ?_ _ (by unfold rL; exact Lq)
  intro P' c' v' F2 H2 e1 e2 e3 e4 e5 e6 e7
  rw[← e1] at e5 e4
  exact aG (α:=List Nat × Nat × PV × PH) (P',c',v',H2) ⟨by simp only; omega,e4,e2,e3,e5,e7⟩ (by simp only; omega) e6 PH.le_refl
 ·have c1':¬ (P.length:Int)<(a.length:Nat):=by omega
  simp only[go_sem,γ,reduceCtorEq,c1']
  by_cases c2:P.length<b.length
  ·have c2':(P.length:Int)<(b.length:Nat):=by omega
   simp only[go_sem,γ,reduceCtorEq,c2']
   refine body Om _ ?_ _ (by unfold rL; exact Lq)
   intro P' c' v' F2 H2 e1 e2 e3 e4 e5 e6 e7
   rw[← e1] at e5 e4
   exact aG (α:=List Nat × Nat × PV × PH) (P',c',v',H2) ⟨by simp only; omega,e4,e2,e3,e5,e7⟩ (by simp only; omega) e6 PH.le_refl
  ·have c2':¬ (P.length:Int)<(b.length:Nat):=by omega
   simp only[go_sem,γ,reduceCtorEq,c2']
   by_cases c3:c=0
   ·have c3':¬ (c:Int)>0:=by omega
    simp only[go_sem,c3']
    exact hexit c1 c2 c3 _ rfl
   ·have c3':(c:Int)>0:=by omega
    simp only[go_sem,c3']
    refine body Om _ ?_ _ (by unfold rL; exact Lq)
    intro P' c' v' F2 H2 e1 e2 e3 e4 e5 e6 e7
    rw[← e1] at e5 e4
    exact aG (α:=List Nat × Nat × PV × PH) (P',c',v',H2) ⟨by simp only; omega,e4,e2,e3,e5,e7⟩ (by simp only; omega) e6 PH.le_refl
structure aaM (C:Ctx):Prop extends ayZ C where
 plus:∀ a b,Lim a→Lim b→a.length≤8388608→b.length≤8388608→aD C 43 [aF a,aF b] .nil (aE (aF (aH (val a+val b))))
theorem bpF {C:Ctx} (L:aaM C) (a b:List Nat) (ha:Lim a) (hb:Lim b) (la:a.length≤35184372087808) (lb:b.length≤35184372087808) :
  QJ.wp C (aU aLJ.res (cA (opV (dS (val a) (val b)) (val a+val b)))) (PF.args [aF a,aF b]) .nil:=by
 unfold opV
 simp only[go_sem,reduceCtorEq,QJ,aXT,aXU,aLJ]
 refine aA (L.large a ha la) rfl ?_
 by_cases c1:nl (val a)>512
 ·simp only[go_sem,γ,c1,anN]
  rw[if_pos (by simp[dS,c1])]
  exact eF rfl
 simp only[go_sem,γ,c1]
 refine aA (L.large b hb lb) rfl ?_
 by_cases c2:nl (val b)>512
 ·simp only[go_sem,γ,reduceCtorEq,c2,anN]
  rw[if_pos (by simp[dS,c2])]
  exact eF rfl
 rw[if_neg (by simp[dS,c1,c2])]
 simp only[go_sem,γ,reduceCtorEq,c2,aXV]
 refine aA (L.trim a ha la) rfl ?_
 simp only[go_sem,γ]
 refine aA (L.trim b hb lb) rfl ?_
 simp only[go_sem]
 have ht:=L.plus (aH (val a)) (aH (val b)) (aV _) (aV _) (by rw[aZ]; omega) (by rw[aZ]; omega)
 rw[aS,aS] at ht
 refine aA ht rfl ?_
 have n1:=aGZ (a:=val a) (b:=val b) (m:=512) Om Om
 have hl:=L.large (aH (val a+val b)) (aV _) (by rw[aZ]; omega)
 rw[aS] at hl
 simp only[go_sem,γ,aXW]
 refine aA hl rfl ?_
 unfold szV szL szE
 by_cases c3:nl (val a+val b)>512
 ·rw[if_pos c3,if_pos c3]
  simp only[go_sem,γ,c3,aXX]
  exact eF rfl
 ·rw[if_neg c3,if_neg c3]
  simp only[go_sem,γ,c3,aXY]
  exact aX (.inr rfl) .nil rfl PH.nil_le ⟨.refl _,rfl⟩
theorem bpT {C:Ctx} (L:aaM C) (a b:List Nat) (ha:Lim a) (hb:Lim b) (la:a.length≤35184372087808) (lb:b.length≤35184372087808) :
  QY.wp C (aU aMV.res (cA (pR (val a) (val b)))) (PF.args [aF a,aF b]) .nil:=by
 unfold pR
 simp only[go_sem,reduceCtorEq,QY,aZF,aZG,aMV]
 refine aA (L.large a ha la) rfl ?_
 by_cases c1:nl (val a)>512
 ·simp only[go_sem,γ,c1,anT]
  rw[if_pos (by simp[dS,c1])]
  exact eF rfl
 simp only[go_sem,γ,c1]
 refine aA (L.large b hb lb) rfl ?_
 by_cases c2:nl (val b)>512
 ·simp only[go_sem,γ,reduceCtorEq,c2,anT]
  rw[if_pos (by simp[dS,c2])]
  exact eF rfl
 rw[if_neg (by simp[dS,c1,c2])]
 simp only[go_sem,γ,reduceCtorEq,c2,aZH]
 refine aA (L.cmp a b ha hb la lb) rfl ?_
 by_cases c3:val a<val b
 ·have:dD (val a) (val b)=-1:=by simp[dD,c3]
  rw[if_pos c3]
  simp only[go_sem,ο,γ,this,show ((-1:Int)<0) by decide,aZI]
  exact eF rfl
 ·have:¬ dD (val a) (val b)<0:=by
   unfold dD
   rw[if_neg c3]
   split<;>decide
  rw[if_neg c3]
  have n1:=fI (Nat.sub_le (val a) (val b))
  have n2:=fI (Om:val b≤val a)
  simp only[go_sem,γ,reduceCtorEq,this,aZJ]
  refine aA (L.trim a ha la) rfl ?_
  simp only[go_sem,γ]
  refine aA (L.trim b hb lb) rfl ?_
  simp only[go_sem]
  have ht:=L.minus (aH (val a)) (aH (val b)) (aV _) (aV _) (by rw[aS,aS]; omega) (by rw[aZ,aZ]; exact n2) (by rw[aZ]; omega)
  rw[aS,aS] at ht
  refine aA ht rfl ?_
  rw[xR Om]
  simp only[go_sem,γ]
  exact aX (.inr rfl) .nil rfl PH.nil_le ⟨.refl _,rfl⟩
def aLK (k:Nat) (v:Nat):PF:=((PF.nil.set 3 (.int .i64 k)).set 4 (.int .u32 v))
theorem biT {C:Ctx} (L:nT C) (xs:List Nat) (hx:Lim xs) (lx:xs.length≤35184372087808) :
  IT.wp C (aU agK.res (aE (.int .i64 (cD (val xs):Nat)))) (PF.args [aF xs]) .nil:=by
 simp only[go_sem,reduceCtorEq,IT,aLM,aLN,agK]
 refine aA (L.trim xs hx lx) rfl ?_
 have bx:=eY hx
 simp only[go_sem,γ,reduceCtorEq,aLO,bJO,aZ,zH]
 by_cases c1:nl (val xs)=0
 ·simp only[go_sem,decide_eq_true c1,aLP]
  refine aL (.inr rfl) rfl ?_
  have:val xs=0:=gR.1 c1
  simp[aT,this,jA]
 obtain⟨n,hn⟩:∃ n,nl (val xs)=n+1:=⟨nl (val xs)-1,by omega⟩
 obtain⟨t,ht,ht0⟩:=aLI (xs:=aH (val xs)) (aV _) (by rw[aS]; exact hn)
 have htl:t<4294967296:=aV _ t (bMI ht)
 have hv:val xs=val ((aH (val xs)).take n)+4294967296 ^ n*t:=by
  have:=aS (val xs)
  have hnl:n<(aH (val xs)).length:=by rw[aZ]; omega
  have hg:(aH (val xs))[n]=t:=by rw[bJZ hnl] at ht; exact bMG.inj ht
  conv=>lhs; rw[← this,← bKF (l:=aH (val xs)) (i:=n+1) (by rw[aZ]; omega)]
  rw[bY _ hnl,hg]
 have hb:cD (val xs)=32*n+cD t:=by
  have h3:=eM ((aV (val xs)).take n)
  rw[bKG,aZ,bLS Om] at h3
  have hk:=azX (lo:=val ((aH (val xs)).take n)) (k:=32*n) (hi:=t) (by rw[Nat.pow_mul]; exact h3) ht0
  rw[← hk,Nat.pow_mul]
  exact congrArg cD hv
 have bHX:(aK (aH (val xs)))[n]?=some [.int .u32 (t:Nat)]:=by
  simp[aK,ht]
 have e1:IntKind.i64.wrap (((nl (val xs):Nat):Int)-1)=(n:Int):=by rw[wrap_i64 Om Om]; omega
 have e2:IntKind.i64.wrap (32*(n:Int))=((32*n:Nat):Int):=by rw[wrap_i64 Om Om]; omega
 simp only[go_sem,γ,reduceCtorEq,decide_eq_false c1,aLQ,aLR,bJO,aZ,e1,e2,bHX]
 refine wp_loop (α:=Nat × Nat) (fun a=>aLK a.1 a.2) (fun _=>.nil) (fun a=>a.1+cD a.2=32*n+cD t∧a.2<4294967296) (fun a=>a.2) (32*n,t) ⟨rfl,htl⟩ ?_ PH.nil_le ?_
 ·unfold aLK
  exact Lq
 rintro⟨k,v⟩ ⟨hk,hlt⟩
 simp only at hk hlt
 have hk32:cD t≤32:=(kK t 32).2 htl
 simp only[go_sem,γ,aLL,aLS,aLK]
 by_cases c2:(v:Int)>0
 ·have hv0:v≠0:=by omega
  have hsh:IntKind.u32.wrap (bLF (v:Int) 2)=((v/2:Nat):Int):=by
   rw[show bLF (v:Int) 2=((v/2:Nat):Int) from Int.ofNat_tdiv v 2,cC,bKW Om]
  simp only[go_sem,μ,γ,c2,aLT,aLU,hsh,wZz k]
  refine aG (k+1,v/2) ⟨?_,?_⟩ (Nat.div_lt_self Om (by decide)) ?_ PH.nil_le
  ·have:=nF hv0
   simp only; omega
  ·simp only; omega
  ·exact Lq
 ·have:v=0:=by omega
  subst this
  simp only[go_sem,γ,c2,atK]
  refine aL (.inr rfl) rfl ?_
  rw[jA] at hk
  simp only[aT,PV.int.injEq,true_and]
  omega
theorem asK (n:Nat):4294967296 ^ (n/32)*2 ^ (n%32)=2 ^ n:=by
 rw[show (4294967296:Nat)=2 ^ 32 by decide,← Nat.pow_mul,← Nat.pow_add]
 congr 1
 omega
theorem bbL (n:Nat):IntKind.i64.wrap (bLF (n:Int) 32)=IntKind.i64.wrap ((n/32:Nat):Int):=by
 rw[show bLF (n:Int) 32=((n/32:Nat):Int) from Int.ofNat_tdiv n 32]
theorem bbM (n:Nat):Int.tmod (n:Int) 32=((n%32:Nat):Int):=Int.ofNat_tmod n 32
def bjJ (a:List Nat) (n:Nat) (v:PV) (c i:Nat):PF:=(((((PF.nil.set 0 (aF a)).set 1 (.int .i64 n)).set 5 (v)).set 6 (.int .u64 c)).set 7 (.int .i64 i))
theorem bsU {C:Ctx} (L:nT C) (a:List Nat) (n:Nat) (ha:Lim a) (h1:a.length≤8388608) (hn:n≤8388608) (h0:a.length=0→val a=0) :
  ZT.wp C (aU uup.res (kO 1 (aK (aH (val a*2 ^ n))))) (PF.args [aF a,.int .i64 n]) .nil:=by
 simp only[go_sem,γ,reduceCtorEq,ZT,bbY,bbZ,uup,bJO,zH]
 by_cases c0:a.length=0
 ·simp only[go_sem,decide_eq_true c0,bcA]
  rw[h0 c0,Nat.zero_mul,fC]
  exact DQ (.inr rfl) rfl
 have ez:IntKind.i64.wrap (bLF (n:Int) 32)=((n/32:Nat):Int):=by rw[bbL,sN Om]
 have em:=bbM n
 have eu:IntKind.u64.wrap ((n%32:Nat):Int)=((n%32:Nat):Int):=bF Om
 have hsp:=asK n
 have hs:n%32<32:=bLE _ (by decide)
 have hz:n/32≤8388608:=by omega
 generalize hzz:n/32=z at *
 generalize hss:n%32=s at *
 have hm1:((z:Nat):Int)*((4:Nat):Int)≤140737488355328:=by omega
 have hm2:((z:Nat):Int)≤9223372036854775807:=by omega
 have hzr:bJR z [PV.int .u32 0]=aK (bJR z 0):=by
  simp[aK]
 have h2s:2 ^ s≤2147483648:=Nat.pow_le_pow_right (show 0<2 by decide) (Om:s≤31)
 have h2s0:0<2 ^ s:=bME (by decide)
 simp only[go_sem,μ,γ,decide_eq_false c0,bcB,ez,hm1,hm2,hzr]
 refine aQ fun o ho=>?_
 simp only[go_sem,γ,bcC,bcD]
 refine wp_loop (α:=List Nat × Nat × Nat × PV × PH) (fun t=>bjJ a n t.2.2.2.1 t.2.1 t.2.2.1) (fun t=>t.2.2.2.2)
  (fun t=>t.2.2.1≤a.length∧t.1.length=z+t.2.2.1∧Lim t.1∧t.2.1<2 ^ s∧val t.1+4294967296 ^ t.1.length*t.2.1=val (a.take t.2.2.1)*2 ^ n∧bK t.2.2.2.2 1 t.2.2.2.1 (aK t.1)) (fun t=>a.length-t.2.2.1) (bJR z 0,0,0,.osl o 1 0 z,PH.nil.set o (.rows 1 (aK (bJR z 0))))
  ⟨by simp,by simp,tM _,h2s0,by simp[val,qL],.inr ⟨o,aK (bJR z 0),by rw[bT,bNB],by simp only[go_sem],by rw[bT]; exact bJQ _,bKL⟩⟩ ?_ PH.le_refl ?_
 ·unfold bjJ
  exact Lq
 rintro⟨P,c,i,v,H0⟩ ⟨hi,hP,bIH,hc,bID,hO⟩
 simp only at hi hP bIH hc bID hO ⊢
 simp only[go_sem,γ,reduceCtorEq,aZK,bcE,bjJ]
 by_cases c1:i<a.length
 ·have c1':(i:Int)<(a.length:Nat):=by omega
  have hai:=ha _ (bJS c1)
  have hta:=bY a c1
  have hax:=bL a c1
  generalize hx:a[i]=x at *
  have hxs:x*2 ^ s≤4294967295*2147483648:=Nat.mul_le_mul Om h2s
  have ex:IntKind.u64.wrap ((x:Nat):Int)=((x:Nat):Int):=bF Om
  have hxs':2 ^ s*x=x*2 ^ s:=bKO _ _
  have esh:shift .shl .u64 (x:Int) (s:Int)=some (.int .u64 ((2 ^ s*x:Nat):Int)):=II Om Om
  have eor:=orI (a:=2 ^ s*x) (b:=c) (n:=c+2 ^ s*x) Om Om (by rw[Nat.or_comm]; exact aHZ hc Om) Om
  have hdig:(c+2 ^ s*x)/4294967296<2 ^ s:=by
   rw[bMJ (by decide)]
   have:2 ^ s*(x+1)≤2 ^ s*4294967296:=bLT _ Om
   rw[bKB,Nat.mul_one] at this
   omega
  have hb1:(1:Nat)*1≤16777216:=by decide
  simp only[go_sem,μ,υ,γ,η,ζ,reduceCtorEq,c1',bcF,hax,ex,em,eu,esh,eor,bcG,cC,hb1]
  refine gG (src:=[[.int .u32 (((c+2 ^ s*x)%4294967296:Nat):Int)]]) hO rfl (oI Om) fun v' H' hO' _=>?_
  rw[oJ] at hO'
  simp only[go_sem,γ,reduceCtorEq,bcH,vD,aZL,wZz i]
  refine aG (P++[(c+2 ^ s*x)%4294967296],(c+2 ^ s*x)/4294967296,i+1,v',H') ⟨by simp only; omega,by simp; omega,bIH.app fun y hy=>by simp at hy; subst hy; exact bLE _ (by decide),hdig,?_,hO'⟩ (by simp only; omega) ?_ PH.le_refl
  ·simp only
   have hp:4294967296 ^ P.length*(2 ^ s*x)=4294967296 ^ i*x*2 ^ n:=by
    rw[hP,Nat.pow_add,← hsp]
    rw[bKJ,Nat.mul_left_comm (4294967296 ^ i),← bKJ (4294967296 ^ z),bKO (4294967296 ^ z*2 ^ s),bKJ,bKO x]
   rw[iW,bJW,bKC,bLI,bKJ,bMB,← bKB,Nat.mod_add_div,hta,bKB,bKR,← bMB,bID,hp]
  ·exact Lq
 ·have e:i=a.length:=by omega
  subst e
  have c1':¬ ((a.length:Nat):Int)<(a.length:Nat):=by omega
  have hb1:(1:Nat)*1≤16777216:=by decide
  have hV:val (P++[c])=val a*2 ^ n:=by
   rw[iW,bID,bKL]
  have hLc:Lim (P++[c]):=bIH.app fun x hx=>by simp at hx; omega
  have ec:IntKind.u32.wrap ((c:Nat):Int)=((c:Nat):Int):=by rw[cC,bKW Om]
  simp only[go_sem,υ,γ,η,ζ,reduceCtorEq,c1',aZM,ec,hb1]
  refine gG (src:=[[.int .u32 ((c:Nat):Int)]]) hO rfl (oI Om) fun v' H' hO' _=>?_
  rw[oJ] at hO'
  have hs:=L.trimM _ hLc (by simp; omega)
  rw[hV] at hs
  refine ayC hs hO' rfl fun F1 H1 _ r H2 hr _=>?_
  simp only[go_sem]
  exact baW (.inr rfl) hr rfl
def QM (a:List Nat) (n:Nat) (v:PV) (i:Nat):PF:=((((PF.nil.set 0 (aF a)).set 1 (.int .i64 n)).set 5 (v)).set 6 (.int .i64 i))
theorem biX {C:Ctx} (L:nT C) (a:List Nat) (n:Nat) (ha:Lim a) (h1:a.length≤8388608) (hn:n≤1000000000) :
  IX.wp C (aU agS.res (cA (aF (aH (val a/2 ^ n))))) (PF.args [aF a,.int .i64 n]) .nil:=by
 have ez:IntKind.i64.wrap (bLF (n:Int) 32)=((n/32:Nat):Int):=by rw[bbL,sN Om]
 have em:=bbM n
 have eu:IntKind.u64.wrap ((n%32:Nat):Int)=((n%32:Nat):Int):=bF Om
 have hsp:=asK n
 have hs:n%32<32:=bLE _ (by decide)
 have hz:n/32≤1000000000:=by omega
 generalize hzz:n/32=z at *
 generalize hss:n%32=s at *
 simp only[go_sem,μ,γ,reduceCtorEq,IX,aMB,aMC,agS,bJO,ez]
 by_cases c0:a.length≤z
 ·have c0':((z:Nat):Int)≥(a.length:Nat):=by omega
  have hq:val a/2 ^ n=0:=by
   refine bMW (Nat.lt_of_lt_of_le (eM ha) ?_)
   rw[← hsp]
   exact Nat.le_trans (Nat.pow_le_pow_right (by decide) c0) (Nat.le_mul_of_pos_right _ (bME (by decide)))
  simp only[go_sem,c0',aMD]
  rw[hq,fC]
  exact aX (vs:=[.aB]) (.inr rfl) .nil rfl PH.nil_le ⟨.nil 1,rfl⟩
 have c0':¬ ((z:Nat):Int)≥(a.length:Nat):=by omega
 have hR:val a/2 ^ n=val (a.drop z)/2 ^ s:=by
  rw[sM ha Om,← hsp,Nat.div_div_eq_div_mul]
 have hLd:Lim (a.drop z):=ha.drop z
 simp only[go_sem,μ,γ,c0',aME,aMF,ez]
 refine wp_loop (α:=List Nat × PV × PH) (fun t=>QM a n t.2.1 (z+t.1.length)) (fun t=>t.2.2)
  (fun t=>z+t.1.length≤a.length∧t.1=dP t.1.length (val (a.drop z)/2 ^ s)∧bK t.2.2 1 t.2.1 (aK t.1)) (fun t=>a.length-t.1.length) ([],.aB,.nil)
  ⟨by simp; omega,rfl,.nil⟩ ?_ PH.nil_le ?_
 ·unfold QM
  (repeat' (first|exact PF.nil_le|refine PF.aI ?_ ?_))<;>first|(simp only[go_sem,γ,reduceCtorEq,bLZ]<;>rfl)|rfl
 rintro⟨P,v,H0⟩ ⟨hP,hD,hO⟩
 simp only at hP hD hO ⊢
 simp only[go_sem,γ,reduceCtorEq,atL,aMG,QM]
 have hlimP:Lim P:=by rw[hD]; exact kX _ _
 by_cases c1:z+P.length<a.length
 ·have c1':((z+P.length:Nat):Int)<(a.length:Nat):=by omega
  have hai:=ha _ (bJS c1)
  have hax:=bL a c1
  have hkl:P.length≤(a.drop z).length:=by rw[bLQ]; omega
  have hvd:=sM hLd hkl
  have hdrop:(a.drop z).drop P.length=a[z+P.length]::a.drop (z+P.length+1):=by
   rw[List.drop_drop,bLN c1]
  generalize hx:a[z+P.length]=x at *
  have ex:IntKind.u64.wrap ((x:Nat):Int)=((x:Nat):Int):=bF Om
  have hb1:(1:Nat)*1≤16777216:=by decide
  have ew:IntKind.i64.wrap (((z+P.length:Nat):Int)+1)=((z+P.length+1:Nat):Int):=dC Om
  have fin:∀ (t:Nat) (F:PF),t<18446744073709551616→val (a.drop z)/4294967296 ^ P.length%(4294967296*4294967296)=t→F 0=some (aF a)→F 1=some (.int .i64 n)→F 5=some v→F 6=some (.int .i64 (z+P.length:Nat))→F 7=some (.int .u64 t) →
    ∀ K:cQ,(∀ v' F2 H2,(QM a n v' (z+(P.length+1))).le F2→bK H2 1 v' (aK (P++[t/2 ^ s%4294967296]))→(P++[t/2 ^ s%4294967296])=dP (P.length+1) (val (a.drop z)/2 ^ s)→K .normal F2 H2) →
    aC.wp C (.region ZM) (dW 1 (iV C (aC.wp C (.region QN)) K)) F H0:=by
   intro t F ht hte f0 f1 f5 f6 f7 K hK
   have esh:shift .shr .u64 (t:Int) (s:Int)=some (.int .u64 ((t/2 ^ s:Nat):Int)):=bsS Om
   simp only[go_sem,μ,υ,γ,η,ζ,ZM,f5,f7,f1,em,eu,esh,cC,hb1]
   refine gG (src:=[[.int .u32 ((t/2 ^ s%4294967296:Nat):Int)]]) hO rfl (oI Om) fun v' H' hO' _=>?_
   rw[oJ] at hO'
   simp only[go_sem,γ,QN,f6,ew]
   refine hK v' _ H' ?_ hO' ?_
   ·unfold QM
    exact Lq
   ·rw[tG,← hD]
    congr 2
    have e:val (a.drop z)/4294967296 ^ P.length=t%4294967296+4294967296*(t/4294967296+4294967296*(val (a.drop z)/4294967296 ^ P.length/(4294967296*4294967296))):=by
     have:=Nat.mod_add_div (val (a.drop z)/4294967296 ^ P.length) (4294967296*4294967296)
     rw[hte] at this
     have h2:=Nat.mod_add_div t 4294967296
     rw[bKB,← bMB,h2,← bKJ]
     exact this.symm
    have:=VP hs e
    rw[this]
    congr 2
    have h2:=Nat.mod_add_div t 4294967296
    omega
  simp only[aC.wp,go_sem] at fin
  simp only[go_sem,γ,reduceCtorEq,c1',aMH,hax,ex,aMI,ew]
  by_cases c2:z+P.length+1<a.length
  ·have c2':((z+P.length+1:Nat):Int)<(a.length:Nat):=by omega
   have hai2:=ha _ (bJS c2)
   have hax2:=bL a c2
   rw[bLN c2] at hdrop
   generalize hy:a[z+P.length+1]=y at *
   have ey:IntKind.u64.wrap ((y:Nat):Int)=((y:Nat):Int):=bF Om
   have esh:shift .shl .u64 (y:Int) ((32:Nat):Int)=some (.int .u64 ((2 ^ 32*y:Nat):Int)):=II (by decide) Om
   have eor:=orI (a:=x) (b:=2 ^ 32*y) (n:=x+2 ^ 32*y) Om Om (aHZ Om Om) Om
   simp only[go_sem,γ,reduceCtorEq,c2',aMJ,ew,hax2,ey,show shift .shl .u64 (y:Int) 32=_ from esh,eor]
   refine fin (x+2 ^ 32*y) _ Om ?_ rfl rfl rfl rfl rfl _ ?_
   ·rw[← hvd,hdrop]
    simp only[val]
    omega
   ·intro v' F2 H2 e1 e2 e3
    refine aG (α:=List Nat × PV × PH) (P++[(x+2 ^ 32*y)/2 ^ s%4294967296],v',H2) ⟨by simp; omega,by simpa using e3,e2⟩ (by simp; omega) ?_ PH.le_refl
    simp only[bJW,bKC]
    exact e1
  ·have c2':¬ ((z+P.length+1:Nat):Int)<(a.length:Nat):=by omega
   rw[bMZ (l:=a) (i:=z+P.length+1) Om] at hdrop
   simp only[go_sem,c2']
   refine fin x _ Om ?_ rfl rfl rfl rfl rfl _ ?_
   ·rw[← hvd,hdrop]
    simp only[val]
    omega
   ·intro v' F2 H2 e1 e2 e3
    refine aG (α:=List Nat × PV × PH) (P++[x/2 ^ s%4294967296],v',H2) ⟨by simp; omega,by simpa using e3,e2⟩ (by simp; omega) ?_ PH.le_refl
    simp only[bJW,bKC]
    exact e1
 ·have e:z+P.length=a.length:=by omega
  have c1':¬ ((z+P.length:Nat):Int)<(a.length:Nat):=by omega
  have hV:val P=val (a.drop z)/2 ^ s:=by
   rw[hD]
   refine mQ (Nat.lt_of_le_of_lt (Nat.div_le_self _ _) ?_)
   have:=eM hLd
   rw[bLQ] at this
   rw[show P.length=a.length-z by omega]
   exact this
  have hs:=L.trim _ hlimP Om
  rw[hV,← hR] at hs
  simp only[go_sem,γ,reduceCtorEq,c1',atM]
  refine rP hs hO rfl fun F1 H1 _=>?_
  simp only[go_sem]
  exact aX (.inr rfl) .nil rfl PH.nil_le ⟨.refl _,rfl⟩
structure LO (C:Ctx):Prop extends aaM C where
 bits:∀ xs,Lim xs→xs.length≤35184372087808→aD C 31 [aF xs] .nil (aE (.int .i64 (cD (val xs):Nat)))
 upM:∀ (a:List Nat) (n:Nat),Lim a→a.length≤8388608→n≤8388608→(a.length=0→val a=0)→aD C 45 [aF a,.int .i64 n] .nil (kO 1 (aK (aH (val a*2 ^ n))))
 down:∀ (a:List Nat) (n:Nat),Lim a→a.length≤8388608→n≤1000000000→aD C 40 [aF a,.int .i64 n] .nil (aE (aF (aH (val a/2 ^ n))))
def udS:Spec:=fun name vs=>match name,vs with
 | 35,[.int _ v]=>some ([],fun _=>aE (aF (aH v.toNat)))
 | 44,[x,y]=>some ([],fun _=>aE (aF (aH (val (iD x)*val (iD y)))))
 | 32,[x,.osl q _ _ _]=>some ([q],fun H0 r H'=>H'=H0∧∀ xs,Lim xs→H0 q=some (.rows 1 (aK xs))→r=.int .i64 (dD (val (iD x)) (val xs)))
 | _,_=>none
theorem biW (v:Nat):udS 35 [.int .u64 v]=some ([],fun _=>aE (aF (aH v))):=rfl
theorem bbQ (x y:List Nat):udS 44 [aF x,aF y]=some ([],fun _=>aE (aF (aH (val x*val y)))):=by
 show some ([],fun _=>aE (aF (aH (val (iD (aF x))*val (iD (aF y))))))=_; rw[dZ,dZ]
theorem beX (q:Nat) (x L:List Nat):(PH.nil.set q (.rows 1 (aK L)))=(PH.nil.set q (.rows 1 (aK L)))∧∀ xs,Lim xs→(PH.nil.set q (.rows 1 (aK L))) q=some (.rows 1 (aK xs))→(PV.int .i64 (dD (val x) (val L)))=.int .i64 (dD (val (iD (aF x))) (val xs)):=by
 refine⟨rfl,fun xs hx e=>?_⟩
 rw[eS] at e
 have:aK L=aK xs:=(cT.rows.inj (bMG.inj e)).2
 rw[OH this,dZ]
def duF (n o lx:Nat) (y:List Nat) (top oq lq:Nat) (k:Int):PF :=
 ((((((PF.nil.set 10 (.int .i64 n)).set 11 (.osl o 1 0 lx)).set 12 (aF y)).set 13 (.int .u64 top)).set 14 (.osl oq 1 0 lq)).set 15 (.int .i64 k))
abbrev dT (X:List Nat) (Z:List (List PV)):List (List PV):=aK X++Z
theorem JZ {X:List Nat} {Z:List (List PV)} {i:Nat} (h:i<X.length):(dT X Z)[i]?=some [.int .u32 ((X[i]:Nat):Int)]:=by
 rw[dT,bMH (by rw[bT]; exact h),bL X h]
theorem awX {X:List Nat} {Z:List (List PV)} {i:Nat} (h:i<X.length) (v:Nat):(dT X Z).set i [.int .u32 (v:Int)]=dT (X.set i v) Z:=by
 rw[dT,List.set_append_left _ _ (by rw[bT]; exact h),eZ]
theorem awW {X:List Nat} {Z:List (List PV)} {j m:Nat} (h:j+m≤X.length):((dT X Z).drop j).take m=aK ((X.drop j).take m):=by
 rw[dT,List.drop_append_of_le_length (by rw[bT]; omega),List.take_append_of_le_length (by rw[bLQ,bT]; omega)]
 unfold aK
 rw[← List.map_drop,← List.map_take]
theorem bsT {C:Ctx} (L:LO C) (n o lx:Nat) (y:List Nat) (top oq lq j:Nat) (X:List Nat) (Z:List (List PV)) (hne:oq≠o) (hy:Lim y) (hX:Lim X) (hlx:X.length=lx) (hl:lx≤5000) (hj:j+(y.length+1)≤lx) (hy0:0<val y)
  (qv:cT) (g0:Nat) (hg:val ((X.drop j).take (y.length+1))/val y≤g0) (hg0:g0<4294967296) (K:cQ) (F:PF) (H:PH) (hF:((duF n o lx y top oq lq j).set 17 (.int .u64 g0)).le F) (hH:((PH.nil.set o (.rows 1 (dT X Z))).set oq qv).le H)
  (hK:∀ F' H',((duF n o lx y top oq lq j).set 17 (.int .u64 (val ((X.drop j).take (y.length+1))/val y:Nat))).le F'→((PH.nil.set o (.rows 1 (dT X Z))).set oq qv).le H'→K .normal F' H') :
  aC.wp C (.block 4 (.loop sW)) K F H:=by
 have bIP:¬ o=oq:=fun h=>hne h.symm
 have hWl:((X.drop j).take (y.length+1)).length=y.length+1:=by rw[bKG,bLQ]; omega
 have hWL:Lim ((X.drop j).take (y.length+1)):=(hX.drop _).take _
 have hcut:=awW (X:=X) (Z:=Z) (j:=j) (m:=y.length+1) Om
 have bJK:j+(y.length+1)≤(dT X Z).length:=by rw[dT,bJW,bT]; omega
 have hWn:aK ((X.drop j).take (y.length+1))≠[]:=fun h=>by
  have:=congrArg List.length h
  rw[bT,hWl] at this
  simp at this
 generalize hW:(X.drop j).take (y.length+1)=W at *
 generalize hqq:val W/val y=qq at *
 simp only[go_sem]
 refine wp_loop (α:=Nat) (fun g=>(duF n o lx y top oq lq j).set 17 (.int .u64 g)) (fun _=>(PH.nil.set o (.rows 1 (dT X Z))).set oq qv) (fun g=>qq≤g∧g<4294967296) (fun g=>g) g0 ⟨hg,hg0⟩ hF hH ?_
 rintro g ⟨hge,hlt⟩
 have e1:IntKind.i64.wrap ((j:Int)+((y.length:Nat):Int))=((j+y.length:Nat):Int):=fT Om
 have e2:IntKind.i64.wrap (((j+y.length:Nat):Int)+1)=((j+y.length+1:Nat):Int):=dC Om
 have b1:(j:Int)≤((j+y.length+1:Nat):Int):=by omega
 have b2:((j+y.length+1:Nat):Int)≤(lx:Nat):=by omega
 have b3:j+y.length+1-j=y.length+1:=by omega
 have mk:=L.make g Om
 have tm:=L.times y (aH g) hy (aV _) Om (by
  have h1:nl g≤1:=mG (by rw[Nat.pow_one]; exact hlt)
  rw[aZ]; omega)
 rw[aS] at tm
 have hnt:(aH (val y*g)).length≤35184372087808:=by
  have h1:nl g≤1:=mG (by rw[Nat.pow_one]; exact hlt)
  have h2:=kF (a:=val y) (b:=g) (eY hy) h1
  rw[aZ]; omega
 have cm:=L.cmp (aH (val y*g)) W (aV _) hWL hnt Om
 rw[aS] at cm
 simp only[go_sem,sW]
 refine bP .nil udS PH.nil_le ?_
 simp only[go_sem,γ,WB,duF]
 refine bS (biW g) mk Sq PH.nil_le ?_
 simp only[go_sem]
 have tS:=bbQ y (aH g)
 rw[aS] at tS
 refine bS tS tm Sq PH.nil_le ?_
 simp only[go_sem,γ,reduceCtorEq,bJO,e1,e2,b1,b2,b3]
 refine yB (src:=aK W) ?_ ?_ (fun h=>absurd h hWn) fun _ o' ho'=>?_
 ·simp only[go_sem,bIP,bJK,hcut]
 ·unfold roomFor
  rw[bT,hWl]
  simp only[maxLen]; omega
 refine⟨PH.nil_le,?_⟩
 rw[bT,hWl]
 have n1:¬ o'=oq:=(cX.1 ho').1
 refine beZ (o:=o') (s:=1) (rs:=aK W) (vs:=[aF (aH (val y*g)),.osl o' 1 0 (y.length+1)]) (v:=.int .i64 (dD (val y*g) (val W))) rfl (.int _ _) Sq ?_ ?_ ?_ Sq PH.nil_le ?_
 ·rw[bLR,bLR,List.map_nil,oA (by rw[bT,hWl]; exact bJQ _),bKF (by rw[bT,hWl]; exact bJQ _)]
  exact cm
 ·have:=beX o' (aH (val y*g)) W
  rw[aS] at this
  exact this
 ·rintro r H' ⟨h1,h2⟩
  have:=h2 W hWL (by rw[eS])
  rw[dZ,aS] at this
  exact⟨this,h1⟩
 simp only[go_sem,γ]
 by_cases c:val W<val y*g
 ·have hc:dD (val y*g) (val W)=1:=by
   unfold dD
   rw[if_neg Om,if_pos c]
  have hq:qq<g:=by rw[← hqq]; exact (bMJ hy0).2 (by rw[bKO]; exact c)
  have ew:IntKind.u64.wrap ((g:Int)-1)=((g-1:Nat):Int):=by rw[wrap_u64 Om Om]; omega
  simp only[go_sem,γ,hc,show (1:Int)>0 by decide,WC,ew]
  refine aG (g-1) ⟨by omega,by omega⟩ Om ?_ ?_
  ·exact Lq
  ·refine PH.aI (PH.aI PH.nil_le ?_) ?_
   ·have n2:¬ o=o':=fun h=>by
     subst h
     rw[bM,if_neg bIP,eS] at ho'
     cases ho'
    simp only[go_sem,n2,bIP]
   ·have n3:¬ oq=o':=fun h=>n1 h.symm
    simp only[go_sem,n3]
 ·have hc:¬ dD (val y*g) (val W)>0:=by
   unfold dD
   rw[if_neg c]
   split<;>decide
  have hq:g=qq:=by
   have:g≤qq:=by rw[← hqq]; exact (Nat.le_div_iff_mul_le hy0).2 (by rw[bKO]; omega)
   omega
  simp only[go_sem,hc]
  refine hK _ _ ?_ ?_
  ·unfold duF
   (repeat' (first|exact PF.nil_le|refine PF.aI ?_ ?_))<;>first|(simp only[go_sem,γ,← hq]<;>rfl)|rfl
  ·refine PH.aI (PH.aI PH.nil_le ?_) ?_
   ·have n2:¬ o=o':=fun h=>by
     subst h
     rw[bM,if_neg bIP,eS] at ho'
     cases ho'
    simp only[go_sem,n2,bIP]
   ·have n3:¬ oq=o':=fun h=>n1 h.symm
    simp only[go_sem,n3]
theorem bnM (R k:Nat) (h:k<nl R):∃ h':k<(aH R).length,(aH R)[k]=R/4294967296 ^ k%4294967296:=by
 have hl:k<(aH R).length:=by rw[aZ]; exact h
 refine⟨hl,?_⟩
 have h1:=sM (aV R) (Nat.le_of_lt hl)
 rw[aS,bLN hl] at h1
 have h2:=aV R _ (bJS hl)
 simp only[val] at h1
 rw[← h1,Nat.add_mul_mod_self_left,bKW h2]
theorem bgX (R k:Nat) (h:nl R≤k):R/4294967296 ^ k%4294967296=0:=by
 rw[bMW ((gY R k).1 h)]
theorem boY {A P W Z:List Nat} {i:Nat} (hP:P.length=i) (hi:i<W.length) (v:Nat):(A++(P++W.drop i)++Z).set (A.length+i) v=A++((P++[v])++W.drop (i+1))++Z :=
 OH (by rw[← eZ]; exact DS hP hi v)
theorem bvV {C:Ctx} (n o lx:Nat) (y:List Nat) (top oq lq j:Nat) (X:List Nat) (Z:List (List PV)) (hne:oq≠o) (hlx:X.length=lx) (hl:lx≤5000) (hj:j+(y.length+1)≤lx)
  (qv:cT) (g R:Nat) (K:cQ) (F:PF) (H:PH) (hF:((((duF n o lx y top oq lq j).set 17 (.int .u64 g)).set 18 (aF (aH R))).set 19 (.int .i64 0)).le F) (hH:((PH.nil.set o (.rows 1 (dT X Z))).set oq qv).le H)
  (hK:∀ F' H',((duF n o lx y top oq lq j).set 17 (.int .u64 g)).le F'→((PH.nil.set o (.rows 1 (dT (X.take j++dP (y.length+1) R++X.drop (j+(y.length+1))) Z))).set oq qv).le H'→K .normal F' H') :
  aC.wp C (.block 6 (.loop sX)) K F H:=by
 have bIP:¬ o=oq:=fun h=>hne h.symm
 have hA:(X.take j).length=j:=by rw[bKG]; omega
 have hWl:((X.drop j).take (y.length+1)).length=y.length+1:=by rw[bKG,bLQ]; omega
 have hZl:(X.drop (j+(y.length+1))).length=lx-(j+(y.length+1)):=by rw[bLQ,hlx]
 have hsplit:X.take j++(X.drop j).take (y.length+1)++X.drop (j+(y.length+1))=X:=by
  rw[bKP,← List.drop_drop,bMD,bMD]
 rw[← hsplit] at hH
 generalize hAA:X.take j=A at *
 generalize hWW:(X.drop j).take (y.length+1)=W at *
 generalize hZZ:X.drop (j+(y.length+1))=Zx at *
 simp only[go_sem]
 refine wp_loop (α:=List Nat) (fun P=>(((duF n o lx y top oq lq j).set 17 (.int .u64 g)).set 18 (aF (aH R))).set 19 (.int .i64 P.length)) (fun P=>(PH.nil.set o (.rows 1 (dT (A++(P++W.drop P.length)++Zx) Z))).set oq qv)
  (fun P=>P.length≤y.length+1∧P=dP P.length R) (fun P=>y.length+1-P.length) [] ⟨bJY _,rfl⟩ hF (by simpa using hH) ?_
 rintro P ⟨hP,hD⟩
 simp only[go_sem,γ,sX,WD,duF]
 by_cases c:P.length<y.length+1
 ·have c':(P.length:Int)≤(y.length:Nat):=by omega
  have ei:IntKind.i64.wrap ((j:Int)+(P.length:Int))=((j+P.length:Nat):Int):=fT Om
  have hlen:(A++(P++W.drop P.length)++Zx).length=lx:=by
   simp only[bJW,bLQ]; omega
  have hi:j+P.length<(A++(P++W.drop P.length)++Zx).length:=by omega
  have b1:((j+P.length:Nat):Int)<(lx:Nat):=by omega
  have r1:=JZ (Z:=Z) hi
  have s1:=awX (Z:=Z) hi 0
  have hi2:j+P.length<((A++(P++W.drop P.length)++Zx).set (j+P.length) 0).length:=by rw[bLO]; exact hi
  have hput:=fun v=>boY (A:=A) (P:=P) (W:=W) (Z:=Zx) (i:=P.length) rfl Om v
  rw[hA] at hput
  generalize hXX:A++(P++W.drop P.length)++Zx=XX at *
  have r2:(dT (A++((P++[0])++W.drop (P.length+1))++Zx) Z)[j+P.length]?=some [.int .u32 ((0:Nat):Int)]:=by
   rw[← hput 0,JZ hi2,List.getElem_set_self]
  have s2:∀ v,(dT (A++((P++[0])++W.drop (P.length+1))++Zx) Z).set (j+P.length) [.int .u32 ((v:Nat):Int)]=dT (A++((P++[v])++W.drop (P.length+1))++Zx) Z:=by
   intro v
   rw[← hput 0,awX hi2,List.set_set,hput]
  have bIM:=tG P.length R
  rw[← hD] at bIM
  have ew:IntKind.i64.wrap ((P.length:Int)+1)=((P.length+1:Nat):Int):=dC Om
  simp only[go_sem,γ,c',WE,ei,b1,bIP,r1,show ([PV.int .u32 (0:Int)])=[PV.int .u32 ((0:Nat):Int)] from rfl,s1,WF,aZ]
  by_cases c2:P.length<nl R
  ·have c2':(P.length:Int)<(nl R:Nat):=by omega
   obtain⟨hl',hv⟩:=bnM R P.length c2
   have hr:=bL (aH R) hl'
   rw[hv] at hr
   simp only[go_sem,γ,c2',WG,hr,ei,b1,bIP,r2,s2,List.set_set,hput,BN,ew]
   refine aG (P++[R/4294967296 ^ P.length%4294967296]) ⟨by simp; omega,by rw[bJW,bKC]; exact bIM.symm⟩ (by simp; omega) ?_ ?_
   ·rw[bJW,bKC]
    exact Lq
   ·rw[bJW,bKC]
    refine PH.aI (PH.aI PH.nil_le ?_) ?_<;>simp only[go_sem,bIP,show ¬ oq=o from hne]
  ·have c2':¬ (P.length:Int)<(nl R:Nat):=by omega
   have hv:=bgX R P.length Om
   rw[hv] at bIM
   simp only[go_sem,γ,c2',hput,BN,ew]
   refine aG (P++[0]) ⟨by simp; omega,by rw[bJW,bKC]; exact bIM.symm⟩ (by simp; omega) ?_ ?_
   ·rw[bJW,bKC]
    exact Lq
   ·rw[bJW,bKC]
    refine PH.aI (PH.aI PH.nil_le ?_) ?_<;>simp only[go_sem,bIP,show ¬ oq=o from hne]
 ·have c':¬ (P.length:Int)≤(y.length:Nat):=by omega
  have e:P.length=y.length+1:=by omega
  simp only[go_sem,c']
  refine hK _ _ (by unfold duF; exact Lq) ?_
  have h2:A++dP (y.length+1) R++Zx=A++(P++W.drop P.length)++Zx:=by
   rw[bMZ Om,bLM,← e,← hD]
  rw[h2]
  exact PH.le_refl
theorem bgK {y W:List Nat} {m:Nat} (hy:Lim y) (hW:Lim W) (hly:y.length=m+1) (hlW:W.length=m+2) (ht:0<y[m]):val W/val y≤(4294967296*W[m+1]+W[m])/y[m]:=by
 have h1:=bY y (Om:m<y.length)
 rw[bKF Om] at h1
 have h2:=bY W (Om:m+1<W.length)
 rw[bKF Om,bY W (Om:m<W.length)] at h2
 have h3:=eM (hW.take m)
 rw[bKG,bLS Om] at h3
 have hp:0<4294967296 ^ m:=bME (by decide)
 have hb:4294967296 ^ m*y[m]≤val y:=by omega
 have hpos:0<4294967296 ^ m*y[m]:=Nat.mul_pos hp ht
 have e:val W=val (W.take m)+4294967296 ^ m*(4294967296*W[m+1]+W[m]):=by
  rw[h2,bLI,bKB,bKJ]; omega
 refine Nat.le_trans (Nat.div_le_div_left hb hpos) ?_
 rw[← Nat.div_div_eq_div_mul,e,Nat.add_mul_div_left _ _ hp,bMW h3,bKN]
 exact bJQ _
theorem bbR {C:Ctx} (L:LO C) (U0 n o lx lq oq m:Nat) (y z:List Nat) (hne:oq≠o) (hy:Lim y) (hly:y.length=m+1) (ht:0<y[m]) (hlu:lx=lq+(m+1)) (bJF:lx≤5000) (X:List Nat) (hI:nB U0 (val y) (m+1) lx lq lq X (bJR lq 0)) (K:cQ) (F:PF) (H:PH)
  (hF:(duF n o lx y (y[m]) oq lq ((lq:Int)-1)).le F) (hH:((PH.nil.set o (.rows 1 (dT X (aK z)))).set oq (.rows 1 (aK (bJR lq 0)))).le H)
  (hK:∀ X' Q' F' H',nB U0 (val y) (m+1) lx lq 0 X' Q'→(duF n o lx y (y[m]) oq lq (-1)).le F'→((PH.nil.set o (.rows 1 (dT X' (aK z)))).set oq (.rows 1 (aK Q'))).le H'→K .normal F' H') :
  aC.wp C (.block 2 (.loop sY)) K F H:=by
 have bIP:¬ o=oq:=fun h=>hne h.symm
 have hne2:¬ oq=o:=hne
 have hV:val y<4294967296 ^ (m+1):=by have:=eM hy; rw[hly] at this; exact this
 have hV0:0<val y:=by
  have h1:=bY y (Om:m<y.length)
  rw[bKF Om] at h1
  have:0<4294967296 ^ m*y[m]:=Nat.mul_pos (bME (by decide)) ht
  omega
 have htl:=hy _ (bJS (Om:m<y.length))
 generalize htop:y[m]=top at *
 simp only[go_sem]
 refine wp_loop (α:=Nat × List Nat × List Nat) (fun t=>duF n o lx y top oq lq ((t.1:Int)-1)) (fun t=>(PH.nil.set o (.rows 1 (dT t.2.1 (aK z)))).set oq (.rows 1 (aK t.2.2)))
  (fun t=>t.1≤lq∧nB U0 (val y) (m+1) lx lq t.1 t.2.1 t.2.2) (fun t=>t.1) (lq,X,bJR lq 0) ⟨bJQ _,hI⟩ hF hH ?_
 rintro⟨k,X,Q⟩ ⟨hk,hI⟩
 simp only at hk hI
 simp only[go_sem,γ,sY,VW,duF]
 by_cases h0:0<k
 ·obtain⟨j,rfl⟩:∃ j,k=j+1:=⟨k-1,by omega⟩
  have hz:((j+1:Nat):Int)-1=(j:Int):=by omega
  have hge:(j:Int)≥0:=by omega
  have dst:=aAL hI hV Om hlu
  rw[show m+1+1=m+2 from rfl] at dst
  obtain⟨hlt,hI'⟩:=dst
  have hXl:=hI.lu'
  have hQl:=hI.lq'
  have hWl:((X.drop j).take (m+2)).length=m+2:=by rw[bKG,bLQ]; omega
  have hWL:Lim ((X.drop j).take (m+2)):=(hI.limU.drop _).take _
  have hg1:m+1<((X.drop j).take (m+2)).length:=by omega
  have hg0:m<((X.drop j).take (m+2)).length:=by omega
  have a1:j+(m+1)<X.length:=by omega
  have a0:j+m<X.length:=by omega
  have w1:((X.drop j).take (m+2))[m+1]=X[j+(m+1)]:=by simp
  have w0:((X.drop j).take (m+2))[m]=X[j+m]:=by simp
  have hgu:=bgK hy hWL hly hWl (by rw[htop]; exact ht)
  rw[w1,w0,htop] at hgu
  have r1:=JZ (Z:=aK z) a1
  have r0:=JZ (Z:=aK z) a0
  have l1:=hI.limU _ (bJS a1)
  have l0:=hI.limU _ (bJS a0)
  generalize hx1:X[j+(m+1)]=x1 at *
  generalize hx0:X[j+m]=x0 at *
  have e1:IntKind.i64.wrap ((j:Int)+((y.length:Nat):Int))=((j+(m+1):Nat):Int):=by rw[hly]; exact fT Om
  have e0:IntKind.i64.wrap (((j+(m+1):Nat):Int)-1)=((j+m:Nat):Int):=by rw[wrap_i64 Om Om]; omega
  have b1:((j+(m+1):Nat):Int)<(lx:Nat):=by omega
  have b0:((j+m:Nat):Int)<(lx:Nat):=by omega
  have ex1:IntKind.u64.wrap ((x1:Nat):Int)=((x1:Nat):Int):=bF Om
  have ex0:IntKind.u64.wrap ((x0:Nat):Int)=((x0:Nat):Int):=bF Om
  have esh:shift .shl .u64 (x1:Int) 32=some (.int .u64 ((2 ^ 32*x1:Nat):Int)):=II (s:=32) Om Om
  have e32:(2:Nat) ^ 32=4294967296:=by decide
  have eor:=orI (a:=2 ^ 32*x1) (b:=x0) (n:=2 ^ 32*x1+x0) Om Om (Nat.two_pow_add_eq_or_of_lt Om x1).symm Om
  rw[e32] at esh eor
  have hdd:¬ ((top:Nat):Int)=0:=by omega
  have hq64:(4294967296*x1+x0)/top<18446744073709551616:=Nat.lt_of_le_of_lt (Nat.div_le_self _ _) Om
  have equo:IntKind.u64.wrap (bLF ((4294967296*x1+x0:Nat):Int) ((top:Nat):Int))=(((4294967296*x1+x0)/top:Nat):Int):=by
   rw[show bLF ((4294967296*x1+x0:Nat):Int) ((top:Nat):Int)=(((4294967296*x1+x0)/top:Nat):Int) from rfl]
   exact bF hq64
  have hqB:val ((X.drop j).take (m+2))/val y<4294967296:=(bMJ hV0).2 (by rw[bKO]; exact hlt)
  have hcut:=awW (X:=X) (Z:=aK z) (j:=j) (m:=m+2) Om
  have bJK:j+(m+2)≤(dT X (aK z)).length:=by rw[dT,bJW,bT]; omega
  have hrest:val ((X.drop j).take (m+2))-val y*(val ((X.drop j).take (m+2))/val y)=val ((X.drop j).take (m+2))%val y:=by
   have:=bMV (val ((X.drop j).take (m+2))) (val y)
   omega
  have hmulle:val y*(val ((X.drop j).take (m+2))/val y)≤val ((X.drop j).take (m+2)):=Nat.mul_div_le _ _
  clear w1 w0
  have gu:=fun g0=>bsT (C:=C) L n o lx y top oq lq j X (aK z) hne hy hI.limU hXl bJF Om hV0 (.rows 1 (aK Q)) g0
  rw[hly,show m+1+1=m+2 from rfl] at gu
  generalize hW:(X.drop j).take (m+2)=W at *
  generalize hqq:val W/val y=qq at *
  have hWn:aK W≠[]:=fun h=>by
   have:=congrArg List.length h
   rw[bT,hWl] at this
   simp at this
  have tail:∀ (g0:Nat) (F:PF) (H:PH),qq≤g0→g0<4294967296→((duF n o lx y top oq lq j).set 17 (.int .u64 g0)).le F→((PH.nil.set o (.rows 1 (dT X (aK z)))).set oq (.rows 1 (aK Q))).le H →
    aC.wp C (.seq (.block 4 (.loop sW)) (.seq (.region BL) (.seq (.seq (.region BM) (.block 6 (.loop sX))) (.region BO)))) (dW 3 (iV C (aC.wp C (.region BP)) (eE (fun (t:Nat × List Nat × List Nat)=>duF n o lx y top oq lq ((t.1:Int)-1)) (fun t=>(PH.nil.set o (.rows 1 (dT t.2.1 (aK z)))).set oq (.rows 1 (aK t.2.2))) (fun t=>t.1≤lq∧nB U0 (val y) (m+1) lx lq t.1 t.2.1 t.2.2) (fun t=>t.1) (j+1) (dW 2 K)))) F H:=by
   intro g0 F H hg hgB hF hH
   have gu:=gu g0 hg hgB
   simp only[go_sem] at gu
   simp only[go_sem]
   refine gu _ F H hF hH ?_
   intro F1 H1 hF1 hH1
   have f11:F1 11=some (.osl o 1 0 lx):=hF1 11 _ (by unfold duF; simp only[go_sem,γ])
   have f12:F1 12=some (aF y):=hF1 12 _ (by unfold duF; simp only[go_sem,γ])
   have f15:F1 15=some (.int .i64 j):=hF1 15 _ (by unfold duF; simp only[go_sem,γ])
   have f17:F1 17=some (.int .u64 (qq:Nat)):=hF1 17 _ (by unfold duF; simp only[go_sem,γ])
   have f10:F1 10=some (.int .i64 n):=hF1 10 _ (by unfold duF; simp only[go_sem,γ])
   have f13:F1 13=some (.int .u64 top):=hF1 13 _ (by unfold duF; simp only[go_sem,γ])
   have f14:F1 14=some (.osl oq 1 0 lq):=hF1 14 _ (by unfold duF; simp only[go_sem,γ])
   have ho:H1 o=some (.rows 1 (dT X (aK z))):=hH1 o _ (by simp only[go_sem,bIP])
   have hoq:H1 oq=some (.rows 1 (aK Q)):=hH1 oq _ Sq
   have b3:(j:Int)≤((j+(m+1)+1:Nat):Int):=by omega
   have b4:((j+(m+1)+1:Nat):Int)≤(lx:Nat):=by omega
   have b5:j+(m+1)+1-j=m+2:=by omega
   have e2:IntKind.i64.wrap (((j+(m+1):Nat):Int)+1)=((j+(m+1)+1:Nat):Int):=dC Om
   simp only[go_sem,γ,reduceCtorEq,BL,f11,f15,f12,bJO,e1,e2,b3,b4,b5]
   refine yB (src:=aK W) ?_ ?_ (fun h=>absurd h hWn) fun _ o' ho'=>?_
   ·simp only[go_sem,ho,bJK,hcut]
   ·unfold roomFor
    rw[bT,hWl]
    simp only[maxLen]; omega
   rw[bT,hWl]
   have n1:¬ oq=o':=fun h=>by subst h; rw[hoq] at ho'; cases ho'
   have n2:¬ o=o':=fun h=>by subst h; rw[ho] at ho'; cases ho'
   have nq:nl qq≤1:=mG (by rw[Nat.pow_one]; exact hqB)
   have tm:=L.times y (aH qq) hy (aV _) Om (by rw[aZ]; omega)
   rw[aS] at tm
   have nW:=eY hWL
   have mn:=L.minus W (aH (val y*qq)) hWL (aV _) (by rw[aS]; exact hmulle) (by rw[aZ]; exact Nat.le_trans (fI hmulle) nW) Om
   rw[aS,hrest] at mn
   have hWt:(aK W).take (m+2)=aK W:=bKF (by rw[bT]; omega)
   simp only[go_sem,f17]
   refine aA (L.make qq Om) Sq ?_
   simp only[go_sem,f12]
   refine aA tm Sq ?_
   simp only[go_sem]
   refine pD (o:=o') (s:=1) (rs:=aK W) mn Sq (by simp only[go_sem,γ,show m+2≤W.length by omega,hWt]) ?_
   simp only[go_sem,γ,BM]
   have hfx:(dT X (aK z)).map (fun r=>r.map (PV.dE o' 1 (aK W)))=dT X (aK z):=by
    have:dT X (aK z)=aK (X++z):=by simp[dT,aK]
    rw[this]; exact pX _ _ _ _
   have hfq:(aK Q).map (fun r=>r.map (PV.dE o' 1 (aK W)))=aK Q:=pX _ _ _ _
   have ur:=bvV (C:=C) n o lx y top oq lq j X (aK z) hne hXl bJF Om (.rows 1 (aK Q)) qq (val W%val y)
   rw[hly,show m+1+1=m+2 from rfl] at ur
   simp only[go_sem] at ur
   refine ur _ _ _ ?_ ?_ ?_
   ·unfold duF
    (repeat' (first|exact PF.nil_le|refine PF.aI ?_ ?_))<;>first|(simp only[go_sem,γ,f10,f11,f12,f13,f14,f15,f17,n1,n2]<;>rfl)|rfl
   ·refine PH.aI (PH.aI PH.nil_le ?_) ?_
    ·simp only[go_sem,bIP,n2,ho,cT.frz,hfx]
    ·simp only[go_sem,n1,hoq,cT.frz,hfq]
   intro F3 H3 hF3 hH3
   have k10:F3 10=some (.int .i64 n):=hF3 10 _ (by unfold duF; simp only[go_sem,γ])
   have k11:F3 11=some (.osl o 1 0 lx):=hF3 11 _ (by unfold duF; simp only[go_sem,γ])
   have k12:F3 12=some (aF y):=hF3 12 _ (by unfold duF; simp only[go_sem,γ])
   have k13:F3 13=some (.int .u64 top):=hF3 13 _ (by unfold duF; simp only[go_sem,γ])
   have k14:F3 14=some (.osl oq 1 0 lq):=hF3 14 _ (by unfold duF; simp only[go_sem,γ])
   have k15:F3 15=some (.int .i64 j):=hF3 15 _ (by unfold duF; simp only[go_sem,γ])
   have k17:F3 17=some (.int .u64 qq):=hF3 17 _ (by unfold duF; simp only[go_sem,γ])
   have ho3:H3 o=some (.rows 1 (dT (X.take j++dP (m+2) (val W%val y)++X.drop (j+(m+2))) (aK z))):=hH3 o _ (by simp only[go_sem,bIP])
   have hq3:H3 oq=some (.rows 1 (aK Q)):=hH3 oq _ Sq
   have hjq:j<Q.length:=by omega
   have rq:=bL Q hjq
   have hjl:(j:Int)<(lq:Nat):=by omega
   have sq:=eZ Q j qq
   have ec:IntKind.u32.wrap ((qq:Nat):Int)=((qq:Nat):Int):=by rw[cC,bKW hqB]
   have ej:IntKind.i64.wrap ((j:Int)-1)=(j:Int)-1:=wrap_i64 Om Om
   simp only[go_sem,γ,BO,k14,k15,k17,hjl,hq3,rq,ec,sq,BP,ej]
   refine aG (α:=Nat × List Nat × List Nat) (j,_,_) ⟨by simp only; omega,hI'⟩ (by simp only; omega) ?_ ?_
   ·unfold duF
    (repeat' (first|exact PF.nil_le|refine PF.aI ?_ ?_))<;>first|(simp only[go_sem,γ,k10,k11,k12,k13,k14]<;>rfl)|rfl
   ·refine PH.aI (PH.aI PH.nil_le ?_) ?_
    ·simp only[go_sem,bIP,ho3]
    ·simp only[go_sem]
  simp only[aC.wp,go_sem] at tail
  simp only[go_sem,hz,hge]
  refine bP .nil dX PH.nil_le ?_
  simp only[go_sem,γ,reduceCtorEq,VX,e1,e0,b1,b0,bIP,r1,r0,ex1,ex0,esh,eor,VY,hdd,equo,VZ]
  by_cases c:(4294967296*x1+x0)/top>4294967295
  ·have c':(((4294967296*x1+x0)/top:Nat):Int)>4294967295:=by omega
   simp only[go_sem,c',WA]
   exact tail 4294967295 _ _ Om (by decide) (by unfold duF; exact Lq) PH.le_refl
  ·have c':¬ (((4294967296*x1+x0)/top:Nat):Int)>4294967295:=by omega
   simp only[go_sem,c']
   exact tail _ _ _ hgu Om (by unfold duF; exact Lq) PH.le_refl
 ·have:k=0:=by omega
  subst this
  have hz:¬ ((0:Nat):Int)-1≥0:=by decide
  simp only[go_sem,hz]
  refine hK X Q _ _ hI ?_ PH.le_refl
  unfold duF
  (repeat' (first|exact PF.nil_le|refine PF.aI ?_ ?_))<;>first|(simp only[go_sem,ο,γ,show ((0:Nat):Int)-1=-1 from rfl]<;>rfl)|rfl
def biV (a:List Nat) (d q k r:Nat):PF:=(((((PF.nil.set 0 (aF a)).set 1 (aF [d])).set 6 (.osl q 1 0 a.length)).set 7 (.int .u64 r)).set 8 (.int .i64 ((k:Int)-1)))
theorem a5L {C:Ctx} (L:LO C) (a:List Nat) (d:Nat) (ha:Lim a) (hd0:0<d) (hd:d<4294967296) (h1:a.length≤1000) (F:PF) (f0:F 0=some (aF a)) (f1:F 1=some (aF [d])) :
  aC.wp C (.seq (.region IU) (.seq (.region IV) (.seq (.seq (.region IW) (.block 0 (.loop BF))) (.seq (.region BG) .ret)))) (aU [.tmp 4,.tmp 5] (cA (oS (val a) d))) F .nil:=by
 have hm1:((a.length:Nat):Int)*((4:Nat):Int)≤140737488355328:=by omega
 have hm2:((a.length:Nat):Int)≤9223372036854775807:=by omega
 have hz:bJR a.length [PV.int .u32 0]=aK (bJR a.length 0++[]):=by
  simp[aK]
 simp only[go_sem,γ,IU,f0,bJO,hm1,hm2,hz]
 refine aQ fun o ho=>?_
 simp only[go_sem,γ,reduceCtorEq,IV,IW,f0,bJO]
 refine wp_loop (α:=Nat × List Nat × Nat) (fun t=>biV a d o t.1 t.2.2) (fun t=>PH.nil.set o (.rows 1 (aK (bJR t.1 0++t.2.1))))
  (fun t=>t.1+t.2.1.length=a.length∧Lim t.2.1∧t.2.2<d∧val t.2.1*d+t.2.2=val (a.drop t.1)) (fun t=>t.1) (a.length,[],0) ⟨by simp,by simp[Lim],hd0,by simp[val]⟩ ?_ ?_ ?_
 ·unfold biV
  (repeat' (first|exact PF.nil_le|refine PF.aI ?_ ?_))<;>first|(simp only[go_sem,γ,reduceCtorEq,f0,f1,wrap_i64 (Om:-9223372036854775808≤((a.length:Nat):Int)-1) (Om:((a.length:Nat):Int)-1≤9223372036854775807)]<;>rfl)|rfl
 ·exact PH.aI PH.nil_le Sq
 rintro⟨k,S,r⟩ ⟨hk,bIH,hr,bID⟩
 simp only at hk bIH hr bID
 simp only[go_sem,γ,reduceCtorEq,BF,agP,biV]
 by_cases h0:0<k
 ·obtain⟨m,rfl⟩:∃ m,k=m+1:=⟨k-1,by omega⟩
  have hzz:((m+1:Nat):Int)-1=(m:Int):=by omega
  have hge:(m:Int)≥0:=by omega
  have hml:m<a.length:=by omega
  have hlt:(m:Int)<(a.length:Nat):=by omega
  have hai:=ha _ (bJS hml)
  have hdrop:val (a.drop m)=a[m]+4294967296*val (a.drop (m+1)):=by rw[bLN hml]; rfl
  have hax:=bL a hml
  generalize hx:a[m]=x at *
  have ex:IntKind.u64.wrap ((x:Nat):Int)=((x:Nat):Int):=bF Om
  have ed:IntKind.u64.wrap ((d:Nat):Int)=((d:Nat):Int):=bF Om
  have esh:shift .shl .u64 (r:Int) 32=some (.int .u64 ((2 ^ 32*r:Nat):Int)):=II (s:=32) Om Om
  have e32:(2:Nat) ^ 32=4294967296:=by decide
  have eor:=orI (a:=2 ^ 32*r) (b:=x) (n:=2 ^ 32*r+x) Om Om (Nat.two_pow_add_eq_or_of_lt Om r).symm Om
  rw[e32] at esh eor
  have hq:(4294967296*r+x)/d<4294967296:=by
   rw[bMJ hd0]
   have:4294967296*(r+1)≤4294967296*d:=bLT _ hr
   omega
  have hdd:¬ ((d:Nat):Int)=0:=by omega
  have equo:IntKind.u64.wrap (bLF ((4294967296*r+x:Nat):Int) ((d:Nat):Int))=(((4294967296*r+x)/d:Nat):Int):=by
   rw[show bLF ((4294967296*r+x:Nat):Int) ((d:Nat):Int)=(((4294967296*r+x)/d:Nat):Int) from rfl]
   exact bF Om
  have erem:Int.tmod ((4294967296*r+x:Nat):Int) ((d:Nat):Int)=(((4294967296*r+x)%d:Nat):Int):=rfl
  have ec:IntKind.u32.wrap (((4294967296*r+x)/d:Nat):Int)=(((4294967296*r+x)/d:Nat):Int):=by rw[cC,bKW hq]
  have bJJ:bJR (m+1) 0++S=bJR m 0++(0::S):=by
   rw[List.replicate_succ',bKP]; rfl
  have hin:(aK (bJR m 0++(0::S)))[m]?=some [.int .u32 ((0:Nat):Int)]:=by
   rw[bL _ (by simp)]; simp
  have bHX:(aK (bJR m 0++(0::S))).set m [.int .u32 (((4294967296*r+x)/d:Nat):Int)]=aK (bJR m 0++(((4294967296*r+x)/d)::S)):=by
   rw[eZ,bMQ _ _ (by simp)]; simp
  simp only[go_sem,ν,γ,reduceCtorEq,hzz,hge,agQ,esh,hax,ex,eor,agR,ed,hdd,equo,ec,hlt,bJJ,hin,bHX,VS,erem,VT]
  refine aG (m,((4294967296*r+x)/d)::S,(4294967296*r+x)%d) ⟨by simp only[bLG]; omega,fun y hy=>?_,bLE _ hd0,?_⟩ (by simp only; omega) ?_ (PH.aI PH.nil_le Sq)
  ·rw[bKE] at hy
   rcases hy with rfl | hy
   ·exact hq
   ·exact bIH y hy
  ·simp only[val]
   rw[hdrop,← bID,bKR,bKB,bKJ]
   have:=bMV (4294967296*r+x) d
   rw[bKO d] at this
   omega
  ·(repeat' (first|exact PF.nil_le|refine PF.aI ?_ ?_))<;>first|(simp only[go_sem,γ,reduceCtorEq,wrap_i64 (Om:-9223372036854775808≤(m:Int)-1) (Om:(m:Int)-1≤9223372036854775807)]<;>rfl)|rfl
 ·have:k=0:=by omega
  subst this
  have hzz:¬ ((0:Nat):Int)-1≥0:=by decide
  rw[bKQ] at bID
  have hS:S.length=a.length:=by omega
  have hq:val S=val a/d:=by
   rw[← bID,bKO,Nat.mul_add_div hd0,bMW hr,bLH]
  have hrm:r=val a%d:=by rw[← bID,bKO,Nat.mul_add_mod,bKW hr]
  have hn0:bJR 0 0++S=S:=by simp
  have hl:=L.trim S bIH Om
  have hSt:(aK S).take a.length=aK S:=bKF (by rw[bT]; omega)
  simp only[go_sem,υ,γ,reduceCtorEq,hzz,BG,bMA]
  refine pD (o:=o) (s:=1) (rs:=aK S) hl Sq (by simp only[go_sem,γ,reduceCtorEq,hSt,show a.length≤S.length by omega]) ?_
  simp only[go_sem,γ,reduceCtorEq]
  refine aA (L.make r Om) Sq ?_
  simp only[go_sem,γ,reduceCtorEq]
  refine aX (vs:=[aF (aH (val S)),aF (aH r)]) (.inr rfl) .nil Ev PH.nil_le ⟨?_,rfl⟩
  rw[hq,hrm]
  exact .refl _
theorem blF {B m:Nat} (h:nl B=m+1):32*m<cD B∧cD B≤32*(m+1):=by
 refine⟨?_,(kL B (m+1)).2 Om⟩
 rcases bKI (32*m) (cD B) with h1 | h1
 ·exact h1
 ·have:=(kL B m).1 h1
  omega
theorem blG {B:Nat} (h:B≠0):2 ^ (cD B-1)≤B:=by
 rcases bKI B (2 ^ (cD B-1)) with h1 | h1
 ·have h2:=(kK B _).2 h1
  have h3:cD B≠0:=fun e=>h (jH.1 e)
  omega
 ·exact h1
theorem a5M {C:Ctx} (L:LO C) (A B:Nat) (hB:B≠0) (hA:nl A≤512) (hBl:nl B≤512) :
  xU.wp C (aU DY.res (cA (oS A B))) (PF.args [aF (aH A),aF (aH B)]) .nil:=by
 have LA:=aV A
 have LB:=aV B
 have vA:=aS A
 have vB:=aS B
 have lA:(aH A).length=nl A:=rfl
 have lB:(aH B).length=nl B:=rfl
 simp only[go_sem,γ,reduceCtorEq,xU,agL,agM,DY]
 refine aA (L.cmp _ _ LA LB Om Om) rfl ?_
 rw[vA,vB]
 by_cases c1:A<B
 ·have hc:dD A B<0:=by simp[dD,c1]
  simp only[go_sem,γ,reduceCtorEq,hc,agN]
  refine aA (L.trim _ LA Om) rfl ?_
  rw[vA]
  simp only[go_sem,γ]
  refine aX (vs:=[.aB,aF (aH A)]) (.inr rfl) .nil rfl PH.nil_le ⟨?_,rfl⟩
  rw[oS,bMW c1,bKW c1,fC]
  exact CoL.tup (CoL.cons (.nil 1) (CoL.cons (.refl _) .nil))
 have hc:¬ dD A B<0:=by
  unfold dD
  rw[if_neg c1]
  split<;>decide
 have hB0:0<B:=bLW hB
 have hnB:nl B≠0:=fun h=>hB (gR.1 h)
 simp only[go_sem,γ,hc,agO,bJO,lB]
 by_cases c2:nl B=1
 ·have hBB:B<4294967296:=by have:=(gY B 1).1 Om; simpa using this
  have hlb:aH B=[B]:=mM hB hBB
  have sh:=a5L (C:=C) L (aH A) B LA hB0 hBB Om
  rw[vA] at sh
  simp only[aC.wp,go_sem] at sh
  simp only[go_sem,bX (Om:((nl B:Nat):Int)=1)]
  exact sh _ rfl (by simp only[go_sem,γ,hlb])
 obtain⟨m,hm⟩:∃ m,nl B=m+1:=⟨nl B-1,by omega⟩
 have hm1:1≤m:=by omega
 obtain⟨hb1,hb2⟩:=blF hm
 obtain⟨n,hn⟩:∃ n,n+cD B=32*(m+1):=⟨32*(m+1)-cD B,by omega⟩
 have hn32:n<32:=by omega
 have hp2:0<2 ^ n:=bME (by decide)
 have hBlt:B<2 ^ cD B:=(kK B _).1 (bJQ _)
 have hBge:=blG hB
 have hVhi:B*2 ^ n<4294967296 ^ (m+1):=by
  have:B*2 ^ n<2 ^ cD B*2 ^ n:=Nat.mul_lt_mul_of_pos_right hBlt hp2
  rw[← Nat.pow_add,show cD B+n=32*(m+1) by omega,Nat.pow_mul] at this
  exact this
 have hVlo:4294967296 ^ m*2147483648≤B*2 ^ n:=by
  have:2 ^ (cD B-1)*2 ^ n≤B*2 ^ n:=bKT _ hBge
  rw[← Nat.pow_add,show cD B-1+n=32*m+31 by omega,Nat.pow_add,Nat.pow_mul] at this
  exact this
 have nV:nl (B*2 ^ n)=m+1:=by
  have h1:=(gY (B*2 ^ n) (m+1)).2 hVhi
  rcases bKI (nl (B*2 ^ n)) (m+1) with h | h
  ·have:=(gY (B*2 ^ n) m).1 Om
   have hpp:0<4294967296 ^ m:=bME (by decide)
   omega
  ·omega
 have hV0:B*2 ^ n≠0:=Nat.mul_ne_zero hB Om
 have nU1:nl (A*2 ^ n)≤nl A+1:=kF (bJQ _) (mG (by rw[Nat.pow_one]; exact Nat.pow_lt_pow_right (a:=2) (m:=n) (n:=32) (by decide) hn32))
 have hUV:B*2 ^ n≤A*2 ^ n:=bKT _ Om
 have nUV:m+1≤nl (A*2 ^ n):=by rw[← nV]; exact fI hUV
 have hU0:A*2 ^ n≠0:=by omega
 have e32:IntKind.i64.wrap (32*((nl B:Nat):Int))=((32*(m+1):Nat):Int):=by rw[wrap_i64 Om Om]; omega
 have en:IntKind.i64.wrap (((32*(m+1):Nat):Int)-((cD B:Nat):Int))=(n:Int):=by rw[wrap_i64 Om Om]; omega
 have bt:=L.bits (aH B) LB Om
 rw[vB] at bt
 have ua:=L.upM (aH A) n LA Om Om (fun h=>by have:=eM LA; rw[h] at this; omega)
 have ub:=(L.upM (aH B) n LB Om Om (fun h=>by have:=eM LB; rw[h] at this; omega)).freeze
 rw[vA] at ua
 rw[vB] at ub
 have tail:∀ (o:Nat) (F:PF) (H:PH),F 0=some (aF (aH A))→F 1=some (aF (aH B))→F 10=some (.int .i64 n)→F 11=some (.osl o 1 0 (nl (A*2 ^ n)+2))→F 12=some (aF (aH (B*2 ^ n)))→H o=some (.rows 1 (aK (aH (A*2 ^ n))++[[.int .u32 0],[.int .u32 0]])) →
   aC.wp C (.seq (.region BH) (.seq (.region BI) (.seq (.region BJ) (.seq (.seq (.region BK) (.block 2 (.loop sY))) (.seq (.region BQ) .ret))))) (aU [.tmp 4,.tmp 5] (cA (oS A B))) F H:=by
  intro o F H f0 f1 f10 f11 f12 hH
  have LU:=aV (A*2 ^ n)
  have LV:=aV (B*2 ^ n)
  have vU:=aS (A*2 ^ n)
  have vV:=aS (B*2 ^ n)
  have lU:(aH (A*2 ^ n)).length=nl (A*2 ^ n):=rfl
  have lV:(aH (B*2 ^ n)).length=m+1:=nV
  have eu:IntKind.i64.wrap (((nl (A*2 ^ n):Nat):Int)+1)=((nl (A*2 ^ n)+1:Nat):Int):=dC Om
  have b1:((nl (A*2 ^ n)+1:Nat):Int)≤((nl (A*2 ^ n)+2:Nat):Int):=by omega
  simp only[go_sem,γ,reduceCtorEq,BH,f11,f0,f10]
  refine aA ua.freeze rfl ?_
  obtain⟨lq,hlq⟩:∃ lq,nl (A*2 ^ n)+1-(m+1)=lq:=⟨_,rfl⟩
  have hlx:nl (A*2 ^ n)+1=lq+(m+1):=by omega
  have em:IntKind.i64.wrap (((m+1:Nat):Int)-1)=((m:Nat):Int):=by rw[wrap_i64 Om Om]; omega
  have hmV:m<(aH (B*2 ^ n)).length:=by omega
  have rm:=bL (aH (B*2 ^ n)) hmV
  have tl:=LV _ (bJS hmV)
  have htop:0<(aH (B*2 ^ n))[m]:=by
   have h1:=bY (aH (B*2 ^ n)) hmV
   rw[bKF Om,vV] at h1
   have h2:=eM (LV.take m)
   rw[bKG,bLS Om] at h2
   have hpp:0<4294967296 ^ m:=bME (by decide)
   rcases bMO (aH (B*2 ^ n))[m] with h | h
   ·rw[h] at h1; omega
   ·exact h
  have htop31:2147483648≤(aH (B*2 ^ n))[m]:=by
   have h1:=bY (aH (B*2 ^ n)) hmV
   rw[bKF Om,vV] at h1
   have h2:=eM (LV.take m)
   rw[bKG,bLS Om] at h2
   rcases bKI (aH (B*2 ^ n))[m] 2147483648 with h | h
   ·exfalso
    have h3:4294967296 ^ m*((aH (B*2 ^ n))[m]+1)≤4294967296 ^ m*2147483648:=bLT _ h
    rw[bKB,Nat.mul_one] at h3
    omega
   ·exact h
  have key0:=bbR (C:=C) L (A*2 ^ n) n o (nl (A*2 ^ n)+1) lq
  have hI:nB (A*2 ^ n) (val (aH (B*2 ^ n))) (m+1) (nl (A*2 ^ n)+1) lq lq (aH (A*2 ^ n)++[0]) (bJR lq 0):=by
   refine⟨by rw[bJW,lU]; rfl,bNB,LU.app fun x hx=>by simp at hx; omega,tM _,?_,?_,fun i x _ hx=>aOU hx⟩
   ·rw[fO,vU,qL]; simp[val]
   ·have hlen:(aH (A*2 ^ n)++[0]).length=nl (A*2 ^ n)+1:=by rw[bJW,lU]; rfl
    have hv0:val (aH (A*2 ^ n)++[0])=A*2 ^ n:=by rw[fO,vU]; simp[val]
    rw[sM (LU.app fun x hx=>by simp at hx; omega) Om,hv0,vV,bMJ (bME (by decide))]
    have h1:A*2 ^ n<4294967296 ^ nl (A*2 ^ n):=(gY _ _).1 (bJQ _)
    have hx:nl (A*2 ^ n)=m+lq:=by omega
    rw[hx,Nat.pow_add] at h1
    have h2:4294967296 ^ m*4294967296 ^ lq≤(B*2 ^ n)*4294967296 ^ lq:=bKT _ Om
    omega
  have hrows:aK (aH (A*2 ^ n))++[[PV.int .u32 0],[PV.int .u32 0]]=dT (aH (A*2 ^ n)++[0]) (aK [0]):=by
   simp[dT,aK]
  rw[hrows] at hH
  generalize htp:(aH (B*2 ^ n))[m]=top at *
  have et:IntKind.u64.wrap ((top:Nat):Int)=((top:Nat):Int):=bF Om
  have k2:IntKind.i64.wrap (((nl (A*2 ^ n)+1:Nat):Int)-((m+1:Nat):Int))=((lq:Nat):Int):=by rw[wrap_i64 Om Om]; omega
  have k3:((lq:Nat):Int)*((4:Nat):Int)≤140737488355328:=by omega
  have k4:((lq:Nat):Int)≤9223372036854775807:=by omega
  have hz:bJR lq [PV.int .u32 0]=aK (bJR lq 0):=by simp[aK]
  have jq:IntKind.i64.wrap ((lq:Int)-1)=(lq:Int)-1:=wrap_i64 Om Om
  simp only[go_sem,ν,γ,reduceCtorEq,bJO,lU,eu,b1,BI,f12,lV,em,rm,et,BJ,k2,k3,k4,hz]
  refine aQ fun oq hoq=>?_
  have hne:oq≠o:=by rintro rfl; rw[hH] at hoq; cases hoq
  have bIP:¬ o=oq:=fun h=>hne h.symm
  have key:=key0 oq m (aH (B*2 ^ n)) [0] hne LV lV (by rw[htp]; exact htop) hlx Om _ hI
  rw[htp] at key
  simp only[go_sem,ο] at key
  simp only[go_sem,γ,BK,jq]
  refine key _ _ _ ?_ ?_ ?_
  ·unfold duF
   exact Lq
  ·refine PH.aI (PH.aI PH.nil_le ?_) ?_
   ·simp only[go_sem,bIP,hH]
   ·simp only[go_sem]
  clear key key0
  intro X Q F1 H1 hI1 hF1 hH1
  have g10:F1 10=some (.int .i64 n):=hF1 10 _ (by unfold duF; simp only[go_sem,ο,γ])
  have g11:F1 11=some (.osl o 1 0 (nl (A*2 ^ n)+1)):=hF1 11 _ (by unfold duF; simp only[go_sem,ο,γ])
  have g14:F1 14=some (.osl oq 1 0 lq):=hF1 14 _ (by unfold duF; simp only[go_sem,ο,γ])
  have ho1:H1 o=some (.rows 1 (dT X (aK [0]))):=hH1 o _ (by simp only[go_sem,bIP])
  have hq1:H1 oq=some (.rows 1 (aK Q)):=hH1 oq _ Sq
  have hu:val X<val (aH (B*2 ^ n)):=by have:=hI1.r; rwa [bKQ] at this
  have hv':=hI1.v
  rw[vV] at hu hv'
  have hQv:val Q=A/B:=by
   have:A*2 ^ n/(B*2 ^ n)=val Q:=by
    rw[← hv',Nat.add_mul_div_right _ _ Om,bMW hu,bKN]
   rw[← this,Nat.mul_div_mul_right _ _ hp2]
  have hUv:val X/2 ^ n=A%B:=by
   have:A*2 ^ n%(B*2 ^ n)=val X:=by rw[← hv',Nat.add_mul_mod_self_right,bKW hu]
   rw[← this,Nat.mul_mod_mul_right,Nat.mul_div_cancel _ hp2]
  have lX:=hI1.lu'
  have lQ:=hI1.lq'
  have hQt:(aK Q).take lq=aK Q:=bKF (by rw[bT]; omega)
  have hXt:(dT X (aK [0])).take (nl (A*2 ^ n)+1)=aK X:=by
   rw[dT,List.take_append_of_le_length (by rw[bT]; omega),bKF (by rw[bT]; omega)]
  have hXl:nl (A*2 ^ n)+1≤(dT X (aK [0])).length:=by rw[dT,bJW,bT]; omega
  have hfx:(dT X (aK [0])).map (fun r=>r.map (PV.dE oq 1 (aK Q)))=dT X (aK [0]):=by
   have:dT X (aK [0])=aK (X++[0]):=by simp[dT,aK]
   rw[this]; exact pX _ _ _ _
  have nX:=eY hI1.limU
  have t1:=L.trim Q hI1.limQ Om
  have t2:=L.trim X hI1.limU Om
  have dn:=L.down (aH (val X)) n (aV _) (by rw[aZ]; omega) Om
  rw[aS,hUv] at dn
  rw[hQv] at t1
  generalize aK [0]=Z0 at ho1 hXt hXl hfx
  simp only[go_sem,BQ,g14]
  refine pD (o:=oq) (s:=1) (rs:=aK Q) t1 hq1 (by simp only[go_sem,hQt,show lq≤Q.length by omega]) ?_
  simp only[go_sem,γ,g11,bIP]
  refine pD (o:=o) (s:=1) (rs:=dT X Z0) t2 (by simp only[go_sem,bIP,ho1,cT.frz,hfx]) (by simp only[go_sem,γ,hXt,hXl]) ?_
  simp only[go_sem,γ,g10]
  refine aA dn rfl ?_
  simp only[go_sem,γ]
  exact aX (vs:=[aF (aH (A/B)),aF (aH (A%B))]) (.inr rfl) .nil rfl PH.nil_le ⟨.refl _,rfl⟩
 simp only[aC.wp,go_sem] at tail
 simp only[go_sem,γ,bG (Om:¬ ((nl B:Nat):Int)=1),VU,bJO,lB]
 refine aA bt rfl ?_
 simp only[go_sem,γ,reduceCtorEq,e32,en,VV]
 refine fP ua rfl PH.nil_le fun r H1 hr _=>?_
 have hb2:(2:Nat)*1≤16777216:=by decide
 rcases hr with ⟨h0,_⟩ | ⟨o,rs,rfl,rfl,hrl,hrt⟩
 ·exfalso
  have:=congrArg List.length h0
  rw[bT,aZ] at this
  simp at this
  omega
 rw[PH.kG]
 rw[bT,aZ] at hrl hrt
 simp only[go_sem,υ,δ,γ,η,ζ,hb2,bT,aZ]
 refine yC (src:=[[.int .u32 0],[.int .u32 0]]) (rs:=rs) rfl ?_ Sq hrl ?_ fun o' ho'=>?_
 ·unfold roomFor
  simp only[maxLen,bLG,bLZ]; omega
 ·rw[hrt]
  simp only[go_sem,δ]
  refine aA ub rfl ?_
  simp only[go_sem,γ]
  exact tail o _ _ rfl rfl rfl rfl rfl Sq
 ·rw[hrt]
  simp only[go_sem,δ]
  refine aA ub rfl ?_
  simp only[go_sem,γ]
  exact tail o' _ _ rfl rfl rfl rfl rfl Sq
structure ayF (C:Ctx):Prop extends ayY C where
 int:∀ n:Int,cW n→aD C 47 [.int .i64 n] .nil (aE (.agg (mkT n 1).cells))
 mul:∀ a b,Lim a→Lim b→a.length≤35184372087808→b.length≤35184372087808→aD C 36 [aF a,aF b] .nil (aE (opV (dS (val a) (val b)) (val a*val b)))
 add:∀ a b,Lim a→Lim b→a.length≤35184372087808→b.length≤35184372087808→aD C 30 [aF a,aF b] .nil (aE (opV (dS (val a) (val b)) (val a+val b)))
 sub:∀ a b,Lim a→Lim b→a.length≤35184372087808→b.length≤35184372087808→aD C 37 [aF a,aF b] .nil (aE (pR (val a) (val b)))
theorem auG (a b:Nat):cP a b=(decide (nl b>0)&&(decide (nl b≤128)&&decide (nl a≤128))):=by
 have:=@gR b
 refine Bool.eq_iff_iff.2 ?_
 rw[fE]
 simp only[bKM,decide_eq_true_eq]
 omega
theorem bdC {C:Ctx} (L:ayF C) (neg:Bool) (a b:List Nat) (ha:Lim a) (hb:Lim b) (la:a.length≤35184372087808) (lb:b.length≤35184372087808) :
  CB.wp C (aU RM.res (aE (.bool (cP (val a) (val b))))) (PF.args [.agg (eC neg a b)]) .nil:=by
 rw[auG]
 simp only[go_sem,γ,CB,avH,avI,RM]
 refine aA (L.trim b hb lb) rfl ?_
 simp only[go_sem,γ,bJO,aZ]
 by_cases c1:nl (val b)>0
 ·have c1':((nl (val b):Nat):Int)>0:=by omega
  simp only[go_sem,γ,c1']
  refine aA (L.trim b hb lb) rfl ?_
  simp only[go_sem,γ,bJO,aZ]
  by_cases c2:nl (val b)≤128
  ·have c2':((nl (val b):Nat):Int)≤128:=by omega
   simp only[go_sem,δ,γ,θ,c2']
   refine aA (L.trim a ha la) rfl ?_
   simp only[go_sem,γ,bJO,aZ]
   refine aL (.inr rfl) rfl ?_
   have:decide (((nl (val a):Nat):Int)≤128)=decide (nl (val a)≤128):=by
    refine decide_eq_decide.2 ?_
    omega
   rw[aT,this,decide_eq_true c1,decide_eq_true c2]
   rfl
  ·have c2':¬ ((nl (val b):Nat):Int)≤128:=by omega
   simp only[go_sem,γ,reduceCtorEq,c2']
   refine aL (.inr rfl) rfl ?_
   rw[aT,decide_eq_false c2,bJU,bLA]
 ·have c1':¬ ((nl (val b):Nat):Int)>0:=by omega
  simp only[go_sem,γ,reduceCtorEq,c1']
  refine aL (.inr rfl) rfl ?_
  rw[aT,decide_eq_false c1,bJU]
theorem YF {neg:Bool} {a b:Nat} (h:cP a b=true):gS neg a b=.ok (kZ neg a b):=by
 obtain⟨h1,h2,h3⟩:=fE.1 h
 have e1:=(kL (a/bJT a b) 128).2 (aeU _ h3)
 have e2:=(kL (b/bJT a b) 128).2 (aeU _ h2)
 unfold gS kZ
 rw[if_neg Om]
def a1P (a b:Nat):Bool:=decide (nl a>128)||decide (nl b>128)
theorem bcL {C:Ctx} (neg:Bool) (a b:List Nat) :
  BY.wp C (aU RI.res (aE (.bool (decide (a.length>128)||decide (b.length>128))))) (PF.args [.agg (eC neg a b)]) .nil:=by
 simp only[go_sem,δ,γ,θ,BY,auS,auT,RI,bJO]
 by_cases c:a.length>128
 ·have c':((a.length:Nat):Int)>128:=by omega
  simp only[go_sem,γ,c']
  refine aL (.inr rfl) rfl ?_
  rw[aT,decide_eq_true c,Bool.true_or]
 ·have c':¬ ((a.length:Nat):Int)>128:=by omega
  simp only[go_sem,γ,reduceCtorEq,c',bJO]
  refine aL (.inr rfl) rfl ?_
  have:decide (((b.length:Nat):Int)>128)=decide (b.length>128):=by
   refine decide_eq_decide.2 ?_
   omega
  rw[aT,this,decide_eq_false c,Bool.false_or]
def aBG (x:FV):FR:=if a1P x.2.1 x.2.2 then .error 2 else .ok x
theorem blZ (neg:Bool) (a b:Nat):aBG (kZ neg a b)=gS neg a b:=by
 have e1:=kL (a/bJT a b) 128
 have e2:=kL (b/bJT a b) 128
 unfold aBG kZ gS a1P
 simp only[Bool.or_eq_true,decide_eq_true_eq]
 by_cases c:nl (a/bJT a b)>128∨nl (b/bJT a b)>128
 ·rw[if_pos c,if_pos Om]
 ·rw[if_neg c,if_neg Om]
structure aaN (C:Ctx):Prop extends ayF C where
 valid:∀ x:RF,x.Ok→aD C 56 [.agg x.cells] .nil (aE (.bool (cP (val x.num) (val x.den))))
 big:∀ x:FV,aD C 48 [.agg x.rf.cells] .nil (aE (.bool (a1P x.2.1 x.2.2)))
theorem bjM {C:Ctx} (L:aaN C) (x:FV):JK.wp C (aU ahM.res (cA (frV (aBG x)))) (PF.args [.agg x.rf.cells]) .nil:=by
 simp only[go_sem,δ,JK,aNO,ahM]
 refine aQ fun o ho=>?_
 simp only[go_sem,δ,γ,aNP]
 refine aA (L.big x) rfl ?_
 unfold aBG
 cases a1P x.2.1 x.2.2 with
 | true =>
  simp only[go_sem,δ,γ,aNQ]
  refine gQ ?_
  simp only[go_sem,δ,γ]
 | false =>
  obtain⟨n,a,b⟩:=x
  simp only[go_sem,δ,γ,reduceCtorEq,aNR]
  exact aX (.inr rfl) .nil (vs:=[.agg (FV.rf (n,a,b)).cells,.int .i64 0]) Sq PH.nil_le ⟨.refl _,rfl⟩
theorem a5X {C:Ctx} (L:aaN C) (x:RF) (hx:x.Ok):xX.wp C (aU EC.res (cA (frV (mR x)))) (PF.args [.agg x.cells]) .nil:=by
 simp only[go_sem,δ,xX,ahV,EC]
 refine aQ fun o ho=>?_
 simp only[go_sem,δ,γ,ahW]
 refine aA (L.valid x hx) rfl ?_
 unfold mR
 cases hv:cP (val x.num) (val x.den) with
 | false =>
  simp only[go_sem,δ,γ,reduceCtorEq,bKD,ahX]
  refine gQ ?_
  simp only[go_sem,δ,γ]
 | true =>
  obtain⟨v1,v2,v3⟩:=fE.1 hv
  have e:=YF (neg:=x.neg) hv
  rw[if_pos rfl,e]
  simp only[go_sem,δ,γ,θ,bJV,ahY]
  refine aA (L.lowest x.neg x.num x.den hx.1 hx.2.1 hx.2.2.1 hx.2.2.2 Om Om v1) rfl ?_
  simp only[go_sem,δ,γ]
  exact aX (.inr rfl) .nil (vs:=[.agg (kZ x.neg (val x.num) (val x.den)).rf.cells,.int .i64 0]) Sq PH.nil_le ⟨.refl _,rfl⟩
theorem bdA {C:Ctx} (L:ayF C) (a b:List Nat) (ha:Lim a) (hb:Lim b) (la:a.length≤35184372087808) (lb:b.length≤35184372087808) (na:nl (val a)≤256) (nb:nl (val b)≤256) :
  CA.wp C (aU RL.res (aE (aF (aH (val a*val b))))) (PF.args [aF a,aF b]) .nil:=by
 simp only[go_sem,γ,reduceCtorEq,CA,avE,avF,RL]
 refine aA (L.mul a b ha hb la lb) rfl ?_
 have:=kF na nb
 rw[gP Om Om,opV,xR Om]
 simp only[go_sem,γ,reduceCtorEq,avG]
 refine aL (.inr rfl) rfl ?_
 rfl
structure azA (C:Ctx):Prop extends aaN C where
 fits:∀ x:FV,aD C 57 [.agg x.rf.cells] .nil (aE (frV (aBG x)))
 red:∀ x:RF,x.Ok→aD C 52 [.agg x.cells] .nil (aE (frV (mR x)))
 prod:∀ a b,Lim a→Lim b→a.length≤35184372087808→b.length≤35184372087808→nl (val a)≤256→nl (val b)≤256→aD C 60 [aF a,aF b] .nil (aE (aF (aH (val a*val b))))
def RF.valid (x:RF):Prop:=cP (val x.num) (val x.den)=true
def nK (x y:RF):Int:=pO x.neg (val x.num) (val x.den) y.neg (val y.num) (val y.den)
def voS:Spec:=fun name vs=>match name,vs with
 | 60,[x,y]=>some ([],fun _=>aE (aF (aH (val (iD x)*val (iD y)))))
 | _,_=>none
theorem tV (a b:List Nat):voS 60 [aF a,aF b]=some ([],fun _=>aE (aF (aH (val a*val b)))):=by
 show some _=_; rw[dZ,dZ]
theorem aoC (a b:Nat):dD b a=- dD a b:=by
 unfold dD
 rcases Nat.lt_trichotomy a b with h | h | h
 ·rw[if_neg Om,if_pos h,if_pos h]; rfl
 ·subst h
  rw[if_neg Om,if_neg Om]; rfl
 ·rw[if_pos h,if_neg Om,if_pos h]
set_option maxHeartbeats 1000000 in
theorem bcN {C : Ctx} (L : azA C) (x y : RF) (hx : x.Ok) (hy : y.Ok) (vx : x.valid) (vy : y.valid) : BZ.wp C (aU RJ.res (aE (.int .i64 (nK x y)))) (PF.args [.agg x.cells, .agg y.cells]) .nil := by
  obtain ⟨n1, a1, b1⟩ := x
  obtain ⟨n2, a2, b2⟩ := y
  obtain ⟨ha1, hb1, la1, lb1⟩ := hx
  obtain ⟨ha2, hb2, la2, lb2⟩ := hy
  obtain ⟨v1, v2, v3⟩ := fE.1 vx
  obtain ⟨w1, w2, w3⟩ := fE.1 vy
  simp only at ha1 hb1 la1 lb1 ha2 hb2 la2 lb2 v1 v2 v3 w1 w2 w3
  have m1 := kF v3 w2
  have m2 := kF w3 v2
  have hA : decide (val a1 ≠ 0) = decide (nl (val a1 * val b2) > 0) := by
    refine decide_eq_decide.2 ?_
    have := @gR (val a1 * val b2)
    rw [Nat.mul_eq_zero] at this
    omega
  have hB : decide (val a2 ≠ 0) = decide (nl (val a2 * val b1) > 0) := by
    refine decide_eq_decide.2 ?_
    have := @gR (val a2 * val b1)
    rw [Nat.mul_eq_zero] at this
    omega
  unfold nK pO
  simp only [hA, hB]
  simp only[go_sem,ο,γ,BZ,auU,RJ]
  refine bP .nil voS PH.nil_le ?_
  simp only[go_sem,ο,δ,γ,θ,auV]
  refine bS (tV a1 b2) (L.prod a1 b2 ha1 hb2 la1 lb2 Om Om) rfl PH.nil_le ?_
  simp only[go_sem,ο,δ,γ,θ]
  refine bS (tV a2 b1) (L.prod a2 b1 ha2 hb1 la2 lb1 Om Om) rfl PH.nil_le ?_
  have hc := L.cmp (aH (val a1 * val b2)) (aH (val a2 * val b1)) (aV _) (aV _) (by rw [aZ]; omega) (by rw [aZ]; omega)
  have hd := L.cmp (aH (val a2 * val b1)) (aH (val a1 * val b2)) (aV _) (aV _) (by rw [aZ]; omega) (by rw [aZ]; omega)
  rw [aS, aS] at hc hd
  rw [aoC (val a1 * val b2)] at hd
  generalize val a1 * val b2 = A at *
  generalize val a2 * val b1 = B at *
  have gA : decide (((nl A : Nat) : Int) > 0) = decide (nl A > 0) := decide_eq_decide.2 Om
  have gB : decide (((nl B : Nat) : Int) > 0) = decide (nl B > 0) := decide_eq_decide.2 Om
  generalize decide (nl A > 0) = p at *
  generalize decide (nl B > 0) = q at *
  cases n1 <;> cases n2 <;> cases p <;> cases q
  all_goals
    simp only[go_sem,ο,δ,γ,θ,reduceCtorEq,auW,bJO,aZ,gA,gB,auX,auY,auZ,avA,avB,avC,avD]
    first
    | (refine aL (.inr rfl) rfl ?_; rfl)
    | (refine aA hc rfl ?_
       simp only[go_sem,γ]
       refine aL (.inr rfl) rfl ?_
       rfl)
    | (refine aA hd rfl ?_
       simp only[go_sem,γ]
       refine aL (.inr rfl) rfl ?_
       rfl)
structure wO (C:Ctx):Prop extends azA C where
 order:∀ x y:RF,x.Ok→y.Ok→x.valid→y.valid→aD C 51 [.agg x.cells,.agg y.cells] .nil (aE (.int .i64 (nK x y)))
theorem bjP {C:Ctx} (L:wO C) (x y:RF) (hx:x.Ok) (hy:y.Ok) (vx:x.valid) (vy:y.valid):JL.wp C (aU ahO.res (aE (.bool (decide (nK x y<0))))) (PF.args [.agg x.cells,.agg y.cells]) .nil:=by
 simp only[go_sem,δ,γ,JL,aNU,aNV,ahO]
 refine aA (L.order x y hx hy vx vy) rfl ?_
 simp only[go_sem,γ]
 refine aL (.inr rfl) rfl ?_
 rfl
theorem bjT {C:Ctx} (L:wO C) (x y:RF) (hx:x.Ok) (hy:y.Ok) (vx:x.valid) (vy:y.valid):JP.wp C (aU ahZ.res (aE (.bool (nK x y==0)))) (PF.args [.agg x.cells,.agg y.cells]) .nil:=by
 simp only[go_sem,δ,γ,JP,aOF,aOG,ahZ]
 refine aA (L.order x y hx hy vx vy) rfl ?_
 simp only[go_sem,γ]
 refine aL (.inr rfl) rfl ?_
 rfl
theorem DJ (n:Int):mkT n 1=⟨decide (n<0),aH n.natAbs,aH 1⟩:=by
 unfold mkT kZ FV.rf
 rw[show (1:Int).natAbs=1 from rfl,Nat.gcd_one_right,Nat.div_one,Nat.div_one,show decide ((1:Int)<0)=false from rfl]
 congr 1
 by_cases h:n<0
 ·have:n.natAbs≠0:=by omega
  simp[h,this]
 ·simp[h]
theorem DI (n:Int) (h:cW n):(mkT n 1).Ok∧(mkT n 1).valid:=by
 have h1:nl n.natAbs≤2:=mG (by unfold cW at h; omega)
 rw[DJ]
 refine⟨⟨aV _,aV _,?_,?_⟩,?_⟩
 ·simp only[aZ]; omega
 ·simp only[tN]; decide
 ·unfold RF.valid
  simp only[aS]
  rw[auG]
  have:nl 1=1:=by rw[nl,tN]; rfl
  simp[this]
  omega
def pG (x:RF):Int:=if val x.num=0 then 0 else if x.neg then -1 else 1
theorem bhP (x:RF):nK x (mkT 0 1)=pG x:=by
 rw[DJ]
 unfold nK pG pO
 simp only[aS,show (0:Int).natAbs=0 from rfl,Nat.mul_one,Nat.zero_mul]
 by_cases h:val x.num=0
 ·simp[h,dD]
 ·cases x.neg<;>simp[h,dD]
def viS (r:Int):Spec:=fun name _=>if name=47 then some ([],fun _=>aE (.agg (mkT 0 1).cells)) else some ([],fun _=>aE (.int .i64 r))
theorem bjV {C:Ctx} (L:wO C) (x:RF) (hx:x.Ok) (vx:x.valid):JQ.wp C (aU aiA.res (aE (.int .i64 (pG x)))) (PF.args [.agg x.cells]) .nil:=by
 have h0:cW 0:=by unfold cW; omega
 have ho:=L.order x (mkT 0 1) hx (DI 0 h0).1 vx (DI 0 h0).2
 rw[bhP] at ho
 simp only[go_sem,JQ,aOH,aiA]
 refine bP .nil (viS (pG x)) PH.nil_le ?_
 simp only[go_sem,δ,γ,aOI]
 refine bS rfl (L.int 0 h0) rfl PH.nil_le ?_
 simp only[go_sem]
 refine bS rfl ho rfl PH.nil_le ?_
 simp only[go_sem,γ]
 refine aL (.inr rfl) rfl ?_
 rfl
theorem bcI {C:Ctx} (L:wO C) (n1 n2:Bool) (a1 b1 a2 b2:List Nat) (ha1:Lim a1) (hb1:Lim b1) (ha2:Lim a2) (hb2:Lim b2)
  (la1:a1.length≤35184372087808) (lb1:b1.length≤35184372087808) (la2:a2.length≤35184372087808) (lb2:b2.length≤35184372087808) :
  zL.wp C (aU anU.res (cA (frV (gZ (n1,val a1,val b1) (n2,val a2,val b2))))) (PF.args [.agg (eC n1 a1 b1),.agg (eC n2 a2 b2)]) .nil:=by
 have vx:aD C 56 [.agg (eC n1 a1 b1)] .nil (aE (.bool (cP (val a1) (val b1)))):=L.valid ⟨n1,a1,b1⟩ ⟨ha1,hb1,la1,lb1⟩
 have vy:aD C 56 [.agg (eC n2 a2 b2)] .nil (aE (.bool (cP (val a2) (val b2)))):=L.valid ⟨n2,a2,b2⟩ ⟨ha2,hb2,la2,lb2⟩
 simp only[go_sem,δ,γ,zL,aZN,anU]
 refine aQ fun o ho=>?_
 simp only[go_sem,δ,γ,aZO]
 refine aA vx rfl ?_
 simp only[gZ]
 cases hv:cP (val a1) (val b1) with
 | false =>
  simp only[go_sem,δ,γ,reduceCtorEq,bKD,anV,bJU]
  refine gQ ?_
  simp only[go_sem,δ,γ]
 | true =>
  obtain⟨v1,v2,v3⟩:=fE.1 hv
  simp only[go_sem,δ,γ,bJV]
  refine aA vy rfl ?_
  cases hw:cP (val a2) (val b2) with
  | false =>
   simp only[go_sem,δ,γ,reduceCtorEq,bKD,anV,bLA]
   refine gQ ?_
   simp only[go_sem,δ,γ]
  | true =>
   obtain⟨w1,w2,w3⟩:=fE.1 hw
   simp only[go_sem,γ,reduceCtorEq,bJV,bLP]
   refine bP .nil voS PH.nil_le ?_
   simp only[go_sem,δ,γ,θ,aZP]
   refine bS (tV a1 b2) (L.prod a1 b2 ha1 hb2 la1 lb2 Om Om) rfl PH.nil_le ?_
   simp only[go_sem,δ,γ,θ]
   refine bS (tV a2 b1) (L.prod a2 b1 ha2 hb1 la2 lb1 Om Om) rfl PH.nil_le ?_
   simp only[go_sem,γ]
   refine bS (tV b1 b2) (L.prod b1 b2 hb1 hb2 lb1 lb2 Om Om) rfl PH.nil_le ?_
   simp only[go_sem,γ]
   have m1:=kF v3 w2
   have m2:=kF w3 v2
   have m3:=kF v2 w2
   have d0:val b1*val b2≠0:=Nat.mul_ne_zero v1 w1
   generalize hA:val a1*val b2=A at *
   generalize hB:val a2*val b1=B at *
   generalize hD:val b1*val b2=D at *
   have fin:∀ (F:PF) (H:PH) (r:FR),(∃ neg' x y e,frV r=.tup [.agg (eC neg' x y),.int .i64 e]∧F 4=some (.ptr o 3 0 0)∧F 5=some (.int .i64 e)∧H o=some (.rows 3 [eC neg' x y]))→aU [.cell 4 (some 3),.tmp 5] (cA (frV r)) .ret F H:=by
    rintro F H r ⟨neg',x,y,e,he,f4,f5,hH⟩
    rw[he]
    exact aX (.inr rfl) .nil (vs:=[.agg (eC neg' x y),.int .i64 e]) (by simp only[go_sem,δ,f4,f5,hH]) PH.nil_le ⟨.refl _,rfl⟩
   have eb:(n1==n2)=decide (n1=n2):=by cases n1<;>cases n2<;>rfl
   have low:∀ neg x,nl x≤257→aD C 58 [.bool neg,aF (aH x),aF (aH D)] .nil (aE (.agg (kZ neg x D).rf.cells)):=by
    intro neg x hx
    have h1:(aH x).length≤35184372087808:=by rw[aZ]; omega
    have h2:(aH D).length≤35184372087808:=by rw[aZ]; omega
    have:=L.lowest neg (aH x) (aH D) (aV _) (aV _) h1 h2
    rw[aS,aS] at this
    exact this Om Om d0
   have fit:∀ neg x,aD C 57 [.agg (kZ neg x D).rf.cells] .nil (aE (frV (gS neg x D))):=fun neg x=>by
    have:=L.fits (kZ neg x D)
    rwa [blZ] at this
   have lA:(aH A).length≤35184372087808:=by rw[aZ]; omega
   have lB:(aH B).length≤35184372087808:=by rw[aZ]; omega
   simp only[go_sem,δ,γ,θ,aZQ]
   by_cases c:n1=n2
   ·rw[if_pos c]
    have c':(n1==n2)=true:=by rw[eb,decide_eq_true c]
    simp only[go_sem,γ,c',aZR]
    have hadd:=L.add (aH A) (aH B) (aV _) (aV _) lA lB
    have nab:=aGZ m1 m2
    rw[aS,aS,gP Om Om,opV,xR Om] at hadd
    refine aA hadd rfl ?_
    simp only[go_sem,δ,γ,θ,reduceCtorEq,aZS]
    refine aA (low n1 _ Om) rfl ?_
    simp only[go_sem]
    refine aA (fit n1 _) rfl ?_
    obtain⟨neg',x,y,e,hl⟩:=rV (gS n1 (A+B) D)
    rw[hl]
    simp only[go_sem,δ,γ]
    rw[← hl]
    exact fin _ _ _ ⟨neg',x,y,e,hl,by simp only[go_sem,γ],by simp only[go_sem,γ],by simp only[go_sem]⟩
   ·rw[if_neg c]
    have c':(n1==n2)=false:=by rw[eb,decide_eq_false c]
    simp only[go_sem,γ,c',aZT]
    have hc:=L.cmp (aH A) (aH B) (aV _) (aV _) lA lB
    rw[aS,aS] at hc
    refine aA hc rfl ?_
    have hsub:∀ X Y:Nat,nl X≤256→nl Y≤256→Y≤X→aD C 37 [aF (aH X),aF (aH Y)] .nil (aE (.tup [aF (aH (X-Y)),.int .i64 0])):=by
     intro X Y h1 h2 h
     have:=L.sub (aH X) (aH Y) (aV _) (aV _) (by rw[aZ]; omega) (by rw[aZ]; omega)
     have h3:=fI (Om:X-Y≤X)
     rw[aS,aS,pR,gP Om Om,if_neg (by decide),if_neg Om,xR Om] at this
     exact this
    by_cases g:B≤A
    ·have g':dD A B≥0:=(SQ A B).2 g
     rw[if_pos g]
     simp only[go_sem,γ,g',aZU]
     refine aA (hsub A B Om Om g) rfl ?_
     simp only[go_sem,δ,γ,θ,aZV]
     have h3:=fI (Om:A-B≤A)
     refine aA (low n1 (A-B) Om) rfl ?_
     simp only[go_sem]
     refine aA (fit n1 _) rfl ?_
     obtain⟨neg',x,y,e,hl⟩:=rV (gS n1 (A-B) D)
     rw[hl]
     simp only[go_sem,δ,γ]
     rw[← hl]
     exact fin _ _ _ ⟨neg',x,y,e,hl,by simp only[go_sem,γ],by simp only[go_sem,γ],by simp only[go_sem]⟩
    ·have g':¬ dD A B≥0:=fun h=>g ((SQ A B).1 h)
     rw[if_neg g]
     simp only[go_sem,γ,g',aNL]
     refine aA (hsub B A Om Om Om) rfl ?_
     simp only[go_sem,δ,γ,θ,aNM]
     have h3:=fI (Om:B-A≤B)
     refine aA (low n2 (B-A) Om) rfl ?_
     simp only[go_sem]
     refine aA (fit n2 _) rfl ?_
     obtain⟨neg',x,y,e,hl⟩:=rV (gS n2 (B-A) D)
     rw[hl]
     simp only[go_sem,δ,γ]
     rw[← hl]
     exact fin _ _ _ ⟨neg',x,y,e,hl,by simp only[go_sem,γ],by simp only[go_sem,γ],by simp only[go_sem]⟩
theorem bpV {C:Ctx} (L:wO C) (x y:RF) (hx:x.Ok) (hy:y.Ok):zL.wp C (aU anU.res (cA (frV (gZ x.v y.v)))) (PF.args [.agg x.cells,.agg y.cells]) .nil :=
 bcI L x.neg y.neg x.num x.den y.num y.den hx.1 hx.2.1 hy.1 hy.2.1 hx.2.2.1 hx.2.2.2 hy.2.2.1 hy.2.2.2
structure a1G (C:Ctx):Prop extends wO C where
 less:∀ x y:RF,x.Ok→y.Ok→x.valid→y.valid→aD C 49 [.agg x.cells,.agg y.cells] .nil (aE (.bool (decide (nK x y<0))))
 same:∀ x y:RF,x.Ok→y.Ok→x.valid→y.valid→aD C 53 [.agg x.cells,.agg y.cells] .nil (aE (.bool (nK x y==0)))
 sign:∀ x:RF,x.Ok→x.valid→aD C 54 [.agg x.cells] .nil (aE (.int .i64 (pG x)))
 plus:∀ x y:RF,x.Ok→y.Ok→aD C 46 [.agg x.cells,.agg y.cells] .nil (aE (frV (gZ x.v y.v)))
def vsF (l:List RF) (o2 o4 k:Nat):PF:=((((PF.nil.set 0 (frs l)).set 2 (.ptr o2 3 0 0)).set 4 (.ptr o4 3 0 0)).set 5 (.int .i64 k))
theorem bqA {C:Ctx} (L:a1G C) (l:List RF) (hl:∀ x∈l,x.Ok) (hlen:l.length≤9223372036854775807) :
  RK.wp C (aU aON.res (cA (frV (nP (l.map RF.v))))) (PF.args [frs l]) .nil:=by
 have h0:cW 0:=by unfold cW; omega
 have hi:(mkT 0 1).cells=(FV.rf (false,0,1)).cells:=by rw[DJ]; rfl
 have hint:=L.int 0 h0
 rw[hi] at hint
 simp only[go_sem,δ,RK,a0A,aON]
 refine aQ fun o2 ho2=>?_
 have h1:aR (PH.nil.set o2 (.rows 3 [[.bool false,.aB,.aB]])) [(o2,.rows 3 [[.bool false,.aB,.aB]])] []:=aR.nil.new (H:=PH.nil) rfl _
 generalize (PH.nil.set o2 _)=H1 at *
 simp only[go_sem,a0B]
 refine aA hint rfl ?_
 simp only[go_sem,δ]
 refine aQ fun o4 ho4=>?_
 have h2:=h1.new ho4 (.rows 3 [(FV.rf (false,0,1)).cells])
 simp only[go_sem,δ,γ,a0C]
 refine wp_loop (α:=Nat × FV × PH) (fun t=>vsF l o2 o4 t.1) (fun t=>t.2.2) (fun t=>t.1≤l.length∧((l.map RF.v).take t.1).foldlM gZ (false,0,1)=.ok t.2.1∧aR t.2.2 [(o2,.rows 3 [[.bool false,.aB,.aB]]),(o4,.rows 3 [(FV.rf t.2.1).cells])] []∧(FV.rf t.2.1).Ok) (fun t=>l.length-t.1)
  (0,(false,0,1),_) ⟨bJY _,rfl,h2,⟨aV _,aV _,?_,?_⟩⟩ ?_ PH.le_refl ?_
 ·show (aH 0).length≤_
  rw[fC]; simp
 ·show (aH 1).length≤_
  rw[tN]; simp
 ·unfold vsF
  exact Lq
 rintro⟨k,acc,H0⟩ ⟨hk,hf,hH,hacc⟩
 simp only at hk hf hH hacc ⊢
 simp only[go_sem,γ,reduceCtorEq,aZZ,a0D,vsF,bJO]
 by_cases hlt:k<l.length
 ·have bHR:(k:Int)<(l.length:Nat):=by omega
  have hr:(l.map RF.cells)[k]?=some (l[k]).cells:=by simp[hlt]
  have hadd:=L.plus (FV.rf acc) l[k] hacc (hl _ (bJS hlt))
  rw[FV.bsL] at hadd
  have bHS:=UI (f:=gZ) (l.map RF.v) (false,0,1) (k:=k) (by simpa using hlt)
  rw[hf] at bHS
  simp only[Except.bind,bLY] at bHS
  have e4:=hH.at 1 rfl
  simp only[go_sem,bHR]
  refine bP .nil (fun _ _=>some ([],fun _=>aE (frV (gZ acc (l[k]).v)))) PH.nil_le ?_
  simp only[go_sem,δ,γ,reduceCtorEq,a0E,e4,hr]
  refine bS rfl hadd rfl PH.nil_le ?_
  cases he:gZ acc (l[k]).v with
  | error e =>
   have he0:e≠0:=by
    revert he
    obtain⟨n1,a1,b1⟩:=acc
    obtain⟨n2,a2,b2⟩:=(l[k]).v
    simp only[gZ,gS]
    repeat' split
    all_goals (intro h; first | (injection h with h; subst h; decide) | cases h)
   rw[he] at bHS
   simp only[go_sem,δ,γ,reduceCtorEq,frV]
   refine aQ fun o6 ho6=>?_
   simp only[go_sem,δ,γ,reduceCtorEq]
   refine⟨PH.nil_le,?_⟩
   have h6:=hH.new ho6 (.rows 3 [[.bool false,aF [],aF []]])
   have e2:=h6.at 0 rfl
   simp only[go_sem,δ,γ,reduceCtorEq,anX,cI he0,a0F,e2]
   rw[nP,acY _ _ bHS]
   refine gQ ?_
   simp only[go_sem,δ,γ,reduceCtorEq]
  | ok r =>
   rw[he] at bHS
   obtain⟨rn,ra,rb⟩:=r
   simp only[go_sem,δ,γ,reduceCtorEq,frV]
   refine aQ fun o6 ho6=>?_
   simp only[go_sem,δ,γ,reduceCtorEq]
   refine⟨PH.nil_le,?_⟩
   have h6:=hH.new ho6 (.rows 3 [(FV.rf (rn,ra,rb)).cells])
   have e6:=h6.at 2 rfl
   have e4':=h6.at 1 rfl
   generalize hG:H0.set o6 (.rows 3 [(FV.rf (rn,ra,rb)).cells])=H6 at *
   have hG':H0.set o6 (.rows 3 [[.bool rn,aF (aH ra),aF (aH rb)]])=H6:=hG
   simp only[go_sem,σ,δ,γ,reduceCtorEq,anX,a0G,hG',e6,e4',a0H,wZz k]
   have h7:=(h6.set 1 rfl (.rows 3 [(FV.rf (rn,ra,rb)).cells])).bvE 2
   refine aG (k+1,(rn,ra,rb),_) ⟨hlt,bHS,h7,alF he⟩ (by simp only; omega) ?_ PH.le_refl
   exact Lq
 ·have bHR:¬ (k:Int)<(l.length:Nat):=by omega
  have:k=l.length:=by omega
  subst this
  rw[bKF (by simp)] at hf
  rw[nP,hf]
  have e2:=hH.at 0 rfl
  have e4:=hH.at 1 rfl
  obtain⟨n,a,b⟩:=acc
  simp only[go_sem,δ,γ,reduceCtorEq,bHR,aOO,e4,e2]
  exact aX (.inr rfl) .nil (vs:=[.agg (FV.rf (n,a,b)).cells,.int .i64 0]) Sq PH.nil_le ⟨.refl _,rfl⟩
theorem dge {n:Nat} (k:Nat):decide ((n:Int)≥(k:Int))=decide (k≤n):=decide_eq_decide.2 Om
theorem dle {n:Nat} (k:Nat):decide ((n:Int)≤(k:Int))=decide (n≤k):=decide_eq_decide.2 Om
theorem a6N {C:Ctx} (n:Nat):yA.wp C (aU EF.res (aE (.bool (eX n)))) (PF.args [.int .u8 n]) .nil:=by
 have h1:=dge (n:=n) 97
 have h2:=dle (n:=n) 122
 have h3:=dge (n:=n) 65
 have h4:=dle (n:=n) 90
 simp only[Int.cast_ofNat_Int] at h1 h2 h3 h4
 unfold eX
 generalize decide (97≤n)=a at *
 generalize decide (n≤122)=b at *
 generalize decide (65≤n)=c at *
 generalize decide (n≤90)=d at *
 cases a<;>cases b<;>cases c<;>cases d
 all_goals
  simp only[go_sem,γ,reduceCtorEq,yA,ajF,ajG,EF,h1,h2,h3,h4]
  refine aL (.inr rfl) rfl ?_
  rfl
theorem bdK {C:Ctx} (n:Nat):CG.wp C (aU RV.res (aE (.bool (kR n)))) (PF.args [.int .u8 n]) .nil:=by
 have h1:=dge (n:=n) 48
 have h2:=dle (n:=n) 57
 simp only[Int.cast_ofNat_Int] at h1 h2
 unfold kR
 generalize decide (48≤n)=a at *
 generalize decide (n≤57)=b at *
 cases a<;>cases b
 all_goals
  simp only[go_sem,γ,reduceCtorEq,CG,awL,awM,RV,h1,h2]
  refine aL (.inr rfl) rfl ?_
  rfl
theorem a6J {C:Ctx} (h1:∀ n:Nat,aD C 65 [.int .u8 n] .nil (aE (.bool (eX n)))) (h2:∀ n:Nat,aD C 63 [.int .u8 n] .nil (aE (.bool (kR n)))) (n:Nat) :
  xY.wp C (aU ED.res (aE (.bool (fN n)))) (PF.args [.int .u8 n]) .nil:=by
 have g1:((n:Int)==45)=decide (n=45):=by by_cases h:n=45<;>simp[h]; omega
 have g2:((n:Int)==46)=decide (n=46):=by by_cases h:n=46<;>simp[h]; omega
 have k1:=h1 n
 have k2:=h2 n
 unfold fN
 generalize decide (n=45)=a at *
 generalize decide (n=46)=b at *
 simp only[go_sem,reduceCtorEq,xY,aiU,aiV,ED]
 refine aA k1 rfl ?_
 cases eX n with
 | true =>
  simp only[go_sem,γ]
  refine aL (.inr rfl) rfl ?_
  rfl
 | false =>
  simp only[go_sem,γ,reduceCtorEq]
  refine aA k2 rfl ?_
  cases kR n<;>cases a<;>cases b
  all_goals
   simp only[go_sem,γ,reduceCtorEq,g1,g2]
   refine aL (.inr rfl) rfl ?_
   rfl
theorem a6L {C:Ctx} (h1:∀ n:Nat,aD C 65 [.int .u8 n] .nil (aE (.bool (eX n)))) (h2:∀ n:Nat,aD C 64 [.int .u8 n] .nil (aE (.bool (fN n)))) (s:List UInt8) :
  xZ.wp C (aU EE.res (aE (.bool (isName s)))) (PF.args [.str s]) .nil:=by
 simp only[go_sem,γ,reduceCtorEq,xZ,aiX,aiY,EE]
 cases s with
 | nil =>
  have h0:decide (((0:Nat):Int)<1)=true:=rfl
  simp only[go_sem,γ,vO,bLZ,h0]
  refine aL (.inr rfl) rfl ?_
  rfl
 | cons c t =>
  have hz:(c::t)[0]?=some c:=rfl
  have hN:isName (c::t)=(decide ((c::t).length≤16)&&eX c.toNat&&(c::t).all fun c=>fN c.toNat):=rfl
  have hpos:¬ (((c::t).length:Nat):Int)<1:=by simp only[bLG]; omega
  generalize c::t=s at *
  by_cases hl:s.length≤16
  ·have hl':¬ ((s.length:Nat):Int)>16:=by omega
   rw[decide_eq_true hl,bKA] at hN
   have k1:=h1 c.toNat
   simp only[go_sem,ν,γ,reduceCtorEq,hpos,hl',hz,bKX]
   refine aA k1 rfl ?_
   cases hc:eX c.toNat with
   | false =>
    simp only[go_sem,γ,reduceCtorEq,bKD,vO]
    refine aL (.inr rfl) rfl ?_
    rw[aT,hN,hc,bJU]
   | true =>
    rw[hc,bKA] at hN
    simp only[go_sem,γ,reduceCtorEq,bJV,aiZ]
    refine wp_loop (α:=Nat) (fun k=>((PF.nil.set 0 (.str s)).set 3 (.int .i64 k))) (fun _=>.nil) (fun k=>k≤s.length∧(s.take k).all (fun c=>fN c.toNat)=true) (fun k=>s.length-k) 0 ⟨bJY _,rfl⟩ Lq PH.nil_le ?_
    rintro k ⟨hk,ha⟩
    simp only[go_sem,γ,reduceCtorEq,aiW,ajA]
    by_cases hlt:k<s.length
    ·have bHR:(k:Int)<(s.length:Nat):=by omega
     have hat:s[k]?=some s[k]:=bJZ hlt
     have k2:=h2 (s[k]).toNat
     simp only[go_sem,γ,reduceCtorEq,bHR,ajB,hat,bKX]
     refine aA k2 rfl ?_
     cases hi:fN (s[k]).toNat with
     | false =>
      simp only[go_sem,γ,reduceCtorEq,bKD,ajC]
      refine aL (.inr rfl) rfl ?_
      rw[aT,hN,nE hlt hi]
     | true =>
      simp only[go_sem,γ,reduceCtorEq,bJV,ajD,wZz k]
      exact aG (k+1) ⟨hlt,by simpa using nD hlt ha hi⟩ Om Lq PH.le_refl
    ·have bHR:¬ (k:Int)<(s.length:Nat):=by omega
     have:k=s.length:=by omega
     subst this
     rw[bKL] at ha
     simp only[go_sem,bHR,ajE]
     refine aL (.inr rfl) rfl ?_
     rw[aT,hN,ha]
  ·have hl':((s.length:Nat):Int)>16:=by omega
   rw[decide_eq_false hl,bJU,bJU] at hN
   simp only[go_sem,γ,reduceCtorEq,hpos,hl',vO]
   refine aL (.inr rfl) rfl ?_
   rw[aT,hN]
def EO (k m:Int):Bool:=within k 1 6&&(within m 0 4&&decide (k+m≤8))
theorem biI {C:Ctx} (k m:Int):mI.wp C (aU vC.res (aE (.bool (EO k m)))) (PF.args [.int .i64 k,.int .i64 m]) .nil:=by
 unfold EO within
 by_cases h1:1≤k
 ·by_cases h2:k≤6
  ·by_cases h3:0≤m
   ·by_cases h4:m≤4
    ·have hw:IntKind.i64.wrap (k+m)=k+m:=wrap_i64 Om Om
     simp only[go_sem,γ,reduceCtorEq,mI,sJ,sK,vC,ge_iff_le,h1,h2,h3,h4,hw]
     refine aL (.inr rfl) rfl ?_
     simp[aT,h1,h2,h3,h4]
    ·simp only[go_sem,γ,reduceCtorEq,mI,sJ,sK,vC,ge_iff_le,h1,h2,h3,h4]
     refine aL (.inr rfl) rfl ?_
     simp[aT,h1,h2,h3,h4]
   ·simp only[go_sem,γ,reduceCtorEq,mI,sJ,sK,vC,ge_iff_le,h1,h2,h3]
    refine aL (.inr rfl) rfl ?_
    simp[aT,h1,h2,h3]
  ·simp only[go_sem,γ,reduceCtorEq,mI,sJ,sK,vC,ge_iff_le,h1,h2]
   refine aL (.inr rfl) rfl ?_
   simp[aT,h1,h2]
 ·simp only[go_sem,γ,reduceCtorEq,mI,sJ,sK,vC,ge_iff_le,h1]
  refine aL (.inr rfl) rfl ?_
  simp[aT,h1]
theorem a7D {C:Ctx} (n lo hi:Int):rT.wp C (aU wN.res (aE (.bool (within n lo hi)))) (PF.args [.int .i64 n,.int .i64 lo,.int .i64 hi]) .nil:=by
 unfold within
 by_cases h:lo≤n
 ·simp only[go_sem,γ,reduceCtorEq,rT,KX,KY,wN,ge_iff_le,h]
  refine aL (.inr rfl) rfl ?_
  simp[aT,h]
 ·simp only[go_sem,γ,reduceCtorEq,rT,KX,KY,wN,ge_iff_le,h]
  refine aL (.inr rfl) rfl ?_
  simp[aT,h]
def nN (a b c d e f:Nat):Bool:=decide (a≤4)&&(decide (b≤4)&&(decide (c≤40)&&(decide (d≤24)&&(decide (e≤4)&&decide (f≤12)))))
theorem beF {C:Ctx} (a b c d e f:Nat):CN.wp C (aU SE.res (aE (.bool (nN a b c d e f)))) (PF.args [.int .i64 a,.int .i64 b,.int .i64 c,.int .i64 d,.int .i64 e,.int .i64 f]) .nil:=by
 have g:∀ x k:Nat,decide ((x:Int)≤(k:Int))=decide (x≤k):=fun x k=>decide_eq_decide.2 Om
 have h1:=g a 4
 have h2:=g b 4
 have h3:=g c 40
 have h4:=g d 24
 have h5:=g e 4
 have h6:=g f 12
 simp only[Int.cast_ofNat_Int] at h1 h2 h3 h4 h5 h6
 unfold nN
 simp only[go_sem,γ,reduceCtorEq,CN,axI,axJ,SE,h1]
 cases decide (a≤4) with
 | false =>
  simp only[go_sem,γ,reduceCtorEq]
  refine aL (.inr rfl) rfl ?_
  rfl
 | true =>
  simp only[go_sem,γ,h2]
  cases decide (b≤4) with
  | false =>
   simp only[go_sem,γ,reduceCtorEq]
   refine aL (.inr rfl) rfl ?_
   rfl
  | true =>
   simp only[go_sem,γ,h3]
   cases decide (c≤40) with
   | false =>
    simp only[go_sem,γ,reduceCtorEq]
    refine aL (.inr rfl) rfl ?_
    rfl
   | true =>
    simp only[go_sem,γ,h4]
    cases decide (d≤24) with
    | false =>
     simp only[go_sem,γ,reduceCtorEq]
     refine aL (.inr rfl) rfl ?_
     rfl
    | true =>
     simp only[go_sem,γ,h5]
     cases decide (e≤4) with
     | false =>
      simp only[go_sem,γ,reduceCtorEq]
      refine aL (.inr rfl) rfl ?_
      rfl
     | true =>
      simp only[go_sem,γ,h6]
      refine aL (.inr rfl) rfl ?_
      rfl
structure aaK (C:Ctx):Prop extends a1G C where
 sum:∀ l:List RF,(∀ x∈l,x.Ok)→l.length≤9223372036854775807→aD C 55 [frs l] .nil (aE (frV (nP (l.map RF.v))))
 inn:∀ n lo hi:Int,aD C 76 [.int .i64 n,.int .i64 lo,.int .i64 hi] .nil (aE (.bool (within n lo hi)))
 code:∀ k m:Int,aD C 61 [.int .i64 k,.int .i64 m] .nil (aE (.bool (EO k m)))
def HS (k m q s0 s1 s2 s3 s4:Int):Bool:=EO k m&&(within q k (k+m)&&(decide (s0=0)&&(within s1 0 8&&(within s2 0 8&&(within s3 0 8&&within s4 0 8)))))
theorem boG (p:dB):HR p=HS p.k p.m p.bIO p.s0 p.s1 p.s2 p.s3 p.s4:=by
 unfold HR HS EO
 have:within p.s0 0 8=true∨p.s0≠0:=by
  by_cases h:p.s0=0
  ·rw[h]; exact .inl rfl
  ·exact .inr h
 simp only[List.all_cons,List.all_nil,bLP]
 rcases this with h | h
 ·rw[h]
  simp only[bKA,bMM]
 ·simp only[h,decide_false,bJU,bLA]
def spR (s1 s2 s3 s4:Int) (k:Nat):Int:=match k with
 | 1=>s1
 | 2=>s2
 | 3=>s3
 | _=>s4
theorem aQX {C:Ctx} (L:aaK C) (k m q s0 s1 s2 s3 s4:Int) :
  uH.wp C (aU yE.res (aE (.bool (HS k m q s0 s1 s2 s3 s4)))) (PF.args [.int .i64 k,.int .i64 m,.int .i64 q,.agg [.int .i64 s0,.int .i64 s1,.int .i64 s2,.int .i64 s3,.int .i64 s4]]) .nil:=by
 obtain⟨X,hX⟩:∃ X,HS k m q s0 s1 s2 s3 s4=X:=⟨_,rfl⟩
 rw[hX]
 unfold HS at hX
 simp only[go_sem,γ,reduceCtorEq,uH,WL,WM,yE]
 refine aA (L.code k m) rfl ?_
 cases h1:EO k m with
 | false =>
  rw[h1,bJU] at hX
  simp only[go_sem,γ,bKD,tB]
  refine aL (.inr rfl) rfl ?_
  rw[aT,hX]
 | true =>
  rw[h1,bKA] at hX
  have hb:1≤k∧k≤6∧0≤m∧m≤4:=by
   simp only[EO,bKM,within_iff] at h1
   omega
  have hw:IntKind.i64.wrap (k+m)=k+m:=wrap_i64 Om Om
  simp only[go_sem,γ,reduceCtorEq,bJV,hw]
  refine aA (L.inn q k (k+m)) rfl ?_
  cases h2:within q k (k+m) with
  | false =>
   rw[h2,bJU] at hX
   simp only[go_sem,γ,reduceCtorEq,bKD,tB]
   refine aL (.inr rfl) rfl ?_
   rw[aT,hX]
  | true =>
   rw[h2,bKA] at hX
   have l50:(0:Int)<((5:Nat):Int):=by decide
   by_cases h3:s0=0
   ·rw[decide_eq_true h3,bKA] at hX
    simp only[go_sem,ν,δ,γ,θ,ζ,reduceCtorEq,bJV,l50,bV h3,WN]
    refine wp_loop (α:=Nat) (fun j=>((PF.nil.set 7 (.bH [.int .i64 s0,.int .i64 s1,.int .i64 s2,.int .i64 s3,.int .i64 s4])).set 9 (.int .i64 j))) (fun _=>.nil) (fun j=>1≤j∧j≤5∧∀ i,1≤i→i<j→within (spR s1 s2 s3 s4 i) 0 8=true) (fun j=>5-j) 1 ⟨by decide,by decide,fun i h1 h2=>by omega⟩ Lq PH.nil_le ?_
    rintro j ⟨hj1,hj5,bJB⟩
    simp only[go_sem,γ,WK,WO]
    by_cases hlt:j<5
    ·have bHR:(j:Int)<5:=by omega
     have hlt5:((j:Nat):Int)<((5:Nat):Int):=by omega
     have hin:=L.inn (spR s1 s2 s3 s4 j) 0 8
     obtain⟨c,hc2⟩:∃ c,within (spR s1 s2 s3 s4 j) 0 8=c:=⟨_,rfl⟩
     rw[hc2] at hin
     have bHS:c=true→∀ i,1≤i→i<j+1→within (spR s1 s2 s3 s4 i) 0 8=true:=fun hc i a b=>by
      by_cases e:i=j
      ·rw[e,hc2,hc]
      ·exact bJB i a Om
     have bad:c=false→X=false:=by
      intro h
      rw[h] at hc2
      have hc:j=1∨j=2∨j=3∨j=4:=by omega
      rw[← hX]
      rcases hc with rfl | rfl | rfl | rfl<;>(simp only[spR] at hc2; rw[hc2]; simp)
     have hc:j=1∨j=2∨j=3∨j=4:=by omega
     cases c with
     | false =>
      have hXf:=bad rfl
      rcases hc with rfl | rfl | rfl | rfl
      all_goals
       simp only[spR] at hin
       simp only[go_sem,δ,γ,θ,ζ,ε,bHR,CM,hlt5]
       refine aA hin rfl ?_
       simp only[go_sem,γ,bKD,WP]
       refine aL (.inr rfl) rfl ?_
       rw[aT,hXf]
     | true =>
      have hs:=bHS rfl
      rcases hc with rfl | rfl | rfl | rfl
      all_goals
       simp only[spR] at hin
       simp only[go_sem,δ,γ,θ,ζ,ε,bHR,CM,hlt5]
       refine aA hin rfl ?_
       simp only[go_sem,γ,bJV,WQ]
       refine aG (_+1) ⟨by omega,hlt,hs⟩ Om Lq PH.le_refl
    ·have bHR:¬ (j:Int)<5:=by omega
     have:j=5:=by omega
     subst this
     simp only[go_sem,ε,bHR,WR]
     refine aL (.inr rfl) rfl ?_
     have a1:=bJB 1 (by decide) (by decide)
     have a2:=bJB 2 (by decide) (by decide)
     have a3:=bJB 3 (by decide) (by decide)
     have a4:=bJB 4 (by decide) (by decide)
     simp only[spR] at a1 a2 a3 a4
     rw[aT,← hX,a1,a2,a3,a4]
     rfl
   ·rw[decide_eq_false h3,bJU] at hX
    simp only[go_sem,ν,δ,γ,θ,ζ,reduceCtorEq,bJV,l50,cI h3,tB]
    refine aL (.inr rfl) rfl ?_
    rw[aT,hX]
theorem oF {x:RF} (h:cJ x=true):x.valid:=by
 unfold cJ mR at h
 unfold RF.valid
 cases hv:cP (val x.num) (val x.den) with
 | true=>rfl
 | false =>
  rw[hv] at h
  simp at h
theorem beH {C:Ctx} (L:aaK C) (x:RF) (hx:x.Ok):CO.wp C (aU SF.res (aE (.bool (cJ x)))) (PF.args [.agg x.cells]) .nil:=by
 have hr:=L.red x hx
 unfold cJ
 simp only[go_sem,δ,γ,CO,axK,axL,SF]
 refine aA hr rfl ?_
 cases he:mR x with
 | error e =>
  have h0:=aJJ he
  simp only[go_sem,δ,γ,frV]
  refine aQ fun o ho=>?_
  simp only[go_sem,δ,γ,reduceCtorEq,zO,bG h0]
  refine aL (.inr rfl) rfl ?_
  rfl
 | ok r =>
  obtain⟨n,a,b⟩:=r
  have ea:=kL a 1
  have eb:=kL b 1
  have da:decide (((nl a:Nat):Int)≤1)=decide (cD a≤32):=decide_eq_decide.2 Om
  have db:decide (((nl b:Nat):Int)≤1)=decide (cD b≤32):=decide_eq_decide.2 Om
  simp only[go_sem,δ,γ,frV]
  refine aQ fun o ho=>?_
  cases n with
  | true =>
   simp only[go_sem,ρ,δ,γ,θ,reduceCtorEq,zO,bJV]
   refine aL (.inr rfl) rfl ?_
   rfl
  | false =>
   simp only[go_sem,ρ,δ,γ,θ,zO,bKD,bJO,aZ,da]
   cases decide (cD a≤32) with
   | false =>
    simp only[go_sem,γ,reduceCtorEq]
    refine aL (.inr rfl) rfl ?_
    rfl
   | true =>
    simp only[go_sem,δ,γ,bJO,aZ,db]
    refine aL (.inr rfl) rfl ?_
    rfl
structure akZ (C:Ctx):Prop extends aaK C where
 small:∀ x:RF,x.Ok→aD C 74 [.agg x.cells] .nil (aE (.bool (cJ x)))
 nums:∀ k m q s0 s1 s2 s3 s4:Int,aD C 72 [.int .i64 k,.int .i64 m,.int .i64 q,.agg [.int .i64 s0,.int .i64 s1,.int .i64 s2,.int .i64 s3,.int .i64 s4]] .nil (aE (.bool (HS k m q s0 s1 s2 s3 s4)))
 sizes:∀ a b c d e f:Nat,aD C 73 [.int .i64 a,.int .i64 b,.int .i64 c,.int .i64 d,.int .i64 e,.int .i64 f] .nil (aE (.bool (nN a b c d e f)))
theorem acZ {l:List RF} {k:Nat} (h:k<l.length):(l.map RF.cells)[k]?=some (l[k]).cells:=by simp[h]
theorem a7B {C:Ctx} (L:akZ C) (l:List RF) (hl:jJ l) (n:Int):yF.wp C (aU EG.res (aE (.bool (decide ((l.length:Int)=n)&&l.all cJ)))) (PF.args [frs l,.int .i64 n]) .nil:=by
 have hf:=hl.fits
 unfold Fits at hf
 simp only[go_sem,γ,reduceCtorEq,yF,ajT,ajU,EG,bJO]
 by_cases h:((l.length:Nat):Int)=n
 ·rw[decide_eq_true h,bKA]
  subst h
  simp only[go_sem,bV (show ((l.length:Nat):Int)=(l.length:Nat) from rfl),ajW]
  refine wp_loop (α:=Nat) (fun k=>(((PF.nil.set 0 (frs l)).set 1 (.int .i64 (l.length:Nat))).set 5 (.int .i64 k))) (fun _=>.nil) (fun k=>k≤l.length∧(l.take k).all cJ=true) (fun k=>l.length-k) 0 ⟨bJY _,rfl⟩ Lq PH.nil_le ?_
  rintro k ⟨hk,ha⟩
  simp only[go_sem,γ,reduceCtorEq,ajS,ajX]
  by_cases hlt:k<l.length
  ·have bHR:(k:Int)<(l.length:Nat):=by omega
   have hs:=L.small l[k] (hl.all _ (bJS hlt))
   simp only[go_sem,δ,γ,reduceCtorEq,bHR,ajY,acZ hlt]
   refine aA hs rfl ?_
   cases hi:cJ l[k] with
   | false =>
    simp only[go_sem,γ,reduceCtorEq,bKD,ajZ]
    refine aL (.inr rfl) rfl ?_
    rw[aT,nE hlt hi]
   | true =>
    have ha2:=bKK.1 (nD hlt ha hi)
    simp only[go_sem,γ,reduceCtorEq,bJV,akA,wZz k]
    exact aG (k+1) ⟨hlt,ha2⟩ Om Lq PH.le_refl
  ·have bHR:¬ (k:Int)<(l.length:Nat):=by omega
   have:k=l.length:=by omega
   subst this
   rw[bKL] at ha
   simp only[go_sem,bHR,akB]
   refine aL (.inr rfl) rfl ?_
   rw[aT,ha]
 ·rw[decide_eq_false h,bJU]
  simp only[go_sem,cI h,ajV]
  refine aL (.inr rfl) rfl ?_
  rfl
structure alA (C:Ctx):Prop extends akZ C where
 smalls:∀ l:List RF,jJ l→∀ n:Int,aD C 75 [frs l,.int .i64 n] .nil (aE (.bool (decide ((l.length:Int)=n)&&l.all cJ)))
theorem IJ (x:RF):(pG x==0)=!cB x:=by
 unfold pG cB
 by_cases h:val x.num=0
 ·simp[h]
 ·cases x.neg<;>simp[h]
def ZG (l:List RF) (m:Int):Bool:=decide ((l.length:Int)=max m 1)&&l.all cJ&&l.all cB
theorem bqI {C:Ctx} (L:alA C) (l:List RF) (hl:jJ l) (m:Int):SD.wp C (aU aPI.res (aE (.bool (ZG l m)))) (PF.args [frs l,.int .i64 m]) .nil:=by
 have hf:=hl.fits
 unfold Fits at hf
 have hs:=L.smalls l hl (max m 1)
 unfold ZG
 simp only[go_sem,γ,reduceCtorEq,SD,a0U,a0V,aPI,max_eq]
 refine aA hs rfl ?_
 cases h:(decide ((l.length:Int)=max m 1)&&l.all cJ) with
 | false =>
  simp only[go_sem,γ,bKD,a0W]
  refine aL (.inr rfl) rfl ?_
  rfl
 | true =>
  rw[bKM] at h
  have bJB:=bKK.1 h.2
  simp only[go_sem,γ,bJV,a0X]
  refine wp_loop (α:=Nat) (fun k=>((PF.nil.set 0 (frs l)).set 5 (.int .i64 k))) (fun _=>.nil) (fun k=>k≤l.length∧(l.take k).all cB=true) (fun k=>l.length-k) 0 ⟨bJY _,rfl⟩ Lq PH.nil_le ?_
  rintro k ⟨hk,ha⟩
  simp only[go_sem,γ,reduceCtorEq,a0T,a0Y,bJO]
  by_cases hlt:k<l.length
  ·have bHR:(k:Int)<(l.length:Nat):=by omega
   have hm:=bJS hlt
   have hg:=L.sign l[k] (hl.all _ hm) (oF (bJB _ hm))
   have hz:=IJ l[k]
   simp only[go_sem,δ,γ,reduceCtorEq,bHR,a0Z,acZ hlt]
   refine aA hg rfl ?_
   cases hi:cB l[k] with
   | false =>
    rw[hi] at hz
    simp only[go_sem,γ,reduceCtorEq,hz,bKD,a1A]
    refine aL (.inr rfl) rfl ?_
    rw[aT,nE hlt hi]
   | true =>
    rw[hi] at hz
    have ha2:=bKK.1 (nD hlt ha hi)
    simp only[go_sem,γ,reduceCtorEq,hz,bJV,a1B,wZz k]
    exact aG (k+1) ⟨hlt,ha2⟩ Om Lq PH.le_refl
  ·have bHR:¬ (k:Int)<(l.length:Nat):=by omega
   have:k=l.length:=by omega
   subst this
   rw[bKL] at ha
   simp only[go_sem,bHR,a1C]
   refine aL (.inr rfl) rfl ?_
   rw[aT,ha]
structure alB (C:Ctx):Prop extends alA C where
 reps:∀ l:List RF,jJ l→∀ m:Int,aD C 66 [frs l,.int .i64 m] .nil (aE (.bool (ZG l m)))
def frD:List PV→RF
 | [.bool n,a,b]=>⟨n,iD a,iD b⟩
 | _=>⟨false,[],[]⟩
theorem apN (x:RF):frD x.cells=x:=by
 show (⟨x.neg,iD (aF x.num),iD (aF x.den)⟩:RF)=x
 rw[dZ,dZ]
def zdS (r s:Bool):Spec:=fun name vs=>match name,vs with
 | 66,_=>some ([],fun _=>aE (.bool r))
 | 74,[.agg cs]=>some ([],fun _=>aE (.bool (cJ (frD cs))))
 | 47,_=>some ([],fun _=>aE (.agg (mkT 1 1).cells))
 | 49,_=>some ([],fun _=>aE (.bool s))
 | _,_=>none
theorem awY (r s:Bool) (x:RF):zdS r s 74 [.agg x.cells]=some ([],fun _=>aE (.bool (cJ x))):=by
 show some ([],fun _=>aE (.bool (cJ (frD x.cells))))=_
 rw[apN]
theorem baH (x y:RF):nK y x=- nK x y:=by
 unfold nK pO
 have e:=aoC (val x.num*val y.den) (val y.num*val x.den)
 cases x.neg&&decide (val x.num≠0)<;>cases y.neg&&decide (val y.num≠0)<;>simp only[e,Int.neg_neg]<;>rfl
theorem bhN {x:RF} (hx:x.valid):decide (nK (mkT 1 1) x<0)=!sF x:=by
 rw[baH x]
 unfold sF
 rw[show cP (val x.num) (val x.den)=true from hx,bKA,DJ]
 unfold nK
 simp only[aS,show (1:Int).natAbs=1 from rfl,show decide ((1:Int)<0)=false from rfl]
 by_cases h:pO x.neg (val x.num) (val x.den) false 1 1≤0
 ·rw[decide_eq_true h,decide_eq_false Om]; rfl
 ·rw[decide_eq_false h,decide_eq_true Om]; rfl
def ML (m:Int) (rep:List RF) (t h:RF):Bool:=ZG rep m&&(cJ t&&(sF t&&cJ h))
theorem bqE {C:Ctx} (L:alB C) (m:Int) (rep:List RF) (hr:jJ rep) (t h:RF) (ht:t.Ok) (hh:h.Ok) :
  RY.wp C (aU aOT.res (aE (.bool (ML m rep t h)))) (PF.args [.int .i64 m,frs rep,.agg t.cells,.agg h.cells]) .nil:=by
 have h1:cW 1:=by unfold cW; omega
 unfold ML
 simp only[go_sem,γ,RY,a0J,aOT]
 refine bP .nil (zdS (ZG rep m) (!sF t)) PH.nil_le ?_
 simp only[go_sem,γ,reduceCtorEq,a0K]
 refine bS rfl (L.reps rep hr m) rfl PH.nil_le ?_
 cases ZG rep m with
 | false =>
  simp only[go_sem,γ,reduceCtorEq]
  refine aL (.inr rfl) rfl ?_
  rfl
 | true =>
  simp only[go_sem,δ,γ]
  refine bS (awY _ _ t) (L.small t ht) rfl PH.nil_le ?_
  cases hl:cJ t with
  | false =>
   simp only[go_sem,γ,reduceCtorEq]
   refine aL (.inr rfl) rfl ?_
   rfl
  | true =>
   have hle:=L.less (mkT 1 1) t (DI 1 h1).1 ht (DI 1 h1).2 (oF hl)
   rw[bhN (oF hl)] at hle
   simp only[go_sem,γ]
   refine bS rfl (L.int 1 h1) rfl PH.nil_le ?_
   simp only[go_sem,δ,γ]
   refine bS rfl hle rfl PH.nil_le ?_
   cases sF t with
   | false =>
    simp only[go_sem,γ,reduceCtorEq,bKD,bJV]
    refine aL (.inr rfl) rfl ?_
    rfl
   | true =>
    simp only[go_sem,δ,γ,bJV,bKD]
    refine bS (awY _ _ h) (L.small h hh) rfl PH.nil_le ?_
    simp only[go_sem,γ]
    refine aL (.inr rfl) rfl ?_
    rfl
theorem brB (p:dB):yZ p=ML p.m p.repair p.target p.bHW:=by
 unfold yZ ML ZG
 have:(p.repair.all fun x=>cJ x&&cB x)=(p.repair.all cJ&&p.repair.all cB):=by
  induction p.repair with
  | nil=>rfl
  | cons a t ih =>
   simp only[List.all_cons,ih]
   cases cJ a<;>cases cB a<;>simp
 rw[this]
 simp only[bMM]
section
variable {H:PH} {B:List BX} {L:List LI}
theorem aR.a1K (h:aR H B L) (i:Nat) {s b:Nat} {v y:PV} {rows src:List (List PV)} {K:PV→PH→Prop} (hi:L[i]?=some (v,s,rows)) (hy:dN H s y=some src) (hr:roomFor rows.length src.length b)
  (hk:∀ v' H',bK H' s v rows→aR H' B (L.set i (v',s,rows++src))→K v' H'):lF H s b v y K:=by
 rcases h.own i hi with ⟨rfl,rfl⟩ | ⟨q,rs,rfl,h1,h2,h3⟩
 ·exact h.append i hi hy hr fun v' H' h' _=>hk v' H' (.inl ⟨rfl,rfl⟩) h'
 ·have hlen:(rows++src).length=rows.length+src.length:=bJW
  refine⟨src,hy,rfl,rfl,hr,rs,h1,h2,?_,fun o ho=>?_⟩
  ·rw[h3]
   refine hk _ _ (.inr ⟨q,rows++src,rfl,by rw[eS],by rw[hlen]; omega,List.take_left' rfl⟩) (h.zG i hi (.inr ⟨q,rows++src,by rw[hlen],by simp only[bM,if_true],bJQ _,bKL⟩) (fun p hp=>by cases hp; exact .inl rfl) fun p _ hp=>?_)
   rw[bM,if_neg (hp q rfl)]
  ·rw[h3]
   have hqo:q≠o:=by rintro rfl; rw[h1] at ho; cases ho
   refine hk _ _ (.inr ⟨q,rs,rfl,by rw[bM,if_neg hqo]; exact h1,h2,h3⟩) (h.zG i hi (.inr ⟨o,rows++src,by rw[hlen],by simp only[bM,if_true],bJQ _,bKL⟩) (fun p hp=>by cases hp; exact .inr ho) fun p hpm hp=>?_)
   obtain⟨f1,f2⟩:=h.fresh ho
   have n1:p≠o:=by rintro rfl; exact hpm.elim f1 f2
   rw[bM,if_neg n1]
end
abbrev kU (l:List (List UInt8)):List (List PV):=l.map fun s=>[PV.str s]
def xF:List (List UInt8)→List UInt8→Nat→Int
 | [],_,_=>-1
 | x::t,s,i=>if x==s then (i:Int) else xF t s (i+1)
theorem aEU (s:List UInt8):∀ (l:List (List UInt8)) (i:Nat),decide (xF l s i<0)=!l.contains s
 | [],i=>rfl
 | x::t,i=>by
  rw[xF,List.contains_cons,BEq.comm (a:=s)]
  by_cases h:(x==s)=true
  ·rw[if_pos h,h,Bool.true_or,decide_eq_false Om]; rfl
  ·rw[if_neg h,aEU s t (i+1)]
   simp only[Bool.not_eq_true] at h
   rw[h,Bool.false_or]
theorem beC {C:Ctx} (l:List (List UInt8)) (hl:l.length≤1000000) (s:List UInt8):CL.wp C (aU SA.res (aE (.int .i64 (xF l s 0)))) (PF.args [.sl 1 (kU l),.str s]) .nil:=by
 simp only[go_sem,CL,axC,axD,SA]
 refine wp_loop (α:=Nat) (fun k=>(((PF.nil.set 0 (.sl 1 (kU l))).set 1 (.str s)).set 5 (.int .i64 k))) (fun _=>.nil) (fun k=>k≤l.length∧xF l s 0=xF (l.drop k) s k) (fun k=>l.length-k) 0 ⟨bJY _,rfl⟩ Lq PH.nil_le ?_
 rintro k ⟨hk,ha⟩
 simp only[go_sem,γ,reduceCtorEq,axB,axE,bJO]
 by_cases hlt:k<l.length
 ·have bHR:(k:Int)<(l.length:Nat):=by omega
  have hat:(kU l)[k]?=some [.str l[k]]:=by simp[hlt]
  rw[bLN hlt,xF] at ha
  cases hc:l[k]==s with
  | true =>
   rw[hc,if_pos rfl] at ha
   simp only[go_sem,γ,reduceCtorEq,bHR,SB,hat,hc,axF]
   refine aL (.inr rfl) rfl ?_
   rw[aT,ha]
  | false =>
   rw[hc,if_neg (by decide)] at ha
   simp only[go_sem,γ,reduceCtorEq,bHR,SB,hat,hc,axG,wZz k]
   exact aG (k+1) ⟨hlt,ha⟩ Om Lq PH.le_refl
 ·have bHR:¬ (k:Int)<(l.length:Nat):=by omega
  have:k=l.length:=by omega
  subst this
  rw[List.drop_length,xF] at ha
  simp only[go_sem,ο,bHR,axH]
  refine aL (.inr rfl) rfl ?_
  rw[aT,ha]
structure alC (C:Ctx):Prop extends alB C where
 name:∀ s:List UInt8,aD C 62 [.str s] .nil (aE (.bool (isName s)))
 index:∀ (l:List (List UInt8)),l.length≤1000000→∀ s:List UInt8,aD C 71 [.sl 1 (kU l),.str s] .nil (aE (.int .i64 (xF l s 0)))
def iH (l:List (List UInt8)) (s:List UInt8):Bool:=isName s&&!l.contains s
def aaI (l:List (List UInt8)) (s:List UInt8) (r:PV) (B:List BX) (L:List LI):Prop:=∃ w',r=.tup [w',.bool (iH l s)]∧B=[]∧L=[(w',1,kU (l++[s]))]
theorem beA {C:Ctx} (L:alC C) (l:List (List UInt8)) (hl:l.length≤1000000) (s:List UInt8) (w:PV) (H:PH) (hH:aR H [] [(w,1,kU l)]) :
  CK.wp C (aU RZ.res (fun r H'=>∃ B' L',aaI l s r B' L'∧aR H' B' L')) (PF.args [w,.str s]) H:=by
 have hix:=L.index l hl s
 have hnm:=L.name s
 have hneg:=aEU s l 0
 have h11:(1:Nat)*1≤16777216:=by decide
 have fin:∀ (F:PF) (H':PH) (w':PV) (b:Bool),F 4=some w'→F 5=some (.bool b)→b=iH l s→aR H' [] [(w',1,kU (l++[s]))]→aU [.tmp 4,.tmp 5] (fun r H'=>∃ B' L',aaI l s r B' L'∧aR H' B' L') .ret F H':=fun F H' w' b f4 f5 e h' =>
  aX (vs:=[w',.bool b]) (.inr rfl) H' (by simp only[go_sem,f4,f5]) PH.le_refl ⟨[],_,⟨w',by rw[e]; rfl,rfl,rfl⟩,h'⟩
 simp only[go_sem,υ,γ,η,ζ,reduceCtorEq,CK,awZ,axA,RZ,h11]
 refine hH.a1K 0 (src:=[[.str s]]) rfl rfl (by unfold roomFor; rw[bJO]; simp only[bKC,maxLen]; omega) fun w' H' hO h'=>?_
 have h'':aR H' [] [(w',1,kU (l++[s]))]:=by
  have e:kU (l++[s])=kU l++[[.str s]]:=by simp[kU]
  rw[e]; exact h'
 refine aA hnm rfl ?_
 cases hn:isName s with
 | false =>
  simp only[go_sem,γ,reduceCtorEq]
  exact fin _ _ w' false rfl rfl (by unfold iH; rw[hn,bJU]) h''
 | true =>
  have hfb:iH l s=!l.contains s:=by unfold iH; rw[hn,bKA]
  rcases hO with ⟨z1,rfl⟩ | ⟨q,rs,rfl,q1,q2,q3⟩
  ·simp only[go_sem,γ,reduceCtorEq]
   rw[z1] at hix
   have hix2:aD C 71 [.aB,.str s] .nil (aE (.int .i64 (xF l s 0))):=hix.args (.cons (.nil 1) (.cons (.refl _) .nil))
   refine aA hix2 rfl ?_
   simp only[go_sem,γ,hneg]
   exact fin _ _ w' _ rfl rfl hfb.symm h''
  ·simp only[go_sem,γ,reduceCtorEq]
   refine CH (vs:=[.osl q 1 0 (kU l).length,.str s]) (.int .i64 (xF l s 0)) ?_ q1 Sq ?_
   ·rw[bLR,bLR,List.map_nil,oA q2,q3]
    exact hix
   simp only[go_sem,γ,hneg]
   exact fin _ _ w' _ rfl rfl hfb.symm h''
theorem bbJ {x:RF} (h:cJ x=true):decide (pG x>0)=cB x:=by
 have hv:=oF h
 unfold cJ mR at h
 rw[show cP (val x.num) (val x.den)=true from hv,if_pos rfl,YF hv] at h
 unfold pG cB
 by_cases h0:val x.num=0
 ·simp[h0]
 ·have hq:val x.num/bJT (val x.num) (val x.den)≠0:=by
   have:=Nat.div_pos (Nat.gcd_le_left (val x.den) (bLW h0)) (Nat.gcd_pos_of_pos_left _ (bLW h0))
   omega
  have hn:x.neg=false:=by
   unfold kZ at h
   simp only[hq,ne_eq,not_false_eq_true,decide_true,bLP,bKM] at h
   simpa using h.1
  rw[if_neg h0,hn]
  simp[h0]
structure ayU (l:cN):Prop where
 exit:∀ x∈l.exit,cJ x=true
 row:∀ r∈l.bHP,∀ x∈r,cJ x=true
structure nS (C:Ctx):Prop extends alC C where
 fresh:∀ (l:List (List UInt8)),l.length≤1000000→∀ (s:List UInt8) (w:PV) (H:PH),aR H [] [(w,1,kU l)]→aD C 70 [w,.str s] H (fun r H'=>∃ B' L',aaI l s r B' L'∧aR H' B' L')
theorem nS.pos {C:Ctx} (L:nS C) {x:RF} (hx:x.Ok) (h:cJ x=true):∃ n:Int,aD C 54 [.agg x.cells] .nil (aE (.int .i64 n))∧decide (n>0)=cB x:=⟨_,L.sign x hx (oF h),bbJ h⟩
def zlF (l:cN) (o r i:Nat):PF:=(((((PF.nil.set 1 (.bH l.cells)).set 3 (.int .i64 (l.exit.length:Nat))).set 7 (.osl o 1 0 l.exit.length)).set 8 (.int .i64 r)).set 9 (.int .i64 i))
theorem bkA {C:Ctx} (L:nS C) (l:cN) (o r i:Nat) (row:List RF) (hri:(l.bHP.map fun r=>[frs r])[i]?=some [frs row]) (bHX:jJ row) (hlim:∀ x∈row,cJ x=true) (hrl:row.length=l.exit.length) (hi:i<l.exit.length) (hn:l.exit.length≤4) (R1:List Bool) (hR:R1.length=l.exit.length) (K:cQ) [Up K] (F:PF) (H:PH)
  (hF:((zlF l o r i).set 10 (.int .i64 0)).le F) (hH:(gJ o R1).le H)
  (hK:K (.exit 6) (zlF l o r i) (gJ o (cS R1 i row row.length))):aC.wp C (.loop KC) K F H:=by
 refine wp_loop (α:=Nat) (fun k=>(zlF l o r i).set 10 (.int .i64 k)) (fun k=>gJ o (cS R1 i row k)) (fun k=>k≤row.length) (fun k=>row.length-k) 0 (bJY _) hF hH ?_
 intro k hk
 have hlen:=rH R1 i row k
 have hstep':∀ h:k<row.length,cS R1 i row (k+1)=(cS R1 i row k).set i ((cS R1 i row k).getD i false||cB row[k]&&(cS R1 i row k).getD k false):=fun h=>by
  simp only[cS,bKH,bKS,bJZ h,bKX,bMK]
 have fin:∀ (b:Bool) (F:PF) (H:PH),k<row.length→fU (cS R1 i row (k+1))=(fU (cS R1 i row k)).set i [.bool b]→((zlF l o r i).set 10 (.int .i64 (k+1:Nat))).le F→H o=some (.rows 1 ((fU (cS R1 i row k)).set i [.bool b])) →
   eE (fun k:Nat=>(zlF l o r i).set 10 (.int .i64 k)) (fun k=>gJ o (cS R1 i row k)) (fun k=>k≤row.length) (fun k=>row.length-k) (row.length-k) K .normal F H:=by
  intro b F H hlt hb hF hH
  refine aG (k+1) hlt Om hF ?_
  rw[← hb] at hH
  exact PH.aI PH.nil_le hH
 unfold zlF gJ at fin
 simp only[go_sem,γ,KC,aPC,zlF,gJ]
 by_cases hlt:k<row.length
 ·have bHR:(k:Int)<(l.exit.length:Nat):=by omega
  have hi':(i:Int)<(l.exit.length:Nat):=by omega
  have hat:=pJ (R:=cS R1 i row k) (i:=i) Om
  have hatk:=pJ (R:=cS R1 i row k) (i:=k) Om
  have bHS:=hstep' hlt
  obtain⟨n,hsn,hpos⟩:=L.pos (bHX.all _ (bJS hlt)) (hlim _ (bJS hlt))
  have hfr:=acZ hlt
  generalize hb:(cS R1 i row k).getD i false=b at *
  generalize hc:(cS R1 i row k).getD k false=c at *
  generalize hA:cB row[k]=A at *
  cases b with
  | true =>
   simp only[go_sem,γ,bHR,aaC,hi',bKN,hat,KD,wZz k]
   exact fin true _ _ hlt (by rw[bHS,kP,Bool.true_or]) Lq Sq
  | false =>
   simp only[go_sem,δ,γ,θ,bHR,aaC,hi',bKN,hat,hri,hfr]
   refine aA hsn rfl ?_
   cases A with
   | false =>
    simp only[go_sem,γ,reduceCtorEq,hpos,hi',bHR,bKN,hat,hatk,KD,wZz k]
    exact fin false _ _ hlt (by rw[bHS,kP,Bool.false_or,bJU]) Lq Sq
   | true =>
    simp only[go_sem,γ,reduceCtorEq,hpos,hi',bHR,bKN,hat,hatk,KD,wZz k]
    exact fin c _ _ hlt (by rw[bHS,kP,Bool.false_or,bKA]) Lq Sq
 ·have bHR:¬ (k:Int)<(l.exit.length:Nat):=by omega
  have:k=row.length:=by omega
  subst this
  simp only[go_sem,bHR]
  refine Up.up ?_ hK
  (repeat' (first|exact PF.nil_le|refine PF.aI ?_ ?_))<;>first|(simp only[go_sem,γ,zlF]<;>rfl)|rfl
theorem bkC {C:Ctx} (L:nS C) (l:cN) (hl:l.Ok) (he:yG l) (hm:ayU l) (o r:Nat) (R:List Bool) (hR:R.length=l.exit.length) (K:cQ) [Up K] (F:PF) (H:PH)
  (hF:(zlF l o r 0).le F) (hH:(gJ o R).le H)
  (hK:K (.exit 4) (zlF l o r l.exit.length) (gJ o (cZ l R l.exit.length))):aC.wp C (.loop ZV) K F H:=by
 refine wp_loop (α:=Nat) (fun i=>zlF l o r i) (fun i=>gJ o (cZ l R i)) (fun i=>i≤l.exit.length) (fun i=>l.exit.length-i) 0 (bJY _) hF hH ?_
 intro i hi
 have hlen:=oL l R i
 have hn:=he.n
 simp only[go_sem,γ,ZV,aPB,zlF,gJ]
 by_cases hlt:i<l.exit.length
 ·have bHR:(i:Int)<(l.exit.length:Nat):=by omega
  have hir:i<l.bHP.length:=by rw[he.bHP]; exact hlt
  have hat:=pJ (R:=cZ l R i) (i:=i) Om
  have hx:=acZ hlt
  have bHX:(l.bHP.map fun r=>[frs r])[i]?=some [frs l.bHP[i]]:=by simp[hir]
  have hrl:(l.bHP[i]).length=l.exit.length:=he.row _ (bJS hir)
  generalize hR1:(cZ l R i).set i ((cZ l R i).getD i false||cB l.exit[i])=R1
  have hR1l:R1.length=l.exit.length:=by rw[← hR1,bLO]; omega
  have bHS:cZ l R (i+1)=cS R1 i l.bHP[i] (l.bHP[i]).length:=by
   simp only[cZ,xO]
   have e1:(l.exit.map cB).getD i false=cB l.exit[i]:=by simp[bKH,hlt]
   have e2:l.bHP.getD i []=l.bHP[i]:=by simp[bKH,hir]
   rw[e1,e2,hR1]
  obtain⟨n,hsn,hpos⟩:=L.pos (hl.exit.all _ (bJS hlt)) (hm.exit _ (bJS hlt))
  have rest:∀ (F:PF) (H:PH),(zlF l o r i).le F→H o=some (.rows 1 (fU R1)) →
    aC.wp C (.seq (.region aaB) (.block 6 (.loop KC))) (dW 5 (iV C (aC.wp C (.region aaD)) (eE (fun i:Nat=>zlF l o r i) (fun i=>gJ o (cZ l R i)) (fun i=>i≤l.exit.length) (fun i=>l.exit.length-i) (l.exit.length-i) K))) F H:=by
   intro F H hF hH
   refine tA _ (fun _ _ _ _ a b=>Up.up a b) hF ?_
   simp only[go_sem,aaB]
   refine bkA L l o r i l.bHP[i] bHX (hl.row _ (bJS hir)) (hm.row _ (bJS hir)) hrl hlt hn R1 hR1l _ _ _ (by (repeat' (first|exact PF.nil_le|refine PF.aI ?_ ?_))<;>first|(simp only[go_sem,γ,zlF]<;>rfl)|rfl) (PH.aI PH.nil_le hH) ?_
   simp only[go_sem,γ,zlF,aaD,wZz i]
   exact aG (i+1) hlt Om Lq (by rw[bHS]; exact PH.le_refl)
  simp only[zlF,gJ] at rest
  have rest':=rest
  simp only[aC.wp,go_sem] at rest'
  generalize hb:(cZ l R i).getD i false=b at *
  cases b with
  | true =>
   simp only[go_sem,γ,bHR,aaA,bHR,bKN,hat]
   refine rest' _ _ Lq ?_
   rw[← hR1]
   simp only[go_sem,kP,Bool.true_or]
  | false =>
   simp only[go_sem,δ,γ,bHR,aaA,bHR,bKN,hat,hx]
   refine aA hsn rfl ?_
   simp only[go_sem,γ,reduceCtorEq,bHR,bKN,hat,hpos]
   refine rest' _ _ Lq ?_
   rw[← hR1]
   simp only[go_sem,kP,Bool.false_or]
 ·have bHR:¬ (i:Int)<(l.exit.length:Nat):=by omega
  have:i=l.exit.length:=by omega
  subst this
  simp only[go_sem,bHR]
  exact Up.up (by (repeat' (first|exact PF.nil_le|refine PF.aI ?_ ?_))<;>first|(simp only[go_sem,γ,zlF]<;>rfl)|rfl) hK
theorem bkB {C:Ctx} (L:nS C) (l:cN) (hl:l.Ok) (he:yG l) (hm:ayU l) (o:Nat) (K:cQ) [Up K] (F:PF) (H:PH)
  (hF:(((((PF.nil.set 1 (.bH l.cells)).set 3 (.int .i64 (l.exit.length:Nat))).set 7 (.osl o 1 0 l.exit.length)).set 8 (.int .i64 0)):PF).le F) (hH:(gJ o (dJ l 0)).le H)
  (hK:K (.exit 2) (((PF.nil.set 3 (.int .i64 (l.exit.length:Nat))).set 7 (.osl o 1 0 l.exit.length))) (gJ o (dJ l l.exit.length))):aC.wp C (.loop ZW) K F H:=by
 have hn:=he.n
 refine wp_loop (α:=Nat) (fun r=>((((PF.nil.set 1 (.bH l.cells)).set 3 (.int .i64 (l.exit.length:Nat))).set 7 (.osl o 1 0 l.exit.length)).set 8 (.int .i64 r))) (fun r=>gJ o (dJ l r)) (fun r=>r≤l.exit.length) (fun r=>l.exit.length-r) 0 (bJY _) hF hH ?_
 intro r hr
 have hlen:=oK l r
 simp only[go_sem,γ,ZW,aOZ]
 by_cases hlt:r<l.exit.length
 ·have bHR:(r:Int)<(l.exit.length:Nat):=by omega
  simp only[go_sem,bHR,aPA]
  refine bkC L l hl he hm o r (dJ l r) hlen _ _ _ (by (repeat' (first|exact PF.nil_le|refine PF.aI ?_ ?_))<;>first|(simp only[go_sem,γ,zlF]<;>rfl)|rfl) PH.le_refl ?_
  simp only[go_sem,γ,zlF,aPD,wZz r]
  exact aG (r+1) hlt Om Lq PH.le_refl
 ·have bHR:¬ (r:Int)<(l.exit.length:Nat):=by omega
  have:r=l.exit.length:=by omega
  subst this
  simp only[go_sem,bHR]
  exact Up.up Lq hK
theorem btA {C:Ctx} (R:List Bool) (hR:R.length≤4) (o:Nat) (X:Bool) (hX:X=R.all id) (Q:PV→PH→Prop) (hQ:Q=aE (.bool X)) (F:PF) (H:PH)
  (hF:((((PF.nil.set 3 (.int .i64 (R.length:Nat))).set 7 (.osl o 1 0 R.length)).set 11 (.int .i64 0)):PF).le F) (hH:(gJ o R).le H):aC.wp C (.loop ZX) (dW 8 (iV C (aC.wp C (.seq (.region aaF) .ret)) (aU [.tmp 2] Q))) F H:=by
 subst hX hQ
 refine wp_loop (α:=Nat) (fun k=>(((PF.nil.set 3 (.int .i64 (R.length:Nat))).set 7 (.osl o 1 0 R.length)).set 11 (.int .i64 k))) (fun _=>gJ o R) (fun k=>k≤R.length∧(R.take k).all id=true) (fun k=>R.length-k) 0 ⟨bJY _,rfl⟩ hF hH ?_
 rintro k ⟨hk,ha⟩
 simp only[go_sem,γ,ZX,aPF,gJ]
 by_cases hlt:k<R.length
 ·have bHR:(k:Int)<(R.length:Nat):=by omega
  have hat:=pJ (R:=R) (i:=k) hlt
  have hg:R.getD k false=R[k]:=by simp[bKH,hlt]
  rw[hg] at hat
  cases hc:R[k] with
  | false =>
   rw[hc] at hat
   simp only[go_sem,γ,bHR,aaE,bKN,hat,bKD,aPG]
   refine aL (.inr rfl) rfl ?_
   rw[aT,nE hlt (p:=id) hc]
  | true =>
   rw[hc] at hat
   have ha2:=nD hlt ha (p:=id) hc
   simp only[go_sem,γ,bHR,aaE,bKN,hat,bJV,aPH,wZz k]
   exact aG (k+1) ⟨hlt,by simpa using bKK.1 ha2⟩ Om Lq PH.le_refl
 ·have bHR:¬ (k:Int)<(R.length:Nat):=by omega
  have:k=R.length:=by omega
  subst this
  rw[bKL] at ha
  simp only[go_sem,bHR,aaF]
  refine aL (.inr rfl) rfl ?_
  rw[aT,ha]
def Marks (R S:List Bool):Prop:=R.length=S.length∧∀ j:Nat,R[j]?=some true→S[j]?=some true
theorem Marks.bsM (R:List Bool):Marks R R:=⟨rfl,fun _ h=>h⟩
theorem Marks.trans {R S T:List Bool} (h:Marks R S) (k:Marks S T):Marks R T:=⟨h.1.trans k.1,fun j a=>k.2 j (h.2 j a)⟩
theorem aFQ (R:List Bool) (i:Nat) (b:Bool):Marks R (R.set i (R.getD i false||b)):=by
 refine⟨by rw[bLO],fun j h=>?_⟩
 rw[List.getElem?_set]
 obtain⟨hj,he⟩:=bKY.1 h
 split
 ·rename_i e
  subst e
  rw[if_pos hj,bKH,h]
  rfl
 ·exact h
theorem aqT (R:List Bool) (i:Nat) (row:List RF):∀ k,Marks R (cS R i row k)
 | 0=>Marks.bsM R
 | k+1=>(aqT R i row k).trans (aFQ _ _ _)
theorem AJ (l:cN) (R:List Bool):∀ i,Marks R (cZ l R i)
 | 0=>Marks.bsM R
 | i+1=>(AJ l R i).trans ((aFQ _ _ _).trans (aqT _ _ _ _))
theorem aFR:∀ {R S:List Bool},Marks R S→R≠S→R.count true<S.count true
 | [],[],_,h=>absurd rfl h
 | [],_::_,h,_=>by have:=h.1; simp at this
 | _::_,[],h,_=>by have:=h.1; simp at this
 | a::R,b::S,h,hne=>by
  have h0:a=true→b=true:=fun e=>by
   have:=h.2 0 (by rw[e]; rfl)
   simpa using this
  have ht:Marks R S:=⟨by have:=h.1; simpa using this,fun j hj=>by have:=h.2 (j+1) (by simpa using hj); simpa using this⟩
  by_cases e:R=S
  ·subst e
   have:a≠b:=fun e=>hne (by rw[e])
   cases a<;>cases b<;>simp at this h0 ⊢
  ·have:=aFR ht e
   cases a<;>cases b<;>simp at h0 ⊢<;>omega
theorem abA:∀ {R:List Bool},R.length≤R.count true→R.all id=true
 | [],_=>rfl
 | a::R,h=>by
  have h1:=List.count_le_length (a:=true) (l:=R)
  cases a with
  | true =>
   simp only[List.count_cons_self,bLG] at h
   simp only[List.all_cons,id,bKA]
   exact abA Om
  | false =>
   simp at h
   omega
theorem IC (l:cN) {s:Nat} (h:dJ l (s+1)=dJ l s):∀ d,dJ l (s+d)=dJ l s
 | 0=>rfl
 | d+1=>by
  show cZ l (dJ l (s+d)) l.exit.length=_
  rw[IC l h d]
  exact h
theorem afI (l:cN):∀ r,(∃ s,s<r∧dJ l (s+1)=dJ l s)∨r≤(dJ l r).count true
 | 0=>.inr (bJY _)
 | r+1=>by
  rcases afI l r with ⟨s,h1,h2⟩ | h
  ·exact .inl ⟨s,by omega,h2⟩
  ·by_cases e:dJ l (r+1)=dJ l r
   ·exact .inl ⟨r,by omega,e⟩
   ·have:=aFR (AJ l (dJ l r) l.exit.length) (fun h=>e h.symm)
    exact .inr (by show r+1≤(cZ l (dJ l r) l.exit.length).count true; omega)
theorem blS (l:cN):uR l=(dJ l l.exit.length).all id:=by
 unfold uR
 rcases afI l l.exit.length with ⟨s,h1,h2⟩ | h
 ·obtain⟨d,hd⟩:∃ d,l.exit.length=s+d:=⟨l.exit.length-s,by omega⟩
  rw[show l.exit.length+1=s+(d+1) by omega,hd,IC l h2,IC l h2]
 ·have hf:(dJ l l.exit.length).all id=true:=abA (by rw[oK]; exact h)
  have hm:Marks (dJ l l.exit.length) (dJ l (l.exit.length+1)):=AJ l (dJ l l.exit.length) l.exit.length
  rw[hf,bKK]
  intro x hx
  obtain⟨j,hj,rfl⟩:=bLV hx
  have hj2:j<(dJ l l.exit.length).length:=by rw[hm.1]; exact hj
  have:=hm.2 j (by
   rw[bJZ hj2]
   have:=bKK.1 hf _ (bJS hj2)
   simpa using this)
  rw[bJZ hj] at this
  simpa using this
def zsS (s:Bool):Spec:=fun name vs=>match name,vs with
 | 47,_=>some ([],fun _=>aE (.agg (mkT 1 1).cells))
 | 53,_=>some ([],fun _=>aE (.bool s))
 | _,_=>none
theorem bgU (l:cN):kC l=(within l.start.length 1 4&&((decide ((l.start.length:Int)=l.start.length)&&l.start.all cJ)&&((decide ((l.exit.length:Int)=l.start.length)&&l.exit.all cJ)&&(decide (l.bHP.length=l.start.length)&&((bJP l.bHP.length).all (pP l)&&(sL l&&uR l)))))):=by
 rw[aUF,decide_eq_true (rfl:(l.start.length:Int)=l.start.length),bKA]
 have:decide (l.exit.length=l.start.length)=decide ((l.exit.length:Int)=l.start.length):=decide_eq_decide.2 Om
 rw[this]
 cases within l.start.length 1 4<;>cases decide ((l.exit.length:Int)=l.start.length)<;>cases decide (l.bHP.length=l.start.length)<;>cases l.start.all cJ<;>cases l.exit.all cJ<;>simp[bMM]
theorem aJP (l:cN) {i:Nat} (h:i<l.bHP.length):pP l i=((decide (((l.bHP[i]).length:Int)=l.start.length)&&(l.bHP[i]).all cJ)&&!((l.bHP[i]).map cB).getD i false):=by
 unfold pP
 have:l.bHP.getD i []=l.bHP[i]:=by simp[bKH,h]
 rw[this]
 have:decide ((l.bHP[i]).length=l.start.length)=decide (((l.bHP[i]).length:Int)=l.start.length):=decide_eq_decide.2 Om
 rw[this]
theorem bqG {C:Ctx} (L:nS C) (l:cN) (hl:l.Ok):SC.wp C (aU aOV.res (aE (.bool (kC l)))) (PF.args [.agg l.cells]) .nil:=by
 have hX:=bgU l
 have fail:∀ (F:PF) (H:PH),kC l=false→F 2=some (.bool false)→aU [.tmp 2] (aE (.bool (kC l))) .ret F H:=fun F H e h=>by
  rw[e]
  exact aX (vs:=[.bool false]) (.inr rfl) .nil (by simp only[go_sem,h]) PH.nil_le ⟨rfl,rfl⟩
 have e1:=L.smalls l.start hl.start l.start.length
 have e2:=L.smalls l.exit hl.exit l.start.length
 simp only[go_sem,δ,γ,θ,SC,a0M,a0N,aOV,bJO,a0O]
 by_cases c1:((l.start.length:Nat):Int)<1
 ·simp only[go_sem,γ,c1,wM]
  exact fail _ _ (by rw[hX,show within l.start.length 1 4=false from by unfold within; rw[decide_eq_false Om,bJU],bJU]) rfl
 by_cases c2:((l.start.length:Nat):Int)>4
 ·simp only[go_sem,γ,reduceCtorEq,c1,c2,wM]
  exact fail _ _ (by rw[hX,show within l.start.length 1 4=false from by unfold within; rw[decide_eq_false (Om:¬ ((l.start.length:Nat):Int)≤4),bLA],bJU]) rfl
 rw[show within l.start.length 1 4=true from by unfold within; rw[decide_eq_true (Om:(1:Int)≤(l.start.length:Nat)),decide_eq_true (Om:((l.start.length:Nat):Int)≤4)]; rfl,bKA] at hX
 simp only[go_sem,δ,γ,θ,reduceCtorEq,c1,c2]
 refine aA e1 rfl ?_
 cases k1:(decide ((l.start.length:Int)=l.start.length)&&l.start.all cJ) with
 | false =>
  rw[k1,bJU] at hX
  simp only[go_sem,γ,reduceCtorEq,bKD,wM]
  exact fail _ _ hX rfl
 | true =>
 rw[k1,bKA] at hX
 simp only[go_sem,γ,reduceCtorEq,bJV]
 refine aA e2 rfl ?_
 cases k2:(decide ((l.exit.length:Int)=l.start.length)&&l.exit.all cJ) with
 | false =>
  rw[k2,bJU] at hX
  simp only[go_sem,γ,reduceCtorEq,bKD,wM]
  exact fail _ _ hX rfl
 | true =>
 rw[k2,bKA] at hX
 rw[bKM,decide_eq_true_eq] at k2
 have hxl:l.exit.length=l.start.length:=by omega
 have hxlim:=bKK.1 k2.2
 by_cases c3:l.bHP.length=l.start.length
 case neg =>
  rw[decide_eq_false c3,bJU] at hX
  simp only[go_sem,δ,γ,θ,reduceCtorEq,bJV,bJO,cI (Om:((l.bHP.length:Nat):Int)≠(l.start.length:Nat)),wM]
  exact fail _ _ hX rfl
 rw[decide_eq_true c3,bKA] at hX
 simp only[go_sem,δ,γ,θ,reduceCtorEq,bJV,bJO,bV (Om:((l.bHP.length:Nat):Int)=(l.start.length:Nat)),a0P]
 refine wp_loop (α:=Nat) (fun i=>(((PF.nil.set 1 (.bH l.cells)).set 3 (.int .i64 (l.start.length:Nat))).set 4 (.int .i64 i))) (fun _=>.nil) (fun i=>i≤l.start.length∧∀ j,j<i→pP l j=true) (fun i=>l.start.length-i) 0 ⟨bJY _,fun j h=>by omega⟩ Lq PH.nil_le ?_
 rintro i ⟨hi,bJB⟩
 simp only[go_sem,γ,a0L,a0Q]
 by_cases hlt:i<l.start.length
 ·have bHR:(i:Int)<(l.start.length:Nat):=by omega
  have hir:i<l.bHP.length:=by omega
  have bHX:(l.bHP.map fun r=>[frs r])[i]?=some [frs l.bHP[i]]:=by simp[hir]
  have hro:=hl.row _ (bJS hir)
  have e3:=L.smalls l.bHP[i] hro l.start.length
  have hrp:=aJP l hir
  have bad:pP l i=false→kC l=false:=fun h=>by
   rw[hX,show (bJP l.bHP.length).all (pP l)=false from List.all_eq_false.2 ⟨i,bKZ.2 hir,by simp[h]⟩,bJU]
  simp only[go_sem,δ,γ,θ,bHR,a0R,bHX]
  refine aA e3 rfl ?_
  cases k3:(decide (((l.bHP[i]).length:Int)=l.start.length)&&(l.bHP[i]).all cJ) with
  | false =>
   rw[k3,bJU] at hrp
   simp only[go_sem,γ,bKD,anZ]
   exact fail _ _ (bad hrp) rfl
  | true =>
   rw[k3,bKA] at hrp
   rw[bKM,decide_eq_true_eq] at k3
   have hrl:(l.bHP[i]).length=l.start.length:=by omega
   have hik:i<(l.bHP[i]).length:=by omega
   have hm:=bJS hik
   have hs:=L.sign _ (hro.all _ hm) (oF (bKK.1 k3.2 _ hm))
   have hz:=IJ (l.bHP[i])[i]
   have hg:((l.bHP[i]).map cB).getD i false=cB (l.bHP[i])[i]:=by simp[bKH,hik]
   rw[hg] at hrp
   have hz2:(pG (l.bHP[i])[i] != 0)=cB (l.bHP[i])[i]:=by
    rw[bne,hz,Bool.not_not]
   simp only[go_sem,δ,γ,θ,bJV,bHX,acZ hik]
   refine aA hs rfl ?_
   cases k4:cB (l.bHP[i])[i] with
   | true =>
    rw[k4] at hrp hz2
    simp only[go_sem,γ,reduceCtorEq,hz2,anZ]
    exact fail _ _ (bad hrp) rfl
   | false =>
    rw[k4] at hrp hz2
    simp only[go_sem,γ,reduceCtorEq,hz2,a0S,wZz i]
    exact aG (i+1) ⟨hlt,fun j hj=>by
     by_cases e:j=i
     ·rw[e]; exact hrp
     ·exact bJB j Om⟩ Om Lq PH.le_refl
 ·have bHR:¬ (i:Int)<(l.start.length:Nat):=by omega
  have:i=l.start.length:=by omega
  subst this
  have hrows:(bJP l.bHP.length).all (pP l)=true:=bKK.2 fun j hj=>bJB j (by rw[← c3]; exact bKZ.1 hj)
  rw[hrows,bKA] at hX
  have hrr:∀ r∈l.bHP,r.length=l.start.length∧∀ x∈r,cJ x=true:=fun r hr=>by
   obtain⟨j,hj,rfl⟩:=bLV hr
   have h:=bJB j Om
   rw[aJP l hj,bKM,bKM,decide_eq_true_eq] at h
   exact⟨by omega,bKK.1 h.1.2⟩
  have hlim:ayU l:=⟨hxlim,fun r hr=>(hrr r hr).2⟩
  have hend:yG l:=⟨by omega,by omega,fun r hr=>by rw[(hrr r hr).1,hxl]⟩
  have hsum:=L.sum l.start hl.start.all hl.start.fits
  simp only[go_sem,δ,γ,θ,bHR,aOW]
  refine aA hsum rfl ?_
  cases hE:nP (l.start.map RF.v) with
  | error e =>
   have he0:=aKZ hE
   have:sL l=false:=by unfold sL; rw[hE]
   rw[this,bJU] at hX
   simp only[go_sem,δ,γ,frV]
   refine aQ fun o ho=>?_
   simp only[go_sem,δ,γ]
   refine bP .nil dX PH.nil_le ?_
   simp only[go_sem,γ,ZY,cI he0,ZZ]
   exact fail _ _ hX rfl
  | ok r =>
   have hrok:=aXR hE
   have hrv:=afY hE
   obtain⟨n,a,b⟩:=r
   have h1:cW 1:=by unfold cW; omega
   have hsame:=L.same (FV.rf (n,a,b)) (mkT 1 1) hrok (DI 1 h1).1 (by unfold RF.valid FV.rf; simp only[aS]; exact hrv) (DI 1 h1).2
   have hP:sL l=(nK (FV.rf (n,a,b)) (mkT 1 1)==0):=by
    unfold sL
    rw[hE,DJ]
    unfold nK FV.rf
    simp only[aS,show (1:Int).natAbs=1 from rfl,show decide ((1:Int)<0)=false from rfl]
    by_cases h:pO n a b false 1 1=0<;>simp[h]
   simp only[go_sem,δ,γ,frV]
   refine aQ fun o ho=>?_
   have hH:aR (PH.nil.set o (.rows 3 [(FV.rf (n,a,b)).cells])) [(o,.rows 3 [(FV.rf (n,a,b)).cells])] []:=aR.nil.new (H:=PH.nil) rfl _
   simp only[go_sem,δ,γ]
   refine bP (PH.nil.set o (.rows 3 [(FV.rf (n,a,b)).cells])) (zsS (nK (FV.rf (n,a,b)) (mkT 1 1)==0)) PH.le_refl ?_
   simp only[go_sem,δ,γ,ZY,bV (show (0:Int)=0 from rfl)]
   refine bS rfl (L.int 1 h1) rfl PH.le_refl ?_
   simp only[go_sem,γ]
   refine bS rfl hsame rfl PH.le_refl ?_
   rw[← hP]
   cases hp:sL l with
   | false =>
    rw[hp,bJU] at hX
    simp only[go_sem,γ,reduceCtorEq,bKD,ZZ]
    exact fail _ _ hX rfl
   | true =>
    rw[hp,bKA,blS] at hX
    have hb1:((l.start.length:Nat):Int)*((1:Nat):Int)≤140737488355328:=by omega
    have hb2:((l.start.length:Nat):Int)≤9223372036854775807:=by omega
    simp only[go_sem,γ,reduceCtorEq,bJV,aOX,hb1,hb2]
    refine aQ fun q hq=>?_
    simp only[go_sem,γ,aOY]
    have hz0:bJR l.start.length [PV.bool false]=fU (dJ l 0):=by
     rw[← hxl]
     simp[dJ,fU]
    rw[← hxl]
    refine bkB L l hl hend hlim q _ _ _ Lq ?_ ?_
    ·refine PH.aI PH.nil_le ?_
     rw[eS,hxl,hz0]
    simp only[go_sem,aPE]
    have hn4:(dJ l l.exit.length).length≤4:=by rw[oK]; omega
    refine btA (dJ l l.exit.length) hn4 q (kC l) hX _ rfl _ _ ?_ PH.le_refl
    rw[oK]
    exact Lq
structure pV (C:Ctx):Prop extends nS C where
 law:∀ l:cN,l.Ok→aD C 68 [.agg l.cells] .nil (aE (.bool (kC l)))
def okL (base ns:List (List UInt8)) (P:Nat→Bool) (i:Nat):Bool:=iH (base++ns.take i) (ns.getD i [])&&P i
theorem pI {p:Nat→Bool} (k:Nat) (b:Bool):(b&&(bJP (k+1)).all p)=((b&&(bJP k).all p)&&p k):=by
 rw[List.range_succ,List.all_append]
 cases (bJP k).all p<;>cases b<;>simp
theorem pH {p:Nat→Bool} {b:Bool} {i n:Nat} (hi:i≤n) (h:(b&&(bJP i).all p)=false):(b&&(bJP n).all p)=false:=by
 cases b with
 | false=>rfl
 | true =>
  rw[bKA] at h ⊢
  obtain⟨x,hx,hp⟩:=List.all_eq_false.1 h
  exact List.all_eq_false.2 ⟨x,bKZ.2 (by have:=bKZ.1 hx; omega),hp⟩
structure gE (H:PH) (w:PV) (base ns:List (List UInt8)) (c:Bool) (i:Nat):Prop where
 ex:∃ names,aR H [] [(w,1,kU names)]∧(c=true→names=base++ns.take i)
section
variable {C:Ctx} {F:PF} {H:PH} {d:Option Nat} {K:PF→PH→Prop}
theorem gE.call (L:nS C) {w:PV} {base ns:List (List UInt8)} {i:Nat} {B:List BX} {names:List (List UInt8)} (h:aR H B [(w,1,kU names)]) (hl:base.length≤1000) (hi:i≤1000) (hn:names=base++ns.take i) (hin:i<ns.length) {a b:Nat} (bJD:aP.evs F [.tmp a,.tmp b]=some [w,.str ns[i]])
  (hk:∀ w' H',aR H' B [(w',1,kU (names++[ns[i]]))]→gE H' w' base ns true (i+1)→K (F.put d (.tup [w',.bool (iH (base++ns.take i) (ns.getD i []))])) H'):fW C 70 [.tmp a,.tmp b] [] d K F H:=by
 refine WI (B1:=[]) (B2:=B) (L1:=[(w,1,kU names)]) (L2:=[]) (Q:=aaI names ns[i]) h (fun H0 h0=>L.fresh names (by rw[hn,bJW,bKG]; omega) ns[i] w H0 h0) bJD ?_
 rintro r B' L' H' ⟨w',rfl,rfl,rfl⟩ h'
 have hgd:ns.getD i []=ns[i]:=by simp[bKH,hin]
 rw[hgd,← hn] at hk
 refine hk w' H' h' ⟨names++[ns[i]],h'.sub (List.nil_sublist _) (bLU.refl _),fun _=>?_⟩
 rw[bLL hin,← bKP,hn]
end
theorem gE.anY {H:PH} {w:PV} {base ns:List (List UInt8)} {c:Bool} {i:Nat} (h:gE H w base ns true i):gE H w base ns c i:=by
 obtain⟨names,h1,h3⟩:=h.ex
 exact⟨names,h1,fun _=>h3 rfl⟩
def HB (f:aJ):Bool:=(bJP f.bHT.length).all (okL [] (f.bHT.map cN.name) fun i=>(f.bHT.map kC).getD i false)
theorem bqL {C:Ctx} (L:pV C) (f:aJ) (hf:f.Ok) (hs:f.bHT.length≤4) (K:cQ) [Up K] (F:PF) (H:PH)
  (hF:(((((((((PF.nil.set 1 (.bH f.cells)).set 3 (.aB)).set 4 (.aB)).set 5 (.aB)).set 6 (.aB)).set 7 (.aB)).set 8 (.bool true)).set 9 (.int .i64 0)):PF).le F)
  (hK:∀ H',K (.exit 0) (((((((PF.nil.set 1 (.bH f.cells)).set 4 (.aB)).set 5 (.aB)).set 6 (.aB)).set 7 (.aB)).set 8 (.bool (HB f)))) H'):aC.wp C (.loop KE) K F H:=by
 obtain⟨ok,hok⟩:∃ ok,okL [] (f.bHT.map cN.name) (fun i=>(f.bHT.map kC).getD i false)=ok:=⟨_,rfl⟩
 unfold HB at hK
 rw[hok] at hK
 refine wp_loop (α:=Nat × PV × PH) (fun s=>((((((((PF.nil.set 1 (.bH f.cells)).set 3 (s.2.1)).set 4 (.aB)).set 5 (.aB)).set 6 (.aB)).set 7 (.aB)).set 8 (.bool (true&&(bJP s.1).all ok))).set 9 (.int .i64 s.1))) (fun s=>s.2.2) (fun s=>s.1≤f.bHT.length∧gE s.2.2 s.2.1 [] (f.bHT.map cN.name) (true&&(bJP s.1).all ok) s.1) (fun s=>f.bHT.length-s.1)
  (0,.aB,H) ⟨bJY _,⟨[],aR.nil.nI 1,fun _=>rfl⟩⟩ hF PH.le_refl ?_
 rintro⟨i,w,H0⟩ ⟨hi,hG⟩
 simp only at hi hG ⊢
 have fin:∀ (b:Bool) (w':PV) (F':PF) (H':PH),i<f.bHT.length→(true&&(bJP (i+1)).all ok)=b→gE H' w' [] (f.bHT.map cN.name) true (i+1) →
   (((((((((PF.nil.set 1 (.bH f.cells)).set 3 (w')).set 4 (.aB)).set 5 (.aB)).set 6 (.aB)).set 7 (.aB)).set 8 (.bool b)).set 9 (.int .i64 (i+1:Nat))):PF).le F' →
   eE (fun s:Nat × PV × PH=>((((((((PF.nil.set 1 (.bH f.cells)).set 3 (s.2.1)).set 4 (.aB)).set 5 (.aB)).set 6 (.aB)).set 7 (.aB)).set 8 (.bool (true&&(bJP s.1).all ok))).set 9 (.int .i64 s.1))) (fun s=>s.2.2) (fun s=>s.1≤f.bHT.length∧gE s.2.2 s.2.1 [] (f.bHT.map cN.name) (true&&(bJP s.1).all ok) s.1) (fun s=>f.bHT.length-s.1) (f.bHT.length-i) K .normal F' H' :=
  fun b w' F' H' hlt hb hG' hF'=>aG (i+1,w',H') ⟨hlt,hG'.anY⟩ (by simp only; omega) (by simp only; rw[hb]; exact hF') PH.le_refl
 have bHS:=pI (p:=ok) i true
 have stop:(true&&(bJP i).all ok)=(true&&(bJP f.bHT.length).all ok)→K (.exit 0) (((((((PF.nil.set 1 (.bH f.cells)).set 4 (.aB)).set 5 (.aB)).set 6 (.aB)).set 7 (.aB)).set 8 (.bool (true&&(bJP i).all ok)))) H0:=fun e=>by
  rw[e,bKA]; exact hK H0
 have hacc:=fun h=>pH (p:=ok) (b:=true) hi h
 generalize hc:(true&&(bJP i).all ok)=c at *
 simp only[go_sem,δ,γ,θ,KE,axR,bJO]
 by_cases hlt:i<f.bHT.length
 ·have bHR:(i:Int)<(f.bHT.length:Nat):=by omega
  cases c with
  | false =>
   simp only[go_sem,γ,bHR]
   exact Up.up Lq (stop (hacc rfl).symm)
  | true =>
   obtain⟨names,g1,g3⟩:=hG.ex
   have hat:(f.bHT.map cN.cells)[i]?=some (f.bHT[i]).cells:=by simp[hlt]
   have hin:i<(f.bHT.map cN.name).length:=by rw[bJO]; exact hlt
   have hoki:ok i=(iH ([]++(f.bHT.map cN.name).take i) ((f.bHT.map cN.name).getD i [])&&kC f.bHT[i]):=by
    rw[← hok]
    unfold okL
    simp[bKH,hlt]
   have hl:=L.law _ (hf.law _ (bJS hlt))
   rw[hoki] at bHS
   simp only[go_sem,δ,γ,θ,bHR,axS,hat]
   refine gE.call L.tonS (ns:=f.bHT.map cN.name) g1 (bJY _) Om (g3 rfl) hin (by simp only[go_sem,γ,bLY]) fun w' H1 h1 hG1=>?_
   generalize iH ([]++(f.bHT.map cN.name).take i) ((f.bHT.map cN.name).getD i [])=fb at *
   cases fb with
   | false =>
    simp only[go_sem,γ,reduceCtorEq,SH,SI,wZz i]
    exact fin false w' _ _ hlt (bHS.trans rfl) hG1 Lq
   | true =>
    simp only[go_sem,δ,γ,θ,SH,hat]
    refine aA hl rfl ?_
    simp only[go_sem,γ,SI,wZz i]
    exact fin _ w' _ _ hlt (bHS.trans rfl) hG1 Lq
 ·have bHR:¬ (i:Int)<(f.bHT.length:Nat):=by omega
  have:i=f.bHT.length:=by omega
  subst this
  simp only[go_sem,γ,reduceCtorEq,bHR]
  exact Up.up Lq (stop hc.symm)
theorem PY {a b c d e f:Nat} (h:nN a b c d e f=true):a≤4∧b≤4∧c≤40∧d≤24∧e≤4∧f≤12:=by
 simp only[nN,bKM,decide_eq_true_eq] at h
 omega
theorem ajH {n:Nat} (h:n≤1000):IntKind.i64.wrap ((n:Int)-1)=(n:Int)-1:=wrap_i64 Om Om
def inS:Spec:=fun name vs=>match name,vs with
 | 76,[.int _ n,.int _ lo,.int _ hi]=>some ([],fun _=>aE (.bool (within n lo hi)))
 | _,_=>none
def amJ (bHT:Nat) (m:cV):Bool:=within m.bIE 1 16&&(within m.port 1 64&&within m.law 0 ((bHT:Int)-1))
def aOA (pols:Nat) (v:eG):Bool:=within v.bHY 0 ((pols:Int)-1)
def wI (f:aJ):Bool:=(bJP f.bHL.length).all (okL [] (f.bHL.map cV.name) fun i=>(f.bHL.map (amJ f.bHT.length)).getD i false)
theorem beK {C:Ctx} (L:pV C) (f:aJ) (hf:f.Ok) (hz:nN f.bHT.length f.bHL.length f.bHN.length f.bHK.length f.bHO.length f.bHM.length=true) (b:Bool) (K:cQ) [Up K] (F:PF) (H:PH)
  (hF:((((((((PF.nil.set 1 (.bH f.cells)).set 4 (.aB)).set 5 (.aB)).set 6 (.aB)).set 7 (.aB)).set 8 (.bool b)).set 10 (.int .i64 0)):PF).le F)
  (hK:∀ H',K (.exit 2) ((((((PF.nil.set 1 (.bH f.cells)).set 5 (.aB)).set 6 (.aB)).set 7 (.aB)).set 8 (.bool (b&&wI f)))) H'):aC.wp C (.loop KF) K F H:=by
 obtain⟨hz1,hz2,hz3,hz4,hz5,hz6⟩:=PY hz
 obtain⟨ok,hok⟩:∃ ok,okL [] (f.bHL.map cV.name) (fun i=>(f.bHL.map (amJ f.bHT.length)).getD i false)=ok:=⟨_,rfl⟩
 unfold wI at hK
 rw[hok] at hK
 refine wp_loop (α:=Nat × PV × PH) (fun s=>(((((((PF.nil.set 1 (.bH f.cells)).set 4 (s.2.1)).set 5 (.aB)).set 6 (.aB)).set 7 (.aB)).set 8 (.bool (b&&(bJP s.1).all ok))).set 10 (.int .i64 s.1))) (fun s=>s.2.2) (fun s=>s.1≤f.bHL.length∧gE s.2.2 s.2.1 [] (f.bHL.map cV.name) (b&&(bJP s.1).all ok) s.1) (fun s=>f.bHL.length-s.1)
  (0,.aB,H) ⟨bJY _,⟨[],aR.nil.nI 1,fun _=>rfl⟩⟩ (by
   have e:(b&&(bJP 0).all ok)=b:=by cases b<;>rfl
   simp only[e]
   exact hF) PH.le_refl ?_
 rintro⟨i,w,H0⟩ ⟨hi,hG⟩
 simp only at hi hG ⊢
 have fin:∀ (c:Bool) (w':PV) (F':PF) (H':PH),i<f.bHL.length→(b&&(bJP (i+1)).all ok)=c→gE H' w' [] (f.bHL.map cV.name) true (i+1) →
   ((((((((PF.nil.set 1 (.bH f.cells)).set 4 (w')).set 5 (.aB)).set 6 (.aB)).set 7 (.aB)).set 8 (.bool c)).set 10 (.int .i64 (i+1:Nat))):PF).le F' →
   eE (fun s:Nat × PV × PH=>(((((((PF.nil.set 1 (.bH f.cells)).set 4 (s.2.1)).set 5 (.aB)).set 6 (.aB)).set 7 (.aB)).set 8 (.bool (b&&(bJP s.1).all ok))).set 10 (.int .i64 s.1))) (fun s=>s.2.2) (fun s=>s.1≤f.bHL.length∧gE s.2.2 s.2.1 [] (f.bHL.map cV.name) (b&&(bJP s.1).all ok) s.1) (fun s=>f.bHL.length-s.1) (f.bHL.length-i) K .normal F' H' :=
  fun c w' F' H' hlt hb hG' hF'=>aG (i+1,w',H') ⟨hlt,hG'.anY⟩ (by simp only; omega) (by simp only; rw[hb]; exact hF') PH.le_refl
 have bHS:=pI (p:=ok) i b
 have stop:(b&&(bJP i).all ok)=(b&&(bJP f.bHL.length).all ok)→K (.exit 2) ((((((PF.nil.set 1 (.bH f.cells)).set 5 (.aB)).set 6 (.aB)).set 7 (.aB)).set 8 (.bool (b&&(bJP i).all ok)))) H0:=fun e=>by
  rw[e]; exact hK H0
 have hacc:=fun h=>pH (p:=ok) (b:=b) hi h
 generalize hc:(b&&(bJP i).all ok)=c at *
 simp only[go_sem,δ,γ,θ,KF,akD,bJO]
 by_cases hlt:i<f.bHL.length
 ·have bHR:(i:Int)<(f.bHL.length:Nat):=by omega
  cases c with
  | false =>
   simp only[go_sem,γ,bHR]
   exact Up.up Lq (stop (hacc rfl).symm)
  | true =>
   obtain⟨names,g1,g3⟩:=hG.ex
   have hat:(f.bHL.map cV.cells)[i]?=some (f.bHL[i]).cells:=by simp[hlt]
   have hin:i<(f.bHL.map cV.name).length:=by rw[bJO]; exact hlt
   have hoki:ok i=(iH ([]++(f.bHL.map cV.name).take i) ((f.bHL.map cV.name).getD i [])&&(amJ f.bHT.length) f.bHL[i]):=by
    rw[← hok]
    unfold okL
    simp[bKH,hlt]
   rw[hoki] at bHS
   have bIX:amJ f.bHT.length f.bHL[i]=(within (f.bHL[i]).bIE 1 16&&(within (f.bHL[i]).port 1 64&&within (f.bHL[i]).law 0 ((f.bHT.length:Int)-1))):=rfl
   rw[bIX] at bHS
   simp only[go_sem,δ,γ,θ,bHR,akE,hat]
   refine aQ fun o ho=>?_
   have g4:=g1.new ho (.rows 4 [(f.bHL[i]).cells])
   have g5:=g4.at 0 rfl
   simp only[go_sem,δ,γ]
   generalize H0.set o (.rows 4 [(f.bHL[i]).cells])=H2 at *
   simp only[go_sem,δ,γ,θ,akF,g5]
   refine gE.call L.tonS (ns:=(f.bHL.map cV.name)) g4 (bJY _) Om (g3 rfl) hin (by simp only[go_sem,γ,bLY]) fun w' H1 h1 hG1=>?_
   have g6:=h1.at 0 rfl
   generalize iH ([]++(f.bHL.map cV.name).take i) ((f.bHL.map cV.name).getD i [])=fb at *
   cases fb with
   | false =>
    simp only[go_sem,γ,reduceCtorEq,KH,rQ,wZz i]
    exact fin false w' _ _ hlt (bHS.trans rfl) hG1 Lq
   | true =>
    simp only[go_sem,δ,γ,θ,KH,g6]
    refine aA (L.inn (f.bHL[i]).bIE 1 16) rfl ?_
    cases k0:within (f.bHL[i]).bIE 1 16 with
    | false =>
     simp only[go_sem,γ,reduceCtorEq,rQ,wZz i]
     exact fin false w' _ _ hlt (by rw[bHS,k0]<;>simp) hG1 Lq
    | true =>
     simp only[go_sem,δ,γ,θ,g6]
     refine aA (L.inn (f.bHL[i]).port 1 64) rfl ?_
     cases k1:within (f.bHL[i]).port 1 64 with
     | false =>
      simp only[go_sem,γ,reduceCtorEq,rQ,wZz i]
      exact fin false w' _ _ hlt (by rw[bHS,k0,k1]<;>simp) hG1 Lq
     | true =>
      simp only[go_sem,δ,γ,θ,g6,bJO,ajH (Om:f.bHT.length≤1000)]
      refine aA (L.inn (f.bHL[i]).law 0 ((f.bHT.length:Int)-1)) rfl ?_
      simp only[go_sem,γ,rQ,wZz i]
      exact fin _ w' _ _ hlt (by rw[bHS,k0,k1]<;>simp) hG1 Lq
 ·have bHR:¬ (i:Int)<(f.bHL.length:Nat):=by omega
  have:i=f.bHL.length:=by omega
  subst this
  simp only[go_sem,γ,reduceCtorEq,bHR]
  exact Up.up Lq (stop hc.symm)
def ayQ (f:aJ):Bool:=(bJP f.bHM.length).all (okL [] (f.bHM.map eG.name) fun i=>(f.bHM.map (aOA f.bHO.length)).getD i false)
theorem bqN {C:Ctx} (L:pV C) (f:aJ) (hf:f.Ok) (hz:nN f.bHT.length f.bHL.length f.bHN.length f.bHK.length f.bHO.length f.bHM.length=true) (b:Bool) (K:cQ) [Up K] (F:PF) (H:PH)
  (hF:(((((PF.nil.set 1 (.bH f.cells)).set 7 (.aB)).set 8 (.bool b)).set 21 (.int .i64 0)):PF).le F)
  (hK:∀ H',K (.exit 14) (((PF.nil.set 1 (.bH f.cells)).set 8 (.bool (b&&ayQ f)))) H'):aC.wp C (.loop vW) K F H:=by
 obtain⟨hz1,hz2,hz3,hz4,hz5,hz6⟩:=PY hz
 obtain⟨ok,hok⟩:∃ ok,okL [] (f.bHM.map eG.name) (fun i=>(f.bHM.map (aOA f.bHO.length)).getD i false)=ok:=⟨_,rfl⟩
 unfold ayQ at hK
 rw[hok] at hK
 refine wp_loop (α:=Nat × PV × PH) (fun s=>((((PF.nil.set 1 (.bH f.cells)).set 7 (s.2.1)).set 8 (.bool (b&&(bJP s.1).all ok))).set 21 (.int .i64 s.1))) (fun s=>s.2.2) (fun s=>s.1≤f.bHM.length∧gE s.2.2 s.2.1 [] (f.bHM.map eG.name) (b&&(bJP s.1).all ok) s.1) (fun s=>f.bHM.length-s.1)
  (0,.aB,H) ⟨bJY _,⟨[],aR.nil.nI 1,fun _=>rfl⟩⟩ (by
   have e:(b&&(bJP 0).all ok)=b:=by cases b<;>rfl
   simp only[e]
   exact hF) PH.le_refl ?_
 rintro⟨i,w,H0⟩ ⟨hi,hG⟩
 simp only at hi hG ⊢
 have fin:∀ (c:Bool) (w':PV) (F':PF) (H':PH),i<f.bHM.length→(b&&(bJP (i+1)).all ok)=c→gE H' w' [] (f.bHM.map eG.name) true (i+1) →
   (((((PF.nil.set 1 (.bH f.cells)).set 7 (w')).set 8 (.bool c)).set 21 (.int .i64 (i+1:Nat))):PF).le F' →
   eE (fun s:Nat × PV × PH=>((((PF.nil.set 1 (.bH f.cells)).set 7 (s.2.1)).set 8 (.bool (b&&(bJP s.1).all ok))).set 21 (.int .i64 s.1))) (fun s=>s.2.2) (fun s=>s.1≤f.bHM.length∧gE s.2.2 s.2.1 [] (f.bHM.map eG.name) (b&&(bJP s.1).all ok) s.1) (fun s=>f.bHM.length-s.1) (f.bHM.length-i) K .normal F' H' :=
  fun c w' F' H' hlt hb hG' hF'=>aG (i+1,w',H') ⟨hlt,hG'.anY⟩ (by simp only; omega) (by simp only; rw[hb]; exact hF') PH.le_refl
 have bHS:=pI (p:=ok) i b
 have stop:(b&&(bJP i).all ok)=(b&&(bJP f.bHM.length).all ok)→K (.exit 14) (((PF.nil.set 1 (.bH f.cells)).set 8 (.bool (b&&(bJP i).all ok)))) H0:=fun e=>by
  rw[e]; exact hK H0
 have hacc:=fun h=>pH (p:=ok) (b:=b) hi h
 generalize hc:(b&&(bJP i).all ok)=c at *
 simp only[go_sem,γ,vW,akV,bJO]
 by_cases hlt:i<f.bHM.length
 ·have bHR:(i:Int)<(f.bHM.length:Nat):=by omega
  cases c with
  | false =>
   simp only[go_sem,γ,bHR]
   exact Up.up Lq (stop (hacc rfl).symm)
  | true =>
   obtain⟨names,g1,g3⟩:=hG.ex
   have hat:(f.bHM.map eG.cells)[i]?=some (f.bHM[i]).cells:=by simp[hlt]
   have hin:i<(f.bHM.map eG.name).length:=by rw[bJO]; exact hlt
   have hoki:ok i=(iH ([]++(f.bHM.map eG.name).take i) ((f.bHM.map eG.name).getD i [])&&(aOA f.bHO.length) f.bHM[i]):=by
    rw[← hok]
    unfold okL
    simp[bKH,hlt]
   rw[hoki] at bHS
   have bIX:aOA f.bHO.length f.bHM[i]=within (f.bHM[i]).bHY 0 ((f.bHO.length:Int)-1):=rfl
   rw[bIX] at bHS
   simp only[go_sem,δ,γ,θ,bHR,akW,hat]
   refine gE.call L.tonS (ns:=(f.bHM.map eG.name)) g1 (bJY _) Om (g3 rfl) hin (by simp only[go_sem,γ,bLY]) fun w' H1 h1 hG1=>?_
   generalize iH ([]++(f.bHM.map eG.name).take i) ((f.bHM.map eG.name).getD i [])=fb at *
   cases fb with
   | false =>
    simp only[go_sem,γ]
    refine bP .nil (inS) PH.nil_le ?_
    simp only[go_sem,γ,reduceCtorEq,KU,KV,wZz i]
    exact fin false w' _ _ hlt (bHS.trans rfl) hG1 Lq
   | true =>
    simp only[go_sem,γ]
    refine bP .nil (inS) PH.nil_le ?_
    simp only[go_sem,δ,γ,θ,KU,hat,bJO,ajH (Om:f.bHO.length≤1000)]
    refine bS rfl (L.inn (f.bHM[i]).bHY 0 ((f.bHO.length:Int)-1)) rfl PH.nil_le ?_
    simp only[go_sem,γ,KV,wZz i]
    exact fin _ w' _ _ hlt (bHS.trans rfl) hG1 Lq
 ·have bHR:¬ (i:Int)<(f.bHM.length:Nat):=by omega
  have:i=f.bHM.length:=by omega
  subst this
  simp only[go_sem,γ,reduceCtorEq,bHR]
  exact Up.up Lq (stop hc.symm)
def a3D:Spec:=fun name vs=>match name,vs with
 | 76,[.int _ n,.int _ lo,.int _ hi]=>some ([],fun _=>aE (.bool (within n lo hi)))
 | 74,[.agg cs]=>some ([],fun _=>aE (.bool (cJ (frD cs))))
 | _,_=>none
theorem a3E (x:RF):a3D 74 [.agg x.cells]=some ([],fun _=>aE (.bool (cJ x))):=by
 show some ([],fun _=>aE (.bool (cJ (frD x.cells))))=_
 rw[apN]
def aAY (f:aJ) (i:Nat) (d:bR):Bool :=
 within d.level 1 4&&(within d.parent 0 i&&(((f.bHN.map bR.level).getD d.parent.toNat 0==IntKind.i64.wrap (d.level-1))&&(within d.bIK 1 64&&cJ d.bIC)))
theorem blQ (f:aJ) (i:Nat) (d:bR):FW f i d=aAY f i d:=by
 unfold FW aAY
 have:decide ((f.bHN.map bR.level).getD d.parent.toNat 0=IntKind.i64.wrap (d.level-1))=((f.bHN.map bR.level).getD d.parent.toNat 0==IntKind.i64.wrap (d.level-1)):=by
  generalize (f.bHN.map bR.level).getD d.parent.toNat 0=u
  by_cases h:u=IntKind.i64.wrap (d.level-1)<;>simp[h]
 rw[this]
 cases within d.parent 0 i<;>cases within d.level 1 4<;>cases within d.bIK 1 64<;>simp
def fX (f:aJ):List (List UInt8):=(f.bHN.drop 1).map bR.name
def uO (f:aJ) (i:Nat):Bool:=match f.bHN[i+1]? with
 | some d=>aAY f i d
 | none=>false
def uQ (f:aJ):Bool:=(bJP (f.bHN.length-1)).all (okL [] (fX f) (uO f))
theorem aAX (f:aJ):(fX f).length=f.bHN.length-1:=by simp[fX]
theorem bqK {C:Ctx} (L:pV C) (f:aJ) (hf:f.Ok) (hz3:f.bHN.length≤40) (h0:0<f.bHN.length) (b:Bool) (K:cQ) [Up K] (F:PF) (H:PH)
  (hF:(((((((PF.nil.set 1 (.bH f.cells)).set 5 (.aB)).set 6 (.aB)).set 7 (.aB)).set 8 (.bool b)).set 13 (.int .i64 1)):PF).le F)
  (hK:∀ w H',gE H' w [] (fX f) (b&&uQ f) (f.bHN.length-1)→K (.exit 4) ((((((PF.nil.set 1 (.bH f.cells)).set 5 (w)).set 6 (.aB)).set 7 (.aB)).set 8 (.bool (b&&uQ f)))) H'):aC.wp C (.loop vP) K F H:=by
 obtain⟨ok,hok⟩:∃ ok,okL [] (fX f) (uO f)=ok:=⟨_,rfl⟩
 unfold uQ at hK
 rw[hok] at hK
 obtain⟨n,hn⟩:∃ n,f.bHN.length=n+1:=⟨f.bHN.length-1,by omega⟩
 have hnl:=aAX f
 have hn1:f.bHN.length-1=n:=by omega
 rw[hn1] at hK hnl
 refine wp_loop (α:=Nat × PV × PH) (fun s=>((((((PF.nil.set 1 (.bH f.cells)).set 5 (s.2.1)).set 6 (.aB)).set 7 (.aB)).set 8 (.bool (b&&(bJP s.1).all ok))).set 13 (.int .i64 (s.1+1:Nat)))) (fun s=>s.2.2) (fun s=>s.1≤n∧gE s.2.2 s.2.1 [] (fX f) (b&&(bJP s.1).all ok) s.1) (fun s=>n-s.1)
  (0,.aB,H) ⟨bJY _,⟨[],aR.nil.nI 1,fun _=>rfl⟩⟩ (by
   have e:(b&&(bJP 0).all ok)=b:=by cases b<;>rfl
   simp only[e]
   exact hF) PH.le_refl ?_
 rintro⟨i,w,H0⟩ ⟨hi,hG⟩
 simp only at hi hG ⊢
 have fin:∀ (c:Bool) (w':PV) (F':PF) (H':PH),i<n→(b&&(bJP (i+1)).all ok)=c→gE H' w' [] (fX f) true (i+1) →
   (((((((PF.nil.set 1 (.bH f.cells)).set 5 (w')).set 6 (.aB)).set 7 (.aB)).set 8 (.bool c)).set 13 (.int .i64 (i+1+1:Nat))):PF).le F' →
   eE (fun s:Nat × PV × PH=>((((((PF.nil.set 1 (.bH f.cells)).set 5 (s.2.1)).set 6 (.aB)).set 7 (.aB)).set 8 (.bool (b&&(bJP s.1).all ok))).set 13 (.int .i64 (s.1+1:Nat)))) (fun s=>s.2.2) (fun s=>s.1≤n∧gE s.2.2 s.2.1 [] (fX f) (b&&(bJP s.1).all ok) s.1) (fun s=>n-s.1) (n-i) K .normal F' H' :=
  fun c w' F' H' hlt hb hG' hF'=>aG (i+1,w',H') ⟨hlt,hG'.anY⟩ (by simp only; omega) (by simp only; rw[hb]; exact hF') PH.le_refl
 have bHS:=pI (p:=ok) i b
 have hacc:=fun h=>pH (p:=ok) (b:=b) hi h
 have stop:(b&&(bJP i).all ok)=(b&&(bJP n).all ok)→((b&&(bJP i).all ok)=true→i=n)→K (.exit 4) ((((((PF.nil.set 1 (.bH f.cells)).set 5 (w)).set 6 (.aB)).set 7 (.aB)).set 8 (.bool (b&&(bJP i).all ok)))) H0:=fun e e2=>by
  obtain⟨names,g1,g3⟩:=hG.ex
  have:=hK w H0 ⟨names,g1,fun h=>by
   have h':=e.trans h
   rw[g3 h',e2 h']⟩
  rwa [← e] at this
 generalize hc:(b&&(bJP i).all ok)=c at *
 simp only[go_sem,δ,γ,θ,vP,akH,bJO]
 by_cases hlt:i<n
 ·have bHR:((i+1:Nat):Int)<(f.bHN.length:Nat):=by omega
  cases c with
  | false =>
   simp only[go_sem,γ,bHR]
   exact Up.up Lq (stop (hacc rfl).symm (fun h=>by cases h))
  | true =>
   obtain⟨names,g1,g3⟩:=hG.ex
   have hid:i+1<f.bHN.length:=by omega
   have hat:=uP hid
   have hin:i<(fX f).length:=by omega
   have hnm:(fX f)[i]=(f.bHN[i+1]).name:=by simp[fX,Nat.add_comm]
   have hoki:ok i=(iH ([]++(fX f).take i) ((fX f).getD i [])&&aAY f i f.bHN[i+1]):=by
    rw[← hok]
    unfold okL uO
    rw[bJZ hid]
   have hdo:=hf.dom _ (bJS hid)
   rw[hoki] at bHS
   unfold aAY at bHS
   have e1:IntKind.i64.wrap (((i+1:Nat):Int)-1)=(i:Nat):=by rw[wrap_i64 Om Om]; omega
   have winc:IntKind.i64.wrap (((i+1:Nat):Int)+1)=((i+1+1:Nat):Int):=dC Om
   have hsm:=L.small _ hdo.1
   simp only[go_sem,δ,γ,θ,bHR,akI,hat]
   refine aQ fun o ho=>?_
   have g4:=g1.new ho (.rows 7 [(f.bHN[i+1]).cells])
   have g5:=g4.at 0 rfl
   simp only[go_sem,δ,γ]
   generalize H0.set o (.rows 7 [(f.bHN[i+1]).cells])=H2 at *
   simp only[go_sem,δ,γ,θ,akJ,g5]
   refine gE.call L.tonS (ns:=fX f) g4 (bJY _) Om (g3 rfl) hin (by simp only[go_sem,γ,hnm]) fun w' H1 h1 hG1=>?_
   have g6:=h1.at 0 rfl
   generalize iH ([]++(fX f).take i) ((fX f).getD i [])=fb at *
   generalize hd:f.bHN[i+1]=dd at *
   cases fb with
   | false =>
    simp only[go_sem,γ]
    refine bP .nil a3D PH.nil_le ?_
    simp only[go_sem,γ,reduceCtorEq,KK,mJ,winc]
    exact fin false w' _ _ hlt (bHS.trans rfl) hG1 Lq
   | true =>
    simp only[go_sem,γ]
    refine bP .nil a3D PH.nil_le ?_
    simp only[go_sem,δ,γ,θ,reduceCtorEq,KK,g6]
    refine bS rfl (L.inn dd.level 1 4) rfl PH.nil_le ?_
    cases k0:within dd.level 1 4 with
    | false =>
     simp only[go_sem,γ,reduceCtorEq,mJ,winc]
     exact fin false w' _ _ hlt (by rw[bHS,k0]<;>simp) hG1 Lq
    | true =>
     simp only[go_sem,δ,γ,θ,reduceCtorEq,g6,e1]
     refine bS rfl (L.inn dd.parent 0 (i:Nat)) rfl PH.nil_le ?_
     cases k1:within dd.parent 0 (i:Nat) with
     | false =>
      simp only[go_sem,γ,reduceCtorEq,mJ,winc]
      exact fin false w' _ _ hlt (by rw[bHS,k0,k1]<;>simp) hG1 Lq
     | true =>
      obtain⟨p0,p1⟩:=within_iff.1 k1
      obtain⟨p,hp⟩:∃ p:Nat,dd.parent=p:=⟨dd.parent.toNat,by omega⟩
      have hpd:p<f.bHN.length:=by omega
      obtain⟨lv,hlv⟩:∃ lv,(f.bHN.map bR.level).getD dd.parent.toNat 0=lv:=⟨_,rfl⟩
      have hpl:(f.bHN[p]).level=lv:=by rw[← hlv,hp,bMT,oC hpd]
      rw[hlv] at bHS
      have hpat:=uP hpd
      simp only[go_sem,δ,γ,θ,reduceCtorEq,g6,hp,hpat,hpl]
      cases k2:lv==IntKind.i64.wrap (dd.level-1) with
      | false =>
       simp only[go_sem,γ,reduceCtorEq,mJ,winc]
       exact fin false w' _ _ hlt (by rw[bHS,k0,k1,k2]<;>simp) hG1 Lq
      | true =>
       simp only[go_sem,δ,γ,θ,reduceCtorEq,g6]
       refine bS rfl (L.inn dd.bIK 1 64) rfl PH.nil_le ?_
       cases k3:within dd.bIK 1 64 with
       | false =>
        simp only[go_sem,γ,reduceCtorEq,mJ,winc]
        exact fin false w' _ _ hlt (by rw[bHS,k0,k1,k2,k3]<;>simp) hG1 Lq
       | true =>
        simp only[go_sem,δ,γ,reduceCtorEq,g6]
        refine bS (a3E _) hsm rfl PH.nil_le ?_
        simp only[go_sem,γ,mJ,winc]
        exact fin _ w' _ _ hlt (by rw[bHS,k0,k1,k2,k3]<;>simp) hG1 Lq
 ·have bHR:¬ ((i+1:Nat):Int)<(f.bHN.length:Nat):=by omega
  have:i=n:=by omega
  subst this
  simp only[go_sem,γ,reduceCtorEq,bHR]
  exact Up.up Lq (stop hc.symm (fun _=>rfl))
def aBA (f:aJ) (d:cG):Bool:=within d.model 0 ((f.bHL.length:Int)-1)&&(within d.machine 0 ((f.bHN.length:Int)-1)&&((f.bHN.map bR.level).getD d.machine.toNat 0==4))
def kJ (f:aJ):List (List UInt8):=f.bHK.map cG.name
def sP (f:aJ) (i:Nat):Bool:=match f.bHK[i]? with
 | some d=>aBA f d
 | none=>false
def vZ (f:aJ):Bool:=(bJP f.bHK.length).all (okL (fX f) (kJ f) (sP f))
theorem beJ {C:Ctx} (L:pV C) (f:aJ) (hf:f.Ok) (hz3:f.bHN.length≤40) (h0:0<f.bHN.length) (hz4:f.bHK.length≤24) (hz2:f.bHL.length≤4) (b:Bool) (w0:PV) (K:cQ) [Up K] (F:PF) (H:PH)
  (hG0:gE H w0 [] (fX f) b (f.bHN.length-1)) (hF:(((((((PF.nil.set 1 (.bH f.cells)).set 5 (w0)).set 6 (.aB)).set 7 (.aB)).set 8 (.bool b)).set 15 (.int .i64 0)):PF).le F)
  (hK:∀ H',K (.exit 6) (((((PF.nil.set 1 (.bH f.cells)).set 6 (.aB)).set 7 (.aB)).set 8 (.bool (b&&vZ f)))) H'):aC.wp C (.loop vQ) K F H:=by
 obtain⟨ok,hok⟩:∃ ok,okL (fX f) (kJ f) (sP f)=ok:=⟨_,rfl⟩
 unfold vZ at hK
 rw[hok] at hK
 obtain⟨n,hn⟩:∃ n,f.bHK.length=n:=⟨_,rfl⟩
 have hdl:=aAX f
 have hnl:(kJ f).length=n:=by simp[kJ,hn]
 rw[hn] at hK
 refine wp_loop (α:=Nat × PV × PH) (fun s=>((((((PF.nil.set 1 (.bH f.cells)).set 5 (s.2.1)).set 6 (.aB)).set 7 (.aB)).set 8 (.bool (b&&(bJP s.1).all ok))).set 15 (.int .i64 s.1))) (fun s=>s.2.2) (fun s=>s.1≤n∧gE s.2.2 s.2.1 (fX f) (kJ f) (b&&(bJP s.1).all ok) s.1) (fun s=>n-s.1)
  (0,w0,H) ⟨bJY _,by
   obtain⟨names,q1,q2⟩:=hG0.ex
   have e:(b&&(bJP 0).all ok)=b:=by cases b<;>rfl
   refine⟨names,q1,fun h=>?_⟩
   simp only[e] at h
   rw[q2 h,bMA,bKF Om]
   simp⟩ (by
   have e:(b&&(bJP 0).all ok)=b:=by cases b<;>rfl
   simp only[e]
   exact hF) PH.le_refl ?_
 rintro⟨i,w,H0⟩ ⟨hi,hG⟩
 simp only at hi hG ⊢
 have fin:∀ (c:Bool) (w':PV) (F':PF) (H':PH),i<n→(b&&(bJP (i+1)).all ok)=c→gE H' w' (fX f) (kJ f) true (i+1) →
   (((((((PF.nil.set 1 (.bH f.cells)).set 5 (w')).set 6 (.aB)).set 7 (.aB)).set 8 (.bool c)).set 15 (.int .i64 (i+1:Nat))):PF).le F' →
   eE (fun s:Nat × PV × PH=>((((((PF.nil.set 1 (.bH f.cells)).set 5 (s.2.1)).set 6 (.aB)).set 7 (.aB)).set 8 (.bool (b&&(bJP s.1).all ok))).set 15 (.int .i64 s.1))) (fun s=>s.2.2) (fun s=>s.1≤n∧gE s.2.2 s.2.1 (fX f) (kJ f) (b&&(bJP s.1).all ok) s.1) (fun s=>n-s.1) (n-i) K .normal F' H' :=
  fun c w' F' H' hlt hb hG' hF'=>aG (i+1,w',H') ⟨hlt,hG'.anY⟩ (by simp only; omega) (by simp only; rw[hb]; exact hF') PH.le_refl
 have bHS:=pI (p:=ok) i b
 have hacc:=fun h=>pH (p:=ok) (b:=b) hi h
 have stop:(b&&(bJP i).all ok)=(b&&(bJP n).all ok)→K (.exit 6) (((((PF.nil.set 1 (.bH f.cells)).set 6 (.aB)).set 7 (.aB)).set 8 (.bool (b&&(bJP i).all ok)))) H0:=fun e=>by
  rw[e]; exact hK H0
 generalize hc:(b&&(bJP i).all ok)=c at *
 simp only[go_sem,δ,γ,θ,vQ,akK,bJO]
 by_cases hlt:i<n
 ·have bHR:((i:Nat):Int)<(f.bHK.length:Nat):=by omega
  cases c with
  | false =>
   simp only[go_sem,γ,bHR]
   exact Up.up Lq (stop (hacc rfl).symm)
  | true =>
   obtain⟨names,g1,g3⟩:=hG.ex
   have hid:i<f.bHK.length:=by omega
   have hat:=aoY hid
   have hin:i<(kJ f).length:=by omega
   have hnm:(kJ f)[i]=(f.bHK[i]).name:=by simp[kJ]
   have hoki:ok i=(iH (fX f++(kJ f).take i) ((kJ f).getD i [])&&aBA f f.bHK[i]):=by
    rw[← hok]
    unfold okL sP
    rw[bJZ hid]
   rw[hoki] at bHS
   unfold aBA at bHS
   have winc:IntKind.i64.wrap ((i:Int)+1)=((i+1:Nat):Int):=dC Om
   have e1:=ajH (Om:f.bHL.length≤1000)
   have e2:=ajH (Om:f.bHN.length≤1000)
   simp only[go_sem,δ,γ,θ,bHR,akL,hat]
   refine aQ fun o ho=>?_
   have g4:=g1.new ho (.rows 3 [(f.bHK[i]).cells])
   have g5:=g4.at 0 rfl
   simp only[go_sem,δ,γ]
   generalize H0.set o (.rows 3 [(f.bHK[i]).cells])=H2 at *
   simp only[go_sem,δ,γ,θ,akM,g5]
   refine gE.call L.tonS (base:=fX f) (ns:=kJ f) g4 Om Om (g3 rfl) hin (by simp only[go_sem,γ,hnm]) fun w' H1 h1 hG1=>?_
   have g6:=h1.at 0 rfl
   generalize iH (fX f++(kJ f).take i) ((kJ f).getD i [])=fb at *
   generalize hd:f.bHK[i]=dd at *
   cases fb with
   | false =>
    simp only[go_sem,γ,reduceCtorEq,KM,rR,winc]
    exact fin false w' _ _ hlt (bHS.trans rfl) hG1 Lq
   | true =>
    simp only[go_sem,δ,γ,θ,KM,g6,bJO,e1]
    refine aA (L.inn dd.model 0 ((f.bHL.length:Int)-1)) rfl ?_
    cases k0:within dd.model 0 ((f.bHL.length:Int)-1) with
    | false =>
     simp only[go_sem,γ,reduceCtorEq,rR,winc]
     exact fin false w' _ _ hlt (by rw[bHS,k0]<;>simp) hG1 Lq
    | true =>
     simp only[go_sem,δ,γ,θ,g6,bJO,e2]
     refine aA (L.inn dd.machine 0 ((f.bHN.length:Int)-1)) rfl ?_
     cases k1:within dd.machine 0 ((f.bHN.length:Int)-1) with
     | false =>
      simp only[go_sem,γ,reduceCtorEq,rR,winc]
      exact fin false w' _ _ hlt (by rw[bHS,k0,k1]<;>simp) hG1 Lq
     | true =>
      obtain⟨p0,p1⟩:=within_iff.1 k1
      obtain⟨p,hp⟩:∃ p:Nat,dd.machine=p:=⟨dd.machine.toNat,by omega⟩
      have hpd:p<f.bHN.length:=by omega
      obtain⟨lv,hlv⟩:∃ lv,(f.bHN.map bR.level).getD dd.machine.toNat 0=lv:=⟨_,rfl⟩
      have hpl:(f.bHN[p]).level=lv:=by rw[← hlv,hp,bMT,oC hpd]
      rw[hlv] at bHS
      have hpat:=uP hpd
      simp only[go_sem,δ,γ,θ,g6,hp,hpat,hpl,rR,winc]
      exact fin _ w' _ _ hlt (by rw[bHS,k0,k1]<;>simp) hG1 Lq
 ·have bHR:¬ ((i:Nat):Int)<(f.bHK.length:Nat):=by omega
  have:i=n:=by omega
  subst this
  simp only[go_sem,γ,reduceCtorEq,bHR]
  exact Up.up Lq (stop hc.symm)
theorem YE {xs:List Int} {k:Nat} (h:k<xs.length):(xs.map fun x=>[PV.int .i64 x])[k]?=some [.int .i64 xs[k]]:=by simp[h]
def zpF (f:aJ) (w:PV) (o i:Nat) (c:Bool) (j:Nat):PF:=(((((((PF.nil.set 1 (.bH f.cells)).set 6 (w)).set 7 (.aB)).set 8 (.bool c)).set 17 (.int .i64 i)).set 18 (.ptr o 17 0 0)).set 19 (.int .i64 j))
theorem bkD {C:Ctx} (f:aJ) (w:PV) (o i:Nat) (p:dB) (hl:p.bHL.length≤9223372036854775807) (j:Nat) (hj:j<p.bHL.length) (b:Bool) (K:cQ) [Up K] (F:PF) (H:PH) (ho:H o=some (.rows 17 [p.cells])) (hF:((zpF f w o i b j).set 20 (.int .i64 0)).le F)
  (hK:K (.exit 12) (zpF f w o i (b&&(p.bHL.take j).all fun x=>x != p.bHL[j]) j) H):aC.wp C (.loop KG) K F H:=by
 refine wp_loop (α:=Nat) (fun k=>(zpF f w o i (b&&(p.bHL.take k).all fun x=>x != p.bHL[j]) j).set 20 (.int .i64 k)) (fun _=>H) (fun k=>k≤j) (fun k=>j-k) 0 (bJY _) (by
   have e:(b&&(p.bHL.take 0).all fun x=>x != p.bHL[j])=b:=by cases b<;>rfl
   simp only[e]
   exact hF) PH.le_refl ?_
 intro k hk
 have hs:∀ h:k<p.bHL.length,(b&&(p.bHL.take (k+1)).all fun x=>x != p.bHL[j])=((b&&(p.bHL.take k).all fun x=>x != p.bHL[j])&&(p.bHL[k] != p.bHL[j])):=fun h=>by
  rw[bLL h,List.all_append]
  simp[bMM]
 have fin:∀ (c:Bool) (F':PF),k<j→(b&&(p.bHL.take (k+1)).all fun x=>x != p.bHL[j])=c→((zpF f w o i c j).set 20 (.int .i64 (k+1:Nat))).le F'→eE (fun k:Nat=>(zpF f w o i (b&&(p.bHL.take k).all fun x=>x != p.bHL[j]) j).set 20 (.int .i64 k)) (fun _=>H) (fun k=>k≤j) (fun k=>j-k) (j-k) K .normal F' H :=
  fun c F' hlt e h=>aG (k+1) hlt Om (by rw[e]; exact h) PH.le_refl
 unfold zpF at fin
 simp only[go_sem,γ,KG,akT,zpF]
 by_cases hlt:k<j
 ·have bHR:(k:Int)<(j:Nat):=by omega
  have hk2:k<p.bHL.length:=by omega
  have hs:=hs hk2
  generalize (b&&(p.bHL.take k).all fun x=>x != p.bHL[j])=c at *
  simp only[go_sem,bHR]
  refine bP .nil dX PH.nil_le ?_
  cases c with
  | false =>
   simp only[go_sem,γ,reduceCtorEq,KP,KQ,wZz k]
   exact fin false _ hlt (hs.trans rfl) Lq
  | true =>
   simp only[go_sem,δ,γ,θ,reduceCtorEq,KP,ho,YE hk2,YE hj,KQ,wZz k]
   exact fin _ _ hlt (hs.trans rfl) Lq
 ·have bHR:¬ (k:Int)<(j:Nat):=by omega
  have:k=j:=by omega
  subst this
  simp only[go_sem,bHR]
  exact Up.up (by (repeat' (first|exact PF.nil_le|refine PF.aI ?_ ?_))<;>first|(simp only[go_sem,γ,zpF]<;>rfl)|rfl) hK
def HZ (bHL:Nat) (ms:List Int) (j:Nat):Bool:=within (ms.getD j 0) 0 ((bHL:Int)-1)&&(ms.take j).all fun x=>x != ms.getD j 0
theorem beE {C:Ctx} (L:pV C) (f:aJ) (hz2:f.bHL.length≤4) (w:PV) (o i:Nat) (p:dB) (hl:p.bHL.length≤9223372036854775807) (b:Bool) (K:cQ) [Up K] (F:PF) (H:PH) (ho:H o=some (.rows 17 [p.cells])) (hF:(zpF f w o i b 0).le F)
  (hK:K (.exit 10) ((((((PF.nil.set 1 (.bH f.cells)).set 6 (w)).set 7 (.aB)).set 8 (.bool (b&&(bJP p.bHL.length).all (HZ f.bHL.length p.bHL)))).set 17 (.int .i64 i))) H):aC.wp C (.loop vS) K F H:=by
 obtain⟨ok,hok⟩:∃ ok,HZ f.bHL.length p.bHL=ok:=⟨_,rfl⟩
 rw[hok] at hK
 refine wp_loop (α:=Nat) (fun j=>zpF f w o i (b&&(bJP j).all ok) j) (fun _=>H) (fun j=>j≤p.bHL.length) (fun j=>p.bHL.length-j) 0 (bJY _) (by
   have e:(b&&(bJP 0).all ok)=b:=by cases b<;>rfl
   simp only[e]
   exact hF) PH.le_refl ?_
 intro j hj
 have bHS:=pI (p:=ok) j b
 have hacc:=fun h=>pH (p:=ok) (b:=b) hj h
 have fin:∀ (c:Bool) (F':PF),j<p.bHL.length→(b&&(bJP (j+1)).all ok)=c→(zpF f w o i c (j+1)).le F'→eE (fun j:Nat=>zpF f w o i (b&&(bJP j).all ok) j) (fun _=>H) (fun j=>j≤p.bHL.length) (fun j=>p.bHL.length-j) (p.bHL.length-j) K .normal F' H :=
  fun c F' hlt e h=>aG (j+1) hlt Om (by rw[e]; exact h) PH.le_refl
 unfold zpF at fin
 have stop:(b&&(bJP j).all ok)=(b&&(bJP p.bHL.length).all ok)→K (.exit 10) ((((((PF.nil.set 1 (.bH f.cells)).set 6 (w)).set 7 (.aB)).set 8 (.bool (b&&(bJP j).all ok))).set 17 (.int .i64 i))) H:=fun e=>by
  rw[e]; exact hK
 generalize hc:(b&&(bJP j).all ok)=c at *
 simp only[go_sem,δ,γ,θ,vS,akQ,zpF,ho,bJO]
 by_cases hlt:j<p.bHL.length
 ·have bHR:(j:Int)<(p.bHL.length:Nat):=by omega
  cases c with
  | false =>
   simp only[go_sem,γ,bHR]
   exact Up.up Lq (stop (hacc rfl).symm)
  | true =>
   have e1:=ajH (Om:f.bHL.length≤1000)
   have hg:p.bHL.getD j 0=p.bHL[j]:=by simp[bKH,hlt]
   have hoj:ok j=(within p.bHL[j] 0 ((f.bHL.length:Int)-1)&&(p.bHL.take j).all fun x=>x != p.bHL[j]):=by
    rw[← hok]
    unfold HZ
    rw[hg]
   rw[hoj] at bHS
   simp only[go_sem,γ,bHR]
   refine bP .nil a3D PH.nil_le ?_
   simp only[go_sem,δ,γ,θ,reduceCtorEq,akR,ho,YE hlt,bJO,e1]
   refine bS rfl (L.inn p.bHL[j] 0 ((f.bHL.length:Int)-1)) Sq PH.nil_le ?_
   simp only[go_sem,γ,akS]
   refine bkD f w o i p hl j hlt (within p.bHL[j] 0 ((f.bHL.length:Int)-1)) _ _ _ ho (by (repeat' (first|exact PF.nil_le|refine PF.aI ?_ ?_))<;>first|(simp only[go_sem,γ,zpF]<;>rfl)|rfl) ?_
   simp only[go_sem,γ,zpF,akU,wZz j]
   exact fin _ _ hlt (bHS.trans rfl) Lq
 ·have bHR:¬ (j:Int)<(p.bHL.length:Nat):=by omega
  have:j=p.bHL.length:=by omega
  subst this
  simp only[go_sem,γ,reduceCtorEq,bHR]
  exact Up.up Lq (stop hc.symm)
def aIP (bHL:Nat) (p:dB):Bool:=HS p.k p.m p.bIO p.s0 p.s1 p.s2 p.s3 p.s4&&(ML p.m p.repair p.target p.bHW&&(decide (p.bHL.length>0)&&(bJP p.bHL.length).all (HZ bHL p.bHL)))
theorem boL (bHL:Nat) (p:dB):jD bHL p=aIP bHL p:=by
 unfold jD aIP
 rw[boG,brB]
 have h1:decide (p.bHL.length≠0)=decide (p.bHL.length>0):=decide_eq_decide.2 Om
 have h2:(bJP p.bHL.length).all (fun j=>within (p.bHL.getD j 0) 0 ((bHL:Int)-1)&&!(p.bHL.take j).contains (p.bHL.getD j 0))=(bJP p.bHL.length).all (HZ bHL p.bHL):=by
  congr 1
  funext j
  unfold HZ
  congr 1
  generalize p.bHL.getD j 0=x
  induction p.bHL.take j with
  | nil=>rfl
  | cons a t ih =>
   rw[List.contains_cons,List.all_cons,← ih,Bool.not_or,bne,BEq.comm]
 rw[h1,h2]
 cases HS p.k p.m p.bIO p.s0 p.s1 p.s2 p.s3 p.s4<;>cases ML p.m p.repair p.target p.bHW<;>cases decide (p.bHL.length>0)<;>simp
structure alD (C:Ctx):Prop extends pV C where
 dur:∀ (m:Int) (rep:List RF),jJ rep→∀ t h:RF,t.Ok→h.Ok→aD C 69 [.int .i64 m,frs rep,.agg t.cells,.agg h.cells] .nil (aE (.bool (ML m rep t h)))
def jR (f:aJ):List (List UInt8):=f.bHO.map dB.name
def HY (f:aJ) (i:Nat):Bool:=match f.bHO[i]? with
 | some p=>aIP f.bHL.length p
 | none=>false
def afC (f:aJ):Bool:=(bJP f.bHO.length).all (okL [] (jR f) (HY f))
theorem bqM {C:Ctx} (L:alD C) (f:aJ) (hf:f.Ok) (hz5:f.bHO.length≤4) (hz2:f.bHL.length≤4) (b:Bool) (K:cQ) [Up K] (F:PF) (H:PH)
  (hF:((((((PF.nil.set 1 (.bH f.cells)).set 6 (.aB)).set 7 (.aB)).set 8 (.bool b)).set 17 (.int .i64 0)):PF).le F)
  (hK:∀ H',K (.exit 8) ((((PF.nil.set 1 (.bH f.cells)).set 7 (.aB)).set 8 (.bool (b&&afC f)))) H'):aC.wp C (.loop vT) K F H:=by
 obtain⟨ok,hok⟩:∃ ok,okL [] (jR f) (HY f)=ok:=⟨_,rfl⟩
 unfold afC at hK
 rw[hok] at hK
 have hnl:(jR f).length=f.bHO.length:=by simp[jR]
 refine wp_loop (α:=Nat × PV × PH) (fun s=>(((((PF.nil.set 1 (.bH f.cells)).set 6 (s.2.1)).set 7 (.aB)).set 8 (.bool (b&&(bJP s.1).all ok))).set 17 (.int .i64 s.1))) (fun s=>s.2.2) (fun s=>s.1≤f.bHO.length∧gE s.2.2 s.2.1 [] (jR f) (b&&(bJP s.1).all ok) s.1) (fun s=>f.bHO.length-s.1)
  (0,.aB,H) ⟨bJY _,⟨[],aR.nil.nI 1,fun _=>rfl⟩⟩ (by
   have e:(b&&(bJP 0).all ok)=b:=by cases b<;>rfl
   simp only[e]
   exact hF) PH.le_refl ?_
 rintro⟨i,w,H0⟩ ⟨hi,hG⟩
 simp only at hi hG ⊢
 have fin:∀ (c:Bool) (w':PV) (F':PF) (H':PH),i<f.bHO.length→(b&&(bJP (i+1)).all ok)=c→gE H' w' [] (jR f) true (i+1) →
   ((((((PF.nil.set 1 (.bH f.cells)).set 6 (w')).set 7 (.aB)).set 8 (.bool c)).set 17 (.int .i64 (i+1:Nat))):PF).le F' →
   eE (fun s:Nat × PV × PH=>(((((PF.nil.set 1 (.bH f.cells)).set 6 (s.2.1)).set 7 (.aB)).set 8 (.bool (b&&(bJP s.1).all ok))).set 17 (.int .i64 s.1))) (fun s=>s.2.2) (fun s=>s.1≤f.bHO.length∧gE s.2.2 s.2.1 [] (jR f) (b&&(bJP s.1).all ok) s.1) (fun s=>f.bHO.length-s.1) (f.bHO.length-i) K .normal F' H' :=
  fun c w' F' H' hlt hb hG' hF'=>aG (i+1,w',H') ⟨hlt,hG'.anY⟩ (by simp only; omega) (by simp only; rw[hb]; exact hF') PH.le_refl
 have bHS:=pI (p:=ok) i b
 have hacc:=fun h=>pH (p:=ok) (b:=b) hi h
 have stop:(b&&(bJP i).all ok)=(b&&(bJP f.bHO.length).all ok)→K (.exit 8) ((((PF.nil.set 1 (.bH f.cells)).set 7 (.aB)).set 8 (.bool (b&&(bJP i).all ok)))) H0:=fun e=>by
  rw[e]; exact hK H0
 generalize hc:(b&&(bJP i).all ok)=c at *
 simp only[go_sem,δ,γ,θ,vT,akN,bJO]
 by_cases hlt:i<f.bHO.length
 ·have bHR:(i:Int)<(f.bHO.length:Nat):=by omega
  cases c with
  | false =>
   simp only[go_sem,γ,bHR]
   exact Up.up Lq (stop (hacc rfl).symm)
  | true =>
   obtain⟨names,g1,g3⟩:=hG.ex
   have hat:=mP hlt
   have hin:i<(jR f).length:=by omega
   have hnm:(jR f)[i]=(f.bHO[i]).name:=by simp[jR]
   have hoki:ok i=(iH ([]++(jR f).take i) ((jR f).getD i [])&&aIP f.bHL.length f.bHO[i]):=by
    rw[← hok]
    unfold okL HY
    rw[bJZ hlt]
   have hpo:=hf.bHY _ (bJS hlt)
   rw[hoki] at bHS
   unfold aIP at bHS
   have winc:IntKind.i64.wrap ((i:Int)+1)=((i+1:Nat):Int):=dC Om
   simp only[go_sem,δ,γ,θ,bHR,akO,hat]
   refine aQ fun o ho=>?_
   have g4:=g1.new ho (.rows 17 [(f.bHO[i]).cells])
   have g5:=g4.at 0 rfl
   simp only[go_sem,δ,γ]
   generalize H0.set o (.rows 17 [(f.bHO[i]).cells])=H2 at *
   simp only[go_sem,δ,γ,θ,akP,g5]
   refine gE.call L.tonS (ns:=jR f) g4 (bJY _) Om (g3 rfl) hin (by simp only[go_sem,γ,hnm]) fun w' H1 h1 hG1=>?_
   have g6:=h1.at 0 rfl
   generalize iH ([]++(jR f).take i) ((jR f).getD i [])=fb at *
   generalize hd:f.bHO[i]=p at *
   have rest:∀ (c:Bool) (F':PF),(zpF f w' o i c 0).le F'→(c&&(bJP p.bHL.length).all (HZ f.bHL.length p.bHL))=(b&&(bJP (i+1)).all ok) →
     aC.wp C (.loop vS) (dW 10 (dW 9 (iV C (aC.wp C (.region KR)) (eE (fun s:Nat × PV × PH=>(((((PF.nil.set 1 (.bH f.cells)).set 6 (s.2.1)).set 7 (.aB)).set 8 (.bool (b&&(bJP s.1).all ok))).set 17 (.int .i64 s.1))) (fun s=>s.2.2) (fun s=>s.1≤f.bHO.length∧gE s.2.2 s.2.1 [] (jR f) (b&&(bJP s.1).all ok) s.1) (fun s=>f.bHO.length-s.1) (f.bHO.length-i) K)))) F' H1:=by
    intro c F' hF' hcc
    refine beE L.topV f hz2 w' o i p hpo.bHL c _ _ _ g6 hF' ?_
    rw[hcc]
    simp only[go_sem,γ,KR,winc]
    exact fin _ w' _ _ hlt rfl hG1 Lq
   cases fb with
   | false =>
    simp only[go_sem,γ,reduceCtorEq,KO,rS]
    exact rest false _ (by (repeat' (first|exact PF.nil_le|refine PF.aI ?_ ?_))<;>first|(simp only[go_sem,γ,zpF]<;>rfl)|rfl) (by rw[bHS]; rfl)
   | true =>
    simp only[go_sem,δ,γ,θ,KO,g6]
    refine aA (L.nums p.k p.m p.bIO p.s0 p.s1 p.s2 p.s3 p.s4) Sq ?_
    cases k0:HS p.k p.m p.bIO p.s0 p.s1 p.s2 p.s3 p.s4 with
    | false =>
     simp only[go_sem,γ,reduceCtorEq,rS]
     exact rest false _ (by (repeat' (first|exact PF.nil_le|refine PF.aI ?_ ?_))<;>first|(simp only[go_sem,γ,zpF]<;>rfl)|rfl) (by rw[bHS,k0]; rfl)
    | true =>
     simp only[go_sem,δ,γ,θ,g6]
     refine aA (L.dur p.m p.repair hpo.repair p.target p.bHW hpo.target hpo.bHW) Sq ?_
     cases k1:ML p.m p.repair p.target p.bHW with
     | false =>
      simp only[go_sem,γ,reduceCtorEq,rS]
      exact rest false _ (by (repeat' (first|exact PF.nil_le|refine PF.aI ?_ ?_))<;>first|(simp only[go_sem,γ,zpF]<;>rfl)|rfl) (by rw[bHS,k0,k1]; rfl)
     | true =>
      have hgt:decide (((p.bHL.length:Nat):Int)>0)=decide (p.bHL.length>0):=decide_eq_decide.2 Om
      simp only[go_sem,δ,γ,θ,g6,bJO,hgt,rS]
      exact rest _ _ (by (repeat' (first|exact PF.nil_le|refine PF.aI ?_ ?_))<;>first|(simp only[go_sem,γ,zpF]<;>rfl)|rfl) (by rw[bHS,k0,k1]; rfl)
 ·have bHR:¬ (i:Int)<(f.bHO.length:Nat):=by omega
  have:i=f.bHO.length:=by omega
  subst this
  simp only[go_sem,γ,reduceCtorEq,bHR]
  exact Up.up Lq (stop hc.symm)
def oN (r:bR):Bool:=(r.name==[])&&((r.level==0)&&((r.parent==-1)&&((r.bIK==0)&&(cP (val r.bIC.num) (val r.bIC.den)&&(pG r.bIC==0)))))
def a4V (f:aJ):Bool:=match f.bHN with
 | []=>false
 | r::_=>oN r
def biA (f:aJ):Bool:=within f.bIY 1 4&&(nN f.bHT.length f.bHL.length f.bHN.length f.bHK.length f.bHO.length f.bHM.length&&(decide (0<f.bHN.length)&&((((((HB f&&wI f)&&a4V f)&&uQ f)&&vZ f)&&afC f)&&ayQ f)))
theorem aRA (n:Nat) (p q:Nat→Bool):(bJP n).all (fun i=>p i&&q i)=((bJP n).all p&&(bJP n).all q):=by
 induction n with
 | zero=>rfl
 | succ n ih =>
  simp only[List.range_succ,List.all_append,ih,List.all_cons,List.all_nil,bLP]
  cases (bJP n).all p<;>cases (bJP n).all q<;>cases p n<;>simp
theorem wP {α:Type} (l:List α) (p:α→Bool):(bJP l.length).all (fun i=>(l.map p).getD i false)=l.all p:=by
 refine Bool.eq_iff_iff.2 ?_
 rw[bKK,bKK]
 constructor
 ·intro h x hx
  obtain⟨i,hi,rfl⟩:=bLV hx
  have:=h i (bKZ.2 hi)
  simpa [bKH,hi] using this
 ·intro h i hi
  have hi:=bKZ.1 hi
  simp[bKH,hi,h _ (bJS hi)]
theorem DM (ns:List (List UInt8)) (n:Nat) (hn:ns.length=n) (P:Nat→Bool):(bJP n).all (okL [] ns P)=(distinct ns&&(bJP n).all P):=by
 subst hn
 have:okL [] ns P=fun i=>(isName (ns.getD i [])&&!(ns.take i).contains (ns.getD i []))&&P i:=by
  funext i
  rfl
 rw[this,aRA]
 rfl
theorem boH (base ns:List (List UInt8)) (P Q:Nat→Bool):((bJP base.length).all (okL [] base P)&&(bJP ns.length).all (okL base ns Q))=(distinct (base++ns)&&((bJP base.length).all P&&(bJP ns.length).all Q)):=by
 have e1:okL base ns Q=fun i=>(isName (ns.getD i [])&&!(base++ns.take i).contains (ns.getD i []))&&Q i:=by
  funext i
  rfl
 have e2:distinct (base++ns)=(distinct base&&(bJP ns.length).all fun i=>isName (ns.getD i [])&&!(base++ns.take i).contains (ns.getD i [])):=by
  unfold distinct
  rw[bJW,List.range_add,List.all_append,List.all_map]
  congr 1
  ·refine Bool.eq_iff_iff.2 ?_
   rw[bKK,bKK]
   refine forall_congr' fun i=>forall_congr' fun hi=>?_
   have hi:=bKZ.1 hi
   have a1:(base++ns).getD i []=base.getD i []:=by
    simp only[bKH]
    rw[bMH hi]
   have a2:(base++ns).take i=base.take i:=by rw[List.take_append_of_le_length Om]
   rw[a1,a2]
  ·refine Bool.eq_iff_iff.2 ?_
   rw[bKK,bKK]
   refine forall_congr' fun i=>forall_congr' fun _=>?_
   have a1:(base++ns).getD (base.length+i) []=ns.getD i []:=by
    simp only[bKH]
    rw[bLX Om]
    congr 2
    omega
   have a2:(base++ns).take (base.length+i)=base++ns.take i:=by rw[List.take_append,bKF Om]; congr 2; omega
   simp only[Function.comp,a1,a2]
 rw[DM base base.length rfl P,e1,aRA,e2]
 cases distinct base<;>cases (bJP base.length).all P<;>simp
theorem biC (r:bR):(decide (r.name=[])&&decide (r.level=0)&&decide (r.parent=-1)&&decide (r.bIK=0)&&cJ r.bIC&&!cB r.bIC)=oN r:=by
 have h1:decide (r.name=[])=(r.name==[]):=by cases r.name<;>rfl
 have h2:decide (r.level=0)=(r.level==0):=by generalize r.level=x; by_cases h:x=0<;>simp[h]
 have h3:decide (r.parent=-1)=(r.parent==-1):=by generalize r.parent=x; by_cases h:x=-1<;>simp[h]
 have h4:decide (r.bIK=0)=(r.bIK==0):=by generalize r.bIK=x; by_cases h:x=0<;>simp[h]
 have h5:(cJ r.bIC&&!cB r.bIC)=(cP (val r.bIC.num) (val r.bIC.den)&&(pG r.bIC==0)):=by
  rw[IJ]
  by_cases h:val r.bIC.num=0
  ·have ha:cB r.bIC=false:=by unfold cB; simp[h]
   rw[ha]
   simp only[bKD,bLP]
   cases hv:cP (val r.bIC.num) (val r.bIC.den) with
   | false =>
    unfold cJ mR
    rw[hv]
    rfl
   | true =>
    obtain⟨v1,-,-⟩:=fE.1 hv
    unfold cJ mR
    rw[hv,if_pos rfl,YF hv,h]
    unfold kZ
    have hb:val r.bIC.den/bJT 0 (val r.bIC.den)=1:=by rw[Nat.gcd_zero_left,Nat.div_self (bLW v1)]
    have b0:cD (0/bJT 0 (val r.bIC.den))=0:=by rw[Nat.zero_div]; exact jA
    have b1:cD 1=1:=by rw[nF (by decide),jA]
    simp only[hb,b0,b1]
    simp
  ·have ha:cB r.bIC=true:=by unfold cB; simp[h]
   rw[ha]
   simp
 unfold oN
 rw[h1,h2,h3,h4]
 simp only[bMM] at h5 ⊢
 rw[h5]
theorem bfP (f:aJ) {r:bR} {t:List bR} (h:f.bHN=r::t):yI f r t=(oN r&&(bJP t.length).all (uO f)):=by
 unfold yI
 rw[biC]
 congr 2
 funext i
 unfold uO
 rw[h,List.getElem?_cons_succ]
 cases t[i]? with
 | none=>rfl
 | some d=>exact blQ f i d
theorem a7W (f:aJ):f.bHK.all (gT f)=(bJP f.bHK.length).all (sP f):=by
 have:sP f=fun i=>(f.bHK.map (gT f)).getD i false:=by
  funext i
  unfold sP
  rw[bKH,bKS]
  cases f.bHK[i]? with
  | none=>rfl
  | some d =>
   show aBA f d=gT f d
   unfold aBA gT
   have:decide ((f.bHN.map bR.level).getD d.machine.toNat 0=4)=((f.bHN.map bR.level).getD d.machine.toNat 0==4):=by
    generalize (f.bHN.map bR.level).getD d.machine.toNat 0=u
    by_cases h:u=4<;>simp[h]
   rw[this,bMM]
 rw[this,wP]
theorem baO (f:aJ):f.bHO.all (jD f.bHL.length)=(bJP f.bHO.length).all (HY f):=by
 have:HY f=fun i=>(f.bHO.map (jD f.bHL.length)).getD i false:=by
  funext i
  unfold HY
  rw[bKH,bKS]
  cases f.bHO[i]? with
  | none=>rfl
  | some d=>exact (boL _ d).symm
 rw[this,wP]
theorem boQ (f:aJ):biA f=dM f:=by
 have hm:amJ f.bHT.length=jI f:=by
  funext m
  unfold amJ jI
  rw[bMM]
 have hvv:aOA f.bHO.length=mS f:=rfl
 have hs:(within f.bIY 1 4&&nN f.bHT.length f.bHL.length f.bHN.length f.bHK.length f.bHO.length f.bHM.length)=lT f:=by
  unfold lT nN
  simp only[bMM]
 unfold biA dM HB wI afC ayQ
 rw[DM _ _ (by rw[bJO]),DM _ _ (by rw[bJO]),DM _ _ (by rw[jR,bJO]),DM _ _ (by rw[bJO]),wP,wP,wP,hm,hvv,baO,a7W,← bMM,hs]
 unfold mV a4V
 cases hd:f.bHN with
 | nil=>simp
 | cons r t =>
  have hlen:decide (0<f.bHN.length)=true:=by rw[hd]; simp
  rw[hd] at hlen
  rw[hlen,bKA]
  simp only
  rw[bfP f hd]
  have hn:fX f=(f.bHN.drop 1).map bR.name:=rfl
  rw[hd] at hn
  have hl:(fX f).length=t.length:=by rw[hn]; simp
  have two:=boH (fX f) (kJ f) (uO f) (sP f)
  rw[hl,show (kJ f).length=f.bHK.length by simp[kJ]] at two
  have e1:uQ f=(bJP t.length).all (okL [] (fX f) (uO f)):=by
   unfold uQ
   rw[hd]
   rfl
  have e2:vZ f=(bJP f.bHK.length).all (okL (fX f) (kJ f) (sP f)):=rfl
  rw[e1,e2,← hn]
  rw[show f.bHK.map cG.name=kJ f from rfl,show f.bHO.map dB.name=jR f from rfl]
  generalize (bJP t.length).all (okL [] (fX f) (uO f))=a at *
  generalize (bJP f.bHK.length).all (okL (fX f) (kJ f) (sP f))=b at *
  generalize distinct (fX f++kJ f)=c at *
  generalize (bJP t.length).all (uO f)=d at *
  generalize (bJP f.bHK.length).all (sP f)=e at *
  generalize lT f=s
  generalize oN r=ro
  generalize distinct (f.bHT.map cN.name)=n1
  generalize f.bHT.all kC=n2
  generalize distinct (f.bHL.map cV.name)=n3
  generalize f.bHL.all (jI f)=n4
  generalize distinct (jR f)=n5
  generalize (bJP f.bHO.length).all (HY f)=n6
  generalize distinct (f.bHM.map eG.name)=n7
  generalize f.bHM.all (mS f)=n8
  have:(s&&(((((((n1&&n2)&&(n3&&n4))&&ro)&&a)&&b)&&(n5&&n6))&&(n7&&n8)))=(s&&(ro&&((n1&&n2)&&((n3&&n4)&&((a&&b)&&((n5&&n6)&&(n7&&n8))))))):=by
   cases s<;>cases ro<;>cases n1<;>cases n2<;>cases n3<;>cases n4<;>simp[bMM]
  rw[this,two]
  cases s<;>cases ro<;>cases n1<;>cases n2<;>cases n3<;>cases n4<;>cases c<;>cases d<;>cases e<;>simp
  cases n5<;>cases n6<;>cases n7<;>cases n8<;>rfl
theorem biB (f:aJ) (h:0<f.bHN.length):a4V f=oN f.bHN[0]:=by
 obtain⟨a,b,c,d,e,g,i⟩:=f
 cases d with
 | nil=>simp at h
 | cons r t=>rfl
theorem beL {C:Ctx} (L:alD C) (f:aJ) (hf:f.Ok):CP.wp C (aU SG.res (aE (.bool (dM f)))) (PF.args [.agg f.cells]) .nil:=by
 have hX:=boQ f
 unfold biA at hX
 have fail:∀ (F:PF) (H:PH),dM f=false→F 2=some (.bool false)→aU [.tmp 2] (aE (.bool (dM f))) .ret F H:=fun F H e h=>by
  rw[e]
  exact aX (vs:=[.bool false]) (.inr rfl) .nil (by simp only[go_sem,h]) PH.nil_le ⟨rfl,rfl⟩
 simp only[go_sem,δ,γ,θ,CP,axM,axN,SG]
 refine aA (L.inn f.bIY 1 4) rfl ?_
 cases k0:within f.bIY 1 4 with
 | false =>
  rw[k0,bJU] at hX
  simp only[go_sem,γ,bKD,zP]
  exact fail _ _ hX.symm rfl
 | true =>
 rw[k0,bKA] at hX
 simp only[go_sem,δ,γ,θ,bJV,bJO]
 refine aA (L.sizes f.bHT.length f.bHL.length f.bHN.length f.bHK.length f.bHO.length f.bHM.length) rfl ?_
 cases k1:nN f.bHT.length f.bHL.length f.bHN.length f.bHK.length f.bHO.length f.bHM.length with
 | false =>
  rw[k1,bJU] at hX
  simp only[go_sem,γ,reduceCtorEq,bKD,zP]
  exact fail _ _ hX.symm rfl
 | true =>
 rw[k1,bKA] at hX
 obtain⟨hz1,hz2,hz3,hz4,hz5,hz6⟩:=PY k1
 by_cases h0:f.bHN.length=0
 ·rw[decide_eq_false Om,bJU] at hX
  simp only[go_sem,δ,γ,θ,reduceCtorEq,bJV,bJO,bX (Om:((f.bHN.length:Nat):Int)=0),zP]
  exact fail _ _ hX.symm rfl
 have h00:0<f.bHN.length:=by omega
 rw[decide_eq_true h00,bKA] at hX
 simp only[go_sem,δ,γ,θ,reduceCtorEq,bJV,bJO,bG (Om:((f.bHN.length:Nat):Int)≠0),axO,axP,axQ]
 refine bqL L.topV f hf hz1 _ _ _ Lq fun H1=>?_
 simp only[go_sem,akC]
 refine beK L.topV f hf k1 (HB f) _ _ _ Lq fun H2=>?_
 have hd0:=uP h00
 have hsh:=(hf.dom _ (bJS h00)).1
 have hrp:=biB f h00
 rw[hrp] at hX
 generalize f.bHN[0]=r at *
 have rest:∀ (c:Bool) (F:PF) (H:PH),((((((PF.nil.set 1 (.bH f.cells)).set 5 (.aB)).set 6 (.aB)).set 7 (.aB)).set 8 (.bool c)):PF).le F→c=((HB f&&wI f)&&oN r) →
   aC.wp C (.seq (.seq (.region KJ) (.block 4 (.loop vP))) (.seq (.seq (.region KL) (.block 6 (.loop vQ))) (.seq (.seq (.region KN) (.block 8 (.loop vT))) (.seq (.seq (.region KT) (.block 14 (.loop vW))) (.seq (.region KW) .ret))))) (aU [.tmp 2] (aE (.bool (dM f)))) F H:=by
  intro c F H hF hc
  refine tA _ (fun _ _ _ _ a b=>Up.up a b) hF ?_
  simp only[go_sem,KJ]
  refine bqK L.topV f hf hz3 h00 c _ _ _ Lq fun w H3 hG=>?_
  simp only[go_sem,KL]
  refine beJ L.topV f hf hz3 h00 hz4 hz2 (c&&uQ f) w _ _ _ hG Lq fun H4=>?_
  simp only[go_sem,KN]
  refine bqM L f hf hz5 hz2 ((c&&uQ f)&&vZ f) _ _ _ Lq fun H5=>?_
  simp only[go_sem,KT]
  refine bqN L.topV f hf k1 (((c&&uQ f)&&vZ f)&&afC f) _ _ _ Lq fun H6=>?_
  simp only[go_sem,γ,KW]
  refine aX (vs:=[.bool (dM f)]) (.inr rfl) .nil ?_ PH.nil_le ⟨rfl,rfl⟩
  rw[← hX,hc]
  simp only[go_sem,γ]
 simp only[aC.wp,go_sem] at rest
 simp only[go_sem,ν,δ,γ,θ,akG,hd0]
 refine aQ fun o ho=>?_
 have g0:(H2.set o (.rows 7 [r.cells])) o=some (.rows 7 [r.cells]):=eS ..
 simp only[go_sem,δ,γ]
 generalize H2.set o (.rows 7 [r.cells])=H3 at *
 cases k2:(HB f&&wI f) with
 | false =>
  simp only[go_sem,ο,γ,reduceCtorEq,KI]
  exact rest false _ _ Lq (by rw[k2]; rfl)
 | true =>
  simp only[go_sem,ο,δ,γ,θ,KI,g0]
  cases k3:r.name==[] with
  | false =>
   simp only[go_sem,ο,γ,reduceCtorEq]
   exact rest false _ _ Lq (by rw[k2]; unfold oN; rw[k3]; rfl)
  | true =>
   simp only[go_sem,ο,δ,γ,θ,g0]
   cases k4:r.level==0 with
   | false =>
    simp only[go_sem,ο,γ,reduceCtorEq]
    exact rest false _ _ Lq (by rw[k2]; unfold oN; rw[k3,k4]; rfl)
   | true =>
    simp only[go_sem,ο,δ,γ,θ,g0]
    cases k5:r.parent==-1 with
    | false =>
     simp only[go_sem,γ,reduceCtorEq]
     exact rest false _ _ Lq (by rw[k2]; unfold oN; rw[k3,k4,k5]; rfl)
    | true =>
     simp only[go_sem,δ,γ,θ,g0]
     cases k6:r.bIK==0 with
     | false =>
      simp only[go_sem,γ,reduceCtorEq]
      exact rest false _ _ Lq (by rw[k2]; unfold oN; rw[k3,k4,k5,k6]; rfl)
     | true =>
      simp only[go_sem,δ,γ,g0]
      refine aA (L.valid _ hsh) rfl ?_
      cases k7:cP (val r.bIC.num) (val r.bIC.den) with
      | false =>
       simp only[go_sem,γ,reduceCtorEq]
       exact rest false _ _ Lq (by rw[k2]; unfold oN; rw[k3,k4,k5,k6,k7]; rfl)
      | true =>
       simp only[go_sem,δ,γ,g0]
       refine aA (L.sign _ hsh k7) rfl ?_
       simp only[go_sem,γ]
       exact rest _ _ _ Lq (by rw[k2]; unfold oN; rw[k3,k4,k5,k6,k7]; rfl)
structure cE (C:Ctx):Prop where
 r24:aN C 24 DH
 r26:aN C 26 aaQ
 r30:aN C 30 aLJ
 r31:aN C 31 agK
 r32:aN C 32 aLV
 r33:aN C 33 udiv
 r34:aN C 34 aMK
 r35:aN C 35 agT
 r36:aN C 36 aMN
 r37:aN C 37 aMV
 r38:aN C 38 ahC
 r39:aN C 39 DY
 r40:aN C 40 agS
 r41:aN C 41 QP
 r42:aN C 42 QQ
 r43:aN C 43 agX
 r44:aN C 44 QZ
 r45:aN C 45 uup
 r46:aN C 46 anU
 r47:aN C 47 aNT
 r48:aN C 48 RI
 r49:aN C 49 ahO
 r50:aN C 50 TQ
 r51:aN C 51 RJ
 r52:aN C 52 EC
 r53:aN C 53 ahZ
 r54:aN C 54 aiA
 r55:aN C 55 aON
 r56:aN C 56 RM
 r57:aN C 57 ahM
 r58:aN C 58 EA
 r59:aN C 59 aiB
 r60:aN C 60 RL
 r61:aN C 61 vC
 r62:aN C 62 EE
 r63:aN C 63 RV
 r64:aN C 64 ED
 r65:aN C 65 EF
 r66:aN C 66 aPI
 r67:aN C 67 SG
 r68:aN C 68 aOV
 r69:aN C 69 aOT
 r70:aN C 70 RZ
 r71:aN C 71 SA
 r72:aN C 72 yE
 r73:aN C 73 SE
 r74:aN C 74 SF
 r75:aN C 75 EG
 r76:aN C 76 wN
 r82:aN C 82 afO
 r85:aN C 85 afP
 r86:aN C 86 DW
 r89:aN C 89 aKE
 r91:aN C 91 same
 r95:aN C 95 aDF
 r96:aN C 96 aEA
 r97:aN C 97 NC
 r98:aN C 98 adG
 r99:aN C 99 adH
 r100:aN C 100 adI
 r101:aN C 101 gone
 r102:aN C 102 adJ
 r103:aN C 103 ND
 r104:aN C 104 gin
 r105:aN C 105 aDH
 r106:aN C 106 aDI
 r107:aN C 107 adM
 r108:aN C 108 adN
 r109:aN C 109 NL
 r110:aN C 110 adO
 r111:aN C 111 alT
 r112:aN C 112 aDL
 r113:aN C 113 MP
 r114:aN C 114 aBE
 r115:aN C 115 SX
 r116:aN C 116 wB
 r117:aN C 117 XJ
 r118:aN C 118 NB
 r119:aN C 119 aBB
 r120:aN C 120 nZ
 r121:aN C 121 NA
 r122:aN C 122 adF
 r123:aN C 123 TE
 r124:aN C 124 DE
 r125:aN C 125 DF
 r126:aN C 126 wH
 r127:aN C 127 aFV
 r128:aN C 128 aeJ
 r129:aN C 129 aGL
 r130:aN C 130 aGR
 r131:aN C 131 aGY
 r132:aN C 132 aeV
 r133:aN C 133 aHD
 r134:aN C 134 aHM
 r135:aN C 135 aeY
 r136:aN C 136 DK
 r137:aN C 137 OE
 r138:aN C 138 sD
 r139:aN C 139 xK
 r140:aN C 140 OI
 r141:aN C 141 OJ
 r142:aN C 142 tO
 r143:aN C 143 nup
 r144:aN C 144 PM.begin
 r145:aN C 145 PM.step
 r146:aN C 146 aMP
 r153:aN C 153 DX
 r156:aN C 156 zD
 r160:aN C 160 xT
 r161:aN C 161 QI
 r240:aN C 240 FT
 r241:aN C 241 abX
 r242:aN C 242 acJ
 r243:aN C 243 aAE
 r244:aN C 244 MF
 r245:aN C 245 zD
 r246:aN C 246 CY
 r247:aN C 247 PP
 r248:aN C 248 MI
 r249:aN C 249 acI
 r250:aN C 250 DO
 r251:aN C 251 afB
 r252:aN C 252 a4F
 r253:aN C 253 DP
 r254:aN C 254 PP
 r255:aN C 255 afF
 r257:aN C 257 qk
 r258:aN C 258 tY
 r260:aN C 260 tQ
 r261:aN C 261 PG
 r262:aN C 262 RU
 r263:aN C 263 RW
 r264:aN C 264 RS
 r265:aN C 265 aOR
 r266:aN C 266 ahD
 r267:aN C 267 RN
 r268:aN C 268 RE
 r269:aN C 269 aOE
 r270:aN C 270 afM
 r272:aN C 272 YG
 r277:aN C 277 PA
theorem uX {C:Ctx} (c:cE C):pE C :=
 have len:∀ xs,Lim xs→xs.length≤35184372087808→aD C 138 [aF xs] .nil (aE (.int .i64 (nl (val xs):Nat))):=fun xs h l=>c.r138.go (a3Y xs h l) rfl
 {length:=len
  large:=fun xs h l=>c.r137.go (a9L xs (len xs h l)) rfl
  sized:=fun xs h l=>(c.r141.go (a9Q xs h (len xs h l)) rfl).seen
  trim:=fun xs h l=>(c.r135.go (bhK xs h l (len xs h l)) rfl).seen
  make:=fun v h=>c.r132.go (bhH v h len) rfl
  cmp:=fun xs ys hx hy lx ly=>c.r129.go (bnW xs ys hx hy lx ly (len xs hx lx) (len ys hy ly)) rfl }
theorem bvN {C:Ctx} (c:cE C):ayE C :=
 {subtract:=fun A W Z v f o hW hv hl h1 hf bIZ=>c.r142.go (aHS A W Z v f hW hv hl h1 hf bIZ o) rfl
  restore:=fun A W Z v o hW hv hl h1=>c.r139.go (aQH A W Z v hW hv hl h1 o) rfl }
theorem bhE {C:Ctx} (c:cE C):ayV C :=
 {L:=uX c
  D:=bvN c
  up:=fun a s ha hs h1=>c.r143.go (bsC a s ha hs h1) rfl
  short:=fun a d ha h0 hd h1=>c.r140.go (a9O (uX c) a d ha h0 hd h1) rfl
  lengthO:=fun xs o hx hl=>c.r138.go (aQG xs hx hl o) rfl }
theorem aFU {C:Ctx} (c:cE C) (A B:Nat) (hB:B≠0) (hA:nl A≤900) (hBl:nl B≤900):aD C 136 [aF (aH A),aF (aH B)] .nil (aE (oS A B)) :=
 (c.r136.go (a3S (bhE c) A B hB hA hBl) rfl).seen
theorem xI {C:Ctx} (c:cE C):qP C :=
 {uX c with
  bits:=fun xs h l=>c.r128.go (bhF xs h l ((uX c).length xs h l)) rfl
  add:=fun xs ys hx hy lx ly=>(c.r127.go (bnT (uX c) xs ys hx hy lx ly) rfl).seen
  sub:=fun xs ys hx hy lx ly=>(c.r134.go (boE (uX c) xs ys hx hy lx ly) rfl).seen
  mul:=fun xs ys hx hy lx ly=>(c.r133.go (boC (uX c) xs ys hx hy lx ly) rfl).seen
  gcd:=fun xs ys hx hy lx ly=>(c.r131.go (boA (uX c) (aFU c) xs ys hx hy lx ly) rfl).seen
  div:=fun xs ys hx hy lx ly=>(c.r130.go (bnY (uX c) (aFU c) xs ys hx hy lx ly) rfl).seen }
theorem SY {C:Ctx} (c:cE C):EH C :=
 {xI c with
  times:=fun a b ha hb la lb na nb=>c.r121.go (a8H (xI c) a b ha hb la lb na nb) rfl
  zero:=fun neg a b ha la=>c.r122.go (bfV (xI c) neg a b ha la) rfl
  valid:=fun neg a b ha hb la lb=>c.r118.go (a8J (xI c) neg a b ha hb la lb) rfl
  abs:=fun v h1 h2=>c.r119.go (blT (xI c) v h1 h2) rfl
  lowest:=fun neg a b ha hb la lb na nb h0=>(c.r120.go (a2J (xI c) neg a b ha hb la lb na nb h0) rfl).seen }
theorem a8G {C:Ctx} (c:cE C) (x y:RF) (hx:x.Ok) (hy:y.Ok):aD C 113 [.agg x.cells,.agg y.cells] .nil (aE (frV (gZ x.v y.v))) :=
 (c.r113.go (blV (SY c) x.neg y.neg x.num x.den y.num y.den hx.1 hx.2.1 hy.1 hy.2.1 hx.2.2.1 hx.2.2.2 hy.2.2.1 hy.2.2.2) rfl).seen
theorem a2L {C:Ctx} (c:cE C):ayD C :=
 {SY c with
  frac:=fun n d hn hd=>(c.r115.go (bfT (SY c) n d hn.1 hn.2 hd.1 hd.2) rfl).seen
  red:=fun x hx=>by
   rw[← a4P]
   exact (c.r116.go (a2M (SY c) x.neg x.num x.den hx.1 hx.2.1 hx.2.2.1 hx.2.2.2) rfl).seen
  ord:=fun x y hx hy=>(c.r114.go (blX (SY c) x.neg y.neg x.num x.den y.num y.den hx.1 hx.2.1 hy.1 hy.2.1 hx.2.2.1 hx.2.2.2 hy.2.2.1 hy.2.2.2) rfl).seen
  plus:=a8G c
  tot:=fun l hl=>(c.r117.go (bmE (SY c) (a8G c) l hl.all hl.fits) rfl).seen }
theorem SW {C:Ctx} (c:cE C):qO C :=
 have inn:∀ n lo hi:Int,aD C 104 [.int .i64 n,.int .i64 lo,.int .i64 hi] .nil (aE (.bool (within n lo hi))):=fun n lo hi=>(c.r104.go (brE n lo hi) rfl).seen
 have uI:∀ x:RF,x.Ok→aD C 97 [.agg x.cells] .nil (aE (.bool (cB x))):=fun x hx=>(c.r97.go (a8L (xI c) x hx) rfl).seen
 have lim:∀ x:RF,x.Ok→aD C 105 [.agg x.cells] .nil (aE (.bool (cJ x))):=fun x hx=>(c.r105.go (bmK (a2L c) x hx) rfl).seen
 have letter:∀ n:Nat,aD C 126 [.int .u8 n] .nil (aE (.bool (eX n))):=fun n=>c.r126.go (a3H n) rfl
 have digit:∀ n:Nat,aD C 124 [.int .u8 n] .nil (aE (.bool (kR n))):=fun n=>c.r124.go (a8Y n) rfl
 {a2L c with
  inn:=inn
  uI:=uI
  lim:=lim
  one:=fun x hx=>(c.r101.go (bmO (a2L c) x hx) rfl).seen
  allf:=fun p fn l hl h=>(c.r99.go (bfZ p fn l hl h) rfl).seen
  alli:=fun p fn l hl h=>(c.r100.go (bgB p fn l hl h) rfl).seen
  allb:=fun p fn l hl h=>(c.r98.go (bfX p fn l hl h) rfl).seen
  ends1:=fun b=>(c.r103.go (a8N b) rfl).seen
  num1:=fun n=>(c.r107.go (bgG inn n) rfl).seen
  rate1:=fun x hx=>(c.r109.go (a8Q lim uI x hx) rfl).seen
  name:=fun s=>c.r123.go (bgZ letter (fun n=>c.r125.go (a9B letter digit n) rfl) s) rfl }
theorem a8E {C:Ctx} (c:cE C):ayT C :=
 {SW c with
  num:=fun p hp=>(c.r106.go (bmM (SW c) p hp) rfl).seen
  rate:=fun p hp=>(c.r108.go (bgI (SW c) p hp) rfl).seen
  uniq:=fun l hl=>(c.r110.go (bgL (SW c) l hl) rfl).seen }
theorem a8F {C:Ctx} (c:cE C):aaH C :=
 {a8E c with
  ends:=fun l hl he=>(c.r102.go (bgE (SW c) l hl he) rfl).seen }
theorem brC {C:Ctx} (c:cE C):jL C :=
 {a8F c with
  law:=fun l hl=>(c.r95.go (bmI (a8F c) l hl) rfl).seen
  pol:=fun p n hp hn=>(c.r112.go (bmQ (a8E c) p hp n hn) rfl).seen
  bHV:=fun f hf=>(c.r111.go (bmG (SW c) f hf) rfl).seen }
theorem aSJ {C:Ctx} (c:cE C) (f:aJ) (hf:f.Ok):aD C 96 [.agg f.cells] .nil (aE (.int .i64 (pT f))):=(c.r96.go (bmS (brC c) f hf) rfl).seen
theorem sV {C:Ctx} (c:cE C):nT C:={ trimM:=fun xs h l=>c.r38.go (bjH xs h l) rfl }
theorem baQ {C:Ctx} (c:cE C):ayW C :=
 {sV c with
  make:=fun v h=>(c.r35.go (biZ (sV c) v h) rfl).seen
  large:=fun xs h l=>(c.r41.go (bbS (sV c) xs h l) rfl).seen
  cmp:=fun xs ys hx hy lx ly=>c.r32.go (bpH (sV c) xs ys hx hy lx ly) rfl }
theorem baS {C:Ctx} (c:cE C):ayZ C :=
 {baQ c with
  minus:=fun a b ha hb hle hl h1=>(c.r42.go (bbU (sV c) a b ha hb hle hl h1) rfl).seen
  times:=fun a b ha hb h1 h2=>(c.r44.go (bbW (sV c) a b ha hb h1 h2) rfl).seen }
theorem aJG {C:Ctx} (c:cE C):aaM C :=
 {baS c with
  plus:=fun a b ha hb h1 h2=>(c.r43.go (bjF (sV c) a b ha hb h1 h2) rfl).seen }
theorem bsH {C:Ctx} (c:cE C):LO C :=
 {aJG c with
  bits:=fun xs h l=>c.r31.go (biT (sV c) xs h l) rfl
  upM:=fun a n ha h1 hn h0=>c.r45.go (bsU (sV c) a n ha h1 hn h0) rfl
  down:=fun a n ha h1 hn=>(c.r40.go (biX (sV c) a n ha h1 hn) rfl).seen }
theorem aJE {C:Ctx} (c:cE C):aaL C :=
 {baQ c with
  divide:=fun A B hB hA hBl=>(c.r39.go (a5M (bsH c) A B hB hA hBl) rfl).seen }
theorem baR {C:Ctx} (c:cE C):ayX C :=
 {aJE c with
  gcd:=fun a b ha hb la lb=>(c.r34.go (bpL (aJE c) a b ha hb la lb) rfl).seen
  div:=fun a b ha hb la lb=>(c.r33.go (bpJ (aJE c) a b ha hb la lb) rfl).seen }
theorem bkS {C:Ctx} (c:cE C):a1F C :=
 {baR c with
  lowest:=fun neg a b ha hb la lb na nb h0=>(c.r58.go (a5V (baR c) neg a b ha hb la lb na nb h0) rfl).seen
  size:=fun v hv=>c.r59.go (bjX v hv.1 hv.2) rfl }
theorem aJF {C:Ctx} (c:cE C):ayY C :=
 {bkS c with
  fmk:=fun n d hn hd=>(c.r50.go (bjR (bkS c) n d hn hd) rfl).seen }
theorem a4N {C:Ctx} (c:cE C):ayF C :=
 {aJF c with
  int:=fun n hn=>(c.r47.go (bpX (aJF c) n hn) rfl).seen
  mul:=fun a b ha hb la lb=>(c.r36.go (bpN (baS c) a b ha hb la lb) rfl).seen
  add:=fun a b ha hb la lb=>(c.r30.go (bpF (aJG c) a b ha hb la lb) rfl).seen
  sub:=fun a b ha hb la lb=>(c.r37.go (bpT (aJG c) a b ha hb la lb) rfl).seen }
theorem aJH {C:Ctx} (c:cE C):aaN C :=
 {a4N c with
  valid:=fun x hx=>c.r56.go (bdC (a4N c) x.neg x.num x.den hx.1 hx.2.1 hx.2.2.1 hx.2.2.2) rfl
  big:=fun x=>c.r48.go (bcL x.1 (aH x.2.1) (aH x.2.2)) rfl }
theorem baT {C:Ctx} (c:cE C):azA C :=
 {aJH c with
  fits:=fun x=>(c.r57.go (bjM (aJH c) x) rfl).seen
  red:=fun x hx=>(c.r52.go (a5X (aJH c) x hx) rfl).seen
  prod:=fun a b ha hb la lb na nb=>c.r60.go (bdA (a4N c) a b ha hb la lb na nb) rfl }
theorem PN {C:Ctx} (c:cE C):wO C :=
 {baT c with
  order:=fun x y hx hy vx vy=>c.r51.go (bcN (baT c) x y hx hy vx vy) rfl }
theorem bkT {C:Ctx} (c:cE C):a1G C :=
 {PN c with
  less:=fun x y hx hy vx vy=>c.r49.go (bjP (PN c) x y hx hy vx vy) rfl
  same:=fun x y hx hy vx vy=>c.r53.go (bjT (PN c) x y hx hy vx vy) rfl
  sign:=fun x hx vx=>c.r54.go (bjV (PN c) x hx vx) rfl
  plus:=fun x y hx hy=>(c.r46.go (bpV (PN c) x y hx hy) rfl).seen }
theorem aJD {C:Ctx} (c:cE C):aaK C :=
 {bkT c with
  sum:=fun l hl hf=>(c.r55.go (bqA (bkT c) l hl hf) rfl).seen
  inn:=fun n lo hi=>c.r76.go (a7D n lo hi) rfl
  code:=fun k m=>c.r61.go (biI k m) rfl }
theorem aWG {C:Ctx} (c:cE C):akZ C :=
 {aJD c with
  small:=fun x hx=>c.r74.go (beH (aJD c) x hx) rfl
  nums:=fun k m q s0 s1 s2 s3 s4=>c.r72.go (aQX (aJD c) k m q s0 s1 s2 s3 s4) rfl
  sizes:=fun x1 x2 x3 x4 x5 x6=>c.r73.go (beF x1 x2 x3 x4 x5 x6) rfl }
theorem aWH {C:Ctx} (c:cE C):alA C :=
 {aWG c with
  smalls:=fun l hl n=>c.r75.go (a7B (aWG c) l hl n) rfl }
theorem aWI {C:Ctx} (c:cE C):alB C :=
 {aWH c with
  reps:=fun l hl m=>c.r66.go (bqI (aWH c) l hl m) rfl }
theorem aWJ {C:Ctx} (c:cE C):alC C :=
 have letter:∀ n:Nat,aD C 65 [.int .u8 n] .nil (aE (.bool (eX n))):=fun n=>c.r65.go (a6N n) rfl
 have digit:∀ n:Nat,aD C 63 [.int .u8 n] .nil (aE (.bool (kR n))):=fun n=>c.r63.go (bdK n) rfl
 {aWI c with
  name:=fun s=>c.r62.go (a6L letter (fun n=>c.r64.go (a6J letter digit n) rfl) s) rfl
  index:=fun l hl s=>c.r71.go (beC l hl s) rfl }
theorem aWK {C:Ctx} (c:cE C):nS C :=
 {aWJ c with
  fresh:=fun l hl s w H hH=>c.r70.go (beA (aWJ c) l hl s w H hH) rfl }
theorem boN {C:Ctx} (c:cE C):pV C :=
 {aWK c with
  law:=fun l hl=>c.r68.go (bqG (aWK c) l hl) rfl }
theorem boO {C:Ctx} (c:cE C):alD C :=
 {boN c with
  dur:=fun m rep hr t h ht hh=>c.r69.go (bqE (aWI c) m rep hr t h ht hh) rfl }
theorem anH {C:Ctx} (c:cE C) (f:aJ) (hf:f.Ok):aD C 67 [.agg f.cells] .nil (aE (.bool (dM f))):=c.r67.go (beL (boO c) f hf) rfl
theorem bsK {C:Ctx} (c:cE C) (f:aJ) (l:List (List Int)) (hf:f.Ok) (hl:eT l):aD C 153 [.agg f.cells,lay l] .nil (aE (.bool (gU f l))) :=
 (c.r153.go (aQQ ⟨fun f hf=>(c.r161.go (bbO (aSJ c) f hf) rfl).seen,fun f l v hV hl hv hvf=>(c.r160.go (a5J ⟨fun f v hv h=>(c.r156.go (aLD f hv v h) rfl).seen⟩ f hV l hl v hv hvf) rfl).seen⟩ f hf l hl) rfl).seen
theorem aJM {C:Ctx} (c:cE C):aaO C :=
 {val:=aSJ c
  valid:=anH c
  shaped:=bsK c
  rshaped:=fun f l hf hl=>c.r86.go (aQO ⟨anH c,fun f v hv h=>(c.r82.go (biK f hv v h) rfl).seen,fun f row hl=>c.r89.go (boV f row hl) rfl⟩ f hf l hl) rfl }
theorem a4S {C:Ctx} (c:cE C) (l:List Int) (x:Int) (h:l.length≤1000000000000000):aD C 260 [ints l,.int .i64 x] .nil (aE (.bool (l.contains x))):=c.r260.go (aID l x (c.r261.go (baM l h x) rfl)) rfl
theorem a4T {C:Ctx} (c:cE C):EI C :=
 {fmk:=(aJF c).fmk
  next:=fun l T o n a hn ha=>c.r240.go (bfN l T.1 T.2 o n a hn ha) rfl }
theorem bkU {C:Ctx} (c:cE C):oU C :=
 {a4T c with
  frac:=fun n d h1 h2 h0=>c.r241.go (bfE (a4T c) n d h1 h2 h0) rfl
  name:=fun ch n hn=>c.r242.go (bfL ch n hn) rfl }
theorem bvS {C:Ctx} (c:cE C):CQ C :=
 {bkU c with
  dom:=fun o7 ext w1 w2 wd w4 w5 w6 ds hds lev par up H0 hH=>c.r243.go (blJ (bkU c) o7 ext w1 w2 wd w4 w5 w6 ds hds lev par up H0 hH) rfl }
theorem bkV {C:Ctx} (c:cE C):CR C :=
 {a4T c with
  size:=fun f v hV h=>(c.r245.go (aLD f hV v h) rfl).seen
  has:=fun l x h=>c.r247.go (aWM l h x) rfl }
theorem bvT {C:Ctx} (c:cE C):a7G C :=
 {a4T c with
  fleet:=fun l T o vols a hv ha=>exactly (c.r244.go (a7R (bvS c) T o vols a hv ha) rfl)
  layout:=fun l T o a f ha hF hV h1=>exactly (c.r246.go (a2B (bkV c) T o a ha f hF hV h1) rfl)
  rooms:=fun l T o a f ha hf hv h1=>exactly (c.r248.go (a7U (bkV c) T o a ha f hv h1 (c.r85.go (aKO ⟨anH c⟩ f hf []) rfl)) rfl) }
theorem bFE {C:Ctx} (c:cE C) (s:vX C):bkE C :=
 {begin:=fun n=>c.r144.go (beR n) rfl
  step:=fun n p w e=>c.r145.go (bpD n p w e) rfl
  same:=fun xs ys h=>c.r91.go (boT xs ys h) rfl
  upd:=fun ws p w h1 h2=>(c.r146.go (bpR s ws h1 h2 p w) rfl).bsP }
theorem bkW {C:Ctx} (c:cE C):SP C 250 251 :=
 {usable:=fun f now r hf hl=>c.r250.go (a4J (aJM c) f hf now hl r) rfl
  fits:=fun f now r down hu hl hd=>by
   obtain⟨h1,h2,h3,h4⟩:=gV hu
   exact c.r251.go (bhT ⟨a4S c⟩ f (VF.of h1) now hl h2 r h3 h4 down hd) rfl }
theorem bbA {C:Ctx} (c:cE C):azB C:=⟨fun l x h=>c.r254.go (aWM l h x) rfl,fun f v hV h=>c.r257.go (bvQ f hV v h) rfl⟩
theorem baZ {C:Ctx} (c:cE C):SP C 253 255 :=
 {usable:=fun f now r hf hl=>c.r253.go (a4L (aJM c) (fun f hf=>c.r258.go (aPJ (aJM c) f hf) rfl) f hf now hl r) rfl
  fits:=fun f now r down hu hl hd=>by
   obtain⟨h1,h2,h3,h4⟩:=gV hu
   exact c.r255.go (bhY (bbA c) f (VF.of h1) now hl h2 r h3 h4 down hd) rfl }
theorem aWV {C:Ctx} (c:cE C) (f:aJ) (now:List (List Int)) (r:Int) (hf:f.Ok) (hl:eT now):aD C 262 [.agg f.cells,lay now,.int .i64 r] .nil (aE (.int .i64 (fL f now r))):=c.r262.go (bdI (bkW c) f hf now hl r) rfl
theorem baY {C:Ctx} (c:cE C) (f:aJ) (now:List (List Int)) (r:Int) (hf:f.Ok) (hl:eT now):aD C 266 [.agg f.cells,lay now,.int .i64 r] .nil (aE (.int .i64 (fL f now r))):=c.r266.go (bjK (baZ c) f hf now hl r) rfl
theorem boS {C:Ctx} (c:cE C) (f:aJ) (now:List (List Int)) (r:Int) (hf:f.Ok) (hl:eT now):aD C 263 [.agg f.cells,lay now,.int .i64 r] .nil (aE (wvT f now r)) :=
 (aD.aGW (c.r263.go (bdY { bkW c with check:=aWV c,clone:=fun H q rs l h1 h2 h3 h4=>c.r277.go (baI H q rs l h1 h2 h3 h4) rfl } f hf now hl r) rfl)).seen
theorem biF {C:Ctx} (c:cE C) (f:aJ) (now:List (List Int)) (r:Int) (hf:f.Ok) (hl:eT now):aD C 267 [.agg f.cells,lay now,.int .i64 r] .nil (SO (jN f now r) (fL f now r)):=c.r267.go (bdE { baZ c with able:=baY c } f hf now hl r) rfl
theorem boR {C:Ctx} (c:cE C) (f:aJ) (now:List (List Int)) (r:Int) (hf:f.Ok) (hl:eT now):aD C 264 [.agg f.cells,lay now,.int .i64 r] .nil (aE (QH (tE f now r) (fL f now r))):=c.r264.go (bdG f now hl r (aWV c f now r hf hl)) rfl
theorem biE {C:Ctx} (c:cE C) (f:aJ) (now:List (List Int)) (r:Int) (hf:f.Ok) (hl:eT now):aD C 268 [.agg f.cells,lay now,.int .i64 r] .nil (aE (QH (tE f now r) (fL f now r))):=c.r268.go (bcJ (bbA c) f now hl r (baY c f now r hf hl)) rfl
theorem bsO {C:Ctx} (c:cE C) (s:vX C):a7H C :=
 {within:=fun x n hn=>c.r24.go (a3J x n hn) rfl
  awak:=c.r26.go (a7I (bFE c s)) rfl
  made:=fun l T=>c.r249.go (bfJ (bvT c) T) rfl }
theorem a4X {C:Ctx} (c:cE C) (s:vX C) (r:aN C 275 NP) (l:List Int) (T:TpM l) (n:Int) (b:Bool):aD C 275 [ints l,.int .i64 n,.bool b] .nil (aE (.bool true)) :=
 r.go (a9D { bsO c s with waves:=boS c,rwaves:=fun f now r hf hl=>(biF c f now r hf hl).aGW.seen,bound:=boR c,rbound:=biE c,same:=fun a b ha hb=>c.r270.go (biG a b ha hb) rfl } l T n b) rfl
end Go.PM
