/-
  Texts of ours, joined: RoW2 RoW7 RfW3 RwL1 L11W11 L11W12 L11W13 R11W3 R11W4 R11W5 R11W6 L11W14 L11W15 RwL2 RwL3 RfW5 RwL4 RwL5 RwL6 RwL7 RfW4 R2Code R2W1 R2W2 R2W3 R2W4 R2W5 R2W6 R2W7 R2W8 R3W1 R3W2 R3W3 R8W1 R10W1 R10W2 R1. No condition.
-/
import Derived.Test.YthbkofcdddghgaaGreatRChecks1
import Derived.Test.YthbkofcdddghgaaGreatRChecks2
import Derived.Test.YthbkofcdddghgaaGreatRChecks3
import Derived.Test.YthbkofcdddghgaaGreatRChecks4

set_option linter.unusedSimpArgs false
set_option linter.unusedVariables false
open Nat renaming reduceEqDiff → γ, reduceAdd → δ, reduceSub → ε, reduceMul → ζ, reduceLT → η, reduceLeDiff → θ, reduceBEq → τ
open Int renaming reduceLT → ι, reduceLE → κ, reduceEq → μ, reduceToNat → ν, reduceAdd → ξ, reduceNeg → ο, reduceBEq → ρ, reduceBNe → σ
open List renaming reduceReplicate → υ
open List renaming length_map → bJT, range → bJU, replicate → bJW, getElem_mem → bJX, length_append → bKA, getElem?_eq_getElem → bKD, length_singleton → bKH, mem_cons → bKJ, take_of_length_le → bKK, length_take → bKL, getD_eq_getElem?_getD → bKO, all_eq_true → bKQ, take_length → bKS, append_assoc → bKU, getElem?_eq_some_iff → bKV, drop_zero → bKW, mem_map → bKX, getElem?_map → bKZ, not_mem_nil → bLB, mem_singleton → bLD, getElem?_eq_none → bLG, mem_append → bLH, mem_range → bLI, take_succ_eq_append_getElem → bLK, append_nil → bLM, drop_eq_getElem_cons → bLP, length_set → bLQ, Sublist → bLR, getElem?_append_right → bLS, length_cons → bLU, length_drop → bLV, map_append → bLW, map_cons → bLX, getElem_of_mem → bMA, getElem_map → bMC, length_nil → bMD, nodup_append → bME, take_append_drop → bMF, getElem?_append_left → bMH, mem_of_getElem? → bMK, nil_append → bML, getElem?_take_of_lt → bMO, getElem?_take → bMY, set_append_right → bMZ, contains_iff_mem → bNE, drop_of_length_le → bNF, flatten_cons → bNG, getElem?_drop → bNH, length_replicate → bNI, eq_nil_of_length_eq_zero → bNJ
open Nat renaming le_refl → bJV, gcd → bJY, zero_le → bKF, mul_add → bKG, lt_or_ge → bKM, zero_add → bKN, mul_assoc → bKP, mul_comm → bKT, add_mul → bKY, mul_le_mul_right → bLA, mod_eq_of_lt → bLE, mod_lt → bLJ, add_zero → bLL, pow_succ → bLN, min_eq_left → bLY, mul_le_mul_left → bLZ, pos_of_ne_zero → bMB, add_assoc → bMG, sub_self → bMI, pow_pos → bMM, div_lt_iff_lt_mul → bMP, le_trans → bMQ, eq_zero_or_pos → bMT, div_add_mod → bNA, div_eq_of_lt → bNB
open Bool renaming false_and → bJZ, not_true → bKC, true_and → bKE, not_false → bKI, and_eq_true → bKR, and_false → bLC, and_true → bLT, and_assoc → bMS, false_eq_true → bMU
open Option renaming map_eq_some_iff → bKB, map_some → bLF, getD_some → bMJ, some → bMN, bind_eq_some_iff → bMV, bind_some → bNC
open Array renaming replicate → bLO, length_toList → bMR, getElem?_eq_getElem → bMW, getElem?_eq_some_iff → bND
open Int renaming toNat_natCast → bMX
namespace Go.PM
open Go
def awM (xs ys:List Int) (i:Nat):PF:=(((PF.nil.set 0 (ints xs)).set 1 (ints ys)).set 4 (.bool false)).set 5 (.int .i64 i)
theorem boU {C:Ctx} (xs ys:List Int) (bJK:xs.length≤9223372036854775806):PD.wp C (aT same.res (aD (.bool (xs==ys)))) (PF.args [ints xs,ints ys]) .nil:=by
 simp only[go_sem,γ,δ,ε,ζ,η,θ,ι,κ,μ,ν,ξ,ο,ρ,σ,τ,υ,reduceIte,reduceCtorEq,PD,aUR,aUS,ints,same,bJT]
 refine kS (fun h=>?_) (fun h=>?_)
 ·simp only[go_sem,γ,δ,ε,ζ,η,θ,ι,κ,μ,ν,ξ,ο,ρ,σ,τ,υ,reduceIte,reduceCtorEq,aUT]
  refine aM (.inr rfl) Ev ?_
  have:¬ xs=ys:=by rintro rfl; simp at h
  simp[aV,this]
 ·have hl:xs.length=ys.length:=by simp at h; omega
  simp only[go_sem,γ,δ,ε,ζ,η,θ,ι,κ,μ,ν,ξ,ο,ρ,σ,τ,υ,reduceIte,reduceCtorEq,aUU]
  refine wp_loop (α:=Nat) (awM xs ys) (fun _=>.nil) (fun i=>i≤xs.length∧xs.take i=ys.take i) (fun i=>xs.length-i) 0 ⟨by omega,by simp⟩ ?_ PH.nil_le ?_
  ·unfold awM
   refine PF.aI (PF.aI (PF.aI (PF.aI PF.nil_le ?_) ?_) ?_) ?_<;>simp only[go_sem,γ,δ,ε,ζ,η,θ,ι,κ,μ,ν,ξ,ο,ρ,σ,τ,υ,reduceIte,reduceCtorEq,ints]<;>rfl
  ·rintro i ⟨hi,htake⟩
   simp only[go_sem,γ,δ,ε,ζ,η,θ,ι,κ,μ,ν,ξ,ο,ρ,σ,τ,υ,reduceIte,reduceCtorEq,aUQ,aUV,awM,ints,bJT]
   refine kS (fun h=>?_) (fun h=>?_)
   ·have hlt:i<xs.length:=by simpa using h
    simp only[go_sem,γ,δ,ε,ζ,η,θ,ι,κ,μ,ν,ξ,ο,ρ,σ,τ,υ,reduceIte,reduceCtorEq]
    refine bR .nil eG PH.nil_le ?_
    have hx:(xs.map fun n=>[PV.int .i64 n])[i]?=some [.int .i64 xs[i]]:=by simp[hlt]
    have hy:(ys.map fun n=>[PV.int .i64 n])[i]?=some [.int .i64 ys[i]]:=by simp[show i<ys.length by omega]
    simp only[go_sem,γ,δ,ε,ζ,η,θ,ι,κ,μ,ν,ξ,ο,ρ,σ,τ,υ,reduceIte,reduceCtorEq,aUW,bMX,Int.natCast_nonneg,hx,hy,loadCells,bKH,bJV]
    refine kS (fun h2=>?_) (fun h2=>?_)
    ·simp only[go_sem,γ,δ,ε,ζ,η,θ,ι,κ,μ,ν,ξ,ο,ρ,σ,τ,υ,reduceIte,reduceCtorEq,aUX]
     refine aM (.inr rfl) Ev ?_
     have hne:xs[i]≠ys[i]:=by simpa using h2
     have:¬ xs=ys:=by rintro rfl; simp at hne
     simp[aV,this]
    ·have he:xs[i]=ys[i]:=by simpa using h2
     simp only[go_sem,γ,δ,ε,ζ,η,θ,ι,κ,μ,ν,ξ,ο,ρ,σ,τ,υ,reduceIte,reduceCtorEq,aUY]
     refine aH (i+1) ⟨by omega,?_⟩ Om ?_ PH.nil_le
     ·rw[bLK hlt,bLK (by omega:i<ys.length),htake,he]
     ·unfold awM
      have hw:IntKind.i64.wrap ((i:Int)+1)=((i+1:Nat):Int):=by
       exact dH Om
      refine PF.aI (PF.aI (PF.aI (PF.aI PF.nil_le ?_) ?_) ?_) ?_<;>simp only[go_sem,γ,δ,ε,ζ,η,θ,ι,κ,μ,ν,ξ,ο,ρ,σ,τ,υ,reduceIte,reduceCtorEq,ints,hw]
   ·have hge:i=xs.length:=by simp at h; omega
    simp only[go_sem,γ,δ,ε,ζ,η,θ,ι,κ,μ,ν,ξ,ο,ρ,σ,τ,υ,reduceIte,reduceCtorEq,aUZ]
    refine aM (.inr rfl) Ev ?_
    subst hge
    have:xs=ys:=by
     rw[bKS] at htake
     rw[htake,hl,bKS]
    simp[aV,this]

open Go Go.Na
structure a5U (C:Ctx):Prop where
 within:∀ x n:Int,InK .i64 n→aE C 24 [.int .i64 x,.int .i64 n] .nil (aD (.int .i64 (wi x n)))
 awak:aE C 26 [] .nil (aD (.bool true))
 made:∀ l:List Int,TpM l→aE C 249 [ints l] .nil (aYZ l)
theorem a4G (f:aK) (now:List (List Int)) (r:Int):(kE f now r).flatten.length≤f.bHP.length∧(kE f now r).length≤f.bHP.length∧∀ w∈kE f now r,w.length≤f.bHP.length:=by
 by_cases c:oH f now r=0
 ·obtain⟨hu,ha⟩:=MH c
  have k:=QY ha f.bHP.length (bJV _)
  have e:kE f now r=oT f now r f.bHP.length:=by unfold kE; rw[if_pos c]
  rw[← e] at k
  refine⟨Nat.le_of_eq k.len,?_,fun w hw=>?_⟩
  ·have:=(akT.of (ps:=(kE f now r).map fun w=>(PV.aB,w)) ha (bJV _) (by unfold wls; rw[List.map_map,e]; exact List.map_id _)).num
   rwa [bJT] at this
  ·have:=(List.sublist_flatten_of_mem hw).length_le
   rw[k.len] at this
   exact this
 ·have e:kE f now r=[]:=by unfold kE; rw[if_neg c]
  rw[e]
  exact⟨bKF _,bKF _,fun w hw=>by cases hw⟩
theorem bBX:InK .i64 2:=⟨by decide,by decide⟩
structure aYY (f:aK) (L:List (List Int)):Prop where
 ok:f.Ok
 val:dL f=true
 lay:fI L
 shp:tU f L
theorem buT (l:List Int):aYY (fM l) (a1Y l) :=
 {val:=wQ l (bHR:=3) (by decide) 0
  ok:=(yJ l (bHR:=3) (by decide) 0).1.ok
  shp:=a7M l 3 0 (dD l 3 0).2 (by decide)
  lay:=(a7M l 3 0 (dD l 3 0).2 (by decide)).ok (VF.of (wQ l (bHR:=3) (by decide) 0)) }

theorem tU.move {f:aK} {L:List (List Int)} (h:tU f L) {x k d:Nat} (hx:x<L.length) (hd:d<f.bHP.length):tU f (L.set x (L[x].set k d)):=by
 refine⟨by rw[bLQ]; exact h.len,fun v hv=>?_,fun r hr=>?_⟩
 ·rw[bLQ] at hv
  have:=h.row v hv
  rw[List.getElem_set]
  split
  ·rename_i e
   subst e
   rw[bLQ]; exact this
  ·exact this
 ·rcases List.mem_or_eq_of_mem_set hr with hr | rfl
  ·exact h.home r hr
  ·intro y hy
   rcases List.mem_or_eq_of_mem_set hy with hy | rfl
   ·exact h.home _ (bJX hx) y hy
   ·omega

theorem baB (f:aK) (l:List (List Int)) (v:Nat):(lZ f l v).isNone=(decide (((l.getD v []).length:Int)=fC f v)&&!decide (EI f (l.getD v [])≥0)):=by
 unfold lZ EI
 split
 ·rename_i c
  rw[decide_eq_true c]
  cases fV (jS f) (l.getD v []) 0 with
  | none=>rfl
  | some i=>simp
 ·rename_i c
  rw[decide_eq_false c]; rfl
def ssS (f:aK) (row:List Int):Spec:=fun name vs=>match name,vs with
 | 89,_=>some ([],fun _=>aD (.int .i64 (EI f row)))
 | 82,[_,.int _ v]=>some ([],fun _=>aD (.int .i64 (fC f v.toNat)))
 | _,_=>none
theorem biJ (f:aK) (row:List Int) (v:Nat):ssS f row 82 [.agg f.cells,.int .i64 v]=some ([],fun _=>aD (.int .i64 (fC f v))):=rfl




theorem a1D {f:aK} (hv:dL f=true) {l:List (List Int)} (hS:tU f l):iU f l=true:=by
 unfold iU
 rw[hv,decide_eq_true hS.len,bKE,bKE,bKQ]
 intro v hm
 rw[hS.shape (bLI.1 hm)]
 rfl
theorem awU (x:Int) {n:Int} (hn:1≤n):0≤wi x n∧wi x n<n:=by
 have h1:=Int.tmod_lt_of_pos x (Om:0<n)
 have h2:=Int.lt_tmod_of_pos x (Om:0<n)
 unfold wi
 rw[if_neg Om]
 split<;>omega
theorem aYY.usable {f:aK} {L:List (List Int)} (h:aYY f L) {r:Int} (h0:0≤r) (h4:r≤4):fH f L r=true:=by
 unfold fH
 rw[h.val,a1D h.val h.shp,decide_eq_true h0,decide_eq_true h4]
 rfl
theorem aQ.aB {H:PH} {B:List BX} {L:List LI} (h:aQ H B L):∀ m,aQ H B (L++jH (bJW m (.aB,[])))
 | 0=>by
  show aQ H B (L++[])
  rw[bLM]; exact h
 | m+1=>by
  have:=(aQ.aB h m).mF 1
  rw[bKU] at this
  have e:jH (bJW (m+1) (PV.aB,([]:List Int)))=jH (bJW m (.aB,[]))++[(.aB,1,[])]:=by
   unfold jH
   rw[List.replicate_succ',bLW]
   rfl
  rw[e]
  exact this
structure bkB (C:Ctx):Prop where
 begin:∀ n:Int,aE C 144 [.int .i64 n] .nil (aD (CW n))
 step:∀ n p w e:Int,aE C 145 [.int .i64 n,.agg [.int .i64 p,.int .i64 w],.int .i64 e] .nil (aD (mP (mO n p w e)))
 same:∀ xs ys:List Int,xs.length≤9223372036854775806→aE C 91 [ints xs,ints ys] .nil (aD (.bool (xs==ys)))
 upd:∀ (ws:List (List Int)) (p w:Int),ws.length≤1000000→ws.flatten.length≤1000000→aE C 146 [lists ws,.agg [.int .i64 p,.int .i64 w]] .nil (aD (ints (QG ws p w)))
theorem a5X {C:Ctx} (L:bkB C):EH.wp C (aT aaF.res (aD (.bool true))) (PF.args []) .nil:=by
 simp only[go_sem,γ,δ,ε,ζ,η,θ,ι,κ,μ,ν,ξ,ο,ρ,σ,τ,υ,reduceIte,reduceCtorEq,EH,axP,axQ,aaF]
 refine aA (L.begin 1) Ev ?_
 simp only[go_sem,γ,δ,ε,ζ,η,θ,ι,κ,μ,ν,ξ,ο,ρ,σ,τ,υ,reduceIte,reduceCtorEq,CW]
 refine aR fun o1 k1=>?_
 simp only[go_sem,γ,δ,ε,ζ,η,θ,ι,κ,μ,ν,ξ,ο,ρ,σ,τ,υ,reduceIte,reduceCtorEq,axR]
 refine aA (L.step 1 1 0 1) Ev ?_
 rw[show mO 1 1 0 1=((2,0),0) by decide]
 simp only[go_sem,γ,δ,ε,ζ,η,θ,ι,κ,μ,ν,ξ,ο,ρ,σ,τ,υ,reduceIte,reduceCtorEq,mP,stV]
 refine aR fun o2 k2=>?_
 have n21:¬ o2=o1:=(cW.1 k2).1
 have n12:¬ o1=o2:=fun h=>n21 h.symm
 simp only[go_sem,γ,δ,ε,ζ,η,θ,ι,κ,μ,ν,ξ,ο,ρ,σ,τ,υ,reduceIte,reduceCtorEq,axS,n21,n12]
 refine aA (L.step 1 2 0 2) Ev ?_
 rw[show mO 1 2 0 2=((3,0),0) by decide]
 simp only[go_sem,γ,δ,ε,ζ,η,θ,ι,κ,μ,ν,ξ,ο,ρ,σ,τ,υ,reduceIte,reduceCtorEq,mP,stV,n21,n12]
 refine aR fun o4 k4=>?_
 have n42:¬ o4=o2:=(cW.1 k4).1
 have n41:¬ o4=o1:=(cW.1 (cW.1 k4).2).1
 have n24:¬ o2=o4:=fun h=>n42 h.symm
 have n14:¬ o1=o4:=fun h=>n41 h.symm
 simp only[go_sem,γ,δ,ε,ζ,η,θ,ι,κ,μ,ν,ξ,ο,ρ,σ,τ,υ,reduceIte,reduceCtorEq,axT,n21,n12,n42,n41,n24,n14]
 refine aA (L.step 1 3 0 3) Ev ?_
 rw[show mO 1 3 0 3=((4,0),0) by decide]
 simp only[go_sem,γ,δ,ε,ζ,η,θ,ι,κ,μ,ν,ξ,ο,ρ,σ,τ,υ,reduceIte,reduceCtorEq,mP,stV,n21,n12,n42,n41,n24,n14]
 refine aR fun o6 k6=>?_
 have n64:¬ o6=o4:=(cW.1 k6).1
 have n62:¬ o6=o2:=(cW.1 (cW.1 k6).2).1
 have n61:¬ o6=o1:=(cW.1 (cW.1 (cW.1 k6).2).2).1
 have n46:¬ o4=o6:=fun h=>n64 h.symm
 have n26:¬ o2=o6:=fun h=>n62 h.symm
 have n16:¬ o1=o6:=fun h=>n61 h.symm
 simp only[go_sem,γ,δ,ε,ζ,η,θ,ι,κ,μ,ν,ξ,ο,ρ,σ,τ,υ,reduceIte,reduceCtorEq,axU,n21,n12,n42,n41,n24,n14,n64,n62,n61,n46,n26,n16]
 refine aA (L.step 1 4 0 1) Ev ?_
 rw[show mO 1 4 0 1=((0,0),110) by decide]
 simp only[go_sem,γ,δ,ε,ζ,η,θ,ι,κ,μ,ν,ξ,ο,ρ,σ,τ,υ,reduceIte,reduceCtorEq,mP,stV]
 refine aR fun o8 k8=>?_
 have n86:¬ o8=o6:=(cW.1 k8).1
 have n81:¬ o8=o1:=(cW.1 (cW.1 (cW.1 (cW.1 k8).2).2).2).1
 have n68:¬ o6=o8:=fun h=>n86 h.symm
 have n18:¬ o1=o8:=fun h=>n81 h.symm
 simp only[go_sem,γ,δ,ε,ζ,η,θ,ι,κ,μ,ν,ξ,ο,ρ,σ,τ,υ,reduceIte,reduceCtorEq,axV,n21,n12,n42,n41,n24,n14,n64,n62,n61,n46,n26,n16,n86,n81,n68,n18]
 refine aA (L.upd [[2,1]] 4 0 (by decide) (by decide)) Ev ?_
 rw[show QG [[2,1]] 4 0=[1,2] by decide]
 simp only[go_sem,γ,δ,ε,ζ,η,θ,ι,κ,μ,ν,ξ,ο,ρ,σ,τ,υ,reduceIte,reduceCtorEq]
 refine aA (L.same [1,2] [1,2] (by decide)) Ev ?_
 simp only[go_sem,γ,δ,ε,ζ,η,θ,ι,κ,μ,ν,ξ,ο,ρ,σ,τ,υ,reduceIte,reduceCtorEq,show (([1,2]:List Int)==[1,2])=true from rfl]
 refine aA (L.begin 0) Ev ?_
 simp only[go_sem,γ,δ,ε,ζ,η,θ,ι,κ,μ,ν,ξ,ο,ρ,σ,τ,υ,reduceIte,reduceCtorEq,CW]
 refine aM (.inr rfl) Ev ?_
 rfl

theorem boJ {α:Type} {l:List α} {i:Nat} {x:α} (h:l[i]?=some x):l.Perm (x::l.eraseIdx i):=by
 obtain⟨hl,rfl⟩:=bKV.1 h
 rw[List.eraseIdx_eq_take_drop_succ]
 have e:l=l.take i++l[i]::l.drop (i+1):=by rw[← bLP hl,bMF]
 conv=>lhs; rw[e]
 exact List.perm_middle
theorem bhE {α:Type} {l:List α} {i:Nat} (h:i<l.length) (y:α):(y::l.eraseIdx i).Perm (l.set i y):=by
 rw[List.eraseIdx_eq_take_drop_succ,List.set_eq_take_append_cons_drop,if_pos h]
 exact List.perm_middle.symm
theorem aQ.a6A {C:Ctx} {F:PF} {H:PH} {B:List BX} {vo v:PV} {ps:WPs} {w w':List Int} {i name:Nat} {vs:List PV} {args:List aP} {d:Option Nat} {K:PF→PH→Prop} (h:aQ H B (cV vo ps)) (hi:ps[i]?=some (v,w))
  (hc:∀ H0,aQ H0 [] [(v,1,bD w)]→aE C name vs H0 (fun r H'=>∃ B' L',(B'=[]∧L'=[(v,1,bD w),(r,1,bD w')])∧aQ H' B' L')) (ha:aP.evs F args=some vs)
  (hk:∀ r H',aQ H' B ((vo,1,fJ ps)::(jH ps).set i (r,1,bD w'))→K (F.put d r) H'):fP C name args [] d K F H:=by
 have hat:(cV vo ps)[i+1]?=some (v,1,bD w):=SK hi
 have hl:i+1<(cV vo ps).length:=(bKV.1 hat).1
 have h1:aQ H ([]++B) ([(v,1,bD w)]++(cV vo ps).eraseIdx (i+1)):=h.perm (.refl _) (boJ hat)
 refine CF (Q:=fun r B' L'=>B'=[]∧L'=[(v,1,bD w),(r,1,bD w')]) h1 hc ha ?_
 rintro r B' L' H' ⟨rfl,rfl⟩ h2
 refine hk r H' ?_
 have h3:aQ H' B ((r,1,bD w')::(cV vo ps).eraseIdx (i+1)):=h2.sub (bLR.refl _) (List.sublist_cons_self ..)
 exact h3.perm (.refl _) (bhE hl _)
def lcS (ids:List Nat) (b1 b2:Bool):Spec:=fun name vs=>match name,vs with
 | 24,[.int _ x,.int _ n]=>some ([],fun _=>aD (.int .i64 (wi x n)))
 | 26,_=>some ([],fun _=>aD (.bool true))
 | 265,[_,_,_,.sl _ _]=>some ([],fun _=>aD (.bool b2))
 | 269,[_,_,_,.sl _ _]=>some ([],fun _=>aD (.bool b2))
 | 265,_=>some (ids,fun G r H'=>r=.bool b1∧H'=G)
 | 269,_=>some (ids,fun G r H'=>r=.bool b1∧H'=G)
 | _,_=>none
structure yE (C:Ctx):Prop extends a5U C where
 rwaves:∀ (f:aK) (now:List (List Int)) (r:Int),f.Ok→fI now→aE C 267 [.agg f.cells,lay now,.int .i64 r] .nil (ZX (kE f now r) (oH f now r))
 wout:∀ (l:List Int) (v:PV) (x:Int) (H:PH),l.length≤1000000→aQ H [] [(v,1,bD l)]→aE C 272 [v,.int .i64 x] H (fun r H'=>∃ B' L',(B'=[]∧L'=[(v,1,bD l),(r,1,bD (jA l x))])∧aQ H' B' L')
 check:∀ (f:aK) (now:List (List Int)) (r:Int) (ws:List (List Int)),f.Ok→fI now→ws.length≤1000000→ws.flatten.length≤1000000→aE C 265 [.agg f.cells,lay now,.int .i64 r,lists ws] .nil (aD (.bool (fL f now r ws)))
 rcheck:∀ (f:aK) (now:List (List Int)) (r:Int) (ws:List (List Int)),f.Ok→fI now→ws.length≤1000000→ws.flatten.length≤1000000→aE C 269 [.agg f.cells,lay now,.int .i64 r,lists ws] .nil (aD (.bool (fL f now r ws)))
section
variable {C:Ctx} {K:PF→PH→Prop} {F:PF} {H:PH} {B:List BX} {vo v:PV} {ps:WPs} {w:List Int} {i:Nat} {d:Int}
theorem bnJ (hH:aQ H B (cV vo ps)) (hpi:ps[i]?=some (v,w)) (hw:w.length≤1000) (f17:F 17=some vo) (f20:F 20=some (.int .i64 i)) (f21:F 21=some (.int .i64 d))
  (hk:∀ v' H' F',aQ H' B (cV vo (ps.set i (v',w++[d])))→(∀ j,j<80→F' j=F j)→K F' H'):wpOps C AD K F H:=by
 have ilt:i<ps.length:=(bKV.1 hpi).1
 have ilt':(i:Int)<(ps.length:Nat):=by omega
 obtain⟨qo,rs,rfl,b1,b2,b3⟩:=hH.xE ilt
 have e0:ps[i].1=v:=by rw[bKD ilt] at hpi; injection hpi with hpi; rw[hpi]
 rw[e0] at b2
 simp only[go_sem,γ,δ,ε,ζ,η,θ,ι,κ,μ,ν,ξ,ο,ρ,σ,τ,υ,reduceIte,reduceCtorEq,AD,f17,f20,f21,ilt',b1,b2,b3,bKN]
 refine hH.a2G (src:=[d]) hpi (by simp only[go_sem,γ,δ,ε,ζ,η,θ,ι,κ,μ,ν,ξ,ο,ρ,σ,τ,υ,reduceIte,reduceCtorEq]; rfl) (by unfold roomFor; simp only[bKH,maxLen]; omega) (by simp) fun q2 H2 h5=>?_
 obtain⟨rs2,e1,e2,e3,h6⟩:=h5.PI
 have il2:i<rs2.length:=by omega
 have hat2:rs2[i]?=some [v]:=by
  have:=rY hpi
  rw[← e3,bMO ilt] at this
  exact this
 simp only[go_sem,γ,δ,ε,ζ,η,θ,ι,κ,μ,ν,ξ,ο,ρ,σ,τ,υ,reduceIte,reduceCtorEq,e1,il2,hat2,ilt',f17,f20,f21,bKN,bKJ,bLB,or_false,forall_eq]
 refine hk _ _ _ h6 fun j hj=>?_
 have low:j≠83∧j≠84∧j≠85∧j≠86∧j≠87∧j≠88∧j≠89∧j≠90∧j≠91∧j≠92:=by omega
 obtain⟨l1,l2,l3,l4,l5,l6,l7,l8,l9,l10⟩:=low
 simp only[go_sem,γ,δ,ε,ζ,η,θ,ι,κ,μ,ν,ξ,ο,ρ,σ,τ,υ,reduceIte,reduceCtorEq,l1,l2,l3,l4,l5,l6,l7,l8,l9,l10]
theorem bnK (hH:aQ H B (cV vo ps)) (hpi:ps[i]?=some (v,w)) (hw:w.length≤1000) (f17:F 17=some vo) (f20:F 20=some (.int .i64 i)) (f21:F 21=some (.int .i64 d))
  (hk:∀ v' H' F',aQ H' B (cV vo (ps.set i (v',w++[d])))→(∀ j,j<80→F' j=F j)→K F' H'):wpOps C AF K F H:=by
 have ilt:i<ps.length:=(bKV.1 hpi).1
 have ilt':(i:Int)<(ps.length:Nat):=by omega
 obtain⟨qo,rs,rfl,b1,b2,b3⟩:=hH.xE ilt
 have e0:ps[i].1=v:=by rw[bKD ilt] at hpi; injection hpi with hpi; rw[hpi]
 rw[e0] at b2
 simp only[go_sem,γ,δ,ε,ζ,η,θ,ι,κ,μ,ν,ξ,ο,ρ,σ,τ,υ,reduceIte,reduceCtorEq,AF,f17,f20,f21,ilt',b1,b2,b3,bKN]
 refine hH.a2G (src:=[d]) hpi (by simp only[go_sem,γ,δ,ε,ζ,η,θ,ι,κ,μ,ν,ξ,ο,ρ,σ,τ,υ,reduceIte,reduceCtorEq]; rfl) (by unfold roomFor; simp only[bKH,maxLen]; omega) (by simp) fun q2 H2 h5=>?_
 obtain⟨rs2,e1,e2,e3,h6⟩:=h5.PI
 have il2:i<rs2.length:=by omega
 have hat2:rs2[i]?=some [v]:=by
  have:=rY hpi
  rw[← e3,bMO ilt] at this
  exact this
 simp only[go_sem,γ,δ,ε,ζ,η,θ,ι,κ,μ,ν,ξ,ο,ρ,σ,τ,υ,reduceIte,reduceCtorEq,e1,il2,hat2,ilt',f17,f20,f21,bKN,bKJ,bLB,or_false,forall_eq]
 refine hk _ _ _ h6 fun j hj=>?_
 have low:j≠104∧j≠105∧j≠106∧j≠107∧j≠108∧j≠109∧j≠110∧j≠111∧j≠112∧j≠113:=by omega
 obtain⟨l1,l2,l3,l4,l5,l6,l7,l8,l9,l10⟩:=low
 simp only[go_sem,γ,δ,ε,ζ,η,θ,ι,κ,μ,ν,ξ,ο,ρ,σ,τ,υ,reduceIte,reduceCtorEq,l1,l2,l3,l4,l5,l6,l7,l8,l9,l10]
theorem bnH (Lb:yE C) (hH:aQ H B (cV vo ps)) (hpi:ps[i]?=some (v,w)) (hw:w.length≤1000) (f17:F 17=some vo) (f19:F 19=some (.int .i64 i)) (f21:F 21=some (.int .i64 d))
  (hk:∀ v' H' F',aQ H' B (cV vo (ps.set i (v',jA w d)))→(∀ j,j<80→F' j=F j)→K F' H'):wpOps C AE K F H:=by
 have ilt:i<ps.length:=(bKV.1 hpi).1
 have ilt':(i:Int)<(ps.length:Nat):=by omega
 obtain⟨qo,rs,rfl,b1,b2,b3⟩:=hH.xE ilt
 have e0:ps[i].1=v:=by rw[bKD ilt] at hpi; injection hpi with hpi; rw[hpi]
 rw[e0] at b2
 simp only[go_sem,γ,δ,ε,ζ,η,θ,ι,κ,μ,ν,ξ,ο,ρ,σ,τ,υ,reduceIte,reduceCtorEq,AE,f17,f19,f21,ilt',b1,b2,b3,bKN]
 refine hH.a6A (vs:=[v,.int .i64 d]) hpi (fun H0 h0=>Lb.wout w v d H0 Om h0) (by simp only[go_sem,γ,δ,ε,ζ,η,θ,ι,κ,μ,ν,ξ,ο,ρ,σ,τ,υ,reduceIte,reduceCtorEq,f21]) fun r H2 h5=>?_
 obtain⟨rs2,e1,e2,e3,h6⟩:=h5.PI
 have il2:i<rs2.length:=by omega
 have hat2:rs2[i]?=some [v]:=by
  have:=rY hpi
  rw[← e3,bMO ilt] at this
  exact this
 rcases h5.own (i+1) (v:=r) (s:=1) (rows:=bD (jA w d)) (by
   show ((jH ps).set i (r,1,bD (jA w d)))[i]?=_
   rw[List.getElem?_set_self (by unfold jH; rw[bJT]; exact ilt)]) with ⟨-,rfl⟩ | ⟨p,rs',rfl,-⟩
 all_goals
  simp only[go_sem,γ,δ,ε,ζ,η,θ,ι,κ,μ,ν,ξ,ο,ρ,σ,τ,υ,reduceIte,reduceCtorEq,e1,il2,hat2,ilt',f17,f19,f21,bKN,bKJ,bLB,or_false,forall_eq]
  refine hk _ _ _ h6 fun j hj=>?_
  have low:j≠95∧j≠96∧j≠97∧j≠98∧j≠99∧j≠100∧j≠101∧j≠102∧j≠103:=by omega
  obtain⟨l1,l2,l3,l4,l5,l6,l7,l8,l9⟩:=low
  simp only[go_sem,γ,δ,ε,ζ,η,θ,ι,κ,μ,ν,ξ,ο,ρ,σ,τ,υ,reduceIte,reduceCtorEq,l1,l2,l3,l4,l5,l6,l7,l8,l9]
theorem bnI (Lb:yE C) (hH:aQ H B (cV vo ps)) (hpi:ps[i]?=some (v,w)) (hw:w.length≤1000) (f17:F 17=some vo) (f19:F 19=some (.int .i64 i)) (f21:F 21=some (.int .i64 d))
  (hk:∀ v' H' F',aQ H' B (cV vo (ps.set i (v',jA w d)))→(∀ j,j<80→F' j=F j)→K F' H'):wpOps C AH K F H:=by
 have ilt:i<ps.length:=(bKV.1 hpi).1
 have ilt':(i:Int)<(ps.length:Nat):=by omega
 obtain⟨qo,rs,rfl,b1,b2,b3⟩:=hH.xE ilt
 have e0:ps[i].1=v:=by rw[bKD ilt] at hpi; injection hpi with hpi; rw[hpi]
 rw[e0] at b2
 simp only[go_sem,γ,δ,ε,ζ,η,θ,ι,κ,μ,ν,ξ,ο,ρ,σ,τ,υ,reduceIte,reduceCtorEq,AH,f17,f19,f21,ilt',b1,b2,b3,bKN]
 refine hH.a6A (vs:=[v,.int .i64 d]) hpi (fun H0 h0=>Lb.wout w v d H0 Om h0) (by simp only[go_sem,γ,δ,ε,ζ,η,θ,ι,κ,μ,ν,ξ,ο,ρ,σ,τ,υ,reduceIte,reduceCtorEq,f21]) fun r H2 h5=>?_
 obtain⟨rs2,e1,e2,e3,h6⟩:=h5.PI
 have il2:i<rs2.length:=by omega
 have hat2:rs2[i]?=some [v]:=by
  have:=rY hpi
  rw[← e3,bMO ilt] at this
  exact this
 rcases h5.own (i+1) (v:=r) (s:=1) (rows:=bD (jA w d)) (by
   show ((jH ps).set i (r,1,bD (jA w d)))[i]?=_
   rw[List.getElem?_set_self (by unfold jH; rw[bJT]; exact ilt)]) with ⟨-,rfl⟩ | ⟨p,rs',rfl,-⟩
 all_goals
  simp only[go_sem,γ,δ,ε,ζ,η,θ,ι,κ,μ,ν,ξ,ο,ρ,σ,τ,υ,reduceIte,reduceCtorEq,e1,il2,hat2,ilt',f17,f19,f21,bKN,bKJ,bLB,or_false,forall_eq]
  refine hk _ _ _ h6 fun j hj=>?_
  have low:j≠116∧j≠117∧j≠118∧j≠119∧j≠120∧j≠121∧j≠122∧j≠123∧j≠124:=by omega
  obtain⟨l1,l2,l3,l4,l5,l6,l7,l8,l9⟩:=low
  simp only[go_sem,γ,δ,ε,ζ,η,θ,ι,κ,μ,ν,ξ,ο,ρ,σ,τ,υ,reduceIte,reduceCtorEq,l1,l2,l3,l4,l5,l6,l7,l8,l9]
end
structure Sm (m:Nat) (ps:WPs):Prop where
 num:ps.length≤24
 len:∀ p∈ps,p.2.length≤m
theorem Sm.set {m m':Nat} {ps:WPs} (h:Sm m ps) (i:Nat) {v:PV} {w:List Int} (hw:w.length≤m') (hm:m≤m'):Sm m' (ps.set i (v,w)):=by
 refine⟨by rw[bLQ]; exact h.num,fun p hp=>?_⟩
 rcases List.mem_or_eq_of_mem_set hp with hp | rfl
 ·have:=h.len p hp; omega
 ·exact hw
theorem alF (m:Nat):∀ (ws:List (List Int)),(∀ w∈ws,w.length≤m)→ws.flatten.length≤m*ws.length
 | [],_=>by simp
 | w::ws,h=>by
  have h1:=h w (by simp)
  have h2:=alF m ws fun u hu=>h u (by simp[hu])
  rw[bNG,bKA,bLU,Nat.mul_succ]
  omega
theorem Sm.flat {m:Nat} {ps:WPs} (h:Sm m ps):(wls ps).flatten.length≤m*24:=by
 have h1:=alF m (wls ps) fun w hw=>by
  obtain⟨p,hp,rfl⟩:=bKX.1 hw
  exact h.len p hp
 rw[wF] at h1
 exact bMQ h1 (bLZ _ h.num)
theorem bvK:InK .i64 4:=⟨by decide,by decide⟩
theorem bgC {n:Nat} (h:n≤1000000):InK .i64 (n:Int):=by unfold InK; rw[show IntKind.i64.min=-9223372036854775808 by decide,show IntKind.i64.max=9223372036854775807 by decide]; omega
theorem bnL {C:Ctx} (Lb:yE C) {f:aK} {L:List (List Int)} {R:List Int} {r rv:Int} {raw:List (List Int)} (hf:f.Ok) (hL:fI L) (h1:raw.length≤1000) (h2:raw.flatten.length≤1000) {o14:Nat} {vo:PV} {ps:WPs} {m:Nat} (hm:m≤1000) (hs:Sm m ps)
  {F:PF} {H:PH} (hH:aQ H [(o14,.rows 9 [f.cells++[lay L,ints R]])] (cV vo ps)) (hF:((((((PF.nil.set 1 (.int .i64 rv)).set 5 (lists raw)).set 14 (.ptr o14 9 0 0)).set 16 (.int .i64 r)).set 17 (vo))).le F) :
  aC.wp C (.seq (.draw sM) .ret) (aT [.tmp 12] (aD (.bool true))) F H:=by
 have f1:=hF 1 _ (by simp only[go_sem,γ,δ,ε,ζ,η,θ,ι,κ,μ,ν,ξ,ο,ρ,σ,τ,υ,reduceIte,reduceCtorEq]; rfl)
 have f5:=hF 5 _ (by simp only[go_sem,γ,δ,ε,ζ,η,θ,ι,κ,μ,ν,ξ,ο,ρ,σ,τ,υ,reduceIte,reduceCtorEq]; rfl)
 have f14:=hF 14 _ (by simp only[go_sem,γ,δ,ε,ζ,η,θ,ι,κ,μ,ν,ξ,ο,ρ,σ,τ,υ,reduceIte,reduceCtorEq]; rfl)
 have f16:=hF 16 _ (by simp only[go_sem,γ,δ,ε,ζ,η,θ,ι,κ,μ,ν,ξ,ο,ρ,σ,τ,υ,reduceIte,reduceCtorEq]; rfl)
 have f17:=hF 17 _ (by simp only[go_sem,γ,δ,ε,ζ,η,θ,ι,κ,μ,ν,ξ,ο,ρ,σ,τ,υ,reduceIte,reduceCtorEq]; rfl)
 have b:=hH.at 0 rfl
 have hle:=PH.aI (H:=PH.nil) (PH.nil_le (H:=H)) b
 have hfl:=hs.flat
 have hnum:=hs.num
 have hwl:=wF ps
 have hD:∀ o∈dA (cV vo ps),∃ x,H o=some x:=fun o ho=>hH.wE (.inr ho)
 have hpre:∀ x∈[PV.agg f.cells,lay L,.int .i64 r],Fx x:=fun x hx=>by
  simp only[bKJ,bLB,or_false] at hx
  rcases hx with rfl | rfl | rfl
  ·exact fun _ _ _=>rfl
  ·exact .sl _ _
  ·exact .int _ _
 have c1:=aE.aDC (C:=C) (name:=265) (pre:=[.agg f.cells,lay L,.int .i64 r]) (v:=.bool (fL f L r (wls ps))) (.bool _) hpre hH (Lb.check f L r (wls ps) hf hL Om Om)
 have c2:=aE.aDC (C:=C) (name:=269) (pre:=[.agg f.cells,lay L,.int .i64 r]) (v:=.bool (fL f L r (wls ps))) (.bool _) hpre hH (Lb.rcheck f L r (wls ps) hf hL Om Om)
 have s1:lcS (dA (cV vo ps)) (fL f L r (wls ps)) (fL f L rv raw) 265 ([.agg f.cells,lay L,.int .i64 r]++[vo])=some (dA (cV vo ps),fun G x H'=>x=.bool (fL f L r (wls ps))∧H'=G):=by
  rcases hH.outer with ⟨-,rfl⟩ | ⟨q,rs,rfl,-⟩<;>rfl
 have s2:lcS (dA (cV vo ps)) (fL f L r (wls ps)) (fL f L rv raw) 269 ([.agg f.cells,lay L,.int .i64 r]++[vo])=some (dA (cV vo ps),fun G x H'=>x=.bool (fL f L r (wls ps))∧H'=G):=by
  rcases hH.outer with ⟨-,rfl⟩ | ⟨q,rs,rfl,-⟩<;>rfl
 have c3:=Lb.check f L rv raw hf hL Om Om
 have c4:=Lb.rcheck f L rv raw hf hL Om Om
 generalize fL f L r (wls ps)=x1 at *
 generalize fL f L rv raw=x2 at *
 rw[aYD]
 refine bR (PH.nil.set o14 (.rows 9 [f.cells++[lay L,ints R]])) (lcS (dA (cV vo ps)) x1 x2) hle ?_
 simp only[go_sem,γ,δ,ε,ζ,η,θ,ι,κ,μ,ν,ξ,ο,ρ,σ,τ,υ,reduceIte,reduceCtorEq,sM]
 refine bJ rfl Lb.awak Ev hle ?_
 simp only[go_sem,γ,δ,ε,ζ,η,θ,ι,κ,μ,ν,ξ,ο,ρ,σ,τ,υ,reduceIte,reduceCtorEq,f1,f5,f14,f16,f17,b,List.cons_append,bML]
 refine LQ s1 hD c1 (by simp only[go_sem,γ,δ,ε,ζ,η,θ,ι,κ,μ,ν,ξ,ο,ρ,σ,τ,υ,reduceIte,reduceCtorEq]; rfl) hle ?_
 simp only[go_sem,γ,δ,ε,ζ,η,θ,ι,κ,μ,ν,ξ,ο,ρ,σ,τ,υ,reduceIte,reduceCtorEq,f1,f5,f14,f16,f17,b,List.cons_append,bML]
 refine LQ s2 hD c2 (by simp only[go_sem,γ,δ,ε,ζ,η,θ,ι,κ,μ,ν,ξ,ο,ρ,σ,τ,υ,reduceIte,reduceCtorEq]; rfl) hle ?_
 simp only[go_sem,γ,δ,ε,ζ,η,θ,ι,κ,μ,ν,ξ,ο,ρ,σ,τ,υ,reduceIte,reduceCtorEq,f1,f5,f14,f16,f17,b,List.cons_append,bML,beq_self_eq_true,Bool.bne_false]
 refine bJ rfl c3 Ev hle ?_
 simp only[go_sem,γ,δ,ε,ζ,η,θ,ι,κ,μ,ν,ξ,ο,ρ,σ,τ,υ,reduceIte,reduceCtorEq,f1,f5,f14,f16,f17,b,List.cons_append,bML,beq_self_eq_true]
 refine bJ rfl c4 Ev hle ?_
 simp only[go_sem,γ,δ,ε,ζ,η,θ,ι,κ,μ,ν,ξ,ο,ρ,σ,τ,υ,reduceIte,reduceCtorEq,beq_self_eq_true,Bool.bne_false]
 refine aM (.inr rfl) Ev ?_
 rfl
set_option maxHeartbeats 2000000 in
theorem a1E {C:Ctx} (Lb:yE C) (l:List Int) (T:TpM l) (rv wh at' to:Int) (raw:List (List Int)) :
  wZ.wp C (aT DE.res (aD (.bool true))) (PF.args [ints l,.int .i64 rv,.int .i64 wh,.int .i64 at',.int .i64 to,lists raw]) .nil:=by
 have hC:=buT l
 simp only[go_sem,γ,δ,ε,ζ,η,θ,ι,κ,μ,ν,ξ,ο,ρ,σ,τ,υ,reduceIte,reduceCtorEq,wZ,adN,adO,DE,bJT]
 by_cases c:((raw.length:Nat):Int)>20
 ·simp only[go_sem,γ,δ,ε,ζ,η,θ,ι,κ,μ,ν,ξ,ο,ρ,σ,τ,υ,reduceIte,reduceCtorEq,c,adP]
  refine aA Lb.awak Ev ?_
  simp only[go_sem,γ,δ,ε,ζ,η,θ,ι,κ,μ,ν,ξ,ο,ρ,σ,τ,υ,reduceIte,reduceCtorEq]
  refine aM (.inr rfl) Ev ?_
  rfl
 simp only[go_sem,γ,δ,ε,ζ,η,θ,ι,κ,μ,ν,ξ,ο,ρ,σ,τ,υ,reduceIte,reduceCtorEq,c,adQ]
 refine wp_loop (α:=Nat) (fun i=>(((((((PF.nil.set 0 (ints l)).set 1 (.int .i64 rv)).set 2 (.int .i64 wh)).set 3 (.int .i64 at')).set 4 (.int .i64 to)).set 5 (lists raw)).set 13 (.int .i64 i))) (fun _=>.nil) (fun i=>i≤raw.length∧∀ w∈raw.take i,w.length≤20) (fun i=>raw.length-i) 0 ⟨bKF _,fun w hw=>by cases hw⟩ Lq PH.nil_le ?_
 rintro i ⟨hi,hok⟩
 simp only[go_sem,γ,δ,ε,ζ,η,θ,ι,κ,μ,ν,ξ,ο,ρ,σ,τ,υ,reduceIte,reduceCtorEq,adM,adR,bJT]
 by_cases hlt:i<raw.length
 ·have bHW:(i:Int)<(raw.length:Nat):=by omega
  have hat:(raw.map fun w=>[ints w])[i]?=some [ints raw[i]]:=by simp[hlt]
  have hs:raw.take (i+1)=raw.take i++[raw[i]]:=bLK hlt
  generalize raw[i]=w at *
  simp only[go_sem,γ,δ,ε,ζ,η,θ,ι,κ,μ,ν,ξ,ο,ρ,σ,τ,υ,reduceIte,reduceCtorEq,bHW,adS,hat,bJT]
  by_cases c2:((w.length:Nat):Int)>20
  ·simp only[go_sem,γ,δ,ε,ζ,η,θ,ι,κ,μ,ν,ξ,ο,ρ,σ,τ,υ,reduceIte,reduceCtorEq,c2,adT]
   refine aA Lb.awak Ev ?_
   simp only[go_sem,γ,δ,ε,ζ,η,θ,ι,κ,μ,ν,ξ,ο,ρ,σ,τ,υ,reduceIte,reduceCtorEq]
   refine aM (.inr rfl) Ev ?_
   rfl
  ·simp only[go_sem,γ,δ,ε,ζ,η,θ,ι,κ,μ,ν,ξ,ο,ρ,σ,τ,υ,reduceIte,reduceCtorEq,c2,adU,wZz i]
   refine aH (i+1) ⟨hlt,?_⟩ Om Lq PH.nil_le
   intro u hu
   rw[hs,bLH,bLD] at hu
   rcases hu with hu | rfl
   ·exact hok u hu
   ·omega
 have bHW:¬ (i:Int)<(raw.length:Nat):=by omega
 have:i=raw.length:=by omega
 subst this
 rw[bKS] at hok
 have hrf:=alF 20 raw hok
 simp only[go_sem,γ,δ,ε,ζ,η,θ,ι,κ,μ,ν,ξ,ο,ρ,σ,τ,υ,reduceIte,reduceCtorEq,bHW,adV]
 refine eR (Lb.made l T) Sq PH.nil_le ?_
 rintro _ _ ⟨o,rfl,rfl⟩ hap
 obtain⟨R,hR⟩:∃ R,aHQ l=R:=⟨_,rfl⟩
 rw[hR]
 generalize a1Y l=L at *
 generalize fM l=f at *
 generalize PH.eJ PH.nil PH.nil _=H0
 have hd:=(VF.of hC.val).small.bHP
 simp only[go_sem,γ,δ,ε,ζ,η,θ,ι,κ,μ,ν,ξ,ο,ρ,σ,τ,υ,reduceIte,reduceCtorEq]
 refine aR fun o14 ho14=>?_
 have h1:=aQ.nil.new ho14 (.rows 9 [f.cells++[lay L,ints R]])
 have b14:=h1.at 0 rfl
 simp only[go_sem,γ,δ,ε,ζ,η,θ,ι,κ,μ,ν,ξ,ο,ρ,σ,τ,υ,reduceIte,reduceCtorEq,List.cons_append,bML,bKJ,bLB,or_false,forall_eq,forall_eq_or_imp]
 generalize hHe:H0.set o14 (.rows 9 [f.cells++[lay L,ints R]])=H at *
 rw[show (H0.set o14 (.rows 9 [[PV.int IntKind.i64 f.bJD,PV.sl 4 (List.map cJ.cells f.bHY),PV.sl 4 (List.map cS.cells f.bHQ),PV.sl 7 (List.map bQ.cells f.bHS),PV.sl 3 (List.map cB.cells f.bHP),PV.sl 17 (List.map cZ.cells f.bHT),PV.sl 2 (List.map eC.cells f.bHR),lay L,ints R]]))=H from hHe]
 simp only[go_sem,γ,δ,ε,ζ,η,θ,ι,κ,μ,ν,ξ,ο,ρ,σ,τ,υ,reduceIte,reduceCtorEq,TS]
 refine aA (Lb.within rv 2 bBX) Ev ?_
 generalize wi rv 2=r at *
 simp only[go_sem,γ,δ,ε,ζ,η,θ,ι,κ,μ,ν,ξ,ο,ρ,σ,τ,υ,reduceIte,reduceCtorEq,TT,b14,List.cons_append,bML]
 refine eR (Lb.rwaves f L r hC.ok hC.lay) Ev PH.nil_le ?_
 rintro _ H' ⟨vo,ps,rfl,hN,hw⟩ hap2
 have h2:aQ (H.eJ .nil H') [(o14,.rows 9 [f.cells++[lay L,ints R]])] (cV vo ps):=by
  have:=aQ.frame (B1:=[]) (L1:=[]) (B2:=[(o14,.rows 9 [f.cells++[lay L,ints R]])]) (L2:=[]) h1 hN (by rw[show dZ ([]:List BX)++dA ([]:List LI)=[] from rfl,rX]; exact hap2)
  rw[show dZ ([]:List BX)++dA ([]:List LI)=[] from rfl,rX,bLM] at this
  exact this
 generalize H.eJ .nil H'=H2 at h2
 clear hHe h1 b14 hN hap2 hap
 have hnl:=h2.aTC
 have hWl:=a4G f L r
 have hne:0<ps.length→oH f L r=0:=fun h=>by
  by_cases c:oH f L r=0
  ·exact c
  ·exfalso
   have:kE f L r=[]:=by unfold kE; rw[if_neg c]
   rw[this] at hw
   have h3:=wF ps
   rw[hw] at h3
   simp at h3
   omega
 have hlen1:∀ i (h:i<ps.length),1≤(ps[i].2).length:=fun i h=>by
  have c:=hne Om
  obtain⟨-,ha⟩:=MH c
  exact ((akT.of (f:=f) (now:=L) (r:=r) ha (bJV _) (by rw[hw]; unfold kE; rw[if_pos c])).len i h).1
 have hSm:Sm 24 ps:=by
  rw[← hw] at hWl
  refine⟨by have:=wF ps; omega,fun p hp=>?_⟩
  have:=hWl.2.2 p.2 (bKX.2 ⟨p,hp,rfl⟩)
  omega
 clear hne hw hWl
 have tail:∀ (m:Nat) (ps2:WPs) (F:PF) (H3:PH),m≤1000→Sm m ps2→aQ H3 [(o14,.rows 9 [f.cells++[lay L,ints R]])] (cV vo ps2)→((((((PF.nil.set 1 (.int .i64 rv)).set 5 (lists raw)).set 14 (.ptr o14 9 0 0)).set 16 (.int .i64 r)).set 17 (vo))).le F→aC.wp C (.seq (.draw sM) .ret) (aT [.tmp 12] (aD (.bool true))) F H3 :=
  fun m ps2 F H3 hm hs hH3 hF=>bnL Lb hC.ok hC.lay Om Om hm hs hH3 hF
 simp only[aC.wp,go_sem] at tail
 simp only[go_sem,γ,δ,ε,ζ,η,θ,ι,κ,μ,ν,ξ,ο,ρ,σ,τ,υ,reduceIte,reduceCtorEq,TU,hnl]
 by_cases c0:ps.length=0
 ·simp only[go_sem,γ,δ,ε,ζ,η,θ,ι,κ,μ,ν,ξ,ο,ρ,σ,τ,υ,reduceIte,reduceCtorEq,show ¬ ((ps.length:Nat):Int)>0 by omega]
  exact tail 24 ps _ _ (by decide) hSm h2 Lq
 have h1n:(1:Int)≤(ps.length:Nat):=by omega
 have ci:=Lb.within at' (ps.length:Nat) (bgC (by have:=hSm.num; omega))
 have ck:=Lb.within to (ps.length:Nat) (bgC (by have:=hSm.num; omega))
 obtain⟨gi0,gi1⟩:=awU at' h1n
 obtain⟨gk0,gk1⟩:=awU to h1n
 obtain⟨i,hi2⟩:=Int.eq_ofNat_of_zero_le gi0
 obtain⟨k,hk2⟩:=Int.eq_ofNat_of_zero_le gk0
 rw[hi2] at ci gi1
 rw[hk2] at ck gk1
 simp only[go_sem,γ,δ,ε,ζ,η,θ,ι,κ,μ,ν,ξ,ο,ρ,σ,τ,υ,reduceIte,reduceCtorEq,show ((ps.length:Nat):Int)>0 by omega,TV,hnl]
 refine aA ci Ev ?_
 simp only[go_sem,γ,δ,ε,ζ,η,θ,ι,κ,μ,ν,ξ,ο,ρ,σ,τ,υ,reduceIte,reduceCtorEq,hnl]
 refine aA ck Ev ?_
 clear ci ck hi2 hk2 gi0 gk0
 have ilt:i<ps.length:=by omega
 have klt:k<ps.length:=by omega
 have ilt':(i:Int)<(ps.length:Nat):=by omega
 have hpi:ps[i]?=some (ps[i].1,ps[i].2):=by rw[bKD ilt]
 have hpk:ps[k]?=some (ps[k].1,ps[k].2):=by rw[bKD klt]
 have hwi:(ps[i].2).length≤24:=hSm.len _ (bJX ilt)
 have hwk:(ps[k].2).length≤24:=hSm.len _ (bJX klt)
 have hw1:=hlen1 i ilt
 obtain⟨qo,rs,hvo,b1,b2,b3⟩:=h2.xE ilt
 have hOi:=h2.aRY ilt
 have hle1:=PH.aI (H:=PH.nil) (PH.nil_le (H:=H2)) b1
 generalize hwE:ps[i].2=w at *
 generalize hvE:ps[i].1=v at *
 rcases hOi with ⟨h0,-⟩ | ⟨q,rs',hv,o1,o2,o3⟩
 ·have:=List.map_eq_nil_iff.1 h0
  rw[this] at hw1; simp at hw1
 rw[dO] at o2 o3 hv
 have hw1':(1:Int)≤(w.length:Nat):=by omega
 have cj:=Lb.within at' (w.length:Nat) (bgC Om)
 obtain⟨gj0,gj1⟩:=awU at' hw1'
 obtain⟨j,hj2⟩:=Int.eq_ofNat_of_zero_le gj0
 have hjl:j<w.length:=by omega
 have hjlt:j<rs'.length:=by omega
 have gj':(j:Int)<(w.length:Nat):=by omega
 have hatj:rs'[j]?=some [.int .i64 w[j]]:=by
  have:(bD w)[j]?=some [.int .i64 w[j]]:=by unfold bD; simp[hjl]
  rw[← o3,bMO hjl] at this
  exact this
 rw[hj2] at cj
 have sj:lcS [] true true 24 [.int .i64 at',.int .i64 (w.length:Nat)]=some ([],fun _=>aD (.int .i64 (j:Int))):=by
  show some ([],fun _=>aD (.int .i64 (wi at' (w.length:Nat))))=_
  rw[hj2]
 subst hvo
 simp only[go_sem,γ,δ,ε,ζ,η,θ,ι,κ,μ,ν,ξ,ο,ρ,σ,τ,υ,reduceIte,reduceCtorEq]
 refine bR (PH.nil.set qo (.rows 1 rs)) (lcS [] true true) hle1 ?_
 simp only[go_sem,γ,δ,ε,ζ,η,θ,ι,κ,μ,ν,ξ,ο,ρ,σ,τ,υ,reduceIte,reduceCtorEq,TW,b1,b2,b3,ilt',hv,bKN]
 refine bJ sj cj Ev hle1 ?_
 generalize w[j]=d at *
 simp only[go_sem,γ,δ,ε,ζ,η,θ,ι,κ,μ,ν,ξ,ο,ρ,σ,τ,υ,reduceIte,reduceCtorEq,o1,hatj,hjlt,gj',bKN,TX]
 refine aA (Lb.within wh 4 bvK) Ev ?_
 obtain⟨e0,e4⟩:=awU wh (show (1:Int)≤4 by decide)
 generalize wi wh 4=x at *
 by_cases x0:x=0
 ·simp only[go_sem,γ,δ,ε,ζ,η,θ,ι,κ,μ,ν,ξ,ο,ρ,σ,τ,υ,reduceIte,reduceCtorEq,oN,bO x0]
  refine bnJ (i:=k) (d:=d) h2 hpk Om Sq Sq Sq fun v' H' F' h3 hF'=>?_
  have g1:=hF' 1 (by decide)
  have g5:=hF' 5 (by decide)
  have g14:=hF' 14 (by decide)
  have g16:=hF' 16 (by decide)
  have g17:=hF' 17 (by decide)
  simp only[go_sem,γ,δ,ε,ζ,η,θ,ι,κ,μ,ν,ξ,ο,ρ,σ,τ,υ,reduceIte,reduceCtorEq] at g1 g5 g14 g16 g17
  simp only[go_sem,γ,δ,ε,ζ,η,θ,ι,κ,μ,ν,ξ,ο,ρ,σ,τ,υ,reduceIte,reduceCtorEq]
  exact tail 25 _ _ _ (by decide) (hSm.set k (by rw[bKA,bKH]; omega) (by decide)) h3 (by (repeat' (first|exact PF.nil_le|refine PF.aI ?_ ?_))<;>first|(simp only[go_sem,γ,δ,ε,ζ,η,θ,ι,κ,μ,ν,ξ,ο,ρ,σ,τ,υ,reduceIte,reduceCtorEq,g1,g5,g14,g16,g17]<;>rfl)|rfl)
 by_cases x1:x=1
 ·simp only[go_sem,γ,δ,ε,ζ,η,θ,ι,κ,μ,ν,ξ,ο,ρ,σ,τ,υ,reduceIte,reduceCtorEq,oN,bB x0,sL,bO x1]
  refine bnH (i:=i) (d:=d) Lb h2 hpi Om Sq Sq Sq fun v' H' F' h3 hF'=>?_
  have hml:=HF w d
  have hS2:Sm 24 (ps.set i (v',jA w d)):=hSm.set i Om (bJV _)
  have klt2:k<(ps.set i (v',jA w d)).length:=by rw[bLQ]; exact klt
  have g1:=hF' 1 (by decide)
  have g5:=hF' 5 (by decide)
  have g14:=hF' 14 (by decide)
  have g16:=hF' 16 (by decide)
  have g17:=hF' 17 (by decide)
  have g20:=hF' 20 (by decide)
  have g21:=hF' 21 (by decide)
  simp only[go_sem,γ,δ,ε,ζ,η,θ,ι,κ,μ,ν,ξ,ο,ρ,σ,τ,υ,reduceIte,reduceCtorEq] at g1 g5 g14 g16 g17 g20 g21
  simp only[go_sem,γ,δ,ε,ζ,η,θ,ι,κ,μ,ν,ξ,ο,ρ,σ,τ,υ,reduceIte,reduceCtorEq]
  refine bnK (i:=k) (d:=d) (v:=(ps.set i (v',jA w d))[k].1) (w:=(ps.set i (v',jA w d))[k].2) h3 (by rw[bKD klt2]) (by have:=hS2.len _ (bJX klt2); omega) g17 g20 g21 fun v2 H'' F'' h4 hF''=>?_
  have k1:=(hF'' 1 (by decide)).trans g1
  have k5:=(hF'' 5 (by decide)).trans g5
  have k14:=(hF'' 14 (by decide)).trans g14
  have k16:=(hF'' 16 (by decide)).trans g16
  have k17:=(hF'' 17 (by decide)).trans g17
  simp only[go_sem,γ,δ,ε,ζ,η,θ,ι,κ,μ,ν,ξ,ο,ρ,σ,τ,υ,reduceIte,reduceCtorEq]
  exact tail 25 _ _ _ (by decide) (hS2.set k (by have:=hS2.len _ (bJX klt2); rw[bKA,bKH]; omega) (by decide)) h4 (by (repeat' (first|exact PF.nil_le|refine PF.aI ?_ ?_))<;>first|(simp only[go_sem,γ,δ,ε,ζ,η,θ,ι,κ,μ,ν,ξ,ο,ρ,σ,τ,υ,reduceIte,reduceCtorEq,k1,k5,k14,k16,k17]<;>rfl)|rfl)
 by_cases x2:x=2
 ·simp only[go_sem,γ,δ,ε,ζ,η,θ,ι,κ,μ,ν,ξ,ο,ρ,σ,τ,υ,reduceIte,reduceCtorEq,oN,bB x0,sL,bB x1,AG,bO x2]
  refine bnI (i:=i) (d:=d) Lb h2 hpi Om Sq Sq Sq fun v' H' F' h3 hF'=>?_
  have hml:=HF w d
  have g1:=hF' 1 (by decide)
  have g5:=hF' 5 (by decide)
  have g14:=hF' 14 (by decide)
  have g16:=hF' 16 (by decide)
  have g17:=hF' 17 (by decide)
  simp only[go_sem,γ,δ,ε,ζ,η,θ,ι,κ,μ,ν,ξ,ο,ρ,σ,τ,υ,reduceIte,reduceCtorEq] at g1 g5 g14 g16 g17
  simp only[go_sem,γ,δ,ε,ζ,η,θ,ι,κ,μ,ν,ξ,ο,ρ,σ,τ,υ,reduceIte,reduceCtorEq]
  exact tail 24 _ _ _ (by decide) (hSm.set i Om (bJV _)) h3 (by (repeat' (first|exact PF.nil_le|refine PF.aI ?_ ?_))<;>first|(simp only[go_sem,γ,δ,ε,ζ,η,θ,ι,κ,μ,ν,ξ,ο,ρ,σ,τ,υ,reduceIte,reduceCtorEq,g1,g5,g14,g16,g17]<;>rfl)|rfl)
 ·simp only[go_sem,γ,δ,ε,ζ,η,θ,ι,κ,μ,ν,ξ,ο,ρ,σ,τ,υ,reduceIte,reduceCtorEq,oN,bB x0,sL,bB x1,AG,bB x2]
  exact tail 24 ps _ _ (by decide) hSm h2 Lq
structure bkV (C:Ctx):Prop where
 WY:∀ (f:aK) (v:Nat),VF f→v<f.bHR.length→aE C 156 [.agg f.cells,.int .i64 v] .nil (aD (.int .i64 (fC f v)))
structure bkY (C:Ctx):Prop where
 valid:∀ f:aK,f.Ok→aE C 161 [.agg f.cells] .nil (aD (.bool (dL f)))
 shape:∀ (f:aK) (l:List (List Int)) (v:Nat),VF f→fI l→v<l.length→v<f.bHR.length→aE C 160 [.agg f.cells,lay l,.int .i64 v] .nil (aD (shV (lZ f l v)))
structure bkW (C:Ctx):Prop where
 valid:∀ f:aK,f.Ok→aE C 67 [.agg f.cells] .nil (aD (.bool (dL f)))
structure bkX (C:Ctx):Prop where
 valid:∀ f:aK,f.Ok→aE C 67 [.agg f.cells] .nil (aD (.bool (dL f)))
 WY:∀ (f:aK) (v:Nat),VF f→v<f.bHR.length→aE C 82 [.agg f.cells,.int .i64 v] .nil (aD (.int .i64 (fC f v)))
 bad:∀ (f:aK) (row:List Int),row.length≤16777216→aE C 89 [.agg f.cells,ints row] .nil (aD (.int .i64 (EI f row)))
theorem a3E {C:Ctx} (L:bkV C) (f:aK) (hV:VF f) (l:List (List Int)) (hl:fI l) (v:Nat) (hv:v<l.length) (hvf:v<f.bHR.length) :
  BE.wp C (aT xP.res (bY (shV (lZ f l v)))) (PF.args [.agg f.cells,lay l,.int .i64 v]) .nil:=by
 have hr:(l.map fun r=>[ints r])[v]?=some [ints l[v]]:=by simp[hv]
 have hg:l.getD v []=l[v]:=by simp[bKO,hv]
 have hrl:(l[v]).length≤16777216:=by
  have h1:=azM l (v+1)
  have:=hl.all
  rw[MN l hv,bKA] at h1
  omega
 unfold lZ
 rw[hg]
 simp only[go_sem,γ,δ,ε,ζ,η,θ,ι,κ,μ,ν,ξ,ο,ρ,σ,τ,υ,reduceIte,reduceCtorEq,BE,arY]
 refine aR fun o ho=>?_
 simp only[go_sem,γ,δ,ε,ζ,η,θ,ι,κ,μ,ν,ξ,ο,ρ,σ,τ,υ,reduceIte,reduceCtorEq]
 refine bR .nil (toS f) PH.nil_le ?_
 generalize l[v]=row at *
 have fin:∀ (x:axG) (F:PF) (H:PH),F 6=some (.ptr o 3 0 0)→F 7=some (.bool true)→H o=some (.rows 3 [x.cells])→aT xP.res (bY (shV (some x))) .ret F H:=by
  intro x F H h6 h7 hH
  refine aX (.inr rfl) .nil (vs:=[.agg x.cells,.bool true]) ?_ PH.nil_le ⟨.refl _,rfl⟩
  simp only[go_sem,γ,δ,ε,ζ,η,θ,ι,κ,μ,ν,ξ,ο,ρ,σ,τ,υ,reduceIte,reduceCtorEq,xP,h6,h7,hH]
 simp only[go_sem,γ,δ,ε,ζ,η,θ,ι,κ,μ,ν,ξ,ο,ρ,σ,τ,υ,reduceIte,reduceCtorEq,arZ,hr,bJT]
 refine bJ (biM f v) (L.WY f v hV hvf) Ev PH.nil_le ?_
 by_cases c:((row.length:Nat):Int)=fC f v
 ·rw[if_pos c]
  simp only[go_sem,γ,δ,ε,ζ,η,θ,ι,κ,μ,ν,ξ,ο,ρ,σ,τ,υ,reduceIte,reduceCtorEq,cH c,asB,hr,bJT]
  refine wp_loop (α:=Nat) (fun k=>biO f o v row k) (fun k=>PH.nil.set o (.rows 3 [[.int .i64 0,.int .i64 0,.int .i64 0]])) (fun k=>k≤row.length∧fV (jS f) row 0=fV (jS f) (row.drop k) k) (fun k=>row.length-k) 0 ⟨bKF _,rfl⟩ ?_ PH.le_refl ?_
  ·unfold biO
   (repeat' (first|exact PF.nil_le|refine PF.aI ?_ ?_))<;>first|(simp only[go_sem,γ,δ,ε,ζ,η,θ,ι,κ,μ,ν,ξ,ο,ρ,σ,τ,υ,reduceIte,reduceCtorEq,bJT]<;>rfl)|rfl
  rintro k ⟨hk,hb⟩
  simp only[go_sem,γ,δ,ε,ζ,η,θ,ι,κ,μ,ν,ξ,ο,ρ,σ,τ,υ,reduceIte,reduceCtorEq,arX,asC,biO]
  by_cases hlt:k<row.length
  ·have bHW:(k:Int)<(row.length:Nat):=by omega
   have hrk:(row.map fun n=>[PV.int .i64 n])[k]?=some [.int .i64 row[k]]:=by simp[hlt]
   have hdr:fV (jS f) (row.drop k) k=if jS f row[k] then some k else fV (jS f) (row.drop (k+1)) (k+1):=by
    rw[bLP hlt,fV]
   rw[hdr] at hb
   by_cases c1:row[k] < -1
   ·have hbd:jS f row[k]=true:=by simp[jS,c1]
    rw[hbd] at hb
    simp only[go_sem,γ,δ,ε,ζ,η,θ,ι,κ,μ,ν,ξ,ο,ρ,σ,τ,υ,reduceIte,reduceCtorEq,bHW,zB,hrk,zC,c1,PR]
    rw[hb]
    exact fin ⟨1,v,k⟩ _ _ Sq Sq Sq
   ·by_cases c2:row[k]≥(f.bHP.length:Nat)
    ·have hbd:jS f row[k]=true:=by simp[jS,c2]
     rw[hbd] at hb
     simp only[go_sem,γ,δ,ε,ζ,η,θ,ι,κ,μ,ν,ξ,ο,ρ,σ,τ,υ,reduceIte,reduceCtorEq,bHW,zB,hrk,zC,c1,bJT,c2,PR]
     rw[hb]
     exact fin ⟨1,v,k⟩ _ _ Sq Sq Sq
    ·have hbd:jS f row[k]=false:=by simp[jS]; omega
     rw[hbd] at hb
     simp only[go_sem,γ,δ,ε,ζ,η,θ,ι,κ,μ,ν,ξ,ο,ρ,σ,τ,υ,reduceIte,reduceCtorEq,bHW,zB,hrk,zC,c1,bJT,c2,asD,wZz k]
     refine aH (k+1) ⟨hlt,hb⟩ Om ?_ PH.le_refl
     exact Lq
  ·have bHW:¬ (k:Int)<(row.length:Nat):=by omega
   have:k=row.length:=by omega
   subst this
   rw[List.drop_length,fV] at hb
   simp only[go_sem,γ,δ,ε,ζ,η,θ,ι,κ,μ,ν,ξ,ο,ρ,σ,τ,υ,reduceIte,reduceCtorEq,bHW,agM]
   rw[hb]
   refine aX (.inr rfl) .nil (vs:=[.agg [.int .i64 0,.int .i64 0,.int .i64 0],.bool false]) ?_ PH.nil_le ⟨.refl _,rfl⟩
   simp only[go_sem,γ,δ,ε,ζ,η,θ,ι,κ,μ,ν,ξ,ο,ρ,σ,τ,υ,reduceIte,reduceCtorEq,xP]
 ·rw[if_neg c]
  simp only[go_sem,γ,δ,ε,ζ,η,θ,ι,κ,μ,ν,ξ,ο,ρ,σ,τ,υ,reduceIte,reduceCtorEq,cT c,asA,hr,bJT]
  exact fin ⟨1,v,(row.length:Nat)⟩ _ _ Sq Sq Sq
theorem aOH {C:Ctx} (L:bkY C) (f:aK) (hf:f.Ok) (l:List (List Int)) (hl:fI l) :
  xO.wp C (aT DT.res (bY (.bool (iU f l)))) (PF.args [.agg f.cells,lay l]) .nil:=by
 simp only[go_sem,γ,δ,ε,ζ,η,θ,ι,κ,μ,ν,ξ,ο,ρ,σ,τ,υ,reduceIte,reduceCtorEq,xO,agC,agD,DT]
 refine aA (L.valid f hf) Ev ?_
 unfold iU
 have hlr:=hl.rows
 cases hv:dL f with
 | false =>
  simp only[go_sem,γ,δ,ε,ζ,η,θ,ι,κ,μ,ν,ξ,ο,ρ,σ,τ,υ,reduceIte,reduceCtorEq,bKI,IJ]
  exact bA Ev (by simp only[bJZ])
 | true =>
  have hV:=VF.of hv
  by_cases c:l.length=f.bHR.length
  ·have c':(((l.length:Nat):Int) != ((f.bHR.length:Nat):Int))=false:=cH Om
   rw[decide_eq_true c]
   simp only[go_sem,γ,δ,ε,ζ,η,θ,ι,κ,μ,ν,ξ,ο,ρ,σ,τ,υ,reduceIte,reduceCtorEq,bKC,bJT,c',agE]
   generalize hq:(fun v=>(lZ f l v).isNone)=q
   refine wp_loop (α:=Nat) (fun k=>tSF f l k) (fun _=>.nil) (fun k=>k≤l.length∧mI q k) (fun k=>l.length-k) 0 ⟨bKF _,.zero⟩ ?_ PH.nil_le ?_
   ·unfold tSF
    (repeat' (first|exact PF.nil_le|refine PF.aI ?_ ?_))<;>first|(simp only[go_sem,γ,δ,ε,ζ,η,θ,ι,κ,μ,ν,ξ,ο,ρ,σ,τ,υ,reduceIte,reduceCtorEq,bJT]<;>rfl)|rfl
   rintro k ⟨hk,ha⟩
   simp only[go_sem,γ,δ,ε,ζ,η,θ,ι,κ,μ,ν,ξ,ο,ρ,σ,τ,υ,reduceIte,reduceCtorEq,VJ,agF,tSF]
   by_cases hlt:k<l.length
   ·have bHW:(k:Int)<(l.length:Nat):=by omega
    have hqk:q k=(lZ f l k).isNone:=by rw[← hq]
    simp only[go_sem,γ,δ,ε,ζ,η,θ,ι,κ,μ,ν,ξ,ο,ρ,σ,τ,υ,reduceIte,reduceCtorEq,bHW,agG,agH]
    refine aA (L.shape f l k hV hl hlt Om) Ev ?_
    cases hs:lZ f l k with
    | some x =>
     rw[hs] at hqk
     simp only[go_sem,γ,δ,ε,ζ,η,θ,ι,κ,μ,ν,ξ,ο,ρ,σ,τ,υ,reduceIte,reduceCtorEq,shV]
     refine aR fun o ho=>?_
     simp only[go_sem,γ,δ,ε,ζ,η,θ,ι,κ,μ,ν,ξ,ο,ρ,σ,τ,υ,reduceIte,reduceCtorEq,IK,agI]
     exact bA (b:=false) Ev (by rw[show (bJU l.length).all q=false from dP hlt hqk])
    | none =>
     rw[hs] at hqk
     simp only[go_sem,γ,δ,ε,ζ,η,θ,ι,κ,μ,ν,ξ,ο,ρ,σ,τ,υ,reduceIte,reduceCtorEq,shV]
     refine aR fun o ho=>?_
     simp only[go_sem,γ,δ,ε,ζ,η,θ,ι,κ,μ,ν,ξ,ο,ρ,σ,τ,υ,reduceIte,reduceCtorEq,IK,agJ,wZz k]
     refine aH (k+1) ⟨hlt,ha.step hqk⟩ Om ?_ PH.nil_le
     exact Lq
   ·have bHW:¬ (k:Int)<(l.length:Nat):=by omega
    have:k=l.length:=by omega
    subst this
    simp only[go_sem,γ,δ,ε,ζ,η,θ,ι,κ,μ,ν,ξ,ο,ρ,σ,τ,υ,reduceIte,reduceCtorEq,bHW,VK]
    exact bA (b:=true) Ev (by rw[show (bJU l.length).all q=true from ha])
  ·have c':(((l.length:Nat):Int) != ((f.bHR.length:Nat):Int))=true:=cT Om
   simp only[go_sem,γ,δ,ε,ζ,η,θ,ι,κ,μ,ν,ξ,ο,ρ,σ,τ,υ,reduceIte,reduceCtorEq,bKC,bJT,c',IJ]
   exact bA Ev (by rw[decide_eq_false c]; simp only[bJZ])
theorem aOF {C:Ctx} (L:bkX C) (f:aK) (hf:f.Ok) (l:List (List Int)) (hl:fI l) :
  xM.wp C (aT DS.res (aD (.bool (iU f l)))) (PF.args [.agg f.cells,lay l]) .nil:=by
 simp only[go_sem,γ,δ,ε,ζ,η,θ,ι,κ,μ,ν,ξ,ο,ρ,σ,τ,υ,reduceIte,reduceCtorEq,xM,afU,afV,DS]
 refine aA (L.valid f hf) Sq ?_
 unfold iU
 have hlr:=hl.rows
 cases hv:dL f with
 | false =>
  simp only[go_sem,γ,δ,ε,ζ,η,θ,ι,κ,μ,ν,ξ,ο,ρ,σ,τ,υ,reduceIte,reduceCtorEq,bKI,IG]
  refine aM (.inr rfl) Ev ?_
  simp[aV]
 | true =>
  have hV:=VF.of hv
  by_cases c:l.length=f.bHR.length
  ·have c':(((l.length:Nat):Int) != ((f.bHR.length:Nat):Int))=false:=cH Om
   rw[decide_eq_true c]
   simp only[go_sem,γ,δ,ε,ζ,η,θ,ι,κ,μ,ν,ξ,ο,ρ,σ,τ,υ,reduceIte,reduceCtorEq,bKC,bJT,c',afW]
   generalize hq:(fun v=>(lZ f l v).isNone)=q
   refine wp_loop (α:=Nat) (fun k=>(((PF.nil.set 1 (lay l)).set 2 (.bH f.cells)).set 5 (.int .i64 k))) (fun _=>.nil) (fun k=>k≤l.length∧mI q k) (fun k=>l.length-k) 0 ⟨bKF _,.zero⟩ Lq PH.nil_le ?_
   rintro k ⟨hk,ha⟩
   simp only[go_sem,γ,δ,ε,ζ,η,θ,ι,κ,μ,ν,ξ,ο,ρ,σ,τ,υ,reduceIte,reduceCtorEq,afT,afX,bJT]
   by_cases hlt:k<l.length
   ·have bHW:(k:Int)<(l.length:Nat):=by omega
    have hqk:q k=(decide (((l[k]).length:Int)=fC f k)&&!decide (EI f l[k]≥0)):=by
     rw[← hq,← show l.getD k []=l[k] by simp[bKO,hlt]]; exact baB f l k
    have hrl:(l[k]).length≤16777216:=by
     have h1:=azM l (k+1)
     have:=hl.all
     rw[MN l hlt,bKA] at h1
     omega
    have hat:(l.map fun r=>[ints r])[k]?=some [ints l[k]]:=by simp[hlt]
    generalize l[k]=row at *
    simp only[go_sem,γ,δ,ε,ζ,η,θ,ι,κ,μ,ν,ξ,ο,ρ,σ,τ,υ,reduceIte,reduceCtorEq,bHW]
    refine bR .nil (ssS f row) PH.nil_le ?_
    simp only[go_sem,γ,δ,ε,ζ,η,θ,ι,κ,μ,ν,ξ,ο,ρ,σ,τ,υ,reduceIte,reduceCtorEq,afY,hat,bJT]
    refine bJ (biJ f row k) (L.WY f k hV Om) Sq PH.nil_le ?_
    by_cases c1:((row.length:Nat):Int)=fC f k
    ·rw[decide_eq_true c1,bKE] at hqk
     simp only[go_sem,γ,δ,ε,ζ,η,θ,ι,κ,μ,ν,ξ,ο,ρ,σ,τ,υ,reduceIte,reduceCtorEq,cH c1,hat]
     refine bJ (show ssS f row 89 [.agg f.cells,ints row]=some ([],fun _=>aD (.int .i64 (EI f row))) from rfl) (L.bad f row hrl) Sq PH.nil_le ?_
     by_cases c2:EI f row≥0
     ·rw[decide_eq_true c2] at hqk
      simp only[go_sem,γ,δ,ε,ζ,η,θ,ι,κ,μ,ν,ξ,ο,ρ,σ,τ,υ,reduceIte,reduceCtorEq,c2,IH]
      refine aM (.inr rfl) Ev ?_
      rw[aV,show (bJU l.length).all q=false from dP hlt hqk]
     ·rw[decide_eq_false c2] at hqk
      simp only[go_sem,γ,δ,ε,ζ,η,θ,ι,κ,μ,ν,ξ,ο,ρ,σ,τ,υ,reduceIte,reduceCtorEq,c2,afZ,wZz k]
      exact aH (k+1) ⟨hlt,ha.step hqk⟩ Om Lq PH.nil_le
    ·rw[decide_eq_false c1,bJZ] at hqk
     simp only[go_sem,γ,δ,ε,ζ,η,θ,ι,κ,μ,ν,ξ,ο,ρ,σ,τ,υ,reduceIte,reduceCtorEq,cT c1,IH]
     refine aM (.inr rfl) Ev ?_
     rw[aV,show (bJU l.length).all q=false from dP hlt hqk]
   ·have bHW:¬ (k:Int)<(l.length:Nat):=by omega
    have:k=l.length:=by omega
    subst this
    simp only[go_sem,γ,δ,ε,ζ,η,θ,ι,κ,μ,ν,ξ,ο,ρ,σ,τ,υ,reduceIte,reduceCtorEq,bHW,agA]
    refine aM (.inr rfl) Ev ?_
    rw[aV,show (bJU l.length).all q=true from ha]
  ·have c':(((l.length:Nat):Int) != ((f.bHR.length:Nat):Int))=true:=cT Om
   simp only[go_sem,γ,δ,ε,ζ,η,θ,ι,κ,μ,ν,ξ,ο,ρ,σ,τ,υ,reduceIte,reduceCtorEq,bKC,bJT,c',IG]
   refine aM (.inr rfl) Ev ?_
   rw[aV,decide_eq_false c]; simp
theorem aIH {C:Ctx} (L:bkW C) (f:aK) (hf:f.Ok) (room:List Int) :
  IF.wp C (aT afS.res (kK 1 (bD (afO f room)))) (PF.args [.agg f.cells,ints room]) .nil:=by
 simp only[go_sem,γ,δ,ε,ζ,η,θ,ι,κ,μ,ν,ξ,ο,ρ,σ,τ,υ,reduceIte,reduceCtorEq,IF,aII,aIJ,afS]
 refine aA (L.valid f hf) Sq ?_
 unfold afO
 cases hv:dL f with
 | false =>
  simp only[go_sem,γ,δ,ε,ζ,η,θ,ι,κ,μ,ν,ξ,ο,ρ,σ,τ,υ,reduceIte,reduceCtorEq,bKI,aIK]
  exact DO (.inr rfl) Ev
 | true =>
  have hV:=VF.of hv
  have hd24:=hV.small.bHP
  have hRl:=PA f room
  simp only[go_sem,γ,δ,ε,ζ,η,θ,ι,κ,μ,ν,ξ,ο,ρ,σ,τ,υ,reduceIte,reduceCtorEq,bKC,aIL,aIM]
  refine wp_loop (α:=Nat × PV × PH) (fun t=>((((PF.nil.set 1 (ints room)).set 2 (.bH f.cells)).set 5 (t.2.1)).set 6 (.int .i64 t.1))) (fun t=>t.2.2) (fun t=>t.1≤f.bHP.length∧bL t.2.2 1 t.2.1 (bD ((fK f room).take t.1))) (fun t=>f.bHP.length-t.1) (0,.aB,.nil) ⟨bKF _,.nil⟩ Lq PH.nil_le ?_
  rintro⟨k,v,H0⟩ ⟨hk,hO⟩
  simp only at hk hO ⊢
  simp only[go_sem,γ,δ,ε,ζ,η,θ,ι,κ,μ,ν,ξ,ο,ρ,σ,τ,υ,reduceIte,reduceCtorEq,arW,aIN,bJT]
  by_cases hlt:k<f.bHP.length
  ·have bHW:(k:Int)<(f.bHP.length:Nat):=by omega
   obtain⟨hm,he⟩:=hV.a6S hlt
   have hmo:=hV.model _ (bJX hm)
   rw[he] at hmo
   have h11:(1:Nat)*1≤16777216:=by decide
   have bIL:=a2P f room hlt
   have rest:∀ (x:Int) (F:PF),x=rB f room k→((((((PF.nil.set 1 (ints room)).set 2 (.bH f.cells)).set 5 (v)).set 6 (.int .i64 k)).set 7 (.int .i64 x)):PF).le F →
     aC.wp C (.region YY) (dW 1 (iD C (aC.wp C (.region PN)) (eE (fun t:Nat × PV × PH=>((((PF.nil.set 1 (ints room)).set 2 (.bH f.cells)).set 5 (t.2.1)).set 6 (.int .i64 t.1))) (fun t=>t.2.2) (fun t=>t.1≤f.bHP.length∧bL t.2.2 1 t.2.1 (bD ((fK f room).take t.1))) (fun t=>f.bHP.length-t.1) (f.bHP.length-k) (dW 0 (iD C (aC.wp C (.seq (.region PO) .ret)) (aT [.tmp 4] (bY (ints (fK f room))))))))) F H0:=by
    intro x F hx hF
    refine sW _ (fun _ _ _ _ a b=>Up.up a b) hF ?_
    simp only[go_sem,γ,δ,ε,ζ,η,θ,ι,κ,μ,ν,ξ,ο,ρ,σ,τ,υ,reduceIte,reduceCtorEq,YY,h11]
    refine fZ (src:=[[.int .i64 x]]) hO Sq (by unfold roomFor; rw[dO,bKL]; simp only[bKH,maxLen]; omega) fun v' H' hO' _=>?_
    rw[a1C,hx,← bIL] at hO'
    simp only[go_sem,γ,δ,ε,ζ,η,θ,ι,κ,μ,ν,ξ,ο,ρ,σ,τ,υ,reduceIte,reduceCtorEq,PN,wZz k]
    exact aH (k+1,v',H') ⟨hlt,hO'⟩ (by simp only; omega) Lq PH.le_refl
   simp only[aC.wp,go_sem] at rest
   simp only[go_sem,γ,δ,ε,ζ,η,θ,ι,κ,μ,ν,ξ,ο,ρ,σ,τ,υ,reduceIte,reduceCtorEq,bHW]
   refine bR .nil eG PH.nil_le ?_
   simp only[go_sem,γ,δ,ε,ζ,η,θ,ι,κ,μ,ν,ξ,ο,ρ,σ,τ,υ,reduceIte,reduceCtorEq,aIO,aoH hlt,hV.brX hlt,a7X hm,he]
   by_cases c:room.length=f.bHP.length
   ·have hrk:k<room.length:=by omega
    have hrr:(room.map fun n=>[PV.int .i64 n])[k]?=some [.int .i64 room[k]]:=by simp[hrk]
    simp only[go_sem,γ,δ,ε,ζ,η,θ,ι,κ,μ,ν,ξ,ο,ρ,σ,τ,υ,reduceIte,reduceCtorEq,YX,bJT,bO (Om:((room.length:Nat):Int)=(f.bHP.length:Nat)),aIP,hrr,max_eq,bnR]
    refine rest _ _ ?_ Lq
    rw[rB,if_pos c,bnQ Om,bKO,bKD hrk,bMJ]
   ·simp only[go_sem,γ,δ,ε,ζ,η,θ,ι,κ,μ,ν,ξ,ο,ρ,σ,τ,υ,reduceIte,reduceCtorEq,YX,bJT,bB (Om:((room.length:Nat):Int)≠(f.bHP.length:Nat))]
    refine rest _ _ ?_ Lq
    rw[rB,if_neg c]
  ·have bHW:¬ (k:Int)<(f.bHP.length:Nat):=by omega
   have:k=f.bHP.length:=by omega
   subst this
   rw[← hRl,bKS] at hO
   simp only[go_sem,γ,δ,ε,ζ,η,θ,ι,κ,μ,ν,ξ,ο,ρ,σ,τ,υ,reduceIte,reduceCtorEq,bHW,PO]
   exact HY (.inr rfl) hO Sq
def asL:Rg:=[iZ 4]
def asM:Rg:=[iZ 5]
def asN:Rg:=[iA 6 (.mv (.const (.int .u64 0)))]
def asO:Rg:=[iI 7 0]
def asP:Rg:=[iM 10 7,iM 11 0,iN 12 11,iB 13 .lss 10 12]
def asQ:Rg:=[iM 16 6,iM 8 16]
def asR:Rg:=[iM 17 7,iM 18 1,iN 19 18,iB 20 .lss 17 19]
def asS:Rg:=[iM 21 8,iM 22 1,iM 23 7,iX 24 1 22 23,iL 25 24,iA 26 (.conv .u64 (Tm 25)),iB 27 .add 21 26,iM 8 27]
def QC:Rg:=[iM 28 0,iM 29 7,iX 30 1 28 29,iL 31 30,iA 32 (.conv .u64 (Tm 31)),iM 9 32]
def QD:Rg:=[iA 6 (.mv (.const (.int .u64 0)))]
def IU:Rg:=[iM 33 9,iM 34 8,iB 35 .lss 33 34]
def IV:Rg:=[iM 36 9,iA 37 (.bin .add (Tm 36) (.const (.int .u64 4294967296))),iM 9 37]
def IW:Rg:=[iA 6 (.mv (.const (.int .u64 1)))]
def uX:Rg:=[iM 38 5,iM 39 9,iM 40 8,iB 41 .sub 39 40,iA 42 (.conv .u32 (Tm 41)),iA 43 (.bHV true 1 1 [(.int .u32 0)] [(0,(Tm 42))]),iA 44 (.append 1 4 (Tm 38) (Tm 43)),iM 5 44]
def uY:Rg:=[iM 14 7,iC 15 .add 14 1,iM 7 15]
def agX:aC:=(.seq (sq asP (.cond (Tm 13) .skip (.exit 0))) (.seq (.block 1 (sq asQ (.seq (sq asR (.cond (Tm 20) (.region asS) .skip)) (sq QC (sq QD (.seq (sq IU (.cond (Tm 35) (sq IV (.region IW)) .skip)) (.region uX))))))) (.region uY)))
def agY:Rg:=[iM 45 5,iK 46 38 45,iM 4 46]
def BT:aC:=(sq asL (sq asM (sq asN (.seq (sq asO (.block 0 (.loop agX))) (sq agY .ret)))))
def baO:List Nat:=[43]
def QB:aW:=⟨2,47,BT,[.tmp 4]⟩
def aKJ:Rg:=[iZ 4]
def aKK:Rg:=[iZ 5]
def aKL:Rg:=[iA 6 (.mv (.const (.int .u64 0)))]
def aKM:Rg:=[iI 7 0]
def aKN:Rg:=[iM 9 7,iM 10 0,iN 11 10,iB 12 .lss 9 11,iM 13 12,gM 14 7 13 false,gM 15 1 13 false,gN 16 15 13 false,gB 17 .lss 14 16 13 false,iQ 18 13 17,iM 19 18,gM 20 6 19 false,iG 21 (.bin .gtr (Tm 20) (.const (.int .u64 0))) 19 false,iQ 22 19 21]
def ZD:Rg:=[iM 25 6,iM 8 25]
def ZE:Rg:=[iM 26 7,iM 27 0,iN 28 27,iB 29 .lss 26 28]
def ZF:Rg:=[iM 30 8,iM 31 0,iM 32 7,iX 33 1 31 32,iL 34 33,iA 35 (.conv .u64 (Tm 34)),iB 36 .add 30 35,iM 8 36]
def IY:Rg:=[iM 37 7,iM 38 1,iN 39 38,iB 40 .lss 37 39]
def IZ:Rg:=[iM 41 8,iM 42 1,iM 43 7,iX 44 1 42 43,iL 45 44,iA 46 (.conv .u64 (Tm 45)),iB 47 .add 41 46,iM 8 47]
def zF:Rg:=[iM 48 5,iM 49 8,iA 50 (.conv .u32 (Tm 49)),iA 51 (.bHV true 1 1 [(.int .u32 0)] [(0,(Tm 50))]),iA 52 (.append 1 4 (Tm 48) (Tm 51)),iM 5 52]
def zG:Rg:=[iM 53 8,iA 54 (.bin .shr (Tm 53) (.const (.int .u64 32))),iM 6 54]
def zH:Rg:=[iM 23 7,iC 24 .add 23 1,iM 7 24]
def asT:aC:=(.seq (sq aKN (.cond (Tm 22) .skip (.exit 0))) (.seq (.block 1 (sq ZD (.seq (sq ZE (.cond (Tm 29) (.region ZF) .skip)) (.seq (sq IY (.cond (Tm 40) (.region IZ) .skip)) (sq zF (.region zG)))))) (.region zH)))
def QI:Rg:=[iM 55 5,iK 56 38 55,iM 4 56]
def IX:aC:=(sq aKJ (sq aKK (sq aKL (.seq (sq aKM (.block 0 (.loop asT))) (sq QI .ret)))))
def bjC:List Nat:=[51]
def agZ:aW:=⟨2,57,IX,[.tmp 4]⟩
def asU:Rg:=[iZ 4]
def asV:Rg:=[iM 10 0,iN 11 10,iM 12 1,iN 13 12,iB 14 .add 11 13,iA 15 (.bHZ 1 4 [(.int .u32 0)] (Tm 14) (Tm 14)),iM 5 15]
def asW:Rg:=[iI 6 0]
def asX:Rg:=[iM 16 6,iM 17 0,iN 18 17,iB 19 .lss 16 18]
def QL:Rg:=[iA 7 (.mv (.const (.int .u64 0)))]
def QM:Rg:=[iI 8 0]
def asY:Rg:=[iM 22 8,iM 23 1,iN 24 23,iB 25 .lss 22 24]
def asZ:Rd:=[(iM 28 0,false),(iM 29 6,false),(iX 30 1 28 29,false),(iL 31 30,false),(iA 32 (.conv .u64 (Tm 31)),false),(iM 33 1,false),(iM 34 8,false),(iX 35 1 33 34,false),(iL 36 35,false),(iA 37 (.conv .u64 (Tm 36)),false),(iB 38 .mul 32 37,false),(iM 39 5,false),(iM 40 6,false),(iM 41 8,false),(iB 42 .add 40 41,false),(iX 43 1 39 42,false),(iL 44 43,false),(iA 45 (.conv .u64 (Tm 44)),false),(iB 46 .add 38 45,false),(iM 47 7,false),(iB 48 .add 46 47,false),(iM 9 48,false)]
def atA:Rg:=[iM 49 5,iM 50 6,iM 51 8,iB 52 .add 50 51,iM 53 9,iA 54 (.conv .u32 (Tm 53)),iX 55 1 49 52,iS 1 55 54]
def atB:Rg:=[iM 56 9,iA 57 (.bin .shr (Tm 56) (.const (.int .u64 32))),iM 7 57]
def ahB:Rg:=[iM 26 8,iC 27 .add 26 1,iM 8 27]
def JA:aC:=(.seq (sq asY (.cond (Tm 25) .skip (.exit 2))) (.seq (.block 3 (dq asZ (sq atA (.region atB)))) (.region ahB)))
def JB:Rg:=[iM 58 5,iM 59 6,iM 60 1,iN 61 60,iB 62 .add 59 61,iM 63 7,iA 64 (.conv .u32 (Tm 63)),iX 65 1 58 62,iS 1 65 64]
def ahC:Rg:=[iM 20 6,iC 21 .add 20 1,iM 6 21]
def ahA:aC:=(.seq (sq asX (.cond (Tm 19) .skip (.exit 0))) (.seq (.block 1 (sq QL (.seq (sq QM (.block 2 (.loop JA))) (.region JB)))) (.region ahC)))
def ahD:Rg:=[iM 66 5,iK 67 38 66,iM 4 67]
def BV:aC:=(sq asU (sq asV (.seq (sq asW (.block 0 (.loop ahA))) (sq ahD .ret))))
def baQ:List Nat:=[]
def QK:aW:=⟨2,68,BV,[.tmp 4]⟩
def aVO:Rg:=[iZ 4,iI 5 0]
def aVP:Rg:=[iM 7 0,iK 8 41 7,iM 9 8,gM 10 1 9 false,gK 11 41 10 9 false,iQ 12 9 11]
def amY:Rg:=[iZ 4,iI 5 2]
def aVQ:Rg:=[iM 13 0,iK 14 38 13,iM 15 1,iK 16 38 15,iK2 17 43 14 16,iM 6 17]
def aVR:Rg:=[iM 18 6,iK 19 41 18]
def aVS:Rg:=[iZ 4,iI 5 2]
def aVT:Rg:=[iM 20 6,iM 4 20,iI 5 0]
def PT:aC:=(sq aVO (.seq (sq aVP (.cond (Tm 12) (sq amY .ret) .skip)) (sq aVQ (.seq (sq aVR (.cond (Tm 19) (sq aVS .ret) .skip)) (sq aVT .ret)))))
def bpG:List Nat:=[]
def aJC:aW:=⟨2,21,PT,[.tmp 4,.tmp 5]⟩
def aXA:Rg:=[iZ 4,iI 5 0]
def aXB:Rg:=[iM 6 0,iK 7 41 6,iM 8 7,gM 9 1 8 false,gK 10 41 9 8 false,iQ 11 8 10]
def anE:Rg:=[iZ 4,iI 5 2]
def aXC:Rg:=[iM 12 0,iM 13 1,iK2 14 32 12 13,iC 15 .lss 14 0]
def aXD:Rg:=[iZ 4,iI 5 4]
def aXE:Rg:=[iM 16 0,iK 17 38 16,iM 18 1,iK 19 38 18,iK2 20 42 17 19,iM 4 20,iI 5 0]
def QJ:aC:=(sq aXA (.seq (sq aXB (.cond (Tm 11) (sq anE .ret) .skip)) (.seq (sq aXC (.cond (Tm 15) (sq aXD .ret) .skip)) (sq aXE .ret))))
def bpU:List Nat:=[]
def aKO:aW:=⟨2,21,QJ,[.tmp 4,.tmp 5]⟩
def aWS:Rg:=[iZ 4,iI 5 0]
def aWT:Rg:=[iM 7 0,iK 8 41 7,iM 9 8,gM 10 1 9 false,gK 11 41 10 9 false,iQ 12 9 11]
def anB:Rg:=[iZ 4,iI 5 2]
def aWU:Rg:=[iM 13 0,iK 14 38 13,iM 15 1,iK 16 38 15,iK2 17 44 14 16,iM 6 17]
def aWV:Rg:=[iM 18 6,iK 19 41 18]
def aWW:Rg:=[iZ 4,iI 5 2]
def aWX:Rg:=[iM 20 6,iM 4 20,iI 5 0]
def QE:aC:=(sq aWS (.seq (sq aWT (.cond (Tm 12) (sq anB .ret) .skip)) (sq aWU (.seq (sq aWV (.cond (Tm 19) (sq aWW .ret) .skip)) (sq aWX .ret)))))
def bpO:List Nat:=[]
def aKG:aW:=⟨2,21,QE,[.tmp 4,.tmp 5]⟩
def aJF:Rg:=[iI 2 0]
def aJG:Rg:=[iM 5 0,iK 6 38 5,iM 0 6]
def aJH:Rg:=[iM 7 0,iN 8 7,iC 9 .eql 8 0]
def aJI:Rg:=[iI 2 0]
def aJJ:Rg:=[iM 10 0,iN 11 10,iC 12 .sub 11 1,iA 13 (.bin .mul (Ci 32) (Tm 12)),iM 3 13]
def aJK:Rg:=[iM 14 0,iM 15 0,iN 16 15,iC 17 .sub 16 1,iX 18 1 14 17,iL 19 18,iM 4 19]
def aJL:Rg:=[iM 20 4,iA 21 (.bin .gtr (Tm 20) (.const (.int .u32 0)))]
def aJM:Rg:=[iM 24 3,iC 25 .add 24 1,iM 3 25]
def aJN:Rg:=[iM 22 4,iA 23 (.bin .quo (Tm 22) (.const (.int .u32 2))),iM 4 23]
def aJE:aC:=(.seq (sq aJL (.cond (Tm 21) .skip (.exit 0))) (.seq (.block 1 (.region aJM)) (.region aJN)))
def asG:Rg:=[iM 26 3,iM 2 26]
def IN:aC:=(sq aJF (sq aJG (.seq (sq aJH (.cond (Tm 9) (sq aJI .ret) .skip)) (sq aJJ (.seq (sq aJK (.block 0 (.loop aJE))) (sq asG .ret))))))
def biQ:List Nat:=[]
def agN:aW:=⟨1,27,IN,[.tmp 2]⟩
def baR:Rg:=[iZ 4]
def baS:Rg:=[iM 9 0,iN 10 9,iC 11 .eql 10 0]
def baT:Rg:=[iZ 4]
def baU:Rg:=[iM 12 1,iC 13 .quo 12 32,iA 14 (.bHZ 1 4 [(.int .u32 0)] (Tm 13) (Tm 13)),iM 5 14]
def baV:Rg:=[iA 6 (.mv (.const (.int .u64 0)))]
def baW:Rg:=[iI 7 0]
def baX:Rg:=[iM 15 7,iM 16 0,iN 17 16,iB 18 .lss 15 17]
def baY:Rg:=[iM 21 0,iM 22 7,iX 23 1 21 22,iL 24 23,iA 25 (.conv .u64 (Tm 24)),iM 26 1,iC 27 .rem 26 32,iA 28 (.conv .u64 (Tm 27)),iB 29 .shl 25 28,iM 30 6,iB 31 .or 29 30,iM 8 31]
def baZ:Rg:=[iM 32 5,iM 33 8,iA 34 (.conv .u32 (Tm 33)),iA 35 (.bHV true 1 1 [(.int .u32 0)] [(0,(Tm 34))]),iA 36 (.append 1 4 (Tm 32) (Tm 35)),iM 5 36]
def bbA:Rg:=[iM 37 8,iA 38 (.bin .shr (Tm 37) (.const (.int .u64 32))),iM 6 38]
def aXG:Rg:=[iM 19 7,iC 20 .add 19 1,iM 7 20]
def aXF:aC:=(.seq (sq baX (.cond (Tm 18) .skip (.exit 0))) (.seq (.block 1 (sq baY (sq baZ (.region bbA)))) (.region aXG)))
def aXH:Rg:=[iM 39 5,iM 40 6,iA 41 (.conv .u32 (Tm 40)),iA 42 (.bHV true 1 1 [(.int .u32 0)] [(0,(Tm 41))]),iA 43 (.append 1 4 (Tm 39) (Tm 42)),iK 44 38 43,iM 4 44]
def ZH:aC:=(sq baR (.seq (sq baS (.cond (Tm 11) (sq baT .ret) .skip)) (sq baU (sq baV (.seq (sq baW (.block 0 (.loop aXF))) (sq aXH .ret))))))
def bsW:List Nat:=[35,42]
def uup:aW:=⟨2,45,ZH,[.tmp 4]⟩
def aJU:Rg:=[iZ 4]
def aJV:Rg:=[iM 8 1,iC 9 .quo 8 32,iM 10 0,iN 11 10,iB 12 .geq 9 11]
def aJW:Rg:=[iZ 4]
def aJX:Rg:=[iZ 5]
def aJY:Rg:=[iM 13 1,iC 14 .quo 13 32,iM 6 14]
def aJZ:Rg:=[iM 15 6,iM 16 0,iN 17 16,iB 18 .lss 15 17]
def aKA:Rg:=[iM 21 0,iM 22 6,iX 23 1 21 22,iL 24 23,iA 25 (.conv .u64 (Tm 24)),iM 7 25]
def aKB:Rg:=[iM 26 6,iC 27 .add 26 1,iM 28 0,iN 29 28,iB 30 .lss 27 29]
def aKC:Rg:=[iM 31 7,iM 32 0,iM 33 6,iC 34 .add 33 1,iX 35 1 32 34,iL 36 35,iA 37 (.conv .u64 (Tm 36)),iA 38 (.bin .shl (Tm 37) (.const (.int .u64 32))),iB 39 .or 31 38,iM 7 39]
def ZB:Rg:=[iM 40 5,iM 41 7,iM 42 1,iC 43 .rem 42 32,iA 44 (.conv .u64 (Tm 43)),iB 45 .shr 41 44,iA 46 (.conv .u32 (Tm 45)),iA 47 (.bHV true 1 1 [(.int .u32 0)] [(0,(Tm 46))]),iA 48 (.append 1 4 (Tm 40) (Tm 47)),iM 5 48]
def PY:Rg:=[iM 19 6,iC 20 .add 19 1,iM 6 20]
def asH:aC:=(.seq (sq aJZ (.cond (Tm 18) .skip (.exit 0))) (.seq (.block 1 (sq aKA (.seq (sq aKB (.cond (Tm 30) (.region aKC) .skip)) (.region ZB)))) (.region PY)))
def asI:Rg:=[iM 49 5,iK 50 38 49,iM 4 50]
def IS:aC:=(sq aJU (.seq (sq aJV (.cond (Tm 12) (sq aJW .ret) .skip)) (sq aJX (.seq (sq aJY (.block 0 (.loop asH))) (sq asI .ret)))))
def biU:List Nat:=[47]
def agV:aW:=⟨2,51,IS,[.tmp 4]⟩
def auD:Rg:=[iA 1 (.box true (Tm 0)),iT 2 false]
def auE:Rg:=[iF 3 2 1,iL 4 3,iK 5 38 4,iN 6 5,iC 7 .gtr 6 0,iM 8 7,gF 9 2 1 8 true,gL 10 9 8 true,gK 11 38 10 8 true,gN 12 11 8 true,gC 13 .leq 12 128 8 true,iP 14 8 13,iM 15 14,gF 16 1 1 15 true,gL 17 16 15 true,gK 18 38 17 15 true,gN 19 18 15 true,gC 20 .leq 19 128 15 true,iP 21 15 20,iM 2 21]
def CB:aC:=(sq auD (sq auE .ret))
def bbX:List Nat:=[1]
def QV:aW:=⟨1,22,CB,[.tmp 2]⟩
def atE:Rg:=[iA 1 (.box true (Tm 0)),iT 2 false]
def atF:Rg:=[iF 3 1 1,iL 4 3,iN 5 4,iC 6 .gtr 5 128,iM 7 6,gF 8 2 1 7 false,gL 9 8 7 false,gN 10 9 7 false,gC 11 .gtr 10 128 7 false,iQ 12 7 11,iM 2 12]
def BW:aC:=(sq atE (sq atF .ret))
def bbP:List Nat:=[1]
def QQ:aW:=⟨1,13,BW,[.tmp 2]⟩
def aLI:Rg:=[iA 1 (.box true (Tm 0)),iA 2 (.alloc [(.bool false),.aB,.aB]),iI 3 0]
def aLJ:Rg:=[iO 4 3 1,iK 5 48 4]
def aLK:Rg:=[iA 6 (.build [(.bool false),.aB,.aB] []),iS 3 2 6,iI 3 2]
def aLL:Rg:=[iO 7 3 1,iS 3 2 7,iI 3 0]
def JE:aC:=(sq aLI (.seq (sq aLJ (.cond (Tm 5) (sq aLK .ret) .skip)) (sq aLL .ret)))
def bjJ:List Nat:=[1]
def ahG:aW:=⟨1,8,JE,[.cell 2 (some 3),.tmp 3]⟩
def ahP:Rg:=[iA 1 (.box true (Tm 0)),iA 2 (.alloc [(.bool false),.aB,.aB]),iI 3 0]
def ahQ:Rg:=[iO 4 3 1,iK 5 56 4,iA 6 (.un .not (Tm 5))]
def ahR:Rg:=[iA 7 (.build [(.bool false),.aB,.aB] []),iS 3 2 7,iI 3 1]
def ahS:Rg:=[iF 8 0 1,iL 9 8,iF 10 1 1,iL 11 10,iF 12 2 1,iL 13 12,iA 14 (.call 58 [(Tm 9),(Tm 11),(Tm 13)]),iS 3 2 14,iI 3 0]
def xT:aC:=(sq ahP (.seq (sq ahQ (.cond (Tm 6) (sq ahR .ret) .skip)) (sq ahS .ret)))
def a4F:List Nat:=[1]
def DZ:aW:=⟨1,15,xT,[.cell 2 (some 3),.tmp 3]⟩
def auA:Rg:=[iZ 4]
def auB:Rg:=[iM 8 0,iM 9 1,iK2 10 36 8 9,iM 7 10,iE 11 7 0,iE 12 7 1,iM 5 11,iM 6 12]
def auC:Rg:=[iM 13 5,iM 4 13]
def CA:aC:=(sq auA (sq auB (sq auC .ret)))
def bbV:List Nat:=[]
def QU:aW:=⟨2,14,CA,[.tmp 4]⟩
def atG:Rg:=[iA 2 (.box true (Tm 0)),iA 3 (.box true (Tm 1)),iI 4 0]
def atH:Rd:=[(iF 9 1 2,false),(iL 10 9,false),(iF 11 2 3,false),(iL 12 11,false),(iK2 13 60 10 12,true),(iF 14 1 3,true),(iL 15 14,true),(iF 16 2 2,true),(iL 17 16,true),(iK2 18 60 15 17,true),(iM 5 13,false),(iM 6 18,false)]
def atI:Rg:=[iF 19 0 2,iL 20 19,iM 21 20,gM 22 5 21 true,gN 23 22 21 true,gC 24 .gtr 23 0 21 true,iP 25 21 24,iF 26 0 3,iL 27 26,iM 28 27,gM 29 6 28 true,gN 30 29 28 true,gC 31 .gtr 30 0 28 true,iP 32 28 31,iM 7 25,iM 8 32]
def atJ:Rg:=[iM 34 7,iM 35 34,gM 36 8 35 true,iG 37 (.un .not (Tm 36)) 35 true,iP 38 35 37,iM 33 38]
def atK:Rg:=[iI 4 (-1)]
def atL:Rg:=[iM 40 8,iM 41 40,gM 42 7 41 true,iG 43 (.un .not (Tm 42)) 41 true,iP 44 41 43,iM 39 44]
def atM:Rg:=[iI 4 1]
def atN:Rg:=[iM 46 7,iM 45 46]
def atO:Rg:=[iM 47 6,iM 48 5,iK2 49 32 47 48,iM 4 49]
def atP:Rg:=[iM 50 5,iM 51 6,iK2 52 32 50 51,iM 4 52]
def BY:aC:=(sq atG (dq atH (sq atI (.seq (.block 0 (sq atJ (.cond (Tm 33) (sq atK .ret) (sq atL (.cond (Tm 39) (sq atM .ret) (sq atN (.cond (Tm 45) (sq atO .ret) .skip))))))) (sq atP .ret)))))
def bbR:List Nat:=[2,3]
def QR:aW:=⟨2,53,BY,[.tmp 4]⟩
def aLO:Rg:=[iA 2 (.box true (Tm 0)),iA 3 (.box true (Tm 1)),iT 4 false]
def aLP:Rg:=[iO 5 3 2,iO 6 3 3,iK2 7 51 5 6,iC 8 .lss 7 0,iM 4 8]
def JF:aC:=(sq aLO (sq aLP .ret))
def bjM:List Nat:=[2,3]
def ahI:aW:=⟨2,9,JF,[.tmp 4]⟩
def aLY:Rg:=[iA 2 (.box true (Tm 0)),iA 3 (.box true (Tm 1)),iT 4 false]
def aLZ:Rg:=[iO 5 3 2,iO 6 3 3,iK2 7 51 5 6,iC 8 .eql 7 0,iM 4 8]
def JL:aC:=(sq aLY (sq aLZ .ret))
def bjQ:List Nat:=[2,3]
def ahZ:aW:=⟨2,9,JL,[.tmp 4]⟩
def aMA:Rg:=[iA 1 (.box true (Tm 0)),iI 2 0]
def aMB:Rd:=[(iO 3 3 1,true),(iA 4 (.call 47 [(Ci 0)]),true),(iK2 5 51 3 4,true),(iM 2 5,false)]
def JM:aC:=(sq aMA (dq aMB .ret))
def bjS:List Nat:=[1]
def aiA:aW:=⟨1,6,JM,[.tmp 2]⟩
def aXI:Rg:=[iA 2 (.box true (Tm 0)),iA 3 (.box true (Tm 1)),iA 4 (.alloc [(.bool false),.aB,.aB]),iI 5 0]
def aXJ:Rg:=[iO 15 3 2,iK 16 56 15,iA 17 (.un .not (Tm 16)),iM 18 17,gO 19 3 3 18 false,gK 20 56 19 18 false,iG 21 (.un .not (Tm 20)) 18 false,iQ 22 18 21]
def anG:Rg:=[iA 23 (.build [(.bool false),.aB,.aB] []),iS 3 4 23,iI 5 1]
def aXK:Rd:=[(iF 24 1 2,false),(iL 25 24,false),(iF 26 2 3,false),(iL 27 26,false),(iK2 28 60 25 27,true),(iF 29 1 3,true),(iL 30 29,true),(iF 31 2 2,true),(iL 32 31,true),(iK2 33 60 30 32,true),(iF 34 2 2,true),(iL 35 34,true),(iF 36 2 3,true),(iL 37 36,true),(iK2 38 60 35 37,true),(iM 6 28,false),(iM 7 33,false),(iM 8 38,false)]
def aXL:Rg:=[iF 39 0 2,iL 40 39,iF 41 0 3,iL 42 41,iA 43 (.eqb false (Tm 40) (Tm 42))]
def aXM:Rg:=[iM 45 6,iM 46 7,iK2 47 30 45 46,iM 44 47,iE 48 44 0,iE 49 44 1,iM 9 48,iM 10 49]
def aXN:Rg:=[iF 50 0 2,iL 51 50,iM 52 9,iM 53 8,iA 54 (.call 58 [(Tm 51),(Tm 52),(Tm 53)]),iK 55 57 54,iE 56 55 0,iE 57 55 1,iS 3 4 56,iM 5 57]
def aXO:Rg:=[iM 58 6,iM 59 7,iK2 60 32 58 59,iC 61 .geq 60 0]
def aXP:Rg:=[iM 63 6,iM 64 7,iK2 65 37 63 64,iM 62 65,iE 66 62 0,iE 67 62 1,iM 11 66,iM 12 67]
def aXQ:Rg:=[iF 68 0 2,iL 69 68,iM 70 11,iM 71 8,iA 72 (.call 58 [(Tm 69),(Tm 70),(Tm 71)]),iK 73 57 72,iE 74 73 0,iE 75 73 1,iS 3 4 74,iM 5 75]
def aLE:Rg:=[iM 77 7,iM 78 6,iK2 79 37 77 78,iM 76 79,iE 80 76 0,iE 81 76 1,iM 13 80,iM 14 81]
def aLF:Rg:=[iF 82 0 3,iL 83 82,iM 84 13,iM 85 8,iA 86 (.call 58 [(Tm 83),(Tm 84),(Tm 85)]),iK 87 57 86,iE 88 87 0,iE 89 87 1,iS 3 4 88,iM 5 89]
def zI:aC:=(sq aXI (.seq (sq aXJ (.cond (Tm 22) (sq anG .ret) .skip)) (dq aXK (.seq (sq aXL (.cond (Tm 43) (sq aXM (sq aXN .ret)) .skip)) (.seq (sq aXO (.cond (Tm 61) (sq aXP (sq aXQ .ret)) .skip)) (sq aLE (sq aLF .ret)))))))
def bpW:List Nat:=[2,3]
def anF:aW:=⟨2,90,zI,[.cell 4 (some 3),.tmp 5]⟩
def aXV:Rg:=[iA 2 (.alloc [(.bool false),.aB,.aB]),iI 3 0]
def aXW:Rg:=[iA 8 (.call 47 [(Ci 0)]),iA 4 (.alloc [(.bool false),.aB,.aB]),iS 3 4 8]
def aXX:Rg:=[iI 5 0]
def aXY:Rg:=[iM 9 5,iM 10 0,iN 11 10,iB 12 .lss 9 11]
def aXZ:Rd:=[(iO 16 3 4,false),(iM 17 0,false),(iM 18 5,false),(iX 19 3 17 18,false),(iO 20 3 19,false),(iK2 21 46 16 20,true),(iM 15 21,false),(iE 22 15 0,false),(iE 23 15 1,true),(iA 6 (.alloc [(.bool false),.aB,.aB]),true),(iS 3 6 22,true),(iM 7 23,false)]
def anI:Rg:=[iM 24 7,iC 25 .neq 24 0]
def aYA:Rg:=[iA 26 (.build [(.bool false),.aB,.aB] []),iM 27 7,iS 3 2 26,iM 3 27]
def aYB:Rg:=[iO 28 3 6,iS 3 4 28]
def aYC:Rg:=[iM 13 5,iC 14 .add 13 1,iM 5 14]
def aXU:aC:=(.seq (sq aXY (.cond (Tm 12) .skip (.exit 0))) (.seq (.block 1 (dq aXZ (.seq (sq anI (.cond (Tm 25) (sq aYA .ret) .skip)) (.region aYB)))) (.region aYC)))
def aMH:Rg:=[iO 29 3 4,iS 3 2 29,iI 3 0]
def QT:aC:=(sq aXV (sq aXW (.seq (sq aXX (.block 0 (.loop aXU))) (sq aMH .ret))))
def bqB:List Nat:=[]
def aMG:aW:=⟨1,30,QT,[.cell 2 (some 3),.tmp 3]⟩
def sD:Rg:=[iT 4 false]
def sE:Rg:=[iM 5 0,iC 6 .geq 5 1,iM 7 6,gM 8 0 7 true,gC 9 .leq 8 6 7 true,iP 10 7 9,iM 11 10,gM 12 1 11 true,gC 13 .geq 12 0 11 true,iP 14 11 13,iM 15 14,gM 16 1 15 true,gC 17 .leq 16 4 15 true,iP 18 15 17,iM 19 18,gM 20 0 19 true,gM 21 1 19 true,gB 22 .add 20 21 19 true,gC 23 .leq 22 8 19 true,iP 24 19 23,iM 4 24]
def lT:aC:=(sq sD (sq sE .ret))
def biF:List Nat:=[]
def uV:aW:=⟨2,25,lT,[.tmp 4]⟩
def aiT:Rg:=[iT 2 false]
def aiU:Rg:=[iM 3 0,iA 4 (.bin .geq (Tm 3) (.const (.int .u8 97))),iM 5 4,gM 6 0 5 true,iG 7 (.bin .leq (Tm 6) (.const (.int .u8 122))) 5 true,iP 8 5 7,iM 9 8,gM 10 0 9 false,iG 11 (.bin .geq (Tm 10) (.const (.int .u8 65))) 9 false,gM 12 11 9 false,gM 13 0 12 true,iG 14 (.bin .leq (Tm 13) (.const (.int .u8 90))) 12 true,iG 15 (.pick (Tm 12) (Tm 14) (.const (.bool false))) 9 false,iQ 16 9 15,iM 2 16]
def xX:aC:=(sq aiT (sq aiU .ret))
def a5C:List Nat:=[]
def EC:aW:=⟨1,17,xX,[.tmp 2]⟩
def auO:Rg:=[iT 2 false]
def auP:Rg:=[iM 3 0,iA 4 (.bin .geq (Tm 3) (.const (.int .u8 48))),iM 5 4,gM 6 0 5 true,iG 7 (.bin .leq (Tm 6) (.const (.int .u8 57))) 5 true,iP 8 5 7,iM 2 8]
def CE:aC:=(sq auO (sq auP .ret))
def bcX:List Nat:=[]
def QZ:aW:=⟨1,9,CE,[.tmp 2]⟩
def aiI:Rg:=[iT 2 false]
def aiJ:Rg:=[iM 3 0,iK 4 65 3,iM 5 4,gM 6 0 5 false,gK 7 63 6 5 false,iQ 8 5 7,iM 9 8,gM 10 0 9 false,iG 11 (.bin .eql (Tm 10) (.const (.int .u8 45))) 9 false,iQ 12 9 11,iM 13 12,gM 14 0 13 false,iG 15 (.bin .eql (Tm 14) (.const (.int .u8 46))) 13 false,iQ 16 13 15,iM 2 16]
def xV:aC:=(sq aiI (sq aiJ .ret))
def a4Y:List Nat:=[]
def EA:aW:=⟨1,17,xV,[.tmp 2]⟩
def aiL:Rg:=[iT 2 false]
def aiM:Rg:=[iM 4 0,iA 5 (.bIX (Tm 4)),iC 6 .lss 5 1,iM 7 6,gM 8 0 7 false,iG 9 (.bIX (Tm 8)) 7 false,gC 10 .gtr 9 16 7 false,iQ 11 7 10,iM 12 11,gM 13 0 12 false,iG 14 (.bIY (Tm 13) (Ci 0)) 12 false,gK 15 65 14 12 false,iG 16 (.un .not (Tm 15)) 12 false,iQ 17 12 16]
def vG:Rg:=[iT 2 false]
def aiN:Rg:=[iI 3 0]
def aiO:Rg:=[iM 18 3,iM 19 0,iA 20 (.bIX (Tm 19)),iB 21 .lss 18 20]
def aiP:Rg:=[iM 24 0,iM 25 3,iA 26 (.bIY (Tm 24) (Tm 25)),iK 27 64 26,iA 28 (.un .not (Tm 27))]
def aiQ:Rg:=[iT 2 false]
def aiR:Rg:=[iM 22 3,iC 23 .add 22 1,iM 3 23]
def aiK:aC:=(.seq (sq aiO (.cond (Tm 21) .skip (.exit 0))) (.seq (.block 1 (sq aiP (.cond (Tm 28) (sq aiQ .ret) .skip))) (.region aiR)))
def aiS:Rg:=[iT 2 true]
def xW:aC:=(sq aiL (.seq (sq aiM (.cond (Tm 17) (sq vG .ret) .skip)) (.seq (sq aiN (.block 0 (.loop aiK))) (sq aiS .ret))))
def a5A:List Nat:=[]
def EB:aW:=⟨1,29,xW,[.tmp 2]⟩
theorem nS (P:List Nat) (v:Nat):aJ P++[[.int .u32 (v:Int)]]=aJ (P++[v]):=by simp[aJ]
theorem nP {P:List Nat} (h:P.length≤35184372087808):roomFor (aJ P).length 1 4:=by
 unfold roomFor
 rw[bT]
 simp only[maxLen]; omega
def SS (a b:List Nat) (v:PV) (c i:Nat):PF:=(((((PF.nil.set 0 (aF a)).set 1 (aF b)).set 5 (v)).set 6 (.int .u64 c)).set 7 (.int .i64 i))
theorem baN {C:Ctx} (L:nF C) (a b:List Nat) (ha:Lim a) (hb:Lim b) (hle:val b≤val a) (hl:b.length≤a.length) (h1:a.length≤35184372087808) :
  BT.wp C (aT QB.res (bY (aF (aG (val a-val b))))) (PF.args [aF a,aF b]) .nil:=by
 simp only[go_sem,BT,asL,asM,asN,asO,QB]
 refine wp_loop (α:=List Nat × Nat × PV × PH) (fun s=>SS a b s.2.2.1 s.2.1 s.1.length) (fun s=>s.2.2.2)
  (fun s=>s.1.length≤a.length∧Lim s.1∧s.2.1≤1∧val (a.take s.1.length)+4294967296 ^ s.1.length*s.2.1=val s.1+val (b.take s.1.length)∧bL s.2.2.2 1 s.2.2.1 (aJ s.1)) (fun s=>a.length-s.1.length) ([],0,.aB,.nil) ⟨by simp,by simp[Lim],by simp,by simp[val],.nil⟩ ?_ PH.nil_le ?_
 ·unfold SS
  exact Lq
 rintro⟨P,c,v,H0⟩ ⟨hP,bIM,hc,bII,hO⟩
 simp only at hP bIM hc bII hO ⊢
 simp only[go_sem,γ,reduceCtorEq,agX,asP,SS]
 by_cases c1:P.length<a.length
 ·have c1':(P.length:Int)<(a.length:Nat):=by omega
  have hai:=ha _ (bJX c1)
  have hta:=bW a c1
  have hac:(aJ a)[P.length]?=some [.int .u32 ((a[P.length]:Nat):Int)]:=bK a c1
  generalize hx:a[P.length]=x at *
  have ex:IntKind.u64.wrap ((x:Nat):Int)=((x:Nat):Int):=bF Om
  have fin:∀ (t:Nat) (F':PF),t<4294967296→val (b.take (P.length+1))=val (b.take P.length)+4294967296 ^ P.length*t →
    F' 0=some (aF a)→F' 1=some (aF b)→F' 5=some v→F' 8=some (.int .u64 (c+t:Nat))→F' 7=some (.int .i64 P.length) →
    ∀ K:cN,(∀ P' c' v' F2 H2,P'.length=P.length+1→Lim P'→c'≤1→val (a.take (P.length+1))+4294967296 ^ P'.length*c'=val P'+val (b.take (P.length+1))→(SS a b v' c' P'.length).le F2→bL H2 1 v' (aJ P')→K .normal F2 H2) →
    aC.wp C (.seq (.region QC) (.seq (.region QD) (.seq (.seq (.region IU) (.cond (.tmp 35) (.seq (.region IV) (.region IW)) .skip)) (.region uX)))) (dW 1 (iD C (aC.wp C (.region uY)) K)) F' H0:=by
   intro t F' ht htb g0 g1 g5 g8 g7 K hK
   have step:∀ (d c':Nat),d<4294967296→c'≤1→x+4294967296*c'=d+(c+t)→val (a.take (P.length+1))+4294967296 ^ (P.length+1)*c'=val (P++[d])+val (b.take (P.length+1)):=by
    intro d c' hd hc' he
    have h2:4294967296 ^ P.length*(x+4294967296*c')=4294967296 ^ P.length*(d+(c+t)):=by rw[he]
    rw[bKG,bKG,bKG] at h2
    rw[iH,bLN,bKP,hta,htb]
    omega
   simp only[go_sem,γ,QC,g0,g7,hac,ex,QD,IU,g8]
   by_cases c2:x<c+t
   ·have c2':((x:Nat):Int)<((c+t:Nat):Int):=by omega
    have e1:IntKind.u64.wrap ((x:Int)+4294967296)=((x+4294967296:Nat):Int):=by
     rw[show (x:Int)+4294967296=((x+4294967296:Nat):Int) by omega]
     exact bF Om
    have e2:IntKind.u64.wrap (((x+4294967296:Nat):Int)-((c+t:Nat):Int))=((x+4294967296-(c+t):Nat):Int):=by
     rw[show ((x+4294967296:Nat):Int)-((c+t:Nat):Int)=((x+4294967296-(c+t):Nat):Int) by omega]
     exact bF Om
    have e3:IntKind.u32.wrap ((x+4294967296-(c+t):Nat):Int)=((x+4294967296-(c+t):Nat):Int):=by
     rw[cA,bLE Om]
    have hb1:(1:Nat)*1≤16777216:=by decide
    simp only[go_sem,υ,γ,η,ζ,c2',IV,e1,IW,uX,g5,g8,e2,e3,hb1]
    refine fZ (src:=[[.int .u32 ((x+4294967296-(c+t):Nat):Int)]]) hO rfl (nP Om) fun v' H' hO' _=>?_
    rw[nS] at hO'
    simp only[go_sem,γ,uY,g7,dH (Om:P.length<9223372036854775807)]
    refine hK _ 1 v' _ H' (by simp) (bIM.app fun y hy=>by simp at hy; subst hy; omega) (bJV _) ?_ ?_ hO'
    ·rw[bKA,bKH]
     exact step _ 1 Om (bJV _) Om
    ·unfold SS
     rw[bKA,bKH]
     exact Lq
   ·have c2':¬ ((x:Nat):Int)<((c+t:Nat):Int):=by omega
    have e2:IntKind.u64.wrap (((x:Nat):Int)-((c+t:Nat):Int))=((x-(c+t):Nat):Int):=by
     rw[show ((x:Nat):Int)-((c+t:Nat):Int)=((x-(c+t):Nat):Int) by omega]
     exact bF Om
    have e3:IntKind.u32.wrap ((x-(c+t):Nat):Int)=((x-(c+t):Nat):Int):=by
     rw[cA,bLE Om]
    have hb1:(1:Nat)*1≤16777216:=by decide
    simp only[go_sem,υ,γ,η,ζ,c2',uX,g5,g8,e2,e3,hb1]
    refine fZ (src:=[[.int .u32 ((x-(c+t):Nat):Int)]]) hO rfl (nP Om) fun v' H' hO' _=>?_
    rw[nS] at hO'
    simp only[go_sem,γ,uY,g7,dH (Om:P.length<9223372036854775807)]
    refine hK _ 0 v' _ H' (by simp) (bIM.app fun y hy=>by simp at hy; subst hy; omega) (by decide) ?_ ?_ hO'
    ·rw[bKA,bKH]
     exact step _ 0 Om (by decide) Om
    ·unfold SS
     rw[bKA,bKH]
     exact Lq
  simp only[aC.wp,go_sem] at fin
  simp only[go_sem,γ,reduceCtorEq,c1',asQ,asR]
  by_cases c3:P.length<b.length
  ·have c3':(P.length:Int)<(b.length:Nat):=by omega
   have hbi:=hb _ (bJX c3)
   have htb:=bW b c3
   have eb:IntKind.u64.wrap ((b[P.length]:Nat):Int)=((b[P.length]:Nat):Int):=bF Om
   have es:IntKind.u64.wrap ((c:Int)+(b[P.length]:Int))=((c+b[P.length]:Nat):Int):=eQ Om
   simp only[go_sem,γ,reduceCtorEq,c3',asS,bK b c3,eb,es]
   refine fin b[P.length] _ hbi htb rfl rfl rfl rfl rfl _ ?_
   intro P' c' v' F2 H2 e1 e2 e3 e4 e5 e6
   rw[← e1] at e4
   exact aH (α:=List Nat × Nat × PV × PH) (P',c',v',H2) ⟨by simp only; omega,e2,e3,e4,e6⟩ (by simp only; omega) e5 PH.le_refl
  ·have c3':¬ (P.length:Int)<(b.length:Nat):=by omega
   have htb:val (b.take (P.length+1))=val (b.take P.length)+4294967296 ^ P.length*0:=by rw[bKK Om,bKK Om]; simp
   simp only[go_sem,c3']
   refine fin 0 _ (by decide) htb rfl rfl rfl rfl rfl _ ?_
   intro P' c' v' F2 H2 e1 e2 e3 e4 e5 e6
   rw[← e1] at e4
   exact aH (α:=List Nat × Nat × PV × PH) (P',c',v',H2) ⟨by simp only; omega,e2,e3,e4,e6⟩ (by simp only; omega) e5 PH.le_refl
 ·have e:P.length=a.length:=by omega
  have c1':¬ (P.length:Int)<(a.length:Nat):=by omega
  have hV:val P=val a-val b:=by
   rw[e,bKS,bKK hl] at bII
   have hlt:=eN bIM
   rw[e] at hlt
   rcases bMT c with h | h
   ·subst h; omega
   ·have:c=1:=by omega
    subst this; omega
  simp only[go_sem,γ,reduceCtorEq,c1',agY]
  have hs:=L.trim _ bIM Om
  rw[hV] at hs
  refine rG hs hO rfl fun F1 H1 _=>?_
  simp only[go_sem]
  exact aX (.inr rfl) .nil rfl PH.nil_le ⟨.refl _,rfl⟩
def pI (a b:List Nat) (o i:Nat):PF:=((((PF.nil.set 0 (aF a)).set 1 (aF b)).set 5 (.osl o 1 0 (a.length+b.length))).set 6 (.int .i64 i))
def utG (a b:List Nat) (o i c j:Nat):PF:=((((((PF.nil.set 0 (aF a)).set 1 (aF b)).set 5 (.osl o 1 0 (a.length+b.length))).set 6 (.int .i64 i)).set 7 (.int .u64 c)).set 8 (.int .i64 j))
theorem a3L {C:Ctx} (a b:List Nat) (ha:Lim a) (hb:Lim b) (h1:a.length≤35184372087808) (h2:b.length≤35184372087808) (L:List Nat) (i:Nat) (hi:i<a.length) (hI:CR a b L i) (q:Nat) (K:cN) (F:PF) (H:PH) (hF:(pI a b q i).le F) (hH:H q=some (.rows 1 (aJ L)))
  (hK:∀ L' F' H',CR a b L' (i+1)→(pI a b q i).le F'→H' q=some (.rows 1 (aJ L'))→K .normal F' H') :
  aC.wp C (.block 1 (.seq (.region QL) (.seq (.seq (.region QM) (.block 2 (.loop JA))) (.region JB)))) K F H:=by
 have f0:=hF 0 _ (by unfold pI; simp only[go_sem,reduceCtorEq]; rfl)
 have f1:=hF 1 _ (by unfold pI; simp only[go_sem,γ,reduceCtorEq]; rfl)
 have f5:=hF 5 _ (by unfold pI; simp only[go_sem,γ,reduceCtorEq]; rfl)
 have f6:=hF 6 _ (by unfold pI; simp only[go_sem,γ,reduceCtorEq]; rfl)
 have hx:=ha _ (bJX hi)
 have hta:=bW a hi
 generalize hxe:a[i]=x at *
 have hax:(aJ a)[i]?=some [.int .u32 ((x:Nat):Int)]:=by rw[bK a hi,hxe]
 simp only[go_sem,QL,QM]
 refine wp_loop (α:=List Nat × Nat × Nat) (fun t=>utG a b q i t.2.1 t.2.2) (fun t=>PH.nil.set q (.rows 1 (aJ t.1)))
  (fun t=>t.2.2≤b.length∧t.1.length=a.length+b.length∧Lim t.1∧t.2.1<4294967296∧val t.1+4294967296 ^ (i+t.2.2)*t.2.1=val (a.take i)*val b+4294967296 ^ i*(x*val (b.take t.2.2))∧∀ j y,i+b.length≤j→t.1[j]?=some y→y=0) (fun t=>b.length-t.2.2) (L,0,0)
  ⟨by simp,hI.len,hI.lim,by simp,by simp[val,hI.v],hI.z⟩ ?_ (PH.aI PH.nil_le hH) ?_
 ·unfold utG
  exact Lq
 rintro⟨M,c,j⟩ ⟨hj,hM,bIM,hc,bII,hz⟩
 simp only at hj hM bIM hc bII hz
 simp only[go_sem,γ,reduceCtorEq,JA,asY,utG]
 by_cases c1:j<b.length
 ·have c1':(j:Int)<(b.length:Nat):=by omega
  have hy:=hb _ (bJX c1)
  have htb:=bW b c1
  generalize hye:b[j]=y at *
  have hby:(aJ b)[j]?=some [.int .u32 ((y:Nat):Int)]:=by rw[bK b c1,hye]
  have hij:i+j<M.length:=by omega
  have hz0:=bIM _ (bJX hij)
  have bJM:=DW hij
  generalize hze:M[i+j]=z at *
  have hMz:(aJ M)[i+j]?=some [.int .u32 ((z:Nat):Int)]:=by rw[bK M hij,hze]
  have ex:IntKind.u64.wrap ((x:Nat):Int)=((x:Nat):Int):=bF Om
  have ey:IntKind.u64.wrap ((y:Nat):Int)=((y:Nat):Int):=bF Om
  have ez:IntKind.u64.wrap ((z:Nat):Int)=((z:Nat):Int):=bF Om
  have em:=aSF hx hy
  have hxy:x*y≤4294967295*4294967295:=Nat.mul_le_mul Om Om
  have e1:IntKind.u64.wrap (((x*y:Nat):Int)+(z:Int))=((x*y+z:Nat):Int):=eQ Om
  have e2:IntKind.u64.wrap (((x*y+z:Nat):Int)+(c:Int))=((x*y+z+c:Nat):Int):=eQ Om
  have eij:IntKind.i64.wrap ((i:Int)+(j:Int))=((i+j:Nat):Int):=fQ Om
  have hlt:((i+j:Nat):Int)<((a.length+b.length:Nat):Int):=by omega
  generalize ht:x*y+z+c=t at *
  have htt:t<4294967296*4294967296:=by omega
  have bIC:(aJ M).set (i+j) [.int .u32 ((t%4294967296:Nat):Int)]=aJ (M.set (i+j) (t%4294967296)):=eV M (i+j) _
  simp only[go_sem,c1']
  refine bR .nil eG PH.nil_le ?_
  simp only[go_sem,γ,reduceCtorEq,asZ,hax,hby,ex,ey,em,eij,hlt,hMz,ez,e1,e2,atA,cA,bIC,atB,uW,ahB,wZz j]
  refine aH (M.set (i+j) (t%4294967296),t/4294967296,j+1) ⟨by simp only; omega,by simp only[bLQ]; exact hM,bIM.set _ (bLJ _ (by decide)),by simp only; omega,?_,ajH hz _ _ Om⟩ (by simp only; omega) ?_ (PH.aI PH.nil_le Sq)
  ·simp only
   have h3:=bJM (t%4294967296)
   have h4:4294967296 ^ (i+(j+1))*(t/4294967296)+4294967296 ^ (i+j)*(t%4294967296)=4294967296 ^ (i+j)*t:=by
    rw[← bMG,bLN,bKP,← bKG,bNA]
   have h5:4294967296 ^ (i+j)*t=4294967296 ^ (i+j)*(x*y)+4294967296 ^ (i+j)*z+4294967296 ^ (i+j)*c:=by rw[← ht,bKG,bKG]
   have h6:4294967296 ^ i*(x*val (b.take (j+1)))=4294967296 ^ i*(x*val (b.take j))+4294967296 ^ (i+j)*(x*y):=by
    rw[htb,bKG,bKG,Nat.pow_add]
    congr 1
    rw[Nat.mul_left_comm x,bKP]
   omega
  ·exact Lq
 ·have he:j=b.length:=by omega
  have c1':¬ (j:Int)<(b.length:Nat):=by omega
  subst he
  have hij:i+b.length<M.length:=by omega
  have hz0:M[i+b.length]=0:=hz _ _ (bJV _) (bKD hij)
  have bJM:=DW hij
  have hMz:(aJ M)[i+b.length]?=some [.int .u32 ((0:Nat):Int)]:=by rw[bK M hij,hz0]
  have eij:IntKind.i64.wrap ((i:Int)+((b.length:Nat):Int))=((i+b.length:Nat):Int):=fQ Om
  have hlt:((i+b.length:Nat):Int)<((a.length+b.length:Nat):Int):=by omega
  have bIC:(aJ M).set (i+b.length) [.int .u32 ((c%4294967296:Nat):Int)]=aJ (M.set (i+b.length) c):=by
   rw[bLE hc]; exact eV M _ _
  simp only[go_sem,γ,reduceCtorEq,c1',JB,eij,cA,hlt,hMz,bIC]
  refine hK (M.set (i+b.length) c) _ _ ⟨by rw[bLQ]; exact hM,bIM.set _ hc,?_,fun j y hj hy=>?_⟩ (by unfold pI; exact Lq) Sq
  ·have h3:=bJM c
   rw[hz0,Nat.mul_zero,bLL] at h3
   rw[h3,bII,bKS,hta,bKY,bKP]
  ·rw[List.getElem?_set_ne Om] at hy
   exact hz j y Om hy
theorem baP {C:Ctx} (L:nF C) (a b:List Nat) (ha:Lim a) (hb:Lim b) (h1:a.length≤8388608) (h2:b.length≤8388608) :
  BV.wp C (aT QK.res (bY (aF (aG (val a*val b))))) (PF.args [aF a,aF b]) .nil:=by
 have hlen:IntKind.i64.wrap (((a.length:Nat):Int)+((b.length:Nat):Int))=((a.length+b.length:Nat):Int):=fQ Om
 have hm1:((a.length+b.length:Nat):Int)*((4:Nat):Int)≤140737488355328:=by omega
 have hm2:((a.length+b.length:Nat):Int)≤9223372036854775807:=by omega
 have hz:bJW (a.length+b.length) [PV.int .u32 0]=aJ (bJW (a.length+b.length) 0):=by
  simp[aJ]
 simp only[go_sem,γ,reduceCtorEq,BV,asU,asV,QK,bJT,hlen,hm1,hm2,hz]
 refine aR fun o ho=>?_
 simp only[go_sem,γ,asW]
 refine wp_loop (α:=List Nat × Nat) (fun t=>pI a b o t.2) (fun t=>PH.nil.set o (.rows 1 (aJ t.1))) (fun t=>t.2≤a.length∧CR a b t.1 t.2) (fun t=>a.length-t.2) (bJW (a.length+b.length) 0,0)
  ⟨by simp,by simp,tH _,by simp[val,qE],fun j x _ hx=>by rw[List.getElem?_replicate] at hx; split at hx<;>simp_all⟩ ?_ (PH.aI PH.nil_le Sq) ?_
 ·unfold pI
  exact Lq
 rintro⟨M,i⟩ ⟨hi,hI⟩
 simp only at hi hI
 simp only[go_sem,γ,reduceCtorEq,ahA,asX,pI]
 by_cases c1:i<a.length
 ·have c1':(i:Int)<(a.length:Nat):=by omega
  have key:=a3L (C:=C) a b ha hb Om Om M i c1 hI o
  simp only[go_sem] at key
  simp only[go_sem,c1']
  refine key _ _ _ (by unfold pI; exact Lq) Sq ?_
  intro L' F' H' hI' hF' hH'
  have g6:=hF' 6 _ (by unfold pI; simp only[go_sem,γ,reduceCtorEq]; rfl)
  have g0:=hF' 0 _ (by unfold pI; simp only[go_sem,reduceCtorEq]; rfl)
  have g1:=hF' 1 _ (by unfold pI; simp only[go_sem,γ,reduceCtorEq]; rfl)
  have g5:=hF' 5 _ (by unfold pI; simp only[go_sem,γ,reduceCtorEq]; rfl)
  simp only[go_sem,γ,ahC,g6,wZz i]
  refine aH (L',i+1) ⟨by simp only; omega,hI'⟩ (by simp only; omega) ?_ (PH.aI PH.nil_le hH')
  exact Lq
 ·have he:i=a.length:=by omega
  subst he
  have c1':¬ ((a.length:Nat):Int)<(a.length:Nat):=by omega
  have hV:val M=val a*val b:=by rw[hI.v,bKS]
  simp only[go_sem,γ,reduceCtorEq,ahD]
  have hs:=L.trim _ hI.lim (by rw[hI.len]; omega)
  rw[hV] at hs
  refine oC (o:=o) (s:=1) (k:=a.length+b.length) (rs:=aJ M) (v:=aF (aG (val a*val b))) ?_ rfl Sq (by rw[bT,hI.len]; exact bJV _) ?_
  ·rw[bKK (by rw[bT,hI.len]; exact bJV _)]; exact hs
  ·simp only[go_sem,γ,reduceCtorEq]
   exact aX (.inr rfl) .nil rfl PH.nil_le ⟨.refl _,rfl⟩
structure axD (C:Ctx):Prop extends axA C where
 minus:∀ a b,Lim a→Lim b→val b≤val a→b.length≤a.length→a.length≤35184372087808→aE C 42 [aF a,aF b] .nil (aD (aF (aG (val a-val b))))
 times:∀ a b,Lim a→Lim b→a.length≤8388608→b.length≤8388608→aE C 44 [aF a,aF b] .nil (aD (aF (aG (val a*val b))))
theorem bpN {C:Ctx} (L:axD C) (a b:List Nat) (ha:Lim a) (hb:Lim b) (la:a.length≤35184372087808) (lb:b.length≤35184372087808) :
  QE.wp C (aT aKG.res (bY (opV (dR (val a) (val b)) (val a*val b)))) (PF.args [aF a,aF b]) .nil:=by
 unfold opV
 simp only[go_sem,reduceCtorEq,QE,aWS,aWT,aKG]
 refine aA (L.large a ha la) rfl ?_
 by_cases c1:nl (val a)>512
 ·simp only[go_sem,γ,c1,anB]
  rw[if_pos (by simp[dR,c1])]
  exact eF rfl
 simp only[go_sem,γ,c1]
 refine aA (L.large b hb lb) rfl ?_
 by_cases c2:nl (val b)>512
 ·simp only[go_sem,γ,reduceCtorEq,c2,anB]
  rw[if_pos (by simp[dR,c2])]
  exact eF rfl
 rw[if_neg (by simp[dR,c1,c2])]
 simp only[go_sem,γ,reduceCtorEq,c2,aWU]
 refine aA (L.trim a ha la) rfl ?_
 simp only[go_sem,γ]
 refine aA (L.trim b hb lb) rfl ?_
 simp only[go_sem]
 have ht:=L.times (aG (val a)) (aG (val b)) (aU _) (aU _) (by rw[aZ]; omega) (by rw[aZ]; omega)
 rw[aS,aS] at ht
 refine aA ht rfl ?_
 have n1:=kC (a:=val a) (b:=val b) (m:=512) (n:=512) Om Om
 have hl:=L.large (aG (val a*val b)) (aU _) (by rw[aZ]; omega)
 rw[aS] at hl
 simp only[go_sem,γ,aWV]
 refine aA hl rfl ?_
 unfold szV szL szE
 by_cases c3:nl (val a*val b)>512
 ·rw[if_pos c3,if_pos c3]
  simp only[go_sem,γ,c3,aWW]
  exact eF rfl
 ·rw[if_neg c3,if_neg c3]
  simp only[go_sem,γ,c3,aWX]
  exact aX (.inr rfl) .nil rfl PH.nil_le ⟨.refl _,rfl⟩
def uK (a:List Nat) (i:Nat):Nat:=a.getD i 0
theorem ayL {a:List Nat} (h:Lim a) (i:Nat):uK a i<4294967296:=by
 unfold uK
 rw[bKO]
 rcases bKM i a.length with h1 | h1
 ·rw[bKD h1]; exact h _ (bJX h1)
 ·rw[bLG h1]; decide
theorem WO {a:List Nat} {i:Nat} (h:i<a.length):uK a i=a[i]:=by simp[uK,bKO,h]
theorem LW {a:List Nat} {i:Nat} (h:¬ i<a.length):uK a i=0:=by simp[uK,bKO,h]
theorem QN (a:List Nat) (i:Nat):val (a.take (i+1))=val (a.take i)+4294967296 ^ i*uK a i:=by
 rcases bKM i a.length with h | h
 ·rw[WO h]; exact bW a h
 ·rw[LW Om,bKK Om,bKK Om]; simp
def rE (a b:List Nat) (v:PV) (c i:Nat):PF:=(((((PF.nil.set 0 (aF a)).set 1 (aF b)).set 5 (v)).set 6 (.int .u64 c)).set 7 (.int .i64 i))
theorem bjB {C:Ctx} (L:nF C) (a b:List Nat) (ha:Lim a) (hb:Lim b) (h1:a.length≤8388608) (h2:b.length≤8388608) :
  IX.wp C (aT agZ.res (bY (aF (aG (val a+val b))))) (PF.args [aF a,aF b]) .nil:=by
 simp only[go_sem,IX,aKJ,aKK,aKL,aKM,agZ]
 refine wp_loop (α:=List Nat × Nat × PV × PH) (fun s=>rE a b s.2.2.1 s.2.1 s.1.length) (fun s=>s.2.2.2)
  (fun s=>s.1.length≤max a.length b.length+1∧(s.1.length≤max a.length b.length∨s.2.1=0)∧Lim s.1∧s.2.1≤1∧val s.1+4294967296 ^ s.1.length*s.2.1=val (a.take s.1.length)+val (b.take s.1.length)∧bL s.2.2.2 1 s.2.2.1 (aJ s.1)) (fun s=>max a.length b.length+1-s.1.length) ([],0,.aB,.nil)
  ⟨by simp,by simp,by simp[Lim],by simp,by simp[val],.nil⟩ ?_ PH.nil_le ?_
 ·unfold rE
  exact Lq
 rintro⟨P,c,v,H0⟩ ⟨hP,hPc,bIM,hc,bII,hO⟩
 simp only at hP hPc bIM hc bII hO ⊢
 have hda:=ayL ha P.length
 have hdb:=ayL hb P.length
 have hta:=QN a P.length
 have htb:=QN b P.length
 generalize hx:uK a P.length=x at *
 generalize hy:uK b P.length=y at *
 have ex:IntKind.u64.wrap ((x:Nat):Int)=((x:Nat):Int):=bF Om
 have ey:IntKind.u64.wrap ((y:Nat):Int)=((y:Nat):Int):=bF Om
 have e1:IntKind.u64.wrap ((c:Int)+(x:Int))=((c+x:Nat):Int):=eQ Om
 have e2:IntKind.u64.wrap (((c+x:Nat):Int)+(y:Int))=((c+x+y:Nat):Int):=eQ Om
 have hra:P.length<a.length→(aJ a)[P.length]?=some [.int .u32 ((x:Nat):Int)]:=fun h=>by rw[bK a h,← hx,WO h]
 have hrb:P.length<b.length→(aJ b)[P.length]?=some [.int .u32 ((y:Nat):Int)]:=fun h=>by rw[bK b h,← hy,WO h]
 have hxa:¬ P.length<a.length→x=0:=fun h=>by rw[← hx,LW h]
 have hyb:¬ P.length<b.length→y=0:=fun h=>by rw[← hy,LW h]
 have body:(P.length≤max a.length b.length)→∀ K:cN,(∀ P' c' v' F2 H2,P'.length=P.length+1→Lim P'→c'≤1→(P.length+1≤max a.length b.length∨c'=0)→val P'+4294967296 ^ P'.length*c'=val (a.take (P.length+1))+val (b.take (P.length+1))→(rE a b v' c' P'.length).le F2→bL H2 1 v' (aJ P')→K .normal F2 H2) →
   ∀ F:PF,(rE a b v c P.length).le F→aC.wp C (.seq (.block 1 (.seq (.region ZD) (.seq (.seq (.region ZE) (.cond (.tmp 29) (.region ZF) .skip)) (.seq (.seq (.region IY) (.cond (.tmp 40) (.region IZ) .skip)) (.seq (.region zF) (.region zG)))))) (.region zH)) K F H0:=by
  intro hle K hK F hF
  have g0:F 0=some (aF a):=hF 0 _ (by unfold rE; simp only[go_sem,reduceCtorEq])
  have g1:F 1=some (aF b):=hF 1 _ (by unfold rE; simp only[go_sem,γ,reduceCtorEq])
  have g5:F 5=some v:=hF 5 _ (by unfold rE; simp only[go_sem,γ,reduceCtorEq])
  have g6:F 6=some (.int .u64 c):=hF 6 _ (by unfold rE; simp only[go_sem,γ,reduceCtorEq])
  have g7:F 7=some (.int .i64 P.length):=hF 7 _ (by unfold rE; simp only[go_sem,γ,reduceCtorEq])
  have fin:∀ F':PF,F' 0=some (aF a)→F' 1=some (aF b)→F' 5=some v→F' 7=some (.int .i64 P.length)→F' 8=some (.int .u64 (c+x+y:Nat)) →
    aC.wp C (.seq (.region zF) (.region zG)) (dW 1 (iD C (aC.wp C (.region zH)) K)) F' H0:=by
   intro F' q0 q1 q5 q7 q8
   have hb1:(1:Nat)*1≤16777216:=by decide
   generalize ht:c+x+y=t at *
   have htt:t<2*4294967296:=by omega
   simp only[go_sem,υ,γ,η,ζ,zF,q5,q8,hb1,cA]
   refine fZ (src:=[[.int .u32 ((t%4294967296:Nat):Int)]]) hO rfl (nP Om) fun v' H' hO' _=>?_
   rw[nS] at hO'
   simp only[go_sem,γ,zG,q8,uW,zH,q7,dH (Om:P.length<9223372036854775807)]
   refine hK (P++[t%4294967296]) (t/4294967296) v' _ H' (by simp) (bIM.app fun y hy=>by simp at hy; subst hy; omega) Om ?_ ?_ ?_ hO'
   ·rcases bKM P.length (max a.length b.length) with h | h
    ·exact .inl h
    ·right
     have h1:=hxa Om
     have h2:=hyb Om
     omega
   ·rw[iH,bKA,bKH,hta,htb,bLN,bKP,bMG,← bKG]
    rw[show t%4294967296+4294967296*(t/4294967296)=t from Nat.mod_add_div t 4294967296]
    have h3:4294967296 ^ P.length*t=4294967296 ^ P.length*c+4294967296 ^ P.length*x+4294967296 ^ P.length*y:=by rw[← ht,bKG,bKG]
    omega
   ·unfold rE
    rw[bKA,bKH]
    exact Lq
  simp only[aC.wp,go_sem] at fin
  simp only[go_sem,γ,reduceCtorEq,ZD,g6,ZE,g7,g0]
  by_cases c1:P.length<a.length
  ·have c1':(P.length:Int)<(a.length:Nat):=by omega
   simp only[go_sem,γ,reduceCtorEq,c1',ZF,g0,g7,hra c1,ex,e1,IY,g1]
   by_cases c2:P.length<b.length
   ·have c2':(P.length:Int)<(b.length:Nat):=by omega
    simp only[go_sem,γ,c2',IZ,g1,g7,hrb c2,ey,e2]
    exact fin _ (by simp only[go_sem,reduceCtorEq,g0]) (by simp only[go_sem,γ,g1]) (by simp only[go_sem,γ,g5]) (by simp only[go_sem,γ,g7]) rfl
   ·have c2':¬ (P.length:Int)<(b.length:Nat):=by omega
    have h0:=hyb c2
    simp only[go_sem,c2']
    exact fin _ (by simp only[go_sem,reduceCtorEq,g0]) (by simp only[go_sem,γ,g1]) (by simp only[go_sem,γ,g5]) (by simp only[go_sem,γ,g7]) (by simp only[go_sem,γ,h0])
  ·have c1':¬ (P.length:Int)<(a.length:Nat):=by omega
   have h0:=hxa c1
   simp only[go_sem,γ,c1',IY,g1,g7]
   by_cases c2:P.length<b.length
   ·have c2':(P.length:Int)<(b.length:Nat):=by omega
    have e2':IntKind.u64.wrap ((c:Int)+(y:Int))=((c+x+y:Nat):Int):=by rw[h0]; exact eQ Om
    simp only[go_sem,γ,c2',IZ,g1,g7,hrb c2,ey,e2']
    exact fin _ (by simp only[go_sem,reduceCtorEq,g0]) (by simp only[go_sem,γ,g1]) (by simp only[go_sem,γ,g5]) (by simp only[go_sem,γ,g7]) rfl
   ·have c2':¬ (P.length:Int)<(b.length:Nat):=by omega
    have h0':=hyb c2
    simp only[go_sem,c2']
    exact fin _ (by simp only[go_sem,reduceCtorEq,g0]) (by simp only[go_sem,γ,g1]) (by simp only[go_sem,γ,g5]) (by simp only[go_sem,γ,g7]) (by simp only[go_sem,γ,h0,h0'])
 simp only[aC.wp,go_sem] at body
 have hexit:¬ P.length<a.length→¬ P.length<b.length→c=0→∀ F:PF,F 5=some v→aC.wp C (.seq (.region QI) .ret) (aT [.tmp 4] (bY (aF (aG (val a+val b))))) F H0:=by
  intro n1 n2 n3 F f5
  have hV:val P=val a+val b:=by
   rw[n3,bKK Om,bKK Om] at bII
   omega
  have hs:=L.trim _ bIM Om
  rw[hV] at hs
  simp only[go_sem,QI,f5]
  refine rG hs hO rfl fun F1 H1 _=>?_
  simp only[go_sem]
  exact aX (.inr rfl) .nil rfl PH.nil_le ⟨.refl _,rfl⟩
 simp only[aC.wp,go_sem] at hexit
 simp only[go_sem,γ,reduceCtorEq,asT,aKN,rE]
 by_cases c1:P.length<a.length
 ·have c1':(P.length:Int)<(a.length:Nat):=by omega
  simp only[go_sem,γ,reduceCtorEq,c1']
  refine body Om _ ?_ _ (by unfold rE; exact Lq)
  intro P' c' v' F2 H2 e1 e2 e3 e4 e5 e6 e7
  rw[← e1] at e5 e4
  exact aH (α:=List Nat × Nat × PV × PH) (P',c',v',H2) ⟨by simp only; omega,e4,e2,e3,e5,e7⟩ (by simp only; omega) e6 PH.le_refl
 ·have c1':¬ (P.length:Int)<(a.length:Nat):=by omega
  simp only[go_sem,γ,reduceCtorEq,c1']
  by_cases c2:P.length<b.length
  ·have c2':(P.length:Int)<(b.length:Nat):=by omega
   simp only[go_sem,γ,reduceCtorEq,c2']
   refine body Om _ ?_ _ (by unfold rE; exact Lq)
   intro P' c' v' F2 H2 e1 e2 e3 e4 e5 e6 e7
   rw[← e1] at e5 e4
   exact aH (α:=List Nat × Nat × PV × PH) (P',c',v',H2) ⟨by simp only; omega,e4,e2,e3,e5,e7⟩ (by simp only; omega) e6 PH.le_refl
  ·have c2':¬ (P.length:Int)<(b.length:Nat):=by omega
   simp only[go_sem,γ,reduceCtorEq,c2']
   by_cases c3:c=0
   ·have c3':¬ (c:Int)>0:=by omega
    simp only[go_sem,c3']
    exact hexit c1 c2 c3 _ rfl
   ·have c3':(c:Int)>0:=by omega
    simp only[go_sem,c3']
    refine body Om _ ?_ _ (by unfold rE; exact Lq)
    intro P' c' v' F2 H2 e1 e2 e3 e4 e5 e6 e7
    rw[← e1] at e5 e4
    exact aH (α:=List Nat × Nat × PV × PH) (P',c',v',H2) ⟨by simp only; omega,e4,e2,e3,e5,e7⟩ (by simp only; omega) e6 PH.le_refl
structure aaB (C:Ctx):Prop extends axD C where
 plus:∀ a b,Lim a→Lim b→a.length≤8388608→b.length≤8388608→aE C 43 [aF a,aF b] .nil (aD (aF (aG (val a+val b))))
theorem bpF {C:Ctx} (L:aaB C) (a b:List Nat) (ha:Lim a) (hb:Lim b) (la:a.length≤35184372087808) (lb:b.length≤35184372087808) :
  PT.wp C (aT aJC.res (bY (opV (dR (val a) (val b)) (val a+val b)))) (PF.args [aF a,aF b]) .nil:=by
 unfold opV
 simp only[go_sem,reduceCtorEq,PT,aVO,aVP,aJC]
 refine aA (L.large a ha la) rfl ?_
 by_cases c1:nl (val a)>512
 ·simp only[go_sem,γ,c1,amY]
  rw[if_pos (by simp[dR,c1])]
  exact eF rfl
 simp only[go_sem,γ,c1]
 refine aA (L.large b hb lb) rfl ?_
 by_cases c2:nl (val b)>512
 ·simp only[go_sem,γ,reduceCtorEq,c2,amY]
  rw[if_pos (by simp[dR,c2])]
  exact eF rfl
 rw[if_neg (by simp[dR,c1,c2])]
 simp only[go_sem,γ,reduceCtorEq,c2,aVQ]
 refine aA (L.trim a ha la) rfl ?_
 simp only[go_sem,γ]
 refine aA (L.trim b hb lb) rfl ?_
 simp only[go_sem]
 have ht:=L.plus (aG (val a)) (aG (val b)) (aU _) (aU _) (by rw[aZ]; omega) (by rw[aZ]; omega)
 rw[aS,aS] at ht
 refine aA ht rfl ?_
 have n1:=aFA (a:=val a) (b:=val b) (m:=512) Om Om
 have hl:=L.large (aG (val a+val b)) (aU _) (by rw[aZ]; omega)
 rw[aS] at hl
 simp only[go_sem,γ,aVR]
 refine aA hl rfl ?_
 unfold szV szL szE
 by_cases c3:nl (val a+val b)>512
 ·rw[if_pos c3,if_pos c3]
  simp only[go_sem,γ,c3,aVS]
  exact eF rfl
 ·rw[if_neg c3,if_neg c3]
  simp only[go_sem,γ,c3,aVT]
  exact aX (.inr rfl) .nil rfl PH.nil_le ⟨.refl _,rfl⟩
theorem bpT {C:Ctx} (L:aaB C) (a b:List Nat) (ha:Lim a) (hb:Lim b) (la:a.length≤35184372087808) (lb:b.length≤35184372087808) :
  QJ.wp C (aT aKO.res (bY (pH (val a) (val b)))) (PF.args [aF a,aF b]) .nil:=by
 unfold pH
 simp only[go_sem,reduceCtorEq,QJ,aXA,aXB,aKO]
 refine aA (L.large a ha la) rfl ?_
 by_cases c1:nl (val a)>512
 ·simp only[go_sem,γ,c1,anE]
  rw[if_pos (by simp[dR,c1])]
  exact eF rfl
 simp only[go_sem,γ,c1]
 refine aA (L.large b hb lb) rfl ?_
 by_cases c2:nl (val b)>512
 ·simp only[go_sem,γ,reduceCtorEq,c2,anE]
  rw[if_pos (by simp[dR,c2])]
  exact eF rfl
 rw[if_neg (by simp[dR,c1,c2])]
 simp only[go_sem,γ,reduceCtorEq,c2,aXC]
 refine aA (L.cmp a b ha hb la lb) rfl ?_
 by_cases c3:val a<val b
 ·have:dB (val a) (val b)=-1:=by simp[dB,c3]
  rw[if_pos c3]
  simp only[go_sem,ο,γ,this,show ((-1:Int)<0) by decide,aXD]
  exact eF rfl
 ·have:¬ dB (val a) (val b)<0:=by
   unfold dB
   rw[if_neg c3]
   split<;>decide
  rw[if_neg c3]
  have n1:=fA (Nat.sub_le (val a) (val b))
  have n2:=fA (Om:val b≤val a)
  simp only[go_sem,γ,reduceCtorEq,this,aXE]
  refine aA (L.trim a ha la) rfl ?_
  simp only[go_sem,γ]
  refine aA (L.trim b hb lb) rfl ?_
  simp only[go_sem]
  have ht:=L.minus (aG (val a)) (aG (val b)) (aU _) (aU _) (by rw[aS,aS]; omega) (by rw[aZ,aZ]; exact n2) (by rw[aZ]; omega)
  rw[aS,aS] at ht
  refine aA ht rfl ?_
  rw[xN Om]
  simp only[go_sem,γ]
  exact aX (.inr rfl) .nil rfl PH.nil_le ⟨.refl _,rfl⟩
def aJD (k:Nat) (v:Nat):PF:=((PF.nil.set 3 (.int .i64 k)).set 4 (.int .u32 v))
theorem biP {C:Ctx} (L:nF C) (xs:List Nat) (hx:Lim xs) (lx:xs.length≤35184372087808) :
  IN.wp C (aT agN.res (aD (.int .i64 (cC (val xs):Nat)))) (PF.args [aF xs]) .nil:=by
 simp only[go_sem,reduceCtorEq,IN,aJF,aJG,agN]
 refine aA (L.trim xs hx lx) rfl ?_
 have bx:=eU hx
 simp only[go_sem,γ,reduceCtorEq,aJH,bJT,aZ,zE]
 by_cases c1:nl (val xs)=0
 ·simp only[go_sem,decide_eq_true c1,aJI]
  refine aM (.inr rfl) rfl ?_
  have:val xs=0:=gJ.1 c1
  simp[aV,this,iV]
 obtain⟨n,hn⟩:∃ n,nl (val xs)=n+1:=⟨nl (val xs)-1,by omega⟩
 obtain⟨t,ht,ht0⟩:=aJB (xs:=aG (val xs)) (aU _) (by rw[aS]; exact hn)
 have htl:t<4294967296:=aU _ t (bMK ht)
 have hv:val xs=val ((aG (val xs)).take n)+4294967296 ^ n*t:=by
  have:=aS (val xs)
  have hnl:n<(aG (val xs)).length:=by rw[aZ]; omega
  have hg:(aG (val xs))[n]=t:=by rw[bKD hnl] at ht; exact bMN.inj ht
  conv=>lhs; rw[← this,← bKK (l:=aG (val xs)) (i:=n+1) (by rw[aZ]; omega)]
  rw[bW _ hnl,hg]
 have hb:cC (val xs)=32*n+cC t:=by
  have h3:=eN ((aU (val xs)).take n)
  rw[bKL,aZ,bLY Om] at h3
  have hk:=ayA (lo:=val ((aG (val xs)).take n)) (k:=32*n) (hi:=t) (by rw[Nat.pow_mul]; exact h3) ht0
  rw[← hk,Nat.pow_mul]
  exact congrArg cC hv
 have bIC:(aJ (aG (val xs)))[n]?=some [.int .u32 (t:Nat)]:=by
  simp[aJ,ht]
 have e1:IntKind.i64.wrap (((nl (val xs):Nat):Int)-1)=(n:Int):=by rw[wrap_i64 Om Om]; omega
 have e2:IntKind.i64.wrap (32*(n:Int))=((32*n:Nat):Int):=by rw[wrap_i64 Om Om]; omega
 simp only[go_sem,γ,reduceCtorEq,decide_eq_false c1,aJJ,aJK,bJT,aZ,e1,e2,bIC]
 refine wp_loop (α:=Nat × Nat) (fun a=>aJD a.1 a.2) (fun _=>.nil) (fun a=>a.1+cC a.2=32*n+cC t∧a.2<4294967296) (fun a=>a.2) (32*n,t) ⟨rfl,htl⟩ ?_ PH.nil_le ?_
 ·unfold aJD
  exact Lq
 rintro⟨k,v⟩ ⟨hk,hlt⟩
 simp only at hk hlt
 have hk32:cC t≤32:=(kG t 32).2 htl
 simp only[go_sem,γ,aJE,aJL,aJD]
 by_cases c2:(v:Int)>0
 ·have hv0:v≠0:=by omega
  have hsh:IntKind.u32.wrap (Int.tdiv (v:Int) 2)=((v/2:Nat):Int):=by
   rw[show Int.tdiv (v:Int) 2=((v/2:Nat):Int) from Int.ofNat_tdiv v 2,cA,bLE Om]
  simp only[go_sem,μ,γ,c2,aJM,aJN,hsh,wZz k]
  refine aH (k+1,v/2) ⟨?_,?_⟩ (Nat.div_lt_self Om (by decide)) ?_ PH.nil_le
  ·have:=mV hv0
   simp only; omega
  ·simp only; omega
  ·exact Lq
 ·have:v=0:=by omega
  subst this
  simp only[go_sem,γ,c2,asG]
  refine aM (.inr rfl) rfl ?_
  rw[iV] at hk
  simp only[aV,PV.int.injEq,true_and]
  omega
theorem arN (n:Nat):4294967296 ^ (n/32)*2 ^ (n%32)=2 ^ n:=by
 rw[show (4294967296:Nat)=2 ^ 32 by decide,← Nat.pow_mul,← Nat.pow_add]
 congr 1
 omega
theorem baE (n:Nat):IntKind.i64.wrap (Int.tdiv (n:Int) 32)=IntKind.i64.wrap ((n/32:Nat):Int):=by
 rw[show Int.tdiv (n:Int) 32=((n/32:Nat):Int) from Int.ofNat_tdiv n 32]
theorem baF (n:Nat):Int.tmod (n:Int) 32=((n%32:Nat):Int):=Int.ofNat_tmod n 32
def bjF (a:List Nat) (n:Nat) (v:PV) (c i:Nat):PF:=(((((PF.nil.set 0 (aF a)).set 1 (.int .i64 n)).set 5 (v)).set 6 (.int .u64 c)).set 7 (.int .i64 i))
theorem bsV {C:Ctx} (L:nF C) (a:List Nat) (n:Nat) (ha:Lim a) (h1:a.length≤8388608) (hn:n≤8388608) (h0:a.length=0→val a=0) :
  ZH.wp C (aT uup.res (kK 1 (aJ (aG (val a*2 ^ n))))) (PF.args [aF a,.int .i64 n]) .nil:=by
 simp only[go_sem,γ,reduceCtorEq,ZH,baR,baS,uup,bJT,zE]
 by_cases c0:a.length=0
 ·simp only[go_sem,decide_eq_true c0,baT]
  rw[h0 c0,Nat.zero_mul,eW]
  exact DO (.inr rfl) rfl
 have ez:IntKind.i64.wrap (Int.tdiv (n:Int) 32)=((n/32:Nat):Int):=by rw[baE,sH Om]
 have em:=baF n
 have eu:IntKind.u64.wrap ((n%32:Nat):Int)=((n%32:Nat):Int):=bF Om
 have hsp:=arN n
 have hs:n%32<32:=bLJ _ (by decide)
 have hz:n/32≤8388608:=by omega
 generalize hzz:n/32=z at *
 generalize hss:n%32=s at *
 have hm1:((z:Nat):Int)*((4:Nat):Int)≤140737488355328:=by omega
 have hm2:((z:Nat):Int)≤9223372036854775807:=by omega
 have hzr:bJW z [PV.int .u32 0]=aJ (bJW z 0):=by
  simp[aJ]
 have h2s:2 ^ s≤2147483648:=Nat.pow_le_pow_right (show 0<2 by decide) (Om:s≤31)
 have h2s0:0<2 ^ s:=bMM (by decide)
 simp only[go_sem,μ,γ,decide_eq_false c0,baU,ez,hm1,hm2,hzr]
 refine aR fun o ho=>?_
 simp only[go_sem,γ,baV,baW]
 refine wp_loop (α:=List Nat × Nat × Nat × PV × PH) (fun t=>bjF a n t.2.2.2.1 t.2.1 t.2.2.1) (fun t=>t.2.2.2.2)
  (fun t=>t.2.2.1≤a.length∧t.1.length=z+t.2.2.1∧Lim t.1∧t.2.1<2 ^ s∧val t.1+4294967296 ^ t.1.length*t.2.1=val (a.take t.2.2.1)*2 ^ n∧bL t.2.2.2.2 1 t.2.2.2.1 (aJ t.1)) (fun t=>a.length-t.2.2.1) (bJW z 0,0,0,.osl o 1 0 z,PH.nil.set o (.rows 1 (aJ (bJW z 0))))
  ⟨by simp,by simp,tH _,h2s0,by simp[val,qE],.inr ⟨o,aJ (bJW z 0),by rw[bT,bNI],by simp only[go_sem],by rw[bT]; exact bJV _,bKS⟩⟩ ?_ PH.le_refl ?_
 ·unfold bjF
  exact Lq
 rintro⟨P,c,i,v,H0⟩ ⟨hi,hP,bIM,hc,bII,hO⟩
 simp only at hi hP bIM hc bII hO ⊢
 simp only[go_sem,γ,reduceCtorEq,aXF,baX,bjF]
 by_cases c1:i<a.length
 ·have c1':(i:Int)<(a.length:Nat):=by omega
  have hai:=ha _ (bJX c1)
  have hta:=bW a c1
  have hax:=bK a c1
  generalize hx:a[i]=x at *
  have hxs:x*2 ^ s≤4294967295*2147483648:=Nat.mul_le_mul Om h2s
  have ex:IntKind.u64.wrap ((x:Nat):Int)=((x:Nat):Int):=bF Om
  have hxs':2 ^ s*x=x*2 ^ s:=bKT _ _
  have esh:shift .shl .u64 (x:Int) (s:Int)=some (.int .u64 ((2 ^ s*x:Nat):Int)):=ID Om Om
  have eor:=orI (a:=2 ^ s*x) (b:=c) (n:=c+2 ^ s*x) Om Om (by rw[Nat.or_comm]; exact aGB hc Om) Om
  have hdig:(c+2 ^ s*x)/4294967296<2 ^ s:=by
   rw[bMP (by decide)]
   have:2 ^ s*(x+1)≤2 ^ s*4294967296:=bLZ _ Om
   rw[bKG,Nat.mul_one] at this
   omega
  have hb1:(1:Nat)*1≤16777216:=by decide
  simp only[go_sem,μ,υ,γ,η,ζ,reduceCtorEq,c1',baY,hax,ex,em,eu,esh,eor,baZ,cA,hb1]
  refine fZ (src:=[[.int .u32 (((c+2 ^ s*x)%4294967296:Nat):Int)]]) hO rfl (nP Om) fun v' H' hO' _=>?_
  rw[nS] at hO'
  simp only[go_sem,γ,reduceCtorEq,bbA,uW,aXG,wZz i]
  refine aH (P++[(c+2 ^ s*x)%4294967296],(c+2 ^ s*x)/4294967296,i+1,v',H') ⟨by simp only; omega,by simp; omega,bIM.app fun y hy=>by simp at hy; subst hy; exact bLJ _ (by decide),hdig,?_,hO'⟩ (by simp only; omega) ?_ PH.le_refl
  ·simp only
   have hp:4294967296 ^ P.length*(2 ^ s*x)=4294967296 ^ i*x*2 ^ n:=by
    rw[hP,Nat.pow_add,← hsp]
    rw[bKP,Nat.mul_left_comm (4294967296 ^ i),← bKP (4294967296 ^ z),bKT (4294967296 ^ z*2 ^ s),bKP,bKT x]
   rw[iH,bKA,bKH,bLN,bKP,bMG,← bKG,Nat.mod_add_div,hta,bKG,bKY,← bMG,bII,hp]
  ·exact Lq
 ·have e:i=a.length:=by omega
  subst e
  have c1':¬ ((a.length:Nat):Int)<(a.length:Nat):=by omega
  have hb1:(1:Nat)*1≤16777216:=by decide
  have hV:val (P++[c])=val a*2 ^ n:=by
   rw[iH,bII,bKS]
  have hLc:Lim (P++[c]):=bIM.app fun x hx=>by simp at hx; omega
  have ec:IntKind.u32.wrap ((c:Nat):Int)=((c:Nat):Int):=by rw[cA,bLE Om]
  simp only[go_sem,υ,γ,η,ζ,reduceCtorEq,c1',aXH,ec,hb1]
  refine fZ (src:=[[.int .u32 ((c:Nat):Int)]]) hO rfl (nP Om) fun v' H' hO' _=>?_
  rw[nS] at hO'
  have hs:=L.trimM _ hLc (by simp; omega)
  rw[hV] at hs
  refine awG hs hO' rfl fun F1 H1 _ r H2 hr _=>?_
  simp only[go_sem]
  exact a9O (.inr rfl) hr rfl
def PX (a:List Nat) (n:Nat) (v:PV) (i:Nat):PF:=((((PF.nil.set 0 (aF a)).set 1 (.int .i64 n)).set 5 (v)).set 6 (.int .i64 i))
theorem biT {C:Ctx} (L:nF C) (a:List Nat) (n:Nat) (ha:Lim a) (h1:a.length≤8388608) (hn:n≤1000000000) :
  IS.wp C (aT agV.res (bY (aF (aG (val a/2 ^ n))))) (PF.args [aF a,.int .i64 n]) .nil:=by
 have ez:IntKind.i64.wrap (Int.tdiv (n:Int) 32)=((n/32:Nat):Int):=by rw[baE,sH Om]
 have em:=baF n
 have eu:IntKind.u64.wrap ((n%32:Nat):Int)=((n%32:Nat):Int):=bF Om
 have hsp:=arN n
 have hs:n%32<32:=bLJ _ (by decide)
 have hz:n/32≤1000000000:=by omega
 generalize hzz:n/32=z at *
 generalize hss:n%32=s at *
 simp only[go_sem,μ,γ,reduceCtorEq,IS,aJU,aJV,agV,bJT,ez]
 by_cases c0:a.length≤z
 ·have c0':((z:Nat):Int)≥(a.length:Nat):=by omega
  have hq:val a/2 ^ n=0:=by
   refine bNB (Nat.lt_of_lt_of_le (eN ha) ?_)
   rw[← hsp]
   exact bMQ (Nat.pow_le_pow_right (by decide) c0) (Nat.le_mul_of_pos_right _ (bMM (by decide)))
  simp only[go_sem,c0',aJW]
  rw[hq,eW]
  exact aX (vs:=[.aB]) (.inr rfl) .nil rfl PH.nil_le ⟨.nil 1,rfl⟩
 have c0':¬ ((z:Nat):Int)≥(a.length:Nat):=by omega
 have hR:val a/2 ^ n=val (a.drop z)/2 ^ s:=by
  rw[sG ha Om,← hsp,Nat.div_div_eq_div_mul]
 have hLd:Lim (a.drop z):=ha.drop z
 simp only[go_sem,μ,γ,c0',aJX,aJY,ez]
 refine wp_loop (α:=List Nat × PV × PH) (fun t=>PX a n t.2.1 (z+t.1.length)) (fun t=>t.2.2)
  (fun t=>z+t.1.length≤a.length∧t.1=dN t.1.length (val (a.drop z)/2 ^ s)∧bL t.2.2 1 t.2.1 (aJ t.1)) (fun t=>a.length-t.1.length) ([],.aB,.nil)
  ⟨by simp; omega,rfl,.nil⟩ ?_ PH.nil_le ?_
 ·unfold PX
  (repeat' (first|exact PF.nil_le|refine PF.aI ?_ ?_))<;>first|(simp only[go_sem,γ,reduceCtorEq,bMD]<;>rfl)|rfl
 rintro⟨P,v,H0⟩ ⟨hP,hD,hO⟩
 simp only at hP hD hO ⊢
 simp only[go_sem,γ,reduceCtorEq,asH,aJZ,PX]
 have hlimP:Lim P:=by rw[hD]; exact kT _ _
 by_cases c1:z+P.length<a.length
 ·have c1':((z+P.length:Nat):Int)<(a.length:Nat):=by omega
  have hai:=ha _ (bJX c1)
  have hax:=bK a c1
  have hkl:P.length≤(a.drop z).length:=by rw[bLV]; omega
  have hvd:=sG hLd hkl
  have hdrop:(a.drop z).drop P.length=a[z+P.length]::a.drop (z+P.length+1):=by
   rw[List.drop_drop,bLP c1]
  generalize hx:a[z+P.length]=x at *
  have ex:IntKind.u64.wrap ((x:Nat):Int)=((x:Nat):Int):=bF Om
  have hb1:(1:Nat)*1≤16777216:=by decide
  have ew:IntKind.i64.wrap (((z+P.length:Nat):Int)+1)=((z+P.length+1:Nat):Int):=dH Om
  have fin:∀ (t:Nat) (F:PF),t<18446744073709551616→val (a.drop z)/4294967296 ^ P.length%(4294967296*4294967296)=t→F 0=some (aF a)→F 1=some (.int .i64 n)→F 5=some v→F 6=some (.int .i64 (z+P.length:Nat))→F 7=some (.int .u64 t) →
    ∀ K:cN,(∀ v' F2 H2,(PX a n v' (z+(P.length+1))).le F2→bL H2 1 v' (aJ (P++[t/2 ^ s%4294967296]))→(P++[t/2 ^ s%4294967296])=dN (P.length+1) (val (a.drop z)/2 ^ s)→K .normal F2 H2) →
    aC.wp C (.region ZB) (dW 1 (iD C (aC.wp C (.region PY)) K)) F H0:=by
   intro t F ht hte f0 f1 f5 f6 f7 K hK
   have esh:shift .shr .u64 (t:Int) (s:Int)=some (.int .u64 ((t/2 ^ s:Nat):Int)):=bsT Om
   simp only[go_sem,μ,υ,γ,η,ζ,ZB,f5,f7,f1,em,eu,esh,cA,hb1]
   refine fZ (src:=[[.int .u32 ((t/2 ^ s%4294967296:Nat):Int)]]) hO rfl (nP Om) fun v' H' hO' _=>?_
   rw[nS] at hO'
   simp only[go_sem,γ,PY,f6,ew]
   refine hK v' _ H' ?_ hO' ?_
   ·unfold PX
    exact Lq
   ·rw[tC,← hD]
    congr 2
    have e:val (a.drop z)/4294967296 ^ P.length=t%4294967296+4294967296*(t/4294967296+4294967296*(val (a.drop z)/4294967296 ^ P.length/(4294967296*4294967296))):=by
     have:=Nat.mod_add_div (val (a.drop z)/4294967296 ^ P.length) (4294967296*4294967296)
     rw[hte] at this
     have h2:=Nat.mod_add_div t 4294967296
     rw[bKG,← bMG,h2,← bKP]
     exact this.symm
    have:=VI hs e
    rw[this]
    congr 2
    have h2:=Nat.mod_add_div t 4294967296
    omega
  simp only[aC.wp,go_sem] at fin
  simp only[go_sem,γ,reduceCtorEq,c1',aKA,hax,ex,aKB,ew]
  by_cases c2:z+P.length+1<a.length
  ·have c2':((z+P.length+1:Nat):Int)<(a.length:Nat):=by omega
   have hai2:=ha _ (bJX c2)
   have hax2:=bK a c2
   rw[bLP c2] at hdrop
   generalize hy:a[z+P.length+1]=y at *
   have ey:IntKind.u64.wrap ((y:Nat):Int)=((y:Nat):Int):=bF Om
   have esh:shift .shl .u64 (y:Int) ((32:Nat):Int)=some (.int .u64 ((2 ^ 32*y:Nat):Int)):=ID (by decide) Om
   have eor:=orI (a:=x) (b:=2 ^ 32*y) (n:=x+2 ^ 32*y) Om Om (aGB Om Om) Om
   simp only[go_sem,γ,reduceCtorEq,c2',aKC,ew,hax2,ey,show shift .shl .u64 (y:Int) 32=_ from esh,eor]
   refine fin (x+2 ^ 32*y) _ Om ?_ rfl rfl rfl rfl rfl _ ?_
   ·rw[← hvd,hdrop]
    simp only[val]
    omega
   ·intro v' F2 H2 e1 e2 e3
    refine aH (α:=List Nat × PV × PH) (P++[(x+2 ^ 32*y)/2 ^ s%4294967296],v',H2) ⟨by simp; omega,by simpa using e3,e2⟩ (by simp; omega) ?_ PH.le_refl
    simp only[bKA,bKH]
    exact e1
  ·have c2':¬ ((z+P.length+1:Nat):Int)<(a.length:Nat):=by omega
   rw[bNF (l:=a) (i:=z+P.length+1) Om] at hdrop
   simp only[go_sem,c2']
   refine fin x _ Om ?_ rfl rfl rfl rfl rfl _ ?_
   ·rw[← hvd,hdrop]
    simp only[val]
    omega
   ·intro v' F2 H2 e1 e2 e3
    refine aH (α:=List Nat × PV × PH) (P++[x/2 ^ s%4294967296],v',H2) ⟨by simp; omega,by simpa using e3,e2⟩ (by simp; omega) ?_ PH.le_refl
    simp only[bKA,bKH]
    exact e1
 ·have e:z+P.length=a.length:=by omega
  have c1':¬ ((z+P.length:Nat):Int)<(a.length:Nat):=by omega
  have hV:val P=val (a.drop z)/2 ^ s:=by
   rw[hD]
   refine mE (Nat.lt_of_le_of_lt (Nat.div_le_self _ _) ?_)
   have:=eN hLd
   rw[bLV] at this
   rw[show P.length=a.length-z by omega]
   exact this
  have hs:=L.trim _ hlimP Om
  rw[hV,← hR] at hs
  simp only[go_sem,γ,reduceCtorEq,c1',asI]
  refine rG hs hO rfl fun F1 H1 _=>?_
  simp only[go_sem]
  exact aX (.inr rfl) .nil rfl PH.nil_le ⟨.refl _,rfl⟩
structure LF (C:Ctx):Prop extends aaB C where
 bits:∀ xs,Lim xs→xs.length≤35184372087808→aE C 31 [aF xs] .nil (aD (.int .i64 (cC (val xs):Nat)))
 upM:∀ (a:List Nat) (n:Nat),Lim a→a.length≤8388608→n≤8388608→(a.length=0→val a=0)→aE C 45 [aF a,.int .i64 n] .nil (kK 1 (aJ (aG (val a*2 ^ n))))
 down:∀ (a:List Nat) (n:Nat),Lim a→a.length≤8388608→n≤1000000000→aE C 40 [aF a,.int .i64 n] .nil (aD (aF (aG (val a/2 ^ n))))
def udS:Spec:=fun name vs=>match name,vs with
 | 35,[.int _ v]=>some ([],fun _=>aD (aF (aG v.toNat)))
 | 44,[x,y]=>some ([],fun _=>aD (aF (aG (val (gW x)*val (gW y)))))
 | 32,[x,.osl q _ _ _]=>some ([q],fun H0 r H'=>H'=H0∧∀ xs,Lim xs→H0 q=some (.rows 1 (aJ xs))→r=.int .i64 (dB (val (gW x)) (val xs)))
 | _,_=>none
theorem biS (v:Nat):udS 35 [.int .u64 v]=some ([],fun _=>aD (aF (aG v))):=rfl
theorem baJ (x y:List Nat):udS 44 [aF x,aF y]=some ([],fun _=>aD (aF (aG (val x*val y)))):=by
 show some ([],fun _=>aD (aF (aG (val (gW (aF x))*val (gW (aF y))))))=_; rw[dX,dX]
theorem beH (q:Nat) (x L:List Nat):(PH.nil.set q (.rows 1 (aJ L)))=(PH.nil.set q (.rows 1 (aJ L)))∧∀ xs,Lim xs→(PH.nil.set q (.rows 1 (aJ L))) q=some (.rows 1 (aJ xs))→(PV.int .i64 (dB (val x) (val L)))=.int .i64 (dB (val (gW (aF x))) (val xs)):=by
 refine⟨rfl,fun xs hx e=>?_⟩
 rw[fN] at e
 have:aJ L=aJ xs:=(cP.rows.inj (bMN.inj e)).2
 rw[NU this,dX]
def duF (n o lx:Nat) (y:List Nat) (top oq lq:Nat) (k:Int):PF :=
 ((((((PF.nil.set 10 (.int .i64 n)).set 11 (.osl o 1 0 lx)).set 12 (aF y)).set 13 (.int .u64 top)).set 14 (.osl oq 1 0 lq)).set 15 (.int .i64 k))
abbrev dS (X:List Nat) (Z:List (List PV)):List (List PV):=aJ X++Z
theorem JT {X:List Nat} {Z:List (List PV)} {i:Nat} (h:i<X.length):(dS X Z)[i]?=some [.int .u32 ((X[i]:Nat):Int)]:=by
 rw[dS,bMH (by rw[bT]; exact h),bK X h]
theorem avC {X:List Nat} {Z:List (List PV)} {i:Nat} (h:i<X.length) (v:Nat):(dS X Z).set i [.int .u32 (v:Int)]=dS (X.set i v) Z:=by
 rw[dS,List.set_append_left _ _ (by rw[bT]; exact h),eV]
theorem avB {X:List Nat} {Z:List (List PV)} {j m:Nat} (h:j+m≤X.length):((dS X Z).drop j).take m=aJ ((X.drop j).take m):=by
 rw[dS,List.drop_append_of_le_length (by rw[bT]; omega),List.take_append_of_le_length (by rw[bLV,bT]; omega)]
 unfold aJ
 rw[← List.map_drop,← List.map_take]
theorem bsU {C:Ctx} (L:LF C) (n o lx:Nat) (y:List Nat) (top oq lq j:Nat) (X:List Nat) (Z:List (List PV)) (hne:oq≠o) (hy:Lim y) (hX:Lim X) (hlx:X.length=lx) (hl:lx≤5000) (hj:j+(y.length+1)≤lx) (hy0:0<val y)
  (qv:cP) (g0:Nat) (hg:val ((X.drop j).take (y.length+1))/val y≤g0) (hg0:g0<4294967296) (K:cN) (F:PF) (H:PH) (hF:((duF n o lx y top oq lq j).set 17 (.int .u64 g0)).le F) (hH:((PH.nil.set o (.rows 1 (dS X Z))).set oq qv).le H)
  (hK:∀ F' H',((duF n o lx y top oq lq j).set 17 (.int .u64 (val ((X.drop j).take (y.length+1))/val y:Nat))).le F'→((PH.nil.set o (.rows 1 (dS X Z))).set oq qv).le H'→K .normal F' H') :
  aC.wp C (.block 4 (.loop sS)) K F H:=by
 have bIU:¬ o=oq:=fun h=>hne h.symm
 have hWl:((X.drop j).take (y.length+1)).length=y.length+1:=by rw[bKL,bLV]; omega
 have hWL:Lim ((X.drop j).take (y.length+1)):=(hX.drop _).take _
 have hcut:=avB (X:=X) (Z:=Z) (j:=j) (m:=y.length+1) Om
 have bJP:j+(y.length+1)≤(dS X Z).length:=by rw[dS,bKA,bT]; omega
 have hWn:aJ ((X.drop j).take (y.length+1))≠[]:=fun h=>by
  have:=congrArg List.length h
  rw[bT,hWl] at this
  simp at this
 generalize hW:(X.drop j).take (y.length+1)=W at *
 generalize hqq:val W/val y=qq at *
 simp only[go_sem]
 refine wp_loop (α:=Nat) (fun g=>(duF n o lx y top oq lq j).set 17 (.int .u64 g)) (fun _=>(PH.nil.set o (.rows 1 (dS X Z))).set oq qv) (fun g=>qq≤g∧g<4294967296) (fun g=>g) g0 ⟨hg,hg0⟩ hF hH ?_
 rintro g ⟨hge,hlt⟩
 have e1:IntKind.i64.wrap ((j:Int)+((y.length:Nat):Int))=((j+y.length:Nat):Int):=fQ Om
 have e2:IntKind.i64.wrap (((j+y.length:Nat):Int)+1)=((j+y.length+1:Nat):Int):=dH Om
 have b1:(j:Int)≤((j+y.length+1:Nat):Int):=by omega
 have b2:((j+y.length+1:Nat):Int)≤(lx:Nat):=by omega
 have b3:j+y.length+1-j=y.length+1:=by omega
 have mk:=L.make g Om
 have tm:=L.times y (aG g) hy (aU _) Om (by
  have h1:nl g≤1:=lP (by rw[Nat.pow_one]; exact hlt)
  rw[aZ]; omega)
 rw[aS] at tm
 have hnt:(aG (val y*g)).length≤35184372087808:=by
  have h1:nl g≤1:=lP (by rw[Nat.pow_one]; exact hlt)
  have h2:=kC (a:=val y) (b:=g) (eU hy) h1
  rw[aZ]; omega
 have cm:=L.cmp (aG (val y*g)) W (aU _) hWL hnt Om
 rw[aS] at cm
 simp only[go_sem,sS]
 refine bR .nil udS PH.nil_le ?_
 simp only[go_sem,γ,VU,duF]
 refine bJ (biS g) mk Sq PH.nil_le ?_
 simp only[go_sem]
 have tS:=baJ y (aG g)
 rw[aS] at tS
 refine bJ tS tm Sq PH.nil_le ?_
 simp only[go_sem,γ,reduceCtorEq,bJT,e1,e2,b1,b2,b3]
 refine xY (src:=aJ W) ?_ ?_ (fun h=>absurd h hWn) fun _ o' ho'=>?_
 ·simp only[go_sem,bIU,bJP,hcut]
 ·unfold roomFor
  rw[bT,hWl]
  simp only[maxLen]; omega
 refine⟨PH.nil_le,?_⟩
 rw[bT,hWl]
 have n1:¬ o'=oq:=(cW.1 ho').1
 refine beI (o:=o') (s:=1) (rs:=aJ W) (vs:=[aF (aG (val y*g)),.osl o' 1 0 (y.length+1)]) (v:=.int .i64 (dB (val y*g) (val W))) rfl (.int _ _) Sq ?_ ?_ ?_ Sq PH.nil_le ?_
 ·rw[bLX,bLX,List.map_nil,nJ (by rw[bT,hWl]; exact bJV _),bKK (by rw[bT,hWl]; exact bJV _)]
  exact cm
 ·have:=beH o' (aG (val y*g)) W
  rw[aS] at this
  exact this
 ·rintro r H' ⟨h1,h2⟩
  have:=h2 W hWL (by rw[fN])
  rw[dX,aS] at this
  exact⟨this,h1⟩
 simp only[go_sem,γ]
 by_cases c:val W<val y*g
 ·have hc:dB (val y*g) (val W)=1:=by
   unfold dB
   rw[if_neg Om,if_pos c]
  have hq:qq<g:=by rw[← hqq]; exact (bMP hy0).2 (by rw[bKT]; exact c)
  have ew:IntKind.u64.wrap ((g:Int)-1)=((g-1:Nat):Int):=by rw[wrap_u64 Om Om]; omega
  simp only[go_sem,γ,hc,show (1:Int)>0 by decide,VV,ew]
  refine aH (g-1) ⟨by omega,by omega⟩ Om ?_ ?_
  ·exact Lq
  ·refine PH.aI (PH.aI PH.nil_le ?_) ?_
   ·have n2:¬ o=o':=fun h=>by
     subst h
     rw[bS,if_neg bIU,fN] at ho'
     cases ho'
    simp only[go_sem,n2,bIU]
   ·have n3:¬ oq=o':=fun h=>n1 h.symm
    simp only[go_sem,n3]
 ·have hc:¬ dB (val y*g) (val W)>0:=by
   unfold dB
   rw[if_neg c]
   split<;>decide
  have hq:g=qq:=by
   have:g≤qq:=by rw[← hqq]; exact (Nat.le_div_iff_mul_le hy0).2 (by rw[bKT]; omega)
   omega
  simp only[go_sem,hc]
  refine hK _ _ ?_ ?_
  ·unfold duF
   (repeat' (first|exact PF.nil_le|refine PF.aI ?_ ?_))<;>first|(simp only[go_sem,γ,← hq]<;>rfl)|rfl
  ·refine PH.aI (PH.aI PH.nil_le ?_) ?_
   ·have n2:¬ o=o':=fun h=>by
     subst h
     rw[bS,if_neg bIU,fN] at ho'
     cases ho'
    simp only[go_sem,n2,bIU]
   ·have n3:¬ oq=o':=fun h=>n1 h.symm
    simp only[go_sem,n3]
theorem bnM (R k:Nat) (h:k<nl R):∃ h':k<(aG R).length,(aG R)[k]=R/4294967296 ^ k%4294967296:=by
 have hl:k<(aG R).length:=by rw[aZ]; exact h
 refine⟨hl,?_⟩
 have h1:=sG (aU R) (Nat.le_of_lt hl)
 rw[aS,bLP hl] at h1
 have h2:=aU R _ (bJX hl)
 simp only[val] at h1
 rw[← h1,Nat.add_mul_mod_self_left,bLE h2]
theorem bgH (R k:Nat) (h:nl R≤k):R/4294967296 ^ k%4294967296=0:=by
 rw[bNB ((gT R k).1 h)]
theorem boZ {A P W Z:List Nat} {i:Nat} (hP:P.length=i) (hi:i<W.length) (v:Nat):(A++(P++W.drop i)++Z).set (A.length+i) v=A++((P++[v])++W.drop (i+1))++Z :=
 NU (by rw[← eV]; exact DQ hP hi v)
theorem bwA {C:Ctx} (n o lx:Nat) (y:List Nat) (top oq lq j:Nat) (X:List Nat) (Z:List (List PV)) (hne:oq≠o) (hlx:X.length=lx) (hl:lx≤5000) (hj:j+(y.length+1)≤lx)
  (qv:cP) (g R:Nat) (K:cN) (F:PF) (H:PH) (hF:((((duF n o lx y top oq lq j).set 17 (.int .u64 g)).set 18 (aF (aG R))).set 19 (.int .i64 0)).le F) (hH:((PH.nil.set o (.rows 1 (dS X Z))).set oq qv).le H)
  (hK:∀ F' H',((duF n o lx y top oq lq j).set 17 (.int .u64 g)).le F'→((PH.nil.set o (.rows 1 (dS (X.take j++dN (y.length+1) R++X.drop (j+(y.length+1))) Z))).set oq qv).le H'→K .normal F' H') :
  aC.wp C (.block 6 (.loop sT)) K F H:=by
 have bIU:¬ o=oq:=fun h=>hne h.symm
 have hA:(X.take j).length=j:=by rw[bKL]; omega
 have hWl:((X.drop j).take (y.length+1)).length=y.length+1:=by rw[bKL,bLV]; omega
 have hZl:(X.drop (j+(y.length+1))).length=lx-(j+(y.length+1)):=by rw[bLV,hlx]
 have hsplit:X.take j++(X.drop j).take (y.length+1)++X.drop (j+(y.length+1))=X:=by
  rw[bKU,← List.drop_drop,bMF,bMF]
 rw[← hsplit] at hH
 generalize hAA:X.take j=A at *
 generalize hWW:(X.drop j).take (y.length+1)=W at *
 generalize hZZ:X.drop (j+(y.length+1))=Zx at *
 simp only[go_sem]
 refine wp_loop (α:=List Nat) (fun P=>(((duF n o lx y top oq lq j).set 17 (.int .u64 g)).set 18 (aF (aG R))).set 19 (.int .i64 P.length)) (fun P=>(PH.nil.set o (.rows 1 (dS (A++(P++W.drop P.length)++Zx) Z))).set oq qv)
  (fun P=>P.length≤y.length+1∧P=dN P.length R) (fun P=>y.length+1-P.length) [] ⟨bKF _,rfl⟩ hF (by simpa using hH) ?_
 rintro P ⟨hP,hD⟩
 simp only[go_sem,γ,sT,VW,duF]
 by_cases c:P.length<y.length+1
 ·have c':(P.length:Int)≤(y.length:Nat):=by omega
  have ei:IntKind.i64.wrap ((j:Int)+(P.length:Int))=((j+P.length:Nat):Int):=fQ Om
  have hlen:(A++(P++W.drop P.length)++Zx).length=lx:=by
   simp only[bKA,bLV]; omega
  have hi:j+P.length<(A++(P++W.drop P.length)++Zx).length:=by omega
  have b1:((j+P.length:Nat):Int)<(lx:Nat):=by omega
  have r1:=JT (Z:=Z) hi
  have s1:=avC (Z:=Z) hi 0
  have hi2:j+P.length<((A++(P++W.drop P.length)++Zx).set (j+P.length) 0).length:=by rw[bLQ]; exact hi
  have hput:=fun v=>boZ (A:=A) (P:=P) (W:=W) (Z:=Zx) (i:=P.length) rfl Om v
  rw[hA] at hput
  generalize hXX:A++(P++W.drop P.length)++Zx=XX at *
  have r2:(dS (A++((P++[0])++W.drop (P.length+1))++Zx) Z)[j+P.length]?=some [.int .u32 ((0:Nat):Int)]:=by
   rw[← hput 0,JT hi2,List.getElem_set_self]
  have s2:∀ v,(dS (A++((P++[0])++W.drop (P.length+1))++Zx) Z).set (j+P.length) [.int .u32 ((v:Nat):Int)]=dS (A++((P++[v])++W.drop (P.length+1))++Zx) Z:=by
   intro v
   rw[← hput 0,avC hi2,List.set_set,hput]
  have bIR:=tC P.length R
  rw[← hD] at bIR
  have ew:IntKind.i64.wrap ((P.length:Int)+1)=((P.length+1:Nat):Int):=dH Om
  simp only[go_sem,γ,c',VX,ei,b1,bIU,r1,show ([PV.int .u32 (0:Int)])=[PV.int .u32 ((0:Nat):Int)] from rfl,s1,VY,aZ]
  by_cases c2:P.length<nl R
  ·have c2':(P.length:Int)<(nl R:Nat):=by omega
   obtain⟨hl',hv⟩:=bnM R P.length c2
   have hr:=bK (aG R) hl'
   rw[hv] at hr
   simp only[go_sem,γ,c2',VZ,hr,ei,b1,bIU,r2,s2,List.set_set,hput,BO,ew]
   refine aH (P++[R/4294967296 ^ P.length%4294967296]) ⟨by simp; omega,by rw[bKA,bKH]; exact bIR.symm⟩ (by simp; omega) ?_ ?_
   ·rw[bKA,bKH]
    exact Lq
   ·rw[bKA,bKH]
    refine PH.aI (PH.aI PH.nil_le ?_) ?_<;>simp only[go_sem,bIU,show ¬ oq=o from hne]
  ·have c2':¬ (P.length:Int)<(nl R:Nat):=by omega
   have hv:=bgH R P.length Om
   rw[hv] at bIR
   simp only[go_sem,γ,c2',hput,BO,ew]
   refine aH (P++[0]) ⟨by simp; omega,by rw[bKA,bKH]; exact bIR.symm⟩ (by simp; omega) ?_ ?_
   ·rw[bKA,bKH]
    exact Lq
   ·rw[bKA,bKH]
    refine PH.aI (PH.aI PH.nil_le ?_) ?_<;>simp only[go_sem,bIU,show ¬ oq=o from hne]
 ·have c':¬ (P.length:Int)≤(y.length:Nat):=by omega
  have e:P.length=y.length+1:=by omega
  simp only[go_sem,c']
  refine hK _ _ (by unfold duF; exact Lq) ?_
  have h2:A++dN (y.length+1) R++Zx=A++(P++W.drop P.length)++Zx:=by
   rw[bNF Om,bLM,← e,← hD]
  rw[h2]
  exact PH.le_refl
theorem bfT {y W:List Nat} {m:Nat} (hy:Lim y) (hW:Lim W) (hly:y.length=m+1) (hlW:W.length=m+2) (ht:0<y[m]):val W/val y≤(4294967296*W[m+1]+W[m])/y[m]:=by
 have h1:=bW y (Om:m<y.length)
 rw[bKK Om] at h1
 have h2:=bW W (Om:m+1<W.length)
 rw[bKK Om,bW W (Om:m<W.length)] at h2
 have h3:=eN (hW.take m)
 rw[bKL,bLY Om] at h3
 have hp:0<4294967296 ^ m:=bMM (by decide)
 have hb:4294967296 ^ m*y[m]≤val y:=by omega
 have hpos:0<4294967296 ^ m*y[m]:=Nat.mul_pos hp ht
 have e:val W=val (W.take m)+4294967296 ^ m*(4294967296*W[m+1]+W[m]):=by
  rw[h2,bLN,bKG,bKP]; omega
 refine bMQ (Nat.div_le_div_left hb hpos) ?_
 rw[← Nat.div_div_eq_div_mul,e,Nat.add_mul_div_left _ _ hp,bNB h3,bKN]
 exact bJV _
theorem baK {C:Ctx} (L:LF C) (U0 n o lx lq oq m:Nat) (y z:List Nat) (hne:oq≠o) (hy:Lim y) (hly:y.length=m+1) (ht:0<y[m]) (hlu:lx=lq+(m+1)) (bJK:lx≤5000) (X:List Nat) (hI:mR U0 (val y) (m+1) lx lq lq X (bJW lq 0)) (K:cN) (F:PF) (H:PH)
  (hF:(duF n o lx y (y[m]) oq lq ((lq:Int)-1)).le F) (hH:((PH.nil.set o (.rows 1 (dS X (aJ z)))).set oq (.rows 1 (aJ (bJW lq 0)))).le H)
  (hK:∀ X' Q' F' H',mR U0 (val y) (m+1) lx lq 0 X' Q'→(duF n o lx y (y[m]) oq lq (-1)).le F'→((PH.nil.set o (.rows 1 (dS X' (aJ z)))).set oq (.rows 1 (aJ Q'))).le H'→K .normal F' H') :
  aC.wp C (.block 2 (.loop sU)) K F H:=by
 have bIU:¬ o=oq:=fun h=>hne h.symm
 have hne2:¬ oq=o:=hne
 have hV:val y<4294967296 ^ (m+1):=by have:=eN hy; rw[hly] at this; exact this
 have hV0:0<val y:=by
  have h1:=bW y (Om:m<y.length)
  rw[bKK Om] at h1
  have:0<4294967296 ^ m*y[m]:=Nat.mul_pos (bMM (by decide)) ht
  omega
 have htl:=hy _ (bJX (Om:m<y.length))
 generalize htop:y[m]=top at *
 simp only[go_sem]
 refine wp_loop (α:=Nat × List Nat × List Nat) (fun t=>duF n o lx y top oq lq ((t.1:Int)-1)) (fun t=>(PH.nil.set o (.rows 1 (dS t.2.1 (aJ z)))).set oq (.rows 1 (aJ t.2.2)))
  (fun t=>t.1≤lq∧mR U0 (val y) (m+1) lx lq t.1 t.2.1 t.2.2) (fun t=>t.1) (lq,X,bJW lq 0) ⟨bJV _,hI⟩ hF hH ?_
 rintro⟨k,X,Q⟩ ⟨hk,hI⟩
 simp only at hk hI
 simp only[go_sem,γ,sU,VP,duF]
 by_cases h0:0<k
 ·obtain⟨j,rfl⟩:∃ j,k=j+1:=⟨k-1,by omega⟩
  have hz:((j+1:Nat):Int)-1=(j:Int):=by omega
  have hge:(j:Int)≥0:=by omega
  have dst:=ayN hI hV Om hlu
  rw[show m+1+1=m+2 from rfl] at dst
  obtain⟨hlt,hI'⟩:=dst
  have hXl:=hI.lu'
  have hQl:=hI.lq'
  have hWl:((X.drop j).take (m+2)).length=m+2:=by rw[bKL,bLV]; omega
  have hWL:Lim ((X.drop j).take (m+2)):=(hI.limU.drop _).take _
  have hg1:m+1<((X.drop j).take (m+2)).length:=by omega
  have hg0:m<((X.drop j).take (m+2)).length:=by omega
  have a1:j+(m+1)<X.length:=by omega
  have a0:j+m<X.length:=by omega
  have w1:((X.drop j).take (m+2))[m+1]=X[j+(m+1)]:=by simp
  have w0:((X.drop j).take (m+2))[m]=X[j+m]:=by simp
  have hgu:=bfT hy hWL hly hWl (by rw[htop]; exact ht)
  rw[w1,w0,htop] at hgu
  have r1:=JT (Z:=aJ z) a1
  have r0:=JT (Z:=aJ z) a0
  have l1:=hI.limU _ (bJX a1)
  have l0:=hI.limU _ (bJX a0)
  generalize hx1:X[j+(m+1)]=x1 at *
  generalize hx0:X[j+m]=x0 at *
  have e1:IntKind.i64.wrap ((j:Int)+((y.length:Nat):Int))=((j+(m+1):Nat):Int):=by rw[hly]; exact fQ Om
  have e0:IntKind.i64.wrap (((j+(m+1):Nat):Int)-1)=((j+m:Nat):Int):=by rw[wrap_i64 Om Om]; omega
  have b1:((j+(m+1):Nat):Int)<(lx:Nat):=by omega
  have b0:((j+m:Nat):Int)<(lx:Nat):=by omega
  have ex1:IntKind.u64.wrap ((x1:Nat):Int)=((x1:Nat):Int):=bF Om
  have ex0:IntKind.u64.wrap ((x0:Nat):Int)=((x0:Nat):Int):=bF Om
  have esh:shift .shl .u64 (x1:Int) 32=some (.int .u64 ((2 ^ 32*x1:Nat):Int)):=ID (s:=32) Om Om
  have e32:(2:Nat) ^ 32=4294967296:=by decide
  have eor:=orI (a:=2 ^ 32*x1) (b:=x0) (n:=2 ^ 32*x1+x0) Om Om (Nat.two_pow_add_eq_or_of_lt Om x1).symm Om
  rw[e32] at esh eor
  have hdd:¬ ((top:Nat):Int)=0:=by omega
  have hq64:(4294967296*x1+x0)/top<18446744073709551616:=Nat.lt_of_le_of_lt (Nat.div_le_self _ _) Om
  have equo:IntKind.u64.wrap (Int.tdiv ((4294967296*x1+x0:Nat):Int) ((top:Nat):Int))=(((4294967296*x1+x0)/top:Nat):Int):=by
   rw[show Int.tdiv ((4294967296*x1+x0:Nat):Int) ((top:Nat):Int)=(((4294967296*x1+x0)/top:Nat):Int) from rfl]
   exact bF hq64
  have hqB:val ((X.drop j).take (m+2))/val y<4294967296:=(bMP hV0).2 (by rw[bKT]; exact hlt)
  have hcut:=avB (X:=X) (Z:=aJ z) (j:=j) (m:=m+2) Om
  have bJP:j+(m+2)≤(dS X (aJ z)).length:=by rw[dS,bKA,bT]; omega
  have hrest:val ((X.drop j).take (m+2))-val y*(val ((X.drop j).take (m+2))/val y)=val ((X.drop j).take (m+2))%val y:=by
   have:=bNA (val ((X.drop j).take (m+2))) (val y)
   omega
  have hmulle:val y*(val ((X.drop j).take (m+2))/val y)≤val ((X.drop j).take (m+2)):=Nat.mul_div_le _ _
  clear w1 w0
  have gu:=fun g0=>bsU (C:=C) L n o lx y top oq lq j X (aJ z) hne hy hI.limU hXl bJK Om hV0 (.rows 1 (aJ Q)) g0
  rw[hly,show m+1+1=m+2 from rfl] at gu
  generalize hW:(X.drop j).take (m+2)=W at *
  generalize hqq:val W/val y=qq at *
  have hWn:aJ W≠[]:=fun h=>by
   have:=congrArg List.length h
   rw[bT,hWl] at this
   simp at this
  have tail:∀ (g0:Nat) (F:PF) (H:PH),qq≤g0→g0<4294967296→((duF n o lx y top oq lq j).set 17 (.int .u64 g0)).le F→((PH.nil.set o (.rows 1 (dS X (aJ z)))).set oq (.rows 1 (aJ Q))).le H →
    aC.wp C (.seq (.block 4 (.loop sS)) (.seq (.region BM) (.seq (.seq (.region BN) (.block 6 (.loop sT))) (.region BP)))) (dW 3 (iD C (aC.wp C (.region BQ)) (eE (fun (t:Nat × List Nat × List Nat)=>duF n o lx y top oq lq ((t.1:Int)-1)) (fun t=>(PH.nil.set o (.rows 1 (dS t.2.1 (aJ z)))).set oq (.rows 1 (aJ t.2.2))) (fun t=>t.1≤lq∧mR U0 (val y) (m+1) lx lq t.1 t.2.1 t.2.2) (fun t=>t.1) (j+1) (dW 2 K)))) F H:=by
   intro g0 F H hg hgB hF hH
   have gu:=gu g0 hg hgB
   simp only[go_sem] at gu
   simp only[go_sem]
   refine gu _ F H hF hH ?_
   intro F1 H1 hF1 hH1
   have f11:F1 11=some (.osl o 1 0 lx):=hF1 11 _ (by unfold duF; simp only[go_sem,γ])
   have f12:F1 12=some (aF y):=hF1 12 _ (by unfold duF; simp only[go_sem,γ])
   have f15:F1 15=some (.int .i64 j):=hF1 15 _ (by unfold duF; simp only[go_sem,γ])
   have f17:F1 17=some (.int .u64 (qq:Nat)):=hF1 17 _ (by unfold duF; simp only[go_sem,γ])
   have f10:F1 10=some (.int .i64 n):=hF1 10 _ (by unfold duF; simp only[go_sem,γ])
   have f13:F1 13=some (.int .u64 top):=hF1 13 _ (by unfold duF; simp only[go_sem,γ])
   have f14:F1 14=some (.osl oq 1 0 lq):=hF1 14 _ (by unfold duF; simp only[go_sem,γ])
   have ho:H1 o=some (.rows 1 (dS X (aJ z))):=hH1 o _ (by simp only[go_sem,bIU])
   have hoq:H1 oq=some (.rows 1 (aJ Q)):=hH1 oq _ Sq
   have b3:(j:Int)≤((j+(m+1)+1:Nat):Int):=by omega
   have b4:((j+(m+1)+1:Nat):Int)≤(lx:Nat):=by omega
   have b5:j+(m+1)+1-j=m+2:=by omega
   have e2:IntKind.i64.wrap (((j+(m+1):Nat):Int)+1)=((j+(m+1)+1:Nat):Int):=dH Om
   simp only[go_sem,γ,reduceCtorEq,BM,f11,f15,f12,bJT,e1,e2,b3,b4,b5]
   refine xY (src:=aJ W) ?_ ?_ (fun h=>absurd h hWn) fun _ o' ho'=>?_
   ·simp only[go_sem,ho,bJP,hcut]
   ·unfold roomFor
    rw[bT,hWl]
    simp only[maxLen]; omega
   rw[bT,hWl]
   have n1:¬ oq=o':=fun h=>by subst h; rw[hoq] at ho'; cases ho'
   have n2:¬ o=o':=fun h=>by subst h; rw[ho] at ho'; cases ho'
   have nq:nl qq≤1:=lP (by rw[Nat.pow_one]; exact hqB)
   have tm:=L.times y (aG qq) hy (aU _) Om (by rw[aZ]; omega)
   rw[aS] at tm
   have nW:=eU hWL
   have mn:=L.minus W (aG (val y*qq)) hWL (aU _) (by rw[aS]; exact hmulle) (by rw[aZ]; exact bMQ (fA hmulle) nW) Om
   rw[aS,hrest] at mn
   have hWt:(aJ W).take (m+2)=aJ W:=bKK (by rw[bT]; omega)
   simp only[go_sem,f17]
   refine aA (L.make qq Om) Sq ?_
   simp only[go_sem,f12]
   refine aA tm Sq ?_
   simp only[go_sem]
   refine oU (o:=o') (s:=1) (rs:=aJ W) mn Sq (by simp only[go_sem,γ,show m+2≤W.length by omega,hWt]) ?_
   simp only[go_sem,γ,BN]
   have hfx:(dS X (aJ z)).map (fun r=>r.map (PV.dC o' 1 (aJ W)))=dS X (aJ z):=by
    have:dS X (aJ z)=aJ (X++z):=by simp[dS,aJ]
    rw[this]; exact pO _ _ _ _
   have hfq:(aJ Q).map (fun r=>r.map (PV.dC o' 1 (aJ W)))=aJ Q:=pO _ _ _ _
   have ur:=bwA (C:=C) n o lx y top oq lq j X (aJ z) hne hXl bJK Om (.rows 1 (aJ Q)) qq (val W%val y)
   rw[hly,show m+1+1=m+2 from rfl] at ur
   simp only[go_sem] at ur
   refine ur _ _ _ ?_ ?_ ?_
   ·unfold duF
    (repeat' (first|exact PF.nil_le|refine PF.aI ?_ ?_))<;>first|(simp only[go_sem,γ,f10,f11,f12,f13,f14,f15,f17,n1,n2]<;>rfl)|rfl
   ·refine PH.aI (PH.aI PH.nil_le ?_) ?_
    ·simp only[go_sem,bIU,n2,ho,cP.frz,hfx]
    ·simp only[go_sem,n1,hoq,cP.frz,hfq]
   intro F3 H3 hF3 hH3
   have k10:F3 10=some (.int .i64 n):=hF3 10 _ (by unfold duF; simp only[go_sem,γ])
   have k11:F3 11=some (.osl o 1 0 lx):=hF3 11 _ (by unfold duF; simp only[go_sem,γ])
   have k12:F3 12=some (aF y):=hF3 12 _ (by unfold duF; simp only[go_sem,γ])
   have k13:F3 13=some (.int .u64 top):=hF3 13 _ (by unfold duF; simp only[go_sem,γ])
   have k14:F3 14=some (.osl oq 1 0 lq):=hF3 14 _ (by unfold duF; simp only[go_sem,γ])
   have k15:F3 15=some (.int .i64 j):=hF3 15 _ (by unfold duF; simp only[go_sem,γ])
   have k17:F3 17=some (.int .u64 qq):=hF3 17 _ (by unfold duF; simp only[go_sem,γ])
   have ho3:H3 o=some (.rows 1 (dS (X.take j++dN (m+2) (val W%val y)++X.drop (j+(m+2))) (aJ z))):=hH3 o _ (by simp only[go_sem,bIU])
   have hq3:H3 oq=some (.rows 1 (aJ Q)):=hH3 oq _ Sq
   have hjq:j<Q.length:=by omega
   have rq:=bK Q hjq
   have hjl:(j:Int)<(lq:Nat):=by omega
   have sq:=eV Q j qq
   have ec:IntKind.u32.wrap ((qq:Nat):Int)=((qq:Nat):Int):=by rw[cA,bLE hqB]
   have ej:IntKind.i64.wrap ((j:Int)-1)=(j:Int)-1:=wrap_i64 Om Om
   simp only[go_sem,γ,BP,k14,k15,k17,hjl,hq3,rq,ec,sq,BQ,ej]
   refine aH (α:=Nat × List Nat × List Nat) (j,_,_) ⟨by simp only; omega,hI'⟩ (by simp only; omega) ?_ ?_
   ·unfold duF
    (repeat' (first|exact PF.nil_le|refine PF.aI ?_ ?_))<;>first|(simp only[go_sem,γ,k10,k11,k12,k13,k14]<;>rfl)|rfl
   ·refine PH.aI (PH.aI PH.nil_le ?_) ?_
    ·simp only[go_sem,bIU,ho3]
    ·simp only[go_sem]
  simp only[aC.wp,go_sem] at tail
  simp only[go_sem,hz,hge]
  refine bR .nil eG PH.nil_le ?_
  simp only[go_sem,γ,reduceCtorEq,VQ,e1,e0,b1,b0,bIU,r1,r0,ex1,ex0,esh,eor,VR,hdd,equo,VS]
  by_cases c:(4294967296*x1+x0)/top>4294967295
  ·have c':(((4294967296*x1+x0)/top:Nat):Int)>4294967295:=by omega
   simp only[go_sem,c',VT]
   exact tail 4294967295 _ _ Om (by decide) (by unfold duF; exact Lq) PH.le_refl
  ·have c':¬ (((4294967296*x1+x0)/top:Nat):Int)>4294967295:=by omega
   simp only[go_sem,c']
   exact tail _ _ _ hgu Om (by unfold duF; exact Lq) PH.le_refl
 ·have:k=0:=by omega
  subst this
  have hz:¬ ((0:Nat):Int)-1≥0:=by decide
  simp only[go_sem,hz]
  refine hK X Q _ _ hI ?_ PH.le_refl
  unfold duF
  (repeat' (first|exact PF.nil_le|refine PF.aI ?_ ?_))<;>first|(simp only[go_sem,ο,γ,show ((0:Nat):Int)-1=-1 from rfl]<;>rfl)|rfl
def biR (a:List Nat) (d q k r:Nat):PF:=(((((PF.nil.set 0 (aF a)).set 1 (aF [d])).set 6 (.osl q 1 0 a.length)).set 7 (.int .u64 r)).set 8 (.int .i64 ((k:Int)-1)))
theorem a3G {C:Ctx} (L:LF C) (a:List Nat) (d:Nat) (ha:Lim a) (hd0:0<d) (hd:d<4294967296) (h1:a.length≤1000) (F:PF) (f0:F 0=some (aF a)) (f1:F 1=some (aF [d])) :
  aC.wp C (.seq (.region IP) (.seq (.region IQ) (.seq (.seq (.region IR) (.block 0 (.loop BG))) (.seq (.region BH) .ret)))) (aT [.tmp 4,.tmp 5] (bY (oG (val a) d))) F .nil:=by
 have hm1:((a.length:Nat):Int)*((4:Nat):Int)≤140737488355328:=by omega
 have hm2:((a.length:Nat):Int)≤9223372036854775807:=by omega
 have hz:bJW a.length [PV.int .u32 0]=aJ (bJW a.length 0++[]):=by
  simp[aJ]
 simp only[go_sem,γ,IP,f0,bJT,hm1,hm2,hz]
 refine aR fun o ho=>?_
 simp only[go_sem,γ,reduceCtorEq,IQ,IR,f0,bJT]
 refine wp_loop (α:=Nat × List Nat × Nat) (fun t=>biR a d o t.1 t.2.2) (fun t=>PH.nil.set o (.rows 1 (aJ (bJW t.1 0++t.2.1))))
  (fun t=>t.1+t.2.1.length=a.length∧Lim t.2.1∧t.2.2<d∧val t.2.1*d+t.2.2=val (a.drop t.1)) (fun t=>t.1) (a.length,[],0) ⟨by simp,by simp[Lim],hd0,by simp[val]⟩ ?_ ?_ ?_
 ·unfold biR
  (repeat' (first|exact PF.nil_le|refine PF.aI ?_ ?_))<;>first|(simp only[go_sem,γ,reduceCtorEq,f0,f1,wrap_i64 (Om:-9223372036854775808≤((a.length:Nat):Int)-1) (Om:((a.length:Nat):Int)-1≤9223372036854775807)]<;>rfl)|rfl
 ·exact PH.aI PH.nil_le Sq
 rintro⟨k,S,r⟩ ⟨hk,bIM,hr,bII⟩
 simp only at hk bIM hr bII
 simp only[go_sem,γ,reduceCtorEq,BG,agS,biR]
 by_cases h0:0<k
 ·obtain⟨m,rfl⟩:∃ m,k=m+1:=⟨k-1,by omega⟩
  have hzz:((m+1:Nat):Int)-1=(m:Int):=by omega
  have hge:(m:Int)≥0:=by omega
  have hml:m<a.length:=by omega
  have hlt:(m:Int)<(a.length:Nat):=by omega
  have hai:=ha _ (bJX hml)
  have hdrop:val (a.drop m)=a[m]+4294967296*val (a.drop (m+1)):=by rw[bLP hml]; rfl
  have hax:=bK a hml
  generalize hx:a[m]=x at *
  have ex:IntKind.u64.wrap ((x:Nat):Int)=((x:Nat):Int):=bF Om
  have ed:IntKind.u64.wrap ((d:Nat):Int)=((d:Nat):Int):=bF Om
  have esh:shift .shl .u64 (r:Int) 32=some (.int .u64 ((2 ^ 32*r:Nat):Int)):=ID (s:=32) Om Om
  have e32:(2:Nat) ^ 32=4294967296:=by decide
  have eor:=orI (a:=2 ^ 32*r) (b:=x) (n:=2 ^ 32*r+x) Om Om (Nat.two_pow_add_eq_or_of_lt Om r).symm Om
  rw[e32] at esh eor
  have hq:(4294967296*r+x)/d<4294967296:=by
   rw[bMP hd0]
   have:4294967296*(r+1)≤4294967296*d:=bLZ _ hr
   omega
  have hdd:¬ ((d:Nat):Int)=0:=by omega
  have equo:IntKind.u64.wrap (Int.tdiv ((4294967296*r+x:Nat):Int) ((d:Nat):Int))=(((4294967296*r+x)/d:Nat):Int):=by
   rw[show Int.tdiv ((4294967296*r+x:Nat):Int) ((d:Nat):Int)=(((4294967296*r+x)/d:Nat):Int) from rfl]
   exact bF Om
  have erem:Int.tmod ((4294967296*r+x:Nat):Int) ((d:Nat):Int)=(((4294967296*r+x)%d:Nat):Int):=rfl
  have ec:IntKind.u32.wrap (((4294967296*r+x)/d:Nat):Int)=(((4294967296*r+x)/d:Nat):Int):=by rw[cA,bLE hq]
  have bJO:bJW (m+1) 0++S=bJW m 0++(0::S):=by
   rw[List.replicate_succ',bKU]; rfl
  have hin:(aJ (bJW m 0++(0::S)))[m]?=some [.int .u32 ((0:Nat):Int)]:=by
   rw[bK _ (by simp)]; simp
  have bIC:(aJ (bJW m 0++(0::S))).set m [.int .u32 (((4294967296*r+x)/d:Nat):Int)]=aJ (bJW m 0++(((4294967296*r+x)/d)::S)):=by
   rw[eV,bMZ _ _ (by simp)]; simp
  simp only[go_sem,ν,γ,reduceCtorEq,hzz,hge,agT,esh,hax,ex,eor,agU,ed,hdd,equo,ec,hlt,bJO,hin,bIC,VL,erem,VM]
  refine aH (m,((4294967296*r+x)/d)::S,(4294967296*r+x)%d) ⟨by simp only[bLU]; omega,fun y hy=>?_,bLJ _ hd0,?_⟩ (by simp only; omega) ?_ (PH.aI PH.nil_le Sq)
  ·rw[bKJ] at hy
   rcases hy with rfl | hy
   ·exact hq
   ·exact bIM y hy
  ·simp only[val]
   rw[hdrop,← bII,bKY,bKG,bKP]
   have:=bNA (4294967296*r+x) d
   rw[bKT d] at this
   omega
  ·(repeat' (first|exact PF.nil_le|refine PF.aI ?_ ?_))<;>first|(simp only[go_sem,γ,reduceCtorEq,wrap_i64 (Om:-9223372036854775808≤(m:Int)-1) (Om:(m:Int)-1≤9223372036854775807)]<;>rfl)|rfl
 ·have:k=0:=by omega
  subst this
  have hzz:¬ ((0:Nat):Int)-1≥0:=by decide
  rw[bKW] at bII
  have hS:S.length=a.length:=by omega
  have hq:val S=val a/d:=by
   rw[← bII,bKT,Nat.mul_add_div hd0,bNB hr,bLL]
  have hrm:r=val a%d:=by rw[← bII,bKT,Nat.mul_add_mod,bLE hr]
  have hn0:bJW 0 0++S=S:=by simp
  have hl:=L.trim S bIM Om
  have hSt:(aJ S).take a.length=aJ S:=bKK (by rw[bT]; omega)
  simp only[go_sem,υ,γ,reduceCtorEq,hzz,BH,bML]
  refine oU (o:=o) (s:=1) (rs:=aJ S) hl Sq (by simp only[go_sem,γ,reduceCtorEq,hSt,show a.length≤S.length by omega]) ?_
  simp only[go_sem,γ,reduceCtorEq]
  refine aA (L.make r Om) Sq ?_
  simp only[go_sem,γ,reduceCtorEq]
  refine aX (vs:=[aF (aG (val S)),aF (aG r)]) (.inr rfl) .nil Ev PH.nil_le ⟨?_,rfl⟩
  rw[hq,hrm]
  exact .refl _
theorem blB {B m:Nat} (h:nl B=m+1):32*m<cC B∧cC B≤32*(m+1):=by
 refine⟨?_,(kI B (m+1)).2 Om⟩
 rcases bKM (32*m) (cC B) with h1 | h1
 ·exact h1
 ·have:=(kI B m).1 h1
  omega
theorem blC {B:Nat} (h:B≠0):2 ^ (cC B-1)≤B:=by
 rcases bKM B (2 ^ (cC B-1)) with h1 | h1
 ·have h2:=(kG B _).2 h1
  have h3:cC B≠0:=fun e=>h (jE.1 e)
  omega
 ·exact h1
theorem a3H {C:Ctx} (L:LF C) (A B:Nat) (hB:B≠0) (hA:nl A≤512) (hBl:nl B≤512) :
  xQ.wp C (aT DU.res (bY (oG A B))) (PF.args [aF (aG A),aF (aG B)]) .nil:=by
 have LA:=aU A
 have LB:=aU B
 have vA:=aS A
 have vB:=aS B
 have lA:(aG A).length=nl A:=rfl
 have lB:(aG B).length=nl B:=rfl
 simp only[go_sem,γ,reduceCtorEq,xQ,agO,agP,DU]
 refine aA (L.cmp _ _ LA LB Om Om) rfl ?_
 rw[vA,vB]
 by_cases c1:A<B
 ·have hc:dB A B<0:=by simp[dB,c1]
  simp only[go_sem,γ,reduceCtorEq,hc,agQ]
  refine aA (L.trim _ LA Om) rfl ?_
  rw[vA]
  simp only[go_sem,γ]
  refine aX (vs:=[.aB,aF (aG A)]) (.inr rfl) .nil rfl PH.nil_le ⟨?_,rfl⟩
  rw[oG,bNB c1,bLE c1,eW]
  exact CoL.tup (CoL.cons (.nil 1) (CoL.cons (.refl _) .nil))
 have hc:¬ dB A B<0:=by
  unfold dB
  rw[if_neg c1]
  split<;>decide
 have hB0:0<B:=bMB hB
 have hnB:nl B≠0:=fun h=>hB (gJ.1 h)
 simp only[go_sem,γ,hc,agR,bJT,lB]
 by_cases c2:nl B=1
 ·have hBB:B<4294967296:=by have:=(gT B 1).1 Om; simpa using this
  have hlb:aG B=[B]:=mB hB hBB
  have sh:=a3G (C:=C) L (aG A) B LA hB0 hBB Om
  rw[vA] at sh
  simp only[aC.wp,go_sem] at sh
  simp only[go_sem,bO (Om:((nl B:Nat):Int)=1)]
  exact sh _ rfl (by simp only[go_sem,γ,hlb])
 obtain⟨m,hm⟩:∃ m,nl B=m+1:=⟨nl B-1,by omega⟩
 have hm1:1≤m:=by omega
 obtain⟨hb1,hb2⟩:=blB hm
 obtain⟨n,hn⟩:∃ n,n+cC B=32*(m+1):=⟨32*(m+1)-cC B,by omega⟩
 have hn32:n<32:=by omega
 have hp2:0<2 ^ n:=bMM (by decide)
 have hBlt:B<2 ^ cC B:=(kG B _).1 (bJV _)
 have hBge:=blC hB
 have hVhi:B*2 ^ n<4294967296 ^ (m+1):=by
  have:B*2 ^ n<2 ^ cC B*2 ^ n:=Nat.mul_lt_mul_of_pos_right hBlt hp2
  rw[← Nat.pow_add,show cC B+n=32*(m+1) by omega,Nat.pow_mul] at this
  exact this
 have hVlo:4294967296 ^ m*2147483648≤B*2 ^ n:=by
  have:2 ^ (cC B-1)*2 ^ n≤B*2 ^ n:=bLA _ hBge
  rw[← Nat.pow_add,show cC B-1+n=32*m+31 by omega,Nat.pow_add,Nat.pow_mul] at this
  exact this
 have nV:nl (B*2 ^ n)=m+1:=by
  have h1:=(gT (B*2 ^ n) (m+1)).2 hVhi
  rcases bKM (nl (B*2 ^ n)) (m+1) with h | h
  ·have:=(gT (B*2 ^ n) m).1 Om
   have hpp:0<4294967296 ^ m:=bMM (by decide)
   omega
  ·omega
 have hV0:B*2 ^ n≠0:=Nat.mul_ne_zero hB Om
 have nU1:nl (A*2 ^ n)≤nl A+1:=kC (bJV _) (lP (by rw[Nat.pow_one]; exact Nat.pow_lt_pow_right (a:=2) (m:=n) (n:=32) (by decide) hn32))
 have hUV:B*2 ^ n≤A*2 ^ n:=bLA _ Om
 have nUV:m+1≤nl (A*2 ^ n):=by rw[← nV]; exact fA hUV
 have hU0:A*2 ^ n≠0:=by omega
 have e32:IntKind.i64.wrap (32*((nl B:Nat):Int))=((32*(m+1):Nat):Int):=by rw[wrap_i64 Om Om]; omega
 have en:IntKind.i64.wrap (((32*(m+1):Nat):Int)-((cC B:Nat):Int))=(n:Int):=by rw[wrap_i64 Om Om]; omega
 have bt:=L.bits (aG B) LB Om
 rw[vB] at bt
 have ua:=L.upM (aG A) n LA Om Om (fun h=>by have:=eN LA; rw[h] at this; omega)
 have ub:=(L.upM (aG B) n LB Om Om (fun h=>by have:=eN LB; rw[h] at this; omega)).freeze
 rw[vA] at ua
 rw[vB] at ub
 have tail:∀ (o:Nat) (F:PF) (H:PH),F 0=some (aF (aG A))→F 1=some (aF (aG B))→F 10=some (.int .i64 n)→F 11=some (.osl o 1 0 (nl (A*2 ^ n)+2))→F 12=some (aF (aG (B*2 ^ n)))→H o=some (.rows 1 (aJ (aG (A*2 ^ n))++[[.int .u32 0],[.int .u32 0]])) →
   aC.wp C (.seq (.region BI) (.seq (.region BJ) (.seq (.region BK) (.seq (.seq (.region BL) (.block 2 (.loop sU))) (.seq (.region BR) .ret))))) (aT [.tmp 4,.tmp 5] (bY (oG A B))) F H:=by
  intro o F H f0 f1 f10 f11 f12 hH
  have LU:=aU (A*2 ^ n)
  have LV:=aU (B*2 ^ n)
  have vU:=aS (A*2 ^ n)
  have vV:=aS (B*2 ^ n)
  have lU:(aG (A*2 ^ n)).length=nl (A*2 ^ n):=rfl
  have lV:(aG (B*2 ^ n)).length=m+1:=nV
  have eu:IntKind.i64.wrap (((nl (A*2 ^ n):Nat):Int)+1)=((nl (A*2 ^ n)+1:Nat):Int):=dH Om
  have b1:((nl (A*2 ^ n)+1:Nat):Int)≤((nl (A*2 ^ n)+2:Nat):Int):=by omega
  simp only[go_sem,γ,reduceCtorEq,BI,f11,f0,f10]
  refine aA ua.freeze rfl ?_
  obtain⟨lq,hlq⟩:∃ lq,nl (A*2 ^ n)+1-(m+1)=lq:=⟨_,rfl⟩
  have hlx:nl (A*2 ^ n)+1=lq+(m+1):=by omega
  have em:IntKind.i64.wrap (((m+1:Nat):Int)-1)=((m:Nat):Int):=by rw[wrap_i64 Om Om]; omega
  have hmV:m<(aG (B*2 ^ n)).length:=by omega
  have rm:=bK (aG (B*2 ^ n)) hmV
  have tl:=LV _ (bJX hmV)
  have htop:0<(aG (B*2 ^ n))[m]:=by
   have h1:=bW (aG (B*2 ^ n)) hmV
   rw[bKK Om,vV] at h1
   have h2:=eN (LV.take m)
   rw[bKL,bLY Om] at h2
   have hpp:0<4294967296 ^ m:=bMM (by decide)
   rcases bMT (aG (B*2 ^ n))[m] with h | h
   ·rw[h] at h1; omega
   ·exact h
  have htop31:2147483648≤(aG (B*2 ^ n))[m]:=by
   have h1:=bW (aG (B*2 ^ n)) hmV
   rw[bKK Om,vV] at h1
   have h2:=eN (LV.take m)
   rw[bKL,bLY Om] at h2
   rcases bKM (aG (B*2 ^ n))[m] 2147483648 with h | h
   ·exfalso
    have h3:4294967296 ^ m*((aG (B*2 ^ n))[m]+1)≤4294967296 ^ m*2147483648:=bLZ _ h
    rw[bKG,Nat.mul_one] at h3
    omega
   ·exact h
  have key0:=baK (C:=C) L (A*2 ^ n) n o (nl (A*2 ^ n)+1) lq
  have hI:mR (A*2 ^ n) (val (aG (B*2 ^ n))) (m+1) (nl (A*2 ^ n)+1) lq lq (aG (A*2 ^ n)++[0]) (bJW lq 0):=by
   refine⟨by rw[bKA,lU]; rfl,bNI,LU.app fun x hx=>by simp at hx; omega,tH _,?_,?_,fun i x _ hx=>aMO hx⟩
   ·rw[fF,vU,qE]; simp[val]
   ·have hlen:(aG (A*2 ^ n)++[0]).length=nl (A*2 ^ n)+1:=by rw[bKA,lU]; rfl
    have hv0:val (aG (A*2 ^ n)++[0])=A*2 ^ n:=by rw[fF,vU]; simp[val]
    rw[sG (LU.app fun x hx=>by simp at hx; omega) Om,hv0,vV,bMP (bMM (by decide))]
    have h1:A*2 ^ n<4294967296 ^ nl (A*2 ^ n):=(gT _ _).1 (bJV _)
    have hx:nl (A*2 ^ n)=m+lq:=by omega
    rw[hx,Nat.pow_add] at h1
    have h2:4294967296 ^ m*4294967296 ^ lq≤(B*2 ^ n)*4294967296 ^ lq:=bLA _ Om
    omega
  have hrows:aJ (aG (A*2 ^ n))++[[PV.int .u32 0],[PV.int .u32 0]]=dS (aG (A*2 ^ n)++[0]) (aJ [0]):=by
   simp[dS,aJ]
  rw[hrows] at hH
  generalize htp:(aG (B*2 ^ n))[m]=top at *
  have et:IntKind.u64.wrap ((top:Nat):Int)=((top:Nat):Int):=bF Om
  have k2:IntKind.i64.wrap (((nl (A*2 ^ n)+1:Nat):Int)-((m+1:Nat):Int))=((lq:Nat):Int):=by rw[wrap_i64 Om Om]; omega
  have k3:((lq:Nat):Int)*((4:Nat):Int)≤140737488355328:=by omega
  have k4:((lq:Nat):Int)≤9223372036854775807:=by omega
  have hz:bJW lq [PV.int .u32 0]=aJ (bJW lq 0):=by simp[aJ]
  have jq:IntKind.i64.wrap ((lq:Int)-1)=(lq:Int)-1:=wrap_i64 Om Om
  simp only[go_sem,ν,γ,reduceCtorEq,bJT,lU,eu,b1,BJ,f12,lV,em,rm,et,BK,k2,k3,k4,hz]
  refine aR fun oq hoq=>?_
  have hne:oq≠o:=by rintro rfl; rw[hH] at hoq; cases hoq
  have bIU:¬ o=oq:=fun h=>hne h.symm
  have key:=key0 oq m (aG (B*2 ^ n)) [0] hne LV lV (by rw[htp]; exact htop) hlx Om _ hI
  rw[htp] at key
  simp only[go_sem,ο] at key
  simp only[go_sem,γ,BL,jq]
  refine key _ _ _ ?_ ?_ ?_
  ·unfold duF
   exact Lq
  ·refine PH.aI (PH.aI PH.nil_le ?_) ?_
   ·simp only[go_sem,bIU,hH]
   ·simp only[go_sem]
  clear key key0
  intro X Q F1 H1 hI1 hF1 hH1
  have g10:F1 10=some (.int .i64 n):=hF1 10 _ (by unfold duF; simp only[go_sem,ο,γ])
  have g11:F1 11=some (.osl o 1 0 (nl (A*2 ^ n)+1)):=hF1 11 _ (by unfold duF; simp only[go_sem,ο,γ])
  have g14:F1 14=some (.osl oq 1 0 lq):=hF1 14 _ (by unfold duF; simp only[go_sem,ο,γ])
  have ho1:H1 o=some (.rows 1 (dS X (aJ [0]))):=hH1 o _ (by simp only[go_sem,bIU])
  have hq1:H1 oq=some (.rows 1 (aJ Q)):=hH1 oq _ Sq
  have hu:val X<val (aG (B*2 ^ n)):=by have:=hI1.r; rwa [bKW] at this
  have hv':=hI1.v
  rw[vV] at hu hv'
  have hQv:val Q=A/B:=by
   have:A*2 ^ n/(B*2 ^ n)=val Q:=by
    rw[← hv',Nat.add_mul_div_right _ _ Om,bNB hu,bKN]
   rw[← this,Nat.mul_div_mul_right _ _ hp2]
  have hUv:val X/2 ^ n=A%B:=by
   have:A*2 ^ n%(B*2 ^ n)=val X:=by rw[← hv',Nat.add_mul_mod_self_right,bLE hu]
   rw[← this,Nat.mul_mod_mul_right,Nat.mul_div_cancel _ hp2]
  have lX:=hI1.lu'
  have lQ:=hI1.lq'
  have hQt:(aJ Q).take lq=aJ Q:=bKK (by rw[bT]; omega)
  have hXt:(dS X (aJ [0])).take (nl (A*2 ^ n)+1)=aJ X:=by
   rw[dS,List.take_append_of_le_length (by rw[bT]; omega),bKK (by rw[bT]; omega)]
  have hXl:nl (A*2 ^ n)+1≤(dS X (aJ [0])).length:=by rw[dS,bKA,bT]; omega
  have hfx:(dS X (aJ [0])).map (fun r=>r.map (PV.dC oq 1 (aJ Q)))=dS X (aJ [0]):=by
   have:dS X (aJ [0])=aJ (X++[0]):=by simp[dS,aJ]
   rw[this]; exact pO _ _ _ _
  have nX:=eU hI1.limU
  have t1:=L.trim Q hI1.limQ Om
  have t2:=L.trim X hI1.limU Om
  have dn:=L.down (aG (val X)) n (aU _) (by rw[aZ]; omega) Om
  rw[aS,hUv] at dn
  rw[hQv] at t1
  generalize aJ [0]=Z0 at ho1 hXt hXl hfx
  simp only[go_sem,BR,g14]
  refine oU (o:=oq) (s:=1) (rs:=aJ Q) t1 hq1 (by simp only[go_sem,hQt,show lq≤Q.length by omega]) ?_
  simp only[go_sem,γ,g11,bIU]
  refine oU (o:=o) (s:=1) (rs:=dS X Z0) t2 (by simp only[go_sem,bIU,ho1,cP.frz,hfx]) (by simp only[go_sem,γ,hXt,hXl]) ?_
  simp only[go_sem,γ,g10]
  refine aA dn rfl ?_
  simp only[go_sem,γ]
  exact aX (vs:=[aF (aG (A/B)),aF (aG (A%B))]) (.inr rfl) .nil rfl PH.nil_le ⟨.refl _,rfl⟩
 simp only[aC.wp,go_sem] at tail
 simp only[go_sem,γ,bB (Om:¬ ((nl B:Nat):Int)=1),VN,bJT,lB]
 refine aA bt rfl ?_
 simp only[go_sem,γ,reduceCtorEq,e32,en,VO]
 refine eR ua rfl PH.nil_le fun r H1 hr _=>?_
 have hb2:(2:Nat)*1≤16777216:=by decide
 rcases hr with ⟨h0,_⟩ | ⟨o,rs,rfl,rfl,hrl,hrt⟩
 ·exfalso
  have:=congrArg List.length h0
  rw[bT,aZ] at this
  simp at this
  omega
 rw[PH.kD]
 rw[bT,aZ] at hrl hrt
 simp only[go_sem,υ,δ,γ,η,ζ,hb2,bT,aZ]
 refine RA (src:=[[.int .u32 0],[.int .u32 0]]) (rs:=rs) rfl ?_ Sq hrl ?_ fun o' ho'=>?_
 ·unfold roomFor
  simp only[maxLen,bLU,bMD]; omega
 ·rw[hrt]
  simp only[go_sem,δ]
  refine aA ub rfl ?_
  simp only[go_sem,γ]
  exact tail o _ _ rfl rfl rfl rfl rfl Sq
 ·rw[hrt]
  simp only[go_sem,δ]
  refine aA ub rfl ?_
  simp only[go_sem,γ]
  exact tail o' _ _ rfl rfl rfl rfl rfl Sq
structure awJ (C:Ctx):Prop extends axC C where
 int:∀ n:Int,cU n→aE C 47 [.int .i64 n] .nil (aD (.agg (mkT n 1).cells))
 mul:∀ a b,Lim a→Lim b→a.length≤35184372087808→b.length≤35184372087808→aE C 36 [aF a,aF b] .nil (aD (opV (dR (val a) (val b)) (val a*val b)))
 add:∀ a b,Lim a→Lim b→a.length≤35184372087808→b.length≤35184372087808→aE C 30 [aF a,aF b] .nil (aD (opV (dR (val a) (val b)) (val a+val b)))
 sub:∀ a b,Lim a→Lim b→a.length≤35184372087808→b.length≤35184372087808→aE C 37 [aF a,aF b] .nil (aD (pH (val a) (val b)))
theorem atC (a b:Nat):cM a b=(decide (nl b>0)&&(decide (nl b≤128)&&decide (nl a≤128))):=by
 have:=@gJ b
 refine Bool.eq_iff_iff.2 ?_
 rw[eX]
 simp only[bKR,decide_eq_true_eq]
 omega
theorem bbW {C:Ctx} (L:awJ C) (neg:Bool) (a b:List Nat) (ha:Lim a) (hb:Lim b) (la:a.length≤35184372087808) (lb:b.length≤35184372087808) :
  CB.wp C (aT QV.res (aD (.bool (cM (val a) (val b))))) (PF.args [.agg (dY neg a b)]) .nil:=by
 rw[atC]
 simp only[go_sem,γ,CB,auD,auE,QV]
 refine aA (L.trim b hb lb) rfl ?_
 simp only[go_sem,γ,bJT,aZ]
 by_cases c1:nl (val b)>0
 ·have c1':((nl (val b):Nat):Int)>0:=by omega
  simp only[go_sem,γ,c1']
  refine aA (L.trim b hb lb) rfl ?_
  simp only[go_sem,γ,bJT,aZ]
  by_cases c2:nl (val b)≤128
  ·have c2':((nl (val b):Nat):Int)≤128:=by omega
   simp only[go_sem,δ,γ,θ,c2']
   refine aA (L.trim a ha la) rfl ?_
   simp only[go_sem,γ,bJT,aZ]
   refine aM (.inr rfl) rfl ?_
   have:decide (((nl (val a):Nat):Int)≤128)=decide (nl (val a)≤128):=by
    refine decide_eq_decide.2 ?_
    omega
   rw[aV,this,decide_eq_true c1,decide_eq_true c2]
   rfl
  ·have c2':¬ ((nl (val b):Nat):Int)≤128:=by omega
   simp only[go_sem,γ,reduceCtorEq,c2']
   refine aM (.inr rfl) rfl ?_
   rw[aV,decide_eq_false c2,bJZ,bLC]
 ·have c1':¬ ((nl (val b):Nat):Int)>0:=by omega
  simp only[go_sem,γ,reduceCtorEq,c1']
  refine aM (.inr rfl) rfl ?_
  rw[aV,decide_eq_false c1,bJZ]
theorem XV {neg:Bool} {a b:Nat} (h:cM a b=true):gP neg a b=.ok (kU neg a b):=by
 obtain⟨h1,h2,h3⟩:=eX.1 h
 have e1:=(kI (a/bJY a b) 128).2 (aeU _ h3)
 have e2:=(kI (b/bJY a b) 128).2 (aeU _ h2)
 unfold gP kU
 rw[if_neg Om]
def aZK (a b:Nat):Bool:=decide (nl a>128)||decide (nl b>128)
theorem bbO {C:Ctx} (neg:Bool) (a b:List Nat) :
  BW.wp C (aT QQ.res (aD (.bool (decide (a.length>128)||decide (b.length>128))))) (PF.args [.agg (dY neg a b)]) .nil:=by
 simp only[go_sem,δ,γ,θ,BW,atE,atF,QQ,bJT]
 by_cases c:a.length>128
 ·have c':((a.length:Nat):Int)>128:=by omega
  simp only[go_sem,γ,c']
  refine aM (.inr rfl) rfl ?_
  rw[aV,decide_eq_true c,Bool.true_or]
 ·have c':¬ ((a.length:Nat):Int)>128:=by omega
  simp only[go_sem,γ,reduceCtorEq,c',bJT]
  refine aM (.inr rfl) rfl ?_
  have:decide (((b.length:Nat):Int)>128)=decide (b.length>128):=by
   refine decide_eq_decide.2 ?_
   omega
  rw[aV,this,decide_eq_false c,Bool.false_or]
def azI (x:FV):FR:=if aZK x.2.1 x.2.2 then .error 2 else .ok x
theorem blV (neg:Bool) (a b:Nat):azI (kU neg a b)=gP neg a b:=by
 have e1:=kI (a/bJY a b) 128
 have e2:=kI (b/bJY a b) 128
 unfold azI kU gP aZK
 simp only[Bool.or_eq_true,decide_eq_true_eq]
 by_cases c:nl (a/bJY a b)>128∨nl (b/bJY a b)>128
 ·rw[if_pos c,if_pos Om]
 ·rw[if_neg c,if_neg Om]
structure aaC (C:Ctx):Prop extends awJ C where
 valid:∀ x:RF,x.Ok→aE C 56 [.agg x.cells] .nil (aD (.bool (cM (val x.num) (val x.den))))
 big:∀ x:FV,aE C 48 [.agg x.rf.cells] .nil (aD (.bool (aZK x.2.1 x.2.2)))
theorem bjI {C:Ctx} (L:aaC C) (x:FV):JE.wp C (aT ahG.res (bY (frV (azI x)))) (PF.args [.agg x.rf.cells]) .nil:=by
 simp only[go_sem,δ,JE,aLI,ahG]
 refine aR fun o ho=>?_
 simp only[go_sem,δ,γ,aLJ]
 refine aA (L.big x) rfl ?_
 unfold azI
 cases aZK x.2.1 x.2.2 with
 | true =>
  simp only[go_sem,δ,γ,aLK]
  refine gI ?_
  simp only[go_sem,δ,γ]
 | false =>
  obtain⟨n,a,b⟩:=x
  simp only[go_sem,δ,γ,reduceCtorEq,aLL]
  exact aX (.inr rfl) .nil (vs:=[.agg (FV.rf (n,a,b)).cells,.int .i64 0]) Sq PH.nil_le ⟨.refl _,rfl⟩
theorem a4E {C:Ctx} (L:aaC C) (x:RF) (hx:x.Ok):xT.wp C (aT DZ.res (bY (frV (mG x)))) (PF.args [.agg x.cells]) .nil:=by
 simp only[go_sem,δ,xT,ahP,DZ]
 refine aR fun o ho=>?_
 simp only[go_sem,δ,γ,ahQ]
 refine aA (L.valid x hx) rfl ?_
 unfold mG
 cases hv:cM (val x.num) (val x.den) with
 | false =>
  simp only[go_sem,δ,γ,reduceCtorEq,bKI,ahR]
  refine gI ?_
  simp only[go_sem,δ,γ]
 | true =>
  obtain⟨v1,v2,v3⟩:=eX.1 hv
  have e:=XV (neg:=x.neg) hv
  rw[if_pos rfl,e]
  simp only[go_sem,δ,γ,θ,bKC,ahS]
  refine aA (L.lowest x.neg x.num x.den hx.1 hx.2.1 hx.2.2.1 hx.2.2.2 Om Om v1) rfl ?_
  simp only[go_sem,δ,γ]
  exact aX (.inr rfl) .nil (vs:=[.agg (kU x.neg (val x.num) (val x.den)).rf.cells,.int .i64 0]) Sq PH.nil_le ⟨.refl _,rfl⟩
theorem bbU {C:Ctx} (L:awJ C) (a b:List Nat) (ha:Lim a) (hb:Lim b) (la:a.length≤35184372087808) (lb:b.length≤35184372087808) (na:nl (val a)≤256) (nb:nl (val b)≤256) :
  CA.wp C (aT QU.res (aD (aF (aG (val a*val b))))) (PF.args [aF a,aF b]) .nil:=by
 simp only[go_sem,γ,reduceCtorEq,CA,auA,auB,QU]
 refine aA (L.mul a b ha hb la lb) rfl ?_
 have:=kC na nb
 rw[gG Om Om,opV,xN Om]
 simp only[go_sem,γ,reduceCtorEq,auC]
 refine aM (.inr rfl) rfl ?_
 rfl
structure axE (C:Ctx):Prop extends aaC C where
 fits:∀ x:FV,aE C 57 [.agg x.rf.cells] .nil (aD (frV (azI x)))
 red:∀ x:RF,x.Ok→aE C 52 [.agg x.cells] .nil (aD (frV (mG x)))
 prod:∀ a b,Lim a→Lim b→a.length≤35184372087808→b.length≤35184372087808→nl (val a)≤256→nl (val b)≤256→aE C 60 [aF a,aF b] .nil (aD (aF (aG (val a*val b))))
def RF.valid (x:RF):Prop:=cM (val x.num) (val x.den)=true
def mZ (x y:RF):Int:=pE x.neg (val x.num) (val x.den) y.neg (val y.num) (val y.den)
def voS:Spec:=fun name vs=>match name,vs with
 | 60,[x,y]=>some ([],fun _=>aD (aF (aG (val (gW x)*val (gW y)))))
 | _,_=>none
theorem tP (a b:List Nat):voS 60 [aF a,aF b]=some ([],fun _=>aD (aF (aG (val a*val b)))):=by
 show some _=_; rw[dX,dX]
theorem anM (a b:Nat):dB b a=- dB a b:=by
 unfold dB
 rcases Nat.lt_trichotomy a b with h | h | h
 ·rw[if_neg Om,if_pos h,if_pos h]; rfl
 ·subst h
  rw[if_neg Om,if_neg Om]; rfl
 ·rw[if_pos h,if_neg Om,if_pos h]
set_option maxHeartbeats 1000000 in
theorem bbQ {C : Ctx} (L : axE C) (x y : RF) (hx : x.Ok) (hy : y.Ok) (vx : x.valid) (vy : y.valid) : BY.wp C (aT QR.res (aD (.int .i64 (mZ x y)))) (PF.args [.agg x.cells, .agg y.cells]) .nil := by
  obtain ⟨n1, a1, b1⟩ := x
  obtain ⟨n2, a2, b2⟩ := y
  obtain ⟨ha1, hb1, la1, lb1⟩ := hx
  obtain ⟨ha2, hb2, la2, lb2⟩ := hy
  obtain ⟨v1, v2, v3⟩ := eX.1 vx
  obtain ⟨w1, w2, w3⟩ := eX.1 vy
  simp only at ha1 hb1 la1 lb1 ha2 hb2 la2 lb2 v1 v2 v3 w1 w2 w3
  have m1 := kC v3 w2
  have m2 := kC w3 v2
  have hA : decide (val a1 ≠ 0) = decide (nl (val a1 * val b2) > 0) := by
    refine decide_eq_decide.2 ?_
    have := @gJ (val a1 * val b2)
    rw [Nat.mul_eq_zero] at this
    omega
  have hB : decide (val a2 ≠ 0) = decide (nl (val a2 * val b1) > 0) := by
    refine decide_eq_decide.2 ?_
    have := @gJ (val a2 * val b1)
    rw [Nat.mul_eq_zero] at this
    omega
  unfold mZ pE
  simp only [hA, hB]
  simp only[go_sem,ο,γ,BY,atG,QR]
  refine bR .nil voS PH.nil_le ?_
  simp only[go_sem,ο,δ,γ,θ,atH]
  refine bJ (tP a1 b2) (L.prod a1 b2 ha1 hb2 la1 lb2 Om Om) rfl PH.nil_le ?_
  simp only[go_sem,ο,δ,γ,θ]
  refine bJ (tP a2 b1) (L.prod a2 b1 ha2 hb1 la2 lb1 Om Om) rfl PH.nil_le ?_
  have hc := L.cmp (aG (val a1 * val b2)) (aG (val a2 * val b1)) (aU _) (aU _) (by rw [aZ]; omega) (by rw [aZ]; omega)
  have hd := L.cmp (aG (val a2 * val b1)) (aG (val a1 * val b2)) (aU _) (aU _) (by rw [aZ]; omega) (by rw [aZ]; omega)
  rw [aS, aS] at hc hd
  rw [anM (val a1 * val b2)] at hd
  generalize val a1 * val b2 = A at *
  generalize val a2 * val b1 = B at *
  have gA : decide (((nl A : Nat) : Int) > 0) = decide (nl A > 0) := decide_eq_decide.2 Om
  have gB : decide (((nl B : Nat) : Int) > 0) = decide (nl B > 0) := decide_eq_decide.2 Om
  generalize decide (nl A > 0) = p at *
  generalize decide (nl B > 0) = q at *
  cases n1 <;> cases n2 <;> cases p <;> cases q
  all_goals
    simp only[go_sem,ο,δ,γ,θ,reduceCtorEq,atI,bJT,aZ,gA,gB,atJ,atK,atL,atM,atN,atO,atP]
    first
    | (refine aM (.inr rfl) rfl ?_; rfl)
    | (refine aA hc rfl ?_
       simp only[go_sem,γ]
       refine aM (.inr rfl) rfl ?_
       rfl)
    | (refine aA hd rfl ?_
       simp only[go_sem,γ]
       refine aM (.inr rfl) rfl ?_
       rfl)
structure wI (C:Ctx):Prop extends axE C where
 order:∀ x y:RF,x.Ok→y.Ok→x.valid→y.valid→aE C 51 [.agg x.cells,.agg y.cells] .nil (aD (.int .i64 (mZ x y)))
theorem bjL {C:Ctx} (L:wI C) (x y:RF) (hx:x.Ok) (hy:y.Ok) (vx:x.valid) (vy:y.valid):JF.wp C (aT ahI.res (aD (.bool (decide (mZ x y<0))))) (PF.args [.agg x.cells,.agg y.cells]) .nil:=by
 simp only[go_sem,δ,γ,JF,aLO,aLP,ahI]
 refine aA (L.order x y hx hy vx vy) rfl ?_
 simp only[go_sem,γ]
 refine aM (.inr rfl) rfl ?_
 rfl
theorem bjP {C:Ctx} (L:wI C) (x y:RF) (hx:x.Ok) (hy:y.Ok) (vx:x.valid) (vy:y.valid):JL.wp C (aT ahZ.res (aD (.bool (mZ x y==0)))) (PF.args [.agg x.cells,.agg y.cells]) .nil:=by
 simp only[go_sem,δ,γ,JL,aLY,aLZ,ahZ]
 refine aA (L.order x y hx hy vx vy) rfl ?_
 simp only[go_sem,γ]
 refine aM (.inr rfl) rfl ?_
 rfl
theorem DJ (n:Int):mkT n 1=⟨decide (n<0),aG n.natAbs,aG 1⟩:=by
 unfold mkT kU FV.rf
 rw[show (1:Int).natAbs=1 from rfl,Nat.gcd_one_right,Nat.div_one,Nat.div_one,show decide ((1:Int)<0)=false from rfl]
 congr 1
 by_cases h:n<0
 ·have:n.natAbs≠0:=by omega
  simp[h,this]
 ·simp[h]
theorem DI (n:Int) (h:cU n):(mkT n 1).Ok∧(mkT n 1).valid:=by
 have h1:nl n.natAbs≤2:=lP (by unfold cU at h; omega)
 rw[DJ]
 refine⟨⟨aU _,aU _,?_,?_⟩,?_⟩
 ·simp only[aZ]; omega
 ·simp only[tI]; decide
 ·unfold RF.valid
  simp only[aS]
  rw[atC]
  have:nl 1=1:=by rw[nl,tI]; rfl
  simp[this]
  omega
def oX (x:RF):Int:=if val x.num=0 then 0 else if x.neg then -1 else 1
theorem bhA (x:RF):mZ x (mkT 0 1)=oX x:=by
 rw[DJ]
 unfold mZ oX pE
 simp only[aS,show (0:Int).natAbs=0 from rfl,Nat.mul_one,Nat.zero_mul]
 by_cases h:val x.num=0
 ·simp[h,dB]
 ·cases x.neg<;>simp[h,dB]
def viS (r:Int):Spec:=fun name _=>if name=47 then some ([],fun _=>aD (.agg (mkT 0 1).cells)) else some ([],fun _=>aD (.int .i64 r))
theorem bjR {C:Ctx} (L:wI C) (x:RF) (hx:x.Ok) (vx:x.valid):JM.wp C (aT aiA.res (aD (.int .i64 (oX x)))) (PF.args [.agg x.cells]) .nil:=by
 have h0:cU 0:=by unfold cU; omega
 have ho:=L.order x (mkT 0 1) hx (DI 0 h0).1 vx (DI 0 h0).2
 rw[bhA] at ho
 simp only[go_sem,JM,aMA,aiA]
 refine bR .nil (viS (oX x)) PH.nil_le ?_
 simp only[go_sem,δ,γ,aMB]
 refine bJ rfl (L.int 0 h0) rfl PH.nil_le ?_
 simp only[go_sem]
 refine bJ rfl ho rfl PH.nil_le ?_
 simp only[go_sem,γ]
 refine aM (.inr rfl) rfl ?_
 rfl
theorem bbB {C:Ctx} (L:wI C) (n1 n2:Bool) (a1 b1 a2 b2:List Nat) (ha1:Lim a1) (hb1:Lim b1) (ha2:Lim a2) (hb2:Lim b2)
  (la1:a1.length≤35184372087808) (lb1:b1.length≤35184372087808) (la2:a2.length≤35184372087808) (lb2:b2.length≤35184372087808) :
  zI.wp C (aT anF.res (bY (frV (gU (n1,val a1,val b1) (n2,val a2,val b2))))) (PF.args [.agg (dY n1 a1 b1),.agg (dY n2 a2 b2)]) .nil:=by
 have vx:aE C 56 [.agg (dY n1 a1 b1)] .nil (aD (.bool (cM (val a1) (val b1)))):=L.valid ⟨n1,a1,b1⟩ ⟨ha1,hb1,la1,lb1⟩
 have vy:aE C 56 [.agg (dY n2 a2 b2)] .nil (aD (.bool (cM (val a2) (val b2)))):=L.valid ⟨n2,a2,b2⟩ ⟨ha2,hb2,la2,lb2⟩
 simp only[go_sem,δ,γ,zI,aXI,anF]
 refine aR fun o ho=>?_
 simp only[go_sem,δ,γ,aXJ]
 refine aA vx rfl ?_
 simp only[gU]
 cases hv:cM (val a1) (val b1) with
 | false =>
  simp only[go_sem,δ,γ,reduceCtorEq,bKI,anG,bJZ]
  refine gI ?_
  simp only[go_sem,δ,γ]
 | true =>
  obtain⟨v1,v2,v3⟩:=eX.1 hv
  simp only[go_sem,δ,γ,bKC]
  refine aA vy rfl ?_
  cases hw:cM (val a2) (val b2) with
  | false =>
   simp only[go_sem,δ,γ,reduceCtorEq,bKI,anG,bLC]
   refine gI ?_
   simp only[go_sem,δ,γ]
  | true =>
   obtain⟨w1,w2,w3⟩:=eX.1 hw
   simp only[go_sem,γ,reduceCtorEq,bKC,bLT]
   refine bR .nil voS PH.nil_le ?_
   simp only[go_sem,δ,γ,θ,aXK]
   refine bJ (tP a1 b2) (L.prod a1 b2 ha1 hb2 la1 lb2 Om Om) rfl PH.nil_le ?_
   simp only[go_sem,δ,γ,θ]
   refine bJ (tP a2 b1) (L.prod a2 b1 ha2 hb1 la2 lb1 Om Om) rfl PH.nil_le ?_
   simp only[go_sem,γ]
   refine bJ (tP b1 b2) (L.prod b1 b2 hb1 hb2 lb1 lb2 Om Om) rfl PH.nil_le ?_
   simp only[go_sem,γ]
   have m1:=kC v3 w2
   have m2:=kC w3 v2
   have m3:=kC v2 w2
   have d0:val b1*val b2≠0:=Nat.mul_ne_zero v1 w1
   generalize hA:val a1*val b2=A at *
   generalize hB:val a2*val b1=B at *
   generalize hD:val b1*val b2=D at *
   have fin:∀ (F:PF) (H:PH) (r:FR),(∃ neg' x y e,frV r=.tup [.agg (dY neg' x y),.int .i64 e]∧F 4=some (.ptr o 3 0 0)∧F 5=some (.int .i64 e)∧H o=some (.rows 3 [dY neg' x y]))→aT [.cell 4 (some 3),.tmp 5] (bY (frV r)) .ret F H:=by
    rintro F H r ⟨neg',x,y,e,he,f4,f5,hH⟩
    rw[he]
    exact aX (.inr rfl) .nil (vs:=[.agg (dY neg' x y),.int .i64 e]) (by simp only[go_sem,δ,f4,f5,hH]) PH.nil_le ⟨.refl _,rfl⟩
   have eb:(n1==n2)=decide (n1=n2):=by cases n1<;>cases n2<;>rfl
   have low:∀ neg x,nl x≤257→aE C 58 [.bool neg,aF (aG x),aF (aG D)] .nil (aD (.agg (kU neg x D).rf.cells)):=by
    intro neg x hx
    have h1:(aG x).length≤35184372087808:=by rw[aZ]; omega
    have h2:(aG D).length≤35184372087808:=by rw[aZ]; omega
    have:=L.lowest neg (aG x) (aG D) (aU _) (aU _) h1 h2
    rw[aS,aS] at this
    exact this Om Om d0
   have fit:∀ neg x,aE C 57 [.agg (kU neg x D).rf.cells] .nil (aD (frV (gP neg x D))):=fun neg x=>by
    have:=L.fits (kU neg x D)
    rwa [blV] at this
   have lA:(aG A).length≤35184372087808:=by rw[aZ]; omega
   have lB:(aG B).length≤35184372087808:=by rw[aZ]; omega
   simp only[go_sem,δ,γ,θ,aXL]
   by_cases c:n1=n2
   ·rw[if_pos c]
    have c':(n1==n2)=true:=by rw[eb,decide_eq_true c]
    simp only[go_sem,γ,c',aXM]
    have hadd:=L.add (aG A) (aG B) (aU _) (aU _) lA lB
    have nab:=aFA m1 m2
    rw[aS,aS,gG Om Om,opV,xN Om] at hadd
    refine aA hadd rfl ?_
    simp only[go_sem,δ,γ,θ,reduceCtorEq,aXN]
    refine aA (low n1 _ Om) rfl ?_
    simp only[go_sem]
    refine aA (fit n1 _) rfl ?_
    obtain⟨neg',x,y,e,hl⟩:=rN (gP n1 (A+B) D)
    rw[hl]
    simp only[go_sem,δ,γ]
    rw[← hl]
    exact fin _ _ _ ⟨neg',x,y,e,hl,by simp only[go_sem,γ],by simp only[go_sem,γ],by simp only[go_sem]⟩
   ·rw[if_neg c]
    have c':(n1==n2)=false:=by rw[eb,decide_eq_false c]
    simp only[go_sem,γ,c',aXO]
    have hc:=L.cmp (aG A) (aG B) (aU _) (aU _) lA lB
    rw[aS,aS] at hc
    refine aA hc rfl ?_
    have hsub:∀ X Y:Nat,nl X≤256→nl Y≤256→Y≤X→aE C 37 [aF (aG X),aF (aG Y)] .nil (aD (.tup [aF (aG (X-Y)),.int .i64 0])):=by
     intro X Y h1 h2 h
     have:=L.sub (aG X) (aG Y) (aU _) (aU _) (by rw[aZ]; omega) (by rw[aZ]; omega)
     have h3:=fA (Om:X-Y≤X)
     rw[aS,aS,pH,gG Om Om,if_neg (by decide),if_neg Om,xN Om] at this
     exact this
    by_cases g:B≤A
    ·have g':dB A B≥0:=(RW A B).2 g
     rw[if_pos g]
     simp only[go_sem,γ,g',aXP]
     refine aA (hsub A B Om Om g) rfl ?_
     simp only[go_sem,δ,γ,θ,aXQ]
     have h3:=fA (Om:A-B≤A)
     refine aA (low n1 (A-B) Om) rfl ?_
     simp only[go_sem]
     refine aA (fit n1 _) rfl ?_
     obtain⟨neg',x,y,e,hl⟩:=rN (gP n1 (A-B) D)
     rw[hl]
     simp only[go_sem,δ,γ]
     rw[← hl]
     exact fin _ _ _ ⟨neg',x,y,e,hl,by simp only[go_sem,γ],by simp only[go_sem,γ],by simp only[go_sem]⟩
    ·have g':¬ dB A B≥0:=fun h=>g ((RW A B).1 h)
     rw[if_neg g]
     simp only[go_sem,γ,g',aLE]
     refine aA (hsub B A Om Om Om) rfl ?_
     simp only[go_sem,δ,γ,θ,aLF]
     have h3:=fA (Om:B-A≤B)
     refine aA (low n2 (B-A) Om) rfl ?_
     simp only[go_sem]
     refine aA (fit n2 _) rfl ?_
     obtain⟨neg',x,y,e,hl⟩:=rN (gP n2 (B-A) D)
     rw[hl]
     simp only[go_sem,δ,γ]
     rw[← hl]
     exact fin _ _ _ ⟨neg',x,y,e,hl,by simp only[go_sem,γ],by simp only[go_sem,γ],by simp only[go_sem]⟩
theorem bpV {C:Ctx} (L:wI C) (x y:RF) (hx:x.Ok) (hy:y.Ok):zI.wp C (aT anF.res (bY (frV (gU x.v y.v)))) (PF.args [.agg x.cells,.agg y.cells]) .nil :=
 bbB L x.neg y.neg x.num x.den y.num y.den hx.1 hx.2.1 hy.1 hy.2.1 hx.2.2.1 hx.2.2.2 hy.2.2.1 hy.2.2.2
structure aZB (C:Ctx):Prop extends wI C where
 less:∀ x y:RF,x.Ok→y.Ok→x.valid→y.valid→aE C 49 [.agg x.cells,.agg y.cells] .nil (aD (.bool (decide (mZ x y<0))))
 same:∀ x y:RF,x.Ok→y.Ok→x.valid→y.valid→aE C 53 [.agg x.cells,.agg y.cells] .nil (aD (.bool (mZ x y==0)))
 sign:∀ x:RF,x.Ok→x.valid→aE C 54 [.agg x.cells] .nil (aD (.int .i64 (oX x)))
 plus:∀ x y:RF,x.Ok→y.Ok→aE C 46 [.agg x.cells,.agg y.cells] .nil (aD (frV (gU x.v y.v)))
def vsF (l:List RF) (o2 o4 k:Nat):PF:=((((PF.nil.set 0 (frs l)).set 2 (.ptr o2 3 0 0)).set 4 (.ptr o4 3 0 0)).set 5 (.int .i64 k))
theorem bqA {C:Ctx} (L:aZB C) (l:List RF) (hl:∀ x∈l,x.Ok) (hlen:l.length≤9223372036854775807) :
  QT.wp C (aT aMG.res (bY (frV (nD (l.map RF.v))))) (PF.args [frs l]) .nil:=by
 have h0:cU 0:=by unfold cU; omega
 have hi:(mkT 0 1).cells=(FV.rf (false,0,1)).cells:=by rw[DJ]; rfl
 have hint:=L.int 0 h0
 rw[hi] at hint
 simp only[go_sem,δ,QT,aXV,aMG]
 refine aR fun o2 ho2=>?_
 have h1:aQ (PH.nil.set o2 (.rows 3 [[.bool false,.aB,.aB]])) [(o2,.rows 3 [[.bool false,.aB,.aB]])] []:=aQ.nil.new (H:=PH.nil) rfl _
 generalize (PH.nil.set o2 _)=H1 at *
 simp only[go_sem,aXW]
 refine aA hint rfl ?_
 simp only[go_sem,δ]
 refine aR fun o4 ho4=>?_
 have h2:=h1.new ho4 (.rows 3 [(FV.rf (false,0,1)).cells])
 simp only[go_sem,δ,γ,aXX]
 refine wp_loop (α:=Nat × FV × PH) (fun t=>vsF l o2 o4 t.1) (fun t=>t.2.2) (fun t=>t.1≤l.length∧((l.map RF.v).take t.1).foldlM gU (false,0,1)=.ok t.2.1∧aQ t.2.2 [(o2,.rows 3 [[.bool false,.aB,.aB]]),(o4,.rows 3 [(FV.rf t.2.1).cells])] []∧(FV.rf t.2.1).Ok) (fun t=>l.length-t.1)
  (0,(false,0,1),_) ⟨bKF _,rfl,h2,⟨aU _,aU _,?_,?_⟩⟩ ?_ PH.le_refl ?_
 ·show (aG 0).length≤_
  rw[eW]; simp
 ·show (aG 1).length≤_
  rw[tI]; simp
 ·unfold vsF
  exact Lq
 rintro⟨k,acc,H0⟩ ⟨hk,hf,hH,hacc⟩
 simp only at hk hf hH hacc ⊢
 simp only[go_sem,γ,reduceCtorEq,aXU,aXY,vsF,bJT]
 by_cases hlt:k<l.length
 ·have bHW:(k:Int)<(l.length:Nat):=by omega
  have hr:(l.map RF.cells)[k]?=some (l[k]).cells:=by simp[hlt]
  have hadd:=L.plus (FV.rf acc) l[k] hacc (hl _ (bJX hlt))
  rw[FV.bsL] at hadd
  have bHX:=TQ (f:=gU) (l.map RF.v) (false,0,1) (k:=k) (by simpa using hlt)
  rw[hf] at bHX
  simp only[Except.bind,bMC] at bHX
  have e4:=hH.at 1 rfl
  simp only[go_sem,bHW]
  refine bR .nil (fun _ _=>some ([],fun _=>aD (frV (gU acc (l[k]).v)))) PH.nil_le ?_
  simp only[go_sem,δ,γ,reduceCtorEq,aXZ,e4,hr]
  refine bJ rfl hadd rfl PH.nil_le ?_
  cases he:gU acc (l[k]).v with
  | error e =>
   have he0:e≠0:=by
    revert he
    obtain⟨n1,a1,b1⟩:=acc
    obtain⟨n2,a2,b2⟩:=(l[k]).v
    simp only[gU,gP]
    repeat' split
    all_goals (intro h; first | (injection h with h; subst h; decide) | cases h)
   rw[he] at bHX
   simp only[go_sem,δ,γ,reduceCtorEq,frV]
   refine aR fun o6 ho6=>?_
   simp only[go_sem,δ,γ,reduceCtorEq]
   refine⟨PH.nil_le,?_⟩
   have h6:=hH.new ho6 (.rows 3 [[.bool false,aF [],aF []]])
   have e2:=h6.at 0 rfl
   simp only[go_sem,δ,γ,reduceCtorEq,anI,cT he0,aYA,e2]
   rw[nD,acN _ _ bHX]
   refine gI ?_
   simp only[go_sem,δ,γ,reduceCtorEq]
  | ok r =>
   rw[he] at bHX
   obtain⟨rn,ra,rb⟩:=r
   simp only[go_sem,δ,γ,reduceCtorEq,frV]
   refine aR fun o6 ho6=>?_
   simp only[go_sem,δ,γ,reduceCtorEq]
   refine⟨PH.nil_le,?_⟩
   have h6:=hH.new ho6 (.rows 3 [(FV.rf (rn,ra,rb)).cells])
   have e6:=h6.at 2 rfl
   have e4':=h6.at 1 rfl
   generalize hG:H0.set o6 (.rows 3 [(FV.rf (rn,ra,rb)).cells])=H6 at *
   have hG':H0.set o6 (.rows 3 [[.bool rn,aF (aG ra),aF (aG rb)]])=H6:=hG
   simp only[go_sem,σ,δ,γ,reduceCtorEq,anI,aYB,hG',e6,e4',aYC,wZz k]
   have h7:=(h6.set 1 rfl (.rows 3 [(FV.rf (rn,ra,rb)).cells])).bvG 2
   refine aH (k+1,(rn,ra,rb),_) ⟨hlt,bHX,h7,akU he⟩ (by simp only; omega) ?_ PH.le_refl
   exact Lq
 ·have bHW:¬ (k:Int)<(l.length:Nat):=by omega
  have:k=l.length:=by omega
  subst this
  rw[bKK (by simp)] at hf
  rw[nD,hf]
  have e2:=hH.at 0 rfl
  have e4:=hH.at 1 rfl
  obtain⟨n,a,b⟩:=acc
  simp only[go_sem,δ,γ,reduceCtorEq,bHW,aMH,e4,e2]
  exact aX (.inr rfl) .nil (vs:=[.agg (FV.rf (n,a,b)).cells,.int .i64 0]) Sq PH.nil_le ⟨.refl _,rfl⟩
theorem dge {n:Nat} (k:Nat):decide ((n:Int)≥(k:Int))=decide (k≤n):=decide_eq_decide.2 Om
theorem dle {n:Nat} (k:Nat):decide ((n:Int)≤(k:Int))=decide (n≤k):=decide_eq_decide.2 Om
theorem a5B {C:Ctx} (n:Nat):xX.wp C (aT EC.res (aD (.bool (eT n)))) (PF.args [.int .u8 n]) .nil:=by
 have h1:=dge (n:=n) 97
 have h2:=dle (n:=n) 122
 have h3:=dge (n:=n) 65
 have h4:=dle (n:=n) 90
 simp only[Int.cast_ofNat_Int] at h1 h2 h3 h4
 unfold eT
 generalize decide (97≤n)=a at *
 generalize decide (n≤122)=b at *
 generalize decide (65≤n)=c at *
 generalize decide (n≤90)=d at *
 cases a<;>cases b<;>cases c<;>cases d
 all_goals
  simp only[go_sem,γ,reduceCtorEq,xX,aiT,aiU,EC,h1,h2,h3,h4]
  refine aM (.inr rfl) rfl ?_
  rfl
theorem bcW {C:Ctx} (n:Nat):CE.wp C (aT QZ.res (aD (.bool (kM n)))) (PF.args [.int .u8 n]) .nil:=by
 have h1:=dge (n:=n) 48
 have h2:=dle (n:=n) 57
 simp only[Int.cast_ofNat_Int] at h1 h2
 unfold kM
 generalize decide (48≤n)=a at *
 generalize decide (n≤57)=b at *
 cases a<;>cases b
 all_goals
  simp only[go_sem,γ,reduceCtorEq,CE,auO,auP,QZ,h1,h2]
  refine aM (.inr rfl) rfl ?_
  rfl
theorem a4X {C:Ctx} (h1:∀ n:Nat,aE C 65 [.int .u8 n] .nil (aD (.bool (eT n)))) (h2:∀ n:Nat,aE C 63 [.int .u8 n] .nil (aD (.bool (kM n)))) (n:Nat) :
  xV.wp C (aT EA.res (aD (.bool (fD n)))) (PF.args [.int .u8 n]) .nil:=by
 have g1:((n:Int)==45)=decide (n=45):=by by_cases h:n=45<;>simp[h]; omega
 have g2:((n:Int)==46)=decide (n=46):=by by_cases h:n=46<;>simp[h]; omega
 have k1:=h1 n
 have k2:=h2 n
 unfold fD
 generalize decide (n=45)=a at *
 generalize decide (n=46)=b at *
 simp only[go_sem,reduceCtorEq,xV,aiI,aiJ,EA]
 refine aA k1 rfl ?_
 cases eT n with
 | true =>
  simp only[go_sem,γ]
  refine aM (.inr rfl) rfl ?_
  rfl
 | false =>
  simp only[go_sem,γ,reduceCtorEq]
  refine aA k2 rfl ?_
  cases kM n<;>cases a<;>cases b
  all_goals
   simp only[go_sem,γ,reduceCtorEq,g1,g2]
   refine aM (.inr rfl) rfl ?_
   rfl
theorem a4Z {C:Ctx} (h1:∀ n:Nat,aE C 65 [.int .u8 n] .nil (aD (.bool (eT n)))) (h2:∀ n:Nat,aE C 64 [.int .u8 n] .nil (aD (.bool (fD n)))) (s:List UInt8) :
  xW.wp C (aT EB.res (aD (.bool (isName s)))) (PF.args [.str s]) .nil:=by
 simp only[go_sem,γ,reduceCtorEq,xW,aiL,aiM,EB]
 cases s with
 | nil =>
  have h0:decide (((0:Nat):Int)<1)=true:=rfl
  simp only[go_sem,γ,vG,bMD,h0]
  refine aM (.inr rfl) rfl ?_
  rfl
 | cons c t =>
  have hz:(c::t)[0]?=some c:=rfl
  have hN:isName (c::t)=(decide ((c::t).length≤16)&&eT c.toNat&&(c::t).all fun c=>fD c.toNat):=rfl
  have hpos:¬ (((c::t).length:Nat):Int)<1:=by simp only[bLU]; omega
  generalize c::t=s at *
  by_cases hl:s.length≤16
  ·have hl':¬ ((s.length:Nat):Int)>16:=by omega
   rw[decide_eq_true hl,bKE] at hN
   have k1:=h1 c.toNat
   simp only[go_sem,ν,γ,reduceCtorEq,hpos,hl',hz,bLF]
   refine aA k1 rfl ?_
   cases hc:eT c.toNat with
   | false =>
    simp only[go_sem,γ,reduceCtorEq,bKI,vG]
    refine aM (.inr rfl) rfl ?_
    rw[aV,hN,hc,bJZ]
   | true =>
    rw[hc,bKE] at hN
    simp only[go_sem,γ,reduceCtorEq,bKC,aiN]
    refine wp_loop (α:=Nat) (fun k=>((PF.nil.set 0 (.str s)).set 3 (.int .i64 k))) (fun _=>.nil) (fun k=>k≤s.length∧(s.take k).all (fun c=>fD c.toNat)=true) (fun k=>s.length-k) 0 ⟨bKF _,rfl⟩ Lq PH.nil_le ?_
    rintro k ⟨hk,ha⟩
    simp only[go_sem,γ,reduceCtorEq,aiK,aiO]
    by_cases hlt:k<s.length
    ·have bHW:(k:Int)<(s.length:Nat):=by omega
     have hat:s[k]?=some s[k]:=bKD hlt
     have k2:=h2 (s[k]).toNat
     simp only[go_sem,γ,reduceCtorEq,bHW,aiP,hat,bLF]
     refine aA k2 rfl ?_
     cases hi:fD (s[k]).toNat with
     | false =>
      simp only[go_sem,γ,reduceCtorEq,bKI,aiQ]
      refine aM (.inr rfl) rfl ?_
      rw[aV,hN,mU hlt hi]
     | true =>
      simp only[go_sem,γ,reduceCtorEq,bKC,aiR,wZz k]
      exact aH (k+1) ⟨hlt,by simpa using mT hlt ha hi⟩ Om Lq PH.le_refl
    ·have bHW:¬ (k:Int)<(s.length:Nat):=by omega
     have:k=s.length:=by omega
     subst this
     rw[bKS] at ha
     simp only[go_sem,bHW,aiS]
     refine aM (.inr rfl) rfl ?_
     rw[aV,hN,ha]
  ·have hl':((s.length:Nat):Int)>16:=by omega
   rw[decide_eq_false hl,bJZ,bJZ] at hN
   simp only[go_sem,γ,reduceCtorEq,hpos,hl',vG]
   refine aM (.inr rfl) rfl ?_
   rw[aV,hN]
def EL (k m:Int):Bool:=within k 1 6&&(within m 0 4&&decide (k+m≤8))
theorem biE {C:Ctx} (k m:Int):lT.wp C (aT uV.res (aD (.bool (EL k m)))) (PF.args [.int .i64 k,.int .i64 m]) .nil:=by
 unfold EL within
 by_cases h1:1≤k
 ·by_cases h2:k≤6
  ·by_cases h3:0≤m
   ·by_cases h4:m≤4
    ·have hw:IntKind.i64.wrap (k+m)=k+m:=wrap_i64 Om Om
     simp only[go_sem,γ,reduceCtorEq,lT,sD,sE,uV,ge_iff_le,h1,h2,h3,h4,hw]
     refine aM (.inr rfl) rfl ?_
     simp[aV,h1,h2,h3,h4]
    ·simp only[go_sem,γ,reduceCtorEq,lT,sD,sE,uV,ge_iff_le,h1,h2,h3,h4]
     refine aM (.inr rfl) rfl ?_
     simp[aV,h1,h2,h3,h4]
   ·simp only[go_sem,γ,reduceCtorEq,lT,sD,sE,uV,ge_iff_le,h1,h2,h3]
    refine aM (.inr rfl) rfl ?_
    simp[aV,h1,h2,h3]
  ·simp only[go_sem,γ,reduceCtorEq,lT,sD,sE,uV,ge_iff_le,h1,h2]
   refine aM (.inr rfl) rfl ?_
   simp[aV,h1,h2]
 ·simp only[go_sem,γ,reduceCtorEq,lT,sD,sE,uV,ge_iff_le,h1]
  refine aM (.inr rfl) rfl ?_
  simp[aV,h1]
theorem a5P {C:Ctx} (n lo hi:Int):rK.wp C (aT wH.res (aD (.bool (within n lo hi)))) (PF.args [.int .i64 n,.int .i64 lo,.int .i64 hi]) .nil:=by
 unfold within
 by_cases h:lo≤n
 ·simp only[go_sem,γ,reduceCtorEq,rK,KQ,KR,wH,ge_iff_le,h]
  refine aM (.inr rfl) rfl ?_
  simp[aV,h]
 ·simp only[go_sem,γ,reduceCtorEq,rK,KQ,KR,wH,ge_iff_le,h]
  refine aM (.inr rfl) rfl ?_
  simp[aV,h]
def nB (a b c d e f:Nat):Bool:=decide (a≤4)&&(decide (b≤4)&&(decide (c≤40)&&(decide (d≤24)&&(decide (e≤4)&&decide (f≤12)))))
theorem bdR {C:Ctx} (a b c d e f:Nat):CM.wp C (aT RK.res (aD (.bool (nB a b c d e f)))) (PF.args [.int .i64 a,.int .i64 b,.int .i64 c,.int .i64 d,.int .i64 e,.int .i64 f]) .nil:=by
 have g:∀ x k:Nat,decide ((x:Int)≤(k:Int))=decide (x≤k):=fun x k=>decide_eq_decide.2 Om
 have h1:=g a 4
 have h2:=g b 4
 have h3:=g c 40
 have h4:=g d 24
 have h5:=g e 4
 have h6:=g f 12
 simp only[Int.cast_ofNat_Int] at h1 h2 h3 h4 h5 h6
 unfold nB
 simp only[go_sem,γ,reduceCtorEq,CM,avN,avO,RK,h1]
 cases decide (a≤4) with
 | false =>
  simp only[go_sem,γ,reduceCtorEq]
  refine aM (.inr rfl) rfl ?_
  rfl
 | true =>
  simp only[go_sem,γ,h2]
  cases decide (b≤4) with
  | false =>
   simp only[go_sem,γ,reduceCtorEq]
   refine aM (.inr rfl) rfl ?_
   rfl
  | true =>
   simp only[go_sem,γ,h3]
   cases decide (c≤40) with
   | false =>
    simp only[go_sem,γ,reduceCtorEq]
    refine aM (.inr rfl) rfl ?_
    rfl
   | true =>
    simp only[go_sem,γ,h4]
    cases decide (d≤24) with
    | false =>
     simp only[go_sem,γ,reduceCtorEq]
     refine aM (.inr rfl) rfl ?_
     rfl
    | true =>
     simp only[go_sem,γ,h5]
     cases decide (e≤4) with
     | false =>
      simp only[go_sem,γ,reduceCtorEq]
      refine aM (.inr rfl) rfl ?_
      rfl
     | true =>
      simp only[go_sem,γ,h6]
      refine aM (.inr rfl) rfl ?_
      rfl
structure ZZ (C:Ctx):Prop extends aZB C where
 sum:∀ l:List RF,(∀ x∈l,x.Ok)→l.length≤9223372036854775807→aE C 55 [frs l] .nil (aD (frV (nD (l.map RF.v))))
 inn:∀ n lo hi:Int,aE C 76 [.int .i64 n,.int .i64 lo,.int .i64 hi] .nil (aD (.bool (within n lo hi)))
 code:∀ k m:Int,aE C 61 [.int .i64 k,.int .i64 m] .nil (aD (.bool (EL k m)))
def HP (k m q s0 s1 s2 s3 s4:Int):Bool:=EL k m&&(within q k (k+m)&&(decide (s0=0)&&(within s1 0 8&&(within s2 0 8&&(within s3 0 8&&within s4 0 8)))))
theorem boG (p:cZ):HO p=HP p.k p.m p.bIT p.s0 p.s1 p.s2 p.s3 p.s4:=by
 unfold HO HP EL
 have:within p.s0 0 8=true∨p.s0≠0:=by
  by_cases h:p.s0=0
  ·rw[h]; exact .inl rfl
  ·exact .inr h
 simp only[List.all_cons,List.all_nil,bLT]
 rcases this with h | h
 ·rw[h]
  simp only[bKE,bMS]
 ·simp only[h,decide_false,bJZ,bLC]
def spR (s1 s2 s3 s4:Int) (k:Nat):Int:=match k with
 | 1=>s1
 | 2=>s2
 | 3=>s3
 | _=>s4
theorem aOQ {C:Ctx} (L:ZZ C) (k m q s0 s1 s2 s3 s4:Int) :
  uE.wp C (aT yA.res (aD (.bool (HP k m q s0 s1 s2 s3 s4)))) (PF.args [.int .i64 k,.int .i64 m,.int .i64 q,.agg [.int .i64 s0,.int .i64 s1,.int .i64 s2,.int .i64 s3,.int .i64 s4]]) .nil:=by
 obtain⟨X,hX⟩:∃ X,HP k m q s0 s1 s2 s3 s4=X:=⟨_,rfl⟩
 rw[hX]
 unfold HP at hX
 simp only[go_sem,γ,reduceCtorEq,uE,WD,WE,yA]
 refine aA (L.code k m) rfl ?_
 cases h1:EL k m with
 | false =>
  rw[h1,bJZ] at hX
  simp only[go_sem,γ,bKI,sX]
  refine aM (.inr rfl) rfl ?_
  rw[aV,hX]
 | true =>
  rw[h1,bKE] at hX
  have hb:1≤k∧k≤6∧0≤m∧m≤4:=by
   simp only[EL,bKR,within_iff] at h1
   omega
  have hw:IntKind.i64.wrap (k+m)=k+m:=wrap_i64 Om Om
  simp only[go_sem,γ,reduceCtorEq,bKC,hw]
  refine aA (L.inn q k (k+m)) rfl ?_
  cases h2:within q k (k+m) with
  | false =>
   rw[h2,bJZ] at hX
   simp only[go_sem,γ,reduceCtorEq,bKI,sX]
   refine aM (.inr rfl) rfl ?_
   rw[aV,hX]
  | true =>
   rw[h2,bKE] at hX
   have l50:(0:Int)<((5:Nat):Int):=by decide
   by_cases h3:s0=0
   ·rw[decide_eq_true h3,bKE] at hX
    simp only[go_sem,ν,δ,γ,θ,ζ,reduceCtorEq,bKC,l50,cH h3,WF]
    refine wp_loop (α:=Nat) (fun j=>((PF.nil.set 7 (.bH [.int .i64 s0,.int .i64 s1,.int .i64 s2,.int .i64 s3,.int .i64 s4])).set 9 (.int .i64 j))) (fun _=>.nil) (fun j=>1≤j∧j≤5∧∀ i,1≤i→i<j→within (spR s1 s2 s3 s4 i) 0 8=true) (fun j=>5-j) 1 ⟨by decide,by decide,fun i h1 h2=>by omega⟩ Lq PH.nil_le ?_
    rintro j ⟨hj1,hj5,bJG⟩
    simp only[go_sem,γ,WC,WG]
    by_cases hlt:j<5
    ·have bHW:(j:Int)<5:=by omega
     have hlt5:((j:Nat):Int)<((5:Nat):Int):=by omega
     have hin:=L.inn (spR s1 s2 s3 s4 j) 0 8
     obtain⟨c,hc2⟩:∃ c,within (spR s1 s2 s3 s4 j) 0 8=c:=⟨_,rfl⟩
     rw[hc2] at hin
     have bHX:c=true→∀ i,1≤i→i<j+1→within (spR s1 s2 s3 s4 i) 0 8=true:=fun hc i a b=>by
      by_cases e:i=j
      ·rw[e,hc2,hc]
      ·exact bJG i a Om
     have bad:c=false→X=false:=by
      intro h
      rw[h] at hc2
      have hc:j=1∨j=2∨j=3∨j=4:=by omega
      rw[← hX]
      rcases hc with rfl | rfl | rfl | rfl<;>(simp only[spR] at hc2; rw[hc2]; simp)
     have hc:j=1∨j=2∨j=3∨j=4:=by omega
     cases c with
     | false =>
      have hXf:=bad rfl
      rcases hc with rfl | rfl | rfl | rfl
      all_goals
       simp only[spR] at hin
       simp only[go_sem,δ,γ,θ,ζ,ε,bHW,CL,hlt5]
       refine aA hin rfl ?_
       simp only[go_sem,γ,bKI,WH]
       refine aM (.inr rfl) rfl ?_
       rw[aV,hXf]
     | true =>
      have hs:=bHX rfl
      rcases hc with rfl | rfl | rfl | rfl
      all_goals
       simp only[spR] at hin
       simp only[go_sem,δ,γ,θ,ζ,ε,bHW,CL,hlt5]
       refine aA hin rfl ?_
       simp only[go_sem,γ,bKC,WI]
       refine aH (_+1) ⟨by omega,hlt,hs⟩ Om Lq PH.le_refl
    ·have bHW:¬ (j:Int)<5:=by omega
     have:j=5:=by omega
     subst this
     simp only[go_sem,ε,bHW,WJ]
     refine aM (.inr rfl) rfl ?_
     have a1:=bJG 1 (by decide) (by decide)
     have a2:=bJG 2 (by decide) (by decide)
     have a3:=bJG 3 (by decide) (by decide)
     have a4:=bJG 4 (by decide) (by decide)
     simp only[spR] at a1 a2 a3 a4
     rw[aV,← hX,a1,a2,a3,a4]
     rfl
   ·rw[decide_eq_false h3,bJZ] at hX
    simp only[go_sem,ν,δ,γ,θ,ζ,reduceCtorEq,bKC,l50,cT h3,sX]
    refine aM (.inr rfl) rfl ?_
    rw[aV,hX]
theorem nM {x:RF} (h:cG x=true):x.valid:=by
 unfold cG mG at h
 unfold RF.valid
 cases hv:cM (val x.num) (val x.den) with
 | true=>rfl
 | false =>
  rw[hv] at h
  simp at h
theorem bdT {C:Ctx} (L:ZZ C) (x:RF) (hx:x.Ok):CN.wp C (aT RL.res (aD (.bool (cG x)))) (PF.args [.agg x.cells]) .nil:=by
 have hr:=L.red x hx
 unfold cG
 simp only[go_sem,δ,γ,CN,avP,avQ,RL]
 refine aA hr rfl ?_
 cases he:mG x with
 | error e =>
  have h0:=aHL he
  simp only[go_sem,δ,γ,frV]
  refine aR fun o ho=>?_
  simp only[go_sem,δ,γ,reduceCtorEq,zM,bB h0]
  refine aM (.inr rfl) rfl ?_
  rfl
 | ok r =>
  obtain⟨n,a,b⟩:=r
  have ea:=kI a 1
  have eb:=kI b 1
  have da:decide (((nl a:Nat):Int)≤1)=decide (cC a≤32):=decide_eq_decide.2 Om
  have db:decide (((nl b:Nat):Int)≤1)=decide (cC b≤32):=decide_eq_decide.2 Om
  simp only[go_sem,δ,γ,frV]
  refine aR fun o ho=>?_
  cases n with
  | true =>
   simp only[go_sem,ρ,δ,γ,θ,reduceCtorEq,zM,bKC]
   refine aM (.inr rfl) rfl ?_
   rfl
  | false =>
   simp only[go_sem,ρ,δ,γ,θ,zM,bKI,bJT,aZ,da]
   cases decide (cC a≤32) with
   | false =>
    simp only[go_sem,γ,reduceCtorEq]
    refine aM (.inr rfl) rfl ?_
    rfl
   | true =>
    simp only[go_sem,δ,γ,bJT,aZ,db]
    refine aM (.inr rfl) rfl ?_
    rfl
structure akO (C:Ctx):Prop extends ZZ C where
 small:∀ x:RF,x.Ok→aE C 74 [.agg x.cells] .nil (aD (.bool (cG x)))
 nums:∀ k m q s0 s1 s2 s3 s4:Int,aE C 72 [.int .i64 k,.int .i64 m,.int .i64 q,.agg [.int .i64 s0,.int .i64 s1,.int .i64 s2,.int .i64 s3,.int .i64 s4]] .nil (aD (.bool (HP k m q s0 s1 s2 s3 s4)))
 sizes:∀ a b c d e f:Nat,aE C 73 [.int .i64 a,.int .i64 b,.int .i64 c,.int .i64 d,.int .i64 e,.int .i64 f] .nil (aD (.bool (nB a b c d e f)))
theorem acO {l:List RF} {k:Nat} (h:k<l.length):(l.map RF.cells)[k]?=some (l[k]).cells:=by simp[h]
theorem a5N {C:Ctx} (L:akO C) (l:List RF) (hl:jG l) (n:Int):yB.wp C (aT ED.res (aD (.bool (decide ((l.length:Int)=n)&&l.all cG)))) (PF.args [frs l,.int .i64 n]) .nil:=by
 have hf:=hl.fits
 unfold Fits at hf
 simp only[go_sem,γ,reduceCtorEq,yB,ajJ,ajK,ED,bJT]
 by_cases h:((l.length:Nat):Int)=n
 ·rw[decide_eq_true h,bKE]
  subst h
  simp only[go_sem,cH (show ((l.length:Nat):Int)=(l.length:Nat) from rfl),ajM]
  refine wp_loop (α:=Nat) (fun k=>(((PF.nil.set 0 (frs l)).set 1 (.int .i64 (l.length:Nat))).set 5 (.int .i64 k))) (fun _=>.nil) (fun k=>k≤l.length∧(l.take k).all cG=true) (fun k=>l.length-k) 0 ⟨bKF _,rfl⟩ Lq PH.nil_le ?_
  rintro k ⟨hk,ha⟩
  simp only[go_sem,γ,reduceCtorEq,ajI,ajN]
  by_cases hlt:k<l.length
  ·have bHW:(k:Int)<(l.length:Nat):=by omega
   have hs:=L.small l[k] (hl.all _ (bJX hlt))
   simp only[go_sem,δ,γ,reduceCtorEq,bHW,ajO,acO hlt]
   refine aA hs rfl ?_
   cases hi:cG l[k] with
   | false =>
    simp only[go_sem,γ,reduceCtorEq,bKI,ajP]
    refine aM (.inr rfl) rfl ?_
    rw[aV,mU hlt hi]
   | true =>
    have ha2:=bKQ.1 (mT hlt ha hi)
    simp only[go_sem,γ,reduceCtorEq,bKC,ajQ,wZz k]
    exact aH (k+1) ⟨hlt,ha2⟩ Om Lq PH.le_refl
  ·have bHW:¬ (k:Int)<(l.length:Nat):=by omega
   have:k=l.length:=by omega
   subst this
   rw[bKS] at ha
   simp only[go_sem,bHW,ajR]
   refine aM (.inr rfl) rfl ?_
   rw[aV,ha]
 ·rw[decide_eq_false h,bJZ]
  simp only[go_sem,cT h,ajL]
  refine aM (.inr rfl) rfl ?_
  rfl
structure akP (C:Ctx):Prop extends akO C where
 smalls:∀ l:List RF,jG l→∀ n:Int,aE C 75 [frs l,.int .i64 n] .nil (aD (.bool (decide ((l.length:Int)=n)&&l.all cG)))
theorem IE (x:RF):(oX x==0)=!bZ x:=by
 unfold oX bZ
 by_cases h:val x.num=0
 ·simp[h]
 ·cases x.neg<;>simp[h]
def YV (l:List RF) (m:Int):Bool:=decide ((l.length:Int)=max m 1)&&l.all cG&&l.all bZ
theorem bqH {C:Ctx} (L:akP C) (l:List RF) (hl:jG l) (m:Int):RJ.wp C (aT aNC.res (aD (.bool (YV l m)))) (PF.args [frs l,.int .i64 m]) .nil:=by
 have hf:=hl.fits
 unfold Fits at hf
 have hs:=L.smalls l hl (max m 1)
 unfold YV
 simp only[go_sem,γ,reduceCtorEq,RJ,aYP,aYQ,aNC,max_eq]
 refine aA hs rfl ?_
 cases h:(decide ((l.length:Int)=max m 1)&&l.all cG) with
 | false =>
  simp only[go_sem,γ,bKI,aYR]
  refine aM (.inr rfl) rfl ?_
  rfl
 | true =>
  rw[bKR] at h
  have bJG:=bKQ.1 h.2
  simp only[go_sem,γ,bKC,aYS]
  refine wp_loop (α:=Nat) (fun k=>((PF.nil.set 0 (frs l)).set 5 (.int .i64 k))) (fun _=>.nil) (fun k=>k≤l.length∧(l.take k).all bZ=true) (fun k=>l.length-k) 0 ⟨bKF _,rfl⟩ Lq PH.nil_le ?_
  rintro k ⟨hk,ha⟩
  simp only[go_sem,γ,reduceCtorEq,aYO,aYT,bJT]
  by_cases hlt:k<l.length
  ·have bHW:(k:Int)<(l.length:Nat):=by omega
   have hm:=bJX hlt
   have hg:=L.sign l[k] (hl.all _ hm) (nM (bJG _ hm))
   have hz:=IE l[k]
   simp only[go_sem,δ,γ,reduceCtorEq,bHW,aYU,acO hlt]
   refine aA hg rfl ?_
   cases hi:bZ l[k] with
   | false =>
    rw[hi] at hz
    simp only[go_sem,γ,reduceCtorEq,hz,bKI,aYV]
    refine aM (.inr rfl) rfl ?_
    rw[aV,mU hlt hi]
   | true =>
    rw[hi] at hz
    have ha2:=bKQ.1 (mT hlt ha hi)
    simp only[go_sem,γ,reduceCtorEq,hz,bKC,aYW,wZz k]
    exact aH (k+1) ⟨hlt,ha2⟩ Om Lq PH.le_refl
  ·have bHW:¬ (k:Int)<(l.length:Nat):=by omega
   have:k=l.length:=by omega
   subst this
   rw[bKS] at ha
   simp only[go_sem,bHW,aYX]
   refine aM (.inr rfl) rfl ?_
   rw[aV,ha]
structure akQ (C:Ctx):Prop extends akP C where
 reps:∀ l:List RF,jG l→∀ m:Int,aE C 66 [frs l,.int .i64 m] .nil (aD (.bool (YV l m)))
def frD:List PV→RF
 | [.bool n,a,b]=>⟨n,gW a,gW b⟩
 | _=>⟨false,[],[]⟩
theorem aoV (x:RF):frD x.cells=x:=by
 show (⟨x.neg,gW (aF x.num),gW (aF x.den)⟩:RF)=x
 rw[dX,dX]
def zdS (r s:Bool):Spec:=fun name vs=>match name,vs with
 | 66,_=>some ([],fun _=>aD (.bool r))
 | 74,[.agg cs]=>some ([],fun _=>aD (.bool (cG (frD cs))))
 | 47,_=>some ([],fun _=>aD (.agg (mkT 1 1).cells))
 | 49,_=>some ([],fun _=>aD (.bool s))
 | _,_=>none
theorem avD (r s:Bool) (x:RF):zdS r s 74 [.agg x.cells]=some ([],fun _=>aD (.bool (cG x))):=by
 show some ([],fun _=>aD (.bool (cG (frD x.cells))))=_
 rw[aoV]
theorem a8W (x y:RF):mZ y x=- mZ x y:=by
 unfold mZ pE
 have e:=anM (val x.num*val y.den) (val y.num*val x.den)
 cases x.neg&&decide (val x.num≠0)<;>cases y.neg&&decide (val y.num≠0)<;>simp only[e,Int.neg_neg]<;>rfl
theorem bgY {x:RF} (hx:x.valid):decide (mZ (mkT 1 1) x<0)=!rW x:=by
 rw[a8W x]
 unfold rW
 rw[show cM (val x.num) (val x.den)=true from hx,bKE,DJ]
 unfold mZ
 simp only[aS,show (1:Int).natAbs=1 from rfl,show decide ((1:Int)<0)=false from rfl]
 by_cases h:pE x.neg (val x.num) (val x.den) false 1 1≤0
 ·rw[decide_eq_true h,decide_eq_false Om]; rfl
 ·rw[decide_eq_false h,decide_eq_true Om]; rfl
def MD (m:Int) (rep:List RF) (t h:RF):Bool:=YV rep m&&(cG t&&(rW t&&cG h))
theorem bqD {C:Ctx} (L:akQ C) (m:Int) (rep:List RF) (hr:jG rep) (t h:RF) (ht:t.Ok) (hh:h.Ok) :
  RD.wp C (aT aMN.res (aD (.bool (MD m rep t h)))) (PF.args [.int .i64 m,frs rep,.agg t.cells,.agg h.cells]) .nil:=by
 have h1:cU 1:=by unfold cU; omega
 unfold MD
 simp only[go_sem,γ,RD,aYE,aMN]
 refine bR .nil (zdS (YV rep m) (!rW t)) PH.nil_le ?_
 simp only[go_sem,γ,reduceCtorEq,aYF]
 refine bJ rfl (L.reps rep hr m) rfl PH.nil_le ?_
 cases YV rep m with
 | false =>
  simp only[go_sem,γ,reduceCtorEq]
  refine aM (.inr rfl) rfl ?_
  rfl
 | true =>
  simp only[go_sem,δ,γ]
  refine bJ (avD _ _ t) (L.small t ht) rfl PH.nil_le ?_
  cases hl:cG t with
  | false =>
   simp only[go_sem,γ,reduceCtorEq]
   refine aM (.inr rfl) rfl ?_
   rfl
  | true =>
   have hle:=L.less (mkT 1 1) t (DI 1 h1).1 ht (DI 1 h1).2 (nM hl)
   rw[bgY (nM hl)] at hle
   simp only[go_sem,γ]
   refine bJ rfl (L.int 1 h1) rfl PH.nil_le ?_
   simp only[go_sem,δ,γ]
   refine bJ rfl hle rfl PH.nil_le ?_
   cases rW t with
   | false =>
    simp only[go_sem,γ,reduceCtorEq,bKI,bKC]
    refine aM (.inr rfl) rfl ?_
    rfl
   | true =>
    simp only[go_sem,δ,γ,bKC,bKI]
    refine bJ (avD _ _ h) (L.small h hh) rfl PH.nil_le ?_
    simp only[go_sem,γ]
    refine aM (.inr rfl) rfl ?_
    rfl
theorem brA (p:cZ):yX p=MD p.m p.repair p.target p.bIB:=by
 unfold yX MD YV
 have:(p.repair.all fun x=>cG x&&bZ x)=(p.repair.all cG&&p.repair.all bZ):=by
  induction p.repair with
  | nil=>rfl
  | cons a t ih =>
   simp only[List.all_cons,ih]
   cases cG a<;>cases bZ a<;>simp
 rw[this]
 simp only[bMS]
section
variable {H:PH} {B:List BX} {L:List LI}
theorem aQ.aZF (h:aQ H B L) (i:Nat) {s b:Nat} {v y:PV} {rows src:List (List PV)} {K:PV→PH→Prop} (hi:L[i]?=some (v,s,rows)) (hy:dU H s y=some src) (hr:roomFor rows.length src.length b)
  (hk:∀ v' H',bL H' s v rows→aQ H' B (L.set i (v',s,rows++src))→K v' H'):kY H s b v y K:=by
 rcases h.own i hi with ⟨rfl,rfl⟩ | ⟨q,rs,rfl,h1,h2,h3⟩
 ·exact h.append i hi hy hr fun v' H' h' _=>hk v' H' (.inl ⟨rfl,rfl⟩) h'
 ·have hlen:(rows++src).length=rows.length+src.length:=bKA
  refine⟨src,hy,rfl,rfl,hr,rs,h1,h2,?_,fun o ho=>?_⟩
  ·rw[h3]
   refine hk _ _ (.inr ⟨q,rows++src,rfl,by rw[fN],by rw[hlen]; omega,List.take_left' rfl⟩) (h.zD i hi (.inr ⟨q,rows++src,by rw[hlen],by simp only[bS,if_true],bJV _,bKS⟩) (fun p hp=>by cases hp; exact .inl rfl) fun p _ hp=>?_)
   rw[bS,if_neg (hp q rfl)]
  ·rw[h3]
   have hqo:q≠o:=by rintro rfl; rw[h1] at ho; cases ho
   refine hk _ _ (.inr ⟨q,rs,rfl,by rw[bS,if_neg hqo]; exact h1,h2,h3⟩) (h.zD i hi (.inr ⟨o,rows++src,by rw[hlen],by simp only[bS,if_true],bJV _,bKS⟩) (fun p hp=>by cases hp; exact .inr ho) fun p hpm hp=>?_)
   obtain⟨f1,f2⟩:=h.fresh ho
   have n1:p≠o:=by rintro rfl; exact hpm.elim f1 f2
   rw[bS,if_neg n1]
end
abbrev kO (l:List (List UInt8)):List (List PV):=l.map fun s=>[PV.str s]
def wY:List (List UInt8)→List UInt8→Nat→Int
 | [],_,_=>-1
 | x::t,s,i=>if x==s then (i:Int) else wY t s (i+1)
theorem aCW (s:List UInt8):∀ (l:List (List UInt8)) (i:Nat),decide (wY l s i<0)=!l.contains s
 | [],i=>rfl
 | x::t,i=>by
  rw[wY,List.contains_cons,BEq.comm (a:=s)]
  by_cases h:(x==s)=true
  ·rw[if_pos h,h,Bool.true_or,decide_eq_false Om]; rfl
  ·rw[if_neg h,aCW s t (i+1)]
   simp only[Bool.not_eq_true] at h
   rw[h,Bool.false_or]
theorem bdO {C:Ctx} (l:List (List UInt8)) (hl:l.length≤1000000) (s:List UInt8):CK.wp C (aT RG.res (aD (.int .i64 (wY l s 0)))) (PF.args [.sl 1 (kO l),.str s]) .nil:=by
 simp only[go_sem,CK,avH,avI,RG]
 refine wp_loop (α:=Nat) (fun k=>(((PF.nil.set 0 (.sl 1 (kO l))).set 1 (.str s)).set 5 (.int .i64 k))) (fun _=>.nil) (fun k=>k≤l.length∧wY l s 0=wY (l.drop k) s k) (fun k=>l.length-k) 0 ⟨bKF _,rfl⟩ Lq PH.nil_le ?_
 rintro k ⟨hk,ha⟩
 simp only[go_sem,γ,reduceCtorEq,avG,avJ,bJT]
 by_cases hlt:k<l.length
 ·have bHW:(k:Int)<(l.length:Nat):=by omega
  have hat:(kO l)[k]?=some [.str l[k]]:=by simp[hlt]
  rw[bLP hlt,wY] at ha
  cases hc:l[k]==s with
  | true =>
   rw[hc,if_pos rfl] at ha
   simp only[go_sem,γ,reduceCtorEq,bHW,RH,hat,hc,avK]
   refine aM (.inr rfl) rfl ?_
   rw[aV,ha]
  | false =>
   rw[hc,if_neg (by decide)] at ha
   simp only[go_sem,γ,reduceCtorEq,bHW,RH,hat,hc,avL,wZz k]
   exact aH (k+1) ⟨hlt,ha⟩ Om Lq PH.le_refl
 ·have bHW:¬ (k:Int)<(l.length:Nat):=by omega
  have:k=l.length:=by omega
  subst this
  rw[List.drop_length,wY] at ha
  simp only[go_sem,ο,bHW,avM]
  refine aM (.inr rfl) rfl ?_
  rw[aV,ha]
structure akR (C:Ctx):Prop extends akQ C where
 name:∀ s:List UInt8,aE C 62 [.str s] .nil (aD (.bool (isName s)))
 index:∀ (l:List (List UInt8)),l.length≤1000000→∀ s:List UInt8,aE C 71 [.sl 1 (kO l),.str s] .nil (aD (.int .i64 (wY l s 0)))
def gX (l:List (List UInt8)) (s:List UInt8):Bool:=isName s&&!l.contains s
def ZW (l:List (List UInt8)) (s:List UInt8) (r:PV) (B:List BX) (L:List LI):Prop:=∃ w',r=.tup [w',.bool (gX l s)]∧B=[]∧L=[(w',1,kO (l++[s]))]
theorem bdM {C:Ctx} (L:akR C) (l:List (List UInt8)) (hl:l.length≤1000000) (s:List UInt8) (w:PV) (H:PH) (hH:aQ H [] [(w,1,kO l)]) :
  CJ.wp C (aT RE.res (fun r H'=>∃ B' L',ZW l s r B' L'∧aQ H' B' L')) (PF.args [w,.str s]) H:=by
 have hix:=L.index l hl s
 have hnm:=L.name s
 have hneg:=aCW s l 0
 have h11:(1:Nat)*1≤16777216:=by decide
 have fin:∀ (F:PF) (H':PH) (w':PV) (b:Bool),F 4=some w'→F 5=some (.bool b)→b=gX l s→aQ H' [] [(w',1,kO (l++[s]))]→aT [.tmp 4,.tmp 5] (fun r H'=>∃ B' L',ZW l s r B' L'∧aQ H' B' L') .ret F H':=fun F H' w' b f4 f5 e h' =>
  aX (vs:=[w',.bool b]) (.inr rfl) H' (by simp only[go_sem,f4,f5]) PH.le_refl ⟨[],_,⟨w',by rw[e]; rfl,rfl,rfl⟩,h'⟩
 simp only[go_sem,υ,γ,η,ζ,reduceCtorEq,CJ,avE,avF,RE,h11]
 refine hH.aZF 0 (src:=[[.str s]]) rfl rfl (by unfold roomFor; rw[bJT]; simp only[bKH,maxLen]; omega) fun w' H' hO h'=>?_
 have h'':aQ H' [] [(w',1,kO (l++[s]))]:=by
  have e:kO (l++[s])=kO l++[[.str s]]:=by simp[kO]
  rw[e]; exact h'
 refine aA hnm rfl ?_
 cases hn:isName s with
 | false =>
  simp only[go_sem,γ,reduceCtorEq]
  exact fin _ _ w' false rfl rfl (by unfold gX; rw[hn,bJZ]) h''
 | true =>
  have hfb:gX l s=!l.contains s:=by unfold gX; rw[hn,bKE]
  rcases hO with ⟨z1,rfl⟩ | ⟨q,rs,rfl,q1,q2,q3⟩
  ·simp only[go_sem,γ,reduceCtorEq]
   rw[z1] at hix
   have hix2:aE C 71 [.aB,.str s] .nil (aD (.int .i64 (wY l s 0))):=hix.args (.cons (.nil 1) (.cons (.refl _) .nil))
   refine aA hix2 rfl ?_
   simp only[go_sem,γ,hneg]
   exact fin _ _ w' _ rfl rfl hfb.symm h''
  ·simp only[go_sem,γ,reduceCtorEq]
   refine CG (vs:=[.osl q 1 0 (kO l).length,.str s]) (.int .i64 (wY l s 0)) ?_ q1 Sq ?_
   ·rw[bLX,bLX,List.map_nil,nJ q2,q3]
    exact hix
   simp only[go_sem,γ,hneg]
   exact fin _ _ w' _ rfl rfl hfb.symm h''
theorem baC {x:RF} (h:cG x=true):decide (oX x>0)=bZ x:=by
 have hv:=nM h
 unfold cG mG at h
 rw[show cM (val x.num) (val x.den)=true from hv,if_pos rfl,XV hv] at h
 unfold oX bZ
 by_cases h0:val x.num=0
 ·simp[h0]
 ·have hq:val x.num/bJY (val x.num) (val x.den)≠0:=by
   have:=Nat.div_pos (Nat.gcd_le_left (val x.den) (bMB h0)) (Nat.gcd_pos_of_pos_left _ (bMB h0))
   omega
  have hn:x.neg=false:=by
   unfold kU at h
   simp only[hq,ne_eq,not_false_eq_true,decide_true,bLT,bKR] at h
   simpa using h.1
  rw[if_neg h0,hn]
  simp[h0]
structure awY (l:cJ):Prop where
 exit:∀ x∈l.exit,cG x=true
 row:∀ r∈l.bHU,∀ x∈r,cG x=true
structure nE (C:Ctx):Prop extends akR C where
 fresh:∀ (l:List (List UInt8)),l.length≤1000000→∀ (s:List UInt8) (w:PV) (H:PH),aQ H [] [(w,1,kO l)]→aE C 70 [w,.str s] H (fun r H'=>∃ B' L',ZW l s r B' L'∧aQ H' B' L')
theorem nE.pos {C:Ctx} (L:nE C) {x:RF} (hx:x.Ok) (h:cG x=true):∃ n:Int,aE C 54 [.agg x.cells] .nil (aD (.int .i64 n))∧decide (n>0)=bZ x:=⟨_,L.sign x hx (nM h),baC h⟩
def zlF (l:cJ) (o r i:Nat):PF:=(((((PF.nil.set 1 (.bH l.cells)).set 3 (.int .i64 (l.exit.length:Nat))).set 7 (.osl o 1 0 l.exit.length)).set 8 (.int .i64 r)).set 9 (.int .i64 i))
theorem bjX {C:Ctx} (L:nE C) (l:cJ) (o r i:Nat) (row:List RF) (hri:(l.bHU.map fun r=>[frs r])[i]?=some [frs row]) (bIC:jG row) (hlim:∀ x∈row,cG x=true) (hrl:row.length=l.exit.length) (hi:i<l.exit.length) (hn:l.exit.length≤4) (R1:List Bool) (hR:R1.length=l.exit.length) (K:cN) [Up K] (F:PF) (H:PH)
  (hF:((zlF l o r i).set 10 (.int .i64 0)).le F) (hH:(gE o R1).le H)
  (hK:K (.exit 6) (zlF l o r i) (gE o (cO R1 i row row.length))):aC.wp C (.loop JV) K F H:=by
 refine wp_loop (α:=Nat) (fun k=>(zlF l o r i).set 10 (.int .i64 k)) (fun k=>gE o (cO R1 i row k)) (fun k=>k≤row.length) (fun k=>row.length-k) 0 (bKF _) hF hH ?_
 intro k hk
 have hlen:=rA R1 i row k
 have hstep':∀ h:k<row.length,cO R1 i row (k+1)=(cO R1 i row k).set i ((cO R1 i row k).getD i false||bZ row[k]&&(cO R1 i row k).getD k false):=fun h=>by
  simp only[cO,bKO,bKZ,bKD h,bLF,bMJ]
 have fin:∀ (b:Bool) (F:PF) (H:PH),k<row.length→fR (cO R1 i row (k+1))=(fR (cO R1 i row k)).set i [.bool b]→((zlF l o r i).set 10 (.int .i64 (k+1:Nat))).le F→H o=some (.rows 1 ((fR (cO R1 i row k)).set i [.bool b])) →
   eE (fun k:Nat=>(zlF l o r i).set 10 (.int .i64 k)) (fun k=>gE o (cO R1 i row k)) (fun k=>k≤row.length) (fun k=>row.length-k) (row.length-k) K .normal F H:=by
  intro b F H hlt hb hF hH
  refine aH (k+1) hlt Om hF ?_
  rw[← hb] at hH
  exact PH.aI PH.nil_le hH
 unfold zlF gE at fin
 simp only[go_sem,γ,JV,aMW,zlF,gE]
 by_cases hlt:k<row.length
 ·have bHW:(k:Int)<(l.exit.length:Nat):=by omega
  have hi':(i:Int)<(l.exit.length:Nat):=by omega
  have hat:=pA (R:=cO R1 i row k) (i:=i) Om
  have hatk:=pA (R:=cO R1 i row k) (i:=k) Om
  have bHX:=hstep' hlt
  obtain⟨n,hsn,hpos⟩:=L.pos (bIC.all _ (bJX hlt)) (hlim _ (bJX hlt))
  have hfr:=acO hlt
  generalize hb:(cO R1 i row k).getD i false=b at *
  generalize hc:(cO R1 i row k).getD k false=c at *
  generalize hA:bZ row[k]=A at *
  cases b with
  | true =>
   simp only[go_sem,γ,bHW,ZQ,hi',bKN,hat,JW,wZz k]
   exact fin true _ _ hlt (by rw[bHX,kL,Bool.true_or]) Lq Sq
  | false =>
   simp only[go_sem,δ,γ,θ,bHW,ZQ,hi',bKN,hat,hri,hfr]
   refine aA hsn rfl ?_
   cases A with
   | false =>
    simp only[go_sem,γ,reduceCtorEq,hpos,hi',bHW,bKN,hat,hatk,JW,wZz k]
    exact fin false _ _ hlt (by rw[bHX,kL,Bool.false_or,bJZ]) Lq Sq
   | true =>
    simp only[go_sem,γ,reduceCtorEq,hpos,hi',bHW,bKN,hat,hatk,JW,wZz k]
    exact fin c _ _ hlt (by rw[bHX,kL,Bool.false_or,bKE]) Lq Sq
 ·have bHW:¬ (k:Int)<(l.exit.length:Nat):=by omega
  have:k=row.length:=by omega
  subst this
  simp only[go_sem,bHW]
  refine Up.up ?_ hK
  (repeat' (first|exact PF.nil_le|refine PF.aI ?_ ?_))<;>first|(simp only[go_sem,γ,zlF]<;>rfl)|rfl
theorem bjZ {C:Ctx} (L:nE C) (l:cJ) (hl:l.Ok) (he:yC l) (hm:awY l) (o r:Nat) (R:List Bool) (hR:R.length=l.exit.length) (K:cN) [Up K] (F:PF) (H:PH)
  (hF:(zlF l o r 0).le F) (hH:(gE o R).le H)
  (hK:K (.exit 4) (zlF l o r l.exit.length) (gE o (cX l R l.exit.length))):aC.wp C (.loop ZJ) K F H:=by
 refine wp_loop (α:=Nat) (fun i=>zlF l o r i) (fun i=>gE o (cX l R i)) (fun i=>i≤l.exit.length) (fun i=>l.exit.length-i) 0 (bKF _) hF hH ?_
 intro i hi
 have hlen:=nU l R i
 have hn:=he.n
 simp only[go_sem,γ,ZJ,aMV,zlF,gE]
 by_cases hlt:i<l.exit.length
 ·have bHW:(i:Int)<(l.exit.length:Nat):=by omega
  have hir:i<l.bHU.length:=by rw[he.bHU]; exact hlt
  have hat:=pA (R:=cX l R i) (i:=i) Om
  have hx:=acO hlt
  have bIC:(l.bHU.map fun r=>[frs r])[i]?=some [frs l.bHU[i]]:=by simp[hir]
  have hrl:(l.bHU[i]).length=l.exit.length:=he.row _ (bJX hir)
  generalize hR1:(cX l R i).set i ((cX l R i).getD i false||bZ l.exit[i])=R1
  have hR1l:R1.length=l.exit.length:=by rw[← hR1,bLQ]; omega
  have bHX:cX l R (i+1)=cO R1 i l.bHU[i] (l.bHU[i]).length:=by
   simp only[cX,xJ]
   have e1:(l.exit.map bZ).getD i false=bZ l.exit[i]:=by simp[bKO,hlt]
   have e2:l.bHU.getD i []=l.bHU[i]:=by simp[bKO,hir]
   rw[e1,e2,hR1]
  obtain⟨n,hsn,hpos⟩:=L.pos (hl.exit.all _ (bJX hlt)) (hm.exit _ (bJX hlt))
  have rest:∀ (F:PF) (H:PH),(zlF l o r i).le F→H o=some (.rows 1 (fR R1)) →
    aC.wp C (.seq (.region ZP) (.block 6 (.loop JV))) (dW 5 (iD C (aC.wp C (.region ZR)) (eE (fun i:Nat=>zlF l o r i) (fun i=>gE o (cX l R i)) (fun i=>i≤l.exit.length) (fun i=>l.exit.length-i) (l.exit.length-i) K))) F H:=by
   intro F H hF hH
   refine sW _ (fun _ _ _ _ a b=>Up.up a b) hF ?_
   simp only[go_sem,ZP]
   refine bjX L l o r i l.bHU[i] bIC (hl.row _ (bJX hir)) (hm.row _ (bJX hir)) hrl hlt hn R1 hR1l _ _ _ (by (repeat' (first|exact PF.nil_le|refine PF.aI ?_ ?_))<;>first|(simp only[go_sem,γ,zlF]<;>rfl)|rfl) (PH.aI PH.nil_le hH) ?_
   simp only[go_sem,γ,zlF,ZR,wZz i]
   exact aH (i+1) hlt Om Lq (by rw[bHX]; exact PH.le_refl)
  simp only[zlF,gE] at rest
  have rest':=rest
  simp only[aC.wp,go_sem] at rest'
  generalize hb:(cX l R i).getD i false=b at *
  cases b with
  | true =>
   simp only[go_sem,γ,bHW,ZO,bHW,bKN,hat]
   refine rest' _ _ Lq ?_
   rw[← hR1]
   simp only[go_sem,kL,Bool.true_or]
  | false =>
   simp only[go_sem,δ,γ,bHW,ZO,bHW,bKN,hat,hx]
   refine aA hsn rfl ?_
   simp only[go_sem,γ,reduceCtorEq,bHW,bKN,hat,hpos]
   refine rest' _ _ Lq ?_
   rw[← hR1]
   simp only[go_sem,kL,Bool.false_or]
 ·have bHW:¬ (i:Int)<(l.exit.length:Nat):=by omega
  have:i=l.exit.length:=by omega
  subst this
  simp only[go_sem,bHW]
  exact Up.up (by (repeat' (first|exact PF.nil_le|refine PF.aI ?_ ?_))<;>first|(simp only[go_sem,γ,zlF]<;>rfl)|rfl) hK
theorem bjY {C:Ctx} (L:nE C) (l:cJ) (hl:l.Ok) (he:yC l) (hm:awY l) (o:Nat) (K:cN) [Up K] (F:PF) (H:PH)
  (hF:(((((PF.nil.set 1 (.bH l.cells)).set 3 (.int .i64 (l.exit.length:Nat))).set 7 (.osl o 1 0 l.exit.length)).set 8 (.int .i64 0)):PF).le F) (hH:(gE o (dE l 0)).le H)
  (hK:K (.exit 2) (((PF.nil.set 3 (.int .i64 (l.exit.length:Nat))).set 7 (.osl o 1 0 l.exit.length))) (gE o (dE l l.exit.length))):aC.wp C (.loop ZK) K F H:=by
 have hn:=he.n
 refine wp_loop (α:=Nat) (fun r=>((((PF.nil.set 1 (.bH l.cells)).set 3 (.int .i64 (l.exit.length:Nat))).set 7 (.osl o 1 0 l.exit.length)).set 8 (.int .i64 r))) (fun r=>gE o (dE l r)) (fun r=>r≤l.exit.length) (fun r=>l.exit.length-r) 0 (bKF _) hF hH ?_
 intro r hr
 have hlen:=nT l r
 simp only[go_sem,γ,ZK,aMT]
 by_cases hlt:r<l.exit.length
 ·have bHW:(r:Int)<(l.exit.length:Nat):=by omega
  simp only[go_sem,bHW,aMU]
  refine bjZ L l hl he hm o r (dE l r) hlen _ _ _ (by (repeat' (first|exact PF.nil_le|refine PF.aI ?_ ?_))<;>first|(simp only[go_sem,γ,zlF]<;>rfl)|rfl) PH.le_refl ?_
  simp only[go_sem,γ,zlF,aMX,wZz r]
  exact aH (r+1) hlt Om Lq PH.le_refl
 ·have bHW:¬ (r:Int)<(l.exit.length:Nat):=by omega
  have:r=l.exit.length:=by omega
  subst this
  simp only[go_sem,bHW]
  exact Up.up Lq hK
theorem btB {C:Ctx} (R:List Bool) (hR:R.length≤4) (o:Nat) (X:Bool) (hX:X=R.all id) (Q:PV→PH→Prop) (hQ:Q=aD (.bool X)) (F:PF) (H:PH)
  (hF:((((PF.nil.set 3 (.int .i64 (R.length:Nat))).set 7 (.osl o 1 0 R.length)).set 11 (.int .i64 0)):PF).le F) (hH:(gE o R).le H):aC.wp C (.loop ZL) (dW 8 (iD C (aC.wp C (.seq (.region ZT) .ret)) (aT [.tmp 2] Q))) F H:=by
 subst hX hQ
 refine wp_loop (α:=Nat) (fun k=>(((PF.nil.set 3 (.int .i64 (R.length:Nat))).set 7 (.osl o 1 0 R.length)).set 11 (.int .i64 k))) (fun _=>gE o R) (fun k=>k≤R.length∧(R.take k).all id=true) (fun k=>R.length-k) 0 ⟨bKF _,rfl⟩ hF hH ?_
 rintro k ⟨hk,ha⟩
 simp only[go_sem,γ,ZL,aMZ,gE]
 by_cases hlt:k<R.length
 ·have bHW:(k:Int)<(R.length:Nat):=by omega
  have hat:=pA (R:=R) (i:=k) hlt
  have hg:R.getD k false=R[k]:=by simp[bKO,hlt]
  rw[hg] at hat
  cases hc:R[k] with
  | false =>
   rw[hc] at hat
   simp only[go_sem,γ,bHW,ZS,bKN,hat,bKI,aNA]
   refine aM (.inr rfl) rfl ?_
   rw[aV,mU hlt (p:=id) hc]
  | true =>
   rw[hc] at hat
   have ha2:=mT hlt ha (p:=id) hc
   simp only[go_sem,γ,bHW,ZS,bKN,hat,bKC,aNB,wZz k]
   exact aH (k+1) ⟨hlt,by simpa using bKQ.1 ha2⟩ Om Lq PH.le_refl
 ·have bHW:¬ (k:Int)<(R.length:Nat):=by omega
  have:k=R.length:=by omega
  subst this
  rw[bKS] at ha
  simp only[go_sem,bHW,ZT]
  refine aM (.inr rfl) rfl ?_
  rw[aV,ha]
def Marks (R S:List Bool):Prop:=R.length=S.length∧∀ j:Nat,R[j]?=some true→S[j]?=some true
theorem Marks.bsM (R:List Bool):Marks R R:=⟨rfl,fun _ h=>h⟩
theorem Marks.trans {R S T:List Bool} (h:Marks R S) (k:Marks S T):Marks R T:=⟨h.1.trans k.1,fun j a=>k.2 j (h.2 j a)⟩
theorem aDU (R:List Bool) (i:Nat) (b:Bool):Marks R (R.set i (R.getD i false||b)):=by
 refine⟨by rw[bLQ],fun j h=>?_⟩
 rw[List.getElem?_set]
 obtain⟨hj,he⟩:=bKV.1 h
 split
 ·rename_i e
  subst e
  rw[if_pos hj,bKO,h]
  rfl
 ·exact h
theorem apY (R:List Bool) (i:Nat) (row:List RF):∀ k,Marks R (cO R i row k)
 | 0=>Marks.bsM R
 | k+1=>(apY R i row k).trans (aDU _ _ _)
theorem AL (l:cJ) (R:List Bool):∀ i,Marks R (cX l R i)
 | 0=>Marks.bsM R
 | i+1=>(AL l R i).trans ((aDU _ _ _).trans (apY _ _ _ _))
theorem aDV:∀ {R S:List Bool},Marks R S→R≠S→R.count true<S.count true
 | [],[],_,h=>absurd rfl h
 | [],_::_,h,_=>by have:=h.1; simp at this
 | _::_,[],h,_=>by have:=h.1; simp at this
 | a::R,b::S,h,hne=>by
  have h0:a=true→b=true:=fun e=>by
   have:=h.2 0 (by rw[e]; rfl)
   simpa using this
  have ht:Marks R S:=⟨by have:=h.1; simpa using this,fun j hj=>by have:=h.2 (j+1) (by simpa using hj); simpa using this⟩
  by_cases e:R=S
  ·subst e
   have:a≠b:=fun e=>hne (by rw[e])
   cases a<;>cases b<;>simp at this h0 ⊢
  ·have:=aDV ht e
   cases a<;>cases b<;>simp at h0 ⊢<;>omega
theorem aaP:∀ {R:List Bool},R.length≤R.count true→R.all id=true
 | [],_=>rfl
 | a::R,h=>by
  have h1:=List.count_le_length (a:=true) (l:=R)
  cases a with
  | true =>
   simp only[List.count_cons_self,bLU] at h
   simp only[List.all_cons,id,bKE]
   exact aaP Om
  | false =>
   simp at h
   omega
theorem HX (l:cJ) {s:Nat} (h:dE l (s+1)=dE l s):∀ d,dE l (s+d)=dE l s
 | 0=>rfl
 | d+1=>by
  show cX l (dE l (s+d)) l.exit.length=_
  rw[HX l h d]
  exact h
theorem afK (l:cJ):∀ r,(∃ s,s<r∧dE l (s+1)=dE l s)∨r≤(dE l r).count true
 | 0=>.inr (bKF _)
 | r+1=>by
  rcases afK l r with ⟨s,h1,h2⟩ | h
  ·exact .inl ⟨s,by omega,h2⟩
  ·by_cases e:dE l (r+1)=dE l r
   ·exact .inl ⟨r,by omega,e⟩
   ·have:=aDV (AL l (dE l r) l.exit.length) (fun h=>e h.symm)
    exact .inr (by show r+1≤(cX l (dE l r) l.exit.length).count true; omega)
theorem blO (l:cJ):uO l=(dE l l.exit.length).all id:=by
 unfold uO
 rcases afK l l.exit.length with ⟨s,h1,h2⟩ | h
 ·obtain⟨d,hd⟩:∃ d,l.exit.length=s+d:=⟨l.exit.length-s,by omega⟩
  rw[show l.exit.length+1=s+(d+1) by omega,hd,HX l h2,HX l h2]
 ·have hf:(dE l l.exit.length).all id=true:=aaP (by rw[nT]; exact h)
  have hm:Marks (dE l l.exit.length) (dE l (l.exit.length+1)):=AL l (dE l l.exit.length) l.exit.length
  rw[hf,bKQ]
  intro x hx
  obtain⟨j,hj,rfl⟩:=bMA hx
  have hj2:j<(dE l l.exit.length).length:=by rw[hm.1]; exact hj
  have:=hm.2 j (by
   rw[bKD hj2]
   have:=bKQ.1 hf _ (bJX hj2)
   simpa using this)
  rw[bKD hj] at this
  simpa using this
def zsS (s:Bool):Spec:=fun name vs=>match name,vs with
 | 47,_=>some ([],fun _=>aD (.agg (mkT 1 1).cells))
 | 53,_=>some ([],fun _=>aD (.bool s))
 | _,_=>none
theorem bgE (l:cJ):jZ l=(within l.start.length 1 4&&((decide ((l.start.length:Int)=l.start.length)&&l.start.all cG)&&((decide ((l.exit.length:Int)=l.start.length)&&l.exit.all cG)&&(decide (l.bHU.length=l.start.length)&&((bJU l.bHU.length).all (pF l)&&(sF l&&uO l)))))):=by
 rw[aSA,decide_eq_true (rfl:(l.start.length:Int)=l.start.length),bKE]
 have:decide (l.exit.length=l.start.length)=decide ((l.exit.length:Int)=l.start.length):=decide_eq_decide.2 Om
 rw[this]
 cases within l.start.length 1 4<;>cases decide ((l.exit.length:Int)=l.start.length)<;>cases decide (l.bHU.length=l.start.length)<;>cases l.start.all cG<;>cases l.exit.all cG<;>simp[bMS]
theorem aHR (l:cJ) {i:Nat} (h:i<l.bHU.length):pF l i=((decide (((l.bHU[i]).length:Int)=l.start.length)&&(l.bHU[i]).all cG)&&!((l.bHU[i]).map bZ).getD i false):=by
 unfold pF
 have:l.bHU.getD i []=l.bHU[i]:=by simp[bKO,h]
 rw[this]
 have:decide ((l.bHU[i]).length=l.start.length)=decide (((l.bHU[i]).length:Int)=l.start.length):=decide_eq_decide.2 Om
 rw[this]
theorem bqF {C:Ctx} (L:nE C) (l:cJ) (hl:l.Ok):RI.wp C (aT aMP.res (aD (.bool (jZ l)))) (PF.args [.agg l.cells]) .nil:=by
 have hX:=bgE l
 have fail:∀ (F:PF) (H:PH),jZ l=false→F 2=some (.bool false)→aT [.tmp 2] (aD (.bool (jZ l))) .ret F H:=fun F H e h=>by
  rw[e]
  exact aX (vs:=[.bool false]) (.inr rfl) .nil (by simp only[go_sem,h]) PH.nil_le ⟨rfl,rfl⟩
 have e1:=L.smalls l.start hl.start l.start.length
 have e2:=L.smalls l.exit hl.exit l.start.length
 simp only[go_sem,δ,γ,θ,RI,aYH,aYI,aMP,bJT,aYJ]
 by_cases c1:((l.start.length:Nat):Int)<1
 ·simp only[go_sem,γ,c1,wG]
  exact fail _ _ (by rw[hX,show within l.start.length 1 4=false from by unfold within; rw[decide_eq_false Om,bJZ],bJZ]) rfl
 by_cases c2:((l.start.length:Nat):Int)>4
 ·simp only[go_sem,γ,reduceCtorEq,c1,c2,wG]
  exact fail _ _ (by rw[hX,show within l.start.length 1 4=false from by unfold within; rw[decide_eq_false (Om:¬ ((l.start.length:Nat):Int)≤4),bLC],bJZ]) rfl
 rw[show within l.start.length 1 4=true from by unfold within; rw[decide_eq_true (Om:(1:Int)≤(l.start.length:Nat)),decide_eq_true (Om:((l.start.length:Nat):Int)≤4)]; rfl,bKE] at hX
 simp only[go_sem,δ,γ,θ,reduceCtorEq,c1,c2]
 refine aA e1 rfl ?_
 cases k1:(decide ((l.start.length:Int)=l.start.length)&&l.start.all cG) with
 | false =>
  rw[k1,bJZ] at hX
  simp only[go_sem,γ,reduceCtorEq,bKI,wG]
  exact fail _ _ hX rfl
 | true =>
 rw[k1,bKE] at hX
 simp only[go_sem,γ,reduceCtorEq,bKC]
 refine aA e2 rfl ?_
 cases k2:(decide ((l.exit.length:Int)=l.start.length)&&l.exit.all cG) with
 | false =>
  rw[k2,bJZ] at hX
  simp only[go_sem,γ,reduceCtorEq,bKI,wG]
  exact fail _ _ hX rfl
 | true =>
 rw[k2,bKE] at hX
 rw[bKR,decide_eq_true_eq] at k2
 have hxl:l.exit.length=l.start.length:=by omega
 have hxlim:=bKQ.1 k2.2
 by_cases c3:l.bHU.length=l.start.length
 case neg =>
  rw[decide_eq_false c3,bJZ] at hX
  simp only[go_sem,δ,γ,θ,reduceCtorEq,bKC,bJT,cT (Om:((l.bHU.length:Nat):Int)≠(l.start.length:Nat)),wG]
  exact fail _ _ hX rfl
 rw[decide_eq_true c3,bKE] at hX
 simp only[go_sem,δ,γ,θ,reduceCtorEq,bKC,bJT,cH (Om:((l.bHU.length:Nat):Int)=(l.start.length:Nat)),aYK]
 refine wp_loop (α:=Nat) (fun i=>(((PF.nil.set 1 (.bH l.cells)).set 3 (.int .i64 (l.start.length:Nat))).set 4 (.int .i64 i))) (fun _=>.nil) (fun i=>i≤l.start.length∧∀ j,j<i→pF l j=true) (fun i=>l.start.length-i) 0 ⟨bKF _,fun j h=>by omega⟩ Lq PH.nil_le ?_
 rintro i ⟨hi,bJG⟩
 simp only[go_sem,γ,aYG,aYL]
 by_cases hlt:i<l.start.length
 ·have bHW:(i:Int)<(l.start.length:Nat):=by omega
  have hir:i<l.bHU.length:=by omega
  have bIC:(l.bHU.map fun r=>[frs r])[i]?=some [frs l.bHU[i]]:=by simp[hir]
  have hro:=hl.row _ (bJX hir)
  have e3:=L.smalls l.bHU[i] hro l.start.length
  have hrp:=aHR l hir
  have bad:pF l i=false→jZ l=false:=fun h=>by
   rw[hX,show (bJU l.bHU.length).all (pF l)=false from List.all_eq_false.2 ⟨i,bLI.2 hir,by simp[h]⟩,bJZ]
  simp only[go_sem,δ,γ,θ,bHW,aYM,bIC]
  refine aA e3 rfl ?_
  cases k3:(decide (((l.bHU[i]).length:Int)=l.start.length)&&(l.bHU[i]).all cG) with
  | false =>
   rw[k3,bJZ] at hrp
   simp only[go_sem,γ,bKI,anK]
   exact fail _ _ (bad hrp) rfl
  | true =>
   rw[k3,bKE] at hrp
   rw[bKR,decide_eq_true_eq] at k3
   have hrl:(l.bHU[i]).length=l.start.length:=by omega
   have hik:i<(l.bHU[i]).length:=by omega
   have hm:=bJX hik
   have hs:=L.sign _ (hro.all _ hm) (nM (bKQ.1 k3.2 _ hm))
   have hz:=IE (l.bHU[i])[i]
   have hg:((l.bHU[i]).map bZ).getD i false=bZ (l.bHU[i])[i]:=by simp[bKO,hik]
   rw[hg] at hrp
   have hz2:(oX (l.bHU[i])[i] != 0)=bZ (l.bHU[i])[i]:=by
    rw[bne,hz,Bool.not_not]
   simp only[go_sem,δ,γ,θ,bKC,bIC,acO hik]
   refine aA hs rfl ?_
   cases k4:bZ (l.bHU[i])[i] with
   | true =>
    rw[k4] at hrp hz2
    simp only[go_sem,γ,reduceCtorEq,hz2,anK]
    exact fail _ _ (bad hrp) rfl
   | false =>
    rw[k4] at hrp hz2
    simp only[go_sem,γ,reduceCtorEq,hz2,aYN,wZz i]
    exact aH (i+1) ⟨hlt,fun j hj=>by
     by_cases e:j=i
     ·rw[e]; exact hrp
     ·exact bJG j Om⟩ Om Lq PH.le_refl
 ·have bHW:¬ (i:Int)<(l.start.length:Nat):=by omega
  have:i=l.start.length:=by omega
  subst this
  have hrows:(bJU l.bHU.length).all (pF l)=true:=bKQ.2 fun j hj=>bJG j (by rw[← c3]; exact bLI.1 hj)
  rw[hrows,bKE] at hX
  have hrr:∀ r∈l.bHU,r.length=l.start.length∧∀ x∈r,cG x=true:=fun r hr=>by
   obtain⟨j,hj,rfl⟩:=bMA hr
   have h:=bJG j Om
   rw[aHR l hj,bKR,bKR,decide_eq_true_eq] at h
   exact⟨by omega,bKQ.1 h.1.2⟩
  have hlim:awY l:=⟨hxlim,fun r hr=>(hrr r hr).2⟩
  have hend:yC l:=⟨by omega,by omega,fun r hr=>by rw[(hrr r hr).1,hxl]⟩
  have hsum:=L.sum l.start hl.start.all hl.start.fits
  simp only[go_sem,δ,γ,θ,bHW,aMQ]
  refine aA hsum rfl ?_
  cases hE:nD (l.start.map RF.v) with
  | error e =>
   have he0:=aIS hE
   have:sF l=false:=by unfold sF; rw[hE]
   rw[this,bJZ] at hX
   simp only[go_sem,δ,γ,frV]
   refine aR fun o ho=>?_
   simp only[go_sem,δ,γ]
   refine bR .nil eG PH.nil_le ?_
   simp only[go_sem,γ,ZM,cT he0,ZN]
   exact fail _ _ hX rfl
  | ok r =>
   have hrok:=aVM hE
   have hrv:=agB hE
   obtain⟨n,a,b⟩:=r
   have h1:cU 1:=by unfold cU; omega
   have hsame:=L.same (FV.rf (n,a,b)) (mkT 1 1) hrok (DI 1 h1).1 (by unfold RF.valid FV.rf; simp only[aS]; exact hrv) (DI 1 h1).2
   have hP:sF l=(mZ (FV.rf (n,a,b)) (mkT 1 1)==0):=by
    unfold sF
    rw[hE,DJ]
    unfold mZ FV.rf
    simp only[aS,show (1:Int).natAbs=1 from rfl,show decide ((1:Int)<0)=false from rfl]
    by_cases h:pE n a b false 1 1=0<;>simp[h]
   simp only[go_sem,δ,γ,frV]
   refine aR fun o ho=>?_
   have hH:aQ (PH.nil.set o (.rows 3 [(FV.rf (n,a,b)).cells])) [(o,.rows 3 [(FV.rf (n,a,b)).cells])] []:=aQ.nil.new (H:=PH.nil) rfl _
   simp only[go_sem,δ,γ]
   refine bR (PH.nil.set o (.rows 3 [(FV.rf (n,a,b)).cells])) (zsS (mZ (FV.rf (n,a,b)) (mkT 1 1)==0)) PH.le_refl ?_
   simp only[go_sem,δ,γ,ZM,cH (show (0:Int)=0 from rfl)]
   refine bJ rfl (L.int 1 h1) rfl PH.le_refl ?_
   simp only[go_sem,γ]
   refine bJ rfl hsame rfl PH.le_refl ?_
   rw[← hP]
   cases hp:sF l with
   | false =>
    rw[hp,bJZ] at hX
    simp only[go_sem,γ,reduceCtorEq,bKI,ZN]
    exact fail _ _ hX rfl
   | true =>
    rw[hp,bKE,blO] at hX
    have hb1:((l.start.length:Nat):Int)*((1:Nat):Int)≤140737488355328:=by omega
    have hb2:((l.start.length:Nat):Int)≤9223372036854775807:=by omega
    simp only[go_sem,γ,reduceCtorEq,bKC,aMR,hb1,hb2]
    refine aR fun q hq=>?_
    simp only[go_sem,γ,aMS]
    have hz0:bJW l.start.length [PV.bool false]=fR (dE l 0):=by
     rw[← hxl]
     simp[dE,fR]
    rw[← hxl]
    refine bjY L l hl hend hlim q _ _ _ Lq ?_ ?_
    ·refine PH.aI PH.nil_le ?_
     rw[fN,hxl,hz0]
    simp only[go_sem,aMY]
    have hn4:(dE l l.exit.length).length≤4:=by rw[nT]; omega
    refine btB (dE l l.exit.length) hn4 q (jZ l) hX _ rfl _ _ ?_ PH.le_refl
    rw[nT]
    exact Lq
structure pL (C:Ctx):Prop extends nE C where
 law:∀ l:cJ,l.Ok→aE C 68 [.agg l.cells] .nil (aD (.bool (jZ l)))
def okL (base ns:List (List UInt8)) (P:Nat→Bool) (i:Nat):Bool:=gX (base++ns.take i) (ns.getD i [])&&P i
theorem oZ {p:Nat→Bool} (k:Nat) (b:Bool):(b&&(bJU (k+1)).all p)=((b&&(bJU k).all p)&&p k):=by
 rw[List.range_succ,List.all_append]
 cases (bJU k).all p<;>cases b<;>simp
theorem oY {p:Nat→Bool} {b:Bool} {i n:Nat} (hi:i≤n) (h:(b&&(bJU i).all p)=false):(b&&(bJU n).all p)=false:=by
 cases b with
 | false=>rfl
 | true =>
  rw[bKE] at h ⊢
  obtain⟨x,hx,hp⟩:=List.all_eq_false.1 h
  exact List.all_eq_false.2 ⟨x,bLI.2 (by have:=bLI.1 hx; omega),hp⟩
structure fY (H:PH) (w:PV) (base ns:List (List UInt8)) (c:Bool) (i:Nat):Prop where
 ex:∃ names,aQ H [] [(w,1,kO names)]∧(c=true→names=base++ns.take i)
section
variable {C:Ctx} {F:PF} {H:PH} {d:Option Nat} {K:PF→PH→Prop}
theorem fY.call (L:nE C) {w:PV} {base ns:List (List UInt8)} {i:Nat} {B:List BX} {names:List (List UInt8)} (h:aQ H B [(w,1,kO names)]) (hl:base.length≤1000) (hi:i≤1000) (hn:names=base++ns.take i) (hin:i<ns.length) {a b:Nat} (bJI:aP.evs F [.tmp a,.tmp b]=some [w,.str ns[i]])
  (hk:∀ w' H',aQ H' B [(w',1,kO (names++[ns[i]]))]→fY H' w' base ns true (i+1)→K (F.put d (.tup [w',.bool (gX (base++ns.take i) (ns.getD i []))])) H'):fP C 70 [.tmp a,.tmp b] [] d K F H:=by
 refine CF (B1:=[]) (B2:=B) (L1:=[(w,1,kO names)]) (L2:=[]) (Q:=ZW names ns[i]) h (fun H0 h0=>L.fresh names (by rw[hn,bKA,bKL]; omega) ns[i] w H0 h0) bJI ?_
 rintro r B' L' H' ⟨w',rfl,rfl,rfl⟩ h'
 have hgd:ns.getD i []=ns[i]:=by simp[bKO,hin]
 rw[hgd,← hn] at hk
 refine hk w' H' h' ⟨names++[ns[i]],h'.sub (List.nil_sublist _) (bLR.refl _),fun _=>?_⟩
 rw[bLK hin,← bKU,hn]
end
theorem fY.anJ {H:PH} {w:PV} {base ns:List (List UInt8)} {c:Bool} {i:Nat} (h:fY H w base ns true i):fY H w base ns c i:=by
 obtain⟨names,h1,h3⟩:=h.ex
 exact⟨names,h1,fun _=>h3 rfl⟩
def GY (f:aK):Bool:=(bJU f.bHY.length).all (okL [] (f.bHY.map cJ.name) fun i=>(f.bHY.map jZ).getD i false)
theorem bqK {C:Ctx} (L:pL C) (f:aK) (hf:f.Ok) (hs:f.bHY.length≤4) (K:cN) [Up K] (F:PF) (H:PH)
  (hF:(((((((((PF.nil.set 1 (.bH f.cells)).set 3 (.aB)).set 4 (.aB)).set 5 (.aB)).set 6 (.aB)).set 7 (.aB)).set 8 (.bool true)).set 9 (.int .i64 0)):PF).le F)
  (hK:∀ H',K (.exit 0) (((((((PF.nil.set 1 (.bH f.cells)).set 4 (.aB)).set 5 (.aB)).set 6 (.aB)).set 7 (.aB)).set 8 (.bool (GY f)))) H'):aC.wp C (.loop JX) K F H:=by
 obtain⟨ok,hok⟩:∃ ok,okL [] (f.bHY.map cJ.name) (fun i=>(f.bHY.map jZ).getD i false)=ok:=⟨_,rfl⟩
 unfold GY at hK
 rw[hok] at hK
 refine wp_loop (α:=Nat × PV × PH) (fun s=>((((((((PF.nil.set 1 (.bH f.cells)).set 3 (s.2.1)).set 4 (.aB)).set 5 (.aB)).set 6 (.aB)).set 7 (.aB)).set 8 (.bool (true&&(bJU s.1).all ok))).set 9 (.int .i64 s.1))) (fun s=>s.2.2) (fun s=>s.1≤f.bHY.length∧fY s.2.2 s.2.1 [] (f.bHY.map cJ.name) (true&&(bJU s.1).all ok) s.1) (fun s=>f.bHY.length-s.1)
  (0,.aB,H) ⟨bKF _,⟨[],aQ.nil.mF 1,fun _=>rfl⟩⟩ hF PH.le_refl ?_
 rintro⟨i,w,H0⟩ ⟨hi,hG⟩
 simp only at hi hG ⊢
 have fin:∀ (b:Bool) (w':PV) (F':PF) (H':PH),i<f.bHY.length→(true&&(bJU (i+1)).all ok)=b→fY H' w' [] (f.bHY.map cJ.name) true (i+1) →
   (((((((((PF.nil.set 1 (.bH f.cells)).set 3 (w')).set 4 (.aB)).set 5 (.aB)).set 6 (.aB)).set 7 (.aB)).set 8 (.bool b)).set 9 (.int .i64 (i+1:Nat))):PF).le F' →
   eE (fun s:Nat × PV × PH=>((((((((PF.nil.set 1 (.bH f.cells)).set 3 (s.2.1)).set 4 (.aB)).set 5 (.aB)).set 6 (.aB)).set 7 (.aB)).set 8 (.bool (true&&(bJU s.1).all ok))).set 9 (.int .i64 s.1))) (fun s=>s.2.2) (fun s=>s.1≤f.bHY.length∧fY s.2.2 s.2.1 [] (f.bHY.map cJ.name) (true&&(bJU s.1).all ok) s.1) (fun s=>f.bHY.length-s.1) (f.bHY.length-i) K .normal F' H' :=
  fun b w' F' H' hlt hb hG' hF'=>aH (i+1,w',H') ⟨hlt,hG'.anJ⟩ (by simp only; omega) (by simp only; rw[hb]; exact hF') PH.le_refl
 have bHX:=oZ (p:=ok) i true
 have stop:(true&&(bJU i).all ok)=(true&&(bJU f.bHY.length).all ok)→K (.exit 0) (((((((PF.nil.set 1 (.bH f.cells)).set 4 (.aB)).set 5 (.aB)).set 6 (.aB)).set 7 (.aB)).set 8 (.bool (true&&(bJU i).all ok)))) H0:=fun e=>by
  rw[e,bKE]; exact hK H0
 have hacc:=fun h=>oY (p:=ok) (b:=true) hi h
 generalize hc:(true&&(bJU i).all ok)=c at *
 simp only[go_sem,δ,γ,θ,JX,avW,bJT]
 by_cases hlt:i<f.bHY.length
 ·have bHW:(i:Int)<(f.bHY.length:Nat):=by omega
  cases c with
  | false =>
   simp only[go_sem,γ,bHW]
   exact Up.up Lq (stop (hacc rfl).symm)
  | true =>
   obtain⟨names,g1,g3⟩:=hG.ex
   have hat:(f.bHY.map cJ.cells)[i]?=some (f.bHY[i]).cells:=by simp[hlt]
   have hin:i<(f.bHY.map cJ.name).length:=by rw[bJT]; exact hlt
   have hoki:ok i=(gX ([]++(f.bHY.map cJ.name).take i) ((f.bHY.map cJ.name).getD i [])&&jZ f.bHY[i]):=by
    rw[← hok]
    unfold okL
    simp[bKO,hlt]
   have hl:=L.law _ (hf.law _ (bJX hlt))
   rw[hoki] at bHX
   simp only[go_sem,δ,γ,θ,bHW,avX,hat]
   refine fY.call L.tonE (ns:=f.bHY.map cJ.name) g1 (bKF _) Om (g3 rfl) hin (by simp only[go_sem,γ,bMC]) fun w' H1 h1 hG1=>?_
   generalize gX ([]++(f.bHY.map cJ.name).take i) ((f.bHY.map cJ.name).getD i [])=fb at *
   cases fb with
   | false =>
    simp only[go_sem,γ,reduceCtorEq,RN,RP,wZz i]
    exact fin false w' _ _ hlt (bHX.trans rfl) hG1 Lq
   | true =>
    simp only[go_sem,δ,γ,θ,RN,hat]
    refine aA hl rfl ?_
    simp only[go_sem,γ,RP,wZz i]
    exact fin _ w' _ _ hlt (bHX.trans rfl) hG1 Lq
 ·have bHW:¬ (i:Int)<(f.bHY.length:Nat):=by omega
  have:i=f.bHY.length:=by omega
  subst this
  simp only[go_sem,γ,reduceCtorEq,bHW]
  exact Up.up Lq (stop hc.symm)
theorem PJ {a b c d e f:Nat} (h:nB a b c d e f=true):a≤4∧b≤4∧c≤40∧d≤24∧e≤4∧f≤12:=by
 simp only[nB,bKR,decide_eq_true_eq] at h
 omega
theorem aiV {n:Nat} (h:n≤1000):IntKind.i64.wrap ((n:Int)-1)=(n:Int)-1:=wrap_i64 Om Om
def inS:Spec:=fun name vs=>match name,vs with
 | 76,[.int _ n,.int _ lo,.int _ hi]=>some ([],fun _=>aD (.bool (within n lo hi)))
 | _,_=>none
def alT (bHY:Nat) (m:cS):Bool:=within m.bIJ 1 16&&(within m.port 1 64&&within m.law 0 ((bHY:Int)-1))
def aLU (pols:Nat) (v:eC):Bool:=within v.bID 0 ((pols:Int)-1)
def wA (f:aK):Bool:=(bJU f.bHQ.length).all (okL [] (f.bHQ.map cS.name) fun i=>(f.bHQ.map (alT f.bHY.length)).getD i false)
theorem bdW {C:Ctx} (L:pL C) (f:aK) (hf:f.Ok) (hz:nB f.bHY.length f.bHQ.length f.bHS.length f.bHP.length f.bHT.length f.bHR.length=true) (b:Bool) (K:cN) [Up K] (F:PF) (H:PH)
  (hF:((((((((PF.nil.set 1 (.bH f.cells)).set 4 (.aB)).set 5 (.aB)).set 6 (.aB)).set 7 (.aB)).set 8 (.bool b)).set 10 (.int .i64 0)):PF).le F)
  (hK:∀ H',K (.exit 2) ((((((PF.nil.set 1 (.bH f.cells)).set 5 (.aB)).set 6 (.aB)).set 7 (.aB)).set 8 (.bool (b&&wA f)))) H'):aC.wp C (.loop JY) K F H:=by
 obtain⟨hz1,hz2,hz3,hz4,hz5,hz6⟩:=PJ hz
 obtain⟨ok,hok⟩:∃ ok,okL [] (f.bHQ.map cS.name) (fun i=>(f.bHQ.map (alT f.bHY.length)).getD i false)=ok:=⟨_,rfl⟩
 unfold wA at hK
 rw[hok] at hK
 refine wp_loop (α:=Nat × PV × PH) (fun s=>(((((((PF.nil.set 1 (.bH f.cells)).set 4 (s.2.1)).set 5 (.aB)).set 6 (.aB)).set 7 (.aB)).set 8 (.bool (b&&(bJU s.1).all ok))).set 10 (.int .i64 s.1))) (fun s=>s.2.2) (fun s=>s.1≤f.bHQ.length∧fY s.2.2 s.2.1 [] (f.bHQ.map cS.name) (b&&(bJU s.1).all ok) s.1) (fun s=>f.bHQ.length-s.1)
  (0,.aB,H) ⟨bKF _,⟨[],aQ.nil.mF 1,fun _=>rfl⟩⟩ (by
   have e:(b&&(bJU 0).all ok)=b:=by cases b<;>rfl
   simp only[e]
   exact hF) PH.le_refl ?_
 rintro⟨i,w,H0⟩ ⟨hi,hG⟩
 simp only at hi hG ⊢
 have fin:∀ (c:Bool) (w':PV) (F':PF) (H':PH),i<f.bHQ.length→(b&&(bJU (i+1)).all ok)=c→fY H' w' [] (f.bHQ.map cS.name) true (i+1) →
   ((((((((PF.nil.set 1 (.bH f.cells)).set 4 (w')).set 5 (.aB)).set 6 (.aB)).set 7 (.aB)).set 8 (.bool c)).set 10 (.int .i64 (i+1:Nat))):PF).le F' →
   eE (fun s:Nat × PV × PH=>(((((((PF.nil.set 1 (.bH f.cells)).set 4 (s.2.1)).set 5 (.aB)).set 6 (.aB)).set 7 (.aB)).set 8 (.bool (b&&(bJU s.1).all ok))).set 10 (.int .i64 s.1))) (fun s=>s.2.2) (fun s=>s.1≤f.bHQ.length∧fY s.2.2 s.2.1 [] (f.bHQ.map cS.name) (b&&(bJU s.1).all ok) s.1) (fun s=>f.bHQ.length-s.1) (f.bHQ.length-i) K .normal F' H' :=
  fun c w' F' H' hlt hb hG' hF'=>aH (i+1,w',H') ⟨hlt,hG'.anJ⟩ (by simp only; omega) (by simp only; rw[hb]; exact hF') PH.le_refl
 have bHX:=oZ (p:=ok) i b
 have stop:(b&&(bJU i).all ok)=(b&&(bJU f.bHQ.length).all ok)→K (.exit 2) ((((((PF.nil.set 1 (.bH f.cells)).set 5 (.aB)).set 6 (.aB)).set 7 (.aB)).set 8 (.bool (b&&(bJU i).all ok)))) H0:=fun e=>by
  rw[e]; exact hK H0
 have hacc:=fun h=>oY (p:=ok) (b:=b) hi h
 generalize hc:(b&&(bJU i).all ok)=c at *
 simp only[go_sem,δ,γ,θ,JY,ajT,bJT]
 by_cases hlt:i<f.bHQ.length
 ·have bHW:(i:Int)<(f.bHQ.length:Nat):=by omega
  cases c with
  | false =>
   simp only[go_sem,γ,bHW]
   exact Up.up Lq (stop (hacc rfl).symm)
  | true =>
   obtain⟨names,g1,g3⟩:=hG.ex
   have hat:(f.bHQ.map cS.cells)[i]?=some (f.bHQ[i]).cells:=by simp[hlt]
   have hin:i<(f.bHQ.map cS.name).length:=by rw[bJT]; exact hlt
   have hoki:ok i=(gX ([]++(f.bHQ.map cS.name).take i) ((f.bHQ.map cS.name).getD i [])&&(alT f.bHY.length) f.bHQ[i]):=by
    rw[← hok]
    unfold okL
    simp[bKO,hlt]
   rw[hoki] at bHX
   have bJC:alT f.bHY.length f.bHQ[i]=(within (f.bHQ[i]).bIJ 1 16&&(within (f.bHQ[i]).port 1 64&&within (f.bHQ[i]).law 0 ((f.bHY.length:Int)-1))):=rfl
   rw[bJC] at bHX
   simp only[go_sem,δ,γ,θ,bHW,ajU,hat]
   refine aR fun o ho=>?_
   have g4:=g1.new ho (.rows 4 [(f.bHQ[i]).cells])
   have g5:=g4.at 0 rfl
   simp only[go_sem,δ,γ]
   generalize H0.set o (.rows 4 [(f.bHQ[i]).cells])=H2 at *
   simp only[go_sem,δ,γ,θ,ajV,g5]
   refine fY.call L.tonE (ns:=(f.bHQ.map cS.name)) g4 (bKF _) Om (g3 rfl) hin (by simp only[go_sem,γ,bMC]) fun w' H1 h1 hG1=>?_
   have g6:=h1.at 0 rfl
   generalize gX ([]++(f.bHQ.map cS.name).take i) ((f.bHQ.map cS.name).getD i [])=fb at *
   cases fb with
   | false =>
    simp only[go_sem,γ,reduceCtorEq,KB,rH,wZz i]
    exact fin false w' _ _ hlt (bHX.trans rfl) hG1 Lq
   | true =>
    simp only[go_sem,δ,γ,θ,KB,g6]
    refine aA (L.inn (f.bHQ[i]).bIJ 1 16) rfl ?_
    cases k0:within (f.bHQ[i]).bIJ 1 16 with
    | false =>
     simp only[go_sem,γ,reduceCtorEq,rH,wZz i]
     exact fin false w' _ _ hlt (by rw[bHX,k0]<;>simp) hG1 Lq
    | true =>
     simp only[go_sem,δ,γ,θ,g6]
     refine aA (L.inn (f.bHQ[i]).port 1 64) rfl ?_
     cases k1:within (f.bHQ[i]).port 1 64 with
     | false =>
      simp only[go_sem,γ,reduceCtorEq,rH,wZz i]
      exact fin false w' _ _ hlt (by rw[bHX,k0,k1]<;>simp) hG1 Lq
     | true =>
      simp only[go_sem,δ,γ,θ,g6,bJT,aiV (Om:f.bHY.length≤1000)]
      refine aA (L.inn (f.bHQ[i]).law 0 ((f.bHY.length:Int)-1)) rfl ?_
      simp only[go_sem,γ,rH,wZz i]
      exact fin _ w' _ _ hlt (by rw[bHX,k0,k1]<;>simp) hG1 Lq
 ·have bHW:¬ (i:Int)<(f.bHQ.length:Nat):=by omega
  have:i=f.bHQ.length:=by omega
  subst this
  simp only[go_sem,γ,reduceCtorEq,bHW]
  exact Up.up Lq (stop hc.symm)
def awT (f:aK):Bool:=(bJU f.bHR.length).all (okL [] (f.bHR.map eC.name) fun i=>(f.bHR.map (aLU f.bHT.length)).getD i false)
theorem bqM {C:Ctx} (L:pL C) (f:aK) (hf:f.Ok) (hz:nB f.bHY.length f.bHQ.length f.bHS.length f.bHP.length f.bHT.length f.bHR.length=true) (b:Bool) (K:cN) [Up K] (F:PF) (H:PH)
  (hF:(((((PF.nil.set 1 (.bH f.cells)).set 7 (.aB)).set 8 (.bool b)).set 21 (.int .i64 0)):PF).le F)
  (hK:∀ H',K (.exit 14) (((PF.nil.set 1 (.bH f.cells)).set 8 (.bool (b&&awT f)))) H'):aC.wp C (.loop vL) K F H:=by
 obtain⟨hz1,hz2,hz3,hz4,hz5,hz6⟩:=PJ hz
 obtain⟨ok,hok⟩:∃ ok,okL [] (f.bHR.map eC.name) (fun i=>(f.bHR.map (aLU f.bHT.length)).getD i false)=ok:=⟨_,rfl⟩
 unfold awT at hK
 rw[hok] at hK
 refine wp_loop (α:=Nat × PV × PH) (fun s=>((((PF.nil.set 1 (.bH f.cells)).set 7 (s.2.1)).set 8 (.bool (b&&(bJU s.1).all ok))).set 21 (.int .i64 s.1))) (fun s=>s.2.2) (fun s=>s.1≤f.bHR.length∧fY s.2.2 s.2.1 [] (f.bHR.map eC.name) (b&&(bJU s.1).all ok) s.1) (fun s=>f.bHR.length-s.1)
  (0,.aB,H) ⟨bKF _,⟨[],aQ.nil.mF 1,fun _=>rfl⟩⟩ (by
   have e:(b&&(bJU 0).all ok)=b:=by cases b<;>rfl
   simp only[e]
   exact hF) PH.le_refl ?_
 rintro⟨i,w,H0⟩ ⟨hi,hG⟩
 simp only at hi hG ⊢
 have fin:∀ (c:Bool) (w':PV) (F':PF) (H':PH),i<f.bHR.length→(b&&(bJU (i+1)).all ok)=c→fY H' w' [] (f.bHR.map eC.name) true (i+1) →
   (((((PF.nil.set 1 (.bH f.cells)).set 7 (w')).set 8 (.bool c)).set 21 (.int .i64 (i+1:Nat))):PF).le F' →
   eE (fun s:Nat × PV × PH=>((((PF.nil.set 1 (.bH f.cells)).set 7 (s.2.1)).set 8 (.bool (b&&(bJU s.1).all ok))).set 21 (.int .i64 s.1))) (fun s=>s.2.2) (fun s=>s.1≤f.bHR.length∧fY s.2.2 s.2.1 [] (f.bHR.map eC.name) (b&&(bJU s.1).all ok) s.1) (fun s=>f.bHR.length-s.1) (f.bHR.length-i) K .normal F' H' :=
  fun c w' F' H' hlt hb hG' hF'=>aH (i+1,w',H') ⟨hlt,hG'.anJ⟩ (by simp only; omega) (by simp only; rw[hb]; exact hF') PH.le_refl
 have bHX:=oZ (p:=ok) i b
 have stop:(b&&(bJU i).all ok)=(b&&(bJU f.bHR.length).all ok)→K (.exit 14) (((PF.nil.set 1 (.bH f.cells)).set 8 (.bool (b&&(bJU i).all ok)))) H0:=fun e=>by
  rw[e]; exact hK H0
 have hacc:=fun h=>oY (p:=ok) (b:=b) hi h
 generalize hc:(b&&(bJU i).all ok)=c at *
 simp only[go_sem,γ,vL,akL,bJT]
 by_cases hlt:i<f.bHR.length
 ·have bHW:(i:Int)<(f.bHR.length:Nat):=by omega
  cases c with
  | false =>
   simp only[go_sem,γ,bHW]
   exact Up.up Lq (stop (hacc rfl).symm)
  | true =>
   obtain⟨names,g1,g3⟩:=hG.ex
   have hat:(f.bHR.map eC.cells)[i]?=some (f.bHR[i]).cells:=by simp[hlt]
   have hin:i<(f.bHR.map eC.name).length:=by rw[bJT]; exact hlt
   have hoki:ok i=(gX ([]++(f.bHR.map eC.name).take i) ((f.bHR.map eC.name).getD i [])&&(aLU f.bHT.length) f.bHR[i]):=by
    rw[← hok]
    unfold okL
    simp[bKO,hlt]
   rw[hoki] at bHX
   have bJC:aLU f.bHT.length f.bHR[i]=within (f.bHR[i]).bID 0 ((f.bHT.length:Int)-1):=rfl
   rw[bJC] at bHX
   simp only[go_sem,δ,γ,θ,bHW,akM,hat]
   refine fY.call L.tonE (ns:=(f.bHR.map eC.name)) g1 (bKF _) Om (g3 rfl) hin (by simp only[go_sem,γ,bMC]) fun w' H1 h1 hG1=>?_
   generalize gX ([]++(f.bHR.map eC.name).take i) ((f.bHR.map eC.name).getD i [])=fb at *
   cases fb with
   | false =>
    simp only[go_sem,γ]
    refine bR .nil (inS) PH.nil_le ?_
    simp only[go_sem,γ,reduceCtorEq,KN,KO,wZz i]
    exact fin false w' _ _ hlt (bHX.trans rfl) hG1 Lq
   | true =>
    simp only[go_sem,γ]
    refine bR .nil (inS) PH.nil_le ?_
    simp only[go_sem,δ,γ,θ,KN,hat,bJT,aiV (Om:f.bHT.length≤1000)]
    refine bJ rfl (L.inn (f.bHR[i]).bID 0 ((f.bHT.length:Int)-1)) rfl PH.nil_le ?_
    simp only[go_sem,γ,KO,wZz i]
    exact fin _ w' _ _ hlt (bHX.trans rfl) hG1 Lq
 ·have bHW:¬ (i:Int)<(f.bHR.length:Nat):=by omega
  have:i=f.bHR.length:=by omega
  subst this
  simp only[go_sem,γ,reduceCtorEq,bHW]
  exact Up.up Lq (stop hc.symm)
def a1A:Spec:=fun name vs=>match name,vs with
 | 76,[.int _ n,.int _ lo,.int _ hi]=>some ([],fun _=>aD (.bool (within n lo hi)))
 | 74,[.agg cs]=>some ([],fun _=>aD (.bool (cG (frD cs))))
 | _,_=>none
theorem a1B (x:RF):a1A 74 [.agg x.cells]=some ([],fun _=>aD (.bool (cG x))):=by
 show some ([],fun _=>aD (.bool (cG (frD x.cells))))=_
 rw[aoV]
def azA (f:aK) (i:Nat) (d:bQ):Bool :=
 within d.level 1 4&&(within d.parent 0 i&&(((f.bHS.map bQ.level).getD d.parent.toNat 0==IntKind.i64.wrap (d.level-1))&&(within d.bIP 1 64&&cG d.bIH)))
theorem blM (f:aK) (i:Nat) (d:bQ):FS f i d=azA f i d:=by
 unfold FS azA
 have:decide ((f.bHS.map bQ.level).getD d.parent.toNat 0=IntKind.i64.wrap (d.level-1))=((f.bHS.map bQ.level).getD d.parent.toNat 0==IntKind.i64.wrap (d.level-1)):=by
  generalize (f.bHS.map bQ.level).getD d.parent.toNat 0=u
  by_cases h:u=IntKind.i64.wrap (d.level-1)<;>simp[h]
 rw[this]
 cases within d.parent 0 i<;>cases within d.level 1 4<;>cases within d.bIP 1 64<;>simp
def fT (f:aK):List (List UInt8):=(f.bHS.drop 1).map bQ.name
def uL (f:aK) (i:Nat):Bool:=match f.bHS[i+1]? with
 | some d=>azA f i d
 | none=>false
def uN (f:aK):Bool:=(bJU (f.bHS.length-1)).all (okL [] (fT f) (uL f))
theorem ayZ (f:aK):(fT f).length=f.bHS.length-1:=by simp[fT]
theorem bqJ {C:Ctx} (L:pL C) (f:aK) (hf:f.Ok) (hz3:f.bHS.length≤40) (h0:0<f.bHS.length) (b:Bool) (K:cN) [Up K] (F:PF) (H:PH)
  (hF:(((((((PF.nil.set 1 (.bH f.cells)).set 5 (.aB)).set 6 (.aB)).set 7 (.aB)).set 8 (.bool b)).set 13 (.int .i64 1)):PF).le F)
  (hK:∀ w H',fY H' w [] (fT f) (b&&uN f) (f.bHS.length-1)→K (.exit 4) ((((((PF.nil.set 1 (.bH f.cells)).set 5 (w)).set 6 (.aB)).set 7 (.aB)).set 8 (.bool (b&&uN f)))) H'):aC.wp C (.loop vH) K F H:=by
 obtain⟨ok,hok⟩:∃ ok,okL [] (fT f) (uL f)=ok:=⟨_,rfl⟩
 unfold uN at hK
 rw[hok] at hK
 obtain⟨n,hn⟩:∃ n,f.bHS.length=n+1:=⟨f.bHS.length-1,by omega⟩
 have hnl:=ayZ f
 have hn1:f.bHS.length-1=n:=by omega
 rw[hn1] at hK hnl
 refine wp_loop (α:=Nat × PV × PH) (fun s=>((((((PF.nil.set 1 (.bH f.cells)).set 5 (s.2.1)).set 6 (.aB)).set 7 (.aB)).set 8 (.bool (b&&(bJU s.1).all ok))).set 13 (.int .i64 (s.1+1:Nat)))) (fun s=>s.2.2) (fun s=>s.1≤n∧fY s.2.2 s.2.1 [] (fT f) (b&&(bJU s.1).all ok) s.1) (fun s=>n-s.1)
  (0,.aB,H) ⟨bKF _,⟨[],aQ.nil.mF 1,fun _=>rfl⟩⟩ (by
   have e:(b&&(bJU 0).all ok)=b:=by cases b<;>rfl
   simp only[e]
   exact hF) PH.le_refl ?_
 rintro⟨i,w,H0⟩ ⟨hi,hG⟩
 simp only at hi hG ⊢
 have fin:∀ (c:Bool) (w':PV) (F':PF) (H':PH),i<n→(b&&(bJU (i+1)).all ok)=c→fY H' w' [] (fT f) true (i+1) →
   (((((((PF.nil.set 1 (.bH f.cells)).set 5 (w')).set 6 (.aB)).set 7 (.aB)).set 8 (.bool c)).set 13 (.int .i64 (i+1+1:Nat))):PF).le F' →
   eE (fun s:Nat × PV × PH=>((((((PF.nil.set 1 (.bH f.cells)).set 5 (s.2.1)).set 6 (.aB)).set 7 (.aB)).set 8 (.bool (b&&(bJU s.1).all ok))).set 13 (.int .i64 (s.1+1:Nat)))) (fun s=>s.2.2) (fun s=>s.1≤n∧fY s.2.2 s.2.1 [] (fT f) (b&&(bJU s.1).all ok) s.1) (fun s=>n-s.1) (n-i) K .normal F' H' :=
  fun c w' F' H' hlt hb hG' hF'=>aH (i+1,w',H') ⟨hlt,hG'.anJ⟩ (by simp only; omega) (by simp only; rw[hb]; exact hF') PH.le_refl
 have bHX:=oZ (p:=ok) i b
 have hacc:=fun h=>oY (p:=ok) (b:=b) hi h
 have stop:(b&&(bJU i).all ok)=(b&&(bJU n).all ok)→((b&&(bJU i).all ok)=true→i=n)→K (.exit 4) ((((((PF.nil.set 1 (.bH f.cells)).set 5 (w)).set 6 (.aB)).set 7 (.aB)).set 8 (.bool (b&&(bJU i).all ok)))) H0:=fun e e2=>by
  obtain⟨names,g1,g3⟩:=hG.ex
  have:=hK w H0 ⟨names,g1,fun h=>by
   have h':=e.trans h
   rw[g3 h',e2 h']⟩
  rwa [← e] at this
 generalize hc:(b&&(bJU i).all ok)=c at *
 simp only[go_sem,δ,γ,θ,vH,ajX,bJT]
 by_cases hlt:i<n
 ·have bHW:((i+1:Nat):Int)<(f.bHS.length:Nat):=by omega
  cases c with
  | false =>
   simp only[go_sem,γ,bHW]
   exact Up.up Lq (stop (hacc rfl).symm (fun h=>by cases h))
  | true =>
   obtain⟨names,g1,g3⟩:=hG.ex
   have hid:i+1<f.bHS.length:=by omega
   have hat:=uM hid
   have hin:i<(fT f).length:=by omega
   have hnm:(fT f)[i]=(f.bHS[i+1]).name:=by simp[fT,Nat.add_comm]
   have hoki:ok i=(gX ([]++(fT f).take i) ((fT f).getD i [])&&azA f i f.bHS[i+1]):=by
    rw[← hok]
    unfold okL uL
    rw[bKD hid]
   have hdo:=hf.dom _ (bJX hid)
   rw[hoki] at bHX
   unfold azA at bHX
   have e1:IntKind.i64.wrap (((i+1:Nat):Int)-1)=(i:Nat):=by rw[wrap_i64 Om Om]; omega
   have winc:IntKind.i64.wrap (((i+1:Nat):Int)+1)=((i+1+1:Nat):Int):=dH Om
   have hsm:=L.small _ hdo.1
   simp only[go_sem,δ,γ,θ,bHW,ajY,hat]
   refine aR fun o ho=>?_
   have g4:=g1.new ho (.rows 7 [(f.bHS[i+1]).cells])
   have g5:=g4.at 0 rfl
   simp only[go_sem,δ,γ]
   generalize H0.set o (.rows 7 [(f.bHS[i+1]).cells])=H2 at *
   simp only[go_sem,δ,γ,θ,ajZ,g5]
   refine fY.call L.tonE (ns:=fT f) g4 (bKF _) Om (g3 rfl) hin (by simp only[go_sem,γ,hnm]) fun w' H1 h1 hG1=>?_
   have g6:=h1.at 0 rfl
   generalize gX ([]++(fT f).take i) ((fT f).getD i [])=fb at *
   generalize hd:f.bHS[i+1]=dd at *
   cases fb with
   | false =>
    simp only[go_sem,γ]
    refine bR .nil a1A PH.nil_le ?_
    simp only[go_sem,γ,reduceCtorEq,KE,lW,winc]
    exact fin false w' _ _ hlt (bHX.trans rfl) hG1 Lq
   | true =>
    simp only[go_sem,γ]
    refine bR .nil a1A PH.nil_le ?_
    simp only[go_sem,δ,γ,θ,reduceCtorEq,KE,g6]
    refine bJ rfl (L.inn dd.level 1 4) rfl PH.nil_le ?_
    cases k0:within dd.level 1 4 with
    | false =>
     simp only[go_sem,γ,reduceCtorEq,lW,winc]
     exact fin false w' _ _ hlt (by rw[bHX,k0]<;>simp) hG1 Lq
    | true =>
     simp only[go_sem,δ,γ,θ,reduceCtorEq,g6,e1]
     refine bJ rfl (L.inn dd.parent 0 (i:Nat)) rfl PH.nil_le ?_
     cases k1:within dd.parent 0 (i:Nat) with
     | false =>
      simp only[go_sem,γ,reduceCtorEq,lW,winc]
      exact fin false w' _ _ hlt (by rw[bHX,k0,k1]<;>simp) hG1 Lq
     | true =>
      obtain⟨p0,p1⟩:=within_iff.1 k1
      obtain⟨p,hp⟩:∃ p:Nat,dd.parent=p:=⟨dd.parent.toNat,by omega⟩
      have hpd:p<f.bHS.length:=by omega
      obtain⟨lv,hlv⟩:∃ lv,(f.bHS.map bQ.level).getD dd.parent.toNat 0=lv:=⟨_,rfl⟩
      have hpl:(f.bHS[p]).level=lv:=by rw[← hlv,hp,bMX,nK hpd]
      rw[hlv] at bHX
      have hpat:=uM hpd
      simp only[go_sem,δ,γ,θ,reduceCtorEq,g6,hp,hpat,hpl]
      cases k2:lv==IntKind.i64.wrap (dd.level-1) with
      | false =>
       simp only[go_sem,γ,reduceCtorEq,lW,winc]
       exact fin false w' _ _ hlt (by rw[bHX,k0,k1,k2]<;>simp) hG1 Lq
      | true =>
       simp only[go_sem,δ,γ,θ,reduceCtorEq,g6]
       refine bJ rfl (L.inn dd.bIP 1 64) rfl PH.nil_le ?_
       cases k3:within dd.bIP 1 64 with
       | false =>
        simp only[go_sem,γ,reduceCtorEq,lW,winc]
        exact fin false w' _ _ hlt (by rw[bHX,k0,k1,k2,k3]<;>simp) hG1 Lq
       | true =>
        simp only[go_sem,δ,γ,reduceCtorEq,g6]
        refine bJ (a1B _) hsm rfl PH.nil_le ?_
        simp only[go_sem,γ,lW,winc]
        exact fin _ w' _ _ hlt (by rw[bHX,k0,k1,k2,k3]<;>simp) hG1 Lq
 ·have bHW:¬ ((i+1:Nat):Int)<(f.bHS.length:Nat):=by omega
  have:i=n:=by omega
  subst this
  simp only[go_sem,γ,reduceCtorEq,bHW]
  exact Up.up Lq (stop hc.symm (fun _=>rfl))
def azC (f:aK) (d:cB):Bool:=within d.model 0 ((f.bHQ.length:Int)-1)&&(within d.machine 0 ((f.bHS.length:Int)-1)&&((f.bHS.map bQ.level).getD d.machine.toNat 0==4))
def kF (f:aK):List (List UInt8):=f.bHP.map cB.name
def sJ (f:aK) (i:Nat):Bool:=match f.bHP[i]? with
 | some d=>azC f d
 | none=>false
def vN (f:aK):Bool:=(bJU f.bHP.length).all (okL (fT f) (kF f) (sJ f))
theorem bdV {C:Ctx} (L:pL C) (f:aK) (hf:f.Ok) (hz3:f.bHS.length≤40) (h0:0<f.bHS.length) (hz4:f.bHP.length≤24) (hz2:f.bHQ.length≤4) (b:Bool) (w0:PV) (K:cN) [Up K] (F:PF) (H:PH)
  (hG0:fY H w0 [] (fT f) b (f.bHS.length-1)) (hF:(((((((PF.nil.set 1 (.bH f.cells)).set 5 (w0)).set 6 (.aB)).set 7 (.aB)).set 8 (.bool b)).set 15 (.int .i64 0)):PF).le F)
  (hK:∀ H',K (.exit 6) (((((PF.nil.set 1 (.bH f.cells)).set 6 (.aB)).set 7 (.aB)).set 8 (.bool (b&&vN f)))) H'):aC.wp C (.loop vI) K F H:=by
 obtain⟨ok,hok⟩:∃ ok,okL (fT f) (kF f) (sJ f)=ok:=⟨_,rfl⟩
 unfold vN at hK
 rw[hok] at hK
 obtain⟨n,hn⟩:∃ n,f.bHP.length=n:=⟨_,rfl⟩
 have hdl:=ayZ f
 have hnl:(kF f).length=n:=by simp[kF,hn]
 rw[hn] at hK
 refine wp_loop (α:=Nat × PV × PH) (fun s=>((((((PF.nil.set 1 (.bH f.cells)).set 5 (s.2.1)).set 6 (.aB)).set 7 (.aB)).set 8 (.bool (b&&(bJU s.1).all ok))).set 15 (.int .i64 s.1))) (fun s=>s.2.2) (fun s=>s.1≤n∧fY s.2.2 s.2.1 (fT f) (kF f) (b&&(bJU s.1).all ok) s.1) (fun s=>n-s.1)
  (0,w0,H) ⟨bKF _,by
   obtain⟨names,q1,q2⟩:=hG0.ex
   have e:(b&&(bJU 0).all ok)=b:=by cases b<;>rfl
   refine⟨names,q1,fun h=>?_⟩
   simp only[e] at h
   rw[q2 h,bML,bKK Om]
   simp⟩ (by
   have e:(b&&(bJU 0).all ok)=b:=by cases b<;>rfl
   simp only[e]
   exact hF) PH.le_refl ?_
 rintro⟨i,w,H0⟩ ⟨hi,hG⟩
 simp only at hi hG ⊢
 have fin:∀ (c:Bool) (w':PV) (F':PF) (H':PH),i<n→(b&&(bJU (i+1)).all ok)=c→fY H' w' (fT f) (kF f) true (i+1) →
   (((((((PF.nil.set 1 (.bH f.cells)).set 5 (w')).set 6 (.aB)).set 7 (.aB)).set 8 (.bool c)).set 15 (.int .i64 (i+1:Nat))):PF).le F' →
   eE (fun s:Nat × PV × PH=>((((((PF.nil.set 1 (.bH f.cells)).set 5 (s.2.1)).set 6 (.aB)).set 7 (.aB)).set 8 (.bool (b&&(bJU s.1).all ok))).set 15 (.int .i64 s.1))) (fun s=>s.2.2) (fun s=>s.1≤n∧fY s.2.2 s.2.1 (fT f) (kF f) (b&&(bJU s.1).all ok) s.1) (fun s=>n-s.1) (n-i) K .normal F' H' :=
  fun c w' F' H' hlt hb hG' hF'=>aH (i+1,w',H') ⟨hlt,hG'.anJ⟩ (by simp only; omega) (by simp only; rw[hb]; exact hF') PH.le_refl
 have bHX:=oZ (p:=ok) i b
 have hacc:=fun h=>oY (p:=ok) (b:=b) hi h
 have stop:(b&&(bJU i).all ok)=(b&&(bJU n).all ok)→K (.exit 6) (((((PF.nil.set 1 (.bH f.cells)).set 6 (.aB)).set 7 (.aB)).set 8 (.bool (b&&(bJU i).all ok)))) H0:=fun e=>by
  rw[e]; exact hK H0
 generalize hc:(b&&(bJU i).all ok)=c at *
 simp only[go_sem,δ,γ,θ,vI,akA,bJT]
 by_cases hlt:i<n
 ·have bHW:((i:Nat):Int)<(f.bHP.length:Nat):=by omega
  cases c with
  | false =>
   simp only[go_sem,γ,bHW]
   exact Up.up Lq (stop (hacc rfl).symm)
  | true =>
   obtain⟨names,g1,g3⟩:=hG.ex
   have hid:i<f.bHP.length:=by omega
   have hat:=aoH hid
   have hin:i<(kF f).length:=by omega
   have hnm:(kF f)[i]=(f.bHP[i]).name:=by simp[kF]
   have hoki:ok i=(gX (fT f++(kF f).take i) ((kF f).getD i [])&&azC f f.bHP[i]):=by
    rw[← hok]
    unfold okL sJ
    rw[bKD hid]
   rw[hoki] at bHX
   unfold azC at bHX
   have winc:IntKind.i64.wrap ((i:Int)+1)=((i+1:Nat):Int):=dH Om
   have e1:=aiV (Om:f.bHQ.length≤1000)
   have e2:=aiV (Om:f.bHS.length≤1000)
   simp only[go_sem,δ,γ,θ,bHW,akB,hat]
   refine aR fun o ho=>?_
   have g4:=g1.new ho (.rows 3 [(f.bHP[i]).cells])
   have g5:=g4.at 0 rfl
   simp only[go_sem,δ,γ]
   generalize H0.set o (.rows 3 [(f.bHP[i]).cells])=H2 at *
   simp only[go_sem,δ,γ,θ,akC,g5]
   refine fY.call L.tonE (base:=fT f) (ns:=kF f) g4 Om Om (g3 rfl) hin (by simp only[go_sem,γ,hnm]) fun w' H1 h1 hG1=>?_
   have g6:=h1.at 0 rfl
   generalize gX (fT f++(kF f).take i) ((kF f).getD i [])=fb at *
   generalize hd:f.bHP[i]=dd at *
   cases fb with
   | false =>
    simp only[go_sem,γ,reduceCtorEq,KG,rI,winc]
    exact fin false w' _ _ hlt (bHX.trans rfl) hG1 Lq
   | true =>
    simp only[go_sem,δ,γ,θ,KG,g6,bJT,e1]
    refine aA (L.inn dd.model 0 ((f.bHQ.length:Int)-1)) rfl ?_
    cases k0:within dd.model 0 ((f.bHQ.length:Int)-1) with
    | false =>
     simp only[go_sem,γ,reduceCtorEq,rI,winc]
     exact fin false w' _ _ hlt (by rw[bHX,k0]<;>simp) hG1 Lq
    | true =>
     simp only[go_sem,δ,γ,θ,g6,bJT,e2]
     refine aA (L.inn dd.machine 0 ((f.bHS.length:Int)-1)) rfl ?_
     cases k1:within dd.machine 0 ((f.bHS.length:Int)-1) with
     | false =>
      simp only[go_sem,γ,reduceCtorEq,rI,winc]
      exact fin false w' _ _ hlt (by rw[bHX,k0,k1]<;>simp) hG1 Lq
     | true =>
      obtain⟨p0,p1⟩:=within_iff.1 k1
      obtain⟨p,hp⟩:∃ p:Nat,dd.machine=p:=⟨dd.machine.toNat,by omega⟩
      have hpd:p<f.bHS.length:=by omega
      obtain⟨lv,hlv⟩:∃ lv,(f.bHS.map bQ.level).getD dd.machine.toNat 0=lv:=⟨_,rfl⟩
      have hpl:(f.bHS[p]).level=lv:=by rw[← hlv,hp,bMX,nK hpd]
      rw[hlv] at bHX
      have hpat:=uM hpd
      simp only[go_sem,δ,γ,θ,g6,hp,hpat,hpl,rI,winc]
      exact fin _ w' _ _ hlt (by rw[bHX,k0,k1]<;>simp) hG1 Lq
 ·have bHW:¬ ((i:Nat):Int)<(f.bHP.length:Nat):=by omega
  have:i=n:=by omega
  subst this
  simp only[go_sem,γ,reduceCtorEq,bHW]
  exact Up.up Lq (stop hc.symm)
theorem XU {xs:List Int} {k:Nat} (h:k<xs.length):(xs.map fun x=>[PV.int .i64 x])[k]?=some [.int .i64 xs[k]]:=by simp[h]
def zpF (f:aK) (w:PV) (o i:Nat) (c:Bool) (j:Nat):PF:=(((((((PF.nil.set 1 (.bH f.cells)).set 6 (w)).set 7 (.aB)).set 8 (.bool c)).set 17 (.int .i64 i)).set 18 (.ptr o 17 0 0)).set 19 (.int .i64 j))
theorem bkA {C:Ctx} (f:aK) (w:PV) (o i:Nat) (p:cZ) (hl:p.bHQ.length≤9223372036854775807) (j:Nat) (hj:j<p.bHQ.length) (b:Bool) (K:cN) [Up K] (F:PF) (H:PH) (ho:H o=some (.rows 17 [p.cells])) (hF:((zpF f w o i b j).set 20 (.int .i64 0)).le F)
  (hK:K (.exit 12) (zpF f w o i (b&&(p.bHQ.take j).all fun x=>x != p.bHQ[j]) j) H):aC.wp C (.loop JZ) K F H:=by
 refine wp_loop (α:=Nat) (fun k=>(zpF f w o i (b&&(p.bHQ.take k).all fun x=>x != p.bHQ[j]) j).set 20 (.int .i64 k)) (fun _=>H) (fun k=>k≤j) (fun k=>j-k) 0 (bKF _) (by
   have e:(b&&(p.bHQ.take 0).all fun x=>x != p.bHQ[j])=b:=by cases b<;>rfl
   simp only[e]
   exact hF) PH.le_refl ?_
 intro k hk
 have hs:∀ h:k<p.bHQ.length,(b&&(p.bHQ.take (k+1)).all fun x=>x != p.bHQ[j])=((b&&(p.bHQ.take k).all fun x=>x != p.bHQ[j])&&(p.bHQ[k] != p.bHQ[j])):=fun h=>by
  rw[bLK h,List.all_append]
  simp[bMS]
 have fin:∀ (c:Bool) (F':PF),k<j→(b&&(p.bHQ.take (k+1)).all fun x=>x != p.bHQ[j])=c→((zpF f w o i c j).set 20 (.int .i64 (k+1:Nat))).le F'→eE (fun k:Nat=>(zpF f w o i (b&&(p.bHQ.take k).all fun x=>x != p.bHQ[j]) j).set 20 (.int .i64 k)) (fun _=>H) (fun k=>k≤j) (fun k=>j-k) (j-k) K .normal F' H :=
  fun c F' hlt e h=>aH (k+1) hlt Om (by rw[e]; exact h) PH.le_refl
 unfold zpF at fin
 simp only[go_sem,γ,JZ,akJ,zpF]
 by_cases hlt:k<j
 ·have bHW:(k:Int)<(j:Nat):=by omega
  have hk2:k<p.bHQ.length:=by omega
  have hs:=hs hk2
  generalize (b&&(p.bHQ.take k).all fun x=>x != p.bHQ[j])=c at *
  simp only[go_sem,bHW]
  refine bR .nil eG PH.nil_le ?_
  cases c with
  | false =>
   simp only[go_sem,γ,reduceCtorEq,KJ,KK,wZz k]
   exact fin false _ hlt (hs.trans rfl) Lq
  | true =>
   simp only[go_sem,δ,γ,θ,reduceCtorEq,KJ,ho,XU hk2,XU hj,KK,wZz k]
   exact fin _ _ hlt (hs.trans rfl) Lq
 ·have bHW:¬ (k:Int)<(j:Nat):=by omega
  have:k=j:=by omega
  subst this
  simp only[go_sem,bHW]
  exact Up.up (by (repeat' (first|exact PF.nil_le|refine PF.aI ?_ ?_))<;>first|(simp only[go_sem,γ,zpF]<;>rfl)|rfl) hK
def HV (bHQ:Nat) (ms:List Int) (j:Nat):Bool:=within (ms.getD j 0) 0 ((bHQ:Int)-1)&&(ms.take j).all fun x=>x != ms.getD j 0
theorem bdQ {C:Ctx} (L:pL C) (f:aK) (hz2:f.bHQ.length≤4) (w:PV) (o i:Nat) (p:cZ) (hl:p.bHQ.length≤9223372036854775807) (b:Bool) (K:cN) [Up K] (F:PF) (H:PH) (ho:H o=some (.rows 17 [p.cells])) (hF:(zpF f w o i b 0).le F)
  (hK:K (.exit 10) ((((((PF.nil.set 1 (.bH f.cells)).set 6 (w)).set 7 (.aB)).set 8 (.bool (b&&(bJU p.bHQ.length).all (HV f.bHQ.length p.bHQ)))).set 17 (.int .i64 i))) H):aC.wp C (.loop vJ) K F H:=by
 obtain⟨ok,hok⟩:∃ ok,HV f.bHQ.length p.bHQ=ok:=⟨_,rfl⟩
 rw[hok] at hK
 refine wp_loop (α:=Nat) (fun j=>zpF f w o i (b&&(bJU j).all ok) j) (fun _=>H) (fun j=>j≤p.bHQ.length) (fun j=>p.bHQ.length-j) 0 (bKF _) (by
   have e:(b&&(bJU 0).all ok)=b:=by cases b<;>rfl
   simp only[e]
   exact hF) PH.le_refl ?_
 intro j hj
 have bHX:=oZ (p:=ok) j b
 have hacc:=fun h=>oY (p:=ok) (b:=b) hj h
 have fin:∀ (c:Bool) (F':PF),j<p.bHQ.length→(b&&(bJU (j+1)).all ok)=c→(zpF f w o i c (j+1)).le F'→eE (fun j:Nat=>zpF f w o i (b&&(bJU j).all ok) j) (fun _=>H) (fun j=>j≤p.bHQ.length) (fun j=>p.bHQ.length-j) (p.bHQ.length-j) K .normal F' H :=
  fun c F' hlt e h=>aH (j+1) hlt Om (by rw[e]; exact h) PH.le_refl
 unfold zpF at fin
 have stop:(b&&(bJU j).all ok)=(b&&(bJU p.bHQ.length).all ok)→K (.exit 10) ((((((PF.nil.set 1 (.bH f.cells)).set 6 (w)).set 7 (.aB)).set 8 (.bool (b&&(bJU j).all ok))).set 17 (.int .i64 i))) H:=fun e=>by
  rw[e]; exact hK
 generalize hc:(b&&(bJU j).all ok)=c at *
 simp only[go_sem,δ,γ,θ,vJ,akG,zpF,ho,bJT]
 by_cases hlt:j<p.bHQ.length
 ·have bHW:(j:Int)<(p.bHQ.length:Nat):=by omega
  cases c with
  | false =>
   simp only[go_sem,γ,bHW]
   exact Up.up Lq (stop (hacc rfl).symm)
  | true =>
   have e1:=aiV (Om:f.bHQ.length≤1000)
   have hg:p.bHQ.getD j 0=p.bHQ[j]:=by simp[bKO,hlt]
   have hoj:ok j=(within p.bHQ[j] 0 ((f.bHQ.length:Int)-1)&&(p.bHQ.take j).all fun x=>x != p.bHQ[j]):=by
    rw[← hok]
    unfold HV
    rw[hg]
   rw[hoj] at bHX
   simp only[go_sem,γ,bHW]
   refine bR .nil a1A PH.nil_le ?_
   simp only[go_sem,δ,γ,θ,reduceCtorEq,akH,ho,XU hlt,bJT,e1]
   refine bJ rfl (L.inn p.bHQ[j] 0 ((f.bHQ.length:Int)-1)) Sq PH.nil_le ?_
   simp only[go_sem,γ,akI]
   refine bkA f w o i p hl j hlt (within p.bHQ[j] 0 ((f.bHQ.length:Int)-1)) _ _ _ ho (by (repeat' (first|exact PF.nil_le|refine PF.aI ?_ ?_))<;>first|(simp only[go_sem,γ,zpF]<;>rfl)|rfl) ?_
   simp only[go_sem,γ,zpF,akK,wZz j]
   exact fin _ _ hlt (bHX.trans rfl) Lq
 ·have bHW:¬ (j:Int)<(p.bHQ.length:Nat):=by omega
  have:j=p.bHQ.length:=by omega
  subst this
  simp only[go_sem,γ,reduceCtorEq,bHW]
  exact Up.up Lq (stop hc.symm)
def aGS (bHQ:Nat) (p:cZ):Bool:=HP p.k p.m p.bIT p.s0 p.s1 p.s2 p.s3 p.s4&&(MD p.m p.repair p.target p.bIB&&(decide (p.bHQ.length>0)&&(bJU p.bHQ.length).all (HV bHQ p.bHQ)))
theorem boM (bHQ:Nat) (p:cZ):jB bHQ p=aGS bHQ p:=by
 unfold jB aGS
 rw[boG,brA]
 have h1:decide (p.bHQ.length≠0)=decide (p.bHQ.length>0):=decide_eq_decide.2 Om
 have h2:(bJU p.bHQ.length).all (fun j=>within (p.bHQ.getD j 0) 0 ((bHQ:Int)-1)&&!(p.bHQ.take j).contains (p.bHQ.getD j 0))=(bJU p.bHQ.length).all (HV bHQ p.bHQ):=by
  congr 1
  funext j
  unfold HV
  congr 1
  generalize p.bHQ.getD j 0=x
  induction p.bHQ.take j with
  | nil=>rfl
  | cons a t ih =>
   rw[List.contains_cons,List.all_cons,← ih,Bool.not_or,bne,BEq.comm]
 rw[h1,h2]
 cases HP p.k p.m p.bIT p.s0 p.s1 p.s2 p.s3 p.s4<;>cases MD p.m p.repair p.target p.bIB<;>cases decide (p.bHQ.length>0)<;>simp
structure akS (C:Ctx):Prop extends pL C where
 dur:∀ (m:Int) (rep:List RF),jG rep→∀ t h:RF,t.Ok→h.Ok→aE C 69 [.int .i64 m,frs rep,.agg t.cells,.agg h.cells] .nil (aD (.bool (MD m rep t h)))
def jO (f:aK):List (List UInt8):=f.bHT.map cZ.name
def HU (f:aK) (i:Nat):Bool:=match f.bHT[i]? with
 | some p=>aGS f.bHQ.length p
 | none=>false
def afE (f:aK):Bool:=(bJU f.bHT.length).all (okL [] (jO f) (HU f))
theorem bqL {C:Ctx} (L:akS C) (f:aK) (hf:f.Ok) (hz5:f.bHT.length≤4) (hz2:f.bHQ.length≤4) (b:Bool) (K:cN) [Up K] (F:PF) (H:PH)
  (hF:((((((PF.nil.set 1 (.bH f.cells)).set 6 (.aB)).set 7 (.aB)).set 8 (.bool b)).set 17 (.int .i64 0)):PF).le F)
  (hK:∀ H',K (.exit 8) ((((PF.nil.set 1 (.bH f.cells)).set 7 (.aB)).set 8 (.bool (b&&afE f)))) H'):aC.wp C (.loop vK) K F H:=by
 obtain⟨ok,hok⟩:∃ ok,okL [] (jO f) (HU f)=ok:=⟨_,rfl⟩
 unfold afE at hK
 rw[hok] at hK
 have hnl:(jO f).length=f.bHT.length:=by simp[jO]
 refine wp_loop (α:=Nat × PV × PH) (fun s=>(((((PF.nil.set 1 (.bH f.cells)).set 6 (s.2.1)).set 7 (.aB)).set 8 (.bool (b&&(bJU s.1).all ok))).set 17 (.int .i64 s.1))) (fun s=>s.2.2) (fun s=>s.1≤f.bHT.length∧fY s.2.2 s.2.1 [] (jO f) (b&&(bJU s.1).all ok) s.1) (fun s=>f.bHT.length-s.1)
  (0,.aB,H) ⟨bKF _,⟨[],aQ.nil.mF 1,fun _=>rfl⟩⟩ (by
   have e:(b&&(bJU 0).all ok)=b:=by cases b<;>rfl
   simp only[e]
   exact hF) PH.le_refl ?_
 rintro⟨i,w,H0⟩ ⟨hi,hG⟩
 simp only at hi hG ⊢
 have fin:∀ (c:Bool) (w':PV) (F':PF) (H':PH),i<f.bHT.length→(b&&(bJU (i+1)).all ok)=c→fY H' w' [] (jO f) true (i+1) →
   ((((((PF.nil.set 1 (.bH f.cells)).set 6 (w')).set 7 (.aB)).set 8 (.bool c)).set 17 (.int .i64 (i+1:Nat))):PF).le F' →
   eE (fun s:Nat × PV × PH=>(((((PF.nil.set 1 (.bH f.cells)).set 6 (s.2.1)).set 7 (.aB)).set 8 (.bool (b&&(bJU s.1).all ok))).set 17 (.int .i64 s.1))) (fun s=>s.2.2) (fun s=>s.1≤f.bHT.length∧fY s.2.2 s.2.1 [] (jO f) (b&&(bJU s.1).all ok) s.1) (fun s=>f.bHT.length-s.1) (f.bHT.length-i) K .normal F' H' :=
  fun c w' F' H' hlt hb hG' hF'=>aH (i+1,w',H') ⟨hlt,hG'.anJ⟩ (by simp only; omega) (by simp only; rw[hb]; exact hF') PH.le_refl
 have bHX:=oZ (p:=ok) i b
 have hacc:=fun h=>oY (p:=ok) (b:=b) hi h
 have stop:(b&&(bJU i).all ok)=(b&&(bJU f.bHT.length).all ok)→K (.exit 8) ((((PF.nil.set 1 (.bH f.cells)).set 7 (.aB)).set 8 (.bool (b&&(bJU i).all ok)))) H0:=fun e=>by
  rw[e]; exact hK H0
 generalize hc:(b&&(bJU i).all ok)=c at *
 simp only[go_sem,δ,γ,θ,vK,akD,bJT]
 by_cases hlt:i<f.bHT.length
 ·have bHW:(i:Int)<(f.bHT.length:Nat):=by omega
  cases c with
  | false =>
   simp only[go_sem,γ,bHW]
   exact Up.up Lq (stop (hacc rfl).symm)
  | true =>
   obtain⟨names,g1,g3⟩:=hG.ex
   have hat:=oR hlt
   have hin:i<(jO f).length:=by omega
   have hnm:(jO f)[i]=(f.bHT[i]).name:=by simp[jO]
   have hoki:ok i=(gX ([]++(jO f).take i) ((jO f).getD i [])&&aGS f.bHQ.length f.bHT[i]):=by
    rw[← hok]
    unfold okL HU
    rw[bKD hlt]
   have hpo:=hf.bID _ (bJX hlt)
   rw[hoki] at bHX
   unfold aGS at bHX
   have winc:IntKind.i64.wrap ((i:Int)+1)=((i+1:Nat):Int):=dH Om
   simp only[go_sem,δ,γ,θ,bHW,akE,hat]
   refine aR fun o ho=>?_
   have g4:=g1.new ho (.rows 17 [(f.bHT[i]).cells])
   have g5:=g4.at 0 rfl
   simp only[go_sem,δ,γ]
   generalize H0.set o (.rows 17 [(f.bHT[i]).cells])=H2 at *
   simp only[go_sem,δ,γ,θ,akF,g5]
   refine fY.call L.tonE (ns:=jO f) g4 (bKF _) Om (g3 rfl) hin (by simp only[go_sem,γ,hnm]) fun w' H1 h1 hG1=>?_
   have g6:=h1.at 0 rfl
   generalize gX ([]++(jO f).take i) ((jO f).getD i [])=fb at *
   generalize hd:f.bHT[i]=p at *
   have rest:∀ (c:Bool) (F':PF),(zpF f w' o i c 0).le F'→(c&&(bJU p.bHQ.length).all (HV f.bHQ.length p.bHQ))=(b&&(bJU (i+1)).all ok) →
     aC.wp C (.loop vJ) (dW 10 (dW 9 (iD C (aC.wp C (.region KL)) (eE (fun s:Nat × PV × PH=>(((((PF.nil.set 1 (.bH f.cells)).set 6 (s.2.1)).set 7 (.aB)).set 8 (.bool (b&&(bJU s.1).all ok))).set 17 (.int .i64 s.1))) (fun s=>s.2.2) (fun s=>s.1≤f.bHT.length∧fY s.2.2 s.2.1 [] (jO f) (b&&(bJU s.1).all ok) s.1) (fun s=>f.bHT.length-s.1) (f.bHT.length-i) K)))) F' H1:=by
    intro c F' hF' hcc
    refine bdQ L.topL f hz2 w' o i p hpo.bHQ c _ _ _ g6 hF' ?_
    rw[hcc]
    simp only[go_sem,γ,KL,winc]
    exact fin _ w' _ _ hlt rfl hG1 Lq
   cases fb with
   | false =>
    simp only[go_sem,γ,reduceCtorEq,KI,rJ]
    exact rest false _ (by (repeat' (first|exact PF.nil_le|refine PF.aI ?_ ?_))<;>first|(simp only[go_sem,γ,zpF]<;>rfl)|rfl) (by rw[bHX]; rfl)
   | true =>
    simp only[go_sem,δ,γ,θ,KI,g6]
    refine aA (L.nums p.k p.m p.bIT p.s0 p.s1 p.s2 p.s3 p.s4) Sq ?_
    cases k0:HP p.k p.m p.bIT p.s0 p.s1 p.s2 p.s3 p.s4 with
    | false =>
     simp only[go_sem,γ,reduceCtorEq,rJ]
     exact rest false _ (by (repeat' (first|exact PF.nil_le|refine PF.aI ?_ ?_))<;>first|(simp only[go_sem,γ,zpF]<;>rfl)|rfl) (by rw[bHX,k0]; rfl)
    | true =>
     simp only[go_sem,δ,γ,θ,g6]
     refine aA (L.dur p.m p.repair hpo.repair p.target p.bIB hpo.target hpo.bIB) Sq ?_
     cases k1:MD p.m p.repair p.target p.bIB with
     | false =>
      simp only[go_sem,γ,reduceCtorEq,rJ]
      exact rest false _ (by (repeat' (first|exact PF.nil_le|refine PF.aI ?_ ?_))<;>first|(simp only[go_sem,γ,zpF]<;>rfl)|rfl) (by rw[bHX,k0,k1]; rfl)
     | true =>
      have hgt:decide (((p.bHQ.length:Nat):Int)>0)=decide (p.bHQ.length>0):=decide_eq_decide.2 Om
      simp only[go_sem,δ,γ,θ,g6,bJT,hgt,rJ]
      exact rest _ _ (by (repeat' (first|exact PF.nil_le|refine PF.aI ?_ ?_))<;>first|(simp only[go_sem,γ,zpF]<;>rfl)|rfl) (by rw[bHX,k0,k1]; rfl)
 ·have bHW:¬ (i:Int)<(f.bHT.length:Nat):=by omega
  have:i=f.bHT.length:=by omega
  subst this
  simp only[go_sem,γ,reduceCtorEq,bHW]
  exact Up.up Lq (stop hc.symm)
def nZ (r:bQ):Bool:=(r.name==[])&&((r.level==0)&&((r.parent==-1)&&((r.bIP==0)&&(cM (val r.bIH.num) (val r.bIH.den)&&(oX r.bIH==0)))))
def a2Q (f:aK):Bool:=match f.bHS with
 | []=>false
 | r::_=>nZ r
def bhN (f:aK):Bool:=within f.bJD 1 4&&(nB f.bHY.length f.bHQ.length f.bHS.length f.bHP.length f.bHT.length f.bHR.length&&(decide (0<f.bHS.length)&&((((((GY f&&wA f)&&a2Q f)&&uN f)&&vN f)&&afE f)&&awT f)))
theorem aOT (n:Nat) (p q:Nat→Bool):(bJU n).all (fun i=>p i&&q i)=((bJU n).all p&&(bJU n).all q):=by
 induction n with
 | zero=>rfl
 | succ n ih =>
  simp only[List.range_succ,List.all_append,ih,List.all_cons,List.all_nil,bLT]
  cases (bJU n).all p<;>cases (bJU n).all q<;>cases p n<;>simp
theorem wJ {α:Type} (l:List α) (p:α→Bool):(bJU l.length).all (fun i=>(l.map p).getD i false)=l.all p:=by
 refine Bool.eq_iff_iff.2 ?_
 rw[bKQ,bKQ]
 constructor
 ·intro h x hx
  obtain⟨i,hi,rfl⟩:=bMA hx
  have:=h i (bLI.2 hi)
  simpa [bKO,hi] using this
 ·intro h i hi
  have hi:=bLI.1 hi
  simp[bKO,hi,h _ (bJX hi)]
theorem DL (ns:List (List UInt8)) (n:Nat) (hn:ns.length=n) (P:Nat→Bool):(bJU n).all (okL [] ns P)=(distinct ns&&(bJU n).all P):=by
 subst hn
 have:okL [] ns P=fun i=>(isName (ns.getD i [])&&!(ns.take i).contains (ns.getD i []))&&P i:=by
  funext i
  rfl
 rw[this,aOT]
 rfl
theorem boH (base ns:List (List UInt8)) (P Q:Nat→Bool):((bJU base.length).all (okL [] base P)&&(bJU ns.length).all (okL base ns Q))=(distinct (base++ns)&&((bJU base.length).all P&&(bJU ns.length).all Q)):=by
 have e1:okL base ns Q=fun i=>(isName (ns.getD i [])&&!(base++ns.take i).contains (ns.getD i []))&&Q i:=by
  funext i
  rfl
 have e2:distinct (base++ns)=(distinct base&&(bJU ns.length).all fun i=>isName (ns.getD i [])&&!(base++ns.take i).contains (ns.getD i [])):=by
  unfold distinct
  rw[bKA,List.range_add,List.all_append,List.all_map]
  congr 1
  ·refine Bool.eq_iff_iff.2 ?_
   rw[bKQ,bKQ]
   refine forall_congr' fun i=>forall_congr' fun hi=>?_
   have hi:=bLI.1 hi
   have a1:(base++ns).getD i []=base.getD i []:=by
    simp only[bKO]
    rw[bMH hi]
   have a2:(base++ns).take i=base.take i:=by rw[List.take_append_of_le_length Om]
   rw[a1,a2]
  ·refine Bool.eq_iff_iff.2 ?_
   rw[bKQ,bKQ]
   refine forall_congr' fun i=>forall_congr' fun _=>?_
   have a1:(base++ns).getD (base.length+i) []=ns.getD i []:=by
    simp only[bKO]
    rw[bLS Om]
    congr 2
    omega
   have a2:(base++ns).take (base.length+i)=base++ns.take i:=by rw[List.take_append,bKK Om]; congr 2; omega
   simp only[Function.comp,a1,a2]
 rw[DL base base.length rfl P,e1,aOT,e2]
 cases distinct base<;>cases (bJU base.length).all P<;>simp
theorem bhP (r:bQ):(decide (r.name=[])&&decide (r.level=0)&&decide (r.parent=-1)&&decide (r.bIP=0)&&cG r.bIH&&!bZ r.bIH)=nZ r:=by
 have h1:decide (r.name=[])=(r.name==[]):=by cases r.name<;>rfl
 have h2:decide (r.level=0)=(r.level==0):=by generalize r.level=x; by_cases h:x=0<;>simp[h]
 have h3:decide (r.parent=-1)=(r.parent==-1):=by generalize r.parent=x; by_cases h:x=-1<;>simp[h]
 have h4:decide (r.bIP=0)=(r.bIP==0):=by generalize r.bIP=x; by_cases h:x=0<;>simp[h]
 have h5:(cG r.bIH&&!bZ r.bIH)=(cM (val r.bIH.num) (val r.bIH.den)&&(oX r.bIH==0)):=by
  rw[IE]
  by_cases h:val r.bIH.num=0
  ·have ha:bZ r.bIH=false:=by unfold bZ; simp[h]
   rw[ha]
   simp only[bKI,bLT]
   cases hv:cM (val r.bIH.num) (val r.bIH.den) with
   | false =>
    unfold cG mG
    rw[hv]
    rfl
   | true =>
    obtain⟨v1,-,-⟩:=eX.1 hv
    unfold cG mG
    rw[hv,if_pos rfl,XV hv,h]
    unfold kU
    have hb:val r.bIH.den/bJY 0 (val r.bIH.den)=1:=by rw[Nat.gcd_zero_left,Nat.div_self (bMB v1)]
    have b0:cC (0/bJY 0 (val r.bIH.den))=0:=by rw[Nat.zero_div]; exact iV
    have b1:cC 1=1:=by rw[mV (by decide),iV]
    simp only[hb,b0,b1]
    simp
  ·have ha:bZ r.bIH=true:=by unfold bZ; simp[h]
   rw[ha]
   simp
 unfold nZ
 rw[h1,h2,h3,h4]
 simp only[bMS] at h5 ⊢
 rw[h5]
theorem beY (f:aK) {r:bQ} {t:List bQ} (h:f.bHS=r::t):yF f r t=(nZ r&&(bJU t.length).all (uL f)):=by
 unfold yF
 rw[bhP]
 congr 2
 funext i
 unfold uL
 rw[h,List.getElem?_cons_succ]
 cases t[i]? with
 | none=>rfl
 | some d=>exact blM f i d
theorem a6N (f:aK):f.bHP.all (gQ f)=(bJU f.bHP.length).all (sJ f):=by
 have:sJ f=fun i=>(f.bHP.map (gQ f)).getD i false:=by
  funext i
  unfold sJ
  rw[bKO,bKZ]
  cases f.bHP[i]? with
  | none=>rfl
  | some d =>
   show azC f d=gQ f d
   unfold azC gQ
   have:decide ((f.bHS.map bQ.level).getD d.machine.toNat 0=4)=((f.bHS.map bQ.level).getD d.machine.toNat 0==4):=by
    generalize (f.bHS.map bQ.level).getD d.machine.toNat 0=u
    by_cases h:u=4<;>simp[h]
   rw[this,bMS]
 rw[this,wJ]
theorem a9F (f:aK):f.bHT.all (jB f.bHQ.length)=(bJU f.bHT.length).all (HU f):=by
 have:HU f=fun i=>(f.bHT.map (jB f.bHQ.length)).getD i false:=by
  funext i
  unfold HU
  rw[bKO,bKZ]
  cases f.bHT[i]? with
  | none=>rfl
  | some d=>exact (boM _ d).symm
 rw[this,wJ]
theorem boS (f:aK):bhN f=dL f:=by
 have hm:alT f.bHY.length=jF f:=by
  funext m
  unfold alT jF
  rw[bMS]
 have hvv:aLU f.bHT.length=mH f:=rfl
 have hs:(within f.bJD 1 4&&nB f.bHY.length f.bHQ.length f.bHS.length f.bHP.length f.bHT.length f.bHR.length)=lH f:=by
  unfold lH nB
  simp only[bMS]
 unfold bhN dL GY wA afE awT
 rw[DL _ _ (by rw[bJT]),DL _ _ (by rw[bJT]),DL _ _ (by rw[jO,bJT]),DL _ _ (by rw[bJT]),wJ,wJ,wJ,hm,hvv,a9F,a6N,← bMS,hs]
 unfold mJ a2Q
 cases hd:f.bHS with
 | nil=>simp
 | cons r t =>
  have hlen:decide (0<f.bHS.length)=true:=by rw[hd]; simp
  rw[hd] at hlen
  rw[hlen,bKE]
  simp only
  rw[beY f hd]
  have hn:fT f=(f.bHS.drop 1).map bQ.name:=rfl
  rw[hd] at hn
  have hl:(fT f).length=t.length:=by rw[hn]; simp
  have two:=boH (fT f) (kF f) (uL f) (sJ f)
  rw[hl,show (kF f).length=f.bHP.length by simp[kF]] at two
  have e1:uN f=(bJU t.length).all (okL [] (fT f) (uL f)):=by
   unfold uN
   rw[hd]
   rfl
  have e2:vN f=(bJU f.bHP.length).all (okL (fT f) (kF f) (sJ f)):=rfl
  rw[e1,e2,← hn]
  rw[show f.bHP.map cB.name=kF f from rfl,show f.bHT.map cZ.name=jO f from rfl]
  generalize (bJU t.length).all (okL [] (fT f) (uL f))=a at *
  generalize (bJU f.bHP.length).all (okL (fT f) (kF f) (sJ f))=b at *
  generalize distinct (fT f++kF f)=c at *
  generalize (bJU t.length).all (uL f)=d at *
  generalize (bJU f.bHP.length).all (sJ f)=e at *
  generalize lH f=s
  generalize nZ r=ro
  generalize distinct (f.bHY.map cJ.name)=n1
  generalize f.bHY.all jZ=n2
  generalize distinct (f.bHQ.map cS.name)=n3
  generalize f.bHQ.all (jF f)=n4
  generalize distinct (jO f)=n5
  generalize (bJU f.bHT.length).all (HU f)=n6
  generalize distinct (f.bHR.map eC.name)=n7
  generalize f.bHR.all (mH f)=n8
  have:(s&&(((((((n1&&n2)&&(n3&&n4))&&ro)&&a)&&b)&&(n5&&n6))&&(n7&&n8)))=(s&&(ro&&((n1&&n2)&&((n3&&n4)&&((a&&b)&&((n5&&n6)&&(n7&&n8))))))):=by
   cases s<;>cases ro<;>cases n1<;>cases n2<;>cases n3<;>cases n4<;>simp[bMS]
  rw[this,two]
  cases s<;>cases ro<;>cases n1<;>cases n2<;>cases n3<;>cases n4<;>cases c<;>cases d<;>cases e<;>simp
  cases n5<;>cases n6<;>cases n7<;>cases n8<;>rfl
theorem bhO (f:aK) (h:0<f.bHS.length):a2Q f=nZ f.bHS[0]:=by
 obtain⟨a,b,c,d,e,g,i⟩:=f
 cases d with
 | nil=>simp at h
 | cons r t=>rfl
theorem bdX {C:Ctx} (L:akS C) (f:aK) (hf:f.Ok):CO.wp C (aT RM.res (aD (.bool (dL f)))) (PF.args [.agg f.cells]) .nil:=by
 have hX:=boS f
 unfold bhN at hX
 have fail:∀ (F:PF) (H:PH),dL f=false→F 2=some (.bool false)→aT [.tmp 2] (aD (.bool (dL f))) .ret F H:=fun F H e h=>by
  rw[e]
  exact aX (vs:=[.bool false]) (.inr rfl) .nil (by simp only[go_sem,h]) PH.nil_le ⟨rfl,rfl⟩
 simp only[go_sem,δ,γ,θ,CO,avR,avS,RM]
 refine aA (L.inn f.bJD 1 4) rfl ?_
 cases k0:within f.bJD 1 4 with
 | false =>
  rw[k0,bJZ] at hX
  simp only[go_sem,γ,bKI,zN]
  exact fail _ _ hX.symm rfl
 | true =>
 rw[k0,bKE] at hX
 simp only[go_sem,δ,γ,θ,bKC,bJT]
 refine aA (L.sizes f.bHY.length f.bHQ.length f.bHS.length f.bHP.length f.bHT.length f.bHR.length) rfl ?_
 cases k1:nB f.bHY.length f.bHQ.length f.bHS.length f.bHP.length f.bHT.length f.bHR.length with
 | false =>
  rw[k1,bJZ] at hX
  simp only[go_sem,γ,reduceCtorEq,bKI,zN]
  exact fail _ _ hX.symm rfl
 | true =>
 rw[k1,bKE] at hX
 obtain⟨hz1,hz2,hz3,hz4,hz5,hz6⟩:=PJ k1
 by_cases h0:f.bHS.length=0
 ·rw[decide_eq_false Om,bJZ] at hX
  simp only[go_sem,δ,γ,θ,reduceCtorEq,bKC,bJT,bO (Om:((f.bHS.length:Nat):Int)=0),zN]
  exact fail _ _ hX.symm rfl
 have h00:0<f.bHS.length:=by omega
 rw[decide_eq_true h00,bKE] at hX
 simp only[go_sem,δ,γ,θ,reduceCtorEq,bKC,bJT,bB (Om:((f.bHS.length:Nat):Int)≠0),avT,avU,avV]
 refine bqK L.topL f hf hz1 _ _ _ Lq fun H1=>?_
 simp only[go_sem,ajS]
 refine bdW L.topL f hf k1 (GY f) _ _ _ Lq fun H2=>?_
 have hd0:=uM h00
 have hsh:=(hf.dom _ (bJX h00)).1
 have hrp:=bhO f h00
 rw[hrp] at hX
 generalize f.bHS[0]=r at *
 have rest:∀ (c:Bool) (F:PF) (H:PH),((((((PF.nil.set 1 (.bH f.cells)).set 5 (.aB)).set 6 (.aB)).set 7 (.aB)).set 8 (.bool c)):PF).le F→c=((GY f&&wA f)&&nZ r) →
   aC.wp C (.seq (.seq (.region KD) (.block 4 (.loop vH))) (.seq (.seq (.region KF) (.block 6 (.loop vI))) (.seq (.seq (.region KH) (.block 8 (.loop vK))) (.seq (.seq (.region KM) (.block 14 (.loop vL))) (.seq (.region KP) .ret))))) (aT [.tmp 2] (aD (.bool (dL f)))) F H:=by
  intro c F H hF hc
  refine sW _ (fun _ _ _ _ a b=>Up.up a b) hF ?_
  simp only[go_sem,KD]
  refine bqJ L.topL f hf hz3 h00 c _ _ _ Lq fun w H3 hG=>?_
  simp only[go_sem,KF]
  refine bdV L.topL f hf hz3 h00 hz4 hz2 (c&&uN f) w _ _ _ hG Lq fun H4=>?_
  simp only[go_sem,KH]
  refine bqL L f hf hz5 hz2 ((c&&uN f)&&vN f) _ _ _ Lq fun H5=>?_
  simp only[go_sem,KM]
  refine bqM L.topL f hf k1 (((c&&uN f)&&vN f)&&afE f) _ _ _ Lq fun H6=>?_
  simp only[go_sem,γ,KP]
  refine aX (vs:=[.bool (dL f)]) (.inr rfl) .nil ?_ PH.nil_le ⟨rfl,rfl⟩
  rw[← hX,hc]
  simp only[go_sem,γ]
 simp only[aC.wp,go_sem] at rest
 simp only[go_sem,ν,δ,γ,θ,ajW,hd0]
 refine aR fun o ho=>?_
 have g0:(H2.set o (.rows 7 [r.cells])) o=some (.rows 7 [r.cells]):=fN ..
 simp only[go_sem,δ,γ]
 generalize H2.set o (.rows 7 [r.cells])=H3 at *
 cases k2:(GY f&&wA f) with
 | false =>
  simp only[go_sem,ο,γ,reduceCtorEq,KC]
  exact rest false _ _ Lq (by rw[k2]; rfl)
 | true =>
  simp only[go_sem,ο,δ,γ,θ,KC,g0]
  cases k3:r.name==[] with
  | false =>
   simp only[go_sem,ο,γ,reduceCtorEq]
   exact rest false _ _ Lq (by rw[k2]; unfold nZ; rw[k3]; rfl)
  | true =>
   simp only[go_sem,ο,δ,γ,θ,g0]
   cases k4:r.level==0 with
   | false =>
    simp only[go_sem,ο,γ,reduceCtorEq]
    exact rest false _ _ Lq (by rw[k2]; unfold nZ; rw[k3,k4]; rfl)
   | true =>
    simp only[go_sem,ο,δ,γ,θ,g0]
    cases k5:r.parent==-1 with
    | false =>
     simp only[go_sem,γ,reduceCtorEq]
     exact rest false _ _ Lq (by rw[k2]; unfold nZ; rw[k3,k4,k5]; rfl)
    | true =>
     simp only[go_sem,δ,γ,θ,g0]
     cases k6:r.bIP==0 with
     | false =>
      simp only[go_sem,γ,reduceCtorEq]
      exact rest false _ _ Lq (by rw[k2]; unfold nZ; rw[k3,k4,k5,k6]; rfl)
     | true =>
      simp only[go_sem,δ,γ,g0]
      refine aA (L.valid _ hsh) rfl ?_
      cases k7:cM (val r.bIH.num) (val r.bIH.den) with
      | false =>
       simp only[go_sem,γ,reduceCtorEq]
       exact rest false _ _ Lq (by rw[k2]; unfold nZ; rw[k3,k4,k5,k6,k7]; rfl)
      | true =>
       simp only[go_sem,δ,γ,g0]
       refine aA (L.sign _ hsh k7) rfl ?_
       simp only[go_sem,γ]
       exact rest _ _ _ Lq (by rw[k2]; unfold nZ; rw[k3,k4,k5,k6,k7]; rfl)
structure cE (C:Ctx):Prop where
 r24:aN C 24 DH
 r26:aN C 26 aaF
 r30:aN C 30 aJC
 r31:aN C 31 agN
 r32:aN C 32 aJO
 r33:aN C 33 udiv
 r34:aN C 34 aKD
 r35:aN C 35 agW
 r36:aN C 36 aKG
 r37:aN C 37 aKO
 r38:aN C 38 ahE
 r39:aN C 39 DU
 r40:aN C 40 agV
 r41:aN C 41 QA
 r42:aN C 42 QB
 r43:aN C 43 agZ
 r44:aN C 44 QK
 r45:aN C 45 uup
 r46:aN C 46 anF
 r47:aN C 47 aLN
 r48:aN C 48 QQ
 r49:aN C 49 ahI
 r50:aN C 50 SZ
 r51:aN C 51 QR
 r52:aN C 52 DZ
 r53:aN C 53 ahZ
 r54:aN C 54 aiA
 r55:aN C 55 aMG
 r56:aN C 56 QV
 r57:aN C 57 ahG
 r58:aN C 58 DX
 r59:aN C 59 aiB
 r60:aN C 60 QU
 r61:aN C 61 uV
 r62:aN C 62 EB
 r63:aN C 63 QZ
 r64:aN C 64 EA
 r65:aN C 65 EC
 r66:aN C 66 aNC
 r67:aN C 67 RM
 r68:aN C 68 aMP
 r69:aN C 69 aMN
 r70:aN C 70 RE
 r71:aN C 71 RG
 r72:aN C 72 yA
 r73:aN C 73 RK
 r74:aN C 74 RL
 r75:aN C 75 ED
 r76:aN C 76 wH
 r82:aN C 82 afR
 r85:aN C 85 afS
 r86:aN C 86 DS
 r89:aN C 89 aHX
 r91:aN C 91 same
 r95:aN C 95 aBH
 r96:aN C 96 aCC
 r97:aN C 97 MU
 r98:aN C 98 acV
 r99:aN C 99 acW
 r100:aN C 100 acX
 r101:aN C 101 gone
 r102:aN C 102 acY
 r103:aN C 103 MW
 r104:aN C 104 gin
 r105:aN C 105 aBJ
 r106:aN C 106 aBK
 r107:aN C 107 adB
 r108:aN C 108 adC
 r109:aN C 109 NE
 r110:aN C 110 adD
 r111:aN C 111 alH
 r112:aN C 112 aBN
 r113:aN C 113 MJ
 r114:aN C 114 azG
 r115:aN C 115 SE
 r116:aN C 116 vP
 r117:aN C 117 XA
 r118:aN C 118 MT
 r119:aN C 119 azD
 r120:aN C 120 nI
 r121:aN C 121 MR
 r122:aN C 122 acU
 r123:aN C 123 SM
 r124:aN C 124 DF
 r125:aN C 125 DG
 r126:aN C 126 vZ
 r127:aN C 127 aDZ
 r128:aN C 128 aeJ
 r129:aN C 129 aEP
 r130:aN C 130 aEV
 r131:aN C 131 aEZ
 r132:aN C 132 aeV
 r133:aN C 133 aFE
 r134:aN C 134 aFN
 r135:aN C 135 aeZ
 r136:aN C 136 DK
 r137:aN C 137 NP
 r138:aN C 138 rU
 r139:aN C 139 xF
 r140:aN C 140 NV
 r141:aN C 141 NW
 r142:aN C 142 tK
 r143:aN C 143 nup
 r144:aN C 144 PM.begin
 r145:aN C 145 PM.step
 r146:aN C 146 aKI
 r153:aN C 153 DT
 r156:aN C 156 zA
 r160:aN C 160 xP
 r161:aN C 161 PS
 r240:aN C 240 FP
 r241:aN C 241 abM
 r242:aN C 242 abY
 r243:aN C 243 ayG
 r244:aN C 244 LT
 r245:aN C 245 zA
 r246:aN C 246 CY
 r247:aN C 247 OY
 r248:aN C 248 MA
 r249:aN C 249 abX
 r250:aN C 250 DM
 r251:aN C 251 afC
 r252:aN C 252 a2A
 r253:aN C 253 DN
 r254:aN C 254 OY
 r255:aN C 255 afH
 r257:aN C 257 qk
 r258:aN C 258 tT
 r260:aN C 260 tM
 r261:aN C 261 OR
 r262:aN C 262 aMJ
 r263:aN C 263 aMM
 r264:aN C 264 aMI
 r265:aN C 265 RC
 r266:aN C 266 ahF
 r267:aN C 267 QW
 r268:aN C 268 aLH
 r269:aN C 269 QS
 r270:aN C 270 a2S
 r272:aN C 272 xB
 r277:aN C 277 aGF
theorem uT {C:Ctx} (c:cE C):oV C :=
 have len:∀ xs,Lim xs→xs.length≤35184372087808→aE C 138 [aF xs] .nil (aD (.int .i64 (nl (val xs):Nat))):=fun xs h l=>c.r138.go (a1V xs h l) rfl
 {length:=len
  large:=fun xs h l=>c.r137.go (a8A xs (len xs h l)) rfl
  sized:=fun xs h l=>(c.r141.go (a8F xs h (len xs h l)) rfl).seen
  trim:=fun xs h l=>(c.r135.go (bgV xs h l (len xs h l)) rfl).seen
  make:=fun v h=>c.r132.go (bgS v h len) rfl
  cmp:=fun xs ys hx hy lx ly=>c.r129.go (bnW xs ys hx hy lx ly (len xs hx lx) (len ys hy ly)) rfl }
theorem bvR {C:Ctx} (c:cE C):awI C :=
 {subtract:=fun A W Z v f o hW hv hl h1 hf bJE=>c.r142.go (aFT A W Z v f hW hv hl h1 hf bJE o) rfl
  restore:=fun A W Z v o hW hv hl h1=>c.r139.go (aNW A W Z v hW hv hl h1 o) rfl }
theorem bgO {C:Ctx} (c:cE C):awZ C :=
 {L:=uT c
  D:=bvR c
  up:=fun a s ha hs h1=>c.r143.go (bsC a s ha hs h1) rfl
  short:=fun a d ha h0 hd h1=>c.r140.go (a8D (uT c) a d ha h0 hd h1) rfl
  lengthO:=fun xs o hx hl=>c.r138.go (aNU xs hx hl o) rfl }
theorem aDY {C:Ctx} (c:cE C) (A B:Nat) (hB:B≠0) (hA:nl A≤900) (hBl:nl B≤900):aE C 136 [aF (aG A),aF (aG B)] .nil (aD (oG A B)) :=
 (c.r136.go (a1R (bgO c) A B hB hA hBl) rfl).seen
theorem xC {C:Ctx} (c:cE C):qI C :=
 {uT c with
  bits:=fun xs h l=>c.r128.go (bgP xs h l ((uT c).length xs h l)) rfl
  add:=fun xs ys hx hy lx ly=>(c.r127.go (bnT (uT c) xs ys hx hy lx ly) rfl).seen
  sub:=fun xs ys hx hy lx ly=>(c.r134.go (boE (uT c) xs ys hx hy lx ly) rfl).seen
  mul:=fun xs ys hx hy lx ly=>(c.r133.go (boC (uT c) xs ys hx hy lx ly) rfl).seen
  gcd:=fun xs ys hx hy lx ly=>(c.r131.go (boA (uT c) (aDY c) xs ys hx hy lx ly) rfl).seen
  div:=fun xs ys hx hy lx ly=>(c.r130.go (bnY (uT c) (aDY c) xs ys hx hy lx ly) rfl).seen }
theorem SF {C:Ctx} (c:cE C):EE C :=
 {xC c with
  times:=fun a b ha hb la lb na nb=>c.r121.go (a6X (xC c) a b ha hb la lb na nb) rfl
  zero:=fun neg a b ha la=>c.r122.go (bfE (xC c) neg a b ha la) rfl
  valid:=fun neg a b ha hb la lb=>c.r118.go (a6Z (xC c) neg a b ha hb la lb) rfl
  abs:=fun v h1 h2=>c.r119.go (blP (xC c) v h1 h2) rfl
  lowest:=fun neg a b ha hb la lb na nb h0=>(c.r120.go (a0F (xC c) neg a b ha hb la lb na nb h0) rfl).seen }
theorem a6W {C:Ctx} (c:cE C) (x y:RF) (hx:x.Ok) (hy:y.Ok):aE C 113 [.agg x.cells,.agg y.cells] .nil (aD (frV (gU x.v y.v))) :=
 (c.r113.go (blR (SF c) x.neg y.neg x.num x.den y.num y.den hx.1 hx.2.1 hy.1 hy.2.1 hx.2.2.1 hx.2.2.2 hy.2.2.1 hy.2.2.2) rfl).seen
theorem a0H {C:Ctx} (c:cE C):awH C :=
 {SF c with
  frac:=fun n d hn hd=>(c.r115.go (bfC (SF c) n d hn.1 hn.2 hd.1 hd.2) rfl).seen
  red:=fun x hx=>by
   rw[← a2L]
   exact (c.r116.go (a0I (SF c) x.neg x.num x.den hx.1 hx.2.1 hx.2.2.1 hx.2.2.2) rfl).seen
  ord:=fun x y hx hy=>(c.r114.go (blT (SF c) x.neg y.neg x.num x.den y.num y.den hx.1 hx.2.1 hy.1 hy.2.1 hx.2.2.1 hx.2.2.2 hy.2.2.1 hy.2.2.2) rfl).seen
  plus:=a6W c
  tot:=fun l hl=>(c.r117.go (blZ (SF c) (a6W c) l hl.all hl.fits) rfl).seen }
theorem SC {C:Ctx} (c:cE C):qH C :=
 have inn:∀ n lo hi:Int,aE C 104 [.int .i64 n,.int .i64 lo,.int .i64 hi] .nil (aD (.bool (within n lo hi))):=fun n lo hi=>(c.r104.go (brD n lo hi) rfl).seen
 have uF:∀ x:RF,x.Ok→aE C 97 [.agg x.cells] .nil (aD (.bool (bZ x))):=fun x hx=>(c.r97.go (a7B (xC c) x hx) rfl).seen
 have lim:∀ x:RF,x.Ok→aE C 105 [.agg x.cells] .nil (aD (.bool (cG x))):=fun x hx=>(c.r105.go (bmF (a0H c) x hx) rfl).seen
 have letter:∀ n:Nat,aE C 126 [.int .u8 n] .nil (aD (.bool (eT n))):=fun n=>c.r126.go (a1G n) rfl
 have digit:∀ n:Nat,aE C 124 [.int .u8 n] .nil (aD (.bool (kM n))):=fun n=>c.r124.go (a7N n) rfl
 {a0H c with
  inn:=inn
  uF:=uF
  lim:=lim
  one:=fun x hx=>(c.r101.go (bmJ (a0H c) x hx) rfl).seen
  allf:=fun p fn l hl h=>(c.r99.go (bfI p fn l hl h) rfl).seen
  alli:=fun p fn l hl h=>(c.r100.go (bfK p fn l hl h) rfl).seen
  allb:=fun p fn l hl h=>(c.r98.go (bfG p fn l hl h) rfl).seen
  ends1:=fun b=>(c.r103.go (a7D b) rfl).seen
  num1:=fun n=>(c.r107.go (bfP inn n) rfl).seen
  rate1:=fun x hx=>(c.r109.go (a7G lim uF x hx) rfl).seen
  name:=fun s=>c.r123.go (bgJ letter (fun n=>c.r125.go (a7R letter digit n) rfl) s) rfl }
theorem a6U {C:Ctx} (c:cE C):awX C :=
 {SC c with
  num:=fun p hp=>(c.r106.go (bmH (SC c) p hp) rfl).seen
  rate:=fun p hp=>(c.r108.go (bfR (SC c) p hp) rfl).seen
  uniq:=fun l hl=>(c.r110.go (bfU (SC c) l hl) rfl).seen }
theorem a6V {C:Ctx} (c:cE C):ZV C :=
 {a6U c with
  ends:=fun l hl he=>(c.r102.go (bfN (SC c) l hl he) rfl).seen }
theorem brB {C:Ctx} (c:cE C):jJ C :=
 {a6V c with
  law:=fun l hl=>(c.r95.go (bmD (a6V c) l hl) rfl).seen
  pol:=fun p n hp hn=>(c.r112.go (bmL (a6U c) p hp n hn) rfl).seen
  bIA:=fun f hf=>(c.r111.go (bmB (SC c) f hf) rfl).seen }
theorem aQC {C:Ctx} (c:cE C) (f:aK) (hf:f.Ok):aE C 96 [.agg f.cells] .nil (aD (.int .i64 (pJ f))):=(c.r96.go (bmN (brB c) f hf) rfl).seen
theorem sR {C:Ctx} (c:cE C):nF C:={ trimM:=fun xs h l=>c.r38.go (bjD xs h l) rfl }
theorem a9I {C:Ctx} (c:cE C):axA C :=
 {sR c with
  make:=fun v h=>(c.r35.go (biV (sR c) v h) rfl).seen
  large:=fun xs h l=>(c.r41.go (baL (sR c) xs h l) rfl).seen
  cmp:=fun xs ys hx hy lx ly=>c.r32.go (bpH (sR c) xs ys hx hy lx ly) rfl }
theorem a9K {C:Ctx} (c:cE C):axD C :=
 {a9I c with
  minus:=fun a b ha hb hle hl h1=>(c.r42.go (baN (sR c) a b ha hb hle hl h1) rfl).seen
  times:=fun a b ha hb h1 h2=>(c.r44.go (baP (sR c) a b ha hb h1 h2) rfl).seen }
theorem aHI {C:Ctx} (c:cE C):aaB C :=
 {a9K c with
  plus:=fun a b ha hb h1 h2=>(c.r43.go (bjB (sR c) a b ha hb h1 h2) rfl).seen }
theorem bsH {C:Ctx} (c:cE C):LF C :=
 {aHI c with
  bits:=fun xs h l=>c.r31.go (biP (sR c) xs h l) rfl
  upM:=fun a n ha h1 hn h0=>c.r45.go (bsV (sR c) a n ha h1 hn h0) rfl
  down:=fun a n ha h1 hn=>(c.r40.go (biT (sR c) a n ha h1 hn) rfl).seen }
theorem aHG {C:Ctx} (c:cE C):aaA C :=
 {a9I c with
  divide:=fun A B hB hA hBl=>(c.r39.go (a3H (bsH c) A B hB hA hBl) rfl).seen }
theorem a9J {C:Ctx} (c:cE C):axB C :=
 {aHG c with
  gcd:=fun a b ha hb la lb=>(c.r34.go (bpL (aHG c) a b ha hb la lb) rfl).seen
  div:=fun a b ha hb la lb=>(c.r33.go (bpJ (aHG c) a b ha hb la lb) rfl).seen }
theorem bkP {C:Ctx} (c:cE C):aZA C :=
 {a9J c with
  lowest:=fun neg a b ha hb la lb na nb h0=>(c.r58.go (a4C (a9J c) neg a b ha hb la lb na nb h0) rfl).seen
  size:=fun v hv=>c.r59.go (bjT v hv.1 hv.2) rfl }
theorem aHH {C:Ctx} (c:cE C):axC C :=
 {bkP c with
  fmk:=fun n d hn hd=>(c.r50.go (bjN (bkP c) n d hn hd) rfl).seen }
theorem a2J {C:Ctx} (c:cE C):awJ C :=
 {aHH c with
  int:=fun n hn=>(c.r47.go (bpX (aHH c) n hn) rfl).seen
  mul:=fun a b ha hb la lb=>(c.r36.go (bpN (a9K c) a b ha hb la lb) rfl).seen
  add:=fun a b ha hb la lb=>(c.r30.go (bpF (aHI c) a b ha hb la lb) rfl).seen
  sub:=fun a b ha hb la lb=>(c.r37.go (bpT (aHI c) a b ha hb la lb) rfl).seen }
theorem aHJ {C:Ctx} (c:cE C):aaC C :=
 {a2J c with
  valid:=fun x hx=>c.r56.go (bbW (a2J c) x.neg x.num x.den hx.1 hx.2.1 hx.2.2.1 hx.2.2.2) rfl
  big:=fun x=>c.r48.go (bbO x.1 (aG x.2.1) (aG x.2.2)) rfl }
theorem a9L {C:Ctx} (c:cE C):axE C :=
 {aHJ c with
  fits:=fun x=>(c.r57.go (bjI (aHJ c) x) rfl).seen
  red:=fun x hx=>(c.r52.go (a4E (aHJ c) x hx) rfl).seen
  prod:=fun a b ha hb la lb na nb=>c.r60.go (bbU (a2J c) a b ha hb la lb na nb) rfl }
theorem OW {C:Ctx} (c:cE C):wI C :=
 {a9L c with
  order:=fun x y hx hy vx vy=>c.r51.go (bbQ (a9L c) x y hx hy vx vy) rfl }
theorem bkQ {C:Ctx} (c:cE C):aZB C :=
 {OW c with
  less:=fun x y hx hy vx vy=>c.r49.go (bjL (OW c) x y hx hy vx vy) rfl
  same:=fun x y hx hy vx vy=>c.r53.go (bjP (OW c) x y hx hy vx vy) rfl
  sign:=fun x hx vx=>c.r54.go (bjR (OW c) x hx vx) rfl
  plus:=fun x y hx hy=>(c.r46.go (bpV (OW c) x y hx hy) rfl).seen }
theorem aHF {C:Ctx} (c:cE C):ZZ C :=
 {bkQ c with
  sum:=fun l hl hf=>(c.r55.go (bqA (bkQ c) l hl hf) rfl).seen
  inn:=fun n lo hi=>c.r76.go (a5P n lo hi) rfl
  code:=fun k m=>c.r61.go (biE k m) rfl }
theorem aUB {C:Ctx} (c:cE C):akO C :=
 {aHF c with
  small:=fun x hx=>c.r74.go (bdT (aHF c) x hx) rfl
  nums:=fun k m q s0 s1 s2 s3 s4=>c.r72.go (aOQ (aHF c) k m q s0 s1 s2 s3 s4) rfl
  sizes:=fun x1 x2 x3 x4 x5 x6=>c.r73.go (bdR x1 x2 x3 x4 x5 x6) rfl }
theorem aUC {C:Ctx} (c:cE C):akP C :=
 {aUB c with
  smalls:=fun l hl n=>c.r75.go (a5N (aUB c) l hl n) rfl }
theorem aUD {C:Ctx} (c:cE C):akQ C :=
 {aUC c with
  reps:=fun l hl m=>c.r66.go (bqH (aUC c) l hl m) rfl }
theorem aUE {C:Ctx} (c:cE C):akR C :=
 have letter:∀ n:Nat,aE C 65 [.int .u8 n] .nil (aD (.bool (eT n))):=fun n=>c.r65.go (a5B n) rfl
 have digit:∀ n:Nat,aE C 63 [.int .u8 n] .nil (aD (.bool (kM n))):=fun n=>c.r63.go (bcW n) rfl
 {aUD c with
  name:=fun s=>c.r62.go (a4Z letter (fun n=>c.r64.go (a4X letter digit n) rfl) s) rfl
  index:=fun l hl s=>c.r71.go (bdO l hl s) rfl }
theorem aUF {C:Ctx} (c:cE C):nE C :=
 {aUE c with
  fresh:=fun l hl s w H hH=>c.r70.go (bdM (aUE c) l hl s w H hH) rfl }
theorem boP {C:Ctx} (c:cE C):pL C :=
 {aUF c with
  law:=fun l hl=>c.r68.go (bqF (aUF c) l hl) rfl }
theorem boQ {C:Ctx} (c:cE C):akS C :=
 {boP c with
  dur:=fun m rep hr t h ht hh=>c.r69.go (bqD (aUD c) m rep hr t h ht hh) rfl }
theorem amS {C:Ctx} (c:cE C) (f:aK) (hf:f.Ok):aE C 67 [.agg f.cells] .nil (aD (.bool (dL f))):=c.r67.go (bdX (boQ c) f hf) rfl
theorem bsK {C:Ctx} (c:cE C) (f:aK) (l:List (List Int)) (hf:f.Ok) (hl:fI l):aE C 153 [.agg f.cells,lay l] .nil (aD (.bool (iU f l))) :=
 (c.r153.go (aOH ⟨fun f hf=>(c.r161.go (baH (aQC c) f hf) rfl).seen,fun f l v hV hl hv hvf=>(c.r160.go (a3E ⟨fun f v hv h=>(c.r156.go (aIW f hv v h) rfl).seen⟩ f hV l hl v hv hvf) rfl).seen⟩ f hf l hl) rfl).seen
theorem aHO {C:Ctx} (c:cE C):aaD C :=
 {val:=aQC c
  valid:=amS c
  shaped:=bsK c
  rshaped:=fun f l hf hl=>c.r86.go (aOF ⟨amS c,fun f v hv h=>(c.r82.go (biG f hv v h) rfl).seen,fun f row hl=>c.r89.go (boW f row hl) rfl⟩ f hf l hl) rfl }
theorem afN {C:Ctx} (c:cE C) (l:List Int) (x:Int) (h:l.length≤1000000000000000):aE C 260 [ints l,.int .i64 x] .nil (aD (.bool (l.contains x))):=c.r260.go (aGG l x (c.r261.go (a9D l h x) rfl)) rfl
theorem a2O {C:Ctx} (c:cE C):EF C :=
 {fmk:=(aHH c).fmk
  next:=fun l T o n a hn ha=>c.r240.go (beW l T.1 T.2 o n a hn ha) rfl }
theorem bkR {C:Ctx} (c:cE C):oJ C :=
 {a2O c with
  frac:=fun n d h1 h2 h0=>c.r241.go (beN (a2O c) n d h1 h2 h0) rfl
  name:=fun ch n hn=>c.r242.go (beU ch n hn) rfl }
theorem bvW {C:Ctx} (c:cE C):CP C :=
 {bkR c with
  dom:=fun o7 ext w1 w2 wd w4 w5 w6 ds hds lev par up H0 hH=>c.r243.go (blF (bkR c) o7 ext w1 w2 wd w4 w5 w6 ds hds lev par up H0 hH) rfl }
theorem bkS {C:Ctx} (c:cE C):CQ C :=
 {a2O c with
  size:=fun f v hV h=>(c.r245.go (aIW f hV v h) rfl).seen
  has:=fun l x h=>c.r247.go (aUH l h x) rfl }
theorem bvX {C:Ctx} (c:cE C):a5S C :=
 {a2O c with
  fleet:=fun l T o vols a hv ha=>exactly (c.r244.go (a6I (bvW c) T o vols a hv ha) rfl)
  layout:=fun l T o a f ha hF hV h1=>exactly (c.r246.go (aZX (bkS c) T o a ha f hF hV h1) rfl)
  rooms:=fun l T o a f ha hf hv h1=>exactly (c.r248.go (a6L (bkS c) T o a ha f hv h1 (c.r85.go (aIH ⟨amS c⟩ f hf []) rfl)) rfl) }
theorem bFJ {C:Ctx} (c:cE C) (s:rL C):bkB C :=
 {begin:=fun n=>c.r144.go (beC n) rfl
  step:=fun n p w e=>c.r145.go (bpD n p w e) rfl
  same:=fun xs ys h=>c.r91.go (boU xs ys h) rfl
  upd:=fun ws p w h1 h2=>(c.r146.go (bpR s ws h1 h2 p w) rfl).bsQ }
theorem bvY {C:Ctx} (c:cE C):RV C 250 251 :=
 {usable:=fun f now r hf hl=>c.r250.go (a2E (aHO c) f hf now hl r) rfl
  fits:=fun f now r down hu hl hd=>by
   obtain⟨h1,h2,h3,h4⟩:=qD hu
   exact c.r251.go (bhF ⟨afN c⟩ f (VF.of h1) now hl h2 r h3 h4 down hd) rfl }
theorem a9Q {C:Ctx} (c:cE C):a5T C:=⟨fun l x h=>c.r254.go (aUH l h x) rfl,fun f v hV h=>c.r257.go (bvU f hV v h) rfl⟩
theorem aHU {C:Ctx} (c:cE C):RV C 253 255 :=
 {usable:=fun f now r hf hl=>c.r253.go (a2H (aHO c) (fun f hf=>c.r258.go (aND (aHO c) f hf) rfl) f hf now hl r) rfl
  fits:=fun f now r down hu hl hd=>by
   obtain⟨h1,h2,h3,h4⟩:=qD hu
   exact c.r255.go (bhL (a9Q c) f (VF.of h1) now hl h2 r h3 h4 down hd) rfl }
theorem bsO {C:Ctx} (c:cE C) (f:aK) (now:List (List Int)) (r:Int) (hf:f.Ok) (hl:fI now):aE C 266 [.agg f.cells,lay now,.int .i64 r] .nil (aD (.int .i64 (oH f now r))):=c.r266.go (bjG (aHU c) f hf now hl r) rfl
theorem bhS {C:Ctx} (c:cE C) (f:aK) (now:List (List Int)) (r:Int) (hf:f.Ok) (hl:fI now):aE C 267 [.agg f.cells,lay now,.int .i64 r] .nil (ZX (kE f now r) (oH f now r)):=c.r267.go (bbY { aHU c with able:=bsO c } f hf now hl r) rfl
theorem boT {C:Ctx} (c:cE C) (s:rL C) (f:aK) (now:List (List Int)) (r:Int) (ws:List (List Int)) (hf:f.Ok) (hl:fI now) (h1:ws.length≤1000000) (h2:ws.flatten.length≤1000000):aE C 265 [.agg f.cells,lay now,.int .i64 r,lists ws] .nil (aD (.bool (fL f now r ws))) :=
 c.r265.go (bcZ { bvY c with concat:=s.concat,contains:=afN c } f hf now hl r ws h1 h2) rfl
theorem bhR {C:Ctx} (c:cE C) (f:aK) (now:List (List Int)) (r:Int) (ws:List (List Int)) (hf:f.Ok) (hl:fI now) (h1:ws.length≤1000000) (h2:ws.flatten.length≤1000000):aE C 269 [.agg f.cells,lay now,.int .i64 r,lists ws] .nil (aD (.bool (fL f now r ws))) :=
 c.r269.go (bbS { aHU c with has:=(a9Q c).has } f hf now hl r ws h1 h2) rfl
theorem bsP {C:Ctx} (c:cE C) (s:rL C):a5U C :=
 {within:=fun x n hn=>c.r24.go (a1I x n hn) rfl
  awak:=c.r26.go (a5X (bFJ c s)) rfl
  made:=fun l T=>c.r249.go (beS (bvX c) T) rfl }
theorem aOB {C:Ctx} (c:cE C) (s:rL C) (r:aN C 271 DE) (l:List Int) (T:TpM l) (n wh a t:Int) (raw:List (List Int)):aE C 271 [ints l,.int .i64 n,.int .i64 wh,.int .i64 a,.int .i64 t,lists raw] .nil (aD (.bool true)) :=
 r.go (a1E { bsP c s with rwaves:=bhS c,wout:=fun l v x H hl hH=>c.r272.go (aNQ l hl v x H hH) rfl,check:=boT c s,rcheck:=bhR c } l T n wh a t raw) rfl
end Go.PM
