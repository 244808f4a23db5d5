/-
  The law of the claim returns true at every input, and its argument reads as it did: the tied card. No condition.
-/
import Derived.Test.YtelckcmlobadkaaGreatDoorEx1
import Derived.Test.YtelckcmlobadkaaGreatDoorEx2
import Derived.Test.YtelckcmlobadkaaGreatDoorEx3
import Derived.Test.YtelckcmlobadkaaGreatDoorEx4
import Derived.Test.YtelckcmlobadkaaGreatDoorEx5
import Derived.Test.YtelckcmlobadkaaGreatDoorEx6
import Derived.Test.YtelckcmlobadkaaGreatDoorEx7
import Derived.Test.YtelckcmlobadkaaGreatDoorEx8
import Derived.Test.YtelckcmlobadkaaGreatDoorTie
import Derived.Test.YtelckcmlobadkaaGreatDoorCards
set_option linter.unusedSimpArgs false
set_option linter.unusedVariables false
open Nat renaming reduceEqDiff → γ, reduceAdd → δ, reduceSub → ε, reduceMul → ζ, reduceLT → η, reduceLeDiff → θ, reduceBEq → τ
open Int renaming reduceLT → ι, reduceLE → κ, reduceEq → μ, reduceToNat → ν, reduceAdd → ξ, reduceNeg → ο, reduceBEq → ρ, reduceBNe → σ
open List renaming reduceReplicate → υ
open List renaming length_map → bJT, range → bJU, length_append → bJX, replicate → bJY, getElem_mem → bJZ, length_singleton → bKD, getElem?_eq_getElem → bKG, mem_cons → bKI, getD_eq_getElem?_getD → bKK, take_of_length_le → bKL, length_take → bKN, all_eq_true → bKP, not_mem_nil → bKR, take_length → bKU, append_assoc → bKV, drop_zero → bKY, mem_map → bLA, getElem?_map → bLC, getElem?_eq_some_iff → bLD, map_cons → bLF, getElem?_eq_none → bLH, getElem_map → bLI, getElem_of_mem → bLJ, append_nil → bLK, mem_range → bLN, drop_eq_getElem_cons → bLO, mem_append → bLQ, Sublist → bLR, length_drop → bLS, map_append → bLT, take_succ_eq_append_getElem → bLY, length_nil → bMD, map_nil → bME, length_set → bMG, length_cons → bMH, mem_of_getElem? → bMI, getElem?_append_left → bMK, take_append_drop → bML, nodup_append → bMM, ext_getElem → bMR, getElem?_append_right → bMS, getElem?_take → bMU, set_append_right → bMV, drop_of_length_le → bNB
open Nat renaming gcd → bJV, zero_le → bKA, le_refl → bKB, mul_add → bKH, lt_or_ge → bKO, mul_assoc → bKQ, zero_add → bKS, mul_comm → bKT, add_mul → bKW, mul_le_mul_right → bKX, mod_eq_of_lt → bLB, mod_lt → bLG, pow_succ → bLL, add_zero → bLP, eq_zero_or_pos → bLU, le_trans → bLV, min_eq_left → bLW, add_assoc → bLZ, mul_le_mul_left → bMA, pos_of_ne_zero → bMB, pow_pos → bMJ, div_lt_iff_lt_mul → bMN, div_le_self → bMT, div_add_mod → bMW, div_eq_of_lt → bMX
open Bool renaming not_true → bJW, false_and → bKC, not_false → bKF, true_and → bKJ, and_eq_true → bKM, and_false → bLE, and_true → bMF, and_assoc → bMP, false_eq_true → bNA
open Option renaming map_eq_some_iff → bKE, map_some → bKZ, getD_some → bLX, some → bMC, bind_eq_some_iff → bMY, bind_some → bNC
open Array renaming replicate → bLM, length_toList → bMO, getElem?_eq_getElem → bMZ, getElem?_eq_some_iff → bND
open Int renaming toNat_natCast → bMQ
namespace Go.Proofs.YtelckcmlobadkaaGreatDoor
open Go Go.PM Go.RowKit Go.ChangeShapes Go.WideShapes
def argKinds:List AT:=[.one (.sl [.int .u8]),.one (.sl [.sl [.int .i64]]),.one (.sl [.int .i64]),.one (.int .i64),.one (.int .i64),.one (.int .i64)]
theorem bqV:DT Tryz.prog 8 Tryz.f7.params.toList=some argKinds:=by kernel_rfl
theorem bcW:∀ {vs:List PV},(∀ v∈vs,∃ xs:List Int,v=PM.ints xs∧xs.length≤1000000000000000)→∃ l:List (List Int),vs=l.map PM.ints∧∀ r∈l,r.length≤1000000000000000
 | [],_=>⟨[],rfl,fun r h=>by cases h⟩
 | v::vs,h=>by
  obtain⟨xs,rfl,hx⟩:=h v (by simp)
  obtain⟨l,rfl,hl⟩:=bcW (vs:=vs) fun u hu=>h u (List.mem_cons_of_mem _ hu)
  refine⟨xs::l,rfl,fun r hr=>?_⟩
  rcases bKI.1 hr with rfl | hr
  ·exact hx
  ·exact hl r hr
theorem bsV {pv:PV} (h:PV.Ty (.sl [.sl [.int .i64]]) pv) (hl:PV.Len (reachBytes/1) pv):∃ l:List (List Int),pv=PM.lay l∧l.length≤1000000000000000∧∀ r∈l,r.length≤1000000000000000:=by
 have hb:reachBytes/1≤1000000000000000:=by decide
 obtain⟨vs,rfl,-,hv⟩:=Ty.aZT h
 obtain⟨h1,h2⟩:=hl.rows
 rw[bJT] at h1
 obtain⟨l,rfl,hr⟩:=bcW (vs:=vs) fun v hm=>by
  obtain⟨xs,rfl,-,-⟩:=Ty.WU (hv v hm)
  have h4:PV.Len (reachBytes/1) (PM.ints xs):=h2 [PM.ints xs] (bLA.2 ⟨_,hm,rfl⟩) _ (List.mem_singleton.2 rfl)
  have h3:=h4.rows.1
  rw[bJT] at h3
  exact⟨xs,rfl,by omega⟩
 rw[bJT] at h1
 refine⟨l,?_,by omega,hr⟩
 rw[List.map_map]; rfl
theorem bsU (pvs:List PV) (h:AT.TyL argKinds pvs) (hl:∀ v∈pvs,PV.Len (reachBytes/1) v):aI C 12 pvs .nil (aD (.bool true)):=by
 match pvs,h,hl with
 | [p0,p1,p2,p3,p4,p5],h,hl =>
  obtain⟨h0,h1,h2,h3,h4,h5,-⟩:=h
  cases h0 with | one h0 =>
  obtain⟨x0,rfl,b0,l0⟩:=bbI h0
  cases h1 with | one h1 =>
  obtain⟨x1,rfl,b1,l1⟩:=bsV h1 (hl p1 (by simp))
  cases h2 with | one h2 =>
  obtain⟨x2,rfl,-,-⟩:=Ty.WU h2
  cases h3 with | one h3 =>
  obtain⟨x3,rfl,-⟩:=Ty.DZ h3
  cases h4 with | one h4 =>
  obtain⟨x4,rfl,-⟩:=Ty.DZ h4
  cases h5 with | one h5 =>
  obtain⟨x5,rfl,-⟩:=Ty.DZ h5
  exact blJ bwM itoa q12 x0 b0 l0 x1 b1 l1 x2 x3 x4 x5
theorem aBC (os:Os) (args:Array Value):laidMetH Tryz.prog Rows.topologyExactRow.laid ((World.doorLaid Tryz.prog 400 os).forCall (fun _ _=>0) ⟨#[],args,[]⟩).memory :=
 laidMetH_of_parts3 (fuel:=8) (laidMet_of_run' 8 (by kernel_rfl) (by kernel_rfl)) (by kernel_rfl) (by kernel_rfl)
set_option maxRecDepth 100000 in
theorem a5U (os:Os) (started:os.Started) (H:Type) (enc:TypeId × Value→H) :
  ReturnsInHanded {} Tryz.checked os 7 .any (fun w args=>(Rows.topologyExactSpec.pre enc Tryz.prog Tryz.f7 [] false w args∧laidMetH Tryz.prog Rows.topologyExactRow.laid w)∧sizedMet enc Tryz.prog Tryz.f7 (OpenSpec.ofChange Rows.topologyExactSpec) false w args)
   (Rows.topologyExactSpec.post enc Tryz.prog Tryz.f7 false true false false):=by
 refine returnsInHanded_of_change_and (C:=Tryz.checked) (X:=fun w _=>laidMetH Tryz.prog Rows.topologyExactRow.laid w) (fun _ _ _ hh h=>h.of_heap hh) Tryz.own started (by kernel_rfl) Tryz.func7
  (ChangeSpec.witness_shaped (enc:=enc) (C:=Tryz.checked) (os:=os) (X:=fun w _=>laidMetH Tryz.prog Rows.topologyExactRow.laid w) false (World.doorLaid Tryz.prog 400 os) #[.slice none 0 0,.slice none 0 0,.slice none 0 0,.int .i64 0,.int .i64 0,.int .i64 0] 8 rfl (World.shaped_of_RefB (by kernel_rfl) (by kernel_rfl)) (by kernel_rfl) (by kernel_rfl) (by kernel_rfl) (aBC os _)) ?_
 intro W base args ds gs before bII hW _ hwt _ _
 exact axU (P:=Tryz.prog) (num:=num) (name:=12) (n:=8) (ats:=argKinds) (bt:=4) Tryz.laidOut (by kernel_rfl) (by kernel_rfl) (by kernel_rfl) rfl
  (fun ds hd=>by
   match ds,hd with
   | [d1,d2,d3,d4,d5,d6],_=>exact⟨rfl,rfl,rfl⟩)
  (by kernel_rfl) bqV (bvQ Tryz.prog (w:=1) (by decide)) bsU bII hW (fun j t d a b=>⟨tQ hwt j t d (by rw[bMK (bLD.1 a).1]; exact a) (by rw[bMK (bLD.1 b).1]; exact b),8,bKP.1 (show (Tryz.f7.params.toList.all fun t=>uI Tryz.prog 1 8 t)=true by kernel_rfl) t (bMI a)⟩)
theorem PJ:Rows.TopologyExactSaid :=
 OpenClaim.holds_of_wide 7 Tryz.f7 rfl rfl rfl rfl rfl rfl rfl ⟨rfl,rfl,rfl,rfl,rfl⟩ rfl rfl rfl rfl rfl (by kernel_rfl) Tryz.func7 (by kernel_rfl)
  (of_decide_eq_true (by kernel_rfl)) (by unfold Func.isWrapper; first | (rw[if_pos (by decide +kernel)]; kernel_rfl) | (rw[if_neg (by decide +kernel)]; exact⟨rfl,rfl⟩))
  (fun os started H enc _=>a5U os started H enc)
theorem topologyExact_card:Rows.TopologyExactCardSaid :=
 Claim7.holds_tied_plain_at .later [] [.data,.data,.data] true (true,"0274820c616a522d60ae96bb3bb76ba88db858f1cec11c98534319f0edbce220") false
  PJ (fun _ h=>by cases h) (by kernel_rfl) (fun _ h=>by cases h) topologyExact_row_tie rfl ⟨rfl,rfl⟩ (by kernel_rfl) rfl
  (fun f fn hf hfn=>by
   obtain rfl:f=7:=bMC.inj ((show Tryz.prog.funcNamed Rows.topologyExactRow.func=some 7 by kernel_rfl).symm.trans hf) |>.symm
   obtain rfl:fn=Tryz.f7:=(bMC.inj (Tryz.func7.symm.trans hfn)).symm
   exact⟨by kernel_rfl,fun j t ht=>by
    have hm:t∈Tryz.f7.params.toList:=by
     rw[Array.mem_toList_iff]
     exact Array.mem_of_getElem? ht
    have bJG:(Tryz.f7.params.toList.all fun u=>!Tryz.prog.wantsStandIn u)=true:=by kernel_rfl
    exact (show Tryz.prog.wantsStandIn t=false by simpa using bKP.1 bJG t hm)⟩)
  (by kernel_rfl)
#print axioms topologyExact_card
end Go.Proofs.YtelckcmlobadkaaGreatDoor
