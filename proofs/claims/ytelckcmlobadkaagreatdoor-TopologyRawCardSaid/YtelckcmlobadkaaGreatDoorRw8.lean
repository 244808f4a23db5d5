/-
  The law of the claim returns true at every input, and its argument reads as it did: the tied card. No condition.
-/
import Derived.Test.YtelckcmlobadkaaGreatDoorRw1
import Derived.Test.YtelckcmlobadkaaGreatDoorRw2
import Derived.Test.YtelckcmlobadkaaGreatDoorRw3
import Derived.Test.YtelckcmlobadkaaGreatDoorRw4
import Derived.Test.YtelckcmlobadkaaGreatDoorRw5
import Derived.Test.YtelckcmlobadkaaGreatDoorRw6
import Derived.Test.YtelckcmlobadkaaGreatDoorRw7
import Derived.Test.YtelckcmlobadkaaGreatDoorTie
import Derived.Test.YtelckcmlobadkaaGreatDoorCards
set_option linter.unusedSimpArgs false
set_option linter.unusedVariables false
open Nat renaming reduceEqDiff → γ, reduceAdd → δ, reduceSub → ε, reduceMul → ζ, reduceLT → η, reduceLeDiff → θ, reduceBEq → τ
open Int renaming reduceLT → ι, reduceLE → κ, reduceEq → μ, reduceToNat → ν, reduceAdd → ξ, reduceNeg → ο, reduceBEq → ρ, reduceBNe → σ
open List renaming reduceReplicate → υ
open List renaming length_map → bIM, range → bIN, replicate → bIP, length_append → bIQ, getElem_mem → bIS, length_singleton → bIX, getElem?_eq_getElem → bIZ, mem_cons → bJB, take_of_length_le → bJD, getD_eq_getElem?_getD → bJE, length_take → bJF, not_mem_nil → bJI, all_eq_true → bJL, take_length → bJN, append_assoc → bJO, drop_zero → bJR, getElem?_map → bJU, mem_map → bJV, getElem?_eq_none → bJY, append_nil → bJZ, getElem?_eq_some_iff → bKA, map_cons → bKD, drop_eq_getElem_cons → bKE, Sublist → bKH, getElem_map → bKI, mem_append → bKL, take_succ_eq_append_getElem → bKM, length_drop → bKQ, mem_range → bKR, length_set → bKU, map_append → bKV, map_nil → bKW, mem_of_getElem? → bKX, length_nil → bLA, take_append_drop → bLB, getElem?_append_left → bLF, length_cons → bLG, nodup_append → bLH, ext_getElem → bLI, getElem?_append_right → bLJ, getElem?_take → bLK, getElem_of_mem → bLL, set_append_right → bLM, drop_of_length_le → bLT
open Bool renaming not_true → bIO, false_and → bIV, not_false → bIY, true_and → bJC, and_eq_true → bJK, and_false → bJW, and_true → bKZ, and_assoc → bLE, false_eq_true → bLS
open Nat renaming gcd → bIR, zero_le → bIT, le_refl → bIU, mul_add → bJA, lt_or_ge → bJG, mul_assoc → bJH, zero_add → bJJ, mul_comm → bJM, add_mul → bJP, mul_le_mul_right → bJQ, mod_eq_of_lt → bJT, mod_lt → bJX, pow_succ → bKB, add_zero → bKF, le_trans → bKG, min_eq_left → bKJ, eq_zero_or_pos → bKN, mul_le_mul_left → bKO, pos_of_ne_zero → bKP, add_assoc → bKS, pow_pos → bKY, div_lt_iff_lt_mul → bLC, div_add_mod → bLN, div_eq_of_lt → bLO
open Option renaming map_eq_some_iff → bIW, map_some → bJS, getD_some → bKK, some → bKT, bind_eq_some_iff → bLP, bind_some → bLQ
open Array renaming replicate → bKC, length_toList → bLD, getElem?_eq_getElem → bLR, getElem?_eq_some_iff → bLU
namespace Go.Proofs.YtelckcmlobadkaaGreatDoor
open Go Go.PM Go.RowKit Go.ChangeShapes Go.WideShapes
def argKinds:List AT:=[.struct ajX,.one (.sl [.sl [.int .i64]]),.one (.sl [.int .i64]),.one (.int .i64),.one (.int .i64),.one (.int .i64)]
theorem bpS:DL Tryz.prog 8 Tryz.f8.params.toList=some argKinds:=by kernel_rfl
theorem bbV:∀ {vs:List PV},(∀ v∈vs,∃ xs:List Int,v=PM.ints xs∧xs.length≤1000000000000000)→∃ l:List (List Int),vs=l.map PM.ints∧∀ r∈l,r.length≤1000000000000000
 | [],_=>⟨[],rfl,fun r h=>by cases h⟩
 | v::vs,h=>by
  obtain⟨xs,rfl,hx⟩:=h v (by simp)
  obtain⟨l,rfl,hl⟩:=bbV (vs:=vs) fun u hu=>h u (List.mem_cons_of_mem _ hu)
  refine⟨xs::l,rfl,fun r hr=>?_⟩
  rcases bJB.1 hr with rfl | hr
  ·exact hx
  ·exact hl r hr
theorem brS {pv:PV} (h:PV.Ty (.sl [.sl [.int .i64]]) pv) (hl:PV.Len (reachBytes/4) pv):∃ l:List (List Int),pv=PM.lay l∧l.length≤1000000000000000∧∀ r∈l,r.length≤1000000000000000:=by
 have hb:reachBytes/4≤1000000000000000:=by decide
 obtain⟨vs,rfl,-,hv⟩:=Ty.aYQ h
 obtain⟨h1,h2⟩:=hl.rows
 rw[bIM] at h1
 obtain⟨l,rfl,hr⟩:=bbV (vs:=vs) fun v hm=>by
  obtain⟨xs,rfl,-,-⟩:=Ty.aDX (hv v hm)
  have h4:PV.Len (reachBytes/4) (PM.ints xs):=h2 [PM.ints xs] (bJV.2 ⟨_,hm,rfl⟩) _ (List.mem_singleton.2 rfl)
  have h3:=h4.rows.1
  rw[bIM] at h3
  exact⟨xs,rfl,by omega⟩
 rw[bIM] at h1
 refine⟨l,?_,by omega,hr⟩
 rw[List.map_map]; rfl
theorem brQ (pvs:List PV) (h:AT.TyL argKinds pvs) (hl:∀ v∈pvs,PV.Len (reachBytes/4) v):aH C 15 pvs .nil (aD (.bool true)):=by
 match pvs,h,hl with
 | [p0,p1,p2,p3,p4,p5],h,hl =>
  obtain⟨h0,h1,h2,h3,h4,h5,-⟩:=h
  obtain⟨x0,rfl,b0,l0⟩:=baY h0 (hl p0 (by simp))
  cases h1 with | one h1 =>
  obtain⟨x1,rfl,b1,l1⟩:=brS h1 (hl p1 (by simp))
  cases h2 with | one h2 =>
  obtain⟨x2,rfl,-,-⟩:=Ty.aDX h2
  cases h3 with | one h3 =>
  obtain⟨x3,rfl,-⟩:=Ty.sV h3
  cases h4 with | one h4 =>
  obtain⟨x4,rfl,-⟩:=Ty.sV h4
  cases h5 with | one h5 =>
  obtain⟨x5,rfl,-⟩:=Ty.sV h5
  exact bvP bvG itoa q15 x0 b0 l0 x1 b1 l1 x2 x3 x4 x5
theorem aAA (os:Os) (args:Array Value):laidMetH Tryz.prog Rows.topologyRawRow.laid ((World.doorLaid Tryz.prog 400 os).forCall (fun _ _=>0) ⟨#[],args,[]⟩).memory :=
 laidMetH_of_parts3 (fuel:=8) (laidMet_of_run' 8 (by kernel_rfl) (by kernel_rfl)) (by kernel_rfl) (by kernel_rfl)
set_option maxRecDepth 100000 in
theorem a4Q (os:Os) (started:os.Started) (H:Type) (enc:TypeId × Value→H) :
  ReturnsInHanded {} Tryz.checked os 8 .any (fun w args=>(Rows.topologyRawSpec.pre enc Tryz.prog Tryz.f8 [] false w args∧laidMetH Tryz.prog Rows.topologyRawRow.laid w)∧sizedMet enc Tryz.prog Tryz.f8 (OpenSpec.ofChange Rows.topologyRawSpec) false w args)
   (Rows.topologyRawSpec.post enc Tryz.prog Tryz.f8 false true false false):=by
 refine returnsInHanded_of_change_and (C:=Tryz.checked) (X:=fun w _=>laidMetH Tryz.prog Rows.topologyRawRow.laid w) (fun _ _ _ hh h=>h.of_heap hh) Tryz.own started (by kernel_rfl) Tryz.func8
  (ChangeSpec.witness_shaped (enc:=enc) (C:=Tryz.checked) (os:=os) (X:=fun w _=>laidMetH Tryz.prog Rows.topologyRawRow.laid w) false (World.doorLaid Tryz.prog 400 os) #[.agg #[.int .i64 0,.slice none 0 0,.slice none 0 0,.slice none 0 0,.slice none 0 0,.slice none 0 0,.slice none 0 0],.slice none 0 0,.slice none 0 0,.int .i64 0,.int .i64 0,.int .i64 0] 8 rfl (World.shaped_of_RefB (by kernel_rfl) (by kernel_rfl)) (by kernel_rfl) (by kernel_rfl) (by kernel_rfl) (aAA os _)) ?_
 intro W base args ds gs before bHB hW _ hwt _ _
 exact awV (P:=Tryz.prog) (num:=num) (name:=15) (n:=8) (ats:=argKinds) (bt:=4) Tryz.laidOut (by kernel_rfl) (by kernel_rfl) (by kernel_rfl) rfl
  (fun ds hd=>by
   match ds,hd with
   | [d1,d2,d3,d4,d5,d6],_=>exact⟨rfl,rfl,rfl⟩)
  (by kernel_rfl) bpS (buM Tryz.prog (w:=4) (by decide)) brQ bHB hW (fun j t d a b=>⟨tJ hwt j t d (by rw[bLF (bKA.1 a).1]; exact a) (by rw[bLF (bKA.1 b).1]; exact b),8,bJL.1 (show (Tryz.f8.params.toList.all fun t=>uB Tryz.prog 4 8 t)=true by kernel_rfl) t (bKX a)⟩)
theorem YT:Rows.TopologyRawSaid :=
 OpenClaim.holds_of_wide 8 Tryz.f8 rfl rfl rfl rfl rfl rfl rfl ⟨rfl,rfl,rfl,rfl,rfl⟩ rfl rfl rfl rfl rfl (by kernel_rfl) Tryz.func8 (by kernel_rfl)
  (of_decide_eq_true (by kernel_rfl)) (by unfold Func.isWrapper; first | (rw[if_pos (by decide +kernel)]; kernel_rfl) | (rw[if_neg (by decide +kernel)]; exact⟨rfl,rfl⟩))
  (fun os started H enc _=>a4Q os started H enc)
theorem topologyRaw_card:Rows.TopologyRawCardSaid :=
 Claim7.holds_tied_plain_at .later [] [.data,.data,.data] true (true,"0274820c616a522d60ae96bb3bb76ba88db858f1cec11c98534319f0edbce220") false
  YT (fun _ h=>by cases h) (by kernel_rfl) (fun _ h=>by cases h) topologyRaw_row_tie rfl ⟨rfl,rfl⟩ (by kernel_rfl) rfl
  (fun f fn hf hfn=>by
   obtain rfl:f=8:=bKT.inj ((show Tryz.prog.funcNamed Rows.topologyRawRow.func=some 8 by kernel_rfl).symm.trans hf) |>.symm
   obtain rfl:fn=Tryz.f8:=(bKT.inj (Tryz.func8.symm.trans hfn)).symm
   exact⟨by kernel_rfl,fun j t ht=>by
    have hm:t∈Tryz.f8.params.toList:=by
     rw[Array.mem_toList_iff]
     exact Array.mem_of_getElem? ht
    have bHZ:(Tryz.f8.params.toList.all fun u=>!Tryz.prog.wantsStandIn u)=true:=by kernel_rfl
    exact (show Tryz.prog.wantsStandIn t=false by simpa using bJL.1 bHZ t hm)⟩)
  (by kernel_rfl)
#print axioms topologyRaw_card
end Go.Proofs.YtelckcmlobadkaaGreatDoor
