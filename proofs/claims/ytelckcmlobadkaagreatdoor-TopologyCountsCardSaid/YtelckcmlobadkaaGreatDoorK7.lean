/-
  The law of the claim returns true at every input, and its argument reads as it did: the tied card. No condition.
-/
import Derived.Test.YtelckcmlobadkaaGreatDoorK1
import Derived.Test.YtelckcmlobadkaaGreatDoorK2
import Derived.Test.YtelckcmlobadkaaGreatDoorK3
import Derived.Test.YtelckcmlobadkaaGreatDoorK4
import Derived.Test.YtelckcmlobadkaaGreatDoorK5
import Derived.Test.YtelckcmlobadkaaGreatDoorK6
import Derived.Test.YtelckcmlobadkaaGreatDoorTie
import Derived.Test.YtelckcmlobadkaaGreatDoorCards
set_option linter.unusedSimpArgs false
set_option linter.unusedVariables false
open Nat renaming reduceEqDiff → γ, reduceAdd → δ, reduceSub → ε, reduceMul → ζ, reduceLT → η, reduceLeDiff → θ, reduceBEq → τ
open Int renaming reduceLT → ι, reduceLE → κ, reduceEq → μ, reduceToNat → ν, reduceAdd → ξ, reduceNeg → ο, reduceBEq → ρ, reduceBNe → σ
open List renaming reduceReplicate → υ
open List renaming length_map → bgT, replicate → bgV, length_append → bgW, getElem_mem → bgY, length_singleton → bhA, range → bhB, mem_cons → bhF, getElem?_eq_getElem → bhH, take_of_length_le → bhI, length_take → bhJ, not_mem_nil → bhM, getD_eq_getElem?_getD → bhQ, drop_zero → bhV, all_eq_true → bhW, append_assoc → bhY, take_length → bhZ, mem_map → biA, map_cons → biC, getElem?_eq_none → biE, getElem?_eq_some_iff → biG, getElem?_map → biH, getElem_map → biI, getElem_of_mem → biL, mem_range → biM, append_nil → biN, mem_append → biO, drop_eq_getElem_cons → biQ, length_drop → biR, map_append → biS, Sublist → biU, map_nil → biV, take_succ_eq_append_getElem → biZ, length_nil → bjB, length_set → bjC, take_append_drop → bjE, ext_getElem → bjH, mem_of_getElem? → bjI, length_cons → bjJ, nodup_append → bjK, getElem?_take → bjO, getElem?_append_left → bjQ, set_append_right → bjR, getElem?_append_right → bjU, drop_of_length_le → bkA
open Nat renaming gcd → bgU, le_refl → bgX, mul_add → bhD, zero_le → bhE, lt_or_ge → bhK, mul_assoc → bhL, mul_comm → bhR, zero_add → bhS, add_mul → bhT, mul_le_mul_right → bhU, mod_eq_of_lt → bhX, mod_lt → biB, pow_succ → biJ, add_zero → biP, min_eq_left → biT, add_assoc → biW, mul_le_mul_left → biX, eq_zero_or_pos → bjA, pos_of_ne_zero → bjF, pow_pos → bjG, div_lt_iff_lt_mul → bjL, le_trans → bjM, div_le_self → bjS, div_add_mod → bjV, div_eq_of_lt → bjW
open Option renaming map_eq_some_iff → bgZ, map_some → biD, some → biY, getD_some → bjP, bind_eq_some_iff → bjX, bind_some → bkB
open Bool renaming not_true → bhC, false_and → bhG, not_false → bhN, and_eq_true → bhO, true_and → bhP, and_false → biF, and_true → bjD, false_eq_true → bjZ
open Array renaming replicate → biK, length_toList → bjN, getElem?_eq_getElem → bjY, getElem?_eq_some_iff → bkC
open Int renaming toNat_natCast → bjT
namespace Go.Proofs.YtelckcmlobadkaaGreatDoor
open Go Go.PM
theorem c3:(T aLA).func Tryz.f12=some PM.BD:=by kernel_rfl
theorem q3:aR C 3 PM.BD:=fun _ _ _ hl h=>aO rfl rfl Tryz.func12 (by kernel_rfl) c3 hl h
theorem c6:(T aWA).func Tryz.f14=some PM.XW:=by kernel_rfl
theorem q6:aR C 6 PM.XW:=fun _ _ _ hl h=>aO rfl rfl Tryz.func14 (by kernel_rfl) c6 hl h
theorem c82:(T aWU).func Tryz.f33=some PM.YV:=by kernel_rfl
theorem q82:aR C 82 PM.YV:=fun _ _ _ hl h=>aO rfl rfl Tryz.func33 (by kernel_rfl) c82 hl h
theorem c18:(T aOI).func Tryz.f17=some PM.II:=by kernel_rfl
theorem q18:aR C 18 PM.II:=fun _ _ _ hl h=>aO rfl rfl Tryz.func17 (by kernel_rfl) c18 hl h
theorem c11:(T aKC).func Tryz.f3=some PM.BA:=by kernel_rfl
theorem q11:aR C 11 PM.BA:=fun _ _ _ hl h=>aO rfl rfl Tryz.func3 (by kernel_rfl) c11 hl h
theorem c14:(T aPD).func Tryz.f5=some PM.aOS:=by kernel_rfl
theorem q14:aR C 14 PM.aOS:=fun _ _ _ hl h=>aO rfl rfl Tryz.func5 (by kernel_rfl) c14 hl h
theorem a4L:UH C:={ a7I with r3:=q3,r6:=q6,r18:=q18,r82:=q82 }
end Go.Proofs.YtelckcmlobadkaaGreatDoor
namespace Go.Proofs.YtelckcmlobadkaaGreatDoor
open Go Go.PM Go.RowKit Go.ChangeShapes Go.WideShapes
def argKinds:List AT:=[.one (.sl [.int .u8])]
theorem aZA:AR Tryz.prog 8 Tryz.f3.params.toList=some argKinds:=by kernel_rfl
theorem a1B (pvs:List PV) (h:AT.TyL argKinds pvs):aJ C 11 pvs .nil (aL (.bool true)):=by
 match pvs,h with
 | [p0],h =>
  obtain⟨h0,-⟩:=h
  cases h0 with | one h0 =>
  obtain⟨x0,rfl,b0,l0⟩:=aNF h0
  exact aOG a4L itoa q11 x0 b0 l0
theorem amX (os:Os) (args:Array Value):laidMetH Tryz.prog Rows.topologyCountsRow.laid ((World.doorLaid Tryz.prog 400 os).forCall (fun _ _=>0) ⟨#[],args,[]⟩).memory :=
 laidMetH_of_parts3 (fuel:=8) (laidMet_of_run' 8 (by kernel_rfl) (by kernel_rfl)) (by kernel_rfl) (by kernel_rfl)
set_option maxRecDepth 100000 in
theorem aJZ (os:Os) (started:os.Started) (H:Type) (enc:TypeId × Value→H) :
  ReturnsInHanded {} Tryz.checked os 3 .any (fun w args=>(Rows.topologyCountsSpec.pre enc Tryz.prog Tryz.f3 [] false w args∧laidMetH Tryz.prog Rows.topologyCountsRow.laid w)∧sizedMet enc Tryz.prog Tryz.f3 (OpenSpec.ofChange Rows.topologyCountsSpec) false w args)
   (Rows.topologyCountsSpec.post enc Tryz.prog Tryz.f3 false true false false):=by
 refine returnsInHanded_of_change_and (C:=Tryz.checked) (X:=fun w _=>laidMetH Tryz.prog Rows.topologyCountsRow.laid w) (fun _ _ _ hh h=>h.of_heap hh) Tryz.own started (by kernel_rfl) Tryz.func3
  (ChangeSpec.witness_shaped (enc:=enc) (C:=Tryz.checked) (os:=os) (X:=fun w _=>laidMetH Tryz.prog Rows.topologyCountsRow.laid w) false (World.doorLaid Tryz.prog 400 os) #[.slice none 0 0] 8 rfl (World.shaped_of_RefB (by kernel_rfl) (by kernel_rfl)) (by kernel_rfl) (by kernel_rfl) (by kernel_rfl) (amX os _)) ?_
 intro W base args ds gs before hval hW _ _ _ _
 exact amN (P:=Tryz.prog) (num:=num) (name:=11) (n:=8) (ats:=argKinds) (bt:=4) Tryz.laidOut (by kernel_rfl) (by kernel_rfl) (by kernel_rfl) rfl
  (fun ds hd=>by
   match ds,hd with
   | [d1],_=>exact⟨rfl,rfl,rfl⟩)
  (by kernel_rfl) aZA a1B hval hW
theorem GU:Rows.TopologyCountsSaid :=
 OpenClaim.holds_of_wide 3 Tryz.f3 rfl rfl rfl rfl rfl rfl rfl ⟨rfl,rfl,rfl,rfl,rfl⟩ rfl rfl rfl rfl rfl (by kernel_rfl) Tryz.func3 (by kernel_rfl)
  (of_decide_eq_true (by kernel_rfl)) (by unfold Func.isWrapper; first | (rw[if_pos (by decide +kernel)]; kernel_rfl) | (rw[if_neg (by decide +kernel)]; exact⟨rfl,rfl⟩))
  (fun os started H enc _=>aJZ os started H enc)
theorem topologyCounts_card:Rows.TopologyCountsCardSaid :=
 Claim7.holds_tied_plain_at .later [] [.data,.data,.data] true (true,"0274820c616a522d60ae96bb3bb76ba88db858f1cec11c98534319f0edbce220") false
  GU (fun _ h=>by cases h) (by kernel_rfl) (fun _ h=>by cases h) topologyCounts_row_tie rfl ⟨rfl,rfl⟩ (by kernel_rfl) rfl
  (fun f fn hf hfn=>by
   obtain rfl:f=3:=biY.inj ((show Tryz.prog.funcNamed Rows.topologyCountsRow.func=some 3 by kernel_rfl).symm.trans hf) |>.symm
   obtain rfl:fn=Tryz.f3:=(biY.inj (Tryz.func3.symm.trans hfn)).symm
   exact⟨by kernel_rfl,fun j t ht=>by
    have hm:t∈Tryz.f3.params.toList:=by
     rw[Array.mem_toList_iff]
     exact Array.mem_of_getElem? ht
    have hall:(Tryz.f3.params.toList.all fun u=>!Tryz.prog.wantsStandIn u)=true:=by kernel_rfl
    exact (show Tryz.prog.wantsStandIn t=false by simpa using bhW.1 hall t hm)⟩)
  (by kernel_rfl)
#print axioms topologyCounts_card
end Go.Proofs.YtelckcmlobadkaaGreatDoor
