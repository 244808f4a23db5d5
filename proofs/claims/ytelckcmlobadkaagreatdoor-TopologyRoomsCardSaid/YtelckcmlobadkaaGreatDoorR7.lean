/-
  The law of the claim returns true at every input, and its argument reads as it did: the tied card. No condition.
-/
import Derived.Test.YtelckcmlobadkaaGreatDoorR1
import Derived.Test.YtelckcmlobadkaaGreatDoorR2
import Derived.Test.YtelckcmlobadkaaGreatDoorR3
import Derived.Test.YtelckcmlobadkaaGreatDoorR4
import Derived.Test.YtelckcmlobadkaaGreatDoorR5
import Derived.Test.YtelckcmlobadkaaGreatDoorR6
import Derived.Test.YtelckcmlobadkaaGreatDoorTie
import Derived.Test.YtelckcmlobadkaaGreatDoorCards
set_option linter.unusedSimpArgs false
set_option linter.unusedVariables false
open Nat renaming reduceEqDiff → γ, reduceAdd → δ, reduceSub → ε, reduceMul → ζ, reduceLT → η, reduceLeDiff → θ, reduceBEq → τ
open Int renaming reduceLT → ι, reduceLE → κ, reduceEq → μ, reduceToNat → ν, reduceAdd → ξ, reduceNeg → ο, reduceBEq → ρ, reduceBNe → σ
open List renaming reduceReplicate → υ
open List renaming length_map → bgR, replicate → bgT, length_append → bgU, length_singleton → bgX, getElem_mem → bgY, mem_cons → bhB, getElem?_eq_getElem → bhD, take_of_length_le → bhF, length_take → bhH, not_mem_nil → bhJ, range → bhL, getD_eq_getElem?_getD → bhN, drop_zero → bhT, append_assoc → bhV, mem_map → bhW, map_cons → bhY, getElem?_eq_none → biA, take_length → biB, all_eq_true → biC, getElem?_eq_some_iff → biD, getElem?_map → biG, getElem_of_mem → biH, getElem_map → biJ, mem_append → biK, append_nil → biL, length_drop → biM, map_append → biN, drop_eq_getElem_cons → biP, map_nil → biQ, Sublist → biV, length_nil → biX, mem_range → biY, length_set → bjB, mem_of_getElem? → bjC, take_append_drop → bjD, length_cons → bjE, nodup_append → bjF, take_succ_eq_append_getElem → bjG, ext_getElem → bjM, getElem?_append_left → bjN, getElem?_append_right → bjP, getElem?_take → bjQ, set_append_right → bjR, drop_of_length_le → bjX
open Nat renaming gcd → bgS, le_refl → bgV, mul_add → bhA, zero_le → bhC, lt_or_ge → bhG, mul_assoc → bhI, mul_comm → bhM, add_mul → bhQ, mul_le_mul_right → bhR, zero_add → bhS, mod_eq_of_lt → bhU, mod_lt → bhX, pow_succ → biE, min_eq_left → biO, add_assoc → biR, add_zero → biS, mul_le_mul_left → biT, eq_zero_or_pos → biW, pos_of_ne_zero → biZ, pow_pos → bjA, div_lt_iff_lt_mul → bjH, le_trans → bjI, div_le_self → bjO, div_add_mod → bjS, div_eq_of_lt → bjT
open Option renaming map_eq_some_iff → bgW, map_some → bhZ, some → biU, getD_some → bjK, bind_eq_some_iff → bjU, bind_some → bjY
open Bool renaming not_true → bgZ, false_and → bhE, not_false → bhK, and_eq_true → bhO, true_and → bhP, and_false → biI, and_true → bjL, false_eq_true → bjW
open Array renaming replicate → biF, length_toList → bjJ, getElem?_eq_getElem → bjV, getElem?_eq_some_iff → bjZ
namespace Go.Proofs.YtelckcmlobadkaaGreatDoor
open Go Go.PM
theorem c3:(T aLP).func Tryz.f12=some PM.AC:=by kernel_rfl
theorem q3:aP C 3 PM.AC:=fun _ _ _ hl h=>aN rfl rfl Tryz.func12 (by kernel_rfl) c3 hl h
theorem c6:(T aWL).func Tryz.f14=some PM.WE:=by kernel_rfl
theorem q6:aP C 6 PM.WE:=fun _ _ _ hl h=>aN rfl rfl Tryz.func14 (by kernel_rfl) c6 hl h
theorem c82:(T aXF).func Tryz.f33=some PM.XB:=by kernel_rfl
theorem q82:aP C 82 PM.XB:=fun _ _ _ hl h=>aN rfl rfl Tryz.func33 (by kernel_rfl) c82 hl h
theorem c18:(T aOU).func Tryz.f17=some PM.HL:=by kernel_rfl
theorem q18:aP C 18 PM.HL:=fun _ _ _ hl h=>aN rfl rfl Tryz.func17 (by kernel_rfl) c18 hl h
theorem c11:(T aKP).func Tryz.f3=some PM.aEJ:=by kernel_rfl
theorem q11:aP C 11 PM.aEJ:=fun _ _ _ hl h=>aN rfl rfl Tryz.func3 (by kernel_rfl) c11 hl h
theorem c16:(T aPR).func Tryz.f4=some PM.HP:=by kernel_rfl
theorem q16:aP C 16 PM.HP:=fun _ _ _ hl h=>aN rfl rfl Tryz.func4 (by kernel_rfl) c16 hl h
theorem c14:(T aPP).func Tryz.f5=some PM.aPE:=by kernel_rfl
theorem q14:aP C 14 PM.aPE:=fun _ _ _ hl h=>aN rfl rfl Tryz.func5 (by kernel_rfl) c14 hl h
theorem a4L:SS C:={ a7H with r3:=q3,r6:=q6,r18:=q18,r82:=q82 }
end Go.Proofs.YtelckcmlobadkaaGreatDoor
namespace Go.Proofs.YtelckcmlobadkaaGreatDoor
open Go Go.PM Go.RowKit Go.ChangeShapes Go.WideShapes
def argKinds:List AT:=[.one (.sl [.int .u8]),.one (.sl [.int .u8])]
theorem aZG:zS Tryz.prog 8 Tryz.f4.params.toList=some argKinds:=by kernel_rfl
theorem a1D (pvs:List PV) (h:AT.TyL argKinds pvs):aI C 16 pvs .nil (aK (.bool true)):=by
 match pvs,h with
 | [p0,p1],h =>
  obtain⟨h0,h1,-⟩:=h
  cases h0 with | one h0 =>
  obtain⟨x0,rfl,b0,l0⟩:=abR h0
  cases h1 with | one h1 =>
  obtain⟨x1,rfl,b1,l1⟩:=abR h1
  exact aVO a4L itoa q16 x0 b0 l0 x1 b1 l1
theorem alM (os:Os) (args:Array Value):laidMetH Tryz.prog Rows.topologyRoomsRow.laid ((World.doorLaid Tryz.prog 400 os).forCall (fun _ _=>0) ⟨#[],args,[]⟩).memory :=
 laidMetH_of_parts3 (fuel:=8) (laidMet_of_run' 8 (by kernel_rfl) (by kernel_rfl)) (by kernel_rfl) (by kernel_rfl)
set_option maxRecDepth 100000 in
theorem aKE (os:Os) (started:os.Started) (H:Type) (enc:TypeId × Value→H) :
  ReturnsInHanded {} Tryz.checked os 4 .any (fun w args=>(Rows.topologyRoomsSpec.pre enc Tryz.prog Tryz.f4 [] false w args∧laidMetH Tryz.prog Rows.topologyRoomsRow.laid w)∧sizedMet enc Tryz.prog Tryz.f4 (OpenSpec.ofChange Rows.topologyRoomsSpec) false w args)
   (Rows.topologyRoomsSpec.post enc Tryz.prog Tryz.f4 false true false false):=by
 refine returnsInHanded_of_change_and (C:=Tryz.checked) (X:=fun w _=>laidMetH Tryz.prog Rows.topologyRoomsRow.laid w) (fun _ _ _ hh h=>h.of_heap hh) Tryz.own started (by kernel_rfl) Tryz.func4
  (ChangeSpec.witness_shaped (enc:=enc) (C:=Tryz.checked) (os:=os) (X:=fun w _=>laidMetH Tryz.prog Rows.topologyRoomsRow.laid w) false (World.doorLaid Tryz.prog 400 os) #[.slice none 0 0,.slice none 0 0] 8 rfl (World.shaped_of_RefB (by kernel_rfl) (by kernel_rfl)) (by kernel_rfl) (by kernel_rfl) (by kernel_rfl) (alM os _)) ?_
 intro W base args ds gs before hval hW _ _ _ _
 exact alD (P:=Tryz.prog) (num:=num) (name:=16) (n:=8) (ats:=argKinds) (bt:=4) Tryz.laidOut (by kernel_rfl) (by kernel_rfl) (by kernel_rfl) rfl
  (fun ds hd=>by
   match ds,hd with
   | [d1,d2],_=>exact⟨rfl,rfl,rfl⟩)
  (by kernel_rfl) aZG a1D hval hW
theorem JY:Rows.TopologyRoomsSaid :=
 OpenClaim.holds_of_wide 4 Tryz.f4 rfl rfl rfl rfl rfl rfl rfl ⟨rfl,rfl,rfl,rfl,rfl⟩ rfl rfl rfl rfl rfl (by kernel_rfl) Tryz.func4 (by kernel_rfl)
  (of_decide_eq_true (by kernel_rfl)) (by unfold Func.isWrapper; first | (rw[if_pos (by decide +kernel)]; kernel_rfl) | (rw[if_neg (by decide +kernel)]; exact⟨rfl,rfl⟩))
  (fun os started H enc _=>aKE os started H enc)
theorem topologyRooms_card:Rows.TopologyRoomsCardSaid :=
 Claim7.holds_tied_plain_at .later [] [.data,.data,.data] true (true,"0274820c616a522d60ae96bb3bb76ba88db858f1cec11c98534319f0edbce220") false
  JY (fun _ h=>by cases h) (by kernel_rfl) (fun _ h=>by cases h) topologyRooms_row_tie rfl ⟨rfl,rfl⟩ (by kernel_rfl) rfl
  (fun f fn hf hfn=>by
   obtain rfl:f=4:=biU.inj ((show Tryz.prog.funcNamed Rows.topologyRoomsRow.func=some 4 by kernel_rfl).symm.trans hf) |>.symm
   obtain rfl:fn=Tryz.f4:=(biU.inj (Tryz.func4.symm.trans hfn)).symm
   exact⟨by kernel_rfl,fun j t ht=>by
    have hm:t∈Tryz.f4.params.toList:=by
     rw[Array.mem_toList_iff]
     exact Array.mem_of_getElem? ht
    have hall:(Tryz.f4.params.toList.all fun u=>!Tryz.prog.wantsStandIn u)=true:=by kernel_rfl
    exact (show Tryz.prog.wantsStandIn t=false by simpa using biC.1 hall t hm)⟩)
  (by kernel_rfl)
#print axioms topologyRooms_card
end Go.Proofs.YtelckcmlobadkaaGreatDoor
