/-
  The law of the claim returns true at every input, and its argument reads as it did: the tied card. No condition.
-/
import Derived.Test.YtelckcmlobadkaaGreatDoorM1
import Derived.Test.YtelckcmlobadkaaGreatDoorM2
import Derived.Test.YtelckcmlobadkaaGreatDoorM3
import Derived.Test.YtelckcmlobadkaaGreatDoorM4
import Derived.Test.YtelckcmlobadkaaGreatDoorM5
import Derived.Test.YtelckcmlobadkaaGreatDoorM6
import Derived.Test.YtelckcmlobadkaaGreatDoorTie
import Derived.Test.YtelckcmlobadkaaGreatDoorCards
set_option linter.unusedSimpArgs false
set_option linter.unusedVariables false
open Nat renaming reduceEqDiff → γ, reduceAdd → δ, reduceSub → ε, reduceMul → ζ, reduceLT → η, reduceLeDiff → θ, reduceBEq → τ
open Int renaming reduceLT → ι, reduceLE → κ, reduceEq → μ, reduceToNat → ν, reduceAdd → ξ, reduceNeg → ο, reduceBEq → ρ, reduceBNe → σ
open List renaming reduceReplicate → υ
open List renaming length_map → bfT, replicate → bfV, length_append → bfW, length_singleton → bfZ, getElem_mem → bgA, mem_cons → bgD, getElem?_eq_getElem → bgF, take_of_length_le → bgH, length_take → bgJ, not_mem_nil → bgL, range → bgN, getD_eq_getElem?_getD → bgT, drop_zero → bgV, append_assoc → bgY, mem_map → bgZ, map_cons → bhA, take_length → bhB, getElem?_eq_none → bhD, all_eq_true → bhE, getElem?_eq_some_iff → bhF, getElem?_map → bhG, mem_append → bhJ, getElem_map → bhL, getElem_of_mem → bhM, append_nil → bhN, length_set → bhO, drop_eq_getElem_cons → bhP, length_drop → bhQ, length_nil → bhR, map_append → bhS, Sublist → bhU, map_nil → bhV, mem_range → bhW, take_append_drop → biC, mem_of_getElem? → biF, take_succ_eq_append_getElem → biG, length_cons → biH, nodup_append → biI, ext_getElem → biO, getElem?_append_left → biP, getElem?_take → biQ, nil_append → biR, getElem?_append_right → biT, set_append_right → biU, drop_of_length_le → bjA
open Nat renaming gcd → bfU, le_refl → bfX, mul_add → bgC, zero_le → bgE, lt_or_ge → bgI, mul_assoc → bgK, mul_comm → bgO, zero_add → bgQ, add_mul → bgS, mul_le_mul_right → bgU, mod_eq_of_lt → bgW, mod_lt → bgX, pow_succ → bhH, min_eq_left → bhT, add_assoc → bhX, add_zero → bhY, mul_le_mul_left → bhZ, eq_zero_or_pos → biB, pos_of_ne_zero → biD, pow_pos → biE, div_lt_iff_lt_mul → biJ, le_trans → biK, div_le_self → biS, div_add_mod → biV, div_eq_of_lt → biW
open Option renaming map_eq_some_iff → bfY, map_some → bhC, some → biA, getD_some → biM, bind_eq_some_iff → biX, bind_some → bjB
open Bool renaming not_true → bgB, false_and → bgG, not_false → bgM, and_eq_true → bgP, true_and → bgR, and_false → bhK, and_true → biN, false_eq_true → biZ
open Array renaming replicate → bhI, length_toList → biL, getElem?_eq_getElem → biY, getElem?_eq_some_iff → bjC
namespace Go.Proofs.YtelckcmlobadkaaGreatDoor
open Go Go.PM
theorem c3:(T aKX).func Tryz.f12=some PM.AB:=by kernel_rfl
theorem q3:aQ C 3 PM.AB:=fun _ _ _ hl h=>aO rfl rfl Tryz.func12 (by kernel_rfl) c3 hl h
theorem c6:(T aVO).func Tryz.f14=some PM.WD:=by kernel_rfl
theorem q6:aQ C 6 PM.WD:=fun _ _ _ hl h=>aO rfl rfl Tryz.func14 (by kernel_rfl) c6 hl h
theorem c82:(T aWJ).func Tryz.f33=some PM.XB:=by kernel_rfl
theorem q82:aQ C 82 PM.XB:=fun _ _ _ hl h=>aO rfl rfl Tryz.func33 (by kernel_rfl) c82 hl h
theorem c18:(T aOD).func Tryz.f17=some PM.HK:=by kernel_rfl
theorem q18:aQ C 18 PM.HK:=fun _ _ _ hl h=>aO rfl rfl Tryz.func17 (by kernel_rfl) c18 hl h
theorem c11:(T aKO).func Tryz.f3=some PM.aEG:=by kernel_rfl
theorem q11:aQ C 11 PM.aEG:=fun _ _ _ hl h=>aO rfl rfl Tryz.func3 (by kernel_rfl) c11 hl h
theorem c14:(T aOO).func Tryz.f5=some PM.HN:=by kernel_rfl
theorem q14:aQ C 14 PM.HN:=fun _ _ _ hl h=>aO rfl rfl Tryz.func5 (by kernel_rfl) c14 hl h
theorem a3N:SQ C:={ a6J with r3:=q3,r6:=q6,r18:=q18,r82:=q82 }
end Go.Proofs.YtelckcmlobadkaaGreatDoor
namespace Go.Proofs.YtelckcmlobadkaaGreatDoor
open Go Go.PM Go.RowKit Go.ChangeShapes Go.WideShapes
def argKinds:List AT:=[.one (.sl [.int .u8]),.one (.int .u8),.one (.int .u8),.one (.int .u8)]
theorem aYK:zQ Tryz.prog 8 Tryz.f5.params.toList=some argKinds:=by kernel_rfl
theorem awL {pv:PV} (h:PV.Ty (.int .u8) pv):∃ n:Nat,pv=.int .u8 n∧n<256:=by
 obtain⟨m,rfl,hk⟩:=Ty.aaA h
 have h1:=hk.1
 have h2:=hk.2
 have hm:IntKind.u8.max=255:=by decide
 have hn:IntKind.u8.min=0:=by decide
 rw[hm] at h2
 rw[hn] at h1
 exact⟨m.toNat,by rw[Int.toNat_of_nonneg h1],by omega⟩
theorem a0G (pvs:List PV) (h:AT.TyL argKinds pvs):aI C 14 pvs .nil (aL (.bool true)):=by
 match pvs,h with
 | [p0,p1,p2,p3],h =>
  obtain⟨h0,h1,h2,h3,-⟩:=h
  cases h0 with | one h0 =>
  obtain⟨x0,rfl,b0,l0⟩:=aNE h0
  cases h1 with | one h1 =>
  obtain⟨x1,rfl,b1⟩:=awL h1
  cases h2 with | one h2 =>
  obtain⟨x2,rfl,b2⟩:=awL h2
  cases h3 with | one h3 =>
  obtain⟨x3,rfl,b3⟩:=awL h3
  exact aUR a3N itoa q14 x0 b0 l0 x1 x2 x3 b1 b2 b3
theorem alK (os:Os) (args:Array Value):laidMetH Tryz.prog Rows.topologyMovesRow.laid ((World.doorLaid Tryz.prog 400 os).forCall (fun _ _=>0) ⟨#[],args,[]⟩).memory :=
 laidMetH_of_parts3 (fuel:=8) (laidMet_of_run' 8 (by kernel_rfl) (by kernel_rfl)) (by kernel_rfl) (by kernel_rfl)
set_option maxRecDepth 100000 in
theorem aKD (os:Os) (started:os.Started) (H:Type) (enc:TypeId × Value→H) :
  ReturnsInHanded {} Tryz.checked os 5 .any (fun w args=>(Rows.topologyMovesSpec.pre enc Tryz.prog Tryz.f5 [] false w args∧laidMetH Tryz.prog Rows.topologyMovesRow.laid w)∧sizedMet enc Tryz.prog Tryz.f5 (OpenSpec.ofChange Rows.topologyMovesSpec) false w args)
   (Rows.topologyMovesSpec.post enc Tryz.prog Tryz.f5 false true false false):=by
 refine returnsInHanded_of_change_and (C:=Tryz.checked) (X:=fun w _=>laidMetH Tryz.prog Rows.topologyMovesRow.laid w) (fun _ _ _ hh h=>h.of_heap hh) Tryz.own started (by kernel_rfl) Tryz.func5
  (ChangeSpec.witness_shaped (enc:=enc) (C:=Tryz.checked) (os:=os) (X:=fun w _=>laidMetH Tryz.prog Rows.topologyMovesRow.laid w) false (World.doorLaid Tryz.prog 400 os) #[.slice none 0 0,.int .u8 0,.int .u8 0,.int .u8 0] 8 rfl (World.shaped_of_RefB (by kernel_rfl) (by kernel_rfl)) (by kernel_rfl) (by kernel_rfl) (by kernel_rfl) (alK os _)) ?_
 intro W base args ds gs before hval hW _ _ _ _
 exact alC (P:=Tryz.prog) (num:=num) (name:=14) (n:=8) (ats:=argKinds) (bt:=4) Tryz.laidOut (by kernel_rfl) (by kernel_rfl) (by kernel_rfl) rfl
  (fun ds hd=>by
   match ds,hd with
   | [d1,d2,d3,d4],_=>exact⟨rfl,rfl,rfl⟩)
  (by kernel_rfl) aYK a0G hval hW
theorem JV:Rows.TopologyMovesSaid :=
 OpenClaim.holds_of_wide 5 Tryz.f5 rfl rfl rfl rfl rfl rfl rfl ⟨rfl,rfl,rfl,rfl,rfl⟩ rfl rfl rfl rfl rfl (by kernel_rfl) Tryz.func5 (by kernel_rfl)
  (of_decide_eq_true (by kernel_rfl)) (by unfold Func.isWrapper; first | (rw[if_pos (by decide +kernel)]; kernel_rfl) | (rw[if_neg (by decide +kernel)]; exact⟨rfl,rfl⟩))
  (fun os started H enc _=>aKD os started H enc)
theorem topologyMoves_card:Rows.TopologyMovesCardSaid :=
 Claim7.holds_tied_plain_at .later [] [.data,.data,.data] true (true,"0274820c616a522d60ae96bb3bb76ba88db858f1cec11c98534319f0edbce220") false
  JV (fun _ h=>by cases h) (by kernel_rfl) (fun _ h=>by cases h) topologyMoves_row_tie rfl ⟨rfl,rfl⟩ (by kernel_rfl) rfl
  (fun f fn hf hfn=>by
   obtain rfl:f=5:=biA.inj ((show Tryz.prog.funcNamed Rows.topologyMovesRow.func=some 5 by kernel_rfl).symm.trans hf) |>.symm
   obtain rfl:fn=Tryz.f5:=(biA.inj (Tryz.func5.symm.trans hfn)).symm
   exact⟨by kernel_rfl,fun j t ht=>by
    have hm:t∈Tryz.f5.params.toList:=by
     rw[Array.mem_toList_iff]
     exact Array.mem_of_getElem? ht
    have hall:(Tryz.f5.params.toList.all fun u=>!Tryz.prog.wantsStandIn u)=true:=by kernel_rfl
    exact (show Tryz.prog.wantsStandIn t=false by simpa using bhE.1 hall t hm)⟩)
  (by kernel_rfl)
#print axioms topologyMoves_card
end Go.Proofs.YtelckcmlobadkaaGreatDoor
