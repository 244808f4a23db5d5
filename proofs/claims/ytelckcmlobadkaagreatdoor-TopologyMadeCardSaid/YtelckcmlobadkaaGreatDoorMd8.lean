/-
  The law of the claim returns true at every input, and its argument reads as it did: the tied card. No condition.
-/
import Derived.Test.YtelckcmlobadkaaGreatDoorMd1
import Derived.Test.YtelckcmlobadkaaGreatDoorMd2
import Derived.Test.YtelckcmlobadkaaGreatDoorMd3
import Derived.Test.YtelckcmlobadkaaGreatDoorMd4
import Derived.Test.YtelckcmlobadkaaGreatDoorMd5
import Derived.Test.YtelckcmlobadkaaGreatDoorMd6
import Derived.Test.YtelckcmlobadkaaGreatDoorMd7
import Derived.Test.YtelckcmlobadkaaGreatDoorTie
import Derived.Test.YtelckcmlobadkaaGreatDoorCards
set_option linter.unusedSimpArgs false
set_option linter.unusedVariables false
open Nat renaming reduceEqDiff → γ, reduceAdd → δ, reduceSub → ε, reduceMul → ζ, reduceLT → η, reduceLeDiff → θ, reduceBEq → τ
open Int renaming reduceLT → ι, reduceLE → κ, reduceEq → μ, reduceToNat → ν, reduceAdd → ξ, reduceNeg → ο, reduceBEq → ρ, reduceBNe → σ
open List renaming reduceReplicate → υ
open List renaming length_map → bKY, range → bKZ, length_append → bLC, replicate → bLD, getElem_mem → bLF, length_singleton → bLH, getElem?_eq_getElem → bLL, mem_cons → bLO, getD_eq_getElem?_getD → bLP, take_of_length_le → bLQ, length_take → bLR, all_eq_true → bLU, not_mem_nil → bLW, take_length → bLZ, append_assoc → bMA, drop_zero → bMD, mem_map → bMF, getElem?_map → bMH, map_cons → bMI, getElem?_eq_none → bML, getElem?_eq_some_iff → bMM, getElem_map → bMN, getElem_of_mem → bMO, append_nil → bMP, mem_range → bMQ, mem_append → bMT, drop_eq_getElem_cons → bMU, map_append → bMW, Sublist → bMX, length_drop → bMY, map_nil → bMZ, take_succ_eq_append_getElem → bNC, length_nil → bNJ, length_set → bNL, length_cons → bNM, mem_of_getElem? → bNO, take_append_drop → bNP, nodup_append → bNQ, getElem?_append_left → bNV, ext_getElem → bNW, getElem?_append_right → bNX, getElem?_take → bNZ, set_append_right → bOA, drop_of_length_le → bOG
open Nat renaming gcd → bLA, zero_le → bLE, le_refl → bLG, mul_add → bLM, lt_or_ge → bLS, mul_assoc → bLV, zero_add → bLX, mul_comm → bLY, add_mul → bMB, mul_le_mul_right → bMC, mod_eq_of_lt → bMG, mod_lt → bMJ, pow_succ → bMR, add_zero → bMV, eq_zero_or_pos → bNA, min_eq_left → bNB, add_assoc → bND, le_trans → bNE, mul_le_mul_left → bNF, pos_of_ne_zero → bNG, pow_pos → bNN, div_lt_iff_lt_mul → bNR, div_le_self → bNY, div_add_mod → bOB, div_eq_of_lt → bOC
open Bool renaming not_true → bLB, false_and → bLI, not_false → bLK, true_and → bLN, and_eq_true → bLT, and_false → bMK, and_true → bNK, and_assoc → bNT, false_eq_true → bOF
open Option renaming map_eq_some_iff → bLJ, map_some → bME, getD_some → bNH, some → bNI, bind_eq_some_iff → bOD, bind_some → bOH
open Array renaming replicate → bMS, length_toList → bNS, getElem?_eq_getElem → bOE, getElem?_eq_some_iff → bOI
open Int renaming toNat_natCast → bNU
namespace Go.Proofs.YtelckcmlobadkaaGreatDoor
open Go Go.PM
theorem q19:aL C 19 PM.SQ:=bG (T a7Q) rfl rfl Tryz.func24 (by kernel_rfl) (by kernel_rfl)
theorem q21:aL C 21 PM.adM:=bG (T beM) rfl rfl Tryz.func23 (by kernel_rfl) (by kernel_rfl)
theorem q22:aL C 22 PM.aAG:=bG (T bnB) rfl rfl Tryz.func48 (by kernel_rfl) (by kernel_rfl)
theorem q46:aL C 46 PM.aRB:=bG (T bwO) rfl rfl Tryz.func136 (by kernel_rfl) (by kernel_rfl)
theorem q48:aL C 48 PM.aiX:=bG (T bjV) rfl rfl Tryz.func162 (by kernel_rfl) (by kernel_rfl)
theorem q49:aL C 49 PM.aBF:=bG (T bqS) rfl rfl Tryz.func105 (by kernel_rfl) (by kernel_rfl)
theorem q51:aL C 51 PM.ajF:=bG (T bjX) rfl rfl Tryz.func101 (by kernel_rfl) (by kernel_rfl)
theorem q52:aL C 52 PM.TN:=bG (T bbZ) rfl rfl Tryz.func102 (by kernel_rfl) (by kernel_rfl)
theorem q53:aL C 53 PM.aBH:=bG (T bqW) rfl rfl Tryz.func100 (by kernel_rfl) (by kernel_rfl)
theorem q54:aL C 54 PM.aBI:=bG (T bqY) rfl rfl Tryz.func77 (by kernel_rfl) (by kernel_rfl)
theorem q55:aL C 55 PM.bcA:=bG (T bwS) rfl rfl Tryz.func99 (by kernel_rfl) (by kernel_rfl)
theorem q56:aL C 56 PM.ajL:=bG (T bkB) rfl rfl Tryz.func76 (by kernel_rfl) (by kernel_rfl)
theorem q57:aL C 57 PM.aBE:=bG (T bqP) rfl rfl Tryz.func153 (by kernel_rfl) (by kernel_rfl)
theorem q60:aL C 60 PM.ajK:=bG (T bjZ) rfl rfl Tryz.func137 (by kernel_rfl) (by kernel_rfl)
theorem q61:aL C 61 PM.AH:=bG (T boZ) rfl rfl Tryz.func103 (by kernel_rfl) (by kernel_rfl)
theorem q62:aL C 62 PM.TP:=bG (T bcE) rfl rfl Tryz.func96 (by kernel_rfl) (by kernel_rfl)
theorem q63:aL C 63 PM.ajM:=bG (T bkD) rfl rfl Tryz.func151 (by kernel_rfl) (by kernel_rfl)
theorem q64:aL C 64 PM.TO:=bG (T bcC) rfl rfl Tryz.func135 (by kernel_rfl) (by kernel_rfl)
theorem q65:aL C 65 PM.TQ:=bG (T bcG) rfl rfl Tryz.func134 (by kernel_rfl) (by kernel_rfl)
theorem q66:aL C 66 PM.bcL:=bG (T bwZ) rfl rfl Tryz.func104 (by kernel_rfl) (by kernel_rfl)
theorem q67:aL C 67 PM.akR:=bG (T bkS) rfl rfl Tryz.func59 (by kernel_rfl) (by kernel_rfl)
theorem q68:aL C 68 PM.bcK:=bG (T bwX) rfl rfl Tryz.func75 (by kernel_rfl) (by kernel_rfl)
theorem q69:aL C 69 PM.bcI:=bG (T bwV) rfl rfl Tryz.func80 (by kernel_rfl) (by kernel_rfl)
theorem q70:aL C 70 PM.akD:=bG (T bkH) rfl rfl Tryz.func74 (by kernel_rfl) (by kernel_rfl)
theorem q71:aL C 71 PM.akE:=bG (T bkJ) rfl rfl Tryz.func97 (by kernel_rfl) (by kernel_rfl)
theorem q72:aL C 72 PM.LH:=bG (T aVK) rfl rfl Tryz.func79 (by kernel_rfl) (by kernel_rfl)
theorem q73:aL C 73 PM.akF:=bG (T bkM) rfl rfl Tryz.func73 (by kernel_rfl) (by kernel_rfl)
theorem q74:aL C 74 PM.akG:=bG (T bkO) rfl rfl Tryz.func78 (by kernel_rfl) (by kernel_rfl)
theorem q75:aL C 75 PM.TR:=bG (T bcN) rfl rfl Tryz.func98 (by kernel_rfl) (by kernel_rfl)
theorem q76:aL C 76 PM.FP:=bG (T bcP) rfl rfl Tryz.func72 (by kernel_rfl) (by kernel_rfl)
theorem q77:aL C 77 PM.JD:=bG (T aUZ) rfl rfl Tryz.func81 (by kernel_rfl) (by kernel_rfl)
theorem q78:aL C 78 PM.sat:=bG (T byX) rfl rfl Tryz.func40 (by kernel_rfl) (by kernel_rfl)
theorem q79:aL C 79 PM.afZ:=bG (T bhL) rfl rfl Tryz.func43 (by kernel_rfl) (by kernel_rfl)
theorem q80:aL C 80 PM.agB:=bG (T bhN) rfl rfl Tryz.func82 (by kernel_rfl) (by kernel_rfl)
theorem q81:aL C 81 PM.TC:=bG (T baR) rfl rfl Tryz.func42 (by kernel_rfl) (by kernel_rfl)
theorem q83:aL C 83 PM.agL:=bG (T bhU) rfl rfl Tryz.func50 (by kernel_rfl) (by kernel_rfl)
theorem q84:aL C 84 PM.agM:=bG (T bhY) rfl rfl Tryz.func45 (by kernel_rfl) (by kernel_rfl)
theorem q85:aL C 85 PM.aAQ:=bG (T bpE) rfl rfl Tryz.func46 (by kernel_rfl) (by kernel_rfl)
theorem q86:aL C 86 PM.TE:=bG (T baY) rfl rfl Tryz.func47 (by kernel_rfl) (by kernel_rfl)
theorem q87:aL C 87 PM.aAR:=bG (T bpI) rfl rfl Tryz.func49 (by kernel_rfl) (by kernel_rfl)
theorem q88:aL C 88 PM.afY:=bG (T bhG) rfl rfl Tryz.func60 (by kernel_rfl) (by kernel_rfl)
theorem q89:aL C 89 PM.baP:=bG (T bvO) rfl rfl Tryz.func61 (by kernel_rfl) (by kernel_rfl)
theorem q90:aL C 90 PM.baW:=bG (T bvW) rfl rfl Tryz.func62 (by kernel_rfl) (by kernel_rfl)
theorem q94:aL C 94 PM.azX:=bG (T blM) rfl rfl Tryz.func41 (by kernel_rfl) (by kernel_rfl)
theorem q13:aL C 13 PM.aAH:=bG (T bnD) rfl rfl Tryz.func9 (by kernel_rfl) (by kernel_rfl)
theorem q12:aL C 12 PM.byD:=bG (T beK) rfl rfl Tryz.func7 (by kernel_rfl) (by kernel_rfl)
theorem q15:aL C 15 PM.bED:=bG (T buC) rfl rfl Tryz.func8 (by kernel_rfl) (by kernel_rfl)
theorem bxQ:gR C:={ bxR with r19:=q19,r21:=q21,r22:=q22,r46:=q46,r48:=q48,r49:=q49,r51:=q51,r52:=q52,r53:=q53,r54:=q54,r55:=q55,r56:=q56,r57:=q57,r60:=q60,r61:=q61,r62:=q62,r63:=q63,r64:=q64,r65:=q65,r66:=q66,r67:=q67,r68:=q68,r69:=q69,r70:=q70,r71:=q71,r72:=q72,r73:=q73,r74:=q74,r75:=q75,r76:=q76,r77:=q77,r78:=q78,r79:=q79,r80:=q80,r81:=q81,r83:=q83,r84:=q84,r85:=q85,r86:=q86,r87:=q87,r88:=q88,r89:=q89,r90:=q90,r94:=q94 }
end Go.Proofs.YtelckcmlobadkaaGreatDoor
namespace Go.Proofs.YtelckcmlobadkaaGreatDoor
open Go Go.PM Go.RowKit Go.ChangeShapes Go.WideShapes
def argKinds:List AT:=[.one (.sl [.int .u8])]
theorem brU:EQ Tryz.prog 8 Tryz.f9.params.toList=some argKinds:=by kernel_rfl
theorem btU (pvs:List PV) (h:AT.TyL argKinds pvs):aH C 13 pvs .nil (aF (.bool true)):=by
 match pvs,h with
 | [p0],h =>
  obtain⟨h0,-⟩:=h
  cases h0 with | one h0 =>
  obtain⟨x0,rfl,b0,l0⟩:=bcT h0
  exact a7O bxQ itoa q13 x0 b0 l0
theorem aCS (os:Os) (args:Array Value):laidMetH Tryz.prog Rows.topologyMadeRow.laid ((World.doorLaid Tryz.prog 400 os).forCall (fun _ _=>0) ⟨#[],args,[]⟩).memory :=
 laidMetH_of_parts3 (fuel:=8) (laidMet_of_run' 8 (by kernel_rfl) (by kernel_rfl)) (by kernel_rfl) (by kernel_rfl)
set_option maxRecDepth 100000 in
theorem a7S (os:Os) (started:os.Started) (H:Type) (enc:TypeId × Value→H) :
  ReturnsInHanded {} Tryz.checked os 9 .any (fun w args=>(Rows.topologyMadeSpec.pre enc Tryz.prog Tryz.f9 [] false w args∧laidMetH Tryz.prog Rows.topologyMadeRow.laid w)∧sizedMet enc Tryz.prog Tryz.f9 (OpenSpec.ofChange Rows.topologyMadeSpec) false w args)
   (Rows.topologyMadeSpec.post enc Tryz.prog Tryz.f9 false true false false):=by
 refine returnsInHanded_of_change_and (C:=Tryz.checked) (X:=fun w _=>laidMetH Tryz.prog Rows.topologyMadeRow.laid w) (fun _ _ _ hh h=>h.of_heap hh) Tryz.own started (by kernel_rfl) Tryz.func9
  (ChangeSpec.witness_shaped (enc:=enc) (C:=Tryz.checked) (os:=os) (X:=fun w _=>laidMetH Tryz.prog Rows.topologyMadeRow.laid w) false (World.doorLaid Tryz.prog 400 os) #[.slice none 0 0] 8 rfl (World.shaped_of_RefB (by kernel_rfl) (by kernel_rfl)) (by kernel_rfl) (by kernel_rfl) (by kernel_rfl) (aCS os _)) ?_
 intro W base args ds gs before bJN hW _ _ _ _
 exact aCK (P:=Tryz.prog) (num:=num) (name:=13) (n:=8) (ats:=argKinds) (bt:=4) Tryz.laidOut (by kernel_rfl) (by kernel_rfl) (by kernel_rfl) rfl
  (fun ds hd=>by
   match ds,hd with
   | [d1],_=>exact⟨rfl,rfl,rfl⟩)
  (by kernel_rfl) brU btU bJN hW
theorem TS:Rows.TopologyMadeSaid :=
 OpenClaim.holds_of_wide 9 Tryz.f9 rfl rfl rfl rfl rfl rfl rfl ⟨rfl,rfl,rfl,rfl,rfl⟩ rfl rfl rfl rfl rfl (by kernel_rfl) Tryz.func9 (by kernel_rfl)
  (of_decide_eq_true (by kernel_rfl)) (by unfold Func.isWrapper; first | (rw[if_pos (by decide +kernel)]; kernel_rfl) | (rw[if_neg (by decide +kernel)]; exact⟨rfl,rfl⟩))
  (fun os started H enc _=>a7S os started H enc)
theorem topologyMade_card:Rows.TopologyMadeCardSaid :=
 Claim7.holds_tied_plain_at .later [] [.data,.data,.data] true (true,"0274820c616a522d60ae96bb3bb76ba88db858f1cec11c98534319f0edbce220") false
  TS (fun _ h=>by cases h) (by kernel_rfl) (fun _ h=>by cases h) topologyMade_row_tie rfl ⟨rfl,rfl⟩ (by kernel_rfl) rfl
  (fun f fn hf hfn=>by
   obtain rfl:f=9:=bNI.inj ((show Tryz.prog.funcNamed Rows.topologyMadeRow.func=some 9 by kernel_rfl).symm.trans hf) |>.symm
   obtain rfl:fn=Tryz.f9:=(bNI.inj (Tryz.func9.symm.trans hfn)).symm
   exact⟨by kernel_rfl,fun j t ht=>by
    have hm:t∈Tryz.f9.params.toList:=by
     rw[Array.mem_toList_iff]
     exact Array.mem_of_getElem? ht
    have bKL:(Tryz.f9.params.toList.all fun u=>!Tryz.prog.wantsStandIn u)=true:=by kernel_rfl
    exact (show Tryz.prog.wantsStandIn t=false by simpa using bLU.1 bKL t hm)⟩)
  (by kernel_rfl)
#print axioms topologyMade_card
end Go.Proofs.YtelckcmlobadkaaGreatDoor
