/-
  The law of the claim returns true at every input, and its argument reads as it did: the tied card. No condition.
-/
import Derived.Test.YtnagfjehjbbckaaGreatDoorHo1
import Derived.Test.YtnagfjehjbbckaaGreatDoorHo2
import Derived.Test.YtnagfjehjbbckaaGreatDoorHo3
import Derived.Test.YtnagfjehjbbckaaGreatDoorHo4
import Derived.Test.YtnagfjehjbbckaaGreatDoorHo5
import Derived.Test.YtnagfjehjbbckaaGreatDoorHo6
import Derived.Test.YtnagfjehjbbckaaGreatDoorTie
import Derived.Test.YtnagfjehjbbckaaGreatDoorCards
set_option linter.unusedSimpArgs false
set_option linter.unusedVariables false
open Nat renaming reduceEqDiff → γ, reduceAdd → δ, reduceSub → ε, reduceMul → ζ, reduceLT → η, reduceLeDiff → θ, reduceBEq → τ
open Int renaming reduceLT → ι, reduceLE → κ, reduceEq → μ, reduceToNat → ν, reduceAdd → ξ, reduceNeg → ο, reduceBEq → ρ, reduceBNe → σ
open List renaming reduceReplicate → υ
open List renaming length_map → aUN, range → aUO, getElem_mem → aUQ, replicate → aUR, length_append → aUS, length_singleton → aUX, getD_eq_getElem?_getD → aUY, getElem?_eq_getElem → aVB, mem_cons → aVC, all_eq_true → aVD, take_of_length_le → aVI, length_take → aVJ, not_mem_nil → aVK, mem_range → aVM, getElem?_map → aVN, take_length → aVP, mem_map → aVQ, append_assoc → aVS, map_append → aVT, getElem?_eq_some_iff → aVW, getElem_of_mem → aVX, drop_zero → aVY, map_cons → aVZ, getElem_map → aWD, append_nil → aWF, getElem?_eq_none → aWG, length_cons → aWH, mem_append → aWI, drop_eq_getElem_cons → aWM, take_succ_eq_append_getElem → aWN, range' → aWP, length_drop → aWR, map_nil → aWS, Sublist → aWT, length_set → aWU, mem_singleton → aWV, length_nil → aXD, ext_getElem → aXE, getElem?_append_right → aXF, take_append_drop → aXG, getElem?_append_left → aXI, nodup_append → aXJ, mem_of_getElem? → aXL, set_append_right → aXO, range_succ → aXV, take_zero → aXW, countP_cons → aXZ, getElem?_take → aYA, set_cons_zero → aYB, countP_append → aYH, drop_of_length_le → aYI, map_congr_left → aYJ, getElem_append_right → aYL, getElem_append_left → aYM
open Nat renaming gcd → aUP, zero_le → aUT, le_refl → aUU, mul_add → aVF, zero_add → aVH, lt_or_ge → aVL, mul_assoc → aVO, mul_comm → aVR, add_mul → aVU, mul_le_mul_right → aVV, mod_eq_of_lt → aWA, le_trans → aWE, mod_lt → aWJ, pow_succ → aWL, min_eq_left → aWW, add_assoc → aWX, add_zero → aWY, eq_zero_or_pos → aWZ, mul_le_mul_left → aXA, pos_of_ne_zero → aXB, pow_pos → aXK, div_le_self → aXM, div_lt_iff_lt_mul → aXP, sub_self → aXQ, succ_mul → aXR, mul_le_mul → aXX, div_add_mod → aYC, div_eq_of_lt → aYD, pow_le_pow_right → aYK
open Bool renaming false_and → aUV, not_true → aUW, true_and → aVA, and_eq_true → aVE, not_false → aVG, and_false → aWB, and_true → aWQ, and_assoc → aXN, false_eq_true → aXU
open Option renaming map_eq_some_iff → aUZ, map_some → aWC, some → aXC, getD_some → aXH, bind_eq_some_iff → aYE, bind_some → aYF
open Int renaming toNat_natCast → aWK
open Array renaming replicate → aWO, length_toList → aXS, getElem?_eq_some_iff → aXT, getElem?_eq_getElem → aXY, getD_eq_getD_getElem? → aYG
namespace Go.Proofs.YtnagfjehjbbckaaGreatDoor
open Go Go.PM
theorem q:bK C 239 PM.mu:=bN (T aqG) Tryz.func5
theorem aJZ:bF C:={
 r0:=bN (T apW) Tryz.func22,
 r1:=bN (T ayR) Tryz.func87,
 r2:=bN (T aGM) Tryz.func51,
 r3:=bN (T akE) Tryz.func23,
 r4:=bN (T azD) Tryz.func50,
 r5:=bN (T aGT) Tryz.func54,
 r6:=bN (T azG) Tryz.func24,
 r7:=bN (T ayS) Tryz.func53,
 r27:=bN (T apU) Tryz.func6,
 r28:=bN (T aGQ) Tryz.func21,
 r29:=bN (T azA) Tryz.func52,
 r30:=bN (T aIE) Tryz.func83,
 r31:=bN (T aBN) Tryz.func132,
 r32:=bN (T aIG) Tryz.func85,
 r33:=bN (T aII) Tryz.func62,
 r34:=bN (T aIK) Tryz.func61,
 r35:=bN (T aBV) Tryz.func30,
 r36:=bN (T aIM) Tryz.func119,
 r37:=bN (T aIQ) Tryz.func86,
 r38:=bN (T aCH) Tryz.func48,
 r39:=bN (T alZ) Tryz.func101,
 r40:=bN (T aBS) Tryz.func135,
 r41:=bN (T asX) Tryz.func100,
 r42:=bN (T asZ) Tryz.func122,
 r43:=bN (T aCD) Tryz.func120,
 r44:=bN (T atE) Tryz.func134,
 r45:=bN (T aLJ) Tryz.func133,
 r46:=bN (T aIS) Tryz.func46,
 r47:=bN (T aIT) Tryz.func8,
 r48:=bN (T atV) Tryz.func121,
 r49:=bN (T aCO) Tryz.func19,
 r50:=bN (T aCQ) Tryz.func9,
 r51:=bN (T atX) Tryz.func49,
 r52:=bN (T amT) Tryz.func80,
 r53:=bN (T aCT) Tryz.func20,
 r54:=bN (T aCV) Tryz.func93,
 r55:=bN (T aIW) Tryz.func127,
 r56:=bN (T auB) Tryz.func18,
 r57:=bN (T aCK) Tryz.func84,
 r58:=bN (T amR) Tryz.func29,
 r59:=bN (T aCX) Tryz.func31,
 r60:=bN (T atZ) Tryz.func82,
 r61:=bN (T aAQ) Tryz.func128,
 r62:=bN (T anA) Tryz.func124,
 r63:=bN (T auD) Tryz.func167,
 r64:=bN (T amY) Tryz.func150,
 r65:=bN (T anC) Tryz.func149,
 r66:=bN (T aJE) Tryz.func129,
 r67:=bN (T auW) Tryz.func57,
 r68:=bN (T aJC) Tryz.func92,
 r69:=bN (T aJA) Tryz.func96,
 r70:=bN (T auL) Tryz.func91,
 r71:=bN (T auN) Tryz.func125,
 r72:=bN (T Xl) Tryz.func95,
 r73:=bN (T auQ) Tryz.func90,
 r74:=bN (T auS) Tryz.func94,
 r75:=bN (T anH) Tryz.func126,
 r76:=bN (T anJ) Tryz.func89,
 r82:=bN (T aAT) Tryz.func55,
 r84:=bN (T asE) Tryz.func26,
 r88:=bN (T arV) Tryz.func147,
 r94:=bN (T awK) Tryz.func12,
 r95:=bN (T aFL) Tryz.func104,
 r96:=bN (T aFW) Tryz.func63,
 r97:=bN (T apD) Tryz.func137,
 r98:=bN (T axC) Tryz.func151,
 r99:=bN (T axE) Tryz.func138,
 r100:=bN (T axG) Tryz.func153,
 r101:=bN (T aFR) Tryz.func156,
 r102:=bN (T axJ) Tryz.func140,
 r103:=bN (T apF) Tryz.func152,
 r104:=bN (T aKG) Tryz.func102,
 r105:=bN (T aFN) Tryz.func136,
 r106:=bN (T aFP) Tryz.func141,
 r107:=bN (T axO) Tryz.func154,
 r108:=bN (T axR) Tryz.func142,
 r109:=bN (T apI) Tryz.func155,
 r110:=bN (T axU) Tryz.func106,
 r111:=bN (T aFJ) Tryz.func103,
 r112:=bN (T aFT) Tryz.func105,
 r113:=bN (T aEZ) Tryz.func71,
 r114:=bN (T aFB) Tryz.func38,
 r115:=bN (T awY) Tryz.func35,
 r116:=bN (T aiO) Tryz.func67,
 r117:=bN (T aFH) Tryz.func139,
 r118:=bN (T apB) Tryz.func73,
 r119:=bN (T aEX) Tryz.func70,
 r120:=bN (T aiM) Tryz.func69,
 r121:=bN (T aoZ) Tryz.func75,
 r122:=bN (T axA) Tryz.func76,
 r123:=bN (T ayJ) Tryz.func143,
 r124:=bN (T apN) Tryz.func168,
 r125:=bN (T apR) Tryz.func158,
 r126:=bN (T ajV) Tryz.func157,
 r127:=bN (T aGW) Tryz.func113,
 r128:=bN (T azK) Tryz.func68,
 r129:=bN (T aGZ) Tryz.func74,
 r130:=bN (T aHB) Tryz.func110,
 r131:=bN (T aHE) Tryz.func109,
 r132:=bN (T azQ) Tryz.func112,
 r133:=bN (T aHG) Tryz.func115,
 r134:=bN (T aHI) Tryz.func114,
 r135:=bN (T azV) Tryz.func111,
 r136:=bN (T akP) Tryz.func145,
 r137:=bN (T aqJ) Tryz.func144,
 r138:=bN (T akU) Tryz.func108,
 r139:=bN (T Wz) Tryz.func162,
 r140:=bN (T aqM) Tryz.func159,
 r141:=bN (T aqO) Tryz.func146,
 r142:=bN (T Qz) Tryz.func161,
 r143:=bN (T aKQ) Tryz.func160,
 r150:=bN (T asK) Tryz.func28,
 r152:=bN (T aBE) Tryz.func25,
 r154:=bN (T aBI) Tryz.func60,
 r156:=bN (T aAZ) Tryz.func130,
 r157:=bN (T asM) Tryz.func99,
 r158:=bN (T aBK) Tryz.func98,
 r159:=bN (T asT) Tryz.func131,
 r160:=bN (T asP) Tryz.func97,
 r161:=bN (T asR) Tryz.func56,
 r201:=bN (T aEI) Tryz.func59,
 r202:=bN (T aEM) Tryz.func58,
 r203:=bN (T aoC) Tryz.func45,
 r204:=bN (T anX) Tryz.func27,
 r205:=bN (T anZ) Tryz.func15,
 r206:=bN (T aoH) Tryz.func64,
 r207:=bN (T ahN) Tryz.func65,
 r208:=bN (T avO) Tryz.func36,
 r209:=bN (T ahR) Tryz.func16,
 r210:=bN (T avY) Tryz.func66,
 r211:=bN (T aoK) Tryz.func107,
 r212:=bN (T awR) Tryz.func44,
 r222:=bN (T aqB) Tryz.func14,
 r229:=⟨aDT Tryz.f34.body,aDU Tryz.f34.body,aDV (T avW) Tryz.func34 (by kernel_rfl)⟩,
 r230:=⟨aDT Tryz.f32.body,aDU Tryz.f32.body,aDV (T avU) Tryz.func32 (by kernel_rfl)⟩ }
end Go.Proofs.YtnagfjehjbbckaaGreatDoor
namespace Go.Proofs.YtnagfjehjbbckaaGreatDoor
open Go Go.PM Go.RowKit Go.ChangeShapes Go.WideShapes
def argKinds:List AT:=[.one (.sl [.int .u8])]
theorem aEC:HF Tryz.prog 8 Tryz.f5.params.toList=some argKinds:=by kernel_rfl
theorem aGG (c:List PV) (h:AT.TyL argKinds c):aH C 239 c .nil (aI (.bool true)):=by
 match c,h with
 | [p],h =>
  obtain⟨d,-⟩:=h;cases d with | one d =>
  obtain⟨l,rfl,e,i⟩:=anU d;exact auJ aJZ itoa q l e i
theorem J1 (os:Os) (args:Array Value):laidMetH Tryz.prog Rows.copysetHoldsRow.laid ((World.doorLaid Tryz.prog 400 os).forCall (fun _ _=>0) ⟨#[],args,[]⟩).memory :=
 laidMetH_of_parts3 (fuel:=8) (laidMet_of_run' 8 (by kernel_rfl) (by kernel_rfl)) (by kernel_rfl) (by kernel_rfl)
set_option maxRecDepth 100000 in
theorem ajT (os:Os) (c:os.Started) (H:Type) (enc:TypeId × Value→H) :
  ReturnsInHanded {} Tryz.checked os 5 .any (fun w args=>(Rows.copysetHoldsSpec.pre enc Tryz.prog Tryz.f5 [] false w args∧laidMetH Tryz.prog Rows.copysetHoldsRow.laid w)∧sizedMet enc Tryz.prog Tryz.f5 (OpenSpec.ofChange Rows.copysetHoldsSpec) false w args)
   (Rows.copysetHoldsSpec.post enc Tryz.prog Tryz.f5 false true false false):=by
 refine returnsInHanded_of_change_and (C:=Tryz.checked) (X:=fun w _=>laidMetH Tryz.prog Rows.copysetHoldsRow.laid w) (fun _ _ _ l h=>h.of_heap l) Tryz.own c (by kernel_rfl) Tryz.func5
  (ChangeSpec.witness_shaped (enc:=enc) (C:=Tryz.checked) (os:=os) (X:=fun w _=>laidMetH Tryz.prog Rows.copysetHoldsRow.laid w) false (World.doorLaid Tryz.prog 400 os) #[.slice none 0 0] 8 rfl (World.shaped_of_RefB (by kernel_rfl) (by kernel_rfl)) (by kernel_rfl) (by kernel_rfl) (by kernel_rfl) (J1 os _)) ?_
 intro W base args ds u e d hW _ _ _ _;exact Iz (P:=Tryz.prog) (num:=num) (name:=239) (n:=8) (ats:=argKinds) (bt:=4) Tryz.laidOut (by kernel_rfl) (by kernel_rfl) (by kernel_rfl) rfl
  (fun ds i=>by
   match ds,i with
   | [p],_=>exact⟨rfl,rfl,rfl⟩)
  (by kernel_rfl) aEC aGG d hW
theorem XB:Rows.CopysetHoldsSaid :=
 OpenClaim.holds_of_wide 5 Tryz.f5 rfl rfl rfl rfl rfl rfl rfl ⟨rfl,rfl,rfl,rfl,rfl⟩ rfl rfl rfl rfl rfl (by kernel_rfl) Tryz.func5 (by kernel_rfl)
  (of_decide_eq_true (by kernel_rfl)) (by unfold Func.isWrapper; first | (rw[if_pos (by decide +kernel)]; kernel_rfl) | (rw[if_neg (by decide +kernel)]; exact⟨rfl,rfl⟩))
  (fun os c H enc _=>ajT os c H enc)
theorem copysetHolds_card:Rows.CopysetHoldsCardSaid :=
 Claim7.holds_tied_plain_at .later [] [.data,.data,.data] true (true,"c847c1ff7fce4549af16ae78c93f2bb3124acbe7246b27670d5e773cd9b7e619") false
  XB (fun _ h=>by cases h) (by kernel_rfl) (fun _ h=>by cases h) copysetHolds_row_tie rfl ⟨rfl,rfl⟩ (by kernel_rfl) rfl
  (fun f fn e d=>by
   obtain rfl:f=5:=aXC.inj ((show Tryz.prog.funcNamed Rows.copysetHoldsRow.func=some 5 by kernel_rfl).symm.trans e) |>.symm
   obtain rfl:fn=Tryz.f5:=(aXC.inj (Tryz.func5.symm.trans d)).symm;exact⟨by kernel_rfl,fun j t l=>by
    have i:t∈Tryz.f5.params.toList:=by rw[Array.mem_toList_iff];exact Array.mem_of_getElem? l
    have c:(Tryz.f5.params.toList.all fun u=>!Tryz.prog.wantsStandIn u)=true:=by kernel_rfl
    exact (show Tryz.prog.wantsStandIn t=false by simpa using aVD.1 c t i)⟩)
  (by kernel_rfl)
#print axioms copysetHolds_card
end Go.Proofs.YtnagfjehjbbckaaGreatDoor
