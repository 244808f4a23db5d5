/-
  The law of the claim returns true at every input, and its argument reads as it did: the tied card. No condition.
-/
import Derived.Test.YtnagfjehjbbckaaGreatDoorLe1
import Derived.Test.YtnagfjehjbbckaaGreatDoorLe2
import Derived.Test.YtnagfjehjbbckaaGreatDoorLe3
import Derived.Test.YtnagfjehjbbckaaGreatDoorLe4
import Derived.Test.YtnagfjehjbbckaaGreatDoorLe5
import Derived.Test.YtnagfjehjbbckaaGreatDoorLe6
import Derived.Test.YtnagfjehjbbckaaGreatDoorTie
import Derived.Test.YtnagfjehjbbckaaGreatDoorCards
set_option linter.unusedSimpArgs false
set_option linter.unusedVariables false
open Nat renaming reduceEqDiff → γ, reduceAdd → δ, reduceSub → ε, reduceMul → ζ, reduceLT → η, reduceLeDiff → θ, reduceBEq → τ
open Int renaming reduceLT → ι, reduceLE → κ, reduceEq → μ, reduceToNat → ν, reduceAdd → ξ, reduceNeg → ο, reduceBEq → ρ, reduceBNe → σ
open List renaming reduceReplicate → υ
open List renaming length_map → a1K, replicate → a1M, getElem_mem → a1N, length_append → a1P, mem_cons → a1R, range → a1S, length_singleton → a1T, getElem?_eq_getElem → a1V, length_take → a2A, not_mem_nil → a2B, take_of_length_le → a2C, all_eq_true → a2F, mem_map → a2G, getElem?_map → a2K, getD_eq_getElem?_getD → a2L, map_append → a2N, take_length → a2O, getElem?_eq_some_iff → a2P, drop_zero → a2S, append_assoc → a2T, map_cons → a2Y, getElem?_eq_none → a2Z, mem_append → a3A, mem_range → a3B, getElem_of_mem → a3D, length_cons → a3E, range' → a3H, take_succ_eq_append_getElem → a3I, append_nil → a3J, drop_eq_getElem_cons → a3K, getElem_map → a3L, length_drop → a3M, Sublist → a3N, mem_singleton → a3O, map_nil → a3Q, mem_of_getElem? → a3R, length_set → a3U, getElem?_append_left → a3Y, length_nil → a3Z, nodup_append → a4C, getElem?_append_right → a4E, take_append_drop → a4H, ext_getElem → a4O, set_append_right → a4P, set_cons_zero → a4R, getElem?_take → a4U, map_congr_left → a4V, drop_of_length_le → a5C, getElem_append_right → a5D
open Nat renaming gcd → a1L, le_refl → a1O, mul_add → a1U, zero_le → a1X, lt_or_ge → a2D, mul_assoc → a2E, zero_add → a2H, mul_comm → a2M, mul_le_mul_right → a2Q, add_mul → a2R, mod_eq_of_lt → a2U, le_trans → a2X, mod_lt → a3C, pow_succ → a3F, add_zero → a3S, add_assoc → a3V, min_eq_left → a3W, mul_le_mul_left → a3X, pos_of_ne_zero → a4A, eq_zero_or_pos → a4D, pow_pos → a4F, div_le_self → a4I, succ_mul → a4J, div_lt_iff_lt_mul → a4L, mul_le_mul → a4S, div_add_mod → a4W, div_eq_of_lt → a4X, pow_le_pow_right → a4Y
open Option renaming map_eq_some_iff → a1Q, map_some → a2V, some → a3T, getD_some → a4G, bind_eq_some_iff → a4Z, bind_some → a5A
open Bool renaming not_true → a1W, false_and → a1Y, and_eq_true → a1Z, not_false → a2I, true_and → a2J, and_false → a2W, and_true → a4B, false_eq_true → a4K, and_self → a4N
open Array renaming replicate → a3G, length_toList → a4M, getElem?_eq_some_iff → a4Q, getElem?_eq_getElem → a4T, getD_eq_getD_getElem? → a5B
open Int renaming toNat_natCast → a3P
namespace Go.Proofs.YtnagfjehjbbckaaGreatDoor
open Go Go.PM
theorem q:aO C 238 PM.fx:=bM (T alC) Tryz.func4
theorem aOJ:bG C:={
 r0:=bM (T akQ) Tryz.func22,
 r1:=bM (T ayI) Tryz.func87,
 r2:=bM (T aIT) Tryz.func51,
 r4:=bM (T ayN) Tryz.func50,
 r5:=bM (T aIX) Tryz.func54,
 r7:=bM (T ayJ) Tryz.func53,
 r27:=bM (T akN) Tryz.func6,
 r28:=bM (T aIV) Tryz.func21,
 r29:=bM (T ayM) Tryz.func52,
 r30:=bM (T aLO) Tryz.func83,
 r31:=bM (T aDN) Tryz.func132,
 r32:=bM (T aLP) Tryz.func85,
 r33:=bM (T aLQ) Tryz.func62,
 r34:=bM (T aLR) Tryz.func61,
 r35:=bM (T aDR) Tryz.func30,
 r36:=bM (T aLS) Tryz.func119,
 r37:=bM (T aLV) Tryz.func86,
 r38:=bM (T aDZ) Tryz.func48,
 r39:=bM (T adY) Tryz.func101,
 r40:=bM (T aDQ) Tryz.func135,
 r41:=bM (T asO) Tryz.func100,
 r42:=bM (T asP) Tryz.func122,
 r43:=bM (T aDX) Tryz.func120,
 r44:=bM (T asT) Tryz.func134,
 r45:=bM (T aRD) Tryz.func133,
 r46:=bM (T aLW) Tryz.func46,
 r47:=bM (T aLX) Tryz.func8,
 r48:=bM (T atH) Tryz.func121,
 r49:=bM (T aED) Tryz.func19,
 r50:=bM (T aEE) Tryz.func9,
 r51:=bM (T atI) Tryz.func49,
 r52:=bM (T aeL) Tryz.func80,
 r53:=bM (T aEG) Tryz.func20,
 r54:=bM (T aEH) Tryz.func93,
 r55:=bM (T aMN) Tryz.func127,
 r56:=bM (T atL) Tryz.func18,
 r57:=bM (T aEB) Tryz.func84,
 r58:=bM (T aeK) Tryz.func29,
 r59:=bM (T aEI) Tryz.func31,
 r60:=bM (T atK) Tryz.func82,
 r94:=bM (T awO) Tryz.func12,
 r95:=bM (T aHQ) Tryz.func104,
 r96:=bM (T aHW) Tryz.func63,
 r97:=bM (T ajF) Tryz.func137,
 r98:=bM (T axA) Tryz.func151,
 r99:=bM (T axB) Tryz.func138,
 r100:=bM (T axC) Tryz.func153,
 r101:=bM (T aHT) Tryz.func156,
 r102:=bM (T axE) Tryz.func140,
 r103:=bM (T ajG) Tryz.func152,
 r104:=bM (T aON) Tryz.func102,
 r105:=bM (T aHR) Tryz.func136,
 r106:=bM (T aHS) Tryz.func141,
 r107:=bM (T axF) Tryz.func154,
 r108:=bM (T axG) Tryz.func142,
 r109:=bM (T ajJ) Tryz.func155,
 r110:=bM (T axI) Tryz.func106,
 r111:=bM (T aHP) Tryz.func103,
 r112:=bM (T aHU) Tryz.func105,
 r113:=bM (T aHG) Tryz.func71,
 r114:=bM (T aHH) Tryz.func38,
 r115:=bM (T awX) Tryz.func35,
 r116:=bM (T Yu) Tryz.func67,
 r117:=bM (T aHO) Tryz.func139,
 r118:=bM (T ajE) Tryz.func73,
 r119:=bM (T aHF) Tryz.func70,
 r120:=bM (T Ys) Tryz.func69,
 r121:=bM (T ajD) Tryz.func75,
 r122:=bM (T awZ) Tryz.func76,
 r123:=bM (T ayB) Tryz.func143,
 r124:=bM (T ajU) Tryz.func168,
 r125:=bM (T akG) Tryz.func158,
 r126:=bM (T Zk) Tryz.func157,
 r127:=bM (T aIY) Tryz.func113,
 r128:=bM (T ayZ) Tryz.func68,
 r129:=bM (T aJA) Tryz.func74,
 r130:=bM (T aJB) Tryz.func110,
 r131:=bM (T aJE) Tryz.func109,
 r132:=bM (T azB) Tryz.func112,
 r133:=bM (T aJF) Tryz.func115,
 r134:=bM (T aJG) Tryz.func114,
 r135:=bM (T azD) Tryz.func111,
 r136:=bM (T aaF) Tryz.func145,
 r137:=bM (T alA) Tryz.func144,
 r138:=bM (T aaM) Tryz.func108,
 r139:=bM (T Nx) Tryz.func162,
 r140:=bM (T alE) Tryz.func159,
 r141:=bM (T alF) Tryz.func146,
 r142:=bM (T I2) Tryz.func161,
 r143:=bM (T aPP) Tryz.func160,
 r201:=bM (T aGP) Tryz.func59,
 r202:=bM (T aGT) Tryz.func58,
 r203:=bM (T ahZ) Tryz.func45,
 r204:=bM (T ahU) Tryz.func27,
 r205:=bM (T ahW) Tryz.func15,
 r206:=bM (T aiG) Tryz.func64,
 r207:=bM (T X3) Tryz.func65,
 r208:=bM (T avU) Tryz.func36,
 r209:=bM (T X7) Tryz.func16,
 r210:=bM (T awF) Tryz.func66,
 r211:=bM (T aiJ) Tryz.func107,
 r212:=bM (T awV) Tryz.func44,
 r222:=bM (T akV) Tryz.func14,
 r223:=bM (T akY) Tryz.func7,
 r231:=bM (T aiD) Tryz.func10,
 r232:=bM (T Yc) Tryz.func33,
 r278:=bM (T aHN) Tryz.func37,
 r279:=bM (T ajB) Tryz.func72,
 r280:=bM (T aMC) Tryz.func17,
 r281:=bM (T aMA) Tryz.func47,
 r229:=⟨aFW Tryz.f34.body,aFX Tryz.f34.body,aFY (T awD) Tryz.func34 (by kernel_rfl)⟩,
 r230:=⟨aFW Tryz.f32.body,aFX Tryz.f32.body,aFY (T awB) Tryz.func32 (by kernel_rfl)⟩ }
end Go.Proofs.YtnagfjehjbbckaaGreatDoor
namespace Go.Proofs.YtnagfjehjbbckaaGreatDoor
open Go Go.PM Go.RowKit Go.ChangeShapes Go.WideShapes
def argKinds:List AT:=[.one (.sl [.int .u8]),.one (.int .u8),.one (.int .u8),.one (.int .u8),.one (.sl [.int .i8])]
theorem aGJ:CP Tryz.prog 8 Tryz.f4.params.toList=some argKinds:=by kernel_rfl
theorem aII (c:List PV) (h:AT.TyL argKinds c):aF C 238 c .nil (aH (.bool true)):=by
 match c,h with
 | [J,K,M,N,O],h =>
  obtain⟨d,e,i,l,p,-⟩:=h;cases d with | one d =>
  obtain⟨A,rfl,u,y⟩:=ahR d;cases e with | one e =>
  obtain⟨B,rfl,b1⟩:=J7 e;cases i with | one i =>
  obtain⟨E,rfl,b2⟩:=J7 i;cases l with | one l =>
  obtain⟨F,rfl,w⟩:=J7 l;cases p with | one p =>
  obtain⟨H,rfl,x⟩:=aOO p;exact atS aOJ itoa q A u y B E F b1 b2 w H x
theorem Ce (os:Os) (args:Array Value):laidMetH Tryz.prog Rows.copysetLeastRow.laid ((World.doorLaid Tryz.prog 400 os).forCall (fun _ _=>0) ⟨#[],args,[]⟩).memory :=
 laidMetH_of_parts3 (fuel:=8) (laidMet_of_run' 8 (by kernel_rfl) (by kernel_rfl)) (by kernel_rfl) (by kernel_rfl)
set_option maxRecDepth 100000 in
theorem Zj (os:Os) (c:os.Started) (H:Type) (enc:TypeId × Value→H) :
  ReturnsInHanded {} Tryz.checked os 4 .any (fun w args=>(Rows.copysetLeastSpec.pre enc Tryz.prog Tryz.f4 [] false w args∧laidMetH Tryz.prog Rows.copysetLeastRow.laid w)∧sizedMet enc Tryz.prog Tryz.f4 (OpenSpec.ofChange Rows.copysetLeastSpec) false w args)
   (Rows.copysetLeastSpec.post enc Tryz.prog Tryz.f4 false true false false):=by
 refine returnsInHanded_of_change_and (C:=Tryz.checked) (X:=fun w _=>laidMetH Tryz.prog Rows.copysetLeastRow.laid w) (fun _ _ _ p h=>h.of_heap p) Tryz.own c (by kernel_rfl) Tryz.func4
  (ChangeSpec.witness_shaped (enc:=enc) (C:=Tryz.checked) (os:=os) (X:=fun w _=>laidMetH Tryz.prog Rows.copysetLeastRow.laid w) false (World.doorLaid Tryz.prog 400 os) #[.slice none 0 0,.int .u8 0,.int .u8 0,.int .u8 0,.slice none 0 0] 8 rfl (World.shaped_of_RefB (by kernel_rfl) (by kernel_rfl)) (by kernel_rfl) (by kernel_rfl) (by kernel_rfl) (Ce os _)) ?_
 intro W i args ds E e d hW _ _ _ _;exact A7 (P:=Tryz.prog) (num:=num) (name:=238) (n:=8) (ats:=argKinds) (bt:=4) Tryz.laidOut (by kernel_rfl) (by kernel_rfl) (by kernel_rfl) rfl
  (fun ds l=>by
   match ds,l with
   | [u,x,y,A,B],_=>exact⟨rfl,rfl,rfl⟩)
  (by kernel_rfl) aGJ aII d hW
theorem RJ:Rows.CopysetLeastSaid :=
 OpenClaim.holds_of_wide 4 Tryz.f4 rfl rfl rfl rfl rfl rfl rfl ⟨rfl,rfl,rfl,rfl,rfl⟩ rfl rfl rfl rfl rfl (by kernel_rfl) Tryz.func4 (by kernel_rfl)
  (of_decide_eq_true (by kernel_rfl)) (by unfold Func.isWrapper; first | (rw[if_pos (by decide +kernel)]; kernel_rfl) | (rw[if_neg (by decide +kernel)]; exact⟨rfl,rfl⟩))
  (fun os c H enc _=>Zj os c H enc)
theorem copysetLeast_card:Rows.CopysetLeastCardSaid :=
 Claim7.holds_tied_plain_at .later [] [.data,.data,.data] true (true,"c847c1ff7fce4549af16ae78c93f2bb3124acbe7246b27670d5e773cd9b7e619") false
  RJ (fun _ h=>by cases h) (by kernel_rfl) (fun _ h=>by cases h) copysetLeast_row_tie rfl ⟨rfl,rfl⟩ (by kernel_rfl) rfl
  (fun f fn e d=>by
   obtain rfl:f=4:=a3T.inj ((show Tryz.prog.funcNamed Rows.copysetLeastRow.func=some 4 by kernel_rfl).symm.trans e) |>.symm
   obtain rfl:fn=Tryz.f4:=(a3T.inj (Tryz.func4.symm.trans d)).symm;exact⟨by kernel_rfl,fun j t l=>by
    have i:t∈Tryz.f4.params.toList:=by rw[Array.mem_toList_iff];exact Array.mem_of_getElem? l
    have c:(Tryz.f4.params.toList.all fun u=>!Tryz.prog.wantsStandIn u)=true:=by kernel_rfl
    exact (show Tryz.prog.wantsStandIn t=false by simpa using a2F.1 c t i)⟩)
  (by kernel_rfl)
#print axioms copysetLeast_card
end Go.Proofs.YtnagfjehjbbckaaGreatDoor
