/-
  The law of the claim returns true at every input, and its argument reads as it did: the tied card. No condition.
-/
import Derived.Test.YtgfeljaimmnmmaaGreatDoorSc1
import Derived.Test.YtgfeljaimmnmmaaGreatDoorSc2
import Derived.Test.YtgfeljaimmnmmaaGreatDoorSc3
import Derived.Test.YtgfeljaimmnmmaaGreatDoorSc4
import Derived.Test.YtgfeljaimmnmmaaGreatDoorSc5
import Derived.Test.YtgfeljaimmnmmaaGreatDoorSc6
import Derived.Test.YtgfeljaimmnmmaaGreatDoorProg
import Derived.KernelRfl
import Derived.Test.YtgfeljaimmnmmaaGreatDoorRows
import Derived.ProofKit
import Derived.WalkKit
import Derived.LaidMore
import Derived.OpenShut
import Derived.Stop.Joined
import Derived.Test.YtgfeljaimmnmmaaGreatDoorTie
import Derived.Test.YtgfeljaimmnmmaaGreatDoorCards
set_option linter.unusedSimpArgs false
set_option linter.unusedVariables false
open Nat renaming reduceEqDiff → γ, reduceAdd → δ, reduceSub → ε, reduceMul → ζ, reduceLT → η, reduceLeDiff → θ, reduceBEq → τ
open Int renaming reduceLT → ι, reduceLE → κ, reduceEq → μ, reduceToNat → ν, reduceAdd → ξ, reduceNeg → ο, reduceBEq → ρ, reduceBNe → σ
open List renaming reduceReplicate → υ
open List renaming length_map → a7G, range → a7H, getElem_mem → a7J, replicate → a7K, length_append → a7O, length_singleton → a7S, mem_cons → a7T, getElem?_eq_getElem → a7U, all_eq_true → a7W, getD_eq_getElem?_getD → a7Z, length_take → a8A, not_mem_nil → a8B, take_of_length_le → a8C, getElem?_map → a8F, map_append → a8G, take_length → a8I, mem_map → a8J, mem_range → a8K, getElem?_eq_some_iff → a8P, append_assoc → a8Q, drop_zero → a8R, getElem_of_mem → a8S, map_cons → a8U, getElem?_eq_none → a8X, length_cons → a8Y, getElem_map → a9B, mem_append → a9C, take_succ_eq_append_getElem → a9E, append_nil → a9G, drop_eq_getElem_cons → a9H, range' → a9I, length_drop → a9J, Sublist → a9K, length_set → a9L, map_nil → a9P, length_nil → a9W, mem_singleton → a9X, getElem?_append_right → a9Y, getElem?_append_left → a9Z, nodup_append → baA, mem_of_getElem? → baC, set_append_right → baD, take_append_drop → baE, ext_getElem → baO, range_succ → baS, getElem?_take → baU, drop_of_length_le → bbA, map_congr_left → bbB, set_cons_zero → bbC, getElem_append_right → bbD
open Nat renaming gcd → a7I, le_refl → a7M, zero_le → a7N, mul_add → a7V, lt_or_ge → a8D, zero_add → a8E, mul_assoc → a8H, mul_comm → a8L, add_mul → a8M, mul_le_mul_right → a8N, mod_eq_of_lt → a8T, le_trans → a8V, mod_lt → a8Z, pow_succ → a9D, add_zero → a9M, eq_zero_or_pos → a9Q, add_assoc → a9R, min_eq_left → a9S, mul_le_mul_left → a9T, pos_of_ne_zero → a9U, pow_pos → baB, div_le_self → baF, sub_self → baG, div_lt_iff_lt_mul → baK, pow_le_pow_right → baL, succ_mul → baM, mul_le_mul → baP, div_add_mod → baV, div_eq_of_lt → baW
open Bool renaming not_true → a7L, false_and → a7P, true_and → a7R, and_eq_true → a7X, not_false → a7Y, and_false → a8O, and_true → a9N, and_assoc → baI, and_self → baJ, false_eq_true → baR
open Option renaming map_eq_some_iff → a7Q, map_some → a8W, some → a9V, getD_some → baH, bind_eq_some_iff → baX, bind_some → baY
open Int renaming toNat_natCast → a9A, tdiv → a9O
open Array renaming replicate → a9F, length_toList → baN, getElem?_eq_some_iff → baQ, getElem?_eq_getElem → baT, getD_eq_getD_getElem? → baZ
namespace Go.Proofs.YtgfeljaimmnmmaaGreatDoor
open Go Go.PM
def aVZ:List Nat:=[21,63,39,0,38,43,0,42,0,0,0,0,0,0,0,0,0,0,0,0,0,0,0,0,0,0,0,9,20,40,120,136,97,92,91,66,123,122,73,118,140,117,139,141,138,137,95,41,142,78,44,74,75,72,50,71,49,121,65,67,96,76,68,119,94,93,77,24,48,53,47,69,52,46,51,70,45,54,0,0,55,62,0,0,0,0,0,0,79,0,0,0,0,0,27,58,30,81,108,82,110,113,86,109,56,80,87,111,88,112,60,57,59,101,85,84,98,83,104,103,102,106,107,89,131,115,114,125,99,105,128,127,100,130,126,129,145,143,124,154,151,144,153,152,0,0,0,0,0,0,0,0,0,0,0,0,0,0,0,0,0,0,116,90,148,134,135,149,146,133,132,0,0,0,0,0,0,0,0,0,0,0,0,0,0,0,0,0,0,0,0,0,0,0,0,64,0,0,0,0,0,29,28,22,13,10,31,32,36,17,33,61,12,26,14,25,11,34,35,16,37,18,8,19,3,4,5,6,7,23,15,0,0,0,0,0,0,0,0,0,0,0,0,0,0,0,0,0,0,0,0,0,0,0,0,0,0,0,0,0,0,0,0,0,0,0,0,0,0,0,0,0,0,0,0,0,0,0,0,0,0,0]
def aQQ:List (Option Nat):=[none,none,none,some 224,some 225,some 226,some 227,some 228,some 222,some 27,some 205,some 216,some 212,some 204,some 214,some 230,some 219,some 209,some 221,some 223,some 28,some 0,some 203,some 229,some 67,some 215,some 213,some 94,some 202,some 201,some 96,some 206,some 207,some 210,some 217,some 218,some 208,some 220,some 4,some 2,some 29,some 47,some 7,some 5,some 50,some 76,some 73,some 70,some 68,some 56,some 54,some 74,some 72,some 69,some 77,some 80,some 104,some 111,some 95,some 112,some 110,some 211,some 81,some 1,some 195,some 58,some 35,some 59,some 62,some 71,some 75,some 55,some 53,some 38,some 51,some 52,some 61,some 66,some 49,some 88,some 105,some 97,some 99,some 117,some 115,some 114,some 102,some 106,some 108,some 123,some 163,some 34,some 33,some 65,some 64,some 46,some 60,some 32,some 116,some 128,some 132,some 113,some 120,some 119,some 118,some 129,some 121,some 122,some 98,some 103,some 100,some 107,some 109,some 101,some 126,some 125,some 162,some 41,some 39,some 63,some 30,some 57,some 37,some 36,some 138,some 127,some 134,some 131,some 130,some 135,some 133,some 124,some 170,some 169,some 165,some 166,some 31,some 45,some 44,some 42,some 40,some 43,some 48,some 137,some 141,some 136,some 168,none,some 164,some 167,none,some 140,some 143,some 142,some 139]
def num (n:Nat):FuncId:=aVZ.getD n 0
def nameOf (f:FuncId):Option Nat:=aQQ.getD f none
noncomputable def C:Ctx:=⟨Tryz.prog,num⟩
noncomputable def T (ro:List Nat):Tbl:={ P:=Tryz.prog,num:=num,name:=nameOf,ro:=ro }
def SG:Code→Option (Code × Code)
 | .rangeFunc _ _ a b=>some (a,b)
 | .seq a b=>match SG a with | some x=>some x | none=>SG b
 | .block _ c=>SG c
 | _=>none
def aNU (c:Option Code):Code:=match c with | some c=>((SG c).getD (.skip,.skip)).1 | none=>.skip
def aNV (c:Option Code):Code:=match c with | some c=>((SG c).getD (.skip,.skip)).2 | none=>.skip
theorem bJ (T:Tbl) {k:Nat} {fn:Func} {c:aS} (l:C.P.funcs[C.num k]?=some fn) (e:C.P=T.P:=by rfl) (d:C.num=T.num:=by rfl) (q:(fn.name=="runtime.NumGoroutine")=false:=by kernel_rfl) (i:T.func fn=some c:=by kernel_rfl):aM C k c:=fun _ _ _ p h=>asB e d l q i p h
theorem aNW (T:Tbl) {k:Nat} {fn:Func} {c:yU} (l:C.P.funcs[C.num k]?=some fn) (i:T.akI fn=some c) (e:C.P=T.P:=by rfl) (d:C.num=T.num:=by rfl) (q:(fn.name=="runtime.NumGoroutine")=false:=by kernel_rfl):gb C k c:=fun _ _ _ p h=>ajV e d l q i p h
theorem a3K:aM C 225 PM.Hh:=bJ (T aHP) Tryz.func4
theorem aUX:cI C:={
 r0:=bJ (T atX) Tryz.func21,
 r1:=bJ (T aGV) Tryz.func63,
 r2:=bJ (T aQK) Tryz.func39,
 r4:=bJ (T aHA) Tryz.func38,
 r5:=bJ (T aQO) Tryz.func43,
 r7:=bJ (T aGW) Tryz.func42,
 r27:=bJ (T atW) Tryz.func9,
 r28:=bJ (T aQM) Tryz.func20,
 r29:=bJ (T aGZ) Tryz.func40,
 r30:=bJ (T aTM) Tryz.func120,
 r31:=bJ (T aML) Tryz.func136,
 r32:=bJ (T aTN) Tryz.func97,
 r33:=bJ (T aTO) Tryz.func92,
 r34:=bJ (T aTP) Tryz.func91,
 r35:=bJ (T aMP) Tryz.func66,
 r36:=bJ (T aTQ) Tryz.func123,
 r37:=bJ (T aTT) Tryz.func122,
 r38:=bJ (T aMX) Tryz.func73,
 r39:=bJ (T apU) Tryz.func118,
 r40:=bJ (T aMO) Tryz.func140,
 r41:=bJ (T aBQ) Tryz.func117,
 r42:=bJ (T aBR) Tryz.func139,
 r43:=bJ (T aMV) Tryz.func141,
 r44:=bJ (T aBU) Tryz.func138,
 r45:=bJ (T aXL) Tryz.func137,
 r46:=bJ (T aTU) Tryz.func95,
 r47:=bJ (T aTV) Tryz.func41,
 r48:=bJ (T aCI) Tryz.func142,
 r49:=bJ (T aNB) Tryz.func78,
 r50:=bJ (T aNC) Tryz.func44,
 r51:=bJ (T aCJ) Tryz.func74,
 r52:=bJ (T aqH) Tryz.func75,
 r53:=bJ (T aND) Tryz.func72,
 r54:=bJ (T aNE) Tryz.func50,
 r55:=bJ (T aTX) Tryz.func71,
 r56:=bJ (T aCL) Tryz.func49,
 r57:=bJ (T aMZ) Tryz.func121,
 r58:=bJ (T aqG) Tryz.func65,
 r59:=bJ (T aNF) Tryz.func67,
 r60:=bJ (T aCK) Tryz.func96,
 r61:=bJ (T aIR) Tryz.func76,
 r62:=bJ (T aqK) Tryz.func68,
 r63:=bJ (T aCM) Tryz.func119,
 r64:=bJ (T aqJ) Tryz.func94,
 r65:=bJ (T aqL) Tryz.func93,
 r66:=bJ (T aUB) Tryz.func77,
 r67:=bJ (T aDA) Tryz.func24,
 r68:=bJ (T aUA) Tryz.func48,
 r69:=bJ (T aTZ) Tryz.func53,
 r70:=bJ (T aCS) Tryz.func47,
 r71:=bJ (T aCT) Tryz.func69,
 r72:=bJ (T Xv) Tryz.func52,
 r73:=bJ (T aCV) Tryz.func46,
 r74:=bJ (T aCW) Tryz.func51,
 r75:=bJ (T aqW) Tryz.func70,
 r76:=bJ (T aqX) Tryz.func45,
 r77:=bJ (T W0) Tryz.func54,
 r80:=bJ (T awJ) Tryz.func55,
 r81:=bJ (T anM) Tryz.func62,
 r88:=bJ (T avV) Tryz.func79,
 r94:=bJ (T aEY) Tryz.func27,
 r95:=bJ (T aPK) Tryz.func58,
 r96:=bJ (T aPQ) Tryz.func30,
 r97:=bJ (T asM) Tryz.func81,
 r98:=bJ (T aFJ) Tryz.func108,
 r99:=bJ (T aFK) Tryz.func82,
 r100:=bJ (T aFL) Tryz.func110,
 r101:=bJ (T aPN) Tryz.func113,
 r102:=bJ (T aFN) Tryz.func86,
 r103:=bJ (T asN) Tryz.func109,
 r104:=bJ (T aVC) Tryz.func56,
 r105:=bJ (T aPL) Tryz.func80,
 r106:=bJ (T aPM) Tryz.func87,
 r107:=bJ (T aFO) Tryz.func111,
 r108:=bJ (T aFP) Tryz.func88,
 r109:=bJ (T asQ) Tryz.func112,
 r110:=bJ (T aFR) Tryz.func60,
 r111:=bJ (T aPJ) Tryz.func57,
 r112:=bJ (T aPO) Tryz.func59,
 r113:=bJ (T aPC) Tryz.func101,
 r114:=bJ (T aPD) Tryz.func85,
 r115:=bJ (T aFH) Tryz.func84,
 r116:=bJ (T akG) Tryz.func98,
 r117:=bJ (T aPI) Tryz.func83,
 r118:=bJ (T asL) Tryz.func104,
 r119:=bJ (T aPB) Tryz.func103,
 r120:=bJ (T akE) Tryz.func102,
 r121:=bJ (T asK) Tryz.func106,
 r122:=bJ (T aFI) Tryz.func107,
 r123:=bJ (T aGO) Tryz.func89,
 r124:=bJ (T atB) Tryz.func131,
 r125:=bJ (T atN) Tryz.func115,
 r126:=bJ (T alJ) Tryz.func114,
 r127:=bJ (T aQP) Tryz.func125,
 r128:=bJ (T aHL) Tryz.func99,
 r129:=bJ (T aQR) Tryz.func105,
 r130:=bJ (T aQS) Tryz.func128,
 r131:=bJ (T aQU) Tryz.func127,
 r132:=bJ (T aHM) Tryz.func100,
 r133:=bJ (T aQV) Tryz.func130,
 r134:=bJ (T aQW) Tryz.func126,
 r135:=bJ (T aHQ) Tryz.func129,
 r136:=bJ (T amN) Tryz.func145,
 r137:=bJ (T auH) Tryz.func143,
 r138:=bJ (T amS) Tryz.func124,
 r139:=bJ (T Wp) Tryz.func154,
 r140:=bJ (T auJ) Tryz.func151,
 r141:=bJ (T auK) Tryz.func144,
 r142:=bJ (T Qx) Tryz.func153,
 r143:=bJ (T aWA) Tryz.func152,
 r201:=bJ (T aOK) Tryz.func29,
 r202:=bJ (T aOO) Tryz.func28,
 r203:=bJ (T arN) Tryz.func22,
 r204:=bJ (T arI) Tryz.func13,
 r205:=bJ (T arK) Tryz.func10,
 r206:=bJ (T arS) Tryz.func31,
 r207:=bJ (T ajH) Tryz.func32,
 r208:=bJ (T aEB) Tryz.func36,
 r209:=bJ (T ajL) Tryz.func17,
 r210:=bJ (T aEL) Tryz.func33,
 r211:=bJ (T arV) Tryz.func61,
 r212:=bJ (T aFF) Tryz.func12,
 r213:=bJ (T aRI) Tryz.func26,
 r214:=bJ (T avJ) Tryz.func14,
 r215:=bJ (T anB) Tryz.func25,
 r216:=bJ (T aRK) Tryz.func11,
 r217:=bJ (T avT) Tryz.func34,
 r218:=bJ (T aRO) Tryz.func35,
 r219:=bJ (T aIN) Tryz.func16,
 r220:=bJ (T aIH) Tryz.func37,
 r221:=bJ (T anF) Tryz.func18,
 r222:=bJ (T auC) Tryz.func8,
 r223:=bJ (T auF) Tryz.func19,
 r229:=⟨aNU Tryz.f23.body,aNV Tryz.f23.body,aNW (T aEJ) Tryz.func23 (by kernel_rfl)⟩,
 r230:=⟨aNU Tryz.f15.body,aNV Tryz.f15.body,aNW (T aEH) Tryz.func15 (by kernel_rfl)⟩ }
end Go.Proofs.YtgfeljaimmnmmaaGreatDoor
namespace Go.Proofs.YtgfeljaimmnmmaaGreatDoor
open Go Go.PM Go.RowKit Go.ChangeShapes Go.WideShapes
theorem Tryz.own:ownKnob Tryz.prog.godebug=none:=by kernel_rfl
theorem Tryz.laidOut:laidOutB Tryz.prog=true:=by kernel_rfl
theorem itoa:oN C:=fun n p=>by
 refine⟨⟨Tryz.f64,Tryz.func64,by kernel_rfl,by kernel_rfl⟩,fun E w vs q hW c=>?_⟩;obtain⟨u⟩:=vs;cases c with
 | cons d i =>
 cases i;cases d;refine (Any.strconv_Itoa_small Tryz.aQI n p w).mono fun e x l=>?_;obtain⟨rfl,rfl⟩:=l;exact⟨_,.str (bZ n),E,.nil,rfl,hW,.str ⟨(Lib.decDigits n).toArray⟩,.refl _ _ _,rfl,rfl⟩
theorem arF {pv:PV} (h:PV.Ty (.sl [.int .u8]) pv):∃ l:List Nat,pv=.sl 1 (kF l)∧(∀ x∈l,x<256)∧l.length≤9223372036854775807:=by
 obtain⟨xs,rfl,p,d⟩:=Ty.aFX h;refine⟨xs.map Int.toNat,?_,?_,?_⟩
 ·unfold alD kF;rw[List.map_map];congr 1;refine bbB fun x c=>?_;have:=(d x c).1;simp only[Function.comp];rw[Int.toNat_of_nonneg this]
 ·intro y e;obtain⟨x,c,rfl⟩:=a8J.1 e;have:=(d x c).2;have i:=(d x c).1;have c:IntKind.u8.max=255:=by decide
  rw[c] at this;omega
 ·rw[a7G];have:maxLen≤9223372036854775807:=by decide
  omega
end Go.Proofs.YtgfeljaimmnmmaaGreatDoor
namespace Go.Proofs.YtgfeljaimmnmmaaGreatDoor
open Go Go.PM Go.RowKit Go.ChangeShapes Go.WideShapes
def argKinds:List AT:=[.one (.sl [.int .u8]),.one (.int .i64),.one (.int .i64)]
theorem aOE:FH Tryz.prog 8 Tryz.f4.params.toList=some argKinds:=by kernel_rfl
theorem aQB (c:List PV) (h:AT.TyL argKinds c):aH C 225 c .nil (aF (.bool true)):=by
 match c,h with
 | [x,y,A],h =>
  obtain⟨d,e,i,-⟩:=h;cases d with | one d =>
  obtain⟨q,rfl,l,p⟩:=arF d;cases e with | one e =>
  obtain⟨u,rfl,-⟩:=Ty.UX e;cases i with | one i =>
  obtain⟨w,rfl,-⟩:=Ty.UX i;exact a1A aUX itoa a3K q l p u w
theorem J4 (os:Os) (args:Array Value):laidMetH Tryz.prog Rows.copysetScenariosRow.laid ((World.doorLaid Tryz.prog 400 os).forCall (fun _ _=>0) ⟨#[],args,[]⟩).memory :=
 laidMetH_of_parts3 (fuel:=8) (laidMet_of_run' 8 (by kernel_rfl) (by kernel_rfl)) (by kernel_rfl) (by kernel_rfl)
set_option maxRecDepth 100000 in
theorem alI (os:Os) (c:os.Started) (H:Type) (enc:TypeId × Value→H) :
  ReturnsInHanded {} Tryz.checked os 4 .any (fun w args=>(Rows.copysetScenariosSpec.pre enc Tryz.prog Tryz.f4 [] false w args∧laidMetH Tryz.prog Rows.copysetScenariosRow.laid w)∧sizedMet enc Tryz.prog Tryz.f4 (OpenSpec.ofChange Rows.copysetScenariosSpec) false w args)
   (Rows.copysetScenariosSpec.post enc Tryz.prog Tryz.f4 false true false false):=by
 refine returnsInHanded_of_change_and (C:=Tryz.checked) (X:=fun w _=>laidMetH Tryz.prog Rows.copysetScenariosRow.laid w) (fun _ _ _ l h=>h.of_heap l) Tryz.own c (by kernel_rfl) Tryz.func4
  (ChangeSpec.witness_shaped (enc:=enc) (C:=Tryz.checked) (os:=os) (X:=fun w _=>laidMetH Tryz.prog Rows.copysetScenariosRow.laid w) false (World.doorLaid Tryz.prog 400 os) #[.slice none 0 0,.int .i64 0,.int .i64 0] 8 rfl (World.shaped_of_RefB (by kernel_rfl) (by kernel_rfl)) (by kernel_rfl) (by kernel_rfl) (by kernel_rfl) (J4 os _)) ?_
 intro W base args ds x e d hW _ _ _ _;exact I2 (P:=Tryz.prog) (num:=num) (name:=225) (n:=8) (ats:=argKinds) (bt:=4) Tryz.laidOut (by kernel_rfl) (by kernel_rfl) (by kernel_rfl) rfl
  (fun ds i=>by
   match ds,i with
   | [p,q,u],_=>exact⟨rfl,rfl,rfl⟩)
  (by kernel_rfl) aOE aQB d hW
theorem FJ:Rows.CopysetScenariosSaid :=
 OpenClaim.holds_of_wide 4 Tryz.f4 rfl rfl rfl rfl rfl rfl rfl ⟨rfl,rfl,rfl,rfl,rfl⟩ rfl rfl rfl rfl rfl (by kernel_rfl) Tryz.func4 (by kernel_rfl)
  (of_decide_eq_true (by kernel_rfl)) (by unfold Func.isWrapper; first | (rw[if_pos (by decide +kernel)]; kernel_rfl) | (rw[if_neg (by decide +kernel)]; exact⟨rfl,rfl⟩))
  (fun os c H enc _=>alI os c H enc)
theorem copysetScenarios_card:Rows.CopysetScenariosCardSaid :=
 Claim7.holds_tied_plain_at .later [] [.data,.data,.data] true (true,"416719fd36fcf2340e9414b63f7ec7fe803d16726753b5c6cccafeac3546cf3e") false
  FJ (fun _ h=>by cases h) (by kernel_rfl) (fun _ h=>by cases h) copysetScenarios_row_tie rfl ⟨rfl,rfl⟩ (by kernel_rfl) rfl
  (fun f fn e d=>by
   obtain rfl:f=4:=a9V.inj ((show Tryz.prog.funcNamed Rows.copysetScenariosRow.func=some 4 by kernel_rfl).symm.trans e) |>.symm
   obtain rfl:fn=Tryz.f4:=(a9V.inj (Tryz.func4.symm.trans d)).symm;exact⟨by kernel_rfl,fun j t l=>by
    have i:t∈Tryz.f4.params.toList:=by rw[Array.mem_toList_iff];exact Array.mem_of_getElem? l
    have c:(Tryz.f4.params.toList.all fun u=>!Tryz.prog.wantsStandIn u)=true:=by kernel_rfl
    exact (show Tryz.prog.wantsStandIn t=false by simpa using a7W.1 c t i)⟩)
  (by kernel_rfl)
#print axioms copysetScenarios_card
end Go.Proofs.YtgfeljaimmnmmaaGreatDoor
