/-
  The law of the claim returns true at every input, and its argument reads as it did: the tied card. No condition.
-/
import Derived.Test.YtgfeljaimmnmmaaGreatDoorAl1
import Derived.Test.YtgfeljaimmnmmaaGreatDoorAl2
import Derived.Test.YtgfeljaimmnmmaaGreatDoorAl3
import Derived.Test.YtgfeljaimmnmmaaGreatDoorAl4
import Derived.Test.YtgfeljaimmnmmaaGreatDoorAl5
import Derived.Test.YtgfeljaimmnmmaaGreatDoorAl6
import Derived.Test.YtgfeljaimmnmmaaGreatDoorProg
import Derived.KernelRfl
import Derived.Test.YtgfeljaimmnmmaaGreatDoorRows
import Derived.ProofKit
import Derived.WalkKit
import Derived.LaidMore
import Derived.OpenShut
import Derived.Stop.Joined
import Derived.Test.YtgfeljaimmnmmaaGreatDoorTie
import Derived.Test.YtgfeljaimmnmmaaGreatDoorCards
set_option linter.unusedSimpArgs false
set_option linter.unusedVariables false
open Nat renaming reduceEqDiff → γ, reduceAdd → δ, reduceSub → ε, reduceMul → ζ, reduceLT → η, reduceLeDiff → θ, reduceBEq → τ
open Int renaming reduceLT → ι, reduceLE → κ, reduceEq → μ, reduceToNat → ν, reduceAdd → ξ, reduceNeg → ο, reduceBEq → ρ, reduceBNe → σ
open List renaming reduceReplicate → υ
open List renaming length_map → a7I, range → a7J, getElem_mem → a7L, replicate → a7M, length_append → a7Q, length_singleton → a7U, mem_cons → a7V, getElem?_eq_getElem → a7W, all_eq_true → a7Y, getD_eq_getElem?_getD → a8B, length_take → a8C, take_of_length_le → a8D, not_mem_nil → a8E, getElem?_map → a8H, map_append → a8I, take_length → a8K, mem_map → a8L, mem_range → a8M, getElem?_eq_some_iff → a8R, append_assoc → a8S, drop_zero → a8T, getElem_of_mem → a8U, map_cons → a8X, getElem?_eq_none → a8Z, length_cons → a9A, getElem_map → a9D, mem_append → a9E, take_succ_eq_append_getElem → a9G, append_nil → a9I, drop_eq_getElem_cons → a9J, range' → a9K, length_drop → a9L, Sublist → a9M, length_set → a9N, map_nil → a9R, length_nil → a9Y, mem_singleton → a9Z, getElem?_append_right → baA, getElem?_append_left → baB, nodup_append → baC, mem_of_getElem? → baE, set_append_right → baF, take_append_drop → baG, ext_getElem → baQ, range_succ → baU, getElem?_take → baW, drop_of_length_le → bbC, map_congr_left → bbD, set_cons_zero → bbE, length_filter_le → bbF, getElem_append_right → bbG
open Nat renaming gcd → a7K, le_refl → a7O, zero_le → a7P, mul_add → a7X, lt_or_ge → a8F, zero_add → a8G, mul_assoc → a8J, mul_comm → a8N, add_mul → a8O, mul_le_mul_right → a8P, le_trans → a8V, mod_eq_of_lt → a8W, mod_lt → a9B, pow_succ → a9F, add_zero → a9O, eq_zero_or_pos → a9S, add_assoc → a9T, min_eq_left → a9U, mul_le_mul_left → a9V, pos_of_ne_zero → a9W, pow_pos → baD, div_le_self → baH, pow_le_pow_right → baI, sub_self → baJ, div_lt_iff_lt_mul → baN, succ_mul → baO, mul_le_mul → baR, div_add_mod → baX, div_eq_of_lt → baY
open Bool renaming not_true → a7N, false_and → a7R, true_and → a7T, not_false → a7Z, and_eq_true → a8A, and_false → a8Q, and_true → a9P, and_assoc → baL, and_self → baM, false_eq_true → baT
open Option renaming map_eq_some_iff → a7S, map_some → a8Y, some → a9X, getD_some → baK, bind_eq_some_iff → baZ, bind_some → bbA
open Int renaming toNat_natCast → a9C, tdiv → a9Q
open Array renaming replicate → a9H, length_toList → baP, getElem?_eq_some_iff → baS, getElem?_eq_getElem → baV, getD_eq_getD_getElem? → bbB
namespace Go.Proofs.YtgfeljaimmnmmaaGreatDoor
open Go Go.PM
def aWA:List Nat:=[21,63,39,0,38,43,0,42,0,0,0,0,0,0,0,0,0,0,0,0,0,0,0,0,0,0,0,9,20,40,120,136,97,92,91,66,123,122,73,118,140,117,139,141,138,137,95,41,142,78,44,74,75,72,50,71,49,121,65,67,96,76,68,119,94,93,77,24,48,53,47,69,52,46,51,70,45,54,0,0,55,62,0,0,0,0,0,0,79,0,0,0,0,0,27,58,30,81,108,82,110,113,86,109,56,80,87,111,88,112,60,57,59,101,85,84,98,83,104,103,102,106,107,89,131,115,114,125,99,105,128,127,100,130,126,129,145,143,124,154,151,144,153,152,0,0,0,0,0,0,0,0,0,0,0,0,0,0,0,0,0,0,116,90,148,134,135,149,146,133,132,0,0,0,0,0,0,0,0,0,0,0,0,0,0,0,0,0,0,0,0,0,0,0,0,64,0,0,0,0,0,29,28,22,13,10,31,32,36,17,33,61,12,26,14,25,11,34,35,16,37,18,8,19,3,4,5,6,7,23,15,0,0,0,0,0,0,0,0,0,0,0,0,0,0,0,0,0,0,0,0,0,0,0,0,0,0,0,0,0,0,0,0,0,0,0,0,0,0,0,0,0,0,0,0,0,0,0,0,0,0,0]
def aQR:List (Option Nat):=[none,none,none,some 224,some 225,some 226,some 227,some 228,some 222,some 27,some 205,some 216,some 212,some 204,some 214,some 230,some 219,some 209,some 221,some 223,some 28,some 0,some 203,some 229,some 67,some 215,some 213,some 94,some 202,some 201,some 96,some 206,some 207,some 210,some 217,some 218,some 208,some 220,some 4,some 2,some 29,some 47,some 7,some 5,some 50,some 76,some 73,some 70,some 68,some 56,some 54,some 74,some 72,some 69,some 77,some 80,some 104,some 111,some 95,some 112,some 110,some 211,some 81,some 1,some 195,some 58,some 35,some 59,some 62,some 71,some 75,some 55,some 53,some 38,some 51,some 52,some 61,some 66,some 49,some 88,some 105,some 97,some 99,some 117,some 115,some 114,some 102,some 106,some 108,some 123,some 163,some 34,some 33,some 65,some 64,some 46,some 60,some 32,some 116,some 128,some 132,some 113,some 120,some 119,some 118,some 129,some 121,some 122,some 98,some 103,some 100,some 107,some 109,some 101,some 126,some 125,some 162,some 41,some 39,some 63,some 30,some 57,some 37,some 36,some 138,some 127,some 134,some 131,some 130,some 135,some 133,some 124,some 170,some 169,some 165,some 166,some 31,some 45,some 44,some 42,some 40,some 43,some 48,some 137,some 141,some 136,some 168,none,some 164,some 167,none,some 140,some 143,some 142,some 139]
def num (n:Nat):FuncId:=aWA.getD n 0
def nameOf (f:FuncId):Option Nat:=aQR.getD f none
noncomputable def C:Ctx:=⟨Tryz.prog,num⟩
noncomputable def T (ro:List Nat):Tbl:={ P:=Tryz.prog,num:=num,name:=nameOf,ro:=ro }
def SF:Code→Option (Code × Code)
 | .rangeFunc _ _ a b=>some (a,b)
 | .seq a b=>match SF a with | some x=>some x | none=>SF b
 | .block _ c=>SF c
 | _=>none
def aNT (c:Option Code):Code:=match c with | some c=>((SF c).getD (.skip,.skip)).1 | none=>.skip
def aNU (c:Option Code):Code:=match c with | some c=>((SF c).getD (.skip,.skip)).2 | none=>.skip
theorem bJ (T:Tbl) {k:Nat} {fn:Func} {c:aS} (l:C.P.funcs[C.num k]?=some fn) (e:C.P=T.P:=by rfl) (d:C.num=T.num:=by rfl) (q:(fn.name=="runtime.NumGoroutine")=false:=by kernel_rfl) (i:T.func fn=some c:=by kernel_rfl):aM C k c:=fun _ _ _ p h=>asD e d l q i p h
theorem aNV (T:Tbl) {k:Nat} {fn:Func} {c:yV} (l:C.P.funcs[C.num k]?=some fn) (i:T.akJ fn=some c) (e:C.P=T.P:=by rfl) (d:C.num=T.num:=by rfl) (q:(fn.name=="runtime.NumGoroutine")=false:=by kernel_rfl):fx C k c:=fun _ _ _ p h=>ajW e d l q i p h
theorem a3L:aM C 224 PM.amI:=bJ (T aQQ) Tryz.func3
theorem aUY:cI C:={
 r0:=bJ (T atZ) Tryz.func21,
 r1:=bJ (T aGW) Tryz.func63,
 r2:=bJ (T aQJ) Tryz.func39,
 r4:=bJ (T aHB) Tryz.func38,
 r5:=bJ (T aQN) Tryz.func43,
 r7:=bJ (T aGX) Tryz.func42,
 r27:=bJ (T atY) Tryz.func9,
 r28:=bJ (T aQL) Tryz.func20,
 r29:=bJ (T aHA) Tryz.func40,
 r30:=bJ (T aTN) Tryz.func120,
 r31:=bJ (T aMK) Tryz.func136,
 r32:=bJ (T aTO) Tryz.func97,
 r33:=bJ (T aTP) Tryz.func92,
 r34:=bJ (T aTQ) Tryz.func91,
 r35:=bJ (T aMO) Tryz.func66,
 r36:=bJ (T aTR) Tryz.func123,
 r37:=bJ (T aTU) Tryz.func122,
 r38:=bJ (T aMW) Tryz.func73,
 r39:=bJ (T apW) Tryz.func118,
 r40:=bJ (T aMN) Tryz.func140,
 r41:=bJ (T aBS) Tryz.func117,
 r42:=bJ (T aBT) Tryz.func139,
 r43:=bJ (T aMU) Tryz.func141,
 r44:=bJ (T aBW) Tryz.func138,
 r45:=bJ (T aXM) Tryz.func137,
 r46:=bJ (T aTV) Tryz.func95,
 r47:=bJ (T aTW) Tryz.func41,
 r48:=bJ (T aCK) Tryz.func142,
 r49:=bJ (T aNA) Tryz.func78,
 r50:=bJ (T aNB) Tryz.func44,
 r51:=bJ (T aCL) Tryz.func74,
 r52:=bJ (T aqJ) Tryz.func75,
 r53:=bJ (T aNC) Tryz.func72,
 r54:=bJ (T aND) Tryz.func50,
 r55:=bJ (T aTY) Tryz.func71,
 r56:=bJ (T aCN) Tryz.func49,
 r57:=bJ (T aMY) Tryz.func121,
 r58:=bJ (T aqI) Tryz.func65,
 r59:=bJ (T aNE) Tryz.func67,
 r60:=bJ (T aCM) Tryz.func96,
 r61:=bJ (T aIQ) Tryz.func76,
 r62:=bJ (T aqM) Tryz.func68,
 r63:=bJ (T aCO) Tryz.func119,
 r64:=bJ (T aqL) Tryz.func94,
 r65:=bJ (T aqN) Tryz.func93,
 r66:=bJ (T aUC) Tryz.func77,
 r67:=bJ (T aDC) Tryz.func24,
 r68:=bJ (T aUB) Tryz.func48,
 r69:=bJ (T aUA) Tryz.func53,
 r70:=bJ (T aCU) Tryz.func47,
 r71:=bJ (T aCV) Tryz.func69,
 r72:=bJ (T Xp) Tryz.func52,
 r73:=bJ (T aCX) Tryz.func46,
 r74:=bJ (T aCY) Tryz.func51,
 r75:=bJ (T aqY) Tryz.func70,
 r76:=bJ (T aqZ) Tryz.func45,
 r77:=bJ (T Wv) Tryz.func54,
 r80:=bJ (T awL) Tryz.func55,
 r81:=bJ (T anO) Tryz.func62,
 r88:=bJ (T avX) Tryz.func79,
 r94:=bJ (T aFA) Tryz.func27,
 r95:=bJ (T aPJ) Tryz.func58,
 r96:=bJ (T aPP) Tryz.func30,
 r97:=bJ (T asO) Tryz.func81,
 r98:=bJ (T aFL) Tryz.func108,
 r99:=bJ (T aFM) Tryz.func82,
 r100:=bJ (T aFN) Tryz.func110,
 r101:=bJ (T aPM) Tryz.func113,
 r102:=bJ (T aFP) Tryz.func86,
 r103:=bJ (T asP) Tryz.func109,
 r104:=bJ (T aVD) Tryz.func56,
 r105:=bJ (T aPK) Tryz.func80,
 r106:=bJ (T aPL) Tryz.func87,
 r107:=bJ (T aFQ) Tryz.func111,
 r108:=bJ (T aFR) Tryz.func88,
 r109:=bJ (T asS) Tryz.func112,
 r110:=bJ (T aFT) Tryz.func60,
 r111:=bJ (T aPI) Tryz.func57,
 r112:=bJ (T aPN) Tryz.func59,
 r113:=bJ (T aPB) Tryz.func101,
 r114:=bJ (T aPC) Tryz.func85,
 r115:=bJ (T aFJ) Tryz.func84,
 r116:=bJ (T akH) Tryz.func98,
 r117:=bJ (T aPH) Tryz.func83,
 r118:=bJ (T asN) Tryz.func104,
 r119:=bJ (T aPA) Tryz.func103,
 r120:=bJ (T akF) Tryz.func102,
 r121:=bJ (T asM) Tryz.func106,
 r122:=bJ (T aFK) Tryz.func107,
 r123:=bJ (T aGP) Tryz.func89,
 r124:=bJ (T atD) Tryz.func131,
 r125:=bJ (T atP) Tryz.func115,
 r126:=bJ (T alK) Tryz.func114,
 r127:=bJ (T aQO) Tryz.func125,
 r128:=bJ (T aHM) Tryz.func99,
 r129:=bJ (T aQS) Tryz.func105,
 r130:=bJ (T aQT) Tryz.func128,
 r131:=bJ (T aQV) Tryz.func127,
 r132:=bJ (T aHN) Tryz.func100,
 r133:=bJ (T aQW) Tryz.func130,
 r134:=bJ (T aQX) Tryz.func126,
 r135:=bJ (T aHP) Tryz.func129,
 r136:=bJ (T amP) Tryz.func145,
 r137:=bJ (T auJ) Tryz.func143,
 r138:=bJ (T amU) Tryz.func124,
 r139:=bJ (T Wk) Tryz.func154,
 r140:=bJ (T auL) Tryz.func151,
 r141:=bJ (T auM) Tryz.func144,
 r142:=bJ (T Qs) Tryz.func153,
 r143:=bJ (T aWB) Tryz.func152,
 r201:=bJ (T aOJ) Tryz.func29,
 r202:=bJ (T aON) Tryz.func28,
 r203:=bJ (T arP) Tryz.func22,
 r204:=bJ (T arK) Tryz.func13,
 r205:=bJ (T arM) Tryz.func10,
 r206:=bJ (T arU) Tryz.func31,
 r207:=bJ (T ajI) Tryz.func32,
 r208:=bJ (T aED) Tryz.func36,
 r209:=bJ (T ajM) Tryz.func17,
 r210:=bJ (T aEN) Tryz.func33,
 r211:=bJ (T arX) Tryz.func61,
 r212:=bJ (T aFH) Tryz.func12,
 r213:=bJ (T aRJ) Tryz.func26,
 r214:=bJ (T avL) Tryz.func14,
 r215:=bJ (T anD) Tryz.func25,
 r216:=bJ (T aRL) Tryz.func11,
 r217:=bJ (T avV) Tryz.func34,
 r218:=bJ (T aRP) Tryz.func35,
 r219:=bJ (T aIM) Tryz.func16,
 r220:=bJ (T aIG) Tryz.func37,
 r221:=bJ (T anH) Tryz.func18,
 r222:=bJ (T auE) Tryz.func8,
 r223:=bJ (T auH) Tryz.func19,
 r229:=⟨aNT Tryz.f23.body,aNU Tryz.f23.body,aNV (T aEL) Tryz.func23 (by kernel_rfl)⟩,
 r230:=⟨aNT Tryz.f15.body,aNU Tryz.f15.body,aNV (T aEJ) Tryz.func15 (by kernel_rfl)⟩ }
end Go.Proofs.YtgfeljaimmnmmaaGreatDoor
namespace Go.Proofs.YtgfeljaimmnmmaaGreatDoor
open Go Go.PM Go.RowKit Go.ChangeShapes Go.WideShapes
theorem Tryz.own:ownKnob Tryz.prog.godebug=none:=by kernel_rfl
theorem Tryz.laidOut:laidOutB Tryz.prog=true:=by kernel_rfl
theorem itoa:oQ C:=fun n p=>by
 refine⟨⟨Tryz.f64,Tryz.func64,by kernel_rfl,by kernel_rfl⟩,fun E w vs q hW c=>?_⟩;obtain⟨u⟩:=vs;cases c with
 | cons d i =>
 cases i;cases d;refine (Any.strconv_Itoa_small Tryz.aQH n p w).mono fun e x l=>?_;obtain⟨rfl,rfl⟩:=l;exact⟨_,.str (bZ n),E,.nil,rfl,hW,.str ⟨(Lib.decDigits n).toArray⟩,.refl _ _ _,rfl,rfl⟩
theorem arH {pv:PV} (h:PV.Ty (.sl [.int .u8]) pv):∃ l:List Nat,pv=.sl 1 (kF l)∧(∀ x∈l,x<256)∧l.length≤9223372036854775807:=by
 obtain⟨xs,rfl,p,d⟩:=Ty.Nv h;refine⟨xs.map Int.toNat,?_,?_,?_⟩
 ·unfold alE kF;rw[List.map_map];congr 1;refine bbD fun x c=>?_;have:=(d x c).1;simp only[Function.comp];rw[Int.toNat_of_nonneg this]
 ·intro y e;obtain⟨x,c,rfl⟩:=a8L.1 e;have:=(d x c).2;have i:=(d x c).1;have c:IntKind.u8.max=255:=by decide
  rw[c] at this;omega
 ·rw[a7I];have:maxLen≤9223372036854775807:=by decide
  omega
end Go.Proofs.YtgfeljaimmnmmaaGreatDoor
namespace Go.Proofs.YtgfeljaimmnmmaaGreatDoor
open Go Go.PM Go.RowKit Go.ChangeShapes Go.WideShapes
def argKinds:List AT:=[.one (.sl [.int .u8]),.one (.int .i64),.one (.sl [.int .i64])]
theorem aOD:FG Tryz.prog 8 Tryz.f3.params.toList=some argKinds:=by kernel_rfl
theorem aQA (c:List PV) (h:AT.TyL argKinds c):aH C 224 c .nil (aF (.bool true)):=by
 match c,h with
 | [x,y,A],h =>
  obtain⟨d,e,i,-⟩:=h;cases d with | one d =>
  obtain⟨q,rfl,l,p⟩:=arH d;cases e with | one e =>
  obtain⟨u,rfl,-⟩:=Ty.uy e;cases i with | one i =>
  obtain⟨w,rfl,-,-⟩:=Ty.Nv i;exact a4A aUY itoa a3L q l p u w
theorem J4 (os:Os) (args:Array Value):laidMetH Tryz.prog Rows.copysetAllRow.laid ((World.doorLaid Tryz.prog 400 os).forCall (fun _ _=>0) ⟨#[],args,[]⟩).memory :=
 laidMetH_of_parts3 (fuel:=8) (laidMet_of_run' 8 (by kernel_rfl) (by kernel_rfl)) (by kernel_rfl) (by kernel_rfl)
set_option maxRecDepth 100000 in
theorem alJ (os:Os) (c:os.Started) (H:Type) (enc:TypeId × Value→H) :
  ReturnsInHanded {} Tryz.checked os 3 .any (fun w args=>(Rows.copysetAllSpec.pre enc Tryz.prog Tryz.f3 [] false w args∧laidMetH Tryz.prog Rows.copysetAllRow.laid w)∧sizedMet enc Tryz.prog Tryz.f3 (OpenSpec.ofChange Rows.copysetAllSpec) false w args)
   (Rows.copysetAllSpec.post enc Tryz.prog Tryz.f3 false true false false):=by
 refine returnsInHanded_of_change_and (C:=Tryz.checked) (X:=fun w _=>laidMetH Tryz.prog Rows.copysetAllRow.laid w) (fun _ _ _ l h=>h.of_heap l) Tryz.own c (by kernel_rfl) Tryz.func3
  (ChangeSpec.witness_shaped (enc:=enc) (C:=Tryz.checked) (os:=os) (X:=fun w _=>laidMetH Tryz.prog Rows.copysetAllRow.laid w) false (World.doorLaid Tryz.prog 400 os) #[.slice none 0 0,.int .i64 0,.slice none 0 0] 8 rfl (World.shaped_of_RefB (by kernel_rfl) (by kernel_rfl)) (by kernel_rfl) (by kernel_rfl) (by kernel_rfl) (J4 os _)) ?_
 intro W base args ds x e d hW _ _ _ _;exact I2 (P:=Tryz.prog) (num:=num) (name:=224) (n:=8) (ats:=argKinds) (bt:=4) Tryz.laidOut (by kernel_rfl) (by kernel_rfl) (by kernel_rfl) rfl
  (fun ds i=>by
   match ds,i with
   | [p,q,u],_=>exact⟨rfl,rfl,rfl⟩)
  (by kernel_rfl) aOD aQA d hW
theorem gx:Rows.CopysetAllSaid :=
 OpenClaim.holds_of_wide 3 Tryz.f3 rfl rfl rfl rfl rfl rfl rfl ⟨rfl,rfl,rfl,rfl,rfl⟩ rfl rfl rfl rfl rfl (by kernel_rfl) Tryz.func3 (by kernel_rfl)
  (of_decide_eq_true (by kernel_rfl)) (by unfold Func.isWrapper; first | (rw[if_pos (by decide +kernel)]; kernel_rfl) | (rw[if_neg (by decide +kernel)]; exact⟨rfl,rfl⟩))
  (fun os c H enc _=>alJ os c H enc)
theorem copysetAll_card:Rows.CopysetAllCardSaid :=
 Claim7.holds_tied_plain_at .later [] [.data,.data,.data] true (true,"416719fd36fcf2340e9414b63f7ec7fe803d16726753b5c6cccafeac3546cf3e") false
  gx (fun _ h=>by cases h) (by kernel_rfl) (fun _ h=>by cases h) copysetAll_row_tie rfl ⟨rfl,rfl⟩ (by kernel_rfl) rfl
  (fun f fn e d=>by
   obtain rfl:f=3:=a9X.inj ((show Tryz.prog.funcNamed Rows.copysetAllRow.func=some 3 by kernel_rfl).symm.trans e) |>.symm
   obtain rfl:fn=Tryz.f3:=(a9X.inj (Tryz.func3.symm.trans d)).symm;exact⟨by kernel_rfl,fun j t l=>by
    have i:t∈Tryz.f3.params.toList:=by rw[Array.mem_toList_iff];exact Array.mem_of_getElem? l
    have c:(Tryz.f3.params.toList.all fun u=>!Tryz.prog.wantsStandIn u)=true:=by kernel_rfl
    exact (show Tryz.prog.wantsStandIn t=false by simpa using a7Y.1 c t i)⟩)
  (by kernel_rfl)
#print axioms copysetAll_card
end Go.Proofs.YtgfeljaimmnmmaaGreatDoor
