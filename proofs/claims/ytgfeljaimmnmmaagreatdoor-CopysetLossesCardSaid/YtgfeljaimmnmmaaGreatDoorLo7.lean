/-
  The law of the claim returns true at every input, and its argument reads as it did: the tied card. No condition.
-/
import Derived.Test.YtgfeljaimmnmmaaGreatDoorLo1
import Derived.Test.YtgfeljaimmnmmaaGreatDoorLo2
import Derived.Test.YtgfeljaimmnmmaaGreatDoorLo3
import Derived.Test.YtgfeljaimmnmmaaGreatDoorLo4
import Derived.Test.YtgfeljaimmnmmaaGreatDoorLo5
import Derived.Test.YtgfeljaimmnmmaaGreatDoorLo6
import Derived.Test.YtgfeljaimmnmmaaGreatDoorProg
import Derived.KernelRfl
import Derived.Test.YtgfeljaimmnmmaaGreatDoorRows
import Derived.ProofKit
import Derived.WalkKit
import Derived.LaidMore
import Derived.OpenShut
import Derived.Stop.Joined
import Derived.Test.YtgfeljaimmnmmaaGreatDoorTie
import Derived.Test.YtgfeljaimmnmmaaGreatDoorCards
set_option linter.unusedSimpArgs false
set_option linter.unusedVariables false
open Nat renaming reduceEqDiff → γ, reduceAdd → δ, reduceSub → ε, reduceMul → ζ, reduceLT → η, reduceLeDiff → θ, reduceBEq → τ
open Int renaming reduceLT → ι, reduceLE → κ, reduceEq → μ, reduceToNat → ν, reduceAdd → ξ, reduceNeg → ο, reduceBEq → ρ, reduceBNe → σ
open List renaming reduceReplicate → υ
open List renaming length_map → a7W, range → a7X, getElem_mem → a7Z, replicate → a8A, length_append → a8E, length_singleton → a8I, mem_cons → a8J, getElem?_eq_getElem → a8K, all_eq_true → a8M, getD_eq_getElem?_getD → a8P, length_take → a8Q, not_mem_nil → a8R, take_of_length_le → a8S, getElem?_map → a8V, map_append → a8W, take_length → a8Y, mem_map → a8Z, mem_range → a9A, getElem?_eq_some_iff → a9F, append_assoc → a9G, drop_zero → a9H, getElem_of_mem → a9I, map_cons → a9L, getElem?_eq_none → a9N, length_cons → a9O, getElem_map → a9R, mem_append → a9S, take_succ_eq_append_getElem → a9U, append_nil → a9W, drop_eq_getElem_cons → a9X, range' → a9Y, length_drop → a9Z, Sublist → baA, length_set → baB, map_nil → baF, length_nil → baM, mem_singleton → baN, getElem?_append_right → baO, getElem?_append_left → baP, nodup_append → baQ, mem_of_getElem? → baS, set_append_right → baT, take_append_drop → baU, ext_getElem → bbE, range_succ → bbI, getElem?_take → bbK, drop_of_length_le → bbQ, map_congr_left → bbR, set_cons_zero → bbS, length_filter_le → bbT, getElem_append_right → bbU
open Nat renaming gcd → a7Y, zero_le → a8C, le_refl → a8D, mul_add → a8L, lt_or_ge → a8T, zero_add → a8U, mul_assoc → a8X, mul_comm → a9B, add_mul → a9C, mul_le_mul_right → a9D, le_trans → a9J, mod_eq_of_lt → a9K, mod_lt → a9P, pow_succ → a9T, add_zero → baC, eq_zero_or_pos → baG, add_assoc → baH, min_eq_left → baI, mul_le_mul_left → baJ, pos_of_ne_zero → baK, pow_pos → baR, div_le_self → baV, pow_le_pow_right → baW, sub_self → baX, div_lt_iff_lt_mul → bbB, succ_mul → bbC, mul_le_mul → bbF, div_add_mod → bbL, div_eq_of_lt → bbM
open Bool renaming not_true → a8B, false_and → a8F, true_and → a8H, not_false → a8N, and_eq_true → a8O, and_false → a9E, and_true → baD, and_assoc → baZ, and_self → bbA, false_eq_true → bbH
open Option renaming map_eq_some_iff → a8G, map_some → a9M, some → baL, getD_some → baY, bind_eq_some_iff → bbN, bind_some → bbO
open Int renaming toNat_natCast → a9Q, tdiv → baE
open Array renaming replicate → a9V, length_toList → bbD, getElem?_eq_some_iff → bbG, getElem?_eq_getElem → bbJ, getD_eq_getD_getElem? → bbP
namespace Go.Proofs.YtgfeljaimmnmmaaGreatDoor
open Go Go.PM
def aWQ:List Nat:=[21,63,39,0,38,43,0,42,0,0,0,0,0,0,0,0,0,0,0,0,0,0,0,0,0,0,0,9,20,40,120,136,97,92,91,66,123,122,73,118,140,117,139,141,138,137,95,41,142,78,44,74,75,72,50,71,49,121,65,67,96,76,68,119,94,93,77,24,48,53,47,69,52,46,51,70,45,54,0,0,55,62,0,0,0,0,0,0,79,0,0,0,0,0,27,58,30,81,108,82,110,113,86,109,56,80,87,111,88,112,60,57,59,101,85,84,98,83,104,103,102,106,107,89,131,115,114,125,99,105,128,127,100,130,126,129,145,143,124,154,151,144,153,152,0,0,0,0,0,0,0,0,0,0,0,0,0,0,0,0,0,0,116,90,148,134,135,149,146,133,132,0,0,0,0,0,0,0,0,0,0,0,0,0,0,0,0,0,0,0,0,0,0,0,0,64,0,0,0,0,0,29,28,22,13,10,31,32,36,17,33,61,12,26,14,25,11,34,35,16,37,18,8,19,3,4,5,6,7,23,15,0,0,0,0,0,0,0,0,0,0,0,0,0,0,0,0,0,0,0,0,0,0,0,0,0,0,0,0,0,0,0,0,0,0,0,0,0,0,0,0,0,0,0,0,0,0,0,0,0,0,0]
def aRG:List (Option Nat):=[none,none,none,some 224,some 225,some 226,some 227,some 228,some 222,some 27,some 205,some 216,some 212,some 204,some 214,some 230,some 219,some 209,some 221,some 223,some 28,some 0,some 203,some 229,some 67,some 215,some 213,some 94,some 202,some 201,some 96,some 206,some 207,some 210,some 217,some 218,some 208,some 220,some 4,some 2,some 29,some 47,some 7,some 5,some 50,some 76,some 73,some 70,some 68,some 56,some 54,some 74,some 72,some 69,some 77,some 80,some 104,some 111,some 95,some 112,some 110,some 211,some 81,some 1,some 195,some 58,some 35,some 59,some 62,some 71,some 75,some 55,some 53,some 38,some 51,some 52,some 61,some 66,some 49,some 88,some 105,some 97,some 99,some 117,some 115,some 114,some 102,some 106,some 108,some 123,some 163,some 34,some 33,some 65,some 64,some 46,some 60,some 32,some 116,some 128,some 132,some 113,some 120,some 119,some 118,some 129,some 121,some 122,some 98,some 103,some 100,some 107,some 109,some 101,some 126,some 125,some 162,some 41,some 39,some 63,some 30,some 57,some 37,some 36,some 138,some 127,some 134,some 131,some 130,some 135,some 133,some 124,some 170,some 169,some 165,some 166,some 31,some 45,some 44,some 42,some 40,some 43,some 48,some 137,some 141,some 136,some 168,none,some 164,some 167,none,some 140,some 143,some 142,some 139]
def num (n:Nat):FuncId:=aWQ.getD n 0
def nameOf (f:FuncId):Option Nat:=aRG.getD f none
noncomputable def C:Ctx:=⟨Tryz.prog,num⟩
noncomputable def T (ro:List Nat):Tbl:={ P:=Tryz.prog,num:=num,name:=nameOf,ro:=ro }
def SH:Code→Option (Code × Code)
 | .rangeFunc _ _ a b=>some (a,b)
 | .seq a b=>match SH a with | some x=>some x | none=>SH b
 | .block _ c=>SH c
 | _=>none
def aOK (c:Option Code):Code:=match c with | some c=>((SH c).getD (.skip,.skip)).1 | none=>.skip
def aOL (c:Option Code):Code:=match c with | some c=>((SH c).getD (.skip,.skip)).2 | none=>.skip
theorem bJ (T:Tbl) {k:Nat} {fn:Func} {c:aS} (l:C.P.funcs[C.num k]?=some fn) (e:C.P=T.P:=by rfl) (d:C.num=T.num:=by rfl) (q:(fn.name=="runtime.NumGoroutine")=false:=by kernel_rfl) (i:T.func fn=some c:=by kernel_rfl):aM C k c:=fun _ _ _ p h=>asU e d l q i p h
theorem aOM (T:Tbl) {k:Nat} {fn:Func} {c:yV} (l:C.P.funcs[C.num k]?=some fn) (i:T.akZ fn=some c) (e:C.P=T.P:=by rfl) (d:C.num=T.num:=by rfl) (q:(fn.name=="runtime.NumGoroutine")=false:=by kernel_rfl):gi C k c:=fun _ _ _ p h=>akM e d l q i p h
theorem a4A:aM C 227 PM.VD:=bJ (T anL) Tryz.func6
theorem aVO:cI C:={
 r0:=bJ (T auQ) Tryz.func21,
 r1:=bJ (T aHN) Tryz.func63,
 r2:=bJ (T aRA) Tryz.func39,
 r4:=bJ (T aHS) Tryz.func38,
 r5:=bJ (T aRE) Tryz.func43,
 r7:=bJ (T aHO) Tryz.func42,
 r27:=bJ (T auP) Tryz.func9,
 r28:=bJ (T aRC) Tryz.func20,
 r29:=bJ (T aHR) Tryz.func40,
 r30:=bJ (T aUC) Tryz.func120,
 r31:=bJ (T aNB) Tryz.func136,
 r32:=bJ (T aUD) Tryz.func97,
 r33:=bJ (T aUE) Tryz.func92,
 r34:=bJ (T aUF) Tryz.func91,
 r35:=bJ (T aNF) Tryz.func66,
 r36:=bJ (T aUG) Tryz.func123,
 r37:=bJ (T aUJ) Tryz.func122,
 r38:=bJ (T aNN) Tryz.func73,
 r39:=bJ (T aqN) Tryz.func118,
 r40:=bJ (T aNE) Tryz.func140,
 r41:=bJ (T aCJ) Tryz.func117,
 r42:=bJ (T aCK) Tryz.func139,
 r43:=bJ (T aNL) Tryz.func141,
 r44:=bJ (T aCN) Tryz.func138,
 r45:=bJ (T aYC) Tryz.func137,
 r46:=bJ (T aUK) Tryz.func95,
 r47:=bJ (T aUL) Tryz.func41,
 r48:=bJ (T aDB) Tryz.func142,
 r49:=bJ (T aNR) Tryz.func78,
 r50:=bJ (T aNS) Tryz.func44,
 r51:=bJ (T aDC) Tryz.func74,
 r52:=bJ (T arA) Tryz.func75,
 r53:=bJ (T aNT) Tryz.func72,
 r54:=bJ (T aNU) Tryz.func50,
 r55:=bJ (T aUN) Tryz.func71,
 r56:=bJ (T aDE) Tryz.func49,
 r57:=bJ (T aNP) Tryz.func121,
 r58:=bJ (T aqZ) Tryz.func65,
 r59:=bJ (T aNV) Tryz.func67,
 r60:=bJ (T aDD) Tryz.func96,
 r61:=bJ (T aJH) Tryz.func76,
 r62:=bJ (T arD) Tryz.func68,
 r63:=bJ (T aDF) Tryz.func119,
 r64:=bJ (T arC) Tryz.func94,
 r65:=bJ (T arE) Tryz.func93,
 r66:=bJ (T aUS) Tryz.func77,
 r67:=bJ (T aDT) Tryz.func24,
 r68:=bJ (T aUR) Tryz.func48,
 r69:=bJ (T aUQ) Tryz.func53,
 r70:=bJ (T aDL) Tryz.func47,
 r71:=bJ (T aDM) Tryz.func69,
 r72:=bJ (T Yc) Tryz.func52,
 r73:=bJ (T aDO) Tryz.func46,
 r74:=bJ (T aDP) Tryz.func51,
 r75:=bJ (T arP) Tryz.func70,
 r76:=bJ (T arQ) Tryz.func45,
 r77:=bJ (T Xi) Tryz.func54,
 r80:=bJ (T axC) Tryz.func55,
 r81:=bJ (T aoF) Tryz.func62,
 r88:=bJ (T awO) Tryz.func79,
 r94:=bJ (T aFR) Tryz.func27,
 r95:=bJ (T aQA) Tryz.func58,
 r96:=bJ (T aQG) Tryz.func30,
 r97:=bJ (T atF) Tryz.func81,
 r98:=bJ (T aGC) Tryz.func108,
 r99:=bJ (T aGD) Tryz.func82,
 r100:=bJ (T aGE) Tryz.func110,
 r101:=bJ (T aQD) Tryz.func113,
 r102:=bJ (T aGG) Tryz.func86,
 r103:=bJ (T atG) Tryz.func109,
 r104:=bJ (T aVT) Tryz.func56,
 r105:=bJ (T aQB) Tryz.func80,
 r106:=bJ (T aQC) Tryz.func87,
 r107:=bJ (T aGH) Tryz.func111,
 r108:=bJ (T aGI) Tryz.func88,
 r109:=bJ (T atJ) Tryz.func112,
 r110:=bJ (T aGK) Tryz.func60,
 r111:=bJ (T aPZ) Tryz.func57,
 r112:=bJ (T aQE) Tryz.func59,
 r113:=bJ (T aPS) Tryz.func101,
 r114:=bJ (T aPT) Tryz.func85,
 r115:=bJ (T aGA) Tryz.func84,
 r116:=bJ (T akX) Tryz.func98,
 r117:=bJ (T aPY) Tryz.func83,
 r118:=bJ (T atE) Tryz.func104,
 r119:=bJ (T aPR) Tryz.func103,
 r120:=bJ (T akV) Tryz.func102,
 r121:=bJ (T atD) Tryz.func106,
 r122:=bJ (T aGB) Tryz.func107,
 r123:=bJ (T aHG) Tryz.func89,
 r124:=bJ (T atV) Tryz.func131,
 r125:=bJ (T auH) Tryz.func115,
 r126:=bJ (T amA) Tryz.func114,
 r127:=bJ (T aRF) Tryz.func125,
 r128:=bJ (T aID) Tryz.func99,
 r129:=bJ (T aRH) Tryz.func105,
 r130:=bJ (T aRI) Tryz.func128,
 r131:=bJ (T aRK) Tryz.func127,
 r132:=bJ (T aIE) Tryz.func100,
 r133:=bJ (T aRL) Tryz.func130,
 r134:=bJ (T aRM) Tryz.func126,
 r135:=bJ (T aIG) Tryz.func129,
 r136:=bJ (T anE) Tryz.func145,
 r137:=bJ (T avA) Tryz.func143,
 r138:=bJ (T anJ) Tryz.func124,
 r139:=bJ (T W8) Tryz.func154,
 r140:=bJ (T avC) Tryz.func151,
 r141:=bJ (T avD) Tryz.func144,
 r142:=bJ (T Re) Tryz.func153,
 r143:=bJ (T aWR) Tryz.func152,
 r201:=bJ (T aPA) Tryz.func29,
 r202:=bJ (T aPE) Tryz.func28,
 r203:=bJ (T asG) Tryz.func22,
 r204:=bJ (T asB) Tryz.func13,
 r205:=bJ (T asD) Tryz.func10,
 r206:=bJ (T asL) Tryz.func31,
 r207:=bJ (T ajY) Tryz.func32,
 r208:=bJ (T aEU) Tryz.func36,
 r209:=bJ (T akC) Tryz.func17,
 r210:=bJ (T aFE) Tryz.func33,
 r211:=bJ (T asO) Tryz.func61,
 r212:=bJ (T aFY) Tryz.func12,
 r213:=bJ (T aRY) Tryz.func26,
 r214:=bJ (T awC) Tryz.func14,
 r215:=bJ (T anU) Tryz.func25,
 r216:=bJ (T aSA) Tryz.func11,
 r217:=bJ (T awM) Tryz.func34,
 r218:=bJ (T aSE) Tryz.func35,
 r219:=bJ (T aJD) Tryz.func16,
 r220:=bJ (T aIX) Tryz.func37,
 r221:=bJ (T anY) Tryz.func18,
 r222:=bJ (T auV) Tryz.func8,
 r223:=bJ (T auY) Tryz.func19,
 r229:=⟨aOK Tryz.f23.body,aOL Tryz.f23.body,aOM (T aFC) Tryz.func23 (by kernel_rfl)⟩,
 r230:=⟨aOK Tryz.f15.body,aOL Tryz.f15.body,aOM (T aFA) Tryz.func15 (by kernel_rfl)⟩ }
end Go.Proofs.YtgfeljaimmnmmaaGreatDoor
namespace Go.Proofs.YtgfeljaimmnmmaaGreatDoor
open Go Go.PM Go.RowKit Go.ChangeShapes Go.WideShapes
theorem Tryz.own:ownKnob Tryz.prog.godebug=none:=by kernel_rfl
theorem Tryz.laidOut:laidOutB Tryz.prog=true:=by kernel_rfl
theorem itoa:oQ C:=fun n p=>by
 refine⟨⟨Tryz.f64,Tryz.func64,by kernel_rfl,by kernel_rfl⟩,fun E w vs q hW c=>?_⟩;obtain⟨u⟩:=vs;cases c with
 | cons d i =>
 cases i;cases d;refine (Any.strconv_Itoa_small Tryz.aQY n p w).mono fun e x l=>?_;obtain⟨rfl,rfl⟩:=l;exact⟨_,.str (cA n),E,.nil,rfl,hW,.str ⟨(Lib.decDigits n).toArray⟩,.refl _ _ _,rfl,rfl⟩
theorem arY {pv:PV} (h:PV.Ty (.sl [.int .u8]) pv):∃ l:List Nat,pv=.sl 1 (kF l)∧(∀ x∈l,x<256)∧l.length≤9223372036854775807:=by
 obtain⟨xs,rfl,p,d⟩:=Ty.Of h;refine⟨xs.map Int.toNat,?_,?_,?_⟩
 ·unfold alU kF;rw[List.map_map];congr 1;refine bbR fun x c=>?_;have:=(d x c).1;simp only[Function.comp];rw[Int.toNat_of_nonneg this]
 ·intro y e;obtain⟨x,c,rfl⟩:=a8Z.1 e;have:=(d x c).2;have i:=(d x c).1;have c:IntKind.u8.max=255:=by decide
  rw[c] at this;omega
 ·rw[a7W];have:maxLen≤9223372036854775807:=by decide
  omega
end Go.Proofs.YtgfeljaimmnmmaaGreatDoor
namespace Go.Proofs.YtgfeljaimmnmmaaGreatDoor
open Go Go.PM Go.RowKit Go.ChangeShapes Go.WideShapes
def argKinds:List AT:=[.one (.sl [.int .u8]),.one (.int .u8),.one (.int .u8),.one (.int .u8),.one (.sl [.int .i64])]
theorem aOU:FH Tryz.prog 8 Tryz.f6.params.toList=some argKinds:=by kernel_rfl
theorem Tg {pv:PV} (h:PV.Ty (.int .u8) pv):∃ n:Nat,pv=.int .u8 n∧n<256:=by
 obtain⟨m,rfl,d⟩:=Ty.vq h;have c:=d.1;have e:=d.2;have i:IntKind.u8.max=255:=by decide
 have l:IntKind.u8.min=0:=by decide
 rw[i] at e;rw[l] at c;exact⟨m.toNat,by rw[Int.toNat_of_nonneg c],by omega⟩
theorem aQR (c:List PV) (h:AT.TyL argKinds c):aH C 227 c .nil (aF (.bool true)):=by
 match c,h with
 | [F,H,J,K,M],h =>
  obtain⟨d,e,i,l,p,-⟩:=h;cases d with | one d =>
  obtain⟨x,rfl,q,w⟩:=arY d;cases e with | one e =>
  obtain⟨y,rfl,b1⟩:=Tg e;cases i with | one i =>
  obtain⟨A,rfl,b2⟩:=Tg i;cases l with | one l =>
  obtain⟨B,rfl,u⟩:=Tg l;cases p with | one p =>
  obtain⟨E,rfl,-,-⟩:=Ty.Of p;exact aUP aVO itoa a4A x q w y A B b1 b2 u E
theorem Kq (os:Os) (args:Array Value):laidMetH Tryz.prog Rows.copysetLossesRow.laid ((World.doorLaid Tryz.prog 400 os).forCall (fun _ _=>0) ⟨#[],args,[]⟩).memory :=
 laidMetH_of_parts3 (fuel:=8) (laidMet_of_run' 8 (by kernel_rfl) (by kernel_rfl)) (by kernel_rfl) (by kernel_rfl)
set_option maxRecDepth 100000 in
theorem alZ (os:Os) (c:os.Started) (H:Type) (enc:TypeId × Value→H) :
  ReturnsInHanded {} Tryz.checked os 6 .any (fun w args=>(Rows.copysetLossesSpec.pre enc Tryz.prog Tryz.f6 [] false w args∧laidMetH Tryz.prog Rows.copysetLossesRow.laid w)∧sizedMet enc Tryz.prog Tryz.f6 (OpenSpec.ofChange Rows.copysetLossesSpec) false w args)
   (Rows.copysetLossesSpec.post enc Tryz.prog Tryz.f6 false true false false):=by
 refine returnsInHanded_of_change_and (C:=Tryz.checked) (X:=fun w _=>laidMetH Tryz.prog Rows.copysetLossesRow.laid w) (fun _ _ _ l h=>h.of_heap l) Tryz.own c (by kernel_rfl) Tryz.func6
  (ChangeSpec.witness_shaped (enc:=enc) (C:=Tryz.checked) (os:=os) (X:=fun w _=>laidMetH Tryz.prog Rows.copysetLossesRow.laid w) false (World.doorLaid Tryz.prog 400 os) #[.slice none 0 0,.int .u8 0,.int .u8 0,.int .u8 0,.slice none 0 0] 8 rfl (World.shaped_of_RefB (by kernel_rfl) (by kernel_rfl)) (by kernel_rfl) (by kernel_rfl) (by kernel_rfl) (Kq os _)) ?_
 intro W base args ds A e d hW _ _ _ _;exact Jm (P:=Tryz.prog) (num:=num) (name:=227) (n:=8) (ats:=argKinds) (bt:=4) Tryz.laidOut (by kernel_rfl) (by kernel_rfl) (by kernel_rfl) rfl
  (fun ds i=>by
   match ds,i with
   | [p,q,u,x,y],_=>exact⟨rfl,rfl,rfl⟩)
  (by kernel_rfl) aOU aQR d hW
theorem OU:Rows.CopysetLossesSaid :=
 OpenClaim.holds_of_wide 6 Tryz.f6 rfl rfl rfl rfl rfl rfl rfl ⟨rfl,rfl,rfl,rfl,rfl⟩ rfl rfl rfl rfl rfl (by kernel_rfl) Tryz.func6 (by kernel_rfl)
  (of_decide_eq_true (by kernel_rfl)) (by unfold Func.isWrapper; first | (rw[if_pos (by decide +kernel)]; kernel_rfl) | (rw[if_neg (by decide +kernel)]; exact⟨rfl,rfl⟩))
  (fun os c H enc _=>alZ os c H enc)
theorem copysetLosses_card:Rows.CopysetLossesCardSaid :=
 Claim7.holds_tied_plain_at .later [] [.data,.data,.data] true (true,"416719fd36fcf2340e9414b63f7ec7fe803d16726753b5c6cccafeac3546cf3e") false
  OU (fun _ h=>by cases h) (by kernel_rfl) (fun _ h=>by cases h) copysetLosses_row_tie rfl ⟨rfl,rfl⟩ (by kernel_rfl) rfl
  (fun f fn e d=>by
   obtain rfl:f=6:=baL.inj ((show Tryz.prog.funcNamed Rows.copysetLossesRow.func=some 6 by kernel_rfl).symm.trans e) |>.symm
   obtain rfl:fn=Tryz.f6:=(baL.inj (Tryz.func6.symm.trans d)).symm;exact⟨by kernel_rfl,fun j t l=>by
    have i:t∈Tryz.f6.params.toList:=by rw[Array.mem_toList_iff];exact Array.mem_of_getElem? l
    have c:(Tryz.f6.params.toList.all fun u=>!Tryz.prog.wantsStandIn u)=true:=by kernel_rfl
    exact (show Tryz.prog.wantsStandIn t=false by simpa using a8M.1 c t i)⟩)
  (by kernel_rfl)
#print axioms copysetLosses_card
end Go.Proofs.YtgfeljaimmnmmaaGreatDoor
