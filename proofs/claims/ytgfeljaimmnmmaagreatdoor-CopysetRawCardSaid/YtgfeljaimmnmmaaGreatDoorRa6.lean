/-
  Texts of ours, joined: YsCodes YsBase Pm38 FlIn. No condition.
-/
import Derived.Test.YtgfeljaimmnmmaaGreatDoorRa1
import Derived.Test.YtgfeljaimmnmmaaGreatDoorRa2
import Derived.Test.YtgfeljaimmnmmaaGreatDoorRa3
import Derived.Test.YtgfeljaimmnmmaaGreatDoorRa4
import Derived.Test.YtgfeljaimmnmmaaGreatDoorRa5
import Derived.Test.YtgfeljaimmnmmaaGreatDoorProg
import Derived.KernelRfl
import Derived.Test.YtgfeljaimmnmmaaGreatDoorRows
import Derived.ProofKit
import Derived.WalkKit
import Derived.LaidMore
import Derived.OpenShut
import Derived.Stop.Joined
set_option linter.unusedSimpArgs false
set_option linter.unusedVariables false
open Nat renaming reduceEqDiff → γ, reduceAdd → δ, reduceSub → ε, reduceMul → ζ, reduceLT → η, reduceLeDiff → θ, reduceBEq → τ
open Int renaming reduceLT → ι, reduceLE → κ, reduceEq → μ, reduceToNat → ν, reduceAdd → ξ, reduceNeg → ο, reduceBEq → ρ, reduceBNe → σ
open List renaming reduceReplicate → υ
open List renaming length_map → a6K, range → a6L, getElem_mem → a6M, replicate → a6N, length_append → a6T, mem_cons → a6V, length_singleton → a6X, getElem?_eq_getElem → a6Y, all_eq_true → a7B, getD_eq_getElem?_getD → a7C, length_take → a7D, take_of_length_le → a7F, not_mem_nil → a7G, getElem?_map → a7J, map_append → a7L, take_length → a7M, mem_map → a7N, mem_range → a7P, getElem?_eq_some_iff → a7T, append_assoc → a7V, drop_zero → a7W, getElem?_eq_none → a7Z, map_cons → a8B, length_cons → a8D, take_succ_eq_append_getElem → a8E, append_nil → a8H, drop_eq_getElem_cons → a8I, mem_append → a8J, range' → a8K, Sublist → a8L, length_set → a8M, getElem_map → a8P, length_drop → a8Q, map_nil → a8W, getElem?_append_left → a8Z, mem_singleton → a9A, getElem?_append_right → a9B, getElem_of_mem → a9C, mem_of_getElem? → a9D, length_nil → a9F, nodup_append → a9G, set_append_right → a9H, take_append_drop → a9I, ext_getElem → a9R, range_succ → a9U, all_append → a9X, getElem?_take → a9Y, drop_of_length_le → baE, length_filter_le → baF
open Nat renaming gcd → a6O, zero_le → a6Q, le_refl → a6S, mul_add → a6Z, lt_or_ge → a7H, zero_add → a7I, mul_assoc → a7K, mul_comm → a7O, add_mul → a7Q, mul_le_mul_right → a7R, le_trans → a7U, mod_eq_of_lt → a7X, mod_lt → a8A, pow_succ → a8C, add_zero → a8N, eq_zero_or_pos → a8R, min_eq_left → a8S, mul_le_mul_left → a8T, pos_of_ne_zero → a8U, add_assoc → a8X, pow_pos → a9E, pow_le_pow_right → a9J, div_lt_iff_lt_mul → a9M, sub_self → a9N, succ_mul → a9O, div_add_mod → a9Z, div_eq_of_lt → baA, div_le_self → baB
open Bool renaming not_true → a6P, false_and → a6R, true_and → a6W, not_false → a7A, and_eq_true → a7E, and_false → a7S, and_true → a8V, and_assoc → a9L, and_self → a9Q, false_eq_true → a9T
open Option renaming map_eq_some_iff → a6U, map_some → a7Y, some → a8Y, getD_some → a9K, bind_some → a9V, bind_eq_some_iff → baC
open Array renaming replicate → a8F, length_toList → a9P, getElem?_eq_some_iff → a9S, getElem?_eq_getElem → a9W, getD_eq_getD_getElem? → baD
open Int renaming toNat_natCast → a8G, tdiv → a8O
namespace Go.Proofs.YtgfeljaimmnmmaaGreatDoor
open Go Go.PM
def aVD:List Nat:=[21,63,39,0,38,43,0,42,0,0,0,0,0,0,0,0,0,0,0,0,0,0,0,0,0,0,0,9,20,40,120,136,97,92,91,66,123,122,73,118,140,117,139,141,138,137,95,41,142,78,44,74,75,72,50,71,49,121,65,67,96,76,68,119,94,93,77,24,48,53,47,69,52,46,51,70,45,54,0,0,55,62,0,0,0,0,0,0,79,0,0,0,0,0,27,58,30,81,108,82,110,113,86,109,56,80,87,111,88,112,60,57,59,101,85,84,98,83,104,103,102,106,107,89,131,115,114,125,99,105,128,127,100,130,126,129,145,143,124,154,151,144,153,152,0,0,0,0,0,0,0,0,0,0,0,0,0,0,0,0,0,0,116,90,148,134,135,149,146,133,132,0,0,0,0,0,0,0,0,0,0,0,0,0,0,0,0,0,0,0,0,0,0,0,0,64,0,0,0,0,0,29,28,22,13,10,31,32,36,17,33,61,12,26,14,25,11,34,35,16,37,18,8,19,3,4,5,6,7,23,15,0,0,0,0,0,0,0,0,0,0,0,0,0,0,0,0,0,0,0,0,0,0,0,0,0,0,0,0,0,0,0,0,0,0,0,0,0,0,0,0,0,0,0,0,0,0,0,0,0,0,0]
def aPT:List (Option Nat):=[none,none,none,some 224,some 225,some 226,some 227,some 228,some 222,some 27,some 205,some 216,some 212,some 204,some 214,some 230,some 219,some 209,some 221,some 223,some 28,some 0,some 203,some 229,some 67,some 215,some 213,some 94,some 202,some 201,some 96,some 206,some 207,some 210,some 217,some 218,some 208,some 220,some 4,some 2,some 29,some 47,some 7,some 5,some 50,some 76,some 73,some 70,some 68,some 56,some 54,some 74,some 72,some 69,some 77,some 80,some 104,some 111,some 95,some 112,some 110,some 211,some 81,some 1,some 195,some 58,some 35,some 59,some 62,some 71,some 75,some 55,some 53,some 38,some 51,some 52,some 61,some 66,some 49,some 88,some 105,some 97,some 99,some 117,some 115,some 114,some 102,some 106,some 108,some 123,some 163,some 34,some 33,some 65,some 64,some 46,some 60,some 32,some 116,some 128,some 132,some 113,some 120,some 119,some 118,some 129,some 121,some 122,some 98,some 103,some 100,some 107,some 109,some 101,some 126,some 125,some 162,some 41,some 39,some 63,some 30,some 57,some 37,some 36,some 138,some 127,some 134,some 131,some 130,some 135,some 133,some 124,some 170,some 169,some 165,some 166,some 31,some 45,some 44,some 42,some 40,some 43,some 48,some 137,some 141,some 136,some 168,none,some 164,some 167,none,some 140,some 143,some 142,some 139]
def num (n:Nat):FuncId:=aVD.getD n 0
def nameOf (f:FuncId):Option Nat:=aPT.getD f none
noncomputable def C:Ctx:=⟨Tryz.prog,num⟩
noncomputable def T (ro:List Nat):Tbl:={ P:=Tryz.prog,num:=num,name:=nameOf,ro:=ro }
def RX:Code→Option (Code × Code)
 | .rangeFunc _ _ a b=>some (a,b)
 | .seq a b=>match RX a with | some x=>some x | none=>RX b
 | .block _ c=>RX c
 | _=>none
def aMV (c:Option Code):Code:=match c with | some c=>((RX c).getD (.skip,.skip)).1 | none=>.skip
def aMW (c:Option Code):Code:=match c with | some c=>((RX c).getD (.skip,.skip)).2 | none=>.skip
theorem bJ (T:Tbl) {k:Nat} {fn:Func} {c:aS} (l:C.P.funcs[C.num k]?=some fn) (e:C.P=T.P:=by rfl) (d:C.num=T.num:=by rfl) (q:(fn.name=="runtime.NumGoroutine")=false:=by kernel_rfl) (i:T.func fn=some c:=by kernel_rfl):aM C k c:=fun _ _ _ p h=>arG e d l q i p h
theorem aMX (T:Tbl) {k:Nat} {fn:Func} {c:yS} (l:C.P.funcs[C.num k]?=some fn) (i:T.ajN fn=some c) (e:C.P=T.P:=by rfl) (d:C.num=T.num:=by rfl) (q:(fn.name=="runtime.NumGoroutine")=false:=by kernel_rfl):fg C k c:=fun _ _ _ p h=>ajA e d l q i p h
theorem a2N:aM C 226 PM.alY:=bJ (T aQA) Tryz.func5
theorem aUB:cF C:={
 r0:=bJ (T atC) Tryz.func21,
 r1:=bJ (T aFZ) Tryz.func63,
 r2:=bJ (T aPN) Tryz.func39,
 r4:=bJ (T aGE) Tryz.func38,
 r5:=bJ (T aPR) Tryz.func43,
 r7:=bJ (T aGA) Tryz.func42,
 r27:=bJ (T atB) Tryz.func9,
 r28:=bJ (T aPP) Tryz.func20,
 r29:=bJ (T aGD) Tryz.func40,
 r30:=bJ (T aSR) Tryz.func120,
 r31:=bJ (T aLL) Tryz.func136,
 r32:=bJ (T aSS) Tryz.func97,
 r33:=bJ (T aST) Tryz.func92,
 r34:=bJ (T aSU) Tryz.func91,
 r35:=bJ (T aLP) Tryz.func66,
 r36:=bJ (T aSV) Tryz.func123,
 r37:=bJ (T aSY) Tryz.func122,
 r38:=bJ (T aLX) Tryz.func73,
 r39:=bJ (T aoY) Tryz.func118,
 r40:=bJ (T aLO) Tryz.func140,
 r41:=bJ (T aAX) Tryz.func117,
 r42:=bJ (T aAY) Tryz.func139,
 r43:=bJ (T aLV) Tryz.func141,
 r44:=bJ (T aBB) Tryz.func138,
 r45:=bJ (T aWN) Tryz.func137,
 r46:=bJ (T aSZ) Tryz.func95,
 r47:=bJ (T aTA) Tryz.func41,
 r48:=bJ (T aBP) Tryz.func142,
 r49:=bJ (T aMB) Tryz.func78,
 r50:=bJ (T aMC) Tryz.func44,
 r51:=bJ (T aBQ) Tryz.func74,
 r52:=bJ (T apL) Tryz.func75,
 r53:=bJ (T aMD) Tryz.func72,
 r54:=bJ (T aME) Tryz.func50,
 r55:=bJ (T aTD) Tryz.func71,
 r56:=bJ (T aBS) Tryz.func49,
 r57:=bJ (T aLZ) Tryz.func121,
 r58:=bJ (T apK) Tryz.func65,
 r59:=bJ (T aMF) Tryz.func67,
 r60:=bJ (T aBR) Tryz.func96,
 r61:=bJ (T aHS) Tryz.func76,
 r62:=bJ (T apO) Tryz.func68,
 r63:=bJ (T aBT) Tryz.func119,
 r64:=bJ (T apN) Tryz.func94,
 r65:=bJ (T apP) Tryz.func93,
 r66:=bJ (T aTI) Tryz.func77,
 r67:=bJ (T aCH) Tryz.func24,
 r68:=bJ (T aTH) Tryz.func48,
 r69:=bJ (T aTG) Tryz.func53,
 r70:=bJ (T aBZ) Tryz.func47,
 r71:=bJ (T aCA) Tryz.func69,
 r72:=bJ (T W5) Tryz.func52,
 r73:=bJ (T aCC) Tryz.func46,
 r74:=bJ (T aCD) Tryz.func51,
 r75:=bJ (T aqB) Tryz.func70,
 r76:=bJ (T aqC) Tryz.func45,
 r77:=bJ (T Wa) Tryz.func54,
 r80:=bJ (T avQ) Tryz.func55,
 r81:=bJ (T amQ) Tryz.func62,
 r88:=bJ (T avC) Tryz.func79,
 r94:=bJ (T aEE) Tryz.func27,
 r95:=bJ (T aOL) Tryz.func58,
 r96:=bJ (T aOQ) Tryz.func30,
 r97:=bJ (T arS) Tryz.func81,
 r98:=bJ (T aEN) Tryz.func108,
 r99:=bJ (T aEO) Tryz.func82,
 r100:=bJ (T aEP) Tryz.func110,
 r101:=bJ (T aOO) Tryz.func113,
 r102:=bJ (T aER) Tryz.func86,
 r103:=bJ (T arT) Tryz.func109,
 r104:=bJ (T aUG) Tryz.func56,
 r105:=bJ (T aOM) Tryz.func80,
 r106:=bJ (T aON) Tryz.func87,
 r107:=bJ (T aES) Tryz.func111,
 r108:=bJ (T aET) Tryz.func88,
 r109:=bJ (T arW) Tryz.func112,
 r110:=bJ (T aEV) Tryz.func60,
 r111:=bJ (T aOK) Tryz.func57,
 r112:=bJ (T aOP) Tryz.func59,
 r113:=bJ (T aOC) Tryz.func101,
 r114:=bJ (T aOD) Tryz.func85,
 r115:=bJ (T aEK) Tryz.func84,
 r116:=bJ (T ajL) Tryz.func98,
 r117:=bJ (T aOJ) Tryz.func83,
 r118:=bJ (T arR) Tryz.func104,
 r119:=bJ (T aOB) Tryz.func103,
 r120:=bJ (T ajJ) Tryz.func102,
 r121:=bJ (T arQ) Tryz.func106,
 r122:=bJ (T aEM) Tryz.func107,
 r123:=bJ (T aFS) Tryz.func89,
 r124:=bJ (T asH) Tryz.func131,
 r125:=bJ (T asT) Tryz.func115,
 r126:=bJ (T akM) Tryz.func114,
 r127:=bJ (T aPS) Tryz.func125,
 r128:=bJ (T aGP) Tryz.func99,
 r129:=bJ (T aPU) Tryz.func105,
 r130:=bJ (T aPV) Tryz.func128,
 r131:=bJ (T aPX) Tryz.func127,
 r132:=bJ (T aGQ) Tryz.func100,
 r133:=bJ (T aPY) Tryz.func130,
 r134:=bJ (T aQB) Tryz.func126,
 r135:=bJ (T aGS) Tryz.func129,
 r136:=bJ (T alQ) Tryz.func145,
 r137:=bJ (T atN) Tryz.func143,
 r138:=bJ (T alV) Tryz.func124,
 r139:=bJ (T V0) Tryz.func154,
 r140:=bJ (T atP) Tryz.func151,
 r141:=bJ (T atQ) Tryz.func144,
 r142:=bJ (T P6) Tryz.func153,
 r143:=bJ (T aVE) Tryz.func152,
 r201:=bJ (T aNM) Tryz.func29,
 r202:=bJ (T aNQ) Tryz.func28,
 r203:=bJ (T aqR) Tryz.func22,
 r204:=bJ (T aqM) Tryz.func13,
 r205:=bJ (T aqO) Tryz.func10,
 r206:=bJ (T aqW) Tryz.func31,
 r207:=bJ (T aiM) Tryz.func32,
 r208:=bJ (T aDI) Tryz.func36,
 r209:=bJ (T aiQ) Tryz.func17,
 r210:=bJ (T aDS) Tryz.func33,
 r211:=bJ (T aqZ) Tryz.func61,
 r212:=bJ (T aEJ) Tryz.func12,
 r213:=bJ (T aQO) Tryz.func26,
 r214:=bJ (T auQ) Tryz.func14,
 r215:=bJ (T amF) Tryz.func25,
 r216:=bJ (T aQQ) Tryz.func11,
 r217:=bJ (T avA) Tryz.func34,
 r218:=bJ (T aQU) Tryz.func35,
 r219:=bJ (T aHO) Tryz.func16,
 r220:=bJ (T aHJ) Tryz.func37,
 r221:=bJ (T amJ) Tryz.func18,
 r222:=bJ (T atI) Tryz.func8,
 r223:=bJ (T atL) Tryz.func19,
 r229:=⟨aMV Tryz.f23.body,aMW Tryz.f23.body,aMX (T aDQ) Tryz.func23 (by kernel_rfl)⟩,
 r230:=⟨aMV Tryz.f15.body,aMW Tryz.f15.body,aMX (T aDO) Tryz.func15 (by kernel_rfl)⟩ }
end Go.Proofs.YtgfeljaimmnmmaaGreatDoor
namespace Go.Proofs.YtgfeljaimmnmmaaGreatDoor
open Go Go.PM Go.RowKit Go.ChangeShapes Go.WideShapes
theorem Tryz.own:ownKnob Tryz.prog.godebug=none:=by kernel_rfl
theorem Tryz.laidOut:laidOutB Tryz.prog=true:=by kernel_rfl
theorem itoa:oJ C:=fun n p=>by
 refine⟨⟨Tryz.f64,Tryz.func64,by kernel_rfl,by kernel_rfl⟩,fun E w vs q hW c=>?_⟩;obtain⟨u⟩:=vs;cases c with
 | cons d i =>
 cases i;cases d;refine (Any.strconv_Itoa_small Tryz.aPK n p w).mono fun e x l=>?_;obtain⟨rfl,rfl⟩:=l;exact⟨_,.str (cT n),E,.nil,rfl,hW,.str ⟨(Lib.decDigits n).toArray⟩,.refl _ _ _,rfl,rfl⟩
end Go.Proofs.YtgfeljaimmnmmaaGreatDoor
namespace Go.PM
open Go Go.RowKit Go.ChangeShapes Go.WideShapes
theorem Uz {H:Type} {enc:TypeId × Value→H} {P:Program} {W:World} {r:Reach} {base:Nat} {sp:Nat→Bool} {held:Bool} (num:Nat→FuncId) {t:TypeId} {v:Value} {d:DataW H} {ps:List MemPlace} {w:Array Field} {n:Nat} {cts:List CT}
  (p:P.underlying t=some (.struct w)) (l:Value.okWide P W r base t v) (B:DataW.Trod enc P W 0 sp held t v d ps) (A:gE P n t=some cts) :
  ∃ c,aZ (Env.of W num) (.agg c) v∧c.length=cts.length∧(∀ (j:Nat) pv ct,c[j]?=some pv→cts[j]?=some ct→PV.Ty ct pv)∧∀ N S,tM P N S→S t d→PV.Len N (.agg c):=by
 obtain⟨cs,rfl,-⟩:=okWide_struct p l;obtain⟨fuel,h⟩:=B;obtain⟨c,e,i⟩:=R7 num fuel n t _ _ cts h A;have E:cs.size=c.length:=by have:=e.lc; rw[e.lp,← this]; simp[Value.cells]
 refine⟨c,.agg cs E (fun u p=>?_) (fun j pv u a b=>(e.rep j pv u a (by simpa [Value.cells] using b)).1),e.lp,e.ty,fun N S x y=>.agg (i N S x y)⟩;obtain⟨j,q,rfl⟩:=a9C p;simp only[a9P] at q;exact (e.rep j _ _ (a6Y Om) (by simp[Value.cells,q])).2
theorem rC {H:Type} {enc:TypeId × Value→H} {P:Program} {W:World} {sp:Nat→Bool} {held:Bool} (num:Nat→FuncId) {t:TypeId} {v:Value} {d:DataW H} {ps:List MemPlace} {n:Nat} {ct:CT}
  (x:v.cells=#[v]) (u:DataW.Trod enc P W 0 sp held t v d ps) (q:gE P n t=some [ct]):∃ pv,aZ (Env.of W num) pv v∧PV.Ty ct pv∧∀ N S,tM P N S→S t d→PV.Len N pv:=by
 obtain⟨fuel,h⟩:=u;obtain⟨i,e,c⟩:=R7 num fuel n t _ _ [ct] h q;rw[x] at e;have w:=e.lp;cases i with
 | nil=>simp at w
 | cons pv rest=>exact⟨pv,(e.rep 0 pv v rfl rfl).1,e.ty 0 pv ct rfl rfl,fun N S l p=>c N S l p pv (by simp)⟩
section
variable {H:Type} {enc:TypeId × Value→H} {P:Program} {W:World} {sp:Nat→Bool} {held:Bool}
theorem aNF {r:Reach} {base:Nat} (num:Nat→FuncId) {t:TypeId} {v:Value} {d:DataW H} {ps:List MemPlace} {n:Nat} {a:AT}
  (c:Value.okWide P W r base t v) (w:DataW.Trod enc P W 0 sp held t v d ps) (l:aiA P n t=some a):∃ pv,aZ (Env.of W num) pv v∧AT.Ty a pv∧∀ N S,tM P N S→S t d→PV.Len N pv:=by
 unfold aiA at l;cases n with
 | zero =>
  split at l
  ·rename_i i;cases l;obtain⟨b,rfl⟩:=okWide_bool i c;obtain⟨pv,p,q,u⟩:=rC (n:=1) (ct:=.bool) num (by simp[Value.cells]) w (by simp[gE,i]);exact⟨pv,p,.one q,u⟩
  ·rename_i k i;cases l;obtain⟨b,rfl⟩:=okWide_int i c;obtain⟨pv,p,q,u⟩:=rC (n:=1) (ct:=.int k) num (by simp[Value.cells]) w (by simp[gE,i]);exact⟨pv,p,.one q,u⟩
  ·rename_i i;cases l;obtain⟨b,rfl⟩:=okWide_string i c;obtain⟨pv,p,q,u⟩:=rC (n:=1) (ct:=.str) num (by simp[Value.cells]) w (by simp[gE,i]);exact⟨pv,p,.one q,u⟩
  ·simp[gE] at l
  ·simp[gE] at l
  ·cases l
 | succ n =>
  split at l
  ·rename_i i;cases l;obtain⟨b,rfl⟩:=okWide_bool i c;obtain⟨pv,p,q,u⟩:=rC (n:=n+1) (ct:=.bool) num (by simp[Value.cells]) w (by simp[gE,i]);exact⟨pv,p,.one q,u⟩
  ·rename_i k i;cases l;obtain⟨b,rfl⟩:=okWide_int i c;obtain⟨pv,p,q,u⟩:=rC (n:=n+1) (ct:=.int k) num (by simp[Value.cells]) w (by simp[gE,i]);exact⟨pv,p,.one q,u⟩
  ·rename_i i;cases l;obtain⟨b,rfl⟩:=okWide_string i c;obtain⟨pv,p,q,u⟩:=rC (n:=n+1) (ct:=.str) num (by simp[Value.cells]) w (by simp[gE,i]);exact⟨pv,p,.one q,u⟩
  ·rename_i e i;split at l
   ·rename_i ct y;cases l;obtain⟨x,len,cap,rfl⟩:=okWide_slice i c;obtain⟨pv,p,q,u⟩:=rC num (by simp[Value.cells]) w y;exact⟨pv,p,.one q,u⟩
   ·cases l
  ·rename_i E i;rw[a6U] at l;obtain⟨cts,y,rfl⟩:=l;obtain⟨B,p,q,A,u⟩:=Uz num i c w y;exact⟨_,p,.struct q A,u⟩
  ·cases l
theorem H9 {r:Reach} {base:Nat} (num:Nat→FuncId) {n:Nat}:∀ {ts:List TypeId} {vs:List Value} {ds:List (DataW H)} {ps:List MemPlace} {e:List AT},DataW.TrodAll enc P W 0 sp held ts vs ds ps →
  (∀ (j:Nat) t v,ts[j]?=some t→vs[j]?=some v→Value.okWide P W r base t v)→FA P n ts=some e→∃ c,eE (Env.of W num) c vs∧AT.TyL e c∧∀ N S,tM P N S→(∀ (j:Nat) t d,ts[j]?=some t→ds[j]?=some d→S t d)→∀ v∈c,PV.Len N v
 | [],[],_,_,e,_,_,h=>by simp[FA] at h;subst h;exact⟨[],.nil,trivial,fun _ _ _ _ v hv=>by cases hv⟩
 | [],_::_,_,_,_,h,_,_=>h.elim
 | _::_,[],[],_,_,h,_,_=>h.elim
 | _::_,[],_::_,_,_,h,_,_=>h.elim
 | _::_,_::_,[],_,_,h,_,_=>h.elim
 | t::ts,v::vs,d::ds,ps,e,h,hv,i=>by
  obtain⟨p,q,B,E,rfl⟩:=h;simp only[FA] at i;split at i
  ·rename_i a w y A;cases i;obtain⟨pv,r1,M,F⟩:=aNF num (hv 0 t v rfl rfl) B y;obtain⟨c,r2,O,J⟩:=H9 num E (fun j t v a b=>hv (j+1) t v (by simpa using a) (by simpa using b)) A;exact⟨pv::c,.cons r1 r2,⟨M,O⟩,fun N S l u v hv=>by
    rcases a6V.1 hv with rfl | hv
    ·exact F N S l (u 0 t d rfl rfl)
    ·exact J N S l (fun j K x a b=>u (j+1) K x (by simpa using a) (by simpa using b)) v hv⟩
  ·cases i
end
theorem F0 {H:Type} {enc:TypeId × Value→H} {P:Program} {f:FuncId} {fn:Func} {s:ChangeSpec} {apart fresh c:Bool} {bt:TypeId} {num:Nat→FuncId} {name n:Nat} {ats:List AT}
  (hl:laidOutB P=true) (K:fn.params.toList.all (fun t=>P.readableRec t&&decide (t<P.types.size))=true) (F:fn.resultTypes=#[bt]) (E:P.underlying bt=some .bool) (Q:s.vars=[])
  (hs:∀ ds:List (DataW H),ds.length=fn.params.toList.length→(s.fn H ds).results=[.lit (.bool true)]∧(s.fn H ds).args=ds∧(s.fn H ds).vars=[])
  (x:num name=f) (X:FA P n fn.params.toList=some ats) {N:Nat} {S:TypeId→DataW H→Prop} (U:tM P N S) (h:∀ i,AT.TyL ats i→(∀ v∈i,PV.Len N v)→aG ⟨P,num⟩ name i PH.nil (aF (.bool true)))
  {W:World} {base:Nat} {args:Array Value} {ds R:List (DataW H)} {l:List MemPlace}
  (A:∀ (j:Nat) t v,fn.params[j]?=some t→args[j]?=some v→Value.okWide P W .any base t v) (hW:DataW.Whole enc P fn.params.toList s.vars apart W args.toList ds R l) (V:∀ (j:Nat) t d,fn.params.toList[j]?=some t→ds[j]?=some d→S t d) :
  Calls P f args W fun e M=>∃ v,e=.returned v∧s.post enc P fn apart fresh c false W args v M:=by
 have y:∀ t∈fn.params.toList,P.readableRec t=true∧t<P.types.size:=fun t J=>by have:=a7B.1 K t J;simpa using this
 have B:=hW;obtain⟨p,q,O,hV,rfl,hz,hn⟩:=hW;rw[Q] at hV;obtain⟨rfl,rfl⟩:=trodVars_none hV;obtain⟨i,hr,J,u⟩:=H9 num O (fun j t v a b=>A j t v (by simpa using a) (by simpa using b)) X;have w:=TrodAll.length O;subst x;obtain⟨r1,r2,r3⟩:=hs (ds++[]) (by simpa using w);refine (asC (C:=⟨P,num⟩) (h i J (u N S U V)) hr).mono fun e M Z=>?_;obtain⟨rfl,Y⟩:=Z;exact⟨_,rfl,auO hl B Y y F E Q r1 (by rw[r2]; simp) r3⟩
def vI (P:Program) (w:Nat):Nat→TypeId→Bool
 | 0,_=>false
 | n+1,t=>match P.underlying t with
  | some (.slice e)=>decide (w≤P.bytesOf e)&&vI P w n e
  | some (.struct c)=>c.toList.all fun g=>vI P w n g.type
  | some (.array _ e)=>vI P w n e
  | _=>true
def wtS {H:Type} (P:Program) (w:Nat) (t:TypeId) (d:DataW H):Prop:=(d.weights P t).all (·≤reachBytes)=true∧∃ n,vI P w n t=true
theorem wI {H:Type} {P:Program} {e:TypeId}:∀ {l:List (DataW H)},(DataW.weightsAll P e l).all (·≤reachBytes)=true→∀ d∈l,(d.weights P e).all (·≤reachBytes)=true
 | [],_,_,hd=>by cases hd
 | x::r,h,d,hd=>by
  rw[DataW.weightsAll,a9X,a7E] at h;rcases a6V.1 hd with rfl | hd
  ·exact h.1
  ·exact wI h.2 d hd
theorem uL {H:Type} {P:Program}:∀ {ts:List TypeId} {l:List (DataW H)},(DataW.weightsEach P ts l).all (·≤reachBytes)=true→∀ (j:Nat) t d,ts[j]?=some t→l[j]?=some d→(d.weights P t).all (·≤reachBytes)=true
 | [],_,_,j,t,d,a,_=>by simp at a
 | _::_,[],_,j,t,d,_,b=>by simp at b
 | t0::ts,x::r,h,j,t,d,a,b=>by
  rw[DataW.weightsEach,a9X,a7E] at h;cases j with
  | zero=>simp at a b; subst a; subst b; exact h.1
  | succ j=>exact uL h.2 j t d (by simpa using a) (by simpa using b)
theorem aTF {H:Type} (P:Program) {w:Nat} (x:0<w):tM (H:=H) P (reachBytes/w) (wtS P w) where
 sl:=fun t e u y p ⟨l,n,c⟩=>by
  cases n with
  | zero=>cases c
  | succ n =>rw[vI,p] at c;simp only[a7E,decide_eq_true_eq] at c;rw[DataW.weights,p] at l;simp only[List.all_cons,a9X,a7E,decide_eq_true_eq] at l;refine⟨(Nat.le_div_iff_mul_le x).2 (a7U ?_ l.1),fun d q=>⟨wI l.2.1 d q,n,c.2⟩⟩;exact Nat.mul_le_mul (Nat.le_add_right _ _) c.1
 st:=fun t B parts p ⟨l,n,c⟩ i g d A q=>by
  cases n with
  | zero=>cases c
  | succ n =>
   rw[vI,p] at c;rw[DataW.weights,p] at l;refine⟨uL l i g.type d ?_ q,n,a7B.1 c g ?_⟩
   ·simp[A]
   ·rw[Array.mem_toList_iff]; exact Array.mem_of_getElem? A
 ar:=fun t k e parts p ⟨l,n,c⟩ d q=>by
  cases n with
  | zero=>cases c
  | succ n =>rw[vI,p] at c;rw[DataW.weights,p] at l;exact⟨wI l d q,n,c⟩
open Go Go.Na
def mL (N:Nat):List CT→List PV→Prop
 | [],[]=>True
 | e::c,v::r=>(PV.Ty e v∧PV.Len N v)∧mL N c r
 | _,_=>False
theorem mL.of {N:Nat}:∀ {d:List CT} {r:List PV},r.length=d.length→(∀ (j:Nat) pv ct,r[j]?=some pv→d[j]?=some ct→PV.Ty ct pv)→(∀ v∈r,PV.Len N v)→mL N d r
 | [],[],_,_,_=>trivial
 | e::d,v::r,c,h,i=>⟨⟨h 0 v e rfl rfl,i v (by simp)⟩,mL.of (by simpa using c) (fun j pv ct a b=>h (j+1) pv ct (by simpa using a) (by simpa using b)) fun u l=>i u (List.mem_cons_of_mem _ l)⟩
 | [],_::_,c,_,_=>by simp at c
 | _::_,[],c,_,_=>by simp at c
theorem Nd {α:Type} {Q:List PV→Prop} {cells:α→List PV} {P:α→Prop} (c:∀ r,Q r→∃ x,r=cells x∧P x):∀ {rows:List (List PV)},(∀ r∈rows,Q r)→∃ l:List α,rows=l.map cells∧∀ x∈l,P x
 | [],_=>⟨[],rfl,fun x h=>by cases h⟩
 | r::rs,h=>by obtain⟨x,rfl,p⟩:=c r (h r (by simp));obtain⟨l,rfl,d⟩:=Nd c (rows:=rs) fun u i=>h u (List.mem_cons_of_mem _ i);exact⟨x::l,rfl,fun y q=>(a6V.1 q).elim (fun e=>e ▸ p) (d y)⟩
theorem pK {α:Type} {N:Nat} {c:List CT} {pv:PV} {cells:α→List PV} {P:α→Prop} (e:∀ r,mL N c r→∃ x,r=cells x∧P x) (h:PV.Ty (.sl c) pv∧PV.Len N pv):∃ l:List α,pv=.sl c.length (l.map cells)∧l.length≤N∧∀ x∈l,P x:=by
 obtain⟨h,p⟩:=h;cases h with
 | @sl c rows q d h =>
 obtain⟨w,y⟩:=p.rows;obtain⟨l,rfl,u⟩:=Nd e (rows:=rows) fun r d=>.of (q r d) (fun j pv ct a b=>by obtain⟨i,hi,rfl⟩:=a9C d;exact h i j pv ct (by unfold at2; rw[a6Y hi,a9V]; exact a) b) (y r d);exact⟨l,rfl,by simpa using w,u⟩
abbrev NB:Nat:=35184372087808
abbrev It:CT:=.int .i64
abbrev Ut:CT:=.sl [.int .u32]
abbrev Ft:CT:=.sl [.bool,Ut,Ut]
theorem aaV {N:Nat} (r:List PV) (h:mL N [.int .u32] r):∃ n:Nat,r=[.int .u32 (n:Int)]∧n<4294967296:=by
 match r,h with
 | [v],⟨⟨h,_⟩,_⟩ =>obtain⟨m,rfl,d⟩:=Ty.tX h;have c:=d.1;have e:=d.2;rw[show IntKind.u32.min=0 by decide] at c;rw[show IntKind.u32.max=4294967295 by decide] at e;exact⟨m.toNat,by rw[Int.toNat_of_nonneg c],by omega⟩
theorem jC {v:PV} (h:PV.Ty It v):∃ n:Int,v=.int .i64 n∧dE n:=by
 obtain⟨m,rfl,e⟩:=Ty.tX h;have c:=e.1;have d:=e.2;rw[show IntKind.i64.min=-9223372036854775808 by decide] at c;rw[show IntKind.i64.max=9223372036854775807 by decide] at d;exact⟨m,rfl,c,d⟩
theorem aOY {N:Nat} (r:List PV) (h:mL N [It] r):∃ n:Int,r=[.int .i64 n]∧dE n:=by
 match r,h with
 | [v],⟨⟨h,_⟩,_⟩ =>obtain⟨n,rfl,c⟩:=jC h;exact⟨n,rfl,c⟩
theorem UK {a b c:PV} (d:PV.Ty .bool a) (e:PV.Ty Ut b∧PV.Len NB b) (i:PV.Ty Ut c∧PV.Len NB c):∃ x:RF,a=.bool x.neg∧b=aI x.num∧c=aI x.den∧x.Ok:=by
 obtain⟨n,rfl⟩:=Ty.aCX d;obtain⟨xs,rfl,l,q⟩:=pK aaV e;obtain⟨ys,rfl,p,u⟩:=pK aaV i;exact⟨⟨n,xs,ys⟩,rfl,rfl,rfl,q,u,l,p⟩
theorem aEL (r:List PV) (h:mL NB [.bool,Ut,Ut] r):∃ x:RF,r=x.cells∧x.Ok:=by
 match r,h with
 | [a,b,c],⟨d,e,i,_⟩ =>obtain⟨x,rfl,rfl,rfl,l⟩:=UK d.1 e i;exact⟨x,rfl,l⟩
theorem pU {α:Type} {l:List α} (h:l.length≤NB):Fits l:=a7U h (by decide)
theorem UL {v:PV} (h:PV.Ty Ft v∧PV.Len NB v):∃ l:List RF,v=frs l∧gY l:=by
 obtain⟨l,rfl,c,d⟩:=pK aEL h;exact⟨l,rfl,pU c,d⟩
theorem aOH (r:List PV) (h:mL NB [Ft] r):∃ l:List RF,r=[frs l]∧gY l:=by
 match r,h with
 | [v],⟨h,_⟩ =>obtain⟨l,rfl,c⟩:=UL h;exact⟨l,rfl,c⟩
theorem aPJ (r:List PV) (h:mL NB [.str,Ft,.sl [Ft],Ft] r):∃ x:cG,r=x.cells∧x.Ok:=by
 match r,h with
 | [_,_,_,_],⟨d,e,i,l,_⟩ =>obtain⟨s,rfl,-⟩:=Ty.yO d.1;obtain⟨a,rfl,p⟩:=UL e;obtain⟨b,rfl,w,q⟩:=pK aOH i;obtain⟨c,rfl,u⟩:=UL l;exact⟨⟨s,a,b,c⟩,rfl,p,u,pU w,q⟩
theorem atG (r:List PV) (h:mL NB [.str,It,It,It] r):∃ x:cQ,r=x.cells∧True:=by
 match r,h with
 | [_,_,_,_],⟨d,e,i,l,_⟩ =>obtain⟨s,rfl,-⟩:=Ty.yO d.1;obtain⟨a,rfl,-⟩:=jC e.1;obtain⟨b,rfl,-⟩:=jC i.1;obtain⟨c,rfl,-⟩:=jC l.1;exact⟨⟨s,a,b,c⟩,rfl,trivial⟩
theorem aNZ (r:List PV) (h:mL NB [.str,It,It,It,.bool,Ut,Ut] r):∃ x:cE,r=x.cells∧x.a5O.Ok∧dE x.level∧dE x.parent:=by
 match r,h with
 | [_,_,_,_,_,_,_],⟨d,e,i,l,h5,p,h7,_⟩ =>obtain⟨s,rfl,-⟩:=Ty.yO d.1;obtain⟨a,rfl,u⟩:=jC e.1;obtain⟨b,rfl,w⟩:=jC i.1;obtain⟨c,rfl,-⟩:=jC l.1;obtain⟨x,rfl,rfl,rfl,q⟩:=UK h5.1 p h7;exact⟨⟨s,a,b,c,x⟩,rfl,q,u,w⟩
theorem arE (r:List PV) (h:mL NB [.str,It,It] r):∃ x:dN,r=x.cells∧dE x.model∧dE x.machine:=by
 match r,h with
 | [_,_,_],⟨c,d,e,_⟩ =>obtain⟨s,rfl,-⟩:=Ty.yO c.1;obtain⟨a,rfl,i⟩:=jC d.1;obtain⟨b,rfl,l⟩:=jC e.1;exact⟨⟨s,a,b⟩,rfl,i,l⟩
theorem aQL (r:List PV) (h:mL NB [.str,It,It,It,It,It,It,It,It,.sl [It],Ft,.bool,Ut,Ut,.bool,Ut,Ut] r):∃ x:bT,r=x.cells∧x.Ok:=by
 match r,h with
 | [_,_,_,_,_,_,_,_,_,_,_,_,_,_,_,_,_],⟨i,l,p,u,s0,s1,s2,s3,s4,w,y,K,M,N,O,Q,R,_⟩ =>obtain⟨s,rfl,-⟩:=Ty.yO i.1;obtain⟨k,rfl,E⟩:=jC l.1;obtain⟨m,rfl,F⟩:=jC p.1;obtain⟨q,rfl,H⟩:=jC u.1;obtain⟨e,rfl,-⟩:=jC s0.1;obtain⟨a1,rfl,-⟩:=jC s1.1;obtain⟨a2,rfl,-⟩:=jC s2.1;obtain⟨a3,rfl,-⟩:=jC s3.1;obtain⟨a4,rfl,-⟩:=jC s4.1;obtain⟨ms,rfl,J,c⟩:=pK aOY w;obtain⟨rs,rfl,d⟩:=UL y;obtain⟨t,rfl,rfl,rfl,A⟩:=UK K.1 M N;obtain⟨z,rfl,rfl,rfl,B⟩:=UK O.1 Q R;exact⟨⟨s,k,m,q,e,a1,a2,a3,a4,ms,rs,t,z⟩,rfl,E,F,H,pU J,c,d,A,B⟩
theorem aTC (r:List PV) (h:mL NB [.str,It] r):∃ x:eO,r=x.cells∧dE x.a5L:=by
 match r,h with
 | [_,_],⟨c,d,_⟩ =>obtain⟨s,rfl,-⟩:=Ty.yO c.1;obtain⟨a,rfl,e⟩:=jC d.1;exact⟨⟨s,a⟩,rfl,e⟩
def tv:List CT:=[It,.sl [.str,Ft,.sl [Ft],Ft],.sl [.str,It,It,It],.sl [.str,It,It,It,.bool,Ut,Ut],.sl [.str,It,It],.sl [.str,It,It,It,It,It,It,It,It,.sl [It],Ft,.bool,Ut,Ut,.bool,Ut,Ut],.sl [.str,It]]
structure aE.aXU (f:aE):Prop where
 a5G:f.a5G.length≤NB
 a5A:f.a5A.length≤NB
 a5D:f.a5D.length≤NB
theorem arP {pv:PV} (h:AT.Ty (.struct tv) pv) (H:PV.Len NB pv):∃ f:aE,pv=.agg f.cells∧f.Ok∧f.aXU:=by
 cases h with
 | @struct cts i J h =>
 have M:mL NB tv i:=.of J h H.parts
 match i,M with
 | [_,_,_,_,_,_,_],⟨u,w,x,y,h5,A,h7,_⟩ =>obtain⟨e,rfl,-⟩:=jC u.1;obtain⟨a,rfl,l,B⟩:=pK aPJ w;obtain⟨b,rfl,q,-⟩:=pK atG x;obtain⟨c,rfl,lc,E⟩:=pK aNZ y;obtain⟨d,rfl,O,F⟩:=pK arE h5;obtain⟨p,rfl,lp,K⟩:=pK aQL A;obtain⟨v,rfl,lv,N⟩:=pK aTC h7;exact⟨⟨e,a,b,c,d,p,v⟩,rfl,⟨pU l,pU q,pU lc,pU O,pU lp,pU lv,B,E,F,K,N⟩,l,q,lp⟩
end Go.PM
