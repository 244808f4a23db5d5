/-
  The law of the claim returns true at every input, and its argument reads as it did: the tied card. No condition.
-/
import Derived.Test.YtgfeljaimmnmmaaGreatDoorGr1
import Derived.Test.YtgfeljaimmnmmaaGreatDoorGr2
import Derived.Test.YtgfeljaimmnmmaaGreatDoorGr3
import Derived.Test.YtgfeljaimmnmmaaGreatDoorGr4
import Derived.Test.YtgfeljaimmnmmaaGreatDoorGr5
import Derived.Test.YtgfeljaimmnmmaaGreatDoorProg
import Derived.KernelRfl
import Derived.Test.YtgfeljaimmnmmaaGreatDoorRows
import Derived.ProofKit
import Derived.WalkKit
import Derived.LaidMore
import Derived.OpenShut
import Derived.Stop.Joined
import Derived.Test.YtgfeljaimmnmmaaGreatDoorTie
import Derived.Test.YtgfeljaimmnmmaaGreatDoorCards
set_option linter.unusedSimpArgs false
set_option linter.unusedVariables false
open Nat renaming reduceEqDiff → γ, reduceAdd → δ, reduceSub → ε, reduceMul → ζ, reduceLT → η, reduceLeDiff → θ, reduceBEq → τ
open Int renaming reduceLT → ι, reduceLE → κ, reduceEq → μ, reduceToNat → ν, reduceAdd → ξ, reduceNeg → ο, reduceBEq → ρ, reduceBNe → σ
open List renaming reduceReplicate → υ
open List renaming length_map → aXI, replicate → aXK, getElem_mem → aXM, length_append → aXN, mem_cons → aXP, range → aXQ, length_singleton → aXR, getElem?_eq_getElem → aXT, not_mem_nil → aXX, take_of_length_le → aXY, length_take → aYA, all_eq_true → aYF, getElem?_map → aYG, mem_map → aYH, getD_eq_getElem?_getD → aYK, map_append → aYN, drop_zero → aYO, getElem?_eq_some_iff → aYP, append_assoc → aYQ, take_length → aYS, getElem?_eq_none → aYT, map_cons → aYU, mem_range → aYV, getElem_of_mem → aYZ, length_cons → aZA, mem_append → aZC, range' → aZF, drop_eq_getElem_cons → aZG, getElem_map → aZH, length_drop → aZI, Sublist → aZJ, append_nil → aZK, length_set → aZM, map_nil → aZN, take_succ_eq_append_getElem → aZT, length_nil → aZV, mem_singleton → aZW, getElem?_append_right → aZY, nodup_append → aZZ, getElem?_append_left → a0C, mem_of_getElem? → a0D, take_append_drop → a0E, ext_getElem → a0K, set_append_right → a0L, getElem?_take → a0Q, drop_of_length_le → a0W, map_congr_left → a0X, set_cons_zero → a0Y, getElem_append_right → a1A
open Nat renaming gcd → aXJ, le_refl → aXL, mul_add → aXS, zero_le → aXU, lt_or_ge → aXZ, mul_assoc → aYC, zero_add → aYD, mul_comm → aYI, mul_le_mul_right → aYL, add_mul → aYM, mod_eq_of_lt → aYR, mod_lt → aYW, pow_succ → aZB, le_trans → aZD, add_assoc → aZO, add_zero → aZP, min_eq_left → aZQ, mul_le_mul_left → aZR, pos_of_ne_zero → aZU, eq_zero_or_pos → aZX, pow_pos → a0A, div_le_self → a0F, succ_mul → a0G, div_lt_iff_lt_mul → a0H, mul_le_mul → a0O, div_add_mod → a0R, div_eq_of_lt → a0S, pow_le_pow_right → a0Z
open Option renaming map_eq_some_iff → aXO, map_some → aYX, some → aZS, getD_some → a0I, bind_eq_some_iff → a0T, bind_some → a0U
open Bool renaming false_and → aXV, not_true → aXW, and_eq_true → aYB, true_and → aYE, not_false → aYJ, and_false → aYY, and_true → a0B, false_eq_true → a0N
open Array renaming replicate → aZE, length_toList → a0J, getElem?_eq_some_iff → a0M, getElem?_eq_getElem → a0P, getD_eq_getD_getElem? → a0V
open Int renaming toNat_natCast → aZL
namespace Go.Proofs.YtgfeljaimmnmmaaGreatDoor
open Go Go.PM
def aJS:List Nat:=[21,63,39,0,38,43,0,42,0,0,0,0,0,0,0,0,0,0,0,0,0,0,0,0,0,0,0,9,20,40,120,136,97,92,91,66,123,122,73,118,140,117,139,141,138,137,95,41,142,78,44,74,75,72,50,71,49,121,65,67,96,76,68,119,94,93,77,24,48,53,47,69,52,46,51,70,45,54,0,0,55,62,0,0,0,0,0,0,79,0,0,0,0,0,27,58,30,81,108,82,110,113,86,109,56,80,87,111,88,112,60,57,59,101,85,84,98,83,104,103,102,106,107,89,131,115,114,125,99,105,128,127,100,130,126,129,145,143,124,154,151,144,153,152,0,0,0,0,0,0,0,0,0,0,0,0,0,0,0,0,0,0,116,90,148,134,135,149,146,133,132,0,0,0,0,0,0,0,0,0,0,0,0,0,0,0,0,0,0,0,0,0,0,0,0,64,0,0,0,0,0,29,28,22,13,10,31,32,36,17,33,61,12,26,14,25,11,34,35,16,37,18,8,19,3,4,5,6,7,23,15,0,0,0,0,0,0,0,0,0,0,0,0,0,0,0,0,0,0,0,0,0,0,0,0,0,0,0,0,0,0,0,0,0,0,0,0,0,0,0,0,0,0,0,0,0,0,0]
def aBX:List (Option Nat):=[none,none,none,some 224,some 225,some 226,some 227,some 228,some 222,some 27,some 205,some 216,some 212,some 204,some 214,some 230,some 219,some 209,some 221,some 223,some 28,some 0,some 203,some 229,some 67,some 215,some 213,some 94,some 202,some 201,some 96,some 206,some 207,some 210,some 217,some 218,some 208,some 220,some 4,some 2,some 29,some 47,some 7,some 5,some 50,some 76,some 73,some 70,some 68,some 56,some 54,some 74,some 72,some 69,some 77,some 80,some 104,some 111,some 95,some 112,some 110,some 211,some 81,some 1,some 195,some 58,some 35,some 59,some 62,some 71,some 75,some 55,some 53,some 38,some 51,some 52,some 61,some 66,some 49,some 88,some 105,some 97,some 99,some 117,some 115,some 114,some 102,some 106,some 108,some 123,some 163,some 34,some 33,some 65,some 64,some 46,some 60,some 32,some 116,some 128,some 132,some 113,some 120,some 119,some 118,some 129,some 121,some 122,some 98,some 103,some 100,some 107,some 109,some 101,some 126,some 125,some 162,some 41,some 39,some 63,some 30,some 57,some 37,some 36,some 138,some 127,some 134,some 131,some 130,some 135,some 133,some 124,some 170,some 169,some 165,some 166,some 31,some 45,some 44,some 42,some 40,some 43,some 48,some 137,some 141,some 136,some 168,none,some 164,some 167,none,some 140,some 143,some 142,some 139]
def num (n:Nat):FuncId:=aJS.getD n 0
def nameOf (f:FuncId):Option Nat:=aBX.getD f none
noncomputable def C:Ctx:=⟨Tryz.prog,num⟩
noncomputable def T (ro:List Nat):Tbl:={ P:=Tryz.prog,num:=num,name:=nameOf,ro:=ro }
def MV:Code→Option (Code × Code)
 | .rangeFunc _ _ a b=>some (a,b)
 | .seq a b=>match MV a with | some x=>some x | none=>MV b
 | .block _ c=>MV c
 | _=>none
def vk (c:Option Code):Code:=match c with | some c=>((MV c).getD (.skip,.skip)).1 | none=>.skip
def vm (c:Option Code):Code:=match c with | some c=>((MV c).getD (.skip,.skip)).2 | none=>.skip
theorem q0:aE C 0 PM.KN:=bD (T acQ) rfl rfl Tryz.func21 (by kernel_rfl) (by kernel_rfl)
theorem q1:aE C 1 PM.aw:=bD (T arW) rfl rfl Tryz.func63 (by kernel_rfl) (by kernel_rfl)
theorem q2:aE C 2 PM.Dp:=bD (T aBS) rfl rfl Tryz.func39 (by kernel_rfl) (by kernel_rfl)
theorem q4:aE C 4 PM.OW:=bD (T asB) rfl rfl Tryz.func38 (by kernel_rfl) (by kernel_rfl)
theorem q5:aE C 5 PM.D3:=bD (T aBV) rfl rfl Tryz.func43 (by kernel_rfl) (by kernel_rfl)
theorem q7:aE C 7 PM.OU:=bD (T arX) rfl rfl Tryz.func42 (by kernel_rfl) (by kernel_rfl)
theorem q27:aE C 27 PM.KJ:=bD (T acO) rfl rfl Tryz.func9 (by kernel_rfl) (by kernel_rfl)
theorem q28:aE C 28 PM.Dz:=bD (T aBT) rfl rfl Tryz.func20 (by kernel_rfl) (by kernel_rfl)
theorem q29:aE C 29 PM.ba:=bD (T asA) rfl rfl Tryz.func40 (by kernel_rfl) (by kernel_rfl)
theorem q30:aE C 30 PM.awB:=bD (T aFC) rfl rfl Tryz.func120 (by kernel_rfl) (by kernel_rfl)
theorem q31:aE C 31 PM.de:=bD (T awC) rfl rfl Tryz.func136 (by kernel_rfl) (by kernel_rfl)
theorem q32:aE C 32 PM.Hg:=bD (T aFD) rfl rfl Tryz.func97 (by kernel_rfl) (by kernel_rfl)
theorem q33:aE C 33 PM.udiv:=bD (T aFE) rfl rfl Tryz.func92 (by kernel_rfl) (by kernel_rfl)
theorem q34:aE C 34 PM.Hx:=bD (T aFF) rfl rfl Tryz.func91 (by kernel_rfl) (by kernel_rfl)
theorem q35:aE C 35 PM.du:=bD (T awG) rfl rfl Tryz.func66 (by kernel_rfl) (by kernel_rfl)
theorem q36:aE C 36 PM.awH:=bD (T aFN) rfl rfl Tryz.func123 (by kernel_rfl) (by kernel_rfl)
theorem q37:aE C 37 PM.awP:=bD (T aFW) rfl rfl Tryz.func122 (by kernel_rfl) (by kernel_rfl)
theorem q38:aE C 38 PM.fa:=bD (T awQ) rfl rfl Tryz.func73 (by kernel_rfl) (by kernel_rfl)
theorem q39:aE C 39 PM.BK:=bD (T Xn) rfl rfl Tryz.func118 (by kernel_rfl) (by kernel_rfl)
theorem q40:aE C 40 PM.dt:=bD (T awF) rfl rfl Tryz.func140 (by kernel_rfl) (by kernel_rfl)
theorem q41:aE C 41 PM.NJ:=bD (T alI) rfl rfl Tryz.func117 (by kernel_rfl) (by kernel_rfl)
theorem q42:aE C 42 PM.NK:=bD (T alJ) rfl rfl Tryz.func139 (by kernel_rfl) (by kernel_rfl)
theorem q43:aE C 43 PM.d6:=bD (T awN) rfl rfl Tryz.func141 (by kernel_rfl) (by kernel_rfl)
theorem q44:aE C 44 PM.NR:=bD (T alN) rfl rfl Tryz.func138 (by kernel_rfl) (by kernel_rfl)
theorem q45:aE C 45 PM.uup:=bD (T aKZ) rfl rfl Tryz.func137 (by kernel_rfl) (by kernel_rfl)
theorem q46:aE C 46 PM.aLA:=bD (T aGH) rfl rfl Tryz.func95 (by kernel_rfl) (by kernel_rfl)
theorem q47:aE C 47 PM.Ip:=bD (T aGI) rfl rfl Tryz.func41 (by kernel_rfl) (by kernel_rfl)
theorem q48:aE C 48 PM.amB:=bD (T amE) rfl rfl Tryz.func142 (by kernel_rfl) (by kernel_rfl)
theorem q49:aE C 49 PM.azB:=bD (T axC) rfl rfl Tryz.func78 (by kernel_rfl) (by kernel_rfl)
theorem q50:aE C 50 PM.PJ:=bD (T axD) rfl rfl Tryz.func44 (by kernel_rfl) (by kernel_rfl)
theorem q51:aE C 51 PM.amF:=bD (T amQ) rfl rfl Tryz.func74 (by kernel_rfl) (by kernel_rfl)
theorem q52:aE C 52 PM.Sl:=bD (T X1) rfl rfl Tryz.func75 (by kernel_rfl) (by kernel_rfl)
theorem q53:aE C 53 PM.azC:=bD (T axG) rfl rfl Tryz.func72 (by kernel_rfl) (by kernel_rfl)
theorem q54:aE C 54 PM.azD:=bD (T axJ) rfl rfl Tryz.func50 (by kernel_rfl) (by kernel_rfl)
theorem q55:aE C 55 PM.aLB:=bD (T aGU) rfl rfl Tryz.func71 (by kernel_rfl) (by kernel_rfl)
theorem q56:aE C 56 PM.amX:=bD (T anA) rfl rfl Tryz.func49 (by kernel_rfl) (by kernel_rfl)
theorem q57:aE C 57 PM.azA:=bD (T awY) rfl rfl Tryz.func121 (by kernel_rfl) (by kernel_rfl)
theorem q58:aE C 58 PM.BN:=bD (T Xw) rfl rfl Tryz.func65 (by kernel_rfl) (by kernel_rfl)
theorem q59:aE C 59 PM.fk:=bD (T axK) rfl rfl Tryz.func67 (by kernel_rfl) (by kernel_rfl)
theorem q60:aE C 60 PM.amS:=bD (T amW) rfl rfl Tryz.func96 (by kernel_rfl) (by kernel_rfl)
theorem q61:aE C 61 PM.ayZ:=bD (T auK) rfl rfl Tryz.func76 (by kernel_rfl) (by kernel_rfl)
theorem q62:aE C 62 PM.Sn:=bD (T Yh) rfl rfl Tryz.func68 (by kernel_rfl) (by kernel_rfl)
theorem q63:aE C 63 PM.anB:=bD (T anE) rfl rfl Tryz.func119 (by kernel_rfl) (by kernel_rfl)
theorem q64:aE C 64 PM.Sm:=bD (T X6) rfl rfl Tryz.func94 (by kernel_rfl) (by kernel_rfl)
theorem q65:aE C 65 PM.So:=bD (T Yk) rfl rfl Tryz.func93 (by kernel_rfl) (by kernel_rfl)
theorem q66:aE C 66 PM.aLK:=bD (T aHU) rfl rfl Tryz.func77 (by kernel_rfl) (by kernel_rfl)
theorem q67:aE C 67 PM.aoJ:=bD (T aoU) rfl rfl Tryz.func24 (by kernel_rfl) (by kernel_rfl)
theorem q68:aE C 68 PM.aLJ:=bD (T aHJ) rfl rfl Tryz.func48 (by kernel_rfl) (by kernel_rfl)
theorem q69:aE C 69 PM.aLI:=bD (T aGY) rfl rfl Tryz.func53 (by kernel_rfl) (by kernel_rfl)
theorem q70:aE C 70 PM.anK:=bD (T anN) rfl rfl Tryz.func47 (by kernel_rfl) (by kernel_rfl)
theorem q71:aE C 71 PM.anO:=bD (T anX) rfl rfl Tryz.func69 (by kernel_rfl) (by kernel_rfl)
theorem q72:aE C 72 PM.I8:=bD (T Lw) rfl rfl Tryz.func52 (by kernel_rfl) (by kernel_rfl)
theorem q73:aE C 73 PM.aoA:=bD (T aoD) rfl rfl Tryz.func46 (by kernel_rfl) (by kernel_rfl)
theorem q74:aE C 74 PM.aoE:=bD (T aoI) rfl rfl Tryz.func51 (by kernel_rfl) (by kernel_rfl)
theorem q75:aE C 75 PM.Sr:=bD (T Yy) rfl rfl Tryz.func70 (by kernel_rfl) (by kernel_rfl)
theorem q76:aE C 76 PM.Ss:=bD (T aaE) rfl rfl Tryz.func45 (by kernel_rfl) (by kernel_rfl)
theorem q77:aE C 77 PM.Gk:=bD (T Kh) rfl rfl Tryz.func54 (by kernel_rfl) (by kernel_rfl)
theorem q80:aE C 80 PM.agO:=bD (T agY) rfl rfl Tryz.func55 (by kernel_rfl) (by kernel_rfl)
theorem q81:aE C 81 PM.Rf:=bD (T We) rfl rfl Tryz.func62 (by kernel_rfl) (by kernel_rfl)
theorem q88:aE C 88 PM.agF:=bD (T agM) rfl rfl Tryz.func79 (by kernel_rfl) (by kernel_rfl)
theorem q94:aE C 94 PM.vf:=bD (T aqL) rfl rfl Tryz.func27 (by kernel_rfl) (by kernel_rfl)
theorem q95:aE C 95 PM.A6:=bD (T aAS) rfl rfl Tryz.func58 (by kernel_rfl) (by kernel_rfl)
theorem q96:aE C 96 PM.Bz:=bD (T aAY) rfl rfl Tryz.func30 (by kernel_rfl) (by kernel_rfl)
theorem q97:aE C 97 PM.JR:=bD (T abS) rfl rfl Tryz.func81 (by kernel_rfl) (by kernel_rfl)
theorem q98:aE C 98 PM.YS:=bD (T aqW) rfl rfl Tryz.func108 (by kernel_rfl) (by kernel_rfl)
theorem q99:aE C 99 PM.YT:=bD (T aqX) rfl rfl Tryz.func82 (by kernel_rfl) (by kernel_rfl)
theorem aQZ:aE C 100 PM.YU:=bD (T aqY) rfl rfl Tryz.func110 (by kernel_rfl) (by kernel_rfl)
theorem aRA:aE C 101 PM.gone:=bD (T aAV) rfl rfl Tryz.func113 (by kernel_rfl) (by kernel_rfl)
theorem aRB:aE C 102 PM.YV:=bD (T arA) rfl rfl Tryz.func86 (by kernel_rfl) (by kernel_rfl)
theorem aRC:aE C 103 PM.JS:=bD (T abT) rfl rfl Tryz.func109 (by kernel_rfl) (by kernel_rfl)
theorem aRD:aE C 104 PM.gin:=bD (T aIU) rfl rfl Tryz.func56 (by kernel_rfl) (by kernel_rfl)
theorem aRE:aE C 105 PM.A8:=bD (T aAT) rfl rfl Tryz.func80 (by kernel_rfl) (by kernel_rfl)
theorem aRF:aE C 106 PM.A9:=bD (T aAU) rfl rfl Tryz.func87 (by kernel_rfl) (by kernel_rfl)
theorem aRG:aE C 107 PM.YY:=bD (T arB) rfl rfl Tryz.func111 (by kernel_rfl) (by kernel_rfl)
theorem aRH:aE C 108 PM.YZ:=bD (T arC) rfl rfl Tryz.func88 (by kernel_rfl) (by kernel_rfl)
theorem aRI:aE C 109 PM.KB:=bD (T abW) rfl rfl Tryz.func112 (by kernel_rfl) (by kernel_rfl)
theorem aRJ:aE C 110 PM.ZA:=bD (T arE) rfl rfl Tryz.func60 (by kernel_rfl) (by kernel_rfl)
theorem aRK:aE C 111 PM.gk:=bD (T aAR) rfl rfl Tryz.func57 (by kernel_rfl) (by kernel_rfl)
theorem aRL:aE C 112 PM.Bd:=bD (T aAW) rfl rfl Tryz.func59 (by kernel_rfl) (by kernel_rfl)
theorem aRM:aE C 113 PM.JG:=bD (T aAL) rfl rfl Tryz.func101 (by kernel_rfl) (by kernel_rfl)
theorem aRN:aE C 114 PM.za:=bD (T aAM) rfl rfl Tryz.func85 (by kernel_rfl) (by kernel_rfl)
theorem aRO:aE C 115 PM.OJ:=bD (T aqU) rfl rfl Tryz.func84 (by kernel_rfl) (by kernel_rfl)
theorem aRP:aE C 116 PM.vE:=bD (T Tz) rfl rfl Tryz.func98 (by kernel_rfl) (by kernel_rfl)
theorem aRQ:aE C 117 PM.SO:=bD (T aAQ) rfl rfl Tryz.func83 (by kernel_rfl) (by kernel_rfl)
theorem aRR:aE C 118 PM.JQ:=bD (T abR) rfl rfl Tryz.func104 (by kernel_rfl) (by kernel_rfl)
theorem aRS:aE C 119 PM.y7:=bD (T aAK) rfl rfl Tryz.func103 (by kernel_rfl) (by kernel_rfl)
theorem aRT:aE C 120 PM.oC:=bD (T Tw) rfl rfl Tryz.func102 (by kernel_rfl) (by kernel_rfl)
theorem aRU:aE C 121 PM.JP:=bD (T abQ) rfl rfl Tryz.func106 (by kernel_rfl) (by kernel_rfl)
theorem aRV:aE C 122 PM.YR:=bD (T aqV) rfl rfl Tryz.func107 (by kernel_rfl) (by kernel_rfl)
theorem aRW:aE C 123 PM.OS:=bD (T arO) rfl rfl Tryz.func89 (by kernel_rfl) (by kernel_rfl)
theorem aRX:aE C 124 PM.BC:=bD (T acD) rfl rfl Tryz.func131 (by kernel_rfl) (by kernel_rfl)
theorem aRY:aE C 125 PM.BD:=bD (T acH) rfl rfl Tryz.func115 (by kernel_rfl) (by kernel_rfl)
theorem aRZ:aE C 126 PM.vL:=bD (T Uh) rfl rfl Tryz.func114 (by kernel_rfl) (by kernel_rfl)
theorem aSA:aE C 127 PM.D4:=bD (T aBW) rfl rfl Tryz.func125 (by kernel_rfl) (by kernel_rfl)
theorem aSB:aE C 128 PM.bd:=bD (T asD) rfl rfl Tryz.func99 (by kernel_rfl) (by kernel_rfl)
theorem aSC:aE C 129 PM.El:=bD (T aBY) rfl rfl Tryz.func105 (by kernel_rfl) (by kernel_rfl)
theorem aSD:aE C 130 PM.Er:=bD (T aBZ) rfl rfl Tryz.func128 (by kernel_rfl) (by kernel_rfl)
theorem aSE:aE C 131 PM.Ex:=bD (T aCB) rfl rfl Tryz.func127 (by kernel_rfl) (by kernel_rfl)
theorem aSF:aE C 132 PM.cf:=bD (T asH) rfl rfl Tryz.func100 (by kernel_rfl) (by kernel_rfl)
theorem aSG:aE C 133 PM.E6:=bD (T aCC) rfl rfl Tryz.func130 (by kernel_rfl) (by kernel_rfl)
theorem aSH:aE C 134 PM.Ff:=bD (T aCD) rfl rfl Tryz.func126 (by kernel_rfl) (by kernel_rfl)
theorem aSI:aE C 135 PM.cj:=bD (T asJ) rfl rfl Tryz.func129 (by kernel_rfl) (by kernel_rfl)
theorem aSJ:aE C 136 PM.BE:=bD (T Uu) rfl rfl Tryz.func145 (by kernel_rfl) (by kernel_rfl)
theorem aSK:aE C 137 PM.LO:=bD (T adD) rfl rfl Tryz.func143 (by kernel_rfl) (by kernel_rfl)
theorem aSL:aE C 138 PM.sA:=bD (T U1) rfl rfl Tryz.func124 (by kernel_rfl) (by kernel_rfl)
theorem aSM:aE C 139 PM.wP:=bD (T Jv) rfl rfl Tryz.func154 (by kernel_rfl) (by kernel_rfl)
theorem aSN:aE C 140 PM.LT:=bD (T adF) rfl rfl Tryz.func151 (by kernel_rfl) (by kernel_rfl)
theorem aSO:aE C 141 PM.LW:=bD (T adG) rfl rfl Tryz.func144 (by kernel_rfl) (by kernel_rfl)
theorem aSP:aE C 142 PM.tH:=bD (T Fl) rfl rfl Tryz.func153 (by kernel_rfl) (by kernel_rfl)
theorem aSQ:aE C 143 PM.nup:=bD (T aJT) rfl rfl Tryz.func152 (by kernel_rfl) (by kernel_rfl)
theorem aSR:aE C 201 PM.S9:=bD (T azV) rfl rfl Tryz.func29 (by kernel_rfl) (by kernel_rfl)
theorem aSS:aE C 202 PM.Td:=bD (T azZ) rfl rfl Tryz.func28 (by kernel_rfl) (by kernel_rfl)
theorem aST:aE C 203 PM.WR:=bD (T aaS) rfl rfl Tryz.func22 (by kernel_rfl) (by kernel_rfl)
theorem aSU:aE C 204 PM.WD:=bD (T aaN) rfl rfl Tryz.func13 (by kernel_rfl) (by kernel_rfl)
theorem aSV:aE C 205 PM.call17:=bD (T aaP) rfl rfl Tryz.func10 (by kernel_rfl) (by kernel_rfl)
theorem aSW:aE C 206 PM.XD:=bD (T aaX) rfl rfl Tryz.func31 (by kernel_rfl) (by kernel_rfl)
theorem aSX:aE C 207 PM.OC:=bD (T Tf) rfl rfl Tryz.func32 (by kernel_rfl) (by kernel_rfl)
theorem aSY:aE C 208 PM.vd:=bD (T apQ) rfl rfl Tryz.func36 (by kernel_rfl) (by kernel_rfl)
theorem aSZ:aE C 209 PM.OD:=bD (T Ti) rfl rfl Tryz.func17 (by kernel_rfl) (by kernel_rfl)
theorem aTA:aE C 210 PM.ve:=bD (T aqA) rfl rfl Tryz.func33 (by kernel_rfl) (by kernel_rfl)
theorem aTB:aE C 211 PM.XW:=bD (T abA) rfl rfl Tryz.func61 (by kernel_rfl) (by kernel_rfl)
theorem aTC:aE C 212 PM.vh:=bD (T aqS) rfl rfl Tryz.func12 (by kernel_rfl) (by kernel_rfl)
theorem aTD:aE C 213 PM.aJY:=bD (T aCU) rfl rfl Tryz.func26 (by kernel_rfl) (by kernel_rfl)
theorem aTE:aE C 214 PM.aeC:=bD (T aeF) rfl rfl Tryz.func14 (by kernel_rfl) (by kernel_rfl)
theorem aTF:aE C 215 PM.Ra:=bD (T Vi) rfl rfl Tryz.func25 (by kernel_rfl) (by kernel_rfl)
theorem aTG:aE C 216 PM.aJZ:=bD (T aDF) rfl rfl Tryz.func11 (by kernel_rfl) (by kernel_rfl)
theorem aTH:aE C 217 PM.afT:=bD (T agE) rfl rfl Tryz.func34 (by kernel_rfl) (by kernel_rfl)
theorem aTI:aE C 218 PM.aKB:=bD (T aDP) rfl rfl Tryz.func35 (by kernel_rfl) (by kernel_rfl)
theorem aTJ:aE C 219 PM.ayY:=bD (T auE) rfl rfl Tryz.func16 (by kernel_rfl) (by kernel_rfl)
theorem aTK:aE C 220 PM.ayX:=bD (T atS) rfl rfl Tryz.func37 (by kernel_rfl) (by kernel_rfl)
theorem aTL:aE C 221 PM.Rc:=bD (T Vs) rfl rfl Tryz.func18 (by kernel_rfl) (by kernel_rfl)
theorem aTM:aE C 222 PM.bc:=bD (T acV) rfl rfl Tryz.func8 (by kernel_rfl) (by kernel_rfl)
theorem aTN:aE C 223 PM.bv:=bD (T acY) rfl rfl Tryz.func19 (by kernel_rfl) (by kernel_rfl)
theorem aTO:aE C 228 PM.tF:=bD (T adB) rfl rfl Tryz.func7 (by kernel_rfl) (by kernel_rfl)
theorem aPZ:(T apY).vj Tryz.f23=some (PM.XB (vk Tryz.f23.body) (vm Tryz.f23.body)):=by kernel_rfl
theorem aTP:OA C 229 (PM.XB (vk Tryz.f23.body) (vm Tryz.f23.body)):=fun _ _ _ i h=>XZ rfl rfl Tryz.func23 (by kernel_rfl) aPZ i h
theorem aQA:(T apW).vj Tryz.f15=some (PM.WZ (vk Tryz.f15.body) (vm Tryz.f15.body)):=by kernel_rfl
theorem aTQ:OA C 230 (PM.WZ (vk Tryz.f15.body) (vm Tryz.f15.body)):=fun _ _ _ i h=>XZ rfl rfl Tryz.func15 (by kernel_rfl) aQA i h
theorem aIQ:dE C:={
 r0:=q0,
 r1:=q1,
 r2:=q2,
 r4:=q4,
 r5:=q5,
 r7:=q7,
 r27:=q27,
 r28:=q28,
 r29:=q29,
 r30:=q30,
 r31:=q31,
 r32:=q32,
 r33:=q33,
 r34:=q34,
 r35:=q35,
 r36:=q36,
 r37:=q37,
 r38:=q38,
 r39:=q39,
 r40:=q40,
 r41:=q41,
 r42:=q42,
 r43:=q43,
 r44:=q44,
 r45:=q45,
 r46:=q46,
 r47:=q47,
 r48:=q48,
 r49:=q49,
 r50:=q50,
 r51:=q51,
 r52:=q52,
 r53:=q53,
 r54:=q54,
 r55:=q55,
 r56:=q56,
 r57:=q57,
 r58:=q58,
 r59:=q59,
 r60:=q60,
 r61:=q61,
 r62:=q62,
 r63:=q63,
 r64:=q64,
 r65:=q65,
 r66:=q66,
 r67:=q67,
 r68:=q68,
 r69:=q69,
 r70:=q70,
 r71:=q71,
 r72:=q72,
 r73:=q73,
 r74:=q74,
 r75:=q75,
 r76:=q76,
 r77:=q77,
 r80:=q80,
 r81:=q81,
 r88:=q88,
 r94:=q94,
 r95:=q95,
 r96:=q96,
 r97:=q97,
 r98:=q98,
 r99:=q99,
 r100:=aQZ,
 r101:=aRA,
 r102:=aRB,
 r103:=aRC,
 r104:=aRD,
 r105:=aRE,
 r106:=aRF,
 r107:=aRG,
 r108:=aRH,
 r109:=aRI,
 r110:=aRJ,
 r111:=aRK,
 r112:=aRL,
 r113:=aRM,
 r114:=aRN,
 r115:=aRO,
 r116:=aRP,
 r117:=aRQ,
 r118:=aRR,
 r119:=aRS,
 r120:=aRT,
 r121:=aRU,
 r122:=aRV,
 r123:=aRW,
 r124:=aRX,
 r125:=aRY,
 r126:=aRZ,
 r127:=aSA,
 r128:=aSB,
 r129:=aSC,
 r130:=aSD,
 r131:=aSE,
 r132:=aSF,
 r133:=aSG,
 r134:=aSH,
 r135:=aSI,
 r136:=aSJ,
 r137:=aSK,
 r138:=aSL,
 r139:=aSM,
 r140:=aSN,
 r141:=aSO,
 r142:=aSP,
 r143:=aSQ,
 r201:=aSR,
 r202:=aSS,
 r203:=aST,
 r204:=aSU,
 r205:=aSV,
 r206:=aSW,
 r207:=aSX,
 r208:=aSY,
 r209:=aSZ,
 r210:=aTA,
 r211:=aTB,
 r212:=aTC,
 r213:=aTD,
 r214:=aTE,
 r215:=aTF,
 r216:=aTG,
 r217:=aTH,
 r218:=aTI,
 r219:=aTJ,
 r220:=aTK,
 r221:=aTL,
 r222:=aTM,
 r223:=aTN,
 r229:=⟨_,_,aTP⟩,
 r230:=⟨_,_,aTQ⟩ }
end Go.Proofs.YtgfeljaimmnmmaaGreatDoor
namespace Go.Proofs.YtgfeljaimmnmmaaGreatDoor
open Go Go.PM Go.RowKit Go.ChangeShapes Go.WideShapes
theorem Tryz.own:ownKnob Tryz.prog.godebug=none:=by kernel_rfl
theorem Tryz.laidOut:laidOutB Tryz.prog=true:=by kernel_rfl
theorem itoa:nB C:=fun n R=>by
 refine⟨⟨Tryz.f64,Tryz.func64,by kernel_rfl,by kernel_rfl⟩,fun E w vs U hW i=>?_⟩;obtain⟨vl⟩:=vs;cases i with
 | cons l p =>
 cases p;cases l;refine (Any.strconv_Itoa_small Tryz.aBQ n R w).mono fun e w' J=>?_;obtain⟨rfl,rfl⟩:=J;exact⟨_,.str (bQ n),E,.nil,rfl,hW,.str ⟨(Lib.decDigits n).toArray⟩,.refl _ _ _,rfl,rfl⟩
theorem aaK {pv:PV} (h:PV.Ty (.sl [.int .u8]) pv):∃ l:List Nat,pv=.sl 1 (jG l)∧(∀ x∈l,x<256)∧l.length≤9223372036854775807:=by
 obtain⟨xs,rfl,U,p⟩:=Ty.arJ h;refine⟨xs.map Int.toNat,?_,?_,?_⟩
 ·unfold Ue jG;rw[List.map_map];congr 1;refine a0X fun x i=>?_;have:=(p x i).1;simp only[Function.comp];rw[Int.toNat_of_nonneg this]
 ·intro y J;obtain⟨x,i,rfl⟩:=aYH.1 J;have:=(p x i).2;have R:=(p x i).1;have i:IntKind.u8.max=255:=by decide
  rw[i] at this;omega
 ·rw[aXI];have:maxLen≤9223372036854775807:=by decide
  omega
end Go.Proofs.YtgfeljaimmnmmaaGreatDoor
namespace Go.Proofs.YtgfeljaimmnmmaaGreatDoor
open Go Go.PM Go.RowKit Go.ChangeShapes Go.WideShapes
def argKinds:List AT:=[.one (.sl [.int .u8]),.one (.int .u8),.one (.int .u8),.one (.int .u8)]
theorem azP:AU Tryz.prog 8 Tryz.f7.params.toList=some argKinds:=by kernel_rfl
theorem G3 {pv:PV} (h:PV.Ty (.int .u8) pv):∃ n:Nat,pv=.int .u8 n∧n<256:=by
 obtain⟨m,rfl,l⟩:=Ty.gx h;have i:=l.1;have p:=l.2;have J:IntKind.u8.max=255:=by decide
 have R:IntKind.u8.min=0:=by decide
 rw[J] at p;rw[R] at i;exact⟨m.toNat,by rw[Int.toNat_of_nonneg i],by omega⟩
theorem aBJ (i:List PV) (h:AT.TyL argKinds i):aH C 228 i .nil (aL (.bool true)):=by
 match i,h with
 | [p0,p1,p2,p3],h =>
  obtain⟨l,p,J,R,-⟩:=h;cases l with | one l =>
  obtain⟨x0,rfl,U,l0⟩:=aaK l;cases p with | one p =>
  obtain⟨x1,rfl,b1⟩:=G3 p;cases J with | one J =>
  obtain⟨x2,rfl,b2⟩:=G3 J;cases R with | one R =>
  obtain⟨x3,rfl,b3⟩:=G3 R;exact aLF aIQ itoa aTO x0 U l0 x1 x2 x3 b1 b2 b3
theorem yf (os:Os) (args:Array Value):laidMetH Tryz.prog Rows.copysetGrowsRow.laid ((World.doorLaid Tryz.prog 400 os).forCall (fun _ _=>0) ⟨#[],args,[]⟩).memory :=
 laidMetH_of_parts3 (fuel:=8) (laidMet_of_run' 8 (by kernel_rfl) (by kernel_rfl)) (by kernel_rfl) (by kernel_rfl)
set_option maxRecDepth 100000 in
theorem Ug (os:Os) (i:os.Started) (H:Type) (enc:TypeId × Value→H) :
  ReturnsInHanded {} Tryz.checked os 7 .any (fun w args=>(Rows.copysetGrowsSpec.pre enc Tryz.prog Tryz.f7 [] false w args∧laidMetH Tryz.prog Rows.copysetGrowsRow.laid w)∧sizedMet enc Tryz.prog Tryz.f7 (OpenSpec.ofChange Rows.copysetGrowsSpec) false w args)
   (Rows.copysetGrowsSpec.post enc Tryz.prog Tryz.f7 false true false false):=by
 refine returnsInHanded_of_change_and (C:=Tryz.checked) (X:=fun w _=>laidMetH Tryz.prog Rows.copysetGrowsRow.laid w) (fun _ _ _ R h=>h.of_heap R) Tryz.own i (by kernel_rfl) Tryz.func7
  (ChangeSpec.witness_shaped (enc:=enc) (C:=Tryz.checked) (os:=os) (X:=fun w _=>laidMetH Tryz.prog Rows.copysetGrowsRow.laid w) false (World.doorLaid Tryz.prog 400 os) #[.slice none 0 0,.int .u8 0,.int .u8 0,.int .u8 0] 8 rfl (World.shaped_of_RefB (by kernel_rfl) (by kernel_rfl)) (by kernel_rfl) (by kernel_rfl) (by kernel_rfl) (yf os _)) ?_
 intro W base args ds gs p l hW _ _ _ _;exact xc (P:=Tryz.prog) (num:=num) (name:=228) (n:=8) (ats:=argKinds) (bt:=4) Tryz.laidOut (by kernel_rfl) (by kernel_rfl) (by kernel_rfl) rfl
  (fun ds J=>by
   match ds,J with
   | [U,d2,d3,d4],_=>exact⟨rfl,rfl,rfl⟩)
  (by kernel_rfl) azP aBJ l hW
theorem PK:Rows.CopysetGrowsSaid :=
 OpenClaim.holds_of_wide 7 Tryz.f7 rfl rfl rfl rfl rfl rfl rfl ⟨rfl,rfl,rfl,rfl,rfl⟩ rfl rfl rfl rfl rfl (by kernel_rfl) Tryz.func7 (by kernel_rfl)
  (of_decide_eq_true (by kernel_rfl)) (by unfold Func.isWrapper; first | (rw[if_pos (by decide +kernel)]; kernel_rfl) | (rw[if_neg (by decide +kernel)]; exact⟨rfl,rfl⟩))
  (fun os i H enc _=>Ug os i H enc)
theorem copysetGrows_card:Rows.CopysetGrowsCardSaid :=
 Claim7.holds_tied_plain_at .later [] [.data,.data,.data] true (true,"416719fd36fcf2340e9414b63f7ec7fe803d16726753b5c6cccafeac3546cf3e") false
  PK (fun _ h=>by cases h) (by kernel_rfl) (fun _ h=>by cases h) copysetGrows_row_tie rfl ⟨rfl,rfl⟩ (by kernel_rfl) rfl
  (fun f fn p l=>by
   obtain rfl:f=7:=aZS.inj ((show Tryz.prog.funcNamed Rows.copysetGrowsRow.func=some 7 by kernel_rfl).symm.trans p) |>.symm
   obtain rfl:fn=Tryz.f7:=(aZS.inj (Tryz.func7.symm.trans l)).symm;exact⟨by kernel_rfl,fun j t R=>by
    have J:t∈Tryz.f7.params.toList:=by rw[Array.mem_toList_iff];exact Array.mem_of_getElem? R
    have i:(Tryz.f7.params.toList.all fun u=>!Tryz.prog.wantsStandIn u)=true:=by kernel_rfl
    exact (show Tryz.prog.wantsStandIn t=false by simpa using aYF.1 i t J)⟩)
  (by kernel_rfl)
#print axioms copysetGrows_card
end Go.Proofs.YtgfeljaimmnmmaaGreatDoor
