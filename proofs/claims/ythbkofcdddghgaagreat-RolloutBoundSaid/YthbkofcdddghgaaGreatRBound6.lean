/-
  The law of the claim returns true at every input, and its argument reads as it did: the tied card. No condition.
-/
import Derived.Test.YthbkofcdddghgaaGreatRBound1
import Derived.Test.YthbkofcdddghgaaGreatRBound2
import Derived.Test.YthbkofcdddghgaaGreatRBound3
import Derived.Test.YthbkofcdddghgaaGreatRBound4
import Derived.Test.YthbkofcdddghgaaGreatRBound5
import Derived.Test.YthbkofcdddghgaaGreatProg
import Derived.KernelRfl
import Derived.Test.YthbkofcdddghgaaGreatRows
import Derived.ProofKit
import Derived.WalkKit
set_option linter.unusedSimpArgs false
set_option linter.unusedVariables false
open Nat renaming reduceEqDiff → γ, reduceAdd → δ, reduceSub → ε, reduceMul → ζ, reduceLT → η, reduceLeDiff → θ, reduceBEq → τ
open Int renaming reduceLT → ι, reduceLE → κ, reduceEq → μ, reduceToNat → ν, reduceAdd → ξ, reduceNeg → ο, reduceBEq → ρ, reduceBNe → σ
open List renaming reduceReplicate → υ
open List renaming length_map → bJC, range → bJD, replicate → bJE, getElem_mem → bJG, length_append → bJL, getElem?_eq_getElem → bJN, mem_cons → bJR, take_of_length_le → bJS, length_singleton → bJT, length_take → bJU, all_eq_true → bJW, getD_eq_getElem?_getD → bJX, take_length → bKB, append_assoc → bKD, mem_range → bKE, drop_zero → bKG, getElem?_map → bKH, mem_map → bKI, getElem?_eq_none → bKM, getElem?_eq_some_iff → bKN, mem_append → bKO, mem_singleton → bKP, length_cons → bKQ, not_mem_nil → bKS, drop_eq_getElem_cons → bKY, getElem?_append_right → bKZ, length_set → bLA, map_cons → bLB, take_succ_eq_append_getElem → bLC, append_nil → bLD, length_drop → bLF, Sublist → bLJ, getElem_map → bLK, getElem_of_mem → bLL, getElem?_append_left → bLN, length_nil → bLO, nodup_append → bLP, contains_iff_mem → bLR, map_append → bLS, mem_of_getElem? → bLT, take_append_drop → bLU, nil_append → bMC, length_replicate → bMG, getElem?_take → bMJ, drop_of_length_le → bMO, getElem?_drop → bMP, eq_nil_of_length_eq_zero → bMQ, set_append_right → bMR, getElem?_take_of_lt → bMS
open Nat renaming le_refl → bJF, gcd → bJH, zero_le → bJO, mul_add → bJP, lt_or_ge → bJV, mul_assoc → bJY, mul_comm → bKA, zero_add → bKC, add_mul → bKF, mul_le_mul_right → bKJ, mod_eq_of_lt → bKK, mod_lt → bKR, add_zero → bKU, pow_succ → bKV, min_eq_left → bLG, mul_le_mul_left → bLH, pos_of_ne_zero → bLI, add_assoc → bLM, pow_pos → bLV, div_lt_iff_lt_mul → bLX, sub_self → bLY, succ_mul → bLZ, eq_zero_or_pos → bMD, div_add_mod → bMK, div_eq_of_lt → bML
open Bool renaming false_and → bJI, not_true → bJK, true_and → bJM, not_false → bJQ, and_eq_true → bJZ, and_false → bKT, and_true → bLE, and_assoc → bMB, false_eq_true → bME
open Option renaming map_eq_some_iff → bJJ, map_some → bKL, getD_some → bLQ, some → bLW, bind_eq_some_iff → bMH, bind_some → bMM
open Array renaming replicate → bKW, length_toList → bMA, getElem?_eq_getElem → bMI, getElem?_eq_some_iff → bMN
open Int renaming tdiv → bKX, toNat_natCast → bMF
namespace Go.Proofs.YthbkofcdddghgaaGreat
open Go Go.PM
def brK:List Nat:=[0,0,0,0,0,0,0,0,0,0,0,0,0,0,0,0,0,0,0,0,0,0,0,0,10,0,8,0,0,0,160,154,145,108,107,78,163,162,106,140,158,139,157,167,156,155,143,114,168,119,55,115,116,113,85,112,84,161,77,79,144,117,109,159,142,141,118,56,83,88,82,110,87,81,86,111,80,0,0,0,0,0,64,0,0,46,52,0,0,65,0,24,0,0,0,59,47,90,130,91,132,135,95,131,57,89,96,133,97,134,61,58,60,123,94,93,120,92,126,125,124,128,129,98,153,137,136,147,121,127,150,149,122,152,148,151,166,164,146,172,169,165,171,170,16,18,17,0,0,0,0,0,0,48,0,0,99,0,0,0,63,62,0,0,0,0,0,0,0,0,0,0,0,0,0,0,0,39,31,49,38,68,69,67,66,103,104,101,138,71,73,74,53,70,100,0,0,0,0,0,0,0,0,0,0,0,0,0,0,0,0,0,0,0,0,0,0,0,0,0,0,0,0,0,0,0,0,0,0,0,0,0,0,0,0,0,0,0,0,0,20,41,43,42,25,44,26,45,27,9,30,33,23,34,35,29,0,40,51,0,32,50,36,15,19,13,28,11,21,14,22,3,12,5,4,6,7,37]
def bmX:List (Option Nat):=[none,none,none,some 271,some 274,some 273,some 275,some 276,some 26,some 249,some 24,some 267,some 272,some 265,some 269,some 263,some 144,some 146,some 145,some 264,some 240,some 268,some 270,some 252,some 91,some 244,some 246,some 248,some 266,some 255,some 250,some 178,some 260,some 251,some 253,some 254,some 262,some 277,some 180,some 177,some 257,some 241,some 243,some 242,some 245,some 247,some 85,some 96,some 153,some 179,some 261,some 258,some 86,some 192,none,some 50,some 67,some 104,some 111,some 95,some 112,some 110,some 161,some 160,some 82,some 89,some 184,some 183,some 181,some 182,some 193,some 189,none,some 190,some 191,none,none,some 58,some 35,some 59,some 76,some 73,some 70,some 68,some 56,some 54,some 74,some 72,some 69,some 105,some 97,some 99,some 117,some 115,some 114,some 102,some 106,some 108,some 123,some 156,some 194,some 187,none,some 185,some 186,none,some 38,some 34,some 33,some 62,some 71,some 75,some 55,some 53,some 47,some 51,some 52,some 61,some 66,some 49,some 116,some 128,some 132,some 113,some 120,some 119,some 118,some 129,some 121,some 122,some 98,some 103,some 100,some 107,some 109,some 101,some 126,some 125,some 188,some 41,some 39,some 65,some 64,some 46,some 60,some 32,some 138,some 127,some 134,some 131,some 130,some 135,some 133,some 124,some 31,some 45,some 44,some 42,some 40,some 63,some 30,some 57,some 37,some 36,some 137,some 141,some 136,some 43,some 48,some 140,some 143,some 142,some 139]
def num (n:Nat):FuncId:=brK.getD n 0
def nameOf (f:FuncId):Option Nat:=bmX.getD f none
noncomputable def C:Ctx:=⟨Tryz.prog,num⟩
noncomputable def T (ro:List Nat):Tbl:={ P:=Tryz.prog,num:=num,name:=nameOf,ro:=ro }
theorem c24:(T aZI).func Tryz.f10=some PM.CF:=by kernel_rfl
theorem q24:aN C 24 PM.CF:=fun _ _ _ hl h=>aL rfl rfl Tryz.func10 (by kernel_rfl) c24 hl h
theorem c26:(T bcU).func Tryz.f8=some PM.YK:=by kernel_rfl
theorem q26:aN C 26 PM.YK:=fun _ _ _ hl h=>aL rfl rfl Tryz.func8 (by kernel_rfl) c26 hl h
theorem c30:(T boL).func Tryz.f160=some PM.aHE:=by kernel_rfl
theorem q30:aN C 30 PM.aHE:=fun _ _ _ hl h=>aL rfl rfl Tryz.func160 (by kernel_rfl) c30 hl h
theorem c31:(T bhQ).func Tryz.f154=some PM.aeI:=by kernel_rfl
theorem q31:aN C 31 PM.aeI:=fun _ _ _ hl h=>aL rfl rfl Tryz.func154 (by kernel_rfl) c31 hl h
theorem c32:(T boN).func Tryz.f145=some PM.aHQ:=by kernel_rfl
theorem q32:aN C 32 PM.aHQ:=fun _ _ _ hl h=>aL rfl rfl Tryz.func145 (by kernel_rfl) c32 hl h
theorem c33:(T boP).func Tryz.f108=some PM.udiv:=by kernel_rfl
theorem q33:aN C 33 PM.udiv:=fun _ _ _ hl h=>aL rfl rfl Tryz.func108 (by kernel_rfl) c33 hl h
theorem c34:(T boR).func Tryz.f107=some PM.aIF:=by kernel_rfl
theorem q34:aN C 34 PM.aIF:=fun _ _ _ hl h=>aL rfl rfl Tryz.func107 (by kernel_rfl) c34 hl h
theorem c35:(T bhW).func Tryz.f78=some PM.aeR:=by kernel_rfl
theorem q35:aN C 35 PM.aeR:=fun _ _ _ hl h=>aL rfl rfl Tryz.func78 (by kernel_rfl) c35 hl h
theorem c36:(T boT).func Tryz.f163=some PM.aII:=by kernel_rfl
theorem q36:aN C 36 PM.aII:=fun _ _ _ hl h=>aL rfl rfl Tryz.func163 (by kernel_rfl) c36 hl h
theorem c37:(T boZ).func Tryz.f162=some PM.aIQ:=by kernel_rfl
theorem q37:aN C 37 PM.aIQ:=fun _ _ _ hl h=>aL rfl rfl Tryz.func162 (by kernel_rfl) c37 hl h
theorem c38:(T biE).func Tryz.f106=some PM.afA:=by kernel_rfl
theorem q38:aN C 38 PM.afA:=fun _ _ _ hl h=>aL rfl rfl Tryz.func106 (by kernel_rfl) c38 hl h
theorem c39:(T a1L).func Tryz.f140=some PM.CV:=by kernel_rfl
theorem q39:aN C 39 PM.CV:=fun _ _ _ hl h=>aL rfl rfl Tryz.func140 (by kernel_rfl) c39 hl h
theorem c40:(T bhU).func Tryz.f158=some PM.aeQ:=by kernel_rfl
theorem q40:aN C 40 PM.aeQ:=fun _ _ _ hl h=>aL rfl rfl Tryz.func158 (by kernel_rfl) c40 hl h
theorem c41:(T a9E).func Tryz.f139=some PM.OV:=by kernel_rfl
theorem q41:aN C 41 PM.OV:=fun _ _ _ hl h=>aL rfl rfl Tryz.func139 (by kernel_rfl) c41 hl h
theorem c42:(T a9G).func Tryz.f157=some PM.OW:=by kernel_rfl
theorem q42:aN C 42 PM.OW:=fun _ _ _ hl h=>aL rfl rfl Tryz.func157 (by kernel_rfl) c42 hl h
theorem c43:(T biC).func Tryz.f167=some PM.aeV:=by kernel_rfl
theorem q43:aN C 43 PM.aeV:=fun _ _ _ hl h=>aL rfl rfl Tryz.func167 (by kernel_rfl) c43 hl h
theorem c44:(T a9I).func Tryz.f156=some PM.PG:=by kernel_rfl
theorem q44:aN C 44 PM.PG:=fun _ _ _ hl h=>aL rfl rfl Tryz.func156 (by kernel_rfl) c44 hl h
theorem c45:(T bsI).func Tryz.f155=some PM.uup:=by kernel_rfl
theorem q45:aN C 45 PM.uup:=fun _ _ _ hl h=>aL rfl rfl Tryz.func155 (by kernel_rfl) c45 hl h
theorem c46:(T bpB).func Tryz.f143=some PM.alD:=by kernel_rfl
theorem q46:aN C 46 PM.alD:=fun _ _ _ hl h=>aL rfl rfl Tryz.func143 (by kernel_rfl) c46 hl h
theorem c47:(T bpD).func Tryz.f114=some PM.aJF:=by kernel_rfl
theorem q47:aN C 47 PM.aJF:=fun _ _ _ hl h=>aL rfl rfl Tryz.func114 (by kernel_rfl) c47 hl h
theorem c48:(T baH).func Tryz.f168=some PM.PO:=by kernel_rfl
theorem q48:aN C 48 PM.PO:=fun _ _ _ hl h=>aL rfl rfl Tryz.func168 (by kernel_rfl) c48 hl h
theorem c49:(T biV).func Tryz.f119=some PM.afD:=by kernel_rfl
theorem q49:aN C 49 PM.afD:=fun _ _ _ hl h=>aL rfl rfl Tryz.func119 (by kernel_rfl) c49 hl h
theorem c50:(T biX).func Tryz.f55=some PM.RS:=by kernel_rfl
theorem q50:aN C 50 PM.RS:=fun _ _ _ hl h=>aL rfl rfl Tryz.func55 (by kernel_rfl) c50 hl h
theorem c51:(T baJ).func Tryz.f115=some PM.PP:=by kernel_rfl
theorem q51:aN C 51 PM.PP:=fun _ _ _ hl h=>aL rfl rfl Tryz.func115 (by kernel_rfl) c51 hl h
theorem c52:(T a2L).func Tryz.f116=some PM.CZ:=by kernel_rfl
theorem q52:aN C 52 PM.CZ:=fun _ _ _ hl h=>aL rfl rfl Tryz.func116 (by kernel_rfl) c52 hl h
theorem c53:(T biZ).func Tryz.f113=some PM.afO:=by kernel_rfl
theorem q53:aN C 53 PM.afO:=fun _ _ _ hl h=>aL rfl rfl Tryz.func113 (by kernel_rfl) c53 hl h
theorem c54:(T bjB).func Tryz.f85=some PM.afP:=by kernel_rfl
theorem q54:aN C 54 PM.afP:=fun _ _ _ hl h=>aL rfl rfl Tryz.func85 (by kernel_rfl) c54 hl h
theorem c55:(T bpG).func Tryz.f112=some PM.aJZ:=by kernel_rfl
theorem q55:aN C 55 PM.aJZ:=fun _ _ _ hl h=>aL rfl rfl Tryz.func112 (by kernel_rfl) c55 hl h
theorem c56:(T baY).func Tryz.f84=some PM.PS:=by kernel_rfl
theorem q56:aN C 56 PM.PS:=fun _ _ _ hl h=>aL rfl rfl Tryz.func84 (by kernel_rfl) c56 hl h
theorem c57:(T biS).func Tryz.f161=some PM.afB:=by kernel_rfl
theorem q57:aN C 57 PM.afB:=fun _ _ _ hl h=>aL rfl rfl Tryz.func161 (by kernel_rfl) c57 hl h
theorem c58:(T a2J).func Tryz.f77=some PM.CX:=by kernel_rfl
theorem q58:aN C 58 PM.CX:=fun _ _ _ hl h=>aL rfl rfl Tryz.func77 (by kernel_rfl) c58 hl h
theorem c59:(T bjD).func Tryz.f79=some PM.afQ:=by kernel_rfl
theorem q59:aN C 59 PM.afQ:=fun _ _ _ hl h=>aL rfl rfl Tryz.func79 (by kernel_rfl) c59 hl h
theorem c60:(T baW).func Tryz.f144=some PM.PR:=by kernel_rfl
theorem q60:aN C 60 PM.PR:=fun _ _ _ hl h=>aL rfl rfl Tryz.func144 (by kernel_rfl) c60 hl h
theorem c61:(T bhF).func Tryz.f117=some PM.uK:=by kernel_rfl
theorem q61:aN C 61 PM.uK:=fun _ _ _ hl h=>aL rfl rfl Tryz.func117 (by kernel_rfl) c61 hl h
theorem c62:(T a3J).func Tryz.f109=some PM.DB:=by kernel_rfl
theorem q62:aN C 62 PM.DB:=fun _ _ _ hl h=>aL rfl rfl Tryz.func109 (by kernel_rfl) c62 hl h
theorem c63:(T bbP).func Tryz.f159=some PM.PX:=by kernel_rfl
theorem q63:aN C 63 PM.PX:=fun _ _ _ hl h=>aL rfl rfl Tryz.func159 (by kernel_rfl) c63 hl h
theorem c64:(T a3H).func Tryz.f142=some PM.DA:=by kernel_rfl
theorem q64:aN C 64 PM.DA:=fun _ _ _ hl h=>aL rfl rfl Tryz.func142 (by kernel_rfl) c64 hl h
theorem c65:(T a3L).func Tryz.f141=some PM.DC:=by kernel_rfl
theorem q65:aN C 65 PM.DC:=fun _ _ _ hl h=>aL rfl rfl Tryz.func141 (by kernel_rfl) c65 hl h
theorem c66:(T bpO).func Tryz.f118=some PM.aKV:=by kernel_rfl
theorem q66:aN C 66 PM.aKV:=fun _ _ _ hl h=>aL rfl rfl Tryz.func118 (by kernel_rfl) c66 hl h
theorem c67:(T bcQ).func Tryz.f56=some PM.QJ:=by kernel_rfl
theorem q67:aN C 67 PM.QJ:=fun _ _ _ hl h=>aL rfl rfl Tryz.func56 (by kernel_rfl) c67 hl h
theorem c68:(T bpM).func Tryz.f83=some PM.aKI:=by kernel_rfl
theorem q68:aN C 68 PM.aKI:=fun _ _ _ hl h=>aL rfl rfl Tryz.func83 (by kernel_rfl) c68 hl h
theorem c69:(T bpK).func Tryz.f88=some PM.aKG:=by kernel_rfl
theorem q69:aN C 69 PM.aKG:=fun _ _ _ hl h=>aL rfl rfl Tryz.func88 (by kernel_rfl) c69 hl h
theorem c70:(T bcF).func Tryz.f82=some PM.QC:=by kernel_rfl
theorem q70:aN C 70 PM.QC:=fun _ _ _ hl h=>aL rfl rfl Tryz.func82 (by kernel_rfl) c70 hl h
theorem c71:(T bcH).func Tryz.f110=some PM.QD:=by kernel_rfl
theorem q71:aN C 71 PM.QD:=fun _ _ _ hl h=>aL rfl rfl Tryz.func110 (by kernel_rfl) c71 hl h
theorem c72:(T aMV).func Tryz.f87=some PM.xI:=by kernel_rfl
theorem q72:aN C 72 PM.xI:=fun _ _ _ hl h=>aL rfl rfl Tryz.func87 (by kernel_rfl) c72 hl h
theorem c73:(T bcK).func Tryz.f81=some PM.QH:=by kernel_rfl
theorem q73:aN C 73 PM.QH:=fun _ _ _ hl h=>aL rfl rfl Tryz.func81 (by kernel_rfl) c73 hl h
theorem c74:(T bcM).func Tryz.f86=some PM.QI:=by kernel_rfl
theorem q74:aN C 74 PM.QI:=fun _ _ _ hl h=>aL rfl rfl Tryz.func86 (by kernel_rfl) c74 hl h
theorem c75:(T a3X).func Tryz.f111=some PM.DD:=by kernel_rfl
theorem q75:aN C 75 PM.DD:=fun _ _ _ hl h=>aL rfl rfl Tryz.func111 (by kernel_rfl) c75 hl h
theorem c76:(T a3Z).func Tryz.f80=some PM.vP:=by kernel_rfl
theorem q76:aN C 76 PM.vP:=fun _ _ _ hl h=>aL rfl rfl Tryz.func80 (by kernel_rfl) c76 hl h
theorem c82:(T bhH).func Tryz.f64=some PM.adM:=by kernel_rfl
theorem q82:aN C 82 PM.adM:=fun _ _ _ hl h=>aL rfl rfl Tryz.func64 (by kernel_rfl) c82 hl h
theorem c85:(T bhI).func Tryz.f46=some PM.adN:=by kernel_rfl
theorem q85:aN C 85 PM.adN:=fun _ _ _ hl h=>aL rfl rfl Tryz.func46 (by kernel_rfl) c85 hl h
theorem c86:(T a1E).func Tryz.f52=some PM.CS:=by kernel_rfl
theorem q86:aN C 86 PM.CS:=fun _ _ _ hl h=>aL rfl rfl Tryz.func52 (by kernel_rfl) c86 hl h
theorem c89:(T boB).func Tryz.f65=some PM.aFY:=by kernel_rfl
theorem q89:aN C 89 PM.aFY:=fun _ _ _ hl h=>aL rfl rfl Tryz.func65 (by kernel_rfl) c89 hl h
theorem c91:(T bnZ).func Tryz.f24=some PM.same:=by kernel_rfl
theorem q91:aN C 91 PM.same:=fun _ _ _ hl h=>aL rfl rfl Tryz.func24 (by kernel_rfl) c91 hl h
theorem c95:(T blM).func Tryz.f59=some PM.azP:=by kernel_rfl
theorem q95:aN C 95 PM.azP:=fun _ _ _ hl h=>aL rfl rfl Tryz.func59 (by kernel_rfl) c95 hl h
theorem c96:(T blW).func Tryz.f47=some PM.aAK:=by kernel_rfl
theorem q96:aN C 96 PM.aAK:=fun _ _ _ hl h=>aL rfl rfl Tryz.func47 (by kernel_rfl) c96 hl h
theorem c97:(T a5K).func Tryz.f90=some PM.LN:=by kernel_rfl
theorem q97:aN C 97 PM.LN:=fun _ _ _ hl h=>aL rfl rfl Tryz.func90 (by kernel_rfl) c97 hl h
theorem c98:(T beB).func Tryz.f130=some PM.aaZ:=by kernel_rfl
theorem q98:aN C 98 PM.aaZ:=fun _ _ _ hl h=>aL rfl rfl Tryz.func130 (by kernel_rfl) c98 hl h
theorem c99:(T beD).func Tryz.f91=some PM.abA:=by kernel_rfl
theorem q99:aN C 99 PM.abA:=fun _ _ _ hl h=>aL rfl rfl Tryz.func91 (by kernel_rfl) c99 hl h
theorem bxI:(T beF).func Tryz.f132=some PM.abB:=by kernel_rfl
theorem bBL:aN C 100 PM.abB:=fun _ _ _ hl h=>aL rfl rfl Tryz.func132 (by kernel_rfl) bxI hl h
theorem bxJ:(T blS).func Tryz.f135=some PM.gone:=by kernel_rfl
theorem bBM:aN C 101 PM.gone:=fun _ _ _ hl h=>aL rfl rfl Tryz.func135 (by kernel_rfl) bxJ hl h
theorem bxK:(T beI).func Tryz.f95=some PM.abC:=by kernel_rfl
theorem bBN:aN C 102 PM.abC:=fun _ _ _ hl h=>aL rfl rfl Tryz.func95 (by kernel_rfl) bxK hl h
theorem bxL:(T a5M).func Tryz.f131=some PM.LO:=by kernel_rfl
theorem bBO:aN C 103 PM.LO:=fun _ _ _ hl h=>aL rfl rfl Tryz.func131 (by kernel_rfl) bxL hl h
theorem bxM:(T bqL).func Tryz.f57=some PM.gin:=by kernel_rfl
theorem bBP:aN C 104 PM.gin:=fun _ _ _ hl h=>aL rfl rfl Tryz.func57 (by kernel_rfl) bxM hl h
theorem bxN:(T blO).func Tryz.f89=some PM.azR:=by kernel_rfl
theorem bBQ:aN C 105 PM.azR:=fun _ _ _ hl h=>aL rfl rfl Tryz.func89 (by kernel_rfl) bxN hl h
theorem bxO:(T blQ).func Tryz.f96=some PM.azS:=by kernel_rfl
theorem bBR:aN C 106 PM.azS:=fun _ _ _ hl h=>aL rfl rfl Tryz.func96 (by kernel_rfl) bxO hl h
theorem bxP:(T beK).func Tryz.f133=some PM.abF:=by kernel_rfl
theorem bBS:aN C 107 PM.abF:=fun _ _ _ hl h=>aL rfl rfl Tryz.func133 (by kernel_rfl) bxP hl h
theorem bxQ:(T beM).func Tryz.f97=some PM.abG:=by kernel_rfl
theorem bBT:aN C 108 PM.abG:=fun _ _ _ hl h=>aL rfl rfl Tryz.func97 (by kernel_rfl) bxQ hl h
theorem bxR:(T a5P).func Tryz.f134=some PM.MB:=by kernel_rfl
theorem bBU:aN C 109 PM.MB:=fun _ _ _ hl h=>aL rfl rfl Tryz.func134 (by kernel_rfl) bxR hl h
theorem bxS:(T beP).func Tryz.f61=some PM.abH:=by kernel_rfl
theorem bBV:aN C 110 PM.abH:=fun _ _ _ hl h=>aL rfl rfl Tryz.func61 (by kernel_rfl) bxS hl h
theorem bxT:(T blK).func Tryz.f58=some PM.ajE:=by kernel_rfl
theorem bBW:aN C 111 PM.ajE:=fun _ _ _ hl h=>aL rfl rfl Tryz.func58 (by kernel_rfl) bxT hl h
theorem bxU:(T blU).func Tryz.f60=some PM.azV:=by kernel_rfl
theorem bBX:aN C 112 PM.azV:=fun _ _ _ hl h=>aL rfl rfl Tryz.func60 (by kernel_rfl) bxU hl h
theorem bxV:(T blA).func Tryz.f123=some PM.LC:=by kernel_rfl
theorem bBY:aN C 113 PM.LC:=fun _ _ _ hl h=>aL rfl rfl Tryz.func123 (by kernel_rfl) bxV hl h
theorem bxW:(T blC).func Tryz.f94=some PM.axP:=by kernel_rfl
theorem bBZ:aN C 114 PM.axP:=fun _ _ _ hl h=>aL rfl rfl Tryz.func94 (by kernel_rfl) bxW hl h
theorem bxX:(T bdX).func Tryz.f93=some PM.QX:=by kernel_rfl
theorem bCA:aN C 115 PM.QX:=fun _ _ _ hl h=>aL rfl rfl Tryz.func93 (by kernel_rfl) bxX hl h
theorem bxY:(T aYK).func Tryz.f120=some PM.vD:=by kernel_rfl
theorem bCB:aN C 116 PM.vD:=fun _ _ _ hl h=>aL rfl rfl Tryz.func120 (by kernel_rfl) bxY hl h
theorem bxZ:(T blI).func Tryz.f92=some PM.VI:=by kernel_rfl
theorem bCC:aN C 117 PM.VI:=fun _ _ _ hl h=>aL rfl rfl Tryz.func92 (by kernel_rfl) bxZ hl h
theorem byA:(T a5I).func Tryz.f126=some PM.LM:=by kernel_rfl
theorem bCD:aN C 118 PM.LM:=fun _ _ _ hl h=>aL rfl rfl Tryz.func126 (by kernel_rfl) byA hl h
theorem byB:(T bkY).func Tryz.f125=some PM.axM:=by kernel_rfl
theorem bCE:aN C 119 PM.axM:=fun _ _ _ hl h=>aL rfl rfl Tryz.func125 (by kernel_rfl) byB hl h
theorem byC:(T aYH).func Tryz.f124=some PM.nH:=by kernel_rfl
theorem bCF:aN C 120 PM.nH:=fun _ _ _ hl h=>aL rfl rfl Tryz.func124 (by kernel_rfl) byC hl h
theorem byD:(T a5G).func Tryz.f128=some PM.LL:=by kernel_rfl
theorem bCG:aN C 121 PM.LL:=fun _ _ _ hl h=>aL rfl rfl Tryz.func128 (by kernel_rfl) byD hl h
theorem byE:(T bdZ).func Tryz.f129=some PM.aaY:=by kernel_rfl
theorem bCH:aN C 122 PM.aaY:=fun _ _ _ hl h=>aL rfl rfl Tryz.func129 (by kernel_rfl) byE hl h
theorem byF:(T bfD).func Tryz.f98=some PM.RE:=by kernel_rfl
theorem bCI:aN C 123 PM.RE:=fun _ _ _ hl h=>aL rfl rfl Tryz.func98 (by kernel_rfl) byF hl h
theorem byG:(T a6A).func Tryz.f153=some PM.CD:=by kernel_rfl
theorem bCJ:aN C 124 PM.CD:=fun _ _ _ hl h=>aL rfl rfl Tryz.func153 (by kernel_rfl) byG hl h
theorem byH:(T a6D).func Tryz.f137=some PM.CE:=by kernel_rfl
theorem bCK:aN C 125 PM.CE:=fun _ _ _ hl h=>aL rfl rfl Tryz.func137 (by kernel_rfl) byH hl h
theorem byI:(T aZG).func Tryz.f136=some PM.vJ:=by kernel_rfl
theorem bCL:aN C 126 PM.vJ:=fun _ _ _ hl h=>aL rfl rfl Tryz.func136 (by kernel_rfl) byI hl h
theorem byJ:(T bmW).func Tryz.f147=some PM.aCH:=by kernel_rfl
theorem bCM:aN C 127 PM.aCH:=fun _ _ _ hl h=>aL rfl rfl Tryz.func147 (by kernel_rfl) byJ hl h
theorem byK:(T bfJ).func Tryz.f121=some PM.acI:=by kernel_rfl
theorem bCN:aN C 128 PM.acI:=fun _ _ _ hl h=>aL rfl rfl Tryz.func121 (by kernel_rfl) byK hl h
theorem byL:(T bmZ).func Tryz.f127=some PM.aCX:=by kernel_rfl
theorem bCO:aN C 129 PM.aCX:=fun _ _ _ hl h=>aL rfl rfl Tryz.func127 (by kernel_rfl) byL hl h
theorem byM:(T bnB).func Tryz.f150=some PM.aDD:=by kernel_rfl
theorem bCP:aN C 130 PM.aDD:=fun _ _ _ hl h=>aL rfl rfl Tryz.func150 (by kernel_rfl) byM hl h
theorem byN:(T bnD).func Tryz.f149=some PM.aDH:=by kernel_rfl
theorem bCQ:aN C 131 PM.aDH:=fun _ _ _ hl h=>aL rfl rfl Tryz.func149 (by kernel_rfl) byN hl h
theorem byO:(T bfL).func Tryz.f122=some PM.acU:=by kernel_rfl
theorem bCR:aN C 132 PM.acU:=fun _ _ _ hl h=>aL rfl rfl Tryz.func122 (by kernel_rfl) byO hl h
theorem byP:(T bnF).func Tryz.f152=some PM.aDM:=by kernel_rfl
theorem bCS:aN C 133 PM.aDM:=fun _ _ _ hl h=>aL rfl rfl Tryz.func152 (by kernel_rfl) byP hl h
theorem byQ:(T bnH).func Tryz.f148=some PM.aDV:=by kernel_rfl
theorem bCT:aN C 134 PM.aDV:=fun _ _ _ hl h=>aL rfl rfl Tryz.func148 (by kernel_rfl) byQ hl h
theorem byR:(T bfO).func Tryz.f151=some PM.acY:=by kernel_rfl
theorem bCU:aN C 135 PM.acY:=fun _ _ _ hl h=>aL rfl rfl Tryz.func151 (by kernel_rfl) byR hl h
theorem byS:(T aZR).func Tryz.f166=some PM.CI:=by kernel_rfl
theorem bCV:aN C 136 PM.CI:=fun _ _ _ hl h=>aL rfl rfl Tryz.func166 (by kernel_rfl) byS hl h
theorem byT:(T a6L).func Tryz.f164=some PM.MP:=by kernel_rfl
theorem bCW:aN C 137 PM.MP:=fun _ _ _ hl h=>aL rfl rfl Tryz.func164 (by kernel_rfl) byT hl h
theorem byU:(T aZW).func Tryz.f146=some PM.rS:=by kernel_rfl
theorem bCX:aN C 138 PM.rS:=fun _ _ _ hl h=>aL rfl rfl Tryz.func146 (by kernel_rfl) byU hl h
theorem byV:(T aMB).func Tryz.f172=some PM.wO:=by kernel_rfl
theorem bCY:aN C 139 PM.wO:=fun _ _ _ hl h=>aL rfl rfl Tryz.func172 (by kernel_rfl) byV hl h
theorem byW:(T a6O).func Tryz.f169=some PM.MX:=by kernel_rfl
theorem bCZ:aN C 140 PM.MX:=fun _ _ _ hl h=>aL rfl rfl Tryz.func169 (by kernel_rfl) byW hl h
theorem byX:(T a6Q).func Tryz.f165=some PM.MY:=by kernel_rfl
theorem bDA:aN C 141 PM.MY:=fun _ _ _ hl h=>aL rfl rfl Tryz.func165 (by kernel_rfl) byX hl h
theorem byY:(T aEC).func Tryz.f171=some PM.tC:=by kernel_rfl
theorem bDB:aN C 142 PM.tC:=fun _ _ _ hl h=>aL rfl rfl Tryz.func171 (by kernel_rfl) byY hl h
theorem byZ:(T brM).func Tryz.f170=some PM.nup:=by kernel_rfl
theorem bDC:aN C 143 PM.nup:=fun _ _ _ hl h=>aL rfl rfl Tryz.func170 (by kernel_rfl) byZ hl h
theorem bzA:(T bcW).func Tryz.f16=some PM.begin:=by kernel_rfl
theorem bDD:aN C 144 PM.begin:=fun _ _ _ hl h=>aL rfl rfl Tryz.func16 (by kernel_rfl) bzA hl h
theorem bzB:(T boJ).func Tryz.f18=some PM.step:=by kernel_rfl
theorem bDE:aN C 145 PM.step:=fun _ _ _ hl h=>aL rfl rfl Tryz.func18 (by kernel_rfl) bzB hl h
theorem bzC:(T boX).func Tryz.f17=some PM.aIK:=by kernel_rfl
theorem bDF:aN C 146 PM.aIK:=fun _ _ _ hl h=>aL rfl rfl Tryz.func17 (by kernel_rfl) bzC hl h
theorem bzD:(T a1G).func Tryz.f48=some PM.CU:=by kernel_rfl
theorem bDG:aN C 153 PM.CU:=fun _ _ _ hl h=>aL rfl rfl Tryz.func48 (by kernel_rfl) bzD hl h
theorem bzE:(T aHB).func Tryz.f99=some PM.yH:=by kernel_rfl
theorem bDH:aN C 156 PM.yH:=fun _ _ _ hl h=>aL rfl rfl Tryz.func99 (by kernel_rfl) bzE hl h
theorem bzF:(T a8Y).func Tryz.f63=some PM.wW:=by kernel_rfl
theorem bDI:aN C 160 PM.wW:=fun _ _ _ hl h=>aL rfl rfl Tryz.func63 (by kernel_rfl) bzF hl h
theorem bzG:(T a9A).func Tryz.f62=some PM.OO:=by kernel_rfl
theorem bDJ:aN C 161 PM.OO:=fun _ _ _ hl h=>aL rfl rfl Tryz.func62 (by kernel_rfl) bzG hl h
theorem bzI:(T bdQ).func Tryz.f20=some PM.EP:=by kernel_rfl
theorem bDL:aN C 240 PM.EP:=fun _ _ _ hl h=>aL rfl rfl Tryz.func20 (by kernel_rfl) bzI hl h
theorem bzJ:(T bdH).func Tryz.f41=some PM.ZR:=by kernel_rfl
theorem bDM:aN C 241 PM.ZR:=fun _ _ _ hl h=>aL rfl rfl Tryz.func41 (by kernel_rfl) bzJ hl h
theorem bzK:(T bdO).func Tryz.f43=some PM.aaD:=by kernel_rfl
theorem bDN:aN C 242 PM.aaD:=fun _ _ _ hl h=>aL rfl rfl Tryz.func43 (by kernel_rfl) bzK hl h
theorem bzL:(T bkO).func Tryz.f42=some PM.awO:=by kernel_rfl
theorem bDO:aN C 243 PM.awO:=fun _ _ _ hl h=>aL rfl rfl Tryz.func42 (by kernel_rfl) bzL hl h
theorem bzM:(T a4R).func Tryz.f25=some PM.KP:=by kernel_rfl
theorem bDP:aN C 244 PM.KP:=fun _ _ _ hl h=>aL rfl rfl Tryz.func25 (by kernel_rfl) bzM hl h
theorem bzN:(T aHB).func Tryz.f44=some PM.yH:=by kernel_rfl
theorem bDQ:aN C 245 PM.yH:=fun _ _ _ hl h=>aL rfl rfl Tryz.func44 (by kernel_rfl) bzN hl h
theorem bzO:(T aXY).func Tryz.f26=some PM.BW:=by kernel_rfl
theorem bDR:aN C 246 PM.BW:=fun _ _ _ hl h=>aL rfl rfl Tryz.func26 (by kernel_rfl) bzO hl h
theorem bzP:(T aSQ).func Tryz.f45=some PM.NZ:=by kernel_rfl
theorem bDS:aN C 247 PM.NZ:=fun _ _ _ hl h=>aL rfl rfl Tryz.func45 (by kernel_rfl) bzP hl h
theorem bzQ:(T a4U).func Tryz.f27=some PM.KT:=by kernel_rfl
theorem bDT:aN C 248 PM.KT:=fun _ _ _ hl h=>aL rfl rfl Tryz.func27 (by kernel_rfl) bzQ hl h
theorem bzR:(T bdM).func Tryz.f9=some PM.aaC:=by kernel_rfl
theorem bDU:aN C 249 PM.aaC:=fun _ _ _ hl h=>aL rfl rfl Tryz.func9 (by kernel_rfl) bzR hl h
theorem bzS:(T a0F).func Tryz.f30=some PM.CL:=by kernel_rfl
theorem bDV:aN C 250 PM.CL:=fun _ _ _ hl h=>aL rfl rfl Tryz.func30 (by kernel_rfl) bzS hl h
theorem bzT:(T bfY).func Tryz.f33=some PM.adB:=by kernel_rfl
theorem bDW:aN C 251 PM.adB:=fun _ _ _ hl h=>aL rfl rfl Tryz.func33 (by kernel_rfl) bzT hl h
theorem bzU:(T bfW).func Tryz.f23=some PM.a0A:=by kernel_rfl
theorem bDX:aN C 252 PM.a0A:=fun _ _ _ hl h=>aL rfl rfl Tryz.func23 (by kernel_rfl) bzU hl h
theorem bzV:(T a0K).func Tryz.f34=some PM.akM:=by kernel_rfl
theorem bDY:aN C 253 PM.akM:=fun _ _ _ hl h=>aL rfl rfl Tryz.func34 (by kernel_rfl) bzV hl h
theorem bzW:(T aSQ).func Tryz.f35=some PM.NZ:=by kernel_rfl
theorem bDZ:aN C 254 PM.NZ:=fun _ _ _ hl h=>aL rfl rfl Tryz.func35 (by kernel_rfl) bzW hl h
theorem bzX:(T bgN).func Tryz.f29=some PM.a0G:=by kernel_rfl
theorem bEA:aN C 255 PM.a0G:=fun _ _ _ hl h=>aL rfl rfl Tryz.func29 (by kernel_rfl) bzX hl h
theorem bzY:(T bvF).func Tryz.f40=some PM.qk:=by kernel_rfl
theorem bEB:aN C 257 PM.qk:=fun _ _ _ hl h=>aL rfl rfl Tryz.func40 (by kernel_rfl) bzY hl h
theorem bzZ:(T aLA).func Tryz.f51=some PM.QM:=by kernel_rfl
theorem bEC:aN C 258 PM.QM:=fun _ _ _ hl h=>aL rfl rfl Tryz.func51 (by kernel_rfl) bzZ hl h
theorem bAA:(T aER).func Tryz.f32=some PM.tE:=by kernel_rfl
theorem bED:aN C 260 PM.tE:=fun _ _ _ hl h=>aL rfl rfl Tryz.func32 (by kernel_rfl) bAA hl h
theorem bAB:(T a7P).func Tryz.f50=some PM.NU:=by kernel_rfl
theorem bEE:aN C 261 PM.NU:=fun _ _ _ hl h=>aL rfl rfl Tryz.func50 (by kernel_rfl) bAB hl h
theorem bAC:(T bbN).func Tryz.f36=some PM.PW:=by kernel_rfl
theorem bEF:aN C 262 PM.PW:=fun _ _ _ hl h=>aL rfl rfl Tryz.func36 (by kernel_rfl) bAC hl h
theorem bAD:(T bcD).func Tryz.f15=some PM.aKF:=by kernel_rfl
theorem bEG:aN C 263 PM.aKF:=fun _ _ _ hl h=>aL rfl rfl Tryz.func15 (by kernel_rfl) bAD hl h
theorem bAE:(T bbL).func Tryz.f19=some PM.PT:=by kernel_rfl
theorem bEH:aN C 264 PM.PT:=fun _ _ _ hl h=>aL rfl rfl Tryz.func19 (by kernel_rfl) bAE hl h
theorem bAF:(T bbS).func Tryz.f13=some PM.QA:=by kernel_rfl
theorem bEI:aN C 265 PM.QA:=fun _ _ _ hl h=>aL rfl rfl Tryz.func13 (by kernel_rfl) bAF hl h
theorem bAG:(T biQ).func Tryz.f28=some PM.a1Q:=by kernel_rfl
theorem bEJ:aN C 266 PM.a1Q:=fun _ _ _ hl h=>aL rfl rfl Tryz.func28 (by kernel_rfl) bAG hl h
theorem bAH:(T bbJ).func Tryz.f11=some PM.aKB:=by kernel_rfl
theorem bEK:aN C 267 PM.aKB:=fun _ _ _ hl h=>aL rfl rfl Tryz.func11 (by kernel_rfl) bAH hl h
theorem bAI:(T baE).func Tryz.f21=some PM.aIZ:=by kernel_rfl
theorem bEL:aN C 268 PM.aIZ:=fun _ _ _ hl h=>aL rfl rfl Tryz.func21 (by kernel_rfl) bAI hl h
theorem bAJ:(T baU).func Tryz.f14=some PM.aJQ:=by kernel_rfl
theorem bEM:aN C 269 PM.aJQ:=fun _ _ _ hl h=>aL rfl rfl Tryz.func14 (by kernel_rfl) bAJ hl h
theorem bAK:(T bhD).func Tryz.f22=some PM.a0U:=by kernel_rfl
theorem bEN:aN C 270 PM.a0U:=fun _ _ _ hl h=>aL rfl rfl Tryz.func22 (by kernel_rfl) bAK hl h
theorem bAL:(T aLW).func Tryz.f12=some PM.WE:=by kernel_rfl
theorem bEO:aN C 272 PM.WE:=fun _ _ _ hl h=>aL rfl rfl Tryz.func12 (by kernel_rfl) bAL hl h
theorem bAN:(T a7M).func Tryz.f37=some PM.aEP:=by kernel_rfl
theorem bEQ:aN C 277 PM.aEP:=fun _ _ _ hl h=>aL rfl rfl Tryz.func37 (by kernel_rfl) bAN hl h
theorem bAM:(T a5Y).func Tryz.f5=some PM.MG:=by kernel_rfl
theorem bEP:aN C 273 PM.MG:=fun _ _ _ hl h=>aL rfl rfl Tryz.func5 (by kernel_rfl) bAM hl h
theorem bzH:(T a4N).func Tryz.f31=some PM.concat:=by kernel_rfl
theorem bDK:aN C 178 PM.concat:=fun _ _ _ hl h=>aL rfl rfl Tryz.func31 (by kernel_rfl) bzH hl h
theorem bqF:cJ C:={
 r24:=q24,
 r26:=q26,
 r30:=q30,
 r31:=q31,
 r32:=q32,
 r33:=q33,
 r34:=q34,
 r35:=q35,
 r36:=q36,
 r37:=q37,
 r38:=q38,
 r39:=q39,
 r40:=q40,
 r41:=q41,
 r42:=q42,
 r43:=q43,
 r44:=q44,
 r45:=q45,
 r46:=q46,
 r47:=q47,
 r48:=q48,
 r49:=q49,
 r50:=q50,
 r51:=q51,
 r52:=q52,
 r53:=q53,
 r54:=q54,
 r55:=q55,
 r56:=q56,
 r57:=q57,
 r58:=q58,
 r59:=q59,
 r60:=q60,
 r61:=q61,
 r62:=q62,
 r63:=q63,
 r64:=q64,
 r65:=q65,
 r66:=q66,
 r67:=q67,
 r68:=q68,
 r69:=q69,
 r70:=q70,
 r71:=q71,
 r72:=q72,
 r73:=q73,
 r74:=q74,
 r75:=q75,
 r76:=q76,
 r82:=q82,
 r85:=q85,
 r86:=q86,
 r89:=q89,
 r91:=q91,
 r95:=q95,
 r96:=q96,
 r97:=q97,
 r98:=q98,
 r99:=q99,
 r100:=bBL,
 r101:=bBM,
 r102:=bBN,
 r103:=bBO,
 r104:=bBP,
 r105:=bBQ,
 r106:=bBR,
 r107:=bBS,
 r108:=bBT,
 r109:=bBU,
 r110:=bBV,
 r111:=bBW,
 r112:=bBX,
 r113:=bBY,
 r114:=bBZ,
 r115:=bCA,
 r116:=bCB,
 r117:=bCC,
 r118:=bCD,
 r119:=bCE,
 r120:=bCF,
 r121:=bCG,
 r122:=bCH,
 r123:=bCI,
 r124:=bCJ,
 r125:=bCK,
 r126:=bCL,
 r127:=bCM,
 r128:=bCN,
 r129:=bCO,
 r130:=bCP,
 r131:=bCQ,
 r132:=bCR,
 r133:=bCS,
 r134:=bCT,
 r135:=bCU,
 r136:=bCV,
 r137:=bCW,
 r138:=bCX,
 r139:=bCY,
 r140:=bCZ,
 r141:=bDA,
 r142:=bDB,
 r143:=bDC,
 r144:=bDD,
 r145:=bDE,
 r146:=bDF,
 r153:=bDG,
 r156:=bDH,
 r160:=bDI,
 r161:=bDJ,
 r240:=bDL,
 r241:=bDM,
 r242:=bDN,
 r243:=bDO,
 r244:=bDP,
 r245:=bDQ,
 r246:=bDR,
 r247:=bDS,
 r248:=bDT,
 r249:=bDU,
 r250:=bDV,
 r251:=bDW,
 r252:=bDX,
 r253:=bDY,
 r254:=bDZ,
 r255:=bEA,
 r257:=bEB,
 r258:=bEC,
 r260:=bED,
 r261:=bEE,
 r262:=bEF,
 r263:=bEG,
 r264:=bEH,
 r265:=bEI,
 r266:=bEJ,
 r267:=bEK,
 r268:=bEL,
 r269:=bEM,
 r270:=bEN,
 r272:=bEO,
 r277:=bEQ }
end Go.Proofs.YthbkofcdddghgaaGreat
namespace Go.Proofs.YthbkofcdddghgaaGreat
open Go Go.PM Go.RowKit Go.ChangeShapes Go.WideShapes
theorem Tryz.own:ownKnob Tryz.prog.godebug=none:=by kernel_rfl
theorem Tryz.laidOut:laidOutB Tryz.prog=true:=by kernel_rfl
theorem aGW:Tryz.t3.bytes=8:=by kernel_rfl
theorem ajY {n:Nat} (h:0<n):Builtin.nextslicecap n 0=n:=by
 unfold Builtin.nextslicecap
 rw[if_pos Om]
theorem a5Q (n:Int) (h0:0≤n) (h1:n≤1000000) (w:World):Calls Tryz.prog 49 #[.slice none 0 0,.int .i64 n] w fun e w' =>
  (n=0∧e=.returned (.slice none 0 0)∧w'=w)∨(0<n∧∃ cap cs,e=.returned (.slice (some ⟨w.heap.size,0,none⟩) 0 cap)∧w'=(w.alloc (.cells cs 3)).drew∧cs.size=cap∧cap≤maxLen):=by
 go_enter Tryz.func49,Tryz.ntmps49
 go_wp2
 all_goals (try (exfalso; simp only[aGW] at *; omega))
 ·exfalso
  rw[ajY Om] at *
  simp only[aGW] at *
  omega
 ·go_ret
  have hge:=grownCap_ge w n.toNat 0 3
  have hle:=grownCap_le_maxLen w n.toNat 0 3 (by simp only[maxLen]; omega)
  unfold grownCap at hge hle
  refine .inr ⟨_,rfl,_,rfl,?_,hle⟩
  simp only[Array.size_append,size_zeroCells]
  simp
  omega
 ·go_ret
  exact .inl ⟨by omega,rfl,rfl⟩
theorem aYQ (n:Int) (h0:0≤n) (h1:n≤1000000):aD C 179 [.aB,.int .i64 n] .nil (bjQ n):=by
 refine⟨⟨Tryz.f49,Tryz.func49,by kernel_rfl,by kernel_rfl⟩,fun E w vs hN hW hvs=>?_⟩
 obtain⟨vl⟩:=vs
 cases hvs with
 | cons e1 e2 =>
 cases e2 with
 | cons e3 e4 =>
 cases e4
 cases e1
 cases e3
 refine (a5Q n h0 h1 w).mono fun e w' he=>?_
 rcases he with ⟨rfl,rfl,rfl⟩ | ⟨hn,cap,cs,rfl,rfl,hs,hc⟩
 ·exact⟨_,.aB,E,.nil,rfl,hW,.aB,.refl _ _ _,.inl ⟨rfl,rfl,rfl⟩⟩
 ·have hR:iY E 1 [] cs:=⟨by simp,by simp,fun i j pv h=>by simp[at2] at h⟩
  obtain⟨k1,k2⟩:=hW.BR 3 hR
  refine⟨_,.osl w.heap.size 1 0 0,_,_,rfl,k1.drew,?_,k2.YL rfl rfl rfl (bJF _) (fun _ _=>rfl),.inr ⟨hn,_,rfl,rfl⟩⟩
  exact .osl rfl rfl (.inr rfl) Om hc (acZ _ _ _) Om
theorem awM (ws:List (List Int)) (h1:ws.length≤1000000) (h2:ws.flatten.length≤1000000):aD C 178 [lists ws] .nil (US ws.flatten) :=
 bDK.go (a4L ws h1 h2 aYQ) rfl
set_option maxRecDepth 100000 in
theorem boG:rI C:={
 concat:=awM
 sort:=fun o xs hx hl=>a1B Tryz.aBJ (by kernel_rfl) ⟨_,Tryz.func38,by kernel_rfl,by kernel_rfl⟩ o xs hx hl
 sort0:=aMI Tryz.aBJ (by kernel_rfl) ⟨_,Tryz.func38,by kernel_rfl,by kernel_rfl⟩ _ _ (.inl rfl)
 compact:=fun o xs hx hl=>auE Tryz.SL (by kernel_rfl) ⟨_,Tryz.func39,by kernel_rfl,by kernel_rfl⟩ o xs hx hl
 compact0:=aiV Tryz.SL (by kernel_rfl) ⟨_,Tryz.func39,by kernel_rfl,by kernel_rfl⟩ _ _ (.inl rfl) }
end Go.Proofs.YthbkofcdddghgaaGreat
namespace Go.Proofs.YthbkofcdddghgaaGreat
open Go Go.PM Go.RowKit Go.ChangeShapes Go.WideShapes
def argKinds:List AT:=[.one (.sl [.int .i64]),.one (.int .i64),.one (.sl [.int .i64])]
theorem bkJ:BT Tryz.prog 8 Tryz.f5.params.toList=some argKinds:=by kernel_rfl
theorem bmI (pvs:List PV) (h:AT.TyL argKinds pvs):aD C 273 pvs .nil (aE (.bool true)):=by
 match pvs,h with
 | [p0,p1,p2],h =>
  obtain⟨h0,h1,h2,-⟩:=h
  cases h0 with | one h0 =>
  obtain⟨x0,rfl,b0,c0⟩:=Ty.aBG h0
  cases h1 with | one h1 =>
  obtain⟨x1,rfl,-⟩:=Ty.ajO h1
  cases h2 with | one h2 =>
  obtain⟨x2,rfl,b2,c2⟩:=Ty.aBG h2
  have tm:TpM x0:=⟨by
   have:maxLen≤9223372036854775807:=by decide
   omega,fun x hm=>by
   have e1:IntKind.i64.min=-9223372036854775808:=by decide
   have e2:IntKind.i64.max=9223372036854775807:=by decide
   have h1:=(c0 x hm).1
   have h2:=(c0 x hm).2
   rw[e1] at h1
   rw[e2] at h2
   unfold cV
   omega⟩
  exact a0T bqF boG bEP x0 x2 tm x1
set_option maxRecDepth 100000 in
theorem KC (os:Os) (started:os.Started) (H:Type) (enc:TypeId × Value→H) :
  ReturnsInHanded {} Tryz.checked os 5 .any (Rows.rolloutBoundSpec.pre6 enc Tryz.prog Tryz.f5 Rows.rolloutBoundRow.domain false) (Rows.rolloutBoundSpec.post enc Tryz.prog Tryz.f5 false true false false):=by
 refine returnsInHanded_of_change (C:=Tryz.checked) Tryz.own started (by kernel_rfl) Tryz.func5
  (ChangeSpec.witness6 (enc:=enc) (C:=Tryz.checked) false ⟨#[],#[.slice none 0 0,.int .i64 0,.slice none 0 0],[]⟩ 8 (by kernel_rfl) (by kernel_rfl) (by kernel_rfl) (by kernel_rfl)) ?_
 intro W base args ds gs before bHR hW _ _
 exact awK (P:=Tryz.prog) (num:=num) (name:=273) (n:=8) (ats:=argKinds) (bt:=4) Tryz.laidOut (by kernel_rfl) (by kernel_rfl) (by kernel_rfl) rfl
  (fun ds hd=>by
   match ds,hd with
   | [d1,d2,d3],_=>exact⟨rfl,rfl,rfl⟩)
  (by kernel_rfl) bkJ bmI bHR hW
theorem rolloutBound_holds:Rows.RolloutBoundSaid :=
 OpenClaim.holds_of_wide 5 Tryz.f5 rfl rfl rfl rfl rfl rfl rfl ⟨rfl,rfl,rfl,rfl,rfl⟩ rfl rfl rfl rfl rfl (by kernel_rfl) Tryz.func5 (by kernel_rfl)
  (of_decide_eq_true (by kernel_rfl)) (by unfold Func.isWrapper; first | (rw[if_pos (by decide +kernel)]; kernel_rfl) | (rw[if_neg (by decide +kernel)]; exact⟨rfl,rfl⟩))
  (fun os started H enc _=>KC os started H enc)
#print axioms rolloutBound_holds
end Go.Proofs.YthbkofcdddghgaaGreat
