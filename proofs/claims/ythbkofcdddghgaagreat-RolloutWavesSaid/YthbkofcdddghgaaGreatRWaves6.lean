/-
  The law of the claim returns true at every input, and its argument reads as it did: the tied card. No condition.
-/
import Derived.Test.YthbkofcdddghgaaGreatRWaves1
import Derived.Test.YthbkofcdddghgaaGreatRWaves2
import Derived.Test.YthbkofcdddghgaaGreatRWaves3
import Derived.Test.YthbkofcdddghgaaGreatRWaves4
import Derived.Test.YthbkofcdddghgaaGreatRWaves5
import Derived.Test.YthbkofcdddghgaaGreatProg
import Derived.KernelRfl
import Derived.Test.YthbkofcdddghgaaGreatRows
import Derived.ProofKit
import Derived.WalkKit
set_option linter.unusedSimpArgs false
set_option linter.unusedVariables false
open Nat renaming reduceEqDiff → γ, reduceAdd → δ, reduceSub → ε, reduceMul → ζ, reduceLT → η, reduceLeDiff → θ, reduceBEq → τ
open Int renaming reduceLT → ι, reduceLE → κ, reduceEq → μ, reduceToNat → ν, reduceAdd → ξ, reduceNeg → ο, reduceBEq → ρ, reduceBNe → σ
open List renaming reduceReplicate → υ
open List renaming length_map → bJO, range → bJP, replicate → bJR, getElem_mem → bJS, length_append → bJW, getElem?_eq_getElem → bJZ, length_singleton → bKC, mem_cons → bKE, take_of_length_le → bKF, length_take → bKG, getD_eq_getElem?_getD → bKH, all_eq_true → bKK, take_length → bKL, append_assoc → bKP, drop_zero → bKQ, getElem?_map → bKS, mem_map → bKU, mem_singleton → bKV, getElem?_eq_some_iff → bKY, mem_range → bKZ, mem_append → bLB, not_mem_nil → bLC, getElem?_eq_none → bLD, length_cons → bLG, map_append → bLK, take_succ_eq_append_getElem → bLL, append_nil → bLM, drop_eq_getElem_cons → bLN, length_set → bLO, length_drop → bLQ, map_cons → bLR, Sublist → bLU, getElem_of_mem → bLV, getElem?_append_right → bLX, getElem_map → bLY, length_nil → bLZ, nil_append → bMA, nodup_append → bMC, take_append_drop → bMD, getElem?_append_left → bMH, mem_of_getElem? → bMI, contains_iff_mem → bMN, set_append_right → bMQ, getElem?_take → bMU, drop_of_length_le → bMZ, getElem?_drop → bNA, length_replicate → bNB, eq_nil_of_length_eq_zero → bNC, getElem?_take_of_lt → bND
open Nat renaming le_refl → bJQ, gcd → bJT, zero_le → bJY, mul_add → bKB, lt_or_ge → bKI, mul_assoc → bKJ, zero_add → bKN, mul_comm → bKO, add_mul → bKR, mul_le_mul_right → bKT, mod_eq_of_lt → bKW, mod_lt → bLE, add_zero → bLH, pow_succ → bLI, min_eq_left → bLS, mul_le_mul_left → bLT, pos_of_ne_zero → bLW, add_assoc → bMB, pow_pos → bME, sub_self → bMF, div_lt_iff_lt_mul → bMJ, eq_zero_or_pos → bMO, div_add_mod → bMV, div_eq_of_lt → bMW
open Bool renaming false_and → bJU, not_true → bJV, true_and → bKA, not_false → bKD, and_eq_true → bKM, and_false → bLA, and_true → bLP, and_assoc → bMM, false_eq_true → bMP
open Option renaming map_eq_some_iff → bJX, map_some → bKX, some → bMG, getD_some → bMK, bind_eq_some_iff → bMR, bind_some → bMX
open Int renaming tdiv → bLF, toNat_natCast → bMT
open Array renaming replicate → bLJ, length_toList → bML, getElem?_eq_getElem → bMS, getElem?_eq_some_iff → bMY
namespace Go.Proofs.YthbkofcdddghgaaGreat
open Go Go.PM
def bsB:List Nat:=[0,0,0,0,0,0,0,0,0,0,0,0,0,0,0,0,0,0,0,0,0,0,0,0,10,0,8,0,0,0,160,154,145,108,107,78,163,162,106,140,158,139,157,167,156,155,143,114,168,119,55,115,116,113,85,112,84,161,77,79,144,117,109,159,142,141,118,56,83,88,82,110,87,81,86,111,80,0,0,0,0,0,64,0,0,46,52,0,0,65,0,24,0,0,0,59,47,90,130,91,132,135,95,131,57,89,96,133,97,134,61,58,60,123,94,93,120,92,126,125,124,128,129,98,153,137,136,147,121,127,150,149,122,152,148,151,166,164,146,172,169,165,171,170,16,18,17,0,0,0,0,0,0,48,0,0,99,0,0,0,63,62,0,0,0,0,0,0,0,0,0,0,0,0,0,0,0,39,31,49,38,68,69,67,66,103,104,101,138,71,73,74,53,70,100,0,0,0,0,0,0,0,0,0,0,0,0,0,0,0,0,0,0,0,0,0,0,0,0,0,0,0,0,0,0,0,0,0,0,0,0,0,0,0,0,0,0,0,0,0,20,41,43,42,25,44,26,45,27,9,30,33,23,34,35,29,0,40,51,0,32,50,36,15,19,13,28,11,21,14,22,3,12,5,4,6,7,37]
def bnV:List (Option Nat):=[none,none,none,some 271,some 274,some 273,some 275,some 276,some 26,some 249,some 24,some 267,some 272,some 265,some 269,some 263,some 144,some 146,some 145,some 264,some 240,some 268,some 270,some 252,some 91,some 244,some 246,some 248,some 266,some 255,some 250,some 178,some 260,some 251,some 253,some 254,some 262,some 277,some 180,some 177,some 257,some 241,some 243,some 242,some 245,some 247,some 85,some 96,some 153,some 179,some 261,some 258,some 86,some 192,none,some 50,some 67,some 104,some 111,some 95,some 112,some 110,some 161,some 160,some 82,some 89,some 184,some 183,some 181,some 182,some 193,some 189,none,some 190,some 191,none,none,some 58,some 35,some 59,some 76,some 73,some 70,some 68,some 56,some 54,some 74,some 72,some 69,some 105,some 97,some 99,some 117,some 115,some 114,some 102,some 106,some 108,some 123,some 156,some 194,some 187,none,some 185,some 186,none,some 38,some 34,some 33,some 62,some 71,some 75,some 55,some 53,some 47,some 51,some 52,some 61,some 66,some 49,some 116,some 128,some 132,some 113,some 120,some 119,some 118,some 129,some 121,some 122,some 98,some 103,some 100,some 107,some 109,some 101,some 126,some 125,some 188,some 41,some 39,some 65,some 64,some 46,some 60,some 32,some 138,some 127,some 134,some 131,some 130,some 135,some 133,some 124,some 31,some 45,some 44,some 42,some 40,some 63,some 30,some 57,some 37,some 36,some 137,some 141,some 136,some 43,some 48,some 140,some 143,some 142,some 139]
def num (n:Nat):FuncId:=bsB.getD n 0
def nameOf (f:FuncId):Option Nat:=bnV.getD f none
noncomputable def C:Ctx:=⟨Tryz.prog,num⟩
noncomputable def T (ro:List Nat):Tbl:={ P:=Tryz.prog,num:=num,name:=nameOf,ro:=ro }
theorem c24:(T a3K).func Tryz.f10=some PM.DH:=by kernel_rfl
theorem q24:aN C 24 PM.DH:=fun _ _ _ hl h=>aM rfl rfl Tryz.func10 (by kernel_rfl) c24 hl h
theorem c26:(T beQ).func Tryz.f8=some PM.aaQ:=by kernel_rfl
theorem q26:aN C 26 PM.aaQ:=fun _ _ _ hl h=>aM rfl rfl Tryz.func8 (by kernel_rfl) c26 hl h
theorem c30:(T bpG).func Tryz.f160=some PM.aLJ:=by kernel_rfl
theorem q30:aN C 30 PM.aLJ:=fun _ _ _ hl h=>aM rfl rfl Tryz.func160 (by kernel_rfl) c30 hl h
theorem c31:(T biU).func Tryz.f154=some PM.agK:=by kernel_rfl
theorem q31:aN C 31 PM.agK:=fun _ _ _ hl h=>aM rfl rfl Tryz.func154 (by kernel_rfl) c31 hl h
theorem c32:(T bpI).func Tryz.f145=some PM.aLV:=by kernel_rfl
theorem q32:aN C 32 PM.aLV:=fun _ _ _ hl h=>aM rfl rfl Tryz.func145 (by kernel_rfl) c32 hl h
theorem c33:(T bpK).func Tryz.f108=some PM.udiv:=by kernel_rfl
theorem q33:aN C 33 PM.udiv:=fun _ _ _ hl h=>aM rfl rfl Tryz.func108 (by kernel_rfl) c33 hl h
theorem c34:(T bpM).func Tryz.f107=some PM.aMK:=by kernel_rfl
theorem q34:aN C 34 PM.aMK:=fun _ _ _ hl h=>aM rfl rfl Tryz.func107 (by kernel_rfl) c34 hl h
theorem c35:(T bjA).func Tryz.f78=some PM.agT:=by kernel_rfl
theorem q35:aN C 35 PM.agT:=fun _ _ _ hl h=>aM rfl rfl Tryz.func78 (by kernel_rfl) c35 hl h
theorem c36:(T bpO).func Tryz.f163=some PM.aMN:=by kernel_rfl
theorem q36:aN C 36 PM.aMN:=fun _ _ _ hl h=>aM rfl rfl Tryz.func163 (by kernel_rfl) c36 hl h
theorem c37:(T bpU).func Tryz.f162=some PM.aMV:=by kernel_rfl
theorem q37:aN C 37 PM.aMV:=fun _ _ _ hl h=>aM rfl rfl Tryz.func162 (by kernel_rfl) c37 hl h
theorem c38:(T bjI).func Tryz.f106=some PM.ahC:=by kernel_rfl
theorem q38:aN C 38 PM.ahC:=fun _ _ _ hl h=>aM rfl rfl Tryz.func106 (by kernel_rfl) c38 hl h
theorem c39:(T a5N).func Tryz.f140=some PM.DY:=by kernel_rfl
theorem q39:aN C 39 PM.DY:=fun _ _ _ hl h=>aM rfl rfl Tryz.func140 (by kernel_rfl) c39 hl h
theorem c40:(T biY).func Tryz.f158=some PM.agS:=by kernel_rfl
theorem q40:aN C 40 PM.agS:=fun _ _ _ hl h=>aM rfl rfl Tryz.func158 (by kernel_rfl) c40 hl h
theorem c41:(T bbT).func Tryz.f139=some PM.QP:=by kernel_rfl
theorem q41:aN C 41 PM.QP:=fun _ _ _ hl h=>aM rfl rfl Tryz.func139 (by kernel_rfl) c41 hl h
theorem c42:(T bbV).func Tryz.f157=some PM.QQ:=by kernel_rfl
theorem q42:aN C 42 PM.QQ:=fun _ _ _ hl h=>aM rfl rfl Tryz.func157 (by kernel_rfl) c42 hl h
theorem c43:(T bjG).func Tryz.f167=some PM.agX:=by kernel_rfl
theorem q43:aN C 43 PM.agX:=fun _ _ _ hl h=>aM rfl rfl Tryz.func167 (by kernel_rfl) c43 hl h
theorem c44:(T bbX).func Tryz.f156=some PM.QZ:=by kernel_rfl
theorem q44:aN C 44 PM.QZ:=fun _ _ _ hl h=>aM rfl rfl Tryz.func156 (by kernel_rfl) c44 hl h
theorem c45:(T bsV).func Tryz.f155=some PM.uup:=by kernel_rfl
theorem q45:aN C 45 PM.uup:=fun _ _ _ hl h=>aM rfl rfl Tryz.func155 (by kernel_rfl) c45 hl h
theorem c46:(T bpW).func Tryz.f143=some PM.anU:=by kernel_rfl
theorem q46:aN C 46 PM.anU:=fun _ _ _ hl h=>aM rfl rfl Tryz.func143 (by kernel_rfl) c46 hl h
theorem c47:(T bpY).func Tryz.f114=some PM.aNT:=by kernel_rfl
theorem q47:aN C 47 PM.aNT:=fun _ _ _ hl h=>aM rfl rfl Tryz.func114 (by kernel_rfl) c47 hl h
theorem c48:(T bcM).func Tryz.f168=some PM.RI:=by kernel_rfl
theorem q48:aN C 48 PM.RI:=fun _ _ _ hl h=>aM rfl rfl Tryz.func168 (by kernel_rfl) c48 hl h
theorem c49:(T bjQ).func Tryz.f119=some PM.ahO:=by kernel_rfl
theorem q49:aN C 49 PM.ahO:=fun _ _ _ hl h=>aM rfl rfl Tryz.func119 (by kernel_rfl) c49 hl h
theorem c50:(T bjS).func Tryz.f55=some PM.TQ:=by kernel_rfl
theorem q50:aN C 50 PM.TQ:=fun _ _ _ hl h=>aM rfl rfl Tryz.func55 (by kernel_rfl) c50 hl h
theorem c51:(T bcO).func Tryz.f115=some PM.RJ:=by kernel_rfl
theorem q51:aN C 51 PM.RJ:=fun _ _ _ hl h=>aM rfl rfl Tryz.func115 (by kernel_rfl) c51 hl h
theorem c52:(T a5Y).func Tryz.f116=some PM.EC:=by kernel_rfl
theorem q52:aN C 52 PM.EC:=fun _ _ _ hl h=>aM rfl rfl Tryz.func116 (by kernel_rfl) c52 hl h
theorem c53:(T bjU).func Tryz.f113=some PM.ahZ:=by kernel_rfl
theorem q53:aN C 53 PM.ahZ:=fun _ _ _ hl h=>aM rfl rfl Tryz.func113 (by kernel_rfl) c53 hl h
theorem c54:(T bjW).func Tryz.f85=some PM.aiA:=by kernel_rfl
theorem q54:aN C 54 PM.aiA:=fun _ _ _ hl h=>aM rfl rfl Tryz.func85 (by kernel_rfl) c54 hl h
theorem c55:(T bqB).func Tryz.f112=some PM.aON:=by kernel_rfl
theorem q55:aN C 55 PM.aON:=fun _ _ _ hl h=>aM rfl rfl Tryz.func112 (by kernel_rfl) c55 hl h
theorem c56:(T bdD).func Tryz.f84=some PM.RM:=by kernel_rfl
theorem q56:aN C 56 PM.RM:=fun _ _ _ hl h=>aM rfl rfl Tryz.func84 (by kernel_rfl) c56 hl h
theorem c57:(T bjN).func Tryz.f161=some PM.ahM:=by kernel_rfl
theorem q57:aN C 57 PM.ahM:=fun _ _ _ hl h=>aM rfl rfl Tryz.func161 (by kernel_rfl) c57 hl h
theorem c58:(T a5W).func Tryz.f77=some PM.EA:=by kernel_rfl
theorem q58:aN C 58 PM.EA:=fun _ _ _ hl h=>aM rfl rfl Tryz.func77 (by kernel_rfl) c58 hl h
theorem c59:(T bjY).func Tryz.f79=some PM.aiB:=by kernel_rfl
theorem q59:aN C 59 PM.aiB:=fun _ _ _ hl h=>aM rfl rfl Tryz.func79 (by kernel_rfl) c59 hl h
theorem c60:(T bdB).func Tryz.f144=some PM.RL:=by kernel_rfl
theorem q60:aN C 60 PM.RL:=fun _ _ _ hl h=>aM rfl rfl Tryz.func144 (by kernel_rfl) c60 hl h
theorem c61:(T biJ).func Tryz.f117=some PM.vC:=by kernel_rfl
theorem q61:aN C 61 PM.vC:=fun _ _ _ hl h=>aM rfl rfl Tryz.func117 (by kernel_rfl) c61 hl h
theorem c62:(T a6M).func Tryz.f109=some PM.EE:=by kernel_rfl
theorem q62:aN C 62 PM.EE:=fun _ _ _ hl h=>aM rfl rfl Tryz.func109 (by kernel_rfl) c62 hl h
theorem c63:(T bdL).func Tryz.f159=some PM.RV:=by kernel_rfl
theorem q63:aN C 63 PM.RV:=fun _ _ _ hl h=>aM rfl rfl Tryz.func159 (by kernel_rfl) c63 hl h
theorem c64:(T a6K).func Tryz.f142=some PM.ED:=by kernel_rfl
theorem q64:aN C 64 PM.ED:=fun _ _ _ hl h=>aM rfl rfl Tryz.func142 (by kernel_rfl) c64 hl h
theorem c65:(T a6O).func Tryz.f141=some PM.EF:=by kernel_rfl
theorem q65:aN C 65 PM.EF:=fun _ _ _ hl h=>aM rfl rfl Tryz.func141 (by kernel_rfl) c65 hl h
theorem c66:(T bqJ).func Tryz.f118=some PM.aPI:=by kernel_rfl
theorem q66:aN C 66 PM.aPI:=fun _ _ _ hl h=>aM rfl rfl Tryz.func118 (by kernel_rfl) c66 hl h
theorem c67:(T beM).func Tryz.f56=some PM.SG:=by kernel_rfl
theorem q67:aN C 67 PM.SG:=fun _ _ _ hl h=>aM rfl rfl Tryz.func56 (by kernel_rfl) c67 hl h
theorem c68:(T bqH).func Tryz.f83=some PM.aOV:=by kernel_rfl
theorem q68:aN C 68 PM.aOV:=fun _ _ _ hl h=>aM rfl rfl Tryz.func83 (by kernel_rfl) c68 hl h
theorem c69:(T bqF).func Tryz.f88=some PM.aOT:=by kernel_rfl
theorem q69:aN C 69 PM.aOT:=fun _ _ _ hl h=>aM rfl rfl Tryz.func88 (by kernel_rfl) c69 hl h
theorem c70:(T beB).func Tryz.f82=some PM.RZ:=by kernel_rfl
theorem q70:aN C 70 PM.RZ:=fun _ _ _ hl h=>aM rfl rfl Tryz.func82 (by kernel_rfl) c70 hl h
theorem c71:(T beD).func Tryz.f110=some PM.SA:=by kernel_rfl
theorem q71:aN C 71 PM.SA:=fun _ _ _ hl h=>aM rfl rfl Tryz.func110 (by kernel_rfl) c71 hl h
theorem c72:(T aQY).func Tryz.f87=some PM.yE:=by kernel_rfl
theorem q72:aN C 72 PM.yE:=fun _ _ _ hl h=>aM rfl rfl Tryz.func87 (by kernel_rfl) c72 hl h
theorem c73:(T beG).func Tryz.f81=some PM.SE:=by kernel_rfl
theorem q73:aN C 73 PM.SE:=fun _ _ _ hl h=>aM rfl rfl Tryz.func81 (by kernel_rfl) c73 hl h
theorem c74:(T beI).func Tryz.f86=some PM.SF:=by kernel_rfl
theorem q74:aN C 74 PM.SF:=fun _ _ _ hl h=>aM rfl rfl Tryz.func86 (by kernel_rfl) c74 hl h
theorem c75:(T a7C).func Tryz.f111=some PM.EG:=by kernel_rfl
theorem q75:aN C 75 PM.EG:=fun _ _ _ hl h=>aM rfl rfl Tryz.func111 (by kernel_rfl) c75 hl h
theorem c76:(T a7E).func Tryz.f80=some PM.wN:=by kernel_rfl
theorem q76:aN C 76 PM.wN:=fun _ _ _ hl h=>aM rfl rfl Tryz.func80 (by kernel_rfl) c76 hl h
theorem c82:(T biL).func Tryz.f64=some PM.afO:=by kernel_rfl
theorem q82:aN C 82 PM.afO:=fun _ _ _ hl h=>aM rfl rfl Tryz.func64 (by kernel_rfl) c82 hl h
theorem c85:(T biM).func Tryz.f46=some PM.afP:=by kernel_rfl
theorem q85:aN C 85 PM.afP:=fun _ _ _ hl h=>aM rfl rfl Tryz.func46 (by kernel_rfl) c85 hl h
theorem c86:(T a5G).func Tryz.f52=some PM.DW:=by kernel_rfl
theorem q86:aN C 86 PM.DW:=fun _ _ _ hl h=>aM rfl rfl Tryz.func52 (by kernel_rfl) c86 hl h
theorem c89:(T boW).func Tryz.f65=some PM.aKE:=by kernel_rfl
theorem q89:aN C 89 PM.aKE:=fun _ _ _ hl h=>aM rfl rfl Tryz.func65 (by kernel_rfl) c89 hl h
theorem c91:(T boU).func Tryz.f24=some PM.same:=by kernel_rfl
theorem q91:aN C 91 PM.same:=fun _ _ _ hl h=>aM rfl rfl Tryz.func24 (by kernel_rfl) c91 hl h
theorem c95:(T bmJ).func Tryz.f59=some PM.aDF:=by kernel_rfl
theorem q95:aN C 95 PM.aDF:=fun _ _ _ hl h=>aM rfl rfl Tryz.func59 (by kernel_rfl) c95 hl h
theorem c96:(T bmT).func Tryz.f47=some PM.aEA:=by kernel_rfl
theorem q96:aN C 96 PM.aEA:=fun _ _ _ hl h=>aM rfl rfl Tryz.func47 (by kernel_rfl) c96 hl h
theorem c97:(T a8M).func Tryz.f90=some PM.NC:=by kernel_rfl
theorem q97:aN C 97 PM.NC:=fun _ _ _ hl h=>aM rfl rfl Tryz.func90 (by kernel_rfl) c97 hl h
theorem c98:(T bfY).func Tryz.f130=some PM.adG:=by kernel_rfl
theorem q98:aN C 98 PM.adG:=fun _ _ _ hl h=>aM rfl rfl Tryz.func130 (by kernel_rfl) c98 hl h
theorem c99:(T bgA).func Tryz.f91=some PM.adH:=by kernel_rfl
theorem q99:aN C 99 PM.adH:=fun _ _ _ hl h=>aM rfl rfl Tryz.func91 (by kernel_rfl) c99 hl h
theorem bxU:(T bgC).func Tryz.f132=some PM.adI:=by kernel_rfl
theorem bBX:aN C 100 PM.adI:=fun _ _ _ hl h=>aM rfl rfl Tryz.func132 (by kernel_rfl) bxU hl h
theorem bxV:(T bmP).func Tryz.f135=some PM.gone:=by kernel_rfl
theorem bBY:aN C 101 PM.gone:=fun _ _ _ hl h=>aM rfl rfl Tryz.func135 (by kernel_rfl) bxV hl h
theorem bxW:(T bgF).func Tryz.f95=some PM.adJ:=by kernel_rfl
theorem bBZ:aN C 102 PM.adJ:=fun _ _ _ hl h=>aM rfl rfl Tryz.func95 (by kernel_rfl) bxW hl h
theorem bxX:(T a8O).func Tryz.f131=some PM.ND:=by kernel_rfl
theorem bCA:aN C 103 PM.ND:=fun _ _ _ hl h=>aM rfl rfl Tryz.func131 (by kernel_rfl) bxX hl h
theorem bxY:(T brF).func Tryz.f57=some PM.gin:=by kernel_rfl
theorem bCB:aN C 104 PM.gin:=fun _ _ _ hl h=>aM rfl rfl Tryz.func57 (by kernel_rfl) bxY hl h
theorem bxZ:(T bmL).func Tryz.f89=some PM.aDH:=by kernel_rfl
theorem bCC:aN C 105 PM.aDH:=fun _ _ _ hl h=>aM rfl rfl Tryz.func89 (by kernel_rfl) bxZ hl h
theorem byA:(T bmN).func Tryz.f96=some PM.aDI:=by kernel_rfl
theorem bCD:aN C 106 PM.aDI:=fun _ _ _ hl h=>aM rfl rfl Tryz.func96 (by kernel_rfl) byA hl h
theorem byB:(T bgH).func Tryz.f133=some PM.adM:=by kernel_rfl
theorem bCE:aN C 107 PM.adM:=fun _ _ _ hl h=>aM rfl rfl Tryz.func133 (by kernel_rfl) byB hl h
theorem byC:(T bgJ).func Tryz.f97=some PM.adN:=by kernel_rfl
theorem bCF:aN C 108 PM.adN:=fun _ _ _ hl h=>aM rfl rfl Tryz.func97 (by kernel_rfl) byC hl h
theorem byD:(T a8R).func Tryz.f134=some PM.NL:=by kernel_rfl
theorem bCG:aN C 109 PM.NL:=fun _ _ _ hl h=>aM rfl rfl Tryz.func134 (by kernel_rfl) byD hl h
theorem byE:(T bgM).func Tryz.f61=some PM.adO:=by kernel_rfl
theorem bCH:aN C 110 PM.adO:=fun _ _ _ hl h=>aM rfl rfl Tryz.func61 (by kernel_rfl) byE hl h
theorem byF:(T bmH).func Tryz.f58=some PM.alT:=by kernel_rfl
theorem bCI:aN C 111 PM.alT:=fun _ _ _ hl h=>aM rfl rfl Tryz.func58 (by kernel_rfl) byF hl h
theorem byG:(T bmR).func Tryz.f60=some PM.aDL:=by kernel_rfl
theorem bCJ:aN C 112 PM.aDL:=fun _ _ _ hl h=>aM rfl rfl Tryz.func60 (by kernel_rfl) byG hl h
theorem byH:(T blW).func Tryz.f123=some PM.MP:=by kernel_rfl
theorem bCK:aN C 113 PM.MP:=fun _ _ _ hl h=>aM rfl rfl Tryz.func123 (by kernel_rfl) byH hl h
theorem byI:(T blY).func Tryz.f94=some PM.aBE:=by kernel_rfl
theorem bCL:aN C 114 PM.aBE:=fun _ _ _ hl h=>aM rfl rfl Tryz.func94 (by kernel_rfl) byI hl h
theorem byJ:(T bfU).func Tryz.f93=some PM.SX:=by kernel_rfl
theorem bCM:aN C 115 PM.SX:=fun _ _ _ hl h=>aM rfl rfl Tryz.func93 (by kernel_rfl) byJ hl h
theorem byK:(T a2N).func Tryz.f120=some PM.wB:=by kernel_rfl
theorem bCN:aN C 116 PM.wB:=fun _ _ _ hl h=>aM rfl rfl Tryz.func120 (by kernel_rfl) byK hl h
theorem byL:(T bmF).func Tryz.f92=some PM.XJ:=by kernel_rfl
theorem bCO:aN C 117 PM.XJ:=fun _ _ _ hl h=>aM rfl rfl Tryz.func92 (by kernel_rfl) byL hl h
theorem byM:(T a8K).func Tryz.f126=some PM.NB:=by kernel_rfl
theorem bCP:aN C 118 PM.NB:=fun _ _ _ hl h=>aM rfl rfl Tryz.func126 (by kernel_rfl) byM hl h
theorem byN:(T blU).func Tryz.f125=some PM.aBB:=by kernel_rfl
theorem bCQ:aN C 119 PM.aBB:=fun _ _ _ hl h=>aM rfl rfl Tryz.func125 (by kernel_rfl) byN hl h
theorem byO:(T a2K).func Tryz.f124=some PM.nZ:=by kernel_rfl
theorem bCR:aN C 120 PM.nZ:=fun _ _ _ hl h=>aM rfl rfl Tryz.func124 (by kernel_rfl) byO hl h
theorem byP:(T a8I).func Tryz.f128=some PM.NA:=by kernel_rfl
theorem bCS:aN C 121 PM.NA:=fun _ _ _ hl h=>aM rfl rfl Tryz.func128 (by kernel_rfl) byP hl h
theorem byQ:(T bfW).func Tryz.f129=some PM.adF:=by kernel_rfl
theorem bCT:aN C 122 PM.adF:=fun _ _ _ hl h=>aM rfl rfl Tryz.func129 (by kernel_rfl) byQ hl h
theorem byR:(T bhA).func Tryz.f98=some PM.TE:=by kernel_rfl
theorem bCU:aN C 123 PM.TE:=fun _ _ _ hl h=>aM rfl rfl Tryz.func98 (by kernel_rfl) byR hl h
theorem byS:(T a8Z).func Tryz.f153=some PM.DE:=by kernel_rfl
theorem bCV:aN C 124 PM.DE:=fun _ _ _ hl h=>aM rfl rfl Tryz.func153 (by kernel_rfl) byS hl h
theorem byT:(T a9C).func Tryz.f137=some PM.DF:=by kernel_rfl
theorem bCW:aN C 125 PM.DF:=fun _ _ _ hl h=>aM rfl rfl Tryz.func137 (by kernel_rfl) byT hl h
theorem byU:(T a3I).func Tryz.f136=some PM.wH:=by kernel_rfl
theorem bCX:aN C 126 PM.wH:=fun _ _ _ hl h=>aM rfl rfl Tryz.func136 (by kernel_rfl) byU hl h
theorem byV:(T bnU).func Tryz.f147=some PM.aFV:=by kernel_rfl
theorem bCY:aN C 127 PM.aFV:=fun _ _ _ hl h=>aM rfl rfl Tryz.func147 (by kernel_rfl) byV hl h
theorem byW:(T bhG).func Tryz.f121=some PM.aeJ:=by kernel_rfl
theorem bCZ:aN C 128 PM.aeJ:=fun _ _ _ hl h=>aM rfl rfl Tryz.func121 (by kernel_rfl) byW hl h
theorem byX:(T bnX).func Tryz.f127=some PM.aGL:=by kernel_rfl
theorem bDA:aN C 129 PM.aGL:=fun _ _ _ hl h=>aM rfl rfl Tryz.func127 (by kernel_rfl) byX hl h
theorem byY:(T bnZ).func Tryz.f150=some PM.aGR:=by kernel_rfl
theorem bDB:aN C 130 PM.aGR:=fun _ _ _ hl h=>aM rfl rfl Tryz.func150 (by kernel_rfl) byY hl h
theorem byZ:(T boB).func Tryz.f149=some PM.aGY:=by kernel_rfl
theorem bDC:aN C 131 PM.aGY:=fun _ _ _ hl h=>aM rfl rfl Tryz.func149 (by kernel_rfl) byZ hl h
theorem bzA:(T bhI).func Tryz.f122=some PM.aeV:=by kernel_rfl
theorem bDD:aN C 132 PM.aeV:=fun _ _ _ hl h=>aM rfl rfl Tryz.func122 (by kernel_rfl) bzA hl h
theorem bzB:(T boD).func Tryz.f152=some PM.aHD:=by kernel_rfl
theorem bDE:aN C 133 PM.aHD:=fun _ _ _ hl h=>aM rfl rfl Tryz.func152 (by kernel_rfl) bzB hl h
theorem bzC:(T boF).func Tryz.f148=some PM.aHM:=by kernel_rfl
theorem bDF:aN C 134 PM.aHM:=fun _ _ _ hl h=>aM rfl rfl Tryz.func148 (by kernel_rfl) bzC hl h
theorem bzD:(T bhL).func Tryz.f151=some PM.aeY:=by kernel_rfl
theorem bDG:aN C 135 PM.aeY:=fun _ _ _ hl h=>aM rfl rfl Tryz.func151 (by kernel_rfl) bzD hl h
theorem bzE:(T a3T).func Tryz.f166=some PM.DK:=by kernel_rfl
theorem bDH:aN C 136 PM.DK:=fun _ _ _ hl h=>aM rfl rfl Tryz.func166 (by kernel_rfl) bzE hl h
theorem bzF:(T a9M).func Tryz.f164=some PM.OE:=by kernel_rfl
theorem bDI:aN C 137 PM.OE:=fun _ _ _ hl h=>aM rfl rfl Tryz.func164 (by kernel_rfl) bzF hl h
theorem bzG:(T a3Z).func Tryz.f146=some PM.sD:=by kernel_rfl
theorem bDJ:aN C 138 PM.sD:=fun _ _ _ hl h=>aM rfl rfl Tryz.func146 (by kernel_rfl) bzG hl h
theorem bzH:(T aQI).func Tryz.f172=some PM.xK:=by kernel_rfl
theorem bDK:aN C 139 PM.xK:=fun _ _ _ hl h=>aM rfl rfl Tryz.func172 (by kernel_rfl) bzH hl h
theorem bzI:(T a9P).func Tryz.f169=some PM.OI:=by kernel_rfl
theorem bDL:aN C 140 PM.OI:=fun _ _ _ hl h=>aM rfl rfl Tryz.func169 (by kernel_rfl) bzI hl h
theorem bzJ:(T a9R).func Tryz.f165=some PM.OJ:=by kernel_rfl
theorem bDM:aN C 141 PM.OJ:=fun _ _ _ hl h=>aM rfl rfl Tryz.func165 (by kernel_rfl) bzJ hl h
theorem bzK:(T aHT).func Tryz.f171=some PM.tO:=by kernel_rfl
theorem bDN:aN C 142 PM.tO:=fun _ _ _ hl h=>aM rfl rfl Tryz.func171 (by kernel_rfl) bzK hl h
theorem bzL:(T bsD).func Tryz.f170=some PM.nup:=by kernel_rfl
theorem bDO:aN C 143 PM.nup:=fun _ _ _ hl h=>aM rfl rfl Tryz.func170 (by kernel_rfl) bzL hl h
theorem bzM:(T beS).func Tryz.f16=some PM.begin:=by kernel_rfl
theorem bDP:aN C 144 PM.begin:=fun _ _ _ hl h=>aM rfl rfl Tryz.func16 (by kernel_rfl) bzM hl h
theorem bzN:(T bpE).func Tryz.f18=some PM.step:=by kernel_rfl
theorem bDQ:aN C 145 PM.step:=fun _ _ _ hl h=>aM rfl rfl Tryz.func18 (by kernel_rfl) bzN hl h
theorem bzO:(T bpS).func Tryz.f17=some PM.aMP:=by kernel_rfl
theorem bDR:aN C 146 PM.aMP:=fun _ _ _ hl h=>aM rfl rfl Tryz.func17 (by kernel_rfl) bzO hl h
theorem bzP:(T a5I).func Tryz.f48=some PM.DX:=by kernel_rfl
theorem bDS:aN C 153 PM.DX:=fun _ _ _ hl h=>aM rfl rfl Tryz.func48 (by kernel_rfl) bzP hl h
theorem bzQ:(T aLH).func Tryz.f99=some PM.zD:=by kernel_rfl
theorem bDT:aN C 156 PM.zD:=fun _ _ _ hl h=>aM rfl rfl Tryz.func99 (by kernel_rfl) bzQ hl h
theorem bzR:(T bbN).func Tryz.f63=some PM.xT:=by kernel_rfl
theorem bDU:aN C 160 PM.xT:=fun _ _ _ hl h=>aM rfl rfl Tryz.func63 (by kernel_rfl) bzR hl h
theorem bzS:(T bbP).func Tryz.f62=some PM.QI:=by kernel_rfl
theorem bDV:aN C 161 PM.QI:=fun _ _ _ hl h=>aM rfl rfl Tryz.func62 (by kernel_rfl) bzS hl h
theorem bzU:(T bfO).func Tryz.f20=some PM.FT:=by kernel_rfl
theorem bDX:aN C 240 PM.FT:=fun _ _ _ hl h=>aM rfl rfl Tryz.func20 (by kernel_rfl) bzU hl h
theorem bzV:(T bfF).func Tryz.f41=some PM.abX:=by kernel_rfl
theorem bDY:aN C 241 PM.abX:=fun _ _ _ hl h=>aM rfl rfl Tryz.func41 (by kernel_rfl) bzV hl h
theorem bzW:(T bfM).func Tryz.f43=some PM.acJ:=by kernel_rfl
theorem bDZ:aN C 242 PM.acJ:=fun _ _ _ hl h=>aM rfl rfl Tryz.func43 (by kernel_rfl) bzW hl h
theorem bzX:(T blK).func Tryz.f42=some PM.aAE:=by kernel_rfl
theorem bEA:aN C 243 PM.aAE:=fun _ _ _ hl h=>aM rfl rfl Tryz.func42 (by kernel_rfl) bzX hl h
theorem bzY:(T a7S).func Tryz.f25=some PM.MF:=by kernel_rfl
theorem bEB:aN C 244 PM.MF:=fun _ _ _ hl h=>aM rfl rfl Tryz.func25 (by kernel_rfl) bzY hl h
theorem bzZ:(T aLH).func Tryz.f44=some PM.zD:=by kernel_rfl
theorem bEC:aN C 245 PM.zD:=fun _ _ _ hl h=>aM rfl rfl Tryz.func44 (by kernel_rfl) bzZ hl h
theorem bAA:(T a2C).func Tryz.f26=some PM.CY:=by kernel_rfl
theorem bED:aN C 246 PM.CY:=fun _ _ _ hl h=>aM rfl rfl Tryz.func26 (by kernel_rfl) bAA hl h
theorem bAB:(T aWT).func Tryz.f45=some PM.PP:=by kernel_rfl
theorem bEE:aN C 247 PM.PP:=fun _ _ _ hl h=>aM rfl rfl Tryz.func45 (by kernel_rfl) bAB hl h
theorem bAC:(T a7V).func Tryz.f27=some PM.MI:=by kernel_rfl
theorem bEF:aN C 248 PM.MI:=fun _ _ _ hl h=>aM rfl rfl Tryz.func27 (by kernel_rfl) bAC hl h
theorem bAD:(T bfK).func Tryz.f9=some PM.acI:=by kernel_rfl
theorem bEG:aN C 249 PM.acI:=fun _ _ _ hl h=>aM rfl rfl Tryz.func9 (by kernel_rfl) bAD hl h
theorem bAE:(T a4K).func Tryz.f30=some PM.DO:=by kernel_rfl
theorem bEH:aN C 250 PM.DO:=fun _ _ _ hl h=>aM rfl rfl Tryz.func30 (by kernel_rfl) bAE hl h
theorem bAF:(T bhU).func Tryz.f33=some PM.afB:=by kernel_rfl
theorem bEI:aN C 251 PM.afB:=fun _ _ _ hl h=>aM rfl rfl Tryz.func33 (by kernel_rfl) bAF hl h
theorem bAG:(T bhS).func Tryz.f23=some PM.a4F:=by kernel_rfl
theorem bEJ:aN C 252 PM.a4F:=fun _ _ _ hl h=>aM rfl rfl Tryz.func23 (by kernel_rfl) bAG hl h
theorem bAH:(T a4M).func Tryz.f34=some PM.DP:=by kernel_rfl
theorem bEK:aN C 253 PM.DP:=fun _ _ _ hl h=>aM rfl rfl Tryz.func34 (by kernel_rfl) bAH hl h
theorem bAI:(T aWT).func Tryz.f35=some PM.PP:=by kernel_rfl
theorem bEL:aN C 254 PM.PP:=fun _ _ _ hl h=>aM rfl rfl Tryz.func35 (by kernel_rfl) bAI hl h
theorem bAJ:(T bhZ).func Tryz.f29=some PM.afF:=by kernel_rfl
theorem bEM:aN C 255 PM.afF:=fun _ _ _ hl h=>aM rfl rfl Tryz.func29 (by kernel_rfl) bAJ hl h
theorem bAK:(T bvR).func Tryz.f40=some PM.qk:=by kernel_rfl
theorem bEN:aN C 257 PM.qk:=fun _ _ _ hl h=>aM rfl rfl Tryz.func40 (by kernel_rfl) bAK hl h
theorem bAL:(T aPK).func Tryz.f51=some PM.tY:=by kernel_rfl
theorem bEO:aN C 258 PM.tY:=fun _ _ _ hl h=>aM rfl rfl Tryz.func51 (by kernel_rfl) bAL hl h
theorem bAM:(T aIE).func Tryz.f32=some PM.tQ:=by kernel_rfl
theorem bEP:aN C 260 PM.tQ:=fun _ _ _ hl h=>aM rfl rfl Tryz.func32 (by kernel_rfl) bAM hl h
theorem bAN:(T baN).func Tryz.f50=some PM.PG:=by kernel_rfl
theorem bEQ:aN C 261 PM.PG:=fun _ _ _ hl h=>aM rfl rfl Tryz.func50 (by kernel_rfl) bAN hl h
theorem bAO:(T bdJ).func Tryz.f36=some PM.RU:=by kernel_rfl
theorem bER:aN C 262 PM.RU:=fun _ _ _ hl h=>aM rfl rfl Tryz.func36 (by kernel_rfl) bAO hl h
theorem bAP:(T bdZ).func Tryz.f15=some PM.RW:=by kernel_rfl
theorem bES:aN C 263 PM.RW:=fun _ _ _ hl h=>aM rfl rfl Tryz.func15 (by kernel_rfl) bAP hl h
theorem bAQ:(T bdH).func Tryz.f19=some PM.RS:=by kernel_rfl
theorem bET:aN C 264 PM.RS:=fun _ _ _ hl h=>aM rfl rfl Tryz.func19 (by kernel_rfl) bAQ hl h
theorem bAR:(T bdX).func Tryz.f13=some PM.aOR:=by kernel_rfl
theorem bEU:aN C 265 PM.aOR:=fun _ _ _ hl h=>aM rfl rfl Tryz.func13 (by kernel_rfl) bAR hl h
theorem bAS:(T bjL).func Tryz.f28=some PM.ahD:=by kernel_rfl
theorem bEV:aN C 266 PM.ahD:=fun _ _ _ hl h=>aM rfl rfl Tryz.func28 (by kernel_rfl) bAS hl h
theorem bAT:(T bdF).func Tryz.f11=some PM.RN:=by kernel_rfl
theorem bEW:aN C 267 PM.RN:=fun _ _ _ hl h=>aM rfl rfl Tryz.func11 (by kernel_rfl) bAT hl h
theorem bAU:(T bcK).func Tryz.f21=some PM.RE:=by kernel_rfl
theorem bEX:aN C 268 PM.RE:=fun _ _ _ hl h=>aM rfl rfl Tryz.func21 (by kernel_rfl) bAU hl h
theorem bAV:(T bcZ).func Tryz.f14=some PM.aOE:=by kernel_rfl
theorem bEY:aN C 269 PM.aOE:=fun _ _ _ hl h=>aM rfl rfl Tryz.func14 (by kernel_rfl) bAV hl h
theorem bAW:(T biH).func Tryz.f22=some PM.afM:=by kernel_rfl
theorem bEZ:aN C 270 PM.afM:=fun _ _ _ hl h=>aM rfl rfl Tryz.func22 (by kernel_rfl) bAW hl h
theorem bAX:(T aQE).func Tryz.f12=some PM.YG:=by kernel_rfl
theorem bFA:aN C 272 PM.YG:=fun _ _ _ hl h=>aM rfl rfl Tryz.func12 (by kernel_rfl) bAX hl h
theorem bAZ:(T baK).func Tryz.f37=some PM.PA:=by kernel_rfl
theorem bFC:aN C 277 PM.PA:=fun _ _ _ hl h=>aM rfl rfl Tryz.func37 (by kernel_rfl) bAZ hl h
theorem bAY:(T a9E).func Tryz.f6=some PM.NP:=by kernel_rfl
theorem bFB:aN C 275 PM.NP:=fun _ _ _ hl h=>aM rfl rfl Tryz.func6 (by kernel_rfl) bAY hl h
theorem bzT:(T a7O).func Tryz.f31=some PM.concat:=by kernel_rfl
theorem bDW:aN C 178 PM.concat:=fun _ _ _ hl h=>aM rfl rfl Tryz.func31 (by kernel_rfl) bzT hl h
theorem bqZ:cE C:={
 r24:=q24,
 r26:=q26,
 r30:=q30,
 r31:=q31,
 r32:=q32,
 r33:=q33,
 r34:=q34,
 r35:=q35,
 r36:=q36,
 r37:=q37,
 r38:=q38,
 r39:=q39,
 r40:=q40,
 r41:=q41,
 r42:=q42,
 r43:=q43,
 r44:=q44,
 r45:=q45,
 r46:=q46,
 r47:=q47,
 r48:=q48,
 r49:=q49,
 r50:=q50,
 r51:=q51,
 r52:=q52,
 r53:=q53,
 r54:=q54,
 r55:=q55,
 r56:=q56,
 r57:=q57,
 r58:=q58,
 r59:=q59,
 r60:=q60,
 r61:=q61,
 r62:=q62,
 r63:=q63,
 r64:=q64,
 r65:=q65,
 r66:=q66,
 r67:=q67,
 r68:=q68,
 r69:=q69,
 r70:=q70,
 r71:=q71,
 r72:=q72,
 r73:=q73,
 r74:=q74,
 r75:=q75,
 r76:=q76,
 r82:=q82,
 r85:=q85,
 r86:=q86,
 r89:=q89,
 r91:=q91,
 r95:=q95,
 r96:=q96,
 r97:=q97,
 r98:=q98,
 r99:=q99,
 r100:=bBX,
 r101:=bBY,
 r102:=bBZ,
 r103:=bCA,
 r104:=bCB,
 r105:=bCC,
 r106:=bCD,
 r107:=bCE,
 r108:=bCF,
 r109:=bCG,
 r110:=bCH,
 r111:=bCI,
 r112:=bCJ,
 r113:=bCK,
 r114:=bCL,
 r115:=bCM,
 r116:=bCN,
 r117:=bCO,
 r118:=bCP,
 r119:=bCQ,
 r120:=bCR,
 r121:=bCS,
 r122:=bCT,
 r123:=bCU,
 r124:=bCV,
 r125:=bCW,
 r126:=bCX,
 r127:=bCY,
 r128:=bCZ,
 r129:=bDA,
 r130:=bDB,
 r131:=bDC,
 r132:=bDD,
 r133:=bDE,
 r134:=bDF,
 r135:=bDG,
 r136:=bDH,
 r137:=bDI,
 r138:=bDJ,
 r139:=bDK,
 r140:=bDL,
 r141:=bDM,
 r142:=bDN,
 r143:=bDO,
 r144:=bDP,
 r145:=bDQ,
 r146:=bDR,
 r153:=bDS,
 r156:=bDT,
 r160:=bDU,
 r161:=bDV,
 r240:=bDX,
 r241:=bDY,
 r242:=bDZ,
 r243:=bEA,
 r244:=bEB,
 r245:=bEC,
 r246:=bED,
 r247:=bEE,
 r248:=bEF,
 r249:=bEG,
 r250:=bEH,
 r251:=bEI,
 r252:=bEJ,
 r253:=bEK,
 r254:=bEL,
 r255:=bEM,
 r257:=bEN,
 r258:=bEO,
 r260:=bEP,
 r261:=bEQ,
 r262:=bER,
 r263:=bES,
 r264:=bET,
 r265:=bEU,
 r266:=bEV,
 r267:=bEW,
 r268:=bEX,
 r269:=bEY,
 r270:=bEZ,
 r272:=bFA,
 r277:=bFC }
end Go.Proofs.YthbkofcdddghgaaGreat
namespace Go.Proofs.YthbkofcdddghgaaGreat
open Go Go.PM Go.RowKit Go.ChangeShapes Go.WideShapes
theorem Tryz.own:ownKnob Tryz.prog.godebug=none:=by kernel_rfl
theorem Tryz.laidOut:laidOutB Tryz.prog=true:=by kernel_rfl
theorem aLC:Tryz.t3.bytes=8:=by kernel_rfl
theorem amP {n:Nat} (h:0<n):Builtin.nextslicecap n 0=n:=by
 unfold Builtin.nextslicecap
 rw[if_pos Om]
theorem a8S (n:Int) (h0:0≤n) (h1:n≤1000000) (w:World):Calls Tryz.prog 49 #[.slice none 0 0,.int .i64 n] w fun e w' =>
  (n=0∧e=.returned (.slice none 0 0)∧w'=w)∨(0<n∧∃ cap cs,e=.returned (.slice (some ⟨w.heap.size,0,none⟩) 0 cap)∧w'=(w.alloc (.cells cs 3)).drew∧cs.size=cap∧cap≤maxLen):=by
 go_enter Tryz.func49,Tryz.ntmps49
 go_wp2
 all_goals (try (exfalso; simp only[aLC] at *; omega))
 ·exfalso
  rw[amP Om] at *
  simp only[aLC] at *
  omega
 ·go_ret
  have hge:=grownCap_ge w n.toNat 0 3
  have hle:=grownCap_le_maxLen w n.toNat 0 3 (by simp only[maxLen]; omega)
  unfold grownCap at hge hle
  refine .inr ⟨_,rfl,_,rfl,?_,hle⟩
  simp only[Array.size_append,size_zeroCells]
  simp
  omega
 ·go_ret
  exact .inl ⟨by omega,rfl,rfl⟩
theorem a2T (n:Int) (h0:0≤n) (h1:n≤1000000):aD C 179 [.aB,.int .i64 n] .nil (bkK n):=by
 refine⟨⟨Tryz.f49,Tryz.func49,by kernel_rfl,by kernel_rfl⟩,fun E w vs hN hW hvs=>?_⟩
 obtain⟨vl⟩:=vs
 cases hvs with
 | cons e1 e2 =>
 cases e2 with
 | cons e3 e4 =>
 cases e4
 cases e1
 cases e3
 refine (a8S n h0 h1 w).mono fun e w' he=>?_
 rcases he with ⟨rfl,rfl,rfl⟩ | ⟨hn,cap,cs,rfl,rfl,hs,hc⟩
 ·exact⟨_,.aB,E,.nil,rfl,hW,.aB,.refl _ _ _,.inl ⟨rfl,rfl,rfl⟩⟩
 ·have hR:jF E 1 [] cs:=⟨by simp,by simp,fun i j pv h=>by simp[at2] at h⟩
  obtain⟨k1,k2⟩:=hW.CU 3 hR
  refine⟨_,.osl w.heap.size 1 0 0,_,_,rfl,k1.drew,?_,k2.aaR rfl rfl rfl (bJQ _) (fun _ _=>rfl),.inr ⟨hn,_,rfl,rfl⟩⟩
  exact .osl rfl rfl (.inr rfl) Om hc (aeZ _ _ _) Om
theorem aAB (ws:List (List Int)) (h1:ws.length≤1000000) (h2:ws.flatten.length≤1000000):aD C 178 [lists ws] .nil (akY ws.flatten) :=
 bDW.go (a7M ws h1 h2 a2T) rfl
set_option maxRecDepth 100000 in
theorem bpB:vX C:={
 concat:=aAB
 sort:=fun o xs hx hl=>a5D Tryz.aEX (by kernel_rfl) ⟨_,Tryz.func38,by kernel_rfl,by kernel_rfl⟩ o xs hx hl
 sort0:=aQN Tryz.aEX (by kernel_rfl) ⟨_,Tryz.func38,by kernel_rfl,by kernel_rfl⟩ _ _ (.inl rfl)
 compact:=fun o xs hx hl=>axT Tryz.UK (by kernel_rfl) ⟨_,Tryz.func39,by kernel_rfl,by kernel_rfl⟩ o xs hx hl
 compact0:=alJ Tryz.UK (by kernel_rfl) ⟨_,Tryz.func39,by kernel_rfl,by kernel_rfl⟩ _ _ (.inl rfl) }
end Go.Proofs.YthbkofcdddghgaaGreat
namespace Go.Proofs.YthbkofcdddghgaaGreat
open Go Go.PM Go.RowKit Go.ChangeShapes Go.WideShapes
def argKinds:List AT:=[.one (.sl [.int .i64]),.one (.int .i64),.one .bool]
theorem blE:CV Tryz.prog 8 Tryz.f6.params.toList=some argKinds:=by kernel_rfl
theorem bnF (pvs:List PV) (h:AT.TyL argKinds pvs):aD C 275 pvs .nil (aE (.bool true)):=by
 match pvs,h with
 | [p0,p1,p2],h =>
  obtain⟨h0,h1,h2,-⟩:=h
  cases h0 with | one h0 =>
  obtain⟨x0,rfl,b0,c0⟩:=Ty.bgS h0
  cases h1 with | one h1 =>
  obtain⟨x1,rfl,-⟩:=Ty.amE h1
  cases h2 with | one h2 =>
  obtain⟨x2,rfl⟩:=Ty.beT h2
  have tm:TpM x0:=⟨by
   have:maxLen≤9223372036854775807:=by decide
   omega,fun x hm=>by
   have e1:IntKind.i64.min=-9223372036854775808:=by decide
   have e2:IntKind.i64.max=9223372036854775807:=by decide
   have h1:=(c0 x hm).1
   have h2:=(c0 x hm).2
   rw[e1] at h1
   rw[e2] at h2
   unfold cW
   omega⟩
  exact a4X bqZ bpB bFB x0 tm x1 x2
set_option maxRecDepth 100000 in
theorem LL (os:Os) (started:os.Started) (H:Type) (enc:TypeId × Value→H) :
  ReturnsInHanded {} Tryz.checked os 6 .any (Rows.rolloutWavesSpec.pre6 enc Tryz.prog Tryz.f6 Rows.rolloutWavesRow.domain false) (Rows.rolloutWavesSpec.post enc Tryz.prog Tryz.f6 false true false false):=by
 refine returnsInHanded_of_change (C:=Tryz.checked) Tryz.own started (by kernel_rfl) Tryz.func6
  (ChangeSpec.witness6 (enc:=enc) (C:=Tryz.checked) false ⟨#[],#[.slice none 0 0,.int .i64 0,.bool false],[]⟩ 8 (by kernel_rfl) (by kernel_rfl) (by kernel_rfl) (by kernel_rfl)) ?_
 intro W base args ds gs before bID hW _ _
 exact azZ (P:=Tryz.prog) (num:=num) (name:=275) (n:=8) (ats:=argKinds) (bt:=4) Tryz.laidOut (by kernel_rfl) (by kernel_rfl) (by kernel_rfl) rfl
  (fun ds hd=>by
   match ds,hd with
   | [d1,d2,d3],_=>exact⟨rfl,rfl,rfl⟩)
  (by kernel_rfl) blE bnF bID hW
theorem rolloutWaves_holds:Rows.RolloutWavesSaid :=
 OpenClaim.holds_of_wide 6 Tryz.f6 rfl rfl rfl rfl rfl rfl rfl ⟨rfl,rfl,rfl,rfl,rfl⟩ rfl rfl rfl rfl rfl (by kernel_rfl) Tryz.func6 (by kernel_rfl)
  (of_decide_eq_true (by kernel_rfl)) (by unfold Func.isWrapper; first | (rw[if_pos (by decide +kernel)]; kernel_rfl) | (rw[if_neg (by decide +kernel)]; exact⟨rfl,rfl⟩))
  (fun os started H enc _=>LL os started H enc)
#print axioms rolloutWaves_holds
end Go.Proofs.YthbkofcdddghgaaGreat
