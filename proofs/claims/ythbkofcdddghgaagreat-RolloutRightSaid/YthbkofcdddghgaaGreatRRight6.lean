/-
  The law of the claim returns true at every input, and its argument reads as it did: the tied card. No condition.
-/
import Derived.Test.YthbkofcdddghgaaGreatRRight1
import Derived.Test.YthbkofcdddghgaaGreatRRight2
import Derived.Test.YthbkofcdddghgaaGreatRRight3
import Derived.Test.YthbkofcdddghgaaGreatRRight4
import Derived.Test.YthbkofcdddghgaaGreatRRight5
import Derived.Test.YthbkofcdddghgaaGreatProg
import Derived.KernelRfl
import Derived.Test.YthbkofcdddghgaaGreatRows
import Derived.ProofKit
import Derived.WalkKit
set_option linter.unusedSimpArgs false
set_option linter.unusedVariables false
open Nat renaming reduceEqDiff → γ, reduceAdd → δ, reduceSub → ε, reduceMul → ζ, reduceLT → η, reduceLeDiff → θ, reduceBEq → τ
open Int renaming reduceLT → ι, reduceLE → κ, reduceEq → μ, reduceToNat → ν, reduceAdd → ξ, reduceNeg → ο, reduceBEq → ρ, reduceBNe → σ
open List renaming reduceReplicate → υ
open List renaming length_map → bKI, range → bKJ, replicate → bKL, getElem_mem → bKM, length_append → bKQ, getElem?_eq_getElem → bKU, length_singleton → bKX, mem_cons → bKY, take_of_length_le → bKZ, all_eq_true → bLA, length_take → bLB, getD_eq_getElem?_getD → bLC, take_length → bLG, append_assoc → bLI, drop_zero → bLK, mem_range → bLL, getElem?_map → bLN, mem_map → bLP, mem_singleton → bLR, getElem?_eq_some_iff → bLU, mem_append → bLV, getElem?_eq_none → bLW, length_cons → bLX, not_mem_nil → bLZ, take_succ_eq_append_getElem → bMA, append_nil → bMF, map_cons → bMG, drop_eq_getElem_cons → bMH, length_set → bMJ, Sublist → bMK, length_drop → bML, map_append → bMM, getElem_of_mem → bMP, getElem?_append_right → bMR, getElem_map → bMS, nodup_append → bMT, contains_iff_mem → bMV, length_nil → bMW, take_append_drop → bMX, nil_append → bMY, getElem?_append_left → bNB, mem_of_getElem? → bNC, getElem?_take → bNP, drop_of_length_le → bNU, getElem?_drop → bNV, length_replicate → bNW, set_append_right → bNX, eq_nil_of_length_eq_zero → bNY, getElem?_take_of_lt → bNZ
open Nat renaming le_refl → bKK, gcd → bKN, zero_le → bKT, mul_add → bKV, lt_or_ge → bLD, mul_assoc → bLE, mul_comm → bLH, zero_add → bLJ, add_mul → bLM, mul_le_mul_right → bLO, mod_eq_of_lt → bLS, mod_lt → bLY, add_zero → bMB, pow_succ → bMC, min_eq_left → bMN, mul_le_mul_left → bMO, pos_of_ne_zero → bMQ, add_assoc → bMU, pow_pos → bMZ, div_lt_iff_lt_mul → bND, le_trans → bNF, sub_self → bNG, succ_mul → bNH, eq_zero_or_pos → bNK, div_add_mod → bNQ, div_eq_of_lt → bNR
open Bool renaming false_and → bKO, not_true → bKR, true_and → bKS, not_false → bKW, and_eq_true → bLF, and_false → bLQ, and_true → bMI, and_assoc → bNJ, false_eq_true → bNL
open Option renaming map_eq_some_iff → bKP, map_some → bLT, some → bNA, getD_some → bNE, bind_eq_some_iff → bNM, bind_some → bNS
open Array renaming replicate → bMD, length_toList → bNI, getElem?_eq_getElem → bNN, getElem?_eq_some_iff → bNT
open Int renaming tdiv → bME, toNat_natCast → bNO
namespace Go.Proofs.YthbkofcdddghgaaGreat
open Go Go.PM
def bsO:List Nat:=[0,0,0,0,0,0,0,0,0,0,0,0,0,0,0,0,0,0,0,0,0,0,0,0,10,0,8,0,0,0,160,154,145,108,107,78,163,162,106,140,158,139,157,167,156,155,143,114,168,119,55,115,116,113,85,112,84,161,77,79,144,117,109,159,142,141,118,56,83,88,82,110,87,81,86,111,80,0,0,0,0,0,64,0,0,46,52,0,0,65,0,24,0,0,0,59,47,90,130,91,132,135,95,131,57,89,96,133,97,134,61,58,60,123,94,93,120,92,126,125,124,128,129,98,153,137,136,147,121,127,150,149,122,152,148,151,166,164,146,172,169,165,171,170,16,18,17,0,0,0,0,0,0,48,0,0,99,0,0,0,63,62,0,0,0,0,0,0,0,0,0,0,0,0,0,0,0,39,31,49,38,68,69,67,66,103,104,101,138,71,73,74,53,70,100,0,0,0,0,0,0,0,0,0,0,0,0,0,0,0,0,0,0,0,0,0,0,0,0,0,0,0,0,0,0,0,0,0,0,0,0,0,0,0,0,0,0,0,0,0,20,41,43,42,25,44,26,45,27,9,30,33,23,34,35,29,0,40,51,0,32,50,36,15,19,13,28,11,21,14,22,3,12,5,4,6,7,37]
def boD:List (Option Nat):=[none,none,none,some 271,some 274,some 273,some 275,some 276,some 26,some 249,some 24,some 267,some 272,some 265,some 269,some 263,some 144,some 146,some 145,some 264,some 240,some 268,some 270,some 252,some 91,some 244,some 246,some 248,some 266,some 255,some 250,some 178,some 260,some 251,some 253,some 254,some 262,some 277,some 180,some 177,some 257,some 241,some 243,some 242,some 245,some 247,some 85,some 96,some 153,some 179,some 261,some 258,some 86,some 192,none,some 50,some 67,some 104,some 111,some 95,some 112,some 110,some 161,some 160,some 82,some 89,some 184,some 183,some 181,some 182,some 193,some 189,none,some 190,some 191,none,none,some 58,some 35,some 59,some 76,some 73,some 70,some 68,some 56,some 54,some 74,some 72,some 69,some 105,some 97,some 99,some 117,some 115,some 114,some 102,some 106,some 108,some 123,some 156,some 194,some 187,none,some 185,some 186,none,some 38,some 34,some 33,some 62,some 71,some 75,some 55,some 53,some 47,some 51,some 52,some 61,some 66,some 49,some 116,some 128,some 132,some 113,some 120,some 119,some 118,some 129,some 121,some 122,some 98,some 103,some 100,some 107,some 109,some 101,some 126,some 125,some 188,some 41,some 39,some 65,some 64,some 46,some 60,some 32,some 138,some 127,some 134,some 131,some 130,some 135,some 133,some 124,some 31,some 45,some 44,some 42,some 40,some 63,some 30,some 57,some 37,some 36,some 137,some 141,some 136,some 43,some 48,some 140,some 143,some 142,some 139]
def num (n:Nat):FuncId:=bsO.getD n 0
def nameOf (f:FuncId):Option Nat:=boD.getD f none
noncomputable def C:Ctx:=⟨Tryz.prog,num⟩
noncomputable def T (ro:List Nat):Tbl:={ P:=Tryz.prog,num:=num,name:=nameOf,ro:=ro }
theorem c24:(T a2Q).func Tryz.f10=some PM.DB:=by kernel_rfl
theorem q24:aN C 24 PM.DB:=fun _ _ _ hl h=>aM rfl rfl Tryz.func10 (by kernel_rfl) c24 hl h
theorem c26:(T beI).func Tryz.f8=some PM.ZY:=by kernel_rfl
theorem q26:aN C 26 PM.ZY:=fun _ _ _ hl h=>aM rfl rfl Tryz.func8 (by kernel_rfl) c26 hl h
theorem c30:(T bpR).func Tryz.f160=some PM.aKO:=by kernel_rfl
theorem q30:aN C 30 PM.aKO:=fun _ _ _ hl h=>aM rfl rfl Tryz.func160 (by kernel_rfl) c30 hl h
theorem c31:(T biV).func Tryz.f154=some PM.agC:=by kernel_rfl
theorem q31:aN C 31 PM.agC:=fun _ _ _ hl h=>aM rfl rfl Tryz.func154 (by kernel_rfl) c31 hl h
theorem c32:(T bpT).func Tryz.f145=some PM.aLA:=by kernel_rfl
theorem q32:aN C 32 PM.aLA:=fun _ _ _ hl h=>aM rfl rfl Tryz.func145 (by kernel_rfl) c32 hl h
theorem c33:(T bpV).func Tryz.f108=some PM.udiv:=by kernel_rfl
theorem q33:aN C 33 PM.udiv:=fun _ _ _ hl h=>aM rfl rfl Tryz.func108 (by kernel_rfl) c33 hl h
theorem c34:(T bpX).func Tryz.f107=some PM.aLP:=by kernel_rfl
theorem q34:aN C 34 PM.aLP:=fun _ _ _ hl h=>aM rfl rfl Tryz.func107 (by kernel_rfl) c34 hl h
theorem c35:(T bjB).func Tryz.f78=some PM.agL:=by kernel_rfl
theorem q35:aN C 35 PM.agL:=fun _ _ _ hl h=>aM rfl rfl Tryz.func78 (by kernel_rfl) c35 hl h
theorem c36:(T bpZ).func Tryz.f163=some PM.aLS:=by kernel_rfl
theorem q36:aN C 36 PM.aLS:=fun _ _ _ hl h=>aM rfl rfl Tryz.func163 (by kernel_rfl) c36 hl h
theorem c37:(T bqF).func Tryz.f162=some PM.aMA:=by kernel_rfl
theorem q37:aN C 37 PM.aMA:=fun _ _ _ hl h=>aM rfl rfl Tryz.func162 (by kernel_rfl) c37 hl h
theorem c38:(T bjJ).func Tryz.f106=some PM.agU:=by kernel_rfl
theorem q38:aN C 38 PM.agU:=fun _ _ _ hl h=>aM rfl rfl Tryz.func106 (by kernel_rfl) c38 hl h
theorem c39:(T a4P).func Tryz.f140=some PM.DQ:=by kernel_rfl
theorem q39:aN C 39 PM.DQ:=fun _ _ _ hl h=>aM rfl rfl Tryz.func140 (by kernel_rfl) c39 hl h
theorem c40:(T biZ).func Tryz.f158=some PM.agK:=by kernel_rfl
theorem q40:aN C 40 PM.agK:=fun _ _ _ hl h=>aM rfl rfl Tryz.func158 (by kernel_rfl) c40 hl h
theorem c41:(T bbL).func Tryz.f139=some PM.QC:=by kernel_rfl
theorem q41:aN C 41 PM.QC:=fun _ _ _ hl h=>aM rfl rfl Tryz.func139 (by kernel_rfl) c41 hl h
theorem c42:(T bbN).func Tryz.f157=some PM.QD:=by kernel_rfl
theorem q42:aN C 42 PM.QD:=fun _ _ _ hl h=>aM rfl rfl Tryz.func157 (by kernel_rfl) c42 hl h
theorem c43:(T bjH).func Tryz.f167=some PM.agP:=by kernel_rfl
theorem q43:aN C 43 PM.agP:=fun _ _ _ hl h=>aM rfl rfl Tryz.func167 (by kernel_rfl) c43 hl h
theorem c44:(T bbP).func Tryz.f156=some PM.QM:=by kernel_rfl
theorem q44:aN C 44 PM.QM:=fun _ _ _ hl h=>aM rfl rfl Tryz.func156 (by kernel_rfl) c44 hl h
theorem c45:(T btN).func Tryz.f155=some PM.uup:=by kernel_rfl
theorem q45:aN C 45 PM.uup:=fun _ _ _ hl h=>aM rfl rfl Tryz.func155 (by kernel_rfl) c45 hl h
theorem c46:(T bqH).func Tryz.f143=some PM.anI:=by kernel_rfl
theorem q46:aN C 46 PM.anI:=fun _ _ _ hl h=>aM rfl rfl Tryz.func143 (by kernel_rfl) c46 hl h
theorem c47:(T bqJ).func Tryz.f114=some PM.aMP:=by kernel_rfl
theorem q47:aN C 47 PM.aMP:=fun _ _ _ hl h=>aM rfl rfl Tryz.func114 (by kernel_rfl) c47 hl h
theorem c48:(T bcN).func Tryz.f168=some PM.QS:=by kernel_rfl
theorem q48:aN C 48 PM.QS:=fun _ _ _ hl h=>aM rfl rfl Tryz.func168 (by kernel_rfl) c48 hl h
theorem c49:(T bkA).func Tryz.f119=some PM.agX:=by kernel_rfl
theorem q49:aN C 49 PM.agX:=fun _ _ _ hl h=>aM rfl rfl Tryz.func119 (by kernel_rfl) c49 hl h
theorem c50:(T bkC).func Tryz.f55=some PM.TC:=by kernel_rfl
theorem q50:aN C 50 PM.TC:=fun _ _ _ hl h=>aM rfl rfl Tryz.func55 (by kernel_rfl) c50 hl h
theorem c51:(T bcP).func Tryz.f115=some PM.QT:=by kernel_rfl
theorem q51:aN C 51 PM.QT:=fun _ _ _ hl h=>aM rfl rfl Tryz.func115 (by kernel_rfl) c51 hl h
theorem c52:(T a5P).func Tryz.f116=some PM.DU:=by kernel_rfl
theorem q52:aN C 52 PM.DU:=fun _ _ _ hl h=>aM rfl rfl Tryz.func116 (by kernel_rfl) c52 hl h
theorem c53:(T bkE).func Tryz.f113=some PM.ahO:=by kernel_rfl
theorem q53:aN C 53 PM.ahO:=fun _ _ _ hl h=>aM rfl rfl Tryz.func113 (by kernel_rfl) c53 hl h
theorem c54:(T bkG).func Tryz.f85=some PM.ahP:=by kernel_rfl
theorem q54:aN C 54 PM.ahP:=fun _ _ _ hl h=>aM rfl rfl Tryz.func85 (by kernel_rfl) c54 hl h
theorem c55:(T bqM).func Tryz.f112=some PM.aNI:=by kernel_rfl
theorem q55:aN C 55 PM.aNI:=fun _ _ _ hl h=>aM rfl rfl Tryz.func112 (by kernel_rfl) c55 hl h
theorem c56:(T bcV).func Tryz.f84=some PM.QX:=by kernel_rfl
theorem q56:aN C 56 PM.QX:=fun _ _ _ hl h=>aM rfl rfl Tryz.func84 (by kernel_rfl) c56 hl h
theorem c57:(T bjX).func Tryz.f161=some PM.agV:=by kernel_rfl
theorem q57:aN C 57 PM.agV:=fun _ _ _ hl h=>aM rfl rfl Tryz.func161 (by kernel_rfl) c57 hl h
theorem c58:(T a5N).func Tryz.f77=some PM.DS:=by kernel_rfl
theorem q58:aN C 58 PM.DS:=fun _ _ _ hl h=>aM rfl rfl Tryz.func77 (by kernel_rfl) c58 hl h
theorem c59:(T bkI).func Tryz.f79=some PM.ahQ:=by kernel_rfl
theorem q59:aN C 59 PM.ahQ:=fun _ _ _ hl h=>aM rfl rfl Tryz.func79 (by kernel_rfl) c59 hl h
theorem c60:(T bcT).func Tryz.f144=some PM.QW:=by kernel_rfl
theorem q60:aN C 60 PM.QW:=fun _ _ _ hl h=>aM rfl rfl Tryz.func144 (by kernel_rfl) c60 hl h
theorem c61:(T biK).func Tryz.f117=some PM.uW:=by kernel_rfl
theorem q61:aN C 61 PM.uW:=fun _ _ _ hl h=>aM rfl rfl Tryz.func117 (by kernel_rfl) c61 hl h
theorem c62:(T a6F).func Tryz.f109=some PM.DX:=by kernel_rfl
theorem q62:aN C 62 PM.DX:=fun _ _ _ hl h=>aM rfl rfl Tryz.func109 (by kernel_rfl) c62 hl h
theorem c63:(T bdM).func Tryz.f159=some PM.RB:=by kernel_rfl
theorem q63:aN C 63 PM.RB:=fun _ _ _ hl h=>aM rfl rfl Tryz.func159 (by kernel_rfl) c63 hl h
theorem c64:(T a6D).func Tryz.f142=some PM.DW:=by kernel_rfl
theorem q64:aN C 64 PM.DW:=fun _ _ _ hl h=>aM rfl rfl Tryz.func142 (by kernel_rfl) c64 hl h
theorem c65:(T a6H).func Tryz.f141=some PM.DY:=by kernel_rfl
theorem q65:aN C 65 PM.DY:=fun _ _ _ hl h=>aM rfl rfl Tryz.func141 (by kernel_rfl) c65 hl h
theorem c66:(T bqU).func Tryz.f118=some PM.aOC:=by kernel_rfl
theorem q66:aN C 66 PM.aOC:=fun _ _ _ hl h=>aM rfl rfl Tryz.func118 (by kernel_rfl) c66 hl h
theorem c67:(T beE).func Tryz.f56=some PM.RR:=by kernel_rfl
theorem q67:aN C 67 PM.RR:=fun _ _ _ hl h=>aM rfl rfl Tryz.func56 (by kernel_rfl) c67 hl h
theorem c68:(T bqS).func Tryz.f83=some PM.aNP:=by kernel_rfl
theorem q68:aN C 68 PM.aNP:=fun _ _ _ hl h=>aM rfl rfl Tryz.func83 (by kernel_rfl) c68 hl h
theorem c69:(T bqQ).func Tryz.f88=some PM.aNN:=by kernel_rfl
theorem q69:aN C 69 PM.aNN:=fun _ _ _ hl h=>aM rfl rfl Tryz.func88 (by kernel_rfl) c69 hl h
theorem c70:(T bdT).func Tryz.f82=some PM.RJ:=by kernel_rfl
theorem q70:aN C 70 PM.RJ:=fun _ _ _ hl h=>aM rfl rfl Tryz.func82 (by kernel_rfl) c70 hl h
theorem c71:(T bdV).func Tryz.f110=some PM.RK:=by kernel_rfl
theorem q71:aN C 71 PM.RK:=fun _ _ _ hl h=>aM rfl rfl Tryz.func110 (by kernel_rfl) c71 hl h
theorem c72:(T aPX).func Tryz.f87=some PM.xW:=by kernel_rfl
theorem q72:aN C 72 PM.xW:=fun _ _ _ hl h=>aM rfl rfl Tryz.func87 (by kernel_rfl) c72 hl h
theorem c73:(T bdY).func Tryz.f81=some PM.RP:=by kernel_rfl
theorem q73:aN C 73 PM.RP:=fun _ _ _ hl h=>aM rfl rfl Tryz.func81 (by kernel_rfl) c73 hl h
theorem c74:(T beA).func Tryz.f86=some PM.RQ:=by kernel_rfl
theorem q74:aN C 74 PM.RQ:=fun _ _ _ hl h=>aM rfl rfl Tryz.func86 (by kernel_rfl) c74 hl h
theorem c75:(T a6K).func Tryz.f111=some PM.DZ:=by kernel_rfl
theorem q75:aN C 75 PM.DZ:=fun _ _ _ hl h=>aM rfl rfl Tryz.func111 (by kernel_rfl) c75 hl h
theorem c76:(T a6M).func Tryz.f80=some PM.wE:=by kernel_rfl
theorem q76:aN C 76 PM.wE:=fun _ _ _ hl h=>aM rfl rfl Tryz.func80 (by kernel_rfl) c76 hl h
theorem c82:(T biM).func Tryz.f64=some PM.afG:=by kernel_rfl
theorem q82:aN C 82 PM.afG:=fun _ _ _ hl h=>aM rfl rfl Tryz.func64 (by kernel_rfl) c82 hl h
theorem c85:(T biN).func Tryz.f46=some PM.afH:=by kernel_rfl
theorem q85:aN C 85 PM.afH:=fun _ _ _ hl h=>aM rfl rfl Tryz.func46 (by kernel_rfl) c85 hl h
theorem c86:(T a4H).func Tryz.f52=some PM.DO:=by kernel_rfl
theorem q86:aN C 86 PM.DO:=fun _ _ _ hl h=>aM rfl rfl Tryz.func52 (by kernel_rfl) c86 hl h
theorem c89:(T bpH).func Tryz.f65=some PM.aJJ:=by kernel_rfl
theorem q89:aN C 89 PM.aJJ:=fun _ _ _ hl h=>aM rfl rfl Tryz.func65 (by kernel_rfl) c89 hl h
theorem c91:(T bpF).func Tryz.f24=some PM.same:=by kernel_rfl
theorem q91:aN C 91 PM.same:=fun _ _ _ hl h=>aM rfl rfl Tryz.func24 (by kernel_rfl) c91 hl h
theorem c95:(T bmR).func Tryz.f59=some PM.aCT:=by kernel_rfl
theorem q95:aN C 95 PM.aCT:=fun _ _ _ hl h=>aM rfl rfl Tryz.func59 (by kernel_rfl) c95 hl h
theorem c96:(T bnB).func Tryz.f47=some PM.aDO:=by kernel_rfl
theorem q96:aN C 96 PM.aDO:=fun _ _ _ hl h=>aM rfl rfl Tryz.func47 (by kernel_rfl) c96 hl h
theorem c97:(T a7Y).func Tryz.f90=some PM.MT:=by kernel_rfl
theorem q97:aN C 97 PM.MT:=fun _ _ _ hl h=>aM rfl rfl Tryz.func90 (by kernel_rfl) c97 hl h
theorem c98:(T bfP).func Tryz.f130=some PM.acO:=by kernel_rfl
theorem q98:aN C 98 PM.acO:=fun _ _ _ hl h=>aM rfl rfl Tryz.func130 (by kernel_rfl) c98 hl h
theorem c99:(T bfR).func Tryz.f91=some PM.acP:=by kernel_rfl
theorem q99:aN C 99 PM.acP:=fun _ _ _ hl h=>aM rfl rfl Tryz.func91 (by kernel_rfl) c99 hl h
theorem byO:(T bfT).func Tryz.f132=some PM.acQ:=by kernel_rfl
theorem bCR:aN C 100 PM.acQ:=fun _ _ _ hl h=>aM rfl rfl Tryz.func132 (by kernel_rfl) byO hl h
theorem byP:(T bmX).func Tryz.f135=some PM.gone:=by kernel_rfl
theorem bCS:aN C 101 PM.gone:=fun _ _ _ hl h=>aM rfl rfl Tryz.func135 (by kernel_rfl) byP hl h
theorem byQ:(T bfW).func Tryz.f95=some PM.acR:=by kernel_rfl
theorem bCT:aN C 102 PM.acR:=fun _ _ _ hl h=>aM rfl rfl Tryz.func95 (by kernel_rfl) byQ hl h
theorem byR:(T a8A).func Tryz.f131=some PM.MU:=by kernel_rfl
theorem bCU:aN C 103 PM.MU:=fun _ _ _ hl h=>aM rfl rfl Tryz.func131 (by kernel_rfl) byR hl h
theorem byS:(T brQ).func Tryz.f57=some PM.gin:=by kernel_rfl
theorem bCV:aN C 104 PM.gin:=fun _ _ _ hl h=>aM rfl rfl Tryz.func57 (by kernel_rfl) byS hl h
theorem byT:(T bmT).func Tryz.f89=some PM.aCV:=by kernel_rfl
theorem bCW:aN C 105 PM.aCV:=fun _ _ _ hl h=>aM rfl rfl Tryz.func89 (by kernel_rfl) byT hl h
theorem byU:(T bmV).func Tryz.f96=some PM.aCW:=by kernel_rfl
theorem bCX:aN C 106 PM.aCW:=fun _ _ _ hl h=>aM rfl rfl Tryz.func96 (by kernel_rfl) byU hl h
theorem byV:(T bfY).func Tryz.f133=some PM.acU:=by kernel_rfl
theorem bCY:aN C 107 PM.acU:=fun _ _ _ hl h=>aM rfl rfl Tryz.func133 (by kernel_rfl) byV hl h
theorem byW:(T bgA).func Tryz.f97=some PM.acV:=by kernel_rfl
theorem bCZ:aN C 108 PM.acV:=fun _ _ _ hl h=>aM rfl rfl Tryz.func97 (by kernel_rfl) byW hl h
theorem byX:(T a8D).func Tryz.f134=some PM.ND:=by kernel_rfl
theorem bDA:aN C 109 PM.ND:=fun _ _ _ hl h=>aM rfl rfl Tryz.func134 (by kernel_rfl) byX hl h
theorem byY:(T bgD).func Tryz.f61=some PM.acW:=by kernel_rfl
theorem bDB:aN C 110 PM.acW:=fun _ _ _ hl h=>aM rfl rfl Tryz.func61 (by kernel_rfl) byY hl h
theorem byZ:(T bmP).func Tryz.f58=some PM.alI:=by kernel_rfl
theorem bDC:aN C 111 PM.alI:=fun _ _ _ hl h=>aM rfl rfl Tryz.func58 (by kernel_rfl) byZ hl h
theorem bzA:(T bmZ).func Tryz.f60=some PM.aCZ:=by kernel_rfl
theorem bDD:aN C 112 PM.aCZ:=fun _ _ _ hl h=>aM rfl rfl Tryz.func60 (by kernel_rfl) bzA hl h
theorem bzB:(T bmF).func Tryz.f123=some PM.MH:=by kernel_rfl
theorem bDE:aN C 113 PM.MH:=fun _ _ _ hl h=>aM rfl rfl Tryz.func123 (by kernel_rfl) bzB hl h
theorem bzC:(T bmH).func Tryz.f94=some PM.aAS:=by kernel_rfl
theorem bDF:aN C 114 PM.aAS:=fun _ _ _ hl h=>aM rfl rfl Tryz.func94 (by kernel_rfl) bzC hl h
theorem bzD:(T bfL).func Tryz.f93=some PM.SJ:=by kernel_rfl
theorem bDG:aN C 115 PM.SJ:=fun _ _ _ hl h=>aM rfl rfl Tryz.func93 (by kernel_rfl) bzD hl h
theorem bzE:(T a1R).func Tryz.f120=some PM.vP:=by kernel_rfl
theorem bDH:aN C 116 PM.vP:=fun _ _ _ hl h=>aM rfl rfl Tryz.func120 (by kernel_rfl) bzE hl h
theorem bzF:(T bmN).func Tryz.f92=some PM.WS:=by kernel_rfl
theorem bDI:aN C 117 PM.WS:=fun _ _ _ hl h=>aM rfl rfl Tryz.func92 (by kernel_rfl) bzF hl h
theorem bzG:(T a7W).func Tryz.f126=some PM.MR:=by kernel_rfl
theorem bDJ:aN C 118 PM.MR:=fun _ _ _ hl h=>aM rfl rfl Tryz.func126 (by kernel_rfl) bzG hl h
theorem bzH:(T bmD).func Tryz.f125=some PM.aAP:=by kernel_rfl
theorem bDK:aN C 119 PM.aAP:=fun _ _ _ hl h=>aM rfl rfl Tryz.func125 (by kernel_rfl) bzH hl h
theorem bzI:(T a1O).func Tryz.f124=some PM.nS:=by kernel_rfl
theorem bDL:aN C 120 PM.nS:=fun _ _ _ hl h=>aM rfl rfl Tryz.func124 (by kernel_rfl) bzI hl h
theorem bzJ:(T a7U).func Tryz.f128=some PM.MQ:=by kernel_rfl
theorem bDM:aN C 121 PM.MQ:=fun _ _ _ hl h=>aM rfl rfl Tryz.func128 (by kernel_rfl) bzJ hl h
theorem bzK:(T bfN).func Tryz.f129=some PM.acN:=by kernel_rfl
theorem bDN:aN C 122 PM.acN:=fun _ _ _ hl h=>aM rfl rfl Tryz.func129 (by kernel_rfl) bzK hl h
theorem bzL:(T bgS).func Tryz.f98=some PM.SQ:=by kernel_rfl
theorem bDO:aN C 123 PM.SQ:=fun _ _ _ hl h=>aM rfl rfl Tryz.func98 (by kernel_rfl) bzL hl h
theorem bzM:(T a8L).func Tryz.f153=some PM.CZ:=by kernel_rfl
theorem bDP:aN C 124 PM.CZ:=fun _ _ _ hl h=>aM rfl rfl Tryz.func153 (by kernel_rfl) bzM hl h
theorem bzN:(T a8P).func Tryz.f137=some PM.DA:=by kernel_rfl
theorem bDQ:aN C 125 PM.DA:=fun _ _ _ hl h=>aM rfl rfl Tryz.func137 (by kernel_rfl) bzN hl h
theorem bzO:(T a2N).func Tryz.f136=some PM.vY:=by kernel_rfl
theorem bDR:aN C 126 PM.vY:=fun _ _ _ hl h=>aM rfl rfl Tryz.func136 (by kernel_rfl) bzO hl h
theorem bzP:(T boC).func Tryz.f147=some PM.aFJ:=by kernel_rfl
theorem bDS:aN C 127 PM.aFJ:=fun _ _ _ hl h=>aM rfl rfl Tryz.func147 (by kernel_rfl) bzP hl h
theorem bzQ:(T bgY).func Tryz.f121=some PM.adX:=by kernel_rfl
theorem bDT:aN C 128 PM.adX:=fun _ _ _ hl h=>aM rfl rfl Tryz.func121 (by kernel_rfl) bzQ hl h
theorem bzR:(T boF).func Tryz.f127=some PM.aFZ:=by kernel_rfl
theorem bDU:aN C 129 PM.aFZ:=fun _ _ _ hl h=>aM rfl rfl Tryz.func127 (by kernel_rfl) bzR hl h
theorem bzS:(T boH).func Tryz.f150=some PM.aGF:=by kernel_rfl
theorem bDV:aN C 130 PM.aGF:=fun _ _ _ hl h=>aM rfl rfl Tryz.func150 (by kernel_rfl) bzS hl h
theorem bzT:(T boK).func Tryz.f149=some PM.aGK:=by kernel_rfl
theorem bDW:aN C 131 PM.aGK:=fun _ _ _ hl h=>aM rfl rfl Tryz.func149 (by kernel_rfl) bzT hl h
theorem bzU:(T bhB).func Tryz.f122=some PM.aeJ:=by kernel_rfl
theorem bDX:aN C 132 PM.aeJ:=fun _ _ _ hl h=>aM rfl rfl Tryz.func122 (by kernel_rfl) bzU hl h
theorem bzV:(T boM).func Tryz.f152=some PM.aGP:=by kernel_rfl
theorem bDY:aN C 133 PM.aGP:=fun _ _ _ hl h=>aM rfl rfl Tryz.func152 (by kernel_rfl) bzV hl h
theorem bzW:(T boO).func Tryz.f148=some PM.aGY:=by kernel_rfl
theorem bDZ:aN C 134 PM.aGY:=fun _ _ _ hl h=>aM rfl rfl Tryz.func148 (by kernel_rfl) bzW hl h
theorem bzX:(T bhE).func Tryz.f151=some PM.aeN:=by kernel_rfl
theorem bEA:aN C 135 PM.aeN:=fun _ _ _ hl h=>aM rfl rfl Tryz.func151 (by kernel_rfl) bzX hl h
theorem bzY:(T a2Z).func Tryz.f166=some PM.DE:=by kernel_rfl
theorem bEB:aN C 136 PM.DE:=fun _ _ _ hl h=>aM rfl rfl Tryz.func166 (by kernel_rfl) bzY hl h
theorem bzZ:(T a9A).func Tryz.f164=some PM.NQ:=by kernel_rfl
theorem bEC:aN C 137 PM.NQ:=fun _ _ _ hl h=>aM rfl rfl Tryz.func164 (by kernel_rfl) bzZ hl h
theorem bAA:(T a3D).func Tryz.f146=some PM.rZ:=by kernel_rfl
theorem bED:aN C 138 PM.rZ:=fun _ _ _ hl h=>aM rfl rfl Tryz.func146 (by kernel_rfl) bAA hl h
theorem bAB:(T aPF).func Tryz.f172=some PM.xB:=by kernel_rfl
theorem bEE:aN C 139 PM.xB:=fun _ _ _ hl h=>aM rfl rfl Tryz.func172 (by kernel_rfl) bAB hl h
theorem bAC:(T a9D).func Tryz.f169=some PM.NW:=by kernel_rfl
theorem bEF:aN C 140 PM.NW:=fun _ _ _ hl h=>aM rfl rfl Tryz.func169 (by kernel_rfl) bAC hl h
theorem bAD:(T a9F).func Tryz.f165=some PM.NX:=by kernel_rfl
theorem bEG:aN C 141 PM.NX:=fun _ _ _ hl h=>aM rfl rfl Tryz.func165 (by kernel_rfl) bAD hl h
theorem bAE:(T aHF).func Tryz.f171=some PM.tI:=by kernel_rfl
theorem bEH:aN C 142 PM.tI:=fun _ _ _ hl h=>aM rfl rfl Tryz.func171 (by kernel_rfl) bAE hl h
theorem bAF:(T bsQ).func Tryz.f170=some PM.nup:=by kernel_rfl
theorem bEI:aN C 143 PM.nup:=fun _ _ _ hl h=>aM rfl rfl Tryz.func170 (by kernel_rfl) bAF hl h
theorem bAG:(T beK).func Tryz.f16=some PM.begin:=by kernel_rfl
theorem bEJ:aN C 144 PM.begin:=fun _ _ _ hl h=>aM rfl rfl Tryz.func16 (by kernel_rfl) bAG hl h
theorem bAH:(T bpP).func Tryz.f18=some PM.step:=by kernel_rfl
theorem bEK:aN C 145 PM.step:=fun _ _ _ hl h=>aM rfl rfl Tryz.func18 (by kernel_rfl) bAH hl h
theorem bAI:(T bqD).func Tryz.f17=some PM.aLU:=by kernel_rfl
theorem bEL:aN C 146 PM.aLU:=fun _ _ _ hl h=>aM rfl rfl Tryz.func17 (by kernel_rfl) bAI hl h
theorem bAJ:(T a4J).func Tryz.f48=some PM.DP:=by kernel_rfl
theorem bEM:aN C 153 PM.DP:=fun _ _ _ hl h=>aM rfl rfl Tryz.func48 (by kernel_rfl) bAJ hl h
theorem bAK:(T aKM).func Tryz.f99=some PM.yX:=by kernel_rfl
theorem bEN:aN C 156 PM.yX:=fun _ _ _ hl h=>aM rfl rfl Tryz.func99 (by kernel_rfl) bAK hl h
theorem bAL:(T bbF).func Tryz.f63=some PM.xK:=by kernel_rfl
theorem bEO:aN C 160 PM.xK:=fun _ _ _ hl h=>aM rfl rfl Tryz.func63 (by kernel_rfl) bAL hl h
theorem bAM:(T bbH).func Tryz.f62=some PM.PU:=by kernel_rfl
theorem bEP:aN C 161 PM.PU:=fun _ _ _ hl h=>aM rfl rfl Tryz.func62 (by kernel_rfl) bAM hl h
theorem bAO:(T bfF).func Tryz.f20=some PM.FL:=by kernel_rfl
theorem bER:aN C 240 PM.FL:=fun _ _ _ hl h=>aM rfl rfl Tryz.func20 (by kernel_rfl) bAO hl h
theorem bAP:(T beW).func Tryz.f41=some PM.abF:=by kernel_rfl
theorem bES:aN C 241 PM.abF:=fun _ _ _ hl h=>aM rfl rfl Tryz.func41 (by kernel_rfl) bAP hl h
theorem bAQ:(T bfD).func Tryz.f43=some PM.abR:=by kernel_rfl
theorem bET:aN C 242 PM.abR:=fun _ _ _ hl h=>aM rfl rfl Tryz.func43 (by kernel_rfl) bAQ hl h
theorem bAR:(T blT).func Tryz.f42=some PM.azR:=by kernel_rfl
theorem bEU:aN C 243 PM.azR:=fun _ _ _ hl h=>aM rfl rfl Tryz.func42 (by kernel_rfl) bAR hl h
theorem bAS:(T a7F).func Tryz.f25=some PM.LS:=by kernel_rfl
theorem bEV:aN C 244 PM.LS:=fun _ _ _ hl h=>aM rfl rfl Tryz.func25 (by kernel_rfl) bAS hl h
theorem bAT:(T aKM).func Tryz.f44=some PM.yX:=by kernel_rfl
theorem bEW:aN C 245 PM.yX:=fun _ _ _ hl h=>aM rfl rfl Tryz.func44 (by kernel_rfl) bAT hl h
theorem bAU:(T a1G).func Tryz.f26=some PM.CS:=by kernel_rfl
theorem bEX:aN C 246 PM.CS:=fun _ _ _ hl h=>aM rfl rfl Tryz.func26 (by kernel_rfl) bAU hl h
theorem bAV:(T aVV).func Tryz.f45=some PM.PB:=by kernel_rfl
theorem bEY:aN C 247 PM.PB:=fun _ _ _ hl h=>aM rfl rfl Tryz.func45 (by kernel_rfl) bAV hl h
theorem bAW:(T a7I).func Tryz.f27=some PM.LZ:=by kernel_rfl
theorem bEZ:aN C 248 PM.LZ:=fun _ _ _ hl h=>aM rfl rfl Tryz.func27 (by kernel_rfl) bAW hl h
theorem bAX:(T bfB).func Tryz.f9=some PM.abQ:=by kernel_rfl
theorem bFA:aN C 249 PM.abQ:=fun _ _ _ hl h=>aM rfl rfl Tryz.func9 (by kernel_rfl) bAX hl h
theorem bAY:(T a3J).func Tryz.f30=some PM.DH:=by kernel_rfl
theorem bFB:aN C 250 PM.DH:=fun _ _ _ hl h=>aM rfl rfl Tryz.func30 (by kernel_rfl) bAY hl h
theorem bAZ:(T bhL).func Tryz.f33=some PM.aeR:=by kernel_rfl
theorem bFC:aN C 251 PM.aeR:=fun _ _ _ hl h=>aM rfl rfl Tryz.func33 (by kernel_rfl) bAZ hl h
theorem bBA:(T bhK).func Tryz.f23=some PM.aeP:=by kernel_rfl
theorem bFD:aN C 252 PM.aeP:=fun _ _ _ hl h=>aM rfl rfl Tryz.func23 (by kernel_rfl) bBA hl h
theorem bBB:(T a3L).func Tryz.f34=some PM.DI:=by kernel_rfl
theorem bFE:aN C 253 PM.DI:=fun _ _ _ hl h=>aM rfl rfl Tryz.func34 (by kernel_rfl) bBB hl h
theorem bBC:(T aVV).func Tryz.f35=some PM.PB:=by kernel_rfl
theorem bFF:aN C 254 PM.PB:=fun _ _ _ hl h=>aM rfl rfl Tryz.func35 (by kernel_rfl) bBC hl h
theorem bBD:(T bhR).func Tryz.f29=some PM.aeW:=by kernel_rfl
theorem bFG:aN C 255 PM.aeW:=fun _ _ _ hl h=>aM rfl rfl Tryz.func29 (by kernel_rfl) bBD hl h
theorem bBE:(T bwK).func Tryz.f40=some PM.qk:=by kernel_rfl
theorem bFH:aN C 257 PM.qk:=fun _ _ _ hl h=>aM rfl rfl Tryz.func40 (by kernel_rfl) bBE hl h
theorem bBF:(T aOE).func Tryz.f51=some PM.tV:=by kernel_rfl
theorem bFI:aN C 258 PM.tV:=fun _ _ _ hl h=>aM rfl rfl Tryz.func51 (by kernel_rfl) bBF hl h
theorem bBG:(T aHU).func Tryz.f32=some PM.tL:=by kernel_rfl
theorem bFJ:aN C 260 PM.tL:=fun _ _ _ hl h=>aM rfl rfl Tryz.func32 (by kernel_rfl) bBG hl h
theorem bBH:(T baB).func Tryz.f50=some PM.OT:=by kernel_rfl
theorem bFK:aN C 261 PM.OT:=fun _ _ _ hl h=>aM rfl rfl Tryz.func50 (by kernel_rfl) bBH hl h
theorem bBI:(T bdK).func Tryz.f36=some PM.RA:=by kernel_rfl
theorem bFL:aN C 262 PM.RA:=fun _ _ _ hl h=>aM rfl rfl Tryz.func36 (by kernel_rfl) bBI hl h
theorem bBJ:(T bdR).func Tryz.f15=some PM.RG:=by kernel_rfl
theorem bFM:aN C 263 PM.RG:=fun _ _ _ hl h=>aM rfl rfl Tryz.func15 (by kernel_rfl) bBJ hl h
theorem bBK:(T bdI).func Tryz.f19=some PM.QY:=by kernel_rfl
theorem bFN:aN C 264 PM.QY:=fun _ _ _ hl h=>aM rfl rfl Tryz.func19 (by kernel_rfl) bBK hl h
theorem bBL:(T bdP).func Tryz.f13=some PM.RE:=by kernel_rfl
theorem bFO:aN C 265 PM.RE:=fun _ _ _ hl h=>aM rfl rfl Tryz.func13 (by kernel_rfl) bBL hl h
theorem bBM:(T bjV).func Tryz.f28=some PM.a4U:=by kernel_rfl
theorem bFP:aN C 266 PM.a4U:=fun _ _ _ hl h=>aM rfl rfl Tryz.func28 (by kernel_rfl) bBM hl h
theorem bBN:(T bdG).func Tryz.f11=some PM.aNK:=by kernel_rfl
theorem bFQ:aN C 267 PM.aNK:=fun _ _ _ hl h=>aM rfl rfl Tryz.func11 (by kernel_rfl) bBN hl h
theorem bBO:(T bcL).func Tryz.f21=some PM.aMJ:=by kernel_rfl
theorem bFR:aN C 268 PM.aMJ:=fun _ _ _ hl h=>aM rfl rfl Tryz.func21 (by kernel_rfl) bBO hl h
theorem bBP:(T bcR).func Tryz.f14=some PM.QU:=by kernel_rfl
theorem bFS:aN C 269 PM.QU:=fun _ _ _ hl h=>aM rfl rfl Tryz.func14 (by kernel_rfl) bBP hl h
theorem bBQ:(T biI).func Tryz.f22=some PM.a3X:=by kernel_rfl
theorem bFT:aN C 270 PM.a3X:=fun _ _ _ hl h=>aM rfl rfl Tryz.func22 (by kernel_rfl) bBQ hl h
theorem bBR:(T aPA).func Tryz.f12=some PM.XO:=by kernel_rfl
theorem bFU:aN C 272 PM.XO:=fun _ _ _ hl h=>aM rfl rfl Tryz.func12 (by kernel_rfl) bBR hl h
theorem bBT:(T a9Y).func Tryz.f37=some PM.OO:=by kernel_rfl
theorem bFW:aN C 277 PM.OO:=fun _ _ _ hl h=>aM rfl rfl Tryz.func37 (by kernel_rfl) bBT hl h
theorem bBS:(T a8S).func Tryz.f7=some PM.NH:=by kernel_rfl
theorem bFV:aN C 276 PM.NH:=fun _ _ _ hl h=>aM rfl rfl Tryz.func7 (by kernel_rfl) bBS hl h
theorem bAN:(T a7A).func Tryz.f31=some PM.concat:=by kernel_rfl
theorem bEQ:aN C 178 PM.concat:=fun _ _ _ hl h=>aM rfl rfl Tryz.func31 (by kernel_rfl) bAN hl h
theorem brK:cG C:={
 r24:=q24,
 r26:=q26,
 r30:=q30,
 r31:=q31,
 r32:=q32,
 r33:=q33,
 r34:=q34,
 r35:=q35,
 r36:=q36,
 r37:=q37,
 r38:=q38,
 r39:=q39,
 r40:=q40,
 r41:=q41,
 r42:=q42,
 r43:=q43,
 r44:=q44,
 r45:=q45,
 r46:=q46,
 r47:=q47,
 r48:=q48,
 r49:=q49,
 r50:=q50,
 r51:=q51,
 r52:=q52,
 r53:=q53,
 r54:=q54,
 r55:=q55,
 r56:=q56,
 r57:=q57,
 r58:=q58,
 r59:=q59,
 r60:=q60,
 r61:=q61,
 r62:=q62,
 r63:=q63,
 r64:=q64,
 r65:=q65,
 r66:=q66,
 r67:=q67,
 r68:=q68,
 r69:=q69,
 r70:=q70,
 r71:=q71,
 r72:=q72,
 r73:=q73,
 r74:=q74,
 r75:=q75,
 r76:=q76,
 r82:=q82,
 r85:=q85,
 r86:=q86,
 r89:=q89,
 r91:=q91,
 r95:=q95,
 r96:=q96,
 r97:=q97,
 r98:=q98,
 r99:=q99,
 r100:=bCR,
 r101:=bCS,
 r102:=bCT,
 r103:=bCU,
 r104:=bCV,
 r105:=bCW,
 r106:=bCX,
 r107:=bCY,
 r108:=bCZ,
 r109:=bDA,
 r110:=bDB,
 r111:=bDC,
 r112:=bDD,
 r113:=bDE,
 r114:=bDF,
 r115:=bDG,
 r116:=bDH,
 r117:=bDI,
 r118:=bDJ,
 r119:=bDK,
 r120:=bDL,
 r121:=bDM,
 r122:=bDN,
 r123:=bDO,
 r124:=bDP,
 r125:=bDQ,
 r126:=bDR,
 r127:=bDS,
 r128:=bDT,
 r129:=bDU,
 r130:=bDV,
 r131:=bDW,
 r132:=bDX,
 r133:=bDY,
 r134:=bDZ,
 r135:=bEA,
 r136:=bEB,
 r137:=bEC,
 r138:=bED,
 r139:=bEE,
 r140:=bEF,
 r141:=bEG,
 r142:=bEH,
 r143:=bEI,
 r144:=bEJ,
 r145:=bEK,
 r146:=bEL,
 r153:=bEM,
 r156:=bEN,
 r160:=bEO,
 r161:=bEP,
 r240:=bER,
 r241:=bES,
 r242:=bET,
 r243:=bEU,
 r244:=bEV,
 r245:=bEW,
 r246:=bEX,
 r247:=bEY,
 r248:=bEZ,
 r249:=bFA,
 r250:=bFB,
 r251:=bFC,
 r252:=bFD,
 r253:=bFE,
 r254:=bFF,
 r255:=bFG,
 r257:=bFH,
 r258:=bFI,
 r260:=bFJ,
 r261:=bFK,
 r262:=bFL,
 r263:=bFM,
 r264:=bFN,
 r265:=bFO,
 r266:=bFP,
 r267:=bFQ,
 r268:=bFR,
 r269:=bFS,
 r270:=bFT,
 r272:=bFU,
 r277:=bFW }
end Go.Proofs.YthbkofcdddghgaaGreat
namespace Go.Proofs.YthbkofcdddghgaaGreat
open Go Go.PM Go.RowKit Go.ChangeShapes Go.WideShapes
theorem Tryz.own:ownKnob Tryz.prog.godebug=none:=by kernel_rfl
theorem Tryz.laidOut:laidOutB Tryz.prog=true:=by kernel_rfl
theorem aKH:Tryz.t3.bytes=8:=by kernel_rfl
theorem amC {n:Nat} (h:0<n):Builtin.nextslicecap n 0=n:=by
 unfold Builtin.nextslicecap
 rw[if_pos Om]
theorem a8E (n:Int) (h0:0≤n) (h1:n≤1000000) (w:World):Calls Tryz.prog 49 #[.slice none 0 0,.int .i64 n] w fun e w' =>
  (n=0∧e=.returned (.slice none 0 0)∧w'=w)∨(0<n∧∃ cap cs,e=.returned (.slice (some ⟨w.heap.size,0,none⟩) 0 cap)∧w'=(w.alloc (.cells cs 3)).drew∧cs.size=cap∧cap≤maxLen):=by
 go_enter Tryz.func49,Tryz.ntmps49
 go_wp2
 all_goals (try (exfalso; simp only[aKH] at *; omega))
 ·exfalso
  rw[amC Om] at *
  simp only[aKH] at *
  omega
 ·go_ret
  have hge:=grownCap_ge w n.toNat 0 3
  have hle:=grownCap_le_maxLen w n.toNat 0 3 (by simp only[maxLen]; omega)
  unfold grownCap at hge hle
  refine .inr ⟨_,rfl,_,rfl,?_,hle⟩
  simp only[Array.size_append,size_zeroCells]
  simp
  omega
 ·go_ret
  exact .inl ⟨by omega,rfl,rfl⟩
theorem a1X (n:Int) (h0:0≤n) (h1:n≤1000000):aE C 179 [.aB,.int .i64 n] .nil (bkV n):=by
 refine⟨⟨Tryz.f49,Tryz.func49,by kernel_rfl,by kernel_rfl⟩,fun E w vs hN hW hvs=>?_⟩
 obtain⟨vl⟩:=vs
 cases hvs with
 | cons e1 e2 =>
 cases e2 with
 | cons e3 e4 =>
 cases e4
 cases e1
 cases e3
 refine (a8E n h0 h1 w).mono fun e w' he=>?_
 rcases he with ⟨rfl,rfl,rfl⟩ | ⟨hn,cap,cs,rfl,rfl,hs,hc⟩
 ·exact⟨_,.aB,E,.nil,rfl,hW,.aB,.refl _ _ _,.inl ⟨rfl,rfl,rfl⟩⟩
 ·have hR:jD E 1 [] cs:=⟨by simp,by simp,fun i j pv h=>by simp[at2] at h⟩
  obtain⟨k1,k2⟩:=hW.CN 3 hR
  refine⟨_,.osl w.heap.size 1 0 0,_,_,rfl,k1.drew,?_,k2.ZZ rfl rfl rfl (bKK _) (fun _ _=>rfl),.inr ⟨hn,_,rfl,rfl⟩⟩
  exact .osl rfl rfl (.inr rfl) Om hc (aeO _ _ _) Om
theorem azO (ws:List (List Int)) (h1:ws.length≤1000000) (h2:ws.flatten.length≤1000000):aE C 178 [lists ws] .nil (WE ws.flatten) :=
 bEQ.go (a6Y ws h1 h2 a1X) rfl
set_option maxRecDepth 100000 in
theorem bpM:rP C:={
 concat:=azO
 sort:=fun o xs hx hl=>a4E Tryz.aEL (by kernel_rfl) ⟨_,Tryz.func38,by kernel_rfl,by kernel_rfl⟩ o xs hx hl
 sort0:=aPK Tryz.aEL (by kernel_rfl) ⟨_,Tryz.func38,by kernel_rfl,by kernel_rfl⟩ _ _ (.inl rfl)
 compact:=fun o xs hx hl=>axG Tryz.TV (by kernel_rfl) ⟨_,Tryz.func39,by kernel_rfl,by kernel_rfl⟩ o xs hx hl
 compact0:=alA Tryz.TV (by kernel_rfl) ⟨_,Tryz.func39,by kernel_rfl,by kernel_rfl⟩ _ _ (.inl rfl) }
end Go.Proofs.YthbkofcdddghgaaGreat
namespace Go.Proofs.YthbkofcdddghgaaGreat
open Go Go.PM Go.RowKit Go.ChangeShapes Go.WideShapes
def argKinds:List AT:=[.one (.sl [.int .i64]),.one (.int .i64)]
theorem blO:CP Tryz.prog 8 Tryz.f7.params.toList=some argKinds:=by kernel_rfl
theorem bnO (pvs:List PV) (h:AT.TyL argKinds pvs):aE C 276 pvs .nil (aD (.bool true)):=by
 match pvs,h with
 | [p0,p1],h =>
  obtain⟨h0,h1,-⟩:=h
  cases h0 with | one h0 =>
  obtain⟨x0,rfl,b0,c0⟩:=Ty.bgK h0
  cases h1 with | one h1 =>
  obtain⟨x1,rfl,-⟩:=Ty.alS h1
  have tm:TpM x0:=⟨by
   have:maxLen≤9223372036854775807:=by decide
   omega,fun x hm=>by
   have e1:IntKind.i64.min=-9223372036854775808:=by decide
   have e2:IntKind.i64.max=9223372036854775807:=by decide
   have h1:=(c0 x hm).1
   have h2:=(c0 x hm).2
   rw[e1] at h1
   rw[e2] at h2
   unfold cW
   omega⟩
  exact a3W brK bpM bFV x0 tm x1
set_option maxRecDepth 100000 in
theorem LC (os:Os) (started:os.Started) (H:Type) (enc:TypeId × Value→H) :
  ReturnsInHanded {} Tryz.checked os 7 .any (Rows.rolloutRightSpec.pre6 enc Tryz.prog Tryz.f7 Rows.rolloutRightRow.domain false) (Rows.rolloutRightSpec.post enc Tryz.prog Tryz.f7 false true false false):=by
 refine returnsInHanded_of_change (C:=Tryz.checked) Tryz.own started (by kernel_rfl) Tryz.func7
  (ChangeSpec.witness6 (enc:=enc) (C:=Tryz.checked) false ⟨#[],#[.slice none 0 0,.int .i64 0],[]⟩ 8 (by kernel_rfl) (by kernel_rfl) (by kernel_rfl) (by kernel_rfl)) ?_
 intro W base args ds gs before bIX hW _ _
 exact azM (P:=Tryz.prog) (num:=num) (name:=276) (n:=8) (ats:=argKinds) (bt:=4) Tryz.laidOut (by kernel_rfl) (by kernel_rfl) (by kernel_rfl) rfl
  (fun ds hd=>by
   match ds,hd with
   | [d1,d2],_=>exact⟨rfl,rfl,rfl⟩)
  (by kernel_rfl) blO bnO bIX hW
theorem rolloutRight_holds:Rows.RolloutRightSaid :=
 OpenClaim.holds_of_wide 7 Tryz.f7 rfl rfl rfl rfl rfl rfl rfl ⟨rfl,rfl,rfl,rfl,rfl⟩ rfl rfl rfl rfl rfl (by kernel_rfl) Tryz.func7 (by kernel_rfl)
  (of_decide_eq_true (by kernel_rfl)) (by unfold Func.isWrapper; first | (rw[if_pos (by decide +kernel)]; kernel_rfl) | (rw[if_neg (by decide +kernel)]; exact⟨rfl,rfl⟩))
  (fun os started H enc _=>LC os started H enc)
#print axioms rolloutRight_holds
end Go.Proofs.YthbkofcdddghgaaGreat
