/-
  The law of the claim returns true at every input, and its argument reads as it did: the tied card. No condition.
-/
import Derived.Test.YthbkofcdddghgaaGreatRChecks1
import Derived.Test.YthbkofcdddghgaaGreatRChecks2
import Derived.Test.YthbkofcdddghgaaGreatRChecks3
import Derived.Test.YthbkofcdddghgaaGreatRChecks4
import Derived.Test.YthbkofcdddghgaaGreatRChecks5
import Derived.Test.YthbkofcdddghgaaGreatProg
import Derived.KernelRfl
import Derived.Test.YthbkofcdddghgaaGreatRows
import Derived.ProofKit
import Derived.WalkKit
set_option linter.unusedSimpArgs false
set_option linter.unusedVariables false
open Nat renaming reduceEqDiff → γ, reduceAdd → δ, reduceSub → ε, reduceMul → ζ, reduceLT → η, reduceLeDiff → θ, reduceBEq → τ
open Int renaming reduceLT → ι, reduceLE → κ, reduceEq → μ, reduceToNat → ν, reduceAdd → ξ, reduceNeg → ο, reduceBEq → ρ, reduceBNe → σ
open List renaming reduceReplicate → υ
open List renaming length_map → bJT, range → bJU, replicate → bJW, getElem_mem → bJX, length_append → bKA, getElem?_eq_getElem → bKD, length_singleton → bKH, mem_cons → bKJ, take_of_length_le → bKK, length_take → bKL, getD_eq_getElem?_getD → bKO, all_eq_true → bKQ, take_length → bKS, append_assoc → bKU, getElem?_eq_some_iff → bKV, drop_zero → bKW, mem_map → bKX, getElem?_map → bKZ, not_mem_nil → bLB, mem_singleton → bLD, getElem?_eq_none → bLG, mem_append → bLH, mem_range → bLI, take_succ_eq_append_getElem → bLK, append_nil → bLM, drop_eq_getElem_cons → bLP, length_set → bLQ, Sublist → bLR, getElem?_append_right → bLS, length_cons → bLU, length_drop → bLV, map_append → bLW, map_cons → bLX, getElem_of_mem → bMA, getElem_map → bMC, length_nil → bMD, nodup_append → bME, take_append_drop → bMF, getElem?_append_left → bMH, mem_of_getElem? → bMK, nil_append → bML, getElem?_take_of_lt → bMO, getElem?_take → bMY, set_append_right → bMZ, contains_iff_mem → bNE, drop_of_length_le → bNF, flatten_cons → bNG, getElem?_drop → bNH, length_replicate → bNI, eq_nil_of_length_eq_zero → bNJ
open Nat renaming le_refl → bJV, gcd → bJY, zero_le → bKF, mul_add → bKG, lt_or_ge → bKM, zero_add → bKN, mul_assoc → bKP, mul_comm → bKT, add_mul → bKY, mul_le_mul_right → bLA, mod_eq_of_lt → bLE, mod_lt → bLJ, add_zero → bLL, pow_succ → bLN, min_eq_left → bLY, mul_le_mul_left → bLZ, pos_of_ne_zero → bMB, add_assoc → bMG, sub_self → bMI, pow_pos → bMM, div_lt_iff_lt_mul → bMP, le_trans → bMQ, eq_zero_or_pos → bMT, div_add_mod → bNA, div_eq_of_lt → bNB
open Bool renaming false_and → bJZ, not_true → bKC, true_and → bKE, not_false → bKI, and_eq_true → bKR, and_false → bLC, and_true → bLT, and_assoc → bMS, false_eq_true → bMU
open Option renaming map_eq_some_iff → bKB, map_some → bLF, getD_some → bMJ, some → bMN, bind_eq_some_iff → bMV, bind_some → bNC
open Array renaming replicate → bLO, length_toList → bMR, getElem?_eq_getElem → bMW, getElem?_eq_some_iff → bND
open Int renaming toNat_natCast → bMX
namespace Go.Proofs.YthbkofcdddghgaaGreat
open Go Go.PM
def bsB:List Nat:=[0,0,0,0,0,0,0,0,0,0,0,0,0,0,0,0,0,0,0,0,0,0,0,0,10,0,8,0,0,0,160,154,145,108,107,78,163,162,106,140,158,139,157,167,156,155,143,114,168,119,55,115,116,113,85,112,84,161,77,79,144,117,109,159,142,141,118,56,83,88,82,110,87,81,86,111,80,0,0,0,0,0,64,0,0,46,52,0,0,65,0,24,0,0,0,59,47,90,130,91,132,135,95,131,57,89,96,133,97,134,61,58,60,123,94,93,120,92,126,125,124,128,129,98,153,137,136,147,121,127,150,149,122,152,148,151,166,164,146,172,169,165,171,170,16,18,17,0,0,0,0,0,0,48,0,0,99,0,0,0,63,62,0,0,0,0,0,0,0,0,0,0,0,0,0,0,0,39,31,49,38,68,69,67,66,103,104,101,138,71,73,74,53,70,100,0,0,0,0,0,0,0,0,0,0,0,0,0,0,0,0,0,0,0,0,0,0,0,0,0,0,0,0,0,0,0,0,0,0,0,0,0,0,0,0,0,0,0,0,0,20,41,43,42,25,44,26,45,27,9,30,33,23,34,35,29,0,40,51,0,32,50,36,15,19,13,28,11,21,14,22,3,12,5,4,6,7,37]
def bnV:List (Option Nat):=[none,none,none,some 271,some 274,some 273,some 275,some 276,some 26,some 249,some 24,some 267,some 272,some 265,some 269,some 263,some 144,some 146,some 145,some 264,some 240,some 268,some 270,some 252,some 91,some 244,some 246,some 248,some 266,some 255,some 250,some 178,some 260,some 251,some 253,some 254,some 262,some 277,some 180,some 177,some 257,some 241,some 243,some 242,some 245,some 247,some 85,some 96,some 153,some 179,some 261,some 258,some 86,some 192,none,some 50,some 67,some 104,some 111,some 95,some 112,some 110,some 161,some 160,some 82,some 89,some 184,some 183,some 181,some 182,some 193,some 189,none,some 190,some 191,none,none,some 58,some 35,some 59,some 76,some 73,some 70,some 68,some 56,some 54,some 74,some 72,some 69,some 105,some 97,some 99,some 117,some 115,some 114,some 102,some 106,some 108,some 123,some 156,some 194,some 187,none,some 185,some 186,none,some 38,some 34,some 33,some 62,some 71,some 75,some 55,some 53,some 47,some 51,some 52,some 61,some 66,some 49,some 116,some 128,some 132,some 113,some 120,some 119,some 118,some 129,some 121,some 122,some 98,some 103,some 100,some 107,some 109,some 101,some 126,some 125,some 188,some 41,some 39,some 65,some 64,some 46,some 60,some 32,some 138,some 127,some 134,some 131,some 130,some 135,some 133,some 124,some 31,some 45,some 44,some 42,some 40,some 63,some 30,some 57,some 37,some 36,some 137,some 141,some 136,some 43,some 48,some 140,some 143,some 142,some 139]
def num (n:Nat):FuncId:=bsB.getD n 0
def nameOf (f:FuncId):Option Nat:=bnV.getD f none
noncomputable def C:Ctx:=⟨Tryz.prog,num⟩
noncomputable def T (ro:List Nat):Tbl:={ P:=Tryz.prog,num:=num,name:=nameOf,ro:=ro }
theorem c24:(T a1J).func Tryz.f10=some PM.DH:=by kernel_rfl
theorem q24:aN C 24 PM.DH:=fun _ _ _ hl h=>aL rfl rfl Tryz.func10 (by kernel_rfl) c24 hl h
theorem c26:(T beB).func Tryz.f8=some PM.aaF:=by kernel_rfl
theorem q26:aN C 26 PM.aaF:=fun _ _ _ hl h=>aL rfl rfl Tryz.func8 (by kernel_rfl) c26 hl h
theorem c30:(T bpG).func Tryz.f160=some PM.aJC:=by kernel_rfl
theorem q30:aN C 30 PM.aJC:=fun _ _ _ hl h=>aL rfl rfl Tryz.func160 (by kernel_rfl) c30 hl h
theorem c31:(T biQ).func Tryz.f154=some PM.agN:=by kernel_rfl
theorem q31:aN C 31 PM.agN:=fun _ _ _ hl h=>aL rfl rfl Tryz.func154 (by kernel_rfl) c31 hl h
theorem c32:(T bpI).func Tryz.f145=some PM.aJO:=by kernel_rfl
theorem q32:aN C 32 PM.aJO:=fun _ _ _ hl h=>aL rfl rfl Tryz.func145 (by kernel_rfl) c32 hl h
theorem c33:(T bpK).func Tryz.f108=some PM.udiv:=by kernel_rfl
theorem q33:aN C 33 PM.udiv:=fun _ _ _ hl h=>aL rfl rfl Tryz.func108 (by kernel_rfl) c33 hl h
theorem c34:(T bpM).func Tryz.f107=some PM.aKD:=by kernel_rfl
theorem q34:aN C 34 PM.aKD:=fun _ _ _ hl h=>aL rfl rfl Tryz.func107 (by kernel_rfl) c34 hl h
theorem c35:(T biW).func Tryz.f78=some PM.agW:=by kernel_rfl
theorem q35:aN C 35 PM.agW:=fun _ _ _ hl h=>aL rfl rfl Tryz.func78 (by kernel_rfl) c35 hl h
theorem c36:(T bpO).func Tryz.f163=some PM.aKG:=by kernel_rfl
theorem q36:aN C 36 PM.aKG:=fun _ _ _ hl h=>aL rfl rfl Tryz.func163 (by kernel_rfl) c36 hl h
theorem c37:(T bpU).func Tryz.f162=some PM.aKO:=by kernel_rfl
theorem q37:aN C 37 PM.aKO:=fun _ _ _ hl h=>aL rfl rfl Tryz.func162 (by kernel_rfl) c37 hl h
theorem c38:(T bjE).func Tryz.f106=some PM.ahE:=by kernel_rfl
theorem q38:aN C 38 PM.ahE:=fun _ _ _ hl h=>aL rfl rfl Tryz.func106 (by kernel_rfl) c38 hl h
theorem c39:(T a3I).func Tryz.f140=some PM.DU:=by kernel_rfl
theorem q39:aN C 39 PM.DU:=fun _ _ _ hl h=>aL rfl rfl Tryz.func140 (by kernel_rfl) c39 hl h
theorem c40:(T biU).func Tryz.f158=some PM.agV:=by kernel_rfl
theorem q40:aN C 40 PM.agV:=fun _ _ _ hl h=>aL rfl rfl Tryz.func158 (by kernel_rfl) c40 hl h
theorem c41:(T baM).func Tryz.f139=some PM.QA:=by kernel_rfl
theorem q41:aN C 41 PM.QA:=fun _ _ _ hl h=>aL rfl rfl Tryz.func139 (by kernel_rfl) c41 hl h
theorem c42:(T baO).func Tryz.f157=some PM.QB:=by kernel_rfl
theorem q42:aN C 42 PM.QB:=fun _ _ _ hl h=>aL rfl rfl Tryz.func157 (by kernel_rfl) c42 hl h
theorem c43:(T bjC).func Tryz.f167=some PM.agZ:=by kernel_rfl
theorem q43:aN C 43 PM.agZ:=fun _ _ _ hl h=>aL rfl rfl Tryz.func167 (by kernel_rfl) c43 hl h
theorem c44:(T baQ).func Tryz.f156=some PM.QK:=by kernel_rfl
theorem q44:aN C 44 PM.QK:=fun _ _ _ hl h=>aL rfl rfl Tryz.func156 (by kernel_rfl) c44 hl h
theorem c45:(T bsW).func Tryz.f155=some PM.uup:=by kernel_rfl
theorem q45:aN C 45 PM.uup:=fun _ _ _ hl h=>aL rfl rfl Tryz.func155 (by kernel_rfl) c45 hl h
theorem c46:(T bpW).func Tryz.f143=some PM.anF:=by kernel_rfl
theorem q46:aN C 46 PM.anF:=fun _ _ _ hl h=>aL rfl rfl Tryz.func143 (by kernel_rfl) c46 hl h
theorem c47:(T bpY).func Tryz.f114=some PM.aLN:=by kernel_rfl
theorem q47:aN C 47 PM.aLN:=fun _ _ _ hl h=>aL rfl rfl Tryz.func114 (by kernel_rfl) c47 hl h
theorem c48:(T bbP).func Tryz.f168=some PM.QQ:=by kernel_rfl
theorem q48:aN C 48 PM.QQ:=fun _ _ _ hl h=>aL rfl rfl Tryz.func168 (by kernel_rfl) c48 hl h
theorem c49:(T bjM).func Tryz.f119=some PM.ahI:=by kernel_rfl
theorem q49:aN C 49 PM.ahI:=fun _ _ _ hl h=>aL rfl rfl Tryz.func119 (by kernel_rfl) c49 hl h
theorem c50:(T bjO).func Tryz.f55=some PM.SZ:=by kernel_rfl
theorem q50:aN C 50 PM.SZ:=fun _ _ _ hl h=>aL rfl rfl Tryz.func55 (by kernel_rfl) c50 hl h
theorem c51:(T bbR).func Tryz.f115=some PM.QR:=by kernel_rfl
theorem q51:aN C 51 PM.QR:=fun _ _ _ hl h=>aL rfl rfl Tryz.func115 (by kernel_rfl) c51 hl h
theorem c52:(T a4F).func Tryz.f116=some PM.DZ:=by kernel_rfl
theorem q52:aN C 52 PM.DZ:=fun _ _ _ hl h=>aL rfl rfl Tryz.func116 (by kernel_rfl) c52 hl h
theorem c53:(T bjQ).func Tryz.f113=some PM.ahZ:=by kernel_rfl
theorem q53:aN C 53 PM.ahZ:=fun _ _ _ hl h=>aL rfl rfl Tryz.func113 (by kernel_rfl) c53 hl h
theorem c54:(T bjS).func Tryz.f85=some PM.aiA:=by kernel_rfl
theorem q54:aN C 54 PM.aiA:=fun _ _ _ hl h=>aL rfl rfl Tryz.func85 (by kernel_rfl) c54 hl h
theorem c55:(T bqB).func Tryz.f112=some PM.aMG:=by kernel_rfl
theorem q55:aN C 55 PM.aMG:=fun _ _ _ hl h=>aL rfl rfl Tryz.func112 (by kernel_rfl) c55 hl h
theorem c56:(T bbX).func Tryz.f84=some PM.QV:=by kernel_rfl
theorem q56:aN C 56 PM.QV:=fun _ _ _ hl h=>aL rfl rfl Tryz.func84 (by kernel_rfl) c56 hl h
theorem c57:(T bjJ).func Tryz.f161=some PM.ahG:=by kernel_rfl
theorem q57:aN C 57 PM.ahG:=fun _ _ _ hl h=>aL rfl rfl Tryz.func161 (by kernel_rfl) c57 hl h
theorem c58:(T a4D).func Tryz.f77=some PM.DX:=by kernel_rfl
theorem q58:aN C 58 PM.DX:=fun _ _ _ hl h=>aL rfl rfl Tryz.func77 (by kernel_rfl) c58 hl h
theorem c59:(T bjU).func Tryz.f79=some PM.aiB:=by kernel_rfl
theorem q59:aN C 59 PM.aiB:=fun _ _ _ hl h=>aL rfl rfl Tryz.func79 (by kernel_rfl) c59 hl h
theorem c60:(T bbV).func Tryz.f144=some PM.QU:=by kernel_rfl
theorem q60:aN C 60 PM.QU:=fun _ _ _ hl h=>aL rfl rfl Tryz.func144 (by kernel_rfl) c60 hl h
theorem c61:(T biF).func Tryz.f117=some PM.uV:=by kernel_rfl
theorem q61:aN C 61 PM.uV:=fun _ _ _ hl h=>aL rfl rfl Tryz.func117 (by kernel_rfl) c61 hl h
theorem c62:(T a5A).func Tryz.f109=some PM.EB:=by kernel_rfl
theorem q62:aN C 62 PM.EB:=fun _ _ _ hl h=>aL rfl rfl Tryz.func109 (by kernel_rfl) c62 hl h
theorem c63:(T bcX).func Tryz.f159=some PM.QZ:=by kernel_rfl
theorem q63:aN C 63 PM.QZ:=fun _ _ _ hl h=>aL rfl rfl Tryz.func159 (by kernel_rfl) c63 hl h
theorem c64:(T a4Y).func Tryz.f142=some PM.EA:=by kernel_rfl
theorem q64:aN C 64 PM.EA:=fun _ _ _ hl h=>aL rfl rfl Tryz.func142 (by kernel_rfl) c64 hl h
theorem c65:(T a5C).func Tryz.f141=some PM.EC:=by kernel_rfl
theorem q65:aN C 65 PM.EC:=fun _ _ _ hl h=>aL rfl rfl Tryz.func141 (by kernel_rfl) c65 hl h
theorem c66:(T bqI).func Tryz.f118=some PM.aNC:=by kernel_rfl
theorem q66:aN C 66 PM.aNC:=fun _ _ _ hl h=>aL rfl rfl Tryz.func118 (by kernel_rfl) c66 hl h
theorem c67:(T bdY).func Tryz.f56=some PM.RM:=by kernel_rfl
theorem q67:aN C 67 PM.RM:=fun _ _ _ hl h=>aL rfl rfl Tryz.func56 (by kernel_rfl) c67 hl h
theorem c68:(T bqG).func Tryz.f83=some PM.aMP:=by kernel_rfl
theorem q68:aN C 68 PM.aMP:=fun _ _ _ hl h=>aL rfl rfl Tryz.func83 (by kernel_rfl) c68 hl h
theorem c69:(T bqE).func Tryz.f88=some PM.aMN:=by kernel_rfl
theorem q69:aN C 69 PM.aMN:=fun _ _ _ hl h=>aL rfl rfl Tryz.func88 (by kernel_rfl) c69 hl h
theorem c70:(T bdN).func Tryz.f82=some PM.RE:=by kernel_rfl
theorem q70:aN C 70 PM.RE:=fun _ _ _ hl h=>aL rfl rfl Tryz.func82 (by kernel_rfl) c70 hl h
theorem c71:(T bdP).func Tryz.f110=some PM.RG:=by kernel_rfl
theorem q71:aN C 71 PM.RG:=fun _ _ _ hl h=>aL rfl rfl Tryz.func110 (by kernel_rfl) c71 hl h
theorem c72:(T aOR).func Tryz.f87=some PM.yA:=by kernel_rfl
theorem q72:aN C 72 PM.yA:=fun _ _ _ hl h=>aL rfl rfl Tryz.func87 (by kernel_rfl) c72 hl h
theorem c73:(T bdS).func Tryz.f81=some PM.RK:=by kernel_rfl
theorem q73:aN C 73 PM.RK:=fun _ _ _ hl h=>aL rfl rfl Tryz.func81 (by kernel_rfl) c73 hl h
theorem c74:(T bdU).func Tryz.f86=some PM.RL:=by kernel_rfl
theorem q74:aN C 74 PM.RL:=fun _ _ _ hl h=>aL rfl rfl Tryz.func86 (by kernel_rfl) c74 hl h
theorem c75:(T a5O).func Tryz.f111=some PM.ED:=by kernel_rfl
theorem q75:aN C 75 PM.ED:=fun _ _ _ hl h=>aL rfl rfl Tryz.func111 (by kernel_rfl) c75 hl h
theorem c76:(T a5Q).func Tryz.f80=some PM.wH:=by kernel_rfl
theorem q76:aN C 76 PM.wH:=fun _ _ _ hl h=>aL rfl rfl Tryz.func80 (by kernel_rfl) c76 hl h
theorem c82:(T biH).func Tryz.f64=some PM.afR:=by kernel_rfl
theorem q82:aN C 82 PM.afR:=fun _ _ _ hl h=>aL rfl rfl Tryz.func64 (by kernel_rfl) c82 hl h
theorem c85:(T biI).func Tryz.f46=some PM.afS:=by kernel_rfl
theorem q85:aN C 85 PM.afS:=fun _ _ _ hl h=>aL rfl rfl Tryz.func46 (by kernel_rfl) c85 hl h
theorem c86:(T a3B).func Tryz.f52=some PM.DS:=by kernel_rfl
theorem q86:aN C 86 PM.DS:=fun _ _ _ hl h=>aL rfl rfl Tryz.func52 (by kernel_rfl) c86 hl h
theorem c89:(T boX).func Tryz.f65=some PM.aHX:=by kernel_rfl
theorem q89:aN C 89 PM.aHX:=fun _ _ _ hl h=>aL rfl rfl Tryz.func65 (by kernel_rfl) c89 hl h
theorem c91:(T boV).func Tryz.f24=some PM.same:=by kernel_rfl
theorem q91:aN C 91 PM.same:=fun _ _ _ hl h=>aL rfl rfl Tryz.func24 (by kernel_rfl) c91 hl h
theorem c95:(T bmE).func Tryz.f59=some PM.aBH:=by kernel_rfl
theorem q95:aN C 95 PM.aBH:=fun _ _ _ hl h=>aL rfl rfl Tryz.func59 (by kernel_rfl) c95 hl h
theorem c96:(T bmO).func Tryz.f47=some PM.aCC:=by kernel_rfl
theorem q96:aN C 96 PM.aCC:=fun _ _ _ hl h=>aL rfl rfl Tryz.func47 (by kernel_rfl) c96 hl h
theorem c97:(T a7C).func Tryz.f90=some PM.MU:=by kernel_rfl
theorem q97:aN C 97 PM.MU:=fun _ _ _ hl h=>aL rfl rfl Tryz.func90 (by kernel_rfl) c97 hl h
theorem c98:(T bfH).func Tryz.f130=some PM.acV:=by kernel_rfl
theorem q98:aN C 98 PM.acV:=fun _ _ _ hl h=>aL rfl rfl Tryz.func130 (by kernel_rfl) c98 hl h
theorem c99:(T bfJ).func Tryz.f91=some PM.acW:=by kernel_rfl
theorem q99:aN C 99 PM.acW:=fun _ _ _ hl h=>aL rfl rfl Tryz.func91 (by kernel_rfl) c99 hl h
theorem bxZ:(T bfL).func Tryz.f132=some PM.acX:=by kernel_rfl
theorem bCC:aN C 100 PM.acX:=fun _ _ _ hl h=>aL rfl rfl Tryz.func132 (by kernel_rfl) bxZ hl h
theorem byA:(T bmK).func Tryz.f135=some PM.gone:=by kernel_rfl
theorem bCD:aN C 101 PM.gone:=fun _ _ _ hl h=>aL rfl rfl Tryz.func135 (by kernel_rfl) byA hl h
theorem byB:(T bfO).func Tryz.f95=some PM.acY:=by kernel_rfl
theorem bCE:aN C 102 PM.acY:=fun _ _ _ hl h=>aL rfl rfl Tryz.func95 (by kernel_rfl) byB hl h
theorem byC:(T a7E).func Tryz.f131=some PM.MW:=by kernel_rfl
theorem bCF:aN C 103 PM.MW:=fun _ _ _ hl h=>aL rfl rfl Tryz.func131 (by kernel_rfl) byC hl h
theorem byD:(T brE).func Tryz.f57=some PM.gin:=by kernel_rfl
theorem bCG:aN C 104 PM.gin:=fun _ _ _ hl h=>aL rfl rfl Tryz.func57 (by kernel_rfl) byD hl h
theorem byE:(T bmG).func Tryz.f89=some PM.aBJ:=by kernel_rfl
theorem bCH:aN C 105 PM.aBJ:=fun _ _ _ hl h=>aL rfl rfl Tryz.func89 (by kernel_rfl) byE hl h
theorem byF:(T bmI).func Tryz.f96=some PM.aBK:=by kernel_rfl
theorem bCI:aN C 106 PM.aBK:=fun _ _ _ hl h=>aL rfl rfl Tryz.func96 (by kernel_rfl) byF hl h
theorem byG:(T bfQ).func Tryz.f133=some PM.adB:=by kernel_rfl
theorem bCJ:aN C 107 PM.adB:=fun _ _ _ hl h=>aL rfl rfl Tryz.func133 (by kernel_rfl) byG hl h
theorem byH:(T bfS).func Tryz.f97=some PM.adC:=by kernel_rfl
theorem bCK:aN C 108 PM.adC:=fun _ _ _ hl h=>aL rfl rfl Tryz.func97 (by kernel_rfl) byH hl h
theorem byI:(T a7H).func Tryz.f134=some PM.NE:=by kernel_rfl
theorem bCL:aN C 109 PM.NE:=fun _ _ _ hl h=>aL rfl rfl Tryz.func134 (by kernel_rfl) byI hl h
theorem byJ:(T bfV).func Tryz.f61=some PM.adD:=by kernel_rfl
theorem bCM:aN C 110 PM.adD:=fun _ _ _ hl h=>aL rfl rfl Tryz.func61 (by kernel_rfl) byJ hl h
theorem byK:(T bmC).func Tryz.f58=some PM.alH:=by kernel_rfl
theorem bCN:aN C 111 PM.alH:=fun _ _ _ hl h=>aL rfl rfl Tryz.func58 (by kernel_rfl) byK hl h
theorem byL:(T bmM).func Tryz.f60=some PM.aBN:=by kernel_rfl
theorem bCO:aN C 112 PM.aBN:=fun _ _ _ hl h=>aL rfl rfl Tryz.func60 (by kernel_rfl) byL hl h
theorem byM:(T blS).func Tryz.f123=some PM.MJ:=by kernel_rfl
theorem bCP:aN C 113 PM.MJ:=fun _ _ _ hl h=>aL rfl rfl Tryz.func123 (by kernel_rfl) byM hl h
theorem byN:(T blU).func Tryz.f94=some PM.azG:=by kernel_rfl
theorem bCQ:aN C 114 PM.azG:=fun _ _ _ hl h=>aL rfl rfl Tryz.func94 (by kernel_rfl) byN hl h
theorem byO:(T bfD).func Tryz.f93=some PM.SE:=by kernel_rfl
theorem bCR:aN C 115 PM.SE:=fun _ _ _ hl h=>aL rfl rfl Tryz.func93 (by kernel_rfl) byO hl h
theorem byP:(T a0J).func Tryz.f120=some PM.vP:=by kernel_rfl
theorem bCS:aN C 116 PM.vP:=fun _ _ _ hl h=>aL rfl rfl Tryz.func120 (by kernel_rfl) byP hl h
theorem byQ:(T bmA).func Tryz.f92=some PM.XA:=by kernel_rfl
theorem bCT:aN C 117 PM.XA:=fun _ _ _ hl h=>aL rfl rfl Tryz.func92 (by kernel_rfl) byQ hl h
theorem byR:(T a7A).func Tryz.f126=some PM.MT:=by kernel_rfl
theorem bCU:aN C 118 PM.MT:=fun _ _ _ hl h=>aL rfl rfl Tryz.func126 (by kernel_rfl) byR hl h
theorem byS:(T blQ).func Tryz.f125=some PM.azD:=by kernel_rfl
theorem bCV:aN C 119 PM.azD:=fun _ _ _ hl h=>aL rfl rfl Tryz.func125 (by kernel_rfl) byS hl h
theorem byT:(T a0G).func Tryz.f124=some PM.nI:=by kernel_rfl
theorem bCW:aN C 120 PM.nI:=fun _ _ _ hl h=>aL rfl rfl Tryz.func124 (by kernel_rfl) byT hl h
theorem byU:(T a6Y).func Tryz.f128=some PM.MR:=by kernel_rfl
theorem bCX:aN C 121 PM.MR:=fun _ _ _ hl h=>aL rfl rfl Tryz.func128 (by kernel_rfl) byU hl h
theorem byV:(T bfF).func Tryz.f129=some PM.acU:=by kernel_rfl
theorem bCY:aN C 122 PM.acU:=fun _ _ _ hl h=>aL rfl rfl Tryz.func129 (by kernel_rfl) byV hl h
theorem byW:(T bgK).func Tryz.f98=some PM.SM:=by kernel_rfl
theorem bCZ:aN C 123 PM.SM:=fun _ _ _ hl h=>aL rfl rfl Tryz.func98 (by kernel_rfl) byW hl h
theorem byX:(T a7O).func Tryz.f153=some PM.DF:=by kernel_rfl
theorem bDA:aN C 124 PM.DF:=fun _ _ _ hl h=>aL rfl rfl Tryz.func153 (by kernel_rfl) byX hl h
theorem byY:(T a7S).func Tryz.f137=some PM.DG:=by kernel_rfl
theorem bDB:aN C 125 PM.DG:=fun _ _ _ hl h=>aL rfl rfl Tryz.func137 (by kernel_rfl) byY hl h
theorem byZ:(T a1H).func Tryz.f136=some PM.vZ:=by kernel_rfl
theorem bDC:aN C 126 PM.vZ:=fun _ _ _ hl h=>aL rfl rfl Tryz.func136 (by kernel_rfl) byZ hl h
theorem bzA:(T bnU).func Tryz.f147=some PM.aDZ:=by kernel_rfl
theorem bDD:aN C 127 PM.aDZ:=fun _ _ _ hl h=>aL rfl rfl Tryz.func147 (by kernel_rfl) bzA hl h
theorem bzB:(T bgQ).func Tryz.f121=some PM.aeJ:=by kernel_rfl
theorem bDE:aN C 128 PM.aeJ:=fun _ _ _ hl h=>aL rfl rfl Tryz.func121 (by kernel_rfl) bzB hl h
theorem bzC:(T bnX).func Tryz.f127=some PM.aEP:=by kernel_rfl
theorem bDF:aN C 129 PM.aEP:=fun _ _ _ hl h=>aL rfl rfl Tryz.func127 (by kernel_rfl) bzC hl h
theorem bzD:(T bnZ).func Tryz.f150=some PM.aEV:=by kernel_rfl
theorem bDG:aN C 130 PM.aEV:=fun _ _ _ hl h=>aL rfl rfl Tryz.func150 (by kernel_rfl) bzD hl h
theorem bzE:(T boB).func Tryz.f149=some PM.aEZ:=by kernel_rfl
theorem bDH:aN C 131 PM.aEZ:=fun _ _ _ hl h=>aL rfl rfl Tryz.func149 (by kernel_rfl) bzE hl h
theorem bzF:(T bgT).func Tryz.f122=some PM.aeV:=by kernel_rfl
theorem bDI:aN C 132 PM.aeV:=fun _ _ _ hl h=>aL rfl rfl Tryz.func122 (by kernel_rfl) bzF hl h
theorem bzG:(T boD).func Tryz.f152=some PM.aFE:=by kernel_rfl
theorem bDJ:aN C 133 PM.aFE:=fun _ _ _ hl h=>aL rfl rfl Tryz.func152 (by kernel_rfl) bzG hl h
theorem bzH:(T boF).func Tryz.f148=some PM.aFN:=by kernel_rfl
theorem bDK:aN C 134 PM.aFN:=fun _ _ _ hl h=>aL rfl rfl Tryz.func148 (by kernel_rfl) bzH hl h
theorem bzI:(T bgW).func Tryz.f151=some PM.aeZ:=by kernel_rfl
theorem bDL:aN C 135 PM.aeZ:=fun _ _ _ hl h=>aL rfl rfl Tryz.func151 (by kernel_rfl) bzI hl h
theorem bzJ:(T a1S).func Tryz.f166=some PM.DK:=by kernel_rfl
theorem bDM:aN C 136 PM.DK:=fun _ _ _ hl h=>aL rfl rfl Tryz.func166 (by kernel_rfl) bzJ hl h
theorem bzK:(T a8B).func Tryz.f164=some PM.NP:=by kernel_rfl
theorem bDN:aN C 137 PM.NP:=fun _ _ _ hl h=>aL rfl rfl Tryz.func164 (by kernel_rfl) bzK hl h
theorem bzL:(T a1W).func Tryz.f146=some PM.rU:=by kernel_rfl
theorem bDO:aN C 138 PM.rU:=fun _ _ _ hl h=>aL rfl rfl Tryz.func146 (by kernel_rfl) bzL hl h
theorem bzM:(T aNX).func Tryz.f172=some PM.xF:=by kernel_rfl
theorem bDP:aN C 139 PM.xF:=fun _ _ _ hl h=>aL rfl rfl Tryz.func172 (by kernel_rfl) bzM hl h
theorem bzN:(T a8E).func Tryz.f169=some PM.NV:=by kernel_rfl
theorem bDQ:aN C 140 PM.NV:=fun _ _ _ hl h=>aL rfl rfl Tryz.func169 (by kernel_rfl) bzN hl h
theorem bzO:(T a8G).func Tryz.f165=some PM.NW:=by kernel_rfl
theorem bDR:aN C 141 PM.NW:=fun _ _ _ hl h=>aL rfl rfl Tryz.func165 (by kernel_rfl) bzO hl h
theorem bzP:(T aFU).func Tryz.f171=some PM.tK:=by kernel_rfl
theorem bDS:aN C 142 PM.tK:=fun _ _ _ hl h=>aL rfl rfl Tryz.func171 (by kernel_rfl) bzP hl h
theorem bzQ:(T bsD).func Tryz.f170=some PM.nup:=by kernel_rfl
theorem bDT:aN C 143 PM.nup:=fun _ _ _ hl h=>aL rfl rfl Tryz.func170 (by kernel_rfl) bzQ hl h
theorem bzR:(T beD).func Tryz.f16=some PM.begin:=by kernel_rfl
theorem bDU:aN C 144 PM.begin:=fun _ _ _ hl h=>aL rfl rfl Tryz.func16 (by kernel_rfl) bzR hl h
theorem bzS:(T bpE).func Tryz.f18=some PM.step:=by kernel_rfl
theorem bDV:aN C 145 PM.step:=fun _ _ _ hl h=>aL rfl rfl Tryz.func18 (by kernel_rfl) bzS hl h
theorem bzT:(T bpS).func Tryz.f17=some PM.aKI:=by kernel_rfl
theorem bDW:aN C 146 PM.aKI:=fun _ _ _ hl h=>aL rfl rfl Tryz.func17 (by kernel_rfl) bzT hl h
theorem bzU:(T a3D).func Tryz.f48=some PM.DT:=by kernel_rfl
theorem bDX:aN C 153 PM.DT:=fun _ _ _ hl h=>aL rfl rfl Tryz.func48 (by kernel_rfl) bzU hl h
theorem bzV:(T aJA).func Tryz.f99=some PM.zA:=by kernel_rfl
theorem bDY:aN C 156 PM.zA:=fun _ _ _ hl h=>aL rfl rfl Tryz.func99 (by kernel_rfl) bzV hl h
theorem bzW:(T baG).func Tryz.f63=some PM.xP:=by kernel_rfl
theorem bDZ:aN C 160 PM.xP:=fun _ _ _ hl h=>aL rfl rfl Tryz.func63 (by kernel_rfl) bzW hl h
theorem bzX:(T baI).func Tryz.f62=some PM.PS:=by kernel_rfl
theorem bEA:aN C 161 PM.PS:=fun _ _ _ hl h=>aL rfl rfl Tryz.func62 (by kernel_rfl) bzX hl h
theorem bzZ:(T beX).func Tryz.f20=some PM.FP:=by kernel_rfl
theorem bEC:aN C 240 PM.FP:=fun _ _ _ hl h=>aL rfl rfl Tryz.func20 (by kernel_rfl) bzZ hl h
theorem bAA:(T beO).func Tryz.f41=some PM.abM:=by kernel_rfl
theorem bED:aN C 241 PM.abM:=fun _ _ _ hl h=>aL rfl rfl Tryz.func41 (by kernel_rfl) bAA hl h
theorem bAB:(T beV).func Tryz.f43=some PM.abY:=by kernel_rfl
theorem bEE:aN C 242 PM.abY:=fun _ _ _ hl h=>aL rfl rfl Tryz.func43 (by kernel_rfl) bAB hl h
theorem bAC:(T blG).func Tryz.f42=some PM.ayG:=by kernel_rfl
theorem bEF:aN C 243 PM.ayG:=fun _ _ _ hl h=>aL rfl rfl Tryz.func42 (by kernel_rfl) bAC hl h
theorem bAD:(T a6J).func Tryz.f25=some PM.LT:=by kernel_rfl
theorem bEG:aN C 244 PM.LT:=fun _ _ _ hl h=>aL rfl rfl Tryz.func25 (by kernel_rfl) bAD hl h
theorem bAE:(T aJA).func Tryz.f44=some PM.zA:=by kernel_rfl
theorem bEH:aN C 245 PM.zA:=fun _ _ _ hl h=>aL rfl rfl Tryz.func44 (by kernel_rfl) bAE hl h
theorem bAF:(T aZY).func Tryz.f26=some PM.CY:=by kernel_rfl
theorem bEI:aN C 246 PM.CY:=fun _ _ _ hl h=>aL rfl rfl Tryz.func26 (by kernel_rfl) bAF hl h
theorem bAG:(T aUO).func Tryz.f45=some PM.OY:=by kernel_rfl
theorem bEJ:aN C 247 PM.OY:=fun _ _ _ hl h=>aL rfl rfl Tryz.func45 (by kernel_rfl) bAG hl h
theorem bAH:(T a6M).func Tryz.f27=some PM.MA:=by kernel_rfl
theorem bEK:aN C 248 PM.MA:=fun _ _ _ hl h=>aL rfl rfl Tryz.func27 (by kernel_rfl) bAH hl h
theorem bAI:(T beT).func Tryz.f9=some PM.abX:=by kernel_rfl
theorem bEL:aN C 249 PM.abX:=fun _ _ _ hl h=>aL rfl rfl Tryz.func9 (by kernel_rfl) bAI hl h
theorem bAJ:(T a2F).func Tryz.f30=some PM.DM:=by kernel_rfl
theorem bEM:aN C 250 PM.DM:=fun _ _ _ hl h=>aL rfl rfl Tryz.func30 (by kernel_rfl) bAJ hl h
theorem bAK:(T bhG).func Tryz.f33=some PM.afC:=by kernel_rfl
theorem bEN:aN C 251 PM.afC:=fun _ _ _ hl h=>aL rfl rfl Tryz.func33 (by kernel_rfl) bAK hl h
theorem bAL:(T bhD).func Tryz.f23=some PM.a2A:=by kernel_rfl
theorem bEO:aN C 252 PM.a2A:=fun _ _ _ hl h=>aL rfl rfl Tryz.func23 (by kernel_rfl) bAL hl h
theorem bAM:(T a2I).func Tryz.f34=some PM.DN:=by kernel_rfl
theorem bEP:aN C 253 PM.DN:=fun _ _ _ hl h=>aL rfl rfl Tryz.func34 (by kernel_rfl) bAM hl h
theorem bAN:(T aUO).func Tryz.f35=some PM.OY:=by kernel_rfl
theorem bEQ:aN C 254 PM.OY:=fun _ _ _ hl h=>aL rfl rfl Tryz.func35 (by kernel_rfl) bAN hl h
theorem bAO:(T bhM).func Tryz.f29=some PM.afH:=by kernel_rfl
theorem bER:aN C 255 PM.afH:=fun _ _ _ hl h=>aL rfl rfl Tryz.func29 (by kernel_rfl) bAO hl h
theorem bAP:(T bvV).func Tryz.f40=some PM.qk:=by kernel_rfl
theorem bES:aN C 257 PM.qk:=fun _ _ _ hl h=>aL rfl rfl Tryz.func40 (by kernel_rfl) bAP hl h
theorem bAQ:(T aNE).func Tryz.f51=some PM.tT:=by kernel_rfl
theorem bET:aN C 258 PM.tT:=fun _ _ _ hl h=>aL rfl rfl Tryz.func51 (by kernel_rfl) bAQ hl h
theorem bAR:(T aGH).func Tryz.f32=some PM.tM:=by kernel_rfl
theorem bEU:aN C 260 PM.tM:=fun _ _ _ hl h=>aL rfl rfl Tryz.func32 (by kernel_rfl) bAR hl h
theorem bAS:(T a9E).func Tryz.f50=some PM.OR:=by kernel_rfl
theorem bEV:aN C 261 PM.OR:=fun _ _ _ hl h=>aL rfl rfl Tryz.func50 (by kernel_rfl) bAS hl h
theorem bAT:(T bcV).func Tryz.f36=some PM.aMJ:=by kernel_rfl
theorem bEW:aN C 262 PM.aMJ:=fun _ _ _ hl h=>aL rfl rfl Tryz.func36 (by kernel_rfl) bAT hl h
theorem bAU:(T bdL).func Tryz.f15=some PM.aMM:=by kernel_rfl
theorem bEX:aN C 263 PM.aMM:=fun _ _ _ hl h=>aL rfl rfl Tryz.func15 (by kernel_rfl) bAU hl h
theorem bAV:(T bcK).func Tryz.f19=some PM.aMI:=by kernel_rfl
theorem bEY:aN C 264 PM.aMI:=fun _ _ _ hl h=>aL rfl rfl Tryz.func19 (by kernel_rfl) bAV hl h
theorem bAW:(T bdA).func Tryz.f13=some PM.RC:=by kernel_rfl
theorem bEZ:aN C 265 PM.RC:=fun _ _ _ hl h=>aL rfl rfl Tryz.func13 (by kernel_rfl) bAW hl h
theorem bAX:(T bjH).func Tryz.f28=some PM.ahF:=by kernel_rfl
theorem bFA:aN C 266 PM.ahF:=fun _ _ _ hl h=>aL rfl rfl Tryz.func28 (by kernel_rfl) bAX hl h
theorem bAY:(T bbZ).func Tryz.f11=some PM.QW:=by kernel_rfl
theorem bFB:aN C 267 PM.QW:=fun _ _ _ hl h=>aL rfl rfl Tryz.func11 (by kernel_rfl) bAY hl h
theorem bAZ:(T bbM).func Tryz.f21=some PM.aLH:=by kernel_rfl
theorem bFC:aN C 268 PM.aLH:=fun _ _ _ hl h=>aL rfl rfl Tryz.func21 (by kernel_rfl) bAZ hl h
theorem bBA:(T bbT).func Tryz.f14=some PM.QS:=by kernel_rfl
theorem bFD:aN C 269 PM.QS:=fun _ _ _ hl h=>aL rfl rfl Tryz.func14 (by kernel_rfl) bBA hl h
theorem bBB:(T biD).func Tryz.f22=some PM.a2S:=by kernel_rfl
theorem bFE:aN C 270 PM.a2S:=fun _ _ _ hl h=>aL rfl rfl Tryz.func22 (by kernel_rfl) bBB hl h
theorem bBD:(T aNR).func Tryz.f12=some PM.xB:=by kernel_rfl
theorem bFG:aN C 272 PM.xB:=fun _ _ _ hl h=>aL rfl rfl Tryz.func12 (by kernel_rfl) bBD hl h
theorem bBE:(T a9B).func Tryz.f37=some PM.aGF:=by kernel_rfl
theorem bFH:aN C 277 PM.aGF:=fun _ _ _ hl h=>aL rfl rfl Tryz.func37 (by kernel_rfl) bBE hl h
theorem bBC:(T a1F).func Tryz.f3=some PM.DE:=by kernel_rfl
theorem bFF:aN C 271 PM.DE:=fun _ _ _ hl h=>aL rfl rfl Tryz.func3 (by kernel_rfl) bBC hl h
theorem bzY:(T a6F).func Tryz.f31=some PM.concat:=by kernel_rfl
theorem bEB:aN C 178 PM.concat:=fun _ _ _ hl h=>aL rfl rfl Tryz.func31 (by kernel_rfl) bzY hl h
theorem bqY:cE C:={
 r24:=q24,
 r26:=q26,
 r30:=q30,
 r31:=q31,
 r32:=q32,
 r33:=q33,
 r34:=q34,
 r35:=q35,
 r36:=q36,
 r37:=q37,
 r38:=q38,
 r39:=q39,
 r40:=q40,
 r41:=q41,
 r42:=q42,
 r43:=q43,
 r44:=q44,
 r45:=q45,
 r46:=q46,
 r47:=q47,
 r48:=q48,
 r49:=q49,
 r50:=q50,
 r51:=q51,
 r52:=q52,
 r53:=q53,
 r54:=q54,
 r55:=q55,
 r56:=q56,
 r57:=q57,
 r58:=q58,
 r59:=q59,
 r60:=q60,
 r61:=q61,
 r62:=q62,
 r63:=q63,
 r64:=q64,
 r65:=q65,
 r66:=q66,
 r67:=q67,
 r68:=q68,
 r69:=q69,
 r70:=q70,
 r71:=q71,
 r72:=q72,
 r73:=q73,
 r74:=q74,
 r75:=q75,
 r76:=q76,
 r82:=q82,
 r85:=q85,
 r86:=q86,
 r89:=q89,
 r91:=q91,
 r95:=q95,
 r96:=q96,
 r97:=q97,
 r98:=q98,
 r99:=q99,
 r100:=bCC,
 r101:=bCD,
 r102:=bCE,
 r103:=bCF,
 r104:=bCG,
 r105:=bCH,
 r106:=bCI,
 r107:=bCJ,
 r108:=bCK,
 r109:=bCL,
 r110:=bCM,
 r111:=bCN,
 r112:=bCO,
 r113:=bCP,
 r114:=bCQ,
 r115:=bCR,
 r116:=bCS,
 r117:=bCT,
 r118:=bCU,
 r119:=bCV,
 r120:=bCW,
 r121:=bCX,
 r122:=bCY,
 r123:=bCZ,
 r124:=bDA,
 r125:=bDB,
 r126:=bDC,
 r127:=bDD,
 r128:=bDE,
 r129:=bDF,
 r130:=bDG,
 r131:=bDH,
 r132:=bDI,
 r133:=bDJ,
 r134:=bDK,
 r135:=bDL,
 r136:=bDM,
 r137:=bDN,
 r138:=bDO,
 r139:=bDP,
 r140:=bDQ,
 r141:=bDR,
 r142:=bDS,
 r143:=bDT,
 r144:=bDU,
 r145:=bDV,
 r146:=bDW,
 r153:=bDX,
 r156:=bDY,
 r160:=bDZ,
 r161:=bEA,
 r240:=bEC,
 r241:=bED,
 r242:=bEE,
 r243:=bEF,
 r244:=bEG,
 r245:=bEH,
 r246:=bEI,
 r247:=bEJ,
 r248:=bEK,
 r249:=bEL,
 r250:=bEM,
 r251:=bEN,
 r252:=bEO,
 r253:=bEP,
 r254:=bEQ,
 r255:=bER,
 r257:=bES,
 r258:=bET,
 r260:=bEU,
 r261:=bEV,
 r262:=bEW,
 r263:=bEX,
 r264:=bEY,
 r265:=bEZ,
 r266:=bFA,
 r267:=bFB,
 r268:=bFC,
 r269:=bFD,
 r270:=bFE,
 r272:=bFG,
 r277:=bFH }
end Go.Proofs.YthbkofcdddghgaaGreat
namespace Go.Proofs.YthbkofcdddghgaaGreat
open Go Go.PM Go.RowKit Go.ChangeShapes Go.WideShapes
theorem Tryz.own:ownKnob Tryz.prog.godebug=none:=by kernel_rfl
theorem Tryz.laidOut:laidOutB Tryz.prog=true:=by kernel_rfl
theorem aIV:Tryz.t3.bytes=8:=by kernel_rfl
theorem alZ {n:Nat} (h:0<n):Builtin.nextslicecap n 0=n:=by
 unfold Builtin.nextslicecap
 rw[if_pos Om]
theorem a7I (n:Int) (h0:0≤n) (h1:n≤1000000) (w:World):Calls Tryz.prog 49 #[.slice none 0 0,.int .i64 n] w fun e w' =>
  (n=0∧e=.returned (.slice none 0 0)∧w'=w)∨(0<n∧∃ cap cs,e=.returned (.slice (some ⟨w.heap.size,0,none⟩) 0 cap)∧w'=(w.alloc (.cells cs 3)).drew∧cs.size=cap∧cap≤maxLen):=by
 go_enter Tryz.func49,Tryz.ntmps49
 go_wp2
 all_goals (try (exfalso; simp only[aIV] at *; omega))
 ·exfalso
  rw[alZ Om] at *
  simp only[aIV] at *
  omega
 ·go_ret
  have hge:=grownCap_ge w n.toNat 0 3
  have hle:=grownCap_le_maxLen w n.toNat 0 3 (by simp only[maxLen]; omega)
  unfold grownCap at hge hle
  refine .inr ⟨_,rfl,_,rfl,?_,hle⟩
  simp only[Array.size_append,size_zeroCells]
  simp
  omega
 ·go_ret
  exact .inl ⟨by omega,rfl,rfl⟩
theorem a0P (n:Int) (h0:0≤n) (h1:n≤1000000):aE C 179 [.aB,.int .i64 n] .nil (bkH n):=by
 refine⟨⟨Tryz.f49,Tryz.func49,by kernel_rfl,by kernel_rfl⟩,fun E w vs hN hW hvs=>?_⟩
 obtain⟨vl⟩:=vs
 cases hvs with
 | cons e1 e2 =>
 cases e2 with
 | cons e3 e4 =>
 cases e4
 cases e1
 cases e3
 refine (a7I n h0 h1 w).mono fun e w' he=>?_
 rcases he with ⟨rfl,rfl,rfl⟩ | ⟨hn,cap,cs,rfl,rfl,hs,hc⟩
 ·exact⟨_,.aB,E,.nil,rfl,hW,.aB,.refl _ _ _,.inl ⟨rfl,rfl,rfl⟩⟩
 ·have hR:jD E 1 [] cs:=⟨by simp,by simp,fun i j pv h=>by simp[at2] at h⟩
  obtain⟨k1,k2⟩:=hW.CS 3 hR
  refine⟨_,.osl w.heap.size 1 0 0,_,_,rfl,k1.drew,?_,k2.aaG rfl rfl rfl (bJV _) (fun _ _=>rfl),.inr ⟨hn,_,rfl,rfl⟩⟩
  exact .osl rfl rfl (.inr rfl) Om hc (afA _ _ _) Om
theorem ayD (ws:List (List Int)) (h1:ws.length≤1000000) (h2:ws.flatten.length≤1000000):aE C 178 [lists ws] .nil (WM ws.flatten) :=
 bEB.go (a6D ws h1 h2 a0P) rfl
set_option maxRecDepth 100000 in
theorem bpB:rL C:={
 concat:=ayD
 sort:=fun o xs hx hl=>a2Y Tryz.aDA (by kernel_rfl) ⟨_,Tryz.func38,by kernel_rfl,by kernel_rfl⟩ o xs hx hl
 sort0:=aOE Tryz.aDA (by kernel_rfl) ⟨_,Tryz.func38,by kernel_rfl,by kernel_rfl⟩ _ _ (.inl rfl)
 compact:=fun o xs hx hl=>avY Tryz.TR (by kernel_rfl) ⟨_,Tryz.func39,by kernel_rfl,by kernel_rfl⟩ o xs hx hl
 compact0:=akY Tryz.TR (by kernel_rfl) ⟨_,Tryz.func39,by kernel_rfl,by kernel_rfl⟩ _ _ (.inl rfl) }
end Go.Proofs.YthbkofcdddghgaaGreat
namespace Go.Proofs.YthbkofcdddghgaaGreat
open Go Go.PM Go.RowKit Go.ChangeShapes Go.WideShapes
theorem a7T {pv:PV} (h:PV.Ty (.sl [.sl [.int .i64]]) pv):∃ ws:List (List Int),pv=lists ws:=by
 obtain⟨vs,rfl,-,hv⟩:=Ty.aVG h
 have key:∃ ws:List (List Int),vs=ws.map ints:=by
  clear h
  induction vs with
  | nil=>exact⟨[],rfl⟩
  | cons v vs ih =>
   obtain⟨ws,hw⟩:=ih (fun u hu=>hv u (by simp[hu]))
   obtain⟨xs,hx,-,-⟩:=Ty.aCY (hv v (by simp))
   exact⟨xs::ws,by rw[hx,hw]; rfl⟩
 obtain⟨ws,rfl⟩:=key
 exact⟨ws,by rw[List.map_map]; rfl⟩
def argKinds:List AT:=[.one (.sl [.int .i64]),.one (.int .i64),.one (.int .i64),.one (.int .i64),.one (.int .i64),.one (.sl [.sl [.int .i64]])]
theorem blA:CV Tryz.prog 8 Tryz.f3.params.toList=some argKinds:=by kernel_rfl
theorem bnA (pvs:List PV) (h:AT.TyL argKinds pvs):aE C 271 pvs .nil (aD (.bool true)):=by
 match pvs,h with
 | [p0,p1,p2,p3,p4,p5],h =>
  obtain⟨h0,h1,h2,h3,h4,h5,-⟩:=h
  cases h0 with | one h0 =>
  obtain⟨x0,rfl,b0,c0⟩:=Ty.aCY h0
  cases h1 with | one h1 =>
  obtain⟨x1,rfl,-⟩:=Ty.vX h1
  cases h2 with | one h2 =>
  obtain⟨x2,rfl,-⟩:=Ty.vX h2
  cases h3 with | one h3 =>
  obtain⟨x3,rfl,-⟩:=Ty.vX h3
  cases h4 with | one h4 =>
  obtain⟨x4,rfl,-⟩:=Ty.vX h4
  cases h5 with | one h5 =>
  obtain⟨x5,rfl⟩:=a7T h5
  have tm:TpM x0:=⟨by
   have:maxLen≤9223372036854775807:=by decide
   omega,fun x hm=>by
   have e1:IntKind.i64.min=-9223372036854775808:=by decide
   have e2:IntKind.i64.max=9223372036854775807:=by decide
   have h1:=(c0 x hm).1
   have h2:=(c0 x hm).2
   rw[e1] at h1
   rw[e2] at h2
   unfold cU
   omega⟩
  exact aOB bqY bpB bFF x0 tm x1 x2 x3 x4 x5
set_option maxRecDepth 100000 in
theorem HZ (os:Os) (started:os.Started) (H:Type) (enc:TypeId × Value→H) :
  ReturnsInHanded {} Tryz.checked os 3 .any (Rows.rolloutChecksSpec.pre6 enc Tryz.prog Tryz.f3 Rows.rolloutChecksRow.domain false) (Rows.rolloutChecksSpec.post enc Tryz.prog Tryz.f3 false true false false):=by
 refine returnsInHanded_of_change (C:=Tryz.checked) Tryz.own started (by kernel_rfl) Tryz.func3
  (ChangeSpec.witness6 (enc:=enc) (C:=Tryz.checked) false ⟨#[],#[.slice none 0 0,.int .i64 0,.int .i64 0,.int .i64 0,.int .i64 0,.slice none 0 0],[]⟩ 8 (by kernel_rfl) (by kernel_rfl) (by kernel_rfl) (by kernel_rfl)) ?_
 intro W base args ds gs before bII hW _ _
 exact ayC (P:=Tryz.prog) (num:=num) (name:=271) (n:=8) (ats:=argKinds) (bt:=4) Tryz.laidOut (by kernel_rfl) (by kernel_rfl) (by kernel_rfl) rfl
  (fun ds hd=>by
   match ds,hd with
   | [d1,d2,d3,d4,d5,d6],_=>exact⟨rfl,rfl,rfl⟩)
  (by kernel_rfl) blA bnA bII hW
theorem rolloutChecks_holds:Rows.RolloutChecksSaid :=
 OpenClaim.holds_of_wide 3 Tryz.f3 rfl rfl rfl rfl rfl rfl rfl ⟨rfl,rfl,rfl,rfl,rfl⟩ rfl rfl rfl rfl rfl (by kernel_rfl) Tryz.func3 (by kernel_rfl)
  (of_decide_eq_true (by kernel_rfl)) (by unfold Func.isWrapper; first | (rw[if_pos (by decide +kernel)]; kernel_rfl) | (rw[if_neg (by decide +kernel)]; exact⟨rfl,rfl⟩))
  (fun os started H enc _=>HZ os started H enc)
#print axioms rolloutChecks_holds
end Go.Proofs.YthbkofcdddghgaaGreat
