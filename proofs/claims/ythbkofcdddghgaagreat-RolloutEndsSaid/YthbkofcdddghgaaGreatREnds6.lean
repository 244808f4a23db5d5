/-
  The law of the claim returns true at every input, and its argument reads as it did: the tied card. No condition.
-/
import Derived.Test.YthbkofcdddghgaaGreatREnds1
import Derived.Test.YthbkofcdddghgaaGreatREnds2
import Derived.Test.YthbkofcdddghgaaGreatREnds3
import Derived.Test.YthbkofcdddghgaaGreatREnds4
import Derived.Test.YthbkofcdddghgaaGreatREnds5
import Derived.Test.YthbkofcdddghgaaGreatProg
import Derived.KernelRfl
import Derived.Test.YthbkofcdddghgaaGreatRows
import Derived.ProofKit
import Derived.WalkKit
set_option linter.unusedSimpArgs false
set_option linter.unusedVariables false
open Nat renaming reduceEqDiff → γ, reduceAdd → δ, reduceSub → ε, reduceMul → ζ, reduceLT → η, reduceLeDiff → θ, reduceBEq → τ
open Int renaming reduceLT → ι, reduceLE → κ, reduceEq → μ, reduceToNat → ν, reduceAdd → ξ, reduceNeg → ο, reduceBEq → ρ, reduceBNe → σ
open List renaming reduceReplicate → υ
open List renaming length_map → bIM, range → bIN, replicate → bIP, getElem_mem → bIR, length_append → bIU, getElem?_eq_getElem → bIW, mem_cons → bJA, length_singleton → bJC, take_of_length_le → bJD, length_take → bJF, getD_eq_getElem?_getD → bJG, all_eq_true → bJJ, append_assoc → bJM, take_length → bJN, drop_zero → bJO, getElem?_map → bJQ, not_mem_nil → bJR, mem_map → bJT, mem_singleton → bJU, getElem?_eq_some_iff → bJX, mem_append → bJY, getElem?_eq_none → bJZ, mem_range → bKB, drop_eq_getElem_cons → bKG, length_cons → bKH, length_set → bKI, map_append → bKJ, take_succ_eq_append_getElem → bKK, append_nil → bKM, length_drop → bKN, getElem_of_mem → bKQ, Sublist → bKS, getElem?_append_right → bKT, getElem_map → bKU, map_cons → bKV, nodup_append → bKW, length_nil → bKY, take_append_drop → bKZ, getElem?_append_left → bLC, mem_of_getElem? → bLD, nil_append → bLF, getElem?_take → bLP, drop_of_length_le → bLU, flatten_cons → bLV, getElem?_drop → bLW, length_replicate → bLX, set_append_right → bLY, eq_nil_of_length_eq_zero → bLZ, getElem?_take_of_lt → bMA
open Nat renaming le_refl → bIO, gcd → bIQ, zero_le → bIX, mul_add → bIZ, lt_or_ge → bJE, mul_assoc → bJH, mul_comm → bJK, zero_add → bJL, add_mul → bJP, mul_le_mul_right → bJS, mod_eq_of_lt → bJV, mod_lt → bKA, add_zero → bKD, pow_succ → bKE, min_eq_left → bKO, mul_le_mul_left → bKP, pos_of_ne_zero → bKR, add_assoc → bKX, pow_pos → bLA, div_lt_iff_lt_mul → bLG, sub_self → bLH, eq_zero_or_pos → bLK, div_add_mod → bLQ, div_eq_of_lt → bLR
open Bool renaming false_and → bIS, not_true → bIV, true_and → bIY, not_false → bJB, and_eq_true → bJI, and_false → bKC, and_true → bKL, and_assoc → bLJ, false_eq_true → bLL
open Option renaming map_eq_some_iff → bIT, map_some → bJW, some → bLB, getD_some → bLE, bind_eq_some_iff → bLN, bind_some → bLS
open Array renaming replicate → bKF, length_toList → bLI, getElem?_eq_getElem → bLO, getElem?_eq_some_iff → bLT
open Int renaming toNat_natCast → bLM
namespace Go.Proofs.YthbkofcdddghgaaGreat
open Go Go.PM
def bqW:List Nat:=[0,0,0,0,0,0,0,0,0,0,0,0,0,0,0,0,0,0,0,0,0,0,0,0,10,0,8,0,0,0,160,154,145,108,107,78,163,162,106,140,158,139,157,167,156,155,143,114,168,119,55,115,116,113,85,112,84,161,77,79,144,117,109,159,142,141,118,56,83,88,82,110,87,81,86,111,80,0,0,0,0,0,64,0,0,46,52,0,0,65,0,24,0,0,0,59,47,90,130,91,132,135,95,131,57,89,96,133,97,134,61,58,60,123,94,93,120,92,126,125,124,128,129,98,153,137,136,147,121,127,150,149,122,152,148,151,166,164,146,172,169,165,171,170,16,18,17,0,0,0,0,0,0,48,0,0,99,0,0,0,63,62,0,0,0,0,0,0,0,0,0,0,0,0,0,0,0,39,31,49,38,68,69,67,66,103,104,101,138,71,73,74,53,70,100,0,0,0,0,0,0,0,0,0,0,0,0,0,0,0,0,0,0,0,0,0,0,0,0,0,0,0,0,0,0,0,0,0,0,0,0,0,0,0,0,0,0,0,0,0,20,41,43,42,25,44,26,45,27,9,30,33,23,34,35,29,0,40,51,0,32,50,36,15,19,13,28,11,21,14,22,3,12,5,4,6,7,37]
def bmL:List (Option Nat):=[none,none,none,some 271,some 274,some 273,some 275,some 276,some 26,some 249,some 24,some 267,some 272,some 265,some 269,some 263,some 144,some 146,some 145,some 264,some 240,some 268,some 270,some 252,some 91,some 244,some 246,some 248,some 266,some 255,some 250,some 178,some 260,some 251,some 253,some 254,some 262,some 277,some 180,some 177,some 257,some 241,some 243,some 242,some 245,some 247,some 85,some 96,some 153,some 179,some 261,some 258,some 86,some 192,none,some 50,some 67,some 104,some 111,some 95,some 112,some 110,some 161,some 160,some 82,some 89,some 184,some 183,some 181,some 182,some 193,some 189,none,some 190,some 191,none,none,some 58,some 35,some 59,some 76,some 73,some 70,some 68,some 56,some 54,some 74,some 72,some 69,some 105,some 97,some 99,some 117,some 115,some 114,some 102,some 106,some 108,some 123,some 156,some 194,some 187,none,some 185,some 186,none,some 38,some 34,some 33,some 62,some 71,some 75,some 55,some 53,some 47,some 51,some 52,some 61,some 66,some 49,some 116,some 128,some 132,some 113,some 120,some 119,some 118,some 129,some 121,some 122,some 98,some 103,some 100,some 107,some 109,some 101,some 126,some 125,some 188,some 41,some 39,some 65,some 64,some 46,some 60,some 32,some 138,some 127,some 134,some 131,some 130,some 135,some 133,some 124,some 31,some 45,some 44,some 42,some 40,some 63,some 30,some 57,some 37,some 36,some 137,some 141,some 136,some 43,some 48,some 140,some 143,some 142,some 139]
def num (n:Nat):FuncId:=bqW.getD n 0
def nameOf (f:FuncId):Option Nat:=bmL.getD f none
noncomputable def C:Ctx:=⟨Tryz.prog,num⟩
noncomputable def T (ro:List Nat):Tbl:={ P:=Tryz.prog,num:=num,name:=nameOf,ro:=ro }
theorem c24:(T aXV).func Tryz.f10=some PM.BV:=by kernel_rfl
theorem q24:aN C 24 PM.BV:=fun _ _ _ hl h=>aJ rfl rfl Tryz.func10 (by kernel_rfl) c24 hl h
theorem c26:(T bcE).func Tryz.f8=some PM.YB:=by kernel_rfl
theorem q26:aN C 26 PM.YB:=fun _ _ _ hl h=>aJ rfl rfl Tryz.func8 (by kernel_rfl) c26 hl h
theorem c30:(T bnZ).func Tryz.f160=some PM.aFP:=by kernel_rfl
theorem q30:aN C 30 PM.aFP:=fun _ _ _ hl h=>aJ rfl rfl Tryz.func160 (by kernel_rfl) c30 hl h
theorem c31:(T bhC).func Tryz.f154=some PM.adR:=by kernel_rfl
theorem q31:aN C 31 PM.adR:=fun _ _ _ hl h=>aJ rfl rfl Tryz.func154 (by kernel_rfl) c31 hl h
theorem c32:(T boB).func Tryz.f145=some PM.aGB:=by kernel_rfl
theorem q32:aN C 32 PM.aGB:=fun _ _ _ hl h=>aJ rfl rfl Tryz.func145 (by kernel_rfl) c32 hl h
theorem c33:(T boD).func Tryz.f108=some PM.udiv:=by kernel_rfl
theorem q33:aN C 33 PM.udiv:=fun _ _ _ hl h=>aJ rfl rfl Tryz.func108 (by kernel_rfl) c33 hl h
theorem c34:(T boF).func Tryz.f107=some PM.aGQ:=by kernel_rfl
theorem q34:aN C 34 PM.aGQ:=fun _ _ _ hl h=>aJ rfl rfl Tryz.func107 (by kernel_rfl) c34 hl h
theorem c35:(T bhI).func Tryz.f78=some PM.aeA:=by kernel_rfl
theorem q35:aN C 35 PM.aeA:=fun _ _ _ hl h=>aJ rfl rfl Tryz.func78 (by kernel_rfl) c35 hl h
theorem c36:(T boH).func Tryz.f163=some PM.aGT:=by kernel_rfl
theorem q36:aN C 36 PM.aGT:=fun _ _ _ hl h=>aJ rfl rfl Tryz.func163 (by kernel_rfl) c36 hl h
theorem c37:(T boO).func Tryz.f162=some PM.aHB:=by kernel_rfl
theorem q37:aN C 37 PM.aHB:=fun _ _ _ hl h=>aJ rfl rfl Tryz.func162 (by kernel_rfl) c37 hl h
theorem c38:(T bhQ).func Tryz.f106=some PM.aeI:=by kernel_rfl
theorem q38:aN C 38 PM.aeI:=fun _ _ _ hl h=>aJ rfl rfl Tryz.func106 (by kernel_rfl) c38 hl h
theorem c39:(T aZY).func Tryz.f140=some PM.CK:=by kernel_rfl
theorem q39:aN C 39 PM.CK:=fun _ _ _ hl h=>aJ rfl rfl Tryz.func140 (by kernel_rfl) c39 hl h
theorem c40:(T bhG).func Tryz.f158=some PM.adZ:=by kernel_rfl
theorem q40:aN C 40 PM.adZ:=fun _ _ _ hl h=>aJ rfl rfl Tryz.func158 (by kernel_rfl) c40 hl h
theorem c41:(T a8H).func Tryz.f139=some PM.ON:=by kernel_rfl
theorem q41:aN C 41 PM.ON:=fun _ _ _ hl h=>aJ rfl rfl Tryz.func139 (by kernel_rfl) c41 hl h
theorem c42:(T a8J).func Tryz.f157=some PM.OO:=by kernel_rfl
theorem q42:aN C 42 PM.OO:=fun _ _ _ hl h=>aJ rfl rfl Tryz.func157 (by kernel_rfl) c42 hl h
theorem c43:(T bhO).func Tryz.f167=some PM.aeD:=by kernel_rfl
theorem q43:aN C 43 PM.aeD:=fun _ _ _ hl h=>aJ rfl rfl Tryz.func167 (by kernel_rfl) c43 hl h
theorem c44:(T a8L).func Tryz.f156=some PM.OY:=by kernel_rfl
theorem q44:aN C 44 PM.OY:=fun _ _ _ hl h=>aJ rfl rfl Tryz.func156 (by kernel_rfl) c44 hl h
theorem c45:(T brS).func Tryz.f155=some PM.uup:=by kernel_rfl
theorem q45:aN C 45 PM.uup:=fun _ _ _ hl h=>aJ rfl rfl Tryz.func155 (by kernel_rfl) c45 hl h
theorem c46:(T boQ).func Tryz.f143=some PM.ajU:=by kernel_rfl
theorem q46:aN C 46 PM.ajU:=fun _ _ _ hl h=>aJ rfl rfl Tryz.func143 (by kernel_rfl) c46 hl h
theorem c47:(T boS).func Tryz.f114=some PM.aHQ:=by kernel_rfl
theorem q47:aN C 47 PM.aHQ:=fun _ _ _ hl h=>aJ rfl rfl Tryz.func114 (by kernel_rfl) c47 hl h
theorem c48:(T a9J).func Tryz.f168=some PM.PE:=by kernel_rfl
theorem q48:aN C 48 PM.PE:=fun _ _ _ hl h=>aJ rfl rfl Tryz.func168 (by kernel_rfl) c48 hl h
theorem c49:(T biH).func Tryz.f119=some PM.aeL:=by kernel_rfl
theorem q49:aN C 49 PM.aeL:=fun _ _ _ hl h=>aJ rfl rfl Tryz.func119 (by kernel_rfl) c49 hl h
theorem c50:(T biJ).func Tryz.f55=some PM.RI:=by kernel_rfl
theorem q50:aN C 50 PM.RI:=fun _ _ _ hl h=>aJ rfl rfl Tryz.func55 (by kernel_rfl) c50 hl h
theorem c51:(T a9L).func Tryz.f115=some PM.PG:=by kernel_rfl
theorem q51:aN C 51 PM.PG:=fun _ _ _ hl h=>aJ rfl rfl Tryz.func115 (by kernel_rfl) c51 hl h
theorem c52:(T a0X).func Tryz.f116=some PM.CO:=by kernel_rfl
theorem q52:aN C 52 PM.CO:=fun _ _ _ hl h=>aJ rfl rfl Tryz.func116 (by kernel_rfl) c52 hl h
theorem c53:(T biL).func Tryz.f113=some PM.aeW:=by kernel_rfl
theorem q53:aN C 53 PM.aeW:=fun _ _ _ hl h=>aJ rfl rfl Tryz.func113 (by kernel_rfl) c53 hl h
theorem c54:(T biN).func Tryz.f85=some PM.aeX:=by kernel_rfl
theorem q54:aN C 54 PM.aeX:=fun _ _ _ hl h=>aJ rfl rfl Tryz.func85 (by kernel_rfl) c54 hl h
theorem c55:(T boV).func Tryz.f112=some PM.aIK:=by kernel_rfl
theorem q55:aN C 55 PM.aIK:=fun _ _ _ hl h=>aJ rfl rfl Tryz.func112 (by kernel_rfl) c55 hl h
theorem c56:(T baA).func Tryz.f84=some PM.PK:=by kernel_rfl
theorem q56:aN C 56 PM.PK:=fun _ _ _ hl h=>aJ rfl rfl Tryz.func84 (by kernel_rfl) c56 hl h
theorem c57:(T biE).func Tryz.f161=some PM.aeJ:=by kernel_rfl
theorem q57:aN C 57 PM.aeJ:=fun _ _ _ hl h=>aJ rfl rfl Tryz.func161 (by kernel_rfl) c57 hl h
theorem c58:(T a0V).func Tryz.f77=some PM.CM:=by kernel_rfl
theorem q58:aN C 58 PM.CM:=fun _ _ _ hl h=>aJ rfl rfl Tryz.func77 (by kernel_rfl) c58 hl h
theorem c59:(T biP).func Tryz.f79=some PM.aeY:=by kernel_rfl
theorem q59:aN C 59 PM.aeY:=fun _ _ _ hl h=>aJ rfl rfl Tryz.func79 (by kernel_rfl) c59 hl h
theorem c60:(T a9Y).func Tryz.f144=some PM.PJ:=by kernel_rfl
theorem q60:aN C 60 PM.PJ:=fun _ _ _ hl h=>aJ rfl rfl Tryz.func144 (by kernel_rfl) c60 hl h
theorem c61:(T bgR).func Tryz.f117=some PM.uF:=by kernel_rfl
theorem q61:aN C 61 PM.uF:=fun _ _ _ hl h=>aJ rfl rfl Tryz.func117 (by kernel_rfl) c61 hl h
theorem c62:(T a2L).func Tryz.f109=some PM.CQ:=by kernel_rfl
theorem q62:aN C 62 PM.CQ:=fun _ _ _ hl h=>aJ rfl rfl Tryz.func109 (by kernel_rfl) c62 hl h
theorem c63:(T bbA).func Tryz.f159=some PM.PO:=by kernel_rfl
theorem q63:aN C 63 PM.PO:=fun _ _ _ hl h=>aJ rfl rfl Tryz.func159 (by kernel_rfl) c63 hl h
theorem c64:(T a2J).func Tryz.f142=some PM.CP:=by kernel_rfl
theorem q64:aN C 64 PM.CP:=fun _ _ _ hl h=>aJ rfl rfl Tryz.func142 (by kernel_rfl) c64 hl h
theorem c65:(T a2N).func Tryz.f141=some PM.CR:=by kernel_rfl
theorem q65:aN C 65 PM.CR:=fun _ _ _ hl h=>aJ rfl rfl Tryz.func141 (by kernel_rfl) c65 hl h
theorem c66:(T bpD).func Tryz.f118=some PM.aJG:=by kernel_rfl
theorem q66:aN C 66 PM.aJG:=fun _ _ _ hl h=>aJ rfl rfl Tryz.func118 (by kernel_rfl) c66 hl h
theorem c67:(T bcB).func Tryz.f56=some PM.QA:=by kernel_rfl
theorem q67:aN C 67 PM.QA:=fun _ _ _ hl h=>aJ rfl rfl Tryz.func56 (by kernel_rfl) c67 hl h
theorem c68:(T bpB).func Tryz.f83=some PM.aIT:=by kernel_rfl
theorem q68:aN C 68 PM.aIT:=fun _ _ _ hl h=>aJ rfl rfl Tryz.func83 (by kernel_rfl) c68 hl h
theorem c69:(T boZ).func Tryz.f88=some PM.aIR:=by kernel_rfl
theorem q69:aN C 69 PM.aIR:=fun _ _ _ hl h=>aJ rfl rfl Tryz.func88 (by kernel_rfl) c69 hl h
theorem c70:(T bbQ).func Tryz.f82=some PM.PS:=by kernel_rfl
theorem q70:aN C 70 PM.PS:=fun _ _ _ hl h=>aJ rfl rfl Tryz.func82 (by kernel_rfl) c70 hl h
theorem c71:(T bbS).func Tryz.f110=some PM.PT:=by kernel_rfl
theorem q71:aN C 71 PM.PT:=fun _ _ _ hl h=>aJ rfl rfl Tryz.func110 (by kernel_rfl) c71 hl h
theorem c72:(T aLG).func Tryz.f87=some PM.xC:=by kernel_rfl
theorem q72:aN C 72 PM.xC:=fun _ _ _ hl h=>aJ rfl rfl Tryz.func87 (by kernel_rfl) c72 hl h
theorem c73:(T bbV).func Tryz.f81=some PM.PY:=by kernel_rfl
theorem q73:aN C 73 PM.PY:=fun _ _ _ hl h=>aJ rfl rfl Tryz.func81 (by kernel_rfl) c73 hl h
theorem c74:(T bbX).func Tryz.f86=some PM.PZ:=by kernel_rfl
theorem q74:aN C 74 PM.PZ:=fun _ _ _ hl h=>aJ rfl rfl Tryz.func86 (by kernel_rfl) c74 hl h
theorem c75:(T a3B).func Tryz.f111=some PM.CS:=by kernel_rfl
theorem q75:aN C 75 PM.CS:=fun _ _ _ hl h=>aJ rfl rfl Tryz.func111 (by kernel_rfl) c75 hl h
theorem c76:(T a3D).func Tryz.f80=some PM.vI:=by kernel_rfl
theorem q76:aN C 76 PM.vI:=fun _ _ _ hl h=>aJ rfl rfl Tryz.func80 (by kernel_rfl) c76 hl h
theorem c82:(T bgT).func Tryz.f64=some PM.acV:=by kernel_rfl
theorem q82:aN C 82 PM.acV:=fun _ _ _ hl h=>aJ rfl rfl Tryz.func64 (by kernel_rfl) c82 hl h
theorem c85:(T bgU).func Tryz.f46=some PM.acW:=by kernel_rfl
theorem q85:aN C 85 PM.acW:=fun _ _ _ hl h=>aJ rfl rfl Tryz.func46 (by kernel_rfl) c85 hl h
theorem c86:(T aZR).func Tryz.f52=some PM.CI:=by kernel_rfl
theorem q86:aN C 86 PM.CI:=fun _ _ _ hl h=>aJ rfl rfl Tryz.func52 (by kernel_rfl) c86 hl h
theorem c89:(T bnP).func Tryz.f65=some PM.aEK:=by kernel_rfl
theorem q89:aN C 89 PM.aEK:=fun _ _ _ hl h=>aJ rfl rfl Tryz.func65 (by kernel_rfl) c89 hl h
theorem c91:(T bnN).func Tryz.f24=some PM.same:=by kernel_rfl
theorem q91:aN C 91 PM.same:=fun _ _ _ hl h=>aJ rfl rfl Tryz.func24 (by kernel_rfl) c91 hl h
theorem c95:(T bkZ).func Tryz.f59=some PM.axW:=by kernel_rfl
theorem q95:aN C 95 PM.axW:=fun _ _ _ hl h=>aJ rfl rfl Tryz.func59 (by kernel_rfl) c95 hl h
theorem c96:(T blJ).func Tryz.f47=some PM.ayR:=by kernel_rfl
theorem q96:aN C 96 PM.ayR:=fun _ _ _ hl h=>aJ rfl rfl Tryz.func47 (by kernel_rfl) c96 hl h
theorem c97:(T a4O).func Tryz.f90=some PM.KW:=by kernel_rfl
theorem q97:aN C 97 PM.KW:=fun _ _ _ hl h=>aJ rfl rfl Tryz.func90 (by kernel_rfl) c97 hl h
theorem c98:(T bdM).func Tryz.f130=some PM.aaP:=by kernel_rfl
theorem q98:aN C 98 PM.aaP:=fun _ _ _ hl h=>aJ rfl rfl Tryz.func130 (by kernel_rfl) c98 hl h
theorem c99:(T bdO).func Tryz.f91=some PM.aaQ:=by kernel_rfl
theorem q99:aN C 99 PM.aaQ:=fun _ _ _ hl h=>aJ rfl rfl Tryz.func91 (by kernel_rfl) c99 hl h
theorem bwS:(T bdQ).func Tryz.f132=some PM.aaR:=by kernel_rfl
theorem bAW:aN C 100 PM.aaR:=fun _ _ _ hl h=>aJ rfl rfl Tryz.func132 (by kernel_rfl) bwS hl h
theorem bwT:(T blF).func Tryz.f135=some PM.gone:=by kernel_rfl
theorem bAX:aN C 101 PM.gone:=fun _ _ _ hl h=>aJ rfl rfl Tryz.func135 (by kernel_rfl) bwT hl h
theorem bwU:(T bdT).func Tryz.f95=some PM.aaS:=by kernel_rfl
theorem bAY:aN C 102 PM.aaS:=fun _ _ _ hl h=>aJ rfl rfl Tryz.func95 (by kernel_rfl) bwU hl h
theorem bwV:(T a4Q).func Tryz.f131=some PM.KX:=by kernel_rfl
theorem bAZ:aN C 103 PM.KX:=fun _ _ _ hl h=>aJ rfl rfl Tryz.func131 (by kernel_rfl) bwV hl h
theorem bwW:(T bpZ).func Tryz.f57=some PM.gin:=by kernel_rfl
theorem bBA:aN C 104 PM.gin:=fun _ _ _ hl h=>aJ rfl rfl Tryz.func57 (by kernel_rfl) bwW hl h
theorem bwX:(T blB).func Tryz.f89=some PM.axY:=by kernel_rfl
theorem bBB:aN C 105 PM.axY:=fun _ _ _ hl h=>aJ rfl rfl Tryz.func89 (by kernel_rfl) bwX hl h
theorem bwY:(T blD).func Tryz.f96=some PM.axZ:=by kernel_rfl
theorem bBC:aN C 106 PM.axZ:=fun _ _ _ hl h=>aJ rfl rfl Tryz.func96 (by kernel_rfl) bwY hl h
theorem bwZ:(T bdV).func Tryz.f133=some PM.aaV:=by kernel_rfl
theorem bBD:aN C 107 PM.aaV:=fun _ _ _ hl h=>aJ rfl rfl Tryz.func133 (by kernel_rfl) bwZ hl h
theorem bxA:(T bdX).func Tryz.f97=some PM.aaW:=by kernel_rfl
theorem bBE:aN C 108 PM.aaW:=fun _ _ _ hl h=>aJ rfl rfl Tryz.func97 (by kernel_rfl) bxA hl h
theorem bxB:(T a4T).func Tryz.f134=some PM.LH:=by kernel_rfl
theorem bBF:aN C 109 PM.LH:=fun _ _ _ hl h=>aJ rfl rfl Tryz.func134 (by kernel_rfl) bxB hl h
theorem bxC:(T beA).func Tryz.f61=some PM.aaX:=by kernel_rfl
theorem bBG:aN C 110 PM.aaX:=fun _ _ _ hl h=>aJ rfl rfl Tryz.func61 (by kernel_rfl) bxC hl h
theorem bxD:(T bkX).func Tryz.f58=some PM.ahW:=by kernel_rfl
theorem bBH:aN C 111 PM.ahW:=fun _ _ _ hl h=>aJ rfl rfl Tryz.func58 (by kernel_rfl) bxD hl h
theorem bxE:(T blH).func Tryz.f60=some PM.ayC:=by kernel_rfl
theorem bBI:aN C 112 PM.ayC:=fun _ _ _ hl h=>aJ rfl rfl Tryz.func60 (by kernel_rfl) bxE hl h
theorem bxF:(T bkN).func Tryz.f123=some PM.KK:=by kernel_rfl
theorem bBJ:aN C 113 PM.KK:=fun _ _ _ hl h=>aJ rfl rfl Tryz.func123 (by kernel_rfl) bxF hl h
theorem bxG:(T bkP).func Tryz.f94=some PM.avW:=by kernel_rfl
theorem bBK:aN C 114 PM.avW:=fun _ _ _ hl h=>aJ rfl rfl Tryz.func94 (by kernel_rfl) bxG hl h
theorem bxH:(T bdI).func Tryz.f93=some PM.QN:=by kernel_rfl
theorem bBL:aN C 115 PM.QN:=fun _ _ _ hl h=>aJ rfl rfl Tryz.func93 (by kernel_rfl) bxH hl h
theorem bxI:(T aWY).func Tryz.f120=some PM.uU:=by kernel_rfl
theorem bBM:aN C 116 PM.uU:=fun _ _ _ hl h=>aJ rfl rfl Tryz.func120 (by kernel_rfl) bxI hl h
theorem bxJ:(T bkV).func Tryz.f92=some PM.UW:=by kernel_rfl
theorem bBN:aN C 117 PM.UW:=fun _ _ _ hl h=>aJ rfl rfl Tryz.func92 (by kernel_rfl) bxJ hl h
theorem bxK:(T a4M).func Tryz.f126=some PM.KV:=by kernel_rfl
theorem bBO:aN C 118 PM.KV:=fun _ _ _ hl h=>aJ rfl rfl Tryz.func126 (by kernel_rfl) bxK hl h
theorem bxL:(T bkL).func Tryz.f125=some PM.avT:=by kernel_rfl
theorem bBP:aN C 119 PM.avT:=fun _ _ _ hl h=>aJ rfl rfl Tryz.func125 (by kernel_rfl) bxL hl h
theorem bxM:(T aWV).func Tryz.f124=some PM.nF:=by kernel_rfl
theorem bBQ:aN C 120 PM.nF:=fun _ _ _ hl h=>aJ rfl rfl Tryz.func124 (by kernel_rfl) bxM hl h
theorem bxN:(T a4K).func Tryz.f128=some PM.KU:=by kernel_rfl
theorem bBR:aN C 121 PM.KU:=fun _ _ _ hl h=>aJ rfl rfl Tryz.func128 (by kernel_rfl) bxN hl h
theorem bxO:(T bdK).func Tryz.f129=some PM.aaO:=by kernel_rfl
theorem bBS:aN C 122 PM.aaO:=fun _ _ _ hl h=>aJ rfl rfl Tryz.func129 (by kernel_rfl) bxO hl h
theorem bxP:(T beQ).func Tryz.f98=some PM.QV:=by kernel_rfl
theorem bBT:aN C 123 PM.QV:=fun _ _ _ hl h=>aJ rfl rfl Tryz.func98 (by kernel_rfl) bxP hl h
theorem bxQ:(T a5B).func Tryz.f153=some PM.BT:=by kernel_rfl
theorem bBU:aN C 124 PM.BT:=fun _ _ _ hl h=>aJ rfl rfl Tryz.func153 (by kernel_rfl) bxQ hl h
theorem bxR:(T a5J).func Tryz.f137=some PM.BU:=by kernel_rfl
theorem bBV:aN C 125 PM.BU:=fun _ _ _ hl h=>aJ rfl rfl Tryz.func137 (by kernel_rfl) bxR hl h
theorem bxS:(T aXT).func Tryz.f136=some PM.vC:=by kernel_rfl
theorem bBW:aN C 126 PM.vC:=fun _ _ _ hl h=>aJ rfl rfl Tryz.func136 (by kernel_rfl) bxS hl h
theorem bxT:(T bmK).func Tryz.f147=some PM.aAV:=by kernel_rfl
theorem bBX:aN C 127 PM.aAV:=fun _ _ _ hl h=>aJ rfl rfl Tryz.func147 (by kernel_rfl) bxT hl h
theorem bxU:(T beW).func Tryz.f121=some PM.abS:=by kernel_rfl
theorem bBY:aN C 128 PM.abS:=fun _ _ _ hl h=>aJ rfl rfl Tryz.func121 (by kernel_rfl) bxU hl h
theorem bxV:(T bmN).func Tryz.f127=some PM.aBL:=by kernel_rfl
theorem bBZ:aN C 129 PM.aBL:=fun _ _ _ hl h=>aJ rfl rfl Tryz.func127 (by kernel_rfl) bxV hl h
theorem bxW:(T bmP).func Tryz.f150=some PM.aBR:=by kernel_rfl
theorem bCA:aN C 130 PM.aBR:=fun _ _ _ hl h=>aJ rfl rfl Tryz.func150 (by kernel_rfl) bxW hl h
theorem bxX:(T bmS).func Tryz.f149=some PM.aBW:=by kernel_rfl
theorem bCB:aN C 131 PM.aBW:=fun _ _ _ hl h=>aJ rfl rfl Tryz.func149 (by kernel_rfl) bxX hl h
theorem bxY:(T beZ).func Tryz.f122=some PM.acE:=by kernel_rfl
theorem bCC:aN C 132 PM.acE:=fun _ _ _ hl h=>aJ rfl rfl Tryz.func122 (by kernel_rfl) bxY hl h
theorem bxZ:(T bmU).func Tryz.f152=some PM.aCB:=by kernel_rfl
theorem bCD:aN C 133 PM.aCB:=fun _ _ _ hl h=>aJ rfl rfl Tryz.func152 (by kernel_rfl) bxZ hl h
theorem byA:(T bmW).func Tryz.f148=some PM.aCK:=by kernel_rfl
theorem bCE:aN C 134 PM.aCK:=fun _ _ _ hl h=>aJ rfl rfl Tryz.func148 (by kernel_rfl) byA hl h
theorem byB:(T bfC).func Tryz.f151=some PM.acI:=by kernel_rfl
theorem bCF:aN C 135 PM.acI:=fun _ _ _ hl h=>aJ rfl rfl Tryz.func151 (by kernel_rfl) byB hl h
theorem byC:(T aYE).func Tryz.f166=some PM.BZ:=by kernel_rfl
theorem bCG:aN C 136 PM.BZ:=fun _ _ _ hl h=>aJ rfl rfl Tryz.func166 (by kernel_rfl) byC hl h
theorem byD:(T a5R).func Tryz.f164=some PM.MF:=by kernel_rfl
theorem bCH:aN C 137 PM.MF:=fun _ _ _ hl h=>aJ rfl rfl Tryz.func164 (by kernel_rfl) byD hl h
theorem byE:(T aYI).func Tryz.f146=some PM.rL:=by kernel_rfl
theorem bCI:aN C 138 PM.rL:=fun _ _ _ hl h=>aJ rfl rfl Tryz.func146 (by kernel_rfl) byE hl h
theorem byF:(T aKM).func Tryz.f172=some PM.wH:=by kernel_rfl
theorem bCJ:aN C 139 PM.wH:=fun _ _ _ hl h=>aJ rfl rfl Tryz.func172 (by kernel_rfl) byF hl h
theorem byG:(T a5U).func Tryz.f169=some PM.MJ:=by kernel_rfl
theorem bCK:aN C 140 PM.MJ:=fun _ _ _ hl h=>aJ rfl rfl Tryz.func169 (by kernel_rfl) byG hl h
theorem byH:(T a5W).func Tryz.f165=some PM.MK:=by kernel_rfl
theorem bCL:aN C 141 PM.MK:=fun _ _ _ hl h=>aJ rfl rfl Tryz.func165 (by kernel_rfl) byH hl h
theorem byI:(T aCR).func Tryz.f171=some PM.sU:=by kernel_rfl
theorem bCM:aN C 142 PM.sU:=fun _ _ _ hl h=>aJ rfl rfl Tryz.func171 (by kernel_rfl) byI hl h
theorem byJ:(T bqY).func Tryz.f170=some PM.nup:=by kernel_rfl
theorem bCN:aN C 143 PM.nup:=fun _ _ _ hl h=>aJ rfl rfl Tryz.func170 (by kernel_rfl) byJ hl h
theorem byK:(T bcG).func Tryz.f16=some PM.begin:=by kernel_rfl
theorem bCO:aN C 144 PM.begin:=fun _ _ _ hl h=>aJ rfl rfl Tryz.func16 (by kernel_rfl) byK hl h
theorem byL:(T bnX).func Tryz.f18=some PM.step:=by kernel_rfl
theorem bCP:aN C 145 PM.step:=fun _ _ _ hl h=>aJ rfl rfl Tryz.func18 (by kernel_rfl) byL hl h
theorem byM:(T boL).func Tryz.f17=some PM.aGV:=by kernel_rfl
theorem bCQ:aN C 146 PM.aGV:=fun _ _ _ hl h=>aJ rfl rfl Tryz.func17 (by kernel_rfl) byM hl h
theorem byN:(T aZT).func Tryz.f48=some PM.CJ:=by kernel_rfl
theorem bCR:aN C 153 PM.CJ:=fun _ _ _ hl h=>aJ rfl rfl Tryz.func48 (by kernel_rfl) byN hl h
theorem byO:(T aFN).func Tryz.f99=some PM.yC:=by kernel_rfl
theorem bCS:aN C 156 PM.yC:=fun _ _ _ hl h=>aJ rfl rfl Tryz.func99 (by kernel_rfl) byO hl h
theorem byP:(T a8B).func Tryz.f63=some PM.wP:=by kernel_rfl
theorem bCT:aN C 160 PM.wP:=fun _ _ _ hl h=>aJ rfl rfl Tryz.func63 (by kernel_rfl) byP hl h
theorem byQ:(T a8D).func Tryz.f62=some PM.OG:=by kernel_rfl
theorem bCU:aN C 161 PM.OG:=fun _ _ _ hl h=>aJ rfl rfl Tryz.func62 (by kernel_rfl) byQ hl h
theorem byS:(T bdB).func Tryz.f20=some PM.EE:=by kernel_rfl
theorem bCW:aN C 240 PM.EE:=fun _ _ _ hl h=>aJ rfl rfl Tryz.func20 (by kernel_rfl) byS hl h
theorem byT:(T bcS).func Tryz.f41=some PM.ZI:=by kernel_rfl
theorem bCX:aN C 241 PM.ZI:=fun _ _ _ hl h=>aJ rfl rfl Tryz.func41 (by kernel_rfl) byT hl h
theorem byU:(T bcZ).func Tryz.f43=some PM.ZU:=by kernel_rfl
theorem bCY:aN C 242 PM.ZU:=fun _ _ _ hl h=>aJ rfl rfl Tryz.func43 (by kernel_rfl) byU hl h
theorem byV:(T bkB).func Tryz.f42=some PM.auV:=by kernel_rfl
theorem bCZ:aN C 243 PM.auV:=fun _ _ _ hl h=>aJ rfl rfl Tryz.func42 (by kernel_rfl) byV hl h
theorem byW:(T a3U).func Tryz.f25=some PM.JY:=by kernel_rfl
theorem bDA:aN C 244 PM.JY:=fun _ _ _ hl h=>aJ rfl rfl Tryz.func25 (by kernel_rfl) byW hl h
theorem byX:(T aFN).func Tryz.f44=some PM.yC:=by kernel_rfl
theorem bDB:aN C 245 PM.yC:=fun _ _ _ hl h=>aJ rfl rfl Tryz.func44 (by kernel_rfl) byX hl h
theorem byY:(T aWL).func Tryz.f26=some PM.BN:=by kernel_rfl
theorem bDC:aN C 246 PM.BN:=fun _ _ _ hl h=>aJ rfl rfl Tryz.func26 (by kernel_rfl) byY hl h
theorem byZ:(T aRA).func Tryz.f45=some PM.NO:=by kernel_rfl
theorem bDD:aN C 247 PM.NO:=fun _ _ _ hl h=>aJ rfl rfl Tryz.func45 (by kernel_rfl) byZ hl h
theorem bzA:(T a3Y).func Tryz.f27=some PM.KC:=by kernel_rfl
theorem bDE:aN C 248 PM.KC:=fun _ _ _ hl h=>aJ rfl rfl Tryz.func27 (by kernel_rfl) bzA hl h
theorem bzB:(T bcX).func Tryz.f9=some PM.ZT:=by kernel_rfl
theorem bDF:aN C 249 PM.ZT:=fun _ _ _ hl h=>aJ rfl rfl Tryz.func9 (by kernel_rfl) bzB hl h
theorem bzC:(T aYR).func Tryz.f30=some PM.CC:=by kernel_rfl
theorem bDG:aN C 250 PM.CC:=fun _ _ _ hl h=>aJ rfl rfl Tryz.func30 (by kernel_rfl) bzC hl h
theorem bzD:(T bfL).func Tryz.f33=some PM.acL:=by kernel_rfl
theorem bDH:aN C 251 PM.acL:=fun _ _ _ hl h=>aJ rfl rfl Tryz.func33 (by kernel_rfl) bzD hl h
theorem bzE:(T bfJ).func Tryz.f23=some PM.aYM:=by kernel_rfl
theorem bDI:aN C 252 PM.aYM:=fun _ _ _ hl h=>aJ rfl rfl Tryz.func23 (by kernel_rfl) bzE hl h
theorem bzF:(T aYW).func Tryz.f34=some PM.ajD:=by kernel_rfl
theorem bDJ:aN C 253 PM.ajD:=fun _ _ _ hl h=>aJ rfl rfl Tryz.func34 (by kernel_rfl) bzF hl h
theorem bzG:(T aRA).func Tryz.f35=some PM.NO:=by kernel_rfl
theorem bDK:aN C 254 PM.NO:=fun _ _ _ hl h=>aJ rfl rfl Tryz.func35 (by kernel_rfl) bzG hl h
theorem bzH:(T bgA).func Tryz.f29=some PM.aYS:=by kernel_rfl
theorem bDL:aN C 255 PM.aYS:=fun _ _ _ hl h=>aJ rfl rfl Tryz.func29 (by kernel_rfl) bzH hl h
theorem bzI:(T buO).func Tryz.f40=some PM.qk:=by kernel_rfl
theorem bDM:aN C 257 PM.qk:=fun _ _ _ hl h=>aJ rfl rfl Tryz.func40 (by kernel_rfl) bzI hl h
theorem bzJ:(T aJL).func Tryz.f51=some PM.QD:=by kernel_rfl
theorem bDN:aN C 258 PM.QD:=fun _ _ _ hl h=>aJ rfl rfl Tryz.func51 (by kernel_rfl) bzJ hl h
theorem bzK:(T aDD).func Tryz.f32=some PM.sX:=by kernel_rfl
theorem bDO:aN C 260 PM.sX:=fun _ _ _ hl h=>aJ rfl rfl Tryz.func32 (by kernel_rfl) bzK hl h
theorem bzL:(T a6S).func Tryz.f50=some PM.NI:=by kernel_rfl
theorem bDP:aN C 261 PM.NI:=fun _ _ _ hl h=>aJ rfl rfl Tryz.func50 (by kernel_rfl) bzL hl h
theorem bzM:(T baY).func Tryz.f36=some PM.PN:=by kernel_rfl
theorem bDQ:aN C 262 PM.PN:=fun _ _ _ hl h=>aJ rfl rfl Tryz.func36 (by kernel_rfl) bzM hl h
theorem bzN:(T bbO).func Tryz.f15=some PM.PP:=by kernel_rfl
theorem bDR:aN C 263 PM.PP:=fun _ _ _ hl h=>aJ rfl rfl Tryz.func15 (by kernel_rfl) bzN hl h
theorem bzO:(T baW).func Tryz.f19=some PM.aIN:=by kernel_rfl
theorem bDS:aN C 264 PM.aIN:=fun _ _ _ hl h=>aJ rfl rfl Tryz.func19 (by kernel_rfl) bzO hl h
theorem bzP:(T bbM).func Tryz.f13=some PM.aIP:=by kernel_rfl
theorem bDT:aN C 265 PM.aIP:=fun _ _ _ hl h=>aJ rfl rfl Tryz.func13 (by kernel_rfl) bzP hl h
theorem bzQ:(T biC).func Tryz.f28=some PM.a0C:=by kernel_rfl
theorem bDU:aN C 266 PM.a0C:=fun _ _ _ hl h=>aJ rfl rfl Tryz.func28 (by kernel_rfl) bzQ hl h
theorem bzR:(T baL).func Tryz.f11=some PM.aIM:=by kernel_rfl
theorem bDV:aN C 267 PM.aIM:=fun _ _ _ hl h=>aJ rfl rfl Tryz.func11 (by kernel_rfl) bzR hl h
theorem bzS:(T a9H).func Tryz.f21=some PM.aHK:=by kernel_rfl
theorem bDW:aN C 268 PM.aHK:=fun _ _ _ hl h=>aJ rfl rfl Tryz.func21 (by kernel_rfl) bzS hl h
theorem bzT:(T a9W).func Tryz.f14=some PM.aIB:=by kernel_rfl
theorem bDX:aN C 269 PM.aIB:=fun _ _ _ hl h=>aJ rfl rfl Tryz.func14 (by kernel_rfl) bzT hl h
theorem bzU:(T bgP).func Tryz.f22=some PM.aZI:=by kernel_rfl
theorem bDY:aN C 270 PM.aZI:=fun _ _ _ hl h=>aJ rfl rfl Tryz.func22 (by kernel_rfl) bzU hl h
theorem bzV:(T aKH).func Tryz.f12=some PM.VU:=by kernel_rfl
theorem bDZ:aN C 272 PM.VU:=fun _ _ _ hl h=>aJ rfl rfl Tryz.func12 (by kernel_rfl) bzV hl h
theorem bzX:(T a6P).func Tryz.f37=some PM.ND:=by kernel_rfl
theorem bEB:aN C 277 PM.ND:=fun _ _ _ hl h=>aJ rfl rfl Tryz.func37 (by kernel_rfl) bzX hl h
theorem bzW:(T beM).func Tryz.f4=some PM.abF:=by kernel_rfl
theorem bEA:aN C 274 PM.abF:=fun _ _ _ hl h=>aJ rfl rfl Tryz.func4 (by kernel_rfl) bzW hl h
theorem byR:(T a3P).func Tryz.f31=some PM.concat:=by kernel_rfl
theorem bCV:aN C 178 PM.concat:=fun _ _ _ hl h=>aJ rfl rfl Tryz.func31 (by kernel_rfl) byR hl h
theorem bpT:cJ C:={
 r24:=q24,
 r26:=q26,
 r30:=q30,
 r31:=q31,
 r32:=q32,
 r33:=q33,
 r34:=q34,
 r35:=q35,
 r36:=q36,
 r37:=q37,
 r38:=q38,
 r39:=q39,
 r40:=q40,
 r41:=q41,
 r42:=q42,
 r43:=q43,
 r44:=q44,
 r45:=q45,
 r46:=q46,
 r47:=q47,
 r48:=q48,
 r49:=q49,
 r50:=q50,
 r51:=q51,
 r52:=q52,
 r53:=q53,
 r54:=q54,
 r55:=q55,
 r56:=q56,
 r57:=q57,
 r58:=q58,
 r59:=q59,
 r60:=q60,
 r61:=q61,
 r62:=q62,
 r63:=q63,
 r64:=q64,
 r65:=q65,
 r66:=q66,
 r67:=q67,
 r68:=q68,
 r69:=q69,
 r70:=q70,
 r71:=q71,
 r72:=q72,
 r73:=q73,
 r74:=q74,
 r75:=q75,
 r76:=q76,
 r82:=q82,
 r85:=q85,
 r86:=q86,
 r89:=q89,
 r91:=q91,
 r95:=q95,
 r96:=q96,
 r97:=q97,
 r98:=q98,
 r99:=q99,
 r100:=bAW,
 r101:=bAX,
 r102:=bAY,
 r103:=bAZ,
 r104:=bBA,
 r105:=bBB,
 r106:=bBC,
 r107:=bBD,
 r108:=bBE,
 r109:=bBF,
 r110:=bBG,
 r111:=bBH,
 r112:=bBI,
 r113:=bBJ,
 r114:=bBK,
 r115:=bBL,
 r116:=bBM,
 r117:=bBN,
 r118:=bBO,
 r119:=bBP,
 r120:=bBQ,
 r121:=bBR,
 r122:=bBS,
 r123:=bBT,
 r124:=bBU,
 r125:=bBV,
 r126:=bBW,
 r127:=bBX,
 r128:=bBY,
 r129:=bBZ,
 r130:=bCA,
 r131:=bCB,
 r132:=bCC,
 r133:=bCD,
 r134:=bCE,
 r135:=bCF,
 r136:=bCG,
 r137:=bCH,
 r138:=bCI,
 r139:=bCJ,
 r140:=bCK,
 r141:=bCL,
 r142:=bCM,
 r143:=bCN,
 r144:=bCO,
 r145:=bCP,
 r146:=bCQ,
 r153:=bCR,
 r156:=bCS,
 r160:=bCT,
 r161:=bCU,
 r240:=bCW,
 r241:=bCX,
 r242:=bCY,
 r243:=bCZ,
 r244:=bDA,
 r245:=bDB,
 r246:=bDC,
 r247:=bDD,
 r248:=bDE,
 r249:=bDF,
 r250:=bDG,
 r251:=bDH,
 r252:=bDI,
 r253:=bDJ,
 r254:=bDK,
 r255:=bDL,
 r257:=bDM,
 r258:=bDN,
 r260:=bDO,
 r261:=bDP,
 r262:=bDQ,
 r263:=bDR,
 r264:=bDS,
 r265:=bDT,
 r266:=bDU,
 r267:=bDV,
 r268:=bDW,
 r269:=bDX,
 r270:=bDY,
 r272:=bDZ,
 r277:=bEB }
end Go.Proofs.YthbkofcdddghgaaGreat
namespace Go.Proofs.YthbkofcdddghgaaGreat
open Go Go.PM Go.RowKit Go.ChangeShapes Go.WideShapes
theorem Tryz.own:ownKnob Tryz.prog.godebug=none:=by kernel_rfl
theorem Tryz.laidOut:laidOutB Tryz.prog=true:=by kernel_rfl
theorem aFI:Tryz.t3.bytes=8:=by kernel_rfl
theorem aiP {n:Nat} (h:0<n):Builtin.nextslicecap n 0=n:=by
 unfold Builtin.nextslicecap
 rw[if_pos Om]
theorem a4U (n:Int) (h0:0≤n) (h1:n≤1000000) (w:World):Calls Tryz.prog 49 #[.slice none 0 0,.int .i64 n] w fun e w' =>
  (n=0∧e=.returned (.slice none 0 0)∧w'=w)∨(0<n∧∃ cap cs,e=.returned (.slice (some ⟨w.heap.size,0,none⟩) 0 cap)∧w'=(w.alloc (.cells cs 3)).drew∧cs.size=cap∧cap≤maxLen):=by
 go_enter Tryz.func49,Tryz.ntmps49
 go_wp2
 all_goals (try (exfalso; simp only[aFI] at *; omega))
 ·exfalso
  rw[aiP Om] at *
  simp only[aFI] at *
  omega
 ·go_ret
  have hge:=grownCap_ge w n.toNat 0 3
  have hle:=grownCap_le_maxLen w n.toNat 0 3 (by simp only[maxLen]; omega)
  unfold grownCap at hge hle
  refine .inr ⟨_,rfl,_,rfl,?_,hle⟩
  simp only[Array.size_append,size_zeroCells]
  simp
  omega
 ·go_ret
  exact .inl ⟨by omega,rfl,rfl⟩
theorem aXE (n:Int) (h0:0≤n) (h1:n≤1000000):aD C 179 [.aB,.int .i64 n] .nil (bjC n):=by
 refine⟨⟨Tryz.f49,Tryz.func49,by kernel_rfl,by kernel_rfl⟩,fun E w vs hN hW hvs=>?_⟩
 obtain⟨vl⟩:=vs
 cases hvs with
 | cons e1 e2 =>
 cases e2 with
 | cons e3 e4 =>
 cases e4
 cases e1
 cases e3
 refine (a4U n h0 h1 w).mono fun e w' he=>?_
 rcases he with ⟨rfl,rfl,rfl⟩ | ⟨hn,cap,cs,rfl,rfl,hs,hc⟩
 ·exact⟨_,.aB,E,.nil,rfl,hW,.aB,.refl _ _ _,.inl ⟨rfl,rfl,rfl⟩⟩
 ·have hR:iU E 1 [] cs:=⟨by simp,by simp,fun i j pv h=>by simp[at2] at h⟩
  obtain⟨k1,k2⟩:=hW.BJ 3 hR
  refine⟨_,.osl w.heap.size 1 0 0,_,_,rfl,k1.drew,?_,k2.YC rfl rfl rfl (bIO _) (fun _ _=>rfl),.inr ⟨hn,_,rfl,rfl⟩⟩
  exact .osl rfl rfl (.inr rfl) Om hc (acJ _ _ _) Om
theorem auS (ws:List (List Int)) (h1:ws.length≤1000000) (h2:ws.flatten.length≤1000000):aD C 178 [lists ws] .nil (ahE ws.flatten) :=
 bCV.go (a3N ws h1 h2 aXE) rfl
set_option maxRecDepth 100000 in
theorem bnU:uQ C:={
 concat:=auS
 sort:=fun o xs hx hl=>aZO Tryz.azO (by kernel_rfl) ⟨_,Tryz.func38,by kernel_rfl,by kernel_rfl⟩ o xs hx hl
 sort0:=aKS Tryz.azO (by kernel_rfl) ⟨_,Tryz.func38,by kernel_rfl,by kernel_rfl⟩ _ _ (.inl rfl)
 compact:=fun o xs hx hl=>asO Tryz.SB (by kernel_rfl) ⟨_,Tryz.func39,by kernel_rfl,by kernel_rfl⟩ o xs hx hl
 compact0:=ahO Tryz.SB (by kernel_rfl) ⟨_,Tryz.func39,by kernel_rfl,by kernel_rfl⟩ _ _ (.inl rfl) }
end Go.Proofs.YthbkofcdddghgaaGreat
namespace Go.Proofs.YthbkofcdddghgaaGreat
open Go Go.PM Go.RowKit Go.ChangeShapes Go.WideShapes
def argKinds:List AT:=[.one (.sl [.int .i64]),.one (.int .i64),.one (.int .i64)]
theorem bjV:BL Tryz.prog 8 Tryz.f4.params.toList=some argKinds:=by kernel_rfl
theorem blW (pvs:List PV) (h:AT.TyL argKinds pvs):aD C 274 pvs .nil (aE (.bool true)):=by
 match pvs,h with
 | [p0,p1,p2],h =>
  obtain⟨h0,h1,h2,-⟩:=h
  cases h0 with | one h0 =>
  obtain⟨x0,rfl,b0,c0⟩:=Ty.beG h0
  cases h1 with | one h1 =>
  obtain⟨x1,rfl,-⟩:=Ty.QU h1
  cases h2 with | one h2 =>
  obtain⟨x2,rfl,-⟩:=Ty.QU h2
  have tm:TpM x0:=⟨by
   have:maxLen≤9223372036854775807:=by decide
   omega,fun x hm=>by
   have e1:IntKind.i64.min=-9223372036854775808:=by decide
   have e2:IntKind.i64.max=9223372036854775807:=by decide
   have h1:=(c0 x hm).1
   have h2:=(c0 x hm).2
   rw[e1] at h1
   rw[e2] at h2
   unfold cU
   omega⟩
  exact a7L bpT bnU bEA x0 tm x1 x2
set_option maxRecDepth 100000 in
theorem NQ (os:Os) (started:os.Started) (H:Type) (enc:TypeId × Value→H) :
  ReturnsInHanded {} Tryz.checked os 4 .any (Rows.rolloutEndsSpec.pre6 enc Tryz.prog Tryz.f4 Rows.rolloutEndsRow.domain false) (Rows.rolloutEndsSpec.post enc Tryz.prog Tryz.f4 false true false false):=by
 refine returnsInHanded_of_change (C:=Tryz.checked) Tryz.own started (by kernel_rfl) Tryz.func4
  (ChangeSpec.witness6 (enc:=enc) (C:=Tryz.checked) false ⟨#[],#[.slice none 0 0,.int .i64 0,.int .i64 0],[]⟩ 8 (by kernel_rfl) (by kernel_rfl) (by kernel_rfl) (by kernel_rfl)) ?_
 intro W base args ds gs before bHB hW _ _
 exact auR (P:=Tryz.prog) (num:=num) (name:=274) (n:=8) (ats:=argKinds) (bt:=4) Tryz.laidOut (by kernel_rfl) (by kernel_rfl) (by kernel_rfl) rfl
  (fun ds hd=>by
   match ds,hd with
   | [d1,d2,d3],_=>exact⟨rfl,rfl,rfl⟩)
  (by kernel_rfl) bjV blW bHB hW
theorem rolloutEnds_holds:Rows.RolloutEndsSaid :=
 OpenClaim.holds_of_wide 4 Tryz.f4 rfl rfl rfl rfl rfl rfl rfl ⟨rfl,rfl,rfl,rfl,rfl⟩ rfl rfl rfl rfl rfl (by kernel_rfl) Tryz.func4 (by kernel_rfl)
  (of_decide_eq_true (by kernel_rfl)) (by unfold Func.isWrapper; first | (rw[if_pos (by decide +kernel)]; kernel_rfl) | (rw[if_neg (by decide +kernel)]; exact⟨rfl,rfl⟩))
  (fun os started H enc _=>NQ os started H enc)
#print axioms rolloutEnds_holds
end Go.Proofs.YthbkofcdddghgaaGreat
