/-
  Texts of ours, joined: ZdCodes ZdBase MkW17 MkW18 L11W5 Pm37 L11W6 L11P2 L11W7 L11W8 L11W9 L11W10 L11W11 L11W12 L11W13 Jn4. No condition.
-/
import Derived.Test.YtelckcmlobadkaaGreatDoorEx1
import Derived.Test.YtelckcmlobadkaaGreatDoorEx2
import Derived.Test.YtelckcmlobadkaaGreatDoorEx3
import Derived.Test.YtelckcmlobadkaaGreatDoorEx4
import Derived.Test.YtelckcmlobadkaaGreatDoorEx5
import Derived.Test.YtelckcmlobadkaaGreatDoorProg
import Derived.KernelRfl
import Derived.Test.YtelckcmlobadkaaGreatDoorRows
import Derived.ProofKit
import Derived.WalkKit
import Derived.LaidMore
import Derived.OpenShut
import Derived.Stop.Joined
set_option linter.unusedSimpArgs false
set_option linter.unusedVariables false
open Nat renaming reduceEqDiff → γ, reduceAdd → δ, reduceSub → ε, reduceMul → ζ, reduceLT → η, reduceLeDiff → θ, reduceBEq → τ
open Int renaming reduceLT → ι, reduceLE → κ, reduceEq → μ, reduceToNat → ν, reduceAdd → ξ, reduceNeg → ο, reduceBEq → ρ, reduceBNe → σ
open List renaming reduceReplicate → υ
open List renaming length_map → bJT, range → bJU, length_append → bJX, replicate → bJY, getElem_mem → bJZ, length_singleton → bKD, getElem?_eq_getElem → bKG, mem_cons → bKI, getD_eq_getElem?_getD → bKK, take_of_length_le → bKL, length_take → bKN, all_eq_true → bKP, not_mem_nil → bKR, take_length → bKU, append_assoc → bKV, drop_zero → bKY, mem_map → bLA, getElem?_map → bLC, getElem?_eq_some_iff → bLD, map_cons → bLF, getElem?_eq_none → bLH, getElem_map → bLI, getElem_of_mem → bLJ, append_nil → bLK, mem_range → bLN, drop_eq_getElem_cons → bLO, mem_append → bLQ, Sublist → bLR, length_drop → bLS, map_append → bLT, take_succ_eq_append_getElem → bLY, length_nil → bMD, map_nil → bME, length_set → bMG, length_cons → bMH, mem_of_getElem? → bMI, getElem?_append_left → bMK, take_append_drop → bML, nodup_append → bMM, ext_getElem → bMR, getElem?_append_right → bMS, getElem?_take → bMU, set_append_right → bMV, drop_of_length_le → bNB
open Nat renaming gcd → bJV, zero_le → bKA, le_refl → bKB, mul_add → bKH, lt_or_ge → bKO, mul_assoc → bKQ, zero_add → bKS, mul_comm → bKT, add_mul → bKW, mul_le_mul_right → bKX, mod_eq_of_lt → bLB, mod_lt → bLG, pow_succ → bLL, add_zero → bLP, eq_zero_or_pos → bLU, le_trans → bLV, min_eq_left → bLW, add_assoc → bLZ, mul_le_mul_left → bMA, pos_of_ne_zero → bMB, pow_pos → bMJ, div_lt_iff_lt_mul → bMN, div_le_self → bMT, div_add_mod → bMW, div_eq_of_lt → bMX
open Bool renaming not_true → bJW, false_and → bKC, not_false → bKF, true_and → bKJ, and_eq_true → bKM, and_false → bLE, and_true → bMF, and_assoc → bMP, false_eq_true → bNA
open Option renaming map_eq_some_iff → bKE, map_some → bKZ, getD_some → bLX, some → bMC, bind_eq_some_iff → bMY, bind_some → bNC
open Array renaming replicate → bLM, length_toList → bMO, getElem?_eq_getElem → bMZ, getElem?_eq_some_iff → bND
open Int renaming toNat_natCast → bMQ
namespace Go.Proofs.YtelckcmlobadkaaGreatDoor
open Go Go.PM
def bxF:List Nat:=[11,51,27,12,26,31,14,30,0,0,0,3,7,9,5,8,4,6,17,24,18,23,48,36,0,0,0,20,10,28,152,111,110,66,65,54,155,154,64,85,115,84,114,161,113,112,136,29,162,105,32,101,102,100,77,99,76,153,53,55,137,103,96,151,135,134,104,59,75,80,74,97,79,73,78,98,72,81,40,43,82,42,33,50,45,46,47,49,60,61,62,0,0,0,41,69,56,87,126,88,128,131,92,127,67,86,93,129,94,130,71,68,70,119,91,90,116,89,122,121,120,124,125,95,150,133,132,144,117,123,147,146,118,149,145,148,160,158,143,166,163,159,165,164,0,0,0,15,22,21,16,44,13,25,19,35,57,39,38,58,37,34,83,63,140,108,109,141,138,107,106,0,0,0,0,0,0,0,0,0,0,0,0,0,0,0,0,0,0,0,0,0,0,0,0,52,0,0,0,0,0]
def btO:List (Option Nat):=[none,none,none,some 11,some 16,some 14,some 17,some 12,some 15,some 13,some 28,some 0,some 3,some 152,some 6,some 147,some 150,some 18,some 20,some 154,some 27,some 149,some 148,some 21,some 19,some 153,some 4,some 2,some 29,some 47,some 7,some 5,some 50,some 82,some 161,some 155,some 23,some 160,some 158,some 157,some 78,some 94,some 81,some 79,some 151,some 84,some 85,some 86,some 22,some 87,some 83,some 1,some 195,some 58,some 35,some 59,some 96,some 156,some 159,some 67,some 88,some 89,some 90,some 163,some 38,some 34,some 33,some 104,some 111,some 95,some 112,some 110,some 76,some 73,some 70,some 68,some 56,some 54,some 74,some 72,some 69,some 77,some 80,some 162,some 41,some 39,some 105,some 97,some 99,some 117,some 115,some 114,some 102,some 106,some 108,some 123,some 62,some 71,some 75,some 55,some 53,some 51,some 52,some 61,some 66,some 49,some 170,some 169,some 165,some 166,some 32,some 31,some 45,some 44,some 42,some 40,some 116,some 128,some 132,some 113,some 120,some 119,some 118,some 129,some 121,some 122,some 98,some 103,some 100,some 107,some 109,some 101,some 126,some 125,some 65,some 64,some 46,some 60,some 168,none,some 164,some 167,none,some 138,some 127,some 134,some 131,some 130,some 135,some 133,some 124,some 63,some 30,some 57,some 37,some 36,none,none,some 137,some 141,some 136,some 43,some 48,some 140,some 143,some 142,some 139]
def num (n:Nat):FuncId:=bxF.getD n 0
def nameOf (f:FuncId):Option Nat:=btO.getD f none
noncomputable def C:Ctx:=⟨Tryz.prog,num⟩
noncomputable def T (ro:List Nat):Tbl:={ P:=Tryz.prog,num:=num,name:=nameOf,ro:=ro }
theorem q0:aL C 0 PM.acO:=bD (T beA) rfl rfl Tryz.func11 (by kernel_rfl) (by kernel_rfl)
theorem q1:aL C 1 PM.ayU:=bD (T bmH) rfl rfl Tryz.func51 (by kernel_rfl) (by kernel_rfl)
theorem q2:aL C 2 PM.a7C:=bD (T btH) rfl rfl Tryz.func27 (by kernel_rfl) (by kernel_rfl)
theorem q4:aL C 4 PM.adM:=bD (T bmN) rfl rfl Tryz.func26 (by kernel_rfl) (by kernel_rfl)
theorem q5:aL C 5 PM.a7R:=bD (T btL) rfl rfl Tryz.func31 (by kernel_rfl) (by kernel_rfl)
theorem q7:aL C 7 PM.adL:=bD (T bmI) rfl rfl Tryz.func30 (by kernel_rfl) (by kernel_rfl)
theorem q20:aL C 20 PM.acF:=bD (T bcV) rfl rfl Tryz.func18 (by kernel_rfl) (by kernel_rfl)
theorem q23:aL C 23 PM.acK:=bD (T bdU) rfl rfl Tryz.func36 (by kernel_rfl) (by kernel_rfl)
theorem q27:aL C 27 PM.acL:=bD (T bdX) rfl rfl Tryz.func20 (by kernel_rfl) (by kernel_rfl)
theorem q28:aL C 28 PM.a7Q:=bD (T btJ) rfl rfl Tryz.func10 (by kernel_rfl) (by kernel_rfl)
theorem q29:aL C 29 PM.ayV:=bD (T bmL) rfl rfl Tryz.func28 (by kernel_rfl) (by kernel_rfl)
theorem q30:aL C 30 PM.a9S:=bD (T buW) rfl rfl Tryz.func152 (by kernel_rfl) (by kernel_rfl)
theorem q31:aL C 31 PM.azG:=bD (T boY) rfl rfl Tryz.func111 (by kernel_rfl) (by kernel_rfl)
theorem q32:aL C 32 PM.a9T:=bD (T buY) rfl rfl Tryz.func110 (by kernel_rfl) (by kernel_rfl)
theorem q33:aL C 33 PM.udiv:=bD (T bvA) rfl rfl Tryz.func66 (by kernel_rfl) (by kernel_rfl)
theorem q34:aL C 34 PM.a9Y:=bD (T bvC) rfl rfl Tryz.func65 (by kernel_rfl) (by kernel_rfl)
theorem q35:aL C 35 PM.azI:=bD (T bpE) rfl rfl Tryz.func54 (by kernel_rfl) (by kernel_rfl)
theorem q36:aL C 36 PM.baA:=bD (T bvE) rfl rfl Tryz.func155 (by kernel_rfl) (by kernel_rfl)
theorem q37:aL C 37 PM.baC:=bD (T bvI) rfl rfl Tryz.func154 (by kernel_rfl) (by kernel_rfl)
theorem q38:aL C 38 PM.azK:=bD (T bpN) rfl rfl Tryz.func64 (by kernel_rfl) (by kernel_rfl)
theorem q39:aL C 39 PM.SG:=bD (T a9X) rfl rfl Tryz.func85 (by kernel_rfl) (by kernel_rfl)
theorem q40:aL C 40 PM.azH:=bD (T bpC) rfl rfl Tryz.func115 (by kernel_rfl) (by kernel_rfl)
theorem q41:aL C 41 PM.agZ:=bD (T bhT) rfl rfl Tryz.func84 (by kernel_rfl) (by kernel_rfl)
theorem q42:aL C 42 PM.ahA:=bD (T bhV) rfl rfl Tryz.func114 (by kernel_rfl) (by kernel_rfl)
theorem q43:aL C 43 PM.azJ:=bD (T bpK) rfl rfl Tryz.func161 (by kernel_rfl) (by kernel_rfl)
theorem q44:aL C 44 PM.ahE:=bD (T bhX) rfl rfl Tryz.func113 (by kernel_rfl) (by kernel_rfl)
theorem q45:aL C 45 PM.uup:=bD (T byD) rfl rfl Tryz.func112 (by kernel_rfl) (by kernel_rfl)
theorem q47:aL C 47 PM.baH:=bD (T bvL) rfl rfl Tryz.func29 (by kernel_rfl) (by kernel_rfl)
theorem q50:aL C 50 PM.ahR:=bD (T bpV) rfl rfl Tryz.func32 (by kernel_rfl) (by kernel_rfl)
theorem q58:aL C 58 PM.SJ:=bD (T baK) rfl rfl Tryz.func53 (by kernel_rfl) (by kernel_rfl)
theorem q59:aL C 59 PM.azV:=bD (T bqB) rfl rfl Tryz.func55 (by kernel_rfl) (by kernel_rfl)
theorem q95:aL C 95 PM.a4Z:=bD (T brZ) rfl rfl Tryz.func69 (by kernel_rfl) (by kernel_rfl)
theorem q96:aL C 96 PM.a5F:=bD (T bsK) rfl rfl Tryz.func56 (by kernel_rfl) (by kernel_rfl)
theorem q97:aL C 97 PM.abS:=bD (T bcG) rfl rfl Tryz.func87 (by kernel_rfl) (by kernel_rfl)
theorem q98:aL C 98 PM.ayM:=bD (T bkO) rfl rfl Tryz.func126 (by kernel_rfl) (by kernel_rfl)
theorem q99:aL C 99 PM.ayN:=bD (T bkQ) rfl rfl Tryz.func88 (by kernel_rfl) (by kernel_rfl)
theorem bDB:aL C 100 PM.ayO:=bD (T bkS) rfl rfl Tryz.func128 (by kernel_rfl) (by kernel_rfl)
theorem bDC:aL C 101 PM.gone:=bD (T bsF) rfl rfl Tryz.func131 (by kernel_rfl) (by kernel_rfl)
theorem bDD:aL C 102 PM.ayP:=bD (T bkV) rfl rfl Tryz.func92 (by kernel_rfl) (by kernel_rfl)
theorem bDE:aL C 103 PM.abT:=bD (T bcI) rfl rfl Tryz.func127 (by kernel_rfl) (by kernel_rfl)
theorem bDF:aL C 104 PM.gin:=bD (T bwT) rfl rfl Tryz.func67 (by kernel_rfl) (by kernel_rfl)
theorem bDG:aL C 105 PM.a5A:=bD (T bsB) rfl rfl Tryz.func86 (by kernel_rfl) (by kernel_rfl)
theorem bDH:aL C 106 PM.a5B:=bD (T bsD) rfl rfl Tryz.func93 (by kernel_rfl) (by kernel_rfl)
theorem bDI:aL C 107 PM.ayQ:=bD (T bkX) rfl rfl Tryz.func129 (by kernel_rfl) (by kernel_rfl)
theorem bDJ:aL C 108 PM.ayR:=bD (T bkZ) rfl rfl Tryz.func94 (by kernel_rfl) (by kernel_rfl)
theorem bDK:aL C 109 PM.abW:=bD (T bcL) rfl rfl Tryz.func130 (by kernel_rfl) (by kernel_rfl)
theorem bDL:aL C 110 PM.ayS:=bD (T blC) rfl rfl Tryz.func71 (by kernel_rfl) (by kernel_rfl)
theorem bDM:aL C 111 PM.aDE:=bD (T brX) rfl rfl Tryz.func68 (by kernel_rfl) (by kernel_rfl)
theorem bDN:aL C 112 PM.a5C:=bD (T bsH) rfl rfl Tryz.func70 (by kernel_rfl) (by kernel_rfl)
theorem bDO:aL C 113 PM.VU:=bD (T brM) rfl rfl Tryz.func119 (by kernel_rfl) (by kernel_rfl)
theorem bDP:aL C 114 PM.a4K:=bD (T brO) rfl rfl Tryz.func91 (by kernel_rfl) (by kernel_rfl)
theorem bDQ:aL C 115 PM.abH:=bD (T bkK) rfl rfl Tryz.func90 (by kernel_rfl) (by kernel_rfl)
theorem bDR:aL C 116 PM.DY:=bD (T a4U) rfl rfl Tryz.func116 (by kernel_rfl) (by kernel_rfl)
theorem bDS:aL C 117 PM.akR:=bD (T brV) rfl rfl Tryz.func89 (by kernel_rfl) (by kernel_rfl)
theorem bDT:aL C 118 PM.abR:=bD (T bcE) rfl rfl Tryz.func122 (by kernel_rfl) (by kernel_rfl)
theorem bDU:aL C 119 PM.a4J:=bD (T brK) rfl rfl Tryz.func121 (by kernel_rfl) (by kernel_rfl)
theorem bDV:aL C 120 PM.qW:=bD (T a4R) rfl rfl Tryz.func120 (by kernel_rfl) (by kernel_rfl)
theorem bDW:aL C 121 PM.abQ:=bD (T bcC) rfl rfl Tryz.func124 (by kernel_rfl) (by kernel_rfl)
theorem bDX:aL C 122 PM.ayL:=bD (T bkM) rfl rfl Tryz.func125 (by kernel_rfl) (by kernel_rfl)
theorem bDY:aL C 123 PM.acI:=bD (T bmA) rfl rfl Tryz.func95 (by kernel_rfl) (by kernel_rfl)
theorem bDZ:aL C 124 PM.MW:=bD (T bcY) rfl rfl Tryz.func150 (by kernel_rfl) (by kernel_rfl)
theorem bEA:aL C 125 PM.NA:=bD (T bdG) rfl rfl Tryz.func133 (by kernel_rfl) (by kernel_rfl)
theorem bEB:aL C 126 PM.EB:=bD (T a6H) rfl rfl Tryz.func132 (by kernel_rfl) (by kernel_rfl)
theorem bEC:aL C 127 PM.a7U:=bD (T btN) rfl rfl Tryz.func144 (by kernel_rfl) (by kernel_rfl)
theorem bED:aL C 128 PM.ayW:=bD (T bnB) rfl rfl Tryz.func117 (by kernel_rfl) (by kernel_rfl)
theorem bEE:aL C 129 PM.a7W:=bD (T btQ) rfl rfl Tryz.func123 (by kernel_rfl) (by kernel_rfl)
theorem bEF:aL C 130 PM.a7Y:=bD (T btS) rfl rfl Tryz.func147 (by kernel_rfl) (by kernel_rfl)
theorem bEG:aL C 131 PM.a8D:=bD (T btU) rfl rfl Tryz.func146 (by kernel_rfl) (by kernel_rfl)
theorem bEH:aL C 132 PM.ayX:=bD (T bnD) rfl rfl Tryz.func118 (by kernel_rfl) (by kernel_rfl)
theorem bEI:aL C 133 PM.a8J:=bD (T btW) rfl rfl Tryz.func149 (by kernel_rfl) (by kernel_rfl)
theorem bEJ:aL C 134 PM.a8N:=bD (T btY) rfl rfl Tryz.func145 (by kernel_rfl) (by kernel_rfl)
theorem bEK:aL C 135 PM.ayY:=bD (T bnG) rfl rfl Tryz.func148 (by kernel_rfl) (by kernel_rfl)
theorem bEL:aL C 136 PM.RV:=bD (T a8C) rfl rfl Tryz.func160 (by kernel_rfl) (by kernel_rfl)
theorem bEM:aL C 137 PM.adZ:=bD (T beK) rfl rfl Tryz.func158 (by kernel_rfl) (by kernel_rfl)
theorem bEN:aL C 138 PM.xJ:=bD (T a8I) rfl rfl Tryz.func143 (by kernel_rfl) (by kernel_rfl)
theorem bEO:aL C 139 PM.HN:=bD (T aTA) rfl rfl Tryz.func166 (by kernel_rfl) (by kernel_rfl)
theorem bnO:aL C 140 PM.aeA:=bD (T beN) rfl rfl Tryz.func163 (by kernel_rfl) (by kernel_rfl)
theorem bnP:aL C 141 PM.aeC:=bD (T beP) rfl rfl Tryz.func159 (by kernel_rfl) (by kernel_rfl)
theorem amG:aL C 142 PM.zO:=bD (T aIY) rfl rfl Tryz.func165 (by kernel_rfl) (by kernel_rfl)
theorem bEP:aL C 143 PM.nup:=bD (T bxH) rfl rfl Tryz.func164 (by kernel_rfl) (by kernel_rfl)
theorem bEQ:aL C 147 PM.tat:=bD (T byA) rfl rfl Tryz.func15 (by kernel_rfl) (by kernel_rfl)
theorem bER:aL C 148 PM.afX:=bD (T bgZ) rfl rfl Tryz.func22 (by kernel_rfl) (by kernel_rfl)
theorem bES:aL C 149 PM.SE:=bD (T a9Q) rfl rfl Tryz.func21 (by kernel_rfl) (by kernel_rfl)
theorem bET:aL C 150 PM.agI:=bD (T bhC) rfl rfl Tryz.func16 (by kernel_rfl) (by kernel_rfl)
theorem bEU:aL C 151 PM.afM:=bD (T bgS) rfl rfl Tryz.func44 (by kernel_rfl) (by kernel_rfl)
theorem bEV:aL C 152 PM.azE:=bD (T boQ) rfl rfl Tryz.func13 (by kernel_rfl) (by kernel_rfl)
theorem bEW:aL C 153 PM.SD:=bD (T a9O) rfl rfl Tryz.func25 (by kernel_rfl) (by kernel_rfl)
theorem bEX:aL C 154 PM.azF:=bD (T boT) rfl rfl Tryz.func19 (by kernel_rfl) (by kernel_rfl)
theorem bEY:aL C 155 PM.afV:=bD (T bgU) rfl rfl Tryz.func35 (by kernel_rfl) (by kernel_rfl)
theorem bEZ:aL C 156 PM.azD:=bD (T boN) rfl rfl Tryz.func57 (by kernel_rfl) (by kernel_rfl)
theorem bFA:aL C 157 PM.agJ:=bD (T bhE) rfl rfl Tryz.func39 (by kernel_rfl) (by kernel_rfl)
theorem bFB:aL C 158 PM.a9R:=bD (T boV) rfl rfl Tryz.func38 (by kernel_rfl) (by kernel_rfl)
theorem bFC:aL C 159 PM.agQ:=bD (T bhP) rfl rfl Tryz.func58 (by kernel_rfl) (by kernel_rfl)
theorem bFD:aL C 160 PM.EO:=bD (T bhL) rfl rfl Tryz.func37 (by kernel_rfl) (by kernel_rfl)
theorem bFE:aL C 161 PM.agP:=bD (T bhN) rfl rfl Tryz.func34 (by kernel_rfl) (by kernel_rfl)
theorem bzS:eG C:={
 r0:=q0,
 r1:=q1,
 r2:=q2,
 r4:=q4,
 r5:=q5,
 r7:=q7,
 r20:=q20,
 r23:=q23,
 r27:=q27,
 r28:=q28,
 r29:=q29,
 r30:=q30,
 r31:=q31,
 r32:=q32,
 r33:=q33,
 r34:=q34,
 r35:=q35,
 r36:=q36,
 r37:=q37,
 r38:=q38,
 r39:=q39,
 r40:=q40,
 r41:=q41,
 r42:=q42,
 r43:=q43,
 r44:=q44,
 r45:=q45,
 r47:=q47,
 r50:=q50,
 r58:=q58,
 r59:=q59,
 r95:=q95,
 r96:=q96,
 r97:=q97,
 r98:=q98,
 r99:=q99,
 r100:=bDB,
 r101:=bDC,
 r102:=bDD,
 r103:=bDE,
 r104:=bDF,
 r105:=bDG,
 r106:=bDH,
 r107:=bDI,
 r108:=bDJ,
 r109:=bDK,
 r110:=bDL,
 r111:=bDM,
 r112:=bDN,
 r113:=bDO,
 r114:=bDP,
 r115:=bDQ,
 r116:=bDR,
 r117:=bDS,
 r118:=bDT,
 r119:=bDU,
 r120:=bDV,
 r121:=bDW,
 r122:=bDX,
 r123:=bDY,
 r124:=bDZ,
 r125:=bEA,
 r126:=bEB,
 r127:=bEC,
 r128:=bED,
 r129:=bEE,
 r130:=bEF,
 r131:=bEG,
 r132:=bEH,
 r133:=bEI,
 r134:=bEJ,
 r135:=bEK,
 r136:=bEL,
 r137:=bEM,
 r138:=bEN,
 r139:=bEO,
 r140:=bnO,
 r141:=bnP,
 r142:=amG,
 r143:=bEP,
 r147:=bEQ,
 r148:=bER,
 r149:=bES,
 r150:=bET,
 r151:=bEU,
 r152:=bEV,
 r153:=bEW,
 r154:=bEX,
 r155:=bEY,
 r156:=bEZ,
 r157:=bFA,
 r158:=bFB,
 r159:=bFC,
 r160:=bFD,
 r161:=bFE }
end Go.Proofs.YtelckcmlobadkaaGreatDoor
namespace Go.Proofs.YtelckcmlobadkaaGreatDoor
open Go Go.PM Go.RowKit Go.ChangeShapes Go.WideShapes
theorem Tryz.own:ownKnob Tryz.prog.godebug=none:=by kernel_rfl
theorem Tryz.laidOut:laidOutB Tryz.prog=true:=by kernel_rfl
theorem itoa:vE C:=fun n hn=>by
 refine⟨⟨Tryz.f52,Tryz.func52,by kernel_rfl,by kernel_rfl⟩,fun E w vs hN hW hvs=>?_⟩
 obtain⟨vl⟩:=vs
 cases hvs with
 | cons e1 e2 =>
 cases e2
 cases e1
 refine (Any.strconv_Itoa_small Tryz.bsW n hn w).mono fun e w' he=>?_
 obtain⟨rfl,rfl⟩:=he
 exact⟨_,.str (bU n),E,.nil,rfl,hW,.str ⟨(Lib.decDigits n).toArray⟩,.refl _ _ _,rfl,rfl⟩
theorem bbI {pv:PV} (h:PV.Ty (.sl [.int .u8]) pv):∃ l:List Nat,pv=.sl 1 (kN l)∧(∀ x∈l,x<256)∧l.length≤9223372036854775807:=by
 obtain⟨xs,rfl,hl,hx⟩:=Ty.WU h
 refine⟨xs.map Int.toNat,?_,?_,?_⟩
 ·unfold a5Q kN
  rw[List.map_map]
  congr 1
  refine List.map_congr_left fun x hm=>?_
  have:=(hx x hm).1
  simp only[Function.comp]
  rw[Int.toNat_of_nonneg this]
 ·intro y hy
  obtain⟨x,hm,rfl⟩:=bLA.1 hy
  have:=(hx x hm).2
  have h0:=(hx x hm).1
  have hm:IntKind.u8.max=255:=by decide
  rw[hm] at this
  omega
 ·rw[bJT]
  have:maxLen≤9223372036854775807:=by decide
  omega
end Go.Proofs.YtelckcmlobadkaaGreatDoor
namespace Go.PM
open Go Go.Na
theorem boB {C:Ctx} (f:aE) (hv:VF f) (v:Nat) (h:v<f.bHQ.length) :
  IE.wp C (aR azA.res (bQ (.int .i64 (lE f v)))) (PF.args [.agg f.cells,.int .i64 v]) .nil:=by
 obtain⟨hp,he⟩:=yI hv h
 have hpol:=hv.bID _ (bJZ hp)
 rw[he] at hpol
 have hw:IntKind.i64.wrap ((fR f v).k+(fR f v).m)=(fR f v).k+(fR f v).m:=wrap_i64 Om Om
 simp only[go_sem,γ,δ,ε,ζ,η,θ,ι,κ,μ,ν,ξ,ο,ρ,σ,τ,υ,reduceIte,reduceCtorEq,IE,aKG,azA]
 refine bL .nil dJ PH.nil_le ?_
 simp only[go_sem,γ,δ,ε,ζ,η,θ,ι,κ,μ,ν,ξ,ο,ρ,σ,τ,υ,reduceIte,reduceCtorEq,aKH,wQ h,hv.aeF h,pX hp,he]
 refine aO fun o ho=>?_
 simp only[go_sem,γ,δ,ε,ζ,η,θ,ι,κ,μ,ν,ξ,ο,ρ,σ,τ,υ,reduceIte,reduceCtorEq,aKI,hw]
 refine⟨PH.nil_le,?_⟩
 exact fY (n:=(fR f v).k+(fR f v).m) Ev rfl

def fT (l:List Nat) (d v:Nat):aE:=(jA (l.take 400) d v 0).1
structure ET (f:aE) (L:List (List Int)):Prop where
 len:L.length=f.bHQ.length
 row:∀ v (h:v<L.length),((L[v].length:Nat):Int)=lE f v
 home:∀ r∈L,∀ x∈r,-1≤x∧x<f.bHN.length
theorem ET.bAG {f:aE} {L:List (List Int)} (h:ET f L) (hV:VF f):∀ k,k≤L.length→(L.take k).flatten.length≤k*8:=by
 have hl:=h.len
 intro k
 induction k with
 | zero=>intro _; simp
 | succ k ih =>
  intro hk
  rw[mV L hk,bJX]
  have h1:=ih Om
  have h2:=h.row k hk
  obtain⟨hp,he⟩:=yI hV (Om:k<f.bHQ.length)
  have hpol:=hV.bID _ (bJZ hp)
  rw[he] at hpol
  unfold lE at h2
  omega
theorem ET.ok {f:aE} (hV:VF f) {L:List (List Int)} (h:ET f L):eY L:=by
 have hv:=hV.small.bHQ
 have hl:=h.len
 have:=h.bAG hV L.length (bKB _)
 rw[bKU] at this
 exact⟨by omega,by omega⟩
section
variable {C:Ctx} {F F':PF} {H:PH}
theorem cM (hle:F.le F') {x:aP} {v:PV} (h:x.ev F=some v):x.ev F'=some v:=by
 cases x
 ·exact hle _ _ h
 all_goals exact h
theorem aaY (hle:F.le F'):∀ {xs:List aP} {vs:List PV},aP.evs F xs=some vs→aP.evs F' xs=some vs
 | [],_,h=>h
 | x::xs,vs,h=>by
  rw[xT] at h ⊢
  cases hx:x.ev F with
  | none=>simp[hx] at h
  | some v =>
   cases hs:aP.evs F xs with
   | none=>simp[hs] at h
   | some ws =>
    rw[hx,hs] at h
    rw[cM hle hx,aaY hle hs]
    exact h
theorem aBQ (hle:F.le F'):∀ {ps:List (Nat × Nat × aP)} {cs ds:List PV},oZ cs F ps=some ds→oZ cs F' ps=some ds
 | [],_,_,h=>h
 | (off,size,x)::ps,cs,ds,h=>by
  simp only[oZ] at h ⊢
  cases hx:x.ev F with
  | none=>simp[hx] at h
  | some v =>
   rw[hx] at h
   rw[cM hle hx]
   simp only at h ⊢
   split at h
   ·rename_i hc; rw[if_pos hc]; exact aBQ hle h
   ·cases h
theorem AU (hle:F.le F') {size:Nat}:∀ {ps:List (Nat × aP)} {cs ds:List (List PV)},gQ size cs F ps=some ds→gQ size cs F' ps=some ds
 | [],_,_,h=>h
 | (i,x)::ps,cs,ds,h=>by
  simp only[gQ] at h ⊢
  cases hx:x.ev F with
  | none=>simp[hx] at h
  | some v =>
   rw[hx] at h
   rw[cM hle hx]
   simp only at h ⊢
   split at h
   ·rename_i hc; rw[if_pos hc]; exact AU hle h
   ·cases h
theorem LT (hle:F.le F') {d n:Int} {x:Option aP} (h:bnd F d x=some n):bnd F' d x=some n:=by
 cases x with
 | none=>exact h
 | some x =>
  simp only[bnd] at h ⊢
  cases hx:x.ev F with
  | none=>simp[hx] at h
  | some v=>rw[cM hle hx,← hx]; exact h
theorem aJK {op:POp} {v:PV} (hle:F.le F') (h:aN op F H=some v):aN op F' H=some v:=by
 cases op
 case mv x=>exact cM hle h
 case pick c a b =>
  simp only[aN] at h ⊢
  cases hc:c.ev F with
  | none=>simp[hc] at h
  | some t =>
   rw[hc] at h
   rw[cM hle hc]
   cases t<;>simp only at h ⊢<;>try cases h
   rename_i t
   cases t
   ·simp only[bNA,if_false] at h ⊢; exact cM hle h
   ·simp only[if_true] at h ⊢; exact cM hle h
 case same x =>
  simp only[aN] at h ⊢
  cases hx:x.ev F with
  | none=>simp[hx] at h
  | some a=>rw[cM hle hx,← hx]; exact h
 case un o x =>
  simp only[aN] at h ⊢
  cases hx:x.ev F with
  | none=>simp[hx] at h
  | some a=>rw[cM hle hx,← hx]; exact h
 case conv k x =>
  simp only[aN] at h ⊢
  cases hx:x.ev F with
  | none=>simp[hx] at h
  | some a=>rw[cM hle hx,← hx]; exact h
 case bIE x =>
  simp only[aN] at h ⊢
  cases hx:x.ev F with
  | none=>simp[hx] at h
  | some a=>rw[cM hle hx,← hx]; exact h
 case bJB o x =>
  simp only[aN] at h ⊢
  cases hx:x.ev F with
  | none=>simp[hx] at h
  | some a=>rw[cM hle hx,← hx]; exact h
 case field o n x =>
  simp only[aN] at h ⊢
  cases hx:x.ev F with
  | none=>simp[hx] at h
  | some a=>rw[cM hle hx,← hx]; exact h
 case bIX x =>
  simp only[aN] at h ⊢
  cases hx:x.ev F with
  | none=>simp[hx] at h
  | some a=>rw[cM hle hx,← hx]; exact h
 case bJR x =>
  simp only[aN] at h ⊢
  cases hx:x.ev F with
  | none=>simp[hx] at h
  | some a=>rw[cM hle hx,← hx]; exact h
 case extract x i =>
  simp only[aN] at h ⊢
  cases hx:x.ev F with
  | none=>simp[hx] at h
  | some a=>rw[cM hle hx,← hx]; exact h
 case bIF x =>
  simp only[aN] at h ⊢
  cases hx:x.ev F with
  | none=>simp[hx] at h
  | some a=>rw[cM hle hx,← hx]; exact h
 case len x =>
  simp only[aN] at h ⊢
  cases hx:x.ev F with
  | none=>simp[hx] at h
  | some a=>rw[cM hle hx,← hx]; exact h
 case box r x =>
  cases r
  ·cases h
  simp only[aN] at h ⊢
  cases hx:x.ev F with
  | none=>simp[hx] at h
  | some a=>rw[cM hle hx,← hx]; exact h
 case load n p =>
  cases n
  all_goals
   simp only[aN] at h ⊢
   cases hx:p.ev F with
   | none=>simp[hx] at h
   | some a=>rw[cM hle hx,← hx]; exact h
 case bin o x y =>
  simp only[aN] at h ⊢
  cases hx:x.ev F with
  | none=>simp[hx] at h
  | some a =>
   cases hy:y.ev F with
   | none=>simp[hx,hy] at h
   | some b=>rw[cM hle hx,cM hle hy,← hx,← hy]; exact h
 case eqb n x y =>
  simp only[aN] at h ⊢
  cases hx:x.ev F with
  | none=>simp[hx] at h
  | some a =>
   cases hy:y.ev F with
   | none=>simp[hx,hy] at h
   | some b=>rw[cM hle hx,cM hle hy,← hx,← hy]; exact h
 case eqs n k x y =>
  simp only[aN] at h ⊢
  cases hx:x.ev F with
  | none=>simp[hx] at h
  | some a =>
   cases hy:y.ev F with
   | none=>simp[hx,hy] at h
   | some b=>rw[cM hle hx,cM hle hy,← hx,← hy]; exact h
 case bIK s x i =>
  simp only[aN] at h ⊢
  cases hx:x.ev F with
  | none=>simp[hx] at h
  | some a =>
   cases hy:i.ev F with
   | none=>simp[hx,hy] at h
   | some b=>rw[cM hle hx,cM hle hy,← hx,← hy]; exact h
 case idxA n s x i =>
  simp only[aN] at h ⊢
  cases hx:x.ev F with
  | none=>simp[hx] at h
  | some a =>
   cases hy:i.ev F with
   | none=>simp[hx,hy] at h
   | some b=>rw[cM hle hx,cM hle hy,← hx,← hy]; exact h
 case idxV n s g x i =>
  simp only[aN] at h ⊢
  cases hx:x.ev F with
  | none=>simp[hx] at h
  | some a =>
   cases hy:i.ev F with
   | none=>simp[hx,hy] at h
   | some b=>rw[cM hle hx,cM hle hy,← hx,← hy]; exact h
 case bIY x i =>
  simp only[aN] at h ⊢
  cases hx:x.ev F with
  | none=>simp[hx] at h
  | some a =>
   cases hy:i.ev F with
   | none=>simp[hx,hy] at h
   | some b=>rw[cM hle hx,cM hle hy,← hx,← hy]; exact h
 case bIQ m x y =>
  simp only[aN] at h ⊢
  cases hx:x.ev F with
  | none=>simp[hx] at h
  | some a =>
   cases hy:y.ev F with
   | none=>simp[hx,hy] at h
   | some b=>rw[cM hle hx,cM hle hy,← hx,← hy]; exact h
 case lookup sh z x k ok =>
  simp only[aN] at h ⊢
  cases hx:x.ev F with
  | none=>simp[hx] at h
  | some a =>
   cases hy:k.ev F with
   | none=>simp[hx,hy] at h
   | some b=>rw[cM hle hx,cM hle hy,← hx,← hy]; exact h
 case build z ps =>
  simp only[aN,bKE] at h ⊢
  obtain⟨cs,h1,h2⟩:=h
  exact⟨cs,aBQ hle h1,h2⟩
 case bHU r s l z ps =>
  cases r
  ·cases h
  simp only[aN] at h ⊢
  split at h
  ·rename_i hc
   rw[if_pos hc]
   rw[bKE] at h ⊢
   obtain⟨cs,h1,h2⟩:=h
   exact⟨cs,AU hle h1,h2⟩
  ·cases h
 case mkfn n cs =>
  simp only[aN,bKE] at h ⊢
  obtain⟨vs,h1,h2⟩:=h
  exact⟨vs,aaY hle h1,h2⟩
 case sliceA n s x lo hi mx =>
  cases lo<;>cases hi<;>cases mx<;>simp only[aN] at h ⊢<;>try cases h
  cases hx:x.ev F with
  | none=>simp[hx] at h
  | some a=>rw[cM hle hx,← hx]; exact h
 case bIS x lo hi =>
  simp only[aN] at h ⊢
  cases hx:x.ev F with
  | none=>simp[hx] at h
  | some a =>
   rw[hx] at h
   rw[cM hle hx]
   cases a<;>simp only at h ⊢<;>try cases h
   cases h1:bnd F 0 lo with
   | none=>simp[h1] at h
   | some l =>
    rename_i s
    cases h2:bnd F s.length hi with
    | none=>simp[h1,h2] at h
    | some u=>rw[LT hle h1,LT hle h2,← h1,← h2]; exact h
 case slice s x lo hi mx =>
  simp only[aN] at h ⊢
  cases hx:x.ev F with
  | none=>simp[hx] at h
  | some a =>
   rw[hx] at h
   rw[cM hle hx]
   have key:∀ (d:Int) (w:PV),(match bnd F 0 lo,bnd F d hi with
     | some a1,some a2=>match (generalizing:=false) mx with
      | none=>PV.slice s w a1 a2 none
      | some m=>(bnd F 0 (some m)).bind fun m=>PV.slice s w a1 a2 (some m)
     | _,_=>none)=some v→(match bnd F' 0 lo,bnd F' d hi with
     | some a1,some a2=>match (generalizing:=false) mx with
      | none=>PV.slice s w a1 a2 none
      | some m=>(bnd F' 0 (some m)).bind fun m=>PV.slice s w a1 a2 (some m)
     | _,_=>none)=some v:=by
    intro d w h
    cases h1:bnd F 0 lo with
    | none=>simp[h1] at h
    | some l =>
     cases h2:bnd F d hi with
     | none=>simp[h1,h2] at h
     | some u =>
      rw[h1,h2] at h
      rw[LT hle h1,LT hle h2]
      cases mx with
      | none=>exact h
      | some m =>
       simp only at h ⊢
       cases h3:bnd F 0 (some m) with
       | none=>simp[h3] at h
       | some q=>rw[LT hle h3,← h3]; exact h
   cases a<;>simp only at h ⊢<;>first | exact key _ _ h | cases h
 all_goals exact h
theorem aAO {op:POp} {r:(Nat→PV) × cI} (hle:F.le F') (h:cU op F=some r):cU op F'=some r:=by
 cases op
 case box b x =>
  cases b
  ·simp only[cU] at h ⊢
   cases hx:x.ev F with
   | none=>simp[hx] at h
   | some a=>rw[cM hle hx,← hx]; exact h
  ·cases h
 case bHU b s l z ps =>
  cases b
  ·simp only[cU] at h ⊢
   split at h
   ·rename_i hc
    rw[if_pos hc]
    rw[bKE] at h ⊢
    obtain⟨cs,h1,h2⟩:=h
    exact⟨cs,AU hle h1,h2⟩
   ·cases h
  ·cases h
 case bHZ s b z l c =>
  simp only[cU] at h ⊢
  cases hx:l.ev F with
  | none=>simp[hx] at h
  | some a =>
   cases hy:c.ev F with
   | none=>simp[hx,hy] at h
   | some b=>rw[cM hle hx,cM hle hy,← hx,← hy]; exact h
 all_goals exact h
theorem aPS {op:POp} {K:PV→PH→Prop} (hle:F.le F') (h:bW op F H K):bW op F' H K:=by
 cases op
 case store n x y =>
  simp only[bW] at h ⊢
  cases hx:x.ev F with
  | none=>simp[hx] at h
  | some a =>
   cases hy:y.ev F with
   | none=>simp[hx,hy] at h
   | some b=>rw[cM hle hx,cM hle hy]; rw[hx,hy] at h; exact h
 case append s b x y =>
  simp only[bW] at h ⊢
  cases hx:x.ev F with
  | none=>simp[hx] at h
  | some a =>
   cases hy:y.ev F with
   | none=>simp[hx,hy] at h
   | some b=>rw[cM hle hx,cM hle hy]; rw[hx,hy] at h; exact h
 case bIN sh x y z =>
  simp only[bW] at h ⊢
  cases hx:x.ev F with
  | none=>simp[hx] at h
  | some a =>
   cases hy:y.ev F with
   | none=>simp[hx,hy] at h
   | some b =>
    cases hz:z.ev F with
    | none=>simp[hx,hy,hz] at h
    | some c=>rw[cM hle hx,cM hle hy,cM hle hz]; rw[hx,hy,hz] at h; exact h
 case insert sh x y z =>
  simp only[bW] at h ⊢
  cases hx:x.ev F with
  | none=>simp[hx] at h
  | some a =>
   cases hy:y.ev F with
   | none=>simp[hx,hy] at h
   | some b =>
    cases hz:z.ev F with
    | none=>simp[hx,hy,hz] at h
    | some c=>rw[cM hle hx,cM hle hy,cM hle hz]; rw[hx,hy,hz] at h; exact h
 all_goals exact h
theorem PF.bxW (hle:F.le F') (i:Nat) (v:PV):(F.set i v).le (F'.set i v):=by
 intro j u h
 rw[mR] at h ⊢
 split at h
 ·rename_i e; rw[if_pos e]; exact h
 ·rename_i e; rw[if_neg e]; exact hle j u h
theorem PF.yK (hle:F.le F') (d:Option Nat) (v:PV):(F.put d v).le (F'.put d v):=by
 cases d with
 | none=>exact hle
 | some d=>exact PF.bxW hle d v
theorem PF.bwR (hle:F.le F') (o s:Nat) (rs:List (List PV)):(F.frz o s rs).le (F'.frz o s rs):=by
 intro j u h
 rw[rW,bKE] at h ⊢
 obtain⟨x,h1,h2⟩:=h
 exact⟨x,hle j x h1,h2⟩
theorem PF.le_trans {A B D:PF} (h:A.le B) (k:B.le D):A.le D:=fun i v hi=>k i v (h i v hi)
theorem jQ.up {F1:PF} {H1:PH} (h:jQ F H F1 H1):∀ {F':PF},F.le F'→∃ F1',jQ F' H F1' H1∧F1.le F1':=by
 induction h with
 | refl F H=>exact fun {F'} hle=>⟨F',.refl _ _,hle⟩
 | step o ho _ ih =>
  intro F' hle
  obtain⟨F1',h1,h2⟩:=ih (PF.bwR hle o _ _)
  exact⟨F1',.step o ho h1,h2⟩
theorem aaQ {name:Nat} {args:Option (List PV)} {d:Option Nat} {K1 K2:PF→PH→Prop} (hK:∀ F F' H,F.le F'→K1 F H→K2 F' H) (hle:F.le F') {args':Option (List PV)} (ha:∀ vs,args=some vs→args'=some vs) (h:rJ C name args d K1 F H):rJ C name args' d K2 F' H:=by
 obtain⟨vs,H0,R,h1,h2,h3,h4⟩:=h
 exact⟨vs,H0,R,ha _ h1,h2,h3,fun r H' a b=>hK _ _ _ (PF.yK hle d r) (h4 r H' a b)⟩
theorem aGE {cs:List PV} {args:List aP} (hle:F.le F') (vs:List PV) (h:(aP.evs F args).map (·++cs)=some vs):(aP.evs F' args).map (·++cs)=some vs:=by
 rw[bKE] at h ⊢
 obtain⟨x,h1,h2⟩:=h
 exact⟨x,aaY hle h1,h2⟩
theorem aTT {name:Nat} {args:List aP} {cs:List PV} {d:Option Nat} {K1 K2:PF→PH→Prop} (hK:∀ F F' H,F.le F'→K1 F H→K2 F' H) (hle:F.le F') (h:iH C name args cs d K1 F H):iH C name args cs d K2 F' H:=by
 rcases h with h | ⟨F1,H1,h1,h2⟩
 ·exact .inl (aaQ hK hle (aGE hle) h)
 ·obtain⟨F1',k1,k2⟩:=h1.up hle
  exact .inr ⟨F1',H1,k1,aaQ hK k2 (aGE k2) h2⟩
theorem NM {op:POp} {d:Option Nat} {K1 K2:PF→PH→Prop} (hK:∀ F F' H,F.le F'→K1 F H→K2 F' H) (hle:F.le F') (h:mI (cU op F) d K1 F H):mI (cU op F') d K2 F' H:=by
 obtain⟨mk,x,h1,h2⟩:=h
 exact⟨mk,x,aAO hle h1,fun o ho=>hK _ _ _ (PF.yK hle d _) (h2 o ho)⟩
theorem akL {op:POp} {d:Option Nat} {K1 K2:PF→PH→Prop} (hK:∀ F F' H,F.le F'→K1 F H→K2 F' H) (hle:F.le F') (h:bT (aN op F H) d K1 F H):bT (aN op F' H) d K2 F' H:=by
 obtain⟨v,h1,h2⟩:=h
 exact⟨v,aJK hle h1,hK _ _ _ (PF.yK hle d v) h2⟩
theorem azW {op:POp} {d:Option Nat} {K1 K2:PF→PH→Prop} (hK:∀ F F' H,F.le F'→K1 F H→K2 F' H) (hle:F.le F') (h:bW op F H fun r H'=>K1 (F.put d r) H'):bW op F' H fun r H'=>K2 (F'.put d r) H' :=
 aPS hle (zA (fun v H' hh=>hK _ _ _ (PF.yK hle d v) hh) h)
theorem bqN {op:POp} {d:Option Nat} {K1 K2:PF→PH→Prop} (hK:∀ F F' H,F.le F'→K1 F H→K2 F' H) (hle:F.le F') (h:wpOp C op d K1 F H):wpOp C op d K2 F' H:=by
 cases op
 case call n a=>exact aTT hK hle h
 case bJA x a =>
  obtain⟨n,cs,h1,h2⟩:=h
  exact⟨n,cs,cM hle h1,aTT hK hle h2⟩
 case box r x=>cases r<;>first | exact NM (op:=.box false x) hK hle h | exact akL (op:=.box true x) hK hle h
 case bHU r s l z ps=>cases r<;>first | exact NM (op:=.bHU false s l z ps) hK hle h | exact akL (op:=.bHU true s l z ps) hK hle h
 case alloc cs=>exact NM (op:=.alloc cs) hK hle h
 case bHZ s b z l c=>exact NM (op:=.bHZ s b z l c) hK hle h
 case bJL sh=>exact NM (op:=.bJL sh) hK hle h
 case store n x y=>exact azW (op:=.store n x y) hK hle h
 case append s b x y=>exact azW (op:=.append s b x y) hK hle h
 case bIN sh x y z=>exact azW (op:=.bIN sh x y z) hK hle h
 case insert sh x y z=>exact azW (op:=.insert sh x y z) hK hle h
 all_goals exact akL hK hle h
theorem OE {K1 K2:PF→PH→Prop} (hK:∀ F F' H,F.le F'→K1 F H→K2 F' H):∀ {ops:List bB} {F F':PF} {H:PH},F.le F'→wpOps C ops K1 F H→wpOps C ops K2 F' H
 | [],_,_,_,hle,h=>hK _ _ _ hle h
 | ⟨d,op,none⟩::rest,_,_,_,hle,h=>bqN (fun _ _ _ a b=>OE hK a b) hle h
 | ⟨d,op,some (t,want)⟩::rest,F,F',H,hle,h=>by
  rw[aTL] at h ⊢
  unfold uN at h
  split at h
  ·rename_i b hb
   rw[hle t _ hb]
   unfold uN
   simp only
   split at h
   ·rename_i e; rw[if_pos e]; exact bqN (fun _ _ _ a b=>OE hK a b) hle h
   ·rename_i e; rw[if_neg e]; exact OE hK (PF.yK hle d _) h
  ·rename_i hb
   rw[hle t _ hb]
   exact OE hK (PF.yK hle d _) h
  ·exact h.elim
theorem aJD {Hs:PH} {S:Spec} {st:Bool} {op:POp} {K:PV→PH→Prop} (hle:F.le F') (h:(op.kind F).run C Hs S st K H):(op.kind F').run C Hs S st K H:=by
 have new:∀ op:POp,(Kind.new (cU op F)).run C Hs S st K H→(Kind.new (cU op F')).run C Hs S st K H:=fun op h=>by
  obtain⟨mk,x,h1,h2⟩:=h
  exact⟨mk,x,aAO hle h1,h2⟩
 have calm:∀ op:POp,(Kind.calm (aN op F)).run C Hs S st K H→(Kind.calm (aN op F')).run C Hs S st K H:=fun op h=>by
  obtain⟨v,h1,h2⟩:=h
  exact⟨v,aJK hle h1,h2⟩
 have wr:∀ op:POp,(Kind.write fun H K=>bW op F H K).run C Hs S st K H→(Kind.write fun H K=>bW op F' H K).run C Hs S st K H:=fun op h=>aPS (op:=op) hle (show bW op F H (fun r H'=>Hs.le H'∧K r H') from h)
 cases op
 case call n a =>
  obtain⟨vs,D,R,h1,h2⟩:=h
  exact⟨vs,D,R,aaY hle h1,h2⟩
 case bJA x a =>
  unfold POp.kind at h ⊢
  simp only at h ⊢
  cases hx:x.ev F with
  | none=>rw[hx] at h; exact h.elim
  | some u =>
   rw[hx] at h
   rw[cM hle hx]
   cases u<;>simp only at h ⊢<;>first | exact h | skip
   obtain⟨vs,D,R,h1,h2⟩:=h
   exact⟨vs,D,R,aGE hle _ h1,h2⟩
 case insert sh x k v =>
  obtain⟨o,sh',key,u,g,h1,h2⟩:=h
  refine⟨o,sh',key,u,g,?_,h2⟩
  cases hx:x.ev F with
  | none=>simp[hx] at h1
  | some a =>
   cases hy:k.ev F with
   | none=>simp[hx,hy] at h1
   | some b =>
    cases hz:v.ev F with
    | none=>simp[hx,hy,hz] at h1
    | some c=>rw[cM hle hx,cM hle hy,cM hle hz]; rw[hx,hy,hz] at h1; exact h1
 case box r x=>cases r<;>first | exact new (.box false x) h | exact calm (.box true x) h
 case bHU r s l z ps=>cases r<;>first | exact new (.bHU false s l z ps) h | exact calm (.bHU true s l z ps) h
 case alloc cs=>exact new (.alloc cs) h
 case bHZ s b z l c=>exact new (.bHZ s b z l c) h
 case bJL sh=>exact new (.bJL sh) h
 case store n x y=>exact wr (.store n x y) h
 case append s b x y=>exact wr (.append s b x y) h
 case bIN sh x y z=>exact wr (.bIN sh x y z) h
 all_goals exact calm _ h
theorem blH {Hs:PH} {S:Spec} {st:Bool} {i:bB} {K:PV→PH→Prop} (hle:F.le F') (h:(i.kind F).run C Hs S st K H):(i.kind F').run C Hs S st K H:=by
 unfold bB.kind at h ⊢
 split
 ·rename_i hg
  rw[hg] at h
  exact aJD hle h
 ·rename_i t want hg
  rw[hg] at h
  simp only at h
  split at h
  ·rename_i b hb
   rw[hle t _ hb]
   simp only
   split at h
   ·rename_i e; rw[if_pos e]; exact aJD hle h
   ·rename_i e; rw[if_neg e]; exact h
  ·rename_i hb
   rw[hle t _ hb]
   exact h
  ·exact h.elim
theorem biV {Hs:PH} {S:Spec} {K1 K2:PF→PH→Prop} (hK:∀ F F' H,F.le F'→K1 F H→K2 F' H):∀ {ops:List (bB × Bool)} {F F':PF} {H:PH},Hs.le H→F.le F'→wpD C Hs S ops K1 F H→wpD C Hs S ops K2 F' H
 | [],_,_,_,_,hle,h=>hK _ _ _ hle h
 | i::rest,F,F',H,hs,hle,h=>by
  have h1:(i.1.kind F).run C Hs S i.2 (fun v H'=>wpD C Hs S rest K1 (F.put i.1.dst v) H') H:=h
  exact blH hle (Kind.qO (qL _ _) (fun v H' hs' hh=>biV hK hs' (PF.yK hle _ v) hh) hs h1)
class Up (K:cA):Prop where
 up:∀ {e:mD} {F F':PF} {H:PH},F.le F'→K e F H→K e F' H
theorem sR:∀ (c:aB) {K1 K2:cA} (_:∀ e F F' H,F.le F'→K1 e F H→K2 e F' H) {F F':PF} {H:PH},F.le F'→c.wp C K1 F H→c.wp C K2 F' H
 | .skip,_,_,hK,_,_,_,hle,h=>hK _ _ _ _ hle h
 | .region ops,_,_,hK,_,_,_,hle,h=>OE (hK .normal) hle h
 | .draw ops,_,_,hK,_,_,_,hle,⟨Hs,S,h1,h2⟩=>⟨Hs,S,h1,biV (hK .normal) h1 hle h2⟩
 | .seq a b,K1,K2,hK,_,_,_,hle,h=>sR a (K1:=iV C (b.wp C) K1) (K2:=iV C (b.wp C) K2) (fun e F F' H hl hh=>by
   cases e with
   | normal=>exact sR b hK hl hh
   | exit id=>exact hK (.exit id) _ _ _ hl hh
   | ret=>exact hK .ret _ _ _ hl hh) hle h
 | .cond c a b,K1,K2,hK,F,F',H,hle,h=>by
  rw[bqC] at h ⊢
  unfold RD at h
  split at h
  ·rename_i t ht
   rw[cM hle ht]
   unfold RD
   simp only
   split at h
   ·rename_i e; rw[if_pos e]; exact sR a hK hle h
   ·rename_i e; rw[if_neg e]; exact sR b hK hle h
  ·exact h.elim
 | .block id c,K1,K2,hK,_,_,_,hle,h=>sR c (K1:=dN id K1) (K2:=dN id K2) (fun e F F' H hl hh=>by
   cases e with
   | normal=>exact hK .normal _ _ _ hl hh
   | exit j =>
    rw[AS] at hh ⊢
    split at hh
    ·rename_i e; rw[if_pos e]; exact hK .normal _ _ _ hl hh
    ·rename_i e; rw[if_neg e]; exact hK (.exit j) _ _ _ hl hh
   | ret=>exact hK .ret _ _ _ hl hh) hle h
 | .loop c,K1,K2,hK,F,F',H,hle,⟨α,Fs,Hs,Pr,m,a0,F1,H1,h1,h2,h3,h4,h5⟩=>by
  obtain⟨F1',k1,k2⟩:=h1.up hle
  refine⟨α,Fs,Hs,Pr,m,a0,F1',H1,k1,h2,PF.le_trans h3 k2,h4,fun a ha=>?_⟩
  refine sR c (K1:=dU Fs Hs Pr m (m a) K1) (K2:=dU Fs Hs Pr m (m a) K2) (fun e F F' H hl hh=>?_) PF.le_refl (h5 a ha)
  cases e with
  | normal =>
   obtain⟨b,F2,H2,z1,z2,z3,z4,z5⟩:=hh
   obtain⟨F2',y1,y2⟩:=z1.up hl
   exact⟨b,F2',H2,y1,z2,z3,PF.le_trans z4 y2,z5⟩
  | exit id=>exact hK (.exit id) _ _ _ hl hh
  | ret=>exact hK .ret _ _ _ hl hh
 | .exit id,_,_,hK,_,_,_,hle,h=>hK (.exit id) _ _ _ hle h
 | .ret,_,_,hK,_,_,_,hle,h=>hK .ret _ _ _ hle h
instance Up.seq {K:cA} [Up K] (b:aB):Up (iV C (b.wp C) K) where
 up {e} {F} {F'} {H} hl hh:=by
  cases e with
  | normal=>exact sR b (fun e F F' H a h=>Up.up a h) hl hh
  | exit id=>exact Up.up (K:=K) (e:=.exit id) hl hh
  | ret=>exact Up.up (K:=K) (e:=.ret) hl hh
instance Up.block {K:cA} [Up K] (id:Nat):Up (dN id K) where
 up {e} {F} {F'} {H} hl hh:=by
  cases e with
  | normal=>exact Up.up (K:=K) (e:=.normal) hl hh
  | exit j =>
   rw[AS] at hh ⊢
   split at hh
   ·rename_i e; rw[if_pos e]; exact Up.up (K:=K) (e:=.normal) hl hh
   ·rename_i e; rw[if_neg e]; exact Up.up (K:=K) (e:=.exit j) hl hh
  | ret=>exact Up.up (K:=K) (e:=.ret) hl hh
instance Up.loop {K:cA} [Up K] {α:Type} (Fs:α→PF) (Hs:α→PH) (Pr:α→Prop) (m:α→Nat) (n:Nat):Up (dU Fs Hs Pr m n K) where
 up {e} {F} {F'} {H} hl hh:=by
  cases e with
  | normal =>
   obtain⟨b,F2,H2,z1,z2,z3,z4,z5⟩:=hh
   obtain⟨F2',y1,y2⟩:=z1.up hl
   exact⟨b,F2',H2,y1,z2,z3,PF.le_trans z4 y2,z5⟩
  | exit id=>exact Up.up (K:=K) (e:=.exit id) hl hh
  | ret=>exact Up.up (K:=K) (e:=.ret) hl hh
theorem bxO {H:PH} (hle:F.le F') {x:eA} {v:PV} (h:x.ev F H=some v):x.ev F' H=some v:=by
 cases x with
 | tmp t=>exact hle t v h
 | cell t n =>
  cases n<;>simp only[eA.ev] at h ⊢<;>(cases hx:F t with
   | none=>simp[hx] at h
   | some a=>rw[hle t a hx,← hx]; exact h)
theorem amJ {H:PH} (hle:F.le F'):∀ {xs:List eA} {vs:List PV},eA.evs F H xs=some vs→eA.evs F' H xs=some vs
 | [],_,h=>h
 | x::xs,vs,h=>by
  rw[lD] at h ⊢
  cases hx:x.ev F H with
  | none=>simp[hx] at h
  | some v =>
   cases hs:eA.evs F H xs with
   | none=>simp[hs] at h
   | some ws =>
    rw[hx,hs] at h
    rw[bxO hle hx,amJ hle hs]
    exact h
instance Up.ret (res:List eA) (R:PV→PH→Prop):Up (aR res R) where
 up {e} {F} {F'} {H} hl hh:=by
  cases e with
  | exit id=>exact hh
  | normal=>obtain⟨vs,h1,h2⟩:=hh; exact⟨vs,amJ hl h1,h2⟩
  | ret=>obtain⟨vs,h1,h2⟩:=hh; exact⟨vs,amJ hl h1,h2⟩
end
section
variable {H:PH} {B:List BX} {L:List LI}
end
theorem SX {p:Int→Bool}:∀ {l:List Int} {i:Nat},(∀ x∈l,p x=false)→eH p l i=none
 | [],_,_=>rfl
 | y::t,i,h=>by
  rw[eH,h y (by simp),if_neg (by decide)]
  exact SX fun x hx=>h x (by simp[hx])
theorem ET.shape {f:aE} {L:List (List Int)} (h:ET f L) {v:Nat} (hv:v<L.length):jX f L v=none:=by
 have e:L.getD v []=L[v]:=by simp[bKK,hv]
 unfold jX
 rw[e,if_pos (h.row v hv),SX]
 ·rfl
 ·intro x hx
  have:=h.home _ (bJZ hv) x hx
  simp[iU]
  omega
section
variable {H:PH} {B:List BX} {L:List LI} {s:Nat} {rows:List (List PV)}
theorem mX.some (s:Nat) (rows:List (List PV)) (G:PH):∃ r H',mX s rows r H'∧mW G .nil H':=by
 obtain⟨o,ho⟩:=G.fresh
 refine⟨.osl o s 0 rows.length,PH.nil.set o (.rows s rows),.inr ⟨o,rows,rfl,rfl,bKB _,bKU⟩,fun q x hx _=>?_⟩
 rw[bA] at hx
 split at hx
 ·rename_i e; rw[e]; exact ho
 ·cases hx
end

section
variable {C:Ctx} {F:PF} {H Hs:PH} {tn a a2:Nat} {raw:List Int} {R:Nat→PV→PH→Prop} {st:Bool} {args:List aP} {d:Option Nat} {K:PF→PH→Prop}
end
section
variable {C:Ctx} {F:PF} {H:PH} {B:List BX} {L:List LI} {args:List aP} {d:Option Nat} {K:PF→PH→Prop}
end
theorem bkI (l:List Nat) {d v:Nat} (hd:d≤24) (hv:v≤12):cV (fT l d v)=true∧(fT l d v).Ok:=aBU (l.take 400) d v 0 hd hv

theorem ET.move {f:aE} {L:List (List Int)} (h:ET f L) {x k d:Nat} (hx:x<L.length) (hd:d<f.bHN.length):ET f (L.set x (L[x].set k d)):=by
 refine⟨by rw[bMG]; exact h.len,fun v hv=>?_,fun r hr=>?_⟩
 ·rw[bMG] at hv
  have:=h.row v hv
  rw[List.getElem_set]
  split
  ·rename_i e
   subst e
   rw[bMG]; exact this
  ·exact this
 ·rcases List.mem_or_eq_of_mem_set hr with hr | rfl
  ·exact h.home r hr
  ·intro y hy
   rcases List.mem_or_eq_of_mem_set hy with hy | rfl
   ·exact h.home _ (bJZ hx) y hy
   ·omega

structure bbD (C:Ctx):Prop extends eG C where
 r3:aL C 3 aWY
 r6:aL C 6 bqM
 r18:aL C 18 bcM
 r82:aL C 82 azA
end Go.PM
