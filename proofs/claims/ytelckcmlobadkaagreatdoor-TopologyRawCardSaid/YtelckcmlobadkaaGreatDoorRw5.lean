/-
  Texts of ours, joined: ZdCodes ZdBase MkW17 MkW18 L11W5 Pm37 L11W6 L11P2 L11W7 L11W8 L11W9 L11W10 L11W11 L11W12 L11W13 Jn4. No condition.
-/
import Derived.Test.YtelckcmlobadkaaGreatDoorRw1
import Derived.Test.YtelckcmlobadkaaGreatDoorRw2
import Derived.Test.YtelckcmlobadkaaGreatDoorRw3
import Derived.Test.YtelckcmlobadkaaGreatDoorRw4
import Derived.Test.YtelckcmlobadkaaGreatDoorProg
import Derived.KernelRfl
import Derived.Test.YtelckcmlobadkaaGreatDoorRows
import Derived.ProofKit
import Derived.WalkKit
import Derived.LaidMore
import Derived.OpenShut
import Derived.Stop.Joined
set_option linter.unusedSimpArgs false
set_option linter.unusedVariables false
open Nat renaming reduceEqDiff → γ, reduceAdd → δ, reduceSub → ε, reduceMul → ζ, reduceLT → η, reduceLeDiff → θ, reduceBEq → τ
open Int renaming reduceLT → ι, reduceLE → κ, reduceEq → μ, reduceToNat → ν, reduceAdd → ξ, reduceNeg → ο, reduceBEq → ρ, reduceBNe → σ
open List renaming reduceReplicate → υ
open List renaming length_map → bIM, range → bIN, replicate → bIP, length_append → bIQ, getElem_mem → bIS, length_singleton → bIX, getElem?_eq_getElem → bIZ, mem_cons → bJB, take_of_length_le → bJD, getD_eq_getElem?_getD → bJE, length_take → bJF, not_mem_nil → bJI, all_eq_true → bJL, take_length → bJN, append_assoc → bJO, drop_zero → bJR, getElem?_map → bJU, mem_map → bJV, getElem?_eq_none → bJY, append_nil → bJZ, getElem?_eq_some_iff → bKA, map_cons → bKD, drop_eq_getElem_cons → bKE, Sublist → bKH, getElem_map → bKI, mem_append → bKL, take_succ_eq_append_getElem → bKM, length_drop → bKQ, mem_range → bKR, length_set → bKU, map_append → bKV, map_nil → bKW, mem_of_getElem? → bKX, length_nil → bLA, take_append_drop → bLB, getElem?_append_left → bLF, length_cons → bLG, nodup_append → bLH, ext_getElem → bLI, getElem?_append_right → bLJ, getElem?_take → bLK, getElem_of_mem → bLL, set_append_right → bLM, drop_of_length_le → bLT
open Bool renaming not_true → bIO, false_and → bIV, not_false → bIY, true_and → bJC, and_eq_true → bJK, and_false → bJW, and_true → bKZ, and_assoc → bLE, false_eq_true → bLS
open Nat renaming gcd → bIR, zero_le → bIT, le_refl → bIU, mul_add → bJA, lt_or_ge → bJG, mul_assoc → bJH, zero_add → bJJ, mul_comm → bJM, add_mul → bJP, mul_le_mul_right → bJQ, mod_eq_of_lt → bJT, mod_lt → bJX, pow_succ → bKB, add_zero → bKF, le_trans → bKG, min_eq_left → bKJ, eq_zero_or_pos → bKN, mul_le_mul_left → bKO, pos_of_ne_zero → bKP, add_assoc → bKS, pow_pos → bKY, div_lt_iff_lt_mul → bLC, div_add_mod → bLN, div_eq_of_lt → bLO
open Option renaming map_eq_some_iff → bIW, map_some → bJS, getD_some → bKK, some → bKT, bind_eq_some_iff → bLP, bind_some → bLQ
open Array renaming replicate → bKC, length_toList → bLD, getElem?_eq_getElem → bLR, getElem?_eq_some_iff → bLU
namespace Go.Proofs.YtelckcmlobadkaaGreatDoor
open Go Go.PM
def bwA:List Nat:=[11,51,27,12,26,31,14,30,0,0,0,3,7,9,5,8,4,6,17,24,18,23,48,36,0,0,0,20,10,28,152,111,110,66,65,54,155,154,64,85,115,84,114,161,113,112,136,29,162,105,32,101,102,100,77,99,76,153,53,55,137,103,96,151,135,134,104,59,75,80,74,97,79,73,78,98,72,81,40,43,82,42,33,50,45,46,47,49,60,61,62,0,0,0,41,69,56,87,126,88,128,131,92,127,67,86,93,129,94,130,71,68,70,119,91,90,116,89,122,121,120,124,125,95,150,133,132,144,117,123,147,146,118,149,145,148,160,158,143,166,163,159,165,164,0,0,0,15,22,21,16,44,13,25,19,35,57,39,38,58,37,34,83,63,140,108,109,141,138,107,106,0,0,0,0,0,0,0,0,0,0,0,0,0,0,0,0,0,0,0,0,0,0,0,0,52,0,0,0,0,0]
def bsJ:List (Option Nat):=[none,none,none,some 11,some 16,some 14,some 17,some 12,some 15,some 13,some 28,some 0,some 3,some 152,some 6,some 147,some 150,some 18,some 20,some 154,some 27,some 149,some 148,some 21,some 19,some 153,some 4,some 2,some 29,some 47,some 7,some 5,some 50,some 82,some 161,some 155,some 23,some 160,some 158,some 157,some 78,some 94,some 81,some 79,some 151,some 84,some 85,some 86,some 22,some 87,some 83,some 1,some 195,some 58,some 35,some 59,some 96,some 156,some 159,some 67,some 88,some 89,some 90,some 163,some 38,some 34,some 33,some 104,some 111,some 95,some 112,some 110,some 76,some 73,some 70,some 68,some 56,some 54,some 74,some 72,some 69,some 77,some 80,some 162,some 41,some 39,some 105,some 97,some 99,some 117,some 115,some 114,some 102,some 106,some 108,some 123,some 62,some 71,some 75,some 55,some 53,some 51,some 52,some 61,some 66,some 49,some 170,some 169,some 165,some 166,some 32,some 31,some 45,some 44,some 42,some 40,some 116,some 128,some 132,some 113,some 120,some 119,some 118,some 129,some 121,some 122,some 98,some 103,some 100,some 107,some 109,some 101,some 126,some 125,some 65,some 64,some 46,some 60,some 168,none,some 164,some 167,none,some 138,some 127,some 134,some 131,some 130,some 135,some 133,some 124,some 63,some 30,some 57,some 37,some 36,none,none,some 137,some 141,some 136,some 43,some 48,some 140,some 143,some 142,some 139]
def num (n:Nat):FuncId:=bwA.getD n 0
def nameOf (f:FuncId):Option Nat:=bsJ.getD f none
noncomputable def C:Ctx:=⟨Tryz.prog,num⟩
noncomputable def T (ro:List Nat):Tbl:={ P:=Tryz.prog,num:=num,name:=nameOf,ro:=ro }
theorem q0:aL C 0 PM.abW:=bD (T bdB) rfl rfl Tryz.func11 (by kernel_rfl) (by kernel_rfl)
theorem q1:aL C 1 PM.axU:=bD (T blE) rfl rfl Tryz.func51 (by kernel_rfl) (by kernel_rfl)
theorem q2:aL C 2 PM.a5Z:=bD (T bsC) rfl rfl Tryz.func27 (by kernel_rfl) (by kernel_rfl)
theorem q4:aL C 4 PM.acU:=bD (T blK) rfl rfl Tryz.func26 (by kernel_rfl) (by kernel_rfl)
theorem q5:aL C 5 PM.a6O:=bD (T bsG) rfl rfl Tryz.func31 (by kernel_rfl) (by kernel_rfl)
theorem q7:aL C 7 PM.acT:=bD (T blF) rfl rfl Tryz.func30 (by kernel_rfl) (by kernel_rfl)
theorem q20:aL C 20 PM.abO:=bD (T bbU) rfl rfl Tryz.func18 (by kernel_rfl) (by kernel_rfl)
theorem q23:aL C 23 PM.abS:=bD (T bcV) rfl rfl Tryz.func36 (by kernel_rfl) (by kernel_rfl)
theorem q27:aL C 27 PM.abT:=bD (T bcY) rfl rfl Tryz.func20 (by kernel_rfl) (by kernel_rfl)
theorem q28:aL C 28 PM.a6N:=bD (T bsE) rfl rfl Tryz.func10 (by kernel_rfl) (by kernel_rfl)
theorem q29:aL C 29 PM.axV:=bD (T blI) rfl rfl Tryz.func28 (by kernel_rfl) (by kernel_rfl)
theorem q30:aL C 30 PM.a8P:=bD (T btR) rfl rfl Tryz.func152 (by kernel_rfl) (by kernel_rfl)
theorem q31:aL C 31 PM.ayG:=bD (T bnU) rfl rfl Tryz.func111 (by kernel_rfl) (by kernel_rfl)
theorem q32:aL C 32 PM.a8Q:=bD (T btT) rfl rfl Tryz.func110 (by kernel_rfl) (by kernel_rfl)
theorem q33:aL C 33 PM.udiv:=bD (T btV) rfl rfl Tryz.func66 (by kernel_rfl) (by kernel_rfl)
theorem q34:aL C 34 PM.a8V:=bD (T btX) rfl rfl Tryz.func65 (by kernel_rfl) (by kernel_rfl)
theorem q35:aL C 35 PM.ayI:=bD (T boA) rfl rfl Tryz.func54 (by kernel_rfl) (by kernel_rfl)
theorem q36:aL C 36 PM.a8X:=bD (T btZ) rfl rfl Tryz.func155 (by kernel_rfl) (by kernel_rfl)
theorem q37:aL C 37 PM.a8Z:=bD (T buD) rfl rfl Tryz.func154 (by kernel_rfl) (by kernel_rfl)
theorem q38:aL C 38 PM.ayK:=bD (T boJ) rfl rfl Tryz.func64 (by kernel_rfl) (by kernel_rfl)
theorem q39:aL C 39 PM.RT:=bD (T a8U) rfl rfl Tryz.func85 (by kernel_rfl) (by kernel_rfl)
theorem q40:aL C 40 PM.ayH:=bD (T bnY) rfl rfl Tryz.func115 (by kernel_rfl) (by kernel_rfl)
theorem q41:aL C 41 PM.agG:=bD (T bgV) rfl rfl Tryz.func84 (by kernel_rfl) (by kernel_rfl)
theorem q42:aL C 42 PM.agH:=bD (T bgX) rfl rfl Tryz.func114 (by kernel_rfl) (by kernel_rfl)
theorem q43:aL C 43 PM.ayJ:=bD (T boG) rfl rfl Tryz.func161 (by kernel_rfl) (by kernel_rfl)
theorem q44:aL C 44 PM.agK:=bD (T bgZ) rfl rfl Tryz.func113 (by kernel_rfl) (by kernel_rfl)
theorem q45:aL C 45 PM.uup:=bD (T bwW) rfl rfl Tryz.func112 (by kernel_rfl) (by kernel_rfl)
theorem q47:aL C 47 PM.a9E:=bD (T buG) rfl rfl Tryz.func29 (by kernel_rfl) (by kernel_rfl)
theorem q50:aL C 50 PM.agY:=bD (T boR) rfl rfl Tryz.func32 (by kernel_rfl) (by kernel_rfl)
theorem q58:aL C 58 PM.RV:=bD (T a9H) rfl rfl Tryz.func53 (by kernel_rfl) (by kernel_rfl)
theorem q59:aL C 59 PM.ayV:=bD (T boX) rfl rfl Tryz.func55 (by kernel_rfl) (by kernel_rfl)
theorem q95:aL C 95 PM.a3X:=bD (T bqV) rfl rfl Tryz.func69 (by kernel_rfl) (by kernel_rfl)
theorem q96:aL C 96 PM.a4D:=bD (T brF) rfl rfl Tryz.func56 (by kernel_rfl) (by kernel_rfl)
theorem q97:aL C 97 PM.abB:=bD (T bbF) rfl rfl Tryz.func87 (by kernel_rfl) (by kernel_rfl)
theorem q98:aL C 98 PM.axM:=bD (T bjM) rfl rfl Tryz.func126 (by kernel_rfl) (by kernel_rfl)
theorem q99:aL C 99 PM.axN:=bD (T bjO) rfl rfl Tryz.func88 (by kernel_rfl) (by kernel_rfl)
theorem bBU:aL C 100 PM.axO:=bD (T bjQ) rfl rfl Tryz.func128 (by kernel_rfl) (by kernel_rfl)
theorem bBV:aL C 101 PM.gone:=bD (T brB) rfl rfl Tryz.func131 (by kernel_rfl) (by kernel_rfl)
theorem bBW:aL C 102 PM.axP:=bD (T bjT) rfl rfl Tryz.func92 (by kernel_rfl) (by kernel_rfl)
theorem bBX:aL C 103 PM.abC:=bD (T bbH) rfl rfl Tryz.func127 (by kernel_rfl) (by kernel_rfl)
theorem bBY:aL C 104 PM.gin:=bD (T bvN) rfl rfl Tryz.func67 (by kernel_rfl) (by kernel_rfl)
theorem bBZ:aL C 105 PM.a3Y:=bD (T bqX) rfl rfl Tryz.func86 (by kernel_rfl) (by kernel_rfl)
theorem bCA:aL C 106 PM.a3Z:=bD (T bqZ) rfl rfl Tryz.func93 (by kernel_rfl) (by kernel_rfl)
theorem bCB:aL C 107 PM.axQ:=bD (T bjV) rfl rfl Tryz.func129 (by kernel_rfl) (by kernel_rfl)
theorem bCC:aL C 108 PM.axR:=bD (T bjX) rfl rfl Tryz.func94 (by kernel_rfl) (by kernel_rfl)
theorem bCD:aL C 109 PM.abG:=bD (T bbK) rfl rfl Tryz.func130 (by kernel_rfl) (by kernel_rfl)
theorem bCE:aL C 110 PM.axS:=bD (T bkA) rfl rfl Tryz.func71 (by kernel_rfl) (by kernel_rfl)
theorem bCF:aL C 111 PM.aCB:=bD (T bqT) rfl rfl Tryz.func68 (by kernel_rfl) (by kernel_rfl)
theorem bCG:aL C 112 PM.a4A:=bD (T brD) rfl rfl Tryz.func70 (by kernel_rfl) (by kernel_rfl)
theorem bCH:aL C 113 PM.VD:=bD (T bqH) rfl rfl Tryz.func119 (by kernel_rfl) (by kernel_rfl)
theorem bCI:aL C 114 PM.a3I:=bD (T bqJ) rfl rfl Tryz.func91 (by kernel_rfl) (by kernel_rfl)
theorem bCJ:aL C 115 PM.aaQ:=bD (T bjH) rfl rfl Tryz.func90 (by kernel_rfl) (by kernel_rfl)
theorem bCK:aL C 116 PM.DQ:=bD (T a3S) rfl rfl Tryz.func116 (by kernel_rfl) (by kernel_rfl)
theorem bCL:aL C 117 PM.ajY:=bD (T bqR) rfl rfl Tryz.func89 (by kernel_rfl) (by kernel_rfl)
theorem bCM:aL C 118 PM.abA:=bD (T bbD) rfl rfl Tryz.func122 (by kernel_rfl) (by kernel_rfl)
theorem bCN:aL C 119 PM.a3H:=bD (T bqF) rfl rfl Tryz.func121 (by kernel_rfl) (by kernel_rfl)
theorem bCO:aL C 120 PM.qN:=bD (T a3P) rfl rfl Tryz.func120 (by kernel_rfl) (by kernel_rfl)
theorem bCP:aL C 121 PM.aaZ:=bD (T bbB) rfl rfl Tryz.func124 (by kernel_rfl) (by kernel_rfl)
theorem bCQ:aL C 122 PM.axL:=bD (T bjK) rfl rfl Tryz.func125 (by kernel_rfl) (by kernel_rfl)
theorem bCR:aL C 123 PM.abQ:=bD (T bkX) rfl rfl Tryz.func95 (by kernel_rfl) (by kernel_rfl)
theorem bCS:aL C 124 PM.MJ:=bD (T bbX) rfl rfl Tryz.func150 (by kernel_rfl) (by kernel_rfl)
theorem bCT:aL C 125 PM.MM:=bD (T bcI) rfl rfl Tryz.func133 (by kernel_rfl) (by kernel_rfl)
theorem bCU:aL C 126 PM.DS:=bD (T a5D) rfl rfl Tryz.func132 (by kernel_rfl) (by kernel_rfl)
theorem bCV:aL C 127 PM.a6R:=bD (T bsI) rfl rfl Tryz.func144 (by kernel_rfl) (by kernel_rfl)
theorem bCW:aL C 128 PM.axW:=bD (T blY) rfl rfl Tryz.func117 (by kernel_rfl) (by kernel_rfl)
theorem bCX:aL C 129 PM.a6T:=bD (T bsL) rfl rfl Tryz.func123 (by kernel_rfl) (by kernel_rfl)
theorem bCY:aL C 130 PM.a6V:=bD (T bsN) rfl rfl Tryz.func147 (by kernel_rfl) (by kernel_rfl)
theorem bCZ:aL C 131 PM.a7A:=bD (T bsP) rfl rfl Tryz.func146 (by kernel_rfl) (by kernel_rfl)
theorem bDA:aL C 132 PM.axX:=bD (T bmA) rfl rfl Tryz.func118 (by kernel_rfl) (by kernel_rfl)
theorem bDB:aL C 133 PM.a7G:=bD (T bsR) rfl rfl Tryz.func149 (by kernel_rfl) (by kernel_rfl)
theorem bDC:aL C 134 PM.a7K:=bD (T bsT) rfl rfl Tryz.func145 (by kernel_rfl) (by kernel_rfl)
theorem bDD:aL C 135 PM.axY:=bD (T bmD) rfl rfl Tryz.func148 (by kernel_rfl) (by kernel_rfl)
theorem bDE:aL C 136 PM.RI:=bD (T a6Z) rfl rfl Tryz.func160 (by kernel_rfl) (by kernel_rfl)
theorem bDF:aL C 137 PM.adH:=bD (T bdM) rfl rfl Tryz.func158 (by kernel_rfl) (by kernel_rfl)
theorem bDG:aL C 138 PM.xC:=bD (T a7F) rfl rfl Tryz.func143 (by kernel_rfl) (by kernel_rfl)
theorem bDH:aL C 139 PM.HD:=bD (T aRW) rfl rfl Tryz.func166 (by kernel_rfl) (by kernel_rfl)
theorem bmL:aL C 140 PM.adI:=bD (T bdP) rfl rfl Tryz.func163 (by kernel_rfl) (by kernel_rfl)
theorem bmM:aL C 141 PM.adK:=bD (T bdR) rfl rfl Tryz.func159 (by kernel_rfl) (by kernel_rfl)
theorem alM:aL C 142 PM.zK:=bD (T aHU) rfl rfl Tryz.func165 (by kernel_rfl) (by kernel_rfl)
theorem bDI:aL C 143 PM.nup:=bD (T bwC) rfl rfl Tryz.func164 (by kernel_rfl) (by kernel_rfl)
theorem bDJ:aL C 147 PM.tat:=bD (T bwT) rfl rfl Tryz.func15 (by kernel_rfl) (by kernel_rfl)
theorem bDK:aL C 148 PM.afF:=bD (T bgB) rfl rfl Tryz.func22 (by kernel_rfl) (by kernel_rfl)
theorem bDL:aL C 149 PM.RR:=bD (T a8N) rfl rfl Tryz.func21 (by kernel_rfl) (by kernel_rfl)
theorem bDM:aL C 150 PM.afQ:=bD (T bgE) rfl rfl Tryz.func16 (by kernel_rfl) (by kernel_rfl)
theorem bDN:aL C 151 PM.aeU:=bD (T bfU) rfl rfl Tryz.func44 (by kernel_rfl) (by kernel_rfl)
theorem bDO:aL C 152 PM.ayE:=bD (T bnM) rfl rfl Tryz.func13 (by kernel_rfl) (by kernel_rfl)
theorem bDP:aL C 153 PM.RQ:=bD (T a8L) rfl rfl Tryz.func25 (by kernel_rfl) (by kernel_rfl)
theorem bDQ:aL C 154 PM.ayF:=bD (T bnP) rfl rfl Tryz.func19 (by kernel_rfl) (by kernel_rfl)
theorem bDR:aL C 155 PM.afD:=bD (T bfW) rfl rfl Tryz.func35 (by kernel_rfl) (by kernel_rfl)
theorem bDS:aL C 156 PM.ayD:=bD (T bnJ) rfl rfl Tryz.func57 (by kernel_rfl) (by kernel_rfl)
theorem bDT:aL C 157 PM.afR:=bD (T bgG) rfl rfl Tryz.func39 (by kernel_rfl) (by kernel_rfl)
theorem bDU:aL C 158 PM.a8O:=bD (T bnR) rfl rfl Tryz.func38 (by kernel_rfl) (by kernel_rfl)
theorem bDV:aL C 159 PM.afY:=bD (T bgR) rfl rfl Tryz.func58 (by kernel_rfl) (by kernel_rfl)
theorem bDW:aL C 160 PM.EF:=bD (T bgN) rfl rfl Tryz.func37 (by kernel_rfl) (by kernel_rfl)
theorem bDX:aL C 161 PM.afX:=bD (T bgP) rfl rfl Tryz.func34 (by kernel_rfl) (by kernel_rfl)
theorem byL:dY C:={
 r0:=q0,
 r1:=q1,
 r2:=q2,
 r4:=q4,
 r5:=q5,
 r7:=q7,
 r20:=q20,
 r23:=q23,
 r27:=q27,
 r28:=q28,
 r29:=q29,
 r30:=q30,
 r31:=q31,
 r32:=q32,
 r33:=q33,
 r34:=q34,
 r35:=q35,
 r36:=q36,
 r37:=q37,
 r38:=q38,
 r39:=q39,
 r40:=q40,
 r41:=q41,
 r42:=q42,
 r43:=q43,
 r44:=q44,
 r45:=q45,
 r47:=q47,
 r50:=q50,
 r58:=q58,
 r59:=q59,
 r95:=q95,
 r96:=q96,
 r97:=q97,
 r98:=q98,
 r99:=q99,
 r100:=bBU,
 r101:=bBV,
 r102:=bBW,
 r103:=bBX,
 r104:=bBY,
 r105:=bBZ,
 r106:=bCA,
 r107:=bCB,
 r108:=bCC,
 r109:=bCD,
 r110:=bCE,
 r111:=bCF,
 r112:=bCG,
 r113:=bCH,
 r114:=bCI,
 r115:=bCJ,
 r116:=bCK,
 r117:=bCL,
 r118:=bCM,
 r119:=bCN,
 r120:=bCO,
 r121:=bCP,
 r122:=bCQ,
 r123:=bCR,
 r124:=bCS,
 r125:=bCT,
 r126:=bCU,
 r127:=bCV,
 r128:=bCW,
 r129:=bCX,
 r130:=bCY,
 r131:=bCZ,
 r132:=bDA,
 r133:=bDB,
 r134:=bDC,
 r135:=bDD,
 r136:=bDE,
 r137:=bDF,
 r138:=bDG,
 r139:=bDH,
 r140:=bmL,
 r141:=bmM,
 r142:=alM,
 r143:=bDI,
 r147:=bDJ,
 r148:=bDK,
 r149:=bDL,
 r150:=bDM,
 r151:=bDN,
 r152:=bDO,
 r153:=bDP,
 r154:=bDQ,
 r155:=bDR,
 r156:=bDS,
 r157:=bDT,
 r158:=bDU,
 r159:=bDV,
 r160:=bDW,
 r161:=bDX }
end Go.Proofs.YtelckcmlobadkaaGreatDoor
namespace Go.Proofs.YtelckcmlobadkaaGreatDoor
open Go Go.PM Go.RowKit Go.ChangeShapes Go.WideShapes
theorem Tryz.own:ownKnob Tryz.prog.godebug=none:=by kernel_rfl
theorem Tryz.laidOut:laidOutB Tryz.prog=true:=by kernel_rfl
theorem itoa:uV C:=fun n hn=>by
 refine⟨⟨Tryz.f52,Tryz.func52,by kernel_rfl,by kernel_rfl⟩,fun E w vs hN hW hvs=>?_⟩
 obtain⟨vl⟩:=vs
 cases hvs with
 | cons e1 e2 =>
 cases e2
 cases e1
 refine (Any.strconv_Itoa_small Tryz.brT n hn w).mono fun e w' he=>?_
 obtain⟨rfl,rfl⟩:=he
 exact⟨_,.str (cN n),E,.nil,rfl,hW,.str ⟨(Lib.decDigits n).toArray⟩,.refl _ _ _,rfl,rfl⟩
end Go.Proofs.YtelckcmlobadkaaGreatDoor
namespace Go.PM
open Go Go.Na
theorem bmX {C:Ctx} (f:aE) (hv:VF f) (v:Nat) (h:v<f.bGJ.length) :
  HU.wp C (aR ayA.res (bP (.int .i64 (kS f v)))) (PF.args [.agg f.cells,.int .i64 v]) .nil:=by
 obtain⟨hp,he⟩:=yD hv h
 have hpol:=hv.bGW _ (bIS hp)
 rw[he] at hpol
 have hw:IntKind.i64.wrap ((fK f v).k+(fK f v).m)=(fK f v).k+(fK f v).m:=wrap_i64 Om Om
 simp only[go_sem,γ,δ,ε,ζ,η,θ,ι,κ,μ,ν,ξ,ο,ρ,σ,τ,υ,reduceIte,reduceCtorEq,HU,aJC,ayA]
 refine bK .nil dC PH.nil_le ?_
 simp only[go_sem,γ,δ,ε,ζ,η,θ,ι,κ,μ,ν,ξ,ο,ρ,σ,τ,υ,reduceIte,reduceCtorEq,aJD,wK h,hv.adN h,pO hp,he]
 refine aO fun o ho=>?_
 simp only[go_sem,γ,δ,ε,ζ,η,θ,ι,κ,μ,ν,ξ,ο,ρ,σ,τ,υ,reduceIte,reduceCtorEq,aJE,hw]
 refine⟨PH.nil_le,?_⟩
 exact fQ (n:=(fK f v).k+(fK f v).m) Ev rfl

structure EK (f:aE) (L:List (List Int)):Prop where
 len:L.length=f.bGJ.length
 row:∀ v (h:v<L.length),((L[v].length:Nat):Int)=kS f v
 home:∀ r∈L,∀ x∈r,-1≤x∧x<f.bGG.length
theorem EK.byZ {f:aE} {L:List (List Int)} (h:EK f L) (hV:VF f):∀ k,k≤L.length→(L.take k).flatten.length≤k*8:=by
 have hl:=h.len
 intro k
 induction k with
 | zero=>intro _; simp
 | succ k ih =>
  intro hk
  rw[mL L hk,bIQ]
  have h1:=ih Om
  have h2:=h.row k hk
  obtain⟨hp,he⟩:=yD hV (Om:k<f.bGJ.length)
  have hpol:=hV.bGW _ (bIS hp)
  rw[he] at hpol
  unfold kS at h2
  omega
theorem EK.ok {f:aE} (hV:VF f) {L:List (List Int)} (h:EK f L):eQ L:=by
 have hv:=hV.small.bGJ
 have hl:=h.len
 have:=h.byZ hV L.length (bIU _)
 rw[bJN] at this
 exact⟨by omega,by omega⟩
section
variable {C:Ctx} {F F':PF} {H:PH}
theorem cJ (hle:F.le F') {x:aP} {v:PV} (h:x.ev F=some v):x.ev F'=some v:=by
 cases x
 ·exact hle _ _ h
 all_goals exact h
theorem aaI (hle:F.le F'):∀ {xs:List aP} {vs:List PV},aP.evs F xs=some vs→aP.evs F' xs=some vs
 | [],_,h=>h
 | x::xs,vs,h=>by
  rw[xN] at h ⊢
  cases hx:x.ev F with
  | none=>simp[hx] at h
  | some v =>
   cases hs:aP.evs F xs with
   | none=>simp[hs] at h
   | some ws =>
    rw[hx,hs] at h
    rw[cJ hle hx,aaI hle hs]
    exact h
theorem aAO (hle:F.le F'):∀ {ps:List (Nat × Nat × aP)} {cs ds:List PV},oR cs F ps=some ds→oR cs F' ps=some ds
 | [],_,_,h=>h
 | (off,size,x)::ps,cs,ds,h=>by
  simp only[oR] at h ⊢
  cases hx:x.ev F with
  | none=>simp[hx] at h
  | some v =>
   rw[hx] at h
   rw[cJ hle hx]
   simp only at h ⊢
   split at h
   ·rename_i hc; rw[if_pos hc]; exact aAO hle h
   ·cases h
theorem AM (hle:F.le F') {size:Nat}:∀ {ps:List (Nat × aP)} {cs ds:List (List PV)},fW size cs F ps=some ds→fW size cs F' ps=some ds
 | [],_,_,h=>h
 | (i,x)::ps,cs,ds,h=>by
  simp only[fW] at h ⊢
  cases hx:x.ev F with
  | none=>simp[hx] at h
  | some v =>
   rw[hx] at h
   rw[cJ hle hx]
   simp only at h ⊢
   split at h
   ·rename_i hc; rw[if_pos hc]; exact AM hle h
   ·cases h
theorem LF (hle:F.le F') {d n:Int} {x:Option aP} (h:bnd F d x=some n):bnd F' d x=some n:=by
 cases x with
 | none=>exact h
 | some x =>
  simp only[bnd] at h ⊢
  cases hx:x.ev F with
  | none=>simp[hx] at h
  | some v=>rw[cJ hle hx,← hx]; exact h
theorem aIG {op:POp} {v:PV} (hle:F.le F') (h:aN op F H=some v):aN op F' H=some v:=by
 cases op
 case mv x=>exact cJ hle h
 case pick c a b =>
  simp only[aN] at h ⊢
  cases hc:c.ev F with
  | none=>simp[hc] at h
  | some t =>
   rw[hc] at h
   rw[cJ hle hc]
   cases t<;>simp only at h ⊢<;>try cases h
   rename_i t
   cases t
   ·simp only[bLS,if_false] at h ⊢; exact cJ hle h
   ·simp only[if_true] at h ⊢; exact cJ hle h
 case same x =>
  simp only[aN] at h ⊢
  cases hx:x.ev F with
  | none=>simp[hx] at h
  | some a=>rw[cJ hle hx,← hx]; exact h
 case un o x =>
  simp only[aN] at h ⊢
  cases hx:x.ev F with
  | none=>simp[hx] at h
  | some a=>rw[cJ hle hx,← hx]; exact h
 case conv k x =>
  simp only[aN] at h ⊢
  cases hx:x.ev F with
  | none=>simp[hx] at h
  | some a=>rw[cJ hle hx,← hx]; exact h
 case bGX x =>
  simp only[aN] at h ⊢
  cases hx:x.ev F with
  | none=>simp[hx] at h
  | some a=>rw[cJ hle hx,← hx]; exact h
 case bHU o x =>
  simp only[aN] at h ⊢
  cases hx:x.ev F with
  | none=>simp[hx] at h
  | some a=>rw[cJ hle hx,← hx]; exact h
 case field o n x =>
  simp only[aN] at h ⊢
  cases hx:x.ev F with
  | none=>simp[hx] at h
  | some a=>rw[cJ hle hx,← hx]; exact h
 case bHQ x =>
  simp only[aN] at h ⊢
  cases hx:x.ev F with
  | none=>simp[hx] at h
  | some a=>rw[cJ hle hx,← hx]; exact h
 case bIK x =>
  simp only[aN] at h ⊢
  cases hx:x.ev F with
  | none=>simp[hx] at h
  | some a=>rw[cJ hle hx,← hx]; exact h
 case extract x i =>
  simp only[aN] at h ⊢
  cases hx:x.ev F with
  | none=>simp[hx] at h
  | some a=>rw[cJ hle hx,← hx]; exact h
 case bGY x =>
  simp only[aN] at h ⊢
  cases hx:x.ev F with
  | none=>simp[hx] at h
  | some a=>rw[cJ hle hx,← hx]; exact h
 case len x =>
  simp only[aN] at h ⊢
  cases hx:x.ev F with
  | none=>simp[hx] at h
  | some a=>rw[cJ hle hx,← hx]; exact h
 case box r x =>
  cases r
  ·cases h
  simp only[aN] at h ⊢
  cases hx:x.ev F with
  | none=>simp[hx] at h
  | some a=>rw[cJ hle hx,← hx]; exact h
 case load n p =>
  cases n
  all_goals
   simp only[aN] at h ⊢
   cases hx:p.ev F with
   | none=>simp[hx] at h
   | some a=>rw[cJ hle hx,← hx]; exact h
 case bin o x y =>
  simp only[aN] at h ⊢
  cases hx:x.ev F with
  | none=>simp[hx] at h
  | some a =>
   cases hy:y.ev F with
   | none=>simp[hx,hy] at h
   | some b=>rw[cJ hle hx,cJ hle hy,← hx,← hy]; exact h
 case eqb n x y =>
  simp only[aN] at h ⊢
  cases hx:x.ev F with
  | none=>simp[hx] at h
  | some a =>
   cases hy:y.ev F with
   | none=>simp[hx,hy] at h
   | some b=>rw[cJ hle hx,cJ hle hy,← hx,← hy]; exact h
 case eqs n k x y =>
  simp only[aN] at h ⊢
  cases hx:x.ev F with
  | none=>simp[hx] at h
  | some a =>
   cases hy:y.ev F with
   | none=>simp[hx,hy] at h
   | some b=>rw[cJ hle hx,cJ hle hy,← hx,← hy]; exact h
 case bHD s x i =>
  simp only[aN] at h ⊢
  cases hx:x.ev F with
  | none=>simp[hx] at h
  | some a =>
   cases hy:i.ev F with
   | none=>simp[hx,hy] at h
   | some b=>rw[cJ hle hx,cJ hle hy,← hx,← hy]; exact h
 case idxA n s x i =>
  simp only[aN] at h ⊢
  cases hx:x.ev F with
  | none=>simp[hx] at h
  | some a =>
   cases hy:i.ev F with
   | none=>simp[hx,hy] at h
   | some b=>rw[cJ hle hx,cJ hle hy,← hx,← hy]; exact h
 case idxV n s g x i =>
  simp only[aN] at h ⊢
  cases hx:x.ev F with
  | none=>simp[hx] at h
  | some a =>
   cases hy:i.ev F with
   | none=>simp[hx,hy] at h
   | some b=>rw[cJ hle hx,cJ hle hy,← hx,← hy]; exact h
 case bHR x i =>
  simp only[aN] at h ⊢
  cases hx:x.ev F with
  | none=>simp[hx] at h
  | some a =>
   cases hy:i.ev F with
   | none=>simp[hx,hy] at h
   | some b=>rw[cJ hle hx,cJ hle hy,← hx,← hy]; exact h
 case bHJ m x y =>
  simp only[aN] at h ⊢
  cases hx:x.ev F with
  | none=>simp[hx] at h
  | some a =>
   cases hy:y.ev F with
   | none=>simp[hx,hy] at h
   | some b=>rw[cJ hle hx,cJ hle hy,← hx,← hy]; exact h
 case lookup sh z x k ok =>
  simp only[aN] at h ⊢
  cases hx:x.ev F with
  | none=>simp[hx] at h
  | some a =>
   cases hy:k.ev F with
   | none=>simp[hx,hy] at h
   | some b=>rw[cJ hle hx,cJ hle hy,← hx,← hy]; exact h
 case build z ps =>
  simp only[aN,bIW] at h ⊢
  obtain⟨cs,h1,h2⟩:=h
  exact⟨cs,aAO hle h1,h2⟩
 case bGN r s l z ps =>
  cases r
  ·cases h
  simp only[aN] at h ⊢
  split at h
  ·rename_i hc
   rw[if_pos hc]
   rw[bIW] at h ⊢
   obtain⟨cs,h1,h2⟩:=h
   exact⟨cs,AM hle h1,h2⟩
  ·cases h
 case mkfn n cs =>
  simp only[aN,bIW] at h ⊢
  obtain⟨vs,h1,h2⟩:=h
  exact⟨vs,aaI hle h1,h2⟩
 case sliceA n s x lo hi mx =>
  cases lo<;>cases hi<;>cases mx<;>simp only[aN] at h ⊢<;>try cases h
  cases hx:x.ev F with
  | none=>simp[hx] at h
  | some a=>rw[cJ hle hx,← hx]; exact h
 case bHL x lo hi =>
  simp only[aN] at h ⊢
  cases hx:x.ev F with
  | none=>simp[hx] at h
  | some a =>
   rw[hx] at h
   rw[cJ hle hx]
   cases a<;>simp only at h ⊢<;>try cases h
   cases h1:bnd F 0 lo with
   | none=>simp[h1] at h
   | some l =>
    rename_i s
    cases h2:bnd F s.length hi with
    | none=>simp[h1,h2] at h
    | some u=>rw[LF hle h1,LF hle h2,← h1,← h2]; exact h
 case slice s x lo hi mx =>
  simp only[aN] at h ⊢
  cases hx:x.ev F with
  | none=>simp[hx] at h
  | some a =>
   rw[hx] at h
   rw[cJ hle hx]
   have key:∀ (d:Int) (w:PV),(match bnd F 0 lo,bnd F d hi with
     | some a1,some a2=>match (generalizing:=false) mx with
      | none=>PV.slice s w a1 a2 none
      | some m=>(bnd F 0 (some m)).bind fun m=>PV.slice s w a1 a2 (some m)
     | _,_=>none)=some v→(match bnd F' 0 lo,bnd F' d hi with
     | some a1,some a2=>match (generalizing:=false) mx with
      | none=>PV.slice s w a1 a2 none
      | some m=>(bnd F' 0 (some m)).bind fun m=>PV.slice s w a1 a2 (some m)
     | _,_=>none)=some v:=by
    intro d w h
    cases h1:bnd F 0 lo with
    | none=>simp[h1] at h
    | some l =>
     cases h2:bnd F d hi with
     | none=>simp[h1,h2] at h
     | some u =>
      rw[h1,h2] at h
      rw[LF hle h1,LF hle h2]
      cases mx with
      | none=>exact h
      | some m =>
       simp only at h ⊢
       cases h3:bnd F 0 (some m) with
       | none=>simp[h3] at h
       | some q=>rw[LF hle h3,← h3]; exact h
   cases a<;>simp only at h ⊢<;>first | exact key _ _ h | cases h
 all_goals exact h
theorem azN {op:POp} {r:(Nat→PV) × cE} (hle:F.le F') (h:cR op F=some r):cR op F'=some r:=by
 cases op
 case box b x =>
  cases b
  ·simp only[cR] at h ⊢
   cases hx:x.ev F with
   | none=>simp[hx] at h
   | some a=>rw[cJ hle hx,← hx]; exact h
  ·cases h
 case bGN b s l z ps =>
  cases b
  ·simp only[cR] at h ⊢
   split at h
   ·rename_i hc
    rw[if_pos hc]
    rw[bIW] at h ⊢
    obtain⟨cs,h1,h2⟩:=h
    exact⟨cs,AM hle h1,h2⟩
   ·cases h
  ·cases h
 case bGS s b z l c =>
  simp only[cR] at h ⊢
  cases hx:l.ev F with
  | none=>simp[hx] at h
  | some a =>
   cases hy:c.ev F with
   | none=>simp[hx,hy] at h
   | some b=>rw[cJ hle hx,cJ hle hy,← hx,← hy]; exact h
 all_goals exact h
theorem aOO {op:POp} {K:PV→PH→Prop} (hle:F.le F') (h:bU op F H K):bU op F' H K:=by
 cases op
 case store n x y =>
  simp only[bU] at h ⊢
  cases hx:x.ev F with
  | none=>simp[hx] at h
  | some a =>
   cases hy:y.ev F with
   | none=>simp[hx,hy] at h
   | some b=>rw[cJ hle hx,cJ hle hy]; rw[hx,hy] at h; exact h
 case append s b x y =>
  simp only[bU] at h ⊢
  cases hx:x.ev F with
  | none=>simp[hx] at h
  | some a =>
   cases hy:y.ev F with
   | none=>simp[hx,hy] at h
   | some b=>rw[cJ hle hx,cJ hle hy]; rw[hx,hy] at h; exact h
 case bHG sh x y z =>
  simp only[bU] at h ⊢
  cases hx:x.ev F with
  | none=>simp[hx] at h
  | some a =>
   cases hy:y.ev F with
   | none=>simp[hx,hy] at h
   | some b =>
    cases hz:z.ev F with
    | none=>simp[hx,hy,hz] at h
    | some c=>rw[cJ hle hx,cJ hle hy,cJ hle hz]; rw[hx,hy,hz] at h; exact h
 case insert sh x y z =>
  simp only[bU] at h ⊢
  cases hx:x.ev F with
  | none=>simp[hx] at h
  | some a =>
   cases hy:y.ev F with
   | none=>simp[hx,hy] at h
   | some b =>
    cases hz:z.ev F with
    | none=>simp[hx,hy,hz] at h
    | some c=>rw[cJ hle hx,cJ hle hy,cJ hle hz]; rw[hx,hy,hz] at h; exact h
 all_goals exact h
theorem PF.bwQ (hle:F.le F') (i:Nat) (v:PV):(F.set i v).le (F'.set i v):=by
 intro j u h
 rw[mJ] at h ⊢
 split at h
 ·rename_i e; rw[if_pos e]; exact h
 ·rename_i e; rw[if_neg e]; exact hle j u h
theorem PF.yF (hle:F.le F') (d:Option Nat) (v:PV):(F.put d v).le (F'.put d v):=by
 cases d with
 | none=>exact hle
 | some d=>exact PF.bwQ hle d v
theorem PF.bvL (hle:F.le F') (o s:Nat) (rs:List (List PV)):(F.frz o s rs).le (F'.frz o s rs):=by
 intro j u h
 rw[rL,bIW] at h ⊢
 obtain⟨x,h1,h2⟩:=h
 exact⟨x,hle j x h1,h2⟩
theorem PF.le_trans {A B D:PF} (h:A.le B) (k:B.le D):A.le D:=fun i v hi=>k i v (h i v hi)
theorem jI.up {F1:PF} {H1:PH} (h:jI F H F1 H1):∀ {F':PF},F.le F'→∃ F1',jI F' H F1' H1∧F1.le F1':=by
 induction h with
 | refl F H=>exact fun {F'} hle=>⟨F',.refl _ _,hle⟩
 | step o ho _ ih =>
  intro F' hle
  obtain⟨F1',h1,h2⟩:=ih (PF.bvL hle o _ _)
  exact⟨F1',.step o ho h1,h2⟩
theorem aaA {name:Nat} {args:Option (List PV)} {d:Option Nat} {K1 K2:PF→PH→Prop} (hK:∀ F F' H,F.le F'→K1 F H→K2 F' H) (hle:F.le F') {args':Option (List PV)} (ha:∀ vs,args=some vs→args'=some vs) (h:rA C name args d K1 F H):rA C name args' d K2 F' H:=by
 obtain⟨vs,H0,R,h1,h2,h3,h4⟩:=h
 exact⟨vs,H0,R,ha _ h1,h2,h3,fun r H' a b=>hK _ _ _ (PF.yF hle d r) (h4 r H' a b)⟩
theorem aFA {cs:List PV} {args:List aP} (hle:F.le F') (vs:List PV) (h:(aP.evs F args).map (·++cs)=some vs):(aP.evs F' args).map (·++cs)=some vs:=by
 rw[bIW] at h ⊢
 obtain⟨x,h1,h2⟩:=h
 exact⟨x,aaI hle h1,h2⟩
theorem aSP {name:Nat} {args:List aP} {cs:List PV} {d:Option Nat} {K1 K2:PF→PH→Prop} (hK:∀ F F' H,F.le F'→K1 F H→K2 F' H) (hle:F.le F') (h:gW C name args cs d K1 F H):gW C name args cs d K2 F' H:=by
 rcases h with h | ⟨F1,H1,h1,h2⟩
 ·exact .inl (aaA hK hle (aFA hle) h)
 ·obtain⟨F1',k1,k2⟩:=h1.up hle
  exact .inr ⟨F1',H1,k1,aaA hK k2 (aFA k2) h2⟩
theorem MZ {op:POp} {d:Option Nat} {K1 K2:PF→PH→Prop} (hK:∀ F F' H,F.le F'→K1 F H→K2 F' H) (hle:F.le F') (h:lZ (cR op F) d K1 F H):lZ (cR op F') d K2 F' H:=by
 obtain⟨mk,x,h1,h2⟩:=h
 exact⟨mk,x,azN hle h1,fun o ho=>hK _ _ _ (PF.yF hle d _) (h2 o ho)⟩
theorem ajR {op:POp} {d:Option Nat} {K1 K2:PF→PH→Prop} (hK:∀ F F' H,F.le F'→K1 F H→K2 F' H) (hle:F.le F') (h:bS (aN op F H) d K1 F H):bS (aN op F' H) d K2 F' H:=by
 obtain⟨v,h1,h2⟩:=h
 exact⟨v,aIG hle h1,hK _ _ _ (PF.yF hle d v) h2⟩
theorem ayW {op:POp} {d:Option Nat} {K1 K2:PF→PH→Prop} (hK:∀ F F' H,F.le F'→K1 F H→K2 F' H) (hle:F.le F') (h:bU op F H fun r H'=>K1 (F.put d r) H'):bU op F' H fun r H'=>K2 (F'.put d r) H' :=
 aOO hle (yW (fun v H' hh=>hK _ _ _ (PF.yF hle d v) hh) h)
theorem bpK {op:POp} {d:Option Nat} {K1 K2:PF→PH→Prop} (hK:∀ F F' H,F.le F'→K1 F H→K2 F' H) (hle:F.le F') (h:wpOp C op d K1 F H):wpOp C op d K2 F' H:=by
 cases op
 case call n a=>exact aSP hK hle h
 case bHT x a =>
  obtain⟨n,cs,h1,h2⟩:=h
  exact⟨n,cs,cJ hle h1,aSP hK hle h2⟩
 case box r x=>cases r<;>first | exact MZ (op:=.box false x) hK hle h | exact ajR (op:=.box true x) hK hle h
 case bGN r s l z ps=>cases r<;>first | exact MZ (op:=.bGN false s l z ps) hK hle h | exact ajR (op:=.bGN true s l z ps) hK hle h
 case alloc cs=>exact MZ (op:=.alloc cs) hK hle h
 case bGS s b z l c=>exact MZ (op:=.bGS s b z l c) hK hle h
 case bIE sh=>exact MZ (op:=.bIE sh) hK hle h
 case store n x y=>exact ayW (op:=.store n x y) hK hle h
 case append s b x y=>exact ayW (op:=.append s b x y) hK hle h
 case bHG sh x y z=>exact ayW (op:=.bHG sh x y z) hK hle h
 case insert sh x y z=>exact ayW (op:=.insert sh x y z) hK hle h
 all_goals exact ajR hK hle h
theorem NS {K1 K2:PF→PH→Prop} (hK:∀ F F' H,F.le F'→K1 F H→K2 F' H):∀ {ops:List bB} {F F':PF} {H:PH},F.le F'→wpOps C ops K1 F H→wpOps C ops K2 F' H
 | [],_,_,_,hle,h=>hK _ _ _ hle h
 | ⟨d,op,none⟩::rest,_,_,_,hle,h=>bpK (fun _ _ _ a b=>NS hK a b) hle h
 | ⟨d,op,some (t,want)⟩::rest,F,F',H,hle,h=>by
  rw[aSH] at h ⊢
  unfold uG at h
  split at h
  ·rename_i b hb
   rw[hle t _ hb]
   unfold uG
   simp only
   split at h
   ·rename_i e; rw[if_pos e]; exact bpK (fun _ _ _ a b=>NS hK a b) hle h
   ·rename_i e; rw[if_neg e]; exact NS hK (PF.yF hle d _) h
  ·rename_i hb
   rw[hle t _ hb]
   exact NS hK (PF.yF hle d _) h
  ·exact h.elim
theorem aHZ {Hs:PH} {S:Spec} {st:Bool} {op:POp} {K:PV→PH→Prop} (hle:F.le F') (h:(op.kind F).run C Hs S st K H):(op.kind F').run C Hs S st K H:=by
 have new:∀ op:POp,(Kind.new (cR op F)).run C Hs S st K H→(Kind.new (cR op F')).run C Hs S st K H:=fun op h=>by
  obtain⟨mk,x,h1,h2⟩:=h
  exact⟨mk,x,azN hle h1,h2⟩
 have calm:∀ op:POp,(Kind.calm (aN op F)).run C Hs S st K H→(Kind.calm (aN op F')).run C Hs S st K H:=fun op h=>by
  obtain⟨v,h1,h2⟩:=h
  exact⟨v,aIG hle h1,h2⟩
 have wr:∀ op:POp,(Kind.write fun H K=>bU op F H K).run C Hs S st K H→(Kind.write fun H K=>bU op F' H K).run C Hs S st K H:=fun op h=>aOO (op:=op) hle (show bU op F H (fun r H'=>Hs.le H'∧K r H') from h)
 cases op
 case call n a =>
  obtain⟨vs,D,R,h1,h2⟩:=h
  exact⟨vs,D,R,aaI hle h1,h2⟩
 case bHT x a =>
  unfold POp.kind at h ⊢
  simp only at h ⊢
  cases hx:x.ev F with
  | none=>rw[hx] at h; exact h.elim
  | some u =>
   rw[hx] at h
   rw[cJ hle hx]
   cases u<;>simp only at h ⊢<;>first | exact h | skip
   obtain⟨vs,D,R,h1,h2⟩:=h
   exact⟨vs,D,R,aFA hle _ h1,h2⟩
 case insert sh x k v =>
  obtain⟨o,sh',key,u,g,h1,h2⟩:=h
  refine⟨o,sh',key,u,g,?_,h2⟩
  cases hx:x.ev F with
  | none=>simp[hx] at h1
  | some a =>
   cases hy:k.ev F with
   | none=>simp[hx,hy] at h1
   | some b =>
    cases hz:v.ev F with
    | none=>simp[hx,hy,hz] at h1
    | some c=>rw[cJ hle hx,cJ hle hy,cJ hle hz]; rw[hx,hy,hz] at h1; exact h1
 case box r x=>cases r<;>first | exact new (.box false x) h | exact calm (.box true x) h
 case bGN r s l z ps=>cases r<;>first | exact new (.bGN false s l z ps) h | exact calm (.bGN true s l z ps) h
 case alloc cs=>exact new (.alloc cs) h
 case bGS s b z l c=>exact new (.bGS s b z l c) h
 case bIE sh=>exact new (.bIE sh) h
 case store n x y=>exact wr (.store n x y) h
 case append s b x y=>exact wr (.append s b x y) h
 case bHG sh x y z=>exact wr (.bHG sh x y z) h
 all_goals exact calm _ h
theorem bkF {Hs:PH} {S:Spec} {st:Bool} {i:bB} {K:PV→PH→Prop} (hle:F.le F') (h:(i.kind F).run C Hs S st K H):(i.kind F').run C Hs S st K H:=by
 unfold bB.kind at h ⊢
 split
 ·rename_i hg
  rw[hg] at h
  exact aHZ hle h
 ·rename_i t want hg
  rw[hg] at h
  simp only at h
  split at h
  ·rename_i b hb
   rw[hle t _ hb]
   simp only
   split at h
   ·rename_i e; rw[if_pos e]; exact aHZ hle h
   ·rename_i e; rw[if_neg e]; exact h
  ·rename_i hb
   rw[hle t _ hb]
   exact h
  ·exact h.elim
theorem bhX {Hs:PH} {S:Spec} {K1 K2:PF→PH→Prop} (hK:∀ F F' H,F.le F'→K1 F H→K2 F' H):∀ {ops:List (bB × Bool)} {F F':PF} {H:PH},Hs.le H→F.le F'→wpD C Hs S ops K1 F H→wpD C Hs S ops K2 F' H
 | [],_,_,_,_,hle,h=>hK _ _ _ hle h
 | i::rest,F,F',H,hs,hle,h=>by
  have h1:(i.1.kind F).run C Hs S i.2 (fun v H'=>wpD C Hs S rest K1 (F.put i.1.dst v) H') H:=h
  exact bkF hle (Kind.qG (qC _ _) (fun v H' hs' hh=>bhX hK hs' (PF.yF hle _ v) hh) hs h1)
class Up (K:bX):Prop where
 up:∀ {e:lP} {F F':PF} {H:PH},F.le F'→K e F H→K e F' H
theorem sG:∀ (c:aB) {K1 K2:bX} (_:∀ e F F' H,F.le F'→K1 e F H→K2 e F' H) {F F':PF} {H:PH},F.le F'→c.wp C K1 F H→c.wp C K2 F' H
 | .skip,_,_,hK,_,_,_,hle,h=>hK _ _ _ _ hle h
 | .region ops,_,_,hK,_,_,_,hle,h=>NS (hK .normal) hle h
 | .draw ops,_,_,hK,_,_,_,hle,⟨Hs,S,h1,h2⟩=>⟨Hs,S,h1,bhX (hK .normal) h1 hle h2⟩
 | .seq a b,K1,K2,hK,_,_,_,hle,h=>sG a (K1:=hC C (b.wp C) K1) (K2:=hC C (b.wp C) K2) (fun e F F' H hl hh=>by
   cases e with
   | normal=>exact sG b hK hl hh
   | exit id=>exact hK (.exit id) _ _ _ hl hh
   | ret=>exact hK .ret _ _ _ hl hh) hle h
 | .cond c a b,K1,K2,hK,F,F',H,hle,h=>by
  rw[boY] at h ⊢
  unfold QP at h
  split at h
  ·rename_i t ht
   rw[cJ hle ht]
   unfold QP
   simp only
   split at h
   ·rename_i e; rw[if_pos e]; exact sG a hK hle h
   ·rename_i e; rw[if_neg e]; exact sG b hK hle h
  ·exact h.elim
 | .block id c,K1,K2,hK,_,_,_,hle,h=>sG c (K1:=dJ id K1) (K2:=dJ id K2) (fun e F F' H hl hh=>by
   cases e with
   | normal=>exact hK .normal _ _ _ hl hh
   | exit j =>
    rw[AL] at hh ⊢
    split at hh
    ·rename_i e; rw[if_pos e]; exact hK .normal _ _ _ hl hh
    ·rename_i e; rw[if_neg e]; exact hK (.exit j) _ _ _ hl hh
   | ret=>exact hK .ret _ _ _ hl hh) hle h
 | .loop c,K1,K2,hK,F,F',H,hle,⟨α,Fs,Hs,Pr,m,a0,F1,H1,h1,h2,h3,h4,h5⟩=>by
  obtain⟨F1',k1,k2⟩:=h1.up hle
  refine⟨α,Fs,Hs,Pr,m,a0,F1',H1,k1,h2,PF.le_trans h3 k2,h4,fun a ha=>?_⟩
  refine sG c (K1:=dQ Fs Hs Pr m (m a) K1) (K2:=dQ Fs Hs Pr m (m a) K2) (fun e F F' H hl hh=>?_) PF.le_refl (h5 a ha)
  cases e with
  | normal =>
   obtain⟨b,F2,H2,z1,z2,z3,z4,z5⟩:=hh
   obtain⟨F2',y1,y2⟩:=z1.up hl
   exact⟨b,F2',H2,y1,z2,z3,PF.le_trans z4 y2,z5⟩
  | exit id=>exact hK (.exit id) _ _ _ hl hh
  | ret=>exact hK .ret _ _ _ hl hh
 | .exit id,_,_,hK,_,_,_,hle,h=>hK (.exit id) _ _ _ hle h
 | .ret,_,_,hK,_,_,_,hle,h=>hK .ret _ _ _ hle h
instance Up.seq {K:bX} [Up K] (b:aB):Up (hC C (b.wp C) K) where
 up {e} {F} {F'} {H} hl hh:=by
  cases e with
  | normal=>exact sG b (fun e F F' H a h=>Up.up a h) hl hh
  | exit id=>exact Up.up (K:=K) (e:=.exit id) hl hh
  | ret=>exact Up.up (K:=K) (e:=.ret) hl hh
instance Up.block {K:bX} [Up K] (id:Nat):Up (dJ id K) where
 up {e} {F} {F'} {H} hl hh:=by
  cases e with
  | normal=>exact Up.up (K:=K) (e:=.normal) hl hh
  | exit j =>
   rw[AL] at hh ⊢
   split at hh
   ·rename_i e; rw[if_pos e]; exact Up.up (K:=K) (e:=.normal) hl hh
   ·rename_i e; rw[if_neg e]; exact Up.up (K:=K) (e:=.exit j) hl hh
  | ret=>exact Up.up (K:=K) (e:=.ret) hl hh
instance Up.loop {K:bX} [Up K] {α:Type} (Fs:α→PF) (Hs:α→PH) (Pr:α→Prop) (m:α→Nat) (n:Nat):Up (dQ Fs Hs Pr m n K) where
 up {e} {F} {F'} {H} hl hh:=by
  cases e with
  | normal =>
   obtain⟨b,F2,H2,z1,z2,z3,z4,z5⟩:=hh
   obtain⟨F2',y1,y2⟩:=z1.up hl
   exact⟨b,F2',H2,y1,z2,z3,PF.le_trans z4 y2,z5⟩
  | exit id=>exact Up.up (K:=K) (e:=.exit id) hl hh
  | ret=>exact Up.up (K:=K) (e:=.ret) hl hh
theorem bwI {H:PH} (hle:F.le F') {x:dW} {v:PV} (h:x.ev F H=some v):x.ev F' H=some v:=by
 cases x with
 | tmp t=>exact hle t v h
 | cell t n =>
  cases n<;>simp only[dW.ev] at h ⊢<;>(cases hx:F t with
   | none=>simp[hx] at h
   | some a=>rw[hle t a hx,← hx]; exact h)
theorem alP {H:PH} (hle:F.le F'):∀ {xs:List dW} {vs:List PV},dW.evs F H xs=some vs→dW.evs F' H xs=some vs
 | [],_,h=>h
 | x::xs,vs,h=>by
  rw[kP] at h ⊢
  cases hx:x.ev F H with
  | none=>simp[hx] at h
  | some v =>
   cases hs:dW.evs F H xs with
   | none=>simp[hs] at h
   | some ws =>
    rw[hx,hs] at h
    rw[bwI hle hx,alP hle hs]
    exact h
instance Up.ret (res:List dW) (R:PV→PH→Prop):Up (aR res R) where
 up {e} {F} {F'} {H} hl hh:=by
  cases e with
  | exit id=>exact hh
  | normal=>obtain⟨vs,h1,h2⟩:=hh; exact⟨vs,alP hl h1,h2⟩
  | ret=>obtain⟨vs,h1,h2⟩:=hh; exact⟨vs,alP hl h1,h2⟩
end
section
variable {H:PH} {B:List BX} {L:List LI}
end
theorem SH {p:Int→Bool}:∀ {l:List Int} {i:Nat},(∀ x∈l,p x=false)→eA p l i=none
 | [],_,_=>rfl
 | y::t,i,h=>by
  rw[eA,h y (by simp),if_neg (by decide)]
  exact SH fun x hx=>h x (by simp[hx])
theorem EK.shape {f:aE} {L:List (List Int)} (h:EK f L) {v:Nat} (hv:v<L.length):jM f L v=none:=by
 have e:L.getD v []=L[v]:=by simp[bJE,hv]
 unfold jM
 rw[e,if_pos (h.row v hv),SH]
 ·rfl
 ·intro x hx
  have:=h.home _ (bIS hv) x hx
  simp[gZ]
  omega
section
variable {H:PH} {B:List BX} {L:List LI} {s:Nat} {rows:List (List PV)}
theorem mN.some (s:Nat) (rows:List (List PV)) (G:PH):∃ r H',mN s rows r H'∧mM G .nil H':=by
 obtain⟨o,ho⟩:=G.fresh
 refine⟨.osl o s 0 rows.length,PH.nil.set o (.rows s rows),.inr ⟨o,rows,rfl,rfl,bIU _,bJN⟩,fun q x hx _=>?_⟩
 rw[bA] at hx
 split at hx
 ·rename_i e; rw[e]; exact ho
 ·cases hx
end

section
variable {C:Ctx} {F:PF} {H Hs:PH} {tn a a2:Nat} {raw:List Int} {R:Nat→PV→PH→Prop} {st:Bool} {args:List aP} {d:Option Nat} {K:PF→PH→Prop}
end
section
variable {C:Ctx} {F:PF} {H:PH} {B:List BX} {L:List LI} {args:List aP} {d:Option Nat} {K:PF→PH→Prop}
end


theorem EK.move {f:aE} {L:List (List Int)} (h:EK f L) {x k d:Nat} (hx:x<L.length) (hd:d<f.bGG.length):EK f (L.set x (L[x].set k d)):=by
 refine⟨by rw[bKU]; exact h.len,fun v hv=>?_,fun r hr=>?_⟩
 ·rw[bKU] at hv
  have:=h.row v hv
  rw[List.getElem_set]
  split
  ·rename_i e
   subst e
   rw[bKU]; exact this
  ·exact this
 ·rcases List.mem_or_eq_of_mem_set hr with hr | rfl
  ·exact h.home r hr
  ·intro y hy
   rcases List.mem_or_eq_of_mem_set hy with hy | rfl
   ·exact h.home _ (bIS hx) y hy
   ·omega

structure baB (C:Ctx):Prop extends dY C where
 r3:aL C 3 aVW
 r6:aL C 6 bpJ
 r18:aL C 18 bbL
 r82:aL C 82 ayA
end Go.PM
