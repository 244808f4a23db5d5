/-
  Texts of ours, joined: ZdCodes ZdBase MkW17 MkW18 L11W5 Pm37 L11W6 L11P2 L11W7 L11W8 L11W9 L11W10 L11W11 L11W12 L11W13 Jn4. No condition.
-/
import Derived.Test.YtelckcmlobadkaaGreatDoorMd1
import Derived.Test.YtelckcmlobadkaaGreatDoorMd2
import Derived.Test.YtelckcmlobadkaaGreatDoorMd3
import Derived.Test.YtelckcmlobadkaaGreatDoorMd4
import Derived.Test.YtelckcmlobadkaaGreatDoorMd5
import Derived.Test.YtelckcmlobadkaaGreatDoorProg
import Derived.KernelRfl
import Derived.Test.YtelckcmlobadkaaGreatDoorRows
import Derived.ProofKit
import Derived.WalkKit
import Derived.LaidMore
import Derived.OpenShut
import Derived.Stop.Joined
set_option linter.unusedSimpArgs false
set_option linter.unusedVariables false
open Nat renaming reduceEqDiff → γ, reduceAdd → δ, reduceSub → ε, reduceMul → ζ, reduceLT → η, reduceLeDiff → θ, reduceBEq → τ
open Int renaming reduceLT → ι, reduceLE → κ, reduceEq → μ, reduceToNat → ν, reduceAdd → ξ, reduceNeg → ο, reduceBEq → ρ, reduceBNe → σ
open List renaming reduceReplicate → υ
open List renaming length_map → bKY, range → bKZ, length_append → bLC, replicate → bLD, getElem_mem → bLF, length_singleton → bLH, getElem?_eq_getElem → bLL, mem_cons → bLO, getD_eq_getElem?_getD → bLP, take_of_length_le → bLQ, length_take → bLR, all_eq_true → bLU, not_mem_nil → bLW, take_length → bLZ, append_assoc → bMA, drop_zero → bMD, mem_map → bMF, getElem?_map → bMH, map_cons → bMI, getElem?_eq_none → bML, getElem?_eq_some_iff → bMM, getElem_map → bMN, getElem_of_mem → bMO, append_nil → bMP, mem_range → bMQ, mem_append → bMT, drop_eq_getElem_cons → bMU, map_append → bMW, Sublist → bMX, length_drop → bMY, map_nil → bMZ, take_succ_eq_append_getElem → bNC, length_nil → bNJ, length_set → bNL, length_cons → bNM, mem_of_getElem? → bNO, take_append_drop → bNP, nodup_append → bNQ, getElem?_append_left → bNV, ext_getElem → bNW, getElem?_append_right → bNX, getElem?_take → bNZ, set_append_right → bOA, drop_of_length_le → bOG
open Nat renaming gcd → bLA, zero_le → bLE, le_refl → bLG, mul_add → bLM, lt_or_ge → bLS, mul_assoc → bLV, zero_add → bLX, mul_comm → bLY, add_mul → bMB, mul_le_mul_right → bMC, mod_eq_of_lt → bMG, mod_lt → bMJ, pow_succ → bMR, add_zero → bMV, eq_zero_or_pos → bNA, min_eq_left → bNB, add_assoc → bND, le_trans → bNE, mul_le_mul_left → bNF, pos_of_ne_zero → bNG, pow_pos → bNN, div_lt_iff_lt_mul → bNR, div_le_self → bNY, div_add_mod → bOB, div_eq_of_lt → bOC
open Bool renaming not_true → bLB, false_and → bLI, not_false → bLK, true_and → bLN, and_eq_true → bLT, and_false → bMK, and_true → bNK, and_assoc → bNT, false_eq_true → bOF
open Option renaming map_eq_some_iff → bLJ, map_some → bME, getD_some → bNH, some → bNI, bind_eq_some_iff → bOD, bind_some → bOH
open Array renaming replicate → bMS, length_toList → bNS, getElem?_eq_getElem → bOE, getElem?_eq_some_iff → bOI
open Int renaming toNat_natCast → bNU
namespace Go.Proofs.YtelckcmlobadkaaGreatDoor
open Go Go.PM
def byI:List Nat:=[11,51,27,12,26,31,14,30,0,0,0,3,7,9,5,8,4,6,17,24,18,23,48,36,0,0,0,20,10,28,152,111,110,66,65,54,155,154,64,85,115,84,114,161,113,112,136,29,162,105,32,101,102,100,77,99,76,153,53,55,137,103,96,151,135,134,104,59,75,80,74,97,79,73,78,98,72,81,40,43,82,42,33,50,45,46,47,49,60,61,62,0,0,0,41,69,56,87,126,88,128,131,92,127,67,86,93,129,94,130,71,68,70,119,91,90,116,89,122,121,120,124,125,95,150,133,132,144,117,123,147,146,118,149,145,148,160,158,143,166,163,159,165,164,0,0,0,15,22,21,16,44,13,25,19,35,57,39,38,58,37,34,83,63,140,108,109,141,138,107,106,0,0,0,0,0,0,0,0,0,0,0,0,0,0,0,0,0,0,0,0,0,0,0,0,52,0,0,0,0,0]
def buQ:List (Option Nat):=[none,none,none,some 11,some 16,some 14,some 17,some 12,some 15,some 13,some 28,some 0,some 3,some 152,some 6,some 147,some 150,some 18,some 20,some 154,some 27,some 149,some 148,some 21,some 19,some 153,some 4,some 2,some 29,some 47,some 7,some 5,some 50,some 82,some 161,some 155,some 23,some 160,some 158,some 157,some 78,some 94,some 81,some 79,some 151,some 84,some 85,some 86,some 22,some 87,some 83,some 1,some 195,some 58,some 35,some 59,some 96,some 156,some 159,some 67,some 88,some 89,some 90,some 163,some 38,some 34,some 33,some 104,some 111,some 95,some 112,some 110,some 76,some 73,some 70,some 68,some 56,some 54,some 74,some 72,some 69,some 77,some 80,some 162,some 41,some 39,some 105,some 97,some 99,some 117,some 115,some 114,some 102,some 106,some 108,some 123,some 62,some 71,some 75,some 55,some 53,some 51,some 52,some 61,some 66,some 49,some 170,some 169,some 165,some 166,some 32,some 31,some 45,some 44,some 42,some 40,some 116,some 128,some 132,some 113,some 120,some 119,some 118,some 129,some 121,some 122,some 98,some 103,some 100,some 107,some 109,some 101,some 126,some 125,some 65,some 64,some 46,some 60,some 168,none,some 164,some 167,none,some 138,some 127,some 134,some 131,some 130,some 135,some 133,some 124,some 63,some 30,some 57,some 37,some 36,none,none,some 137,some 141,some 136,some 43,some 48,some 140,some 143,some 142,some 139]
def num (n:Nat):FuncId:=byI.getD n 0
def nameOf (f:FuncId):Option Nat:=buQ.getD f none
noncomputable def C:Ctx:=⟨Tryz.prog,num⟩
noncomputable def T (ro:List Nat):Tbl:={ P:=Tryz.prog,num:=num,name:=nameOf,ro:=ro }
theorem q0:aL C 0 PM.adT:=bG (T bfJ) rfl rfl Tryz.func11 (by kernel_rfl) (by kernel_rfl)
theorem q1:aL C 1 PM.aAI:=bG (T bnM) rfl rfl Tryz.func51 (by kernel_rfl) (by kernel_rfl)
theorem q2:aL C 2 PM.a8Z:=bG (T buH) rfl rfl Tryz.func27 (by kernel_rfl) (by kernel_rfl)
theorem q4:aL C 4 PM.aeZ:=bG (T bnV) rfl rfl Tryz.func26 (by kernel_rfl) (by kernel_rfl)
theorem q5:aL C 5 PM.a9F:=bG (T buN) rfl rfl Tryz.func31 (by kernel_rfl) (by kernel_rfl)
theorem q7:aL C 7 PM.aeQ:=bG (T bnN) rfl rfl Tryz.func30 (by kernel_rfl) (by kernel_rfl)
theorem q20:aL C 20 PM.adL:=bG (T beC) rfl rfl Tryz.func18 (by kernel_rfl) (by kernel_rfl)
theorem q23:aL C 23 PM.adP:=bG (T bfD) rfl rfl Tryz.func36 (by kernel_rfl) (by kernel_rfl)
theorem q27:aL C 27 PM.adQ:=bG (T bfG) rfl rfl Tryz.func20 (by kernel_rfl) (by kernel_rfl)
theorem q28:aL C 28 PM.a9E:=bG (T buL) rfl rfl Tryz.func10 (by kernel_rfl) (by kernel_rfl)
theorem q29:aL C 29 PM.aAJ:=bG (T bnT) rfl rfl Tryz.func28 (by kernel_rfl) (by kernel_rfl)
theorem q30:aL C 30 PM.bbF:=bG (T bwA) rfl rfl Tryz.func152 (by kernel_rfl) (by kernel_rfl)
theorem q31:aL C 31 PM.aAU:=bG (T bpX) rfl rfl Tryz.func111 (by kernel_rfl) (by kernel_rfl)
theorem q32:aL C 32 PM.bbG:=bG (T bwC) rfl rfl Tryz.func110 (by kernel_rfl) (by kernel_rfl)
theorem q33:aL C 33 PM.udiv:=bG (T bwE) rfl rfl Tryz.func66 (by kernel_rfl) (by kernel_rfl)
theorem q34:aL C 34 PM.bbL:=bG (T bwG) rfl rfl Tryz.func65 (by kernel_rfl) (by kernel_rfl)
theorem q35:aL C 35 PM.aAW:=bG (T bqD) rfl rfl Tryz.func54 (by kernel_rfl) (by kernel_rfl)
theorem q36:aL C 36 PM.bbN:=bG (T bwI) rfl rfl Tryz.func155 (by kernel_rfl) (by kernel_rfl)
theorem q37:aL C 37 PM.bbP:=bG (T bwM) rfl rfl Tryz.func154 (by kernel_rfl) (by kernel_rfl)
theorem q38:aL C 38 PM.aAY:=bG (T bqM) rfl rfl Tryz.func64 (by kernel_rfl) (by kernel_rfl)
theorem q39:aL C 39 PM.TJ:=bG (T bbK) rfl rfl Tryz.func85 (by kernel_rfl) (by kernel_rfl)
theorem q40:aL C 40 PM.aAV:=bG (T bqB) rfl rfl Tryz.func115 (by kernel_rfl) (by kernel_rfl)
theorem q41:aL C 41 PM.aiM:=bG (T bjC) rfl rfl Tryz.func84 (by kernel_rfl) (by kernel_rfl)
theorem q42:aL C 42 PM.aiN:=bG (T bjE) rfl rfl Tryz.func114 (by kernel_rfl) (by kernel_rfl)
theorem q43:aL C 43 PM.aAX:=bG (T bqJ) rfl rfl Tryz.func161 (by kernel_rfl) (by kernel_rfl)
theorem q44:aL C 44 PM.aiR:=bG (T bjG) rfl rfl Tryz.func113 (by kernel_rfl) (by kernel_rfl)
theorem q45:aL C 45 PM.uup:=bG (T bzG) rfl rfl Tryz.func112 (by kernel_rfl) (by kernel_rfl)
theorem q47:aL C 47 PM.bbU:=bG (T bwP) rfl rfl Tryz.func29 (by kernel_rfl) (by kernel_rfl)
theorem q50:aL C 50 PM.ajE:=bG (T bqU) rfl rfl Tryz.func32 (by kernel_rfl) (by kernel_rfl)
theorem q58:aL C 58 PM.TM:=bG (T bbX) rfl rfl Tryz.func53 (by kernel_rfl) (by kernel_rfl)
theorem q59:aL C 59 PM.aBJ:=bG (T brA) rfl rfl Tryz.func55 (by kernel_rfl) (by kernel_rfl)
theorem q95:aL C 95 PM.a6W:=bG (T bsY) rfl rfl Tryz.func69 (by kernel_rfl) (by kernel_rfl)
theorem q96:aL C 96 PM.a7C:=bG (T btJ) rfl rfl Tryz.func56 (by kernel_rfl) (by kernel_rfl)
theorem q97:aL C 97 PM.acX:=bG (T bdR) rfl rfl Tryz.func87 (by kernel_rfl) (by kernel_rfl)
theorem q98:aL C 98 PM.azZ:=bG (T blX) rfl rfl Tryz.func126 (by kernel_rfl) (by kernel_rfl)
theorem q99:aL C 99 PM.aAA:=bG (T blZ) rfl rfl Tryz.func88 (by kernel_rfl) (by kernel_rfl)
theorem bEG:aL C 100 PM.aAB:=bG (T bmB) rfl rfl Tryz.func128 (by kernel_rfl) (by kernel_rfl)
theorem bEH:aL C 101 PM.gone:=bG (T btE) rfl rfl Tryz.func131 (by kernel_rfl) (by kernel_rfl)
theorem bEI:aL C 102 PM.aAC:=bG (T bmE) rfl rfl Tryz.func92 (by kernel_rfl) (by kernel_rfl)
theorem bEJ:aL C 103 PM.acY:=bG (T bdT) rfl rfl Tryz.func127 (by kernel_rfl) (by kernel_rfl)
theorem bEK:aL C 104 PM.gin:=bG (T bxX) rfl rfl Tryz.func67 (by kernel_rfl) (by kernel_rfl)
theorem bEL:aL C 105 PM.a6X:=bG (T btA) rfl rfl Tryz.func86 (by kernel_rfl) (by kernel_rfl)
theorem bEM:aL C 106 PM.a6Y:=bG (T btC) rfl rfl Tryz.func93 (by kernel_rfl) (by kernel_rfl)
theorem bEN:aL C 107 PM.aAD:=bG (T bmG) rfl rfl Tryz.func129 (by kernel_rfl) (by kernel_rfl)
theorem bEO:aL C 108 PM.aAE:=bG (T bmI) rfl rfl Tryz.func94 (by kernel_rfl) (by kernel_rfl)
theorem bEP:aL C 109 PM.adB:=bG (T bdW) rfl rfl Tryz.func130 (by kernel_rfl) (by kernel_rfl)
theorem bEQ:aL C 110 PM.aAF:=bG (T bmL) rfl rfl Tryz.func71 (by kernel_rfl) (by kernel_rfl)
theorem bER:aL C 111 PM.aET:=bG (T bsW) rfl rfl Tryz.func68 (by kernel_rfl) (by kernel_rfl)
theorem bES:aL C 112 PM.a6Z:=bG (T btG) rfl rfl Tryz.func70 (by kernel_rfl) (by kernel_rfl)
theorem bET:aL C 113 PM.XB:=bG (T bsL) rfl rfl Tryz.func119 (by kernel_rfl) (by kernel_rfl)
theorem bEU:aL C 114 PM.a6H:=bG (T bsN) rfl rfl Tryz.func91 (by kernel_rfl) (by kernel_rfl)
theorem bEV:aL C 115 PM.acM:=bG (T blT) rfl rfl Tryz.func90 (by kernel_rfl) (by kernel_rfl)
theorem bEW:aL C 116 PM.EV:=bG (T a6R) rfl rfl Tryz.func116 (by kernel_rfl) (by kernel_rfl)
theorem bEX:aL C 117 PM.amE:=bG (T bsU) rfl rfl Tryz.func89 (by kernel_rfl) (by kernel_rfl)
theorem bEY:aL C 118 PM.acW:=bG (T bdP) rfl rfl Tryz.func122 (by kernel_rfl) (by kernel_rfl)
theorem bEZ:aL C 119 PM.a6G:=bG (T bsJ) rfl rfl Tryz.func121 (by kernel_rfl) (by kernel_rfl)
theorem bFA:aL C 120 PM.rF:=bG (T a6O) rfl rfl Tryz.func120 (by kernel_rfl) (by kernel_rfl)
theorem bFB:aL C 121 PM.acV:=bG (T bdN) rfl rfl Tryz.func124 (by kernel_rfl) (by kernel_rfl)
theorem bFC:aL C 122 PM.azY:=bG (T blV) rfl rfl Tryz.func125 (by kernel_rfl) (by kernel_rfl)
theorem bFD:aL C 123 PM.adN:=bG (T bnF) rfl rfl Tryz.func95 (by kernel_rfl) (by kernel_rfl)
theorem bFE:aL C 124 PM.NX:=bG (T beE) rfl rfl Tryz.func150 (by kernel_rfl) (by kernel_rfl)
theorem bFF:aL C 125 PM.OA:=bG (T beP) rfl rfl Tryz.func133 (by kernel_rfl) (by kernel_rfl)
theorem bFG:aL C 126 PM.EX:=bG (T a8G) rfl rfl Tryz.func132 (by kernel_rfl) (by kernel_rfl)
theorem bFH:aL C 127 PM.a9H:=bG (T buP) rfl rfl Tryz.func144 (by kernel_rfl) (by kernel_rfl)
theorem bFI:aL C 128 PM.aAL:=bG (T boA) rfl rfl Tryz.func117 (by kernel_rfl) (by kernel_rfl)
theorem bFJ:aL C 129 PM.a9J:=bG (T buS) rfl rfl Tryz.func123 (by kernel_rfl) (by kernel_rfl)
theorem bFK:aL C 130 PM.a9L:=bG (T buU) rfl rfl Tryz.func147 (by kernel_rfl) (by kernel_rfl)
theorem bFL:aL C 131 PM.a9Q:=bG (T buX) rfl rfl Tryz.func146 (by kernel_rfl) (by kernel_rfl)
theorem bFM:aL C 132 PM.aAM:=bG (T boC) rfl rfl Tryz.func118 (by kernel_rfl) (by kernel_rfl)
theorem bFN:aL C 133 PM.a9W:=bG (T buZ) rfl rfl Tryz.func149 (by kernel_rfl) (by kernel_rfl)
theorem bFO:aL C 134 PM.baA:=bG (T bvB) rfl rfl Tryz.func145 (by kernel_rfl) (by kernel_rfl)
theorem bFP:aL C 135 PM.aAN:=bG (T boF) rfl rfl Tryz.func148 (by kernel_rfl) (by kernel_rfl)
theorem bFQ:aL C 136 PM.SX:=bG (T a9P) rfl rfl Tryz.func160 (by kernel_rfl) (by kernel_rfl)
theorem bFR:aL C 137 PM.afM:=bG (T bfT) rfl rfl Tryz.func158 (by kernel_rfl) (by kernel_rfl)
theorem bFS:aL C 138 PM.xV:=bG (T a9V) rfl rfl Tryz.func143 (by kernel_rfl) (by kernel_rfl)
theorem bFT:aL C 139 PM.IP:=bG (T aUV) rfl rfl Tryz.func166 (by kernel_rfl) (by kernel_rfl)
theorem boN:aL C 140 PM.afN:=bG (T bfW) rfl rfl Tryz.func163 (by kernel_rfl) (by kernel_rfl)
theorem boO:aL C 141 PM.afP:=bG (T bfY) rfl rfl Tryz.func159 (by kernel_rfl) (by kernel_rfl)
theorem anT:aL C 142 PM.AC:=bG (T aLG) rfl rfl Tryz.func165 (by kernel_rfl) (by kernel_rfl)
theorem bFU:aL C 143 PM.nup:=bG (T byK) rfl rfl Tryz.func164 (by kernel_rfl) (by kernel_rfl)
theorem bFV:aL C 147 PM.tat:=bG (T bzD) rfl rfl Tryz.func15 (by kernel_rfl) (by kernel_rfl)
theorem bFW:aL C 148 PM.ahL:=bG (T biI) rfl rfl Tryz.func22 (by kernel_rfl) (by kernel_rfl)
theorem bFX:aL C 149 PM.TG:=bG (T bbD) rfl rfl Tryz.func21 (by kernel_rfl) (by kernel_rfl)
theorem bFY:aL C 150 PM.ahW:=bG (T biL) rfl rfl Tryz.func16 (by kernel_rfl) (by kernel_rfl)
theorem bFZ:aL C 151 PM.ahA:=bG (T biB) rfl rfl Tryz.func44 (by kernel_rfl) (by kernel_rfl)
theorem bGA:aL C 152 PM.AP:=bG (T bpO) rfl rfl Tryz.func13 (by kernel_rfl) (by kernel_rfl)
theorem bGB:aL C 153 PM.TF:=bG (T bbB) rfl rfl Tryz.func25 (by kernel_rfl) (by kernel_rfl)
theorem bGC:aL C 154 PM.aAT:=bG (T bpS) rfl rfl Tryz.func19 (by kernel_rfl) (by kernel_rfl)
theorem bGD:aL C 155 PM.ahJ:=bG (T biD) rfl rfl Tryz.func35 (by kernel_rfl) (by kernel_rfl)
theorem bGE:aL C 156 PM.aAS:=bG (T bpL) rfl rfl Tryz.func57 (by kernel_rfl) (by kernel_rfl)
theorem bGF:aL C 157 PM.ahX:=bG (T biN) rfl rfl Tryz.func39 (by kernel_rfl) (by kernel_rfl)
theorem bGG:aL C 158 PM.bbE:=bG (T bpU) rfl rfl Tryz.func38 (by kernel_rfl) (by kernel_rfl)
theorem bGH:aL C 159 PM.aiE:=bG (T biY) rfl rfl Tryz.func58 (by kernel_rfl) (by kernel_rfl)
theorem bGI:aL C 160 PM.FM:=bG (T biU) rfl rfl Tryz.func37 (by kernel_rfl) (by kernel_rfl)
theorem bGJ:aL C 161 PM.aiD:=bG (T biW) rfl rfl Tryz.func34 (by kernel_rfl) (by kernel_rfl)
theorem bAV:eH C:={
 r0:=q0,
 r1:=q1,
 r2:=q2,
 r4:=q4,
 r5:=q5,
 r7:=q7,
 r20:=q20,
 r23:=q23,
 r27:=q27,
 r28:=q28,
 r29:=q29,
 r30:=q30,
 r31:=q31,
 r32:=q32,
 r33:=q33,
 r34:=q34,
 r35:=q35,
 r36:=q36,
 r37:=q37,
 r38:=q38,
 r39:=q39,
 r40:=q40,
 r41:=q41,
 r42:=q42,
 r43:=q43,
 r44:=q44,
 r45:=q45,
 r47:=q47,
 r50:=q50,
 r58:=q58,
 r59:=q59,
 r95:=q95,
 r96:=q96,
 r97:=q97,
 r98:=q98,
 r99:=q99,
 r100:=bEG,
 r101:=bEH,
 r102:=bEI,
 r103:=bEJ,
 r104:=bEK,
 r105:=bEL,
 r106:=bEM,
 r107:=bEN,
 r108:=bEO,
 r109:=bEP,
 r110:=bEQ,
 r111:=bER,
 r112:=bES,
 r113:=bET,
 r114:=bEU,
 r115:=bEV,
 r116:=bEW,
 r117:=bEX,
 r118:=bEY,
 r119:=bEZ,
 r120:=bFA,
 r121:=bFB,
 r122:=bFC,
 r123:=bFD,
 r124:=bFE,
 r125:=bFF,
 r126:=bFG,
 r127:=bFH,
 r128:=bFI,
 r129:=bFJ,
 r130:=bFK,
 r131:=bFL,
 r132:=bFM,
 r133:=bFN,
 r134:=bFO,
 r135:=bFP,
 r136:=bFQ,
 r137:=bFR,
 r138:=bFS,
 r139:=bFT,
 r140:=boN,
 r141:=boO,
 r142:=anT,
 r143:=bFU,
 r147:=bFV,
 r148:=bFW,
 r149:=bFX,
 r150:=bFY,
 r151:=bFZ,
 r152:=bGA,
 r153:=bGB,
 r154:=bGC,
 r155:=bGD,
 r156:=bGE,
 r157:=bGF,
 r158:=bGG,
 r159:=bGH,
 r160:=bGI,
 r161:=bGJ }
end Go.Proofs.YtelckcmlobadkaaGreatDoor
namespace Go.Proofs.YtelckcmlobadkaaGreatDoor
open Go Go.PM Go.RowKit Go.ChangeShapes Go.WideShapes
theorem Tryz.own:ownKnob Tryz.prog.godebug=none:=by kernel_rfl
theorem Tryz.laidOut:laidOutB Tryz.prog=true:=by kernel_rfl
theorem itoa:rU C:=fun n hn=>by
 refine⟨⟨Tryz.f52,Tryz.func52,by kernel_rfl,by kernel_rfl⟩,fun E w vs hN hW hvs=>?_⟩
 obtain⟨vl⟩:=vs
 cases hvs with
 | cons e1 e2 =>
 cases e2
 cases e1
 refine (Any.strconv_Itoa_small Tryz.btV n hn w).mono fun e w' he=>?_
 obtain⟨rfl,rfl⟩:=he
 exact⟨_,.str (bV n),E,.nil,rfl,hW,.str ⟨(Lib.decDigits n).toArray⟩,.refl _ _ _,rfl,rfl⟩
theorem bcT {pv:PV} (h:PV.Ty (.sl [.int .u8]) pv):∃ l:List Nat,pv=.sl 1 (jW l)∧(∀ x∈l,x<256)∧l.length≤9223372036854775807:=by
 obtain⟨xs,rfl,hl,hx⟩:=Ty.bmS h
 refine⟨xs.map Int.toNat,?_,?_,?_⟩
 ·unfold a7N jW
  rw[List.map_map]
  congr 1
  refine List.map_congr_left fun x hm=>?_
  have:=(hx x hm).1
  simp only[Function.comp]
  rw[Int.toNat_of_nonneg this]
 ·intro y hy
  obtain⟨x,hm,rfl⟩:=bMF.1 hy
  have:=(hx x hm).2
  have h0:=(hx x hm).1
  have hm:IntKind.u8.max=255:=by decide
  rw[hm] at this
  omega
 ·rw[bKY]
  have:maxLen≤9223372036854775807:=by decide
  omega
end Go.Proofs.YtelckcmlobadkaaGreatDoor
namespace Go.PM
open Go Go.Na
theorem aMO {C:Ctx} (f:aD) (hv:VF f) (v:Nat) (h:v<f.bIV.length) :
  JG.wp C (aS aAP.res (bQ (.int .i64 (eZ f v)))) (PF.args [.agg f.cells,.int .i64 v]) .nil:=by
 obtain⟨hp,he⟩:=qV hv h
 have hpol:=hv.bJI _ (bLF hp)
 rw[he] at hpol
 have hw:IntKind.i64.wrap ((fU f v).k+(fU f v).m)=(fU f v).k+(fU f v).m:=wrap_i64 Om Om
 simp only[go_sem,γ,δ,ε,ζ,η,θ,ι,κ,μ,ν,ξ,ο,ρ,σ,τ,υ,reduceIte,reduceCtorEq,JG,aMP,aAP]
 refine bM .nil dK PH.nil_le ?_
 simp only[go_sem,γ,δ,ε,ζ,η,θ,ι,κ,μ,ν,ξ,ο,ρ,σ,τ,υ,reduceIte,reduceCtorEq,aMQ,xC h,hv.afS h,qH hp,he]
 refine aN fun o ho=>?_
 simp only[go_sem,γ,δ,ε,ζ,η,θ,ι,κ,μ,ν,ξ,ο,ρ,σ,τ,υ,reduceIte,reduceCtorEq,aMR,hw]
 refine⟨PH.nil_le,?_⟩
 exact gE (n:=(fU f v).k+(fU f v).m) Ev rfl
abbrev iiv (l:List Int):List (List PV):=l.map fun x=>[PV.int .i64 x]
def brI (l:List Nat) (v:PV) (o a:Nat) (f:aD) (r:PV) (H:PH):Prop:=Co r (ints (mR l f a).1)∧H=PH.nil.set o (aW v (mR l f a).2)
theorem asK (l:List Nat) {a:Nat} (h:a≤l.length):∀ k,(mE l a k).2≤l.length∧(mE l a k).1.length=k
 | 0=>⟨h,rfl⟩
 | k+1=>by
  obtain⟨h1,h2⟩:=asK l h k
  exact⟨bK l 7 h1,by simp only[mE,bLC,bLH,h2]⟩
def aJF (f:aD) (o:Nat) (w:PV) (i:Nat):PF:=((((PF.nil.set 0 (.ptr o 2 0 0)).set 3 (.bJC f.cells)).set 5 (w)).set 6 (.int .i64 i))
theorem bnW {C:Ctx} (Lb:rW C) {l:List Nat} {v:PV} (T:Tp l v) (o a:Nat) (f:aD) (hd:f.bIS.length≤1000) (ha:a≤l.length):IG.wp C (aS aAK.res (brI l v o a f)) (PF.args [.ptr o 2 0 0,.agg f.cells]) (PH.nil.set o (aW v a)):=by
 have h0:aQ (PH.nil.set o (aW v a)) [(o,aW v a)] []:=aQ.nil.new (H:=PH.nil) rfl (aW v a)
 simp only[go_sem,γ,δ,ε,ζ,η,θ,ι,κ,μ,ν,ξ,ο,ρ,σ,τ,υ,reduceIte,reduceCtorEq,IG,aJH,aAK,aJI]
 refine cK Lb T (o:=o) (n:=4) (a:=a) (by decide) ha (by simp only[go_sem,γ,δ,ε,ζ,η,θ,ι,κ,μ,ν,ξ,ο,ρ,σ,τ,υ,reduceIte,reduceCtorEq]; rfl) (h0.at 0 rfl) ?_
 have h1:=h0.set 0 rfl (aW v (aC l 4 a).2)
 rw[PH.set_set] at h1
 have hna:=bK l 4 ha
 have hT:mR l f a=if (aC l 4 a).1=0 then ([],(aC l 4 a).2) else mE l (aC l 4 a).2 f.bIS.length:=rfl
 have hR:∀ r H,brI l v o a f r H↔Co r (ints (mR l f a).1)∧H=PH.nil.set o (aW v (mR l f a).2):=fun _ _=>Iff.rfl
 generalize aC l 4 a=t at *
 by_cases ht:t.1=0
 ·rw[if_pos ht] at hT
  simp only[go_sem,γ,δ,ε,ζ,η,θ,ι,κ,μ,ν,ξ,ο,ρ,σ,τ,υ,reduceIte,reduceCtorEq,bN (Om:((t.1:Nat):Int)=0),aJJ]
  refine aV (vs:=[.bIU]) (.inr rfl) (PH.nil.set o (aW v t.2)) Sq (PH.aG PH.nil_le (h1.at 0 rfl)) ?_
  rw[bF,hR,hT]
  exact⟨.nil 1,rfl⟩
 rw[if_neg ht] at hT
 have h2:=h1.oH 1
 simp only[go_sem,γ,δ,ε,ζ,η,θ,ι,κ,μ,ν,ξ,ο,ρ,σ,τ,υ,reduceIte,reduceCtorEq,bC (Om:((t.1:Nat):Int)≠0),aJK,aJL]
 refine wp_loop (α:=Nat × PV × PH) (fun s=>aJF f o s.2.1 s.1) (fun s=>s.2.2) (fun s=>s.1≤f.bIS.length∧aQ s.2.2 [(o,aW v (mE l t.2 s.1).2)] [(s.2.1,1,iiv (mE l t.2 s.1).1)]) (fun s=>f.bIS.length-s.1) (0,.bIU,_) ⟨bLE _,h2⟩ ?_ PH.le_refl ?_
 ·unfold aJF
  exact Lq
 rintro⟨k,w,H0⟩ ⟨hk,hH⟩
 simp only at hk hH ⊢
 obtain⟨k1,k2⟩:=asK l hna k
 simp only[go_sem,γ,δ,ε,ζ,η,θ,ι,κ,μ,ν,ξ,ο,ρ,σ,τ,υ,reduceIte,reduceCtorEq,aJG,aJM,aJF,bKY]
 by_cases hlt:k<f.bIS.length
 ·have bJA:(k:Int)<(f.bIS.length:Nat):=by omega
  have bJB:mE l t.2 (k+1)=((mE l t.2 k).1++[((aC l 7 (mE l t.2 k).2).1:Int)-1],(aC l 7 (mE l t.2 k).2).2):=rfl
  have hz:=bT l (show 0<7 by decide) (mE l t.2 k).2
  generalize hs:mE l t.2 k=s at *
  have hw1:IntKind.i64.wrap (((aC l 7 s.2).1:Int)-1)=((aC l 7 s.2).1:Int)-1:=wrap_i64 Om Om
  have h11:(1:Nat)*1≤16777216:=by decide
  simp only[go_sem,γ,δ,ε,ζ,η,θ,ι,κ,μ,ν,ξ,ο,ρ,σ,τ,υ,reduceIte,reduceCtorEq,bJA,aJN]
  refine cK Lb T (o:=o) (n:=7) (a:=s.2) (by decide) k1 (by simp only[go_sem,γ,δ,ε,ζ,η,θ,ι,κ,μ,ν,ξ,ο,ρ,σ,τ,υ,reduceIte,reduceCtorEq]; rfl) (hH.at 0 rfl) ?_
  have hH2:=hH.set 0 rfl (aW v (aC l 7 s.2).2)
  simp only[go_sem,γ,δ,ε,ζ,η,θ,ι,κ,μ,ν,ξ,ο,ρ,σ,τ,υ,reduceIte,reduceCtorEq,hw1,h11]
  refine hH2.append 0 (src:=[[PV.int .i64 (((aC l 7 s.2).1:Int)-1)]]) rfl Sq (by unfold roomFor; rw[bKY,k2]; simp only[bLH,maxLen]; omega) fun w' H' h' _=>?_
  simp only[go_sem,γ,δ,ε,ζ,η,θ,ι,κ,μ,ν,ξ,ο,ρ,σ,τ,υ,reduceIte,reduceCtorEq,aJO,ws k]
  refine aE (k+1,w',H') ⟨hlt,?_⟩ (by simp only; omega) ?_ PH.le_refl
  ·simp only
   rw[bJB]
   have:iiv (s.1++[((aC l 7 s.2).1:Int)-1])=iiv s.1++[[PV.int .i64 (((aC l 7 s.2).1:Int)-1)]]:=by simp[iiv]
   rw[this]
   exact h'
  ·exact Lq
 ·have bJA:¬ (k:Int)<(f.bIS.length:Nat):=by omega
  have:k=f.bIS.length:=by omega
  subst this
  rw[← hT] at hH
  simp only[go_sem,γ,δ,ε,ζ,η,θ,ι,κ,μ,ν,ξ,ο,ρ,σ,τ,υ,reduceIte,reduceCtorEq,bJA,aJP]
  rcases hH.own 0 rfl with ⟨h1',rfl⟩ | ⟨q,rs,rfl,_⟩
  ·refine aV (vs:=[.bIU]) (.inr rfl) (PH.nil.set o (aW v (mR l f a).2)) Sq (PH.aG PH.nil_le (hH.at 0 rfl)) ?_
   rw[bF,hR]
   refine⟨?_,rfl⟩
   unfold ints
   rw[show (mR l f a).1.map (fun x=>[PV.int .i64 x])=[] from h1']
   exact .nil 1
  ·obtain⟨rs,g1,g2,g3,-,g4⟩:=hH.frz 0 rfl
   refine FG (vs:=[.osl q 1 0 (iiv (mR l f a).1).length]) (.inr rfl) Sq (.step g1 (.done (H2:=PH.nil.set o (aW v (mR l f a).2)) ?_ (PH.aG PH.nil_le ?_)))
   ·rw[bF,g3,hR]
    exact⟨.refl _,rfl⟩
   ·have:=g4.at 0 rfl
    rw[this]
    simp only[cD.frz,bMI,bMZ,T.frz]
    rfl
abbrev mB (l:List (List Int)):List (List PV):=l.map fun r=>[ints r]
theorem buD (l:List (List Int)):Flat (mB l):=nM fun r hr c hc=>by
 obtain⟨x,_,rfl⟩:=bMF.1 hr
 rw[List.mem_singleton] at hc
 subst hc
 rfl
theorem bmO (l:List Nat) (bIS at_ i:Nat) {a:Nat} (h:a≤l.length):(oM l bIS at_ i a).2≤l.length:=by
 unfold oM
 split
 ·exact h
 ·have:=bK l 6 h
  simp only
  split
  ·exact bK l bIS this
  ·split
   ·exact bK l (bIS+1) this
   ·exact this
theorem yR (l:List Nat) (bIS at_:Nat) {a:Nat} (h:a≤l.length):∀ k,(kD l bIS at_ a k).2≤l.length∧(kD l bIS at_ a k).1.length=k
 | 0=>⟨h,rfl⟩
 | k+1=>by
  obtain⟨h1,h2⟩:=yR l bIS at_ h k
  exact⟨bmO l bIS at_ k h1,by simp only[kD,bLC,bLH,h2]⟩
theorem sK (l:List Nat) (f:aD) {a:Nat} (h:a≤l.length):∀ k,(cR l f a k).2≤l.length∧(cR l f a k).1.length=k
 | 0=>⟨h,rfl⟩
 | k+1=>by
  obtain⟨h1,h2⟩:=sK l f h k
  exact⟨(yR l _ _ (bK l _ h1) _).1,by simp only[cR,bLC,bLH,h2]⟩
def bnP (f:aD) (o:Nat) (w:PV) (i:Nat):PF:=((((PF.nil.set 0 (.ptr o 2 0 0)).set 3 (.bJC f.cells)).set 5 (w)).set 6 (.int .i64 i))
def jB (f:aD) (o:Nat) (w:PV) (i:Nat) (w7:PV) (at_ k:Nat):PF:=(((((((PF.nil.set 0 (.ptr o 2 0 0)).set 3 (.bJC f.cells)).set 5 (w)).set 6 (.int .i64 i)).set 7 (w7)).set 8 (.int .i64 at_)).set 9 (.int .i64 k))
def bnQ:aB:=(.seq (.region IC) (.seq (.seq (.region ID) (.cond (.tmp 34) (.seq (.region CA) (.seq (.region CB) (.block 4 (.seq (.region CC) (.cond (.tmp 44) (.region CD) (.seq (.region uJ) (.cond (.tmp 51) (.region CE) .skip))))))) .skip)) (.region uK)))
theorem buI:BZ=.seq (.seq (.region IB) (.cond (.tmp 28) .skip (.exit 2))) (.seq (.block 3 bnQ) (.region CF)):=rfl
theorem bnR {C:Ctx} (Lb:rW C) {l:List Nat} {v:PV} (T:Tp l v) (o:Nat) (f:aD) (hd:f.bIS.length≤1000) (w w7:PV) (i at_ k a:Nat) (hat:at_≤2000) (hk:k≤2000) (ha:a≤l.length) (L:List LI) (Kk:bY) (F:PF) (H:PH)
  (hF:(jB f o w i w7 at_ k).le F) (hH:aQ H [(o,aW v a)] L)
  (hK:∀ F' H',(jB f o w i w7 at_ k).le F'→F' 10=some (.int .i64 (oM l f.bIS.length at_ k a).1)→aQ H' [(o,aW v (oM l f.bIS.length at_ k a).2)] L→aB.wp C (.region uK) Kk F' H') :
  aB.wp C bnQ Kk F H:=by
 unfold bnQ
 have f0:F 0=some (.ptr o 2 0 0):=hF 0 _ (by unfold jB; simp only[go_sem,γ,δ,ε,ζ,η,θ,ι,κ,μ,ν,ξ,ο,ρ,σ,τ,υ,reduceIte,reduceCtorEq])
 have f3:F 3=some (.bJC f.cells):=hF 3 _ (by unfold jB; simp only[go_sem,γ,δ,ε,ζ,η,θ,ι,κ,μ,ν,ξ,ο,ρ,σ,τ,υ,reduceIte,reduceCtorEq])
 have f5:F 5=some w:=hF 5 _ (by unfold jB; simp only[go_sem,γ,δ,ε,ζ,η,θ,ι,κ,μ,ν,ξ,ο,ρ,σ,τ,υ,reduceIte,reduceCtorEq])
 have f6:F 6=some (.int .i64 i):=hF 6 _ (by unfold jB; simp only[go_sem,γ,δ,ε,ζ,η,θ,ι,κ,μ,ν,ξ,ο,ρ,σ,τ,υ,reduceIte,reduceCtorEq])
 have f7:F 7=some w7:=hF 7 _ (by unfold jB; simp only[go_sem,γ,δ,ε,ζ,η,θ,ι,κ,μ,ν,ξ,ο,ρ,σ,τ,υ,reduceIte,reduceCtorEq])
 have f8:F 8=some (.int .i64 at_):=hF 8 _ (by unfold jB; simp only[go_sem,γ,δ,ε,ζ,η,θ,ι,κ,μ,ν,ξ,ο,ρ,σ,τ,υ,reduceIte,reduceCtorEq])
 have f9:F 9=some (.int .i64 k):=hF 9 _ (by unfold jB; simp only[go_sem,γ,δ,ε,ζ,η,θ,ι,κ,μ,ν,ξ,ο,ρ,σ,τ,υ,reduceIte,reduceCtorEq])
 have hle:∀ F':PF,F' 0=some (.ptr o 2 0 0)→F' 3=some (.bJC f.cells)→F' 5=some w→F' 6=some (.int .i64 i)→F' 7=some w7→F' 8=some (.int .i64 at_)→F' 9=some (.int .i64 k)→(jB f o w i w7 at_ k).le F':=fun F' a0 a3 a5 a6 a7 a8 a9=>by
  unfold jB
  (repeat' (first|exact PF.nil_le|refine PF.aG ?_ ?_))<;>first|(simp only[go_sem,γ,δ,ε,ζ,η,θ,ι,κ,μ,ν,ξ,ο,ρ,σ,τ,υ,reduceIte,reduceCtorEq,a0,a3,a5,a6,a7,a8,a9]<;>rfl)|rfl
 have hT:oM l f.bIS.length at_ k a=if f.bIS.length=0 then (-1,a) else if (aC l 6 a).1=0 then (((aC l f.bIS.length (aC l 6 a).2).1:Int),(aC l f.bIS.length (aC l 6 a).2).2) else if (aC l 6 a).1=1 then (((aC l (f.bIS.length+1) (aC l 6 a).2).1:Int)-1,(aC l (f.bIS.length+1) (aC l 6 a).2).2) else ((((at_+k)%f.bIS.length:Nat):Int),(aC l 6 a).2):=rfl
 simp only[go_sem,γ,δ,ε,ζ,η,θ,ι,κ,μ,ν,ξ,ο,ρ,σ,τ,υ,reduceIte,reduceCtorEq,IC,ID,f3,bKY]
 by_cases h0:f.bIS.length=0
 ·rw[if_pos h0] at hT
  have h0':¬ ((f.bIS.length:Nat):Int)>0:=by omega
  simp only[go_sem,γ,δ,ε,ζ,η,θ,ι,κ,μ,ν,ξ,ο,ρ,σ,τ,υ,reduceIte,reduceCtorEq,h0']
  refine hK _ _ (hle _ (by simp only[go_sem,γ,δ,ε,ζ,η,θ,ι,κ,μ,ν,ξ,ο,ρ,σ,τ,υ,reduceIte,reduceCtorEq,f0]) (by simp only[go_sem,γ,δ,ε,ζ,η,θ,ι,κ,μ,ν,ξ,ο,ρ,σ,τ,υ,reduceIte,reduceCtorEq,f3]) (by simp only[go_sem,γ,δ,ε,ζ,η,θ,ι,κ,μ,ν,ξ,ο,ρ,σ,τ,υ,reduceIte,reduceCtorEq,f5]) (by simp only[go_sem,γ,δ,ε,ζ,η,θ,ι,κ,μ,ν,ξ,ο,ρ,σ,τ,υ,reduceIte,reduceCtorEq,f6]) (by simp only[go_sem,γ,δ,ε,ζ,η,θ,ι,κ,μ,ν,ξ,ο,ρ,σ,τ,υ,reduceIte,reduceCtorEq,f7]) (by simp only[go_sem,γ,δ,ε,ζ,η,θ,ι,κ,μ,ν,ξ,ο,ρ,σ,τ,υ,reduceIte,reduceCtorEq,f8]) (by simp only[go_sem,γ,δ,ε,ζ,η,θ,ι,κ,μ,ν,ξ,ο,ρ,σ,τ,υ,reduceIte,reduceCtorEq,f9])) ?_ ?_
  ·rw[hT]; simp only[go_sem,γ,δ,ε,ζ,η,θ,ι,κ,μ,ν,ξ,ο,ρ,σ,τ,υ,reduceIte,reduceCtorEq]
  ·rw[hT]; exact hH
 rw[if_neg h0] at hT
 have h0':((f.bIS.length:Nat):Int)>0:=by omega
 have e1:IntKind.i64.wrap ((at_:Int)+(k:Int))=((at_+k:Nat):Int):=by rw[wrap_i64 Om Om]; omega
 have na:=bK l 6 ha
 have nlt:=bT l (show 0<6 by decide) a
 have hz:¬ ((f.bIS.length:Nat):Int)=0:=by omega
 have em:Int.tmod ((at_+k:Nat):Int) (f.bIS.length:Nat)=(((at_+k)%f.bIS.length:Nat):Int):=Int.ofNat_tmod _ _
 have e2:IntKind.i64.wrap ((f.bIS.length:Int)+1)=((f.bIS.length+1:Nat):Int):=cY Om
 simp only[go_sem,γ,δ,ε,ζ,η,θ,ι,κ,μ,ν,ξ,ο,ρ,σ,τ,υ,reduceIte,reduceCtorEq,h0',CA,f8,f9,f3,bKY,e1,hz,em,CB,f0]
 refine cK Lb T (o:=o) (n:=6) (a:=a) (by decide) ha (by simp only[go_sem,γ,δ,ε,ζ,η,θ,ι,κ,μ,ν,ξ,ο,ρ,σ,τ,υ,reduceIte,reduceCtorEq,f0]; rfl) (hH.at 0 rfl) ?_
 have h1:=hH.set 0 rfl (aW v (aC l 6 a).2)
 generalize aC l 6 a=t at *
 simp only[go_sem,γ,δ,ε,ζ,η,θ,ι,κ,μ,ν,ξ,ο,ρ,σ,τ,υ,reduceIte,reduceCtorEq,CC]
 by_cases c0:t.1=0
 ·rw[if_pos c0] at hT
  simp only[go_sem,γ,δ,ε,ζ,η,θ,ι,κ,μ,ν,ξ,ο,ρ,σ,τ,υ,reduceIte,reduceCtorEq,bN (Om:((t.1:Nat):Int)=0),CD,f0,f3,bKY]
  refine cK Lb T (o:=o) (n:=f.bIS.length) (a:=t.2) Om na (by simp only[go_sem,γ,δ,ε,ζ,η,θ,ι,κ,μ,ν,ξ,ο,ρ,σ,τ,υ,reduceIte,reduceCtorEq,f0]) (h1.at 0 rfl) ?_
  have h2:=h1.set 0 rfl (aW v (aC l f.bIS.length t.2).2)
  rw[PH.set_set] at h2
  simp only[go_sem,γ,δ,ε,ζ,η,θ,ι,κ,μ,ν,ξ,ο,ρ,σ,τ,υ,reduceIte,reduceCtorEq]
  refine hK _ _ (hle _ (by simp only[go_sem,γ,δ,ε,ζ,η,θ,ι,κ,μ,ν,ξ,ο,ρ,σ,τ,υ,reduceIte,reduceCtorEq,f0]) (by simp only[go_sem,γ,δ,ε,ζ,η,θ,ι,κ,μ,ν,ξ,ο,ρ,σ,τ,υ,reduceIte,reduceCtorEq,f3]) (by simp only[go_sem,γ,δ,ε,ζ,η,θ,ι,κ,μ,ν,ξ,ο,ρ,σ,τ,υ,reduceIte,reduceCtorEq,f5]) (by simp only[go_sem,γ,δ,ε,ζ,η,θ,ι,κ,μ,ν,ξ,ο,ρ,σ,τ,υ,reduceIte,reduceCtorEq,f6]) (by simp only[go_sem,γ,δ,ε,ζ,η,θ,ι,κ,μ,ν,ξ,ο,ρ,σ,τ,υ,reduceIte,reduceCtorEq,f7]) (by simp only[go_sem,γ,δ,ε,ζ,η,θ,ι,κ,μ,ν,ξ,ο,ρ,σ,τ,υ,reduceIte,reduceCtorEq,f8]) (by simp only[go_sem,γ,δ,ε,ζ,η,θ,ι,κ,μ,ν,ξ,ο,ρ,σ,τ,υ,reduceIte,reduceCtorEq,f9])) ?_ ?_
  ·rw[hT]; simp only[go_sem,γ,δ,ε,ζ,η,θ,ι,κ,μ,ν,ξ,ο,ρ,σ,τ,υ,reduceIte,reduceCtorEq]
  ·rw[hT]; exact h2
 rw[if_neg c0] at hT
 by_cases c1:t.1=1
 ·rw[if_pos c1] at hT
  have nd:=bT l (Om:0<f.bIS.length+1) t.2
  have e3:IntKind.i64.wrap (((aC l (f.bIS.length+1) t.2).1:Int)-1)=((aC l (f.bIS.length+1) t.2).1:Int)-1:=wrap_i64 Om Om
  simp only[go_sem,γ,δ,ε,ζ,η,θ,ι,κ,μ,ν,ξ,ο,ρ,σ,τ,υ,reduceIte,reduceCtorEq,bC (Om:((t.1:Nat):Int)≠0),uJ,bN (Om:((t.1:Nat):Int)=1),CE,f0,f3,bKY,e2]
  refine cK Lb T (o:=o) (n:=f.bIS.length+1) (a:=t.2) Om na (by simp only[go_sem,γ,δ,ε,ζ,η,θ,ι,κ,μ,ν,ξ,ο,ρ,σ,τ,υ,reduceIte,reduceCtorEq,f0]) (h1.at 0 rfl) ?_
  have h2:=h1.set 0 rfl (aW v (aC l (f.bIS.length+1) t.2).2)
  rw[PH.set_set] at h2
  simp only[go_sem,γ,δ,ε,ζ,η,θ,ι,κ,μ,ν,ξ,ο,ρ,σ,τ,υ,reduceIte,reduceCtorEq,e3]
  refine hK _ _ (hle _ (by simp only[go_sem,γ,δ,ε,ζ,η,θ,ι,κ,μ,ν,ξ,ο,ρ,σ,τ,υ,reduceIte,reduceCtorEq,f0]) (by simp only[go_sem,γ,δ,ε,ζ,η,θ,ι,κ,μ,ν,ξ,ο,ρ,σ,τ,υ,reduceIte,reduceCtorEq,f3]) (by simp only[go_sem,γ,δ,ε,ζ,η,θ,ι,κ,μ,ν,ξ,ο,ρ,σ,τ,υ,reduceIte,reduceCtorEq,f5]) (by simp only[go_sem,γ,δ,ε,ζ,η,θ,ι,κ,μ,ν,ξ,ο,ρ,σ,τ,υ,reduceIte,reduceCtorEq,f6]) (by simp only[go_sem,γ,δ,ε,ζ,η,θ,ι,κ,μ,ν,ξ,ο,ρ,σ,τ,υ,reduceIte,reduceCtorEq,f7]) (by simp only[go_sem,γ,δ,ε,ζ,η,θ,ι,κ,μ,ν,ξ,ο,ρ,σ,τ,υ,reduceIte,reduceCtorEq,f8]) (by simp only[go_sem,γ,δ,ε,ζ,η,θ,ι,κ,μ,ν,ξ,ο,ρ,σ,τ,υ,reduceIte,reduceCtorEq,f9])) ?_ ?_
  ·rw[hT]; simp only[go_sem,γ,δ,ε,ζ,η,θ,ι,κ,μ,ν,ξ,ο,ρ,σ,τ,υ,reduceIte,reduceCtorEq]
  ·rw[hT]; exact h2
 ·rw[if_neg c1] at hT
  simp only[go_sem,γ,δ,ε,ζ,η,θ,ι,κ,μ,ν,ξ,ο,ρ,σ,τ,υ,reduceIte,reduceCtorEq,bC (Om:((t.1:Nat):Int)≠0),uJ,bC (Om:((t.1:Nat):Int)≠1)]
  refine hK _ _ (hle _ (by simp only[go_sem,γ,δ,ε,ζ,η,θ,ι,κ,μ,ν,ξ,ο,ρ,σ,τ,υ,reduceIte,reduceCtorEq,f0]) (by simp only[go_sem,γ,δ,ε,ζ,η,θ,ι,κ,μ,ν,ξ,ο,ρ,σ,τ,υ,reduceIte,reduceCtorEq,f3]) (by simp only[go_sem,γ,δ,ε,ζ,η,θ,ι,κ,μ,ν,ξ,ο,ρ,σ,τ,υ,reduceIte,reduceCtorEq,f5]) (by simp only[go_sem,γ,δ,ε,ζ,η,θ,ι,κ,μ,ν,ξ,ο,ρ,σ,τ,υ,reduceIte,reduceCtorEq,f6]) (by simp only[go_sem,γ,δ,ε,ζ,η,θ,ι,κ,μ,ν,ξ,ο,ρ,σ,τ,υ,reduceIte,reduceCtorEq,f7]) (by simp only[go_sem,γ,δ,ε,ζ,η,θ,ι,κ,μ,ν,ξ,ο,ρ,σ,τ,υ,reduceIte,reduceCtorEq,f8]) (by simp only[go_sem,γ,δ,ε,ζ,η,θ,ι,κ,μ,ν,ξ,ο,ρ,σ,τ,υ,reduceIte,reduceCtorEq,f9])) ?_ ?_
  ·rw[hT]; simp only[go_sem,γ,δ,ε,ζ,η,θ,ι,κ,μ,ν,ξ,ο,ρ,σ,τ,υ,reduceIte,reduceCtorEq]
  ·rw[hT]; exact h1
theorem buJ {C:Ctx} (Lb:rW C) {l:List Nat} {v:PV} (T:Tp l v) (o:Nat) (f:aD) (hd:f.bIS.length≤1000) (i n:Nat) (hn:n≤1000) (hfr:aH C 82 [.agg f.cells,.int .i64 i] .nil (aF (.int .i64 n))) (w:PV) (R:List (List PV)) (at_ a:Nat) (hat:at_≤1000) (ha:a≤l.length) (K:bY) (F:PF) (H:PH)
  (hF:(jB f o w i .bIU at_ 0).le F) (hH:aQ H [(o,aW v a)] [(w,1,R),(.bIU,1,iiv [])])
  (hK:∀ w7 F' H',(jB f o w i w7 at_ n).le F'→aQ H' [(o,aW v (kD l f.bIS.length at_ a n).2)] [(w,1,R),(w7,1,iiv (kD l f.bIS.length at_ a n).1)]→K (.exit 2) F' H') :
  aB.wp C (.loop BZ) K F H:=by
 refine wp_loop (α:=Nat × PV × PH) (fun s=>jB f o w i s.2.1 at_ s.1) (fun s=>s.2.2) (fun s=>s.1≤n∧aQ s.2.2 [(o,aW v (kD l f.bIS.length at_ a s.1).2)] [(w,1,R),(s.2.1,1,iiv (kD l f.bIS.length at_ a s.1).1)]) (fun s=>n-s.1) (0,.bIU,H) ⟨bLE _,hH⟩ hF PH.le_refl ?_
 rintro⟨k,w7,H0⟩ ⟨hk,hH⟩
 simp only at hk hH ⊢
 obtain⟨k1,k2⟩:=yR l f.bIS.length at_ ha k
 have bJB:kD l f.bIS.length at_ a (k+1)=((kD l f.bIS.length at_ a k).1++[(oM l f.bIS.length at_ k (kD l f.bIS.length at_ a k).2).1],(oM l f.bIS.length at_ k (kD l f.bIS.length at_ a k).2).2):=rfl
 generalize hs:kD l f.bIS.length at_ a k=s at *
 rw[buI]
 simp only[go_sem,γ,δ,ε,ζ,η,θ,ι,κ,μ,ν,ξ,ο,ρ,σ,τ,υ,reduceIte,reduceCtorEq,IB,jB]
 refine aA hfr Sq ?_
 by_cases hlt:k<n
 ·have bJA:(k:Int)<(n:Nat):=by omega
  have h11:(1:Nat)*1≤16777216:=by decide
  simp only[go_sem,γ,δ,ε,ζ,η,θ,ι,κ,μ,ν,ξ,ο,ρ,σ,τ,υ,reduceIte,reduceCtorEq,bJA]
  refine bnR (C:=C) Lb T o f hd w w7 i at_ k s.2 Om Om k1 _ _ _ _ (by unfold jB; exact Lq) hH ?_
  intro F1 H1 hF1 f10 h1
  have f0:F1 0=some (.ptr o 2 0 0):=hF1 0 _ (by unfold jB; simp only[go_sem,γ,δ,ε,ζ,η,θ,ι,κ,μ,ν,ξ,ο,ρ,σ,τ,υ,reduceIte,reduceCtorEq])
  have f3:F1 3=some (.bJC f.cells):=hF1 3 _ (by unfold jB; simp only[go_sem,γ,δ,ε,ζ,η,θ,ι,κ,μ,ν,ξ,ο,ρ,σ,τ,υ,reduceIte,reduceCtorEq])
  have f5:F1 5=some w:=hF1 5 _ (by unfold jB; simp only[go_sem,γ,δ,ε,ζ,η,θ,ι,κ,μ,ν,ξ,ο,ρ,σ,τ,υ,reduceIte,reduceCtorEq])
  have f6:F1 6=some (.int .i64 i):=hF1 6 _ (by unfold jB; simp only[go_sem,γ,δ,ε,ζ,η,θ,ι,κ,μ,ν,ξ,ο,ρ,σ,τ,υ,reduceIte,reduceCtorEq])
  have f7:F1 7=some w7:=hF1 7 _ (by unfold jB; simp only[go_sem,γ,δ,ε,ζ,η,θ,ι,κ,μ,ν,ξ,ο,ρ,σ,τ,υ,reduceIte,reduceCtorEq])
  have f8:F1 8=some (.int .i64 at_):=hF1 8 _ (by unfold jB; simp only[go_sem,γ,δ,ε,ζ,η,θ,ι,κ,μ,ν,ξ,ο,ρ,σ,τ,υ,reduceIte,reduceCtorEq])
  have f9:F1 9=some (.int .i64 k):=hF1 9 _ (by unfold jB; simp only[go_sem,γ,δ,ε,ζ,η,θ,ι,κ,μ,ν,ξ,ο,ρ,σ,τ,υ,reduceIte,reduceCtorEq])
  simp only[go_sem,γ,δ,ε,ζ,η,θ,ι,κ,μ,ν,ξ,ο,ρ,σ,τ,υ,reduceIte,reduceCtorEq,uK,f7,f10,h11]
  refine h1.append 1 (src:=[[PV.int .i64 (oM l f.bIS.length at_ k s.2).1]]) rfl Sq (by unfold roomFor; rw[bKY,k2]; simp only[bLH,maxLen]; omega) fun w' H' h' _=>?_
  simp only[go_sem,γ,δ,ε,ζ,η,θ,ι,κ,μ,ν,ξ,ο,ρ,σ,τ,υ,reduceIte,reduceCtorEq,CF,f9,ws k]
  refine aE (k+1,w',H') ⟨hlt,?_⟩ (by simp only; omega) ?_ PH.le_refl
  ·simp only
   rw[bJB]
   have:iiv (s.1++[(oM l f.bIS.length at_ k s.2).1])=iiv s.1++[[PV.int .i64 (oM l f.bIS.length at_ k s.2).1]]:=by simp[iiv]
   rw[this]
   exact h'
  ·(repeat' (first|exact PF.nil_le|refine PF.aG ?_ ?_))<;>first|(simp only[go_sem,γ,δ,ε,ζ,η,θ,ι,κ,μ,ν,ξ,ο,ρ,σ,τ,υ,reduceIte,reduceCtorEq,f0,f3,f5,f6,f8]<;>rfl)|rfl
 ·have bJA:¬ (k:Int)<(n:Nat):=by omega
  have:k=n:=by omega
  subst this
  simp only[go_sem,γ,δ,ε,ζ,η,θ,ι,κ,μ,ν,ξ,ο,ρ,σ,τ,υ,reduceIte,reduceCtorEq,bJA]
  refine hK w7 _ _ ?_ (by rw[hs]; exact hH)
  unfold jB
  exact Lq
def aVM (l:List Nat) (v:PV) (o a:Nat) (f:aD) (r:PV) (H:PH):Prop:=Co r (lay (cR l f a f.bIV.length).1)∧H=PH.nil.set o (aW v (cR l f a f.bIV.length).2)
theorem a9C {C:Ctx} (Lb:rW C) {l:List Nat} {v:PV} (T:Tp l v) (o a:Nat) (f:aD) (hV:VF f) (hfr:∀ i,i<f.bIV.length→aH C 82 [.agg f.cells,.int .i64 i] .nil (aF (.int .i64 (eZ f i)))) (ha:a≤l.length) :
  yT.wp C (aS SV.res (aVM l v o a f)) (PF.args [.ptr o 2 0 0,.agg f.cells]) (PH.nil.set o (aW v a)):=by
 have hd:=hV.small.bIS
 have hvl:=hV.small.bIV
 have h0:aQ (PH.nil.set o (aW v a)) [(o,aW v a)] [(.bIU,1,mB [])]:=(aQ.nil.new (H:=PH.nil) rfl (aW v a)).oH 1
 have hR:∀ r H,aVM l v o a f r H↔Co r (lay (cR l f a f.bIV.length).1)∧H=PH.nil.set o (aW v (cR l f a f.bIV.length).2):=fun _ _=>Iff.rfl
 simp only[go_sem,γ,δ,ε,ζ,η,θ,ι,κ,μ,ν,ξ,ο,ρ,σ,τ,υ,reduceIte,reduceCtorEq,yT,aeS,SV,aeT,aeU]
 refine wp_loop (α:=Nat × PV × PH) (fun s=>bnP f o s.2.1 s.1) (fun s=>s.2.2) (fun s=>s.1≤f.bIV.length∧aQ s.2.2 [(o,aW v (cR l f a s.1).2)] [(s.2.1,1,mB (cR l f a s.1).1)]) (fun s=>f.bIV.length-s.1) (0,.bIU,_) ⟨bLE _,h0⟩ ?_ PH.le_refl ?_
 ·unfold bnP
  exact Lq
 rintro⟨i,w,H0⟩ ⟨hi,hH⟩
 simp only at hi hH ⊢
 obtain⟨k1,k2⟩:=sK l f ha i
 simp only[go_sem,γ,δ,ε,ζ,η,θ,ι,κ,μ,ν,ξ,ο,ρ,σ,τ,υ,reduceIte,reduceCtorEq,UJ,aeV,bnP,bKY]
 by_cases hlt:i<f.bIV.length
 ·have bJA:(i:Int)<(f.bIV.length:Nat):=by omega
  obtain⟨hp,he⟩:=qV hV hlt
  have hpol:=hV.bJI _ (bLF hp)
  rw[he] at hpol
  obtain⟨n,hn⟩:∃ n:Nat,eZ f i=n:=⟨(eZ f i).toNat,by unfold eZ; omega⟩
  have hn1:1≤n∧n≤8:=by unfold eZ at hn; omega
  have hfi:=hfr i hlt
  rw[hn] at hfi
  have bJB:cR l f a (i+1)=((cR l f a i).1++[(kD l f.bIS.length (aC l (f.bIS.length+1) (cR l f a i).2).1 (aC l (f.bIS.length+1) (cR l f a i).2).2 (eZ f i).toNat).1],(kD l f.bIS.length (aC l (f.bIS.length+1) (cR l f a i).2).1 (aC l (f.bIS.length+1) (cR l f a i).2).2 (eZ f i).toNat).2):=rfl
  rw[hn,bNU] at bJB
  generalize hs:cR l f a i=s at *
  have e2:IntKind.i64.wrap ((f.bIS.length:Int)+1)=((f.bIS.length+1:Nat):Int):=cY Om
  have nl1:=bT l (Om:0<f.bIS.length+1) s.2
  have nl2:=bK l (f.bIS.length+1) k1
  simp only[go_sem,γ,δ,ε,ζ,η,θ,ι,κ,μ,ν,ξ,ο,ρ,σ,τ,υ,reduceIte,reduceCtorEq,bJA,aeW,aeX,bKY,e2]
  refine cK Lb T (o:=o) (n:=f.bIS.length+1) (a:=s.2) Om k1 Sq (hH.at 0 rfl) ?_
  have h1:=(hH.set 0 rfl (aW v (aC l (f.bIS.length+1) s.2).2)).oH 1
  generalize aC l (f.bIS.length+1) s.2=t at *
  obtain⟨r1,r2⟩:=yR l f.bIS.length t.1 nl2 n
  simp only[go_sem,γ,δ,ε,ζ,η,θ,ι,κ,μ,ν,ξ,ο,ρ,σ,τ,υ,reduceIte,reduceCtorEq,aeY]
  refine buJ (C:=C) Lb T o f Om i n Om hfi w (mB s.1) t.1 t.2 Om nl2 _ _ _ (by unfold jB; exact Lq) h1 ?_
  intro w7 F1 H1 hF1 h2
  generalize bJH:kD l f.bIS.length t.1 t.2 n=row at *
  obtain⟨q,rfl⟩:=(h2.own 1 rfl).one (by rw[bKY]; omega)
  have f0:F1 0=some (.ptr o 2 0 0):=hF1 0 _ (by unfold jB; simp only[go_sem,γ,δ,ε,ζ,η,θ,ι,κ,μ,ν,ξ,ο,ρ,σ,τ,υ,reduceIte,reduceCtorEq])
  have f3:F1 3=some (.bJC f.cells):=hF1 3 _ (by unfold jB; simp only[go_sem,γ,δ,ε,ζ,η,θ,ι,κ,μ,ν,ξ,ο,ρ,σ,τ,υ,reduceIte,reduceCtorEq])
  have f5:F1 5=some w:=hF1 5 _ (by unfold jB; simp only[go_sem,γ,δ,ε,ζ,η,θ,ι,κ,μ,ν,ξ,ο,ρ,σ,τ,υ,reduceIte,reduceCtorEq])
  have f6:F1 6=some (.int .i64 i):=hF1 6 _ (by unfold jB; simp only[go_sem,γ,δ,ε,ζ,η,θ,ι,κ,μ,ν,ξ,ο,ρ,σ,τ,υ,reduceIte,reduceCtorEq])
  have f7:F1 7=some (.osl q 1 0 (iiv row.1).length):=hF1 7 _ (by unfold jB; simp only[go_sem,γ,δ,ε,ζ,η,θ,ι,κ,μ,ν,ξ,ο,ρ,σ,τ,υ,reduceIte,reduceCtorEq])
  have h11:(1:Nat)*1≤16777216:=by decide
  simp only[go_sem,γ,δ,ε,ζ,η,θ,ι,κ,μ,ν,ξ,ο,ρ,σ,τ,υ,reduceIte,reduceCtorEq,UK,f5,f7,h11]
  refine h2.append 0 (src:=[[.osl q 1 0 (iiv row.1).length]]) rfl Sq (by unfold roomFor; rw[bKY,k2]; simp only[bLH,maxLen]; omega) fun w' H' h3 hw=>?_
  obtain⟨q',rfl⟩:=hw (by simp)
  obtain⟨rs,z1,z2,z3,z4,z5⟩:=h3.frz 1 rfl
  have y1:=z4 0 _ (by decide) rfl
  simp only at y1
  have y0:=T.frz q 1 rs
  have yf:PV.frz q 1 rs (PV.osl q' 1 0 (mB s.1++[[PV.osl q 1 0 (iiv row.1).length]]).length)=PV.osl q' 1 0 (mB s.1++[[PV.osl q 1 0 (iiv row.1).length]]).length:=y1
  simp only[go_sem,γ,δ,ε,ζ,η,θ,ι,κ,μ,ν,ξ,ο,ρ,σ,τ,υ,reduceIte,reduceCtorEq,UL,f6,ws i]
  refine OB (i+1,PV.osl q' 1 0 (mB s.1++[[PV.osl q 1 0 (iiv row.1).length]]).length,H'.frz q 1 rs) z1 ⟨hlt,?_⟩ (by simp only; omega) ?_ PH.le_refl
  ·simp only
   rw[bJB]
   have eB:([(o,aW v row.2)]:List BX).map (fun b=>(b.1,b.2.frz q 1 rs))=[(o,aW v row.2)]:=by
    show [(o,cD.rows 2 [[PV.dN q 1 rs v,.int .i64 row.2]])]=_
    rw[y0]
   have e5:(mB s.1++[[PV.osl q 1 0 (iiv row.1).length]]).map (fun r=>r.map (PV.dN q 1 rs))=mB (s.1++[row.1]):=by
    rw[bMW,buD]
    show mB s.1++[[PV.dN q 1 rs (.osl q 1 0 (iiv row.1).length)]]=_
    rw[z2]
    simp[mB]
   rw[← eB,← e5]
   exact z5
  ·have e7:(mB s.1++[[PV.osl q 1 0 (iiv row.1).length]]).length=(mB s.1++[[PV.osl q 1 0 row.1.length]]).length:=by simp
   rw[e7] at yf ⊢
   (repeat' (first|exact PF.nil_le|refine PF.aG ?_ ?_))<;>first|(simp only[go_sem,γ,δ,ε,ζ,η,θ,ι,κ,μ,ν,ξ,ο,ρ,σ,τ,υ,reduceIte,reduceCtorEq,f0,f3,yf]<;>rfl)|rfl
 ·have bJA:¬ (i:Int)<(f.bIV.length:Nat):=by omega
  have:i=f.bIV.length:=by omega
  subst this
  simp only[go_sem,γ,δ,ε,ζ,η,θ,ι,κ,μ,ν,ξ,ο,ρ,σ,τ,υ,reduceIte,reduceCtorEq,bJA,UM]
  rcases hH.own 0 rfl with ⟨h1',rfl⟩ | ⟨q,rs,rfl,_⟩
  ·refine aV (vs:=[.bIU]) (.inr rfl) (PH.nil.set o (aW v (cR l f a f.bIV.length).2)) Sq (PH.aG PH.nil_le (hH.at 0 rfl)) ?_
   rw[bF,hR]
   refine⟨?_,rfl⟩
   unfold lay
   rw[show (cR l f a f.bIV.length).1.map (fun r=>[ints r])=[] from h1']
   exact .nil 1
  ·obtain⟨rs,g1,g2,g3,-,g4⟩:=hH.frz 0 rfl
   refine FG (vs:=[.osl q 1 0 (mB (cR l f a f.bIV.length).1).length]) (.inr rfl) Sq (.step g1 (.done (H2:=PH.nil.set o (aW v (cR l f a f.bIV.length).2)) ?_ (PH.aG PH.nil_le ?_)))
   ·rw[bF,g3,hR]
    exact⟨.refl _,rfl⟩
   ·have:=g4.at 0 rfl
    rw[this]
    simp only[cD.frz,bMI,bMZ,T.frz]
    rfl
structure RZ (C:Ctx):Prop extends MS C where
 new:∀ (l:List Nat),(∀ x∈l,x<256)→l.length≤9223372036854775807→aH C 28 [.sl 1 (jW l)] .nil (aBS l)
 tfleet:∀ (l:List Nat) (v:PV),Tp l v→∀ (o bIS bIV a:Nat),bIS≤60→bIV≤50→a≤l.length →
  aH C 0 [.ptr o 2 0 0,.int .i64 bIS,.int .i64 bIV] (PH.nil.set o (aW v a)) (fun r H=>r=.agg (fY l bIS bIV a).1.cells∧H=PH.nil.set o (aW v (fY l bIS bIV a).2))
 tlayout:∀ (l:List Nat) (v:PV),Tp l v→∀ (o a:Nat) (f:aD),VF f→a≤l.length→aH C 3 [.ptr o 2 0 0,.agg f.cells] (PH.nil.set o (aW v a)) (fun r H=>r=lay (cR l f a f.bIV.length).1∧H=PH.nil.set o (aW v (cR l f a f.bIV.length).2))
 AP:∀ (l:List Nat) (v:PV),Tp l v→∀ (o a:Nat) (f:aD),f.bIS.length≤1000→a≤l.length→aH C 6 [.ptr o 2 0 0,.agg f.cells] (PH.nil.set o (aW v a)) (fun r H=>r=ints (mR l f a).1∧H=PH.nil.set o (aW v (mR l f a).2))
 roomM:∀ (f:aD) (room:List Int),f.Ok→aH C 152 [.agg f.cells,ints room] .nil (mN 1 (dA (mD f room)))
theorem exactly {C:Ctx} {name:Nat} {args:List PV} {H H2:PH} {v:PV} (h:aH C name args H (fun r H'=>Co r v∧H'=H2)):aH C name args H (fun r H'=>r=v∧H'=H2) :=
 h.post fun r H' hr=>⟨_,hr.1,rfl,hr.2⟩
def fT (l:List Nat) (d v:Nat):aD:=(fY (l.take 400) d v 0).1
def faT (l:List Nat) (d v:Nat):Nat:=(fY (l.take 400) d v 0).2
def lT (l:List Nat) (d v:Nat):List (List Int):=(cR (l.take 400) (fT l d v) (faT l d v) (fT l d v).bIV.length).1
def laT (l:List Nat) (d v:Nat):Nat:=(cR (l.take 400) (fT l d v) (faT l d v) (fT l d v).bIV.length).2
def rT (l:List Nat) (d v:Nat):List Int:=(mR (l.take 400) (fT l d v) (laT l d v)).1
theorem NK (l:List Nat) (bIS bIV:Nat) {a:Nat} (h:a≤l.length):(fY l bIS bIV a).2≤l.length:=by
 have ae:=bK l 2 h
 have alw:=bK l 2 ae
 obtain⟨alaws,-⟩:=HE l alw (1+(aC l 2 (aC l 2 a).2).1)
 have amd:=bK l 2 alaws
 obtain⟨amodels,-⟩:=wQ l (1+(aC l 2 (aC l 2 a).2).1) amd (1+(aC l 2 (gP l (aC l 2 (aC l 2 a).2).2 (1+(aC l 2 (aC l 2 a).2).1)).2).1)
 obtain⟨hG,-⟩:=GR (mc:=1+(aC l 2 (gP l (aC l 2 (aC l 2 a).2).2 (1+(aC l 2 (aC l 2 a).2).1)).2).1) 4 0 (⟨by simp,bLE _,amodels⟩:GOk l bIS ⟨[mF],[],_⟩)
 exact (EB l _ (bK l (bIV+1) (sU l _ (bK l 2 hG.a) _).1) _).1
theorem bmN (l:List Nat) (bIS at_ i a:Nat):-1≤(oM l bIS at_ i a).1∧(oM l bIS at_ i a).1<bIS:=by
 unfold oM
 split
 ·simp only; omega
 ·rename_i h
  have h1:=bT l (Om:0<bIS) (aC l 6 a).2
  have h2:=bT l (Om:0<bIS+1) (aC l 6 a).2
  have h3:=bMJ (at_+i) (Om:0<bIS)
  simp only
  split
  ·simp only; omega
  ·split
   ·simp only; omega
   ·simp only; omega
theorem aHZ (l:List Nat) (bIS at_ a:Nat):∀ k,∀ x∈(kD l bIS at_ a k).1,-1≤x∧x<bIS
 | 0,x,h=>by cases h
 | k+1,x,h=>by
  rcases bMT.1 h with h | h
  ·exact aHZ l bIS at_ a k x h
  ·rw[List.mem_singleton] at h
   subst h
   exact bmN l bIS at_ k _
structure xZ (f:aD) (L:List (List Int)):Prop where
 len:L.length=f.bIV.length
 row:∀ v (h:v<L.length),((L[v].length:Nat):Int)=eZ f v
 home:∀ r∈L,∀ x∈r,-1≤x∧x<f.bIS.length
theorem apZ (l:List Nat) {f:aD} (hV:VF f) {a:Nat} (ha:a≤l.length):∀ k,k≤f.bIV.length→(cR l f a k).1.length=k∧(∀ v (h:v<(cR l f a k).1.length),(((cR l f a k).1[v].length:Nat):Int)=eZ f v)∧∀ r∈(cR l f a k).1,∀ x∈r,-1≤x∧x<f.bIS.length
 | 0,_=>⟨rfl,fun v h=>absurd h (by simp[cR]),fun r h=>by cases h⟩
 | k+1,hk=>by
  obtain⟨h1,h2,h3⟩:=apZ l hV ha k Om
  obtain⟨hp,he⟩:=qV hV (Om:k<f.bIV.length)
  have hpol:=hV.bJI _ (bLF hp)
  rw[he] at hpol
  have hn:((eZ f k).toNat:Int)=eZ f k:=by unfold eZ; omega
  have ha2:=(sK l f ha k).1
  have hr:=(yR l f.bIS.length (aC l (f.bIS.length+1) (cR l f a k).2).1 (bK l (f.bIS.length+1) ha2) (eZ f k).toNat).2
  have hi:=aHZ l f.bIS.length (aC l (f.bIS.length+1) (cR l f a k).2).1 (aC l (f.bIS.length+1) (cR l f a k).2).2 (eZ f k).toNat
  have bJB:(cR l f a (k+1)).1=(cR l f a k).1++[(kD l f.bIS.length (aC l (f.bIS.length+1) (cR l f a k).2).1 (aC l (f.bIS.length+1) (cR l f a k).2).2 (eZ f k).toNat).1]:=rfl
  rw[bJB]
  generalize (kD l f.bIS.length (aC l (f.bIS.length+1) (cR l f a k).2).1 (aC l (f.bIS.length+1) (cR l f a k).2).2 (eZ f k).toNat).1=row at *
  generalize (cR l f a k).1=L at *
  refine⟨by simp[h1],fun v h=>?_,fun r h=>?_⟩
  ·by_cases hv:v<L.length
   ·rw[List.getElem_append_left hv]; exact h2 v hv
   ·have hv2:v=k:=by simp at h; omega
    subst hv2
    rw[List.getElem_append_right Om]
    simp only[h1,Nat.sub_self,List.getElem_cons_zero]
    rw[hr,hn]
  ·rcases bMT.1 h with h | h
   ·exact h3 r h
   ·rw[List.mem_singleton] at h
    subst h
    exact hi
theorem xZ.bBJ {f:aD} {L:List (List Int)} (h:xZ f L) (hV:VF f):∀ k,k≤L.length→(L.take k).flatten.length≤k*8:=by
 have hl:=h.len
 intro k
 induction k with
 | zero=>intro _; simp
 | succ k ih =>
  intro hk
  rw[oX L hk,bLC]
  have h1:=ih Om
  have h2:=h.row k hk
  obtain⟨hp,he⟩:=qV hV (Om:k<f.bIV.length)
  have hpol:=hV.bJI _ (bLF hp)
  rw[he] at hpol
  unfold eZ at h2
  omega
theorem xZ.ok {f:aD} (hV:VF f) {L:List (List Int)} (h:xZ f L):fC L:=by
 have hv:=hV.small.bIV
 have hl:=h.len
 have:=h.bBJ hV L.length (bLG _)
 rw[bLZ] at this
 exact⟨by omega,by omega⟩
theorem bEB (l:List Nat) {d v:Nat} (hd:d≤24) (hv:v≤12):xZ (fT l d v) (lT l d v):=by
 obtain⟨h1,h2,h3⟩:=apZ (l.take 400) (VF.of (yH (l.take 400) d v 0 hd hv).1) (NK (l.take 400) d v (bLE _)) (fT l d v).bIV.length (bLG _)
 exact⟨h1,h2,h3⟩
section
variable {C:Ctx} {F F':PF} {H:PH}
theorem cN (hle:F.le F') {x:aP} {v:PV} (h:x.ev F=some v):x.ev F'=some v:=by
 cases x
 ·exact hle _ _ h
 all_goals exact h
theorem acE (hle:F.le F'):∀ {xs:List aP} {vs:List PV},aP.evs F xs=some vs→aP.evs F' xs=some vs
 | [],_,h=>h
 | x::xs,vs,h=>by
  rw[yG] at h ⊢
  cases hx:x.ev F with
  | none=>simp[hx] at h
  | some v =>
   cases hs:aP.evs F xs with
   | none=>simp[hs] at h
   | some ws =>
    rw[hx,hs] at h
    rw[cN hle hx,acE hle hs]
    exact h
theorem aDG (hle:F.le F'):∀ {ps:List (Nat × Nat × aP)} {cs ds:List PV},pK cs F ps=some ds→pK cs F' ps=some ds
 | [],_,_,h=>h
 | (off,size,x)::ps,cs,ds,h=>by
  simp only[pK] at h ⊢
  cases hx:x.ev F with
  | none=>simp[hx] at h
  | some v =>
   rw[hx] at h
   rw[cN hle hx]
   simp only at h ⊢
   split at h
   ·rename_i hc; rw[if_pos hc]; exact aDG hle h
   ·cases h
theorem BJ (hle:F.le F') {size:Nat}:∀ {ps:List (Nat × aP)} {cs ds:List (List PV)},gV size cs F ps=some ds→gV size cs F' ps=some ds
 | [],_,_,h=>h
 | (i,x)::ps,cs,ds,h=>by
  simp only[gV] at h ⊢
  cases hx:x.ev F with
  | none=>simp[hx] at h
  | some v =>
   rw[hx] at h
   rw[cN hle hx]
   simp only at h ⊢
   split at h
   ·rename_i hc; rw[if_pos hc]; exact BJ hle h
   ·cases h
theorem MY (hle:F.le F') {d n:Int} {x:Option aP} (h:bnd F d x=some n):bnd F' d x=some n:=by
 cases x with
 | none=>exact h
 | some x =>
  simp only[bnd] at h ⊢
  cases hx:x.ev F with
  | none=>simp[hx] at h
  | some v=>rw[cN hle hx,← hx]; exact h
theorem aLS {op:POp} {v:PV} (hle:F.le F') (h:aO op F H=some v):aO op F' H=some v:=by
 cases op
 case mv x=>exact cN hle h
 case pick c a b =>
  simp only[aO] at h ⊢
  cases hc:c.ev F with
  | none=>simp[hc] at h
  | some t =>
   rw[hc] at h
   rw[cN hle hc]
   cases t<;>simp only at h ⊢<;>try cases h
   rename_i t
   cases t
   ·simp only[bOF,if_false] at h ⊢; exact cN hle h
   ·simp only[if_true] at h ⊢; exact cN hle h
 case same x =>
  simp only[aO] at h ⊢
  cases hx:x.ev F with
  | none=>simp[hx] at h
  | some a=>rw[cN hle hx,← hx]; exact h
 case un o x =>
  simp only[aO] at h ⊢
  cases hx:x.ev F with
  | none=>simp[hx] at h
  | some a=>rw[cN hle hx,← hx]; exact h
 case conv k x =>
  simp only[aO] at h ⊢
  cases hx:x.ev F with
  | none=>simp[hx] at h
  | some a=>rw[cN hle hx,← hx]; exact h
 case bJJ x =>
  simp only[aO] at h ⊢
  cases hx:x.ev F with
  | none=>simp[hx] at h
  | some a=>rw[cN hle hx,← hx]; exact h
 case bKG o x =>
  simp only[aO] at h ⊢
  cases hx:x.ev F with
  | none=>simp[hx] at h
  | some a=>rw[cN hle hx,← hx]; exact h
 case field o n x =>
  simp only[aO] at h ⊢
  cases hx:x.ev F with
  | none=>simp[hx] at h
  | some a=>rw[cN hle hx,← hx]; exact h
 case bKC x =>
  simp only[aO] at h ⊢
  cases hx:x.ev F with
  | none=>simp[hx] at h
  | some a=>rw[cN hle hx,← hx]; exact h
 case bKW x =>
  simp only[aO] at h ⊢
  cases hx:x.ev F with
  | none=>simp[hx] at h
  | some a=>rw[cN hle hx,← hx]; exact h
 case extract x i =>
  simp only[aO] at h ⊢
  cases hx:x.ev F with
  | none=>simp[hx] at h
  | some a=>rw[cN hle hx,← hx]; exact h
 case bJK x =>
  simp only[aO] at h ⊢
  cases hx:x.ev F with
  | none=>simp[hx] at h
  | some a=>rw[cN hle hx,← hx]; exact h
 case len x =>
  simp only[aO] at h ⊢
  cases hx:x.ev F with
  | none=>simp[hx] at h
  | some a=>rw[cN hle hx,← hx]; exact h
 case box r x =>
  cases r
  ·cases h
  simp only[aO] at h ⊢
  cases hx:x.ev F with
  | none=>simp[hx] at h
  | some a=>rw[cN hle hx,← hx]; exact h
 case load n p =>
  cases n
  all_goals
   simp only[aO] at h ⊢
   cases hx:p.ev F with
   | none=>simp[hx] at h
   | some a=>rw[cN hle hx,← hx]; exact h
 case bin o x y =>
  simp only[aO] at h ⊢
  cases hx:x.ev F with
  | none=>simp[hx] at h
  | some a =>
   cases hy:y.ev F with
   | none=>simp[hx,hy] at h
   | some b=>rw[cN hle hx,cN hle hy,← hx,← hy]; exact h
 case eqb n x y =>
  simp only[aO] at h ⊢
  cases hx:x.ev F with
  | none=>simp[hx] at h
  | some a =>
   cases hy:y.ev F with
   | none=>simp[hx,hy] at h
   | some b=>rw[cN hle hx,cN hle hy,← hx,← hy]; exact h
 case eqs n k x y =>
  simp only[aO] at h ⊢
  cases hx:x.ev F with
  | none=>simp[hx] at h
  | some a =>
   cases hy:y.ev F with
   | none=>simp[hx,hy] at h
   | some b=>rw[cN hle hx,cN hle hy,← hx,← hy]; exact h
 case bJP s x i =>
  simp only[aO] at h ⊢
  cases hx:x.ev F with
  | none=>simp[hx] at h
  | some a =>
   cases hy:i.ev F with
   | none=>simp[hx,hy] at h
   | some b=>rw[cN hle hx,cN hle hy,← hx,← hy]; exact h
 case idxA n s x i =>
  simp only[aO] at h ⊢
  cases hx:x.ev F with
  | none=>simp[hx] at h
  | some a =>
   cases hy:i.ev F with
   | none=>simp[hx,hy] at h
   | some b=>rw[cN hle hx,cN hle hy,← hx,← hy]; exact h
 case idxV n s g x i =>
  simp only[aO] at h ⊢
  cases hx:x.ev F with
  | none=>simp[hx] at h
  | some a =>
   cases hy:i.ev F with
   | none=>simp[hx,hy] at h
   | some b=>rw[cN hle hx,cN hle hy,← hx,← hy]; exact h
 case bKD x i =>
  simp only[aO] at h ⊢
  cases hx:x.ev F with
  | none=>simp[hx] at h
  | some a =>
   cases hy:i.ev F with
   | none=>simp[hx,hy] at h
   | some b=>rw[cN hle hx,cN hle hy,← hx,← hy]; exact h
 case bJV m x y =>
  simp only[aO] at h ⊢
  cases hx:x.ev F with
  | none=>simp[hx] at h
  | some a =>
   cases hy:y.ev F with
   | none=>simp[hx,hy] at h
   | some b=>rw[cN hle hx,cN hle hy,← hx,← hy]; exact h
 case lookup sh z x k ok =>
  simp only[aO] at h ⊢
  cases hx:x.ev F with
  | none=>simp[hx] at h
  | some a =>
   cases hy:k.ev F with
   | none=>simp[hx,hy] at h
   | some b=>rw[cN hle hx,cN hle hy,← hx,← hy]; exact h
 case build z ps =>
  simp only[aO,bLJ] at h ⊢
  obtain⟨cs,h1,h2⟩:=h
  exact⟨cs,aDG hle h1,h2⟩
 case bIZ r s l z ps =>
  cases r
  ·cases h
  simp only[aO] at h ⊢
  split at h
  ·rename_i hc
   rw[if_pos hc]
   rw[bLJ] at h ⊢
   obtain⟨cs,h1,h2⟩:=h
   exact⟨cs,BJ hle h1,h2⟩
  ·cases h
 case mkfn n cs =>
  simp only[aO,bLJ] at h ⊢
  obtain⟨vs,h1,h2⟩:=h
  exact⟨vs,acE hle h1,h2⟩
 case sliceA n s x lo hi mx =>
  cases lo<;>cases hi<;>cases mx<;>simp only[aO] at h ⊢<;>try cases h
  cases hx:x.ev F with
  | none=>simp[hx] at h
  | some a=>rw[cN hle hx,← hx]; exact h
 case bJX x lo hi =>
  simp only[aO] at h ⊢
  cases hx:x.ev F with
  | none=>simp[hx] at h
  | some a =>
   rw[hx] at h
   rw[cN hle hx]
   cases a<;>simp only at h ⊢<;>try cases h
   cases h1:bnd F 0 lo with
   | none=>simp[h1] at h
   | some l =>
    rename_i s
    cases h2:bnd F s.length hi with
    | none=>simp[h1,h2] at h
    | some u=>rw[MY hle h1,MY hle h2,← h1,← h2]; exact h
 case slice s x lo hi mx =>
  simp only[aO] at h ⊢
  cases hx:x.ev F with
  | none=>simp[hx] at h
  | some a =>
   rw[hx] at h
   rw[cN hle hx]
   have key:∀ (d:Int) (w:PV),(match bnd F 0 lo,bnd F d hi with
     | some a1,some a2=>match (generalizing:=false) mx with
      | none=>PV.slice s w a1 a2 none
      | some m=>(bnd F 0 (some m)).bind fun m=>PV.slice s w a1 a2 (some m)
     | _,_=>none)=some v→(match bnd F' 0 lo,bnd F' d hi with
     | some a1,some a2=>match (generalizing:=false) mx with
      | none=>PV.slice s w a1 a2 none
      | some m=>(bnd F' 0 (some m)).bind fun m=>PV.slice s w a1 a2 (some m)
     | _,_=>none)=some v:=by
    intro d w h
    cases h1:bnd F 0 lo with
    | none=>simp[h1] at h
    | some l =>
     cases h2:bnd F d hi with
     | none=>simp[h1,h2] at h
     | some u =>
      rw[h1,h2] at h
      rw[MY hle h1,MY hle h2]
      cases mx with
      | none=>exact h
      | some m =>
       simp only at h ⊢
       cases h3:bnd F 0 (some m) with
       | none=>simp[h3] at h
       | some q=>rw[MY hle h3,← h3]; exact h
   cases a<;>simp only at h ⊢<;>first | exact key _ _ h | cases h
 all_goals exact h
theorem aCE {op:POp} {r:(Nat→PV) × cD} (hle:F.le F') (h:cW op F=some r):cW op F'=some r:=by
 cases op
 case box b x =>
  cases b
  ·simp only[cW] at h ⊢
   cases hx:x.ev F with
   | none=>simp[hx] at h
   | some a=>rw[cN hle hx,← hx]; exact h
  ·cases h
 case bIZ b s l z ps =>
  cases b
  ·simp only[cW] at h ⊢
   split at h
   ·rename_i hc
    rw[if_pos hc]
    rw[bLJ] at h ⊢
    obtain⟨cs,h1,h2⟩:=h
    exact⟨cs,BJ hle h1,h2⟩
   ·cases h
  ·cases h
 case bJE s b z l c =>
  simp only[cW] at h ⊢
  cases hx:l.ev F with
  | none=>simp[hx] at h
  | some a =>
   cases hy:c.ev F with
   | none=>simp[hx,hy] at h
   | some b=>rw[cN hle hx,cN hle hy,← hx,← hy]; exact h
 all_goals exact h
theorem aSB {op:POp} {K:PV→PH→Prop} (hle:F.le F') (h:bX op F H K):bX op F' H K:=by
 cases op
 case store n x y =>
  simp only[bX] at h ⊢
  cases hx:x.ev F with
  | none=>simp[hx] at h
  | some a =>
   cases hy:y.ev F with
   | none=>simp[hx,hy] at h
   | some b=>rw[cN hle hx,cN hle hy]; rw[hx,hy] at h; exact h
 case append s b x y =>
  simp only[bX] at h ⊢
  cases hx:x.ev F with
  | none=>simp[hx] at h
  | some a =>
   cases hy:y.ev F with
   | none=>simp[hx,hy] at h
   | some b=>rw[cN hle hx,cN hle hy]; rw[hx,hy] at h; exact h
 case bJS sh x y z =>
  simp only[bX] at h ⊢
  cases hx:x.ev F with
  | none=>simp[hx] at h
  | some a =>
   cases hy:y.ev F with
   | none=>simp[hx,hy] at h
   | some b =>
    cases hz:z.ev F with
    | none=>simp[hx,hy,hz] at h
    | some c=>rw[cN hle hx,cN hle hy,cN hle hz]; rw[hx,hy,hz] at h; exact h
 case insert sh x y z =>
  simp only[bX] at h ⊢
  cases hx:x.ev F with
  | none=>simp[hx] at h
  | some a =>
   cases hy:y.ev F with
   | none=>simp[hx,hy] at h
   | some b =>
    cases hz:z.ev F with
    | none=>simp[hx,hy,hz] at h
    | some c=>rw[cN hle hx,cN hle hy,cN hle hz]; rw[hx,hy,hz] at h; exact h
 all_goals exact h
theorem PF.byZ (hle:F.le F') (i:Nat) (v:PV):(F.set i v).le (F'.set i v):=by
 intro j u h
 rw[nB] at h ⊢
 split at h
 ·rename_i e; rw[if_pos e]; exact h
 ·rename_i e; rw[if_neg e]; exact hle j u h
theorem PF.yY (hle:F.le F') (d:Option Nat) (v:PV):(F.put d v).le (F'.put d v):=by
 cases d with
 | none=>exact hle
 | some d=>exact PF.byZ hle d v
theorem PF.bxV (hle:F.le F') (o s:Nat) (rs:List (List PV)):(F.frz o s rs).le (F'.frz o s rs):=by
 intro j u h
 rw[sH,bLJ] at h ⊢
 obtain⟨x,h1,h2⟩:=h
 exact⟨x,hle j x h1,h2⟩
theorem PF.le_trans {A B D:PF} (h:A.le B) (k:B.le D):A.le D:=fun i v hi=>k i v (h i v hi)
theorem jU.up {F1:PF} {H1:PH} (h:jU F H F1 H1):∀ {F':PF},F.le F'→∃ F1',jU F' H F1' H1∧F1.le F1':=by
 induction h with
 | refl F H=>exact fun {F'} hle=>⟨F',.refl _ _,hle⟩
 | step o ho _ ih =>
  intro F' hle
  obtain⟨F1',h1,h2⟩:=ih (PF.bxV hle o _ _)
  exact⟨F1',.step o ho h1,h2⟩
theorem abW {name:Nat} {args:Option (List PV)} {d:Option Nat} {K1 K2:PF→PH→Prop} (hK:∀ F F' H,F.le F'→K1 F H→K2 F' H) (hle:F.le F') {args':Option (List PV)} (ha:∀ vs,args=some vs→args'=some vs) (h:rR C name args d K1 F H):rR C name args' d K2 F' H:=by
 obtain⟨vs,H0,R,h1,h2,h3,h4⟩:=h
 exact⟨vs,H0,R,ha _ h1,h2,h3,fun r H' a b=>hK _ _ _ (PF.yY hle d r) (h4 r H' a b)⟩
theorem aIB {cs:List PV} {args:List aP} (hle:F.le F') (vs:List PV) (h:(aP.evs F args).map (·++cs)=some vs):(aP.evs F' args).map (·++cs)=some vs:=by
 rw[bLJ] at h ⊢
 obtain⟨x,h1,h2⟩:=h
 exact⟨x,acE hle h1,h2⟩
theorem aVR {name:Nat} {args:List aP} {cs:List PV} {d:Option Nat} {K1 K2:PF→PH→Prop} (hK:∀ F F' H,F.le F'→K1 F H→K2 F' H) (hle:F.le F') (h:gS C name args cs d K1 F H):gS C name args cs d K2 F' H:=by
 rcases h with h | ⟨F1,H1,h1,h2⟩
 ·exact .inl (abW hK hle (aIB hle) h)
 ·obtain⟨F1',k1,k2⟩:=h1.up hle
  exact .inr ⟨F1',H1,k1,abW hK k2 (aIB k2) h2⟩
theorem ON {op:POp} {d:Option Nat} {K1 K2:PF→PH→Prop} (hK:∀ F F' H,F.le F'→K1 F H→K2 F' H) (hle:F.le F') (h:mJ (cW op F) d K1 F H):mJ (cW op F') d K2 F' H:=by
 obtain⟨mk,x,h1,h2⟩:=h
 exact⟨mk,x,aCE hle h1,fun o ho=>hK _ _ _ (PF.yY hle d _) (h2 o ho)⟩
theorem alY {op:POp} {d:Option Nat} {K1 K2:PF→PH→Prop} (hK:∀ F F' H,F.le F'→K1 F H→K2 F' H) (hle:F.le F') (h:bU (aO op F H) d K1 F H):bU (aO op F' H) d K2 F' H:=by
 obtain⟨v,h1,h2⟩:=h
 exact⟨v,aLS hle h1,hK _ _ _ (PF.yY hle d v) h2⟩
theorem aBK {op:POp} {d:Option Nat} {K1 K2:PF→PH→Prop} (hK:∀ F F' H,F.le F'→K1 F H→K2 F' H) (hle:F.le F') (h:bX op F H fun r H'=>K1 (F.put d r) H'):bX op F' H fun r H'=>K2 (F'.put d r) H' :=
 aSB hle (zO (fun v H' hh=>hK _ _ _ (PF.yY hle d v) hh) h)
theorem brN {op:POp} {d:Option Nat} {K1 K2:PF→PH→Prop} (hK:∀ F F' H,F.le F'→K1 F H→K2 F' H) (hle:F.le F') (h:wpOp C op d K1 F H):wpOp C op d K2 F' H:=by
 cases op
 case call n a=>exact aVR hK hle h
 case bKF x a =>
  obtain⟨n,cs,h1,h2⟩:=h
  exact⟨n,cs,cN hle h1,aVR hK hle h2⟩
 case box r x=>cases r<;>first | exact ON (op:=.box false x) hK hle h | exact alY (op:=.box true x) hK hle h
 case bIZ r s l z ps=>cases r<;>first | exact ON (op:=.bIZ false s l z ps) hK hle h | exact alY (op:=.bIZ true s l z ps) hK hle h
 case alloc cs=>exact ON (op:=.alloc cs) hK hle h
 case bJE s b z l c=>exact ON (op:=.bJE s b z l c) hK hle h
 case bKQ sh=>exact ON (op:=.bKQ sh) hK hle h
 case store n x y=>exact aBK (op:=.store n x y) hK hle h
 case append s b x y=>exact aBK (op:=.append s b x y) hK hle h
 case bJS sh x y z=>exact aBK (op:=.bJS sh x y z) hK hle h
 case insert sh x y z=>exact aBK (op:=.insert sh x y z) hK hle h
 all_goals exact alY hK hle h
theorem PG {K1 K2:PF→PH→Prop} (hK:∀ F F' H,F.le F'→K1 F H→K2 F' H):∀ {ops:List bD} {F F':PF} {H:PH},F.le F'→wpOps C ops K1 F H→wpOps C ops K2 F' H
 | [],_,_,_,hle,h=>hK _ _ _ hle h
 | ⟨d,op,none⟩::rest,_,_,_,hle,h=>brN (fun _ _ _ a b=>PG hK a b) hle h
 | ⟨d,op,some (t,want)⟩::rest,F,F',H,hle,h=>by
  rw[aVG] at h ⊢
  unfold vC at h
  split at h
  ·rename_i b hb
   rw[hle t _ hb]
   unfold vC
   simp only
   split at h
   ·rename_i e; rw[if_pos e]; exact brN (fun _ _ _ a b=>PG hK a b) hle h
   ·rename_i e; rw[if_neg e]; exact PG hK (PF.yY hle d _) h
  ·rename_i hb
   rw[hle t _ hb]
   exact PG hK (PF.yY hle d _) h
  ·exact h.elim
theorem aLL {Hs:PH} {S:Spec} {st:Bool} {op:POp} {K:PV→PH→Prop} (hle:F.le F') (h:(op.kind F).run C Hs S st K H):(op.kind F').run C Hs S st K H:=by
 have new:∀ op:POp,(Kind.new (cW op F)).run C Hs S st K H→(Kind.new (cW op F')).run C Hs S st K H:=fun op h=>by
  obtain⟨mk,x,h1,h2⟩:=h
  exact⟨mk,x,aCE hle h1,h2⟩
 have calm:∀ op:POp,(Kind.calm (aO op F)).run C Hs S st K H→(Kind.calm (aO op F')).run C Hs S st K H:=fun op h=>by
  obtain⟨v,h1,h2⟩:=h
  exact⟨v,aLS hle h1,h2⟩
 have wr:∀ op:POp,(Kind.write fun H K=>bX op F H K).run C Hs S st K H→(Kind.write fun H K=>bX op F' H K).run C Hs S st K H:=fun op h=>aSB (op:=op) hle (show bX op F H (fun r H'=>Hs.le H'∧K r H') from h)
 cases op
 case call n a =>
  obtain⟨vs,D,R,h1,h2⟩:=h
  exact⟨vs,D,R,acE hle h1,h2⟩
 case bKF x a =>
  unfold POp.kind at h ⊢
  simp only at h ⊢
  cases hx:x.ev F with
  | none=>rw[hx] at h; exact h.elim
  | some u =>
   rw[hx] at h
   rw[cN hle hx]
   cases u<;>simp only at h ⊢<;>first | exact h | skip
   obtain⟨vs,D,R,h1,h2⟩:=h
   exact⟨vs,D,R,aIB hle _ h1,h2⟩
 case insert sh x k v =>
  obtain⟨o,sh',key,u,g,h1,h2⟩:=h
  refine⟨o,sh',key,u,g,?_,h2⟩
  cases hx:x.ev F with
  | none=>simp[hx] at h1
  | some a =>
   cases hy:k.ev F with
   | none=>simp[hx,hy] at h1
   | some b =>
    cases hz:v.ev F with
    | none=>simp[hx,hy,hz] at h1
    | some c=>rw[cN hle hx,cN hle hy,cN hle hz]; rw[hx,hy,hz] at h1; exact h1
 case box r x=>cases r<;>first | exact new (.box false x) h | exact calm (.box true x) h
 case bIZ r s l z ps=>cases r<;>first | exact new (.bIZ false s l z ps) h | exact calm (.bIZ true s l z ps) h
 case alloc cs=>exact new (.alloc cs) h
 case bJE s b z l c=>exact new (.bJE s b z l c) h
 case bKQ sh=>exact new (.bKQ sh) h
 case store n x y=>exact wr (.store n x y) h
 case append s b x y=>exact wr (.append s b x y) h
 case bJS sh x y z=>exact wr (.bJS sh x y z) h
 all_goals exact calm _ h
theorem bmR {Hs:PH} {S:Spec} {st:Bool} {i:bD} {K:PV→PH→Prop} (hle:F.le F') (h:(i.kind F).run C Hs S st K H):(i.kind F').run C Hs S st K H:=by
 unfold bD.kind at h ⊢
 split
 ·rename_i hg
  rw[hg] at h
  exact aLL hle h
 ·rename_i t want hg
  rw[hg] at h
  simp only at h
  split at h
  ·rename_i b hb
   rw[hle t _ hb]
   simp only
   split at h
   ·rename_i e; rw[if_pos e]; exact aLL hle h
   ·rename_i e; rw[if_neg e]; exact h
  ·rename_i hb
   rw[hle t _ hb]
   exact h
  ·exact h.elim
theorem bkE {Hs:PH} {S:Spec} {K1 K2:PF→PH→Prop} (hK:∀ F F' H,F.le F'→K1 F H→K2 F' H):∀ {ops:List (bD × Bool)} {F F':PF} {H:PH},Hs.le H→F.le F'→wpD C Hs S ops K1 F H→wpD C Hs S ops K2 F' H
 | [],_,_,_,_,hle,h=>hK _ _ _ hle h
 | i::rest,F,F',H,hs,hle,h=>by
  have h1:(i.1.kind F).run C Hs S i.2 (fun v H'=>wpD C Hs S rest K1 (F.put i.1.dst v) H') H:=h
  exact bmR hle (Kind.qX (qU _ _) (fun v H' hs' hh=>bkE hK hs' (PF.yY hle _ v) hh) hs h1)
class Up (K:bY):Prop where
 up:∀ {e:mO} {F F':PF} {H:PH},F.le F'→K e F H→K e F' H
theorem tE:∀ (c:aB) {K1 K2:bY} (_:∀ e F F' H,F.le F'→K1 e F H→K2 e F' H) {F F':PF} {H:PH},F.le F'→c.wp C K1 F H→c.wp C K2 F' H
 | .skip,_,_,hK,_,_,_,hle,h=>hK _ _ _ _ hle h
 | .region ops,_,_,hK,_,_,_,hle,h=>PG (hK .normal) hle h
 | .draw ops,_,_,hK,_,_,_,hle,⟨Hs,S,h1,h2⟩=>⟨Hs,S,h1,bkE (hK .normal) h1 hle h2⟩
 | .seq a b,K1,K2,hK,_,_,_,hle,h=>tE a (K1:=jC C (b.wp C) K1) (K2:=jC C (b.wp C) K2) (fun e F F' H hl hh=>by
   cases e with
   | normal=>exact tE b hK hl hh
   | exit id=>exact hK (.exit id) _ _ _ hl hh
   | ret=>exact hK .ret _ _ _ hl hh) hle h
 | .cond c a b,K1,K2,hK,F,F',H,hle,h=>by
  rw[brB] at h ⊢
  unfold SF at h
  split at h
  ·rename_i t ht
   rw[cN hle ht]
   unfold SF
   simp only
   split at h
   ·rename_i e; rw[if_pos e]; exact tE a hK hle h
   ·rename_i e; rw[if_neg e]; exact tE b hK hle h
  ·exact h.elim
 | .block id c,K1,K2,hK,_,_,_,hle,h=>tE c (K1:=dP id K1) (K2:=dP id K2) (fun e F F' H hl hh=>by
   cases e with
   | normal=>exact hK .normal _ _ _ hl hh
   | exit j =>
    rw[BI] at hh ⊢
    split at hh
    ·rename_i e; rw[if_pos e]; exact hK .normal _ _ _ hl hh
    ·rename_i e; rw[if_neg e]; exact hK (.exit j) _ _ _ hl hh
   | ret=>exact hK .ret _ _ _ hl hh) hle h
 | .loop c,K1,K2,hK,F,F',H,hle,⟨α,Fs,Hs,Pr,m,a0,F1,H1,h1,h2,h3,h4,h5⟩=>by
  obtain⟨F1',k1,k2⟩:=h1.up hle
  refine⟨α,Fs,Hs,Pr,m,a0,F1',H1,k1,h2,PF.le_trans h3 k2,h4,fun a ha=>?_⟩
  refine tE c (K1:=dV Fs Hs Pr m (m a) K1) (K2:=dV Fs Hs Pr m (m a) K2) (fun e F F' H hl hh=>?_) PF.le_refl (h5 a ha)
  cases e with
  | normal =>
   obtain⟨b,F2,H2,z1,z2,z3,z4,z5⟩:=hh
   obtain⟨F2',y1,y2⟩:=z1.up hl
   exact⟨b,F2',H2,y1,z2,z3,PF.le_trans z4 y2,z5⟩
  | exit id=>exact hK (.exit id) _ _ _ hl hh
  | ret=>exact hK .ret _ _ _ hl hh
 | .exit id,_,_,hK,_,_,_,hle,h=>hK (.exit id) _ _ _ hle h
 | .ret,_,_,hK,_,_,_,hle,h=>hK .ret _ _ _ hle h
instance Up.seq {K:bY} [Up K] (b:aB):Up (jC C (b.wp C) K) where
 up {e} {F} {F'} {H} hl hh:=by
  cases e with
  | normal=>exact tE b (fun e F F' H a h=>Up.up a h) hl hh
  | exit id=>exact Up.up (K:=K) (e:=.exit id) hl hh
  | ret=>exact Up.up (K:=K) (e:=.ret) hl hh
instance Up.block {K:bY} [Up K] (id:Nat):Up (dP id K) where
 up {e} {F} {F'} {H} hl hh:=by
  cases e with
  | normal=>exact Up.up (K:=K) (e:=.normal) hl hh
  | exit j =>
   rw[BI] at hh ⊢
   split at hh
   ·rename_i e; rw[if_pos e]; exact Up.up (K:=K) (e:=.normal) hl hh
   ·rename_i e; rw[if_neg e]; exact Up.up (K:=K) (e:=.exit j) hl hh
  | ret=>exact Up.up (K:=K) (e:=.ret) hl hh
instance Up.loop {K:bY} [Up K] {α:Type} (Fs:α→PF) (Hs:α→PH) (Pr:α→Prop) (m:α→Nat) (n:Nat):Up (dV Fs Hs Pr m n K) where
 up {e} {F} {F'} {H} hl hh:=by
  cases e with
  | normal =>
   obtain⟨b,F2,H2,z1,z2,z3,z4,z5⟩:=hh
   obtain⟨F2',y1,y2⟩:=z1.up hl
   exact⟨b,F2',H2,y1,z2,z3,PF.le_trans z4 y2,z5⟩
  | exit id=>exact Up.up (K:=K) (e:=.exit id) hl hh
  | ret=>exact Up.up (K:=K) (e:=.ret) hl hh
theorem byR {H:PH} (hle:F.le F') {x:eC} {v:PV} (h:x.ev F H=some v):x.ev F' H=some v:=by
 cases x with
 | tmp t=>exact hle t v h
 | cell t n =>
  cases n<;>simp only[eC.ev] at h ⊢<;>(cases hx:F t with
   | none=>simp[hx] at h
   | some a=>rw[hle t a hx,← hx]; exact h)
theorem anV {H:PH} (hle:F.le F'):∀ {xs:List eC} {vs:List PV},eC.evs F H xs=some vs→eC.evs F' H xs=some vs
 | [],_,h=>h
 | x::xs,vs,h=>by
  rw[lI] at h ⊢
  cases hx:x.ev F H with
  | none=>simp[hx] at h
  | some v =>
   cases hs:eC.evs F H xs with
   | none=>simp[hs] at h
   | some ws =>
    rw[hx,hs] at h
    rw[byR hle hx,anV hle hs]
    exact h
instance Up.ret (res:List eC) (R:PV→PH→Prop):Up (aS res R) where
 up {e} {F} {F'} {H} hl hh:=by
  cases e with
  | exit id=>exact hh
  | normal=>obtain⟨vs,h1,h2⟩:=hh; exact⟨vs,anV hl h1,h2⟩
  | ret=>obtain⟨vs,h1,h2⟩:=hh; exact⟨vs,anV hl h1,h2⟩
end
section
variable {H:PH} {B:List BX} {L:List LI}
end
theorem UB {p:Int→Bool}:∀ {l:List Int} {i:Nat},(∀ x∈l,p x=false)→eI p l i=none
 | [],_,_=>rfl
 | y::t,i,h=>by
  rw[eI,h y (by simp),if_neg (by decide)]
  exact UB fun x hx=>h x (by simp[hx])
theorem xZ.shape {f:aD} {L:List (List Int)} (h:xZ f L) {v:Nat} (hv:v<L.length):kC f L v=none:=by
 have e:L.getD v []=L[v]:=by simp[bLP,hv]
 unfold kC
 rw[e,if_pos (h.row v hv),UB]
 ·rfl
 ·intro x hx
  have:=h.home _ (bLF hv) x hx
  simp[jA]
  omega
section
variable {H:PH} {B:List BX} {L:List LI} {s:Nat} {rows:List (List PV)}
theorem mN.some (s:Nat) (rows:List (List PV)) (G:PH):∃ r H',mN s rows r H'∧nF G .nil H':=by
 obtain⟨o,ho⟩:=G.fresh
 refine⟨.osl o s 0 rows.length,PH.nil.set o (.rows s rows),.inr ⟨o,rows,rfl,rfl,bLG _,bLZ⟩,fun q x hx _=>?_⟩
 rw[bB] at hx
 split at hx
 ·rename_i e; rw[e]; exact ho
 ·cases hx
end

section
variable {C:Ctx} {F:PF} {H Hs:PH} {tn a a2:Nat} {raw:List Int} {R:Nat→PV→PH→Prop} {st:Bool} {args:List aP} {d:Option Nat} {K:PF→PH→Prop}
end
section
variable {C:Ctx} {F:PF} {H:PH} {B:List BX} {L:List LI} {args:List aP} {d:Option Nat} {K:PF→PH→Prop}
theorem aQ.bpQ (h:aQ H B L) (i:Nat) {o name:Nat} {x y:cD} {r:PV} {vs:List PV} (hi:B[i]?=some (o,x)) (hc:aH C name vs (PH.nil.set o x) (fun r' H'=>r'=r∧H'=PH.nil.set o y)) (ha:aP.evs F args=some vs)
  (hk:∀ H',aQ H' (B.set i (o,y)) L→K (F.put d r) H'):gS C name args [] d K F H:=hC hc (h.at i hi) ha (hk _ (h.set i hi y))
theorem aQ.bDL (h:aQ H B L) {x:cD} {mk:Nat→PV} (hk:∀ o H',aQ H' (B++[(o,x)]) L→K (F.put d (mk o)) H'):mJ (some (mk,x)) d K F H:=aN fun o ho=>hk o _ (h.new ho x)
theorem aQ.buV (h:aQ H B L) {l:List Nat} (Lb:RZ C) (hb:∀ x∈l,x<256) (hl:l.length≤9223372036854775807) (ha:aP.evs F args=some [.sl 1 (jW l)]) (hk:∀ o v H',Tp (l.take 400) v→aQ H' (B++[(o,aW v 0)]) L→K (F.put d (.ptr o 2 0 0)) H'):gS C 28 args [] d K F H:=by
 refine mI (Lb.new l hb hl) ha PH.nil_le ?_
 rintro r H' ⟨o,v,rfl,T,rfl⟩ hap
 rw[PH.mZ]
 exact hk o v _ T (h.new (hap o (aW v 0) (by rw[iV]) rfl) _)
end
theorem bdX {C:Ctx} (Lb:RZ C) (l:List Nat) (v:PV) (T:Tp (l.take 400) v) (o:Nat) :
  BP.wp C (aS adI.res (fun r H'=>Co r (ints (rT l 8 4))∧H'=PH.nil.set o (aW v (mR (l.take 400) (fT l 8 4) (laT l 8 4)).2))) (PF.args [.ptr o 2 0 0]) (PH.nil.set o (aW v 0)):=by
 have hv:=(yH (l.take 400) 8 4 0 (by decide) (by decide)).1
 have hV:=VF.of hv
 have hd:=hV.small.bIS
 have a1:=NK (l.take 400) 8 4 (bLE _)
 have a2:=(sK (l.take 400) (fT l 8 4) a1 (fT l 8 4).bIV.length).1
 have h0:aQ (PH.nil.set o (aW v 0)) [(o,aW v 0)] []:=aQ.nil.new (H:=PH.nil) rfl (aW v 0)
 simp only[go_sem,reduceCtorEq,BP,apQ,adI,apR]
 refine hC (Lb.tfleet _ v T o 8 4 0 (by decide) (by decide) (bLE _)) (h0.at 0 rfl) rfl ?_
 have h1:=h0.set 0 rfl (aW v (faT l 8 4))
 rw[PH.set_set] at h1
 simp only[go_sem,δ]
 refine aN fun q hq=>?_
 have h2:=h1.new hq (.rows 7 [(fT l 8 4).cells])
 simp only[go_sem,δ,γ,reduceCtorEq,apS]
 refine hC (Lb.tlayout _ v T o (faT l 8 4) (fT l 8 4) hV a1) (h2.at 0 rfl) rfl ?_
 have h3:=h2.set 0 rfl (aW v (laT l 8 4))
 have hne:¬ q=o:=h2.ne 1 0 rfl rfl (by decide)
 simp only[go_sem,δ,γ,reduceCtorEq,apT,hne]
 refine hC (Lb.AP _ v T o (laT l 8 4) (fT l 8 4) (by unfold fT; omega) a2) (h3.at 0 rfl) rfl ?_
 have h4:=h3.set 0 rfl (aW v (mR (l.take 400) (fT l 8 4) (laT l 8 4)).2)
 rw[PH.set_set] at h4
 simp only[go_sem,γ]
 exact aV (vs:=[ints (rT l 8 4)]) (.inr rfl) (PH.nil.set o _) rfl (PH.aG PH.nil_le (h4.at 0 rfl)) ⟨.refl _,rfl⟩
structure aBN (C:Ctx):Prop extends RZ C where
 awake:aH C 20 [] .nil (aF (.bool true))
 again:∀ (l:List Nat) (v:PV),Tp (l.take 400) v→∀ o:Nat,aH C 18 [.ptr o 2 0 0] (PH.nil.set o (aW v 0)) (fun r H'=>r=ints (rT l 8 4)∧H'=PH.nil.set o (aW v (mR (l.take 400) (fT l 8 4) (laT l 8 4)).2))
theorem blR (l:List Nat) {d v:Nat} (hd:d≤24) (hv:v≤12):cX (fT l d v)=true∧(fT l d v).Ok:=yH (l.take 400) d v 0 hd hv

theorem xZ.move {f:aD} {L:List (List Int)} (h:xZ f L) {x k d:Nat} (hx:x<L.length) (hd:d<f.bIS.length):xZ f (L.set x (L[x].set k d)):=by
 refine⟨by rw[bNL]; exact h.len,fun v hv=>?_,fun r hr=>?_⟩
 ·rw[bNL] at hv
  have:=h.row v hv
  rw[List.getElem_set]
  split
  ·rename_i e
   subst e
   rw[bNL]; exact this
  ·exact this
 ·rcases List.mem_or_eq_of_mem_set hr with hr | rfl
  ·exact h.home r hr
  ·intro y hy
   rcases List.mem_or_eq_of_mem_set hy with hy | rfl
   ·exact h.home _ (bLF hx) y hy
   ·omega

structure abI (C:Ctx):Prop extends eH C where
 r3:aL C 3 SV
 r6:aL C 6 aAK
 r18:aL C 18 adI
 r82:aL C 82 aAP
theorem brM {C:Ctx} (c:abI C) (hi:rU C):RZ C :=
 {adH c.toeH hi with
  new:=(aIU c.toeH hi).new
  tfleet:=(aIU c.toeH hi).fleet
  tlayout:=fun l v T o a f hV ha=>exactly (c.r3.go (a9C (aeR c.toeH hi) T o a f hV (fun i h=>(c.r82.go (aMO f hV i h) rfl).seen) ha) rfl)
  AP:=fun l v T o a f hd ha=>exactly (c.r6.go (bnW (aeR c.toeH hi) T o a f hd ha) rfl)
  roomM:=fun f room hf=>c.r152.go (aOL (TH c.toeH) f hf room) rfl }
theorem bBL {C:Ctx} (c:abI C) (hi:rU C):aBN C :=
 {brM c hi with
  awake:=bmT c.toeH hi
  again:=fun l v T o=>exactly (c.r18.go (bdX (brM c hi) l v T o) rfl) }
end Go.PM
