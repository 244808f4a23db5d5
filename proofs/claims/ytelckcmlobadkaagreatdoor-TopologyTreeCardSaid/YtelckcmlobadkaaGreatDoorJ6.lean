/-
  The law of the claim returns true at every input, and its argument reads as it did: the tied card. No condition.
-/
import Derived.Test.YtelckcmlobadkaaGreatDoorJ1
import Derived.Test.YtelckcmlobadkaaGreatDoorJ2
import Derived.Test.YtelckcmlobadkaaGreatDoorJ3
import Derived.Test.YtelckcmlobadkaaGreatDoorJ4
import Derived.Test.YtelckcmlobadkaaGreatDoorJ5
import Derived.Test.YtelckcmlobadkaaGreatDoorProg
import Derived.KernelRfl
import Derived.Test.YtelckcmlobadkaaGreatDoorRows
import Derived.ProofKit
import Derived.WalkKit
import Derived.LaidMore
import Derived.OpenShut
import Derived.Stop.Joined
import Derived.Test.YtelckcmlobadkaaGreatDoorTie
import Derived.Test.YtelckcmlobadkaaGreatDoorCards
set_option linter.unusedSimpArgs false
set_option linter.unusedVariables false
open Nat renaming reduceEqDiff → γ, reduceAdd → δ, reduceSub → ε, reduceMul → ζ, reduceLT → η, reduceLeDiff → θ, reduceBEq → τ
open Int renaming reduceLT → ι, reduceLE → κ, reduceEq → μ, reduceToNat → ν, reduceAdd → ξ, reduceNeg → ο, reduceBEq → ρ, reduceBNe → σ
open List renaming reduceReplicate → υ
open List renaming length_map → baF, replicate → baH, length_append → baI, length_singleton → baL, getElem_mem → baN, mem_cons → baP, getElem?_eq_getElem → baQ, take_of_length_le → baS, length_take → baV, range → baW, not_mem_nil → baY, drop_zero → bbG, getD_eq_getElem?_getD → bbI, append_assoc → bbJ, map_cons → bbK, mem_map → bbL, getElem?_eq_none → bbO, take_length → bbP, all_eq_true → bbQ, getElem?_eq_some_iff → bbR, getElem?_map → bbU, getElem_map → bbW, getElem_of_mem → bbX, append_nil → bbY, length_drop → bbZ, map_append → bcA, drop_eq_getElem_cons → bcD, mem_append → bcE, mem_range → bcF, Sublist → bcK, length_nil → bcL, map_nil → bcM, length_cons → bcN, take_succ_eq_append_getElem → bcO, mem_of_getElem? → bcS, take_append_drop → bcT, nodup_append → bcU, ext_getElem → bcZ, getElem?_append_left → bdA, length_set → bdB, getElem?_append_right → bdE, getElem?_take → bdF, set_append_right → bdG, drop_of_length_le → bdL
open Nat renaming gcd → baG, le_refl → baJ, mul_add → baO, zero_le → baR, lt_or_ge → baU, mul_assoc → baX, mul_comm → bbA, add_mul → bbD, mul_le_mul_right → bbE, zero_add → bbF, mod_eq_of_lt → bbH, mod_lt → bbM, pow_succ → bbS, eq_zero_or_pos → bcB, min_eq_left → bcC, add_assoc → bcG, add_zero → bcH, mul_le_mul_left → bcI, le_trans → bcP, pos_of_ne_zero → bcQ, pow_pos → bcR, div_lt_iff_lt_mul → bcV, div_le_self → bdC, div_add_mod → bdH, div_eq_of_lt → bdI
open Option renaming map_eq_some_iff → baK, map_some → bbN, some → bcJ, getD_some → bcX, bind_eq_some_iff → bdJ, bind_some → bdM
open Bool renaming not_true → baM, false_and → baT, not_false → baZ, and_eq_true → bbB, true_and → bbC, and_false → bbV, and_true → bcY
open Array renaming replicate → bbT, length_toList → bcW, getElem?_eq_getElem → bdK, getElem?_eq_some_iff → bdN
open Int renaming toNat_natCast → bdD
namespace Go.Proofs.YtelckcmlobadkaaGreatDoor
open Go Go.PM
def aYP:List Nat:=[11,51,27,12,26,31,14,30,0,0,0,3,7,9,5,8,4,6,17,24,18,23,48,36,0,0,0,20,10,28,152,111,110,66,65,54,155,154,64,85,115,84,114,161,113,112,136,29,162,105,32,101,102,100,77,99,76,153,53,55,137,103,96,151,135,134,104,59,75,80,74,97,79,73,78,98,72,81,40,43,82,42,33,50,45,46,47,49,60,61,62,0,0,0,41,69,56,87,126,88,128,131,92,127,67,86,93,129,94,130,71,68,70,119,91,90,116,89,122,121,120,124,125,95,150,133,132,144,117,123,147,146,118,149,145,148,160,158,143,166,163,159,165,164,0,0,0,15,22,21,16,44,13,25,19,35,57,39,38,58,37,34,83,63,140,108,109,141,138,107,106,0,0,0,0,0,0,0,0,0,0,0,0,0,0,0,0,0,0,0,0,0,0,0,0,52,0,0,0,0,0]
def aVK:List (Option Nat):=[none,none,none,some 11,some 16,some 14,some 17,some 12,some 15,some 13,some 28,some 0,some 3,some 152,some 6,some 147,some 150,some 18,some 20,some 154,some 27,some 149,some 148,some 21,some 19,some 153,some 4,some 2,some 29,some 47,some 7,some 5,some 50,some 82,some 161,some 155,some 23,some 160,some 158,some 157,some 78,some 94,some 81,some 79,some 151,some 84,some 85,some 86,some 22,some 87,some 83,some 1,some 195,some 58,some 35,some 59,some 96,some 156,some 159,some 67,some 88,some 89,some 90,some 163,some 38,some 34,some 33,some 104,some 111,some 95,some 112,some 110,some 76,some 73,some 70,some 68,some 56,some 54,some 74,some 72,some 69,some 77,some 80,some 162,some 41,some 39,some 105,some 97,some 99,some 117,some 115,some 114,some 102,some 106,some 108,some 123,some 62,some 71,some 75,some 55,some 53,some 51,some 52,some 61,some 66,some 49,some 170,some 169,some 165,some 166,some 32,some 31,some 45,some 44,some 42,some 40,some 116,some 128,some 132,some 113,some 120,some 119,some 118,some 129,some 121,some 122,some 98,some 103,some 100,some 107,some 109,some 101,some 126,some 125,some 65,some 64,some 46,some 60,some 168,none,some 164,some 167,none,some 138,some 127,some 134,some 131,some 130,some 135,some 133,some 124,some 63,some 30,some 57,some 37,some 36,none,none,some 137,some 141,some 136,some 43,some 48,some 140,some 143,some 142,some 139]
def num (n:Nat):FuncId:=aYP.getD n 0
def nameOf (f:FuncId):Option Nat:=aVK.getD f none
noncomputable def C:Ctx:=⟨Tryz.prog,num⟩
noncomputable def T (ro:List Nat):Tbl:={ P:=Tryz.prog,num:=num,name:=nameOf,ro:=ro }
theorem c0:(T aJY).func Tryz.f11=some PM.FY:=by kernel_rfl
theorem q0:aQ C 0 PM.FY:=fun _ _ _ hl h=>aN rfl rfl Tryz.func11 (by kernel_rfl) c0 hl h
theorem c1:(T aQB).func Tryz.f51=some PM.TM:=by kernel_rfl
theorem q1:aQ C 1 PM.TM:=fun _ _ _ hl h=>aN rfl rfl Tryz.func51 (by kernel_rfl) c1 hl h
theorem c2:(T aVD).func Tryz.f27=some PM.aoP:=by kernel_rfl
theorem q2:aQ C 2 PM.aoP:=fun _ _ _ hl h=>aN rfl rfl Tryz.func27 (by kernel_rfl) c2 hl h
theorem c4:(T aQH).func Tryz.f26=some PM.KH:=by kernel_rfl
theorem q4:aQ C 4 PM.KH:=fun _ _ _ hl h=>aN rfl rfl Tryz.func26 (by kernel_rfl) c4 hl h
theorem c5:(T aVH).func Tryz.f31=some PM.apB:=by kernel_rfl
theorem q5:aQ C 5 PM.apB:=fun _ _ _ hl h=>aN rfl rfl Tryz.func31 (by kernel_rfl) c5 hl h
theorem c7:(T aQC).func Tryz.f30=some PM.KF:=by kernel_rfl
theorem q7:aQ C 7 PM.KF:=fun _ _ _ hl h=>aN rfl rfl Tryz.func30 (by kernel_rfl) c7 hl h
theorem c20:(T aJH).func Tryz.f18=some PM.FG:=by kernel_rfl
theorem q20:aQ C 20 PM.FG:=fun _ _ _ hl h=>aN rfl rfl Tryz.func18 (by kernel_rfl) c20 hl h
theorem c23:(T aJP).func Tryz.f36=some PM.FI:=by kernel_rfl
theorem q23:aQ C 23 PM.FI:=fun _ _ _ hl h=>aN rfl rfl Tryz.func36 (by kernel_rfl) c23 hl h
theorem c27:(T aJV).func Tryz.f20=some PM.FW:=by kernel_rfl
theorem q27:aQ C 27 PM.FW:=fun _ _ _ hl h=>aN rfl rfl Tryz.func20 (by kernel_rfl) c27 hl h
theorem c28:(T aVF).func Tryz.f10=some PM.aoY:=by kernel_rfl
theorem q28:aQ C 28 PM.aoY:=fun _ _ _ hl h=>aN rfl rfl Tryz.func10 (by kernel_rfl) c28 hl h
theorem c29:(T aQF).func Tryz.f28=some PM.TN:=by kernel_rfl
theorem q29:aQ C 29 PM.TN:=fun _ _ _ hl h=>aN rfl rfl Tryz.func28 (by kernel_rfl) c29 hl h
theorem c30:(T aWN).func Tryz.f152=some PM.aRR:=by kernel_rfl
theorem q30:aQ C 30 PM.aRR:=fun _ _ _ hl h=>aN rfl rfl Tryz.func152 (by kernel_rfl) c30 hl h
theorem c31:(T aRT).func Tryz.f111=some PM.VQ:=by kernel_rfl
theorem q31:aQ C 31 PM.VQ:=fun _ _ _ hl h=>aN rfl rfl Tryz.func111 (by kernel_rfl) c31 hl h
theorem c32:(T aWP).func Tryz.f110=some PM.auC:=by kernel_rfl
theorem q32:aQ C 32 PM.auC:=fun _ _ _ hl h=>aN rfl rfl Tryz.func110 (by kernel_rfl) c32 hl h
theorem c33:(T aWR).func Tryz.f66=some PM.udiv:=by kernel_rfl
theorem q33:aQ C 33 PM.udiv:=fun _ _ _ hl h=>aN rfl rfl Tryz.func66 (by kernel_rfl) c33 hl h
theorem c34:(T aWT).func Tryz.f65=some PM.auR:=by kernel_rfl
theorem q34:aQ C 34 PM.auR:=fun _ _ _ hl h=>aN rfl rfl Tryz.func65 (by kernel_rfl) c34 hl h
theorem c35:(T aRZ).func Tryz.f54=some PM.VZ:=by kernel_rfl
theorem q35:aQ C 35 PM.VZ:=fun _ _ _ hl h=>aN rfl rfl Tryz.func54 (by kernel_rfl) c35 hl h
theorem c36:(T aXB).func Tryz.f155=some PM.aSA:=by kernel_rfl
theorem q36:aQ C 36 PM.aSA:=fun _ _ _ hl h=>aN rfl rfl Tryz.func155 (by kernel_rfl) c36 hl h
theorem c37:(T aXK).func Tryz.f154=some PM.aSI:=by kernel_rfl
theorem q37:aQ C 37 PM.aSI:=fun _ _ _ hl h=>aN rfl rfl Tryz.func154 (by kernel_rfl) c37 hl h
theorem c38:(T aSK).func Tryz.f64=some PM.WI:=by kernel_rfl
theorem q38:aQ C 38 PM.WI:=fun _ _ _ hl h=>aN rfl rfl Tryz.func64 (by kernel_rfl) c38 hl h
theorem c39:(T aHO).func Tryz.f85=some PM.yY:=by kernel_rfl
theorem q39:aQ C 39 PM.yY:=fun _ _ _ hl h=>aN rfl rfl Tryz.func85 (by kernel_rfl) c39 hl h
theorem c40:(T aRX).func Tryz.f115=some PM.VY:=by kernel_rfl
theorem q40:aQ C 40 PM.VY:=fun _ _ _ hl h=>aN rfl rfl Tryz.func115 (by kernel_rfl) c40 hl h
theorem c41:(T aNC).func Tryz.f84=some PM.IW:=by kernel_rfl
theorem q41:aQ C 41 PM.IW:=fun _ _ _ hl h=>aN rfl rfl Tryz.func84 (by kernel_rfl) c41 hl h
theorem c42:(T aNE).func Tryz.f114=some PM.IX:=by kernel_rfl
theorem q42:aQ C 42 PM.IX:=fun _ _ _ hl h=>aN rfl rfl Tryz.func114 (by kernel_rfl) c42 hl h
theorem c43:(T aSG).func Tryz.f161=some PM.WD:=by kernel_rfl
theorem q43:aQ C 43 PM.WD:=fun _ _ _ hl h=>aN rfl rfl Tryz.func161 (by kernel_rfl) c43 hl h
theorem c44:(T aNI).func Tryz.f113=some PM.JE:=by kernel_rfl
theorem q44:aQ C 44 PM.JE:=fun _ _ _ hl h=>aN rfl rfl Tryz.func113 (by kernel_rfl) c44 hl h
theorem c45:(T aZG).func Tryz.f112=some PM.uup:=by kernel_rfl
theorem q45:aQ C 45 PM.uup:=fun _ _ _ hl h=>aN rfl rfl Tryz.func112 (by kernel_rfl) c45 hl h
theorem c47:(T aXM).func Tryz.f29=some PM.avG:=by kernel_rfl
theorem q47:aQ C 47 PM.avG:=fun _ _ _ hl h=>aN rfl rfl Tryz.func29 (by kernel_rfl) c47 hl h
theorem c50:(T aSO).func Tryz.f32=some PM.KO:=by kernel_rfl
theorem q50:aQ C 50 PM.KO:=fun _ _ _ hl h=>aN rfl rfl Tryz.func32 (by kernel_rfl) c50 hl h
theorem c58:(T aHX).func Tryz.f53=some PM.zA:=by kernel_rfl
theorem q58:aQ C 58 PM.zA:=fun _ _ _ hl h=>aN rfl rfl Tryz.func53 (by kernel_rfl) c58 hl h
theorem c59:(T aSQ).func Tryz.f55=some PM.WR:=by kernel_rfl
theorem q59:aQ C 59 PM.WR:=fun _ _ _ hl h=>aN rfl rfl Tryz.func55 (by kernel_rfl) c59 hl h
theorem c95:(T aUA).func Tryz.f69=some PM.alC:=by kernel_rfl
theorem q95:aQ C 95 PM.alC:=fun _ _ _ hl h=>aN rfl rfl Tryz.func69 (by kernel_rfl) c95 hl h
theorem c96:(T aUL).func Tryz.f56=some PM.amB:=by kernel_rfl
theorem q96:aQ C 96 PM.amB:=fun _ _ _ hl h=>aN rfl rfl Tryz.func56 (by kernel_rfl) c96 hl h
theorem c97:(T aIZ).func Tryz.f87=some PM.ES:=by kernel_rfl
theorem q97:aQ C 97 PM.ES:=fun _ _ _ hl h=>aN rfl rfl Tryz.func87 (by kernel_rfl) c97 hl h
theorem c98:(T aOU).func Tryz.f126=some PM.RY:=by kernel_rfl
theorem q98:aQ C 98 PM.RY:=fun _ _ _ hl h=>aN rfl rfl Tryz.func126 (by kernel_rfl) c98 hl h
theorem c99:(T aOW).func Tryz.f88=some PM.RZ:=by kernel_rfl
theorem q99:aQ C 99 PM.RZ:=fun _ _ _ hl h=>aN rfl rfl Tryz.func88 (by kernel_rfl) c99 hl h
theorem a3K:(T aOY).func Tryz.f128=some PM.SA:=by kernel_rfl
theorem a6K:aQ C 100 PM.SA:=fun _ _ _ hl h=>aN rfl rfl Tryz.func128 (by kernel_rfl) a3K hl h
theorem a3L:(T aUG).func Tryz.f131=some PM.gone:=by kernel_rfl
theorem a6L:aQ C 101 PM.gone:=fun _ _ _ hl h=>aN rfl rfl Tryz.func131 (by kernel_rfl) a3L hl h
theorem a3M:(T aPB).func Tryz.f92=some PM.SB:=by kernel_rfl
theorem a6M:aQ C 102 PM.SB:=fun _ _ _ hl h=>aN rfl rfl Tryz.func92 (by kernel_rfl) a3M hl h
theorem a3N:(T aJB).func Tryz.f127=some PM.ET:=by kernel_rfl
theorem a6N:aQ C 103 PM.ET:=fun _ _ _ hl h=>aN rfl rfl Tryz.func127 (by kernel_rfl) a3N hl h
theorem a3O:(T aYF).func Tryz.f67=some PM.gin:=by kernel_rfl
theorem a6O:aQ C 104 PM.gin:=fun _ _ _ hl h=>aN rfl rfl Tryz.func67 (by kernel_rfl) a3O hl h
theorem a3P:(T aUC).func Tryz.f86=some PM.alE:=by kernel_rfl
theorem a6P:aQ C 105 PM.alE:=fun _ _ _ hl h=>aN rfl rfl Tryz.func86 (by kernel_rfl) a3P hl h
theorem a3Q:(T aUE).func Tryz.f93=some PM.alF:=by kernel_rfl
theorem a6Q:aQ C 106 PM.alF:=fun _ _ _ hl h=>aN rfl rfl Tryz.func93 (by kernel_rfl) a3Q hl h
theorem a3R:(T aPD).func Tryz.f129=some PM.SE:=by kernel_rfl
theorem a6R:aQ C 107 PM.SE:=fun _ _ _ hl h=>aN rfl rfl Tryz.func129 (by kernel_rfl) a3R hl h
theorem a3S:(T aPF).func Tryz.f94=some PM.SF:=by kernel_rfl
theorem a6S:aQ C 108 PM.SF:=fun _ _ _ hl h=>aN rfl rfl Tryz.func94 (by kernel_rfl) a3S hl h
theorem a3T:(T aJE).func Tryz.f130=some PM.FB:=by kernel_rfl
theorem a6T:aQ C 109 PM.FB:=fun _ _ _ hl h=>aN rfl rfl Tryz.func130 (by kernel_rfl) a3T hl h
theorem a3U:(T aPI).func Tryz.f71=some PM.SG:=by kernel_rfl
theorem a6U:aQ C 110 PM.SG:=fun _ _ _ hl h=>aN rfl rfl Tryz.func71 (by kernel_rfl) a3U hl h
theorem a3V:(T aTY).func Tryz.f68=some PM.XD:=by kernel_rfl
theorem a6V:aQ C 111 PM.XD:=fun _ _ _ hl h=>aN rfl rfl Tryz.func68 (by kernel_rfl) a3V hl h
theorem a3W:(T aUI).func Tryz.f70=some PM.alI:=by kernel_rfl
theorem a6W:aQ C 112 PM.alI:=fun _ _ _ hl h=>aN rfl rfl Tryz.func70 (by kernel_rfl) a3W hl h
theorem a3X:(T aTO).func Tryz.f119=some PM.EH:=by kernel_rfl
theorem a6X:aQ C 113 PM.EH:=fun _ _ _ hl h=>aN rfl rfl Tryz.func119 (by kernel_rfl) a3X hl h
theorem a3Y:(T aTQ).func Tryz.f91=some PM.ajG:=by kernel_rfl
theorem a6Y:aQ C 114 PM.ajG:=fun _ _ _ hl h=>aN rfl rfl Tryz.func91 (by kernel_rfl) a3Y hl h
theorem a3Z:(T aOQ).func Tryz.f90=some PM.JQ:=by kernel_rfl
theorem a6Z:aQ C 115 PM.JQ:=fun _ _ _ hl h=>aN rfl rfl Tryz.func90 (by kernel_rfl) a3Z hl h
theorem a4A:(T aFC).func Tryz.f116=some PM.sX:=by kernel_rfl
theorem a7A:aQ C 116 PM.sX:=fun _ _ _ hl h=>aN rfl rfl Tryz.func116 (by kernel_rfl) a4A hl h
theorem a4B:(T aTW).func Tryz.f89=some PM.NR:=by kernel_rfl
theorem a7B:aQ C 117 PM.NR:=fun _ _ _ hl h=>aN rfl rfl Tryz.func89 (by kernel_rfl) a4B hl h
theorem a4C:(T aIX).func Tryz.f122=some PM.ER:=by kernel_rfl
theorem a7C:aQ C 118 PM.ER:=fun _ _ _ hl h=>aN rfl rfl Tryz.func122 (by kernel_rfl) a4C hl h
theorem a4D:(T aTM).func Tryz.f121=some PM.ajD:=by kernel_rfl
theorem a7D:aQ C 119 PM.ajD:=fun _ _ _ hl h=>aN rfl rfl Tryz.func121 (by kernel_rfl) a4D hl h
theorem a4E:(T aEY).func Tryz.f120=some PM.mH:=by kernel_rfl
theorem a7E:aQ C 120 PM.mH:=fun _ _ _ hl h=>aN rfl rfl Tryz.func120 (by kernel_rfl) a4E hl h
theorem a4F:(T aIV).func Tryz.f124=some PM.EQ:=by kernel_rfl
theorem a7F:aQ C 121 PM.EQ:=fun _ _ _ hl h=>aN rfl rfl Tryz.func124 (by kernel_rfl) a4F hl h
theorem a4G:(T aOS).func Tryz.f125=some PM.RX:=by kernel_rfl
theorem a7G:aQ C 122 PM.RX:=fun _ _ _ hl h=>aN rfl rfl Tryz.func125 (by kernel_rfl) a4G hl h
theorem a4H:(T aPS).func Tryz.f95=some PM.KC:=by kernel_rfl
theorem a7H:aQ C 123 PM.KC:=fun _ _ _ hl h=>aN rfl rfl Tryz.func95 (by kernel_rfl) a4H hl h
theorem a4I:(T aJJ).func Tryz.f150=some PM.yM:=by kernel_rfl
theorem a7I:aQ C 124 PM.yM:=fun _ _ _ hl h=>aN rfl rfl Tryz.func150 (by kernel_rfl) a4I hl h
theorem a4J:(T aJN).func Tryz.f133=some PM.yN:=by kernel_rfl
theorem a7J:aQ C 125 PM.yN:=fun _ _ _ hl h=>aN rfl rfl Tryz.func133 (by kernel_rfl) a4J hl h
theorem a4K:(T aFV).func Tryz.f132=some PM.tC:=by kernel_rfl
theorem a7K:aQ C 126 PM.tC:=fun _ _ _ hl h=>aN rfl rfl Tryz.func132 (by kernel_rfl) a4K hl h
theorem a4L:(T aVJ).func Tryz.f144=some PM.apD:=by kernel_rfl
theorem a7L:aQ C 127 PM.apD:=fun _ _ _ hl h=>aN rfl rfl Tryz.func144 (by kernel_rfl) a4L hl h
theorem a4M:(T aQK).func Tryz.f117=some PM.TP:=by kernel_rfl
theorem a7M:aQ C 128 PM.TP:=fun _ _ _ hl h=>aN rfl rfl Tryz.func117 (by kernel_rfl) a4M hl h
theorem a4N:(T aVM).func Tryz.f123=some PM.apT:=by kernel_rfl
theorem a7N:aQ C 129 PM.apT:=fun _ _ _ hl h=>aN rfl rfl Tryz.func123 (by kernel_rfl) a4N hl h
theorem a4O:(T aVO).func Tryz.f147=some PM.apZ:=by kernel_rfl
theorem a7O:aQ C 130 PM.apZ:=fun _ _ _ hl h=>aN rfl rfl Tryz.func147 (by kernel_rfl) a4O hl h
theorem a4P:(T aVQ).func Tryz.f146=some PM.aqD:=by kernel_rfl
theorem a7P:aQ C 131 PM.aqD:=fun _ _ _ hl h=>aN rfl rfl Tryz.func146 (by kernel_rfl) a4P hl h
theorem a4Q:(T aQM).func Tryz.f118=some PM.UA:=by kernel_rfl
theorem a7Q:aQ C 132 PM.UA:=fun _ _ _ hl h=>aN rfl rfl Tryz.func118 (by kernel_rfl) a4Q hl h
theorem a4R:(T aVS).func Tryz.f149=some PM.aqH:=by kernel_rfl
theorem a7R:aQ C 133 PM.aqH:=fun _ _ _ hl h=>aN rfl rfl Tryz.func149 (by kernel_rfl) a4R hl h
theorem a4S:(T aVU).func Tryz.f145=some PM.aqQ:=by kernel_rfl
theorem a7S:aQ C 134 PM.aqQ:=fun _ _ _ hl h=>aN rfl rfl Tryz.func145 (by kernel_rfl) a4S hl h
theorem a4T:(T aQP).func Tryz.f148=some PM.UD:=by kernel_rfl
theorem a7T:aQ C 135 PM.UD:=fun _ _ _ hl h=>aN rfl rfl Tryz.func148 (by kernel_rfl) a4T hl h
theorem a4U:(T aGH).func Tryz.f160=some PM.yO:=by kernel_rfl
theorem a7U:aQ C 136 PM.yO:=fun _ _ _ hl h=>aN rfl rfl Tryz.func160 (by kernel_rfl) a4U hl h
theorem a4V:(T aKK).func Tryz.f158=some PM.GL:=by kernel_rfl
theorem a7V:aQ C 137 PM.GL:=fun _ _ _ hl h=>aN rfl rfl Tryz.func158 (by kernel_rfl) a4V hl h
theorem a4W:(T aGM).func Tryz.f143=some PM.qB:=by kernel_rfl
theorem a7W:aQ C 138 PM.qB:=fun _ _ _ hl h=>aN rfl rfl Tryz.func143 (by kernel_rfl) a4W hl h
theorem a4X:(T awJ).func Tryz.f166=some PM.tV:=by kernel_rfl
theorem a7X:aQ C 139 PM.tV:=fun _ _ _ hl h=>aN rfl rfl Tryz.func166 (by kernel_rfl) a4X hl h
theorem a4Y:(T aKN).func Tryz.f163=some PM.GP:=by kernel_rfl
theorem aQU:aQ C 140 PM.GP:=fun _ _ _ hl h=>aN rfl rfl Tryz.func163 (by kernel_rfl) a4Y hl h
theorem a4Z:(T aKP).func Tryz.f159=some PM.GQ:=by kernel_rfl
theorem aQV:aQ C 141 PM.GQ:=fun _ _ _ hl h=>aN rfl rfl Tryz.func159 (by kernel_rfl) a4Z hl h
theorem a5A:(T aqX).func Tryz.f165=some PM.rK:=by kernel_rfl
theorem YP:aQ C 142 PM.rK:=fun _ _ _ hl h=>aN rfl rfl Tryz.func165 (by kernel_rfl) a5A hl h
theorem a5B:(T aYR).func Tryz.f164=some PM.nup:=by kernel_rfl
theorem a7Y:aQ C 143 PM.nup:=fun _ _ _ hl h=>aN rfl rfl Tryz.func164 (by kernel_rfl) a5B hl h
theorem a5C:(T aZD).func Tryz.f15=some PM.tat:=by kernel_rfl
theorem a7Z:aQ C 147 PM.tat:=fun _ _ _ hl h=>aN rfl rfl Tryz.func15 (by kernel_rfl) a5C hl h
theorem a5D:(T aMF).func Tryz.f22=some PM.HV:=by kernel_rfl
theorem a8A:aQ C 148 PM.HV:=fun _ _ _ hl h=>aN rfl rfl Tryz.func22 (by kernel_rfl) a5D hl h
theorem a5E:(T aHK).func Tryz.f21=some PM.yX:=by kernel_rfl
theorem a8B:aQ C 149 PM.yX:=fun _ _ _ hl h=>aN rfl rfl Tryz.func21 (by kernel_rfl) a5E hl h
theorem a5F:(T aMI).func Tryz.f16=some PM.HZ:=by kernel_rfl
theorem a8C:aQ C 150 PM.HZ:=fun _ _ _ hl h=>aN rfl rfl Tryz.func16 (by kernel_rfl) a5F hl h
theorem a5G:(T aLY).func Tryz.f44=some PM.HT:=by kernel_rfl
theorem a8D:aQ C 151 PM.HT:=fun _ _ _ hl h=>aN rfl rfl Tryz.func44 (by kernel_rfl) a5G hl h
theorem a5H:(T aRL).func Tryz.f13=some PM.VN:=by kernel_rfl
theorem a8E:aQ C 152 PM.VN:=fun _ _ _ hl h=>aN rfl rfl Tryz.func13 (by kernel_rfl) a5H hl h
theorem a5I:(T aHI).func Tryz.f25=some PM.yV:=by kernel_rfl
theorem a8F:aQ C 153 PM.yV:=fun _ _ _ hl h=>aN rfl rfl Tryz.func25 (by kernel_rfl) a5I hl h
theorem a5J:(T aRO).func Tryz.f19=some PM.VP:=by kernel_rfl
theorem a8G:aQ C 154 PM.VP:=fun _ _ _ hl h=>aN rfl rfl Tryz.func19 (by kernel_rfl) a5J hl h
theorem a5K:(T aMA).func Tryz.f35=some PM.HU:=by kernel_rfl
theorem a8H:aQ C 155 PM.HU:=fun _ _ _ hl h=>aN rfl rfl Tryz.func35 (by kernel_rfl) a5K hl h
theorem a5L:(T aRH).func Tryz.f57=some PM.VH:=by kernel_rfl
theorem a8I:aQ C 156 PM.VH:=fun _ _ _ hl h=>aN rfl rfl Tryz.func57 (by kernel_rfl) a5L hl h
theorem a5M:(T aMK).func Tryz.f39=some PM.IA:=by kernel_rfl
theorem a8J:aQ C 157 PM.IA:=fun _ _ _ hl h=>aN rfl rfl Tryz.func39 (by kernel_rfl) a5M hl h
theorem a5N:(T aRQ).func Tryz.f38=some PM.ahT:=by kernel_rfl
theorem a8K:aQ C 158 PM.ahT:=fun _ _ _ hl h=>aN rfl rfl Tryz.func38 (by kernel_rfl) a5N hl h
theorem a5O:(T aMX).func Tryz.f58=some PM.II:=by kernel_rfl
theorem a8L:aQ C 159 PM.II:=fun _ _ _ hl h=>aN rfl rfl Tryz.func58 (by kernel_rfl) a5O hl h
theorem a5P:(T aMT).func Tryz.f37=some PM.uF:=by kernel_rfl
theorem a8M:aQ C 160 PM.uF:=fun _ _ _ hl h=>aN rfl rfl Tryz.func37 (by kernel_rfl) a5P hl h
theorem a5Q:(T aMV).func Tryz.f34=some PM.ID:=by kernel_rfl
theorem a8N:aQ C 161 PM.ID:=fun _ _ _ hl h=>aN rfl rfl Tryz.func34 (by kernel_rfl) a5Q hl h
theorem c17:(T aPV).func Tryz.f6=some PM.SN:=by kernel_rfl
theorem q17:aQ C 17 PM.SN:=fun _ _ _ hl h=>aN rfl rfl Tryz.func6 (by kernel_rfl) c17 hl h
theorem a0V:dM C:={
 r0:=q0,
 r1:=q1,
 r2:=q2,
 r4:=q4,
 r5:=q5,
 r7:=q7,
 r20:=q20,
 r23:=q23,
 r27:=q27,
 r28:=q28,
 r29:=q29,
 r30:=q30,
 r31:=q31,
 r32:=q32,
 r33:=q33,
 r34:=q34,
 r35:=q35,
 r36:=q36,
 r37:=q37,
 r38:=q38,
 r39:=q39,
 r40:=q40,
 r41:=q41,
 r42:=q42,
 r43:=q43,
 r44:=q44,
 r45:=q45,
 r47:=q47,
 r50:=q50,
 r58:=q58,
 r59:=q59,
 r95:=q95,
 r96:=q96,
 r97:=q97,
 r98:=q98,
 r99:=q99,
 r100:=a6K,
 r101:=a6L,
 r102:=a6M,
 r103:=a6N,
 r104:=a6O,
 r105:=a6P,
 r106:=a6Q,
 r107:=a6R,
 r108:=a6S,
 r109:=a6T,
 r110:=a6U,
 r111:=a6V,
 r112:=a6W,
 r113:=a6X,
 r114:=a6Y,
 r115:=a6Z,
 r116:=a7A,
 r117:=a7B,
 r118:=a7C,
 r119:=a7D,
 r120:=a7E,
 r121:=a7F,
 r122:=a7G,
 r123:=a7H,
 r124:=a7I,
 r125:=a7J,
 r126:=a7K,
 r127:=a7L,
 r128:=a7M,
 r129:=a7N,
 r130:=a7O,
 r131:=a7P,
 r132:=a7Q,
 r133:=a7R,
 r134:=a7S,
 r135:=a7T,
 r136:=a7U,
 r137:=a7V,
 r138:=a7W,
 r139:=a7X,
 r140:=aQU,
 r141:=aQV,
 r142:=YP,
 r143:=a7Y,
 r147:=a7Z,
 r148:=a8A,
 r149:=a8B,
 r150:=a8C,
 r151:=a8D,
 r152:=a8E,
 r153:=a8F,
 r154:=a8G,
 r155:=a8H,
 r156:=a8I,
 r157:=a8J,
 r158:=a8K,
 r159:=a8L,
 r160:=a8M,
 r161:=a8N }
end Go.Proofs.YtelckcmlobadkaaGreatDoor
namespace Go.Proofs.YtelckcmlobadkaaGreatDoor
open Go Go.PM Go.RowKit Go.ChangeShapes Go.WideShapes
theorem Tryz.own:ownKnob Tryz.prog.godebug=none:=by kernel_rfl
theorem Tryz.laidOut:laidOutB Tryz.prog=true:=by kernel_rfl
theorem itoa:vW C:=fun n hn=>by
 refine⟨⟨Tryz.f52,Tryz.func52,by kernel_rfl,by kernel_rfl⟩,fun E w vs hN hW hvs=>?_⟩
 obtain⟨vl⟩:=vs
 cases hvs with
 | cons e1 e2 =>
 cases e2
 cases e1
 refine (Any.strconv_Itoa_small Tryz.aUY n hn w).mono fun e w' he=>?_
 obtain⟨rfl,rfl⟩:=he
 exact⟨_,.str (bM n),E,.nil,rfl,hW,.str ⟨(Lib.decDigits n).toArray⟩,.refl _ _ _,rfl,rfl⟩
theorem aOJ (os:Os) (args:Array Value):laidMetH Tryz.prog Rows.topologyTreeRow.laid ((World.doorLaid Tryz.prog 400 os).forCall (fun _ _=>0) ⟨#[],args,[]⟩).memory :=
 laidMetH_of_parts3 (fuel:=8) (laidMet_of_run' 8 (by kernel_rfl) (by kernel_rfl)) (by kernel_rfl) (by kernel_rfl)
theorem aIE {pv:PV} (h:PV.Ty (.sl [.int .u8]) pv):∃ l:List Nat,pv=.sl 1 (hQ l)∧(∀ x∈l,x<256)∧l.length≤9223372036854775807:=by
 obtain⟨xs,rfl,hl,hx⟩:=Ty.aPM h
 refine⟨xs.map Int.toNat,?_,?_,?_⟩
 ·unfold aFR hQ
  rw[List.map_map]
  congr 1
  refine List.map_congr_left fun x hm=>?_
  have:=(hx x hm).1
  simp only[Function.comp]
  rw[Int.toNat_of_nonneg this]
 ·intro y hy
  obtain⟨x,hm,rfl⟩:=bbL.1 hy
  have:=(hx x hm).2
  have h0:=(hx x hm).1
  have hm:IntKind.u8.max=255:=by decide
  rw[hm] at this
  omega
 ·rw[baF]
  have:maxLen≤9223372036854775807:=by decide
  omega
end Go.Proofs.YtelckcmlobadkaaGreatDoor
namespace Go.Proofs.YtelckcmlobadkaaGreatDoor
open Go Go.PM Go.RowKit Go.ChangeShapes Go.WideShapes
def argKinds:List AT:=[.one (.sl [.int .u8])]
theorem aSZ:yD Tryz.prog 8 Tryz.f6.params.toList=some argKinds:=by kernel_rfl
theorem aUX (pvs:List PV) (h:AT.TyL argKinds pvs):aJ C 17 pvs .nil (aK (.bool true)):=by
 match pvs,h with
 | [a],h =>
  obtain⟨h1,-⟩:=h
  cases h1 with | one h1 =>
  obtain⟨l,rfl,hb,hl⟩:=aIE h1
  exact aUU a0V itoa q17 l hb hl
set_option maxRecDepth 100000 in
theorem awT (os:Os) (started:os.Started) (H:Type) (enc:TypeId × Value→H) :
  ReturnsInHanded {} Tryz.checked os 6 .any (fun w args=>(Rows.topologyTreeSpec.pre enc Tryz.prog Tryz.f6 [] false w args∧laidMetH Tryz.prog Rows.topologyTreeRow.laid w)∧sizedMet enc Tryz.prog Tryz.f6 (OpenSpec.ofChange Rows.topologyTreeSpec) false w args)
   (Rows.topologyTreeSpec.post enc Tryz.prog Tryz.f6 false true false false):=by
 refine returnsInHanded_of_change_and (C:=Tryz.checked) (X:=fun w _=>laidMetH Tryz.prog Rows.topologyTreeRow.laid w) (fun _ _ _ hh h=>h.of_heap hh) Tryz.own started (by kernel_rfl) Tryz.func6
  (ChangeSpec.witness_shaped (enc:=enc) (C:=Tryz.checked) (os:=os) (X:=fun w _=>laidMetH Tryz.prog Rows.topologyTreeRow.laid w) false (World.doorLaid Tryz.prog 400 os) #[.slice none 0 0] 8 rfl (World.shaped_of_RefB (by kernel_rfl) (by kernel_rfl)) (by kernel_rfl) (by kernel_rfl) (by kernel_rfl) (aOJ os _)) ?_
 intro W base args ds gs before hval hW _ _ _ _
 exact aiT (P:=Tryz.prog) (num:=num) (name:=17) (n:=8) (ats:=argKinds) (bt:=4) Tryz.laidOut (by kernel_rfl) (by kernel_rfl) (by kernel_rfl) rfl
  (fun ds hd=>by
   match ds,hd with
   | [d1],_=>exact⟨rfl,rfl,rfl⟩)
  (by kernel_rfl) aSZ aUX hval hW
theorem KP:Rows.TopologyTreeSaid :=
 OpenClaim.holds_of_wide 6 Tryz.f6 rfl rfl rfl rfl rfl rfl rfl ⟨rfl,rfl,rfl,rfl,rfl⟩ rfl rfl rfl rfl rfl (by kernel_rfl) Tryz.func6 (by kernel_rfl)
  (of_decide_eq_true (by kernel_rfl)) (by unfold Func.isWrapper; first | (rw[if_pos (by decide +kernel)]; kernel_rfl) | (rw[if_neg (by decide +kernel)]; exact⟨rfl,rfl⟩))
  (fun os started H enc _=>awT os started H enc)
theorem topologyTree_card:Rows.TopologyTreeCardSaid :=
 Claim7.holds_tied_plain_at .later [] [.data,.data,.data] true (true,"0274820c616a522d60ae96bb3bb76ba88db858f1cec11c98534319f0edbce220") false
  KP (fun _ h=>by cases h) (by kernel_rfl) (fun _ h=>by cases h) topologyTree_row_tie rfl ⟨rfl,rfl⟩ (by kernel_rfl) rfl
  (fun f fn hf hfn=>by
   obtain rfl:f=6:=bcJ.inj ((show Tryz.prog.funcNamed Rows.topologyTreeRow.func=some 6 by kernel_rfl).symm.trans hf) |>.symm
   obtain rfl:fn=Tryz.f6:=(bcJ.inj (Tryz.func6.symm.trans hfn)).symm
   exact⟨by kernel_rfl,fun j t ht=>by
    have hm:t∈Tryz.f6.params.toList:=by
     rw[Array.mem_toList_iff]
     exact Array.mem_of_getElem? ht
    have hall:(Tryz.f6.params.toList.all fun u=>!Tryz.prog.wantsStandIn u)=true:=by kernel_rfl
    exact (show Tryz.prog.wantsStandIn t=false by simpa using bbQ.1 hall t hm)⟩)
  (by kernel_rfl)
#print axioms topologyTree_card
end Go.Proofs.YtelckcmlobadkaaGreatDoor
