/-
  Texts of ours, joined: ZdCodes ZdBase MkW17 MkW18 L11W5 Pm37 L11W6 L11P2 L11W7 L11W8 L11W9 L11W10 L11W11 L11W12 L11W13 Jn4. No condition.
-/
import Derived.Test.YtelckcmlobadkaaGreatDoorR1
import Derived.Test.YtelckcmlobadkaaGreatDoorR2
import Derived.Test.YtelckcmlobadkaaGreatDoorR3
import Derived.Test.YtelckcmlobadkaaGreatDoorR4
import Derived.Test.YtelckcmlobadkaaGreatDoorR5
import Derived.Test.YtelckcmlobadkaaGreatDoorProg
import Derived.KernelRfl
import Derived.Test.YtelckcmlobadkaaGreatDoorRows
import Derived.ProofKit
import Derived.WalkKit
import Derived.LaidMore
import Derived.OpenShut
import Derived.Stop.Joined
set_option linter.unusedSimpArgs false
set_option linter.unusedVariables false
open Nat renaming reduceEqDiff → γ, reduceAdd → δ, reduceSub → ε, reduceMul → ζ, reduceLT → η, reduceLeDiff → θ, reduceBEq → τ
open Int renaming reduceLT → ι, reduceLE → κ, reduceEq → μ, reduceToNat → ν, reduceAdd → ξ, reduceNeg → ο, reduceBEq → ρ, reduceBNe → σ
open List renaming reduceReplicate → υ
open List renaming length_map → bgR, replicate → bgT, length_append → bgU, length_singleton → bgX, getElem_mem → bgY, mem_cons → bhB, getElem?_eq_getElem → bhD, take_of_length_le → bhF, length_take → bhH, not_mem_nil → bhJ, range → bhL, getD_eq_getElem?_getD → bhN, drop_zero → bhT, append_assoc → bhV, mem_map → bhW, map_cons → bhY, getElem?_eq_none → biA, take_length → biB, all_eq_true → biC, getElem?_eq_some_iff → biD, getElem?_map → biG, getElem_of_mem → biH, getElem_map → biJ, mem_append → biK, append_nil → biL, length_drop → biM, map_append → biN, drop_eq_getElem_cons → biP, map_nil → biQ, Sublist → biV, length_nil → biX, mem_range → biY, length_set → bjB, mem_of_getElem? → bjC, take_append_drop → bjD, length_cons → bjE, nodup_append → bjF, take_succ_eq_append_getElem → bjG, ext_getElem → bjM, getElem?_append_left → bjN, getElem?_append_right → bjP, getElem?_take → bjQ, set_append_right → bjR, drop_of_length_le → bjX
open Nat renaming gcd → bgS, le_refl → bgV, mul_add → bhA, zero_le → bhC, lt_or_ge → bhG, mul_assoc → bhI, mul_comm → bhM, add_mul → bhQ, mul_le_mul_right → bhR, zero_add → bhS, mod_eq_of_lt → bhU, mod_lt → bhX, pow_succ → biE, min_eq_left → biO, add_assoc → biR, add_zero → biS, mul_le_mul_left → biT, eq_zero_or_pos → biW, pos_of_ne_zero → biZ, pow_pos → bjA, div_lt_iff_lt_mul → bjH, le_trans → bjI, div_le_self → bjO, div_add_mod → bjS, div_eq_of_lt → bjT
open Option renaming map_eq_some_iff → bgW, map_some → bhZ, some → biU, getD_some → bjK, bind_eq_some_iff → bjU, bind_some → bjY
open Bool renaming not_true → bgZ, false_and → bhE, not_false → bhK, and_eq_true → bhO, true_and → bhP, and_false → biI, and_true → bjL, false_eq_true → bjW
open Array renaming replicate → biF, length_toList → bjJ, getElem?_eq_getElem → bjV, getElem?_eq_some_iff → bjZ
namespace Go.Proofs.YtelckcmlobadkaaGreatDoor
open Go Go.PM
def a4Z:List Nat:=[11,51,27,12,26,31,14,30,0,0,0,3,7,9,5,8,4,6,17,24,18,23,48,36,0,0,0,20,10,28,152,111,110,66,65,54,155,154,64,85,115,84,114,161,113,112,136,29,162,105,32,101,102,100,77,99,76,153,53,55,137,103,96,151,135,134,104,59,75,80,74,97,79,73,78,98,72,81,40,43,82,42,33,50,45,46,47,49,60,61,62,0,0,0,41,69,56,87,126,88,128,131,92,127,67,86,93,129,94,130,71,68,70,119,91,90,116,89,122,121,120,124,125,95,150,133,132,144,117,123,147,146,118,149,145,148,160,158,143,166,163,159,165,164,0,0,0,15,22,21,16,44,13,25,19,35,57,39,38,58,37,34,83,63,140,108,109,141,138,107,106,0,0,0,0,0,0,0,0,0,0,0,0,0,0,0,0,0,0,0,0,0,0,0,0,52,0,0,0,0,0]
def a1T:List (Option Nat):=[none,none,none,some 11,some 16,some 14,some 17,some 12,some 15,some 13,some 28,some 0,some 3,some 152,some 6,some 147,some 150,some 18,some 20,some 154,some 27,some 149,some 148,some 21,some 19,some 153,some 4,some 2,some 29,some 47,some 7,some 5,some 50,some 82,some 161,some 155,some 23,some 160,some 158,some 157,some 78,some 94,some 81,some 79,some 151,some 84,some 85,some 86,some 22,some 87,some 83,some 1,some 195,some 58,some 35,some 59,some 96,some 156,some 159,some 67,some 88,some 89,some 90,some 163,some 38,some 34,some 33,some 104,some 111,some 95,some 112,some 110,some 76,some 73,some 70,some 68,some 56,some 54,some 74,some 72,some 69,some 77,some 80,some 162,some 41,some 39,some 105,some 97,some 99,some 117,some 115,some 114,some 102,some 106,some 108,some 123,some 62,some 71,some 75,some 55,some 53,some 51,some 52,some 61,some 66,some 49,some 170,some 169,some 165,some 166,some 32,some 31,some 45,some 44,some 42,some 40,some 116,some 128,some 132,some 113,some 120,some 119,some 118,some 129,some 121,some 122,some 98,some 103,some 100,some 107,some 109,some 101,some 126,some 125,some 65,some 64,some 46,some 60,some 168,none,some 164,some 167,none,some 138,some 127,some 134,some 131,some 130,some 135,some 133,some 124,some 63,some 30,some 57,some 37,some 36,none,none,some 137,some 141,some 136,some 43,some 48,some 140,some 143,some 142,some 139]
def num (n:Nat):FuncId:=a4Z.getD n 0
def nameOf (f:FuncId):Option Nat:=a1T.getD f none
noncomputable def C:Ctx:=⟨Tryz.prog,num⟩
noncomputable def T (ro:List Nat):Tbl:={ P:=Tryz.prog,num:=num,name:=nameOf,ro:=ro }
theorem c0:(T aPY).func Tryz.f11=some PM.HV:=by kernel_rfl
theorem q0:aP C 0 PM.HV:=fun _ _ _ hl h=>aN rfl rfl Tryz.func11 (by kernel_rfl) c0 hl h
theorem c1:(T aWA).func Tryz.f51=some PM.VU:=by kernel_rfl
theorem q1:aP C 1 PM.VU:=fun _ _ _ hl h=>aN rfl rfl Tryz.func51 (by kernel_rfl) c1 hl h
theorem c2:(T a1K).func Tryz.f27=some PM.aqV:=by kernel_rfl
theorem q2:aP C 2 PM.aqV:=fun _ _ _ hl h=>aN rfl rfl Tryz.func27 (by kernel_rfl) c2 hl h
theorem c4:(T aWJ).func Tryz.f26=some PM.ML:=by kernel_rfl
theorem q4:aP C 4 PM.ML:=fun _ _ _ hl h=>aN rfl rfl Tryz.func26 (by kernel_rfl) c4 hl h
theorem c5:(T a1Q).func Tryz.f31=some PM.arH:=by kernel_rfl
theorem q5:aP C 5 PM.arH:=fun _ _ _ hl h=>aN rfl rfl Tryz.func31 (by kernel_rfl) c5 hl h
theorem c7:(T aWB).func Tryz.f30=some PM.MJ:=by kernel_rfl
theorem q7:aP C 7 PM.MJ:=fun _ _ _ hl h=>aN rfl rfl Tryz.func30 (by kernel_rfl) c7 hl h
theorem c20:(T aOX).func Tryz.f18=some PM.HM:=by kernel_rfl
theorem q20:aP C 20 PM.HM:=fun _ _ _ hl h=>aN rfl rfl Tryz.func18 (by kernel_rfl) c20 hl h
theorem c23:(T aPT).func Tryz.f36=some PM.HS:=by kernel_rfl
theorem q23:aP C 23 PM.HS:=fun _ _ _ hl h=>aN rfl rfl Tryz.func36 (by kernel_rfl) c23 hl h
theorem c27:(T aPV).func Tryz.f20=some PM.HT:=by kernel_rfl
theorem q27:aP C 27 PM.HT:=fun _ _ _ hl h=>aN rfl rfl Tryz.func20 (by kernel_rfl) c27 hl h
theorem c28:(T a1O).func Tryz.f10=some PM.arE:=by kernel_rfl
theorem q28:aP C 28 PM.arE:=fun _ _ _ hl h=>aN rfl rfl Tryz.func10 (by kernel_rfl) c28 hl h
theorem c29:(T aWH).func Tryz.f28=some PM.WD:=by kernel_rfl
theorem q29:aP C 29 PM.WD:=fun _ _ _ hl h=>aN rfl rfl Tryz.func28 (by kernel_rfl) c29 hl h
theorem c30:(T a2X).func Tryz.f152=some PM.aXU:=by kernel_rfl
theorem q30:aP C 30 PM.aXU:=fun _ _ _ hl h=>aN rfl rfl Tryz.func152 (by kernel_rfl) c30 hl h
theorem c31:(T aXW).func Tryz.f111=some PM.YD:=by kernel_rfl
theorem q31:aP C 31 PM.YD:=fun _ _ _ hl h=>aN rfl rfl Tryz.func111 (by kernel_rfl) c31 hl h
theorem c32:(T a2Z).func Tryz.f110=some PM.awX:=by kernel_rfl
theorem q32:aP C 32 PM.awX:=fun _ _ _ hl h=>aN rfl rfl Tryz.func110 (by kernel_rfl) c32 hl h
theorem c33:(T a3B).func Tryz.f66=some PM.udiv:=by kernel_rfl
theorem q33:aP C 33 PM.udiv:=fun _ _ _ hl h=>aN rfl rfl Tryz.func66 (by kernel_rfl) c33 hl h
theorem c34:(T a3D).func Tryz.f65=some PM.axM:=by kernel_rfl
theorem q34:aP C 34 PM.axM:=fun _ _ _ hl h=>aN rfl rfl Tryz.func65 (by kernel_rfl) c34 hl h
theorem c35:(T aYC).func Tryz.f54=some PM.YM:=by kernel_rfl
theorem q35:aP C 35 PM.YM:=fun _ _ _ hl h=>aN rfl rfl Tryz.func54 (by kernel_rfl) c35 hl h
theorem c36:(T a3L).func Tryz.f155=some PM.aYD:=by kernel_rfl
theorem q36:aP C 36 PM.aYD:=fun _ _ _ hl h=>aN rfl rfl Tryz.func155 (by kernel_rfl) c36 hl h
theorem c37:(T a3U).func Tryz.f154=some PM.aYK:=by kernel_rfl
theorem q37:aP C 37 PM.aYK:=fun _ _ _ hl h=>aN rfl rfl Tryz.func154 (by kernel_rfl) c37 hl h
theorem c38:(T aYM).func Tryz.f64=some PM.YW:=by kernel_rfl
theorem q38:aP C 38 PM.YW:=fun _ _ _ hl h=>aN rfl rfl Tryz.func64 (by kernel_rfl) c38 hl h
theorem c39:(T aNE).func Tryz.f85=some PM.AO:=by kernel_rfl
theorem q39:aP C 39 PM.AO:=fun _ _ _ hl h=>aN rfl rfl Tryz.func85 (by kernel_rfl) c39 hl h
theorem c40:(T aYA).func Tryz.f115=some PM.YL:=by kernel_rfl
theorem q40:aP C 40 PM.YL:=fun _ _ _ hl h=>aN rfl rfl Tryz.func115 (by kernel_rfl) c40 hl h
theorem c41:(T aSY).func Tryz.f84=some PM.KV:=by kernel_rfl
theorem q41:aP C 41 PM.KV:=fun _ _ _ hl h=>aN rfl rfl Tryz.func84 (by kernel_rfl) c41 hl h
theorem c42:(T aTA).func Tryz.f114=some PM.KW:=by kernel_rfl
theorem q42:aP C 42 PM.KW:=fun _ _ _ hl h=>aN rfl rfl Tryz.func114 (by kernel_rfl) c42 hl h
theorem c43:(T aYJ).func Tryz.f161=some PM.YR:=by kernel_rfl
theorem q43:aP C 43 PM.YR:=fun _ _ _ hl h=>aN rfl rfl Tryz.func161 (by kernel_rfl) c43 hl h
theorem c44:(T aTE).func Tryz.f113=some PM.LD:=by kernel_rfl
theorem q44:aP C 44 PM.LD:=fun _ _ _ hl h=>aN rfl rfl Tryz.func113 (by kernel_rfl) c44 hl h
theorem c45:(T a5T).func Tryz.f112=some PM.uup:=by kernel_rfl
theorem q45:aP C 45 PM.uup:=fun _ _ _ hl h=>aN rfl rfl Tryz.func112 (by kernel_rfl) c45 hl h
theorem c47:(T a3W).func Tryz.f29=some PM.ayC:=by kernel_rfl
theorem q47:aP C 47 PM.ayC:=fun _ _ _ hl h=>aN rfl rfl Tryz.func29 (by kernel_rfl) c47 hl h
theorem c50:(T aYQ).func Tryz.f32=some PM.MT:=by kernel_rfl
theorem q50:aP C 50 PM.MT:=fun _ _ _ hl h=>aN rfl rfl Tryz.func32 (by kernel_rfl) c50 hl h
theorem c58:(T aNN).func Tryz.f53=some PM.AQ:=by kernel_rfl
theorem q58:aP C 58 PM.AQ:=fun _ _ _ hl h=>aN rfl rfl Tryz.func53 (by kernel_rfl) c58 hl h
theorem c59:(T aYS).func Tryz.f55=some PM.ZE:=by kernel_rfl
theorem q59:aP C 59 PM.ZE:=fun _ _ _ hl h=>aN rfl rfl Tryz.func55 (by kernel_rfl) c59 hl h
theorem c95:(T a0H).func Tryz.f69=some PM.anQ:=by kernel_rfl
theorem q95:aP C 95 PM.anQ:=fun _ _ _ hl h=>aN rfl rfl Tryz.func69 (by kernel_rfl) c95 hl h
theorem c96:(T a0S).func Tryz.f56=some PM.aoP:=by kernel_rfl
theorem q96:aP C 96 PM.aoP:=fun _ _ _ hl h=>aN rfl rfl Tryz.func56 (by kernel_rfl) c96 hl h
theorem c97:(T aON).func Tryz.f87=some PM.GY:=by kernel_rfl
theorem q97:aP C 97 PM.GY:=fun _ _ _ hl h=>aN rfl rfl Tryz.func87 (by kernel_rfl) c97 hl h
theorem c98:(T aUR).func Tryz.f126=some PM.TZ:=by kernel_rfl
theorem q98:aP C 98 PM.TZ:=fun _ _ _ hl h=>aN rfl rfl Tryz.func126 (by kernel_rfl) c98 hl h
theorem c99:(T aUT).func Tryz.f88=some PM.UA:=by kernel_rfl
theorem q99:aP C 99 PM.UA:=fun _ _ _ hl h=>aN rfl rfl Tryz.func88 (by kernel_rfl) c99 hl h
theorem a9W:(T aUV).func Tryz.f128=some PM.UB:=by kernel_rfl
theorem bcX:aP C 100 PM.UB:=fun _ _ _ hl h=>aN rfl rfl Tryz.func128 (by kernel_rfl) a9W hl h
theorem a9X:(T a0N).func Tryz.f131=some PM.gone:=by kernel_rfl
theorem bcY:aP C 101 PM.gone:=fun _ _ _ hl h=>aN rfl rfl Tryz.func131 (by kernel_rfl) a9X hl h
theorem a9Y:(T aUY).func Tryz.f92=some PM.UC:=by kernel_rfl
theorem bcZ:aP C 102 PM.UC:=fun _ _ _ hl h=>aN rfl rfl Tryz.func92 (by kernel_rfl) a9Y hl h
theorem a9Z:(T aOP).func Tryz.f127=some PM.GZ:=by kernel_rfl
theorem bdA:aP C 103 PM.GZ:=fun _ _ _ hl h=>aN rfl rfl Tryz.func127 (by kernel_rfl) a9Z hl h
theorem baA:(T a4Q).func Tryz.f67=some PM.gin:=by kernel_rfl
theorem bdB:aP C 104 PM.gin:=fun _ _ _ hl h=>aN rfl rfl Tryz.func67 (by kernel_rfl) baA hl h
theorem baB:(T a0J).func Tryz.f86=some PM.anS:=by kernel_rfl
theorem bdC:aP C 105 PM.anS:=fun _ _ _ hl h=>aN rfl rfl Tryz.func86 (by kernel_rfl) baB hl h
theorem baC:(T a0L).func Tryz.f93=some PM.anT:=by kernel_rfl
theorem bdD:aP C 106 PM.anT:=fun _ _ _ hl h=>aN rfl rfl Tryz.func93 (by kernel_rfl) baC hl h
theorem baD:(T aVA).func Tryz.f129=some PM.UF:=by kernel_rfl
theorem bdE:aP C 107 PM.UF:=fun _ _ _ hl h=>aN rfl rfl Tryz.func129 (by kernel_rfl) baD hl h
theorem baE:(T aVC).func Tryz.f94=some PM.UG:=by kernel_rfl
theorem bdF:aP C 108 PM.UG:=fun _ _ _ hl h=>aN rfl rfl Tryz.func94 (by kernel_rfl) baE hl h
theorem baF:(T aOS).func Tryz.f130=some PM.HH:=by kernel_rfl
theorem bdG:aP C 109 PM.HH:=fun _ _ _ hl h=>aN rfl rfl Tryz.func130 (by kernel_rfl) baF hl h
theorem baG:(T aVF).func Tryz.f71=some PM.UH:=by kernel_rfl
theorem bdH:aP C 110 PM.UH:=fun _ _ _ hl h=>aN rfl rfl Tryz.func71 (by kernel_rfl) baG hl h
theorem baH:(T a0F).func Tryz.f68=some PM.ZR:=by kernel_rfl
theorem bdI:aP C 111 PM.ZR:=fun _ _ _ hl h=>aN rfl rfl Tryz.func68 (by kernel_rfl) baH hl h
theorem baI:(T a0P).func Tryz.f70=some PM.anW:=by kernel_rfl
theorem bdJ:aP C 112 PM.anW:=fun _ _ _ hl h=>aN rfl rfl Tryz.func70 (by kernel_rfl) baI hl h
theorem baJ:(T aZU).func Tryz.f119=some PM.GL:=by kernel_rfl
theorem bdK:aP C 113 PM.GL:=fun _ _ _ hl h=>aN rfl rfl Tryz.func119 (by kernel_rfl) baJ hl h
theorem baK:(T aZW).func Tryz.f91=some PM.alT:=by kernel_rfl
theorem bdL:aP C 114 PM.alT:=fun _ _ _ hl h=>aN rfl rfl Tryz.func91 (by kernel_rfl) baK hl h
theorem baL:(T aUN).func Tryz.f90=some PM.LS:=by kernel_rfl
theorem bdM:aP C 115 PM.LS:=fun _ _ _ hl h=>aN rfl rfl Tryz.func90 (by kernel_rfl) baL hl h
theorem baM:(T aJL).func Tryz.f116=some PM.uB:=by kernel_rfl
theorem bdN:aP C 116 PM.uB:=fun _ _ _ hl h=>aN rfl rfl Tryz.func116 (by kernel_rfl) baM hl h
theorem baN:(T a0C).func Tryz.f89=some PM.PS:=by kernel_rfl
theorem bdO:aP C 117 PM.PS:=fun _ _ _ hl h=>aN rfl rfl Tryz.func89 (by kernel_rfl) baN hl h
theorem baO:(T aOK).func Tryz.f122=some PM.GX:=by kernel_rfl
theorem bdP:aP C 118 PM.GX:=fun _ _ _ hl h=>aN rfl rfl Tryz.func122 (by kernel_rfl) baO hl h
theorem baP:(T aZS).func Tryz.f121=some PM.alQ:=by kernel_rfl
theorem bdQ:aP C 119 PM.alQ:=fun _ _ _ hl h=>aN rfl rfl Tryz.func121 (by kernel_rfl) baP hl h
theorem baQ:(T aJH).func Tryz.f120=some PM.mU:=by kernel_rfl
theorem bdR:aP C 120 PM.mU:=fun _ _ _ hl h=>aN rfl rfl Tryz.func120 (by kernel_rfl) baQ hl h
theorem baR:(T aOI).func Tryz.f124=some PM.GW:=by kernel_rfl
theorem bdS:aP C 121 PM.GW:=fun _ _ _ hl h=>aN rfl rfl Tryz.func124 (by kernel_rfl) baR hl h
theorem baS:(T aUP).func Tryz.f125=some PM.TY:=by kernel_rfl
theorem bdT:aP C 122 PM.TY:=fun _ _ _ hl h=>aN rfl rfl Tryz.func125 (by kernel_rfl) baS hl h
theorem baT:(T aVT).func Tryz.f95=some PM.MG:=by kernel_rfl
theorem bdU:aP C 123 PM.MG:=fun _ _ _ hl h=>aN rfl rfl Tryz.func95 (by kernel_rfl) baT hl h
theorem baU:(T aOZ).func Tryz.f150=some PM.AA:=by kernel_rfl
theorem bdV:aP C 124 PM.AA:=fun _ _ _ hl h=>aN rfl rfl Tryz.func150 (by kernel_rfl) baU hl h
theorem baV:(T aPD).func Tryz.f133=some PM.AB:=by kernel_rfl
theorem bdW:aP C 125 PM.AB:=fun _ _ _ hl h=>aN rfl rfl Tryz.func133 (by kernel_rfl) baV hl h
theorem baW:(T aKR).func Tryz.f132=some PM.uG:=by kernel_rfl
theorem bdX:aP C 126 PM.uG:=fun _ _ _ hl h=>aN rfl rfl Tryz.func132 (by kernel_rfl) baW hl h
theorem baX:(T a1S).func Tryz.f144=some PM.arU:=by kernel_rfl
theorem bdY:aP C 127 PM.arU:=fun _ _ _ hl h=>aN rfl rfl Tryz.func144 (by kernel_rfl) baX hl h
theorem baY:(T aWO).func Tryz.f117=some PM.WG:=by kernel_rfl
theorem bdZ:aP C 128 PM.WG:=fun _ _ _ hl h=>aN rfl rfl Tryz.func117 (by kernel_rfl) baY hl h
theorem baZ:(T a1V).func Tryz.f123=some PM.asK:=by kernel_rfl
theorem beA:aP C 129 PM.asK:=fun _ _ _ hl h=>aN rfl rfl Tryz.func123 (by kernel_rfl) baZ hl h
theorem bbA:(T a1X).func Tryz.f147=some PM.asQ:=by kernel_rfl
theorem beB:aP C 130 PM.asQ:=fun _ _ _ hl h=>aN rfl rfl Tryz.func147 (by kernel_rfl) bbA hl h
theorem bbB:(T a2A).func Tryz.f146=some PM.asU:=by kernel_rfl
theorem beC:aP C 131 PM.asU:=fun _ _ _ hl h=>aN rfl rfl Tryz.func146 (by kernel_rfl) bbB hl h
theorem bbC:(T aWQ).func Tryz.f118=some PM.WR:=by kernel_rfl
theorem beD:aP C 132 PM.WR:=fun _ _ _ hl h=>aN rfl rfl Tryz.func118 (by kernel_rfl) bbC hl h
theorem bbD:(T a2C).func Tryz.f149=some PM.asZ:=by kernel_rfl
theorem beE:aP C 133 PM.asZ:=fun _ _ _ hl h=>aN rfl rfl Tryz.func149 (by kernel_rfl) bbD hl h
theorem bbE:(T a2E).func Tryz.f145=some PM.atI:=by kernel_rfl
theorem beF:aP C 134 PM.atI:=fun _ _ _ hl h=>aN rfl rfl Tryz.func145 (by kernel_rfl) bbE hl h
theorem bbF:(T aWT).func Tryz.f148=some PM.WU:=by kernel_rfl
theorem beG:aP C 135 PM.WU:=fun _ _ _ hl h=>aN rfl rfl Tryz.func148 (by kernel_rfl) bbF hl h
theorem bbG:(T aLW).func Tryz.f160=some PM.AD:=by kernel_rfl
theorem beH:aP C 136 PM.AD:=fun _ _ _ hl h=>aN rfl rfl Tryz.func160 (by kernel_rfl) bbG hl h
theorem bbH:(T aQJ).func Tryz.f158=some PM.II:=by kernel_rfl
theorem beI:aP C 137 PM.II:=fun _ _ _ hl h=>aN rfl rfl Tryz.func158 (by kernel_rfl) bbH hl h
theorem bbI:(T aMA).func Tryz.f143=some PM.qW:=by kernel_rfl
theorem beJ:aP C 138 PM.qW:=fun _ _ _ hl h=>aN rfl rfl Tryz.func143 (by kernel_rfl) bbI hl h
theorem bbJ:(T aAU).func Tryz.f166=some PM.vC:=by kernel_rfl
theorem beK:aP C 139 PM.vC:=fun _ _ _ hl h=>aN rfl rfl Tryz.func166 (by kernel_rfl) bbJ hl h
theorem bbK:(T aQM).func Tryz.f163=some PM.IM:=by kernel_rfl
theorem aWY:aP C 140 PM.IM:=fun _ _ _ hl h=>aN rfl rfl Tryz.func163 (by kernel_rfl) bbK hl h
theorem bbL:(T aQO).func Tryz.f159=some PM.IN:=by kernel_rfl
theorem aWZ:aP C 141 PM.IN:=fun _ _ _ hl h=>aN rfl rfl Tryz.func159 (by kernel_rfl) bbL hl h
theorem bbM:(T atQ).func Tryz.f165=some PM.sG:=by kernel_rfl
theorem abC:aP C 142 PM.sG:=fun _ _ _ hl h=>aN rfl rfl Tryz.func165 (by kernel_rfl) bbM hl h
theorem bbN:(T a5B).func Tryz.f164=some PM.nup:=by kernel_rfl
theorem beL:aP C 143 PM.nup:=fun _ _ _ hl h=>aN rfl rfl Tryz.func164 (by kernel_rfl) bbN hl h
theorem bbO:(T a5P).func Tryz.f15=some PM.tat:=by kernel_rfl
theorem beM:aP C 147 PM.tat:=fun _ _ _ hl h=>aN rfl rfl Tryz.func15 (by kernel_rfl) bbO hl h
theorem bbP:(T aSD).func Tryz.f22=some PM.JS:=by kernel_rfl
theorem beN:aP C 148 PM.JS:=fun _ _ _ hl h=>aN rfl rfl Tryz.func22 (by kernel_rfl) bbP hl h
theorem bbQ:(T aNA).func Tryz.f21=some PM.AN:=by kernel_rfl
theorem beO:aP C 149 PM.AN:=fun _ _ _ hl h=>aN rfl rfl Tryz.func21 (by kernel_rfl) bbQ hl h
theorem bbR:(T aSG).func Tryz.f16=some PM.JW:=by kernel_rfl
theorem beP:aP C 150 PM.JW:=fun _ _ _ hl h=>aN rfl rfl Tryz.func16 (by kernel_rfl) bbR hl h
theorem bbS:(T aRW).func Tryz.f44=some PM.JQ:=by kernel_rfl
theorem beQ:aP C 151 PM.JQ:=fun _ _ _ hl h=>aN rfl rfl Tryz.func44 (by kernel_rfl) bbS hl h
theorem bbT:(T aXO).func Tryz.f13=some PM.tQ:=by kernel_rfl
theorem beR:aP C 152 PM.tQ:=fun _ _ _ hl h=>aN rfl rfl Tryz.func13 (by kernel_rfl) bbT hl h
theorem bbU:(T aMY).func Tryz.f25=some PM.AL:=by kernel_rfl
theorem beS:aP C 153 PM.AL:=fun _ _ _ hl h=>aN rfl rfl Tryz.func25 (by kernel_rfl) bbU hl h
theorem bbV:(T aXR).func Tryz.f19=some PM.YC:=by kernel_rfl
theorem beT:aP C 154 PM.YC:=fun _ _ _ hl h=>aN rfl rfl Tryz.func19 (by kernel_rfl) bbV hl h
theorem bbW:(T aRY).func Tryz.f35=some PM.JR:=by kernel_rfl
theorem beU:aP C 155 PM.JR:=fun _ _ _ hl h=>aN rfl rfl Tryz.func35 (by kernel_rfl) bbW hl h
theorem bbX:(T aXM).func Tryz.f57=some PM.XV:=by kernel_rfl
theorem beV:aP C 156 PM.XV:=fun _ _ _ hl h=>aN rfl rfl Tryz.func57 (by kernel_rfl) bbX hl h
theorem bbY:(T aSI).func Tryz.f39=some PM.JX:=by kernel_rfl
theorem beW:aP C 157 PM.JX:=fun _ _ _ hl h=>aN rfl rfl Tryz.func39 (by kernel_rfl) bbY hl h
theorem bbZ:(T aXT).func Tryz.f38=some PM.ajZ:=by kernel_rfl
theorem beX:aP C 158 PM.ajZ:=fun _ _ _ hl h=>aN rfl rfl Tryz.func38 (by kernel_rfl) bbZ hl h
theorem bcA:(T aST).func Tryz.f58=some PM.KH:=by kernel_rfl
theorem beY:aP C 159 PM.KH:=fun _ _ _ hl h=>aN rfl rfl Tryz.func58 (by kernel_rfl) bcA hl h
theorem bcB:(T aSP).func Tryz.f37=some PM.vL:=by kernel_rfl
theorem beZ:aP C 160 PM.vL:=fun _ _ _ hl h=>aN rfl rfl Tryz.func37 (by kernel_rfl) bcB hl h
theorem bcC:(T aSR).func Tryz.f34=some PM.KC:=by kernel_rfl
theorem bfA:aP C 161 PM.KC:=fun _ _ _ hl h=>aN rfl rfl Tryz.func34 (by kernel_rfl) bcC hl h
theorem a7H:dP C:={
 r0:=q0,
 r1:=q1,
 r2:=q2,
 r4:=q4,
 r5:=q5,
 r7:=q7,
 r20:=q20,
 r23:=q23,
 r27:=q27,
 r28:=q28,
 r29:=q29,
 r30:=q30,
 r31:=q31,
 r32:=q32,
 r33:=q33,
 r34:=q34,
 r35:=q35,
 r36:=q36,
 r37:=q37,
 r38:=q38,
 r39:=q39,
 r40:=q40,
 r41:=q41,
 r42:=q42,
 r43:=q43,
 r44:=q44,
 r45:=q45,
 r47:=q47,
 r50:=q50,
 r58:=q58,
 r59:=q59,
 r95:=q95,
 r96:=q96,
 r97:=q97,
 r98:=q98,
 r99:=q99,
 r100:=bcX,
 r101:=bcY,
 r102:=bcZ,
 r103:=bdA,
 r104:=bdB,
 r105:=bdC,
 r106:=bdD,
 r107:=bdE,
 r108:=bdF,
 r109:=bdG,
 r110:=bdH,
 r111:=bdI,
 r112:=bdJ,
 r113:=bdK,
 r114:=bdL,
 r115:=bdM,
 r116:=bdN,
 r117:=bdO,
 r118:=bdP,
 r119:=bdQ,
 r120:=bdR,
 r121:=bdS,
 r122:=bdT,
 r123:=bdU,
 r124:=bdV,
 r125:=bdW,
 r126:=bdX,
 r127:=bdY,
 r128:=bdZ,
 r129:=beA,
 r130:=beB,
 r131:=beC,
 r132:=beD,
 r133:=beE,
 r134:=beF,
 r135:=beG,
 r136:=beH,
 r137:=beI,
 r138:=beJ,
 r139:=beK,
 r140:=aWY,
 r141:=aWZ,
 r142:=abC,
 r143:=beL,
 r147:=beM,
 r148:=beN,
 r149:=beO,
 r150:=beP,
 r151:=beQ,
 r152:=beR,
 r153:=beS,
 r154:=beT,
 r155:=beU,
 r156:=beV,
 r157:=beW,
 r158:=beX,
 r159:=beY,
 r160:=beZ,
 r161:=bfA }
end Go.Proofs.YtelckcmlobadkaaGreatDoor
namespace Go.Proofs.YtelckcmlobadkaaGreatDoor
open Go Go.PM Go.RowKit Go.ChangeShapes Go.WideShapes
theorem Tryz.own:ownKnob Tryz.prog.godebug=none:=by kernel_rfl
theorem Tryz.laidOut:laidOutB Tryz.prog=true:=by kernel_rfl
theorem itoa:sQ C:=fun n hn=>by
 refine⟨⟨Tryz.f52,Tryz.func52,by kernel_rfl,by kernel_rfl⟩,fun E w vs hN hW hvs=>?_⟩
 obtain⟨vl⟩:=vs
 cases hvs with
 | cons e1 e2 =>
 cases e2
 cases e1
 refine (Any.strconv_Itoa_small Tryz.a1E n hn w).mono fun e w' he=>?_
 obtain⟨rfl,rfl⟩:=he
 exact⟨_,.str (bO n),E,.nil,rfl,hW,.str ⟨(Lib.decDigits n).toArray⟩,.refl _ _ _,rfl,rfl⟩
theorem abR {pv:PV} (h:PV.Ty (.sl [.int .u8]) pv):∃ l:List Nat,pv=.sl 1 (eM l)∧(∀ x∈l,x<256)∧l.length≤9223372036854775807:=by
 obtain⟨xs,rfl,hl,hx⟩:=Ty.aVM h
 refine⟨xs.map Int.toNat,?_,?_,?_⟩
 ·unfold aKB eM
  rw[List.map_map]
  congr 1
  refine List.map_congr_left fun x hm=>?_
  have:=(hx x hm).1
  simp only[Function.comp]
  rw[Int.toNat_of_nonneg this]
 ·intro y hy
  obtain⟨x,hm,rfl⟩:=bhW.1 hy
  have:=(hx x hm).2
  have h0:=(hx x hm).1
  have hm:IntKind.u8.max=255:=by decide
  rw[hm] at this
  omega
 ·rw[bgR]
  have:maxLen≤9223372036854775807:=by decide
  omega
end Go.Proofs.YtelckcmlobadkaaGreatDoor
namespace Go.PM
open Go Go.Na
theorem aXE {C:Ctx} (f:aH) (hv:VF f) (v:Nat) (h:v<f.volumes.length) :
  DZ.wp C (aX XB.res (bY (.int .i64 (fS f v)))) (PF.args [.agg f.cells,.int .i64 v]) .nil:=by
 obtain⟨hp,he⟩:=qY hv h
 have hpol:=hv.policy _ (bgY hp)
 rw[he] at hpol
 have hw:IntKind.i64.wrap ((gC f v).k+(gC f v).m)=(gC f v).k+(gC f v).m:=wrap_i64 (by omega) (by omega)
 simp -implicitDefEqProofs only[go_sem,γ,δ,ε,ζ,η,θ,ι,κ,μ,ν,ξ,ο,ρ,σ,τ,υ,reduceIte,reduceCtorEq,DZ,auT,XB]
 refine cD .nil dV PH.nil_le ?_
 simp -implicitDefEqProofs only[go_sem,γ,δ,ε,ζ,η,θ,ι,κ,μ,ν,ξ,ο,ρ,σ,τ,υ,reduceIte,reduceCtorEq,auU,FG h,hv.auG h,yO hp,he]
 refine aQ fun o ho=>?_
 simp -implicitDefEqProofs only[go_sem,γ,δ,ε,ζ,η,θ,ι,κ,μ,ν,ξ,ο,ρ,σ,τ,υ,reduceIte,reduceCtorEq,auV,hw]
 refine⟨PH.nil_le,?_⟩
 exact fH (n:=(gC f v).k+(gC f v).m) (by simp -implicitDefEqProofs only[go_sem,γ,δ,ε,ζ,η,θ,ι,κ,μ,ν,ξ,ο,ρ,σ,τ,υ,reduceIte,reduceCtorEq]<;>rfl) rfl
abbrev iiv (l:List Int):List (List PV):=l.map fun x=>[PV.int .i64 x]
def aYV (l:List Nat) (v:PV) (o a:Nat) (f:aH) (r:PV) (H:PH):Prop:=Co r (ints (jS l f a).1)∧H=PH.nil.set o (aR v (jS l f a).2)
theorem afM (l:List Nat) {a:Nat} (h:a≤l.length):∀ k,(kD l a k).2≤l.length∧(kD l a k).1.length=k
 | 0=>⟨h,rfl⟩
 | k+1=>by
  obtain⟨h1,h2⟩:=afM l h k
  exact⟨bC l 7 h1,by simp only[kD,bgU,bgX,h2]⟩
def arI (f:aH) (o:Nat) (w:PV) (i:Nat):PF:=((((PF.nil.set 0 (.ptr o 2 0 0)).set 3 (.rptr f.cells)).set 5 (w)).set 6 (.int .i64 i))
theorem aWK {C:Ctx} (Lb:pG C) {l:List Nat} {v:PV} (T:Tp l v) (o a:Nat) (f:aH) (hd:f.drives.length≤1000) (ha:a≤l.length):DH.wp C (aX WE.res (aYV l v o a f)) (PF.args [.ptr o 2 0 0,.agg f.cells]) (PH.nil.set o (aR v a)):=by
 have h0:aS (PH.nil.set o (aR v a)) [(o,aR v a)] []:=aS.nil.new (H:=PH.nil) rfl (aR v a)
 simp -implicitDefEqProofs only[go_sem,γ,δ,ε,ζ,η,θ,ι,κ,μ,ν,ξ,ο,ρ,σ,τ,υ,reduceIte,reduceCtorEq,DH,arK,WE,arL]
 refine cB Lb T (o:=o) (n:=4) (a:=a) (by decide) ha (by simp -implicitDefEqProofs only[go_sem,γ,δ,ε,ζ,η,θ,ι,κ,μ,ν,ξ,ο,ρ,σ,τ,υ,reduceIte,reduceCtorEq]; rfl) (h0.at 0 rfl) ?_
 have h1:=h0.set 0 rfl (aR v (aC l 4 a).2)
 rw[PH.set_set] at h1
 have hna:=bC l 4 ha
 have hT:jS l f a=if (aC l 4 a).1=0 then ([],(aC l 4 a).2) else kD l (aC l 4 a).2 f.drives.length:=rfl
 have hR:∀ r H,aYV l v o a f r H↔Co r (ints (jS l f a).1)∧H=PH.nil.set o (aR v (jS l f a).2):=fun _ _=>Iff.rfl
 generalize aC l 4 a=t at *
 by_cases ht:t.1=0
 ·rw[if_pos ht] at hT
  simp -implicitDefEqProofs only[go_sem,γ,δ,ε,ζ,η,θ,ι,κ,μ,ν,ξ,ο,ρ,σ,τ,υ,reduceIte,reduceCtorEq,bT (show ((t.1:Nat):Int)=0 by omega),arM]
  refine aW (vs:=[.nils]) (.inr rfl) (PH.nil.set o (aR v t.2)) (by simp -implicitDefEqProofs only[go_sem,γ,δ,ε,ζ,η,θ,ι,κ,μ,ν,ξ,ο,ρ,σ,τ,υ,reduceIte,reduceCtorEq]) (PH.aA PH.nil_le (h1.at 0 rfl)) ?_
  rw[cN,hR,hT]
  exact⟨.nil 1,rfl⟩
 rw[if_neg ht] at hT
 have h2:=h1.qB 1
 simp -implicitDefEqProofs only[go_sem,γ,δ,ε,ζ,η,θ,ι,κ,μ,ν,ξ,ο,ρ,σ,τ,υ,reduceIte,reduceCtorEq,bG (show ((t.1:Nat):Int)≠0 by omega),arN,arO]
 refine wp_loop (α:=Nat × PV × PH) (fun s=>arI f o s.2.1 s.1) (fun s=>s.2.2) (fun s=>s.1≤f.drives.length∧aS s.2.2 [(o,aR v (kD l t.2 s.1).2)] [(s.2.1,1,iiv (kD l t.2 s.1).1)]) (fun s=>f.drives.length-s.1) (0,.nils,_) ⟨bhC _,h2⟩ ?_ PH.le_refl ?_
 ·unfold arI
  (repeat' (first|exact PF.nil_le|refine PF.aA ?_ ?_))<;>first|(simp -implicitDefEqProofs only[go_sem,γ,δ,ε,ζ,η,θ,ι,κ,μ,ν,ξ,ο,ρ,σ,τ,υ,reduceIte,reduceCtorEq]<;>rfl)|rfl
 rintro⟨k,w,H0⟩ ⟨hk,hH⟩
 simp only at hk hH ⊢
 obtain⟨k1,k2⟩:=afM l hna k
 simp -implicitDefEqProofs only[go_sem,γ,δ,ε,ζ,η,θ,ι,κ,μ,ν,ξ,ο,ρ,σ,τ,υ,reduceIte,reduceCtorEq,arJ,arP,arI,bgR]
 by_cases hlt:k<f.drives.length
 ·have hlt':(k:Int)<(f.drives.length:Nat):=by omega
  have hstep:kD l t.2 (k+1)=((kD l t.2 k).1++[((aC l 7 (kD l t.2 k).2).1:Int)-1],(aC l 7 (kD l t.2 k).2).2):=rfl
  have hz:=bM l (show 0<7 by decide) (kD l t.2 k).2
  generalize hs:kD l t.2 k=s at *
  have hw1:IntKind.i64.wrap (((aC l 7 s.2).1:Int)-1)=((aC l 7 s.2).1:Int)-1:=wrap_i64 (by omega) (by omega)
  have h11:(1:Nat)*1≤16777216:=by decide
  simp -implicitDefEqProofs only[go_sem,γ,δ,ε,ζ,η,θ,ι,κ,μ,ν,ξ,ο,ρ,σ,τ,υ,reduceIte,reduceCtorEq,hlt',arQ]
  refine cB Lb T (o:=o) (n:=7) (a:=s.2) (by decide) k1 (by simp -implicitDefEqProofs only[go_sem,γ,δ,ε,ζ,η,θ,ι,κ,μ,ν,ξ,ο,ρ,σ,τ,υ,reduceIte,reduceCtorEq]; rfl) (hH.at 0 rfl) ?_
  have hH2:=hH.set 0 rfl (aR v (aC l 7 s.2).2)
  simp -implicitDefEqProofs only[go_sem,γ,δ,ε,ζ,η,θ,ι,κ,μ,ν,ξ,ο,ρ,σ,τ,υ,reduceIte,reduceCtorEq,hw1,h11]
  refine hH2.append 0 (src:=[[PV.int .i64 (((aC l 7 s.2).1:Int)-1)]]) rfl (by simp -implicitDefEqProofs only[go_sem,γ,δ,ε,ζ,η,θ,ι,κ,μ,ν,ξ,ο,ρ,σ,τ,υ,reduceIte,reduceCtorEq]) (by unfold roomFor; rw[bgR,k2]; simp only[bgX,maxLen]; omega) fun w' H' h' _=>?_
  simp -implicitDefEqProofs only[go_sem,γ,δ,ε,ζ,η,θ,ι,κ,μ,ν,ξ,ο,ρ,σ,τ,υ,reduceIte,reduceCtorEq,arR,aO (show k<9223372036854775807 by omega)]
  refine aJ (k+1,w',H') ⟨hlt,?_⟩ (by simp only; omega) ?_ PH.le_refl
  ·simp only
   rw[hstep]
   have:iiv (s.1++[((aC l 7 s.2).1:Int)-1])=iiv s.1++[[PV.int .i64 (((aC l 7 s.2).1:Int)-1)]]:=by simp[iiv]
   rw[this]
   exact h'
  ·(repeat' (first|exact PF.nil_le|refine PF.aA ?_ ?_))<;>first|(simp -implicitDefEqProofs only[go_sem,γ,δ,ε,ζ,η,θ,ι,κ,μ,ν,ξ,ο,ρ,σ,τ,υ,reduceIte,reduceCtorEq]<;>rfl)|rfl
 ·have hlt':¬ (k:Int)<(f.drives.length:Nat):=by omega
  have:k=f.drives.length:=by omega
  subst this
  rw[← hT] at hH
  simp -implicitDefEqProofs only[go_sem,γ,δ,ε,ζ,η,θ,ι,κ,μ,ν,ξ,ο,ρ,σ,τ,υ,reduceIte,reduceCtorEq,hlt',arS]
  rcases hH.own 0 rfl with ⟨h1',rfl⟩ | ⟨q,rs,rfl,_⟩
  ·refine aW (vs:=[.nils]) (.inr rfl) (PH.nil.set o (aR v (jS l f a).2)) (by simp -implicitDefEqProofs only[go_sem,γ,δ,ε,ζ,η,θ,ι,κ,μ,ν,ξ,ο,ρ,σ,τ,υ,reduceIte,reduceCtorEq]) (PH.aA PH.nil_le (hH.at 0 rfl)) ?_
   rw[cN,hR]
   refine⟨?_,rfl⟩
   unfold ints
   rw[show (jS l f a).1.map (fun x=>[PV.int .i64 x])=[] from h1']
   exact .nil 1
  ·obtain⟨rs,g1,g2,g3,-,g4⟩:=hH.frz 0 rfl
   refine AH (vs:=[.osl q 1 0 (iiv (jS l f a).1).length]) (.inr rfl) (by simp -implicitDefEqProofs only[go_sem,γ,δ,ε,ζ,η,θ,ι,κ,μ,ν,ξ,ο,ρ,σ,τ,υ,reduceIte,reduceCtorEq]) (.step g1 (.done (H2:=PH.nil.set o (aR v (jS l f a).2)) ?_ (PH.aA PH.nil_le ?_)))
   ·rw[cN,g3,hR]
    exact⟨.refl _,rfl⟩
   ·have:=g4.at 0 rfl
    rw[this]
    simp only[bV.frz,bhY,biQ,T.frz]
    rfl
end Go.PM
namespace Go.PM
open Go Go.Na
abbrev kA (l:List (List Int)):List (List PV):=l.map fun r=>[ints r]
theorem a1G (l:List (List Int)):Flat (kA l):=lF fun r hr c hc=>by
 obtain⟨x,_,rfl⟩:=bhW.1 hr
 rw[List.mem_singleton] at hc
 subst hc
 rfl
theorem aVI (l:List Nat) (drives at_ i:Nat) {a:Nat} (h:a≤l.length):(lZ l drives at_ i a).2≤l.length:=by
 unfold lZ
 split
 ·exact h
 ·have:=bC l 6 h
  simp only
  split
  ·exact bC l drives this
  ·split
   ·exact bC l (drives+1) this
   ·exact this
theorem uW (l:List Nat) (drives at_:Nat) {a:Nat} (h:a≤l.length):∀ k,(gY l drives at_ a k).2≤l.length∧(gY l drives at_ a k).1.length=k
 | 0=>⟨h,rfl⟩
 | k+1=>by
  obtain⟨h1,h2⟩:=uW l drives at_ h k
  exact⟨aVI l drives at_ k h1,by simp only[gY,bgU,bgX,h2]⟩
theorem pW (l:List Nat) (f:aH) {a:Nat} (h:a≤l.length):∀ k,(cG l f a k).2≤l.length∧(cG l f a k).1.length=k
 | 0=>⟨h,rfl⟩
 | k+1=>by
  obtain⟨h1,h2⟩:=pW l f h k
  exact⟨(uW l _ _ (bC l _ h1) _).1,by simp only[cG,bgU,bgX,h2]⟩
def aWD (f:aH) (o:Nat) (w:PV) (i:Nat):PF:=((((PF.nil.set 0 (.ptr o 2 0 0)).set 3 (.rptr f.cells)).set 5 (w)).set 6 (.int .i64 i))
def gD (f:aH) (o:Nat) (w:PV) (i:Nat) (w7:PV) (at_ k:Nat):PF:=(((((((PF.nil.set 0 (.ptr o 2 0 0)).set 3 (.rptr f.cells)).set 5 (w)).set 6 (.int .i64 i)).set 7 (w7)).set 8 (.int .i64 at_)).set 9 (.int .i64 k))
def aWE:aD:=(.seq (.region DD) (.seq (.seq (.region DE) (.cond (.tmp 34) (.seq (.region xT) (.seq (.region xU) (.block 4 (.seq (.region xV) (.cond (.tmp 44) (.region xW) (.seq (.region rI) (.cond (.tmp 51) (.region xX) .skip))))))) .skip)) (.region rJ)))
theorem a1L:xS=.seq (.seq (.region DC) (.cond (.tmp 28) .skip (.exit 2))) (.seq (.block 3 aWE) (.region xY)):=rfl
theorem aWF {C:Ctx} (Lb:pG C) {l:List Nat} {v:PV} (T:Tp l v) (o:Nat) (f:aH) (hd:f.drives.length≤1000) (w w7:PV) (i at_ k a:Nat) (hat:at_≤2000) (hk:k≤2000) (ha:a≤l.length) (L:List LI) (Kk:cC) (F:PF) (H:PH)
  (hF:(gD f o w i w7 at_ k).le F) (hH:aS H [(o,aR v a)] L)
  (hK:∀ F' H',(gD f o w i w7 at_ k).le F'→F' 10=some (.int .i64 (lZ l f.drives.length at_ k a).1)→aS H' [(o,aR v (lZ l f.drives.length at_ k a).2)] L→aD.wp C (.region rJ) Kk F' H') :
  aD.wp C aWE Kk F H:=by
 unfold aWE
 have f0:F 0=some (.ptr o 2 0 0):=hF 0 _ (by unfold gD; simp -implicitDefEqProofs only[go_sem,γ,δ,ε,ζ,η,θ,ι,κ,μ,ν,ξ,ο,ρ,σ,τ,υ,reduceIte,reduceCtorEq])
 have f3:F 3=some (.rptr f.cells):=hF 3 _ (by unfold gD; simp -implicitDefEqProofs only[go_sem,γ,δ,ε,ζ,η,θ,ι,κ,μ,ν,ξ,ο,ρ,σ,τ,υ,reduceIte,reduceCtorEq])
 have f5:F 5=some w:=hF 5 _ (by unfold gD; simp -implicitDefEqProofs only[go_sem,γ,δ,ε,ζ,η,θ,ι,κ,μ,ν,ξ,ο,ρ,σ,τ,υ,reduceIte,reduceCtorEq])
 have f6:F 6=some (.int .i64 i):=hF 6 _ (by unfold gD; simp -implicitDefEqProofs only[go_sem,γ,δ,ε,ζ,η,θ,ι,κ,μ,ν,ξ,ο,ρ,σ,τ,υ,reduceIte,reduceCtorEq])
 have f7:F 7=some w7:=hF 7 _ (by unfold gD; simp -implicitDefEqProofs only[go_sem,γ,δ,ε,ζ,η,θ,ι,κ,μ,ν,ξ,ο,ρ,σ,τ,υ,reduceIte,reduceCtorEq])
 have f8:F 8=some (.int .i64 at_):=hF 8 _ (by unfold gD; simp -implicitDefEqProofs only[go_sem,γ,δ,ε,ζ,η,θ,ι,κ,μ,ν,ξ,ο,ρ,σ,τ,υ,reduceIte,reduceCtorEq])
 have f9:F 9=some (.int .i64 k):=hF 9 _ (by unfold gD; simp -implicitDefEqProofs only[go_sem,γ,δ,ε,ζ,η,θ,ι,κ,μ,ν,ξ,ο,ρ,σ,τ,υ,reduceIte,reduceCtorEq])
 have hle:∀ F':PF,F' 0=some (.ptr o 2 0 0)→F' 3=some (.rptr f.cells)→F' 5=some w→F' 6=some (.int .i64 i)→F' 7=some w7→F' 8=some (.int .i64 at_)→F' 9=some (.int .i64 k)→(gD f o w i w7 at_ k).le F':=fun F' a0 a3 a5 a6 a7 a8 a9=>by
  unfold gD
  (repeat' (first|exact PF.nil_le|refine PF.aA ?_ ?_))<;>first|(simp -implicitDefEqProofs only[go_sem,γ,δ,ε,ζ,η,θ,ι,κ,μ,ν,ξ,ο,ρ,σ,τ,υ,reduceIte,reduceCtorEq,a0,a3,a5,a6,a7,a8,a9]<;>rfl)|rfl
 have hT:lZ l f.drives.length at_ k a=if f.drives.length=0 then (-1,a) else if (aC l 6 a).1=0 then (((aC l f.drives.length (aC l 6 a).2).1:Int),(aC l f.drives.length (aC l 6 a).2).2) else if (aC l 6 a).1=1 then (((aC l (f.drives.length+1) (aC l 6 a).2).1:Int)-1,(aC l (f.drives.length+1) (aC l 6 a).2).2) else ((((at_+k)%f.drives.length:Nat):Int),(aC l 6 a).2):=rfl
 simp -implicitDefEqProofs only[go_sem,γ,δ,ε,ζ,η,θ,ι,κ,μ,ν,ξ,ο,ρ,σ,τ,υ,reduceIte,reduceCtorEq,DD,DE,f3,bgR]
 by_cases h0:f.drives.length=0
 ·rw[if_pos h0] at hT
  have h0':¬ ((f.drives.length:Nat):Int)>0:=by omega
  simp -implicitDefEqProofs only[go_sem,γ,δ,ε,ζ,η,θ,ι,κ,μ,ν,ξ,ο,ρ,σ,τ,υ,reduceIte,reduceCtorEq,h0']
  refine hK _ _ (hle _ (by simp -implicitDefEqProofs only[go_sem,γ,δ,ε,ζ,η,θ,ι,κ,μ,ν,ξ,ο,ρ,σ,τ,υ,reduceIte,reduceCtorEq,f0]) (by simp -implicitDefEqProofs only[go_sem,γ,δ,ε,ζ,η,θ,ι,κ,μ,ν,ξ,ο,ρ,σ,τ,υ,reduceIte,reduceCtorEq,f3]) (by simp -implicitDefEqProofs only[go_sem,γ,δ,ε,ζ,η,θ,ι,κ,μ,ν,ξ,ο,ρ,σ,τ,υ,reduceIte,reduceCtorEq,f5]) (by simp -implicitDefEqProofs only[go_sem,γ,δ,ε,ζ,η,θ,ι,κ,μ,ν,ξ,ο,ρ,σ,τ,υ,reduceIte,reduceCtorEq,f6]) (by simp -implicitDefEqProofs only[go_sem,γ,δ,ε,ζ,η,θ,ι,κ,μ,ν,ξ,ο,ρ,σ,τ,υ,reduceIte,reduceCtorEq,f7]) (by simp -implicitDefEqProofs only[go_sem,γ,δ,ε,ζ,η,θ,ι,κ,μ,ν,ξ,ο,ρ,σ,τ,υ,reduceIte,reduceCtorEq,f8]) (by simp -implicitDefEqProofs only[go_sem,γ,δ,ε,ζ,η,θ,ι,κ,μ,ν,ξ,ο,ρ,σ,τ,υ,reduceIte,reduceCtorEq,f9])) ?_ ?_
  ·rw[hT]; simp -implicitDefEqProofs only[go_sem,γ,δ,ε,ζ,η,θ,ι,κ,μ,ν,ξ,ο,ρ,σ,τ,υ,reduceIte,reduceCtorEq]
  ·rw[hT]; exact hH
 rw[if_neg h0] at hT
 have h0':((f.drives.length:Nat):Int)>0:=by omega
 have e1:IntKind.i64.wrap ((at_:Int)+(k:Int))=((at_+k:Nat):Int):=by rw[wrap_i64 (by omega) (by omega)]; omega
 have na:=bC l 6 ha
 have nlt:=bM l (show 0<6 by decide) a
 have hz:¬ ((f.drives.length:Nat):Int)=0:=by omega
 have em:Int.tmod ((at_+k:Nat):Int) (f.drives.length:Nat)=(((at_+k)%f.drives.length:Nat):Int):=Int.ofNat_tmod _ _
 have e2:IntKind.i64.wrap ((f.drives.length:Int)+1)=((f.drives.length+1:Nat):Int):=aO (by omega)
 simp -implicitDefEqProofs only[go_sem,γ,δ,ε,ζ,η,θ,ι,κ,μ,ν,ξ,ο,ρ,σ,τ,υ,reduceIte,reduceCtorEq,h0',xT,f8,f9,f3,bgR,e1,hz,em,xU,f0]
 refine cB Lb T (o:=o) (n:=6) (a:=a) (by decide) ha (by simp -implicitDefEqProofs only[go_sem,γ,δ,ε,ζ,η,θ,ι,κ,μ,ν,ξ,ο,ρ,σ,τ,υ,reduceIte,reduceCtorEq,f0]; rfl) (hH.at 0 rfl) ?_
 have h1:=hH.set 0 rfl (aR v (aC l 6 a).2)
 generalize aC l 6 a=t at *
 simp -implicitDefEqProofs only[go_sem,γ,δ,ε,ζ,η,θ,ι,κ,μ,ν,ξ,ο,ρ,σ,τ,υ,reduceIte,reduceCtorEq,xV]
 by_cases c0:t.1=0
 ·rw[if_pos c0] at hT
  simp -implicitDefEqProofs only[go_sem,γ,δ,ε,ζ,η,θ,ι,κ,μ,ν,ξ,ο,ρ,σ,τ,υ,reduceIte,reduceCtorEq,bT (show ((t.1:Nat):Int)=0 by omega),xW,f0,f3,bgR]
  refine cB Lb T (o:=o) (n:=f.drives.length) (a:=t.2) (by omega) na (by simp -implicitDefEqProofs only[go_sem,γ,δ,ε,ζ,η,θ,ι,κ,μ,ν,ξ,ο,ρ,σ,τ,υ,reduceIte,reduceCtorEq,f0]) (h1.at 0 rfl) ?_
  have h2:=h1.set 0 rfl (aR v (aC l f.drives.length t.2).2)
  rw[PH.set_set] at h2
  simp -implicitDefEqProofs only[go_sem,γ,δ,ε,ζ,η,θ,ι,κ,μ,ν,ξ,ο,ρ,σ,τ,υ,reduceIte,reduceCtorEq]
  refine hK _ _ (hle _ (by simp -implicitDefEqProofs only[go_sem,γ,δ,ε,ζ,η,θ,ι,κ,μ,ν,ξ,ο,ρ,σ,τ,υ,reduceIte,reduceCtorEq,f0]) (by simp -implicitDefEqProofs only[go_sem,γ,δ,ε,ζ,η,θ,ι,κ,μ,ν,ξ,ο,ρ,σ,τ,υ,reduceIte,reduceCtorEq,f3]) (by simp -implicitDefEqProofs only[go_sem,γ,δ,ε,ζ,η,θ,ι,κ,μ,ν,ξ,ο,ρ,σ,τ,υ,reduceIte,reduceCtorEq,f5]) (by simp -implicitDefEqProofs only[go_sem,γ,δ,ε,ζ,η,θ,ι,κ,μ,ν,ξ,ο,ρ,σ,τ,υ,reduceIte,reduceCtorEq,f6]) (by simp -implicitDefEqProofs only[go_sem,γ,δ,ε,ζ,η,θ,ι,κ,μ,ν,ξ,ο,ρ,σ,τ,υ,reduceIte,reduceCtorEq,f7]) (by simp -implicitDefEqProofs only[go_sem,γ,δ,ε,ζ,η,θ,ι,κ,μ,ν,ξ,ο,ρ,σ,τ,υ,reduceIte,reduceCtorEq,f8]) (by simp -implicitDefEqProofs only[go_sem,γ,δ,ε,ζ,η,θ,ι,κ,μ,ν,ξ,ο,ρ,σ,τ,υ,reduceIte,reduceCtorEq,f9])) ?_ ?_
  ·rw[hT]; simp -implicitDefEqProofs only[go_sem,γ,δ,ε,ζ,η,θ,ι,κ,μ,ν,ξ,ο,ρ,σ,τ,υ,reduceIte,reduceCtorEq]
  ·rw[hT]; exact h2
 rw[if_neg c0] at hT
 by_cases c1:t.1=1
 ·rw[if_pos c1] at hT
  have nd:=bM l (show 0<f.drives.length+1 by omega) t.2
  have e3:IntKind.i64.wrap (((aC l (f.drives.length+1) t.2).1:Int)-1)=((aC l (f.drives.length+1) t.2).1:Int)-1:=wrap_i64 (by omega) (by omega)
  simp -implicitDefEqProofs only[go_sem,γ,δ,ε,ζ,η,θ,ι,κ,μ,ν,ξ,ο,ρ,σ,τ,υ,reduceIte,reduceCtorEq,bG (show ((t.1:Nat):Int)≠0 by omega),rI,bT (show ((t.1:Nat):Int)=1 by omega),xX,f0,f3,bgR,e2]
  refine cB Lb T (o:=o) (n:=f.drives.length+1) (a:=t.2) (by omega) na (by simp -implicitDefEqProofs only[go_sem,γ,δ,ε,ζ,η,θ,ι,κ,μ,ν,ξ,ο,ρ,σ,τ,υ,reduceIte,reduceCtorEq,f0]) (h1.at 0 rfl) ?_
  have h2:=h1.set 0 rfl (aR v (aC l (f.drives.length+1) t.2).2)
  rw[PH.set_set] at h2
  simp -implicitDefEqProofs only[go_sem,γ,δ,ε,ζ,η,θ,ι,κ,μ,ν,ξ,ο,ρ,σ,τ,υ,reduceIte,reduceCtorEq,e3]
  refine hK _ _ (hle _ (by simp -implicitDefEqProofs only[go_sem,γ,δ,ε,ζ,η,θ,ι,κ,μ,ν,ξ,ο,ρ,σ,τ,υ,reduceIte,reduceCtorEq,f0]) (by simp -implicitDefEqProofs only[go_sem,γ,δ,ε,ζ,η,θ,ι,κ,μ,ν,ξ,ο,ρ,σ,τ,υ,reduceIte,reduceCtorEq,f3]) (by simp -implicitDefEqProofs only[go_sem,γ,δ,ε,ζ,η,θ,ι,κ,μ,ν,ξ,ο,ρ,σ,τ,υ,reduceIte,reduceCtorEq,f5]) (by simp -implicitDefEqProofs only[go_sem,γ,δ,ε,ζ,η,θ,ι,κ,μ,ν,ξ,ο,ρ,σ,τ,υ,reduceIte,reduceCtorEq,f6]) (by simp -implicitDefEqProofs only[go_sem,γ,δ,ε,ζ,η,θ,ι,κ,μ,ν,ξ,ο,ρ,σ,τ,υ,reduceIte,reduceCtorEq,f7]) (by simp -implicitDefEqProofs only[go_sem,γ,δ,ε,ζ,η,θ,ι,κ,μ,ν,ξ,ο,ρ,σ,τ,υ,reduceIte,reduceCtorEq,f8]) (by simp -implicitDefEqProofs only[go_sem,γ,δ,ε,ζ,η,θ,ι,κ,μ,ν,ξ,ο,ρ,σ,τ,υ,reduceIte,reduceCtorEq,f9])) ?_ ?_
  ·rw[hT]; simp -implicitDefEqProofs only[go_sem,γ,δ,ε,ζ,η,θ,ι,κ,μ,ν,ξ,ο,ρ,σ,τ,υ,reduceIte,reduceCtorEq]
  ·rw[hT]; exact h2
 ·rw[if_neg c1] at hT
  simp -implicitDefEqProofs only[go_sem,γ,δ,ε,ζ,η,θ,ι,κ,μ,ν,ξ,ο,ρ,σ,τ,υ,reduceIte,reduceCtorEq,bG (show ((t.1:Nat):Int)≠0 by omega),rI,bG (show ((t.1:Nat):Int)≠1 by omega)]
  refine hK _ _ (hle _ (by simp -implicitDefEqProofs only[go_sem,γ,δ,ε,ζ,η,θ,ι,κ,μ,ν,ξ,ο,ρ,σ,τ,υ,reduceIte,reduceCtorEq,f0]) (by simp -implicitDefEqProofs only[go_sem,γ,δ,ε,ζ,η,θ,ι,κ,μ,ν,ξ,ο,ρ,σ,τ,υ,reduceIte,reduceCtorEq,f3]) (by simp -implicitDefEqProofs only[go_sem,γ,δ,ε,ζ,η,θ,ι,κ,μ,ν,ξ,ο,ρ,σ,τ,υ,reduceIte,reduceCtorEq,f5]) (by simp -implicitDefEqProofs only[go_sem,γ,δ,ε,ζ,η,θ,ι,κ,μ,ν,ξ,ο,ρ,σ,τ,υ,reduceIte,reduceCtorEq,f6]) (by simp -implicitDefEqProofs only[go_sem,γ,δ,ε,ζ,η,θ,ι,κ,μ,ν,ξ,ο,ρ,σ,τ,υ,reduceIte,reduceCtorEq,f7]) (by simp -implicitDefEqProofs only[go_sem,γ,δ,ε,ζ,η,θ,ι,κ,μ,ν,ξ,ο,ρ,σ,τ,υ,reduceIte,reduceCtorEq,f8]) (by simp -implicitDefEqProofs only[go_sem,γ,δ,ε,ζ,η,θ,ι,κ,μ,ν,ξ,ο,ρ,σ,τ,υ,reduceIte,reduceCtorEq,f9])) ?_ ?_
  ·rw[hT]; simp -implicitDefEqProofs only[go_sem,γ,δ,ε,ζ,η,θ,ι,κ,μ,ν,ξ,ο,ρ,σ,τ,υ,reduceIte,reduceCtorEq]
  ·rw[hT]; exact h1
theorem a1M {C:Ctx} (Lb:pG C) {l:List Nat} {v:PV} (T:Tp l v) (o:Nat) (f:aH) (hd:f.drives.length≤1000) (i n:Nat) (hn:n≤1000) (hfr:aI C 82 [.agg f.cells,.int .i64 i] .nil (aK (.int .i64 n))) (w:PV) (R:List (List PV)) (at_ a:Nat) (hat:at_≤1000) (ha:a≤l.length) (K:cC) (F:PF) (H:PH)
  (hF:(gD f o w i .nils at_ 0).le F) (hH:aS H [(o,aR v a)] [(w,1,R),(.nils,1,iiv [])])
  (hK:∀ w7 F' H',(gD f o w i w7 at_ n).le F'→aS H' [(o,aR v (gY l f.drives.length at_ a n).2)] [(w,1,R),(w7,1,iiv (gY l f.drives.length at_ a n).1)]→K (.exit 2) F' H') :
  aD.wp C (.loop xS) K F H:=by
 refine wp_loop (α:=Nat × PV × PH) (fun s=>gD f o w i s.2.1 at_ s.1) (fun s=>s.2.2) (fun s=>s.1≤n∧aS s.2.2 [(o,aR v (gY l f.drives.length at_ a s.1).2)] [(w,1,R),(s.2.1,1,iiv (gY l f.drives.length at_ a s.1).1)]) (fun s=>n-s.1) (0,.nils,H) ⟨bhC _,hH⟩ hF PH.le_refl ?_
 rintro⟨k,w7,H0⟩ ⟨hk,hH⟩
 simp only at hk hH ⊢
 obtain⟨k1,k2⟩:=uW l f.drives.length at_ ha k
 have hstep:gY l f.drives.length at_ a (k+1)=((gY l f.drives.length at_ a k).1++[(lZ l f.drives.length at_ k (gY l f.drives.length at_ a k).2).1],(lZ l f.drives.length at_ k (gY l f.drives.length at_ a k).2).2):=rfl
 generalize hs:gY l f.drives.length at_ a k=s at *
 rw[a1L]
 simp -implicitDefEqProofs only[go_sem,γ,δ,ε,ζ,η,θ,ι,κ,μ,ν,ξ,ο,ρ,σ,τ,υ,reduceIte,reduceCtorEq,DC,gD]
 refine aB hfr (by simp -implicitDefEqProofs only[go_sem,γ,δ,ε,ζ,η,θ,ι,κ,μ,ν,ξ,ο,ρ,σ,τ,υ,reduceIte,reduceCtorEq]) ?_
 by_cases hlt:k<n
 ·have hlt':(k:Int)<(n:Nat):=by omega
  have h11:(1:Nat)*1≤16777216:=by decide
  simp -implicitDefEqProofs only[go_sem,γ,δ,ε,ζ,η,θ,ι,κ,μ,ν,ξ,ο,ρ,σ,τ,υ,reduceIte,reduceCtorEq,hlt']
  refine aWF (C:=C) Lb T o f hd w w7 i at_ k s.2 (by omega) (by omega) k1 _ _ _ _ (by unfold gD; (repeat' (first|exact PF.nil_le|refine PF.aA ?_ ?_))<;>first|(simp -implicitDefEqProofs only[go_sem,γ,δ,ε,ζ,η,θ,ι,κ,μ,ν,ξ,ο,ρ,σ,τ,υ,reduceIte,reduceCtorEq]<;>rfl)|rfl) hH ?_
  intro F1 H1 hF1 f10 h1
  have f0:F1 0=some (.ptr o 2 0 0):=hF1 0 _ (by unfold gD; simp -implicitDefEqProofs only[go_sem,γ,δ,ε,ζ,η,θ,ι,κ,μ,ν,ξ,ο,ρ,σ,τ,υ,reduceIte,reduceCtorEq])
  have f3:F1 3=some (.rptr f.cells):=hF1 3 _ (by unfold gD; simp -implicitDefEqProofs only[go_sem,γ,δ,ε,ζ,η,θ,ι,κ,μ,ν,ξ,ο,ρ,σ,τ,υ,reduceIte,reduceCtorEq])
  have f5:F1 5=some w:=hF1 5 _ (by unfold gD; simp -implicitDefEqProofs only[go_sem,γ,δ,ε,ζ,η,θ,ι,κ,μ,ν,ξ,ο,ρ,σ,τ,υ,reduceIte,reduceCtorEq])
  have f6:F1 6=some (.int .i64 i):=hF1 6 _ (by unfold gD; simp -implicitDefEqProofs only[go_sem,γ,δ,ε,ζ,η,θ,ι,κ,μ,ν,ξ,ο,ρ,σ,τ,υ,reduceIte,reduceCtorEq])
  have f7:F1 7=some w7:=hF1 7 _ (by unfold gD; simp -implicitDefEqProofs only[go_sem,γ,δ,ε,ζ,η,θ,ι,κ,μ,ν,ξ,ο,ρ,σ,τ,υ,reduceIte,reduceCtorEq])
  have f8:F1 8=some (.int .i64 at_):=hF1 8 _ (by unfold gD; simp -implicitDefEqProofs only[go_sem,γ,δ,ε,ζ,η,θ,ι,κ,μ,ν,ξ,ο,ρ,σ,τ,υ,reduceIte,reduceCtorEq])
  have f9:F1 9=some (.int .i64 k):=hF1 9 _ (by unfold gD; simp -implicitDefEqProofs only[go_sem,γ,δ,ε,ζ,η,θ,ι,κ,μ,ν,ξ,ο,ρ,σ,τ,υ,reduceIte,reduceCtorEq])
  simp -implicitDefEqProofs only[go_sem,γ,δ,ε,ζ,η,θ,ι,κ,μ,ν,ξ,ο,ρ,σ,τ,υ,reduceIte,reduceCtorEq,rJ,f7,f10,h11]
  refine h1.append 1 (src:=[[PV.int .i64 (lZ l f.drives.length at_ k s.2).1]]) rfl (by simp -implicitDefEqProofs only[go_sem,γ,δ,ε,ζ,η,θ,ι,κ,μ,ν,ξ,ο,ρ,σ,τ,υ,reduceIte,reduceCtorEq]) (by unfold roomFor; rw[bgR,k2]; simp only[bgX,maxLen]; omega) fun w' H' h' _=>?_
  simp -implicitDefEqProofs only[go_sem,γ,δ,ε,ζ,η,θ,ι,κ,μ,ν,ξ,ο,ρ,σ,τ,υ,reduceIte,reduceCtorEq,xY,f9,aO (show k<9223372036854775807 by omega)]
  refine aJ (k+1,w',H') ⟨hlt,?_⟩ (by simp only; omega) ?_ PH.le_refl
  ·simp only
   rw[hstep]
   have:iiv (s.1++[(lZ l f.drives.length at_ k s.2).1])=iiv s.1++[[PV.int .i64 (lZ l f.drives.length at_ k s.2).1]]:=by simp[iiv]
   rw[this]
   exact h'
  ·(repeat' (first|exact PF.nil_le|refine PF.aA ?_ ?_))<;>first|(simp -implicitDefEqProofs only[go_sem,γ,δ,ε,ζ,η,θ,ι,κ,μ,ν,ξ,ο,ρ,σ,τ,υ,reduceIte,reduceCtorEq,f0,f3,f5,f6,f8]<;>rfl)|rfl
 ·have hlt':¬ (k:Int)<(n:Nat):=by omega
  have:k=n:=by omega
  subst this
  simp -implicitDefEqProofs only[go_sem,γ,δ,ε,ζ,η,θ,ι,κ,μ,ν,ξ,ο,ρ,σ,τ,υ,reduceIte,reduceCtorEq,hlt']
  refine hK w7 _ _ ?_ (by rw[hs]; exact hH)
  unfold gD
  (repeat' (first|exact PF.nil_le|refine PF.aA ?_ ?_))<;>first|(simp -implicitDefEqProofs only[go_sem,γ,δ,ε,ζ,η,θ,ι,κ,μ,ν,ξ,ο,ρ,σ,τ,υ,reduceIte,reduceCtorEq]<;>rfl)|rfl
def aBI (l:List Nat) (v:PV) (o a:Nat) (f:aH) (r:PV) (H:PH):Prop:=Co r (lay (cG l f a f.volumes.length).1)∧H=PH.nil.set o (aR v (cG l f a f.volumes.length).2)
theorem aLO {C:Ctx} (Lb:pG C) {l:List Nat} {v:PV} (T:Tp l v) (o a:Nat) (f:aH) (hV:VF f) (hfr:∀ i,i<f.volumes.length→aI C 82 [.agg f.cells,.int .i64 i] .nil (aK (.int .i64 (fS f i)))) (ha:a≤l.length) :
  uX.wp C (aX AC.res (aBI l v o a f)) (PF.args [.ptr o 2 0 0,.agg f.cells]) (PH.nil.set o (aR v a)):=by
 have hd:=hV.small.drives
 have hvl:=hV.small.volumes
 have h0:aS (PH.nil.set o (aR v a)) [(o,aR v a)] [(.nils,1,kA [])]:=(aS.nil.new (H:=PH.nil) rfl (aR v a)).qB 1
 have hR:∀ r H,aBI l v o a f r H↔Co r (lay (cG l f a f.volumes.length).1)∧H=PH.nil.set o (aR v (cG l f a f.volumes.length).2):=fun _ _=>Iff.rfl
 simp -implicitDefEqProofs only[go_sem,γ,δ,ε,ζ,η,θ,ι,κ,μ,ν,ξ,ο,ρ,σ,τ,υ,reduceIte,reduceCtorEq,uX,VW,AC,VX,VY]
 refine wp_loop (α:=Nat × PV × PH) (fun s=>aWD f o s.2.1 s.1) (fun s=>s.2.2) (fun s=>s.1≤f.volumes.length∧aS s.2.2 [(o,aR v (cG l f a s.1).2)] [(s.2.1,1,kA (cG l f a s.1).1)]) (fun s=>f.volumes.length-s.1) (0,.nils,_) ⟨bhC _,h0⟩ ?_ PH.le_refl ?_
 ·unfold aWD
  (repeat' (first|exact PF.nil_le|refine PF.aA ?_ ?_))<;>first|(simp -implicitDefEqProofs only[go_sem,γ,δ,ε,ζ,η,θ,ι,κ,μ,ν,ξ,ο,ρ,σ,τ,υ,reduceIte,reduceCtorEq]<;>rfl)|rfl
 rintro⟨i,w,H0⟩ ⟨hi,hH⟩
 simp only at hi hH ⊢
 obtain⟨k1,k2⟩:=pW l f ha i
 simp -implicitDefEqProofs only[go_sem,γ,δ,ε,ζ,η,θ,ι,κ,μ,ν,ξ,ο,ρ,σ,τ,υ,reduceIte,reduceCtorEq,NH,VZ,aWD,bgR]
 by_cases hlt:i<f.volumes.length
 ·have hlt':(i:Int)<(f.volumes.length:Nat):=by omega
  obtain⟨hp,he⟩:=qY hV hlt
  have hpol:=hV.policy _ (bgY hp)
  rw[he] at hpol
  obtain⟨n,hn⟩:∃ n:Nat,fS f i=n:=⟨(fS f i).toNat,by unfold fS; omega⟩
  have hn1:1≤n∧n≤8:=by unfold fS at hn; omega
  have hfi:=hfr i hlt
  rw[hn] at hfi
  have hstep:cG l f a (i+1)=((cG l f a i).1++[(gY l f.drives.length (aC l (f.drives.length+1) (cG l f a i).2).1 (aC l (f.drives.length+1) (cG l f a i).2).2 (fS f i).toNat).1],(gY l f.drives.length (aC l (f.drives.length+1) (cG l f a i).2).1 (aC l (f.drives.length+1) (cG l f a i).2).2 (fS f i).toNat).2):=rfl
  rw[hn,Int.toNat_natCast] at hstep
  generalize hs:cG l f a i=s at *
  have e2:IntKind.i64.wrap ((f.drives.length:Int)+1)=((f.drives.length+1:Nat):Int):=aO (by omega)
  have nl1:=bM l (show 0<f.drives.length+1 by omega) s.2
  have nl2:=bC l (f.drives.length+1) k1
  simp -implicitDefEqProofs only[go_sem,γ,δ,ε,ζ,η,θ,ι,κ,μ,ν,ξ,ο,ρ,σ,τ,υ,reduceIte,reduceCtorEq,hlt',WA,WB,bgR,e2]
  refine cB Lb T (o:=o) (n:=f.drives.length+1) (a:=s.2) (by omega) k1 (by simp -implicitDefEqProofs only[go_sem,γ,δ,ε,ζ,η,θ,ι,κ,μ,ν,ξ,ο,ρ,σ,τ,υ,reduceIte,reduceCtorEq]) (hH.at 0 rfl) ?_
  have h1:=(hH.set 0 rfl (aR v (aC l (f.drives.length+1) s.2).2)).qB 1
  generalize aC l (f.drives.length+1) s.2=t at *
  obtain⟨r1,r2⟩:=uW l f.drives.length t.1 nl2 n
  simp -implicitDefEqProofs only[go_sem,γ,δ,ε,ζ,η,θ,ι,κ,μ,ν,ξ,ο,ρ,σ,τ,υ,reduceIte,reduceCtorEq,WC]
  refine a1M (C:=C) Lb T o f (by omega) i n (by omega) hfi w (kA s.1) t.1 t.2 (by omega) nl2 _ _ _ (by unfold gD; (repeat' (first|exact PF.nil_le|refine PF.aA ?_ ?_))<;>first|(simp -implicitDefEqProofs only[go_sem,γ,δ,ε,ζ,η,θ,ι,κ,μ,ν,ξ,ο,ρ,σ,τ,υ,reduceIte,reduceCtorEq]<;>rfl)|rfl) h1 ?_
  intro w7 F1 H1 hF1 h2
  generalize hrow:gY l f.drives.length t.1 t.2 n=row at *
  obtain⟨q,rfl⟩:=(h2.own 1 rfl).one (by rw[bgR]; omega)
  have f0:F1 0=some (.ptr o 2 0 0):=hF1 0 _ (by unfold gD; simp -implicitDefEqProofs only[go_sem,γ,δ,ε,ζ,η,θ,ι,κ,μ,ν,ξ,ο,ρ,σ,τ,υ,reduceIte,reduceCtorEq])
  have f3:F1 3=some (.rptr f.cells):=hF1 3 _ (by unfold gD; simp -implicitDefEqProofs only[go_sem,γ,δ,ε,ζ,η,θ,ι,κ,μ,ν,ξ,ο,ρ,σ,τ,υ,reduceIte,reduceCtorEq])
  have f5:F1 5=some w:=hF1 5 _ (by unfold gD; simp -implicitDefEqProofs only[go_sem,γ,δ,ε,ζ,η,θ,ι,κ,μ,ν,ξ,ο,ρ,σ,τ,υ,reduceIte,reduceCtorEq])
  have f6:F1 6=some (.int .i64 i):=hF1 6 _ (by unfold gD; simp -implicitDefEqProofs only[go_sem,γ,δ,ε,ζ,η,θ,ι,κ,μ,ν,ξ,ο,ρ,σ,τ,υ,reduceIte,reduceCtorEq])
  have f7:F1 7=some (.osl q 1 0 (iiv row.1).length):=hF1 7 _ (by unfold gD; simp -implicitDefEqProofs only[go_sem,γ,δ,ε,ζ,η,θ,ι,κ,μ,ν,ξ,ο,ρ,σ,τ,υ,reduceIte,reduceCtorEq])
  have h11:(1:Nat)*1≤16777216:=by decide
  simp -implicitDefEqProofs only[go_sem,γ,δ,ε,ζ,η,θ,ι,κ,μ,ν,ξ,ο,ρ,σ,τ,υ,reduceIte,reduceCtorEq,NI,f5,f7,h11]
  refine h2.append 0 (src:=[[.osl q 1 0 (iiv row.1).length]]) rfl (by simp -implicitDefEqProofs only[go_sem,γ,δ,ε,ζ,η,θ,ι,κ,μ,ν,ξ,ο,ρ,σ,τ,υ,reduceIte,reduceCtorEq]) (by unfold roomFor; rw[bgR,k2]; simp only[bgX,maxLen]; omega) fun w' H' h3 hw=>?_
  obtain⟨q',rfl⟩:=hw (by simp)
  obtain⟨rs,z1,z2,z3,z4,z5⟩:=h3.frz 1 rfl
  have y1:=z4 0 _ (by decide) rfl
  simp only at y1
  have y0:=T.frz q 1 rs
  have yf:PV.frz q 1 rs (PV.osl q' 1 0 (kA s.1++[[PV.osl q 1 0 (iiv row.1).length]]).length)=PV.osl q' 1 0 (kA s.1++[[PV.osl q 1 0 (iiv row.1).length]]).length:=y1
  simp -implicitDefEqProofs only[go_sem,γ,δ,ε,ζ,η,θ,ι,κ,μ,ν,ξ,ο,ρ,σ,τ,υ,reduceIte,reduceCtorEq,NJ,f6,aO (show i<9223372036854775807 by omega)]
  refine HO (i+1,PV.osl q' 1 0 (kA s.1++[[PV.osl q 1 0 (iiv row.1).length]]).length,H'.frz q 1 rs) z1 ⟨hlt,?_⟩ (by simp only; omega) ?_ PH.le_refl
  ·simp only
   rw[hstep]
   have eB:([(o,aR v row.2)]:List BX).map (fun b=>(b.1,b.2.frz q 1 rs))=[(o,aR v row.2)]:=by
    show [(o,bV.rows 2 [[PV.cX q 1 rs v,.int .i64 row.2]])]=_
    rw[y0]
   have e5:(kA s.1++[[PV.osl q 1 0 (iiv row.1).length]]).map (fun r=>r.map (PV.cX q 1 rs))=kA (s.1++[row.1]):=by
    rw[biN,a1G]
    show kA s.1++[[PV.cX q 1 rs (.osl q 1 0 (iiv row.1).length)]]=_
    rw[z2]
    simp[kA]
   rw[← eB,← e5]
   exact z5
  ·have e7:(kA s.1++[[PV.osl q 1 0 (iiv row.1).length]]).length=(kA s.1++[[PV.osl q 1 0 row.1.length]]).length:=by simp
   rw[e7] at yf ⊢
   (repeat' (first|exact PF.nil_le|refine PF.aA ?_ ?_))<;>first|(simp -implicitDefEqProofs only[go_sem,γ,δ,ε,ζ,η,θ,ι,κ,μ,ν,ξ,ο,ρ,σ,τ,υ,reduceIte,reduceCtorEq,f0,f3,yf]<;>rfl)|rfl
 ·have hlt':¬ (i:Int)<(f.volumes.length:Nat):=by omega
  have:i=f.volumes.length:=by omega
  subst this
  simp -implicitDefEqProofs only[go_sem,γ,δ,ε,ζ,η,θ,ι,κ,μ,ν,ξ,ο,ρ,σ,τ,υ,reduceIte,reduceCtorEq,hlt',NK]
  rcases hH.own 0 rfl with ⟨h1',rfl⟩ | ⟨q,rs,rfl,_⟩
  ·refine aW (vs:=[.nils]) (.inr rfl) (PH.nil.set o (aR v (cG l f a f.volumes.length).2)) (by simp -implicitDefEqProofs only[go_sem,γ,δ,ε,ζ,η,θ,ι,κ,μ,ν,ξ,ο,ρ,σ,τ,υ,reduceIte,reduceCtorEq]) (PH.aA PH.nil_le (hH.at 0 rfl)) ?_
   rw[cN,hR]
   refine⟨?_,rfl⟩
   unfold lay
   rw[show (cG l f a f.volumes.length).1.map (fun r=>[ints r])=[] from h1']
   exact .nil 1
  ·obtain⟨rs,g1,g2,g3,-,g4⟩:=hH.frz 0 rfl
   refine AH (vs:=[.osl q 1 0 (kA (cG l f a f.volumes.length).1).length]) (.inr rfl) (by simp -implicitDefEqProofs only[go_sem,γ,δ,ε,ζ,η,θ,ι,κ,μ,ν,ξ,ο,ρ,σ,τ,υ,reduceIte,reduceCtorEq]) (.step g1 (.done (H2:=PH.nil.set o (aR v (cG l f a f.volumes.length).2)) ?_ (PH.aA PH.nil_le ?_)))
   ·rw[cN,g3,hR]
    exact⟨.refl _,rfl⟩
   ·have:=g4.at 0 rfl
    rw[this]
    simp only[bV.frz,bhY,biQ,T.frz]
    rfl
end Go.PM
namespace Go.PM
open Go Go.Na
structure LJ (C:Ctx):Prop extends SW C where
 new:∀ (l:List Nat),(∀ x∈l,x<256)→l.length≤9223372036854775807→aI C 28 [.sl 1 (eM l)] .nil (akM l)
 tfleet:∀ (l:List Nat) (v:PV),Tp l v→∀ (o drives volumes a:Nat),drives≤60→volumes≤50→a≤l.length →
  aI C 0 [.ptr o 2 0 0,.int .i64 drives,.int .i64 volumes] (PH.nil.set o (aR v a)) (fun r H=>r=.agg (fD l drives volumes a).1.cells∧H=PH.nil.set o (aR v (fD l drives volumes a).2))
 tlayout:∀ (l:List Nat) (v:PV),Tp l v→∀ (o a:Nat) (f:aH),VF f→a≤l.length→aI C 3 [.ptr o 2 0 0,.agg f.cells] (PH.nil.set o (aR v a)) (fun r H=>r=lay (cG l f a f.volumes.length).1∧H=PH.nil.set o (aR v (cG l f a f.volumes.length).2))
 tQ:∀ (l:List Nat) (v:PV),Tp l v→∀ (o a:Nat) (f:aH),f.drives.length≤1000→a≤l.length→aI C 6 [.ptr o 2 0 0,.agg f.cells] (PH.nil.set o (aR v a)) (fun r H=>r=ints (jS l f a).1∧H=PH.nil.set o (aR v (jS l f a).2))
 roomM:∀ (f:aH) (room:List Int),f.Ok→aI C 152 [.agg f.cells,ints room] .nil (kJ 1 (cW (wH f room)))
theorem exactly {C:Ctx} {name:Nat} {args:List PV} {H H2:PH} {v:PV} (h:aI C name args H (fun r H'=>Co r v∧H'=H2)):aI C name args H (fun r H'=>r=v∧H'=H2) :=
 h.post fun r H' hr=>⟨_,hr.1,rfl,hr.2⟩
def fT (l:List Nat) (d v:Nat):aH:=(fD (l.take 400) d v 0).1
def faT (l:List Nat) (d v:Nat):Nat:=(fD (l.take 400) d v 0).2
def lT (l:List Nat) (d v:Nat):List (List Int):=(cG (l.take 400) (fT l d v) (faT l d v) (fT l d v).volumes.length).1
def laT (l:List Nat) (d v:Nat):Nat:=(cG (l.take 400) (fT l d v) (faT l d v) (fT l d v).volumes.length).2
def rT (l:List Nat) (d v:Nat):List Int:=(jS (l.take 400) (fT l d v) (laT l d v)).1
theorem GR (l:List Nat) (drives volumes:Nat) {a:Nat} (h:a≤l.length):(fD l drives volumes a).2≤l.length:=by
 have ae:=bC l 2 h
 have alw:=bC l 2 ae
 obtain⟨alaws,-⟩:=CC l alw (1+(aC l 2 (aC l 2 a).2).1)
 have amd:=bC l 2 alaws
 obtain⟨amodels,-⟩:=tJ l (1+(aC l 2 (aC l 2 a).2).1) amd (1+(aC l 2 (fL l (aC l 2 (aC l 2 a).2).2 (1+(aC l 2 (aC l 2 a).2).1)).2).1)
 obtain⟨hG,-⟩:=BP (mc:=1+(aC l 2 (fL l (aC l 2 (aC l 2 a).2).2 (1+(aC l 2 (aC l 2 a).2).1)).2).1) 4 0 (⟨by simp,bhC _,amodels⟩:GOk l drives ⟨[kE],[],_⟩)
 exact (zO l _ (bC l (volumes+1) (qG l _ (bC l 2 hG.a) _).1) _).1
theorem aVH (l:List Nat) (drives at_ i a:Nat):-1≤(lZ l drives at_ i a).1∧(lZ l drives at_ i a).1<drives:=by
 unfold lZ
 split
 ·simp only; omega
 ·rename_i h
  have h1:=bM l (show 0<drives by omega) (aC l 6 a).2
  have h2:=bM l (show 0<drives+1 by omega) (aC l 6 a).2
  have h3:=bhX (at_+i) (show 0<drives by omega)
  simp only
  split
  ·simp only; omega
  ·split
   ·simp only; omega
   ·simp only; omega
theorem aqA (l:List Nat) (drives at_ a:Nat):∀ k,∀ x∈(gY l drives at_ a k).1,-1≤x∧x<drives
 | 0,x,h=>by cases h
 | k+1,x,h=>by
  rcases biK.1 h with h | h
  ·exact aqA l drives at_ a k x h
  ·rw[List.mem_singleton] at h
   subst h
   exact aVH l drives at_ k _
structure xB (f:aH) (L:List (List Int)):Prop where
 len:L.length=f.volumes.length
 row:∀ v (h:v<L.length),((L[v].length:Nat):Int)=fS f v
 home:∀ r∈L,∀ x∈r,-1≤x∧x<f.drives.length
theorem acZ (l:List Nat) {f:aH} (hV:VF f) {a:Nat} (ha:a≤l.length):∀ k,k≤f.volumes.length→(cG l f a k).1.length=k∧(∀ v (h:v<(cG l f a k).1.length),(((cG l f a k).1[v].length:Nat):Int)=fS f v)∧∀ r∈(cG l f a k).1,∀ x∈r,-1≤x∧x<f.drives.length
 | 0,_=>⟨rfl,fun v h=>absurd h (by simp[cG]),fun r h=>by cases h⟩
 | k+1,hk=>by
  obtain⟨h1,h2,h3⟩:=acZ l hV ha k (by omega)
  obtain⟨hp,he⟩:=qY hV (show k<f.volumes.length by omega)
  have hpol:=hV.policy _ (bgY hp)
  rw[he] at hpol
  have hn:((fS f k).toNat:Int)=fS f k:=by unfold fS; omega
  have ha2:=(pW l f ha k).1
  have hr:=(uW l f.drives.length (aC l (f.drives.length+1) (cG l f a k).2).1 (bC l (f.drives.length+1) ha2) (fS f k).toNat).2
  have hi:=aqA l f.drives.length (aC l (f.drives.length+1) (cG l f a k).2).1 (aC l (f.drives.length+1) (cG l f a k).2).2 (fS f k).toNat
  have hstep:(cG l f a (k+1)).1=(cG l f a k).1++[(gY l f.drives.length (aC l (f.drives.length+1) (cG l f a k).2).1 (aC l (f.drives.length+1) (cG l f a k).2).2 (fS f k).toNat).1]:=rfl
  rw[hstep]
  generalize (gY l f.drives.length (aC l (f.drives.length+1) (cG l f a k).2).1 (aC l (f.drives.length+1) (cG l f a k).2).2 (fS f k).toNat).1=row at *
  generalize (cG l f a k).1=L at *
  refine⟨by simp[h1],fun v h=>?_,fun r h=>?_⟩
  ·by_cases hv:v<L.length
   ·rw[List.getElem_append_left hv]; exact h2 v hv
   ·have hv2:v=k:=by simp at h; omega
    subst hv2
    rw[List.getElem_append_right (by omega)]
    simp only[h1,Nat.sub_self,List.getElem_cons_zero]
    rw[hr,hn]
  ·rcases biK.1 h with h | h
   ·exact h3 r h
   ·rw[List.mem_singleton] at h
    subst h
    exact hi
theorem xB.a7U {f:aH} {L:List (List Int)} (h:xB f L) (hV:VF f):∀ k,k≤L.length→(L.take k).flatten.length≤k*8:=by
 have hl:=h.len
 intro k
 induction k with
 | zero=>intro _; simp
 | succ k ih =>
  intro hk
  rw[vW L hk,bgU]
  have h1:=ih (by omega)
  have h2:=h.row k hk
  obtain⟨hp,he⟩:=qY hV (show k<f.volumes.length by omega)
  have hpol:=hV.policy _ (bgY hp)
  rw[he] at hpol
  unfold fS at h2
  omega
theorem xB.ok {f:aH} (hV:VF f) {L:List (List Int)} (h:xB f L):jO L:=by
 have hv:=hV.small.volumes
 have hl:=h.len
 have:=h.a7U hV L.length (bgV _)
 rw[biB] at this
 exact⟨by omega,by omega⟩
theorem bcS (l:List Nat) {d v:Nat} (hd:d≤24) (hv:v≤12):xB (fT l d v) (lT l d v):=by
 obtain⟨h1,h2,h3⟩:=acZ (l.take 400) (VF.of (mI (l.take 400) d v 0 hd hv).1) (GR (l.take 400) d v (bhC _)) (fT l d v).volumes.length (bgV _)
 exact⟨h1,h2,h3⟩
end Go.PM
namespace Go.PM
open Go
section
variable {C:Ctx} {F F':PF} {H:PH}
theorem cE (hle:F.le F') {x:aM} {v:PV} (h:x.ev F=some v):x.ev F'=some v:=by
 cases x
 ·exact hle _ _ h
 all_goals exact h
theorem TK (hle:F.le F'):∀ {xs:List aM} {vs:List PV},aM.evs F xs=some vs→aM.evs F' xs=some vs
 | [],_,h=>h
 | x::xs,vs,h=>by
  rw[uN] at h ⊢
  cases hx:x.ev F with
  | none=>simp[hx] at h
  | some v =>
   cases hs:aM.evs F xs with
   | none=>simp[hs] at h
   | some ws =>
    rw[hx,hs] at h
    rw[cE hle hx,TK hle hs]
    exact h
theorem alU (hle:F.le F'):∀ {ps:List (Nat × Nat × aM)} {cs ds:List PV},mT cs F ps=some ds→mT cs F' ps=some ds
 | [],_,_,h=>h
 | (off,size,x)::ps,cs,ds,h=>by
  simp only[mT] at h ⊢
  cases hx:x.ev F with
  | none=>simp[hx] at h
  | some v =>
   rw[hx] at h
   rw[cE hle hx]
   simp only at h ⊢
   split at h
   ·rename_i hc; rw[if_pos hc]; exact alU hle h
   ·cases h
theorem xD (hle:F.le F') {size:Nat}:∀ {ps:List (Nat × aM)} {cs ds:List (List PV)},fO size cs F ps=some ds→fO size cs F' ps=some ds
 | [],_,_,h=>h
 | (i,x)::ps,cs,ds,h=>by
  simp only[fO] at h ⊢
  cases hx:x.ev F with
  | none=>simp[hx] at h
  | some v =>
   rw[hx] at h
   rw[cE hle hx]
   simp only at h ⊢
   split at h
   ·rename_i hc; rw[if_pos hc]; exact xD hle h
   ·cases h
theorem GC (hle:F.le F') {d n:Int} {x:Option aM} (h:bnd F d x=some n):bnd F' d x=some n:=by
 cases x with
 | none=>exact h
 | some x =>
  simp only[bnd] at h ⊢
  cases hx:x.ev F with
  | none=>simp[hx] at h
  | some v=>rw[cE hle hx,← hx]; exact h
theorem auD {op:POp} {v:PV} (hle:F.le F') (h:aL op F H=some v):aL op F' H=some v:=by
 cases op
 case mv x=>exact cE hle h
 case pick c a b =>
  simp only[aL] at h ⊢
  cases hc:c.ev F with
  | none=>simp[hc] at h
  | some t =>
   rw[hc] at h
   rw[cE hle hc]
   cases t<;>simp only at h ⊢<;>try cases h
   rename_i t
   cases t
   ·simp only[bjW,if_false] at h ⊢; exact cE hle h
   ·simp only[if_true] at h ⊢; exact cE hle h
 case same x =>
  simp only[aL] at h ⊢
  cases hx:x.ev F with
  | none=>simp[hx] at h
  | some a=>rw[cE hle hx,← hx]; exact h
 case un o x =>
  simp only[aL] at h ⊢
  cases hx:x.ev F with
  | none=>simp[hx] at h
  | some a=>rw[cE hle hx,← hx]; exact h
 case conv k x =>
  simp only[aL] at h ⊢
  cases hx:x.ev F with
  | none=>simp[hx] at h
  | some a=>rw[cE hle hx,← hx]; exact h
 case nilchk x =>
  simp only[aL] at h ⊢
  cases hx:x.ev F with
  | none=>simp[hx] at h
  | some a=>rw[cE hle hx,← hx]; exact h
 case fieldA o x =>
  simp only[aL] at h ⊢
  cases hx:x.ev F with
  | none=>simp[hx] at h
  | some a=>rw[cE hle hx,← hx]; exact h
 case field o n x =>
  simp only[aL] at h ⊢
  cases hx:x.ev F with
  | none=>simp[hx] at h
  | some a=>rw[cE hle hx,← hx]; exact h
 case lenStr x =>
  simp only[aL] at h ⊢
  cases hx:x.ev F with
  | none=>simp[hx] at h
  | some a=>rw[cE hle hx,← hx]; exact h
 case capNil x =>
  simp only[aL] at h ⊢
  cases hx:x.ev F with
  | none=>simp[hx] at h
  | some a=>rw[cE hle hx,← hx]; exact h
 case extract x i =>
  simp only[aL] at h ⊢
  cases hx:x.ev F with
  | none=>simp[hx] at h
  | some a=>rw[cE hle hx,← hx]; exact h
 case bytes2str x =>
  simp only[aL] at h ⊢
  cases hx:x.ev F with
  | none=>simp[hx] at h
  | some a=>rw[cE hle hx,← hx]; exact h
 case len x =>
  simp only[aL] at h ⊢
  cases hx:x.ev F with
  | none=>simp[hx] at h
  | some a=>rw[cE hle hx,← hx]; exact h
 case box r x =>
  cases r
  ·cases h
  simp only[aL] at h ⊢
  cases hx:x.ev F with
  | none=>simp[hx] at h
  | some a=>rw[cE hle hx,← hx]; exact h
 case load n p =>
  cases n
  all_goals
   simp only[aL] at h ⊢
   cases hx:p.ev F with
   | none=>simp[hx] at h
   | some a=>rw[cE hle hx,← hx]; exact h
 case bin o x y =>
  simp only[aL] at h ⊢
  cases hx:x.ev F with
  | none=>simp[hx] at h
  | some a =>
   cases hy:y.ev F with
   | none=>simp[hx,hy] at h
   | some b=>rw[cE hle hx,cE hle hy,← hx,← hy]; exact h
 case eqb n x y =>
  simp only[aL] at h ⊢
  cases hx:x.ev F with
  | none=>simp[hx] at h
  | some a =>
   cases hy:y.ev F with
   | none=>simp[hx,hy] at h
   | some b=>rw[cE hle hx,cE hle hy,← hx,← hy]; exact h
 case eqs n k x y =>
  simp only[aL] at h ⊢
  cases hx:x.ev F with
  | none=>simp[hx] at h
  | some a =>
   cases hy:y.ev F with
   | none=>simp[hx,hy] at h
   | some b=>rw[cE hle hx,cE hle hy,← hx,← hy]; exact h
 case idxS s x i =>
  simp only[aL] at h ⊢
  cases hx:x.ev F with
  | none=>simp[hx] at h
  | some a =>
   cases hy:i.ev F with
   | none=>simp[hx,hy] at h
   | some b=>rw[cE hle hx,cE hle hy,← hx,← hy]; exact h
 case idxA n s x i =>
  simp only[aL] at h ⊢
  cases hx:x.ev F with
  | none=>simp[hx] at h
  | some a =>
   cases hy:i.ev F with
   | none=>simp[hx,hy] at h
   | some b=>rw[cE hle hx,cE hle hy,← hx,← hy]; exact h
 case idxV n s g x i =>
  simp only[aL] at h ⊢
  cases hx:x.ev F with
  | none=>simp[hx] at h
  | some a =>
   cases hy:i.ev F with
   | none=>simp[hx,hy] at h
   | some b=>rw[cE hle hx,cE hle hy,← hx,← hy]; exact h
 case idxStr x i =>
  simp only[aL] at h ⊢
  cases hx:x.ev F with
  | none=>simp[hx] at h
  | some a =>
   cases hy:i.ev F with
   | none=>simp[hx,hy] at h
   | some b=>rw[cE hle hx,cE hle hy,← hx,← hy]; exact h
 case minmax m x y =>
  simp only[aL] at h ⊢
  cases hx:x.ev F with
  | none=>simp[hx] at h
  | some a =>
   cases hy:y.ev F with
   | none=>simp[hx,hy] at h
   | some b=>rw[cE hle hx,cE hle hy,← hx,← hy]; exact h
 case lookup sh z x k ok =>
  simp only[aL] at h ⊢
  cases hx:x.ev F with
  | none=>simp[hx] at h
  | some a =>
   cases hy:k.ev F with
   | none=>simp[hx,hy] at h
   | some b=>rw[cE hle hx,cE hle hy,← hx,← hy]; exact h
 case build z ps =>
  simp only[aL,bgW] at h ⊢
  obtain⟨cs,h1,h2⟩:=h
  exact⟨cs,alU hle h1,h2⟩
 case bslice r s l z ps =>
  cases r
  ·cases h
  simp only[aL] at h ⊢
  split at h
  ·rename_i hc
   rw[if_pos hc]
   rw[bgW] at h ⊢
   obtain⟨cs,h1,h2⟩:=h
   exact⟨cs,xD hle h1,h2⟩
  ·cases h
 case mkfn n cs =>
  simp only[aL,bgW] at h ⊢
  obtain⟨vs,h1,h2⟩:=h
  exact⟨vs,TK hle h1,h2⟩
 case sliceA n s x lo hi mx =>
  cases lo<;>cases hi<;>cases mx<;>simp only[aL] at h ⊢<;>try cases h
  cases hx:x.ev F with
  | none=>simp[hx] at h
  | some a=>rw[cE hle hx,← hx]; exact h
 case sliceStr x lo hi =>
  simp only[aL] at h ⊢
  cases hx:x.ev F with
  | none=>simp[hx] at h
  | some a =>
   rw[hx] at h
   rw[cE hle hx]
   cases a<;>simp only at h ⊢<;>try cases h
   cases h1:bnd F 0 lo with
   | none=>simp[h1] at h
   | some l =>
    rename_i s
    cases h2:bnd F s.length hi with
    | none=>simp[h1,h2] at h
    | some u=>rw[GC hle h1,GC hle h2,← h1,← h2]; exact h
 case slice s x lo hi mx =>
  simp only[aL] at h ⊢
  cases hx:x.ev F with
  | none=>simp[hx] at h
  | some a =>
   rw[hx] at h
   rw[cE hle hx]
   have key:∀ (d:Int) (w:PV),(match bnd F 0 lo,bnd F d hi with
     | some a1,some a2=>match (generalizing:=false) mx with
      | none=>PV.slice s w a1 a2 none
      | some m=>(bnd F 0 (some m)).bind fun m=>PV.slice s w a1 a2 (some m)
     | _,_=>none)=some v→(match bnd F' 0 lo,bnd F' d hi with
     | some a1,some a2=>match (generalizing:=false) mx with
      | none=>PV.slice s w a1 a2 none
      | some m=>(bnd F' 0 (some m)).bind fun m=>PV.slice s w a1 a2 (some m)
     | _,_=>none)=some v:=by
    intro d w h
    cases h1:bnd F 0 lo with
    | none=>simp[h1] at h
    | some l =>
     cases h2:bnd F d hi with
     | none=>simp[h1,h2] at h
     | some u =>
      rw[h1,h2] at h
      rw[GC hle h1,GC hle h2]
      cases mx with
      | none=>exact h
      | some m =>
       simp only at h ⊢
       cases h3:bnd F 0 (some m) with
       | none=>simp[h3] at h
       | some q=>rw[GC hle h3,← h3]; exact h
   cases a<;>simp only at h ⊢<;>first | exact key _ _ h | cases h
 all_goals exact h
theorem akX {op:POp} {r:(Nat→PV) × bV} (hle:F.le F') (h:cI op F=some r):cI op F'=some r:=by
 cases op
 case box b x =>
  cases b
  ·simp only[cI] at h ⊢
   cases hx:x.ev F with
   | none=>simp[hx] at h
   | some a=>rw[cE hle hx,← hx]; exact h
  ·cases h
 case bslice b s l z ps =>
  cases b
  ·simp only[cI] at h ⊢
   split at h
   ·rename_i hc
    rw[if_pos hc]
    rw[bgW] at h ⊢
    obtain⟨cs,h1,h2⟩:=h
    exact⟨cs,xD hle h1,h2⟩
   ·cases h
  ·cases h
 case mkslice s b z l c =>
  simp only[cI] at h ⊢
  cases hx:l.ev F with
  | none=>simp[hx] at h
  | some a =>
   cases hy:c.ev F with
   | none=>simp[hx,hy] at h
   | some b=>rw[cE hle hx,cE hle hy,← hx,← hy]; exact h
 all_goals exact h
theorem ayN {op:POp} {K:PV→PH→Prop} (hle:F.le F') (h:bQ op F H K):bQ op F' H K:=by
 cases op
 case store n x y =>
  simp only[bQ] at h ⊢
  cases hx:x.ev F with
  | none=>simp[hx] at h
  | some a =>
   cases hy:y.ev F with
   | none=>simp[hx,hy] at h
   | some b=>rw[cE hle hx,cE hle hy]; rw[hx,hy] at h; exact h
 case append s b x y =>
  simp only[bQ] at h ⊢
  cases hx:x.ev F with
  | none=>simp[hx] at h
  | some a =>
   cases hy:y.ev F with
   | none=>simp[hx,hy] at h
   | some b=>rw[cE hle hx,cE hle hy]; rw[hx,hy] at h; exact h
 case mapset sh x y z =>
  simp only[bQ] at h ⊢
  cases hx:x.ev F with
  | none=>simp[hx] at h
  | some a =>
   cases hy:y.ev F with
   | none=>simp[hx,hy] at h
   | some b =>
    cases hz:z.ev F with
    | none=>simp[hx,hy,hz] at h
    | some c=>rw[cE hle hx,cE hle hy,cE hle hz]; rw[hx,hy,hz] at h; exact h
 case insert sh x y z =>
  simp only[bQ] at h ⊢
  cases hx:x.ev F with
  | none=>simp[hx] at h
  | some a =>
   cases hy:y.ev F with
   | none=>simp[hx,hy] at h
   | some b =>
    cases hz:z.ev F with
    | none=>simp[hx,hy,hz] at h
    | some c=>rw[cE hle hx,cE hle hy,cE hle hz]; rw[hx,hy,hz] at h; exact h
 all_goals exact h
theorem PF.a5L (hle:F.le F') (i:Nat) (v:PV):(F.set i v).le (F'.set i v):=by
 intro j u h
 rw[kV] at h ⊢
 split at h
 ·rename_i e; rw[if_pos e]; exact h
 ·rename_i e; rw[if_neg e]; exact hle j u h
theorem PF.vF (hle:F.le F') (d:Option Nat) (v:PV):(F.put d v).le (F'.put d v):=by
 cases d with
 | none=>exact hle
 | some d=>exact PF.a5L hle d v
theorem PF.a4O (hle:F.le F') (o s:Nat) (rs:List (List PV)):(F.frz o s rs).le (F'.frz o s rs):=by
 intro j u h
 rw[pU,bgW] at h ⊢
 obtain⟨x,h1,h2⟩:=h
 exact⟨x,hle j x h1,h2⟩
theorem PF.le_trans {A B D:PF} (h:A.le B) (k:B.le D):A.le D:=fun i v hi=>k i v (h i v hi)
theorem gF.up {F1:PF} {H1:PH} (h:gF F H F1 H1):∀ {F':PF},F.le F'→∃ F1',gF F' H F1' H1∧F1.le F1':=by
 induction h with
 | refl F H=>exact fun {F'} hle=>⟨F',.refl _ _,hle⟩
 | step o ho _ ih =>
  intro F' hle
  obtain⟨F1',h1,h2⟩:=ih (PF.a4O hle o _ _)
  exact⟨F1',.step o ho h1,h2⟩
theorem TD {name:Nat} {args:Option (List PV)} {d:Option Nat} {K1 K2:PF→PH→Prop} (hK:∀ F F' H,F.le F'→K1 F H→K2 F' H) (hle:F.le F') {args':Option (List PV)} (ha:∀ vs,args=some vs→args'=some vs) (h:pD C name args d K1 F H):pD C name args' d K2 F' H:=by
 obtain⟨vs,H0,R,h1,h2,h3,h4⟩:=h
 exact⟨vs,H0,R,ha _ h1,h2,h3,fun r H' a b=>hK _ _ _ (PF.vF hle d r) (h4 r H' a b)⟩
theorem aqD {cs:List PV} {args:List aM} (hle:F.le F') (vs:List PV) (h:(aM.evs F args).map (·++cs)=some vs):(aM.evs F' args).map (·++cs)=some vs:=by
 rw[bgW] at h ⊢
 obtain⟨x,h1,h2⟩:=h
 exact⟨x,TK hle h1,h2⟩
theorem aBM {name:Nat} {args:List aM} {cs:List PV} {d:Option Nat} {K1 K2:PF→PH→Prop} (hK:∀ F F' H,F.le F'→K1 F H→K2 F' H) (hle:F.le F') (h:fZ C name args cs d K1 F H):fZ C name args cs d K2 F' H:=by
 rcases h with h | ⟨F1,H1,h1,h2⟩
 ·exact .inl (TD hK hle (aqD hle) h)
 ·obtain⟨F1',k1,k2⟩:=h1.up hle
  exact .inr ⟨F1',H1,k1,TD hK k2 (aqD k2) h2⟩
theorem IG {op:POp} {d:Option Nat} {K1 K2:PF→PH→Prop} (hK:∀ F F' H,F.le F'→K1 F H→K2 F' H) (hle:F.le F') (h:kG (cI op F) d K1 F H):kG (cI op F') d K2 F' H:=by
 obtain⟨mk,x,h1,h2⟩:=h
 exact⟨mk,x,akX hle h1,fun o ho=>hK _ _ _ (PF.vF hle d _) (h2 o ho)⟩
theorem ZK {op:POp} {d:Option Nat} {K1 K2:PF→PH→Prop} (hK:∀ F F' H,F.le F'→K1 F H→K2 F' H) (hle:F.le F') (h:bN (aL op F H) d K1 F H):bN (aL op F' H) d K2 F' H:=by
 obtain⟨v,h1,h2⟩:=h
 exact⟨v,auD hle h1,hK _ _ _ (PF.vF hle d v) h2⟩
theorem akF {op:POp} {d:Option Nat} {K1 K2:PF→PH→Prop} (hK:∀ F F' H,F.le F'→K1 F H→K2 F' H) (hle:F.le F') (h:bQ op F H fun r H'=>K1 (F.put d r) H'):bQ op F' H fun r H'=>K2 (F'.put d r) H' :=
 ayN hle (vQ (fun v H' hh=>hK _ _ _ (PF.vF hle d v) hh) h)
theorem aZA {op:POp} {d:Option Nat} {K1 K2:PF→PH→Prop} (hK:∀ F F' H,F.le F'→K1 F H→K2 F' H) (hle:F.le F') (h:wpOp C op d K1 F H):wpOp C op d K2 F' H:=by
 cases op
 case call n a=>exact aBM hK hle h
 case callv x a =>
  obtain⟨n,cs,h1,h2⟩:=h
  exact⟨n,cs,cE hle h1,aBM hK hle h2⟩
 case box r x=>cases r<;>first | exact IG (op:=.box false x) hK hle h | exact ZK (op:=.box true x) hK hle h
 case bslice r s l z ps=>cases r<;>first | exact IG (op:=.bslice false s l z ps) hK hle h | exact ZK (op:=.bslice true s l z ps) hK hle h
 case alloc cs=>exact IG (op:=.alloc cs) hK hle h
 case mkslice s b z l c=>exact IG (op:=.mkslice s b z l c) hK hle h
 case mkmap sh=>exact IG (op:=.mkmap sh) hK hle h
 case store n x y=>exact akF (op:=.store n x y) hK hle h
 case append s b x y=>exact akF (op:=.append s b x y) hK hle h
 case mapset sh x y z=>exact akF (op:=.mapset sh x y z) hK hle h
 case insert sh x y z=>exact akF (op:=.insert sh x y z) hK hle h
 all_goals exact ZK hK hle h
theorem JD {K1 K2:PF→PH→Prop} (hK:∀ F F' H,F.le F'→K1 F H→K2 F' H):∀ {ops:List bF} {F F':PF} {H:PH},F.le F'→wpOps C ops K1 F H→wpOps C ops K2 F' H
 | [],_,_,_,hle,h=>hK _ _ _ hle h
 | ⟨d,op,none⟩::rest,_,_,_,hle,h=>aZA (fun _ _ _ a b=>JD hK a b) hle h
 | ⟨d,op,some (t,want)⟩::rest,F,F',H,hle,h=>by
  rw[aBF] at h ⊢
  unfold sB at h
  split at h
  ·rename_i b hb
   rw[hle t _ hb]
   unfold sB
   simp only
   split at h
   ·rename_i e; rw[if_pos e]; exact aZA (fun _ _ _ a b=>JD hK a b) hle h
   ·rename_i e; rw[if_neg e]; exact JD hK (PF.vF hle d _) h
  ·rename_i hb
   rw[hle t _ hb]
   exact JD hK (PF.vF hle d _) h
  ·exact h.elim
theorem atV {Hs:PH} {S:Spec} {st:Bool} {op:POp} {K:PV→PH→Prop} (hle:F.le F') (h:(op.kind F).run C Hs S st K H):(op.kind F').run C Hs S st K H:=by
 have new:∀ op:POp,(Kind.new (cI op F)).run C Hs S st K H→(Kind.new (cI op F')).run C Hs S st K H:=fun op h=>by
  obtain⟨mk,x,h1,h2⟩:=h
  exact⟨mk,x,akX hle h1,h2⟩
 have calm:∀ op:POp,(Kind.calm (aL op F)).run C Hs S st K H→(Kind.calm (aL op F')).run C Hs S st K H:=fun op h=>by
  obtain⟨v,h1,h2⟩:=h
  exact⟨v,auD hle h1,h2⟩
 have wr:∀ op:POp,(Kind.write fun H K=>bQ op F H K).run C Hs S st K H→(Kind.write fun H K=>bQ op F' H K).run C Hs S st K H:=fun op h=>ayN (op:=op) hle (show bQ op F H (fun r H'=>Hs.le H'∧K r H') from h)
 cases op
 case call n a =>
  obtain⟨vs,D,R,h1,h2⟩:=h
  exact⟨vs,D,R,TK hle h1,h2⟩
 case callv x a =>
  unfold POp.kind at h ⊢
  simp only at h ⊢
  cases hx:x.ev F with
  | none=>rw[hx] at h; exact h.elim
  | some u =>
   rw[hx] at h
   rw[cE hle hx]
   cases u<;>simp only at h ⊢<;>first | exact h | skip
   obtain⟨vs,D,R,h1,h2⟩:=h
   exact⟨vs,D,R,aqD hle _ h1,h2⟩
 case insert sh x k v =>
  obtain⟨o,sh',key,u,g,h1,h2⟩:=h
  refine⟨o,sh',key,u,g,?_,h2⟩
  cases hx:x.ev F with
  | none=>simp[hx] at h1
  | some a =>
   cases hy:k.ev F with
   | none=>simp[hx,hy] at h1
   | some b =>
    cases hz:v.ev F with
    | none=>simp[hx,hy,hz] at h1
    | some c=>rw[cE hle hx,cE hle hy,cE hle hz]; rw[hx,hy,hz] at h1; exact h1
 case box r x=>cases r<;>first | exact new (.box false x) h | exact calm (.box true x) h
 case bslice r s l z ps=>cases r<;>first | exact new (.bslice false s l z ps) h | exact calm (.bslice true s l z ps) h
 case alloc cs=>exact new (.alloc cs) h
 case mkslice s b z l c=>exact new (.mkslice s b z l c) h
 case mkmap sh=>exact new (.mkmap sh) h
 case store n x y=>exact wr (.store n x y) h
 case append s b x y=>exact wr (.append s b x y) h
 case mapset sh x y z=>exact wr (.mapset sh x y z) h
 all_goals exact calm _ h
theorem aVL {Hs:PH} {S:Spec} {st:Bool} {i:bF} {K:PV→PH→Prop} (hle:F.le F') (h:(i.kind F).run C Hs S st K H):(i.kind F').run C Hs S st K H:=by
 unfold bF.kind at h ⊢
 split
 ·rename_i hg
  rw[hg] at h
  exact atV hle h
 ·rename_i t want hg
  rw[hg] at h
  simp only at h
  split at h
  ·rename_i b hb
   rw[hle t _ hb]
   simp only
   split at h
   ·rename_i e; rw[if_pos e]; exact atV hle h
   ·rename_i e; rw[if_neg e]; exact h
  ·rename_i hb
   rw[hle t _ hb]
   exact h
  ·exact h.elim
theorem aTR {Hs:PH} {S:Spec} {K1 K2:PF→PH→Prop} (hK:∀ F F' H,F.le F'→K1 F H→K2 F' H):∀ {ops:List (bF × Bool)} {F F':PF} {H:PH},Hs.le H→F.le F'→wpD C Hs S ops K1 F H→wpD C Hs S ops K2 F' H
 | [],_,_,_,_,hle,h=>hK _ _ _ hle h
 | i::rest,F,F',H,hs,hle,h=>by
  have h1:(i.1.kind F).run C Hs S i.2 (fun v H'=>wpD C Hs S rest K1 (F.put i.1.dst v) H') H:=h
  exact aVL hle (Kind.oI (oG _ _) (fun v H' hs' hh=>aTR hK hs' (PF.vF hle _ v) hh) hs h1)
class Up (K:cC):Prop where
 up:∀ {e:kK} {F F':PF} {H:PH},F.le F'→K e F H→K e F' H
theorem tW:∀ (c:aD) {K1 K2:cC} (_:∀ e F F' H,F.le F'→K1 e F H→K2 e F' H) {F F':PF} {H:PH},F.le F'→c.wp C K1 F H→c.wp C K2 F' H
 | .skip,_,_,hK,_,_,_,hle,h=>hK _ _ _ _ hle h
 | .region ops,_,_,hK,_,_,_,hle,h=>JD (hK .normal) hle h
 | .draw ops,_,_,hK,_,_,_,hle,⟨Hs,S,h1,h2⟩=>⟨Hs,S,h1,aTR (hK .normal) h1 hle h2⟩
 | .seq a b,K1,K2,hK,_,_,_,hle,h=>tW a (K1:=iE C (b.wp C) K1) (K2:=iE C (b.wp C) K2) (fun e F F' H hl hh=>by
   cases e with
   | normal=>exact tW b hK hl hh
   | exit id=>exact hK (.exit id) _ _ _ hl hh
   | ret=>exact hK .ret _ _ _ hl hh) hle h
 | .cond c a b,K1,K2,hK,F,F',H,hle,h=>by
  rw[aYT] at h ⊢
  unfold LL at h
  split at h
  ·rename_i t ht
   rw[cE hle ht]
   unfold LL
   simp only
   split at h
   ·rename_i e; rw[if_pos e]; exact tW a hK hle h
   ·rename_i e; rw[if_neg e]; exact tW b hK hle h
  ·exact h.elim
 | .block id c,K1,K2,hK,_,_,_,hle,h=>tW c (K1:=dW id K1) (K2:=dW id K2) (fun e F F' H hl hh=>by
   cases e with
   | normal=>exact hK .normal _ _ _ hl hh
   | exit j =>
    rw[xC] at hh ⊢
    split at hh
    ·rename_i e; rw[if_pos e]; exact hK .normal _ _ _ hl hh
    ·rename_i e; rw[if_neg e]; exact hK (.exit j) _ _ _ hl hh
   | ret=>exact hK .ret _ _ _ hl hh) hle h
 | .loop c,K1,K2,hK,F,F',H,hle,⟨α,Fs,Hs,Pr,m,a0,F1,H1,h1,h2,h3,h4,h5⟩=>by
  obtain⟨F1',k1,k2⟩:=h1.up hle
  refine⟨α,Fs,Hs,Pr,m,a0,F1',H1,k1,h2,PF.le_trans h3 k2,h4,fun a ha=>?_⟩
  refine tW c (K1:=fU Fs Hs Pr m (m a) K1) (K2:=fU Fs Hs Pr m (m a) K2) (fun e F F' H hl hh=>?_) PF.le_refl (h5 a ha)
  cases e with
  | normal =>
   obtain⟨b,F2,H2,z1,z2,z3,z4,z5⟩:=hh
   obtain⟨F2',y1,y2⟩:=z1.up hl
   exact⟨b,F2',H2,y1,z2,z3,PF.le_trans z4 y2,z5⟩
  | exit id=>exact hK (.exit id) _ _ _ hl hh
  | ret=>exact hK .ret _ _ _ hl hh
 | .exit id,_,_,hK,_,_,_,hle,h=>hK (.exit id) _ _ _ hle h
 | .ret,_,_,hK,_,_,_,hle,h=>hK .ret _ _ _ hle h
instance Up.seq {K:cC} [Up K] (b:aD):Up (iE C (b.wp C) K) where
 up {e} {F} {F'} {H} hl hh:=by
  cases e with
  | normal=>exact tW b (fun e F F' H a h=>Up.up a h) hl hh
  | exit id=>exact Up.up (K:=K) (e:=.exit id) hl hh
  | ret=>exact Up.up (K:=K) (e:=.ret) hl hh
instance Up.block {K:cC} [Up K] (id:Nat):Up (dW id K) where
 up {e} {F} {F'} {H} hl hh:=by
  cases e with
  | normal=>exact Up.up (K:=K) (e:=.normal) hl hh
  | exit j =>
   rw[xC] at hh ⊢
   split at hh
   ·rename_i e; rw[if_pos e]; exact Up.up (K:=K) (e:=.normal) hl hh
   ·rename_i e; rw[if_neg e]; exact Up.up (K:=K) (e:=.exit j) hl hh
  | ret=>exact Up.up (K:=K) (e:=.ret) hl hh
instance Up.loop {K:cC} [Up K] {α:Type} (Fs:α→PF) (Hs:α→PH) (Pr:α→Prop) (m:α→Nat) (n:Nat):Up (fU Fs Hs Pr m n K) where
 up {e} {F} {F'} {H} hl hh:=by
  cases e with
  | normal =>
   obtain⟨b,F2,H2,z1,z2,z3,z4,z5⟩:=hh
   obtain⟨F2',y1,y2⟩:=z1.up hl
   exact⟨b,F2',H2,y1,z2,z3,PF.le_trans z4 y2,z5⟩
  | exit id=>exact Up.up (K:=K) (e:=.exit id) hl hh
  | ret=>exact Up.up (K:=K) (e:=.ret) hl hh
theorem a5I {H:PH} (hle:F.le F') {x:dE} {v:PV} (h:x.ev F H=some v):x.ev F' H=some v:=by
 cases x with
 | tmp t=>exact hle t v h
 | cell t n =>
  cases n<;>simp only[dE.ev] at h ⊢<;>(cases hx:F t with
   | none=>simp[hx] at h
   | some a=>rw[hle t a hx,← hx]; exact h)
theorem abE {H:PH} (hle:F.le F'):∀ {xs:List dE} {vs:List PV},dE.evs F H xs=some vs→dE.evs F' H xs=some vs
 | [],_,h=>h
 | x::xs,vs,h=>by
  rw[jN] at h ⊢
  cases hx:x.ev F H with
  | none=>simp[hx] at h
  | some v =>
   cases hs:dE.evs F H xs with
   | none=>simp[hs] at h
   | some ws =>
    rw[hx,hs] at h
    rw[a5I hle hx,abE hle hs]
    exact h
instance Up.ret (res:List dE) (R:PV→PH→Prop):Up (aX res R) where
 up {e} {F} {F'} {H} hl hh:=by
  cases e with
  | exit id=>exact hh
  | normal=>obtain⟨vs,h1,h2⟩:=hh; exact⟨vs,abE hl h1,h2⟩
  | ret=>obtain⟨vs,h1,h2⟩:=hh; exact⟨vs,abE hl h1,h2⟩
end
end Go.PM
namespace Go.PM
open Go Go.Na
section
variable {H:PH} {B:List BX} {L:List LI}
end
end Go.PM
namespace Go.PM
open Go Go.Na
theorem aBD {k v:Int} {n:Nat} {p:Nat→Bool}:cF k v n p=[]↔∀ i,i<n→p i=false:=by
 unfold cF
 rw[List.map_eq_nil_iff,List.filter_eq_nil_iff]
 constructor
 ·intro h i hi
  have:=h i (biY.2 hi)
  simpa using this
 ·intro h i hi
  rw[h i (biY.1 hi)]
  decide
theorem acM {f:aH} {l:List (List Int)} {room:List Int} (hv:dC f=true) (hl:l.length=f.volumes.length) :
  gQ f l room=true↔pS f l l.length=[]∧∀ d,d<f.drives.length→over f l room d=false:=by
 unfold gQ nE aZD
 rw[hv,if_pos rfl,if_pos hl,bhP,decide_eq_true_eq,List.length_eq_zero_iff,List.append_eq_nil_iff,aBD]
theorem aJZ {f:aH} {l:List (List Int)} {r1 r2:List Int} (hv:dC f=true) (hl:l.length=f.volumes.length) (h:gQ f l r1=true) (hr:∀ d,d<f.drives.length→eT f r1 d≤eT f r2 d):gQ f l r2=true:=by
 obtain⟨h1,h2⟩:=(acM hv hl).1 h
 refine (acM hv hl).2 ⟨h1,fun d hd=>?_⟩
 have h3:=h2 d hd
 have h4:=hr d hd
 have e:∀ r,(cJ f r).getD d 0=eT f r d:=fun r=>by simp[cJ,bhN,hd]
 unfold over at h3 ⊢
 rw[e] at h3 ⊢
 rw[decide_eq_false_iff_not] at h3 ⊢
 omega
theorem NB {p:Int→Bool}:∀ {l:List Int} {i:Nat},(∀ x∈l,p x=false)→hQ p l i=none
 | [],_,_=>rfl
 | y::t,i,h=>by
  rw[hQ,h y (by simp),if_neg (by decide)]
  exact NB fun x hx=>h x (by simp[hx])
theorem xB.shape {f:aH} {L:List (List Int)} (h:xB f L) {v:Nat} (hv:v<L.length):kW f L v=none:=by
 have e:L.getD v []=L[v]:=by simp[bhN,hv]
 unfold kW
 rw[e,if_pos (h.row v hv),NB]
 ·rfl
 ·intro x hx
  have:=h.home _ (bgY hv) x hx
  simp[pL]
  omega
end Go.PM
namespace Go.PM
open Go Go.Na
section
variable {H:PH} {B:List BX} {L:List LI} {s:Nat} {rows:List (List PV)}
theorem kJ.some (s:Nat) (rows:List (List PV)) (G:PH):∃ r H',kJ s rows r H'∧kY G .nil H':=by
 obtain⟨o,ho⟩:=G.fresh
 refine⟨.osl o s 0 rows.length,PH.nil.set o (.rows s rows),.inr ⟨o,rows,rfl,rfl,bgV _,biB⟩,fun q x hx _=>?_⟩
 rw[aV] at hx
 split at hx
 ·rename_i e; rw[e]; exact ho
 ·cases hx
end
end Go.PM
namespace Go.PM
open Go Go.Na
end Go.PM
namespace Go.PM
open Go Go.Na
def tpS (tn a a2:Nat) (raw:List Int) (R:Nat→PV→PH→Prop):Spec:=fun name vs =>
 if name=tn then match vs with
  | .ptr o _ _ _::_=>some ([o],fun H0 r H'=>∀ v,H0 o=some (aR v a)→r=ints raw∧H'=PH.nil.set o (aR v a2))
  | _=>none
 else some ([],fun _=>R name)
section
variable {C:Ctx} {F:PF} {H Hs:PH} {tn a a2:Nat} {raw:List Int} {R:Nat→PV→PH→Prop} {st:Bool} {args:List aM} {d:Option Nat} {K:PF→PH→Prop}
theorem aUD {o:Nat} {v:PV} {us:List PV} (ho:H o=some (aR v a)) (h:aI C tn (.ptr o 2 0 0::us) (PH.nil.set o (aR v a)) (fun r H'=>r=ints raw∧H'=PH.nil.set o (aR v a2))) (ha:aM.evs F args=some (.ptr o 2 0 0::us))
  (hle:Hs.le (H.set o (aR v a2))) (hk:K (F.put d (ints raw)) (H.set o (aR v a2))):dOp C Hs (tpS tn a a2 raw R) st (.call tn args) d K F H:=by
 refine alG (x:=aR v a) (y:=aR v a2) (r:=ints raw) (R:=fun H0 r H'=>∀ v,H0 o=some (aR v a)→r=ints raw∧H'=PH.nil.set o (aR v a2)) (by unfold tpS; rw[if_pos rfl]) ho h ?_ ?_ ha hle hk
 ·intro u hu
  rw[gN] at hu
  injection hu with hu
  injection hu with _ hu
  injection hu with hu _
  injection hu with hu _
  rw[hu]
  exact⟨rfl,rfl⟩
 ·intro r' H' hr
  exact hr v (by rw[gN])
theorem aNV {name:Nat} {vs:List PV} {u:PV} (hn:name≠tn) (hR:R name=aK u) (h:aI C name vs .nil (aK u)) (ha:aM.evs F args=some vs) (hle:Hs.le H) (hk:K (F.put d u) H):dOp C Hs (tpS tn a a2 raw R) st (.call name args) d K F H :=
 cQ (by unfold tpS; rw[if_neg hn,hR]) h ha hle hk
end
section
variable {C:Ctx} {F:PF} {H:PH} {B:List BX} {L:List LI} {args:List aM} {d:Option Nat} {K:PF→PH→Prop}
theorem aS.a5Q (h:aS H B L) (i:Nat) {o name:Nat} {x y:bV} {r:PV} {vs:List PV} (hi:B[i]?=some (o,x)) (hc:aI C name vs (PH.nil.set o x) (fun r' H'=>r'=r∧H'=PH.nil.set o y)) (ha:aM.evs F args=some vs)
  (hk:∀ H',aS H' (B.set i (o,y)) L→K (F.put d r) H'):fZ C name args [] d K F H:=fR hc (h.at i hi) ha (hk _ (h.set i hi y))
theorem aS.a9V (h:aS H B L) {x:bV} {mk:Nat→PV} (hk:∀ o H',aS H' (B++[(o,x)]) L→K (F.put d (mk o)) H'):kG (some (mk,x)) d K F H:=aQ fun o ho=>hk o _ (h.new ho x)
theorem aS.a1Y (h:aS H B L) {l:List Nat} (Lb:LJ C) (hb:∀ x∈l,x<256) (hl:l.length≤9223372036854775807) (ha:aM.evs F args=some [.sl 1 (eM l)]) (hk:∀ o v H',Tp (l.take 400) v→aS H' (B++[(o,aR v 0)]) L→K (F.put d (.ptr o 2 0 0)) H'):fZ C 28 args [] d K F H:=by
 refine lH (Lb.new l hb hl) ha PH.nil_le ?_
 rintro r H' ⟨o,v,rfl,T,rfl⟩ hap
 rw[PH.kT]
 exact hk o v _ T (h.new (hap o (aR v 0) (by rw[gN]) rfl) _)
end
theorem aOT {C:Ctx} (Lb:LJ C) (l:List Nat) (v:PV) (T:Tp (l.take 400) v) (o:Nat) :
  xJ.wp C (aX HL.res (fun r H'=>Co r (ints (rT l 8 4))∧H'=PH.nil.set o (aR v (jS (l.take 400) (fT l 8 4) (laT l 8 4)).2))) (PF.args [.ptr o 2 0 0]) (PH.nil.set o (aR v 0)):=by
 have hv:=(mI (l.take 400) 8 4 0 (by decide) (by decide)).1
 have hV:=VF.of hv
 have hd:=hV.small.drives
 have a1:=GR (l.take 400) 8 4 (bhC _)
 have a2:=(pW (l.take 400) (fT l 8 4) a1 (fT l 8 4).volumes.length).1
 have h0:aS (PH.nil.set o (aR v 0)) [(o,aR v 0)] []:=aS.nil.new (H:=PH.nil) rfl (aR v 0)
 simp -implicitDefEqProofs only[go_sem,reduceCtorEq,xJ,acQ,HL,acR]
 refine fR (Lb.tfleet _ v T o 8 4 0 (by decide) (by decide) (bhC _)) (h0.at 0 rfl) rfl ?_
 have h1:=h0.set 0 rfl (aR v (faT l 8 4))
 rw[PH.set_set] at h1
 simp -implicitDefEqProofs only[go_sem,δ]
 refine aQ fun q hq=>?_
 have h2:=h1.new hq (.rows 7 [(fT l 8 4).cells])
 simp -implicitDefEqProofs only[go_sem,δ,γ,reduceCtorEq,acS]
 refine fR (Lb.tlayout _ v T o (faT l 8 4) (fT l 8 4) hV a1) (h2.at 0 rfl) rfl ?_
 have h3:=h2.set 0 rfl (aR v (laT l 8 4))
 have hne:¬ q=o:=h2.ne 1 0 rfl rfl (by decide)
 simp -implicitDefEqProofs only[go_sem,δ,γ,reduceCtorEq,acT,hne]
 refine fR (Lb.tQ _ v T o (laT l 8 4) (fT l 8 4) (by unfold fT; omega) a2) (h3.at 0 rfl) rfl ?_
 have h4:=h3.set 0 rfl (aR v (jS (l.take 400) (fT l 8 4) (laT l 8 4)).2)
 rw[PH.set_set] at h4
 simp -implicitDefEqProofs only[go_sem,γ]
 exact aW (vs:=[ints (rT l 8 4)]) (.inr rfl) (PH.nil.set o _) rfl (PH.aA PH.nil_le (h4.at 0 rfl)) ⟨.refl _,rfl⟩
end Go.PM
namespace Go.PM
open Go Go.Na
structure akI (C:Ctx):Prop extends LJ C where
 awake:aI C 20 [] .nil (aK (.bool true))
 again:∀ (l:List Nat) (v:PV),Tp (l.take 400) v→∀ o:Nat,aI C 18 [.ptr o 2 0 0] (PH.nil.set o (aR v 0)) (fun r H'=>r=ints (rT l 8 4)∧H'=PH.nil.set o (aR v (jS (l.take 400) (fT l 8 4) (laT l 8 4)).2))
theorem sI {f:aH} (hV:VF f) (room:List Int) {d:Nat} (hd:d<f.drives.length):0≤eT f room d∧eT f room d≤ext f d∧1≤ext f d∧ext f d≤16:=by
 obtain⟨hm,he⟩:=hV.alP hd
 have:=hV.model _ (bgY hm)
 rw[he] at this
 unfold eT
 split
 ·omega
 ·omega
theorem aUL (l:List Nat) {d v:Nat} (hd:d≤24) (hv:v≤12):dC (fT l d v)=true∧(fT l d v).Ok:=mI (l.take 400) d v 0 hd hv
end Go.PM
namespace Go.PM
open Go Go.Na
def gL (R:List Int) (more:List Nat) (k:Nat):List Int:=(bhL k).map fun d=>R.getD d 0+((more.getD d 0:Nat):Int)
theorem aOL (R:List Int) (more:List Nat) (k:Nat):(gL R more k).length=k:=by simp[gL]
theorem a0D (R:List Int) (more:List Nat) (k:Nat):gL R more (k+1)=gL R more k++[R.getD k 0+((more.getD k 0:Nat):Int)]:=by simp[gL,List.range_succ]
def rgF (tp mp:PV) (o:Nat) (L:List (List Int)) (R:List Int) (w:PV) (k:Nat):PF:=(((((((PF.nil.set 0 (tp)).set 1 (mp)).set 6 (.ptr o 7 0 0)).set 7 (lay L)).set 8 (ints R)).set 9 (w)).set 10 (.int .i64 k))
theorem aML {C:Ctx} (more:List Nat) (hb:∀ x∈more,x<256) (hm:more.length≤9223372036854775807) (tp:PV) (o:Nat) (L:List (List Int)) (R:List Int) (hl:R.length≤1000) (hR:∀ x∈R,0≤x∧x≤1000) (B:List BX) (K:cC) [Up K] (F:PF) (H:PH) (hH:aS H B [(.nils,1,cW [])])
  (hF:(rgF tp (.sl 1 (eM more)) o L R .nils 0).le F)
  (hK:∀ w H',aS H' B [(w,1,cW (gL R more R.length))]→K (.exit 0) (rgF tp (.sl 1 (eM more)) o L R w R.length) H'):aD.wp C (.loop CJ) K F H:=by
 refine wp_loop (α:=Nat × PV × PH) (fun s=>rgF tp (.sl 1 (eM more)) o L R s.2.1 s.1) (fun s=>s.2.2) (fun s=>s.1≤R.length∧aS s.2.2 B [(s.2.1,1,cW (gL R more s.1))]) (fun s=>R.length-s.1) (0,.nils,H) ⟨bhC _,hH⟩ hF PH.le_refl ?_
 rintro⟨k,w,H0⟩ ⟨hk,hH⟩
 simp only at hk hH ⊢
 simp -implicitDefEqProofs only[go_sem,γ,reduceCtorEq,CJ,adM,rgF,bgR]
 by_cases hlt:k<R.length
 ·have hlt':(k:Int)<(R.length:Nat):=by omega
  have hgd:R.getD k 0=R[k]:=by simp[bhN,hlt]
  have hx:=hR _ (bgY hlt)
  have hsucc:=a0D R more k
  have hat:(R.map fun x=>[PV.int .i64 x])[k]?=some [.int .i64 R[k]]:=ints_at hlt
  rw[hgd] at hsucc
  generalize R[k]=x at *
  have h11:(1:Nat)*1≤16777216:=by decide
  have go:∀ n:Nat,n<256→more.getD k 0=n→aD.wp C (.region CK) (iE C (aD.wp C (.region CL)) (fU (fun s:Nat × PV × PH=>rgF tp (.sl 1 (eM more)) o L R s.2.1 s.1) (fun s=>s.2.2) (fun s=>s.1≤R.length∧aS s.2.2 B [(s.2.1,1,cW (gL R more s.1))]) (fun s=>R.length-s.1) (R.length-k) K))
    ((rgF tp (.sl 1 (eM more)) o L R w k).set 11 (.int .i64 n)) H0:=by
   intro n hn he
   rw[he] at hsucc
   have hw:IntKind.i64.wrap (x+(n:Int))=x+n:=wrap_i64 (by omega) (by omega)
   simp -implicitDefEqProofs only[go_sem,υ,γ,η,ζ,reduceCtorEq,CK,rgF,hat,hw,h11]
   refine hH.append 0 (src:=[[PV.int .i64 (x+n)]]) rfl (by simp -implicitDefEqProofs only[go_sem]) (by unfold roomFor; rw[gV,aOL]; simp only[bgX,maxLen]; omega) fun w' H' h3 _=>?_
   rw[CA,← hsucc] at h3
   simp -implicitDefEqProofs only[go_sem,γ,reduceCtorEq,CL,aO (show k<9223372036854775807 by omega)]
   exact aJ (k+1,w',H') ⟨hlt,h3⟩ (by simp only; omega) (by (repeat' (first|exact PF.nil_le|refine PF.aA ?_ ?_))<;>first|(simp -implicitDefEqProofs only[go_sem,γ,reduceCtorEq]<;>rfl)|rfl) PH.le_refl
  by_cases hm2:k<more.length
  ·have hm':(k:Int)<(more.length:Nat):=by omega
   have hn:=hb _ (bgY hm2)
   have he:more.getD k 0=more[k]:=by simp[bhN,hm2]
   have hu:=axV more hm2
   have hw:IntKind.i64.wrap ((more[k]:Nat):Int)=((more[k]:Nat):Int):=wrap_i64 (by omega) (by omega)
   simp -implicitDefEqProofs only[go_sem,γ,reduceCtorEq,hlt',HQ,HR,hm',sL,UN,hu,hw]
   exact tW _ (fun _ _ _ _ a b=>Up.up a b) (by unfold rgF; (repeat' (first|exact PF.nil_le|refine PF.aA ?_ ?_))<;>first|(simp -implicitDefEqProofs only[go_sem,γ,reduceCtorEq]<;>rfl)|rfl) (go _ hn he)
  ·have hm':¬ (k:Int)<(more.length:Nat):=by omega
   have he:more.getD k 0=0:=by simp[bhN,hm2]
   simp -implicitDefEqProofs only[go_sem,γ,reduceCtorEq,hlt',HQ,HR,hm',sL]
   exact tW _ (fun _ _ _ _ a b=>Up.up a b) (by unfold rgF; (repeat' (first|exact PF.nil_le|refine PF.aA ?_ ?_))<;>first|(simp -implicitDefEqProofs only[go_sem,γ,reduceCtorEq]<;>rfl)|rfl) (go 0 (by decide) he)
 ·have hlt':¬ (k:Int)<(R.length:Nat):=by omega
  have:k=R.length:=by omega
  subst this
  simp -implicitDefEqProofs only[go_sem,hlt']
  refine Up.up ?_ (hK w _ hH)
  unfold rgF
  (repeat' (first|exact PF.nil_le|refine PF.aA ?_ ?_))<;>first|(simp -implicitDefEqProofs only[go_sem,γ,reduceCtorEq]<;>rfl)|rfl
def rmF (tp mp:PV) (o:Nat) (L:List (List Int)) (R:List Int) (w:PV) (A:List Int):PF:=(((((((PF.nil.set 0 (tp)).set 1 (mp)).set 6 (.ptr o 7 0 0)).set 7 (lay L)).set 8 (ints R)).set 9 (w)).set 12 (ints A))
theorem aAY {C:Ctx} (tp mp w:PV) (o:Nat) (L:List (List Int)) (f:aH) (hV:VF f) (room:List Int) (K:cC) [Up K] (F F1:PF) (H H1:PH) (hz:gF F H F1 H1) (hH:H1 o=some (.rows 7 [f.cells]))
  (hF:((rmF tp mp o L (cJ f room) w (cJ f [])).set 13 (.int .i64 0)).le F1)
  (hK:K (.exit 2) (rmF tp mp o L (cJ f room) w (cJ f [])) H1):aD.wp C (.loop sZ) K F H:=by
 refine⟨Nat,fun k=>(rmF tp mp o L (cJ f room) w (cJ f [])).set 13 (.int .i64 k),fun _=>H1,fun k=>k≤f.drives.length,fun k=>f.drives.length-k,0,F1,H1,hz,bhC _,hF,PH.le_refl,?_⟩
 intro k hk
 have hA:=oW f []
 have hR:=oW f room
 have hd:=hV.small.drives
 simp -implicitDefEqProofs only[go_sem,γ,reduceCtorEq,sZ,UR,rmF,bgR,hA]
 by_cases hlt:k<f.drives.length
 ·have hlt':(k:Int)<(f.drives.length:Nat):=by omega
  obtain⟨hm,he⟩:=hV.alP hlt
  have b:=sI hV room hlt
  have hr0:eT f [] k=ext f k:=by
   unfold eT
   rw[if_neg (by simp; omega)]
  have e1:((cJ f []).map fun x=>[PV.int .i64 x])[k]?=some [.int .i64 (ext f k)]:=by rw[ints_at (by omega),DV,hr0]
  have e2:((cJ f room).map fun x=>[PV.int .i64 x])[k]?=some [.int .i64 (eT f room k)]:=by rw[ints_at (by omega),DV]
  generalize eT f room k=x at *
  have c1:¬ x<0:=by omega
  have c2:¬ x>ext f k:=by omega
  simp -implicitDefEqProofs only[go_sem,hlt']
  refine cD .nil dV PH.nil_le ?_
  simp -implicitDefEqProofs only[go_sem,δ,γ,θ,reduceCtorEq,US,hH,e1,e2,oN hlt,hV.UW hlt,aeJ hm,he,cM (show ext f k=ext f k from rfl),c1,c2,UT,aO (show k<9223372036854775807 by omega)]
  exact aJ (k+1) hlt (by omega) (by (repeat' (first|exact PF.nil_le|refine PF.aA ?_ ?_))<;>first|(simp -implicitDefEqProofs only[go_sem,γ,reduceCtorEq]<;>rfl)|rfl) PH.le_refl
 ·have hlt':¬ (k:Int)<(f.drives.length:Nat):=by omega
  simp -implicitDefEqProofs only[go_sem,hlt']
  refine Up.up ?_ hK
  unfold rmF
  (repeat' (first|exact PF.nil_le|refine PF.aA ?_ ?_))<;>first|(simp -implicitDefEqProofs only[go_sem,γ,reduceCtorEq]<;>rfl)|rfl
theorem aPQ {C:Ctx} (Lb:akI C) (l more:List Nat) (hb:∀ x∈l,x<256) (hl:l.length≤9223372036854775807) (hb2:∀ x∈more,x<256) (hl2:more.length≤9223372036854775807) :
  xO.wp C (aX HP.res (aK (.bool true))) (PF.args [.sl 1 (eM l),.sl 1 (eM more)]) .nil:=by
 obtain⟨hv,hf⟩:=aUL l (d:=8) (v:=4) (by decide) (by decide)
 have hV:=VF.of hv
 have hd:=hV.small.drives
 have hS:=bcS l (d:=8) (v:=4) (by decide) (by decide)
 have a1:=GR (l.take 400) 8 4 (bhC _)
 have a2:=(pW (l.take 400) (fT l 8 4) a1 (fT l 8 4).volumes.length).1
 have hOk:=hS.ok hV
 have hRl:=oW (fT l 8 4) (rT l 8 4)
 have hRm:=Lb.room (fT l 8 4) (rT l 8 4) hf
 have hAm:=Lb.room (fT l 8 4) [] hf
 have rP:∀ r,wH (fT l 8 4) r=cJ (fT l 8 4) r:=fun r=>by unfold wH; rw[if_pos hv]
 rw[rP] at hRm hAm
 have hRs:∀ x∈cJ (fT l 8 4) (rT l 8 4),0≤x∧x≤1000:=fun x hx=>by
  obtain⟨d,hd1,rfl⟩:=biH hx
  rw[DV]
  have:=sI hV (rT l 8 4) (d:=d) (by rw[hRl] at hd1; exact hd1)
  omega
 generalize hLe:lT l 8 4=L at *
 generalize hRe:rT l 8 4=raw at *
 have key:∀ r,(∀ d,d<(fT l 8 4).drives.length→eT (fT l 8 4) (cJ (fT l 8 4) raw) d≤eT (fT l 8 4) r d)→gQ (fT l 8 4) L (cJ (fT l 8 4) raw)=true→gQ (fT l 8 4) L r=true:=fun r h1 h2=>aJZ hv hS.len h2 h1
 have kr:∀ d,d<(fT l 8 4).drives.length→eT (fT l 8 4) (cJ (fT l 8 4) raw) d=eT (fT l 8 4) raw d:=fun d hd=>by
  have:=sI hV raw hd
  have e:(cJ (fT l 8 4) raw).getD d 0=eT (fT l 8 4) raw d:=by simp[cJ,bhN,hd]
  conv=>lhs; unfold eT
  rw[if_pos hRl,e]
  omega
 have k0:gQ (fT l 8 4) L (cJ (fT l 8 4) raw)=true→gQ (fT l 8 4) L []=true:=key [] fun d hd=>by
  have:=sI hV raw hd
  rw[kr d hd]
  have e:eT (fT l 8 4) [] d=ext (fT l 8 4) d:=by unfold eT; rw[if_neg (by simp; omega)]
  omega
 have kg:gQ (fT l 8 4) L (cJ (fT l 8 4) raw)=true→gQ (fT l 8 4) L (gL (cJ (fT l 8 4) raw) more (cJ (fT l 8 4) raw).length)=true:=key _ fun d hd=>by
  have:=sI hV raw hd
  rw[kr d hd]
  have e:(gL (cJ (fT l 8 4) raw) more (cJ (fT l 8 4) raw).length).getD d 0=eT (fT l 8 4) raw d+((more.getD d 0:Nat):Int):=by
   have e0:(cJ (fT l 8 4) raw).getD d 0=eT (fT l 8 4) raw d:=by simp[cJ,bhN,hd]
   rw[← e0]
   simp[gL,bhN,hRl,hd]
  conv=>rhs; unfold eT
  rw[aOL,if_pos hRl,e]
  omega
 have hh:=Lb.holds (fT l 8 4) L (cJ (fT l 8 4) raw) hf hOk
 have hg:=Lb.holds (fT l 8 4) L (gL (cJ (fT l 8 4) raw) more (cJ (fT l 8 4) raw).length) hf hOk
 have hn:=(Lb.holds (fT l 8 4) L [] hf hOk).CB
 simp -implicitDefEqProofs only[go_sem,reduceCtorEq,xO,adF,HP,adG]
 refine aS.nil.a1Y Lb.toLJ hb hl (by simp -implicitDefEqProofs only[go_sem,γ]) fun o v H1 T h1=>?_
 simp -implicitDefEqProofs only[go_sem,γ,adH]
 refine h1.a5Q 0 rfl (Lb.tfleet _ v T o 8 4 0 (by decide) (by decide) (bhC _)) rfl fun H2 h2=>?_
 simp -implicitDefEqProofs only[go_sem,δ]
 refine h2.a9V fun q H3 h3=>?_
 have e3:=h3.at 1 rfl
 have h4:=h3.set 1 rfl (.rows 7 [(fT l 8 4).cells])
 have e4:=h4.at 1 rfl
 simp -implicitDefEqProofs only[go_sem,δ,γ,e3,adI]
 refine h4.a5Q 0 rfl (Lb.tlayout _ v T o (faT l 8 4) (fT l 8 4) hV a1) (by simp -implicitDefEqProofs only[go_sem,γ]; rfl) fun H5 h5=>?_
 have hLe':(cG (l.take 400) (fT l 8 4) (faT l 8 4) (fT l 8 4).volumes.length).1=L:=hLe
 rw[hLe']
 simp -implicitDefEqProofs only[go_sem,γ]
 have hle5:(PH.nil.set q (.rows 7 [(fT l 8 4).cells])).le H5:=PH.aA PH.nil_le (h5.at 1 rfl)
 refine cD (PH.nil.set q (.rows 7 [(fT l 8 4).cells])) (tpS 6 (laT l 8 4) (jS (l.take 400) (fT l 8 4) (laT l 8 4)).2 raw fun _=>aK (ints (cJ (fT l 8 4) raw))) hle5 ?_
 have h6:=h5.set 0 rfl (aR v (jS (l.take 400) (fT l 8 4) (laT l 8 4)).2)
 have hle6:=PH.aA (PH.nil_le (H:=H5.set o _)) (h6.at 1 rfl)
 have htr:=Lb.tQ _ v T o (laT l 8 4) (fT l 8 4) (by omega) a2
 have hRe':(jS (l.take 400) (fT l 8 4) (laT l 8 4)).1=raw:=hRe
 rw[hRe'] at htr
 have e5:=h5.at 1 rfl
 simp -implicitDefEqProofs only[go_sem,δ,γ,reduceCtorEq,adJ,e5]
 refine aUD (h5.at 0 rfl) htr (by simp -implicitDefEqProofs only[go_sem,γ]) hle6 ?_
 simp -implicitDefEqProofs only[go_sem]
 refine aNV (u:=ints (cJ (fT l 8 4) raw)) (by decide) rfl hRm (by simp -implicitDefEqProofs only[go_sem,γ]) hle6 ?_
 generalize (H5.set o _)=H6 at *
 simp -implicitDefEqProofs only[go_sem,γ,adK,adL]
 refine aML more hb2 hl2 (.sl 1 (eM l)) q L (cJ (fT l 8 4) raw) (by omega) hRs _ _ _ _ (h6.qB 1) (by unfold rgF; (repeat' (first|exact PF.nil_le|refine PF.aA ?_ ?_))<;>first|(simp -implicitDefEqProofs only[go_sem,γ,reduceCtorEq]<;>rfl)|rfl) fun w H7 h7=>?_
 have e7:=h7.at 1 rfl
 simp -implicitDefEqProofs only[go_sem,δ,γ,reduceCtorEq,rgF,UO,e7]
 refine aB hAm.aMQ (by simp -implicitDefEqProofs only[go_sem,γ,reduceCtorEq]) ?_
 have hAl:=oW (fT l 8 4) []
 simp -implicitDefEqProofs only[go_sem,δ,γ,θ,reduceCtorEq,UP,e7,bgR,hAl,hRl,cM (show (((fT l 8 4).drives.length:Nat):Int)=((fT l 8 4).drives.length:Nat) from rfl),UQ]
 have tail:∀ (w1:PV) (F F1:PF) (H8:PH),gF F H7 F1 H8→H8 q=some (.rows 7 [(fT l 8 4).cells])→aI C 150 [.agg (fT l 8 4).cells,lay L,w1] .nil (aK (.bool (gQ (fT l 8 4) L (gL (cJ (fT l 8 4) raw) more (cJ (fT l 8 4) raw).length)))) →
   ((rmF (.sl 1 (eM l)) (.sl 1 (eM more)) q L (cJ (fT l 8 4) raw) w1 (cJ (fT l 8 4) [])).set 13 (.int .i64 0)).le F1→aD.wp C (.loop sZ) (dW 2 (iE C (aD.wp C (.seq (.region CM) .ret)) (aX [.tmp 4] (aK (.bool true))))) F H7:=by
  intro w1 F F1 H8 hz e8 hg1 hF1
  refine aAY (.sl 1 (eM l)) (.sl 1 (eM more)) w1 q L (fT l 8 4) hV raw _ F F1 H7 H8 hz e8 hF1 ?_
  simp -implicitDefEqProofs only[go_sem,δ,γ,reduceCtorEq,rmF,CM,e8]
  refine aB hh (by simp -implicitDefEqProofs only[go_sem,γ,reduceCtorEq]) ?_
  cases hc:gQ (fT l 8 4) L (cJ (fT l 8 4) raw) with
  | false =>
   simp -implicitDefEqProofs only[go_sem,γ,reduceCtorEq,bhK]
   refine aB Lb.awake (by simp -implicitDefEqProofs only[go_sem]) ?_
   simp -implicitDefEqProofs only[go_sem,γ,reduceCtorEq]
   refine bZ (.inr rfl) (by simp -implicitDefEqProofs only[go_sem,γ,reduceCtorEq]<;>rfl) ?_
   rfl
  | true =>
   rw[kg hc] at hg1
   rw[k0 hc] at hn
   simp -implicitDefEqProofs only[go_sem,δ,γ,reduceCtorEq,bgZ,e8]
   refine aB hg1 (by simp -implicitDefEqProofs only[go_sem,γ,reduceCtorEq]) ?_
   simp -implicitDefEqProofs only[go_sem,δ,γ,reduceCtorEq,e8]
   refine aB hn (by simp -implicitDefEqProofs only[go_sem,γ,reduceCtorEq]) ?_
   simp -implicitDefEqProofs only[go_sem,γ,reduceCtorEq]
   refine aB Lb.awake (by simp -implicitDefEqProofs only[go_sem]) ?_
   simp -implicitDefEqProofs only[go_sem,γ,reduceCtorEq]
   refine bZ (.inr rfl) (by simp -implicitDefEqProofs only[go_sem,γ,reduceCtorEq]<;>rfl) ?_
   rfl
 rcases h7.own 0 rfl with ⟨z1,rfl⟩ | ⟨p,rs,rfl,-⟩
 ·refine tail .nils _ _ _ (.refl _ _) e7 ?_ (by unfold rmF; (repeat' (first|exact PF.nil_le|refine PF.aA ?_ ?_))<;>first|(simp -implicitDefEqProofs only[go_sem,γ,reduceCtorEq]<;>rfl)|rfl)
  have:gL (cJ (fT l 8 4) raw) more (cJ (fT l 8 4) raw).length=[]:=by
   have:=congrArg List.length z1
   rw[gV] at this
   exact List.length_eq_zero_iff.1 this
  rw[this] at hg ⊢
  exact hg.CB
 ·obtain⟨rs,z1,-,z3,-,z5⟩:=h7.frz 0 rfl
  refine tail (ints (gL (cJ (fT l 8 4) raw) more (cJ (fT l 8 4) raw).length)) _ _ _ (.step p z1 (.refl _ _)) (z5.at 1 rfl) hg ?_
  unfold rmF
  (repeat' (first|exact PF.nil_le|refine PF.aA ?_ ?_))<;>first|(simp -implicitDefEqProofs only[go_sem,γ,reduceCtorEq,z3]<;>rfl)|rfl
end Go.PM
namespace Go.PM
open Go Go.Na
theorem xB.move {f:aH} {L:List (List Int)} (h:xB f L) {x k d:Nat} (hx:x<L.length) (hd:d<f.drives.length):xB f (L.set x (L[x].set k d)):=by
 refine⟨by rw[bjB]; exact h.len,fun v hv=>?_,fun r hr=>?_⟩
 ·rw[bjB] at hv
  have:=h.row v hv
  rw[List.getElem_set]
  split
  ·rename_i e
   subst e
   rw[bjB]; exact this
  ·exact this
 ·rcases List.mem_or_eq_of_mem_set hr with hr | rfl
  ·exact h.home r hr
  ·intro y hy
   rcases List.mem_or_eq_of_mem_set hy with hy | rfl
   ·exact h.home _ (bgY hx) y hy
   ·omega
end Go.PM
namespace Go.PM
open Go Go.Na
end Go.PM
namespace Go.PM
open Go Go.Na
structure SS (C:Ctx):Prop extends dP C where
 r3:aP C 3 AC
 r6:aP C 6 WE
 r18:aP C 18 HL
 r82:aP C 82 XB
theorem aYZ {C:Ctx} (c:SS C) (hi:sQ C):LJ C :=
 {apJ c.todP hi with
  new:=(aqU c.todP hi).new
  tfleet:=(aqU c.todP hi).fleet
  tlayout:=fun l v T o a f hV ha=>exactly (c.r3.go (aLO (VV c.todP hi) T o a f hV (fun i h=>(c.r82.go (aXE f hV i h) rfl).seen) ha) rfl)
  tQ:=fun l v T o a f hd ha=>exactly (c.r6.go (aWK (VV c.todP hi) T o a f hd ha) rfl)
  roomM:=fun f room hf=>c.r152.go (avI (MQ c.todP) f hf room) rfl }
theorem a7W {C:Ctx} (c:SS C) (hi:sQ C):akI C :=
 {aYZ c hi with
  awake:=aVN c.todP hi
  again:=fun l v T o=>exactly (c.r18.go (aOT (aYZ c hi) l v T o) rfl) }
theorem aVO {C:Ctx} (c:SS C) (hi:sQ C) (r:aP C 16 HP) (l:List Nat) (hb:∀ x∈l,x<256) (hl:l.length≤9223372036854775807) (m:List Nat) (hb2:∀ x∈m,x<256) (hl2:m.length≤9223372036854775807):aI C 16 [.sl 1 (eM l),.sl 1 (eM m)] .nil (aK (.bool true)) :=
 r.go (aPQ (a7W c hi) l m hb hl hb2 hl2) rfl
end Go.PM
