/-
  Texts of ours, joined: ZdCodes ZdBase MkW17 MkW18 L11W5 Pm37 L11W6 L11P2 L11W7 L11W8 L11W9 L11W10 L11W11 L11W12 L11W13 Jn4. No condition.
-/
import Derived.Test.YtelckcmlobadkaaGreatDoorM1
import Derived.Test.YtelckcmlobadkaaGreatDoorM2
import Derived.Test.YtelckcmlobadkaaGreatDoorM3
import Derived.Test.YtelckcmlobadkaaGreatDoorM4
import Derived.Test.YtelckcmlobadkaaGreatDoorM5
import Derived.Test.YtelckcmlobadkaaGreatDoorProg
import Derived.KernelRfl
import Derived.Test.YtelckcmlobadkaaGreatDoorRows
import Derived.ProofKit
import Derived.WalkKit
import Derived.LaidMore
import Derived.OpenShut
import Derived.Stop.Joined
set_option linter.unusedSimpArgs false
set_option linter.unusedVariables false
open Nat renaming reduceEqDiff → γ, reduceAdd → δ, reduceSub → ε, reduceMul → ζ, reduceLT → η, reduceLeDiff → θ, reduceBEq → τ
open Int renaming reduceLT → ι, reduceLE → κ, reduceEq → μ, reduceToNat → ν, reduceAdd → ξ, reduceNeg → ο, reduceBEq → ρ, reduceBNe → σ
open List renaming reduceReplicate → υ
open List renaming length_map → bfT, replicate → bfV, length_append → bfW, length_singleton → bfZ, getElem_mem → bgA, mem_cons → bgD, getElem?_eq_getElem → bgF, take_of_length_le → bgH, length_take → bgJ, not_mem_nil → bgL, range → bgN, getD_eq_getElem?_getD → bgT, drop_zero → bgV, append_assoc → bgY, mem_map → bgZ, map_cons → bhA, take_length → bhB, getElem?_eq_none → bhD, all_eq_true → bhE, getElem?_eq_some_iff → bhF, getElem?_map → bhG, mem_append → bhJ, getElem_map → bhL, getElem_of_mem → bhM, append_nil → bhN, length_set → bhO, drop_eq_getElem_cons → bhP, length_drop → bhQ, length_nil → bhR, map_append → bhS, Sublist → bhU, map_nil → bhV, mem_range → bhW, take_append_drop → biC, mem_of_getElem? → biF, take_succ_eq_append_getElem → biG, length_cons → biH, nodup_append → biI, ext_getElem → biO, getElem?_append_left → biP, getElem?_take → biQ, nil_append → biR, getElem?_append_right → biT, set_append_right → biU, drop_of_length_le → bjA
open Nat renaming gcd → bfU, le_refl → bfX, mul_add → bgC, zero_le → bgE, lt_or_ge → bgI, mul_assoc → bgK, mul_comm → bgO, zero_add → bgQ, add_mul → bgS, mul_le_mul_right → bgU, mod_eq_of_lt → bgW, mod_lt → bgX, pow_succ → bhH, min_eq_left → bhT, add_assoc → bhX, add_zero → bhY, mul_le_mul_left → bhZ, eq_zero_or_pos → biB, pos_of_ne_zero → biD, pow_pos → biE, div_lt_iff_lt_mul → biJ, le_trans → biK, div_le_self → biS, div_add_mod → biV, div_eq_of_lt → biW
open Option renaming map_eq_some_iff → bfY, map_some → bhC, some → biA, getD_some → biM, bind_eq_some_iff → biX, bind_some → bjB
open Bool renaming not_true → bgB, false_and → bgG, not_false → bgM, and_eq_true → bgP, true_and → bgR, and_false → bhK, and_true → biN, false_eq_true → biZ
open Array renaming replicate → bhI, length_toList → biL, getElem?_eq_getElem → biY, getElem?_eq_some_iff → bjC
namespace Go.Proofs.YtelckcmlobadkaaGreatDoor
open Go Go.PM
def a4B:List Nat:=[11,51,27,12,26,31,14,30,0,0,0,3,7,9,5,8,4,6,17,24,18,23,48,36,0,0,0,20,10,28,152,111,110,66,65,54,155,154,64,85,115,84,114,161,113,112,136,29,162,105,32,101,102,100,77,99,76,153,53,55,137,103,96,151,135,134,104,59,75,80,74,97,79,73,78,98,72,81,40,43,82,42,33,50,45,46,47,49,60,61,62,0,0,0,41,69,56,87,126,88,128,131,92,127,67,86,93,129,94,130,71,68,70,119,91,90,116,89,122,121,120,124,125,95,150,133,132,144,117,123,147,146,118,149,145,148,160,158,143,166,163,159,165,164,0,0,0,15,22,21,16,44,13,25,19,35,57,39,38,58,37,34,83,63,140,108,109,141,138,107,106,0,0,0,0,0,0,0,0,0,0,0,0,0,0,0,0,0,0,0,0,0,0,0,0,52,0,0,0,0,0]
def a0V:List (Option Nat):=[none,none,none,some 11,some 16,some 14,some 17,some 12,some 15,some 13,some 28,some 0,some 3,some 152,some 6,some 147,some 150,some 18,some 20,some 154,some 27,some 149,some 148,some 21,some 19,some 153,some 4,some 2,some 29,some 47,some 7,some 5,some 50,some 82,some 161,some 155,some 23,some 160,some 158,some 157,some 78,some 94,some 81,some 79,some 151,some 84,some 85,some 86,some 22,some 87,some 83,some 1,some 195,some 58,some 35,some 59,some 96,some 156,some 159,some 67,some 88,some 89,some 90,some 163,some 38,some 34,some 33,some 104,some 111,some 95,some 112,some 110,some 76,some 73,some 70,some 68,some 56,some 54,some 74,some 72,some 69,some 77,some 80,some 162,some 41,some 39,some 105,some 97,some 99,some 117,some 115,some 114,some 102,some 106,some 108,some 123,some 62,some 71,some 75,some 55,some 53,some 51,some 52,some 61,some 66,some 49,some 170,some 169,some 165,some 166,some 32,some 31,some 45,some 44,some 42,some 40,some 116,some 128,some 132,some 113,some 120,some 119,some 118,some 129,some 121,some 122,some 98,some 103,some 100,some 107,some 109,some 101,some 126,some 125,some 65,some 64,some 46,some 60,some 168,none,some 164,some 167,none,some 138,some 127,some 134,some 131,some 130,some 135,some 133,some 124,some 63,some 30,some 57,some 37,some 36,none,none,some 137,some 141,some 136,some 43,some 48,some 140,some 143,some 142,some 139]
def num (n:Nat):FuncId:=a4B.getD n 0
def nameOf (f:FuncId):Option Nat:=a0V.getD f none
noncomputable def C:Ctx:=⟨Tryz.prog,num⟩
noncomputable def T (ro:List Nat):Tbl:={ P:=Tryz.prog,num:=num,name:=nameOf,ro:=ro }
theorem c0:(T aOV).func Tryz.f11=some PM.HT:=by kernel_rfl
theorem q0:aQ C 0 PM.HT:=fun _ _ _ hl h=>aO rfl rfl Tryz.func11 (by kernel_rfl) c0 hl h
theorem c1:(T aVD).func Tryz.f51=some PM.VT:=by kernel_rfl
theorem q1:aQ C 1 PM.VT:=fun _ _ _ hl h=>aO rfl rfl Tryz.func51 (by kernel_rfl) c1 hl h
theorem c2:(T a0M).func Tryz.f27=some PM.aqU:=by kernel_rfl
theorem q2:aQ C 2 PM.aqU:=fun _ _ _ hl h=>aO rfl rfl Tryz.func27 (by kernel_rfl) c2 hl h
theorem c4:(T aVM).func Tryz.f26=some PM.MJ:=by kernel_rfl
theorem q4:aQ C 4 PM.MJ:=fun _ _ _ hl h=>aO rfl rfl Tryz.func26 (by kernel_rfl) c4 hl h
theorem c5:(T a0S).func Tryz.f31=some PM.arG:=by kernel_rfl
theorem q5:aQ C 5 PM.arG:=fun _ _ _ hl h=>aO rfl rfl Tryz.func31 (by kernel_rfl) c5 hl h
theorem c7:(T aVE).func Tryz.f30=some PM.MH:=by kernel_rfl
theorem q7:aQ C 7 PM.MH:=fun _ _ _ hl h=>aO rfl rfl Tryz.func30 (by kernel_rfl) c7 hl h
theorem c20:(T aOG).func Tryz.f18=some PM.HL:=by kernel_rfl
theorem q20:aQ C 20 PM.HL:=fun _ _ _ hl h=>aO rfl rfl Tryz.func18 (by kernel_rfl) c20 hl h
theorem c23:(T aOQ).func Tryz.f36=some PM.HQ:=by kernel_rfl
theorem q23:aQ C 23 PM.HQ:=fun _ _ _ hl h=>aO rfl rfl Tryz.func36 (by kernel_rfl) c23 hl h
theorem c27:(T aOS).func Tryz.f20=some PM.HR:=by kernel_rfl
theorem q27:aQ C 27 PM.HR:=fun _ _ _ hl h=>aO rfl rfl Tryz.func20 (by kernel_rfl) c27 hl h
theorem c28:(T a0Q).func Tryz.f10=some PM.arD:=by kernel_rfl
theorem q28:aQ C 28 PM.arD:=fun _ _ _ hl h=>aO rfl rfl Tryz.func10 (by kernel_rfl) c28 hl h
theorem c29:(T aVK).func Tryz.f28=some PM.WC:=by kernel_rfl
theorem q29:aQ C 29 PM.WC:=fun _ _ _ hl h=>aO rfl rfl Tryz.func28 (by kernel_rfl) c29 hl h
theorem c30:(T a1Z).func Tryz.f152=some PM.aWY:=by kernel_rfl
theorem q30:aQ C 30 PM.aWY:=fun _ _ _ hl h=>aO rfl rfl Tryz.func152 (by kernel_rfl) c30 hl h
theorem c31:(T aXA).func Tryz.f111=some PM.YE:=by kernel_rfl
theorem q31:aQ C 31 PM.YE:=fun _ _ _ hl h=>aO rfl rfl Tryz.func111 (by kernel_rfl) c31 hl h
theorem c32:(T a2B).func Tryz.f110=some PM.awX:=by kernel_rfl
theorem q32:aQ C 32 PM.awX:=fun _ _ _ hl h=>aO rfl rfl Tryz.func110 (by kernel_rfl) c32 hl h
theorem c33:(T a2D).func Tryz.f66=some PM.udiv:=by kernel_rfl
theorem q33:aQ C 33 PM.udiv:=fun _ _ _ hl h=>aO rfl rfl Tryz.func66 (by kernel_rfl) c33 hl h
theorem c34:(T a2F).func Tryz.f65=some PM.axM:=by kernel_rfl
theorem q34:aQ C 34 PM.axM:=fun _ _ _ hl h=>aO rfl rfl Tryz.func65 (by kernel_rfl) c34 hl h
theorem c35:(T aXG).func Tryz.f54=some PM.YN:=by kernel_rfl
theorem q35:aQ C 35 PM.YN:=fun _ _ _ hl h=>aO rfl rfl Tryz.func54 (by kernel_rfl) c35 hl h
theorem c36:(T a2N).func Tryz.f155=some PM.aXH:=by kernel_rfl
theorem q36:aQ C 36 PM.aXH:=fun _ _ _ hl h=>aO rfl rfl Tryz.func155 (by kernel_rfl) c36 hl h
theorem c37:(T a2W).func Tryz.f154=some PM.aXP:=by kernel_rfl
theorem q37:aQ C 37 PM.aXP:=fun _ _ _ hl h=>aO rfl rfl Tryz.func154 (by kernel_rfl) c37 hl h
theorem c38:(T aXR).func Tryz.f64=some PM.YX:=by kernel_rfl
theorem q38:aQ C 38 PM.YX:=fun _ _ _ hl h=>aO rfl rfl Tryz.func64 (by kernel_rfl) c38 hl h
theorem c39:(T aMM).func Tryz.f85=some PM.AN:=by kernel_rfl
theorem q39:aQ C 39 PM.AN:=fun _ _ _ hl h=>aO rfl rfl Tryz.func85 (by kernel_rfl) c39 hl h
theorem c40:(T aXE).func Tryz.f115=some PM.YM:=by kernel_rfl
theorem q40:aQ C 40 PM.YM:=fun _ _ _ hl h=>aO rfl rfl Tryz.func115 (by kernel_rfl) c40 hl h
theorem c41:(T aRZ).func Tryz.f84=some PM.KR:=by kernel_rfl
theorem q41:aQ C 41 PM.KR:=fun _ _ _ hl h=>aO rfl rfl Tryz.func84 (by kernel_rfl) c41 hl h
theorem c42:(T aSB).func Tryz.f114=some PM.KT:=by kernel_rfl
theorem q42:aQ C 42 PM.KT:=fun _ _ _ hl h=>aO rfl rfl Tryz.func114 (by kernel_rfl) c42 hl h
theorem c43:(T aXN).func Tryz.f161=some PM.YS:=by kernel_rfl
theorem q43:aQ C 43 PM.YS:=fun _ _ _ hl h=>aO rfl rfl Tryz.func161 (by kernel_rfl) c43 hl h
theorem c44:(T aSF).func Tryz.f113=some PM.KZ:=by kernel_rfl
theorem q44:aQ C 44 PM.KZ:=fun _ _ _ hl h=>aO rfl rfl Tryz.func113 (by kernel_rfl) c44 hl h
theorem c45:(T a4V).func Tryz.f112=some PM.uup:=by kernel_rfl
theorem q45:aQ C 45 PM.uup:=fun _ _ _ hl h=>aO rfl rfl Tryz.func112 (by kernel_rfl) c45 hl h
theorem c47:(T a2Y).func Tryz.f29=some PM.ayB:=by kernel_rfl
theorem q47:aQ C 47 PM.ayB:=fun _ _ _ hl h=>aO rfl rfl Tryz.func29 (by kernel_rfl) c47 hl h
theorem c50:(T aXV).func Tryz.f32=some PM.MS:=by kernel_rfl
theorem q50:aQ C 50 PM.MS:=fun _ _ _ hl h=>aO rfl rfl Tryz.func32 (by kernel_rfl) c50 hl h
theorem c58:(T aMX).func Tryz.f53=some PM.AP:=by kernel_rfl
theorem q58:aQ C 58 PM.AP:=fun _ _ _ hl h=>aO rfl rfl Tryz.func53 (by kernel_rfl) c58 hl h
theorem c59:(T aXX).func Tryz.f55=some PM.ZF:=by kernel_rfl
theorem q59:aQ C 59 PM.ZF:=fun _ _ _ hl h=>aO rfl rfl Tryz.func55 (by kernel_rfl) c59 hl h
theorem c95:(T aZK).func Tryz.f69=some PM.anN:=by kernel_rfl
theorem q95:aQ C 95 PM.anN:=fun _ _ _ hl h=>aO rfl rfl Tryz.func69 (by kernel_rfl) c95 hl h
theorem c96:(T aZV).func Tryz.f56=some PM.aoM:=by kernel_rfl
theorem q96:aQ C 96 PM.aoM:=fun _ _ _ hl h=>aO rfl rfl Tryz.func56 (by kernel_rfl) c96 hl h
theorem c97:(T aNW).func Tryz.f87=some PM.GX:=by kernel_rfl
theorem q97:aQ C 97 PM.GX:=fun _ _ _ hl h=>aO rfl rfl Tryz.func87 (by kernel_rfl) c97 hl h
theorem c98:(T aTU).func Tryz.f126=some PM.TX:=by kernel_rfl
theorem q98:aQ C 98 PM.TX:=fun _ _ _ hl h=>aO rfl rfl Tryz.func126 (by kernel_rfl) c98 hl h
theorem c99:(T aTW).func Tryz.f88=some PM.TY:=by kernel_rfl
theorem q99:aQ C 99 PM.TY:=fun _ _ _ hl h=>aO rfl rfl Tryz.func88 (by kernel_rfl) c99 hl h
theorem a8Y:(T aTY).func Tryz.f128=some PM.TZ:=by kernel_rfl
theorem bbZ:aQ C 100 PM.TZ:=fun _ _ _ hl h=>aO rfl rfl Tryz.func128 (by kernel_rfl) a8Y hl h
theorem a8Z:(T aZQ).func Tryz.f131=some PM.gone:=by kernel_rfl
theorem bcA:aQ C 101 PM.gone:=fun _ _ _ hl h=>aO rfl rfl Tryz.func131 (by kernel_rfl) a8Z hl h
theorem a9A:(T aUB).func Tryz.f92=some PM.UA:=by kernel_rfl
theorem bcB:aQ C 102 PM.UA:=fun _ _ _ hl h=>aO rfl rfl Tryz.func92 (by kernel_rfl) a9A hl h
theorem a9B:(T aNY).func Tryz.f127=some PM.GY:=by kernel_rfl
theorem bcC:aQ C 103 PM.GY:=fun _ _ _ hl h=>aO rfl rfl Tryz.func127 (by kernel_rfl) a9B hl h
theorem a9C:(T a3T).func Tryz.f67=some PM.gin:=by kernel_rfl
theorem bcD:aQ C 104 PM.gin:=fun _ _ _ hl h=>aO rfl rfl Tryz.func67 (by kernel_rfl) a9C hl h
theorem a9D:(T aZM).func Tryz.f86=some PM.anP:=by kernel_rfl
theorem bcE:aQ C 105 PM.anP:=fun _ _ _ hl h=>aO rfl rfl Tryz.func86 (by kernel_rfl) a9D hl h
theorem a9E:(T aZO).func Tryz.f93=some PM.anQ:=by kernel_rfl
theorem bcF:aQ C 106 PM.anQ:=fun _ _ _ hl h=>aO rfl rfl Tryz.func93 (by kernel_rfl) a9E hl h
theorem a9F:(T aUD).func Tryz.f129=some PM.UD:=by kernel_rfl
theorem bcG:aQ C 107 PM.UD:=fun _ _ _ hl h=>aO rfl rfl Tryz.func129 (by kernel_rfl) a9F hl h
theorem a9G:(T aUF).func Tryz.f94=some PM.UE:=by kernel_rfl
theorem bcH:aQ C 108 PM.UE:=fun _ _ _ hl h=>aO rfl rfl Tryz.func94 (by kernel_rfl) a9G hl h
theorem a9H:(T aOB).func Tryz.f130=some PM.HG:=by kernel_rfl
theorem bcI:aQ C 109 PM.HG:=fun _ _ _ hl h=>aO rfl rfl Tryz.func130 (by kernel_rfl) a9H hl h
theorem a9I:(T aUI).func Tryz.f71=some PM.UF:=by kernel_rfl
theorem bcJ:aQ C 110 PM.UF:=fun _ _ _ hl h=>aO rfl rfl Tryz.func71 (by kernel_rfl) a9I hl h
theorem a9J:(T aZI).func Tryz.f68=some PM.ZS:=by kernel_rfl
theorem bcK:aQ C 111 PM.ZS:=fun _ _ _ hl h=>aO rfl rfl Tryz.func68 (by kernel_rfl) a9J hl h
theorem a9K:(T aZS).func Tryz.f70=some PM.anT:=by kernel_rfl
theorem bcL:aQ C 112 PM.anT:=fun _ _ _ hl h=>aO rfl rfl Tryz.func70 (by kernel_rfl) a9K hl h
theorem a9L:(T aYY).func Tryz.f119=some PM.GL:=by kernel_rfl
theorem bcM:aQ C 113 PM.GL:=fun _ _ _ hl h=>aO rfl rfl Tryz.func119 (by kernel_rfl) a9L hl h
theorem a9M:(T aZA).func Tryz.f91=some PM.alQ:=by kernel_rfl
theorem bcN:aQ C 114 PM.alQ:=fun _ _ _ hl h=>aO rfl rfl Tryz.func91 (by kernel_rfl) a9M hl h
theorem a9N:(T aTQ).func Tryz.f90=some PM.LP:=by kernel_rfl
theorem bcO:aQ C 115 PM.LP:=fun _ _ _ hl h=>aO rfl rfl Tryz.func90 (by kernel_rfl) a9N hl h
theorem a9O:(T aJL).func Tryz.f116=some PM.tU:=by kernel_rfl
theorem bcP:aQ C 116 PM.tU:=fun _ _ _ hl h=>aO rfl rfl Tryz.func116 (by kernel_rfl) a9O hl h
theorem a9P:(T aZG).func Tryz.f89=some PM.PR:=by kernel_rfl
theorem bcQ:aQ C 117 PM.PR:=fun _ _ _ hl h=>aO rfl rfl Tryz.func89 (by kernel_rfl) a9P hl h
theorem a9Q:(T aNU).func Tryz.f122=some PM.GW:=by kernel_rfl
theorem bcR:aQ C 118 PM.GW:=fun _ _ _ hl h=>aO rfl rfl Tryz.func122 (by kernel_rfl) a9Q hl h
theorem a9R:(T aYW).func Tryz.f121=some PM.alN:=by kernel_rfl
theorem bcS:aQ C 119 PM.alN:=fun _ _ _ hl h=>aO rfl rfl Tryz.func121 (by kernel_rfl) a9R hl h
theorem a9S:(T aJH).func Tryz.f120=some PM.mT:=by kernel_rfl
theorem bcT:aQ C 120 PM.mT:=fun _ _ _ hl h=>aO rfl rfl Tryz.func120 (by kernel_rfl) a9S hl h
theorem a9T:(T aNS).func Tryz.f124=some PM.GU:=by kernel_rfl
theorem bcU:aQ C 121 PM.GU:=fun _ _ _ hl h=>aO rfl rfl Tryz.func124 (by kernel_rfl) a9T hl h
theorem a9U:(T aTS).func Tryz.f125=some PM.TW:=by kernel_rfl
theorem bcV:aQ C 122 PM.TW:=fun _ _ _ hl h=>aO rfl rfl Tryz.func125 (by kernel_rfl) a9U hl h
theorem a9V:(T aUW).func Tryz.f95=some PM.ME:=by kernel_rfl
theorem bcW:aQ C 123 PM.ME:=fun _ _ _ hl h=>aO rfl rfl Tryz.func95 (by kernel_rfl) a9V hl h
theorem a9W:(T aOI).func Tryz.f150=some PM.zZ:=by kernel_rfl
theorem bcX:aQ C 124 PM.zZ:=fun _ _ _ hl h=>aO rfl rfl Tryz.func150 (by kernel_rfl) a9W hl h
theorem a9X:(T aOM).func Tryz.f133=some PM.AA:=by kernel_rfl
theorem bcY:aQ C 125 PM.AA:=fun _ _ _ hl h=>aO rfl rfl Tryz.func133 (by kernel_rfl) a9X hl h
theorem a9Y:(T aKQ).func Tryz.f132=some PM.tZ:=by kernel_rfl
theorem bcZ:aQ C 126 PM.tZ:=fun _ _ _ hl h=>aO rfl rfl Tryz.func132 (by kernel_rfl) a9Y hl h
theorem a9Z:(T a0U).func Tryz.f144=some PM.arT:=by kernel_rfl
theorem bdA:aQ C 127 PM.arT:=fun _ _ _ hl h=>aO rfl rfl Tryz.func144 (by kernel_rfl) a9Z hl h
theorem baA:(T aVR).func Tryz.f117=some PM.WF:=by kernel_rfl
theorem bdB:aQ C 128 PM.WF:=fun _ _ _ hl h=>aO rfl rfl Tryz.func117 (by kernel_rfl) baA hl h
theorem baB:(T a0X).func Tryz.f123=some PM.asJ:=by kernel_rfl
theorem bdC:aQ C 129 PM.asJ:=fun _ _ _ hl h=>aO rfl rfl Tryz.func123 (by kernel_rfl) baB hl h
theorem baC:(T a0Z).func Tryz.f147=some PM.asP:=by kernel_rfl
theorem bdD:aQ C 130 PM.asP:=fun _ _ _ hl h=>aO rfl rfl Tryz.func147 (by kernel_rfl) baC hl h
theorem baD:(T a1C).func Tryz.f146=some PM.asT:=by kernel_rfl
theorem bdE:aQ C 131 PM.asT:=fun _ _ _ hl h=>aO rfl rfl Tryz.func146 (by kernel_rfl) baD hl h
theorem baE:(T aVT).func Tryz.f118=some PM.WQ:=by kernel_rfl
theorem bdF:aQ C 132 PM.WQ:=fun _ _ _ hl h=>aO rfl rfl Tryz.func118 (by kernel_rfl) baE hl h
theorem baF:(T a1E).func Tryz.f149=some PM.asX:=by kernel_rfl
theorem bdG:aQ C 133 PM.asX:=fun _ _ _ hl h=>aO rfl rfl Tryz.func149 (by kernel_rfl) baF hl h
theorem baG:(T a1G).func Tryz.f145=some PM.atG:=by kernel_rfl
theorem bdH:aQ C 134 PM.atG:=fun _ _ _ hl h=>aO rfl rfl Tryz.func145 (by kernel_rfl) baG hl h
theorem baH:(T aVW).func Tryz.f148=some PM.WT:=by kernel_rfl
theorem bdI:aQ C 135 PM.WT:=fun _ _ _ hl h=>aO rfl rfl Tryz.func148 (by kernel_rfl) baH hl h
theorem baI:(T aLE).func Tryz.f160=some PM.AC:=by kernel_rfl
theorem bdJ:aQ C 136 PM.AC:=fun _ _ _ hl h=>aO rfl rfl Tryz.func160 (by kernel_rfl) baI hl h
theorem baJ:(T aPK).func Tryz.f158=some PM.IG:=by kernel_rfl
theorem bdK:aQ C 137 PM.IG:=fun _ _ _ hl h=>aO rfl rfl Tryz.func158 (by kernel_rfl) baJ hl h
theorem baK:(T aLK).func Tryz.f143=some PM.qT:=by kernel_rfl
theorem bdL:aQ C 138 PM.qT:=fun _ _ _ hl h=>aO rfl rfl Tryz.func143 (by kernel_rfl) baK hl h
theorem baL:(T aAU).func Tryz.f166=some PM.uU:=by kernel_rfl
theorem bdM:aQ C 139 PM.uU:=fun _ _ _ hl h=>aO rfl rfl Tryz.func166 (by kernel_rfl) baL hl h
theorem baM:(T aPN).func Tryz.f163=some PM.IK:=by kernel_rfl
theorem aWB:aQ C 140 PM.IK:=fun _ _ _ hl h=>aO rfl rfl Tryz.func163 (by kernel_rfl) baM hl h
theorem baN:(T aPP).func Tryz.f159=some PM.IL:=by kernel_rfl
theorem aWC:aQ C 141 PM.IL:=fun _ _ _ hl h=>aO rfl rfl Tryz.func159 (by kernel_rfl) baN hl h
theorem baO:(T atN).func Tryz.f165=some PM.sC:=by kernel_rfl
theorem abE:aQ C 142 PM.sC:=fun _ _ _ hl h=>aO rfl rfl Tryz.func165 (by kernel_rfl) baO hl h
theorem baP:(T a4D).func Tryz.f164=some PM.nup:=by kernel_rfl
theorem bdN:aQ C 143 PM.nup:=fun _ _ _ hl h=>aO rfl rfl Tryz.func164 (by kernel_rfl) baP hl h
theorem baQ:(T a4R).func Tryz.f15=some PM.tat:=by kernel_rfl
theorem bdO:aQ C 147 PM.tat:=fun _ _ _ hl h=>aO rfl rfl Tryz.func15 (by kernel_rfl) baQ hl h
theorem baR:(T aRE).func Tryz.f22=some PM.JP:=by kernel_rfl
theorem bdP:aQ C 148 PM.JP:=fun _ _ _ hl h=>aO rfl rfl Tryz.func22 (by kernel_rfl) baR hl h
theorem baS:(T aMI).func Tryz.f21=some PM.AM:=by kernel_rfl
theorem bdQ:aQ C 149 PM.AM:=fun _ _ _ hl h=>aO rfl rfl Tryz.func21 (by kernel_rfl) baS hl h
theorem baT:(T aRH).func Tryz.f16=some PM.JT:=by kernel_rfl
theorem bdR:aQ C 150 PM.JT:=fun _ _ _ hl h=>aO rfl rfl Tryz.func16 (by kernel_rfl) baT hl h
theorem baU:(T aQX).func Tryz.f44=some PM.JN:=by kernel_rfl
theorem bdS:aQ C 151 PM.JN:=fun _ _ _ hl h=>aO rfl rfl Tryz.func44 (by kernel_rfl) baU hl h
theorem baV:(T aWS).func Tryz.f13=some PM.wI:=by kernel_rfl
theorem bdT:aQ C 152 PM.wI:=fun _ _ _ hl h=>aO rfl rfl Tryz.func13 (by kernel_rfl) baV hl h
theorem baW:(T aMG).func Tryz.f25=some PM.AK:=by kernel_rfl
theorem bdU:aQ C 153 PM.AK:=fun _ _ _ hl h=>aO rfl rfl Tryz.func25 (by kernel_rfl) baW hl h
theorem baX:(T aWV).func Tryz.f19=some PM.YD:=by kernel_rfl
theorem bdV:aQ C 154 PM.YD:=fun _ _ _ hl h=>aO rfl rfl Tryz.func19 (by kernel_rfl) baX hl h
theorem baY:(T aQZ).func Tryz.f35=some PM.JO:=by kernel_rfl
theorem bdW:aQ C 155 PM.JO:=fun _ _ _ hl h=>aO rfl rfl Tryz.func35 (by kernel_rfl) baY hl h
theorem baZ:(T aWQ).func Tryz.f57=some PM.XV:=by kernel_rfl
theorem bdX:aQ C 156 PM.XV:=fun _ _ _ hl h=>aO rfl rfl Tryz.func57 (by kernel_rfl) baZ hl h
theorem bbA:(T aRJ).func Tryz.f39=some PM.JU:=by kernel_rfl
theorem bdY:aQ C 157 PM.JU:=fun _ _ _ hl h=>aO rfl rfl Tryz.func39 (by kernel_rfl) bbA hl h
theorem bbB:(T aWX).func Tryz.f38=some PM.ajY:=by kernel_rfl
theorem bdZ:aQ C 158 PM.ajY:=fun _ _ _ hl h=>aO rfl rfl Tryz.func38 (by kernel_rfl) bbB hl h
theorem bbC:(T aRU).func Tryz.f58=some PM.KE:=by kernel_rfl
theorem beA:aQ C 159 PM.KE:=fun _ _ _ hl h=>aO rfl rfl Tryz.func58 (by kernel_rfl) bbC hl h
theorem bbD:(T aRQ).func Tryz.f37=some PM.vF:=by kernel_rfl
theorem beB:aQ C 160 PM.vF:=fun _ _ _ hl h=>aO rfl rfl Tryz.func37 (by kernel_rfl) bbD hl h
theorem bbE:(T aRS).func Tryz.f34=some PM.JY:=by kernel_rfl
theorem beC:aQ C 161 PM.JY:=fun _ _ _ hl h=>aO rfl rfl Tryz.func34 (by kernel_rfl) bbE hl h
theorem a6J:dO C:={
 r0:=q0,
 r1:=q1,
 r2:=q2,
 r4:=q4,
 r5:=q5,
 r7:=q7,
 r20:=q20,
 r23:=q23,
 r27:=q27,
 r28:=q28,
 r29:=q29,
 r30:=q30,
 r31:=q31,
 r32:=q32,
 r33:=q33,
 r34:=q34,
 r35:=q35,
 r36:=q36,
 r37:=q37,
 r38:=q38,
 r39:=q39,
 r40:=q40,
 r41:=q41,
 r42:=q42,
 r43:=q43,
 r44:=q44,
 r45:=q45,
 r47:=q47,
 r50:=q50,
 r58:=q58,
 r59:=q59,
 r95:=q95,
 r96:=q96,
 r97:=q97,
 r98:=q98,
 r99:=q99,
 r100:=bbZ,
 r101:=bcA,
 r102:=bcB,
 r103:=bcC,
 r104:=bcD,
 r105:=bcE,
 r106:=bcF,
 r107:=bcG,
 r108:=bcH,
 r109:=bcI,
 r110:=bcJ,
 r111:=bcK,
 r112:=bcL,
 r113:=bcM,
 r114:=bcN,
 r115:=bcO,
 r116:=bcP,
 r117:=bcQ,
 r118:=bcR,
 r119:=bcS,
 r120:=bcT,
 r121:=bcU,
 r122:=bcV,
 r123:=bcW,
 r124:=bcX,
 r125:=bcY,
 r126:=bcZ,
 r127:=bdA,
 r128:=bdB,
 r129:=bdC,
 r130:=bdD,
 r131:=bdE,
 r132:=bdF,
 r133:=bdG,
 r134:=bdH,
 r135:=bdI,
 r136:=bdJ,
 r137:=bdK,
 r138:=bdL,
 r139:=bdM,
 r140:=aWB,
 r141:=aWC,
 r142:=abE,
 r143:=bdN,
 r147:=bdO,
 r148:=bdP,
 r149:=bdQ,
 r150:=bdR,
 r151:=bdS,
 r152:=bdT,
 r153:=bdU,
 r154:=bdV,
 r155:=bdW,
 r156:=bdX,
 r157:=bdY,
 r158:=bdZ,
 r159:=beA,
 r160:=beB,
 r161:=beC }
end Go.Proofs.YtelckcmlobadkaaGreatDoor
namespace Go.Proofs.YtelckcmlobadkaaGreatDoor
open Go Go.PM Go.RowKit Go.ChangeShapes Go.WideShapes
theorem Tryz.own:ownKnob Tryz.prog.godebug=none:=by kernel_rfl
theorem Tryz.laidOut:laidOutB Tryz.prog=true:=by kernel_rfl
theorem itoa:sJ C:=fun n hn=>by
 refine⟨⟨Tryz.f52,Tryz.func52,by kernel_rfl,by kernel_rfl⟩,fun E w vs hN hW hvs=>?_⟩
 obtain⟨vl⟩:=vs
 cases hvs with
 | cons e1 e2 =>
 cases e2
 cases e1
 refine (Any.strconv_Itoa_small Tryz.a0H n hn w).mono fun e w' he=>?_
 obtain⟨rfl,rfl⟩:=he
 exact⟨_,.str (bO n),E,.nil,rfl,hW,.str ⟨(Lib.decDigits n).toArray⟩,.refl _ _ _,rfl,rfl⟩
theorem aNE {pv:PV} (h:PV.Ty (.sl [.int .u8]) pv):∃ l:List Nat,pv=.sl 1 (gP l)∧(∀ x∈l,x<256)∧l.length≤9223372036854775807:=by
 obtain⟨xs,rfl,hl,hx⟩:=Ty.aUP h
 refine⟨xs.map Int.toNat,?_,?_,?_⟩
 ·unfold aKA gP
  rw[List.map_map]
  congr 1
  refine List.map_congr_left fun x hm=>?_
  have:=(hx x hm).1
  simp only[Function.comp]
  rw[Int.toNat_of_nonneg this]
 ·intro y hy
  obtain⟨x,hm,rfl⟩:=bgZ.1 hy
  have:=(hx x hm).2
  have h0:=(hx x hm).1
  have hm:IntKind.u8.max=255:=by decide
  rw[hm] at this
  omega
 ·rw[bfT]
  have:maxLen≤9223372036854775807:=by decide
  omega
end Go.Proofs.YtelckcmlobadkaaGreatDoor
namespace Go.PM
open Go Go.Na
theorem aWI {C:Ctx} (f:aH) (hv:VF f) (v:Nat) (h:v<f.volumes.length) :
  DY.wp C (aX XB.res (bY (.int .i64 (fO f v)))) (PF.args [.agg f.cells,.int .i64 v]) .nil:=by
 obtain⟨hp,he⟩:=oJ hv h
 have hpol:=hv.policy _ (bgA hp)
 rw[he] at hpol
 have hw:IntKind.i64.wrap ((gC f v).k+(gC f v).m)=(gC f v).k+(gC f v).m:=wrap_i64 (by omega) (by omega)
 simp -implicitDefEqProofs only[go_sem,γ,δ,ε,ζ,η,θ,ι,κ,μ,ν,ξ,ο,ρ,σ,τ,υ,reduceIte,reduceCtorEq,DY,auR,XB]
 refine cD .nil dS PH.nil_le ?_
 simp -implicitDefEqProofs only[go_sem,γ,δ,ε,ζ,η,θ,ι,κ,μ,ν,ξ,ο,ρ,σ,τ,υ,reduceIte,reduceCtorEq,auS,FF h,hv.auE h,yL hp,he]
 refine aP fun o ho=>?_
 simp -implicitDefEqProofs only[go_sem,γ,δ,ε,ζ,η,θ,ι,κ,μ,ν,ξ,ο,ρ,σ,τ,υ,reduceIte,reduceCtorEq,auT,hw]
 refine⟨PH.nil_le,?_⟩
 exact fG (n:=(gC f v).k+(gC f v).m) (by simp -implicitDefEqProofs only[go_sem,γ,δ,ε,ζ,η,θ,ι,κ,μ,ν,ξ,ο,ρ,σ,τ,υ,reduceIte,reduceCtorEq]<;>rfl) rfl
abbrev iiv (l:List Int):List (List PV):=l.map fun x=>[PV.int .i64 x]
def aYA (l:List Nat) (v:PV) (o a:Nat) (f:aH) (r:PV) (H:PH):Prop:=Co r (ints (lC l f a).1)∧H=PH.nil.set o (aS v (lC l f a).2)
theorem afM (l:List Nat) {a:Nat} (h:a≤l.length):∀ k,(jX l a k).2≤l.length∧(jX l a k).1.length=k
 | 0=>⟨h,rfl⟩
 | k+1=>by
  obtain⟨h1,h2⟩:=afM l h k
  exact⟨bC l 7 h1,by simp only[jX,bfW,bfZ,h2]⟩
def arH (f:aH) (o:Nat) (w:PV) (i:Nat):PF:=((((PF.nil.set 0 (.ptr o 2 0 0)).set 3 (.rptr f.cells)).set 5 (w)).set 6 (.int .i64 i))
theorem aVN {C:Ctx} (Lb:pF C) {l:List Nat} {v:PV} (T:Tp l v) (o a:Nat) (f:aH) (hd:f.drives.length≤1000) (ha:a≤l.length):DG.wp C (aX WD.res (aYA l v o a f)) (PF.args [.ptr o 2 0 0,.agg f.cells]) (PH.nil.set o (aS v a)):=by
 have h0:aR (PH.nil.set o (aS v a)) [(o,aS v a)] []:=aR.nil.new (H:=PH.nil) rfl (aS v a)
 simp -implicitDefEqProofs only[go_sem,γ,δ,ε,ζ,η,θ,ι,κ,μ,ν,ξ,ο,ρ,σ,τ,υ,reduceIte,reduceCtorEq,DG,arJ,WD,arK]
 refine cB Lb T (o:=o) (n:=4) (a:=a) (by decide) ha (by simp -implicitDefEqProofs only[go_sem,γ,δ,ε,ζ,η,θ,ι,κ,μ,ν,ξ,ο,ρ,σ,τ,υ,reduceIte,reduceCtorEq]; rfl) (h0.at 0 rfl) ?_
 have h1:=h0.set 0 rfl (aS v (aC l 4 a).2)
 rw[PH.set_set] at h1
 have hna:=bC l 4 ha
 have hT:lC l f a=if (aC l 4 a).1=0 then ([],(aC l 4 a).2) else jX l (aC l 4 a).2 f.drives.length:=rfl
 have hR:∀ r H,aYA l v o a f r H↔Co r (ints (lC l f a).1)∧H=PH.nil.set o (aS v (lC l f a).2):=fun _ _=>Iff.rfl
 generalize aC l 4 a=t at *
 by_cases ht:t.1=0
 ·rw[if_pos ht] at hT
  simp -implicitDefEqProofs only[go_sem,γ,δ,ε,ζ,η,θ,ι,κ,μ,ν,ξ,ο,ρ,σ,τ,υ,reduceIte,reduceCtorEq,bP (show ((t.1:Nat):Int)=0 by omega),arL]
  refine aW (vs:=[.nils]) (.inr rfl) (PH.nil.set o (aS v t.2)) (by simp -implicitDefEqProofs only[go_sem,γ,δ,ε,ζ,η,θ,ι,κ,μ,ν,ξ,ο,ρ,σ,τ,υ,reduceIte,reduceCtorEq]) (PH.aA PH.nil_le (h1.at 0 rfl)) ?_
  rw[cN,hR,hT]
  exact⟨.nil 1,rfl⟩
 rw[if_neg ht] at hT
 have h2:=h1.qS 1
 simp -implicitDefEqProofs only[go_sem,γ,δ,ε,ζ,η,θ,ι,κ,μ,ν,ξ,ο,ρ,σ,τ,υ,reduceIte,reduceCtorEq,bD (show ((t.1:Nat):Int)≠0 by omega),arM,arN]
 refine wp_loop (α:=Nat × PV × PH) (fun s=>arH f o s.2.1 s.1) (fun s=>s.2.2) (fun s=>s.1≤f.drives.length∧aR s.2.2 [(o,aS v (jX l t.2 s.1).2)] [(s.2.1,1,iiv (jX l t.2 s.1).1)]) (fun s=>f.drives.length-s.1) (0,.nils,_) ⟨bgE _,h2⟩ ?_ PH.le_refl ?_
 ·unfold arH
  (repeat' (first|exact PF.nil_le|refine PF.aA ?_ ?_))<;>first|(simp -implicitDefEqProofs only[go_sem,γ,δ,ε,ζ,η,θ,ι,κ,μ,ν,ξ,ο,ρ,σ,τ,υ,reduceIte,reduceCtorEq]<;>rfl)|rfl
 rintro⟨k,w,H0⟩ ⟨hk,hH⟩
 simp only at hk hH ⊢
 obtain⟨k1,k2⟩:=afM l hna k
 simp -implicitDefEqProofs only[go_sem,γ,δ,ε,ζ,η,θ,ι,κ,μ,ν,ξ,ο,ρ,σ,τ,υ,reduceIte,reduceCtorEq,arI,arO,arH,bfT]
 by_cases hlt:k<f.drives.length
 ·have hlt':(k:Int)<(f.drives.length:Nat):=by omega
  have hstep:jX l t.2 (k+1)=((jX l t.2 k).1++[((aC l 7 (jX l t.2 k).2).1:Int)-1],(aC l 7 (jX l t.2 k).2).2):=rfl
  have hz:=bM l (show 0<7 by decide) (jX l t.2 k).2
  generalize hs:jX l t.2 k=s at *
  have hw1:IntKind.i64.wrap (((aC l 7 s.2).1:Int)-1)=((aC l 7 s.2).1:Int)-1:=wrap_i64 (by omega) (by omega)
  have h11:(1:Nat)*1≤16777216:=by decide
  simp -implicitDefEqProofs only[go_sem,γ,δ,ε,ζ,η,θ,ι,κ,μ,ν,ξ,ο,ρ,σ,τ,υ,reduceIte,reduceCtorEq,hlt',arP]
  refine cB Lb T (o:=o) (n:=7) (a:=s.2) (by decide) k1 (by simp -implicitDefEqProofs only[go_sem,γ,δ,ε,ζ,η,θ,ι,κ,μ,ν,ξ,ο,ρ,σ,τ,υ,reduceIte,reduceCtorEq]; rfl) (hH.at 0 rfl) ?_
  have hH2:=hH.set 0 rfl (aS v (aC l 7 s.2).2)
  simp -implicitDefEqProofs only[go_sem,γ,δ,ε,ζ,η,θ,ι,κ,μ,ν,ξ,ο,ρ,σ,τ,υ,reduceIte,reduceCtorEq,hw1,h11]
  refine hH2.append 0 (src:=[[PV.int .i64 (((aC l 7 s.2).1:Int)-1)]]) rfl (by simp -implicitDefEqProofs only[go_sem,γ,δ,ε,ζ,η,θ,ι,κ,μ,ν,ξ,ο,ρ,σ,τ,υ,reduceIte,reduceCtorEq]) (by unfold roomFor; rw[bfT,k2]; simp only[bfZ,maxLen]; omega) fun w' H' h' _=>?_
  simp -implicitDefEqProofs only[go_sem,γ,δ,ε,ζ,η,θ,ι,κ,μ,ν,ξ,ο,ρ,σ,τ,υ,reduceIte,reduceCtorEq,arQ,aN (show k<9223372036854775807 by omega)]
  refine aJ (k+1,w',H') ⟨hlt,?_⟩ (by simp only; omega) ?_ PH.le_refl
  ·simp only
   rw[hstep]
   have:iiv (s.1++[((aC l 7 s.2).1:Int)-1])=iiv s.1++[[PV.int .i64 (((aC l 7 s.2).1:Int)-1)]]:=by simp[iiv]
   rw[this]
   exact h'
  ·(repeat' (first|exact PF.nil_le|refine PF.aA ?_ ?_))<;>first|(simp -implicitDefEqProofs only[go_sem,γ,δ,ε,ζ,η,θ,ι,κ,μ,ν,ξ,ο,ρ,σ,τ,υ,reduceIte,reduceCtorEq]<;>rfl)|rfl
 ·have hlt':¬ (k:Int)<(f.drives.length:Nat):=by omega
  have:k=f.drives.length:=by omega
  subst this
  rw[← hT] at hH
  simp -implicitDefEqProofs only[go_sem,γ,δ,ε,ζ,η,θ,ι,κ,μ,ν,ξ,ο,ρ,σ,τ,υ,reduceIte,reduceCtorEq,hlt',arR]
  rcases hH.own 0 rfl with ⟨h1',rfl⟩ | ⟨q,rs,rfl,_⟩
  ·refine aW (vs:=[.nils]) (.inr rfl) (PH.nil.set o (aS v (lC l f a).2)) (by simp -implicitDefEqProofs only[go_sem,γ,δ,ε,ζ,η,θ,ι,κ,μ,ν,ξ,ο,ρ,σ,τ,υ,reduceIte,reduceCtorEq]) (PH.aA PH.nil_le (hH.at 0 rfl)) ?_
   rw[cN,hR]
   refine⟨?_,rfl⟩
   unfold ints
   rw[show (lC l f a).1.map (fun x=>[PV.int .i64 x])=[] from h1']
   exact .nil 1
  ·obtain⟨rs,g1,g2,g3,-,g4⟩:=hH.frz 0 rfl
   refine AG (vs:=[.osl q 1 0 (iiv (lC l f a).1).length]) (.inr rfl) (by simp -implicitDefEqProofs only[go_sem,γ,δ,ε,ζ,η,θ,ι,κ,μ,ν,ξ,ο,ρ,σ,τ,υ,reduceIte,reduceCtorEq]) (.step g1 (.done (H2:=PH.nil.set o (aS v (lC l f a).2)) ?_ (PH.aA PH.nil_le ?_)))
   ·rw[cN,g3,hR]
    exact⟨.refl _,rfl⟩
   ·have:=g4.at 0 rfl
    rw[this]
    simp only[bV.frz,bhA,bhV,T.frz]
    rfl
end Go.PM
namespace Go.PM
open Go Go.Na
abbrev fL (l:List (List Int)):List (List PV):=l.map fun r=>[ints r]
theorem aEK (l:List (List Int)):Flat (fL l):=kZ fun r hr c hc=>by
 obtain⟨x,_,rfl⟩:=bgZ.1 hr
 rw[List.mem_singleton] at hc
 subst hc
 rfl
theorem aUL (l:List Nat) (drives at_ i:Nat) {a:Nat} (h:a≤l.length):(lS l drives at_ i a).2≤l.length:=by
 unfold lS
 split
 ·exact h
 ·have:=bC l 6 h
  simp only
  split
  ·exact bC l drives this
  ·split
   ·exact bC l (drives+1) this
   ·exact this
theorem uQ (l:List Nat) (drives at_:Nat) {a:Nat} (h:a≤l.length):∀ k,(gW l drives at_ a k).2≤l.length∧(gW l drives at_ a k).1.length=k
 | 0=>⟨h,rfl⟩
 | k+1=>by
  obtain⟨h1,h2⟩:=uQ l drives at_ h k
  exact⟨aUL l drives at_ k h1,by simp only[gW,bfW,bfZ,h2]⟩
theorem sS (l:List Nat) (f:aH) {a:Nat} (h:a≤l.length):∀ k,(cG l f a k).2≤l.length∧(cG l f a k).1.length=k
 | 0=>⟨h,rfl⟩
 | k+1=>by
  obtain⟨h1,h2⟩:=sS l f h k
  exact⟨(uQ l _ _ (bC l _ h1) _).1,by simp only[cG,bfW,bfZ,h2]⟩
def aVG (f:aH) (o:Nat) (w:PV) (i:Nat):PF:=((((PF.nil.set 0 (.ptr o 2 0 0)).set 3 (.rptr f.cells)).set 5 (w)).set 6 (.int .i64 i))
def gD (f:aH) (o:Nat) (w:PV) (i:Nat) (w7:PV) (at_ k:Nat):PF:=(((((((PF.nil.set 0 (.ptr o 2 0 0)).set 3 (.rptr f.cells)).set 5 (w)).set 6 (.int .i64 i)).set 7 (w7)).set 8 (.int .i64 at_)).set 9 (.int .i64 k))
def aVH:aD:=(.seq (.region DC) (.seq (.seq (.region DD) (.cond (.tmp 34) (.seq (.region xP) (.seq (.region xQ) (.block 4 (.seq (.region xR) (.cond (.tmp 44) (.region xS) (.seq (.region rE) (.cond (.tmp 51) (.region xT) .skip))))))) .skip)) (.region rF)))
theorem a0N:xO=.seq (.seq (.region DB) (.cond (.tmp 28) .skip (.exit 2))) (.seq (.block 3 aVH) (.region xU)):=rfl
theorem aVI {C:Ctx} (Lb:pF C) {l:List Nat} {v:PV} (T:Tp l v) (o:Nat) (f:aH) (hd:f.drives.length≤1000) (w w7:PV) (i at_ k a:Nat) (hat:at_≤2000) (hk:k≤2000) (ha:a≤l.length) (L:List LI) (Kk:cC) (F:PF) (H:PH)
  (hF:(gD f o w i w7 at_ k).le F) (hH:aR H [(o,aS v a)] L)
  (hK:∀ F' H',(gD f o w i w7 at_ k).le F'→F' 10=some (.int .i64 (lS l f.drives.length at_ k a).1)→aR H' [(o,aS v (lS l f.drives.length at_ k a).2)] L→aD.wp C (.region rF) Kk F' H') :
  aD.wp C aVH Kk F H:=by
 unfold aVH
 have f0:F 0=some (.ptr o 2 0 0):=hF 0 _ (by unfold gD; simp -implicitDefEqProofs only[go_sem,γ,δ,ε,ζ,η,θ,ι,κ,μ,ν,ξ,ο,ρ,σ,τ,υ,reduceIte,reduceCtorEq])
 have f3:F 3=some (.rptr f.cells):=hF 3 _ (by unfold gD; simp -implicitDefEqProofs only[go_sem,γ,δ,ε,ζ,η,θ,ι,κ,μ,ν,ξ,ο,ρ,σ,τ,υ,reduceIte,reduceCtorEq])
 have f5:F 5=some w:=hF 5 _ (by unfold gD; simp -implicitDefEqProofs only[go_sem,γ,δ,ε,ζ,η,θ,ι,κ,μ,ν,ξ,ο,ρ,σ,τ,υ,reduceIte,reduceCtorEq])
 have f6:F 6=some (.int .i64 i):=hF 6 _ (by unfold gD; simp -implicitDefEqProofs only[go_sem,γ,δ,ε,ζ,η,θ,ι,κ,μ,ν,ξ,ο,ρ,σ,τ,υ,reduceIte,reduceCtorEq])
 have f7:F 7=some w7:=hF 7 _ (by unfold gD; simp -implicitDefEqProofs only[go_sem,γ,δ,ε,ζ,η,θ,ι,κ,μ,ν,ξ,ο,ρ,σ,τ,υ,reduceIte,reduceCtorEq])
 have f8:F 8=some (.int .i64 at_):=hF 8 _ (by unfold gD; simp -implicitDefEqProofs only[go_sem,γ,δ,ε,ζ,η,θ,ι,κ,μ,ν,ξ,ο,ρ,σ,τ,υ,reduceIte,reduceCtorEq])
 have f9:F 9=some (.int .i64 k):=hF 9 _ (by unfold gD; simp -implicitDefEqProofs only[go_sem,γ,δ,ε,ζ,η,θ,ι,κ,μ,ν,ξ,ο,ρ,σ,τ,υ,reduceIte,reduceCtorEq])
 have hle:∀ F':PF,F' 0=some (.ptr o 2 0 0)→F' 3=some (.rptr f.cells)→F' 5=some w→F' 6=some (.int .i64 i)→F' 7=some w7→F' 8=some (.int .i64 at_)→F' 9=some (.int .i64 k)→(gD f o w i w7 at_ k).le F':=fun F' a0 a3 a5 a6 a7 a8 a9=>by
  unfold gD
  (repeat' (first|exact PF.nil_le|refine PF.aA ?_ ?_))<;>first|(simp -implicitDefEqProofs only[go_sem,γ,δ,ε,ζ,η,θ,ι,κ,μ,ν,ξ,ο,ρ,σ,τ,υ,reduceIte,reduceCtorEq,a0,a3,a5,a6,a7,a8,a9]<;>rfl)|rfl
 have hT:lS l f.drives.length at_ k a=if f.drives.length=0 then (-1,a) else if (aC l 6 a).1=0 then (((aC l f.drives.length (aC l 6 a).2).1:Int),(aC l f.drives.length (aC l 6 a).2).2) else if (aC l 6 a).1=1 then (((aC l (f.drives.length+1) (aC l 6 a).2).1:Int)-1,(aC l (f.drives.length+1) (aC l 6 a).2).2) else ((((at_+k)%f.drives.length:Nat):Int),(aC l 6 a).2):=rfl
 simp -implicitDefEqProofs only[go_sem,γ,δ,ε,ζ,η,θ,ι,κ,μ,ν,ξ,ο,ρ,σ,τ,υ,reduceIte,reduceCtorEq,DC,DD,f3,bfT]
 by_cases h0:f.drives.length=0
 ·rw[if_pos h0] at hT
  have h0':¬ ((f.drives.length:Nat):Int)>0:=by omega
  simp -implicitDefEqProofs only[go_sem,γ,δ,ε,ζ,η,θ,ι,κ,μ,ν,ξ,ο,ρ,σ,τ,υ,reduceIte,reduceCtorEq,h0']
  refine hK _ _ (hle _ (by simp -implicitDefEqProofs only[go_sem,γ,δ,ε,ζ,η,θ,ι,κ,μ,ν,ξ,ο,ρ,σ,τ,υ,reduceIte,reduceCtorEq,f0]) (by simp -implicitDefEqProofs only[go_sem,γ,δ,ε,ζ,η,θ,ι,κ,μ,ν,ξ,ο,ρ,σ,τ,υ,reduceIte,reduceCtorEq,f3]) (by simp -implicitDefEqProofs only[go_sem,γ,δ,ε,ζ,η,θ,ι,κ,μ,ν,ξ,ο,ρ,σ,τ,υ,reduceIte,reduceCtorEq,f5]) (by simp -implicitDefEqProofs only[go_sem,γ,δ,ε,ζ,η,θ,ι,κ,μ,ν,ξ,ο,ρ,σ,τ,υ,reduceIte,reduceCtorEq,f6]) (by simp -implicitDefEqProofs only[go_sem,γ,δ,ε,ζ,η,θ,ι,κ,μ,ν,ξ,ο,ρ,σ,τ,υ,reduceIte,reduceCtorEq,f7]) (by simp -implicitDefEqProofs only[go_sem,γ,δ,ε,ζ,η,θ,ι,κ,μ,ν,ξ,ο,ρ,σ,τ,υ,reduceIte,reduceCtorEq,f8]) (by simp -implicitDefEqProofs only[go_sem,γ,δ,ε,ζ,η,θ,ι,κ,μ,ν,ξ,ο,ρ,σ,τ,υ,reduceIte,reduceCtorEq,f9])) ?_ ?_
  ·rw[hT]; simp -implicitDefEqProofs only[go_sem,γ,δ,ε,ζ,η,θ,ι,κ,μ,ν,ξ,ο,ρ,σ,τ,υ,reduceIte,reduceCtorEq]
  ·rw[hT]; exact hH
 rw[if_neg h0] at hT
 have h0':((f.drives.length:Nat):Int)>0:=by omega
 have e1:IntKind.i64.wrap ((at_:Int)+(k:Int))=((at_+k:Nat):Int):=by rw[wrap_i64 (by omega) (by omega)]; omega
 have na:=bC l 6 ha
 have nlt:=bM l (show 0<6 by decide) a
 have hz:¬ ((f.drives.length:Nat):Int)=0:=by omega
 have em:Int.tmod ((at_+k:Nat):Int) (f.drives.length:Nat)=(((at_+k)%f.drives.length:Nat):Int):=Int.ofNat_tmod _ _
 have e2:IntKind.i64.wrap ((f.drives.length:Int)+1)=((f.drives.length+1:Nat):Int):=aN (by omega)
 simp -implicitDefEqProofs only[go_sem,γ,δ,ε,ζ,η,θ,ι,κ,μ,ν,ξ,ο,ρ,σ,τ,υ,reduceIte,reduceCtorEq,h0',xP,f8,f9,f3,bfT,e1,hz,em,xQ,f0]
 refine cB Lb T (o:=o) (n:=6) (a:=a) (by decide) ha (by simp -implicitDefEqProofs only[go_sem,γ,δ,ε,ζ,η,θ,ι,κ,μ,ν,ξ,ο,ρ,σ,τ,υ,reduceIte,reduceCtorEq,f0]; rfl) (hH.at 0 rfl) ?_
 have h1:=hH.set 0 rfl (aS v (aC l 6 a).2)
 generalize aC l 6 a=t at *
 simp -implicitDefEqProofs only[go_sem,γ,δ,ε,ζ,η,θ,ι,κ,μ,ν,ξ,ο,ρ,σ,τ,υ,reduceIte,reduceCtorEq,xR]
 by_cases c0:t.1=0
 ·rw[if_pos c0] at hT
  simp -implicitDefEqProofs only[go_sem,γ,δ,ε,ζ,η,θ,ι,κ,μ,ν,ξ,ο,ρ,σ,τ,υ,reduceIte,reduceCtorEq,bP (show ((t.1:Nat):Int)=0 by omega),xS,f0,f3,bfT]
  refine cB Lb T (o:=o) (n:=f.drives.length) (a:=t.2) (by omega) na (by simp -implicitDefEqProofs only[go_sem,γ,δ,ε,ζ,η,θ,ι,κ,μ,ν,ξ,ο,ρ,σ,τ,υ,reduceIte,reduceCtorEq,f0]) (h1.at 0 rfl) ?_
  have h2:=h1.set 0 rfl (aS v (aC l f.drives.length t.2).2)
  rw[PH.set_set] at h2
  simp -implicitDefEqProofs only[go_sem,γ,δ,ε,ζ,η,θ,ι,κ,μ,ν,ξ,ο,ρ,σ,τ,υ,reduceIte,reduceCtorEq]
  refine hK _ _ (hle _ (by simp -implicitDefEqProofs only[go_sem,γ,δ,ε,ζ,η,θ,ι,κ,μ,ν,ξ,ο,ρ,σ,τ,υ,reduceIte,reduceCtorEq,f0]) (by simp -implicitDefEqProofs only[go_sem,γ,δ,ε,ζ,η,θ,ι,κ,μ,ν,ξ,ο,ρ,σ,τ,υ,reduceIte,reduceCtorEq,f3]) (by simp -implicitDefEqProofs only[go_sem,γ,δ,ε,ζ,η,θ,ι,κ,μ,ν,ξ,ο,ρ,σ,τ,υ,reduceIte,reduceCtorEq,f5]) (by simp -implicitDefEqProofs only[go_sem,γ,δ,ε,ζ,η,θ,ι,κ,μ,ν,ξ,ο,ρ,σ,τ,υ,reduceIte,reduceCtorEq,f6]) (by simp -implicitDefEqProofs only[go_sem,γ,δ,ε,ζ,η,θ,ι,κ,μ,ν,ξ,ο,ρ,σ,τ,υ,reduceIte,reduceCtorEq,f7]) (by simp -implicitDefEqProofs only[go_sem,γ,δ,ε,ζ,η,θ,ι,κ,μ,ν,ξ,ο,ρ,σ,τ,υ,reduceIte,reduceCtorEq,f8]) (by simp -implicitDefEqProofs only[go_sem,γ,δ,ε,ζ,η,θ,ι,κ,μ,ν,ξ,ο,ρ,σ,τ,υ,reduceIte,reduceCtorEq,f9])) ?_ ?_
  ·rw[hT]; simp -implicitDefEqProofs only[go_sem,γ,δ,ε,ζ,η,θ,ι,κ,μ,ν,ξ,ο,ρ,σ,τ,υ,reduceIte,reduceCtorEq]
  ·rw[hT]; exact h2
 rw[if_neg c0] at hT
 by_cases c1:t.1=1
 ·rw[if_pos c1] at hT
  have nd:=bM l (show 0<f.drives.length+1 by omega) t.2
  have e3:IntKind.i64.wrap (((aC l (f.drives.length+1) t.2).1:Int)-1)=((aC l (f.drives.length+1) t.2).1:Int)-1:=wrap_i64 (by omega) (by omega)
  simp -implicitDefEqProofs only[go_sem,γ,δ,ε,ζ,η,θ,ι,κ,μ,ν,ξ,ο,ρ,σ,τ,υ,reduceIte,reduceCtorEq,bD (show ((t.1:Nat):Int)≠0 by omega),rE,bP (show ((t.1:Nat):Int)=1 by omega),xT,f0,f3,bfT,e2]
  refine cB Lb T (o:=o) (n:=f.drives.length+1) (a:=t.2) (by omega) na (by simp -implicitDefEqProofs only[go_sem,γ,δ,ε,ζ,η,θ,ι,κ,μ,ν,ξ,ο,ρ,σ,τ,υ,reduceIte,reduceCtorEq,f0]) (h1.at 0 rfl) ?_
  have h2:=h1.set 0 rfl (aS v (aC l (f.drives.length+1) t.2).2)
  rw[PH.set_set] at h2
  simp -implicitDefEqProofs only[go_sem,γ,δ,ε,ζ,η,θ,ι,κ,μ,ν,ξ,ο,ρ,σ,τ,υ,reduceIte,reduceCtorEq,e3]
  refine hK _ _ (hle _ (by simp -implicitDefEqProofs only[go_sem,γ,δ,ε,ζ,η,θ,ι,κ,μ,ν,ξ,ο,ρ,σ,τ,υ,reduceIte,reduceCtorEq,f0]) (by simp -implicitDefEqProofs only[go_sem,γ,δ,ε,ζ,η,θ,ι,κ,μ,ν,ξ,ο,ρ,σ,τ,υ,reduceIte,reduceCtorEq,f3]) (by simp -implicitDefEqProofs only[go_sem,γ,δ,ε,ζ,η,θ,ι,κ,μ,ν,ξ,ο,ρ,σ,τ,υ,reduceIte,reduceCtorEq,f5]) (by simp -implicitDefEqProofs only[go_sem,γ,δ,ε,ζ,η,θ,ι,κ,μ,ν,ξ,ο,ρ,σ,τ,υ,reduceIte,reduceCtorEq,f6]) (by simp -implicitDefEqProofs only[go_sem,γ,δ,ε,ζ,η,θ,ι,κ,μ,ν,ξ,ο,ρ,σ,τ,υ,reduceIte,reduceCtorEq,f7]) (by simp -implicitDefEqProofs only[go_sem,γ,δ,ε,ζ,η,θ,ι,κ,μ,ν,ξ,ο,ρ,σ,τ,υ,reduceIte,reduceCtorEq,f8]) (by simp -implicitDefEqProofs only[go_sem,γ,δ,ε,ζ,η,θ,ι,κ,μ,ν,ξ,ο,ρ,σ,τ,υ,reduceIte,reduceCtorEq,f9])) ?_ ?_
  ·rw[hT]; simp -implicitDefEqProofs only[go_sem,γ,δ,ε,ζ,η,θ,ι,κ,μ,ν,ξ,ο,ρ,σ,τ,υ,reduceIte,reduceCtorEq]
  ·rw[hT]; exact h2
 ·rw[if_neg c1] at hT
  simp -implicitDefEqProofs only[go_sem,γ,δ,ε,ζ,η,θ,ι,κ,μ,ν,ξ,ο,ρ,σ,τ,υ,reduceIte,reduceCtorEq,bD (show ((t.1:Nat):Int)≠0 by omega),rE,bD (show ((t.1:Nat):Int)≠1 by omega)]
  refine hK _ _ (hle _ (by simp -implicitDefEqProofs only[go_sem,γ,δ,ε,ζ,η,θ,ι,κ,μ,ν,ξ,ο,ρ,σ,τ,υ,reduceIte,reduceCtorEq,f0]) (by simp -implicitDefEqProofs only[go_sem,γ,δ,ε,ζ,η,θ,ι,κ,μ,ν,ξ,ο,ρ,σ,τ,υ,reduceIte,reduceCtorEq,f3]) (by simp -implicitDefEqProofs only[go_sem,γ,δ,ε,ζ,η,θ,ι,κ,μ,ν,ξ,ο,ρ,σ,τ,υ,reduceIte,reduceCtorEq,f5]) (by simp -implicitDefEqProofs only[go_sem,γ,δ,ε,ζ,η,θ,ι,κ,μ,ν,ξ,ο,ρ,σ,τ,υ,reduceIte,reduceCtorEq,f6]) (by simp -implicitDefEqProofs only[go_sem,γ,δ,ε,ζ,η,θ,ι,κ,μ,ν,ξ,ο,ρ,σ,τ,υ,reduceIte,reduceCtorEq,f7]) (by simp -implicitDefEqProofs only[go_sem,γ,δ,ε,ζ,η,θ,ι,κ,μ,ν,ξ,ο,ρ,σ,τ,υ,reduceIte,reduceCtorEq,f8]) (by simp -implicitDefEqProofs only[go_sem,γ,δ,ε,ζ,η,θ,ι,κ,μ,ν,ξ,ο,ρ,σ,τ,υ,reduceIte,reduceCtorEq,f9])) ?_ ?_
  ·rw[hT]; simp -implicitDefEqProofs only[go_sem,γ,δ,ε,ζ,η,θ,ι,κ,μ,ν,ξ,ο,ρ,σ,τ,υ,reduceIte,reduceCtorEq]
  ·rw[hT]; exact h1
theorem a0O {C:Ctx} (Lb:pF C) {l:List Nat} {v:PV} (T:Tp l v) (o:Nat) (f:aH) (hd:f.drives.length≤1000) (i n:Nat) (hn:n≤1000) (hfr:aI C 82 [.agg f.cells,.int .i64 i] .nil (aL (.int .i64 n))) (w:PV) (R:List (List PV)) (at_ a:Nat) (hat:at_≤1000) (ha:a≤l.length) (K:cC) (F:PF) (H:PH)
  (hF:(gD f o w i .nils at_ 0).le F) (hH:aR H [(o,aS v a)] [(w,1,R),(.nils,1,iiv [])])
  (hK:∀ w7 F' H',(gD f o w i w7 at_ n).le F'→aR H' [(o,aS v (gW l f.drives.length at_ a n).2)] [(w,1,R),(w7,1,iiv (gW l f.drives.length at_ a n).1)]→K (.exit 2) F' H') :
  aD.wp C (.loop xO) K F H:=by
 refine wp_loop (α:=Nat × PV × PH) (fun s=>gD f o w i s.2.1 at_ s.1) (fun s=>s.2.2) (fun s=>s.1≤n∧aR s.2.2 [(o,aS v (gW l f.drives.length at_ a s.1).2)] [(w,1,R),(s.2.1,1,iiv (gW l f.drives.length at_ a s.1).1)]) (fun s=>n-s.1) (0,.nils,H) ⟨bgE _,hH⟩ hF PH.le_refl ?_
 rintro⟨k,w7,H0⟩ ⟨hk,hH⟩
 simp only at hk hH ⊢
 obtain⟨k1,k2⟩:=uQ l f.drives.length at_ ha k
 have hstep:gW l f.drives.length at_ a (k+1)=((gW l f.drives.length at_ a k).1++[(lS l f.drives.length at_ k (gW l f.drives.length at_ a k).2).1],(lS l f.drives.length at_ k (gW l f.drives.length at_ a k).2).2):=rfl
 generalize hs:gW l f.drives.length at_ a k=s at *
 rw[a0N]
 simp -implicitDefEqProofs only[go_sem,γ,δ,ε,ζ,η,θ,ι,κ,μ,ν,ξ,ο,ρ,σ,τ,υ,reduceIte,reduceCtorEq,DB,gD]
 refine aB hfr (by simp -implicitDefEqProofs only[go_sem,γ,δ,ε,ζ,η,θ,ι,κ,μ,ν,ξ,ο,ρ,σ,τ,υ,reduceIte,reduceCtorEq]) ?_
 by_cases hlt:k<n
 ·have hlt':(k:Int)<(n:Nat):=by omega
  have h11:(1:Nat)*1≤16777216:=by decide
  simp -implicitDefEqProofs only[go_sem,γ,δ,ε,ζ,η,θ,ι,κ,μ,ν,ξ,ο,ρ,σ,τ,υ,reduceIte,reduceCtorEq,hlt']
  refine aVI (C:=C) Lb T o f hd w w7 i at_ k s.2 (by omega) (by omega) k1 _ _ _ _ (by unfold gD; (repeat' (first|exact PF.nil_le|refine PF.aA ?_ ?_))<;>first|(simp -implicitDefEqProofs only[go_sem,γ,δ,ε,ζ,η,θ,ι,κ,μ,ν,ξ,ο,ρ,σ,τ,υ,reduceIte,reduceCtorEq]<;>rfl)|rfl) hH ?_
  intro F1 H1 hF1 f10 h1
  have f0:F1 0=some (.ptr o 2 0 0):=hF1 0 _ (by unfold gD; simp -implicitDefEqProofs only[go_sem,γ,δ,ε,ζ,η,θ,ι,κ,μ,ν,ξ,ο,ρ,σ,τ,υ,reduceIte,reduceCtorEq])
  have f3:F1 3=some (.rptr f.cells):=hF1 3 _ (by unfold gD; simp -implicitDefEqProofs only[go_sem,γ,δ,ε,ζ,η,θ,ι,κ,μ,ν,ξ,ο,ρ,σ,τ,υ,reduceIte,reduceCtorEq])
  have f5:F1 5=some w:=hF1 5 _ (by unfold gD; simp -implicitDefEqProofs only[go_sem,γ,δ,ε,ζ,η,θ,ι,κ,μ,ν,ξ,ο,ρ,σ,τ,υ,reduceIte,reduceCtorEq])
  have f6:F1 6=some (.int .i64 i):=hF1 6 _ (by unfold gD; simp -implicitDefEqProofs only[go_sem,γ,δ,ε,ζ,η,θ,ι,κ,μ,ν,ξ,ο,ρ,σ,τ,υ,reduceIte,reduceCtorEq])
  have f7:F1 7=some w7:=hF1 7 _ (by unfold gD; simp -implicitDefEqProofs only[go_sem,γ,δ,ε,ζ,η,θ,ι,κ,μ,ν,ξ,ο,ρ,σ,τ,υ,reduceIte,reduceCtorEq])
  have f8:F1 8=some (.int .i64 at_):=hF1 8 _ (by unfold gD; simp -implicitDefEqProofs only[go_sem,γ,δ,ε,ζ,η,θ,ι,κ,μ,ν,ξ,ο,ρ,σ,τ,υ,reduceIte,reduceCtorEq])
  have f9:F1 9=some (.int .i64 k):=hF1 9 _ (by unfold gD; simp -implicitDefEqProofs only[go_sem,γ,δ,ε,ζ,η,θ,ι,κ,μ,ν,ξ,ο,ρ,σ,τ,υ,reduceIte,reduceCtorEq])
  simp -implicitDefEqProofs only[go_sem,γ,δ,ε,ζ,η,θ,ι,κ,μ,ν,ξ,ο,ρ,σ,τ,υ,reduceIte,reduceCtorEq,rF,f7,f10,h11]
  refine h1.append 1 (src:=[[PV.int .i64 (lS l f.drives.length at_ k s.2).1]]) rfl (by simp -implicitDefEqProofs only[go_sem,γ,δ,ε,ζ,η,θ,ι,κ,μ,ν,ξ,ο,ρ,σ,τ,υ,reduceIte,reduceCtorEq]) (by unfold roomFor; rw[bfT,k2]; simp only[bfZ,maxLen]; omega) fun w' H' h' _=>?_
  simp -implicitDefEqProofs only[go_sem,γ,δ,ε,ζ,η,θ,ι,κ,μ,ν,ξ,ο,ρ,σ,τ,υ,reduceIte,reduceCtorEq,xU,f9,aN (show k<9223372036854775807 by omega)]
  refine aJ (k+1,w',H') ⟨hlt,?_⟩ (by simp only; omega) ?_ PH.le_refl
  ·simp only
   rw[hstep]
   have:iiv (s.1++[(lS l f.drives.length at_ k s.2).1])=iiv s.1++[[PV.int .i64 (lS l f.drives.length at_ k s.2).1]]:=by simp[iiv]
   rw[this]
   exact h'
  ·(repeat' (first|exact PF.nil_le|refine PF.aA ?_ ?_))<;>first|(simp -implicitDefEqProofs only[go_sem,γ,δ,ε,ζ,η,θ,ι,κ,μ,ν,ξ,ο,ρ,σ,τ,υ,reduceIte,reduceCtorEq,f0,f3,f5,f6,f8]<;>rfl)|rfl
 ·have hlt':¬ (k:Int)<(n:Nat):=by omega
  have:k=n:=by omega
  subst this
  simp -implicitDefEqProofs only[go_sem,γ,δ,ε,ζ,η,θ,ι,κ,μ,ν,ξ,ο,ρ,σ,τ,υ,reduceIte,reduceCtorEq,hlt']
  refine hK w7 _ _ ?_ (by rw[hs]; exact hH)
  unfold gD
  (repeat' (first|exact PF.nil_le|refine PF.aA ?_ ?_))<;>first|(simp -implicitDefEqProofs only[go_sem,γ,δ,ε,ζ,η,θ,ι,κ,μ,ν,ξ,ο,ρ,σ,τ,υ,reduceIte,reduceCtorEq]<;>rfl)|rfl
def aBG (l:List Nat) (v:PV) (o a:Nat) (f:aH) (r:PV) (H:PH):Prop:=Co r (lay (cG l f a f.volumes.length).1)∧H=PH.nil.set o (aS v (cG l f a f.volumes.length).2)
theorem aKW {C:Ctx} (Lb:pF C) {l:List Nat} {v:PV} (T:Tp l v) (o a:Nat) (f:aH) (hV:VF f) (hfr:∀ i,i<f.volumes.length→aI C 82 [.agg f.cells,.int .i64 i] .nil (aL (.int .i64 (fO f i)))) (ha:a≤l.length) :
  uR.wp C (aX AB.res (aBG l v o a f)) (PF.args [.ptr o 2 0 0,.agg f.cells]) (PH.nil.set o (aS v a)):=by
 have hd:=hV.small.drives
 have hvl:=hV.small.volumes
 have h0:aR (PH.nil.set o (aS v a)) [(o,aS v a)] [(.nils,1,fL [])]:=(aR.nil.new (H:=PH.nil) rfl (aS v a)).qS 1
 have hR:∀ r H,aBG l v o a f r H↔Co r (lay (cG l f a f.volumes.length).1)∧H=PH.nil.set o (aS v (cG l f a f.volumes.length).2):=fun _ _=>Iff.rfl
 simp -implicitDefEqProofs only[go_sem,γ,δ,ε,ζ,η,θ,ι,κ,μ,ν,ξ,ο,ρ,σ,τ,υ,reduceIte,reduceCtorEq,uR,VV,AB,VW,VX]
 refine wp_loop (α:=Nat × PV × PH) (fun s=>aVG f o s.2.1 s.1) (fun s=>s.2.2) (fun s=>s.1≤f.volumes.length∧aR s.2.2 [(o,aS v (cG l f a s.1).2)] [(s.2.1,1,fL (cG l f a s.1).1)]) (fun s=>f.volumes.length-s.1) (0,.nils,_) ⟨bgE _,h0⟩ ?_ PH.le_refl ?_
 ·unfold aVG
  (repeat' (first|exact PF.nil_le|refine PF.aA ?_ ?_))<;>first|(simp -implicitDefEqProofs only[go_sem,γ,δ,ε,ζ,η,θ,ι,κ,μ,ν,ξ,ο,ρ,σ,τ,υ,reduceIte,reduceCtorEq]<;>rfl)|rfl
 rintro⟨i,w,H0⟩ ⟨hi,hH⟩
 simp only at hi hH ⊢
 obtain⟨k1,k2⟩:=sS l f ha i
 simp -implicitDefEqProofs only[go_sem,γ,δ,ε,ζ,η,θ,ι,κ,μ,ν,ξ,ο,ρ,σ,τ,υ,reduceIte,reduceCtorEq,NG,VY,aVG,bfT]
 by_cases hlt:i<f.volumes.length
 ·have hlt':(i:Int)<(f.volumes.length:Nat):=by omega
  obtain⟨hp,he⟩:=oJ hV hlt
  have hpol:=hV.policy _ (bgA hp)
  rw[he] at hpol
  obtain⟨n,hn⟩:∃ n:Nat,fO f i=n:=⟨(fO f i).toNat,by unfold fO; omega⟩
  have hn1:1≤n∧n≤8:=by unfold fO at hn; omega
  have hfi:=hfr i hlt
  rw[hn] at hfi
  have hstep:cG l f a (i+1)=((cG l f a i).1++[(gW l f.drives.length (aC l (f.drives.length+1) (cG l f a i).2).1 (aC l (f.drives.length+1) (cG l f a i).2).2 (fO f i).toNat).1],(gW l f.drives.length (aC l (f.drives.length+1) (cG l f a i).2).1 (aC l (f.drives.length+1) (cG l f a i).2).2 (fO f i).toNat).2):=rfl
  rw[hn,Int.toNat_natCast] at hstep
  generalize hs:cG l f a i=s at *
  have e2:IntKind.i64.wrap ((f.drives.length:Int)+1)=((f.drives.length+1:Nat):Int):=aN (by omega)
  have nl1:=bM l (show 0<f.drives.length+1 by omega) s.2
  have nl2:=bC l (f.drives.length+1) k1
  simp -implicitDefEqProofs only[go_sem,γ,δ,ε,ζ,η,θ,ι,κ,μ,ν,ξ,ο,ρ,σ,τ,υ,reduceIte,reduceCtorEq,hlt',VZ,WA,bfT,e2]
  refine cB Lb T (o:=o) (n:=f.drives.length+1) (a:=s.2) (by omega) k1 (by simp -implicitDefEqProofs only[go_sem,γ,δ,ε,ζ,η,θ,ι,κ,μ,ν,ξ,ο,ρ,σ,τ,υ,reduceIte,reduceCtorEq]) (hH.at 0 rfl) ?_
  have h1:=(hH.set 0 rfl (aS v (aC l (f.drives.length+1) s.2).2)).qS 1
  generalize aC l (f.drives.length+1) s.2=t at *
  obtain⟨r1,r2⟩:=uQ l f.drives.length t.1 nl2 n
  simp -implicitDefEqProofs only[go_sem,γ,δ,ε,ζ,η,θ,ι,κ,μ,ν,ξ,ο,ρ,σ,τ,υ,reduceIte,reduceCtorEq,WB]
  refine a0O (C:=C) Lb T o f (by omega) i n (by omega) hfi w (fL s.1) t.1 t.2 (by omega) nl2 _ _ _ (by unfold gD; (repeat' (first|exact PF.nil_le|refine PF.aA ?_ ?_))<;>first|(simp -implicitDefEqProofs only[go_sem,γ,δ,ε,ζ,η,θ,ι,κ,μ,ν,ξ,ο,ρ,σ,τ,υ,reduceIte,reduceCtorEq]<;>rfl)|rfl) h1 ?_
  intro w7 F1 H1 hF1 h2
  generalize hrow:gW l f.drives.length t.1 t.2 n=row at *
  obtain⟨q,rfl⟩:=(h2.own 1 rfl).one (by rw[bfT]; omega)
  have f0:F1 0=some (.ptr o 2 0 0):=hF1 0 _ (by unfold gD; simp -implicitDefEqProofs only[go_sem,γ,δ,ε,ζ,η,θ,ι,κ,μ,ν,ξ,ο,ρ,σ,τ,υ,reduceIte,reduceCtorEq])
  have f3:F1 3=some (.rptr f.cells):=hF1 3 _ (by unfold gD; simp -implicitDefEqProofs only[go_sem,γ,δ,ε,ζ,η,θ,ι,κ,μ,ν,ξ,ο,ρ,σ,τ,υ,reduceIte,reduceCtorEq])
  have f5:F1 5=some w:=hF1 5 _ (by unfold gD; simp -implicitDefEqProofs only[go_sem,γ,δ,ε,ζ,η,θ,ι,κ,μ,ν,ξ,ο,ρ,σ,τ,υ,reduceIte,reduceCtorEq])
  have f6:F1 6=some (.int .i64 i):=hF1 6 _ (by unfold gD; simp -implicitDefEqProofs only[go_sem,γ,δ,ε,ζ,η,θ,ι,κ,μ,ν,ξ,ο,ρ,σ,τ,υ,reduceIte,reduceCtorEq])
  have f7:F1 7=some (.osl q 1 0 (iiv row.1).length):=hF1 7 _ (by unfold gD; simp -implicitDefEqProofs only[go_sem,γ,δ,ε,ζ,η,θ,ι,κ,μ,ν,ξ,ο,ρ,σ,τ,υ,reduceIte,reduceCtorEq])
  have h11:(1:Nat)*1≤16777216:=by decide
  simp -implicitDefEqProofs only[go_sem,γ,δ,ε,ζ,η,θ,ι,κ,μ,ν,ξ,ο,ρ,σ,τ,υ,reduceIte,reduceCtorEq,NH,f5,f7,h11]
  refine h2.append 0 (src:=[[.osl q 1 0 (iiv row.1).length]]) rfl (by simp -implicitDefEqProofs only[go_sem,γ,δ,ε,ζ,η,θ,ι,κ,μ,ν,ξ,ο,ρ,σ,τ,υ,reduceIte,reduceCtorEq]) (by unfold roomFor; rw[bfT,k2]; simp only[bfZ,maxLen]; omega) fun w' H' h3 hw=>?_
  obtain⟨q',rfl⟩:=hw (by simp)
  obtain⟨rs,z1,z2,z3,z4,z5⟩:=h3.frz 1 rfl
  have y1:=z4 0 _ (by decide) rfl
  simp only at y1
  have y0:=T.frz q 1 rs
  have yf:PV.frz q 1 rs (PV.osl q' 1 0 (fL s.1++[[PV.osl q 1 0 (iiv row.1).length]]).length)=PV.osl q' 1 0 (fL s.1++[[PV.osl q 1 0 (iiv row.1).length]]).length:=y1
  simp -implicitDefEqProofs only[go_sem,γ,δ,ε,ζ,η,θ,ι,κ,μ,ν,ξ,ο,ρ,σ,τ,υ,reduceIte,reduceCtorEq,NI,f6,aN (show i<9223372036854775807 by omega)]
  refine HP (i+1,PV.osl q' 1 0 (fL s.1++[[PV.osl q 1 0 (iiv row.1).length]]).length,H'.frz q 1 rs) z1 ⟨hlt,?_⟩ (by simp only; omega) ?_ PH.le_refl
  ·simp only
   rw[hstep]
   have eB:([(o,aS v row.2)]:List BX).map (fun b=>(b.1,b.2.frz q 1 rs))=[(o,aS v row.2)]:=by
    show [(o,bV.rows 2 [[PV.cR q 1 rs v,.int .i64 row.2]])]=_
    rw[y0]
   have e5:(fL s.1++[[PV.osl q 1 0 (iiv row.1).length]]).map (fun r=>r.map (PV.cR q 1 rs))=fL (s.1++[row.1]):=by
    rw[bhS,aEK]
    show fL s.1++[[PV.cR q 1 rs (.osl q 1 0 (iiv row.1).length)]]=_
    rw[z2]
    simp[fL]
   rw[← eB,← e5]
   exact z5
  ·have e7:(fL s.1++[[PV.osl q 1 0 (iiv row.1).length]]).length=(fL s.1++[[PV.osl q 1 0 row.1.length]]).length:=by simp
   rw[e7] at yf ⊢
   (repeat' (first|exact PF.nil_le|refine PF.aA ?_ ?_))<;>first|(simp -implicitDefEqProofs only[go_sem,γ,δ,ε,ζ,η,θ,ι,κ,μ,ν,ξ,ο,ρ,σ,τ,υ,reduceIte,reduceCtorEq,f0,f3,yf]<;>rfl)|rfl
 ·have hlt':¬ (i:Int)<(f.volumes.length:Nat):=by omega
  have:i=f.volumes.length:=by omega
  subst this
  simp -implicitDefEqProofs only[go_sem,γ,δ,ε,ζ,η,θ,ι,κ,μ,ν,ξ,ο,ρ,σ,τ,υ,reduceIte,reduceCtorEq,hlt',NJ]
  rcases hH.own 0 rfl with ⟨h1',rfl⟩ | ⟨q,rs,rfl,_⟩
  ·refine aW (vs:=[.nils]) (.inr rfl) (PH.nil.set o (aS v (cG l f a f.volumes.length).2)) (by simp -implicitDefEqProofs only[go_sem,γ,δ,ε,ζ,η,θ,ι,κ,μ,ν,ξ,ο,ρ,σ,τ,υ,reduceIte,reduceCtorEq]) (PH.aA PH.nil_le (hH.at 0 rfl)) ?_
   rw[cN,hR]
   refine⟨?_,rfl⟩
   unfold lay
   rw[show (cG l f a f.volumes.length).1.map (fun r=>[ints r])=[] from h1']
   exact .nil 1
  ·obtain⟨rs,g1,g2,g3,-,g4⟩:=hH.frz 0 rfl
   refine AG (vs:=[.osl q 1 0 (fL (cG l f a f.volumes.length).1).length]) (.inr rfl) (by simp -implicitDefEqProofs only[go_sem,γ,δ,ε,ζ,η,θ,ι,κ,μ,ν,ξ,ο,ρ,σ,τ,υ,reduceIte,reduceCtorEq]) (.step g1 (.done (H2:=PH.nil.set o (aS v (cG l f a f.volumes.length).2)) ?_ (PH.aA PH.nil_le ?_)))
   ·rw[cN,g3,hR]
    exact⟨.refl _,rfl⟩
   ·have:=g4.at 0 rfl
    rw[this]
    simp only[bV.frz,bhA,bhV,T.frz]
    rfl
end Go.PM
namespace Go.PM
open Go Go.Na
structure LG (C:Ctx):Prop extends SU C where
 new:∀ (l:List Nat),(∀ x∈l,x<256)→l.length≤9223372036854775807→aI C 28 [.sl 1 (gP l)] .nil (akL l)
 tfleet:∀ (l:List Nat) (v:PV),Tp l v→∀ (o drives volumes a:Nat),drives≤60→volumes≤50→a≤l.length →
  aI C 0 [.ptr o 2 0 0,.int .i64 drives,.int .i64 volumes] (PH.nil.set o (aS v a)) (fun r H=>r=.agg (fC l drives volumes a).1.cells∧H=PH.nil.set o (aS v (fC l drives volumes a).2))
 tlayout:∀ (l:List Nat) (v:PV),Tp l v→∀ (o a:Nat) (f:aH),VF f→a≤l.length→aI C 3 [.ptr o 2 0 0,.agg f.cells] (PH.nil.set o (aS v a)) (fun r H=>r=lay (cG l f a f.volumes.length).1∧H=PH.nil.set o (aS v (cG l f a f.volumes.length).2))
 wI:∀ (l:List Nat) (v:PV),Tp l v→∀ (o a:Nat) (f:aH),f.drives.length≤1000→a≤l.length→aI C 6 [.ptr o 2 0 0,.agg f.cells] (PH.nil.set o (aS v a)) (fun r H=>r=ints (lC l f a).1∧H=PH.nil.set o (aS v (lC l f a).2))
 roomM:∀ (f:aH) (room:List Int),f.Ok→aI C 152 [.agg f.cells,ints room] .nil (kD 1 (dB (MN f room)))
theorem exactly {C:Ctx} {name:Nat} {args:List PV} {H H2:PH} {v:PV} (h:aI C name args H (fun r H'=>Co r v∧H'=H2)):aI C name args H (fun r H'=>r=v∧H'=H2) :=
 h.post fun r H' hr=>⟨_,hr.1,rfl,hr.2⟩
def fT (l:List Nat) (d v:Nat):aH:=(fC (l.take 400) d v 0).1
def faT (l:List Nat) (d v:Nat):Nat:=(fC (l.take 400) d v 0).2
def lT (l:List Nat) (d v:Nat):List (List Int):=(cG (l.take 400) (fT l d v) (faT l d v) (fT l d v).volumes.length).1
def laT (l:List Nat) (d v:Nat):Nat:=(cG (l.take 400) (fT l d v) (faT l d v) (fT l d v).volumes.length).2
def rT (l:List Nat) (d v:Nat):List Int:=(lC (l.take 400) (fT l d v) (laT l d v)).1
theorem GQ (l:List Nat) (drives volumes:Nat) {a:Nat} (h:a≤l.length):(fC l drives volumes a).2≤l.length:=by
 have ae:=bC l 2 h
 have alw:=bC l 2 ae
 obtain⟨alaws,-⟩:=CA l alw (1+(aC l 2 (aC l 2 a).2).1)
 have amd:=bC l 2 alaws
 obtain⟨amodels,-⟩:=tE l (1+(aC l 2 (aC l 2 a).2).1) amd (1+(aC l 2 (fJ l (aC l 2 (aC l 2 a).2).2 (1+(aC l 2 (aC l 2 a).2).1)).2).1)
 obtain⟨hG,-⟩:=BO (mc:=1+(aC l 2 (fJ l (aC l 2 (aC l 2 a).2).2 (1+(aC l 2 (aC l 2 a).2).1)).2).1) 4 0 (⟨by simp,bgE _,amodels⟩:GOk l drives ⟨[jY],[],_⟩)
 exact (zM l _ (bC l (volumes+1) (qC l _ (bC l 2 hG.a) _).1) _).1
theorem aUK (l:List Nat) (drives at_ i a:Nat):-1≤(lS l drives at_ i a).1∧(lS l drives at_ i a).1<drives:=by
 unfold lS
 split
 ·simp only; omega
 ·rename_i h
  have h1:=bM l (show 0<drives by omega) (aC l 6 a).2
  have h2:=bM l (show 0<drives+1 by omega) (aC l 6 a).2
  have h3:=bgX (at_+i) (show 0<drives by omega)
  simp only
  split
  ·simp only; omega
  ·split
   ·simp only; omega
   ·simp only; omega
theorem apY (l:List Nat) (drives at_ a:Nat):∀ k,∀ x∈(gW l drives at_ a k).1,-1≤x∧x<drives
 | 0,x,h=>by cases h
 | k+1,x,h=>by
  rcases bhJ.1 h with h | h
  ·exact apY l drives at_ a k x h
  ·rw[List.mem_singleton] at h
   subst h
   exact aUK l drives at_ k _
structure uD (f:aH) (L:List (List Int)):Prop where
 len:L.length=f.volumes.length
 row:∀ v (h:v<L.length),((L[v].length:Nat):Int)=fO f v
 home:∀ r∈L,∀ x∈r,-1≤x∧x<f.drives.length
theorem acZ (l:List Nat) {f:aH} (hV:VF f) {a:Nat} (ha:a≤l.length):∀ k,k≤f.volumes.length→(cG l f a k).1.length=k∧(∀ v (h:v<(cG l f a k).1.length),(((cG l f a k).1[v].length:Nat):Int)=fO f v)∧∀ r∈(cG l f a k).1,∀ x∈r,-1≤x∧x<f.drives.length
 | 0,_=>⟨rfl,fun v h=>absurd h (by simp[cG]),fun r h=>by cases h⟩
 | k+1,hk=>by
  obtain⟨h1,h2,h3⟩:=acZ l hV ha k (by omega)
  obtain⟨hp,he⟩:=oJ hV (show k<f.volumes.length by omega)
  have hpol:=hV.policy _ (bgA hp)
  rw[he] at hpol
  have hn:((fO f k).toNat:Int)=fO f k:=by unfold fO; omega
  have ha2:=(sS l f ha k).1
  have hr:=(uQ l f.drives.length (aC l (f.drives.length+1) (cG l f a k).2).1 (bC l (f.drives.length+1) ha2) (fO f k).toNat).2
  have hi:=apY l f.drives.length (aC l (f.drives.length+1) (cG l f a k).2).1 (aC l (f.drives.length+1) (cG l f a k).2).2 (fO f k).toNat
  have hstep:(cG l f a (k+1)).1=(cG l f a k).1++[(gW l f.drives.length (aC l (f.drives.length+1) (cG l f a k).2).1 (aC l (f.drives.length+1) (cG l f a k).2).2 (fO f k).toNat).1]:=rfl
  rw[hstep]
  generalize (gW l f.drives.length (aC l (f.drives.length+1) (cG l f a k).2).1 (aC l (f.drives.length+1) (cG l f a k).2).2 (fO f k).toNat).1=row at *
  generalize (cG l f a k).1=L at *
  refine⟨by simp[h1],fun v h=>?_,fun r h=>?_⟩
  ·by_cases hv:v<L.length
   ·rw[List.getElem_append_left hv]; exact h2 v hv
   ·have hv2:v=k:=by simp at h; omega
    subst hv2
    rw[List.getElem_append_right (by omega)]
    simp only[h1,Nat.sub_self,List.getElem_cons_zero]
    rw[hr,hn]
  ·rcases bhJ.1 h with h | h
   ·exact h3 r h
   ·rw[List.mem_singleton] at h
    subst h
    exact hi
theorem uD.a6W {f:aH} {L:List (List Int)} (h:uD f L) (hV:VF f):∀ k,k≤L.length→(L.take k).flatten.length≤k*8:=by
 have hl:=h.len
 intro k
 induction k with
 | zero=>intro _; simp
 | succ k ih =>
  intro hk
  rw[vO L hk,bfW]
  have h1:=ih (by omega)
  have h2:=h.row k hk
  obtain⟨hp,he⟩:=oJ hV (show k<f.volumes.length by omega)
  have hpol:=hV.policy _ (bgA hp)
  rw[he] at hpol
  unfold fO at h2
  omega
theorem uD.ok {f:aH} (hV:VF f) {L:List (List Int)} (h:uD f L):iK L:=by
 have hv:=hV.small.volumes
 have hl:=h.len
 have:=h.a6W hV L.length (bfX _)
 rw[bhB] at this
 exact⟨by omega,by omega⟩
theorem bbU (l:List Nat) {d v:Nat} (hd:d≤24) (hv:v≤12):uD (fT l d v) (lT l d v):=by
 obtain⟨h1,h2,h3⟩:=acZ (l.take 400) (VF.of (mG (l.take 400) d v 0 hd hv).1) (GQ (l.take 400) d v (bgE _)) (fT l d v).volumes.length (bfX _)
 exact⟨h1,h2,h3⟩
end Go.PM
namespace Go.PM
open Go
section
variable {C:Ctx} {F F':PF} {H:PH}
theorem cE (hle:F.le F') {x:aM} {v:PV} (h:x.ev F=some v):x.ev F'=some v:=by
 cases x
 ·exact hle _ _ h
 all_goals exact h
theorem TI (hle:F.le F'):∀ {xs:List aM} {vs:List PV},aM.evs F xs=some vs→aM.evs F' xs=some vs
 | [],_,h=>h
 | x::xs,vs,h=>by
  rw[uH] at h ⊢
  cases hx:x.ev F with
  | none=>simp[hx] at h
  | some v =>
   cases hs:aM.evs F xs with
   | none=>simp[hs] at h
   | some ws =>
    rw[hx,hs] at h
    rw[cE hle hx,TI hle hs]
    exact h
theorem alR (hle:F.le F'):∀ {ps:List (Nat × Nat × aM)} {cs ds:List PV},mS cs F ps=some ds→mS cs F' ps=some ds
 | [],_,_,h=>h
 | (off,size,x)::ps,cs,ds,h=>by
  simp only[mS] at h ⊢
  cases hx:x.ev F with
  | none=>simp[hx] at h
  | some v =>
   rw[hx] at h
   rw[cE hle hx]
   simp only at h ⊢
   split at h
   ·rename_i hc; rw[if_pos hc]; exact alR hle h
   ·cases h
theorem wY (hle:F.le F') {size:Nat}:∀ {ps:List (Nat × aM)} {cs ds:List (List PV)},fN size cs F ps=some ds→fN size cs F' ps=some ds
 | [],_,_,h=>h
 | (i,x)::ps,cs,ds,h=>by
  simp only[fN] at h ⊢
  cases hx:x.ev F with
  | none=>simp[hx] at h
  | some v =>
   rw[hx] at h
   rw[cE hle hx]
   simp only at h ⊢
   split at h
   ·rename_i hc; rw[if_pos hc]; exact wY hle h
   ·cases h
theorem GC (hle:F.le F') {d n:Int} {x:Option aM} (h:bnd F d x=some n):bnd F' d x=some n:=by
 cases x with
 | none=>exact h
 | some x =>
  simp only[bnd] at h ⊢
  cases hx:x.ev F with
  | none=>simp[hx] at h
  | some v=>rw[cE hle hx,← hx]; exact h
theorem auB {op:POp} {v:PV} (hle:F.le F') (h:aK op F H=some v):aK op F' H=some v:=by
 cases op
 case mv x=>exact cE hle h
 case pick c a b =>
  simp only[aK] at h ⊢
  cases hc:c.ev F with
  | none=>simp[hc] at h
  | some t =>
   rw[hc] at h
   rw[cE hle hc]
   cases t<;>simp only at h ⊢<;>try cases h
   rename_i t
   cases t
   ·simp only[biZ,if_false] at h ⊢; exact cE hle h
   ·simp only[if_true] at h ⊢; exact cE hle h
 case same x =>
  simp only[aK] at h ⊢
  cases hx:x.ev F with
  | none=>simp[hx] at h
  | some a=>rw[cE hle hx,← hx]; exact h
 case un o x =>
  simp only[aK] at h ⊢
  cases hx:x.ev F with
  | none=>simp[hx] at h
  | some a=>rw[cE hle hx,← hx]; exact h
 case conv k x =>
  simp only[aK] at h ⊢
  cases hx:x.ev F with
  | none=>simp[hx] at h
  | some a=>rw[cE hle hx,← hx]; exact h
 case nilchk x =>
  simp only[aK] at h ⊢
  cases hx:x.ev F with
  | none=>simp[hx] at h
  | some a=>rw[cE hle hx,← hx]; exact h
 case fieldA o x =>
  simp only[aK] at h ⊢
  cases hx:x.ev F with
  | none=>simp[hx] at h
  | some a=>rw[cE hle hx,← hx]; exact h
 case field o n x =>
  simp only[aK] at h ⊢
  cases hx:x.ev F with
  | none=>simp[hx] at h
  | some a=>rw[cE hle hx,← hx]; exact h
 case lenStr x =>
  simp only[aK] at h ⊢
  cases hx:x.ev F with
  | none=>simp[hx] at h
  | some a=>rw[cE hle hx,← hx]; exact h
 case capNil x =>
  simp only[aK] at h ⊢
  cases hx:x.ev F with
  | none=>simp[hx] at h
  | some a=>rw[cE hle hx,← hx]; exact h
 case extract x i =>
  simp only[aK] at h ⊢
  cases hx:x.ev F with
  | none=>simp[hx] at h
  | some a=>rw[cE hle hx,← hx]; exact h
 case bytes2str x =>
  simp only[aK] at h ⊢
  cases hx:x.ev F with
  | none=>simp[hx] at h
  | some a=>rw[cE hle hx,← hx]; exact h
 case len x =>
  simp only[aK] at h ⊢
  cases hx:x.ev F with
  | none=>simp[hx] at h
  | some a=>rw[cE hle hx,← hx]; exact h
 case box r x =>
  cases r
  ·cases h
  simp only[aK] at h ⊢
  cases hx:x.ev F with
  | none=>simp[hx] at h
  | some a=>rw[cE hle hx,← hx]; exact h
 case load n p =>
  cases n
  all_goals
   simp only[aK] at h ⊢
   cases hx:p.ev F with
   | none=>simp[hx] at h
   | some a=>rw[cE hle hx,← hx]; exact h
 case bin o x y =>
  simp only[aK] at h ⊢
  cases hx:x.ev F with
  | none=>simp[hx] at h
  | some a =>
   cases hy:y.ev F with
   | none=>simp[hx,hy] at h
   | some b=>rw[cE hle hx,cE hle hy,← hx,← hy]; exact h
 case eqb n x y =>
  simp only[aK] at h ⊢
  cases hx:x.ev F with
  | none=>simp[hx] at h
  | some a =>
   cases hy:y.ev F with
   | none=>simp[hx,hy] at h
   | some b=>rw[cE hle hx,cE hle hy,← hx,← hy]; exact h
 case eqs n k x y =>
  simp only[aK] at h ⊢
  cases hx:x.ev F with
  | none=>simp[hx] at h
  | some a =>
   cases hy:y.ev F with
   | none=>simp[hx,hy] at h
   | some b=>rw[cE hle hx,cE hle hy,← hx,← hy]; exact h
 case idxS s x i =>
  simp only[aK] at h ⊢
  cases hx:x.ev F with
  | none=>simp[hx] at h
  | some a =>
   cases hy:i.ev F with
   | none=>simp[hx,hy] at h
   | some b=>rw[cE hle hx,cE hle hy,← hx,← hy]; exact h
 case idxA n s x i =>
  simp only[aK] at h ⊢
  cases hx:x.ev F with
  | none=>simp[hx] at h
  | some a =>
   cases hy:i.ev F with
   | none=>simp[hx,hy] at h
   | some b=>rw[cE hle hx,cE hle hy,← hx,← hy]; exact h
 case idxV n s g x i =>
  simp only[aK] at h ⊢
  cases hx:x.ev F with
  | none=>simp[hx] at h
  | some a =>
   cases hy:i.ev F with
   | none=>simp[hx,hy] at h
   | some b=>rw[cE hle hx,cE hle hy,← hx,← hy]; exact h
 case idxStr x i =>
  simp only[aK] at h ⊢
  cases hx:x.ev F with
  | none=>simp[hx] at h
  | some a =>
   cases hy:i.ev F with
   | none=>simp[hx,hy] at h
   | some b=>rw[cE hle hx,cE hle hy,← hx,← hy]; exact h
 case minmax m x y =>
  simp only[aK] at h ⊢
  cases hx:x.ev F with
  | none=>simp[hx] at h
  | some a =>
   cases hy:y.ev F with
   | none=>simp[hx,hy] at h
   | some b=>rw[cE hle hx,cE hle hy,← hx,← hy]; exact h
 case lookup sh z x k ok =>
  simp only[aK] at h ⊢
  cases hx:x.ev F with
  | none=>simp[hx] at h
  | some a =>
   cases hy:k.ev F with
   | none=>simp[hx,hy] at h
   | some b=>rw[cE hle hx,cE hle hy,← hx,← hy]; exact h
 case build z ps =>
  simp only[aK,bfY] at h ⊢
  obtain⟨cs,h1,h2⟩:=h
  exact⟨cs,alR hle h1,h2⟩
 case bslice r s l z ps =>
  cases r
  ·cases h
  simp only[aK] at h ⊢
  split at h
  ·rename_i hc
   rw[if_pos hc]
   rw[bfY] at h ⊢
   obtain⟨cs,h1,h2⟩:=h
   exact⟨cs,wY hle h1,h2⟩
  ·cases h
 case mkfn n cs =>
  simp only[aK,bfY] at h ⊢
  obtain⟨vs,h1,h2⟩:=h
  exact⟨vs,TI hle h1,h2⟩
 case sliceA n s x lo hi mx =>
  cases lo<;>cases hi<;>cases mx<;>simp only[aK] at h ⊢<;>try cases h
  cases hx:x.ev F with
  | none=>simp[hx] at h
  | some a=>rw[cE hle hx,← hx]; exact h
 case sliceStr x lo hi =>
  simp only[aK] at h ⊢
  cases hx:x.ev F with
  | none=>simp[hx] at h
  | some a =>
   rw[hx] at h
   rw[cE hle hx]
   cases a<;>simp only at h ⊢<;>try cases h
   cases h1:bnd F 0 lo with
   | none=>simp[h1] at h
   | some l =>
    rename_i s
    cases h2:bnd F s.length hi with
    | none=>simp[h1,h2] at h
    | some u=>rw[GC hle h1,GC hle h2,← h1,← h2]; exact h
 case slice s x lo hi mx =>
  simp only[aK] at h ⊢
  cases hx:x.ev F with
  | none=>simp[hx] at h
  | some a =>
   rw[hx] at h
   rw[cE hle hx]
   have key:∀ (d:Int) (w:PV),(match bnd F 0 lo,bnd F d hi with
     | some a1,some a2=>match (generalizing:=false) mx with
      | none=>PV.slice s w a1 a2 none
      | some m=>(bnd F 0 (some m)).bind fun m=>PV.slice s w a1 a2 (some m)
     | _,_=>none)=some v→(match bnd F' 0 lo,bnd F' d hi with
     | some a1,some a2=>match (generalizing:=false) mx with
      | none=>PV.slice s w a1 a2 none
      | some m=>(bnd F' 0 (some m)).bind fun m=>PV.slice s w a1 a2 (some m)
     | _,_=>none)=some v:=by
    intro d w h
    cases h1:bnd F 0 lo with
    | none=>simp[h1] at h
    | some l =>
     cases h2:bnd F d hi with
     | none=>simp[h1,h2] at h
     | some u =>
      rw[h1,h2] at h
      rw[GC hle h1,GC hle h2]
      cases mx with
      | none=>exact h
      | some m =>
       simp only at h ⊢
       cases h3:bnd F 0 (some m) with
       | none=>simp[h3] at h
       | some q=>rw[GC hle h3,← h3]; exact h
   cases a<;>simp only at h ⊢<;>first | exact key _ _ h | cases h
 all_goals exact h
theorem akW {op:POp} {r:(Nat→PV) × bV} (hle:F.le F') (h:cI op F=some r):cI op F'=some r:=by
 cases op
 case box b x =>
  cases b
  ·simp only[cI] at h ⊢
   cases hx:x.ev F with
   | none=>simp[hx] at h
   | some a=>rw[cE hle hx,← hx]; exact h
  ·cases h
 case bslice b s l z ps =>
  cases b
  ·simp only[cI] at h ⊢
   split at h
   ·rename_i hc
    rw[if_pos hc]
    rw[bfY] at h ⊢
    obtain⟨cs,h1,h2⟩:=h
    exact⟨cs,wY hle h1,h2⟩
   ·cases h
  ·cases h
 case mkslice s b z l c =>
  simp only[cI] at h ⊢
  cases hx:l.ev F with
  | none=>simp[hx] at h
  | some a =>
   cases hy:c.ev F with
   | none=>simp[hx,hy] at h
   | some b=>rw[cE hle hx,cE hle hy,← hx,← hy]; exact h
 all_goals exact h
theorem ayO {op:POp} {K:PV→PH→Prop} (hle:F.le F') (h:bR op F H K):bR op F' H K:=by
 cases op
 case store n x y =>
  simp only[bR] at h ⊢
  cases hx:x.ev F with
  | none=>simp[hx] at h
  | some a =>
   cases hy:y.ev F with
   | none=>simp[hx,hy] at h
   | some b=>rw[cE hle hx,cE hle hy]; rw[hx,hy] at h; exact h
 case append s b x y =>
  simp only[bR] at h ⊢
  cases hx:x.ev F with
  | none=>simp[hx] at h
  | some a =>
   cases hy:y.ev F with
   | none=>simp[hx,hy] at h
   | some b=>rw[cE hle hx,cE hle hy]; rw[hx,hy] at h; exact h
 case mapset sh x y z =>
  simp only[bR] at h ⊢
  cases hx:x.ev F with
  | none=>simp[hx] at h
  | some a =>
   cases hy:y.ev F with
   | none=>simp[hx,hy] at h
   | some b =>
    cases hz:z.ev F with
    | none=>simp[hx,hy,hz] at h
    | some c=>rw[cE hle hx,cE hle hy,cE hle hz]; rw[hx,hy,hz] at h; exact h
 case insert sh x y z =>
  simp only[bR] at h ⊢
  cases hx:x.ev F with
  | none=>simp[hx] at h
  | some a =>
   cases hy:y.ev F with
   | none=>simp[hx,hy] at h
   | some b =>
    cases hz:z.ev F with
    | none=>simp[hx,hy,hz] at h
    | some c=>rw[cE hle hx,cE hle hy,cE hle hz]; rw[hx,hy,hz] at h; exact h
 all_goals exact h
theorem PF.a4N (hle:F.le F') (i:Nat) (v:PV):(F.set i v).le (F'.set i v):=by
 intro j u h
 rw[kS] at h ⊢
 split at h
 ·rename_i e; rw[if_pos e]; exact h
 ·rename_i e; rw[if_neg e]; exact hle j u h
theorem PF.uX (hle:F.le F') (d:Option Nat) (v:PV):(F.put d v).le (F'.put d v):=by
 cases d with
 | none=>exact hle
 | some d=>exact PF.a4N hle d v
theorem PF.a3R (hle:F.le F') (o s:Nat) (rs:List (List PV)):(F.frz o s rs).le (F'.frz o s rs):=by
 intro j u h
 rw[pS,bfY] at h ⊢
 obtain⟨x,h1,h2⟩:=h
 exact⟨x,hle j x h1,h2⟩
theorem PF.le_trans {A B D:PF} (h:A.le B) (k:B.le D):A.le D:=fun i v hi=>k i v (h i v hi)
theorem gO.up {F1:PF} {H1:PH} (h:gO F H F1 H1):∀ {F':PF},F.le F'→∃ F1',gO F' H F1' H1∧F1.le F1':=by
 induction h with
 | refl F H=>exact fun {F'} hle=>⟨F',.refl _ _,hle⟩
 | step o ho _ ih =>
  intro F' hle
  obtain⟨F1',h1,h2⟩:=ih (PF.a3R hle o _ _)
  exact⟨F1',.step o ho h1,h2⟩
theorem TB {name:Nat} {args:Option (List PV)} {d:Option Nat} {K1 K2:PF→PH→Prop} (hK:∀ F F' H,F.le F'→K1 F H→K2 F' H) (hle:F.le F') {args':Option (List PV)} (ha:∀ vs,args=some vs→args'=some vs) (h:pC C name args d K1 F H):pC C name args' d K2 F' H:=by
 obtain⟨vs,H0,R,h1,h2,h3,h4⟩:=h
 exact⟨vs,H0,R,ha _ h1,h2,h3,fun r H' a b=>hK _ _ _ (PF.uX hle d r) (h4 r H' a b)⟩
theorem aqB {cs:List PV} {args:List aM} (hle:F.le F') (vs:List PV) (h:(aM.evs F args).map (·++cs)=some vs):(aM.evs F' args).map (·++cs)=some vs:=by
 rw[bfY] at h ⊢
 obtain⟨x,h1,h2⟩:=h
 exact⟨x,TI hle h1,h2⟩
theorem aBK {name:Nat} {args:List aM} {cs:List PV} {d:Option Nat} {K1 K2:PF→PH→Prop} (hK:∀ F F' H,F.le F'→K1 F H→K2 F' H) (hle:F.le F') (h:fZ C name args cs d K1 F H):fZ C name args cs d K2 F' H:=by
 rcases h with h | ⟨F1,H1,h1,h2⟩
 ·exact .inl (TB hK hle (aqB hle) h)
 ·obtain⟨F1',k1,k2⟩:=h1.up hle
  exact .inr ⟨F1',H1,k1,TB hK k2 (aqB k2) h2⟩
theorem IE {op:POp} {d:Option Nat} {K1 K2:PF→PH→Prop} (hK:∀ F F' H,F.le F'→K1 F H→K2 F' H) (hle:F.le F') (h:kB (cI op F) d K1 F H):kB (cI op F') d K2 F' H:=by
 obtain⟨mk,x,h1,h2⟩:=h
 exact⟨mk,x,akW hle h1,fun o ho=>hK _ _ _ (PF.uX hle d _) (h2 o ho)⟩
theorem ZL {op:POp} {d:Option Nat} {K1 K2:PF→PH→Prop} (hK:∀ F F' H,F.le F'→K1 F H→K2 F' H) (hle:F.le F') (h:bN (aK op F H) d K1 F H):bN (aK op F' H) d K2 F' H:=by
 obtain⟨v,h1,h2⟩:=h
 exact⟨v,auB hle h1,hK _ _ _ (PF.uX hle d v) h2⟩
theorem akE {op:POp} {d:Option Nat} {K1 K2:PF→PH→Prop} (hK:∀ F F' H,F.le F'→K1 F H→K2 F' H) (hle:F.le F') (h:bR op F H fun r H'=>K1 (F.put d r) H'):bR op F' H fun r H'=>K2 (F'.put d r) H' :=
 ayO hle (vK (fun v H' hh=>hK _ _ _ (PF.uX hle d v) hh) h)
theorem aYF {op:POp} {d:Option Nat} {K1 K2:PF→PH→Prop} (hK:∀ F F' H,F.le F'→K1 F H→K2 F' H) (hle:F.le F') (h:wpOp C op d K1 F H):wpOp C op d K2 F' H:=by
 cases op
 case call n a=>exact aBK hK hle h
 case callv x a =>
  obtain⟨n,cs,h1,h2⟩:=h
  exact⟨n,cs,cE hle h1,aBK hK hle h2⟩
 case box r x=>cases r<;>first | exact IE (op:=.box false x) hK hle h | exact ZL (op:=.box true x) hK hle h
 case bslice r s l z ps=>cases r<;>first | exact IE (op:=.bslice false s l z ps) hK hle h | exact ZL (op:=.bslice true s l z ps) hK hle h
 case alloc cs=>exact IE (op:=.alloc cs) hK hle h
 case mkslice s b z l c=>exact IE (op:=.mkslice s b z l c) hK hle h
 case mkmap sh=>exact IE (op:=.mkmap sh) hK hle h
 case store n x y=>exact akE (op:=.store n x y) hK hle h
 case append s b x y=>exact akE (op:=.append s b x y) hK hle h
 case mapset sh x y z=>exact akE (op:=.mapset sh x y z) hK hle h
 case insert sh x y z=>exact akE (op:=.insert sh x y z) hK hle h
 all_goals exact ZL hK hle h
theorem JA {K1 K2:PF→PH→Prop} (hK:∀ F F' H,F.le F'→K1 F H→K2 F' H):∀ {ops:List bF} {F F':PF} {H:PH},F.le F'→wpOps C ops K1 F H→wpOps C ops K2 F' H
 | [],_,_,_,hle,h=>hK _ _ _ hle h
 | ⟨d,op,none⟩::rest,_,_,_,hle,h=>aYF (fun _ _ _ a b=>JA hK a b) hle h
 | ⟨d,op,some (t,want)⟩::rest,F,F',H,hle,h=>by
  rw[aBD] at h ⊢
  unfold rX at h
  split at h
  ·rename_i b hb
   rw[hle t _ hb]
   unfold rX
   simp only
   split at h
   ·rename_i e; rw[if_pos e]; exact aYF (fun _ _ _ a b=>JA hK a b) hle h
   ·rename_i e; rw[if_neg e]; exact JA hK (PF.uX hle d _) h
  ·rename_i hb
   rw[hle t _ hb]
   exact JA hK (PF.uX hle d _) h
  ·exact h.elim
theorem atT {Hs:PH} {S:Spec} {st:Bool} {op:POp} {K:PV→PH→Prop} (hle:F.le F') (h:(op.kind F).run C Hs S st K H):(op.kind F').run C Hs S st K H:=by
 have new:∀ op:POp,(Kind.new (cI op F)).run C Hs S st K H→(Kind.new (cI op F')).run C Hs S st K H:=fun op h=>by
  obtain⟨mk,x,h1,h2⟩:=h
  exact⟨mk,x,akW hle h1,h2⟩
 have calm:∀ op:POp,(Kind.calm (aK op F)).run C Hs S st K H→(Kind.calm (aK op F')).run C Hs S st K H:=fun op h=>by
  obtain⟨v,h1,h2⟩:=h
  exact⟨v,auB hle h1,h2⟩
 have wr:∀ op:POp,(Kind.write fun H K=>bR op F H K).run C Hs S st K H→(Kind.write fun H K=>bR op F' H K).run C Hs S st K H:=fun op h=>ayO (op:=op) hle (show bR op F H (fun r H'=>Hs.le H'∧K r H') from h)
 cases op
 case call n a =>
  obtain⟨vs,D,R,h1,h2⟩:=h
  exact⟨vs,D,R,TI hle h1,h2⟩
 case callv x a =>
  unfold POp.kind at h ⊢
  simp only at h ⊢
  cases hx:x.ev F with
  | none=>rw[hx] at h; exact h.elim
  | some u =>
   rw[hx] at h
   rw[cE hle hx]
   cases u<;>simp only at h ⊢<;>first | exact h | skip
   obtain⟨vs,D,R,h1,h2⟩:=h
   exact⟨vs,D,R,aqB hle _ h1,h2⟩
 case insert sh x k v =>
  obtain⟨o,sh',key,u,g,h1,h2⟩:=h
  refine⟨o,sh',key,u,g,?_,h2⟩
  cases hx:x.ev F with
  | none=>simp[hx] at h1
  | some a =>
   cases hy:k.ev F with
   | none=>simp[hx,hy] at h1
   | some b =>
    cases hz:v.ev F with
    | none=>simp[hx,hy,hz] at h1
    | some c=>rw[cE hle hx,cE hle hy,cE hle hz]; rw[hx,hy,hz] at h1; exact h1
 case box r x=>cases r<;>first | exact new (.box false x) h | exact calm (.box true x) h
 case bslice r s l z ps=>cases r<;>first | exact new (.bslice false s l z ps) h | exact calm (.bslice true s l z ps) h
 case alloc cs=>exact new (.alloc cs) h
 case mkslice s b z l c=>exact new (.mkslice s b z l c) h
 case mkmap sh=>exact new (.mkmap sh) h
 case store n x y=>exact wr (.store n x y) h
 case append s b x y=>exact wr (.append s b x y) h
 case mapset sh x y z=>exact wr (.mapset sh x y z) h
 all_goals exact calm _ h
theorem aUO {Hs:PH} {S:Spec} {st:Bool} {i:bF} {K:PV→PH→Prop} (hle:F.le F') (h:(i.kind F).run C Hs S st K H):(i.kind F').run C Hs S st K H:=by
 unfold bF.kind at h ⊢
 split
 ·rename_i hg
  rw[hg] at h
  exact atT hle h
 ·rename_i t want hg
  rw[hg] at h
  simp only at h
  split at h
  ·rename_i b hb
   rw[hle t _ hb]
   simp only
   split at h
   ·rename_i e; rw[if_pos e]; exact atT hle h
   ·rename_i e; rw[if_neg e]; exact h
  ·rename_i hb
   rw[hle t _ hb]
   exact h
  ·exact h.elim
theorem aST {Hs:PH} {S:Spec} {K1 K2:PF→PH→Prop} (hK:∀ F F' H,F.le F'→K1 F H→K2 F' H):∀ {ops:List (bF × Bool)} {F F':PF} {H:PH},Hs.le H→F.le F'→wpD C Hs S ops K1 F H→wpD C Hs S ops K2 F' H
 | [],_,_,_,_,hle,h=>hK _ _ _ hle h
 | i::rest,F,F',H,hs,hle,h=>by
  have h1:(i.1.kind F).run C Hs S i.2 (fun v H'=>wpD C Hs S rest K1 (F.put i.1.dst v) H') H:=h
  exact aUO hle (Kind.oK (oH _ _) (fun v H' hs' hh=>aST hK hs' (PF.uX hle _ v) hh) hs h1)
class Up (K:cC):Prop where
 up:∀ {e:kE} {F F':PF} {H:PH},F.le F'→K e F H→K e F' H
theorem FH:∀ (c:aD) {K1 K2:cC} (_:∀ e F F' H,F.le F'→K1 e F H→K2 e F' H) {F F':PF} {H:PH},F.le F'→c.wp C K1 F H→c.wp C K2 F' H
 | .skip,_,_,hK,_,_,_,hle,h=>hK _ _ _ _ hle h
 | .region ops,_,_,hK,_,_,_,hle,h=>JA (hK .normal) hle h
 | .draw ops,_,_,hK,_,_,_,hle,⟨Hs,S,h1,h2⟩=>⟨Hs,S,h1,aST (hK .normal) h1 hle h2⟩
 | .seq a b,K1,K2,hK,_,_,_,hle,h=>FH a (K1:=jL C (b.wp C) K1) (K2:=jL C (b.wp C) K2) (fun e F F' H hl hh=>by
   cases e with
   | normal=>exact FH b hK hl hh
   | exit id=>exact hK (.exit id) _ _ _ hl hh
   | ret=>exact hK .ret _ _ _ hl hh) hle h
 | .cond c a b,K1,K2,hK,F,F',H,hle,h=>by
  rw[aXY] at h ⊢
  unfold LJ at h
  split at h
  ·rename_i t ht
   rw[cE hle ht]
   unfold LJ
   simp only
   split at h
   ·rename_i e; rw[if_pos e]; exact FH a hK hle h
   ·rename_i e; rw[if_neg e]; exact FH b hK hle h
  ·exact h.elim
 | .block id c,K1,K2,hK,_,_,_,hle,h=>FH c (K1:=eG id K1) (K2:=eG id K2) (fun e F F' H hl hh=>by
   cases e with
   | normal=>exact hK .normal _ _ _ hl hh
   | exit j =>
    rw[wX] at hh ⊢
    split at hh
    ·rename_i e; rw[if_pos e]; exact hK .normal _ _ _ hl hh
    ·rename_i e; rw[if_neg e]; exact hK (.exit j) _ _ _ hl hh
   | ret=>exact hK .ret _ _ _ hl hh) hle h
 | .loop c,K1,K2,hK,F,F',H,hle,⟨α,Fs,Hs,Pr,m,a0,F1,H1,h1,h2,h3,h4,h5⟩=>by
  obtain⟨F1',k1,k2⟩:=h1.up hle
  refine⟨α,Fs,Hs,Pr,m,a0,F1',H1,k1,h2,PF.le_trans h3 k2,h4,fun a ha=>?_⟩
  refine FH c (K1:=fQ Fs Hs Pr m (m a) K1) (K2:=fQ Fs Hs Pr m (m a) K2) (fun e F F' H hl hh=>?_) PF.le_refl (h5 a ha)
  cases e with
  | normal =>
   obtain⟨b,F2,H2,z1,z2,z3,z4,z5⟩:=hh
   obtain⟨F2',y1,y2⟩:=z1.up hl
   exact⟨b,F2',H2,y1,z2,z3,PF.le_trans z4 y2,z5⟩
  | exit id=>exact hK (.exit id) _ _ _ hl hh
  | ret=>exact hK .ret _ _ _ hl hh
 | .exit id,_,_,hK,_,_,_,hle,h=>hK (.exit id) _ _ _ hle h
 | .ret,_,_,hK,_,_,_,hle,h=>hK .ret _ _ _ hle h
instance Up.seq {K:cC} [Up K] (b:aD):Up (jL C (b.wp C) K) where
 up {e} {F} {F'} {H} hl hh:=by
  cases e with
  | normal=>exact FH b (fun e F F' H a h=>Up.up a h) hl hh
  | exit id=>exact Up.up (K:=K) (e:=.exit id) hl hh
  | ret=>exact Up.up (K:=K) (e:=.ret) hl hh
instance Up.block {K:cC} [Up K] (id:Nat):Up (eG id K) where
 up {e} {F} {F'} {H} hl hh:=by
  cases e with
  | normal=>exact Up.up (K:=K) (e:=.normal) hl hh
  | exit j =>
   rw[wX] at hh ⊢
   split at hh
   ·rename_i e; rw[if_pos e]; exact Up.up (K:=K) (e:=.normal) hl hh
   ·rename_i e; rw[if_neg e]; exact Up.up (K:=K) (e:=.exit j) hl hh
  | ret=>exact Up.up (K:=K) (e:=.ret) hl hh
instance Up.loop {K:cC} [Up K] {α:Type} (Fs:α→PF) (Hs:α→PH) (Pr:α→Prop) (m:α→Nat) (n:Nat):Up (fQ Fs Hs Pr m n K) where
 up {e} {F} {F'} {H} hl hh:=by
  cases e with
  | normal =>
   obtain⟨b,F2,H2,z1,z2,z3,z4,z5⟩:=hh
   obtain⟨F2',y1,y2⟩:=z1.up hl
   exact⟨b,F2',H2,y1,z2,z3,PF.le_trans z4 y2,z5⟩
  | exit id=>exact Up.up (K:=K) (e:=.exit id) hl hh
  | ret=>exact Up.up (K:=K) (e:=.ret) hl hh
theorem a4K {H:PH} (hle:F.le F') {x:dC} {v:PV} (h:x.ev F H=some v):x.ev F' H=some v:=by
 cases x with
 | tmp t=>exact hle t v h
 | cell t n =>
  cases n<;>simp only[dC.ev] at h ⊢<;>(cases hx:F t with
   | none=>simp[hx] at h
   | some a=>rw[hle t a hx,← hx]; exact h)
theorem abH {H:PH} (hle:F.le F'):∀ {xs:List dC} {vs:List PV},dC.evs F H xs=some vs→dC.evs F' H xs=some vs
 | [],_,h=>h
 | x::xs,vs,h=>by
  rw[jK] at h ⊢
  cases hx:x.ev F H with
  | none=>simp[hx] at h
  | some v =>
   cases hs:dC.evs F H xs with
   | none=>simp[hs] at h
   | some ws =>
    rw[hx,hs] at h
    rw[a4K hle hx,abH hle hs]
    exact h
instance Up.ret (res:List dC) (R:PV→PH→Prop):Up (aX res R) where
 up {e} {F} {F'} {H} hl hh:=by
  cases e with
  | exit id=>exact hh
  | normal=>obtain⟨vs,h1,h2⟩:=hh; exact⟨vs,abH hl h1,h2⟩
  | ret=>obtain⟨vs,h1,h2⟩:=hh; exact⟨vs,abH hl h1,h2⟩
end
end Go.PM
namespace Go.PM
open Go Go.Na
section
variable {H:PH} {B:List BX} {L:List LI}
theorem aR.auY (h:aR H B L) (i:Nat) {q s k d:Nat} {rows:List (List PV)} (hi:L[i]?=some (.osl q s 0 k,s,rows)) (hd:d<rows.length) (r:List PV) :
  ∃ rs,H q=some (.rows s rs)∧rs[d]?=rows[d]?∧d<rs.length∧aR (H.set q (.rows s (rs.set d r))) B (L.set i (.osl q s 0 k,s,rows.set d r)):=by
 obtain⟨rs,h1,h2,h3,h4⟩:=(h.own i hi).id rfl
 injection h2 with _ _ _ hk
 subst hk
 refine⟨rs,h1,?_,by omega,?_⟩
 ·conv=>rhs; rw[← h4]
  rw[biQ,if_pos hd]
 ·refine h.YC i hi (.inr ⟨q,rs.set d r,by rw[bhO],by rw[gS],by simpa using h3,?_⟩) (fun p hp=>.inl hp) fun p _ hp=>?_
  ·rw[bhO,List.take_set,h4]
  ·have:=hp q rfl
   rw[aV,if_neg this]
end
theorem apI {L:List (List Int)} {v:Nat} {row:List Int} (h:L[v]?=some row):(L.map fun r=>[ints r])[v]?=some [ints row]:=by rw[bhG,h]; rfl
end Go.PM
namespace Go.PM
open Go Go.Na
theorem NA {p:Int→Bool}:∀ {l:List Int} {i:Nat},(∀ x∈l,p x=false)→hC p l i=none
 | [],_,_=>rfl
 | y::t,i,h=>by
  rw[hC,h y (by simp),if_neg (by decide)]
  exact NA fun x hx=>h x (by simp[hx])
theorem uD.shape {f:aH} {L:List (List Int)} (h:uD f L) {v:Nat} (hv:v<L.length):jZ f L v=none:=by
 have e:L.getD v []=L[v]:=by simp[bgT,hv]
 unfold jZ
 rw[e,if_pos (h.row v hv),NA]
 ·rfl
 ·intro x hx
  have:=h.home _ (bgA hv) x hx
  simp[pK]
  omega
end Go.PM
namespace Go.PM
open Go Go.Na
section
variable {H:PH} {B:List BX} {L:List LI} {s:Nat} {rows:List (List PV)}
theorem kD.some (s:Nat) (rows:List (List PV)) (G:PH):∃ r H',kD s rows r H'∧kU G .nil H':=by
 obtain⟨o,ho⟩:=G.fresh
 refine⟨.osl o s 0 rows.length,PH.nil.set o (.rows s rows),.inr ⟨o,rows,rfl,rfl,bfX _,bhB⟩,fun q x hx _=>?_⟩
 rw[aV] at hx
 split at hx
 ·rename_i e; rw[e]; exact ho
 ·cases hx
end
end Go.PM
namespace Go.PM
open Go Go.Na
end Go.PM
namespace Go.PM
open Go Go.Na
section
variable {C:Ctx} {F:PF} {H Hs:PH} {tn a a2:Nat} {raw:List Int} {R:Nat→PV→PH→Prop} {st:Bool} {args:List aM} {d:Option Nat} {K:PF→PH→Prop}
end
section
variable {C:Ctx} {F:PF} {H:PH} {B:List BX} {L:List LI} {args:List aM} {d:Option Nat} {K:PF→PH→Prop}
theorem aR.a4S (h:aR H B L) (i:Nat) {o name:Nat} {x y:bV} {r:PV} {vs:List PV} (hi:B[i]?=some (o,x)) (hc:aI C name vs (PH.nil.set o x) (fun r' H'=>r'=r∧H'=PH.nil.set o y)) (ha:aM.evs F args=some vs)
  (hk:∀ H',aR H' (B.set i (o,y)) L→K (F.put d r) H'):fZ C name args [] d K F H:=fS hc (h.at i hi) ha (hk _ (h.set i hi y))
theorem aR.a8X (h:aR H B L) {x:bV} {mk:Nat→PV} (hk:∀ o H',aR H' (B++[(o,x)]) L→K (F.put d (mk o)) H'):kB (some (mk,x)) d K F H:=aP fun o ho=>hk o _ (h.new ho x)
theorem aR.a1A (h:aR H B L) {l:List Nat} (Lb:LG C) (hb:∀ x∈l,x<256) (hl:l.length≤9223372036854775807) (ha:aM.evs F args=some [.sl 1 (gP l)]) (hk:∀ o v H',Tp (l.take 400) v→aR H' (B++[(o,aS v 0)]) L→K (F.put d (.ptr o 2 0 0)) H'):fZ C 28 args [] d K F H:=by
 refine lE (Lb.new l hb hl) ha PH.nil_le ?_
 rintro r H' ⟨o,v,rfl,T,rfl⟩ hap
 rw[PH.kP]
 exact hk o v _ T (h.new (hap o (aS v 0) (by rw[gS]) rfl) _)
end
theorem aOC {C:Ctx} (Lb:LG C) (l:List Nat) (v:PV) (T:Tp (l.take 400) v) (o:Nat) :
  xE.wp C (aX HK.res (fun r H'=>Co r (ints (rT l 8 4))∧H'=PH.nil.set o (aS v (lC (l.take 400) (fT l 8 4) (laT l 8 4)).2))) (PF.args [.ptr o 2 0 0]) (PH.nil.set o (aS v 0)):=by
 have hv:=(mG (l.take 400) 8 4 0 (by decide) (by decide)).1
 have hV:=VF.of hv
 have hd:=hV.small.drives
 have a1:=GQ (l.take 400) 8 4 (bgE _)
 have a2:=(sS (l.take 400) (fT l 8 4) a1 (fT l 8 4).volumes.length).1
 have h0:aR (PH.nil.set o (aS v 0)) [(o,aS v 0)] []:=aR.nil.new (H:=PH.nil) rfl (aS v 0)
 simp -implicitDefEqProofs only[go_sem,reduceCtorEq,xE,acQ,HK,acR]
 refine fS (Lb.tfleet _ v T o 8 4 0 (by decide) (by decide) (bgE _)) (h0.at 0 rfl) rfl ?_
 have h1:=h0.set 0 rfl (aS v (faT l 8 4))
 rw[PH.set_set] at h1
 simp -implicitDefEqProofs only[go_sem,δ]
 refine aP fun q hq=>?_
 have h2:=h1.new hq (.rows 7 [(fT l 8 4).cells])
 simp -implicitDefEqProofs only[go_sem,δ,γ,reduceCtorEq,acS]
 refine fS (Lb.tlayout _ v T o (faT l 8 4) (fT l 8 4) hV a1) (h2.at 0 rfl) rfl ?_
 have h3:=h2.set 0 rfl (aS v (laT l 8 4))
 have hne:¬ q=o:=h2.ne 1 0 rfl rfl (by decide)
 simp -implicitDefEqProofs only[go_sem,δ,γ,reduceCtorEq,acT,hne]
 refine fS (Lb.wI _ v T o (laT l 8 4) (fT l 8 4) (by unfold fT; omega) a2) (h3.at 0 rfl) rfl ?_
 have h4:=h3.set 0 rfl (aS v (lC (l.take 400) (fT l 8 4) (laT l 8 4)).2)
 rw[PH.set_set] at h4
 simp -implicitDefEqProofs only[go_sem,γ]
 exact aW (vs:=[ints (rT l 8 4)]) (.inr rfl) (PH.nil.set o _) rfl (PH.aA PH.nil_le (h4.at 0 rfl)) ⟨.refl _,rfl⟩
end Go.PM
namespace Go.PM
open Go Go.Na
structure akH (C:Ctx):Prop extends LG C where
 awake:aI C 20 [] .nil (aL (.bool true))
 again:∀ (l:List Nat) (v:PV),Tp (l.take 400) v→∀ o:Nat,aI C 18 [.ptr o 2 0 0] (PH.nil.set o (aS v 0)) (fun r H'=>r=ints (rT l 8 4)∧H'=PH.nil.set o (aS v (lC (l.take 400) (fT l 8 4) (laT l 8 4)).2))
theorem aTO (l:List Nat) {d v:Nat} (hd:d≤24) (hv:v≤12):dE (fT l d v)=true∧(fT l d v).Ok:=mG (l.take 400) d v 0 hd hv
end Go.PM
namespace Go.PM
open Go Go.Na
end Go.PM
namespace Go.PM
open Go Go.Na
def nZ (a b:eN):Bool:=a.kind==b.kind&&(a.vol==b.vol&&a.wher==b.wher)
theorem aSR (a:eN):nZ a a=true:=by simp[nZ]
theorem ayC {l:List eN} {k:Nat} (h:k<l.length):(l.map eN.cells)[k]?=some l[k].cells:=by simp[h]
def DI (A:List eN) (x d:Int) (a:eN):Bool:=A.any (fun b=>nZ b a)||(a.vol==x||(a.kind==6&&a.wher==d))
theorem xM {k v:Int} {n:Nat} {p:Nat→Bool} {a:eN}:a∈cF k v n p↔∃ i,i<n∧p i=true∧a=⟨k,v,i⟩:=by
 unfold cF
 rw[bgZ]
 constructor
 ·rintro⟨i,hi,rfl⟩
  rw[List.mem_filter,bhW] at hi
  exact⟨i,hi.1,hi.2,rfl⟩
 ·rintro⟨i,h1,h2,rfl⟩
  exact⟨i,List.mem_filter.2 ⟨bhW.2 h1,h2⟩,rfl⟩
theorem aMU {f:aH} {p:cM} {v:Nat} {row:List Int} {a:eN} (h:a∈nN f p v row):a.vol=v:=by
 unfold nN at h
 simp only[bhJ,xM] at h
 rcases h with ((⟨i,_,_,rfl⟩ | ⟨i,_,_,rfl⟩) | ⟨i,_,_,rfl⟩) | ⟨i,_,_,rfl⟩<;>rfl
theorem uD.move {f:aH} {L:List (List Int)} (h:uD f L) {x k d:Nat} (hx:x<L.length) (hd:d<f.drives.length):uD f (L.set x (L[x].set k d)):=by
 refine⟨by rw[bhO]; exact h.len,fun v hv=>?_,fun r hr=>?_⟩
 ·rw[bhO] at hv
  have:=h.row v hv
  rw[List.getElem_set]
  split
  ·rename_i e
   subst e
   rw[bhO]; exact this
  ·exact this
 ·rcases List.mem_or_eq_of_mem_set hr with hr | rfl
  ·exact h.home r hr
  ·intro y hy
   rcases List.mem_or_eq_of_mem_set hy with hy | rfl
   ·exact h.home _ (bgA hx) y hy
   ·omega
theorem aIY {L:List (List Int)} {x k:Nat} {d e:Int} (hx:x<L.length) (hne:d≠e):(L.set x (L[x].set k d)).flatten.count e≤L.flatten.count e:=by
 have h1:L=L.take x++L[x]::L.drop (x+1):=by rw[← bhP hx,biC]
 have h2:L.set x (L[x].set k d)=L.take x++L[x].set k d::L.drop (x+1):=List.set_eq_take_append_cons_drop ▸ by rw[if_pos hx]
 have h3:(L[x].set k d).count e≤L[x].count e:=by
  by_cases hk:k<L[x].length
  ·rw[List.count_set hk]
   simp[hne]
  ·rw[List.set_eq_of_length_le (by omega)]
   exact bfX _
 rw[h2]
 conv=>rhs; rw[h1]
 simp only[List.flatten_append,List.flatten_cons,List.count_append]
 omega
theorem aPE {f:aH} (hv:dE f=true) {L:List (List Int)} (hS:uD f L) {x k d:Nat} (hx:x<L.length) (hd:d<f.drives.length):∀ a∈fU f (L.set x (L[x].set k d)) [],DI (fU f L []) x d a=true:=by
 intro a ha
 have hM:=hS.move (k:=k) hx hd
 have hc:=fun (e:Int) (h:(d:Int)≠e)=>aIY (k:=k) hx h
 have hget:∀ v,v≠x→(L.set x (L[x].set k d)).getD v []=L.getD v []:=fun v h=>by
  simp only[bgT]
  rw[List.getElem?_set_ne (fun e=>h e.symm)]
 have old:∀ b,b∈fU f L []→DI (fU f L []) x d b=true:=fun b hb=>by
  unfold DI
  rw[show ((fU f L []).any fun c=>nZ c b)=true from List.any_eq_true.2 ⟨b,hb,aSR b⟩,Bool.true_or]
 unfold fU at ha
 rw[if_pos hv,if_pos hM.len] at ha
 have e0:fU f L []=aMV f L []:=by unfold fU; rw[if_pos hv,if_pos hS.len]
 rcases bhJ.1 ha with ha | ha
 ·unfold nT at ha
  obtain⟨v,hv1,ha⟩:=List.mem_flatMap.1 ha
  have hv1:=bhW.1 hv1
  by_cases hvx:v=x
  ·unfold yK at ha
   rw[hM.shape hv1] at ha
   have:=aMU ha
   unfold DI
   rw[this,hvx]
   simp
  ·refine old a ?_
   rw[e0]
   refine List.mem_append_left _ ?_
   unfold nT
   refine List.mem_flatMap.2 ⟨v,bhW.2 (by rwa [bhO] at hv1),?_⟩
   unfold yK jZ at ha ⊢
   rw[hget v hvx] at ha
   exact ha
 ·obtain⟨i,h1,h2,rfl⟩:=xM.1 ha
  by_cases hi:i=d
  ·unfold DI
   simp[hi]
  ·refine old _ ?_
   rw[e0]
   refine List.mem_append_right _ (xM.2 ⟨i,h1,?_,rfl⟩)
   have g:∀ L:List (List Int),(gT f L).getD i 0=(L.flatten.count (i:Int):Nat):=fun L=>by simp[gT,dW,bgT,h1]
   have:=hc i (by omega)
   unfold over at h2 ⊢
   rw[g] at h2 ⊢
   rw[decide_eq_true_eq] at h2 ⊢
   omega
def mvF (x d:Nat) (A Bv:List eN) (j:Nat):PF:=(((((PF.nil.set 12 (.int .i64 x)).set 14 (.int .i64 d)).set 15 (zL A)).set 17 (zL Bv)).set 18 (.int .i64 j))
theorem aSX {p:eN→Bool} {xs:List eN} {k:Nat} (h:k<xs.length):(xs.take (k+1)).any p=((xs.take k).any p||p xs[k]):=by
 rw[biG h,List.any_append]
 simp
theorem aPF {C:Ctx} (x d:Nat) (A Bv:List eN) (hA:A.length≤2000000000) (j:Nat) (hj:j<Bv.length) (K:cC) [Up K] (F:PF) (H:PH) (hF:(((mvF x d A Bv j).set 19 (.bool false)).set 20 (.int .i64 0)).le F)
  (hK:K (.exit 2) ((mvF x d A Bv j).set 19 (.bool (A.any fun b=>nZ b Bv[j]))) H):aD.wp C (.loop CB) K F H:=by
 refine wp_loop (α:=Nat) (fun k=>((mvF x d A Bv j).set 19 (.bool ((A.take k).any fun b=>nZ b Bv[j]))).set 20 (.int .i64 k)) (fun _=>H) (fun k=>k≤A.length) (fun k=>A.length-k) 0 (bgE _) hF PH.le_refl ?_
 intro k hk
 have fin:∀ F':PF,(((mvF x d A Bv j).set 19 (.bool ((A.take (k+1)).any fun b=>nZ b Bv[j]))).set 20 (.int .i64 (k+1:Nat))).le F'→k<A.length→fQ (fun k=>((mvF x d A Bv j).set 19 (.bool ((A.take k).any fun b=>nZ b Bv[j]))).set 20 (.int .i64 k)) (fun _=>H) (fun k=>k≤A.length) (fun k=>A.length-k) (A.length-k) K .normal F' H :=
  fun F' h hlt=>aJ (k+1) hlt (by omega) h PH.le_refl
 unfold mvF at fin
 simp -implicitDefEqProofs only[go_sem,γ,CB,US,mvF,bfT]
 by_cases hlt:k<A.length
 ·have hlt':(k:Int)<(A.length:Nat):=by omega
  have hs:=aSX (p:=fun b=>nZ b Bv[j]) hlt
  generalize ((A.take k).any fun b=>nZ b Bv[j])=c at *
  simp -implicitDefEqProofs only[go_sem,hlt']
  refine cD .nil dS PH.nil_le ?_
  cases c with
  | true =>
   simp -implicitDefEqProofs only[go_sem,γ,CD,CE,aN (show k<9223372036854775807 by omega)]
   refine fin _ ?_ hlt
   rw[hs,Bool.true_or]
   (repeat' (first|exact PF.nil_le|refine PF.aA ?_ ?_))<;>first|(simp -implicitDefEqProofs only[go_sem,γ]<;>rfl)|rfl
  | false =>
   have hq:nZ A[k] Bv[j]=((A[k].kind==Bv[j].kind)&&((A[k].vol==Bv[j].vol)&&(A[k].wher==Bv[j].wher))):=rfl
   cases e1:A[k].kind==Bv[j].kind<;>cases e2:A[k].vol==Bv[j].vol<;>cases e3:A[k].wher==Bv[j].wher
   all_goals
    simp -implicitDefEqProofs only[go_sem,δ,γ,reduceCtorEq,CD,ayC hlt,ayC hj,e1,e2,e3,CE,aN (show k<9223372036854775807 by omega)]
    refine fin _ ?_ hlt
    rw[hs,hq,e1,e2,e3]
    (repeat' (first|exact PF.nil_le|refine PF.aA ?_ ?_))<;>first|(simp -implicitDefEqProofs only[go_sem,γ]<;>rfl)|rfl
 ·have hlt':¬ (k:Int)<(A.length:Nat):=by omega
  have:k=A.length:=by omega
  subst this
  simp -implicitDefEqProofs only[go_sem,hlt']
  refine Up.up ?_ hK
  unfold mvF
  rw[bhB]
  (repeat' (first|exact PF.nil_le|refine PF.aA ?_ ?_))<;>first|(simp -implicitDefEqProofs only[go_sem,γ]<;>rfl)|rfl
theorem aPD {C:Ctx} (x d:Nat) (A Bv:List eN) (hA:A.length≤2000000000) (hB:Bv.length≤2000000000) (hok:∀ a∈Bv,DI A x d a=true) (K:cC) [Up K] (F:PF) (H:PH) (hF:(mvF x d A Bv 0).le F)
  (hK:K (.exit 0) .nil H):aD.wp C (.loop CC) K F H:=by
 refine wp_loop (α:=Nat) (fun k=>mvF x d A Bv k) (fun _=>H) (fun k=>k≤Bv.length) (fun k=>Bv.length-k) 0 (bgE _) hF PH.le_refl ?_
 intro j hj
 simp -implicitDefEqProofs only[go_sem,γ,CC,UP,mvF,bfT]
 by_cases hlt:j<Bv.length
 ·have hlt':(j:Int)<(Bv.length:Nat):=by omega
  have hn:=hok _ (bgA hlt)
  simp -implicitDefEqProofs only[go_sem,hlt',UQ,UR]
  refine aPF x d A Bv hA j hlt _ _ _ (by unfold mvF; (repeat' (first|exact PF.nil_le|refine PF.aA ?_ ?_))<;>first|(simp -implicitDefEqProofs only[go_sem,γ]<;>rfl)|rfl) ?_
  unfold DI at hn
  have ha:=ayC hlt
  generalize Bv[j]=a at *
  generalize (A.any fun b=>nZ b a)=c at *
  have fin:∀ F':PF,(mvF x d A Bv (j+1)).le F'→fQ (fun k=>mvF x d A Bv k) (fun _=>H) (fun k=>k≤Bv.length) (fun k=>Bv.length-k) (Bv.length-j) K .normal F' H :=
   fun F' h=>aJ (j+1) hlt (by omega) h PH.le_refl
  unfold mvF at fin
  cases c with
  | true =>
   simp -implicitDefEqProofs only[go_sem,γ,reduceCtorEq,mvF,sT,bgB,sU,aN (show j<9223372036854775807 by omega)]
   exact fin _ (by (repeat' (first|exact PF.nil_le|refine PF.aA ?_ ?_))<;>first|(simp -implicitDefEqProofs only[go_sem,γ]<;>rfl)|rfl)
  | false =>
   rw[Bool.false_or,Bool.or_eq_true,beq_iff_eq,bgP,beq_iff_eq,beq_iff_eq] at hn
   by_cases h1:a.vol=x
   ·simp -implicitDefEqProofs only[go_sem,δ,γ,θ,reduceCtorEq,mvF,sT,bgM,ha,cJ h1,sU,aN (show j<9223372036854775807 by omega)]
    exact fin _ (by (repeat' (first|exact PF.nil_le|refine PF.aA ?_ ?_))<;>first|(simp -implicitDefEqProofs only[go_sem,γ]<;>rfl)|rfl)
   ·obtain⟨h2,h3⟩:=hn.resolve_left h1
    simp -implicitDefEqProofs only[go_sem,δ,γ,θ,reduceCtorEq,mvF,sT,bgM,ha,dR h1,cJ h2,cJ h3,sU,aN (show j<9223372036854775807 by omega)]
    exact fin _ (by (repeat' (first|exact PF.nil_le|refine PF.aA ?_ ?_))<;>first|(simp -implicitDefEqProofs only[go_sem,γ]<;>rfl)|rfl)
 ·have hlt':¬ (j:Int)<(Bv.length:Nat):=by omega
  simp -implicitDefEqProofs only[go_sem,hlt']
  exact Up.up PF.nil_le hK
end Go.PM
namespace Go.PM
open Go Go.Na
theorem ayD {f:aH} (hV:VF f) {L:List (List Int)} (hL:iK L) (hl:L.length≤12) (room:List Int):(fU f L room).length≤2000000000:=by
 unfold fU
 split
 ·split
  ·unfold aMV
   rw[bfW]
   have h1:=vN hV.small hL (n:=L.length) (bfX _)
   have h2:=eS 6 (-1) f.drives.length (over f L room)
   have:=hV.small.drives
   omega
  ·simp
 ·simp
theorem aHD {a n:Nat}:Int.tmod ((a:Nat):Int) (n:Nat)=((a%n:Nat):Int):=Int.ofNat_tmod _ _
theorem aON {C:Ctx} (Lb:akH C) (l:List Nat) (hb:∀ x∈l,x<256) (hl:l.length≤9223372036854775807) (vn kn dn:Nat) (h1n:vn<256) (h2n:kn<256) (h3n:dn<256) :
  xI.wp C (aX HN.res (aL (.bool true))) (PF.args [.sl 1 (gP l),.int .u8 vn,.int .u8 kn,.int .u8 dn]) .nil:=by
 obtain⟨hv,hf⟩:=aTO l (d:=8) (v:=4) (by decide) (by decide)
 have hV:=VF.of hv
 have hd:=hV.small.drives
 have hvo:=hV.small.volumes
 have hS:=bbU l (d:=8) (v:=4) (by decide) (by decide)
 have hSl:=hS.len
 have a1:=GQ (l.take 400) 8 4 (bgE _)
 have hOk:=hS.ok hV
 generalize hLe:lT l 8 4=L at *
 have c0:((0:Nat):Int)=0:=rfl
 simp -implicitDefEqProofs only[go_sem,reduceCtorEq,xI,adE,HN,adF]
 refine aR.nil.a1A Lb.toLG hb hl rfl fun o v H1 T h1=>?_
 simp -implicitDefEqProofs only[go_sem,γ,adG]
 refine h1.a4S 0 rfl (Lb.tfleet _ v T o 8 4 0 (by decide) (by decide) (bgE _)) rfl fun H2 h2=>?_
 simp -implicitDefEqProofs only[go_sem,δ]
 refine h2.a8X fun q H3 h3=>?_
 have e3:=h3.at 1 rfl
 have h4:=h3.set 1 rfl (.rows 7 [(fT l 8 4).cells])
 have e4:=h4.at 1 rfl
 simp -implicitDefEqProofs only[go_sem,δ,γ,e3,adH]
 refine h4.a4S 0 rfl (Lb.tlayout _ v T o (faT l 8 4) (fT l 8 4) hV a1) rfl fun H5 h5=>?_
 have hLe':(cG (l.take 400) (fT l 8 4) (faT l 8 4) (fT l 8 4).volumes.length).1=L:=hLe
 rw[hLe']
 have e5:=h5.at 1 rfl
 have hend:∀ (F:PF) (H:PH),wpOps C CF (aD.wp C .ret (aX [.tmp 8] (aL (.bool true)))) F H:=fun F H=>by
  simp -implicitDefEqProofs only[go_sem,CF]
  refine aB Lb.awake rfl ?_
  simp -implicitDefEqProofs only[go_sem]
  refine bZ (.inr rfl) rfl ?_
  rfl
 by_cases z1:L.length=0
 ·simp -implicitDefEqProofs only[go_sem,γ,wA,bfT,bP (show ((L.length:Nat):Int)=0 by omega),HO]
  refine aB Lb.awake rfl ?_
  simp -implicitDefEqProofs only[go_sem,γ]
  refine bZ (.inr rfl) rfl ?_
  rfl
 by_cases z2:(fT l 8 4).drives.length=0
 ·simp -implicitDefEqProofs only[go_sem,δ,γ,θ,reduceCtorEq,wA,bfT,bD (show ((L.length:Nat):Int)≠0 by omega),e5,bP (show (((fT l 8 4).drives.length:Nat):Int)=0 by omega),HO]
  refine aB Lb.awake rfl ?_
  simp -implicitDefEqProofs only[go_sem,γ]
  refine bZ (.inr rfl) rfl ?_
  rfl
 have hx:vn%L.length<L.length:=bgX _ (by omega)
 have hdd:dn%(fT l 8 4).drives.length<(fT l 8 4).drives.length:=bgX _ (by omega)
 have w1:IntKind.i64.wrap ((vn:Nat):Int)=vn:=wrap_i64 (by omega) (by omega)
 have w2:IntKind.i64.wrap ((kn:Nat):Int)=kn:=wrap_i64 (by omega) (by omega)
 have w3:IntKind.i64.wrap ((dn:Nat):Int)=dn:=wrap_i64 (by omega) (by omega)
 have nz1:¬ ((L.length:Nat):Int)=0:=by omega
 have nz2:¬ (((fT l 8 4).drives.length:Nat):Int)=0:=by omega
 simp -implicitDefEqProofs only[go_sem,δ,γ,θ,reduceCtorEq,wA,bfT,bD (show ((L.length:Nat):Int)≠0 by omega),e5,bD (show (((fT l 8 4).drives.length:Nat):Int)≠0 by omega),adI,w1,nz1,aHD]
 generalize vn%L.length=x at *
 generalize hdg:dn%(fT l 8 4).drives.length=d at *
 have hrow:L[x]?=some L[x]:=bgF hx
 have hrl:=hS.row x hx
 obtain⟨hp,he⟩:=oJ hV (show x<(fT l 8 4).volumes.length by omega)
 have hpol:=hV.policy _ (bgA hp)
 rw[he] at hpol
 have hr1:1≤L[x].length∧L[x].length≤8:=by unfold fO at hrl; omega
 have nz3:¬ ((L[x].length:Nat):Int)=0:=by omega
 have hk:kn%L[x].length<L[x].length:=bgX _ (by omega)
 refine cD .nil dS PH.nil_le ?_
 simp -implicitDefEqProofs only[go_sem,δ,γ,θ,reduceCtorEq,adJ,w2,w3,apI hrow,bfT,nz3,aHD,e5,nz2,hdg]
 have hmv:=aPE (k:=kn%L[x].length) hv hS hx hdd
 have hM:=hS.move (k:=kn%L[x].length) hx hdd
 have hMok:=hM.ok hV
 generalize kn%L[x].length=k at *
 have hv1:=(Lb.viol (fT l 8 4) L [] hf hOk).BZ
 have hv2:=(Lb.viol (fT l 8 4) _ [] hf hMok).BZ
 simp -implicitDefEqProofs only[go_sem,δ,γ,adK,e5]
 refine aB hv1 rfl ?_
 have h10:(0:Nat)*1≤16777216:=by decide
 simp -implicitDefEqProofs only[go_sem,υ,γ,ζ,adL,h10]
 refine aP fun p hp1=>?_
 have h6:=h5.aLF (s:=1) (rows:=[]) hp1
 simp -implicitDefEqProofs only[go_sem,γ]
 refine h6.append 0 (src:=fL L) rfl rfl (by unfold roomFor; rw[bfT]; simp only[bhR,maxLen]; omega) fun w H6 h7 hw=>?_
 obtain⟨p1,rfl⟩:=hw (fun e=>z1 (by
  have:=congrArg List.length e
  rwa [bfT] at this))
 simp only[biR] at h7
 simp -implicitDefEqProofs only[go_sem,υ,γ,θ,ζ,UL]
 refine aP fun p2 hp2=>?_
 have h8:=h7.aLF (s:=1) (rows:=[]) hp2
 have h11:(1:Nat)*1≤16777216:=by decide
 simp -implicitDefEqProofs only[go_sem,γ,apI hrow]
 refine h8.append 1 (src:=iiv L[x]) rfl rfl (by unfold roomFor; rw[bfT]; simp only[bhR,maxLen]; omega) fun w2 H8 h9 hw2=>?_
 obtain⟨p3,rfl⟩:=hw2 (fun e=>by
  have:=congrArg List.length e
  rw[bfT] at this
  simp only[bhR] at this
  omega)
 simp only[biR] at h9
 have hrl2:(iiv L[x]).length=L[x].length:=bfT ..
 have hll2:(fL L).length=L.length:=bfT ..
 rw[hrl2,hll2] at h9
 have hxl:((x:Nat):Int)<((L.length:Nat):Int):=by omega
 have hkl:((k:Nat):Int)<((L[x].length:Nat):Int):=by omega
 have hxr:x<(fL L).length:=by rw[hll2]; exact hx
 obtain⟨rs,r1,r2,r3,h10'⟩:=h9.auY 0 rfl hxr [.osl p3 1 0 L[x].length]
 rw[apI hrow] at r2
 simp -implicitDefEqProofs only[go_sem,γ,biR,bfT,hxl,r1,r2,bgQ]
 obtain⟨rt,t1,t2,t3,h11'⟩:=h10'.auY 1 rfl (d:=k) (by rw[hrl2]; exact hk) [.int .i64 d]
 obtain⟨rq,q1,q2,-,-⟩:=h10'.auY 0 rfl (d:=x) (by rw[bhO]; exact hxr) []
 have e10:=h10'.at 1 rfl
 generalize (H8.set p1 (.rows 1 (rs.set x [PV.osl p3 1 0 L[x].length])))=H9 at *
 rw[List.getElem?_set_self hxr] at q2
 rw[ints_at hk] at t2
 simp -implicitDefEqProofs only[go_sem,γ,UM,hxl,q1,q2,bgQ,hrl2,hkl,t1,t2]
 have e11:=h11'.at 1 rfl
 have hM2:(iiv L[x]).set k [PV.int .i64 d]=iiv (L[x].set k d):=mH _ _ _
 have hM3:(L[x].set k d).length=L[x].length:=bhO ..
 rw[hM2] at h11'
 generalize (H9.set p3 (.rows 1 (rt.set k [PV.int .i64 d])))=H10 at *
 have hh:aR H10 [] [(.osl p1 1 0 L.length,1,(fL L).set x [PV.osl p3 1 0 L[x].length]),(.osl p3 1 0 L[x].length,1,iiv (L[x].set k d))]:=h11'.sub (List.nil_sublist _) (bhU.refl _)
 obtain⟨u1,g1,g2,g3,g4,g5⟩:=hh.frz 1 rfl
 have n0:PV.frz p3 1 u1 (.osl p1 1 0 L.length)=.osl p1 1 0 L.length:=g4 0 _ (by decide) rfl
 have hfl:((fL L).set x [PV.osl p3 1 0 L[x].length]).map (fun r=>r.map (PV.cR p3 1 u1))=fL (L.set x (L[x].set k d)):=by
  rw[List.map_set,aEK]
  unfold fL
  rw[List.map_set]
  show (List.map (fun r=>[ints r]) L).set x [PV.cR p3 1 u1 (.osl p3 1 0 L[x].length)]=_
  rw[g2]
 have g6:aR (H10.frz p3 1 u1) [] [(PV.frz p3 1 u1 (.osl p1 1 0 L.length),1,((fL L).set x [PV.osl p3 1 0 L[x].length]).map (fun r=>r.map (PV.cR p3 1 u1)))]:=by
  rw[n0]; exact g5
 rw[n0,hfl] at g6
 obtain⟨u2,k1,k2,k3,-,-⟩:=g6.frz 0 rfl
 have hBl:=ayD hV hMok (by rw[bhO]; omega) []
 have hAl:=ayD hV hOk (by omega) []
 simp -implicitDefEqProofs only[go_sem,δ,γ,UN,e11]
 refine .inr ⟨_,_,.step p3 g1 (.step p1 k1 (.refl _ _)),[.agg (fT l 8 4).cells,lay (L.set x (L[x].set k d)),.nils],.nil,aL (zL (fU (fT l 8 4) (L.set x (L[x].set k d)) [])),?_,PH.nil_le,hv2,?_⟩
 ·have ea:PV.frz p1 1 u2 (PV.frz p3 1 u1 (.agg (fT l 8 4).cells))=.agg (fT l 8 4).cells:=rfl
  simp -implicitDefEqProofs only[go_sem,γ,n0,k3,bhN]
  rfl
 rintro r H' ⟨rfl,rfl⟩ -
 simp -implicitDefEqProofs only[go_sem,γ,UO]
 refine aPD x d (fU (fT l 8 4) L []) (fU (fT l 8 4) (L.set x (L[x].set k d)) []) hAl hBl hmv _ _ _ ?_ (hend _ _)
 unfold mvF
 (repeat' (first|exact PF.nil_le|refine PF.aA ?_ ?_))<;>first|(simp -implicitDefEqProofs only[go_sem,γ]<;>rfl)|rfl
end Go.PM
namespace Go.PM
open Go Go.Na
structure SQ (C:Ctx):Prop extends dO C where
 r3:aQ C 3 AB
 r6:aQ C 6 WD
 r18:aQ C 18 HK
 r82:aQ C 82 XB
theorem aYE {C:Ctx} (c:SQ C) (hi:sJ C):LG C :=
 {apG c.todO hi with
  new:=(aqT c.todO hi).new
  tfleet:=(aqT c.todO hi).fleet
  tlayout:=fun l v T o a f hV ha=>exactly (c.r3.go (aKW (VU c.todO hi) T o a f hV (fun i h=>(c.r82.go (aWI f hV i h) rfl).seen) ha) rfl)
  wI:=fun l v T o a f hd ha=>exactly (c.r6.go (aVN (VU c.todO hi) T o a f hd ha) rfl)
  roomM:=fun f room hf=>c.r152.go (avH (MP c.todO) f hf room) rfl }
theorem a6Y {C:Ctx} (c:SQ C) (hi:sJ C):akH C :=
 {aYE c hi with
  awake:=aUQ c.todO hi
  again:=fun l v T o=>exactly (c.r18.go (aOC (aYE c hi) l v T o) rfl) }
theorem aUR {C:Ctx} (c:SQ C) (hi:sJ C) (r:aQ C 14 HN) (l:List Nat) (hb:∀ x∈l,x<256) (hl:l.length≤9223372036854775807) (v k d:Nat) (h1:v<256) (h2:k<256) (h3:d<256):aI C 14 [.sl 1 (gP l),.int .u8 v,.int .u8 k,.int .u8 d] .nil (aL (.bool true)) :=
 r.go (aON (a6Y c hi) l hb hl v k d h1 h2 h3) rfl
end Go.PM
