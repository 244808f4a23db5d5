/-
  Texts of ours, joined: ZdCodes ZdBase MkW17 MkW18 L11W5 Pm37 L11W6 L11P2 L11W7 L11W8 L11W9 L11W10 L11W11 L11W12 L11W13 Jn4. No condition.
-/
import Derived.Test.YtelckcmlobadkaaGreatDoorK1
import Derived.Test.YtelckcmlobadkaaGreatDoorK2
import Derived.Test.YtelckcmlobadkaaGreatDoorK3
import Derived.Test.YtelckcmlobadkaaGreatDoorK4
import Derived.Test.YtelckcmlobadkaaGreatDoorK5
import Derived.Test.YtelckcmlobadkaaGreatDoorProg
import Derived.KernelRfl
import Derived.Test.YtelckcmlobadkaaGreatDoorRows
import Derived.ProofKit
import Derived.WalkKit
import Derived.LaidMore
import Derived.OpenShut
import Derived.Stop.Joined
set_option linter.unusedSimpArgs false
set_option linter.unusedVariables false
open Nat renaming reduceEqDiff → γ, reduceAdd → δ, reduceSub → ε, reduceMul → ζ, reduceLT → η, reduceLeDiff → θ, reduceBEq → τ
open Int renaming reduceLT → ι, reduceLE → κ, reduceEq → μ, reduceToNat → ν, reduceAdd → ξ, reduceNeg → ο, reduceBEq → ρ, reduceBNe → σ
open List renaming reduceReplicate → υ
open List renaming length_map → bgT, replicate → bgV, length_append → bgW, getElem_mem → bgY, length_singleton → bhA, range → bhB, mem_cons → bhF, getElem?_eq_getElem → bhH, take_of_length_le → bhI, length_take → bhJ, not_mem_nil → bhM, getD_eq_getElem?_getD → bhQ, drop_zero → bhV, all_eq_true → bhW, append_assoc → bhY, take_length → bhZ, mem_map → biA, map_cons → biC, getElem?_eq_none → biE, getElem?_eq_some_iff → biG, getElem?_map → biH, getElem_map → biI, getElem_of_mem → biL, mem_range → biM, append_nil → biN, mem_append → biO, drop_eq_getElem_cons → biQ, length_drop → biR, map_append → biS, Sublist → biU, map_nil → biV, take_succ_eq_append_getElem → biZ, length_nil → bjB, length_set → bjC, take_append_drop → bjE, ext_getElem → bjH, mem_of_getElem? → bjI, length_cons → bjJ, nodup_append → bjK, getElem?_take → bjO, getElem?_append_left → bjQ, set_append_right → bjR, getElem?_append_right → bjU, drop_of_length_le → bkA
open Nat renaming gcd → bgU, le_refl → bgX, mul_add → bhD, zero_le → bhE, lt_or_ge → bhK, mul_assoc → bhL, mul_comm → bhR, zero_add → bhS, add_mul → bhT, mul_le_mul_right → bhU, mod_eq_of_lt → bhX, mod_lt → biB, pow_succ → biJ, add_zero → biP, min_eq_left → biT, add_assoc → biW, mul_le_mul_left → biX, eq_zero_or_pos → bjA, pos_of_ne_zero → bjF, pow_pos → bjG, div_lt_iff_lt_mul → bjL, le_trans → bjM, div_le_self → bjS, div_add_mod → bjV, div_eq_of_lt → bjW
open Option renaming map_eq_some_iff → bgZ, map_some → biD, some → biY, getD_some → bjP, bind_eq_some_iff → bjX, bind_some → bkB
open Bool renaming not_true → bhC, false_and → bhG, not_false → bhN, and_eq_true → bhO, true_and → bhP, and_false → biF, and_true → bjD, false_eq_true → bjZ
open Array renaming replicate → biK, length_toList → bjN, getElem?_eq_getElem → bjY, getElem?_eq_some_iff → bkC
open Int renaming toNat_natCast → bjT
namespace Go.Proofs.YtelckcmlobadkaaGreatDoor
open Go Go.PM
def a4Z:List Nat:=[11,51,27,12,26,31,14,30,0,0,0,3,7,9,5,8,4,6,17,24,18,23,48,36,0,0,0,20,10,28,152,111,110,66,65,54,155,154,64,85,115,84,114,161,113,112,136,29,162,105,32,101,102,100,77,99,76,153,53,55,137,103,96,151,135,134,104,59,75,80,74,97,79,73,78,98,72,81,40,43,82,42,33,50,45,46,47,49,60,61,62,0,0,0,41,69,56,87,126,88,128,131,92,127,67,86,93,129,94,130,71,68,70,119,91,90,116,89,122,121,120,124,125,95,150,133,132,144,117,123,147,146,118,149,145,148,160,158,143,166,163,159,165,164,0,0,0,15,22,21,16,44,13,25,19,35,57,39,38,58,37,34,83,63,140,108,109,141,138,107,106,0,0,0,0,0,0,0,0,0,0,0,0,0,0,0,0,0,0,0,0,0,0,0,0,52,0,0,0,0,0]
def a1R:List (Option Nat):=[none,none,none,some 11,some 16,some 14,some 17,some 12,some 15,some 13,some 28,some 0,some 3,some 152,some 6,some 147,some 150,some 18,some 20,some 154,some 27,some 149,some 148,some 21,some 19,some 153,some 4,some 2,some 29,some 47,some 7,some 5,some 50,some 82,some 161,some 155,some 23,some 160,some 158,some 157,some 78,some 94,some 81,some 79,some 151,some 84,some 85,some 86,some 22,some 87,some 83,some 1,some 195,some 58,some 35,some 59,some 96,some 156,some 159,some 67,some 88,some 89,some 90,some 163,some 38,some 34,some 33,some 104,some 111,some 95,some 112,some 110,some 76,some 73,some 70,some 68,some 56,some 54,some 74,some 72,some 69,some 77,some 80,some 162,some 41,some 39,some 105,some 97,some 99,some 117,some 115,some 114,some 102,some 106,some 108,some 123,some 62,some 71,some 75,some 55,some 53,some 51,some 52,some 61,some 66,some 49,some 170,some 169,some 165,some 166,some 32,some 31,some 45,some 44,some 42,some 40,some 116,some 128,some 132,some 113,some 120,some 119,some 118,some 129,some 121,some 122,some 98,some 103,some 100,some 107,some 109,some 101,some 126,some 125,some 65,some 64,some 46,some 60,some 168,none,some 164,some 167,none,some 138,some 127,some 134,some 131,some 130,some 135,some 133,some 124,some 63,some 30,some 57,some 37,some 36,none,none,some 137,some 141,some 136,some 43,some 48,some 140,some 143,some 142,some 139]
def num (n:Nat):FuncId:=a4Z.getD n 0
def nameOf (f:FuncId):Option Nat:=a1R.getD f none
noncomputable def C:Ctx:=⟨Tryz.prog,num⟩
noncomputable def T (ro:List Nat):Tbl:={ P:=Tryz.prog,num:=num,name:=nameOf,ro:=ro }
theorem c0:(T aPK).func Tryz.f11=some PM.IQ:=by kernel_rfl
theorem q0:aR C 0 PM.IQ:=fun _ _ _ hl h=>aO rfl rfl Tryz.func11 (by kernel_rfl) c0 hl h
theorem c1:(T aVP).func Tryz.f51=some PM.XM:=by kernel_rfl
theorem q1:aR C 1 PM.XM:=fun _ _ _ hl h=>aO rfl rfl Tryz.func51 (by kernel_rfl) c1 hl h
theorem c2:(T a1I).func Tryz.f27=some PM.asF:=by kernel_rfl
theorem q2:aR C 2 PM.asF:=fun _ _ _ hl h=>aO rfl rfl Tryz.func27 (by kernel_rfl) c2 hl h
theorem c4:(T aVY).func Tryz.f26=some PM.ND:=by kernel_rfl
theorem q4:aR C 4 PM.ND:=fun _ _ _ hl h=>aO rfl rfl Tryz.func26 (by kernel_rfl) c4 hl h
theorem c5:(T a1O).func Tryz.f31=some PM.asR:=by kernel_rfl
theorem q5:aR C 5 PM.asR:=fun _ _ _ hl h=>aO rfl rfl Tryz.func31 (by kernel_rfl) c5 hl h
theorem c7:(T aVQ).func Tryz.f30=some PM.NB:=by kernel_rfl
theorem q7:aR C 7 PM.NB:=fun _ _ _ hl h=>aO rfl rfl Tryz.func30 (by kernel_rfl) c7 hl h
theorem c20:(T aOL).func Tryz.f18=some PM.IJ:=by kernel_rfl
theorem q20:aR C 20 PM.IJ:=fun _ _ _ hl h=>aO rfl rfl Tryz.func18 (by kernel_rfl) c20 hl h
theorem c23:(T aPF).func Tryz.f36=some PM.IM:=by kernel_rfl
theorem q23:aR C 23 PM.IM:=fun _ _ _ hl h=>aO rfl rfl Tryz.func36 (by kernel_rfl) c23 hl h
theorem c27:(T aPH).func Tryz.f20=some PM.IN:=by kernel_rfl
theorem q27:aR C 27 PM.IN:=fun _ _ _ hl h=>aO rfl rfl Tryz.func20 (by kernel_rfl) c27 hl h
theorem c28:(T a1M).func Tryz.f10=some PM.asO:=by kernel_rfl
theorem q28:aR C 28 PM.asO:=fun _ _ _ hl h=>aO rfl rfl Tryz.func10 (by kernel_rfl) c28 hl h
theorem c29:(T aVW).func Tryz.f28=some PM.XV:=by kernel_rfl
theorem q29:aR C 29 PM.XV:=fun _ _ _ hl h=>aO rfl rfl Tryz.func28 (by kernel_rfl) c29 hl h
theorem c30:(T a2X).func Tryz.f152=some PM.aXL:=by kernel_rfl
theorem q30:aR C 30 PM.aXL:=fun _ _ _ hl h=>aO rfl rfl Tryz.func152 (by kernel_rfl) c30 hl h
theorem c31:(T aXN).func Tryz.f111=some PM.ZW:=by kernel_rfl
theorem q31:aR C 31 PM.ZW:=fun _ _ _ hl h=>aO rfl rfl Tryz.func111 (by kernel_rfl) c31 hl h
theorem c32:(T a2Z).func Tryz.f110=some PM.ayG:=by kernel_rfl
theorem q32:aR C 32 PM.ayG:=fun _ _ _ hl h=>aO rfl rfl Tryz.func110 (by kernel_rfl) c32 hl h
theorem c33:(T a3B).func Tryz.f66=some PM.udiv:=by kernel_rfl
theorem q33:aR C 33 PM.udiv:=fun _ _ _ hl h=>aO rfl rfl Tryz.func66 (by kernel_rfl) c33 hl h
theorem c34:(T a3D).func Tryz.f65=some PM.ayV:=by kernel_rfl
theorem q34:aR C 34 PM.ayV:=fun _ _ _ hl h=>aO rfl rfl Tryz.func65 (by kernel_rfl) c34 hl h
theorem c35:(T aXT).func Tryz.f54=some PM.aaF:=by kernel_rfl
theorem q35:aR C 35 PM.aaF:=fun _ _ _ hl h=>aO rfl rfl Tryz.func54 (by kernel_rfl) c35 hl h
theorem c36:(T a3L).func Tryz.f155=some PM.aXU:=by kernel_rfl
theorem q36:aR C 36 PM.aXU:=fun _ _ _ hl h=>aO rfl rfl Tryz.func155 (by kernel_rfl) c36 hl h
theorem c37:(T a3U).func Tryz.f154=some PM.aYC:=by kernel_rfl
theorem q37:aR C 37 PM.aYC:=fun _ _ _ hl h=>aO rfl rfl Tryz.func154 (by kernel_rfl) c37 hl h
theorem c38:(T aYE).func Tryz.f64=some PM.aaO:=by kernel_rfl
theorem q38:aR C 38 PM.aaO:=fun _ _ _ hl h=>aO rfl rfl Tryz.func64 (by kernel_rfl) c38 hl h
theorem c39:(T aMO).func Tryz.f85=some PM.BQ:=by kernel_rfl
theorem q39:aR C 39 PM.BQ:=fun _ _ _ hl h=>aO rfl rfl Tryz.func85 (by kernel_rfl) c39 hl h
theorem c40:(T aXR).func Tryz.f115=some PM.aaE:=by kernel_rfl
theorem q40:aR C 40 PM.aaE:=fun _ _ _ hl h=>aO rfl rfl Tryz.func115 (by kernel_rfl) c40 hl h
theorem c41:(T aSM).func Tryz.f84=some PM.LQ:=by kernel_rfl
theorem q41:aR C 41 PM.LQ:=fun _ _ _ hl h=>aO rfl rfl Tryz.func84 (by kernel_rfl) c41 hl h
theorem c42:(T aSO).func Tryz.f114=some PM.LS:=by kernel_rfl
theorem q42:aR C 42 PM.LS:=fun _ _ _ hl h=>aO rfl rfl Tryz.func114 (by kernel_rfl) c42 hl h
theorem c43:(T aYA).func Tryz.f161=some PM.aaJ:=by kernel_rfl
theorem q43:aR C 43 PM.aaJ:=fun _ _ _ hl h=>aO rfl rfl Tryz.func161 (by kernel_rfl) c43 hl h
theorem c44:(T aSS).func Tryz.f113=some PM.MD:=by kernel_rfl
theorem q44:aR C 44 PM.MD:=fun _ _ _ hl h=>aO rfl rfl Tryz.func113 (by kernel_rfl) c44 hl h
theorem c45:(T a5U).func Tryz.f112=some PM.uup:=by kernel_rfl
theorem q45:aR C 45 PM.uup:=fun _ _ _ hl h=>aO rfl rfl Tryz.func112 (by kernel_rfl) c45 hl h
theorem c47:(T a3W).func Tryz.f29=some PM.azK:=by kernel_rfl
theorem q47:aR C 47 PM.azK:=fun _ _ _ hl h=>aO rfl rfl Tryz.func29 (by kernel_rfl) c47 hl h
theorem c50:(T aYI).func Tryz.f32=some PM.NL:=by kernel_rfl
theorem q50:aR C 50 PM.NL:=fun _ _ _ hl h=>aO rfl rfl Tryz.func32 (by kernel_rfl) c50 hl h
theorem c58:(T aMX).func Tryz.f53=some PM.BS:=by kernel_rfl
theorem q58:aR C 58 PM.BS:=fun _ _ _ hl h=>aO rfl rfl Tryz.func53 (by kernel_rfl) c58 hl h
theorem c59:(T aYK).func Tryz.f55=some PM.aaW:=by kernel_rfl
theorem q59:aR C 59 PM.aaW:=fun _ _ _ hl h=>aO rfl rfl Tryz.func55 (by kernel_rfl) c59 hl h
theorem c95:(T a0F).func Tryz.f69=some PM.apA:=by kernel_rfl
theorem q95:aR C 95 PM.apA:=fun _ _ _ hl h=>aO rfl rfl Tryz.func69 (by kernel_rfl) c95 hl h
theorem c96:(T a0Q).func Tryz.f56=some PM.apZ:=by kernel_rfl
theorem q96:aR C 96 PM.apZ:=fun _ _ _ hl h=>aO rfl rfl Tryz.func56 (by kernel_rfl) c96 hl h
theorem c97:(T aNZ).func Tryz.f87=some PM.HV:=by kernel_rfl
theorem q97:aR C 97 PM.HV:=fun _ _ _ hl h=>aO rfl rfl Tryz.func87 (by kernel_rfl) c97 hl h
theorem c98:(T aUH).func Tryz.f126=some PM.VP:=by kernel_rfl
theorem q98:aR C 98 PM.VP:=fun _ _ _ hl h=>aO rfl rfl Tryz.func126 (by kernel_rfl) c98 hl h
theorem c99:(T aUJ).func Tryz.f88=some PM.VQ:=by kernel_rfl
theorem q99:aR C 99 PM.VQ:=fun _ _ _ hl h=>aO rfl rfl Tryz.func88 (by kernel_rfl) c99 hl h
theorem a9X:(T aUL).func Tryz.f128=some PM.VR:=by kernel_rfl
theorem bcZ:aR C 100 PM.VR:=fun _ _ _ hl h=>aO rfl rfl Tryz.func128 (by kernel_rfl) a9X hl h
theorem a9Y:(T a0L).func Tryz.f131=some PM.gone:=by kernel_rfl
theorem bdA:aR C 101 PM.gone:=fun _ _ _ hl h=>aO rfl rfl Tryz.func131 (by kernel_rfl) a9Y hl h
theorem a9Z:(T aUO).func Tryz.f92=some PM.VS:=by kernel_rfl
theorem bdB:aR C 102 PM.VS:=fun _ _ _ hl h=>aO rfl rfl Tryz.func92 (by kernel_rfl) a9Z hl h
theorem baA:(T aOB).func Tryz.f127=some PM.HW:=by kernel_rfl
theorem bdC:aR C 103 PM.HW:=fun _ _ _ hl h=>aO rfl rfl Tryz.func127 (by kernel_rfl) baA hl h
theorem baB:(T a4Q).func Tryz.f67=some PM.gin:=by kernel_rfl
theorem bdD:aR C 104 PM.gin:=fun _ _ _ hl h=>aO rfl rfl Tryz.func67 (by kernel_rfl) baB hl h
theorem baC:(T a0H).func Tryz.f86=some PM.apC:=by kernel_rfl
theorem bdE:aR C 105 PM.apC:=fun _ _ _ hl h=>aO rfl rfl Tryz.func86 (by kernel_rfl) baC hl h
theorem baD:(T a0J).func Tryz.f93=some PM.apD:=by kernel_rfl
theorem bdF:aR C 106 PM.apD:=fun _ _ _ hl h=>aO rfl rfl Tryz.func93 (by kernel_rfl) baD hl h
theorem baE:(T aUQ).func Tryz.f129=some PM.VV:=by kernel_rfl
theorem bdG:aR C 107 PM.VV:=fun _ _ _ hl h=>aO rfl rfl Tryz.func129 (by kernel_rfl) baE hl h
theorem baF:(T aUS).func Tryz.f94=some PM.VW:=by kernel_rfl
theorem bdH:aR C 108 PM.VW:=fun _ _ _ hl h=>aO rfl rfl Tryz.func94 (by kernel_rfl) baF hl h
theorem baG:(T aOE).func Tryz.f130=some PM.IE:=by kernel_rfl
theorem bdI:aR C 109 PM.IE:=fun _ _ _ hl h=>aO rfl rfl Tryz.func130 (by kernel_rfl) baG hl h
theorem baH:(T aUV).func Tryz.f71=some PM.VX:=by kernel_rfl
theorem bdJ:aR C 110 PM.VX:=fun _ _ _ hl h=>aO rfl rfl Tryz.func71 (by kernel_rfl) baH hl h
theorem baI:(T a0D).func Tryz.f68=some PM.abL:=by kernel_rfl
theorem bdK:aR C 111 PM.abL:=fun _ _ _ hl h=>aO rfl rfl Tryz.func68 (by kernel_rfl) baI hl h
theorem baJ:(T a0N).func Tryz.f70=some PM.apG:=by kernel_rfl
theorem bdL:aR C 112 PM.apG:=fun _ _ _ hl h=>aO rfl rfl Tryz.func70 (by kernel_rfl) baJ hl h
theorem baK:(T aZT).func Tryz.f119=some PM.HK:=by kernel_rfl
theorem bdM:aR C 113 PM.HK:=fun _ _ _ hl h=>aO rfl rfl Tryz.func119 (by kernel_rfl) baK hl h
theorem baL:(T aZV).func Tryz.f91=some PM.anD:=by kernel_rfl
theorem bdN:aR C 114 PM.anD:=fun _ _ _ hl h=>aO rfl rfl Tryz.func91 (by kernel_rfl) baL hl h
theorem baM:(T aUD).func Tryz.f90=some PM.MP:=by kernel_rfl
theorem bdO:aR C 115 PM.MP:=fun _ _ _ hl h=>aO rfl rfl Tryz.func90 (by kernel_rfl) baM hl h
theorem baN:(T aJH).func Tryz.f116=some PM.uN:=by kernel_rfl
theorem bdP:aR C 116 PM.uN:=fun _ _ _ hl h=>aO rfl rfl Tryz.func116 (by kernel_rfl) baN hl h
theorem baO:(T a0B).func Tryz.f89=some PM.RJ:=by kernel_rfl
theorem bdQ:aR C 117 PM.RJ:=fun _ _ _ hl h=>aO rfl rfl Tryz.func89 (by kernel_rfl) baO hl h
theorem baP:(T aNX).func Tryz.f122=some PM.HU:=by kernel_rfl
theorem bdR:aR C 118 PM.HU:=fun _ _ _ hl h=>aO rfl rfl Tryz.func122 (by kernel_rfl) baP hl h
theorem baQ:(T aZR).func Tryz.f121=some PM.anA:=by kernel_rfl
theorem bdS:aR C 119 PM.anA:=fun _ _ _ hl h=>aO rfl rfl Tryz.func121 (by kernel_rfl) baQ hl h
theorem baR:(T aJD).func Tryz.f120=some PM.mY:=by kernel_rfl
theorem bdT:aR C 120 PM.mY:=fun _ _ _ hl h=>aO rfl rfl Tryz.func120 (by kernel_rfl) baR hl h
theorem baS:(T aNV).func Tryz.f124=some PM.HT:=by kernel_rfl
theorem bdU:aR C 121 PM.HT:=fun _ _ _ hl h=>aO rfl rfl Tryz.func124 (by kernel_rfl) baS hl h
theorem baT:(T aUF).func Tryz.f125=some PM.VO:=by kernel_rfl
theorem bdV:aR C 122 PM.VO:=fun _ _ _ hl h=>aO rfl rfl Tryz.func125 (by kernel_rfl) baT hl h
theorem baU:(T aVI).func Tryz.f95=some PM.MY:=by kernel_rfl
theorem bdW:aR C 123 PM.MY:=fun _ _ _ hl h=>aO rfl rfl Tryz.func95 (by kernel_rfl) baU hl h
theorem baV:(T aON).func Tryz.f150=some PM.BB:=by kernel_rfl
theorem bdX:aR C 124 PM.BB:=fun _ _ _ hl h=>aO rfl rfl Tryz.func150 (by kernel_rfl) baV hl h
theorem baW:(T aOR).func Tryz.f133=some PM.BC:=by kernel_rfl
theorem bdY:aR C 125 PM.BC:=fun _ _ _ hl h=>aO rfl rfl Tryz.func133 (by kernel_rfl) baW hl h
theorem baX:(T aKE).func Tryz.f132=some PM.uS:=by kernel_rfl
theorem bdZ:aR C 126 PM.uS:=fun _ _ _ hl h=>aO rfl rfl Tryz.func132 (by kernel_rfl) baX hl h
theorem baY:(T a1Q).func Tryz.f144=some PM.atE:=by kernel_rfl
theorem beA:aR C 127 PM.atE:=fun _ _ _ hl h=>aO rfl rfl Tryz.func144 (by kernel_rfl) baY hl h
theorem baZ:(T aWD).func Tryz.f117=some PM.XZ:=by kernel_rfl
theorem beB:aR C 128 PM.XZ:=fun _ _ _ hl h=>aO rfl rfl Tryz.func117 (by kernel_rfl) baZ hl h
theorem bbA:(T a1T).func Tryz.f123=some PM.atV:=by kernel_rfl
theorem beC:aR C 129 PM.atV:=fun _ _ _ hl h=>aO rfl rfl Tryz.func123 (by kernel_rfl) bbA hl h
theorem bbB:(T a1V).func Tryz.f147=some PM.auB:=by kernel_rfl
theorem beD:aR C 130 PM.auB:=fun _ _ _ hl h=>aO rfl rfl Tryz.func147 (by kernel_rfl) bbB hl h
theorem bbC:(T a1X).func Tryz.f146=some PM.auF:=by kernel_rfl
theorem beE:aR C 131 PM.auF:=fun _ _ _ hl h=>aO rfl rfl Tryz.func146 (by kernel_rfl) bbC hl h
theorem bbD:(T aWF).func Tryz.f118=some PM.YK:=by kernel_rfl
theorem beF:aR C 132 PM.YK:=fun _ _ _ hl h=>aO rfl rfl Tryz.func118 (by kernel_rfl) bbD hl h
theorem bbE:(T a1Z).func Tryz.f149=some PM.auJ:=by kernel_rfl
theorem beG:aR C 133 PM.auJ:=fun _ _ _ hl h=>aO rfl rfl Tryz.func149 (by kernel_rfl) bbE hl h
theorem bbF:(T a2B).func Tryz.f145=some PM.auS:=by kernel_rfl
theorem beH:aR C 134 PM.auS:=fun _ _ _ hl h=>aO rfl rfl Tryz.func145 (by kernel_rfl) bbF hl h
theorem bbG:(T aWI).func Tryz.f148=some PM.YN:=by kernel_rfl
theorem beI:aR C 135 PM.YN:=fun _ _ _ hl h=>aO rfl rfl Tryz.func148 (by kernel_rfl) bbG hl h
theorem bbH:(T aLH).func Tryz.f160=some PM.BE:=by kernel_rfl
theorem beJ:aR C 136 PM.BE:=fun _ _ _ hl h=>aO rfl rfl Tryz.func160 (by kernel_rfl) bbH hl h
theorem bbI:(T aPW).func Tryz.f158=some PM.JD:=by kernel_rfl
theorem beK:aR C 137 PM.JD:=fun _ _ _ hl h=>aO rfl rfl Tryz.func158 (by kernel_rfl) bbI hl h
theorem bbJ:(T aLM).func Tryz.f143=some PM.rG:=by kernel_rfl
theorem beL:aR C 138 PM.rG:=fun _ _ _ hl h=>aO rfl rfl Tryz.func143 (by kernel_rfl) bbJ hl h
theorem bbK:(T aAN).func Tryz.f166=some PM.vP:=by kernel_rfl
theorem beM:aR C 139 PM.vP:=fun _ _ _ hl h=>aO rfl rfl Tryz.func166 (by kernel_rfl) bbK hl h
theorem bbL:(T aPZ).func Tryz.f163=some PM.JH:=by kernel_rfl
theorem aWN:aR C 140 PM.JH:=fun _ _ _ hl h=>aO rfl rfl Tryz.func163 (by kernel_rfl) bbL hl h
theorem bbM:(T aQB).func Tryz.f159=some PM.JI:=by kernel_rfl
theorem aWO:aR C 141 PM.JI:=fun _ _ _ hl h=>aO rfl rfl Tryz.func159 (by kernel_rfl) bbM hl h
theorem bbN:(T auZ).func Tryz.f165=some PM.sU:=by kernel_rfl
theorem acW:aR C 142 PM.sU:=fun _ _ _ hl h=>aO rfl rfl Tryz.func165 (by kernel_rfl) bbN hl h
theorem bbO:(T a5B).func Tryz.f164=some PM.nup:=by kernel_rfl
theorem beN:aR C 143 PM.nup:=fun _ _ _ hl h=>aO rfl rfl Tryz.func164 (by kernel_rfl) bbO hl h
theorem bbP:(T a5Q).func Tryz.f15=some PM.tat:=by kernel_rfl
theorem beO:aR C 147 PM.tat:=fun _ _ _ hl h=>aO rfl rfl Tryz.func15 (by kernel_rfl) bbP hl h
theorem bbQ:(T aRR).func Tryz.f22=some PM.KM:=by kernel_rfl
theorem beP:aR C 148 PM.KM:=fun _ _ _ hl h=>aO rfl rfl Tryz.func22 (by kernel_rfl) bbQ hl h
theorem bbR:(T aMK).func Tryz.f21=some PM.BP:=by kernel_rfl
theorem beQ:aR C 149 PM.BP:=fun _ _ _ hl h=>aO rfl rfl Tryz.func21 (by kernel_rfl) bbR hl h
theorem bbS:(T aRU).func Tryz.f16=some PM.KQ:=by kernel_rfl
theorem beR:aR C 150 PM.KQ:=fun _ _ _ hl h=>aO rfl rfl Tryz.func16 (by kernel_rfl) bbS hl h
theorem bbT:(T aRK).func Tryz.f44=some PM.KK:=by kernel_rfl
theorem beS:aR C 151 PM.KK:=fun _ _ _ hl h=>aO rfl rfl Tryz.func44 (by kernel_rfl) bbT hl h
theorem bbU:(T aXF).func Tryz.f13=some PM.uC:=by kernel_rfl
theorem beT:aR C 152 PM.uC:=fun _ _ _ hl h=>aO rfl rfl Tryz.func13 (by kernel_rfl) bbU hl h
theorem bbV:(T aMI).func Tryz.f25=some PM.BN:=by kernel_rfl
theorem beU:aR C 153 PM.BN:=fun _ _ _ hl h=>aO rfl rfl Tryz.func25 (by kernel_rfl) bbV hl h
theorem bbW:(T aXI).func Tryz.f19=some PM.ZV:=by kernel_rfl
theorem beV:aR C 154 PM.ZV:=fun _ _ _ hl h=>aO rfl rfl Tryz.func19 (by kernel_rfl) bbW hl h
theorem bbX:(T aRM).func Tryz.f35=some PM.KL:=by kernel_rfl
theorem beW:aR C 155 PM.KL:=fun _ _ _ hl h=>aO rfl rfl Tryz.func35 (by kernel_rfl) bbX hl h
theorem bbY:(T aXD).func Tryz.f57=some PM.ZP:=by kernel_rfl
theorem beX:aR C 156 PM.ZP:=fun _ _ _ hl h=>aO rfl rfl Tryz.func57 (by kernel_rfl) bbY hl h
theorem bbZ:(T aRW).func Tryz.f39=some PM.KR:=by kernel_rfl
theorem beY:aR C 157 PM.KR:=fun _ _ _ hl h=>aO rfl rfl Tryz.func39 (by kernel_rfl) bbZ hl h
theorem bcA:(T aXK).func Tryz.f38=some PM.alJ:=by kernel_rfl
theorem beZ:aR C 158 PM.alJ:=fun _ _ _ hl h=>aO rfl rfl Tryz.func38 (by kernel_rfl) bcA hl h
theorem bcB:(T aSH).func Tryz.f58=some PM.LC:=by kernel_rfl
theorem bfA:aR C 159 PM.LC:=fun _ _ _ hl h=>aO rfl rfl Tryz.func58 (by kernel_rfl) bcB hl h
theorem bcC:(T aSD).func Tryz.f37=some PM.wC:=by kernel_rfl
theorem bfB:aR C 160 PM.wC:=fun _ _ _ hl h=>aO rfl rfl Tryz.func37 (by kernel_rfl) bcC hl h
theorem bcD:(T aSF).func Tryz.f34=some PM.KV:=by kernel_rfl
theorem bfC:aR C 161 PM.KV:=fun _ _ _ hl h=>aO rfl rfl Tryz.func34 (by kernel_rfl) bcD hl h
theorem a7I:dP C:={
 r0:=q0,
 r1:=q1,
 r2:=q2,
 r4:=q4,
 r5:=q5,
 r7:=q7,
 r20:=q20,
 r23:=q23,
 r27:=q27,
 r28:=q28,
 r29:=q29,
 r30:=q30,
 r31:=q31,
 r32:=q32,
 r33:=q33,
 r34:=q34,
 r35:=q35,
 r36:=q36,
 r37:=q37,
 r38:=q38,
 r39:=q39,
 r40:=q40,
 r41:=q41,
 r42:=q42,
 r43:=q43,
 r44:=q44,
 r45:=q45,
 r47:=q47,
 r50:=q50,
 r58:=q58,
 r59:=q59,
 r95:=q95,
 r96:=q96,
 r97:=q97,
 r98:=q98,
 r99:=q99,
 r100:=bcZ,
 r101:=bdA,
 r102:=bdB,
 r103:=bdC,
 r104:=bdD,
 r105:=bdE,
 r106:=bdF,
 r107:=bdG,
 r108:=bdH,
 r109:=bdI,
 r110:=bdJ,
 r111:=bdK,
 r112:=bdL,
 r113:=bdM,
 r114:=bdN,
 r115:=bdO,
 r116:=bdP,
 r117:=bdQ,
 r118:=bdR,
 r119:=bdS,
 r120:=bdT,
 r121:=bdU,
 r122:=bdV,
 r123:=bdW,
 r124:=bdX,
 r125:=bdY,
 r126:=bdZ,
 r127:=beA,
 r128:=beB,
 r129:=beC,
 r130:=beD,
 r131:=beE,
 r132:=beF,
 r133:=beG,
 r134:=beH,
 r135:=beI,
 r136:=beJ,
 r137:=beK,
 r138:=beL,
 r139:=beM,
 r140:=aWN,
 r141:=aWO,
 r142:=acW,
 r143:=beN,
 r147:=beO,
 r148:=beP,
 r149:=beQ,
 r150:=beR,
 r151:=beS,
 r152:=beT,
 r153:=beU,
 r154:=beV,
 r155:=beW,
 r156:=beX,
 r157:=beY,
 r158:=beZ,
 r159:=bfA,
 r160:=bfB,
 r161:=bfC }
end Go.Proofs.YtelckcmlobadkaaGreatDoor
namespace Go.Proofs.YtelckcmlobadkaaGreatDoor
open Go Go.PM Go.RowKit Go.ChangeShapes Go.WideShapes
theorem Tryz.own:ownKnob Tryz.prog.godebug=none:=by kernel_rfl
theorem Tryz.laidOut:laidOutB Tryz.prog=true:=by kernel_rfl
theorem itoa:tC C:=fun n hn=>by
 refine⟨⟨Tryz.f52,Tryz.func52,by kernel_rfl,by kernel_rfl⟩,fun E w vs hN hW hvs=>?_⟩
 obtain⟨vl⟩:=vs
 cases hvs with
 | cons e1 e2 =>
 cases e2
 cases e1
 refine (Any.strconv_Itoa_small Tryz.a1C n hn w).mono fun e w' he=>?_
 obtain⟨rfl,rfl⟩:=he
 exact⟨_,.str (bO n),E,.nil,rfl,hW,.str ⟨(Lib.decDigits n).toArray⟩,.refl _ _ _,rfl,rfl⟩
theorem aNF {pv:PV} (h:PV.Ty (.sl [.int .u8]) pv):∃ l:List Nat,pv=.sl 1 (gK l)∧(∀ x∈l,x<256)∧l.length≤9223372036854775807:=by
 obtain⟨xs,rfl,hl,hx⟩:=Ty.aVC h
 refine⟨xs.map Int.toNat,?_,?_,?_⟩
 ·unfold aJW gK
  rw[List.map_map]
  congr 1
  refine List.map_congr_left fun x hm=>?_
  have:=(hx x hm).1
  simp only[Function.comp]
  rw[Int.toNat_of_nonneg this]
 ·intro y hy
  obtain⟨x,hm,rfl⟩:=biA.1 hy
  have:=(hx x hm).2
  have h0:=(hx x hm).1
  have hm:IntKind.u8.max=255:=by decide
  rw[hm] at this
  omega
 ·rw[bgT]
  have:maxLen≤9223372036854775807:=by decide
  omega
end Go.Proofs.YtelckcmlobadkaaGreatDoor
namespace Go.PM
open Go Go.Na
theorem aWT {C:Ctx} (f:aG) (hv:VF f) (v:Nat) (h:v<f.volumes.length) :
  EV.wp C (aY YV.res (bY (.int .i64 (fR f v)))) (PF.args [.agg f.cells,.int .i64 v]) .nil:=by
 obtain⟨hp,he⟩:=mN hv h
 have hpol:=hv.policy _ (bgY hp)
 rw[he] at hpol
 have hw:IntKind.i64.wrap ((eJ f v).k+(eJ f v).m)=(eJ f v).k+(eJ f v).m:=wrap_i64 (by omega) (by omega)
 simp -implicitDefEqProofs only[go_sem,γ,δ,ε,ζ,η,θ,ι,κ,μ,ν,ξ,ο,ρ,σ,τ,υ,reduceIte,reduceCtorEq,EV,awC,YV]
 refine cA .nil dU PH.nil_le ?_
 simp -implicitDefEqProofs only[go_sem,γ,δ,ε,ζ,η,θ,ι,κ,μ,ν,ξ,ο,ρ,σ,τ,υ,reduceIte,reduceCtorEq,awD,uG h,hv.YQ h,sB hp,he]
 refine aQ fun o ho=>?_
 simp -implicitDefEqProofs only[go_sem,γ,δ,ε,ζ,η,θ,ι,κ,μ,ν,ξ,ο,ρ,σ,τ,υ,reduceIte,reduceCtorEq,awE,hw]
 refine⟨PH.nil_le,?_⟩
 exact fH (n:=(eJ f v).k+(eJ f v).m) (by simp -implicitDefEqProofs only[go_sem,γ,δ,ε,ζ,η,θ,ι,κ,μ,ν,ξ,ο,ρ,σ,τ,υ,reduceIte,reduceCtorEq]<;>rfl) rfl
abbrev iiv (l:List Int):List (List PV):=l.map fun x=>[PV.int .i64 x]
def aYN (l:List Nat) (v:PV) (o a:Nat) (f:aG) (r:PV) (H:PH):Prop:=Co r (ints (hC l f a).1)∧H=PH.nil.set o (aS v (hC l f a).2)
theorem agV (l:List Nat) {a:Nat} (h:a≤l.length):∀ k,(kD l a k).2≤l.length∧(kD l a k).1.length=k
 | 0=>⟨h,rfl⟩
 | k+1=>by
  obtain⟨h1,h2⟩:=agV l h k
  exact⟨bC l 7 h1,by simp only[kD,bgW,bhA,h2]⟩
def asS (f:aG) (o:Nat) (w:PV) (i:Nat):PF:=((((PF.nil.set 0 (.ptr o 2 0 0)).set 3 (.rptr f.cells)).set 5 (w)).set 6 (.int .i64 i))
theorem aVZ {C:Ctx} (Lb:pN C) {l:List Nat} {v:PV} (T:Tp l v) (o a:Nat) (f:aG) (hd:f.drives.length≤1000) (ha:a≤l.length):ED.wp C (aY XW.res (aYN l v o a f)) (PF.args [.ptr o 2 0 0,.agg f.cells]) (PH.nil.set o (aS v a)):=by
 have h0:aP (PH.nil.set o (aS v a)) [(o,aS v a)] []:=aP.nil.new (H:=PH.nil) rfl (aS v a)
 simp -implicitDefEqProofs only[go_sem,γ,δ,ε,ζ,η,θ,ι,κ,μ,ν,ξ,ο,ρ,σ,τ,υ,reduceIte,reduceCtorEq,ED,asU,XW,asV]
 refine cD Lb T (o:=o) (n:=4) (a:=a) (by decide) ha (by simp -implicitDefEqProofs only[go_sem,γ,δ,ε,ζ,η,θ,ι,κ,μ,ν,ξ,ο,ρ,σ,τ,υ,reduceIte,reduceCtorEq]; rfl) (h0.at 0 rfl) ?_
 have h1:=h0.set 0 rfl (aS v (aC l 4 a).2)
 rw[PH.set_set] at h1
 have hna:=bC l 4 ha
 have hT:hC l f a=if (aC l 4 a).1=0 then ([],(aC l 4 a).2) else kD l (aC l 4 a).2 f.drives.length:=rfl
 have hR:∀ r H,aYN l v o a f r H↔Co r (ints (hC l f a).1)∧H=PH.nil.set o (aS v (hC l f a).2):=fun _ _=>Iff.rfl
 generalize aC l 4 a=t at *
 by_cases ht:t.1=0
 ·rw[if_pos ht] at hT
  simp -implicitDefEqProofs only[go_sem,γ,δ,ε,ζ,η,θ,ι,κ,μ,ν,ξ,ο,ρ,σ,τ,υ,reduceIte,reduceCtorEq,bS (show ((t.1:Nat):Int)=0 by omega),asW]
  refine aW (vs:=[.nils]) (.inr rfl) (PH.nil.set o (aS v t.2)) (by simp -implicitDefEqProofs only[go_sem,γ,δ,ε,ζ,η,θ,ι,κ,μ,ν,ξ,ο,ρ,σ,τ,υ,reduceIte,reduceCtorEq]) (PH.aA PH.nil_le (h1.at 0 rfl)) ?_
  rw[cN,hR,hT]
  exact⟨.nil 1,rfl⟩
 rw[if_neg ht] at hT
 have h2:=h1.qL 1
 simp -implicitDefEqProofs only[go_sem,γ,δ,ε,ζ,η,θ,ι,κ,μ,ν,ξ,ο,ρ,σ,τ,υ,reduceIte,reduceCtorEq,bF (show ((t.1:Nat):Int)≠0 by omega),asX,asY]
 refine wp_loop (α:=Nat × PV × PH) (fun s=>asS f o s.2.1 s.1) (fun s=>s.2.2) (fun s=>s.1≤f.drives.length∧aP s.2.2 [(o,aS v (kD l t.2 s.1).2)] [(s.2.1,1,iiv (kD l t.2 s.1).1)]) (fun s=>f.drives.length-s.1) (0,.nils,_) ⟨bhE _,h2⟩ ?_ PH.le_refl ?_
 ·unfold asS
  (repeat' (first|exact PF.nil_le|refine PF.aA ?_ ?_))<;>first|(simp -implicitDefEqProofs only[go_sem,γ,δ,ε,ζ,η,θ,ι,κ,μ,ν,ξ,ο,ρ,σ,τ,υ,reduceIte,reduceCtorEq]<;>rfl)|rfl
 rintro⟨k,w,H0⟩ ⟨hk,hH⟩
 simp only at hk hH ⊢
 obtain⟨k1,k2⟩:=agV l hna k
 simp -implicitDefEqProofs only[go_sem,γ,δ,ε,ζ,η,θ,ι,κ,μ,ν,ξ,ο,ρ,σ,τ,υ,reduceIte,reduceCtorEq,asT,asZ,asS,bgT]
 by_cases hlt:k<f.drives.length
 ·have hlt':(k:Int)<(f.drives.length:Nat):=by omega
  have hstep:kD l t.2 (k+1)=((kD l t.2 k).1++[((aC l 7 (kD l t.2 k).2).1:Int)-1],(aC l 7 (kD l t.2 k).2).2):=rfl
  have hz:=bM l (show 0<7 by decide) (kD l t.2 k).2
  generalize hs:kD l t.2 k=s at *
  have hw1:IntKind.i64.wrap (((aC l 7 s.2).1:Int)-1)=((aC l 7 s.2).1:Int)-1:=wrap_i64 (by omega) (by omega)
  have h11:(1:Nat)*1≤16777216:=by decide
  simp -implicitDefEqProofs only[go_sem,γ,δ,ε,ζ,η,θ,ι,κ,μ,ν,ξ,ο,ρ,σ,τ,υ,reduceIte,reduceCtorEq,hlt',atA]
  refine cD Lb T (o:=o) (n:=7) (a:=s.2) (by decide) k1 (by simp -implicitDefEqProofs only[go_sem,γ,δ,ε,ζ,η,θ,ι,κ,μ,ν,ξ,ο,ρ,σ,τ,υ,reduceIte,reduceCtorEq]; rfl) (hH.at 0 rfl) ?_
  have hH2:=hH.set 0 rfl (aS v (aC l 7 s.2).2)
  simp -implicitDefEqProofs only[go_sem,γ,δ,ε,ζ,η,θ,ι,κ,μ,ν,ξ,ο,ρ,σ,τ,υ,reduceIte,reduceCtorEq,hw1,h11]
  refine hH2.append 0 (src:=[[PV.int .i64 (((aC l 7 s.2).1:Int)-1)]]) rfl (by simp -implicitDefEqProofs only[go_sem,γ,δ,ε,ζ,η,θ,ι,κ,μ,ν,ξ,ο,ρ,σ,τ,υ,reduceIte,reduceCtorEq]) (by unfold roomFor; rw[bgT,k2]; simp only[bhA,maxLen]; omega) fun w' H' h' _=>?_
  simp -implicitDefEqProofs only[go_sem,γ,δ,ε,ζ,η,θ,ι,κ,μ,ν,ξ,ο,ρ,σ,τ,υ,reduceIte,reduceCtorEq,atB,aK (show k<9223372036854775807 by omega)]
  refine aI (k+1,w',H') ⟨hlt,?_⟩ (by simp only; omega) ?_ PH.le_refl
  ·simp only
   rw[hstep]
   have:iiv (s.1++[((aC l 7 s.2).1:Int)-1])=iiv s.1++[[PV.int .i64 (((aC l 7 s.2).1:Int)-1)]]:=by simp[iiv]
   rw[this]
   exact h'
  ·(repeat' (first|exact PF.nil_le|refine PF.aA ?_ ?_))<;>first|(simp -implicitDefEqProofs only[go_sem,γ,δ,ε,ζ,η,θ,ι,κ,μ,ν,ξ,ο,ρ,σ,τ,υ,reduceIte,reduceCtorEq]<;>rfl)|rfl
 ·have hlt':¬ (k:Int)<(f.drives.length:Nat):=by omega
  have:k=f.drives.length:=by omega
  subst this
  rw[← hT] at hH
  simp -implicitDefEqProofs only[go_sem,γ,δ,ε,ζ,η,θ,ι,κ,μ,ν,ξ,ο,ρ,σ,τ,υ,reduceIte,reduceCtorEq,hlt',atC]
  rcases hH.own 0 rfl with ⟨h1',rfl⟩ | ⟨q,rs,rfl,_⟩
  ·refine aW (vs:=[.nils]) (.inr rfl) (PH.nil.set o (aS v (hC l f a).2)) (by simp -implicitDefEqProofs only[go_sem,γ,δ,ε,ζ,η,θ,ι,κ,μ,ν,ξ,ο,ρ,σ,τ,υ,reduceIte,reduceCtorEq]) (PH.aA PH.nil_le (hH.at 0 rfl)) ?_
   rw[cN,hR]
   refine⟨?_,rfl⟩
   unfold ints
   rw[show (hC l f a).1.map (fun x=>[PV.int .i64 x])=[] from h1']
   exact .nil 1
  ·obtain⟨rs,g1,g2,g3,-,g4⟩:=hH.frz 0 rfl
   refine BI (vs:=[.osl q 1 0 (iiv (hC l f a).1).length]) (.inr rfl) (by simp -implicitDefEqProofs only[go_sem,γ,δ,ε,ζ,η,θ,ι,κ,μ,ν,ξ,ο,ρ,σ,τ,υ,reduceIte,reduceCtorEq]) (.step g1 (.done (H2:=PH.nil.set o (aS v (hC l f a).2)) ?_ (PH.aA PH.nil_le ?_)))
   ·rw[cN,g3,hR]
    exact⟨.refl _,rfl⟩
   ·have:=g4.at 0 rfl
    rw[this]
    simp only[bV.frz,biC,biV,T.frz]
    rfl
end Go.PM
namespace Go.PM
open Go Go.Na
abbrev kA (l:List (List Int)):List (List PV):=l.map fun r=>[ints r]
theorem a1E (l:List (List Int)):Flat (kA l):=lF fun r hr c hc=>by
 obtain⟨x,_,rfl⟩:=biA.1 hr
 rw[List.mem_singleton] at hc
 subst hc
 rfl
theorem aUY (l:List Nat) (drives at_ i:Nat) {a:Nat} (h:a≤l.length):(mA l drives at_ i a).2≤l.length:=by
 unfold mA
 split
 ·exact h
 ·have:=bC l 6 h
  simp only
  split
  ·exact bC l drives this
  ·split
   ·exact bC l (drives+1) this
   ·exact this
theorem vL (l:List Nat) (drives at_:Nat) {a:Nat} (h:a≤l.length):∀ k,(gZ l drives at_ a k).2≤l.length∧(gZ l drives at_ a k).1.length=k
 | 0=>⟨h,rfl⟩
 | k+1=>by
  obtain⟨h1,h2⟩:=vL l drives at_ h k
  exact⟨aUY l drives at_ k h1,by simp only[gZ,bgW,bhA,h2]⟩
theorem qF (l:List Nat) (f:aG) {a:Nat} (h:a≤l.length):∀ k,(cH l f a k).2≤l.length∧(cH l f a k).1.length=k
 | 0=>⟨h,rfl⟩
 | k+1=>by
  obtain⟨h1,h2⟩:=qF l f h k
  exact⟨(vL l _ _ (bC l _ h1) _).1,by simp only[cH,bgW,bhA,h2]⟩
def aVS (f:aG) (o:Nat) (w:PV) (i:Nat):PF:=((((PF.nil.set 0 (.ptr o 2 0 0)).set 3 (.rptr f.cells)).set 5 (w)).set 6 (.int .i64 i))
def gF (f:aG) (o:Nat) (w:PV) (i:Nat) (w7:PV) (at_ k:Nat):PF:=(((((((PF.nil.set 0 (.ptr o 2 0 0)).set 3 (.rptr f.cells)).set 5 (w)).set 6 (.int .i64 i)).set 7 (w7)).set 8 (.int .i64 at_)).set 9 (.int .i64 k))
def aVT:aD:=(.seq (.region DZ) (.seq (.seq (.region EA) (.cond (.tmp 34) (.seq (.region yT) (.seq (.region yU) (.block 4 (.seq (.region yV) (.cond (.tmp 44) (.region yW) (.seq (.region rW) (.cond (.tmp 51) (.region yX) .skip))))))) .skip)) (.region rX)))
theorem a1J:yS=.seq (.seq (.region DY) (.cond (.tmp 28) .skip (.exit 2))) (.seq (.block 3 aVT) (.region yY)):=rfl
theorem aVU {C:Ctx} (Lb:pN C) {l:List Nat} {v:PV} (T:Tp l v) (o:Nat) (f:aG) (hd:f.drives.length≤1000) (w w7:PV) (i at_ k a:Nat) (hat:at_≤2000) (hk:k≤2000) (ha:a≤l.length) (L:List LI) (Kk:bZ) (F:PF) (H:PH)
  (hF:(gF f o w i w7 at_ k).le F) (hH:aP H [(o,aS v a)] L)
  (hK:∀ F' H',(gF f o w i w7 at_ k).le F'→F' 10=some (.int .i64 (mA l f.drives.length at_ k a).1)→aP H' [(o,aS v (mA l f.drives.length at_ k a).2)] L→aD.wp C (.region rX) Kk F' H') :
  aD.wp C aVT Kk F H:=by
 unfold aVT
 have f0:F 0=some (.ptr o 2 0 0):=hF 0 _ (by unfold gF; simp -implicitDefEqProofs only[go_sem,γ,δ,ε,ζ,η,θ,ι,κ,μ,ν,ξ,ο,ρ,σ,τ,υ,reduceIte,reduceCtorEq])
 have f3:F 3=some (.rptr f.cells):=hF 3 _ (by unfold gF; simp -implicitDefEqProofs only[go_sem,γ,δ,ε,ζ,η,θ,ι,κ,μ,ν,ξ,ο,ρ,σ,τ,υ,reduceIte,reduceCtorEq])
 have f5:F 5=some w:=hF 5 _ (by unfold gF; simp -implicitDefEqProofs only[go_sem,γ,δ,ε,ζ,η,θ,ι,κ,μ,ν,ξ,ο,ρ,σ,τ,υ,reduceIte,reduceCtorEq])
 have f6:F 6=some (.int .i64 i):=hF 6 _ (by unfold gF; simp -implicitDefEqProofs only[go_sem,γ,δ,ε,ζ,η,θ,ι,κ,μ,ν,ξ,ο,ρ,σ,τ,υ,reduceIte,reduceCtorEq])
 have f7:F 7=some w7:=hF 7 _ (by unfold gF; simp -implicitDefEqProofs only[go_sem,γ,δ,ε,ζ,η,θ,ι,κ,μ,ν,ξ,ο,ρ,σ,τ,υ,reduceIte,reduceCtorEq])
 have f8:F 8=some (.int .i64 at_):=hF 8 _ (by unfold gF; simp -implicitDefEqProofs only[go_sem,γ,δ,ε,ζ,η,θ,ι,κ,μ,ν,ξ,ο,ρ,σ,τ,υ,reduceIte,reduceCtorEq])
 have f9:F 9=some (.int .i64 k):=hF 9 _ (by unfold gF; simp -implicitDefEqProofs only[go_sem,γ,δ,ε,ζ,η,θ,ι,κ,μ,ν,ξ,ο,ρ,σ,τ,υ,reduceIte,reduceCtorEq])
 have hle:∀ F':PF,F' 0=some (.ptr o 2 0 0)→F' 3=some (.rptr f.cells)→F' 5=some w→F' 6=some (.int .i64 i)→F' 7=some w7→F' 8=some (.int .i64 at_)→F' 9=some (.int .i64 k)→(gF f o w i w7 at_ k).le F':=fun F' a0 a3 a5 a6 a7 a8 a9=>by
  unfold gF
  (repeat' (first|exact PF.nil_le|refine PF.aA ?_ ?_))<;>first|(simp -implicitDefEqProofs only[go_sem,γ,δ,ε,ζ,η,θ,ι,κ,μ,ν,ξ,ο,ρ,σ,τ,υ,reduceIte,reduceCtorEq,a0,a3,a5,a6,a7,a8,a9]<;>rfl)|rfl
 have hT:mA l f.drives.length at_ k a=if f.drives.length=0 then (-1,a) else if (aC l 6 a).1=0 then (((aC l f.drives.length (aC l 6 a).2).1:Int),(aC l f.drives.length (aC l 6 a).2).2) else if (aC l 6 a).1=1 then (((aC l (f.drives.length+1) (aC l 6 a).2).1:Int)-1,(aC l (f.drives.length+1) (aC l 6 a).2).2) else ((((at_+k)%f.drives.length:Nat):Int),(aC l 6 a).2):=rfl
 simp -implicitDefEqProofs only[go_sem,γ,δ,ε,ζ,η,θ,ι,κ,μ,ν,ξ,ο,ρ,σ,τ,υ,reduceIte,reduceCtorEq,DZ,EA,f3,bgT]
 by_cases h0:f.drives.length=0
 ·rw[if_pos h0] at hT
  have h0':¬ ((f.drives.length:Nat):Int)>0:=by omega
  simp -implicitDefEqProofs only[go_sem,γ,δ,ε,ζ,η,θ,ι,κ,μ,ν,ξ,ο,ρ,σ,τ,υ,reduceIte,reduceCtorEq,h0']
  refine hK _ _ (hle _ (by simp -implicitDefEqProofs only[go_sem,γ,δ,ε,ζ,η,θ,ι,κ,μ,ν,ξ,ο,ρ,σ,τ,υ,reduceIte,reduceCtorEq,f0]) (by simp -implicitDefEqProofs only[go_sem,γ,δ,ε,ζ,η,θ,ι,κ,μ,ν,ξ,ο,ρ,σ,τ,υ,reduceIte,reduceCtorEq,f3]) (by simp -implicitDefEqProofs only[go_sem,γ,δ,ε,ζ,η,θ,ι,κ,μ,ν,ξ,ο,ρ,σ,τ,υ,reduceIte,reduceCtorEq,f5]) (by simp -implicitDefEqProofs only[go_sem,γ,δ,ε,ζ,η,θ,ι,κ,μ,ν,ξ,ο,ρ,σ,τ,υ,reduceIte,reduceCtorEq,f6]) (by simp -implicitDefEqProofs only[go_sem,γ,δ,ε,ζ,η,θ,ι,κ,μ,ν,ξ,ο,ρ,σ,τ,υ,reduceIte,reduceCtorEq,f7]) (by simp -implicitDefEqProofs only[go_sem,γ,δ,ε,ζ,η,θ,ι,κ,μ,ν,ξ,ο,ρ,σ,τ,υ,reduceIte,reduceCtorEq,f8]) (by simp -implicitDefEqProofs only[go_sem,γ,δ,ε,ζ,η,θ,ι,κ,μ,ν,ξ,ο,ρ,σ,τ,υ,reduceIte,reduceCtorEq,f9])) ?_ ?_
  ·rw[hT]; simp -implicitDefEqProofs only[go_sem,γ,δ,ε,ζ,η,θ,ι,κ,μ,ν,ξ,ο,ρ,σ,τ,υ,reduceIte,reduceCtorEq]
  ·rw[hT]; exact hH
 rw[if_neg h0] at hT
 have h0':((f.drives.length:Nat):Int)>0:=by omega
 have e1:IntKind.i64.wrap ((at_:Int)+(k:Int))=((at_+k:Nat):Int):=by rw[wrap_i64 (by omega) (by omega)]; omega
 have na:=bC l 6 ha
 have nlt:=bM l (show 0<6 by decide) a
 have hz:¬ ((f.drives.length:Nat):Int)=0:=by omega
 have em:Int.tmod ((at_+k:Nat):Int) (f.drives.length:Nat)=(((at_+k)%f.drives.length:Nat):Int):=Int.ofNat_tmod _ _
 have e2:IntKind.i64.wrap ((f.drives.length:Int)+1)=((f.drives.length+1:Nat):Int):=aK (by omega)
 simp -implicitDefEqProofs only[go_sem,γ,δ,ε,ζ,η,θ,ι,κ,μ,ν,ξ,ο,ρ,σ,τ,υ,reduceIte,reduceCtorEq,h0',yT,f8,f9,f3,bgT,e1,hz,em,yU,f0]
 refine cD Lb T (o:=o) (n:=6) (a:=a) (by decide) ha (by simp -implicitDefEqProofs only[go_sem,γ,δ,ε,ζ,η,θ,ι,κ,μ,ν,ξ,ο,ρ,σ,τ,υ,reduceIte,reduceCtorEq,f0]; rfl) (hH.at 0 rfl) ?_
 have h1:=hH.set 0 rfl (aS v (aC l 6 a).2)
 generalize aC l 6 a=t at *
 simp -implicitDefEqProofs only[go_sem,γ,δ,ε,ζ,η,θ,ι,κ,μ,ν,ξ,ο,ρ,σ,τ,υ,reduceIte,reduceCtorEq,yV]
 by_cases c0:t.1=0
 ·rw[if_pos c0] at hT
  simp -implicitDefEqProofs only[go_sem,γ,δ,ε,ζ,η,θ,ι,κ,μ,ν,ξ,ο,ρ,σ,τ,υ,reduceIte,reduceCtorEq,bS (show ((t.1:Nat):Int)=0 by omega),yW,f0,f3,bgT]
  refine cD Lb T (o:=o) (n:=f.drives.length) (a:=t.2) (by omega) na (by simp -implicitDefEqProofs only[go_sem,γ,δ,ε,ζ,η,θ,ι,κ,μ,ν,ξ,ο,ρ,σ,τ,υ,reduceIte,reduceCtorEq,f0]) (h1.at 0 rfl) ?_
  have h2:=h1.set 0 rfl (aS v (aC l f.drives.length t.2).2)
  rw[PH.set_set] at h2
  simp -implicitDefEqProofs only[go_sem,γ,δ,ε,ζ,η,θ,ι,κ,μ,ν,ξ,ο,ρ,σ,τ,υ,reduceIte,reduceCtorEq]
  refine hK _ _ (hle _ (by simp -implicitDefEqProofs only[go_sem,γ,δ,ε,ζ,η,θ,ι,κ,μ,ν,ξ,ο,ρ,σ,τ,υ,reduceIte,reduceCtorEq,f0]) (by simp -implicitDefEqProofs only[go_sem,γ,δ,ε,ζ,η,θ,ι,κ,μ,ν,ξ,ο,ρ,σ,τ,υ,reduceIte,reduceCtorEq,f3]) (by simp -implicitDefEqProofs only[go_sem,γ,δ,ε,ζ,η,θ,ι,κ,μ,ν,ξ,ο,ρ,σ,τ,υ,reduceIte,reduceCtorEq,f5]) (by simp -implicitDefEqProofs only[go_sem,γ,δ,ε,ζ,η,θ,ι,κ,μ,ν,ξ,ο,ρ,σ,τ,υ,reduceIte,reduceCtorEq,f6]) (by simp -implicitDefEqProofs only[go_sem,γ,δ,ε,ζ,η,θ,ι,κ,μ,ν,ξ,ο,ρ,σ,τ,υ,reduceIte,reduceCtorEq,f7]) (by simp -implicitDefEqProofs only[go_sem,γ,δ,ε,ζ,η,θ,ι,κ,μ,ν,ξ,ο,ρ,σ,τ,υ,reduceIte,reduceCtorEq,f8]) (by simp -implicitDefEqProofs only[go_sem,γ,δ,ε,ζ,η,θ,ι,κ,μ,ν,ξ,ο,ρ,σ,τ,υ,reduceIte,reduceCtorEq,f9])) ?_ ?_
  ·rw[hT]; simp -implicitDefEqProofs only[go_sem,γ,δ,ε,ζ,η,θ,ι,κ,μ,ν,ξ,ο,ρ,σ,τ,υ,reduceIte,reduceCtorEq]
  ·rw[hT]; exact h2
 rw[if_neg c0] at hT
 by_cases c1:t.1=1
 ·rw[if_pos c1] at hT
  have nd:=bM l (show 0<f.drives.length+1 by omega) t.2
  have e3:IntKind.i64.wrap (((aC l (f.drives.length+1) t.2).1:Int)-1)=((aC l (f.drives.length+1) t.2).1:Int)-1:=wrap_i64 (by omega) (by omega)
  simp -implicitDefEqProofs only[go_sem,γ,δ,ε,ζ,η,θ,ι,κ,μ,ν,ξ,ο,ρ,σ,τ,υ,reduceIte,reduceCtorEq,bF (show ((t.1:Nat):Int)≠0 by omega),rW,bS (show ((t.1:Nat):Int)=1 by omega),yX,f0,f3,bgT,e2]
  refine cD Lb T (o:=o) (n:=f.drives.length+1) (a:=t.2) (by omega) na (by simp -implicitDefEqProofs only[go_sem,γ,δ,ε,ζ,η,θ,ι,κ,μ,ν,ξ,ο,ρ,σ,τ,υ,reduceIte,reduceCtorEq,f0]) (h1.at 0 rfl) ?_
  have h2:=h1.set 0 rfl (aS v (aC l (f.drives.length+1) t.2).2)
  rw[PH.set_set] at h2
  simp -implicitDefEqProofs only[go_sem,γ,δ,ε,ζ,η,θ,ι,κ,μ,ν,ξ,ο,ρ,σ,τ,υ,reduceIte,reduceCtorEq,e3]
  refine hK _ _ (hle _ (by simp -implicitDefEqProofs only[go_sem,γ,δ,ε,ζ,η,θ,ι,κ,μ,ν,ξ,ο,ρ,σ,τ,υ,reduceIte,reduceCtorEq,f0]) (by simp -implicitDefEqProofs only[go_sem,γ,δ,ε,ζ,η,θ,ι,κ,μ,ν,ξ,ο,ρ,σ,τ,υ,reduceIte,reduceCtorEq,f3]) (by simp -implicitDefEqProofs only[go_sem,γ,δ,ε,ζ,η,θ,ι,κ,μ,ν,ξ,ο,ρ,σ,τ,υ,reduceIte,reduceCtorEq,f5]) (by simp -implicitDefEqProofs only[go_sem,γ,δ,ε,ζ,η,θ,ι,κ,μ,ν,ξ,ο,ρ,σ,τ,υ,reduceIte,reduceCtorEq,f6]) (by simp -implicitDefEqProofs only[go_sem,γ,δ,ε,ζ,η,θ,ι,κ,μ,ν,ξ,ο,ρ,σ,τ,υ,reduceIte,reduceCtorEq,f7]) (by simp -implicitDefEqProofs only[go_sem,γ,δ,ε,ζ,η,θ,ι,κ,μ,ν,ξ,ο,ρ,σ,τ,υ,reduceIte,reduceCtorEq,f8]) (by simp -implicitDefEqProofs only[go_sem,γ,δ,ε,ζ,η,θ,ι,κ,μ,ν,ξ,ο,ρ,σ,τ,υ,reduceIte,reduceCtorEq,f9])) ?_ ?_
  ·rw[hT]; simp -implicitDefEqProofs only[go_sem,γ,δ,ε,ζ,η,θ,ι,κ,μ,ν,ξ,ο,ρ,σ,τ,υ,reduceIte,reduceCtorEq]
  ·rw[hT]; exact h2
 ·rw[if_neg c1] at hT
  simp -implicitDefEqProofs only[go_sem,γ,δ,ε,ζ,η,θ,ι,κ,μ,ν,ξ,ο,ρ,σ,τ,υ,reduceIte,reduceCtorEq,bF (show ((t.1:Nat):Int)≠0 by omega),rW,bF (show ((t.1:Nat):Int)≠1 by omega)]
  refine hK _ _ (hle _ (by simp -implicitDefEqProofs only[go_sem,γ,δ,ε,ζ,η,θ,ι,κ,μ,ν,ξ,ο,ρ,σ,τ,υ,reduceIte,reduceCtorEq,f0]) (by simp -implicitDefEqProofs only[go_sem,γ,δ,ε,ζ,η,θ,ι,κ,μ,ν,ξ,ο,ρ,σ,τ,υ,reduceIte,reduceCtorEq,f3]) (by simp -implicitDefEqProofs only[go_sem,γ,δ,ε,ζ,η,θ,ι,κ,μ,ν,ξ,ο,ρ,σ,τ,υ,reduceIte,reduceCtorEq,f5]) (by simp -implicitDefEqProofs only[go_sem,γ,δ,ε,ζ,η,θ,ι,κ,μ,ν,ξ,ο,ρ,σ,τ,υ,reduceIte,reduceCtorEq,f6]) (by simp -implicitDefEqProofs only[go_sem,γ,δ,ε,ζ,η,θ,ι,κ,μ,ν,ξ,ο,ρ,σ,τ,υ,reduceIte,reduceCtorEq,f7]) (by simp -implicitDefEqProofs only[go_sem,γ,δ,ε,ζ,η,θ,ι,κ,μ,ν,ξ,ο,ρ,σ,τ,υ,reduceIte,reduceCtorEq,f8]) (by simp -implicitDefEqProofs only[go_sem,γ,δ,ε,ζ,η,θ,ι,κ,μ,ν,ξ,ο,ρ,σ,τ,υ,reduceIte,reduceCtorEq,f9])) ?_ ?_
  ·rw[hT]; simp -implicitDefEqProofs only[go_sem,γ,δ,ε,ζ,η,θ,ι,κ,μ,ν,ξ,ο,ρ,σ,τ,υ,reduceIte,reduceCtorEq]
  ·rw[hT]; exact h1
theorem a1K {C:Ctx} (Lb:pN C) {l:List Nat} {v:PV} (T:Tp l v) (o:Nat) (f:aG) (hd:f.drives.length≤1000) (i n:Nat) (hn:n≤1000) (hfr:aJ C 82 [.agg f.cells,.int .i64 i] .nil (aL (.int .i64 n))) (w:PV) (R:List (List PV)) (at_ a:Nat) (hat:at_≤1000) (ha:a≤l.length) (K:bZ) (F:PF) (H:PH)
  (hF:(gF f o w i .nils at_ 0).le F) (hH:aP H [(o,aS v a)] [(w,1,R),(.nils,1,iiv [])])
  (hK:∀ w7 F' H',(gF f o w i w7 at_ n).le F'→aP H' [(o,aS v (gZ l f.drives.length at_ a n).2)] [(w,1,R),(w7,1,iiv (gZ l f.drives.length at_ a n).1)]→K (.exit 2) F' H') :
  aD.wp C (.loop yS) K F H:=by
 refine wp_loop (α:=Nat × PV × PH) (fun s=>gF f o w i s.2.1 at_ s.1) (fun s=>s.2.2) (fun s=>s.1≤n∧aP s.2.2 [(o,aS v (gZ l f.drives.length at_ a s.1).2)] [(w,1,R),(s.2.1,1,iiv (gZ l f.drives.length at_ a s.1).1)]) (fun s=>n-s.1) (0,.nils,H) ⟨bhE _,hH⟩ hF PH.le_refl ?_
 rintro⟨k,w7,H0⟩ ⟨hk,hH⟩
 simp only at hk hH ⊢
 obtain⟨k1,k2⟩:=vL l f.drives.length at_ ha k
 have hstep:gZ l f.drives.length at_ a (k+1)=((gZ l f.drives.length at_ a k).1++[(mA l f.drives.length at_ k (gZ l f.drives.length at_ a k).2).1],(mA l f.drives.length at_ k (gZ l f.drives.length at_ a k).2).2):=rfl
 generalize hs:gZ l f.drives.length at_ a k=s at *
 rw[a1J]
 simp -implicitDefEqProofs only[go_sem,γ,δ,ε,ζ,η,θ,ι,κ,μ,ν,ξ,ο,ρ,σ,τ,υ,reduceIte,reduceCtorEq,DY,gF]
 refine aB hfr (by simp -implicitDefEqProofs only[go_sem,γ,δ,ε,ζ,η,θ,ι,κ,μ,ν,ξ,ο,ρ,σ,τ,υ,reduceIte,reduceCtorEq]) ?_
 by_cases hlt:k<n
 ·have hlt':(k:Int)<(n:Nat):=by omega
  have h11:(1:Nat)*1≤16777216:=by decide
  simp -implicitDefEqProofs only[go_sem,γ,δ,ε,ζ,η,θ,ι,κ,μ,ν,ξ,ο,ρ,σ,τ,υ,reduceIte,reduceCtorEq,hlt']
  refine aVU (C:=C) Lb T o f hd w w7 i at_ k s.2 (by omega) (by omega) k1 _ _ _ _ (by unfold gF; (repeat' (first|exact PF.nil_le|refine PF.aA ?_ ?_))<;>first|(simp -implicitDefEqProofs only[go_sem,γ,δ,ε,ζ,η,θ,ι,κ,μ,ν,ξ,ο,ρ,σ,τ,υ,reduceIte,reduceCtorEq]<;>rfl)|rfl) hH ?_
  intro F1 H1 hF1 f10 h1
  have f0:F1 0=some (.ptr o 2 0 0):=hF1 0 _ (by unfold gF; simp -implicitDefEqProofs only[go_sem,γ,δ,ε,ζ,η,θ,ι,κ,μ,ν,ξ,ο,ρ,σ,τ,υ,reduceIte,reduceCtorEq])
  have f3:F1 3=some (.rptr f.cells):=hF1 3 _ (by unfold gF; simp -implicitDefEqProofs only[go_sem,γ,δ,ε,ζ,η,θ,ι,κ,μ,ν,ξ,ο,ρ,σ,τ,υ,reduceIte,reduceCtorEq])
  have f5:F1 5=some w:=hF1 5 _ (by unfold gF; simp -implicitDefEqProofs only[go_sem,γ,δ,ε,ζ,η,θ,ι,κ,μ,ν,ξ,ο,ρ,σ,τ,υ,reduceIte,reduceCtorEq])
  have f6:F1 6=some (.int .i64 i):=hF1 6 _ (by unfold gF; simp -implicitDefEqProofs only[go_sem,γ,δ,ε,ζ,η,θ,ι,κ,μ,ν,ξ,ο,ρ,σ,τ,υ,reduceIte,reduceCtorEq])
  have f7:F1 7=some w7:=hF1 7 _ (by unfold gF; simp -implicitDefEqProofs only[go_sem,γ,δ,ε,ζ,η,θ,ι,κ,μ,ν,ξ,ο,ρ,σ,τ,υ,reduceIte,reduceCtorEq])
  have f8:F1 8=some (.int .i64 at_):=hF1 8 _ (by unfold gF; simp -implicitDefEqProofs only[go_sem,γ,δ,ε,ζ,η,θ,ι,κ,μ,ν,ξ,ο,ρ,σ,τ,υ,reduceIte,reduceCtorEq])
  have f9:F1 9=some (.int .i64 k):=hF1 9 _ (by unfold gF; simp -implicitDefEqProofs only[go_sem,γ,δ,ε,ζ,η,θ,ι,κ,μ,ν,ξ,ο,ρ,σ,τ,υ,reduceIte,reduceCtorEq])
  simp -implicitDefEqProofs only[go_sem,γ,δ,ε,ζ,η,θ,ι,κ,μ,ν,ξ,ο,ρ,σ,τ,υ,reduceIte,reduceCtorEq,rX,f7,f10,h11]
  refine h1.append 1 (src:=[[PV.int .i64 (mA l f.drives.length at_ k s.2).1]]) rfl (by simp -implicitDefEqProofs only[go_sem,γ,δ,ε,ζ,η,θ,ι,κ,μ,ν,ξ,ο,ρ,σ,τ,υ,reduceIte,reduceCtorEq]) (by unfold roomFor; rw[bgT,k2]; simp only[bhA,maxLen]; omega) fun w' H' h' _=>?_
  simp -implicitDefEqProofs only[go_sem,γ,δ,ε,ζ,η,θ,ι,κ,μ,ν,ξ,ο,ρ,σ,τ,υ,reduceIte,reduceCtorEq,yY,f9,aK (show k<9223372036854775807 by omega)]
  refine aI (k+1,w',H') ⟨hlt,?_⟩ (by simp only; omega) ?_ PH.le_refl
  ·simp only
   rw[hstep]
   have:iiv (s.1++[(mA l f.drives.length at_ k s.2).1])=iiv s.1++[[PV.int .i64 (mA l f.drives.length at_ k s.2).1]]:=by simp[iiv]
   rw[this]
   exact h'
  ·(repeat' (first|exact PF.nil_le|refine PF.aA ?_ ?_))<;>first|(simp -implicitDefEqProofs only[go_sem,γ,δ,ε,ζ,η,θ,ι,κ,μ,ν,ξ,ο,ρ,σ,τ,υ,reduceIte,reduceCtorEq,f0,f3,f5,f6,f8]<;>rfl)|rfl
 ·have hlt':¬ (k:Int)<(n:Nat):=by omega
  have:k=n:=by omega
  subst this
  simp -implicitDefEqProofs only[go_sem,γ,δ,ε,ζ,η,θ,ι,κ,μ,ν,ξ,ο,ρ,σ,τ,υ,reduceIte,reduceCtorEq,hlt']
  refine hK w7 _ _ ?_ (by rw[hs]; exact hH)
  unfold gF
  (repeat' (first|exact PF.nil_le|refine PF.aA ?_ ?_))<;>first|(simp -implicitDefEqProofs only[go_sem,γ,δ,ε,ζ,η,θ,ι,κ,μ,ν,ξ,ο,ρ,σ,τ,υ,reduceIte,reduceCtorEq]<;>rfl)|rfl
def aAZ (l:List Nat) (v:PV) (o a:Nat) (f:aG) (r:PV) (H:PH):Prop:=Co r (lay (cH l f a f.volumes.length).1)∧H=PH.nil.set o (aS v (cH l f a f.volumes.length).2)
theorem aKZ {C:Ctx} (Lb:pN C) {l:List Nat} {v:PV} (T:Tp l v) (o a:Nat) (f:aG) (hV:VF f) (hfr:∀ i,i<f.volumes.length→aJ C 82 [.agg f.cells,.int .i64 i] .nil (aL (.int .i64 (fR f i)))) (ha:a≤l.length) :
  vM.wp C (aY BD.res (aAZ l v o a f)) (PF.args [.ptr o 2 0 0,.agg f.cells]) (PH.nil.set o (aS v a)):=by
 have hd:=hV.small.drives
 have hvl:=hV.small.volumes
 have h0:aP (PH.nil.set o (aS v a)) [(o,aS v a)] [(.nils,1,kA [])]:=(aP.nil.new (H:=PH.nil) rfl (aS v a)).qL 1
 have hR:∀ r H,aAZ l v o a f r H↔Co r (lay (cH l f a f.volumes.length).1)∧H=PH.nil.set o (aS v (cH l f a f.volumes.length).2):=fun _ _=>Iff.rfl
 simp -implicitDefEqProofs only[go_sem,γ,δ,ε,ζ,η,θ,ι,κ,μ,ν,ξ,ο,ρ,σ,τ,υ,reduceIte,reduceCtorEq,vM,XO,BD,XP,XQ]
 refine wp_loop (α:=Nat × PV × PH) (fun s=>aVS f o s.2.1 s.1) (fun s=>s.2.2) (fun s=>s.1≤f.volumes.length∧aP s.2.2 [(o,aS v (cH l f a s.1).2)] [(s.2.1,1,kA (cH l f a s.1).1)]) (fun s=>f.volumes.length-s.1) (0,.nils,_) ⟨bhE _,h0⟩ ?_ PH.le_refl ?_
 ·unfold aVS
  (repeat' (first|exact PF.nil_le|refine PF.aA ?_ ?_))<;>first|(simp -implicitDefEqProofs only[go_sem,γ,δ,ε,ζ,η,θ,ι,κ,μ,ν,ξ,ο,ρ,σ,τ,υ,reduceIte,reduceCtorEq]<;>rfl)|rfl
 rintro⟨i,w,H0⟩ ⟨hi,hH⟩
 simp only at hi hH ⊢
 obtain⟨k1,k2⟩:=qF l f ha i
 simp -implicitDefEqProofs only[go_sem,γ,δ,ε,ζ,η,θ,ι,κ,μ,ν,ξ,ο,ρ,σ,τ,υ,reduceIte,reduceCtorEq,OW,XR,aVS,bgT]
 by_cases hlt:i<f.volumes.length
 ·have hlt':(i:Int)<(f.volumes.length:Nat):=by omega
  obtain⟨hp,he⟩:=mN hV hlt
  have hpol:=hV.policy _ (bgY hp)
  rw[he] at hpol
  obtain⟨n,hn⟩:∃ n:Nat,fR f i=n:=⟨(fR f i).toNat,by unfold fR; omega⟩
  have hn1:1≤n∧n≤8:=by unfold fR at hn; omega
  have hfi:=hfr i hlt
  rw[hn] at hfi
  have hstep:cH l f a (i+1)=((cH l f a i).1++[(gZ l f.drives.length (aC l (f.drives.length+1) (cH l f a i).2).1 (aC l (f.drives.length+1) (cH l f a i).2).2 (fR f i).toNat).1],(gZ l f.drives.length (aC l (f.drives.length+1) (cH l f a i).2).1 (aC l (f.drives.length+1) (cH l f a i).2).2 (fR f i).toNat).2):=rfl
  rw[hn,bjT] at hstep
  generalize hs:cH l f a i=s at *
  have e2:IntKind.i64.wrap ((f.drives.length:Int)+1)=((f.drives.length+1:Nat):Int):=aK (by omega)
  have nl1:=bM l (show 0<f.drives.length+1 by omega) s.2
  have nl2:=bC l (f.drives.length+1) k1
  simp -implicitDefEqProofs only[go_sem,γ,δ,ε,ζ,η,θ,ι,κ,μ,ν,ξ,ο,ρ,σ,τ,υ,reduceIte,reduceCtorEq,hlt',XS,XT,bgT,e2]
  refine cD Lb T (o:=o) (n:=f.drives.length+1) (a:=s.2) (by omega) k1 (by simp -implicitDefEqProofs only[go_sem,γ,δ,ε,ζ,η,θ,ι,κ,μ,ν,ξ,ο,ρ,σ,τ,υ,reduceIte,reduceCtorEq]) (hH.at 0 rfl) ?_
  have h1:=(hH.set 0 rfl (aS v (aC l (f.drives.length+1) s.2).2)).qL 1
  generalize aC l (f.drives.length+1) s.2=t at *
  obtain⟨r1,r2⟩:=vL l f.drives.length t.1 nl2 n
  simp -implicitDefEqProofs only[go_sem,γ,δ,ε,ζ,η,θ,ι,κ,μ,ν,ξ,ο,ρ,σ,τ,υ,reduceIte,reduceCtorEq,XU]
  refine a1K (C:=C) Lb T o f (by omega) i n (by omega) hfi w (kA s.1) t.1 t.2 (by omega) nl2 _ _ _ (by unfold gF; (repeat' (first|exact PF.nil_le|refine PF.aA ?_ ?_))<;>first|(simp -implicitDefEqProofs only[go_sem,γ,δ,ε,ζ,η,θ,ι,κ,μ,ν,ξ,ο,ρ,σ,τ,υ,reduceIte,reduceCtorEq]<;>rfl)|rfl) h1 ?_
  intro w7 F1 H1 hF1 h2
  generalize hrow:gZ l f.drives.length t.1 t.2 n=row at *
  obtain⟨q,rfl⟩:=(h2.own 1 rfl).one (by rw[bgT]; omega)
  have f0:F1 0=some (.ptr o 2 0 0):=hF1 0 _ (by unfold gF; simp -implicitDefEqProofs only[go_sem,γ,δ,ε,ζ,η,θ,ι,κ,μ,ν,ξ,ο,ρ,σ,τ,υ,reduceIte,reduceCtorEq])
  have f3:F1 3=some (.rptr f.cells):=hF1 3 _ (by unfold gF; simp -implicitDefEqProofs only[go_sem,γ,δ,ε,ζ,η,θ,ι,κ,μ,ν,ξ,ο,ρ,σ,τ,υ,reduceIte,reduceCtorEq])
  have f5:F1 5=some w:=hF1 5 _ (by unfold gF; simp -implicitDefEqProofs only[go_sem,γ,δ,ε,ζ,η,θ,ι,κ,μ,ν,ξ,ο,ρ,σ,τ,υ,reduceIte,reduceCtorEq])
  have f6:F1 6=some (.int .i64 i):=hF1 6 _ (by unfold gF; simp -implicitDefEqProofs only[go_sem,γ,δ,ε,ζ,η,θ,ι,κ,μ,ν,ξ,ο,ρ,σ,τ,υ,reduceIte,reduceCtorEq])
  have f7:F1 7=some (.osl q 1 0 (iiv row.1).length):=hF1 7 _ (by unfold gF; simp -implicitDefEqProofs only[go_sem,γ,δ,ε,ζ,η,θ,ι,κ,μ,ν,ξ,ο,ρ,σ,τ,υ,reduceIte,reduceCtorEq])
  have h11:(1:Nat)*1≤16777216:=by decide
  simp -implicitDefEqProofs only[go_sem,γ,δ,ε,ζ,η,θ,ι,κ,μ,ν,ξ,ο,ρ,σ,τ,υ,reduceIte,reduceCtorEq,OX,f5,f7,h11]
  refine h2.append 0 (src:=[[.osl q 1 0 (iiv row.1).length]]) rfl (by simp -implicitDefEqProofs only[go_sem,γ,δ,ε,ζ,η,θ,ι,κ,μ,ν,ξ,ο,ρ,σ,τ,υ,reduceIte,reduceCtorEq]) (by unfold roomFor; rw[bgT,k2]; simp only[bhA,maxLen]; omega) fun w' H' h3 hw=>?_
  obtain⟨q',rfl⟩:=hw (by simp)
  obtain⟨rs,z1,z2,z3,z4,z5⟩:=h3.frz 1 rfl
  have y1:=z4 0 _ (by decide) rfl
  simp only at y1
  have y0:=T.frz q 1 rs
  have yf:PV.frz q 1 rs (PV.osl q' 1 0 (kA s.1++[[PV.osl q 1 0 (iiv row.1).length]]).length)=PV.osl q' 1 0 (kA s.1++[[PV.osl q 1 0 (iiv row.1).length]]).length:=y1
  simp -implicitDefEqProofs only[go_sem,γ,δ,ε,ζ,η,θ,ι,κ,μ,ν,ξ,ο,ρ,σ,τ,υ,reduceIte,reduceCtorEq,OY,f6,aK (show i<9223372036854775807 by omega)]
  refine IL (i+1,PV.osl q' 1 0 (kA s.1++[[PV.osl q 1 0 (iiv row.1).length]]).length,H'.frz q 1 rs) z1 ⟨hlt,?_⟩ (by simp only; omega) ?_ PH.le_refl
  ·simp only
   rw[hstep]
   have eB:([(o,aS v row.2)]:List BX).map (fun b=>(b.1,b.2.frz q 1 rs))=[(o,aS v row.2)]:=by
    show [(o,bV.rows 2 [[PV.cX q 1 rs v,.int .i64 row.2]])]=_
    rw[y0]
   have e5:(kA s.1++[[PV.osl q 1 0 (iiv row.1).length]]).map (fun r=>r.map (PV.cX q 1 rs))=kA (s.1++[row.1]):=by
    rw[biS,a1E]
    show kA s.1++[[PV.cX q 1 rs (.osl q 1 0 (iiv row.1).length)]]=_
    rw[z2]
    simp[kA]
   rw[← eB,← e5]
   exact z5
  ·have e7:(kA s.1++[[PV.osl q 1 0 (iiv row.1).length]]).length=(kA s.1++[[PV.osl q 1 0 row.1.length]]).length:=by simp
   rw[e7] at yf ⊢
   (repeat' (first|exact PF.nil_le|refine PF.aA ?_ ?_))<;>first|(simp -implicitDefEqProofs only[go_sem,γ,δ,ε,ζ,η,θ,ι,κ,μ,ν,ξ,ο,ρ,σ,τ,υ,reduceIte,reduceCtorEq,f0,f3,yf]<;>rfl)|rfl
 ·have hlt':¬ (i:Int)<(f.volumes.length:Nat):=by omega
  have:i=f.volumes.length:=by omega
  subst this
  simp -implicitDefEqProofs only[go_sem,γ,δ,ε,ζ,η,θ,ι,κ,μ,ν,ξ,ο,ρ,σ,τ,υ,reduceIte,reduceCtorEq,hlt',OZ]
  rcases hH.own 0 rfl with ⟨h1',rfl⟩ | ⟨q,rs,rfl,_⟩
  ·refine aW (vs:=[.nils]) (.inr rfl) (PH.nil.set o (aS v (cH l f a f.volumes.length).2)) (by simp -implicitDefEqProofs only[go_sem,γ,δ,ε,ζ,η,θ,ι,κ,μ,ν,ξ,ο,ρ,σ,τ,υ,reduceIte,reduceCtorEq]) (PH.aA PH.nil_le (hH.at 0 rfl)) ?_
   rw[cN,hR]
   refine⟨?_,rfl⟩
   unfold lay
   rw[show (cH l f a f.volumes.length).1.map (fun r=>[ints r])=[] from h1']
   exact .nil 1
  ·obtain⟨rs,g1,g2,g3,-,g4⟩:=hH.frz 0 rfl
   refine BI (vs:=[.osl q 1 0 (kA (cH l f a f.volumes.length).1).length]) (.inr rfl) (by simp -implicitDefEqProofs only[go_sem,γ,δ,ε,ζ,η,θ,ι,κ,μ,ν,ξ,ο,ρ,σ,τ,υ,reduceIte,reduceCtorEq]) (.step g1 (.done (H2:=PH.nil.set o (aS v (cH l f a f.volumes.length).2)) ?_ (PH.aA PH.nil_le ?_)))
   ·rw[cN,g3,hR]
    exact⟨.refl _,rfl⟩
   ·have:=g4.at 0 rfl
    rw[this]
    simp only[bV.frz,biC,biV,T.frz]
    rfl
end Go.PM
namespace Go.PM
open Go Go.Na
structure oV (C:Ctx):Prop extends UL C where
 new:∀ (l:List Nat),(∀ x∈l,x<256)→l.length≤9223372036854775807→aJ C 28 [.sl 1 (gK l)] .nil (alW l)
 tfleet:∀ (l:List Nat) (v:PV),Tp l v→∀ (o drives volumes a:Nat),drives≤60→volumes≤50→a≤l.length →
  aJ C 0 [.ptr o 2 0 0,.int .i64 drives,.int .i64 volumes] (PH.nil.set o (aS v a)) (fun r H=>r=.agg (fD l drives volumes a).1.cells∧H=PH.nil.set o (aS v (fD l drives volumes a).2))
 tlayout:∀ (l:List Nat) (v:PV),Tp l v→∀ (o a:Nat) (f:aG),VF f→a≤l.length→aJ C 3 [.ptr o 2 0 0,.agg f.cells] (PH.nil.set o (aS v a)) (fun r H=>r=lay (cH l f a f.volumes.length).1∧H=PH.nil.set o (aS v (cH l f a f.volumes.length).2))
 uC:∀ (l:List Nat) (v:PV),Tp l v→∀ (o a:Nat) (f:aG),f.drives.length≤1000→a≤l.length→aJ C 6 [.ptr o 2 0 0,.agg f.cells] (PH.nil.set o (aS v a)) (fun r H=>r=ints (hC l f a).1∧H=PH.nil.set o (aS v (hC l f a).2))
 roomM:∀ (f:aG) (room:List Int),f.Ok→aJ C 152 [.agg f.cells,ints room] .nil (gO 1 (cL (wV f room)))
theorem exactly {C:Ctx} {name:Nat} {args:List PV} {H H2:PH} {v:PV} (h:aJ C name args H (fun r H'=>Co r v∧H'=H2)):aJ C name args H (fun r H'=>r=v∧H'=H2) :=
 h.post fun r H' hr=>⟨_,hr.1,rfl,hr.2⟩
def fT (l:List Nat) (d v:Nat):aG:=(fD (l.take 400) d v 0).1
def faT (l:List Nat) (d v:Nat):Nat:=(fD (l.take 400) d v 0).2
def lT (l:List Nat) (d v:Nat):List (List Int):=(cH (l.take 400) (fT l d v) (faT l d v) (fT l d v).volumes.length).1
def laT (l:List Nat) (d v:Nat):Nat:=(cH (l.take 400) (fT l d v) (faT l d v) (fT l d v).volumes.length).2
def rT (l:List Nat) (d v:Nat):List Int:=(hC (l.take 400) (fT l d v) (laT l d v)).1
theorem HQ (l:List Nat) (drives volumes:Nat) {a:Nat} (h:a≤l.length):(fD l drives volumes a).2≤l.length:=by
 have ae:=bC l 2 h
 have alw:=bC l 2 ae
 obtain⟨alaws,-⟩:=DD l alw (1+(aC l 2 (aC l 2 a).2).1)
 have amd:=bC l 2 alaws
 obtain⟨amodels,-⟩:=tV l (1+(aC l 2 (aC l 2 a).2).1) amd (1+(aC l 2 (fL l (aC l 2 (aC l 2 a).2).2 (1+(aC l 2 (aC l 2 a).2).1)).2).1)
 obtain⟨hG,-⟩:=CS (mc:=1+(aC l 2 (fL l (aC l 2 (aC l 2 a).2).2 (1+(aC l 2 (aC l 2 a).2).1)).2).1) 4 0 (⟨by simp,bhE _,amodels⟩:GOk l drives ⟨[kE],[],_⟩)
 exact (AN l _ (bC l (volumes+1) (qQ l _ (bC l 2 hG.a) _).1) _).1
theorem aUX (l:List Nat) (drives at_ i a:Nat):-1≤(mA l drives at_ i a).1∧(mA l drives at_ i a).1<drives:=by
 unfold mA
 split
 ·simp only; omega
 ·rename_i h
  have h1:=bM l (show 0<drives by omega) (aC l 6 a).2
  have h2:=bM l (show 0<drives+1 by omega) (aC l 6 a).2
  have h3:=biB (at_+i) (show 0<drives by omega)
  simp only
  split
  ·simp only; omega
  ·split
   ·simp only; omega
   ·simp only; omega
theorem arK (l:List Nat) (drives at_ a:Nat):∀ k,∀ x∈(gZ l drives at_ a k).1,-1≤x∧x<drives
 | 0,x,h=>by cases h
 | k+1,x,h=>by
  rcases biO.1 h with h | h
  ·exact arK l drives at_ a k x h
  ·rw[List.mem_singleton] at h
   subst h
   exact aUX l drives at_ k _
structure tD (f:aG) (L:List (List Int)):Prop where
 len:L.length=f.volumes.length
 row:∀ v (h:v<L.length),((L[v].length:Nat):Int)=fR f v
 home:∀ r∈L,∀ x∈r,-1≤x∧x<f.drives.length
theorem aeR (l:List Nat) {f:aG} (hV:VF f) {a:Nat} (ha:a≤l.length):∀ k,k≤f.volumes.length→(cH l f a k).1.length=k∧(∀ v (h:v<(cH l f a k).1.length),(((cH l f a k).1[v].length:Nat):Int)=fR f v)∧∀ r∈(cH l f a k).1,∀ x∈r,-1≤x∧x<f.drives.length
 | 0,_=>⟨rfl,fun v h=>absurd h (by simp[cH]),fun r h=>by cases h⟩
 | k+1,hk=>by
  obtain⟨h1,h2,h3⟩:=aeR l hV ha k (by omega)
  obtain⟨hp,he⟩:=mN hV (show k<f.volumes.length by omega)
  have hpol:=hV.policy _ (bgY hp)
  rw[he] at hpol
  have hn:((fR f k).toNat:Int)=fR f k:=by unfold fR; omega
  have ha2:=(qF l f ha k).1
  have hr:=(vL l f.drives.length (aC l (f.drives.length+1) (cH l f a k).2).1 (bC l (f.drives.length+1) ha2) (fR f k).toNat).2
  have hi:=arK l f.drives.length (aC l (f.drives.length+1) (cH l f a k).2).1 (aC l (f.drives.length+1) (cH l f a k).2).2 (fR f k).toNat
  have hstep:(cH l f a (k+1)).1=(cH l f a k).1++[(gZ l f.drives.length (aC l (f.drives.length+1) (cH l f a k).2).1 (aC l (f.drives.length+1) (cH l f a k).2).2 (fR f k).toNat).1]:=rfl
  rw[hstep]
  generalize (gZ l f.drives.length (aC l (f.drives.length+1) (cH l f a k).2).1 (aC l (f.drives.length+1) (cH l f a k).2).2 (fR f k).toNat).1=row at *
  generalize (cH l f a k).1=L at *
  refine⟨by simp[h1],fun v h=>?_,fun r h=>?_⟩
  ·by_cases hv:v<L.length
   ·rw[List.getElem_append_left hv]; exact h2 v hv
   ·have hv2:v=k:=by simp at h; omega
    subst hv2
    rw[List.getElem_append_right (by omega)]
    simp only[h1,Nat.sub_self,List.getElem_cons_zero]
    rw[hr,hn]
  ·rcases biO.1 h with h | h
   ·exact h3 r h
   ·rw[List.mem_singleton] at h
    subst h
    exact hi
theorem tD.aYS {f:aG} {L:List (List Int)} (h:tD f L) (hV:VF f):∀ k,k≤L.length→(L.take k).flatten.length≤k*8:=by
 have hl:=h.len
 intro k
 induction k with
 | zero=>intro _; simp
 | succ k ih =>
  intro hk
  rw[sN L hk,bgW]
  have h1:=ih (by omega)
  have h2:=h.row k hk
  obtain⟨hp,he⟩:=mN hV (show k<f.volumes.length by omega)
  have hpol:=hV.policy _ (bgY hp)
  rw[he] at hpol
  unfold fR at h2
  omega
theorem tD.ok {f:aG} (hV:VF f) {L:List (List Int)} (h:tD f L):jP L:=by
 have hv:=hV.small.volumes
 have hl:=h.len
 have:=h.aYS hV L.length (bgX _)
 rw[bhZ] at this
 exact⟨by omega,by omega⟩
theorem bcU (l:List Nat) {d v:Nat} (hd:d≤24) (hv:v≤12):tD (fT l d v) (lT l d v):=by
 obtain⟨h1,h2,h3⟩:=aeR (l.take 400) (VF.of (mJ (l.take 400) d v 0 hd hv).1) (HQ (l.take 400) d v (bhE _)) (fT l d v).volumes.length (bgX _)
 exact⟨h1,h2,h3⟩
end Go.PM
namespace Go.PM
open Go
section
variable {C:Ctx} {F F':PF} {H:PH}
theorem cE (hle:F.le F') {x:aN} {v:PV} (h:x.ev F=some v):x.ev F'=some v:=by
 cases x
 ·exact hle _ _ h
 all_goals exact h
theorem UZ (hle:F.le F'):∀ {xs:List aN} {vs:List PV},aN.evs F xs=some vs→aN.evs F' xs=some vs
 | [],_,h=>h
 | x::xs,vs,h=>by
  rw[uZ] at h ⊢
  cases hx:x.ev F with
  | none=>simp[hx] at h
  | some v =>
   cases hs:aN.evs F xs with
   | none=>simp[hs] at h
   | some ws =>
    rw[hx,hs] at h
    rw[cE hle hx,UZ hle hs]
    exact h
theorem anE (hle:F.le F'):∀ {ps:List (Nat × Nat × aN)} {cs ds:List PV},mW cs F ps=some ds→mW cs F' ps=some ds
 | [],_,_,h=>h
 | (off,size,x)::ps,cs,ds,h=>by
  simp only[mW] at h ⊢
  cases hx:x.ev F with
  | none=>simp[hx] at h
  | some v =>
   rw[hx] at h
   rw[cE hle hx]
   simp only at h ⊢
   split at h
   ·rename_i hc; rw[if_pos hc]; exact anE hle h
   ·cases h
theorem xQ (hle:F.le F') {size:Nat}:∀ {ps:List (Nat × aN)} {cs ds:List (List PV)},fQ size cs F ps=some ds→fQ size cs F' ps=some ds
 | [],_,_,h=>h
 | (i,x)::ps,cs,ds,h=>by
  simp only[fQ] at h ⊢
  cases hx:x.ev F with
  | none=>simp[hx] at h
  | some v =>
   rw[hx] at h
   rw[cE hle hx]
   simp only at h ⊢
   split at h
   ·rename_i hc; rw[if_pos hc]; exact xQ hle h
   ·cases h
theorem HC (hle:F.le F') {d n:Int} {x:Option aN} (h:bnd F d x=some n):bnd F' d x=some n:=by
 cases x with
 | none=>exact h
 | some x =>
  simp only[bnd] at h ⊢
  cases hx:x.ev F with
  | none=>simp[hx] at h
  | some v=>rw[cE hle hx,← hx]; exact h
theorem avM {op:POp} {v:PV} (hle:F.le F') (h:aM op F H=some v):aM op F' H=some v:=by
 cases op
 case mv x=>exact cE hle h
 case pick c a b =>
  simp only[aM] at h ⊢
  cases hc:c.ev F with
  | none=>simp[hc] at h
  | some t =>
   rw[hc] at h
   rw[cE hle hc]
   cases t<;>simp only at h ⊢<;>try cases h
   rename_i t
   cases t
   ·simp only[bjZ,if_false] at h ⊢; exact cE hle h
   ·simp only[if_true] at h ⊢; exact cE hle h
 case same x =>
  simp only[aM] at h ⊢
  cases hx:x.ev F with
  | none=>simp[hx] at h
  | some a=>rw[cE hle hx,← hx]; exact h
 case un o x =>
  simp only[aM] at h ⊢
  cases hx:x.ev F with
  | none=>simp[hx] at h
  | some a=>rw[cE hle hx,← hx]; exact h
 case conv k x =>
  simp only[aM] at h ⊢
  cases hx:x.ev F with
  | none=>simp[hx] at h
  | some a=>rw[cE hle hx,← hx]; exact h
 case nilchk x =>
  simp only[aM] at h ⊢
  cases hx:x.ev F with
  | none=>simp[hx] at h
  | some a=>rw[cE hle hx,← hx]; exact h
 case fieldA o x =>
  simp only[aM] at h ⊢
  cases hx:x.ev F with
  | none=>simp[hx] at h
  | some a=>rw[cE hle hx,← hx]; exact h
 case field o n x =>
  simp only[aM] at h ⊢
  cases hx:x.ev F with
  | none=>simp[hx] at h
  | some a=>rw[cE hle hx,← hx]; exact h
 case lenStr x =>
  simp only[aM] at h ⊢
  cases hx:x.ev F with
  | none=>simp[hx] at h
  | some a=>rw[cE hle hx,← hx]; exact h
 case capNil x =>
  simp only[aM] at h ⊢
  cases hx:x.ev F with
  | none=>simp[hx] at h
  | some a=>rw[cE hle hx,← hx]; exact h
 case extract x i =>
  simp only[aM] at h ⊢
  cases hx:x.ev F with
  | none=>simp[hx] at h
  | some a=>rw[cE hle hx,← hx]; exact h
 case bytes2str x =>
  simp only[aM] at h ⊢
  cases hx:x.ev F with
  | none=>simp[hx] at h
  | some a=>rw[cE hle hx,← hx]; exact h
 case len x =>
  simp only[aM] at h ⊢
  cases hx:x.ev F with
  | none=>simp[hx] at h
  | some a=>rw[cE hle hx,← hx]; exact h
 case box r x =>
  cases r
  ·cases h
  simp only[aM] at h ⊢
  cases hx:x.ev F with
  | none=>simp[hx] at h
  | some a=>rw[cE hle hx,← hx]; exact h
 case load n p =>
  cases n
  all_goals
   simp only[aM] at h ⊢
   cases hx:p.ev F with
   | none=>simp[hx] at h
   | some a=>rw[cE hle hx,← hx]; exact h
 case bin o x y =>
  simp only[aM] at h ⊢
  cases hx:x.ev F with
  | none=>simp[hx] at h
  | some a =>
   cases hy:y.ev F with
   | none=>simp[hx,hy] at h
   | some b=>rw[cE hle hx,cE hle hy,← hx,← hy]; exact h
 case eqb n x y =>
  simp only[aM] at h ⊢
  cases hx:x.ev F with
  | none=>simp[hx] at h
  | some a =>
   cases hy:y.ev F with
   | none=>simp[hx,hy] at h
   | some b=>rw[cE hle hx,cE hle hy,← hx,← hy]; exact h
 case eqs n k x y =>
  simp only[aM] at h ⊢
  cases hx:x.ev F with
  | none=>simp[hx] at h
  | some a =>
   cases hy:y.ev F with
   | none=>simp[hx,hy] at h
   | some b=>rw[cE hle hx,cE hle hy,← hx,← hy]; exact h
 case idxS s x i =>
  simp only[aM] at h ⊢
  cases hx:x.ev F with
  | none=>simp[hx] at h
  | some a =>
   cases hy:i.ev F with
   | none=>simp[hx,hy] at h
   | some b=>rw[cE hle hx,cE hle hy,← hx,← hy]; exact h
 case idxA n s x i =>
  simp only[aM] at h ⊢
  cases hx:x.ev F with
  | none=>simp[hx] at h
  | some a =>
   cases hy:i.ev F with
   | none=>simp[hx,hy] at h
   | some b=>rw[cE hle hx,cE hle hy,← hx,← hy]; exact h
 case idxV n s g x i =>
  simp only[aM] at h ⊢
  cases hx:x.ev F with
  | none=>simp[hx] at h
  | some a =>
   cases hy:i.ev F with
   | none=>simp[hx,hy] at h
   | some b=>rw[cE hle hx,cE hle hy,← hx,← hy]; exact h
 case idxStr x i =>
  simp only[aM] at h ⊢
  cases hx:x.ev F with
  | none=>simp[hx] at h
  | some a =>
   cases hy:i.ev F with
   | none=>simp[hx,hy] at h
   | some b=>rw[cE hle hx,cE hle hy,← hx,← hy]; exact h
 case minmax m x y =>
  simp only[aM] at h ⊢
  cases hx:x.ev F with
  | none=>simp[hx] at h
  | some a =>
   cases hy:y.ev F with
   | none=>simp[hx,hy] at h
   | some b=>rw[cE hle hx,cE hle hy,← hx,← hy]; exact h
 case lookup sh z x k ok =>
  simp only[aM] at h ⊢
  cases hx:x.ev F with
  | none=>simp[hx] at h
  | some a =>
   cases hy:k.ev F with
   | none=>simp[hx,hy] at h
   | some b=>rw[cE hle hx,cE hle hy,← hx,← hy]; exact h
 case build z ps =>
  simp only[aM,bgZ] at h ⊢
  obtain⟨cs,h1,h2⟩:=h
  exact⟨cs,anE hle h1,h2⟩
 case bslice r s l z ps =>
  cases r
  ·cases h
  simp only[aM] at h ⊢
  split at h
  ·rename_i hc
   rw[if_pos hc]
   rw[bgZ] at h ⊢
   obtain⟨cs,h1,h2⟩:=h
   exact⟨cs,xQ hle h1,h2⟩
  ·cases h
 case mkfn n cs =>
  simp only[aM,bgZ] at h ⊢
  obtain⟨vs,h1,h2⟩:=h
  exact⟨vs,UZ hle h1,h2⟩
 case sliceA n s x lo hi mx =>
  cases lo<;>cases hi<;>cases mx<;>simp only[aM] at h ⊢<;>try cases h
  cases hx:x.ev F with
  | none=>simp[hx] at h
  | some a=>rw[cE hle hx,← hx]; exact h
 case sliceStr x lo hi =>
  simp only[aM] at h ⊢
  cases hx:x.ev F with
  | none=>simp[hx] at h
  | some a =>
   rw[hx] at h
   rw[cE hle hx]
   cases a<;>simp only at h ⊢<;>try cases h
   cases h1:bnd F 0 lo with
   | none=>simp[h1] at h
   | some l =>
    rename_i s
    cases h2:bnd F s.length hi with
    | none=>simp[h1,h2] at h
    | some u=>rw[HC hle h1,HC hle h2,← h1,← h2]; exact h
 case slice s x lo hi mx =>
  simp only[aM] at h ⊢
  cases hx:x.ev F with
  | none=>simp[hx] at h
  | some a =>
   rw[hx] at h
   rw[cE hle hx]
   have key:∀ (d:Int) (w:PV),(match bnd F 0 lo,bnd F d hi with
     | some a1,some a2=>match (generalizing:=false) mx with
      | none=>PV.slice s w a1 a2 none
      | some m=>(bnd F 0 (some m)).bind fun m=>PV.slice s w a1 a2 (some m)
     | _,_=>none)=some v→(match bnd F' 0 lo,bnd F' d hi with
     | some a1,some a2=>match (generalizing:=false) mx with
      | none=>PV.slice s w a1 a2 none
      | some m=>(bnd F' 0 (some m)).bind fun m=>PV.slice s w a1 a2 (some m)
     | _,_=>none)=some v:=by
    intro d w h
    cases h1:bnd F 0 lo with
    | none=>simp[h1] at h
    | some l =>
     cases h2:bnd F d hi with
     | none=>simp[h1,h2] at h
     | some u =>
      rw[h1,h2] at h
      rw[HC hle h1,HC hle h2]
      cases mx with
      | none=>exact h
      | some m =>
       simp only at h ⊢
       cases h3:bnd F 0 (some m) with
       | none=>simp[h3] at h
       | some q=>rw[HC hle h3,← h3]; exact h
   cases a<;>simp only at h ⊢<;>first | exact key _ _ h | cases h
 all_goals exact h
theorem amH {op:POp} {r:(Nat→PV) × bV} (hle:F.le F') (h:cJ op F=some r):cJ op F'=some r:=by
 cases op
 case box b x =>
  cases b
  ·simp only[cJ] at h ⊢
   cases hx:x.ev F with
   | none=>simp[hx] at h
   | some a=>rw[cE hle hx,← hx]; exact h
  ·cases h
 case bslice b s l z ps =>
  cases b
  ·simp only[cJ] at h ⊢
   split at h
   ·rename_i hc
    rw[if_pos hc]
    rw[bgZ] at h ⊢
    obtain⟨cs,h1,h2⟩:=h
    exact⟨cs,xQ hle h1,h2⟩
   ·cases h
  ·cases h
 case mkslice s b z l c =>
  simp only[cJ] at h ⊢
  cases hx:l.ev F with
  | none=>simp[hx] at h
  | some a =>
   cases hy:c.ev F with
   | none=>simp[hx,hy] at h
   | some b=>rw[cE hle hx,cE hle hy,← hx,← hy]; exact h
 all_goals exact h
theorem azV {op:POp} {K:PV→PH→Prop} (hle:F.le F') (h:bQ op F H K):bQ op F' H K:=by
 cases op
 case store n x y =>
  simp only[bQ] at h ⊢
  cases hx:x.ev F with
  | none=>simp[hx] at h
  | some a =>
   cases hy:y.ev F with
   | none=>simp[hx,hy] at h
   | some b=>rw[cE hle hx,cE hle hy]; rw[hx,hy] at h; exact h
 case append s b x y =>
  simp only[bQ] at h ⊢
  cases hx:x.ev F with
  | none=>simp[hx] at h
  | some a =>
   cases hy:y.ev F with
   | none=>simp[hx,hy] at h
   | some b=>rw[cE hle hx,cE hle hy]; rw[hx,hy] at h; exact h
 case mapset sh x y z =>
  simp only[bQ] at h ⊢
  cases hx:x.ev F with
  | none=>simp[hx] at h
  | some a =>
   cases hy:y.ev F with
   | none=>simp[hx,hy] at h
   | some b =>
    cases hz:z.ev F with
    | none=>simp[hx,hy,hz] at h
    | some c=>rw[cE hle hx,cE hle hy,cE hle hz]; rw[hx,hy,hz] at h; exact h
 case insert sh x y z =>
  simp only[bQ] at h ⊢
  cases hx:x.ev F with
  | none=>simp[hx] at h
  | some a =>
   cases hy:y.ev F with
   | none=>simp[hx,hy] at h
   | some b =>
    cases hz:z.ev F with
    | none=>simp[hx,hy,hz] at h
    | some c=>rw[cE hle hx,cE hle hy,cE hle hz]; rw[hx,hy,hz] at h; exact h
 all_goals exact h
theorem PF.a5L (hle:F.le F') (i:Nat) (v:PV):(F.set i v).le (F'.set i v):=by
 intro j u h
 rw[kW] at h ⊢
 split at h
 ·rename_i e; rw[if_pos e]; exact h
 ·rename_i e; rw[if_neg e]; exact hle j u h
theorem PF.vT (hle:F.le F') (d:Option Nat) (v:PV):(F.put d v).le (F'.put d v):=by
 cases d with
 | none=>exact hle
 | some d=>exact PF.a5L hle d v
theorem PF.a4O (hle:F.le F') (o s:Nat) (rs:List (List PV)):(F.frz o s rs).le (F'.frz o s rs):=by
 intro j u h
 rw[qB,bgZ] at h ⊢
 obtain⟨x,h1,h2⟩:=h
 exact⟨x,hle j x h1,h2⟩
theorem PF.le_trans {A B D:PF} (h:A.le B) (k:B.le D):A.le D:=fun i v hi=>k i v (h i v hi)
theorem gS.up {F1:PF} {H1:PH} (h:gS F H F1 H1):∀ {F':PF},F.le F'→∃ F1',gS F' H F1' H1∧F1.le F1':=by
 induction h with
 | refl F H=>exact fun {F'} hle=>⟨F',.refl _ _,hle⟩
 | step o ho _ ih =>
  intro F' hle
  obtain⟨F1',h1,h2⟩:=ih (PF.a4O hle o _ _)
  exact⟨F1',.step o ho h1,h2⟩
theorem US {name:Nat} {args:Option (List PV)} {d:Option Nat} {K1 K2:PF→PH→Prop} (hK:∀ F F' H,F.le F'→K1 F H→K2 F' H) (hle:F.le F') {args':Option (List PV)} (ha:∀ vs,args=some vs→args'=some vs) (h:pK C name args d K1 F H):pK C name args' d K2 F' H:=by
 obtain⟨vs,H0,R,h1,h2,h3,h4⟩:=h
 exact⟨vs,H0,R,ha _ h1,h2,h3,fun r H' a b=>hK _ _ _ (PF.vT hle d r) (h4 r H' a b)⟩
theorem arN {cs:List PV} {args:List aN} (hle:F.le F') (vs:List PV) (h:(aN.evs F args).map (·++cs)=some vs):(aN.evs F' args).map (·++cs)=some vs:=by
 rw[bgZ] at h ⊢
 obtain⟨x,h1,h2⟩:=h
 exact⟨x,UZ hle h1,h2⟩
theorem aBD {name:Nat} {args:List aN} {cs:List PV} {d:Option Nat} {K1 K2:PF→PH→Prop} (hK:∀ F F' H,F.le F'→K1 F H→K2 F' H) (hle:F.le F') (h:gC C name args cs d K1 F H):gC C name args cs d K2 F' H:=by
 rcases h with h | ⟨F1,H1,h1,h2⟩
 ·exact .inl (US hK hle (arN hle) h)
 ·obtain⟨F1',k1,k2⟩:=h1.up hle
  exact .inr ⟨F1',H1,k1,US hK k2 (arN k2) h2⟩
theorem JB {op:POp} {d:Option Nat} {K1 K2:PF→PH→Prop} (hK:∀ F F' H,F.le F'→K1 F H→K2 F' H) (hle:F.le F') (h:kG (cJ op F) d K1 F H):kG (cJ op F') d K2 F' H:=by
 obtain⟨mk,x,h1,h2⟩:=h
 exact⟨mk,x,amH hle h1,fun o ho=>hK _ _ _ (PF.vT hle d _) (h2 o ho)⟩
theorem abC {op:POp} {d:Option Nat} {K1 K2:PF→PH→Prop} (hK:∀ F F' H,F.le F'→K1 F H→K2 F' H) (hle:F.le F') (h:bN (aM op F H) d K1 F H):bN (aM op F' H) d K2 F' H:=by
 obtain⟨v,h1,h2⟩:=h
 exact⟨v,avM hle h1,hK _ _ _ (PF.vT hle d v) h2⟩
theorem alP {op:POp} {d:Option Nat} {K1 K2:PF→PH→Prop} (hK:∀ F F' H,F.le F'→K1 F H→K2 F' H) (hle:F.le F') (h:bQ op F H fun r H'=>K1 (F.put d r) H'):bQ op F' H fun r H'=>K2 (F'.put d r) H' :=
 azV hle (wH (fun v H' hh=>hK _ _ _ (PF.vT hle d v) hh) h)
theorem aYU {op:POp} {d:Option Nat} {K1 K2:PF→PH→Prop} (hK:∀ F F' H,F.le F'→K1 F H→K2 F' H) (hle:F.le F') (h:wpOp C op d K1 F H):wpOp C op d K2 F' H:=by
 cases op
 case call n a=>exact aBD hK hle h
 case callv x a =>
  obtain⟨n,cs,h1,h2⟩:=h
  exact⟨n,cs,cE hle h1,aBD hK hle h2⟩
 case box r x=>cases r<;>first | exact JB (op:=.box false x) hK hle h | exact abC (op:=.box true x) hK hle h
 case bslice r s l z ps=>cases r<;>first | exact JB (op:=.bslice false s l z ps) hK hle h | exact abC (op:=.bslice true s l z ps) hK hle h
 case alloc cs=>exact JB (op:=.alloc cs) hK hle h
 case mkslice s b z l c=>exact JB (op:=.mkslice s b z l c) hK hle h
 case mkmap sh=>exact JB (op:=.mkmap sh) hK hle h
 case store n x y=>exact alP (op:=.store n x y) hK hle h
 case append s b x y=>exact alP (op:=.append s b x y) hK hle h
 case mapset sh x y z=>exact alP (op:=.mapset sh x y z) hK hle h
 case insert sh x y z=>exact alP (op:=.insert sh x y z) hK hle h
 all_goals exact abC hK hle h
theorem JW {K1 K2:PF→PH→Prop} (hK:∀ F F' H,F.le F'→K1 F H→K2 F' H):∀ {ops:List bE} {F F':PF} {H:PH},F.le F'→wpOps C ops K1 F H→wpOps C ops K2 F' H
 | [],_,_,_,hle,h=>hK _ _ _ hle h
 | ⟨d,op,none⟩::rest,_,_,_,hle,h=>aYU (fun _ _ _ a b=>JW hK a b) hle h
 | ⟨d,op,some (t,want)⟩::rest,F,F',H,hle,h=>by
  rw[aAW] at h ⊢
  unfold sP at h
  split at h
  ·rename_i b hb
   rw[hle t _ hb]
   unfold sP
   simp only
   split at h
   ·rename_i e; rw[if_pos e]; exact aYU (fun _ _ _ a b=>JW hK a b) hle h
   ·rename_i e; rw[if_neg e]; exact JW hK (PF.vT hle d _) h
  ·rename_i hb
   rw[hle t _ hb]
   exact JW hK (PF.vT hle d _) h
  ·exact h.elim
theorem avE {Hs:PH} {S:Spec} {st:Bool} {op:POp} {K:PV→PH→Prop} (hle:F.le F') (h:(op.kind F).run C Hs S st K H):(op.kind F').run C Hs S st K H:=by
 have new:∀ op:POp,(Kind.new (cJ op F)).run C Hs S st K H→(Kind.new (cJ op F')).run C Hs S st K H:=fun op h=>by
  obtain⟨mk,x,h1,h2⟩:=h
  exact⟨mk,x,amH hle h1,h2⟩
 have calm:∀ op:POp,(Kind.calm (aM op F)).run C Hs S st K H→(Kind.calm (aM op F')).run C Hs S st K H:=fun op h=>by
  obtain⟨v,h1,h2⟩:=h
  exact⟨v,avM hle h1,h2⟩
 have wr:∀ op:POp,(Kind.write fun H K=>bQ op F H K).run C Hs S st K H→(Kind.write fun H K=>bQ op F' H K).run C Hs S st K H:=fun op h=>azV (op:=op) hle (show bQ op F H (fun r H'=>Hs.le H'∧K r H') from h)
 cases op
 case call n a =>
  obtain⟨vs,D,R,h1,h2⟩:=h
  exact⟨vs,D,R,UZ hle h1,h2⟩
 case callv x a =>
  unfold POp.kind at h ⊢
  simp only at h ⊢
  cases hx:x.ev F with
  | none=>rw[hx] at h; exact h.elim
  | some u =>
   rw[hx] at h
   rw[cE hle hx]
   cases u<;>simp only at h ⊢<;>first | exact h | skip
   obtain⟨vs,D,R,h1,h2⟩:=h
   exact⟨vs,D,R,arN hle _ h1,h2⟩
 case insert sh x k v =>
  obtain⟨o,sh',key,u,g,h1,h2⟩:=h
  refine⟨o,sh',key,u,g,?_,h2⟩
  cases hx:x.ev F with
  | none=>simp[hx] at h1
  | some a =>
   cases hy:k.ev F with
   | none=>simp[hx,hy] at h1
   | some b =>
    cases hz:v.ev F with
    | none=>simp[hx,hy,hz] at h1
    | some c=>rw[cE hle hx,cE hle hy,cE hle hz]; rw[hx,hy,hz] at h1; exact h1
 case box r x=>cases r<;>first | exact new (.box false x) h | exact calm (.box true x) h
 case bslice r s l z ps=>cases r<;>first | exact new (.bslice false s l z ps) h | exact calm (.bslice true s l z ps) h
 case alloc cs=>exact new (.alloc cs) h
 case mkslice s b z l c=>exact new (.mkslice s b z l c) h
 case mkmap sh=>exact new (.mkmap sh) h
 case store n x y=>exact wr (.store n x y) h
 case append s b x y=>exact wr (.append s b x y) h
 case mapset sh x y z=>exact wr (.mapset sh x y z) h
 all_goals exact calm _ h
theorem aVB {Hs:PH} {S:Spec} {st:Bool} {i:bE} {K:PV→PH→Prop} (hle:F.le F') (h:(i.kind F).run C Hs S st K H):(i.kind F').run C Hs S st K H:=by
 unfold bE.kind at h ⊢
 split
 ·rename_i hg
  rw[hg] at h
  exact avE hle h
 ·rename_i t want hg
  rw[hg] at h
  simp only at h
  split at h
  ·rename_i b hb
   rw[hle t _ hb]
   simp only
   split at h
   ·rename_i e; rw[if_pos e]; exact avE hle h
   ·rename_i e; rw[if_neg e]; exact h
  ·rename_i hb
   rw[hle t _ hb]
   exact h
  ·exact h.elim
theorem aTF {Hs:PH} {S:Spec} {K1 K2:PF→PH→Prop} (hK:∀ F F' H,F.le F'→K1 F H→K2 F' H):∀ {ops:List (bE × Bool)} {F F':PF} {H:PH},Hs.le H→F.le F'→wpD C Hs S ops K1 F H→wpD C Hs S ops K2 F' H
 | [],_,_,_,_,hle,h=>hK _ _ _ hle h
 | i::rest,F,F',H,hs,hle,h=>by
  have h1:(i.1.kind F).run C Hs S i.2 (fun v H'=>wpD C Hs S rest K1 (F.put i.1.dst v) H') H:=h
  exact aVB hle (Kind.oQ (oN _ _) (fun v H' hs' hh=>aTF hK hs' (PF.vT hle _ v) hh) hs h1)
class Up (K:bZ):Prop where
 up:∀ {e:kJ} {F F':PF} {H:PH},F.le F'→K e F H→K e F' H
theorem uI:∀ (c:aD) {K1 K2:bZ} (_:∀ e F F' H,F.le F'→K1 e F H→K2 e F' H) {F F':PF} {H:PH},F.le F'→c.wp C K1 F H→c.wp C K2 F' H
 | .skip,_,_,hK,_,_,_,hle,h=>hK _ _ _ _ hle h
 | .region ops,_,_,hK,_,_,_,hle,h=>JW (hK .normal) hle h
 | .draw ops,_,_,hK,_,_,_,hle,⟨Hs,S,h1,h2⟩=>⟨Hs,S,h1,aTF (hK .normal) h1 hle h2⟩
 | .seq a b,K1,K2,hK,_,_,_,hle,h=>uI a (K1:=iZ C (b.wp C) K1) (K2:=iZ C (b.wp C) K2) (fun e F F' H hl hh=>by
   cases e with
   | normal=>exact uI b hK hl hh
   | exit id=>exact hK (.exit id) _ _ _ hl hh
   | ret=>exact hK .ret _ _ _ hl hh) hle h
 | .cond c a b,K1,K2,hK,F,F',H,hle,h=>by
  rw[aYL] at h ⊢
  unfold MJ at h
  split at h
  ·rename_i t ht
   rw[cE hle ht]
   unfold MJ
   simp only
   split at h
   ·rename_i e; rw[if_pos e]; exact uI a hK hle h
   ·rename_i e; rw[if_neg e]; exact uI b hK hle h
  ·exact h.elim
 | .block id c,K1,K2,hK,_,_,_,hle,h=>uI c (K1:=dY id K1) (K2:=dY id K2) (fun e F F' H hl hh=>by
   cases e with
   | normal=>exact hK .normal _ _ _ hl hh
   | exit j =>
    rw[xP] at hh ⊢
    split at hh
    ·rename_i e; rw[if_pos e]; exact hK .normal _ _ _ hl hh
    ·rename_i e; rw[if_neg e]; exact hK (.exit j) _ _ _ hl hh
   | ret=>exact hK .ret _ _ _ hl hh) hle h
 | .loop c,K1,K2,hK,F,F',H,hle,⟨α,Fs,Hs,Pr,m,a0,F1,H1,h1,h2,h3,h4,h5⟩=>by
  obtain⟨F1',k1,k2⟩:=h1.up hle
  refine⟨α,Fs,Hs,Pr,m,a0,F1',H1,k1,h2,PF.le_trans h3 k2,h4,fun a ha=>?_⟩
  refine uI c (K1:=eZ Fs Hs Pr m (m a) K1) (K2:=eZ Fs Hs Pr m (m a) K2) (fun e F F' H hl hh=>?_) PF.le_refl (h5 a ha)
  cases e with
  | normal =>
   obtain⟨b,F2,H2,z1,z2,z3,z4,z5⟩:=hh
   obtain⟨F2',y1,y2⟩:=z1.up hl
   exact⟨b,F2',H2,y1,z2,z3,PF.le_trans z4 y2,z5⟩
  | exit id=>exact hK (.exit id) _ _ _ hl hh
  | ret=>exact hK .ret _ _ _ hl hh
 | .exit id,_,_,hK,_,_,_,hle,h=>hK (.exit id) _ _ _ hle h
 | .ret,_,_,hK,_,_,_,hle,h=>hK .ret _ _ _ hle h
instance Up.seq {K:bZ} [Up K] (b:aD):Up (iZ C (b.wp C) K) where
 up {e} {F} {F'} {H} hl hh:=by
  cases e with
  | normal=>exact uI b (fun e F F' H a h=>Up.up a h) hl hh
  | exit id=>exact Up.up (K:=K) (e:=.exit id) hl hh
  | ret=>exact Up.up (K:=K) (e:=.ret) hl hh
instance Up.block {K:bZ} [Up K] (id:Nat):Up (dY id K) where
 up {e} {F} {F'} {H} hl hh:=by
  cases e with
  | normal=>exact Up.up (K:=K) (e:=.normal) hl hh
  | exit j =>
   rw[xP] at hh ⊢
   split at hh
   ·rename_i e; rw[if_pos e]; exact Up.up (K:=K) (e:=.normal) hl hh
   ·rename_i e; rw[if_neg e]; exact Up.up (K:=K) (e:=.exit j) hl hh
  | ret=>exact Up.up (K:=K) (e:=.ret) hl hh
instance Up.loop {K:bZ} [Up K] {α:Type} (Fs:α→PF) (Hs:α→PH) (Pr:α→Prop) (m:α→Nat) (n:Nat):Up (eZ Fs Hs Pr m n K) where
 up {e} {F} {F'} {H} hl hh:=by
  cases e with
  | normal =>
   obtain⟨b,F2,H2,z1,z2,z3,z4,z5⟩:=hh
   obtain⟨F2',y1,y2⟩:=z1.up hl
   exact⟨b,F2',H2,y1,z2,z3,PF.le_trans z4 y2,z5⟩
  | exit id=>exact Up.up (K:=K) (e:=.exit id) hl hh
  | ret=>exact Up.up (K:=K) (e:=.ret) hl hh
theorem a5I {H:PH} (hle:F.le F') {x:dD} {v:PV} (h:x.ev F H=some v):x.ev F' H=some v:=by
 cases x with
 | tmp t=>exact hle t v h
 | cell t n =>
  cases n<;>simp only[dD.ev] at h ⊢<;>(cases hx:F t with
   | none=>simp[hx] at h
   | some a=>rw[hle t a hx,← hx]; exact h)
theorem acY {H:PH} (hle:F.le F'):∀ {xs:List dD} {vs:List PV},dD.evs F H xs=some vs→dD.evs F' H xs=some vs
 | [],_,h=>h
 | x::xs,vs,h=>by
  rw[jO] at h ⊢
  cases hx:x.ev F H with
  | none=>simp[hx] at h
  | some v =>
   cases hs:dD.evs F H xs with
   | none=>simp[hs] at h
   | some ws =>
    rw[hx,hs] at h
    rw[a5I hle hx,acY hle hs]
    exact h
instance Up.ret (res:List dD) (R:PV→PH→Prop):Up (aY res R) where
 up {e} {F} {F'} {H} hl hh:=by
  cases e with
  | exit id=>exact hh
  | normal=>obtain⟨vs,h1,h2⟩:=hh; exact⟨vs,acY hl h1,h2⟩
  | ret=>obtain⟨vs,h1,h2⟩:=hh; exact⟨vs,acY hl h1,h2⟩
end
end Go.PM
namespace Go.PM
open Go Go.Na
section
variable {H:PH} {B:List BX} {L:List LI}
theorem aP.a5N (h:aP H B L) (i:Nat) {q s k d:Nat} {rows:List (List PV)} (hi:L[i]?=some (.osl q s 0 k,s,rows)) (hd:d<rows.length) (r:List PV) :
  ∃ rs,H q=some (.rows s rs)∧rs[d]?=rows[d]?∧d<rs.length∧aP (H.set q (.rows s (rs.set d r))) B (L.set i (.osl q s 0 k,s,rows.set d r)):=by
 obtain⟨rs,h1,h2,h3,h4⟩:=(h.own i hi).id rfl
 injection h2 with _ _ _ hk
 subst hk
 refine⟨rs,h1,?_,by omega,?_⟩
 ·conv=>rhs; rw[← h4]
  rw[bjO,if_pos hd]
 ·refine h.NI i hi (.inr ⟨q,rs.set d r,by rw[bjC],by rw[fS],by simpa using h3,?_⟩) (fun p hp=>.inl hp) fun p _ hp=>?_
  ·rw[bjC,List.take_set,h4]
  ·have:=hp q rfl
   rw[aV,if_neg this]
end
structure CE where
 tp:PV
 o:Nat
 L:List (List Int)
 w:PV
 q:Nat
def ccF (e:CE) (b:Bool) (v:Nat):PF:=((((((PF.nil.set 0 (e.tp)).set 4 (.ptr e.o 7 0 0)).set 5 (lay e.L)).set 6 (e.w)).set 7 (.bool b)).set 8 (.int .i64 v))
def crF (e:CE) (b:Bool) (v i:Nat):PF:=((((((((PF.nil.set 0 (e.tp)).set 4 (.ptr e.o 7 0 0)).set 5 (lay e.L)).set 6 (e.w)).set 7 (.bool b)).set 8 (.int .i64 v)).set 9 (.ptr e.q 17 0 0)).set 10 (.int .i64 i))
def cdF (e:CE) (b:Bool) (v i:Nat) (d:Int):PF:=(((((((((PF.nil.set 0 (e.tp)).set 4 (.ptr e.o 7 0 0)).set 5 (lay e.L)).set 6 (e.w)).set 7 (.bool b)).set 8 (.int .i64 v)).set 9 (.ptr e.q 17 0 0)).set 10 (.int .i64 i)).set 11 (.int .i64 d))
theorem vJ {L:List (List Int)} {v:Nat} {row:List Int} (h:L[v]?=some row):(L.map fun r=>[ints r])[v]?=some [ints row]:=by rw[biH,h]; rfl
theorem aTI {p:Int→Bool} {xs:List Int} {k:Nat} (h:k<xs.length) (b:Bool):((xs.take (k+1)).all p&&b)=((xs.take k).all p&&b&&p xs[k]):=by
 rw[biZ h,List.all_append]
 cases (xs.take k).all p<;>cases b<;>simp
theorem aZE {C:Ctx} (e:CE) (v i:Nat) (d:Int) (row:List Int) (hr:e.L[v]?=some row) (hi:i≤row.length) (hl:row.length≤1000) (b:Bool) (K:bZ) [Up K] (F:PF) (H:PH) (hF:((cdF e b v i d).set 12 (.int .i64 0)).le F)
  (hK:K (.exit 4) (cdF e ((row.take i).all (fun x=>x != d)&&b) v i d) H):aD.wp C (.loop xZ) K F H:=by
 refine wp_loop (α:=Nat) (fun k=>(cdF e ((row.take k).all (fun x=>x != d)&&b) v i d).set 12 (.int .i64 k)) (fun _=>H) (fun k=>k≤i) (fun k=>i-k) 0 (bhE _) hF PH.le_refl ?_
 intro k hk
 have fin:∀ F':PF,((cdF e ((row.take (k+1)).all (fun x=>x != d)&&b) v i d).set 12 (.int .i64 (k+1:Nat))).le F'→k<i→eZ (fun k=>(cdF e ((row.take k).all (fun x=>x != d)&&b) v i d).set 12 (.int .i64 k)) (fun _=>H) (fun k=>k≤i) (fun k=>i-k) (i-k) K .normal F' H :=
  fun F' h hlt=>aI (k+1) hlt (by omega) h PH.le_refl
 simp -implicitDefEqProofs only[go_sem,γ,reduceCtorEq,xZ,OE,cdF]
 by_cases hlt:k<i
 ·have hlt':(k:Int)<(i:Nat):=by omega
  have hk2:k<row.length:=by omega
  have hs:=aTI (p:=fun x=>x != d) hk2 b
  generalize hc:((row.take k).all (fun x=>x != d)&&b)=c at *
  cases c with
  | true =>
   simp -implicitDefEqProofs only[go_sem,γ,reduceCtorEq,hlt',yF,vJ hr,ints_at hk2,yG,aK (show k<9223372036854775807 by omega)]
   refine fin _ ?_ hlt
   rw[hs]
   unfold cdF
   (repeat' (first|exact PF.nil_le|refine PF.aA ?_ ?_))<;>first|(simp -implicitDefEqProofs only[go_sem,γ,reduceCtorEq,bhP]<;>rfl)|rfl
  | false =>
   simp -implicitDefEqProofs only[go_sem,γ,reduceCtorEq,hlt',yF,yG,aK (show k<9223372036854775807 by omega)]
   refine fin _ ?_ hlt
   rw[hs]
   unfold cdF
   (repeat' (first|exact PF.nil_le|refine PF.aA ?_ ?_))<;>first|(simp -implicitDefEqProofs only[go_sem,γ,reduceCtorEq,bhG]<;>rfl)|rfl
 ·have hlt':¬ (k:Int)<(i:Nat):=by omega
  have:k=i:=by omega
  subst this
  simp -implicitDefEqProofs only[go_sem,hlt']
  refine Up.up ?_ hK
  unfold cdF
  (repeat' (first|exact PF.nil_le|refine PF.aA ?_ ?_))<;>first|(simp -implicitDefEqProofs only[go_sem,γ,reduceCtorEq]<;>rfl)|rfl
theorem aZH {C:Ctx} (e:CE) (v i d:Nat) (f:aG) (hV:VF f) (hd:d<f.drives.length) (p:cG) (hl:p.models.length≤9223372036854775807) (b:Bool) (L:List LI) (K:bZ) [Up K] (F:PF) (H:PH) (hH:aP H [(e.o,.rows 7 [f.cells]),(e.q,.rows 17 [p.cells])] L)
  (hF:(((cdF e b v i d).set 13 (.bool false)).set 14 (.int .i64 0)).le F)
  (hK:K (.exit 6) ((cdF e b v i d).set 13 (.bool (p.models.contains (mdl f d:Nat)))) H):aD.wp C (.loop yA) K F H:=by
 refine wp_loop (α:=Nat) (fun k=>((cdF e b v i d).set 13 (.bool ((p.models.take k).contains (mdl f d:Nat)))).set 14 (.int .i64 k)) (fun _=>H) (fun k=>k≤p.models.length) (fun k=>p.models.length-k) 0 (bhE _) hF PH.le_refl ?_
 intro k hk
 have fin:∀ F':PF,(((cdF e b v i d).set 13 (.bool ((p.models.take (k+1)).contains (mdl f d:Nat)))).set 14 (.int .i64 (k+1:Nat))).le F'→k<p.models.length→eZ (fun k=>((cdF e b v i d).set 13 (.bool ((p.models.take k).contains (mdl f d:Nat)))).set 14 (.int .i64 k)) (fun _=>H) (fun k=>k≤p.models.length) (fun k=>p.models.length-k) (p.models.length-k) K .normal F' H :=
  fun F' h hlt=>aI (k+1) hlt (by omega) h PH.le_refl
 have h0:=hH.at 0 rfl
 have h1:=hH.at 1 rfl
 simp -implicitDefEqProofs only[go_sem,δ,γ,θ,reduceCtorEq,yA,OH,cdF,h1,bgT]
 by_cases hlt:k<p.models.length
 ·have hlt':(k:Int)<(p.models.length:Nat):=by omega
  have hs:=akR (d:=((mdl f d:Nat):Int)) hlt
  generalize (p.models.take k).contains ((mdl f d:Nat):Int)=c at *
  simp -implicitDefEqProofs only[go_sem,hlt']
  refine cA .nil dU PH.nil_le ?_
  cases c with
  | true =>
   simp -implicitDefEqProofs only[go_sem,γ,reduceCtorEq,yH,yI,aK (show k<9223372036854775807 by omega)]
   refine fin _ ?_ hlt
   rw[hs]
   unfold cdF
   (repeat' (first|exact PF.nil_le|refine PF.aA ?_ ?_))<;>first|(simp -implicitDefEqProofs only[go_sem,γ,reduceCtorEq,Bool.true_or]<;>rfl)|rfl
  | false =>
   simp -implicitDefEqProofs only[go_sem,δ,γ,θ,reduceCtorEq,yH,h0,h1,ints_at hlt,oW hd,hV.WP hd,yI,aK (show k<9223372036854775807 by omega)]
   refine fin _ ?_ hlt
   rw[hs]
   unfold cdF
   (repeat' (first|exact PF.nil_le|refine PF.aA ?_ ?_))<;>first|(simp -implicitDefEqProofs only[go_sem,γ,reduceCtorEq,Bool.false_or]<;>rfl)|rfl
 ·have hlt':¬ (k:Int)<(p.models.length:Nat):=by omega
  have:k=p.models.length:=by omega
  subst this
  simp -implicitDefEqProofs only[go_sem,hlt']
  refine Up.up ?_ hK
  rw[bhZ]
  unfold cdF
  (repeat' (first|exact PF.nil_le|refine PF.aA ?_ ?_))<;>first|(simp -implicitDefEqProofs only[go_sem,γ,reduceCtorEq]<;>rfl)|rfl
def nH (f:aG) (d lev x:Int):Bool:=decide (0≤x)&&(atP f x lev==atP f d lev)
def bcE (f:aG):Spec:=fun name vs=>match name,vs with
 | 147,[_,.int _ d,.int _ lev]=>some ([],fun _=>aL (.int .i64 (atP f d lev)))
 | _,_=>none
theorem aAA {p:Int→Bool} {xs:List Int} {k:Nat} (h:k<xs.length):(xs.take (k+1)).countP p=(xs.take k).countP p+if p xs[k] then 1 else 0:=by
 rw[biZ h,List.countP_append]
 by_cases hp:p xs[k]<;>simp[List.countP_cons,hp]
theorem aTR {C:Ctx} (Lb:oV C) (e:CE) (v i d lev:Nat) (f:aG) (hf:f.Ok) (row:List Int) (hr:e.L[v]?=some row) (hl:row.length≤1000) (b:Bool) (B:List BX) (L:List LI) (K:bZ) [Up K] (F:PF) (H:PH) (hH:aP H ((e.o,.rows 7 [f.cells])::B) L)
  (hF:((((cdF e b v i d).set 15 (.int .i64 lev)).set 16 (.int .i64 0)).set 17 (.int .i64 0)).le F)
  (hK:K (.exit 10) (((cdF e b v i d).set 15 (.int .i64 lev)).set 16 (.int .i64 (row.countP (nH f d lev):Nat))) H):aD.wp C (.loop yB) K F H:=by
 refine wp_loop (α:=Nat) (fun k=>(((cdF e b v i d).set 15 (.int .i64 lev)).set 16 (.int .i64 ((row.take k).countP (nH f d lev):Nat))).set 17 (.int .i64 k)) (fun _=>H) (fun k=>k≤row.length) (fun k=>row.length-k) 0 (bhE _) hF PH.le_refl ?_
 intro k hk
 have fin:∀ F':PF,((((cdF e b v i d).set 15 (.int .i64 lev)).set 16 (.int .i64 ((row.take (k+1)).countP (nH f d lev):Nat))).set 17 (.int .i64 (k+1:Nat))).le F'→k<row.length →
   eZ (fun k=>(((cdF e b v i d).set 15 (.int .i64 lev)).set 16 (.int .i64 ((row.take k).countP (nH f d lev):Nat))).set 17 (.int .i64 k)) (fun _=>H) (fun k=>k≤row.length) (fun k=>row.length-k) (row.length-k) K .normal F' H :=
  fun F' h hlt=>aI (k+1) hlt (by omega) h PH.le_refl
 have h0:=hH.at 0 rfl
 simp -implicitDefEqProofs only[go_sem,γ,reduceCtorEq,yB,OL,cdF,vJ hr,bgT]
 by_cases hlt:k<row.length
 ·have hlt':(k:Int)<(row.length:Nat):=by omega
  have hs:=aAA (p:=nH f d lev) hlt
  have hle:(row.take k).countP (nH f d lev)≤1000:=by
   have:=List.countP_le_length (p:=nH f d lev) (l:=row.take k)
   rw[bhJ] at this
   omega
  have hat:=Lb.at_ f hf
  have hsd:nH f d lev row[k]=(decide (0≤row[k])&&(atP f row[k] lev==atP f d lev)):=rfl
  generalize (row.take k).countP (nH f d lev)=c at *
  generalize hx:row[k]=x at *
  have hix:(row.map fun x=>[PV.int .i64 x])[k]?=some [.int .i64 x]:=by rw[← hx]; exact ints_at hlt
  simp -implicitDefEqProofs only[go_sem,hlt']
  refine cA (PH.nil.set e.o (.rows 7 [f.cells])) (bcE f) (PH.aA PH.nil_le h0) ?_
  by_cases h0x:x≥0
  ·rw[decide_eq_true (show 0≤x from h0x),bhP] at hsd
   simp -implicitDefEqProofs only[go_sem,δ,γ,reduceCtorEq,rR,vJ hr,hix,h0x,h0]
   refine cO rfl (hat x lev) rfl (PH.aA PH.nil_le h0) ?_
   simp -implicitDefEqProofs only[go_sem,δ,γ,reduceCtorEq,rR,vJ hr,hix,h0x,h0]
   refine cO rfl (hat d lev) rfl (PH.aA PH.nil_le h0) ?_
   rw[hsd] at hs
   cases hc:(atP f x lev==atP f d lev) with
   | true =>
    rw[hc,if_pos rfl] at hs
    simp -implicitDefEqProofs only[go_sem,γ,reduceCtorEq,hc,OM,aK (show c<9223372036854775807 by omega),rS,aK (show k<9223372036854775807 by omega)]
    refine fin _ ?_ hlt
    rw[hs]
    unfold cdF
    (repeat' (first|exact PF.nil_le|refine PF.aA ?_ ?_))<;>first|(simp -implicitDefEqProofs only[go_sem,γ,reduceCtorEq]<;>rfl)|rfl
   | false =>
    rw[hc,if_neg (by decide)] at hs
    simp -implicitDefEqProofs only[go_sem,γ,reduceCtorEq,hc,rS,aK (show k<9223372036854775807 by omega)]
    refine fin _ ?_ hlt
    rw[hs]
    unfold cdF
    (repeat' (first|exact PF.nil_le|refine PF.aA ?_ ?_))<;>first|(simp -implicitDefEqProofs only[go_sem,γ,reduceCtorEq,biP]<;>rfl)|rfl
  ·rw[decide_eq_false (show ¬ 0≤x from h0x),bhG] at hsd
   rw[hsd,if_neg (by decide)] at hs
   simp -implicitDefEqProofs only[go_sem,γ,reduceCtorEq,rR,vJ hr,hix,h0x,rS,aK (show k<9223372036854775807 by omega)]
   refine fin _ ?_ hlt
   rw[hs]
   unfold cdF
   (repeat' (first|exact PF.nil_le|refine PF.aA ?_ ?_))<;>first|(simp -implicitDefEqProofs only[go_sem,γ,reduceCtorEq,biP]<;>rfl)|rfl
 ·have hlt':¬ (k:Int)<(row.length:Nat):=by omega
  have:k=row.length:=by omega
  subst this
  simp -implicitDefEqProofs only[go_sem,hlt']
  refine Up.up ?_ hK
  rw[bhZ]
  unfold cdF
  (repeat' (first|exact PF.nil_le|refine PF.aA ?_ ?_))<;>first|(simp -implicitDefEqProofs only[go_sem,γ,reduceCtorEq]<;>rfl)|rfl
end Go.PM
namespace Go.PM
open Go Go.Na
theorem oA {k v:Int} {n:Nat} {p:Nat→Bool}:cF k v n p=[]↔∀ i,i<n→p i=false:=by
 unfold cF
 rw[List.map_eq_nil_iff,List.filter_eq_nil_iff]
 constructor
 ·intro h i hi
  have:=h i (biM.2 hi)
  simpa using this
 ·intro h i hi
  rw[h i (biM.1 hi)]
  decide
theorem aOF {f:aG} {l:List (List Int)} {room:List Int} (hv:cU f=true) (hl:l.length=f.volumes.length) :
  jJ f l room=true↔mX f l l.length=[]∧∀ d,d<f.drives.length→over f l room d=false:=by
 unfold jJ nJ aYX
 rw[hv,if_pos rfl,if_pos hl,bhP,decide_eq_true_eq,List.length_eq_zero_iff,List.append_eq_nil_iff,oA]
theorem NT {p:Int→Bool}:∀ {l:List Int} {i:Nat},(∀ x∈l,p x=false)→iE p l i=none
 | [],_,_=>rfl
 | y::t,i,h=>by
  rw[iE,h y (by simp),if_neg (by decide)]
  exact NT fun x hx=>h x (by simp[hx])
theorem tD.shape {f:aG} {L:List (List Int)} (h:tD f L) {v:Nat} (hv:v<L.length):kX f L v=none:=by
 have e:L.getD v []=L[v]:=by simp[bhQ,hv]
 unfold kX
 rw[e,if_pos (h.row v hv),NT]
 ·rfl
 ·intro x hx
  have:=h.home _ (bgY hv) x hx
  simp[pS]
  omega
def tF (f:aG) (p:cG) (row:List Int) (d:Int) (j:Nat):Bool:=decide (j=0)||(decide (p.spread j=0)||decide (((row.countP (nH f d j):Nat):Int)≤p.spread j))
def qC (f:aG) (p:cG) (row:List Int) (i:Nat):Bool :=
 decide (0≤row.getD i 0)&&((bhB 5).all (tF f p row (row.getD i 0))&&(p.models.contains ((mdl f (row.getD i 0).toNat:Nat):Int)&&(row.take i).all fun x=>x != row.getD i 0))
def lJ (f:aG) (p:cG) (row:List Int):Bool:=(bhB row.length).all (qC f p row)
theorem aND {f:aG} (hv:cU f=true) {x:Int} (h0:0≤x) (h1:x<f.drives.length) {j:Nat} (hj:j<5):atP f x j=(fO f x.toNat j:Nat):=by
 unfold atP
 rw[if_pos ⟨hv,h0,by omega,by omega,by omega⟩]
theorem aGU {f:aG} (hv:cU f=true) {d:Int} (hd0:0≤d) (hd1:d<f.drives.length) {row:List Int} (hr:∀ x∈row,x<f.drives.length) {j:Nat} (hj:j<5) {i:Nat} (hi:fO f d.toNat j=i) (hl:lvl f i=j) :
  row.countP (nH f d j)=row.countP (qD f i):=by
 refine List.countP_congr fun x hx=>?_
 unfold nH qD
 by_cases h0:0≤x
 ·rw[aND hv h0 (hr x hx) hj,aND hv hd0 hd1 hj,hl,hi]
  simp only[h0,decide_true,bhP,beq_iff_eq,decide_eq_true_eq]
  omega
 ·simp[h0]
theorem akX {row:List Int} (h:∀ i (hi:i<row.length),row[i] ∉ row.take i):row.Nodup:=by
 refine List.pairwise_iff_getElem.2 fun i j hi hj hij e=>h j hj ?_
 rw[← e]
 exact List.mem_take_iff_getElem.2 ⟨i,by omega,rfl⟩
theorem a2F {f:aG} (hv:cU f=true) {p:cG} (hp:∀ l,0≤p.spread l) (v:Nat) {row:List Int} (hr:∀ x∈row,-1≤x∧x<f.drives.length):oC f p v row=[]↔lJ f p row=true:=by
 have hV:=VF.of hv
 have gd:∀ i (h:i<row.length),row.getD i 0=row[i]:=fun i h=>by simp[bhQ,h]
 have gc:∀ d,d<f.drives.length→(dW f.drives.length row).getD d 0=(row.count (d:Int):Nat):=fun d h=>by simp[dW,bhQ,h]
 have gm:∀ i,i<f.domains.length→(dQ f row).getD i 0=kR f row i:=fun i h=>by simp[dQ,bhQ,h]
 unfold oC lJ
 rw[List.append_eq_nil_iff,List.append_eq_nil_iff,List.append_eq_nil_iff,oA,oA,oA,oA,bhW]
 constructor
 ·rintro⟨⟨⟨h2,h3⟩,h4⟩,h5⟩ i hi
  have hi:=biM.1 hi
  have a2:=h2 i hi
  have a4:=h4 i hi
  have hm:=bgY hi
  unfold home at a2
  unfold dT at a4
  unfold qC
  rw[gd i hi] at a2 a4 ⊢
  have hx:=hr _ hm
  generalize hd:row[i]=d at *
  have h0:0≤d:=by simpa using a2
  simp only[h0,decide_true,bhP,Bool.not_eq_false'] at a4 ⊢
  rw[a4,bhP,bhO]
  refine⟨bhW.2 fun j hj=>?_,bhW.2 fun x hx2=>?_⟩
  ·have hj:=biM.1 hj
   unfold tF
   by_cases j0:j=0
   ·simp[j0]
   by_cases s0:p.spread j=0
   ·simp[s0]
   obtain⟨k1,k2⟩:=aID hV (d:=d.toNat) (by omega) (lev:=(j:Int)) (by omega) (by omega)
   have a5:=h5 _ k1
   have hne:fO f d.toNat j≠0:=by
    intro e
    rw[e,hV.root.2.1] at k2
    omega
   have hs:=aGU hv h0 hx.2 (fun x h=>(hr x h).2) hj rfl k2
   unfold pT dN at a5
   rw[gm _ k1,k2,kR,if_neg hne,bjT] at a5
   have:=hp j
   rw[hs]
   simp only[Bool.and_eq_false_iff,decide_eq_false_iff_not] at a5
   simp only[Bool.or_eq_true,decide_eq_true_eq]
   omega
  ·have a3:=h3 d.toNat (by omega)
   unfold mD at a3
   rw[gc _ (by omega),Int.toNat_of_nonneg h0] at a3
   have e:row=row.take i++d::row.drop (i+1):=by rw[← hd,← biQ hi,bjE]
   have hc:row.count d=(row.take i).count d+((row.drop (i+1)).count d+1):=by
    conv=>lhs; rw[e]
    rw[List.count_append,List.count_cons_self]
   simp only[bne_iff_ne]
   rintro rfl
   have:=List.count_pos_iff.2 hx2
   rw[decide_eq_false_iff_not] at a3
   omega
 ·intro h
  have hk:∀ i (hi:i<row.length),0≤row[i]∧(∀ j,j<5→tF f p row row[i] j=true)∧p.models.contains ((mdl f row[i].toNat:Nat):Int)=true∧row[i] ∉ row.take i:=by
   intro i hi
   have:=h i (biM.2 hi)
   unfold qC at this
   rw[gd i hi] at this
   simp only[bhO,decide_eq_true_eq,bhW,biM,bne_iff_ne] at this
   exact⟨this.1,this.2.1,this.2.2.1,fun hm=>this.2.2.2 _ hm rfl⟩
  refine⟨⟨⟨fun i hi=>?_,fun d hd=>?_⟩,fun i hi=>?_⟩,fun i hi=>?_⟩
  ·unfold home
   rw[gd i hi,decide_eq_false_iff_not]
   have:=(hk i hi).1
   omega
  ·unfold mD
   rw[gc d hd,decide_eq_false_iff_not]
   have:=List.nodup_iff_count.1 (akX fun i hi=>(hk i hi).2.2.2) (d:Int)
   omega
  ·unfold dT
   rw[gd i hi,(hk i hi).2.2.1]
   simp
  ·unfold pT
   rw[gm i hi]
   unfold kR
   by_cases i0:i=0
   ·rw[if_pos i0]
    have:=hp (lvl f i).toNat
    unfold dN
    simp
    omega
   rw[if_neg i0]
   by_cases hc:row.countP (qD f i)=0
   ·rw[hc]
    have:=hp (lvl f i).toNat
    unfold dN
    simp
    omega
   obtain⟨x,hx,hin⟩:=List.countP_pos_iff.1 (show 0<row.countP (qD f i) by omega)
   obtain⟨k,hk1,rfl⟩:=biL hx
   obtain⟨g1,g2,g3,g4,g5⟩:=hV.dom i (by omega) hi
   have hj:((lvl f i).toNat:Int)=lvl f i:=by omega
   unfold qD at hin
   simp only[bhO,decide_eq_true_eq] at hin
   have hl:=(hk k hk1).2.1 (lvl f i).toNat (by omega)
   have hs:=aGU hv hin.1 (hr _ hx).2 (fun x h=>(hr x h).2) (j:=(lvl f i).toNat) (by omega) (i:=i) (by rw[hj]; exact hin.2) hj.symm
   unfold tF at hl
   rw[hs] at hl
   unfold dN
   simp only[Bool.or_eq_true,decide_eq_true_eq] at hl
   simp only[Bool.and_eq_false_iff,decide_eq_false_iff_not]
   omega
def fX (R xs:List Int):List Int:=(bhB R.length).map fun d=>R.getD d 0-((xs.count (d:Int):Nat):Int)
theorem EX (R xs:List Int):(fX R xs).length=R.length:=by simp[fX]
theorem aWX (R:List Int):fX R []=R:=bjH (by simp[fX]) fun i h1 h2=>by simp[fX,h2]
theorem a2M (R xs:List Int) {d:Nat} (h:d<R.length):(fX R xs)[d]'(by rw[EX]; exact h)=R[d]-((xs.count (d:Int):Nat):Int):=by simp[fX,h]
theorem a2N (R xs:List Int) {d:Nat} (h:d<R.length):(fX R xs).set d (R[d]-((xs.count (d:Int):Nat):Int)-1)=fX R (xs++[(d:Int)]):=by
 refine bjH (by simp[fX]) fun i h1 h2=>?_
 have hi:i<R.length:=by simpa [fX] using h2
 simp only[fX,List.getElem_set,biI,List.getElem_range,List.count_append]
 by_cases e:d=i
 ·subst e
  simp[hi]
  omega
 ·have:((d:Nat):Int)≠(i:Int):=by omega
  rw[if_neg e]
  simp[List.count_cons,this]
theorem aWY (R xs:List Int) {x:Int} (h:x<0):fX R (xs++[x])=fX R xs:=by
 refine bjH (by simp[fX]) fun i h1 h2=>?_
 simp only[fX,biI,List.getElem_range,List.count_append]
 have:x≠(i:Int):=by omega
 simp[List.count_cons,this]
def aBI (f:aG) (l:List (List Int)) (R:List Int):Bool:=(bhB R.length).all (fun d=>decide (0≤(fX R l.flatten).getD d 0))&&(bhB l.length).all fun v=>lJ f (eJ f v) (l.getD v [])
theorem aIU {f:aG} (hv:cU f=true) {l:List (List Int)} (hS:tD f l) (room:List Int):jJ f l room=aBI f l (fM f room):=by
 have hV:=VF.of hv
 refine Bool.eq_iff_iff.2 ?_
 rw[aOF hv hS.len]
 unfold aBI
 rw[bhO,bhW,bhW,sW]
 have e1:mX f l l.length=[]↔∀ x∈bhB l.length,lJ f (eJ f x) (l.getD x [])=true:=by
  unfold mX
  rw[List.flatMap_eq_nil_iff]
  refine forall_congr' fun v=>forall_congr' fun hm=>?_
  have hv2:=biM.1 hm
  unfold EM
  rw[hS.shape hv2]
  simp only
  have e:l.getD v []=l[v]:=by simp[bhQ,hv2]
  obtain⟨hp,he⟩:=mN hV (show v<f.volumes.length by rw[← hS.len]; exact hv2)
  have hpol:=hV.policy _ (bgY hp)
  rw[he] at hpol
  rw[e]
  exact a2F hv (fun l=>(hpol.2.2.2.2.2.2.1 l).1) v (hS.home _ (bgY hv2))
 rw[e1,and_comm]
 refine and_congr ?_ Iff.rfl
 refine forall_congr' fun d=>?_
 rw[biM]
 refine forall_congr' fun hd=>?_
 have h1:(gW f l).getD d 0=(l.flatten.count (d:Int):Nat):=by simp[gW,dW,bhQ,hd]
 have hd2:d<(fM f room).length:=by rw[sW]; exact hd
 have h2:(fX (fM f room) l.flatten).getD d 0=(fM f room).getD d 0-(l.flatten.count (d:Int):Nat):=by simp[fX,bhQ,hd2]
 unfold over
 rw[h1,h2,decide_eq_false_iff_not,decide_eq_true_eq]
 omega
end Go.PM
namespace Go.PM
open Go Go.Na
section
variable {H:PH} {B:List BX} {L:List LI} {s:Nat} {rows:List (List PV)}
theorem aP.a7Y (h:aP H B L) {r:PV} {H':PH} (m:gO s rows r H') (ha:jW H .nil H'):aP (H.over .nil H') B (L++[(r,s,rows)]):=by
 obtain⟨hO,hk⟩:=m.over ha
 have h1:=h.qL s
 have e:(L++[(PV.nils,s,([]:List (List PV)))]).set L.length (r,s,rows)=L++[(r,s,rows)]:=by
  rw[bjR _ _ (bgX _),Nat.sub_self]; rfl
 rw[← e]
 refine h1.NI L.length (v:=.nils) (s:=s) (rows:=[]) (by simp) hO (fun q hq=>.inr ?_) fun q hq _=>?_
 ·rcases m with ⟨-,rfl,-⟩ | ⟨p,rs,rfl,rfl,-⟩
  ·cases hq
  ·cases hq
   exact ha q (.rows s rs) (by rw[fS]) rfl
 ·obtain⟨x,hx⟩:=h1.BM hq
  rw[hx]; exact hk q x hx
theorem gO.some (s:Nat) (rows:List (List PV)) (G:PH):∃ r H',gO s rows r H'∧jW G .nil H':=by
 obtain⟨o,ho⟩:=G.fresh
 refine⟨.osl o s 0 rows.length,PH.nil.set o (.rows s rows),.inr ⟨o,rows,rfl,rfl,bgX _,bhZ⟩,fun q x hx _=>?_⟩
 rw[aV] at hx
 split at hx
 ·rename_i e; rw[e]; exact ho
 ·cases hx
end
theorem aIS {C:Ctx} (q:Nat) (b:Bool) (lev:Nat) (h1:1≤lev) (h5:lev<5) (n:Nat) (p:cG) (K:PF→PH→Prop) (F:PF) (H:PH) (hq:H q=some (.rows 17 [p.cells])) (f7:F 7=some (.bool b)) (f9:F 9=some (.ptr q 17 0 0)) (f15:F 15=some (.int .i64 lev)) (f16:F 16=some (.int .i64 n))
  (hK:∀ F':PF,F' 7=some (.bool ((decide (p.spread lev=0)||decide ((n:Int)≤p.spread lev))&&b))→(∀ j,j<161→j≠7→F' j=F j)→K F' H):wpOps C nY K F H:=by
 have hc:lev=1∨lev=2∨lev=3∨lev=4:=by omega
 have low:∀ (j:Nat),j<161→j≠161∧j≠162∧j≠163∧j≠164∧j≠165∧j≠166∧j≠167∧j≠168∧j≠169∧j≠170∧j≠171∧j≠172∧j≠173∧j≠174∧j≠175∧j≠176:=by omega
 have fin:∀ (F':PF) (c:Bool),F' 7=some (.bool c)→c=((decide (p.spread lev=0)||decide ((n:Int)≤p.spread lev))&&b)→(∀ j,j<161→j≠7→F' j=F j)→K F' H:=fun F' c h e g=>hK F' (by rw[h,e]) g
 cases b with
 | false =>
  simp -implicitDefEqProofs only[go_sem,γ,reduceCtorEq,nY,f7]
  refine fin _ false rfl (by rw[biF]) fun j hj hj2=>?_
  obtain⟨n1,n2,n3,n4,n5,n6,n7,n8,n9,n10,n11,n12,n13,n14,n15,n16⟩:=low j hj
  simp -implicitDefEqProofs only[go_sem,hj2,n1,n2,n3,n4,n5,n6,n7,n8,n9,n10,n11,n12,n13,n14,n15,n16]
 | true =>
  have l5:((lev:Nat):Int)<((5:Nat):Int):=by omega
  by_cases hz:p.spread lev=0
  ·have e0:=bS hz
   have ez:(true:Bool)=((decide (p.spread lev=0)||decide ((n:Int)≤p.spread lev))&&true):=by simp[hz]
   generalize ((decide (p.spread lev=0)||decide ((n:Int)≤p.spread lev))&&true)=c at *
   rcases hc with rfl | rfl | rfl | rfl
   all_goals
    simp only[cG.spread] at e0
    simp -implicitDefEqProofs only[go_sem,δ,γ,θ,ζ,nY,f7,f9,f15,f16,hq,l5,e0]
    refine fin _ true rfl ez fun j hj hj2=>?_
    obtain⟨n1,n2,n3,n4,n5,n6,n7,n8,n9,n10,n11,n12,n13,n14,n15,n16⟩:=low j hj
    simp -implicitDefEqProofs only[go_sem,hj2,n1,n2,n3,n4,n5,n6,n7,n8,n9,n10,n11,n12,n13,n14,n15,n16]
  ·have e0:=bF hz
   have ez:decide ((n:Int)≤p.spread lev)=((decide (p.spread lev=0)||decide ((n:Int)≤p.spread lev))&&true):=by simp[hz]
   generalize ((decide (p.spread lev=0)||decide ((n:Int)≤p.spread lev))&&true)=c at *
   rcases hc with rfl | rfl | rfl | rfl
   all_goals
    simp only[cG.spread] at e0 ez
    simp -implicitDefEqProofs only[go_sem,δ,γ,θ,ζ,reduceCtorEq,nY,f7,f9,f15,f16,hq,l5,e0]
    refine fin _ _ rfl ez fun j hj hj2=>?_
    obtain⟨n1,n2,n3,n4,n5,n6,n7,n8,n9,n10,n11,n12,n13,n14,n15,n16⟩:=low j hj
    simp -implicitDefEqProofs only[go_sem,hj2,n1,n2,n3,n4,n5,n6,n7,n8,n9,n10,n11,n12,n13,n14,n15,n16]
end Go.PM
namespace Go.PM
open Go Go.Na
theorem wJ {p:Nat→Bool} (k:Nat) (b:Bool):((bhB (k+1)).all p&&b)=(p k&&((bhB k).all p&&b)):=by
 rw[List.range_succ,List.all_append]
 cases (bhB k).all p<;>cases b<;>simp
theorem aZG {C:Ctx} (Lb:oV C) (e:CE) (v i d:Nat) (f:aG) (hf:f.Ok) (p:cG) (row:List Int) (hr:e.L[v]?=some row) (hl:row.length≤1000) (b:Bool) (L:List LI) (K:bZ) [Up K] (F:PF) (H:PH) (hH:aP H [(e.o,.rows 7 [f.cells]),(e.q,.rows 17 [p.cells])] L)
  (hF:((cdF e b v i d).set 15 (.int .i64 1)).le F)
  (hK:K (.exit 8) (cdF e ((bhB 5).all (tF f p row d)&&b) v i d) H):aD.wp C (.loop rQ) K F H:=by
 refine wp_loop (α:=Nat) (fun k=>(cdF e ((bhB k).all (tF f p row d)&&b) v i d).set 15 (.int .i64 k)) (fun _=>H) (fun k=>1≤k∧k≤5) (fun k=>5-k) 1 ⟨by decide,by decide⟩ hF PH.le_refl ?_
 rintro k ⟨hk0,hk⟩
 simp -implicitDefEqProofs only[go_sem,γ,reduceCtorEq,rQ,OI,cdF]
 by_cases hlt:k<5
 ·have hlt':(k:Int)<5:=by omega
  have hs:=wJ (p:=tF f p row d) k b
  generalize hc:((bhB k).all (tF f p row d)&&b)=c at *
  have hlv:tF f p row d k=(decide (p.spread k=0)||decide (((row.countP (nH f d k):Nat):Int)≤p.spread k)):=by
   unfold tF
   rw[decide_eq_false (show ¬ k=0 by omega),Bool.false_or]
  simp -implicitDefEqProofs only[go_sem,hlt',OJ,OK]
  refine aTR Lb e v i d k f hf row hr hl c _ L _ _ _ hH ?_ ?_
  ·unfold cdF
   (repeat' (first|exact PF.nil_le|refine PF.aA ?_ ?_))<;>first|(simp -implicitDefEqProofs only[go_sem,γ,reduceCtorEq]<;>rfl)|rfl
  simp -implicitDefEqProofs only[go_sem,γ,cdF]
  refine aIS e.q c k hk0 hlt _ p _ _ _ (hH.at 1 rfl) rfl rfl rfl rfl fun F2 g7 g=>?_
  rw[← hlv,← hs] at g7
  have q:∀ j,j<161→j≠7→F2 j=_:=g
  have f15':=q 15 (by decide) (by decide)
  simp -implicitDefEqProofs only [go_sem,Nat.reduceEqDiff,reduceIte] at f15'
  simp -implicitDefEqProofs only[go_sem,γ,ON,f15',aK (show k<9223372036854775807 by omega)]
  refine aI (k+1) ⟨by omega,hlt⟩ (by omega) ?_ PH.le_refl
  (repeat' (first|exact PF.nil_le|refine PF.aA ?_ ?_))<;>first|(simp -implicitDefEqProofs only[go_sem,γ,reduceCtorEq,g7,q 0 (by decide) (by decide),q 4 (by decide) (by decide),q 5 (by decide) (by decide),q 6 (by decide) (by decide),q 8 (by decide) (by decide),q 9 (by decide) (by decide),q 10 (by decide) (by decide),q 11 (by decide) (by decide)]<;>rfl)|rfl
 ·have hlt':¬ (k:Int)<5:=by omega
  have:k=5:=by omega
  subst this
  simp -implicitDefEqProofs only[go_sem,ε,hlt']
  refine Up.up ?_ hK
  unfold cdF
  (repeat' (first|exact PF.nil_le|refine PF.aA ?_ ?_))<;>first|(simp -implicitDefEqProofs only[go_sem,γ,reduceCtorEq]<;>rfl)|rfl
theorem aZI {C:Ctx} (Lb:oV C) (e:CE) (v:Nat) (f:aG) (hf:f.Ok) (hV:VF f) (p:cG) (hp:p.models.length≤9223372036854775807) (row:List Int) (hr:e.L[v]?=some row) (hl:row.length≤1000) (hrow:∀ x∈row,-1≤x∧x<f.drives.length) (R xs:List Int) (hR:R.length=f.drives.length) (hRs:∀ d (h:d<R.length),0≤R[d]∧R[d]≤1000) (hxs:xs.length≤1000) (b:Bool) (K:bZ) [Up K] (F:PF) (H:PH)
  (hH:aP H [(e.o,.rows 7 [f.cells]),(e.q,.rows 17 [p.cells])] [(e.w,1,cL (fX R xs))])
  (hF:(crF e b v 0).le F)
  (hK:∀ H',aP H' [(e.o,.rows 7 [f.cells])] [(e.w,1,cL (fX R (xs++row)))]→K (.exit 2) (ccF e (lJ f p row&&b) v) H'):aD.wp C (.loop yC) K F H:=by
 refine wp_loop (α:=Nat × PH) (fun s=>crF e ((bhB s.1).all (qC f p row)&&b) v s.1) (fun s=>s.2) (fun s=>s.1≤row.length∧aP s.2 [(e.o,.rows 7 [f.cells]),(e.q,.rows 17 [p.cells])] [(e.w,1,cL (fX R (xs++row.take s.1)))]) (fun s=>row.length-s.1) (0,H) ⟨bhE _,by rw[List.take_zero,biN]; exact hH⟩ hF PH.le_refl ?_
 rintro⟨k,H0⟩ ⟨hk,hH⟩
 simp only at hk hH ⊢
 have fin:∀ (F':PF) (H':PH),(crF e ((bhB (k+1)).all (qC f p row)&&b) v (k+1)).le F'→k<row.length→aP H' [(e.o,.rows 7 [f.cells]),(e.q,.rows 17 [p.cells])] [(e.w,1,cL (fX R (xs++row.take (k+1))))] →
   eZ (fun s:Nat × PH=>crF e ((bhB s.1).all (qC f p row)&&b) v s.1) (fun s=>s.2) (fun s=>s.1≤row.length∧aP s.2 [(e.o,.rows 7 [f.cells]),(e.q,.rows 17 [p.cells])] [(e.w,1,cL (fX R (xs++row.take s.1)))]) (fun s=>row.length-s.1) (row.length-k) K .normal F' H' :=
  fun F' H' h hlt hH'=>aI (k+1,H') ⟨hlt,hH'⟩ (by simp only; omega) h PH.le_refl
 simp -implicitDefEqProofs only[go_sem,γ,reduceCtorEq,yC,NY,crF,vJ hr,bgT]
 by_cases hlt:k<row.length
 ·have hlt':(k:Int)<(row.length:Nat):=by omega
  have hs:=wJ (p:=qC f p row) k b
  have hx:=hrow _ (bgY hlt)
  have hgd:row.getD k 0=row[k]:=by simp[bhQ,hlt]
  have hid:qC f p row k=(decide (0≤row.getD k 0)&&((bhB 5).all (tF f p row (row.getD k 0))&&(p.models.contains ((mdl f (row.getD k 0).toNat:Nat):Int)&&(row.take k).all fun x=>x != row.getD k 0))):=rfl
  have ht:xs++row.take (k+1)=(xs++row.take k)++[row[k]]:=by rw[biZ hlt,bhY]
  rw[hgd] at hid
  rw[ht] at fin
  generalize hc:((bhB k).all (qC f p row)&&b)=c at *
  have hix:(row.map fun x=>[PV.int .i64 x])[k]?=some [.int .i64 row[k]]:=ints_at hlt
  generalize hx2:row[k]=x at *
  simp -implicitDefEqProofs only[go_sem,γ,reduceCtorEq,hlt',NZ,vJ hr,hix,OA]
  by_cases h0:x<0
  ·rw[decide_eq_false (show ¬ 0≤x by omega),bhG] at hid
   rw[aWY R _ h0] at fin
   simp -implicitDefEqProofs only[go_sem,γ,reduceCtorEq,h0,OB,rU,aK (show k<9223372036854775807 by omega)]
   refine fin _ _ ?_ hlt hH
   rw[hs,hid,bhG]
   unfold crF
   (repeat' (first|exact PF.nil_le|refine PF.aA ?_ ?_))<;>first|(simp -implicitDefEqProofs only[go_sem,γ,reduceCtorEq]<;>rfl)|rfl
  ·obtain⟨d,rfl⟩:∃ d:Nat,x=d:=⟨x.toNat,by omega⟩
   have hd:d<f.drives.length:=by omega
   have hdR:d<R.length:=by omega
   have hdS:d<(fX R (xs++row.take k)).length:=by rw[EX]; exact hdR
   have hat:=a2M R (xs++row.take k) hdR
   have hin:=a2N R (xs++row.take k) hdR
   obtain⟨b1,b2⟩:=hRs d hdR
   have b3:(xs++row.take k).count (d:Int)≤2000:=by
    have:=List.count_le_length (a:=(d:Int)) (l:=xs++row.take k)
    rw[bgW,bhJ] at this
    omega
   rw[decide_eq_true (show (0:Int)≤d by omega),bhP,bjT] at hid
   obtain⟨q,hq⟩:=(hH.own 0 rfl).one (by rw[eD]; omega)
   have hH1:=hH
   rw[hq] at hH1
   obtain⟨rs,r1,r2,r3,r4⟩:=hH1.a5N 0 rfl (d:=d) (by rw[eD]; exact hdS) [.int .i64 (R[d]-((xs++row.take k).count (d:Int):Nat)-1)]
   rw[oO hdS,hat] at r2
   rw[mK,hin,← hq] at r4
   generalize hn:(xs++row.take k).count (d:Int)=n at *
   have hw:IntKind.i64.wrap (R[d]-(n:Int)-1)=R[d]-(n:Int)-1:=wrap_i64 (by omega) (by omega)
   have hdl:((d:Nat):Int)<((cL (fX R (xs++row.take k))).length:Nat):=by rw[eD]; omega
   simp -implicitDefEqProofs only[go_sem,γ,reduceCtorEq,h0,OC,hq,r1,r2,hw,hdl,bhS,OD]
   rw[← hq]
   refine aZE e v k d row hr (by omega) hl c _ _ _ ?_ ?_
   ·unfold cdF
    (repeat' (first|exact PF.nil_le|refine PF.aA ?_ ?_))<;>first|(simp -implicitDefEqProofs only[go_sem,γ,reduceCtorEq]<;>rfl)|rfl
   simp -implicitDefEqProofs only[go_sem,γ,cdF,OF,OG]
   refine aZH e v k d f hV hd p hp ((row.take k).all (fun x=>x != (d:Int))&&c) _ _ _ _ r4 ?_ ?_
   ·unfold cdF
    (repeat' (first|exact PF.nil_le|refine PF.aA ?_ ?_))<;>first|(simp -implicitDefEqProofs only[go_sem,γ,reduceCtorEq]<;>rfl)|rfl
   generalize hu:(row.take k).all (fun x=>x != (d:Int))=u at *
   generalize hm:p.models.contains ((mdl f d:Nat):Int)=m at *
   have hgo:aD.wp C (.seq (.region yK) (.block 8 (.loop rQ))) (dY 3 (iZ C (aD.wp C (.region rU)) (eZ (fun s:Nat × PH=>crF e ((bhB s.1).all (qC f p row)&&b) v s.1) (fun s=>s.2) (fun s=>s.1≤row.length∧aP s.2 [(e.o,.rows 7 [f.cells]),(e.q,.rows 17 [p.cells])] [(e.w,1,cL (fX R (xs++row.take s.1)))]) (fun s=>row.length-s.1) (row.length-k) K)))
     (cdF e (m&&(u&&c)) v k d) (H0.set q (.rows 1 (rs.set d [.int .i64 (R[d]-(n:Int)-1)]))):=by
    simp -implicitDefEqProofs only[go_sem,yK]
    refine aZG Lb e v k d f hf p row hr hl (m&&(u&&c)) _ _ _ _ r4 ?_ ?_
    ·(repeat' (first|exact PF.nil_le|refine PF.aA ?_ ?_))<;>first|(simp -implicitDefEqProofs only[go_sem,γ,reduceCtorEq,cdF]<;>rfl)|rfl
    simp -implicitDefEqProofs only[go_sem,γ,reduceCtorEq,cdF,rU,aK (show k<9223372036854775807 by omega)]
    refine fin _ _ ?_ hlt r4
    have:((bhB (k+1)).all (qC f p row)&&b)=((bhB 5).all (tF f p row d)&&(m&&(u&&c))):=by
     rw[hs,hid]
     simp only[Bool.and_assoc]
    rw[this]
    unfold crF
    (repeat' (first|exact PF.nil_le|refine PF.aA ?_ ?_))<;>first|(simp -implicitDefEqProofs only[go_sem,γ,reduceCtorEq]<;>rfl)|rfl
   clear hs hid
   generalize hcc:(u&&c)=cc at *
   cases cc with
   | true =>
    simp -implicitDefEqProofs only[go_sem,γ,reduceCtorEq,cdF,yJ]
    refine uI _ (fun _ _ _ _ a b=>Up.up a b) ?_ hgo
    rw[bjD]
    (repeat' (first|exact PF.nil_le|refine PF.aA ?_ ?_))<;>first|(simp -implicitDefEqProofs only[go_sem,γ,reduceCtorEq,cdF]<;>rfl)|rfl
   | false =>
    simp -implicitDefEqProofs only[go_sem,γ,reduceCtorEq,cdF,yJ]
    refine uI _ (fun _ _ _ _ a b=>Up.up a b) ?_ hgo
    rw[biF]
    (repeat' (first|exact PF.nil_le|refine PF.aA ?_ ?_))<;>first|(simp -implicitDefEqProofs only[go_sem,γ,reduceCtorEq,cdF]<;>rfl)|rfl
 ·have hlt':¬ (k:Int)<(row.length:Nat):=by omega
  have:k=row.length:=by omega
  subst this
  simp -implicitDefEqProofs only[go_sem,hlt']
  rw[bhZ] at hH
  refine Up.up ?_ (hK _ (hH.aYR 1))
  unfold ccF lJ
  (repeat' (first|exact PF.nil_le|refine PF.aA ?_ ?_))<;>first|(simp -implicitDefEqProofs only[go_sem,γ,reduceCtorEq]<;>rfl)|rfl
end Go.PM
namespace Go.PM
open Go Go.Na
theorem aIF {p:Nat→Bool} (k:Nat):(bhB (k+1)).all p=(p k&&(bhB k).all p):=by
 have:=wJ (p:=p) k true
 rwa [bjD,bjD] at this
theorem aTQ {C:Ctx} (Lb:oV C) (e:CE) (f:aG) (hf:f.Ok) (hv:cU f=true) (hS:tD f e.L) (hfit:∀ p∈f.policies,p.models.length≤9223372036854775807) (R:List Int) (hR:R.length=f.drives.length) (hRs:∀ d (h:d<R.length),0≤R[d]∧R[d]≤1000) (K:bZ) [Up K] (F:PF) (H:PH)
  (hH:aP H [(e.o,.rows 7 [f.cells])] [(e.w,1,cL R)])
  (hF:(ccF e true 0).le F)
  (hK:∀ H',aP H' [(e.o,.rows 7 [f.cells])] [(e.w,1,cL (fX R e.L.flatten))]→K (.exit 0) (ccF e ((bhB e.L.length).all fun v=>lJ f (eJ f v) (e.L.getD v [])) e.L.length) H'):aD.wp C (.loop yD) K F H:=by
 have hV:=VF.of hv
 have hvol:=hV.small.volumes
 have hlen:=hS.len
 refine wp_loop (α:=Nat × PH) (fun s=>ccF e ((bhB s.1).all (fun v=>lJ f (eJ f v) (e.L.getD v []))) s.1) (fun s=>s.2) (fun s=>s.1≤e.L.length∧aP s.2 [(e.o,.rows 7 [f.cells])] [(e.w,1,cL (fX R (e.L.take s.1).flatten))]) (fun s=>e.L.length-s.1) (0,H) ⟨bhE _,by rw[List.take_zero,List.flatten_nil,aWX]; exact hH⟩ hF PH.le_refl ?_
 rintro⟨v,H0⟩ ⟨hk,hH⟩
 simp only at hk hH ⊢
 simp -implicitDefEqProofs only[go_sem,γ,reduceCtorEq,yD,WL,ccF,bgT]
 by_cases hlt:v<e.L.length
 ·have hlt':(v:Int)<(e.L.length:Nat):=by omega
  have hvf:v<f.volumes.length:=by omega
  obtain⟨hp,he⟩:=mN hV hvf
  have hpol:=hV.policy _ (bgY hp)
  have hfp:=hfit _ (bgY hp)
  rw[he] at hpol hfp
  have hs:=aIF (p:=fun v=>lJ f (eJ f v) (e.L.getD v [])) v
  have hgd:e.L.getD v []=e.L[v]:=by simp[bhQ,hlt]
  have hr:e.L[v]?=some e.L[v]:=bhH hlt
  have hrow:=hS.home _ (bgY hlt)
  have hrl:=hS.row v hlt
  have hft:=sN e.L hlt
  have hfl:(e.L.take v).flatten.length≤v*8:=hS.aYS hV v (by omega)
  simp only[hgd] at hs
  generalize (bhB v).all (fun v=>lJ f (eJ f v) (e.L.getD v []))=c at *
  have h0:=hH.at 0 rfl
  simp -implicitDefEqProofs only[go_sem,hlt']
  refine cA .nil dU PH.nil_le ?_
  simp -implicitDefEqProofs only[go_sem,δ,γ,θ,reduceCtorEq,NW,h0,uG hvf,hV.YQ hvf,sB hp,he]
  refine aQ fun q hq=>?_
  simp -implicitDefEqProofs only[go_sem,δ,γ,reduceCtorEq]
  refine⟨PH.nil_le,?_⟩
  have h2:=hH.new hq (.rows 17 [(eJ f v).cells])
  simp -implicitDefEqProofs only[go_sem,NX]
  refine aZI Lb { e with q:=q } v f hf hV (eJ f v) hfp _ hr (by unfold fR at hrl; omega) hrow R _ hR hRs (by omega) c _ _ _ h2 ?_ fun H' hH'=>?_
  ·unfold crF
   (repeat' (first|exact PF.nil_le|refine PF.aA ?_ ?_))<;>first|(simp -implicitDefEqProofs only[go_sem,γ,reduceCtorEq]<;>rfl)|rfl
  rw[← hft] at hH'
  simp -implicitDefEqProofs only[go_sem,γ,reduceCtorEq,ccF,OO,aK (show v<9223372036854775807 by omega)]
  refine aI (v+1,H') ⟨hlt,hH'⟩ (by simp only; omega) ?_ PH.le_refl
  simp only
  rw[hs]
  (repeat' (first|exact PF.nil_le|refine PF.aA ?_ ?_))<;>first|(simp -implicitDefEqProofs only[go_sem,γ,reduceCtorEq]<;>rfl)|rfl
 ·have hlt':¬ (v:Int)<(e.L.length:Nat):=by omega
  have:v=e.L.length:=by omega
  subst this
  simp -implicitDefEqProofs only[go_sem,hlt']
  rw[bhZ] at hH
  refine Up.up ?_ (hK _ hH)
  unfold ccF
  (repeat' (first|exact PF.nil_le|refine PF.aA ?_ ?_))<;>first|(simp -implicitDefEqProofs only[go_sem,γ,reduceCtorEq]<;>rfl)|rfl
theorem aZF {C:Ctx} (e:CE) (A:List Int) (hA:A.length≤1000) (B:List BX) (b:Bool) (v:Nat) (K:bZ) [Up K] (F:PF) (H:PH) (hH:aP H B [(e.w,1,cL A)])
  (hF:((ccF e b v).set 18 (.int .i64 0)).le F)
  (hK:K (.exit 12) (ccF e ((bhB A.length).all (fun d=>decide (0≤A.getD d 0))&&b) v) H):aD.wp C (.loop yE) K F H:=by
 refine wp_loop (α:=Nat) (fun k=>(ccF e ((bhB k).all (fun d=>decide (0≤A.getD d 0))&&b) v).set 18 (.int .i64 k)) (fun _=>H) (fun k=>k≤A.length) (fun k=>A.length-k) 0 (bhE _) hF PH.le_refl ?_
 intro k hk
 have hO:=hH.own 0 rfl
 have hlen:=hO.qG
 rw[eD] at hlen
 simp -implicitDefEqProofs only[go_sem,γ,reduceCtorEq,yE,OQ,ccF,hlen]
 by_cases hlt:k<A.length
 ·have hlt':(k:Int)<(A.length:Nat):=by omega
  have hs:=wJ (p:=fun d=>decide (0≤A.getD d 0)) k b
  have hgd:A.getD k 0=A[k]:=by simp[bhQ,hlt]
  simp only[hgd] at hs
  generalize ((bhB k).all (fun d=>decide (0≤A.getD d 0))&&b)=c at *
  cases c with
  | false =>
   simp -implicitDefEqProofs only[go_sem,γ,reduceCtorEq,hlt',yL,yM,aK (show k<9223372036854775807 by omega)]
   refine aI (k+1) hlt (by omega) ?_ PH.le_refl
   rw[hs,biF]
   (repeat' (first|exact PF.nil_le|refine PF.aA ?_ ?_))<;>first|(simp -implicitDefEqProofs only[go_sem,γ,reduceCtorEq]<;>rfl)|rfl
  | true =>
   obtain⟨q,hq⟩:=hO.one (by rw[eD]; omega)
   rw[hq] at hO
   obtain⟨rs,r1,r2,r3,r4⟩:=hO.id rfl
   have r5:rs[k]?=some [.int .i64 A[k]]:=by
    rw[← oO hlt,← r4,bjO,if_pos (by rw[eD]; exact hlt)]
   have hdl:((k:Nat):Int)<((cL A).length:Nat):=by rw[eD]; omega
   simp -implicitDefEqProofs only[go_sem,γ,reduceCtorEq,hlt',yL,hq,r1,r5,hdl,bhS,yM,aK (show k<9223372036854775807 by omega)]
   refine aI (k+1) hlt (by omega) ?_ PH.le_refl
   rw[hs,bjD]
   (repeat' (first|exact PF.nil_le|refine PF.aA ?_ ?_))<;>first|(simp -implicitDefEqProofs only[go_sem,γ,reduceCtorEq,hq]<;>rfl)|rfl
 ·have hlt':¬ (k:Int)<(A.length:Nat):=by omega
  have:k=A.length:=by omega
  subst this
  simp -implicitDefEqProofs only[go_sem,hlt']
  refine Up.up ?_ hK
  unfold ccF
  (repeat' (first|exact PF.nil_le|refine PF.aA ?_ ?_))<;>first|(simp -implicitDefEqProofs only[go_sem,γ,reduceCtorEq]<;>rfl)|rfl
def tpS (tn a a2:Nat) (raw:List Int) (R:Nat→PV→PH→Prop):Spec:=fun name vs =>
 if name=tn then match vs with
  | .ptr o _ _ _::_=>some ([o],fun H0 r H'=>∀ v,H0 o=some (aS v a)→r=ints raw∧H'=PH.nil.set o (aS v a2))
  | _=>none
 else some ([],fun _=>R name)
section
variable {C:Ctx} {F:PF} {H Hs:PH} {tn a a2:Nat} {raw:List Int} {R:Nat→PV→PH→Prop} {st:Bool} {args:List aN} {d:Option Nat} {K:PF→PH→Prop}
theorem amQ {o:Nat} {v:PV} {us:List PV} (ho:H o=some (aS v a)) (h:aJ C tn (.ptr o 2 0 0::us) (PH.nil.set o (aS v a)) (fun r H'=>r=ints raw∧H'=PH.nil.set o (aS v a2))) (ha:aN.evs F args=some (.ptr o 2 0 0::us))
  (hle:Hs.le (H.set o (aS v a2))) (hk:K (F.put d (ints raw)) (H.set o (aS v a2))):dOp C Hs (tpS tn a a2 raw R) st (.call tn args) d K F H:=by
 refine amR (x:=aS v a) (y:=aS v a2) (r:=ints raw) (R:=fun H0 r H'=>∀ v,H0 o=some (aS v a)→r=ints raw∧H'=PH.nil.set o (aS v a2)) (by unfold tpS; rw[if_pos rfl]) ho h ?_ ?_ ha hle hk
 ·intro u hu
  rw[fS] at hu
  injection hu with hu
  injection hu with _ hu
  injection hu with hu _
  injection hu with hu _
  rw[hu]
  exact⟨rfl,rfl⟩
 ·intro r' H' hr
  exact hr v (by rw[fS])
theorem adK {name:Nat} {vs:List PV} {u:PV} (hn:name≠tn) (hR:R name=aL u) (h:aJ C name vs .nil (aL u)) (ha:aN.evs F args=some vs) (hle:Hs.le H) (hk:K (F.put d u) H):dOp C Hs (tpS tn a a2 raw R) st (.call name args) d K F H :=
 cO (by unfold tpS; rw[if_neg hn,hR]) h ha hle hk
theorem aNH {name s:Nat} {vs:List PV} {rows:List (List PV)} (hn:name≠tn) (hR:R name=gO s rows) (h:aJ C name vs .nil (gO s rows)) (ha:aN.evs F args=some vs) (hle:Hs.le H)
  (hk:∀ r H',gO s rows r H'→jW H .nil H'→K (F.put d r) (H.over .nil H')):dOp C Hs (tpS tn a a2 raw R) st (.call name args) d K F H :=
 abD (by unfold tpS; rw[if_neg hn,hR]) h ha (fun G=>gO.some s rows G) fun r H' hm hap=>⟨fun o x ho=>(hm.over hap).2 o x (hle o x ho),hk r H' hm hap⟩
end
section
variable {C:Ctx} {F:PF} {H:PH} {B:List BX} {L:List LI} {args:List aN} {d:Option Nat} {K:PF→PH→Prop}
theorem aP.a5R (h:aP H B L) (i:Nat) {o name:Nat} {x y:bV} {r:PV} {vs:List PV} (hi:B[i]?=some (o,x)) (hc:aJ C name vs (PH.nil.set o x) (fun r' H'=>r'=r∧H'=PH.nil.set o y)) (ha:aN.evs F args=some vs)
  (hk:∀ H',aP H' (B.set i (o,y)) L→K (F.put d r) H'):gC C name args [] d K F H:=fW hc (h.at i hi) ha (hk _ (h.set i hi y))
theorem aP.a9W (h:aP H B L) {x:bV} {mk:Nat→PV} (hk:∀ o H',aP H' (B++[(o,x)]) L→K (F.put d (mk o)) H'):kG (some (mk,x)) d K F H:=aQ fun o ho=>hk o _ (h.new ho x)
theorem aP.aFT (h:aP H B L) {l:List Nat} (Lb:oV C) (hb:∀ x∈l,x<256) (hl:l.length≤9223372036854775807) (ha:aN.evs F args=some [.sl 1 (gK l)]) (hk:∀ o v H',Tp (l.take 400) v→aP H' (B++[(o,aS v 0)]) L→K (F.put d (.ptr o 2 0 0)) H'):gC C 28 args [] d K F H:=by
 refine lH (Lb.new l hb hl) ha PH.nil_le ?_
 rintro r H' ⟨o,v,rfl,T,rfl⟩ hap
 rw[PH.kU]
 exact hk o v _ T (h.new (hap o (aS v 0) (by rw[fS]) rfl) _)
end
theorem aOH {C:Ctx} (Lb:oV C) (l:List Nat) (v:PV) (T:Tp (l.take 400) v) (o:Nat) :
  xW.wp C (aY II.res (fun r H'=>Co r (ints (rT l 8 4))∧H'=PH.nil.set o (aS v (hC (l.take 400) (fT l 8 4) (laT l 8 4)).2))) (PF.args [.ptr o 2 0 0]) (PH.nil.set o (aS v 0)):=by
 have hv:=(mJ (l.take 400) 8 4 0 (by decide) (by decide)).1
 have hV:=VF.of hv
 have hd:=hV.small.drives
 have a1:=HQ (l.take 400) 8 4 (bhE _)
 have a2:=(qF (l.take 400) (fT l 8 4) a1 (fT l 8 4).volumes.length).1
 have h0:aP (PH.nil.set o (aS v 0)) [(o,aS v 0)] []:=aP.nil.new (H:=PH.nil) rfl (aS v 0)
 simp -implicitDefEqProofs only[go_sem,reduceCtorEq,xW,aeI,II,aeJ]
 refine fW (Lb.tfleet _ v T o 8 4 0 (by decide) (by decide) (bhE _)) (h0.at 0 rfl) rfl ?_
 have h1:=h0.set 0 rfl (aS v (faT l 8 4))
 rw[PH.set_set] at h1
 simp -implicitDefEqProofs only[go_sem,δ]
 refine aQ fun q hq=>?_
 have h2:=h1.new hq (.rows 7 [(fT l 8 4).cells])
 simp -implicitDefEqProofs only[go_sem,δ,γ,reduceCtorEq,aeK]
 refine fW (Lb.tlayout _ v T o (faT l 8 4) (fT l 8 4) hV a1) (h2.at 0 rfl) rfl ?_
 have h3:=h2.set 0 rfl (aS v (laT l 8 4))
 have hne:¬ q=o:=h2.ne 1 0 rfl rfl (by decide)
 simp -implicitDefEqProofs only[go_sem,δ,γ,reduceCtorEq,aeL,hne]
 refine fW (Lb.uC _ v T o (laT l 8 4) (fT l 8 4) (by unfold fT; omega) a2) (h3.at 0 rfl) rfl ?_
 have h4:=h3.set 0 rfl (aS v (hC (l.take 400) (fT l 8 4) (laT l 8 4)).2)
 rw[PH.set_set] at h4
 simp -implicitDefEqProofs only[go_sem,γ]
 exact aW (vs:=[ints (rT l 8 4)]) (.inr rfl) (PH.nil.set o _) rfl (PH.aA PH.nil_le (h4.at 0 rfl)) ⟨.refl _,rfl⟩
end Go.PM
namespace Go.PM
open Go Go.Na
structure alS (C:Ctx):Prop extends oV C where
 awake:aJ C 20 [] .nil (aL (.bool true))
 again:∀ (l:List Nat) (v:PV),Tp (l.take 400) v→∀ o:Nat,aJ C 18 [.ptr o 2 0 0] (PH.nil.set o (aS v 0)) (fun r H'=>r=ints (rT l 8 4)∧H'=PH.nil.set o (aS v (hC (l.take 400) (fT l 8 4) (laT l 8 4)).2))
theorem aQZ {f:aG} (hV:VF f) (room:List Int) {d:Nat} (hd:d<f.drives.length):0≤vX f room d∧vX f room d≤ext f d∧1≤ext f d∧ext f d≤16:=by
 obtain⟨hm,he⟩:=hV.aNP hd
 have:=hV.model _ (bgY hm)
 rw[he] at this
 unfold vX
 split
 ·omega
 ·omega
theorem aUB (l:List Nat) {d v:Nat} (hd:d≤24) (hv:v≤12):cU (fT l d v)=true∧(fT l d v).Ok:=mJ (l.take 400) d v 0 hd hv
theorem aKA {C:Ctx} (Lb:alS C) (l:List Nat) (hb:∀ x∈l,x<256) (hl:l.length≤9223372036854775807) :
  vK.wp C (aY BA.res (aL (.bool true))) (PF.args [.sl 1 (gK l)]) .nil:=by
 obtain⟨hv,hf⟩:=aUB l (d:=8) (v:=4) (by decide) (by decide)
 have hV:=VF.of hv
 have hd:=hV.small.drives
 have hS:=bcU l (d:=8) (v:=4) (by decide) (by decide)
 have a1:=HQ (l.take 400) 8 4 (bhE _)
 have a2:=(qF (l.take 400) (fT l 8 4) a1 (fT l 8 4).volumes.length).1
 have hOk:=hS.ok hV
 have hlaw:=aIU hv hS (rT l 8 4)
 have hRl:=sW (fT l 8 4) (rT l 8 4)
 have hRm:=Lb.roomM (fT l 8 4) (rT l 8 4) hf
 have hRs:∀ d (h:d<(fM (fT l 8 4) (rT l 8 4)).length),0≤(fM (fT l 8 4) (rT l 8 4))[d]∧(fM (fT l 8 4) (rT l 8 4))[d]≤1000:=fun d h=>by
  rw[avV]
  have:=aQZ hV (rT l 8 4) (d:=d) (by rw[hRl] at h; exact h)
  omega
 rw[show wV (fT l 8 4) (rT l 8 4)=fM (fT l 8 4) (rT l 8 4) from by unfold wV; rw[if_pos hv]] at hRm
 have hfit:∀ p∈(fT l 8 4).policies,p.models.length≤9223372036854775807:=fun p hp=>(hf.policy p hp).models
 generalize hLe:lT l 8 4=L at *
 generalize hRe:rT l 8 4=raw at *
 simp -implicitDefEqProofs only[go_sem,reduceCtorEq,vK,WD,BA,WE]
 refine aP.nil.aFT Lb.tooV hb hl rfl fun o v H1 T h1=>?_
 simp -implicitDefEqProofs only[go_sem,γ,WF]
 refine h1.a5R 0 rfl (Lb.tfleet _ v T o 8 4 0 (by decide) (by decide) (bhE _)) rfl fun H2 h2=>?_
 simp -implicitDefEqProofs only[go_sem,δ]
 refine h2.a9W fun q H3 h3=>?_
 have e3:=h3.at 1 rfl
 have h4:=h3.set 1 rfl (.rows 7 [(fT l 8 4).cells])
 have e4:=h4.at 1 rfl
 simp -implicitDefEqProofs only[go_sem,δ,γ,e3,WG]
 refine h4.a5R 0 rfl (Lb.tlayout _ v T o (faT l 8 4) (fT l 8 4) hV a1) rfl fun H5 h5=>?_
 have hLe':(cH (l.take 400) (fT l 8 4) (faT l 8 4) (fT l 8 4).volumes.length).1=L:=hLe
 rw[hLe']
 simp -implicitDefEqProofs only[go_sem,γ]
 have hle5:(PH.nil.set q (.rows 7 [(fT l 8 4).cells])).le H5:=PH.aA PH.nil_le (h5.at 1 rfl)
 refine cA (PH.nil.set q (.rows 7 [(fT l 8 4).cells])) (tpS 6 (laT l 8 4) (hC (l.take 400) (fT l 8 4) (laT l 8 4)).2 raw fun _=>gO 1 (cL (fM (fT l 8 4) raw))) hle5 ?_
 have h6:=h5.set 0 rfl (aS v (hC (l.take 400) (fT l 8 4) (laT l 8 4)).2)
 have hle6:=PH.aA (PH.nil_le (H:=H5.set o _)) (h6.at 1 rfl)
 have htr:=Lb.uC _ v T o (laT l 8 4) (fT l 8 4) (by omega) a2
 have hRe':(hC (l.take 400) (fT l 8 4) (laT l 8 4)).1=raw:=hRe
 rw[hRe'] at htr
 have e5:=h5.at 1 rfl
 simp -implicitDefEqProofs only[go_sem,δ,γ,reduceCtorEq,WH,e5]
 refine amQ (h5.at 0 rfl) htr rfl hle6 ?_
 simp -implicitDefEqProofs only[go_sem]
 refine aNH (by decide) rfl hRm rfl hle6 fun w H7 hm hap=>?_
 have h7:=h6.a7Y hm hap
 generalize (H5.set o _).over .nil H7=H8 at *
 have hlw:=(h7.own 0 rfl).qG
 rw[eD,hRl] at hlw
 have e7:=h7.at 1 rfl
 simp -implicitDefEqProofs only[go_sem,δ,γ,θ,WI,hlw,e7,bgT,cP (show (((fT l 8 4).drives.length:Nat):Int)=((fT l 8 4).drives.length:Nat) from rfl),WJ,WK]
 refine aTQ Lb.tooV ⟨.sl 1 (gK l),q,L,w,0⟩ (fT l 8 4) hf hv hS hfit (fM (fT l 8 4) raw) hRl hRs _ _ _ (h7.aYR 0) ?_ fun H9 h9=>?_
 ·unfold ccF
  (repeat' (first|exact PF.nil_le|refine PF.aA ?_ ?_))<;>first|(simp -implicitDefEqProofs only[go_sem,γ,reduceCtorEq]<;>rfl)|rfl
 simp -implicitDefEqProofs only[go_sem,OP]
 refine aZF ⟨.sl 1 (gK l),q,L,w,0⟩ (fX (fM (fT l 8 4) raw) L.flatten) (by rw[EX,hRl]; omega) _ ((bhB L.length).all fun v=>lJ (fT l 8 4) (eJ (fT l 8 4) v) (L.getD v [])) L.length _ _ _ h9 ?_ ?_
 ·(repeat' (first|exact PF.nil_le|refine PF.aA ?_ ?_))<;>first|(simp -implicitDefEqProofs only[go_sem,γ,reduceCtorEq]<;>rfl)|rfl
 rw[EX]
 have hcp:((bhB (fM (fT l 8 4) raw).length).all (fun d=>decide (0≤(fX (fM (fT l 8 4) raw) L.flatten).getD d 0))&&(bhB L.length).all fun v=>lJ (fT l 8 4) (eJ (fT l 8 4) v) (L.getD v []))=jJ (fT l 8 4) L raw:=hlaw.symm
 rw[hcp]
 simp -implicitDefEqProofs only[go_sem,reduceCtorEq,ccF,OR]
 refine h9.aFT Lb.tooV hb hl rfl fun o' v' H10 T' h10=>?_
 simp -implicitDefEqProofs only[go_sem,γ,reduceCtorEq]
 have hle10:(PH.nil.set q (.rows 7 [(fT l 8 4).cells])).le H10:=PH.aA PH.nil_le (h10.at 0 rfl)
 refine cA (PH.nil.set q (.rows 7 [(fT l 8 4).cells])) (tpS 18 0 (hC (l.take 400) (fT l 8 4) (laT l 8 4)).2 raw fun n=>aL (.bool (if n=20 then true else jJ (fT l 8 4) L raw))) hle10 ?_
 have h11:=h10.set 1 rfl (aS v' (hC (l.take 400) (fT l 8 4) (laT l 8 4)).2)
 have hle11:=PH.aA (PH.nil_le (H:=H10.set o' _)) (h11.at 0 rfl)
 have hag:=Lb.again l v' T' o'
 rw[hRe] at hag
 simp -implicitDefEqProofs only[go_sem,δ,γ,reduceCtorEq,OS]
 refine amQ (h10.at 1 rfl) hag rfl hle11 ?_
 simp -implicitDefEqProofs only[go_sem]
 refine adK (u:=.bool (jJ (fT l 8 4) L raw)) (by decide) rfl (Lb.holds _ L raw hf hOk) rfl hle11 ?_
 have heq:((jJ (fT l 8 4) L raw==jJ (fT l 8 4) L raw) != false)=true:=by cases jJ (fT l 8 4) L raw<;>rfl
 simp -implicitDefEqProofs only[go_sem,γ,reduceCtorEq,heq]
 refine adK (u:=.bool true) (by decide) rfl Lb.awake rfl hle11 ?_
 simp -implicitDefEqProofs only[go_sem,γ,reduceCtorEq]
 refine cC (.inr rfl) rfl ?_
 rfl
end Go.PM
namespace Go.PM
open Go Go.Na
end Go.PM
namespace Go.PM
open Go Go.Na
theorem tD.move {f:aG} {L:List (List Int)} (h:tD f L) {x k d:Nat} (hx:x<L.length) (hd:d<f.drives.length):tD f (L.set x (L[x].set k d)):=by
 refine⟨by rw[bjC]; exact h.len,fun v hv=>?_,fun r hr=>?_⟩
 ·rw[bjC] at hv
  have:=h.row v hv
  rw[List.getElem_set]
  split
  ·rename_i e
   subst e
   rw[bjC]; exact this
  ·exact this
 ·rcases List.mem_or_eq_of_mem_set hr with hr | rfl
  ·exact h.home r hr
  ·intro y hy
   rcases List.mem_or_eq_of_mem_set hy with hy | rfl
   ·exact h.home _ (bgY hx) y hy
   ·omega
end Go.PM
namespace Go.PM
open Go Go.Na
end Go.PM
namespace Go.PM
open Go Go.Na
structure UH (C:Ctx):Prop extends dP C where
 r3:aR C 3 BD
 r6:aR C 6 XW
 r18:aR C 18 II
 r82:aR C 82 YV
theorem aYT {C:Ctx} (c:UH C) (hi:tC C):oV C :=
 {aqT c.todP hi with
  new:=(asE c.todP hi).new
  tfleet:=(asE c.todP hi).fleet
  tlayout:=fun l v T o a f hV ha=>exactly (c.r3.go (aKZ (XN c.todP hi) T o a f hV (fun i h=>(c.r82.go (aWT f hV i h) rfl).seen) ha) rfl)
  uC:=fun l v T o a f hd ha=>exactly (c.r6.go (aVZ (XN c.todP hi) T o a f hd ha) rfl)
  roomM:=fun f room hf=>c.r152.go (awR (NH c.todP) f hf room) rfl }
theorem a7W {C:Ctx} (c:UH C) (hi:tC C):alS C :=
 {aYT c hi with
  awake:=aVD c.todP hi
  again:=fun l v T o=>exactly (c.r18.go (aOH (aYT c hi) l v T o) rfl) }
theorem aOG {C:Ctx} (c:UH C) (hi:tC C) (r:aR C 11 BA) (l:List Nat) (hb:∀ x∈l,x<256) (hl:l.length≤9223372036854775807):aJ C 11 [.sl 1 (gK l)] .nil (aL (.bool true)) :=
 r.go (aKA (a7W c hi) l hb hl) rfl
end Go.PM
