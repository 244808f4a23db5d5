/-
  The law of the claim returns true at every input, and its argument reads as it did: the tied card. No condition.
-/
import Derived.Test.YtiikgogbaninlaaGreatRq1
import Derived.Test.YtiikgogbaninlaaGreatRq2
import Derived.Test.YtiikgogbaninlaaGreatRq3
import Derived.Test.YtiikgogbaninlaaGreatRq4
import Derived.Test.YtiikgogbaninlaaGreatRq5
import Derived.Test.YtiikgogbaninlaaGreatProg
import Derived.KernelRfl
import Derived.Test.YtiikgogbaninlaaGreatRows
import Derived.ProofKit
import Derived.WalkKit
set_option linter.unusedSimpArgs false
set_option linter.unusedVariables false
open Nat renaming reduceEqDiff → γ, reduceAdd → δ, reduceSub → ε, reduceMul → ζ, reduceLT → η, reduceLeDiff → θ, reduceBEq → τ
open Int renaming reduceLT → ι, reduceLE → κ, reduceEq → μ, reduceToNat → ν, reduceAdd → ξ, reduceNeg → ο, reduceBEq → ρ, reduceBNe → σ
open List renaming reduceReplicate → υ
open List renaming length_map → bwN, range → bwO, replicate → bwP, getElem_mem → bwS, length_append → bwW, getElem?_eq_getElem → bxA, take_of_length_le → bxC, length_singleton → bxD, length_take → bxE, mem_cons → bxF, getD_eq_getElem?_getD → bxI, all_eq_true → bxL, take_length → bxM, drop_zero → bxP, append_assoc → bxU, mem_map → bxV, getElem?_map → bxW, getElem?_eq_none → bxY, getElem?_eq_some_iff → bxZ, mem_append → byA, not_mem_nil → byC, mem_range → byD, drop_eq_getElem_cons → byG, take_succ_eq_append_getElem → byH, length_drop → byI, mem_singleton → byJ, getElem_map → byO, getElem_of_mem → byP, length_cons → byQ, length_set → byR, Sublist → byT, append_nil → byU, length_nil → byV, nil_append → byW, take_append_drop → byX, getElem?_append_right → bzA, map_cons → bzB, mem_of_getElem? → bzC, map_append → bzD, nodup_append → bzE, getElem?_append_left → bzJ, cons_append → bzP, getElem?_take → bzQ, drop_of_length_le → bzU, getElem?_drop → bzV, length_replicate → bzW, eq_nil_of_length_eq_zero → bzY, set_append_right → bzZ
open Nat renaming gcd → bwQ, le_refl → bwR, mul_add → bwX, zero_le → bwZ, lt_or_ge → bxG, mul_assoc → bxH, mul_comm → bxK, add_mul → bxN, zero_add → bxO, mul_le_mul_right → bxQ, mod_eq_of_lt → bxR, mod_lt → bxX, add_zero → byB, pow_succ → byE, min_eq_left → byK, mul_le_mul_left → byM, pos_of_ne_zero → byN, add_assoc → byS, pow_pos → byY, div_lt_iff_lt_mul → bzF, eq_zero_or_pos → bzK, div_add_mod → bzR, div_eq_of_lt → bzS
open Bool renaming false_and → bwT, not_true → bwU, true_and → bwY, not_false → bxB, and_eq_true → bxJ, and_false → bxT, and_true → byL, and_assoc → bzI, false_eq_true → bzN
open Option renaming map_eq_some_iff → bwV, map_some → bxS, some → byZ, getD_some → bzG, bind_eq_some_iff → bzL, bind_some → bzX
open Array renaming replicate → byF, length_toList → bzH, getElem?_eq_getElem → bzM, getElem?_eq_some_iff → bzT
open Int renaming toNat_natCast → bzO
namespace Go.Proofs.YtiikgogbaninlaaGreat
open Go Go.PM
def bgC:List Nat:=[0,0,0,0,0,0,0,0,0,0,0,0,0,0,0,0,0,0,0,0,0,0,0,0,6,0,4,0,0,0,146,140,131,94,93,64,149,148,92,126,144,125,143,153,142,141,129,100,154,105,40,101,102,99,71,98,70,147,63,65,130,103,95,145,128,127,104,41,69,74,68,96,73,67,72,97,66,0,0,0,0,0,50,0,0,29,34,0,0,51,0,11,0,0,0,44,30,76,116,77,118,121,81,117,42,75,82,119,83,120,46,43,45,109,80,79,106,78,112,111,110,114,115,84,139,123,122,133,107,113,136,135,108,138,134,137,152,150,132,158,155,151,157,156,9,10,12,0,0,0,0,0,0,31,0,0,85,0,0,0,48,47,0,0,0,0,0,0,0,0,0,0,0,0,0,0,0,22,20,37,21,54,55,53,52,89,90,87,124,57,59,60,38,56,86,0,0,0,0,0,0,0,0,0,0,0,0,0,0,0,0,0,0,0,0,0,0,0,0,0,0,0,0,0,0,0,0,0,0,0,0,0,0,0,0,0,0,0,0,0,23,24,26,25,13,27,14,28,15,5,16,17,7,18,35,19,8,36,33,3,32,49]
def bbT:List (Option Nat):=[none,none,none,some 259,some 26,some 249,some 24,some 252,some 256,some 144,some 145,some 91,some 146,some 244,some 246,some 248,some 250,some 251,some 253,some 255,some 178,some 180,some 177,some 240,some 241,some 243,some 242,some 245,some 247,some 85,some 96,some 153,some 260,some 258,some 86,some 254,some 257,some 179,some 192,none,some 50,some 67,some 104,some 111,some 95,some 112,some 110,some 161,some 160,some 261,some 82,some 89,some 184,some 183,some 181,some 182,some 193,some 189,none,some 190,some 191,none,none,some 58,some 35,some 59,some 76,some 73,some 70,some 68,some 56,some 54,some 74,some 72,some 69,some 105,some 97,some 99,some 117,some 115,some 114,some 102,some 106,some 108,some 123,some 156,some 194,some 187,none,some 185,some 186,none,some 38,some 34,some 33,some 62,some 71,some 75,some 55,some 53,some 47,some 51,some 52,some 61,some 66,some 49,some 116,some 128,some 132,some 113,some 120,some 119,some 118,some 129,some 121,some 122,some 98,some 103,some 100,some 107,some 109,some 101,some 126,some 125,some 188,some 41,some 39,some 65,some 64,some 46,some 60,some 32,some 138,some 127,some 134,some 131,some 130,some 135,some 133,some 124,some 31,some 45,some 44,some 42,some 40,some 63,some 30,some 57,some 37,some 36,some 137,some 141,some 136,some 43,some 48,some 140,some 143,some 142,some 139]
def num (n:Nat):FuncId:=bgC.getD n 0
def nameOf (f:FuncId):Option Nat:=bbT.getD f none
noncomputable def C:Ctx:=⟨Tryz.prog,num⟩
noncomputable def T (ro:List Nat):Tbl:={ P:=Tryz.prog,num:=num,name:=nameOf,ro:=ro }
theorem c24:(T aUQ).func Tryz.f6=some PM.BE:=by kernel_rfl
theorem q24:aM C 24 PM.BE:=fun _ _ _ hl h=>aK rfl rfl Tryz.func6 (by kernel_rfl) c24 hl h
theorem c26:(T a3A).func Tryz.f4=some PM.WW:=by kernel_rfl
theorem q26:aM C 26 PM.WW:=fun _ _ _ hl h=>aK rfl rfl Tryz.func4 (by kernel_rfl) c26 hl h
theorem c30:(T bdD).func Tryz.f146=some PM.aDW:=by kernel_rfl
theorem q30:aM C 30 PM.aDW:=fun _ _ _ hl h=>aK rfl rfl Tryz.func146 (by kernel_rfl) c30 hl h
theorem c31:(T a6Z).func Tryz.f140=some PM.acV:=by kernel_rfl
theorem q31:aM C 31 PM.acV:=fun _ _ _ hl h=>aK rfl rfl Tryz.func140 (by kernel_rfl) c31 hl h
theorem c32:(T bdF).func Tryz.f131=some PM.aEI:=by kernel_rfl
theorem q32:aM C 32 PM.aEI:=fun _ _ _ hl h=>aK rfl rfl Tryz.func131 (by kernel_rfl) c32 hl h
theorem c33:(T bdH).func Tryz.f94=some PM.udiv:=by kernel_rfl
theorem q33:aM C 33 PM.udiv:=fun _ _ _ hl h=>aK rfl rfl Tryz.func94 (by kernel_rfl) c33 hl h
theorem c34:(T bdJ).func Tryz.f93=some PM.aEX:=by kernel_rfl
theorem q34:aM C 34 PM.aEX:=fun _ _ _ hl h=>aK rfl rfl Tryz.func93 (by kernel_rfl) c34 hl h
theorem c35:(T a7F).func Tryz.f64=some PM.adE:=by kernel_rfl
theorem q35:aM C 35 PM.adE:=fun _ _ _ hl h=>aK rfl rfl Tryz.func64 (by kernel_rfl) c35 hl h
theorem c36:(T bdL).func Tryz.f149=some PM.aFA:=by kernel_rfl
theorem q36:aM C 36 PM.aFA:=fun _ _ _ hl h=>aK rfl rfl Tryz.func149 (by kernel_rfl) c36 hl h
theorem c37:(T bdR).func Tryz.f148=some PM.aFI:=by kernel_rfl
theorem q37:aM C 37 PM.aFI:=fun _ _ _ hl h=>aK rfl rfl Tryz.func148 (by kernel_rfl) c37 hl h
theorem c38:(T a7N).func Tryz.f92=some PM.adM:=by kernel_rfl
theorem q38:aM C 38 PM.adM:=fun _ _ _ hl h=>aK rfl rfl Tryz.func92 (by kernel_rfl) c38 hl h
theorem c39:(T aWN).func Tryz.f126=some PM.BT:=by kernel_rfl
theorem q39:aM C 39 PM.BT:=fun _ _ _ hl h=>aK rfl rfl Tryz.func126 (by kernel_rfl) c39 hl h
theorem c40:(T a7D).func Tryz.f144=some PM.adD:=by kernel_rfl
theorem q40:aM C 40 PM.adD:=fun _ _ _ hl h=>aK rfl rfl Tryz.func144 (by kernel_rfl) c40 hl h
theorem c41:(T a1I).func Tryz.f125=some PM.NM:=by kernel_rfl
theorem q41:aM C 41 PM.NM:=fun _ _ _ hl h=>aK rfl rfl Tryz.func125 (by kernel_rfl) c41 hl h
theorem c42:(T a1K).func Tryz.f143=some PM.NN:=by kernel_rfl
theorem q42:aM C 42 PM.NN:=fun _ _ _ hl h=>aK rfl rfl Tryz.func143 (by kernel_rfl) c42 hl h
theorem c43:(T a7L).func Tryz.f153=some PM.adH:=by kernel_rfl
theorem q43:aM C 43 PM.adH:=fun _ _ _ hl h=>aK rfl rfl Tryz.func153 (by kernel_rfl) c43 hl h
theorem c44:(T a1M).func Tryz.f142=some PM.NW:=by kernel_rfl
theorem q44:aM C 44 PM.NW:=fun _ _ _ hl h=>aK rfl rfl Tryz.func142 (by kernel_rfl) c44 hl h
theorem c45:(T bgW).func Tryz.f141=some PM.uup:=by kernel_rfl
theorem q45:aM C 45 PM.uup:=fun _ _ _ hl h=>aK rfl rfl Tryz.func141 (by kernel_rfl) c45 hl h
theorem c46:(T bdT).func Tryz.f129=some PM.aiQ:=by kernel_rfl
theorem q46:aM C 46 PM.aiQ:=fun _ _ _ hl h=>aK rfl rfl Tryz.func129 (by kernel_rfl) c46 hl h
theorem c47:(T bdV).func Tryz.f100=some PM.aFV:=by kernel_rfl
theorem q47:aM C 47 PM.aFV:=fun _ _ _ hl h=>aK rfl rfl Tryz.func100 (by kernel_rfl) c47 hl h
theorem c48:(T a2A).func Tryz.f154=some PM.OC:=by kernel_rfl
theorem q48:aM C 48 PM.OC:=fun _ _ _ hl h=>aK rfl rfl Tryz.func154 (by kernel_rfl) c48 hl h
theorem c49:(T a7T).func Tryz.f105=some PM.adP:=by kernel_rfl
theorem q49:aM C 49 PM.adP:=fun _ _ _ hl h=>aK rfl rfl Tryz.func105 (by kernel_rfl) c49 hl h
theorem c50:(T a7V).func Tryz.f40=some PM.QD:=by kernel_rfl
theorem q50:aM C 50 PM.QD:=fun _ _ _ hl h=>aK rfl rfl Tryz.func40 (by kernel_rfl) c50 hl h
theorem c51:(T a2C).func Tryz.f101=some PM.OD:=by kernel_rfl
theorem q51:aM C 51 PM.OD:=fun _ _ _ hl h=>aK rfl rfl Tryz.func101 (by kernel_rfl) c51 hl h
theorem c52:(T aWX).func Tryz.f102=some PM.BY:=by kernel_rfl
theorem q52:aM C 52 PM.BY:=fun _ _ _ hl h=>aK rfl rfl Tryz.func102 (by kernel_rfl) c52 hl h
theorem c53:(T a7X).func Tryz.f99=some PM.aeA:=by kernel_rfl
theorem q53:aM C 53 PM.aeA:=fun _ _ _ hl h=>aK rfl rfl Tryz.func99 (by kernel_rfl) c53 hl h
theorem c54:(T a7Z).func Tryz.f71=some PM.aeB:=by kernel_rfl
theorem q54:aM C 54 PM.aeB:=fun _ _ _ hl h=>aK rfl rfl Tryz.func71 (by kernel_rfl) c54 hl h
theorem c55:(T bdY).func Tryz.f98=some PM.aGO:=by kernel_rfl
theorem q55:aM C 55 PM.aGO:=fun _ _ _ hl h=>aK rfl rfl Tryz.func98 (by kernel_rfl) c55 hl h
theorem c56:(T a2G).func Tryz.f70=some PM.OG:=by kernel_rfl
theorem q56:aM C 56 PM.OG:=fun _ _ _ hl h=>aK rfl rfl Tryz.func70 (by kernel_rfl) c56 hl h
theorem c57:(T a7Q).func Tryz.f147=some PM.adN:=by kernel_rfl
theorem q57:aM C 57 PM.adN:=fun _ _ _ hl h=>aK rfl rfl Tryz.func147 (by kernel_rfl) c57 hl h
theorem c58:(T aWV).func Tryz.f63=some PM.BV:=by kernel_rfl
theorem q58:aM C 58 PM.BV:=fun _ _ _ hl h=>aK rfl rfl Tryz.func63 (by kernel_rfl) c58 hl h
theorem c59:(T a8B).func Tryz.f65=some PM.aeC:=by kernel_rfl
theorem q59:aM C 59 PM.aeC:=fun _ _ _ hl h=>aK rfl rfl Tryz.func65 (by kernel_rfl) c59 hl h
theorem c60:(T a2E).func Tryz.f130=some PM.OF:=by kernel_rfl
theorem q60:aM C 60 PM.OF:=fun _ _ _ hl h=>aK rfl rfl Tryz.func130 (by kernel_rfl) c60 hl h
theorem c61:(T a6O).func Tryz.f103=some PM.tT:=by kernel_rfl
theorem q61:aM C 61 PM.tT:=fun _ _ _ hl h=>aK rfl rfl Tryz.func103 (by kernel_rfl) c61 hl h
theorem c62:(T aXB).func Tryz.f95=some PM.CA:=by kernel_rfl
theorem q62:aM C 62 PM.CA:=fun _ _ _ hl h=>aK rfl rfl Tryz.func95 (by kernel_rfl) c62 hl h
theorem c63:(T a2I).func Tryz.f145=some PM.OH:=by kernel_rfl
theorem q63:aM C 63 PM.OH:=fun _ _ _ hl h=>aK rfl rfl Tryz.func145 (by kernel_rfl) c63 hl h
theorem c64:(T aWZ).func Tryz.f128=some PM.BZ:=by kernel_rfl
theorem q64:aM C 64 PM.BZ:=fun _ _ _ hl h=>aK rfl rfl Tryz.func128 (by kernel_rfl) c64 hl h
theorem c65:(T aXD).func Tryz.f127=some PM.CB:=by kernel_rfl
theorem q65:aM C 65 PM.CB:=fun _ _ _ hl h=>aK rfl rfl Tryz.func127 (by kernel_rfl) c65 hl h
theorem c66:(T beG).func Tryz.f104=some PM.aHH:=by kernel_rfl
theorem q66:aM C 66 PM.aHH:=fun _ _ _ hl h=>aK rfl rfl Tryz.func104 (by kernel_rfl) c66 hl h
theorem c67:(T a2W).func Tryz.f41=some PM.OR:=by kernel_rfl
theorem q67:aM C 67 PM.OR:=fun _ _ _ hl h=>aK rfl rfl Tryz.func41 (by kernel_rfl) c67 hl h
theorem c68:(T beE).func Tryz.f69=some PM.aGU:=by kernel_rfl
theorem q68:aM C 68 PM.aGU:=fun _ _ _ hl h=>aK rfl rfl Tryz.func69 (by kernel_rfl) c68 hl h
theorem c69:(T beC).func Tryz.f74=some PM.aGS:=by kernel_rfl
theorem q69:aM C 69 PM.aGS:=fun _ _ _ hl h=>aK rfl rfl Tryz.func74 (by kernel_rfl) c69 hl h
theorem c70:(T a2L).func Tryz.f68=some PM.OK:=by kernel_rfl
theorem q70:aM C 70 PM.OK:=fun _ _ _ hl h=>aK rfl rfl Tryz.func68 (by kernel_rfl) c70 hl h
theorem c71:(T a2N).func Tryz.f96=some PM.OL:=by kernel_rfl
theorem q71:aM C 71 PM.OL:=fun _ _ _ hl h=>aK rfl rfl Tryz.func96 (by kernel_rfl) c71 hl h
theorem c72:(T aIK).func Tryz.f73=some PM.wN:=by kernel_rfl
theorem q72:aM C 72 PM.wN:=fun _ _ _ hl h=>aK rfl rfl Tryz.func73 (by kernel_rfl) c72 hl h
theorem c73:(T a2Q).func Tryz.f67=some PM.OP:=by kernel_rfl
theorem q73:aM C 73 PM.OP:=fun _ _ _ hl h=>aK rfl rfl Tryz.func67 (by kernel_rfl) c73 hl h
theorem c74:(T a2S).func Tryz.f72=some PM.OQ:=by kernel_rfl
theorem q74:aM C 74 PM.OQ:=fun _ _ _ hl h=>aK rfl rfl Tryz.func72 (by kernel_rfl) c74 hl h
theorem c75:(T aXG).func Tryz.f97=some PM.CC:=by kernel_rfl
theorem q75:aM C 75 PM.CC:=fun _ _ _ hl h=>aK rfl rfl Tryz.func97 (by kernel_rfl) c75 hl h
theorem c76:(T aXI).func Tryz.f66=some PM.uT:=by kernel_rfl
theorem q76:aM C 76 PM.uT:=fun _ _ _ hl h=>aK rfl rfl Tryz.func66 (by kernel_rfl) c76 hl h
theorem c82:(T a6Q).func Tryz.f50=some PM.abZ:=by kernel_rfl
theorem q82:aM C 82 PM.abZ:=fun _ _ _ hl h=>aK rfl rfl Tryz.func50 (by kernel_rfl) c82 hl h
theorem c85:(T a6R).func Tryz.f29=some PM.acA:=by kernel_rfl
theorem q85:aM C 85 PM.acA:=fun _ _ _ hl h=>aK rfl rfl Tryz.func29 (by kernel_rfl) c85 hl h
theorem c86:(T aWG).func Tryz.f34=some PM.BR:=by kernel_rfl
theorem q86:aM C 86 PM.BR:=fun _ _ _ hl h=>aK rfl rfl Tryz.func34 (by kernel_rfl) c86 hl h
theorem c89:(T bcT).func Tryz.f51=some PM.aCR:=by kernel_rfl
theorem q89:aM C 89 PM.aCR:=fun _ _ _ hl h=>aK rfl rfl Tryz.func51 (by kernel_rfl) c89 hl h
theorem c91:(T bcR).func Tryz.f11=some PM.same:=by kernel_rfl
theorem q91:aM C 91 PM.same:=fun _ _ _ hl h=>aK rfl rfl Tryz.func11 (by kernel_rfl) c91 hl h
theorem c95:(T baI).func Tryz.f44=some PM.avO:=by kernel_rfl
theorem q95:aM C 95 PM.avO:=fun _ _ _ hl h=>aK rfl rfl Tryz.func44 (by kernel_rfl) c95 hl h
theorem c96:(T baS).func Tryz.f30=some PM.awJ:=by kernel_rfl
theorem q96:aM C 96 PM.awJ:=fun _ _ _ hl h=>aK rfl rfl Tryz.func30 (by kernel_rfl) c96 hl h
theorem c97:(T aYO).func Tryz.f76=some PM.KC:=by kernel_rfl
theorem q97:aM C 97 PM.KC:=fun _ _ _ hl h=>aK rfl rfl Tryz.func76 (by kernel_rfl) c97 hl h
theorem c98:(T a4G).func Tryz.f116=some PM.ZN:=by kernel_rfl
theorem q98:aM C 98 PM.ZN:=fun _ _ _ hl h=>aK rfl rfl Tryz.func116 (by kernel_rfl) c98 hl h
theorem c99:(T a4I).func Tryz.f77=some PM.ZO:=by kernel_rfl
theorem q99:aM C 99 PM.ZO:=fun _ _ _ hl h=>aK rfl rfl Tryz.func77 (by kernel_rfl) c99 hl h
theorem blN:(T a4K).func Tryz.f118=some PM.ZP:=by kernel_rfl
theorem bpE:aM C 100 PM.ZP:=fun _ _ _ hl h=>aK rfl rfl Tryz.func118 (by kernel_rfl) blN hl h
theorem blO:(T baO).func Tryz.f121=some PM.gone:=by kernel_rfl
theorem bpF:aM C 101 PM.gone:=fun _ _ _ hl h=>aK rfl rfl Tryz.func121 (by kernel_rfl) blO hl h
theorem blP:(T a4N).func Tryz.f81=some PM.ZQ:=by kernel_rfl
theorem bpG:aM C 102 PM.ZQ:=fun _ _ _ hl h=>aK rfl rfl Tryz.func81 (by kernel_rfl) blP hl h
theorem blQ:(T aYQ).func Tryz.f117=some PM.KD:=by kernel_rfl
theorem bpH:aM C 103 PM.KD:=fun _ _ _ hl h=>aK rfl rfl Tryz.func117 (by kernel_rfl) blQ hl h
theorem blR:(T bfD).func Tryz.f42=some PM.gin:=by kernel_rfl
theorem bpI:aM C 104 PM.gin:=fun _ _ _ hl h=>aK rfl rfl Tryz.func42 (by kernel_rfl) blR hl h
theorem blS:(T baK).func Tryz.f75=some PM.avQ:=by kernel_rfl
theorem bpJ:aM C 105 PM.avQ:=fun _ _ _ hl h=>aK rfl rfl Tryz.func75 (by kernel_rfl) blS hl h
theorem blT:(T baM).func Tryz.f82=some PM.avR:=by kernel_rfl
theorem bpK:aM C 106 PM.avR:=fun _ _ _ hl h=>aK rfl rfl Tryz.func82 (by kernel_rfl) blT hl h
theorem blU:(T a4P).func Tryz.f119=some PM.ZT:=by kernel_rfl
theorem bpL:aM C 107 PM.ZT:=fun _ _ _ hl h=>aK rfl rfl Tryz.func119 (by kernel_rfl) blU hl h
theorem blV:(T a4R).func Tryz.f83=some PM.ZU:=by kernel_rfl
theorem bpM:aM C 108 PM.ZU:=fun _ _ _ hl h=>aK rfl rfl Tryz.func83 (by kernel_rfl) blV hl h
theorem blW:(T aYT).func Tryz.f120=some PM.KL:=by kernel_rfl
theorem bpN:aM C 109 PM.KL:=fun _ _ _ hl h=>aK rfl rfl Tryz.func120 (by kernel_rfl) blW hl h
theorem blX:(T a4U).func Tryz.f46=some PM.ZV:=by kernel_rfl
theorem bpO:aM C 110 PM.ZV:=fun _ _ _ hl h=>aK rfl rfl Tryz.func46 (by kernel_rfl) blX hl h
theorem blY:(T baG).func Tryz.f43=some PM.agR:=by kernel_rfl
theorem bpP:aM C 111 PM.agR:=fun _ _ _ hl h=>aK rfl rfl Tryz.func43 (by kernel_rfl) blY hl h
theorem blZ:(T baQ).func Tryz.f45=some PM.avU:=by kernel_rfl
theorem bpQ:aM C 112 PM.avU:=fun _ _ _ hl h=>aK rfl rfl Tryz.func45 (by kernel_rfl) blZ hl h
theorem bmA:(T a9W).func Tryz.f109=some PM.JQ:=by kernel_rfl
theorem bpR:aM C 113 PM.JQ:=fun _ _ _ hl h=>aK rfl rfl Tryz.func109 (by kernel_rfl) bmA hl h
theorem bmB:(T a9Y).func Tryz.f80=some PM.atN:=by kernel_rfl
theorem bpS:aM C 114 PM.atN:=fun _ _ _ hl h=>aK rfl rfl Tryz.func80 (by kernel_rfl) bmB hl h
theorem bmC:(T a4C).func Tryz.f79=some PM.PI:=by kernel_rfl
theorem bpT:aM C 115 PM.PI:=fun _ _ _ hl h=>aK rfl rfl Tryz.func79 (by kernel_rfl) bmC hl h
theorem bmD:(T aTU).func Tryz.f106=some PM.uI:=by kernel_rfl
theorem bpU:aM C 116 PM.uI:=fun _ _ _ hl h=>aK rfl rfl Tryz.func106 (by kernel_rfl) bmD hl h
theorem bmE:(T baE).func Tryz.f78=some PM.TU:=by kernel_rfl
theorem bpV:aM C 117 PM.TU:=fun _ _ _ hl h=>aK rfl rfl Tryz.func78 (by kernel_rfl) bmE hl h
theorem bmF:(T aYM).func Tryz.f112=some PM.KB:=by kernel_rfl
theorem bpW:aM C 118 PM.KB:=fun _ _ _ hl h=>aK rfl rfl Tryz.func112 (by kernel_rfl) bmF hl h
theorem bmG:(T a9U).func Tryz.f111=some PM.atK:=by kernel_rfl
theorem bpX:aM C 119 PM.atK:=fun _ _ _ hl h=>aK rfl rfl Tryz.func111 (by kernel_rfl) bmG hl h
theorem bmH:(T aTR).func Tryz.f110=some PM.mW:=by kernel_rfl
theorem bpY:aM C 120 PM.mW:=fun _ _ _ hl h=>aK rfl rfl Tryz.func110 (by kernel_rfl) bmH hl h
theorem bmI:(T aYK).func Tryz.f114=some PM.JZ:=by kernel_rfl
theorem bpZ:aM C 121 PM.JZ:=fun _ _ _ hl h=>aK rfl rfl Tryz.func114 (by kernel_rfl) bmI hl h
theorem bmJ:(T a4E).func Tryz.f115=some PM.ZM:=by kernel_rfl
theorem bqA:aM C 122 PM.ZM:=fun _ _ _ hl h=>aK rfl rfl Tryz.func115 (by kernel_rfl) bmJ hl h
theorem bmK:(T a5I).func Tryz.f84=some PM.PR:=by kernel_rfl
theorem bqB:aM C 123 PM.PR:=fun _ _ _ hl h=>aK rfl rfl Tryz.func84 (by kernel_rfl) bmK hl h
theorem bmL:(T aYZ).func Tryz.f139=some PM.BC:=by kernel_rfl
theorem bqC:aM C 124 PM.BC:=fun _ _ _ hl h=>aK rfl rfl Tryz.func139 (by kernel_rfl) bmL hl h
theorem bmM:(T aZC).func Tryz.f123=some PM.BD:=by kernel_rfl
theorem bqD:aM C 125 PM.BD:=fun _ _ _ hl h=>aK rfl rfl Tryz.func123 (by kernel_rfl) bmM hl h
theorem bmN:(T aUO).func Tryz.f122=some PM.uN:=by kernel_rfl
theorem bqE:aM C 126 PM.uN:=fun _ _ _ hl h=>aK rfl rfl Tryz.func122 (by kernel_rfl) bmN hl h
theorem bmO:(T bbS).func Tryz.f133=some PM.ayP:=by kernel_rfl
theorem bqF:aM C 127 PM.ayP:=fun _ _ _ hl h=>aK rfl rfl Tryz.func133 (by kernel_rfl) bmO hl h
theorem bmP:(T a5O).func Tryz.f107=some PM.aaS:=by kernel_rfl
theorem bqG:aM C 128 PM.aaS:=fun _ _ _ hl h=>aK rfl rfl Tryz.func107 (by kernel_rfl) bmP hl h
theorem bmQ:(T bbV).func Tryz.f113=some PM.azF:=by kernel_rfl
theorem bqH:aM C 129 PM.azF:=fun _ _ _ hl h=>aK rfl rfl Tryz.func113 (by kernel_rfl) bmQ hl h
theorem bmR:(T bbX).func Tryz.f136=some PM.azL:=by kernel_rfl
theorem bqI:aM C 130 PM.azL:=fun _ _ _ hl h=>aK rfl rfl Tryz.func136 (by kernel_rfl) bmR hl h
theorem bmS:(T bbZ).func Tryz.f135=some PM.azP:=by kernel_rfl
theorem bqJ:aM C 131 PM.azP:=fun _ _ _ hl h=>aK rfl rfl Tryz.func135 (by kernel_rfl) bmS hl h
theorem bmT:(T a5Q).func Tryz.f108=some PM.abE:=by kernel_rfl
theorem bqK:aM C 132 PM.abE:=fun _ _ _ hl h=>aK rfl rfl Tryz.func108 (by kernel_rfl) bmT hl h
theorem bmU:(T bcB).func Tryz.f138=some PM.azV:=by kernel_rfl
theorem bqL:aM C 133 PM.azV:=fun _ _ _ hl h=>aK rfl rfl Tryz.func138 (by kernel_rfl) bmU hl h
theorem bmV:(T bcD).func Tryz.f134=some PM.aAF:=by kernel_rfl
theorem bqM:aM C 134 PM.aAF:=fun _ _ _ hl h=>aK rfl rfl Tryz.func134 (by kernel_rfl) bmV hl h
theorem bmW:(T a5T).func Tryz.f137=some PM.abH:=by kernel_rfl
theorem bqN:aM C 135 PM.abH:=fun _ _ _ hl h=>aK rfl rfl Tryz.func137 (by kernel_rfl) bmW hl h
theorem bmX:(T aUY).func Tryz.f152=some PM.BH:=by kernel_rfl
theorem bqO:aM C 136 PM.BH:=fun _ _ _ hl h=>aK rfl rfl Tryz.func152 (by kernel_rfl) bmX hl h
theorem bmY:(T aZK).func Tryz.f150=some PM.KY:=by kernel_rfl
theorem bqP:aM C 137 PM.KY:=fun _ _ _ hl h=>aK rfl rfl Tryz.func150 (by kernel_rfl) bmY hl h
theorem bmZ:(T aVD).func Tryz.f132=some PM.rA:=by kernel_rfl
theorem bqQ:aM C 138 PM.rA:=fun _ _ _ hl h=>aK rfl rfl Tryz.func132 (by kernel_rfl) bmZ hl h
theorem bnA:(T aHW).func Tryz.f158=some PM.vP:=by kernel_rfl
theorem bqR:aM C 139 PM.vP:=fun _ _ _ hl h=>aK rfl rfl Tryz.func158 (by kernel_rfl) bnA hl h
theorem bnB:(T aZN).func Tryz.f155=some PM.LE:=by kernel_rfl
theorem bqS:aM C 140 PM.LE:=fun _ _ _ hl h=>aK rfl rfl Tryz.func155 (by kernel_rfl) bnB hl h
theorem bnC:(T aZP).func Tryz.f151=some PM.LF:=by kernel_rfl
theorem bqT:aM C 141 PM.LF:=fun _ _ _ hl h=>aK rfl rfl Tryz.func151 (by kernel_rfl) bnC hl h
theorem bnD:(T aAM).func Tryz.f157=some PM.sK:=by kernel_rfl
theorem bqU:aM C 142 PM.sK:=fun _ _ _ hl h=>aK rfl rfl Tryz.func157 (by kernel_rfl) bnD hl h
theorem bnE:(T bgE).func Tryz.f156=some PM.nup:=by kernel_rfl
theorem bqV:aM C 143 PM.nup:=fun _ _ _ hl h=>aK rfl rfl Tryz.func156 (by kernel_rfl) bnE hl h
theorem bnF:(T a3C).func Tryz.f9=some PM.begin:=by kernel_rfl
theorem bqW:aM C 144 PM.begin:=fun _ _ _ hl h=>aK rfl rfl Tryz.func9 (by kernel_rfl) bnF hl h
theorem bnG:(T bdB).func Tryz.f10=some PM.step:=by kernel_rfl
theorem bqX:aM C 145 PM.step:=fun _ _ _ hl h=>aK rfl rfl Tryz.func10 (by kernel_rfl) bnG hl h
theorem bnH:(T bdP).func Tryz.f12=some PM.aFC:=by kernel_rfl
theorem bqY:aM C 146 PM.aFC:=fun _ _ _ hl h=>aK rfl rfl Tryz.func12 (by kernel_rfl) bnH hl h
theorem bnI:(T aWI).func Tryz.f31=some PM.BS:=by kernel_rfl
theorem bqZ:aM C 153 PM.BS:=fun _ _ _ hl h=>aK rfl rfl Tryz.func31 (by kernel_rfl) bnI hl h
theorem bnJ:(T aDU).func Tryz.f85=some PM.xN:=by kernel_rfl
theorem brA:aM C 156 PM.xN:=fun _ _ _ hl h=>aK rfl rfl Tryz.func85 (by kernel_rfl) bnJ hl h
theorem bnK:(T a1C).func Tryz.f48=some PM.wC:=by kernel_rfl
theorem brB:aM C 160 PM.wC:=fun _ _ _ hl h=>aK rfl rfl Tryz.func48 (by kernel_rfl) bnK hl h
theorem bnL:(T a1E).func Tryz.f47=some PM.NF:=by kernel_rfl
theorem brC:aM C 161 PM.NF:=fun _ _ _ hl h=>aK rfl rfl Tryz.func47 (by kernel_rfl) bnL hl h
theorem bnN:(T a3W).func Tryz.f23=some PM.DN:=by kernel_rfl
theorem brE:aM C 240 PM.DN:=fun _ _ _ hl h=>aK rfl rfl Tryz.func23 (by kernel_rfl) bnN hl h
theorem bnO:(T a3N).func Tryz.f24=some PM.YE:=by kernel_rfl
theorem brF:aM C 241 PM.YE:=fun _ _ _ hl h=>aK rfl rfl Tryz.func24 (by kernel_rfl) bnO hl h
theorem bnP:(T a3U).func Tryz.f26=some PM.YQ:=by kernel_rfl
theorem brG:aM C 242 PM.YQ:=fun _ _ _ hl h=>aK rfl rfl Tryz.func26 (by kernel_rfl) bnP hl h
theorem bnQ:(T a9K).func Tryz.f25=some PM.asM:=by kernel_rfl
theorem brH:aM C 243 PM.asM:=fun _ _ _ hl h=>aK rfl rfl Tryz.func25 (by kernel_rfl) bnQ hl h
theorem bnR:(T aXV).func Tryz.f13=some PM.JG:=by kernel_rfl
theorem brI:aM C 244 PM.JG:=fun _ _ _ hl h=>aK rfl rfl Tryz.func13 (by kernel_rfl) bnR hl h
theorem bnS:(T aDU).func Tryz.f27=some PM.xN:=by kernel_rfl
theorem brJ:aM C 245 PM.xN:=fun _ _ _ hl h=>aK rfl rfl Tryz.func27 (by kernel_rfl) bnS hl h
theorem bnT:(T aTK).func Tryz.f14=some PM.AX:=by kernel_rfl
theorem brK:aM C 246 PM.AX:=fun _ _ _ hl h=>aK rfl rfl Tryz.func14 (by kernel_rfl) bnT hl h
theorem bnU:(T aOD).func Tryz.f28=some PM.MM:=by kernel_rfl
theorem brL:aM C 247 PM.MM:=fun _ _ _ hl h=>aK rfl rfl Tryz.func28 (by kernel_rfl) bnU hl h
theorem bnV:(T aXY).func Tryz.f15=some PM.JJ:=by kernel_rfl
theorem brM:aM C 248 PM.JJ:=fun _ _ _ hl h=>aK rfl rfl Tryz.func15 (by kernel_rfl) bnV hl h
theorem bnW:(T a3S).func Tryz.f5=some PM.YP:=by kernel_rfl
theorem brN:aM C 249 PM.YP:=fun _ _ _ hl h=>aK rfl rfl Tryz.func5 (by kernel_rfl) bnW hl h
theorem bnX:(T aVM).func Tryz.f16=some PM.BK:=by kernel_rfl
theorem brO:aM C 250 PM.BK:=fun _ _ _ hl h=>aK rfl rfl Tryz.func16 (by kernel_rfl) bnX hl h
theorem bnY:(T a6B).func Tryz.f17=some PM.abL:=by kernel_rfl
theorem brP:aM C 251 PM.abL:=fun _ _ _ hl h=>aK rfl rfl Tryz.func17 (by kernel_rfl) bnY hl h
theorem bnZ:(T a5Z).func Tryz.f7=some PM.abJ:=by kernel_rfl
theorem brQ:aM C 252 PM.abJ:=fun _ _ _ hl h=>aK rfl rfl Tryz.func7 (by kernel_rfl) bnZ hl h
theorem boA:(T aVO).func Tryz.f18=some PM.BL:=by kernel_rfl
theorem brR:aM C 253 PM.BL:=fun _ _ _ hl h=>aK rfl rfl Tryz.func18 (by kernel_rfl) boA hl h
theorem boB:(T aOD).func Tryz.f35=some PM.MM:=by kernel_rfl
theorem brS:aM C 254 PM.MM:=fun _ _ _ hl h=>aK rfl rfl Tryz.func35 (by kernel_rfl) boB hl h
theorem boC:(T a6I).func Tryz.f19=some PM.abR:=by kernel_rfl
theorem brT:aM C 255 PM.abR:=fun _ _ _ hl h=>aK rfl rfl Tryz.func19 (by kernel_rfl) boC hl h
theorem boD:(T a6G).func Tryz.f8=some PM.abQ:=by kernel_rfl
theorem brU:aM C 256 PM.abQ:=fun _ _ _ hl h=>aK rfl rfl Tryz.func8 (by kernel_rfl) boD hl h
theorem boE:(T bjM).func Tryz.f36=some PM.qk:=by kernel_rfl
theorem brV:aM C 257 PM.qk:=fun _ _ _ hl h=>aK rfl rfl Tryz.func36 (by kernel_rfl) boE hl h
theorem boF:(T aHJ).func Tryz.f33=some PM.sS:=by kernel_rfl
theorem brW:aM C 258 PM.sS:=fun _ _ _ hl h=>aK rfl rfl Tryz.func33 (by kernel_rfl) boF hl h
theorem boH:(T aBA).func Tryz.f32=some PM.sM:=by kernel_rfl
theorem brY:aM C 260 PM.sM:=fun _ _ _ hl h=>aK rfl rfl Tryz.func32 (by kernel_rfl) boH hl h
theorem boI:(T a0I).func Tryz.f49=some PM.MG:=by kernel_rfl
theorem brZ:aM C 261 PM.MG:=fun _ _ _ hl h=>aK rfl rfl Tryz.func49 (by kernel_rfl) boI hl h
theorem boG:(T a5E).func Tryz.f3=some PM.aaF:=by kernel_rfl
theorem brX:aM C 259 PM.aaF:=fun _ _ _ hl h=>aK rfl rfl Tryz.func3 (by kernel_rfl) boG hl h
theorem bnM:(T aXR).func Tryz.f20=some PM.concat:=by kernel_rfl
theorem brD:aM C 178 PM.concat:=fun _ _ _ hl h=>aK rfl rfl Tryz.func20 (by kernel_rfl) bnM hl h
theorem beX:cK C:={
 r24:=q24,
 r26:=q26,
 r30:=q30,
 r31:=q31,
 r32:=q32,
 r33:=q33,
 r34:=q34,
 r35:=q35,
 r36:=q36,
 r37:=q37,
 r38:=q38,
 r39:=q39,
 r40:=q40,
 r41:=q41,
 r42:=q42,
 r43:=q43,
 r44:=q44,
 r45:=q45,
 r46:=q46,
 r47:=q47,
 r48:=q48,
 r49:=q49,
 r50:=q50,
 r51:=q51,
 r52:=q52,
 r53:=q53,
 r54:=q54,
 r55:=q55,
 r56:=q56,
 r57:=q57,
 r58:=q58,
 r59:=q59,
 r60:=q60,
 r61:=q61,
 r62:=q62,
 r63:=q63,
 r64:=q64,
 r65:=q65,
 r66:=q66,
 r67:=q67,
 r68:=q68,
 r69:=q69,
 r70:=q70,
 r71:=q71,
 r72:=q72,
 r73:=q73,
 r74:=q74,
 r75:=q75,
 r76:=q76,
 r82:=q82,
 r85:=q85,
 r86:=q86,
 r89:=q89,
 r91:=q91,
 r95:=q95,
 r96:=q96,
 r97:=q97,
 r98:=q98,
 r99:=q99,
 r100:=bpE,
 r101:=bpF,
 r102:=bpG,
 r103:=bpH,
 r104:=bpI,
 r105:=bpJ,
 r106:=bpK,
 r107:=bpL,
 r108:=bpM,
 r109:=bpN,
 r110:=bpO,
 r111:=bpP,
 r112:=bpQ,
 r113:=bpR,
 r114:=bpS,
 r115:=bpT,
 r116:=bpU,
 r117:=bpV,
 r118:=bpW,
 r119:=bpX,
 r120:=bpY,
 r121:=bpZ,
 r122:=bqA,
 r123:=bqB,
 r124:=bqC,
 r125:=bqD,
 r126:=bqE,
 r127:=bqF,
 r128:=bqG,
 r129:=bqH,
 r130:=bqI,
 r131:=bqJ,
 r132:=bqK,
 r133:=bqL,
 r134:=bqM,
 r135:=bqN,
 r136:=bqO,
 r137:=bqP,
 r138:=bqQ,
 r139:=bqR,
 r140:=bqS,
 r141:=bqT,
 r142:=bqU,
 r143:=bqV,
 r144:=bqW,
 r145:=bqX,
 r146:=bqY,
 r153:=bqZ,
 r156:=brA,
 r160:=brB,
 r161:=brC,
 r240:=brE,
 r241:=brF,
 r242:=brG,
 r243:=brH,
 r244:=brI,
 r245:=brJ,
 r246:=brK,
 r247:=brL,
 r248:=brM,
 r249:=brN,
 r250:=brO,
 r251:=brP,
 r252:=brQ,
 r253:=brR,
 r254:=brS,
 r255:=brT,
 r256:=brU,
 r257:=brV,
 r258:=brW,
 r260:=brY,
 r261:=brZ }
end Go.Proofs.YtiikgogbaninlaaGreat
namespace Go.Proofs.YtiikgogbaninlaaGreat
open Go Go.PM Go.RowKit Go.ChangeShapes Go.WideShapes
theorem Tryz.own:ownKnob Tryz.prog.godebug=none:=by kernel_rfl
theorem Tryz.laidOut:laidOutB Tryz.prog=true:=by kernel_rfl
theorem aDP:Tryz.t3.bytes=8:=by kernel_rfl
theorem ahK {n:Nat} (h:0<n):Builtin.nextslicecap n 0=n:=by
 unfold Builtin.nextslicecap
 rw[if_pos Om]
theorem aYU (n:Int) (h0:0≤n) (h1:n≤1000000) (w:World):Calls Tryz.prog 37 #[.slice none 0 0,.int .i64 n] w fun e w' =>
  (n=0∧e=.returned (.slice none 0 0)∧w'=w)∨(0<n∧∃ cap cs,e=.returned (.slice (some ⟨w.heap.size,0,none⟩) 0 cap)∧w'=(w.alloc (.cells cs 3)).drew∧cs.size=cap∧cap≤maxLen):=by
 go_enter Tryz.func37,Tryz.ntmps37
 go_wp2
 all_goals (try (exfalso; simp only[aDP] at *; omega))
 ·exfalso
  rw[ahK Om] at *
  simp only[aDP] at *
  omega
 ·go_ret
  have hge:=grownCap_ge w n.toNat 0 3
  have hle:=grownCap_le_maxLen w n.toNat 0 3 (by simp only[maxLen]; omega)
  unfold grownCap at hge hle
  refine .inr ⟨_,rfl,_,rfl,?_,hle⟩
  simp only[Array.size_append,size_zeroCells]
  simp
  omega
 ·go_ret
  exact .inl ⟨by omega,rfl,rfl⟩
theorem aUA (n:Int) (h0:0≤n) (h1:n≤1000000):aE C 179 [.buJ,.int .i64 n] .nil (a8N n):=by
 refine⟨⟨Tryz.f37,Tryz.func37,by kernel_rfl,by kernel_rfl⟩,fun E w vs hN hW hvs=>?_⟩
 obtain⟨vl⟩:=vs
 cases hvs with
 | cons e1 e2 =>
 cases e2 with
 | cons e3 e4 =>
 cases e4
 cases e1
 cases e3
 refine (aYU n h0 h1 w).mono fun e w' he=>?_
 rcases he with ⟨rfl,rfl,rfl⟩ | ⟨hn,cap,cs,rfl,rfl,hs,hc⟩
 ·exact⟨_,.buJ,E,.nil,rfl,hW,.buJ,.refl _ _ _,.inl ⟨rfl,rfl,rfl⟩⟩
 ·have hR:hJ E 1 [] cs:=⟨by simp,by simp,fun i j pv h=>by simp[at2] at h⟩
  obtain⟨k1,k2⟩:=hW.AS 3 hR
  refine⟨_,.osl w.heap.size 1 0 0,_,_,rfl,k1.drew,?_,k2.WX rfl rfl rfl (bwR _) (fun _ _=>rfl),.inr ⟨hn,_,rfl,rfl⟩⟩
  exact .osl rfl rfl (.inr rfl) Om hc (abI _ _ _) Om
theorem asJ (ws:List (List Int)) (h1:ws.length≤1000000) (h2:ws.flatten.length≤1000000):aE C 178 [lists ws] .nil (aSM ws.flatten) :=
 brD.go (aXP ws h1 h2 aUA) rfl
set_option maxRecDepth 100000 in
theorem bcY:AR C:={
 concat:=asJ
 sort:=fun o xs hx hl=>aWD Tryz.axH (by kernel_rfl) ⟨_,Tryz.func21,by kernel_rfl,by kernel_rfl⟩ o xs hx hl
 sort0:=aIB Tryz.axH (by kernel_rfl) ⟨_,Tryz.func21,by kernel_rfl,by kernel_rfl⟩ _ _ (.inl rfl)
 compact:=fun o xs hx hl=>aqH Tryz.QV (by kernel_rfl) ⟨_,Tryz.func22,by kernel_rfl,by kernel_rfl⟩ o xs hx hl
 compact0:=agI Tryz.QV (by kernel_rfl) ⟨_,Tryz.func22,by kernel_rfl,by kernel_rfl⟩ _ _ (.inl rfl) }
def argKinds:List AT:=[.one (.sl [.int .i64]),.one (.sl [.int .i64]),.one (.int .i64)]
theorem a9F:AU Tryz.prog 8 Tryz.f3.params.toList=some argKinds:=by kernel_rfl
theorem bbE (pvs:List PV) (h:AT.TyL argKinds pvs):aE C 259 pvs .nil (aC (.bool true)):=by
 match pvs,h with
 | [a,b,c],h =>
  obtain⟨h1,h2,h3,-⟩:=h
  cases h1 with | one h1 =>
  cases h2 with | one h2 =>
  cases h3 with | one h3 =>
  obtain⟨l,rfl,hl,hx⟩:=Ty.axF h1
  obtain⟨down,rfl,-,-⟩:=Ty.axF h2
  obtain⟨n,rfl,-⟩:=Ty.ahA h3
  refine bjN beX bcY brX l down ⟨?_,fun x hm=>?_⟩ n
  ·have:maxLen≤9223372036854775807:=by decide
   omega
  ·have e1:IntKind.i64.min=-9223372036854775808:=by decide
   have e2:IntKind.i64.max=9223372036854775807:=by decide
   have h1:=(hx x hm).1
   have h2:=(hx x hm).2
   rw[e1] at h1
   rw[e2] at h2
   unfold cQ
   omega
set_option maxRecDepth 100000 in
theorem MO (os:Os) (started:os.Started) (H:Type) (enc:TypeId × Value→H) :
  ReturnsInHanded {} Tryz.checked os 3 .any (Rows.rolloutFitsSpec.pre6 enc Tryz.prog Tryz.f3 Rows.rolloutFitsRow.domain false) (Rows.rolloutFitsSpec.post enc Tryz.prog Tryz.f3 false true false false):=by
 refine returnsInHanded_of_change (C:=Tryz.checked) Tryz.own started (by kernel_rfl) Tryz.func3
  (ChangeSpec.witness6 (enc:=enc) (C:=Tryz.checked) false ⟨#[],#[.slice none 0 0,.slice none 0 0,.int .i64 0],[]⟩ 8 (by kernel_rfl) (by kernel_rfl) (by kernel_rfl) (by kernel_rfl)) ?_
 intro W base args ds gs before bvC hW _ _
 exact asI (P:=Tryz.prog) (num:=num) (name:=259) (n:=8) (ats:=argKinds) (bt:=4) Tryz.laidOut (by kernel_rfl) (by kernel_rfl) (by kernel_rfl) rfl
  (fun ds hd=>by
   match ds,hd with
   | [d1,d2,d3],_=>exact⟨rfl,rfl,rfl⟩)
  (by kernel_rfl) a9F bbE bvC hW
theorem rolloutFits_holds:Rows.RolloutFitsSaid :=
 OpenClaim.holds_of_wide 3 Tryz.f3 rfl rfl rfl rfl rfl rfl rfl ⟨rfl,rfl,rfl,rfl,rfl⟩ rfl rfl rfl rfl rfl (by kernel_rfl) Tryz.func3 (by kernel_rfl)
  (of_decide_eq_true (by kernel_rfl)) (by unfold Func.isWrapper; first | (rw[if_pos (by decide +kernel)]; kernel_rfl) | (rw[if_neg (by decide +kernel)]; exact⟨rfl,rfl⟩))
  (fun os started H enc _=>MO os started H enc)
#print axioms rolloutFits_holds
end Go.Proofs.YtiikgogbaninlaaGreat
