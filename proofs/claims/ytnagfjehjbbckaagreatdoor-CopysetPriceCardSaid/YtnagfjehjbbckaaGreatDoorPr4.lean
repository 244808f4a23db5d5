/-
  Texts of ours, joined. No condition.
-/
import Derived.Test.YtnagfjehjbbckaaGreatDoorPr1
import Derived.Test.YtnagfjehjbbckaaGreatDoorPr2
import Derived.Test.YtnagfjehjbbckaaGreatDoorPr3
import Derived.RangeFuncRecord
set_option linter.unusedSimpArgs false
set_option linter.unusedVariables false
open Nat renaming reduceEqDiff → γ, reduceAdd → δ, reduceSub → ε, reduceMul → ζ, reduceLT → η, reduceLeDiff → θ, reduceBEq → τ
open Int renaming reduceLT → ι, reduceLE → κ, reduceEq → μ, reduceToNat → ν, reduceAdd → ξ, reduceNeg → ο, reduceBEq → ρ, reduceBNe → σ
open List renaming reduceReplicate → υ
open List renaming length_map → aYN, getElem_mem → aYQ, replicate → aYR, length_append → aYU, mem_cons → aYY, getElem?_eq_getElem → aZA, length_singleton → aZB, getD_eq_getElem?_getD → aZG, length_take → aZH, take_of_length_le → aZJ, take_length → aZK, append_assoc → a0A, drop_zero → a0B, map_cons → a0D, length_cons → a0F, getElem?_eq_none → a0H, append_nil → a0M, drop_eq_getElem_cons → a0O, length_drop → a0R, getElem?_append_left → a0V, length_set → a0W, map_nil → a0X, mem_of_getElem? → a1C, length_nil → a1H, set_append_right → a1M, take_append_drop → a1N, nil_append → a2G, drop_of_length_le → a2L
open Nat renaming zero_le → aYS, le_refl → aYV, mul_add → aZE, lt_or_ge → aZL, zero_add → aZM, mul_assoc → aZP, le_trans → aZS, mul_comm → aZT, add_mul → aZX, mul_le_mul_right → aZY, mod_eq_of_lt → a0E, mod_lt → a0I, pow_succ → a0L, add_zero → a0S, eq_zero_or_pos → a1B, add_assoc → a1D, min_eq_left → a1E, mul_le_mul_left → a1F, pos_of_ne_zero → a1G, pow_pos → a1K, div_le_self → a1O, pow_le_pow_right → a1P, div_lt_iff_lt_mul → a1T, mul_le_mul → a1U, div_add_mod → a2H, div_eq_of_lt → a2I
open Bool renaming false_eq_true → a1S
open Option renaming map_eq_some_iff → aYX, some → a0Y
open Int renaming tdiv → a1A
open Array renaming replicate → a0N, getElem?_eq_some_iff → a2A, getElem?_eq_getElem → a2D, getD_eq_getD_getElem? → a2K
namespace Go.PM
open Go
def Gp:Rg:=[iZ 4]
def Gq:Rg:=[iZ 5]
def Gr:Rg:=[iA 6 (.mv (.const (.int .u64 0)))]
def Gs:Rg:=[iI 7 0]
def Gt:Rg:=[iM 10 7,iM 11 0,iN 12 11,iB 13 .lss 10 12]
def Gu:Rg:=[iM 16 6,iM 8 16]
def Gv:Rg:=[iM 17 7,iM 18 1,iN 19 18,iB 20 .lss 17 19]
def Gw:Rg:=[iM 21 8,iM 22 1,iM 23 7,iX 24 1 22 23,iL 25 24,iA 26 (.conv .u64 (Tm 25)),iB 27 .add 21 26,iM 8 27]
def UW:Rg:=[iM 28 0,iM 29 7,iX 30 1 28 29,iL 31 30,iA 32 (.conv .u64 (Tm 31)),iM 9 32]
def UX:Rg:=[iA 6 (.mv (.const (.int .u64 0)))]
def NQ:Rg:=[iM 33 9,iM 34 8,iB 35 .lss 33 34]
def NR:Rg:=[iM 36 9,iA 37 (.bin .add (Tm 36) (.const (.int .u64 4294967296))),iM 9 37]
def NS:Rg:=[iA 6 (.mv (.const (.int .u64 1)))]
def yL:Rg:=[iM 38 5,iM 39 9,iM 40 8,iB 41 .sub 39 40,iA 42 (.conv .u32 (Tm 41)),iA 43 (.aXI true 1 1 [(.int .u32 0)] [(0,(Tm 42))]),iA 44 (.append 1 4 (Tm 38) (Tm 43)),iM 5 44]
def yM:Rg:=[iM 14 7,iC 15 .add 14 1,iM 7 15]
def se:aC:=(.seq (sq Gt (.cond (Tm 13) .skip (.exit 0))) (.seq (.block 1 (sq Gu (.seq (sq Gv (.cond (Tm 20) (.region Gw) .skip)) (sq UW (sq UX (.seq (sq NQ (.cond (Tm 35) (sq NR (.region NS)) .skip)) (.region yL))))))) (.region yM)))
def sf:Rg:=[iM 45 5,iK 46 38 45,iM 4 46]
def FN:aC:=(sq Gp (sq Gq (sq Gr (.seq (sq Gs (.block 0 (.loop se))) (sq sf .ret)))))
def awE:List Nat:=[43]
def Vp:aX:=⟨2,47,FN,[.tmp 4]⟩
def Vt:Rg:=[iZ 4]
def Vu:Rg:=[iZ 5]
def Vv:Rg:=[iA 6 (.mv (.const (.int .u64 0)))]
def Vw:Rg:=[iI 7 0]
def Vx:Rg:=[iM 9 7,iM 10 0,iN 11 10,iB 12 .lss 9 11,iM 13 12,gM 14 7 13 false,gM 15 1 13 false,gN 16 15 13 false,gB 17 .lss 14 16 13 false,iQ 18 13 17,iM 19 18,gM 20 6 19 false,iG 21 (.bin .gtr (Tm 20) (.const (.int .u64 0))) 19 false,iQ 22 19 21]
def gd:Rg:=[iM 25 6,iM 8 25]
def ge:Rg:=[iM 26 7,iM 27 0,iN 28 27,iB 29 .lss 26 28]
def gf:Rg:=[iM 30 8,iM 31 0,iM 32 7,iX 33 1 31 32,iL 34 33,iA 35 (.conv .u64 (Tm 34)),iB 36 .add 30 35,iM 8 36]
def NU:Rg:=[iM 37 7,iM 38 1,iN 39 38,iB 40 .lss 37 39]
def NV:Rg:=[iM 41 8,iM 42 1,iM 43 7,iX 44 1 42 43,iL 45 44,iA 46 (.conv .u64 (Tm 45)),iB 47 .add 41 46,iM 8 47]
def CX:Rg:=[iM 48 5,iM 49 8,iA 50 (.conv .u32 (Tm 49)),iA 51 (.aXI true 1 1 [(.int .u32 0)] [(0,(Tm 50))]),iA 52 (.append 1 4 (Tm 48) (Tm 51)),iM 5 52]
def CY:Rg:=[iM 53 8,iA 54 (.bin .shr (Tm 53) (.const (.int .u64 32))),iM 6 54]
def CZ:Rg:=[iM 23 7,iC 24 .add 23 1,iM 7 24]
def Gz:aC:=(.seq (sq Vx (.cond (Tm 22) .skip (.exit 0))) (.seq (.block 1 (sq gd (.seq (sq ge (.cond (Tm 29) (.region gf) .skip)) (.seq (sq NU (.cond (Tm 40) (.region NV) .skip)) (sq CX (.region CY)))))) (.region CZ)))
def VA:Rg:=[iM 55 5,iK 56 38 55,iM 4 56]
def NT:aC:=(sq Vt (sq Vu (sq Vv (.seq (sq Vw (.block 0 (.loop Gz))) (sq VA .ret)))))
def aFF:List Nat:=[51]
def apO:aX:=⟨2,57,NT,[.tmp 4]⟩
def G1:Rg:=[iZ 4]
def G2:Rg:=[iM 10 0,iN 11 10,iM 12 1,iN 13 12,iB 14 .add 11 13,iA 15 (.aXK 1 4 [(.int .u32 0)] (Tm 14) (Tm 14)),iM 5 15]
def G3:Rg:=[iI 6 0]
def G4:Rg:=[iM 16 6,iM 17 0,iN 18 17,iB 19 .lss 16 18]
def VD:Rg:=[iA 7 (.mv (.const (.int .u64 0)))]
def VE:Rg:=[iI 8 0]
def G5:Rg:=[iM 22 8,iM 23 1,iN 24 23,iB 25 .lss 22 24]
def G6:Rd:=[(iM 28 0,false),(iM 29 6,false),(iX 30 1 28 29,false),(iL 31 30,false),(iA 32 (.conv .u64 (Tm 31)),false),(iM 33 1,false),(iM 34 8,false),(iX 35 1 33 34,false),(iL 36 35,false),(iA 37 (.conv .u64 (Tm 36)),false),(iB 38 .mul 32 37,false),(iM 39 5,false),(iM 40 6,false),(iM 41 8,false),(iB 42 .add 40 41,false),(iX 43 1 39 42,false),(iL 44 43,false),(iA 45 (.conv .u64 (Tm 44)),false),(iB 46 .add 38 45,false),(iM 47 7,false),(iB 48 .add 46 47,false),(iM 9 48,false)]
def G7:Rg:=[iM 49 5,iM 50 6,iM 51 8,iB 52 .add 50 51,iM 53 9,iA 54 (.conv .u32 (Tm 53)),iX 55 1 49 52,iS 1 55 54]
def G8:Rg:=[iM 56 9,iA 57 (.bin .shr (Tm 56) (.const (.int .u64 32))),iM 7 57]
def sm:Rg:=[iM 26 8,iC 27 .add 26 1,iM 8 27]
def NW:aC:=(.seq (sq G5 (.cond (Tm 25) .skip (.exit 2))) (.seq (.block 3 (dq G6 (sq G7 (.region G8)))) (.region sm)))
def NX:Rg:=[iM 58 5,iM 59 6,iM 60 1,iN 61 60,iB 62 .add 59 61,iM 63 7,iA 64 (.conv .u32 (Tm 63)),iX 65 1 58 62,iS 1 65 64]
def sn:Rg:=[iM 20 6,iC 21 .add 20 1,iM 6 21]
def sk:aC:=(.seq (sq G4 (.cond (Tm 19) .skip (.exit 0))) (.seq (.block 1 (sq VD (.seq (sq VE (.block 2 (.loop NW))) (.region NX)))) (.region sn)))
def so:Rg:=[iM 66 5,iK 67 38 66,iM 4 67]
def FO:aC:=(sq G1 (sq G2 (.seq (sq G3 (.block 0 (.loop sk))) (sq so .ret))))
def awI:List Nat:=[]
def Vy:aX:=⟨2,68,FO,[.tmp 4]⟩
def agE:Rg:=[iZ 4,iI 5 0]
def agF:Rg:=[iM 7 0,iK 8 41 7,iM 9 8,gM 10 1 9 false,gK 11 41 10 9 false,iQ 12 9 11]
def yj:Rg:=[iZ 4,iI 5 2]
def agG:Rg:=[iM 13 0,iK 14 38 13,iM 15 1,iK 16 38 15,iK2 17 43 14 16,iM 6 17]
def agH:Rg:=[iM 18 6,iK 19 41 18]
def agI:Rg:=[iZ 4,iI 5 2]
def agJ:Rg:=[iM 20 6,iM 4 20,iI 5 0]
def UQ:aC:=(sq agE (.seq (sq agF (.cond (Tm 12) (sq yj .ret) .skip)) (sq agG (.seq (sq agH (.cond (Tm 19) (sq agI .ret) .skip)) (sq agJ .ret)))))
def aLS:List Nat:=[]
def aEN:aX:=⟨2,21,UQ,[.tmp 4,.tmp 5]⟩
def ahP:Rg:=[iZ 4,iI 5 0]
def ahQ:Rg:=[iM 6 0,iK 7 41 6,iM 8 7,gM 9 1 8 false,gK 10 41 9 8 false,iQ 11 8 10]
def yo:Rg:=[iZ 4,iI 5 2]
def ahR:Rg:=[iM 12 0,iM 13 1,iK2 14 32 12 13,iC 15 .lss 14 0]
def ahS:Rg:=[iZ 4,iI 5 4]
def ahT:Rg:=[iM 16 0,iK 17 38 16,iM 18 1,iK 19 38 18,iK2 20 42 17 19,iM 4 20,iI 5 0]
def VC:aC:=(sq ahP (.seq (sq ahQ (.cond (Tm 11) (sq yo .ret) .skip)) (.seq (sq ahR (.cond (Tm 15) (sq ahS .ret) .skip)) (sq ahT .ret))))
def aME:List Nat:=[]
def aFH:aX:=⟨2,21,VC,[.tmp 4,.tmp 5]⟩
def ahI:Rg:=[iZ 4,iI 5 0]
def ahJ:Rg:=[iM 7 0,iK 8 41 7,iM 9 8,gM 10 1 9 false,gK 11 41 10 9 false,iQ 12 9 11]
def yn:Rg:=[iZ 4,iI 5 2]
def ahK:Rg:=[iM 13 0,iK 14 38 13,iM 15 1,iK 16 38 15,iK2 17 44 14 16,iM 6 17]
def ahL:Rg:=[iM 18 6,iK 19 41 18]
def ahM:Rg:=[iZ 4,iI 5 2]
def ahN:Rg:=[iM 20 6,iM 4 20,iI 5 0]
def UY:aC:=(sq ahI (.seq (sq ahJ (.cond (Tm 12) (sq yn .ret) .skip)) (sq ahK (.seq (sq ahL (.cond (Tm 19) (sq ahM .ret) .skip)) (sq ahN .ret)))))
def aMA:List Nat:=[]
def aEY:aX:=⟨2,21,UY,[.tmp 4,.tmp 5]⟩
def Uy:Rg:=[iI 2 0]
def Uz:Rg:=[iM 5 0,iK 6 38 5,iM 0 6]
def U1:Rg:=[iM 7 0,iN 8 7,iC 9 .eql 8 0]
def U2:Rg:=[iI 2 0]
def U3:Rg:=[iM 10 0,iN 11 10,iC 12 .sub 11 1,iA 13 (.bin .mul (Ci 32) (Tm 12)),iM 3 13]
def U4:Rg:=[iM 14 0,iM 15 0,iN 16 15,iC 17 .sub 16 1,iX 18 1 14 17,iL 19 18,iM 4 19]
def U5:Rg:=[iM 20 4,iA 21 (.bin .gtr (Tm 20) (.const (.int .u32 0)))]
def U6:Rg:=[iM 24 3,iC 25 .add 24 1,iM 3 25]
def U7:Rg:=[iM 22 4,iA 23 (.bin .quo (Tm 22) (.const (.int .u32 2))),iM 4 23]
def Ux:aC:=(.seq (sq U5 (.cond (Tm 21) .skip (.exit 0))) (.seq (.block 1 (.region U6)) (.region U7)))
def Gj:Rg:=[iM 26 3,iM 2 26]
def NK:aC:=(sq Uy (sq Uz (.seq (sq U1 (.cond (Tm 9) (sq U2 .ret) .skip)) (sq U3 (.seq (sq U4 (.block 0 (.loop Ux))) (sq Gj .ret))))))
def aEP:List Nat:=[]
def apE:aX:=⟨1,27,NK,[.tmp 2]⟩
def awJ:Rg:=[iZ 4]
def awK:Rg:=[iM 9 0,iN 10 9,iC 11 .eql 10 0]
def awL:Rg:=[iZ 4]
def awM:Rg:=[iM 12 1,iC 13 .quo 12 32,iA 14 (.aXK 1 4 [(.int .u32 0)] (Tm 13) (Tm 13)),iM 5 14]
def awN:Rg:=[iA 6 (.mv (.const (.int .u64 0)))]
def awO:Rg:=[iI 7 0]
def awP:Rg:=[iM 15 7,iM 16 0,iN 17 16,iB 18 .lss 15 17]
def awQ:Rg:=[iM 21 0,iM 22 7,iX 23 1 21 22,iL 24 23,iA 25 (.conv .u64 (Tm 24)),iM 26 1,iC 27 .rem 26 32,iA 28 (.conv .u64 (Tm 27)),iB 29 .shl 25 28,iM 30 6,iB 31 .or 29 30,iM 8 31]
def awR:Rg:=[iM 32 5,iM 33 8,iA 34 (.conv .u32 (Tm 33)),iA 35 (.aXI true 1 1 [(.int .u32 0)] [(0,(Tm 34))]),iA 36 (.append 1 4 (Tm 32) (Tm 35)),iM 5 36]
def awS:Rg:=[iM 37 8,iA 38 (.bin .shr (Tm 37) (.const (.int .u64 32))),iM 6 38]
def ahV:Rg:=[iM 19 7,iC 20 .add 19 1,iM 7 20]
def ahU:aC:=(.seq (sq awP (.cond (Tm 18) .skip (.exit 0))) (.seq (.block 1 (sq awQ (sq awR (.region awS)))) (.region ahV)))
def ahW:Rg:=[iM 39 5,iM 40 6,iA 41 (.conv .u32 (Tm 40)),iA 42 (.aXI true 1 1 [(.int .u32 0)] [(0,(Tm 41))]),iA 43 (.append 1 4 (Tm 39) (Tm 42)),iK 44 38 43,iM 4 44]
def gh:aC:=(sq awJ (.seq (sq awK (.cond (Tm 11) (sq awL .ret) .skip)) (sq awM (sq awN (.seq (sq awO (.block 0 (.loop ahU))) (sq ahW .ret))))))
def aPG:List Nat:=[35,42]
def uup:aX:=⟨2,45,gh,[.tmp 4]⟩
def Vd:Rg:=[iZ 4]
def Ve:Rg:=[iM 8 1,iC 9 .quo 8 32,iM 10 0,iN 11 10,iB 12 .geq 9 11]
def Vf:Rg:=[iZ 4]
def Vg:Rg:=[iZ 5]
def Vh:Rg:=[iM 13 1,iC 14 .quo 13 32,iM 6 14]
def Vi:Rg:=[iM 15 6,iM 16 0,iN 17 16,iB 18 .lss 15 17]
def Vj:Rg:=[iM 21 0,iM 22 6,iX 23 1 21 22,iL 24 23,iA 25 (.conv .u64 (Tm 24)),iM 7 25]
def Vk:Rg:=[iM 26 6,iC 27 .add 26 1,iM 28 0,iN 29 28,iB 30 .lss 27 29]
def Vl:Rg:=[iM 31 7,iM 32 0,iM 33 6,iC 34 .add 33 1,iX 35 1 32 34,iL 36 35,iA 37 (.conv .u64 (Tm 36)),iA 38 (.bin .shl (Tm 37) (.const (.int .u64 32))),iB 39 .or 31 38,iM 7 39]
def ga:Rg:=[iM 40 5,iM 41 7,iM 42 1,iC 43 .rem 42 32,iA 44 (.conv .u64 (Tm 43)),iB 45 .shr 41 44,iA 46 (.conv .u32 (Tm 45)),iA 47 (.aXI true 1 1 [(.int .u32 0)] [(0,(Tm 46))]),iA 48 (.append 1 4 (Tm 40) (Tm 47)),iM 5 48]
def UU:Rg:=[iM 19 6,iC 20 .add 19 1,iM 6 20]
def Gk:aC:=(.seq (sq Vi (.cond (Tm 18) .skip (.exit 0))) (.seq (.block 1 (sq Vj (.seq (sq Vk (.cond (Tm 30) (.region Vl) .skip)) (.region ga)))) (.region UU)))
def Gl:Rg:=[iM 49 5,iK 50 38 49,iM 4 50]
def NO:aC:=(sq Vd (.seq (sq Ve (.cond (Tm 12) (sq Vf .ret) .skip)) (sq Vg (.seq (sq Vh (.block 0 (.loop Gk))) (sq Gl .ret)))))
def aEU:List Nat:=[47]
def apJ:aX:=⟨2,51,NO,[.tmp 4]⟩
def Hq:Rg:=[iA 1 (.box true (Tm 0)),iT 2 false]
def Hr:Rg:=[iF 3 2 1,iL 4 3,iK 5 38 4,iN 6 5,iC 7 .gtr 6 0,iM 8 7,gF 9 2 1 8 true,gL 10 9 8 true,gK 11 38 10 8 true,gN 12 11 8 true,gC 13 .leq 12 128 8 true,iP 14 8 13,iM 15 14,gF 16 1 1 15 true,gL 17 16 15 true,gK 18 38 17 15 true,gN 19 18 15 true,gC 20 .leq 19 128 15 true,iP 21 15 20,iM 2 21]
def FT:aC:=(sq Hq (sq Hr .ret))
def axC:List Nat:=[1]
def Wy:aX:=⟨1,22,FT,[.tmp 2]⟩
def Hb:Rg:=[iA 1 (.box true (Tm 0)),iT 2 false]
def Hc:Rg:=[iF 3 1 1,iL 4 3,iN 5 4,iC 6 .gtr 5 128,iM 7 6,gF 8 2 1 7 false,gL 9 8 7 false,gN 10 9 7 false,gC 11 .gtr 10 128 7 false,iQ 12 7 11,iM 2 12]
def FP:aC:=(sq Hb (sq Hc .ret))
def awW:List Nat:=[1]
def Wd:aX:=⟨1,13,FP,[.tmp 2]⟩
def V8:Rg:=[iA 1 (.box true (Tm 0)),iA 2 (.alloc [zB,.aB,.aB]),iI 3 0]
def V9:Rg:=[iO 4 3 1,iK 5 48 4]
def Wa:Rg:=[iA 6 (.build [zB,.aB,.aB] []),iS 3 2 6,iI 3 2]
def Wb:Rg:=[iO 7 3 1,iS 3 2 7,iI 3 0]
def NZ:aC:=(sq V8 (.seq (sq V9 (.cond (Tm 5) (sq Wa .ret) .skip)) (sq Wb .ret)))
def aFM:List Nat:=[1]
def apV:aX:=⟨1,8,NZ,[.cell 2 (some 3),.tmp 3]⟩
def s9:Rg:=[iA 1 (.box true (Tm 0)),iA 2 (.alloc [zB,.aB,.aB]),iI 3 0]
def ta:Rg:=[iO 4 3 1,iK 5 56 4,iA 6 (.un .not (Tm 5))]
def tc:Rg:=[iA 7 (.build [zB,.aB,.aB] []),iS 3 2 7,iI 3 1]
def td:Rg:=[iF 8 0 1,iL 9 8,iF 10 1 1,iL 11 10,iF 12 2 1,iL 13 12,iA 14 (.call 58 [(Tm 9),(Tm 11),(Tm 13)]),iS 3 2 14,iI 3 0]
def BJ:aC:=(sq s9 (.seq (sq ta (.cond (Tm 6) (sq tc .ret) .skip)) (sq td .ret)))
def aqA:List Nat:=[1]
def yw:aX:=⟨1,15,BJ,[.cell 2 (some 3),.tmp 3]⟩
def Hn:Rg:=[iZ 4]
def Ho:Rg:=[iM 8 0,iM 9 1,iK2 10 36 8 9,iM 7 10,iE 11 7 0,iE 12 7 1,iM 5 11,iM 6 12]
def Hp:Rg:=[iM 13 5,iM 4 13]
def FS:aC:=(sq Hn (sq Ho (sq Hp .ret)))
def axA:List Nat:=[]
def Wx:aX:=⟨2,14,FS,[.tmp 4]⟩
def Hd:Rg:=[iA 2 (.box true (Tm 0)),iA 3 (.box true (Tm 1)),iI 4 0]
def He:Rd:=[(iF 9 1 2,false),(iL 10 9,false),(iF 11 2 3,false),(iL 12 11,false),(iK2 13 60 10 12,true),(iF 14 1 3,true),(iL 15 14,true),(iF 16 2 2,true),(iL 17 16,true),(iK2 18 60 15 17,true),(iM 5 13,false),(iM 6 18,false)]
def Hf:Rg:=[iF 19 0 2,iL 20 19,iM 21 20,gM 22 5 21 true,gN 23 22 21 true,gC 24 .gtr 23 0 21 true,iP 25 21 24,iF 26 0 3,iL 27 26,iM 28 27,gM 29 6 28 true,gN 30 29 28 true,gC 31 .gtr 30 0 28 true,iP 32 28 31,iM 7 25,iM 8 32]
def Hg:Rg:=[iM 34 7,iM 35 34,gM 36 8 35 true,iG 37 (.un .not (Tm 36)) 35 true,iP 38 35 37,iM 33 38]
def Hh:Rg:=[iI 4 (-1)]
def Hi:Rg:=[iM 40 8,iM 41 40,gM 42 7 41 true,iG 43 (.un .not (Tm 42)) 41 true,iP 44 41 43,iM 39 44]
def Hj:Rg:=[iI 4 1]
def Hk:Rg:=[iM 46 7,iM 45 46]
def Hl:Rg:=[iM 47 6,iM 48 5,iK2 49 32 47 48,iM 4 49]
def Hm:Rg:=[iM 50 5,iM 51 6,iK2 52 32 50 51,iM 4 52]
def FQ:aC:=(sq Hd (dq He (sq Hf (.seq (.block 0 (sq Hg (.cond (Tm 33) (sq Hh .ret) (sq Hi (.cond (Tm 39) (sq Hj .ret) (sq Hk (.cond (Tm 45) (sq Hl .ret) .skip))))))) (sq Hm .ret)))))
def awY:List Nat:=[2,3]
def Wm:aX:=⟨2,53,FQ,[.tmp 4]⟩
def We:Rg:=[iA 2 (.box true (Tm 0)),iA 3 (.box true (Tm 1)),iT 4 false]
def Wf:Rg:=[iO 5 3 2,iO 6 3 3,iK2 7 51 5 6,iC 8 .lss 7 0,iM 4 8]
def OA:aC:=(sq We (sq Wf .ret))
def aFQ:List Nat:=[2,3]
def apW:aX:=⟨2,9,OA,[.tmp 4]⟩
def Wn:Rg:=[iA 2 (.box true (Tm 0)),iA 3 (.box true (Tm 1)),iT 4 false]
def Wo:Rg:=[iO 5 3 2,iO 6 3 3,iK2 7 51 5 6,iC 8 .eql 7 0,iM 4 8]
def OE:aC:=(sq Wn (sq Wo .ret))
def aFU:List Nat:=[2,3]
def aqB:aX:=⟨2,9,OE,[.tmp 4]⟩
def Wp:Rg:=[iA 1 (.box true (Tm 0)),iI 2 0]
def Wq:Rd:=[(iO 3 3 1,true),(iA 4 (.call 47 [(Ci 0)]),true),(iK2 5 51 3 4,true),(iM 2 5,false)]
def OF:aC:=(sq Wp (dq Wq .ret))
def aFW:List Nat:=[1]
def aqC:aX:=⟨1,6,OF,[.tmp 2]⟩
def ahX:Rg:=[iA 2 (.box true (Tm 0)),iA 3 (.box true (Tm 1)),iA 4 (.alloc [zB,.aB,.aB]),iI 5 0]
def ahY:Rg:=[iO 15 3 2,iK 16 56 15,iA 17 (.un .not (Tm 16)),iM 18 17,gO 19 3 3 18 false,gK 20 56 19 18 false,iG 21 (.un .not (Tm 20)) 18 false,iQ 22 18 21]
def yq:Rg:=[iA 23 (.build [zB,.aB,.aB] []),iS 3 4 23,iI 5 1]
def ahZ:Rd:=[(iF 24 1 2,false),(iL 25 24,false),(iF 26 2 3,false),(iL 27 26,false),(iK2 28 60 25 27,true),(iF 29 1 3,true),(iL 30 29,true),(iF 31 2 2,true),(iL 32 31,true),(iK2 33 60 30 32,true),(iF 34 2 2,true),(iL 35 34,true),(iF 36 2 3,true),(iL 37 36,true),(iK2 38 60 35 37,true),(iM 6 28,false),(iM 7 33,false),(iM 8 38,false)]
def aiA:Rg:=[iF 39 0 2,iL 40 39,iF 41 0 3,iL 42 41,iA 43 (.eqb false (Tm 40) (Tm 42))]
def aiB:Rg:=[iM 45 6,iM 46 7,iK2 47 30 45 46,iM 44 47,iE 48 44 0,iE 49 44 1,iM 9 48,iM 10 49]
def aiC:Rg:=[iF 50 0 2,iL 51 50,iM 52 9,iM 53 8,iA 54 (.call 58 [(Tm 51),(Tm 52),(Tm 53)]),iK 55 57 54,iE 56 55 0,iE 57 55 1,iS 3 4 56,iM 5 57]
def aiD:Rg:=[iM 58 6,iM 59 7,iK2 60 32 58 59,iC 61 .geq 60 0]
def aiE:Rg:=[iM 63 6,iM 64 7,iK2 65 37 63 64,iM 62 65,iE 66 62 0,iE 67 62 1,iM 11 66,iM 12 67]
def aiF:Rg:=[iF 68 0 2,iL 69 68,iM 70 11,iM 71 8,iA 72 (.call 58 [(Tm 69),(Tm 70),(Tm 71)]),iK 73 57 72,iE 74 73 0,iE 75 73 1,iS 3 4 74,iM 5 75]
def V4:Rg:=[iM 77 7,iM 78 6,iK2 79 37 77 78,iM 76 79,iE 80 76 0,iE 81 76 1,iM 13 80,iM 14 81]
def V5:Rg:=[iF 82 0 3,iL 83 82,iM 84 13,iM 85 8,iA 86 (.call 58 [(Tm 83),(Tm 84),(Tm 85)]),iK 87 57 86,iE 88 87 0,iE 89 87 1,iS 3 4 88,iM 5 89]
def DA:aC:=(sq ahX (.seq (sq ahY (.cond (Tm 22) (sq yq .ret) .skip)) (dq ahZ (.seq (sq aiA (.cond (Tm 43) (sq aiB (sq aiC .ret)) .skip)) (.seq (sq aiD (.cond (Tm 61) (sq aiE (sq aiF .ret)) .skip)) (sq V4 (sq V5 .ret)))))))
def aMG:List Nat:=[2,3]
def apR:aX:=⟨2,90,DA,[.cell 4 (some 3),.tmp 5]⟩
def aiR:Rg:=[iA 2 (.alloc [zB,.aB,.aB]),iI 3 0]
def aiS:Rg:=[iA 8 (.call 47 [(Ci 0)]),iA 4 (.alloc [zB,.aB,.aB]),iS 3 4 8]
def aiT:Rg:=[iI 5 0]
def aiU:Rg:=[iM 9 5,iM 10 0,iN 11 10,iB 12 .lss 9 11]
def aiV:Rd:=[(iO 16 3 4,false),(iM 17 0,false),(iM 18 5,false),(iX 19 3 17 18,false),(iO 20 3 19,false),(iK2 21 46 16 20,true),(iM 15 21,false),(iE 22 15 0,false),(iE 23 15 1,true),(iA 6 (.alloc [zB,.aB,.aB]),true),(iS 3 6 22,true),(iM 7 23,false)]
def yy:Rg:=[iM 24 7,iC 25 .neq 24 0]
def aiW:Rg:=[iA 26 (.build [zB,.aB,.aB] []),iM 27 7,iS 3 2 26,iM 3 27]
def aiX:Rg:=[iO 28 3 6,iS 3 4 28]
def aiY:Rg:=[iM 13 5,iC 14 .add 13 1,iM 5 14]
def aiQ:aC:=(.seq (sq aiU (.cond (Tm 12) .skip (.exit 0))) (.seq (.block 1 (dq aiV (.seq (sq yy (.cond (Tm 25) (sq aiW .ret) .skip)) (.region aiX)))) (.region aiY)))
def Ww:Rg:=[iO 29 3 4,iS 3 2 29,iI 3 0]
def VK:aC:=(sq aiR (sq aiS (.seq (sq aiT (.block 0 (.loop aiQ))) (sq Ww .ret))))
def aMO:List Nat:=[]
def aFZ:aX:=⟨1,30,VK,[.cell 2 (some 3),.tmp 3]⟩
def vE:Rg:=[iT 4 false]
def vF:Rg:=[iM 5 0,iC 6 .geq 5 1,iM 7 6,gM 8 0 7 true,gC 9 .leq 8 6 7 true,iP 10 7 9,iM 11 10,gM 12 1 11 true,gC 13 .geq 12 0 11 true,iP 14 11 13,iM 15 14,gM 16 1 15 true,gC 17 .leq 16 4 15 true,iP 18 15 17,iM 19 18,gM 20 0 19 true,gM 21 1 19 true,gB 22 .add 20 21 19 true,gC 23 .leq 22 8 19 true,iP 24 19 23,iM 4 24]
def oN:aC:=(sq vE (sq vF .ret))
def aEG:List Nat:=[]
def MZ:aX:=⟨2,25,oN,[.tmp 4]⟩
def tv:Rg:=[iT 2 false]
def tw:Rg:=[iM 3 0,iA 4 (.bin .geq (Tm 3) (.const (.int .u8 97))),iM 5 4,gM 6 0 5 true,iG 7 (.bin .leq (Tm 6) (.const (.int .u8 122))) 5 true,iP 8 5 7,iM 9 8,gM 10 0 9 false,iG 11 (.bin .geq (Tm 10) (.const (.int .u8 65))) 9 false,gM 12 11 9 false,gM 13 0 12 true,iG 14 (.bin .leq (Tm 13) (.const (.int .u8 90))) 12 true,iG 15 (.pick (Tm 12) (Tm 14) (.const zB)) 9 false,iQ 16 9 15,iM 2 16]
def BM:aC:=(sq tv (sq tw .ret))
def aqJ:List Nat:=[]
def y8:aX:=⟨1,17,BM,[.tmp 2]⟩
def Hu:Rg:=[iT 2 false]
def Hv:Rg:=[iM 3 0,iA 4 (.bin .geq (Tm 3) (.const (.int .u8 48))),iM 5 4,gM 6 0 5 true,iG 7 (.bin .leq (Tm 6) (.const (.int .u8 57))) 5 true,iP 8 5 7,iM 2 8]
def FW:aC:=(sq Hu (sq Hv .ret))
def axE:List Nat:=[]
def Wz:aX:=⟨1,9,FW,[.tmp 2]⟩
def tf:Rg:=[iT 2 false]
def tg:Rg:=[iM 3 0,iK 4 65 3,iM 5 4,gM 6 0 5 false,gK 7 63 6 5 false,iQ 8 5 7,iM 9 8,gM 10 0 9 false,iG 11 (.bin .eql (Tm 10) (.const (.int .u8 45))) 9 false,iQ 12 9 11,iM 13 12,gM 14 0 13 false,iG 15 (.bin .eql (Tm 14) (.const (.int .u8 46))) 13 false,iQ 16 13 15,iM 2 16]
def BK:aC:=(sq tf (sq tg .ret))
def aqF:List Nat:=[]
def y6:aX:=⟨1,17,BK,[.tmp 2]⟩
def ti:Rg:=[iT 2 false]
def tj:Rg:=[iM 4 0,iA 5 (.aYC (Tm 4)),iC 6 .lss 5 1,iM 7 6,gM 8 0 7 false,iG 9 (.aYC (Tm 8)) 7 false,gC 10 .gtr 9 16 7 false,iQ 11 7 10,iM 12 11,gM 13 0 12 false,iG 14 (.aYD (Tm 13) (Ci 0)) 12 false,gK 15 65 14 12 false,iG 16 (.un .not (Tm 15)) 12 false,iQ 17 12 16]
def yO:Rg:=[iT 2 false]
def tk:Rg:=[iI 3 0]
def tp:Rg:=[iM 18 3,iM 19 0,iA 20 (.aYC (Tm 19)),iB 21 .lss 18 20]
def tq:Rg:=[iM 24 0,iM 25 3,iA 26 (.aYD (Tm 24) (Tm 25)),iK 27 64 26,iA 28 (.un .not (Tm 27))]
def tr:Rg:=[iT 2 false]
def tt:Rg:=[iM 22 3,iC 23 .add 22 1,iM 3 23]
def th:aC:=(.seq (sq tp (.cond (Tm 21) .skip (.exit 0))) (.seq (.block 1 (sq tq (.cond (Tm 28) (sq tr .ret) .skip))) (.region tt)))
def tu:Rg:=[iT 2 true]
def BL:aC:=(sq ti (.seq (sq tj (.cond (Tm 17) (sq yO .ret) .skip)) (.seq (sq tk (.block 0 (.loop th))) (sq tu .ret))))
def aqH:List Nat:=[]
def y7:aX:=⟨1,29,BL,[.tmp 2]⟩
open Go Go.Na
theorem qN (P:List Nat) (v:Nat):aL P++[[.int .u32 (v:Int)]]=aL (P++[v]):=by simp[aL]
theorem qM {P:List Nat} (h:P.length≤35184372087808):roomFor (aL P).length 1 4:=by
 unfold roomFor;rw[cC];simp only[maxLen]; omega
def WX (a b:List Nat) (v:PV) (c i:Nat):PF:=(((((PF.nil.set 0 (aJ a)).set 1 (aJ b)).set 5 (v)).set 6 (.int .u64 c)).set 7 (.int .i64 i))
theorem awD {C:Ctx} (L:pC C) (a b:List Nat) (ha:Lim a) (hb:Lim b) (η:val b≤val a) (hl:b.length≤a.length) (h1:a.length≤35184372087808) :
  FN.wp C (aR Vp.res (cA (aJ (aI (val a-val b))))) (PF.args [aJ a,aJ b]) .nil:=by
 simp only[go_sem,FN,Gp,Gq,Gr,Gs,Vp];refine wp_loop (α:=List Nat × Nat × PV × PH) (fun s=>WX a b s.2.2.1 s.2.1 s.1.length) (fun s=>s.2.2.2)
  (fun s=>s.1.length≤a.length∧Lim s.1∧s.2.1≤1∧val (a.take s.1.length)+4294967296 ^ s.1.length*s.2.1=val s.1+val (b.take s.1.length)∧bU s.2.2.2 1 s.2.2.1 (aL s.1)) (fun s=>a.length-s.1.length) ([],0,.aB,.nil) ⟨by simp,by simp[Lim],by simp,by simp[val],.nil⟩ ?_ a_ ?_
 ·unfold WX;exact Lq
 rintro⟨P,c,v,H0⟩ ⟨hP,i,hc,A,U⟩;simp only at hP i hc A U ⊢;simp only[go_sem,se,Gt,WX];by_cases V:P.length<a.length
 ·have E:(P.length:Int)<(a.length:Nat):=Om;have ε:=ha _ (aYQ V);have δ:=cH a V;have β:(aL a)[P.length]?=some [.int .u32 ((a[P.length]:Nat):Int)]:=bX a V;generalize hx:a[P.length]=x at *
  have ex:IntKind.u64.wrap ((x:Nat):Int)=((x:Nat):Int):=bF Om;have fin:∀ (t:Nat) (B:PF),t<4294967296→val (b.take (P.length+1))=val (b.take P.length)+4294967296 ^ P.length*t →
    B 0=some (aJ a)→B 1=some (aJ b)→B 5=some v→B 8=some (.int .u64 (c+t:Nat))→B 7=some (.int .i64 P.length) →
    ∀ K:bT,(∀ w l v' S H2,w.length=P.length+1→Lim w→l≤1→val (a.take (P.length+1))+4294967296 ^ w.length*l=val w+val (b.take (P.length+1))→(WX a b v' l w.length).le S→bU H2 1 v' (aL w)→K .normal S H2) →
    aC.wp C (.seq (.region UW) (.seq (.region UX) (.seq (.seq (.region NQ) (.cond (.tmp 35) (.seq (.region NR) (.region NS)) .skip)) (.region yL)))) (fF 1 (gS C (aC.wp C (.region yM)) K)) B H0:=by
   intro t B ht u g0 g1 g5 g8 Z K hK;have step:∀ (d l:Nat),d<4294967296→l≤1→x+4294967296*l=d+(c+t)→val (a.take (P.length+1))+4294967296 ^ (P.length+1)*l=val (P++[d])+val (b.take (P.length+1)):=by
    intro d l hd ζ he;have h2:4294967296 ^ P.length*(x+4294967296*l)=4294967296 ^ P.length*(d+(c+t)):=by rw[he]
    rw[aZE,aZE,aZE] at h2;rw[jQ,a0L,aZP,δ,u];omega
   simp only[go_sem,UW,g0,Z,β,ex,UX,NQ,g8];by_cases c2:x<c+t
   ·have F:((x:Nat):Int)<((c+t:Nat):Int):=Om;have O:IntKind.u64.wrap ((x:Int)+4294967296)=((x+4294967296:Nat):Int):=by rw[show (x:Int)+4294967296=((x+4294967296:Nat):Int) by omega];exact bF Om
    have J:IntKind.u64.wrap (((x+4294967296:Nat):Int)-((c+t:Nat):Int))=((x+4294967296-(c+t):Nat):Int):=by rw[show ((x+4294967296:Nat):Int)-((c+t:Nat):Int)=((x+4294967296-(c+t):Nat):Int) by omega];exact bF Om
    have M:IntKind.u32.wrap ((x+4294967296-(c+t):Nat):Int)=((x+4294967296-(c+t):Nat):Int):=by rw[cO,a0E Om]
    have N:(1:Nat)*1≤16777216:=by decide
    simp only[go_sem,F,NR,O,NS,yL,g5,g8,J,M,N];refine fP (src:=[[.int .u32 ((x+4294967296-(c+t):Nat):Int)]]) U rfl (qM Om) fun v' H' p _=>?_;rw[qN] at p;simp only[go_sem,yM,Z,dC (Om:P.length<9223372036854775807)];refine hK _ 1 v' _ H' (by simp) (i.app fun y R=>by simp at R; subst R; omega) (aYV _) ?_ ?_ p
    ·rw[aYU,aZB];exact step _ 1 Om (aYV _) Om
    ·unfold WX;rw[aYU,aZB];exact Lq
   ·have F:¬ ((x:Nat):Int)<((c+t:Nat):Int):=Om;have J:IntKind.u64.wrap (((x:Nat):Int)-((c+t:Nat):Int))=((x-(c+t):Nat):Int):=by rw[show ((x:Nat):Int)-((c+t:Nat):Int)=((x-(c+t):Nat):Int) by omega];exact bF Om
    have M:IntKind.u32.wrap ((x-(c+t):Nat):Int)=((x-(c+t):Nat):Int):=by rw[cO,a0E Om]
    have N:(1:Nat)*1≤16777216:=by decide
    simp only[go_sem,F,yL,g5,g8,J,M,N];refine fP (src:=[[.int .u32 ((x-(c+t):Nat):Int)]]) U rfl (qM Om) fun v' H' p _=>?_;rw[qN] at p;simp only[go_sem,yM,Z,dC (Om:P.length<9223372036854775807)];refine hK _ 0 v' _ H' (by simp) (i.app fun y R=>by simp at R; subst R; omega) (by decide) ?_ ?_ p
    ·rw[aYU,aZB];exact step _ 0 Om (by decide) Om
    ·unfold WX;rw[aYU,aZB];exact Lq
  simp only[aC.wp,go_sem] at fin;simp only[go_sem,E,Gu,Gv];by_cases W:P.length<b.length
  ·have H:(P.length:Int)<(b.length:Nat):=Om;have γ:=hb _ (aYQ W);have u:=cH b W;have eb:IntKind.u64.wrap ((b[P.length]:Nat):Int)=((b[P.length]:Nat):Int):=bF Om;have es:IntKind.u64.wrap ((c:Int)+(b[P.length]:Int))=((c+b[P.length]:Nat):Int):=fJ Om;simp only[go_sem,H,Gw,bX b W,eb,es];refine fin b[P.length] _ γ u rfl rfl rfl rfl rfl _ ?_;intro w l v' S H2 O J M Q X Y;rw[← O] at Q;exact aD (α:=List Nat × Nat × PV × PH) (w,l,v',H2) ⟨by simp only; omega,J,M,Q,Y⟩ (by simp only; omega) X b_
  ·have H:¬ (P.length:Int)<(b.length:Nat):=Om;have u:val (b.take (P.length+1))=val (b.take P.length)+4294967296 ^ P.length*0:=by rw[aZJ Om,aZJ Om]; simp
   simp only[go_sem,H];refine fin 0 _ (by decide) u rfl rfl rfl rfl rfl _ ?_;intro w l v' S H2 O J M Q X Y;rw[← O] at Q;exact aD (α:=List Nat × Nat × PV × PH) (w,l,v',H2) ⟨by simp only; omega,J,M,Q,Y⟩ (by simp only; omega) X b_
 ·have e:P.length=a.length:=Om;have E:¬ (P.length:Int)<(a.length:Nat):=Om;have hV:val P=val a-val b:=by
   rw[e,aZK,aZJ hl] at A;have hlt:=eX i;rw[e] at hlt;rcases a1B c with h | h
   ·subst h; omega
   ·have:c=1:=Om;subst this; omega
  simp only[go_sem,E,sf];have hs:=L.trim _ i Om;rw[hV] at hs;refine uD hs U rfl fun F1 H1 _=>?_;simp only[go_sem];exact aZ (.inr rfl) .nil rfl a_ ⟨.refl _,rfl⟩
def sC (a b:List Nat) (o i:Nat):PF:=((((PF.nil.set 0 (aJ a)).set 1 (aJ b)).set 5 (.osl o 1 0 (a.length+b.length))).set 6 (.int .i64 i))
def utG (a b:List Nat) (o i c j:Nat):PF:=((((((PF.nil.set 0 (aJ a)).set 1 (aJ b)).set 5 (.osl o 1 0 (a.length+b.length))).set 6 (.int .i64 i)).set 7 (.int .u64 c)).set 8 (.int .i64 j))
theorem apP {C:Ctx} (a b:List Nat) (ha:Lim a) (hb:Lim b) (h1:a.length≤35184372087808) (h2:b.length≤35184372087808) (L:List Nat) (i:Nat) (hi:i<a.length) (N:GF a b L i) (q:Nat) (K:bT) (F:PF) (H:PH) (J:(sC a b q i).le F) (hH:H q=some (.rows 1 (aL L)))
  (hK:∀ L' F' H',GF a b L' (i+1)→(sC a b q i).le F'→H' q=some (.rows 1 (aL L'))→K .normal F' H') :
  aC.wp C (.block 1 (.seq (.region VD) (.seq (.seq (.region VE) (.block 2 (.loop NW))) (.region NX)))) K F H:=by
 have f0:=J 0 _ (by unfold sC; simp only[go_sem]; rfl);have f1:=J 1 _ (by unfold sC; simp only[go_sem]; rfl);have f5:=J 5 _ (by unfold sC; simp only[go_sem]; rfl);have f6:=J 6 _ (by unfold sC; simp only[go_sem]; rfl);have hx:=ha _ (aYQ hi);have Y:=cH a hi;generalize β:a[i]=x at *
 have V:(aL a)[i]?=some [.int .u32 ((x:Nat):Int)]:=by rw[bX a hi,β]
 simp only[go_sem,VD,VE];refine wp_loop (α:=List Nat × Nat × Nat) (fun t=>utG a b q i t.2.1 t.2.2) (fun t=>PH.nil.set q (.rows 1 (aL t.1)))
  (fun t=>t.2.2≤b.length∧t.1.length=a.length+b.length∧Lim t.1∧t.2.1<4294967296∧val t.1+4294967296 ^ (i+t.2.2)*t.2.1=val (a.take i)*val b+4294967296 ^ i*(x*val (b.take t.2.2))∧∀ j y,i+b.length≤j→t.1[j]?=some y→y=0) (fun t=>b.length-t.2.2) (L,0,0)
  ⟨by simp,N.len,N.lim,by simp,by simp[val,N.v],N.z⟩ ?_ (PH.aK a_ hH) ?_
 ·unfold utG;exact Lq
 rintro⟨M,c,j⟩ ⟨hj,U,e,X,u,Q⟩;simp only at hj U e X u Q;simp only[go_sem,NW,G5,utG];by_cases R:j<b.length
 ·have w:(j:Int)<(b.length:Nat):=Om;have O:=hb _ (aYQ R);have Z:=cH b R;generalize γ:b[j]=y at *
  have W:(aL b)[j]?=some [.int .u32 ((y:Nat):Int)]:=by rw[bX b R,γ]
  have d:i+j<M.length:=Om;have E:=e _ (aYQ d);have p:=HD d;generalize δ:M[i+j]=z at *
  have B:(aL M)[i+j]?=some [.int .u32 ((z:Nat):Int)]:=by rw[bX M d,δ]
  have ex:IntKind.u64.wrap ((x:Nat):Int)=((x:Nat):Int):=bF Om;have ey:IntKind.u64.wrap ((y:Nat):Int)=((y:Nat):Int):=bF Om;have ez:IntKind.u64.wrap ((z:Nat):Int)=((z:Nat):Int):=bF Om;have em:=adH hx O;have ζ:x*y≤4294967295*4294967295:=a1U Om Om;have e1:IntKind.u64.wrap (((x*y:Nat):Int)+(z:Int))=((x*y+z:Nat):Int):=fJ Om;have e2:IntKind.u64.wrap (((x*y+z:Nat):Int)+(c:Int))=((x*y+z+c:Nat):Int):=fJ Om;have A:IntKind.i64.wrap ((i:Int)+(j:Int))=((i+j:Nat):Int):=gT Om;have hlt:((i+j:Nat):Int)<((a.length+b.length:Nat):Int):=Om;generalize ht:x*y+z+c=t at *
  have ε:t<4294967296*4294967296:=Om;have l:(aL M).set (i+j) [.int .u32 ((t%4294967296:Nat):Int)]=aL (M.set (i+j) (t%4294967296)):=fV M (i+j) _;simp only[go_sem,w];refine bO .nil dT a_ ?_;simp only[go_sem,G6,V,W,ex,ey,em,A,hlt,B,ez,e1,e2,G7,cO,l,G8,yJ,sm,wZz j];refine aD (M.set (i+j) (t%4294967296),t/4294967296,j+1) ⟨by simp only; omega,by simp only[a0W]; exact U,e.set _ (a0I _ (by decide)),by simp only; omega,?_,t6 Q _ _ Om⟩ (by simp only; omega) ?_ (PH.aK a_ Sq)
  ·simp only;have S:=p (t%4294967296);have h4:4294967296 ^ (i+(j+1))*(t/4294967296)+4294967296 ^ (i+j)*(t%4294967296)=4294967296 ^ (i+j)*t:=by rw[← a1D,a0L,aZP,← aZE,a2H]
   have h5:4294967296 ^ (i+j)*t=4294967296 ^ (i+j)*(x*y)+4294967296 ^ (i+j)*z+4294967296 ^ (i+j)*c:=by rw[← ht,aZE,aZE]
   have h6:4294967296 ^ i*(x*val (b.take (j+1)))=4294967296 ^ i*(x*val (b.take j))+4294967296 ^ (i+j)*(x*y):=by rw[Z,aZE,aZE,Nat.pow_add];congr 1;rw[Nat.mul_left_comm x,aZP]
   omega
  ·exact Lq
 ·have he:j=b.length:=Om;have w:¬ (j:Int)<(b.length:Nat):=Om;subst he;have d:i+b.length<M.length:=Om;have E:M[i+b.length]=0:=Q _ _ (aYV _) (aZA d);have p:=HD d;have B:(aL M)[i+b.length]?=some [.int .u32 ((0:Nat):Int)]:=by rw[bX M d,E]
  have A:IntKind.i64.wrap ((i:Int)+(b.length:Int))=((i+b.length:Nat):Int):=gT Om;have hlt:((i+b.length:Nat):Int)<((a.length+b.length:Nat):Int):=Om;have l:(aL M).set (i+b.length) [.int .u32 ((c%4294967296:Nat):Int)]=aL (M.set (i+b.length) c):=by rw[a0E X]; exact fV M _ _
  simp only[go_sem,w,NX,A,cO,hlt,B,l];refine hK (M.set (i+b.length) c) _ _ ⟨by rw[a0W]; exact U,e.set _ X,?_,fun j y hj O=>?_⟩ (by unfold sC; exact Lq) Sq
  ·have S:=p c;rw[E,Nat.mul_zero,a0S] at S;rw[S,u,aZK,Y,aZX,aZP]
  ·rw[List.getElem?_set_ne Om] at O;exact Q j y Om O
theorem awH {C:Ctx} (L:pC C) (a b:List Nat) (J:Lim a) (K:Lim b) (S:a.length≤8388608) (U:b.length≤8388608) :
  FO.wp C (aR Vy.res (cA (aJ (aI (val a*val b))))) (PF.args [aJ a,aJ b]) .nil:=by
 have l:IntKind.i64.wrap ((a.length:Int)+(b.length:Int))=((a.length+b.length:Nat):Int):=gT Om;have y:((a.length+b.length:Nat):Int)*((4:Nat):Int)≤140737488355328:=Om;have A:((a.length+b.length:Nat):Int)≤9223372036854775807:=Om;have O:aYR (a.length+b.length) [PV.int .u32 0]=aL (aYR (a.length+b.length) 0):=by simp[aL]
 simp only[go_sem,FO,G1,G2,Vy,aYN,l,y,A,O];refine aN fun o V=>?_;simp only[go_sem,G3];refine wp_loop (α:=List Nat × Nat) (fun t=>sC a b o t.2) (fun t=>PH.nil.set o (.rows 1 (aL t.1))) (fun t=>t.2≤a.length∧GF a b t.1 t.2) (fun t=>a.length-t.2) (aYR (a.length+b.length) 0,0)
  ⟨by simp,by simp,wL _,by simp[val,sO],fun j x _ E=>by rw[List.getElem?_replicate] at E; split at E<;>simp_all⟩ ?_ (PH.aK a_ Sq) ?_
 ·unfold sC;exact Lq
 rintro⟨M,i⟩ ⟨hi,d⟩;simp only at hi d;simp only[go_sem,sk,G4,sC];by_cases F:i<a.length
 ·have e:(i:Int)<(a.length:Nat):=Om;have p:=apP (C:=C) a b J K Om Om M i F d o;simp only[go_sem] at p;simp only[go_sem,e];refine p _ _ _ (by unfold sC; exact Lq) Sq ?_;intro L' Q H' w c u;have H:=c 6 _ (by unfold sC; simp only[go_sem]; rfl);have g0:=c 0 _ (by unfold sC; simp only[go_sem]; rfl);have g1:=c 1 _ (by unfold sC; simp only[go_sem]; rfl);have R:=c 5 _ (by unfold sC; simp only[go_sem]; rfl);simp only[go_sem,sn,H,wZz i];refine aD (L',i+1) ⟨by simp only; omega,w⟩ (by simp only; omega) ?_ (PH.aK a_ u);exact Lq
 ·have N:i=a.length:=Om;subst N;have e:¬ (a.length:Int)<(a.length:Nat):=Om;have hV:val M=val a*val b:=by rw[d.v,aZK]
  simp only[go_sem,so];have B:=L.trim _ d.lim (by rw[d.len]; omega);rw[hV] at B;refine qU (o:=o) (s:=1) (k:=a.length+b.length) (rs:=aL M) (v:=aJ (aI (val a*val b))) ?_ rfl Sq (by rw[cC,d.len]; exact aYV _) ?_
  ·rw[aZJ (by rw[cC,d.len]; exact aYV _)]; exact B
  ·simp only[go_sem];exact aZ (.inr rfl) .nil rfl a_ ⟨.refl _,rfl⟩
structure J2 (C:Ctx):Prop extends J0 C where
 minus:∀ a b,Lim a→Lim b→val b≤val a→b.length≤a.length→a.length≤35184372087808→aH C 42 [aJ a,aJ b] .nil (aF (aJ (aI (val a-val b))))
 times:∀ a b,Lim a→Lim b→a.length≤8388608→b.length≤8388608→aH C 44 [aJ a,aJ b] .nil (aF (aJ (aI (val a*val b))))
theorem aLZ {C:Ctx} (L:J2 C) (a b:List Nat) (i:Lim a) (l:Lim b) (w:a.length≤35184372087808) (x:b.length≤35184372087808) :
  UY.wp C (aR aEY.res (cA (opV (eG (val a) (val b)) (val a*val b)))) (PF.args [aJ a,aJ b]) .nil:=by
 unfold opV;simp only[go_sem,UY,ahI,ahJ,aEY];refine aA (L.large a i w) rfl ?_;by_cases d:nl (val a)>512
 ·simp only[go_sem,d,yn];rw[if_pos (by simp[eG,d])];exact eZ rfl
 simp only[go_sem,d];refine aA (L.large b l x) rfl ?_;by_cases e:nl (val b)>512
 ·simp only[go_sem,e,yn];rw[if_pos (by simp[eG,e])];exact eZ rfl
 rw[if_neg (by simp[eG,d,e])];simp only[go_sem,e,ahK];refine aA (L.trim a i w) rfl ?_;simp only[go_sem];refine aA (L.trim b l x) rfl ?_;simp only[go_sem];have u:=L.times (aI (val a)) (aI (val b)) (aV _) (aV _) (by rw[aW]; omega) (by rw[aW]; omega);rw[aS,aS] at u;refine aA u rfl ?_;have y:=jY (a:=val a) (b:=val b) (m:=512) (n:=512) Om Om;have p:=L.large (aI (val a*val b)) (aV _) (by rw[aW]; omega);rw[aS] at p;simp only[go_sem,ahL];refine aA p rfl ?_;unfold szV szL szE;by_cases c:nl (val a*val b)>512
 ·rw[if_pos c,if_pos c];simp only[go_sem,c,ahM];exact eZ rfl
 ·rw[if_neg c,if_neg c];simp only[go_sem,c,ahN];exact aZ (.inr rfl) .nil rfl a_ ⟨.refl _,rfl⟩
def xN (a:List Nat) (i:Nat):Nat:=a.getD i 0
theorem Lr {a:List Nat} (h:Lim a) (i:Nat):xN a i<4294967296:=by
 unfold xN;rw[aZG];rcases aZL i a.length with h1 | h1
 ·rw[aZA h1]; exact h _ (aYQ h1)
 ·rw[a0H h1]; decide
theorem bb {a:List Nat} {i:Nat} (h:i<a.length):xN a i=a[i]:=by simp[xN,aZG,h]
theorem RD {a:List Nat} {i:Nat} (h:¬ i<a.length):xN a i=0:=by simp[xN,aZG,h]
theorem VG (a:List Nat) (i:Nat):val (a.take (i+1))=val (a.take i)+4294967296 ^ i*xN a i:=by
 rcases aZL i a.length with h | h
 ·rw[bb h]; exact cH a h
 ·rw[RD Om,aZJ Om,aZJ Om]; simp
def uA (a b:List Nat) (v:PV) (c i:Nat):PF:=(((((PF.nil.set 0 (aJ a)).set 1 (aJ b)).set 5 (v)).set 6 (.int .u64 c)).set 7 (.int .i64 i))
theorem aFE {C:Ctx} (L:pC C) (a b:List Nat) (ha:Lim a) (hb:Lim b) (h1:a.length≤8388608) (h2:b.length≤8388608) :
  NT.wp C (aR apO.res (cA (aJ (aI (val a+val b))))) (PF.args [aJ a,aJ b]) .nil:=by
 simp only[go_sem,NT,Vt,Vu,Vv,Vw,apO];refine wp_loop (α:=List Nat × Nat × PV × PH) (fun s=>uA a b s.2.2.1 s.2.1 s.1.length) (fun s=>s.2.2.2)
  (fun s=>s.1.length≤max a.length b.length+1∧(s.1.length≤max a.length b.length∨s.2.1=0)∧Lim s.1∧s.2.1≤1∧val s.1+4294967296 ^ s.1.length*s.2.1=val (a.take s.1.length)+val (b.take s.1.length)∧bU s.2.2.2 1 s.2.2.1 (aL s.1)) (fun s=>max a.length b.length+1-s.1.length) ([],0,.aB,.nil)
  ⟨by simp,by simp,by simp[Lim],by simp,by simp[val],.nil⟩ ?_ a_ ?_
 ·unfold uA;exact Lq
 rintro⟨P,c,v,H0⟩ ⟨hP,δ,l,hc,E,hO⟩;simp only at hP δ l hc E hO ⊢;have ι:=Lr ha P.length;have κ:=Lr hb P.length;have η:=VG a P.length;have θ:=VG b P.length;generalize hx:xN a P.length=x at *
 generalize hy:xN b P.length=y at *
 have ex:IntKind.u64.wrap ((x:Nat):Int)=((x:Nat):Int):=bF Om;have ey:IntKind.u64.wrap ((y:Nat):Int)=((y:Nat):Int):=bF Om;have N:IntKind.u64.wrap ((c:Int)+(x:Int))=((c+x:Nat):Int):=fJ Om;have O:IntKind.u64.wrap (((c+x:Nat):Int)+(y:Int))=((c+x+y:Nat):Int):=fJ Om;have ζ:P.length<a.length→(aL a)[P.length]?=some [.int .u32 ((x:Nat):Int)]:=fun h=>by rw[bX a h,← hx,bb h]
 have Y:P.length<b.length→(aL b)[P.length]?=some [.int .u32 ((y:Nat):Int)]:=fun h=>by rw[bX b h,← hy,bb h]
 have Z:¬ P.length<a.length→x=0:=fun h=>by rw[← hx,RD h]
 have Q:¬ P.length<b.length→y=0:=fun h=>by rw[← hy,RD h]
 have body:(P.length≤max a.length b.length)→∀ K:bT,(∀ i u v' R H2,i.length=P.length+1→Lim i→u≤1→(P.length+1≤max a.length b.length∨u=0)→val i+4294967296 ^ i.length*u=val (a.take (P.length+1))+val (b.take (P.length+1))→(uA a b v' u i.length).le R→bU H2 1 v' (aL i)→K .normal R H2) →
   ∀ F:PF,(uA a b v c P.length).le F→aC.wp C (.seq (.block 1 (.seq (.region gd) (.seq (.seq (.region ge) (.cond (.tmp 29) (.region gf) .skip)) (.seq (.seq (.region NU) (.cond (.tmp 40) (.region NV) .skip)) (.seq (.region CX) (.region CY)))))) (.region CZ)) K F H0:=by
  intro μ K hK F W;have g0:F 0=some (aJ a):=W 0 _ (by unfold uA; simp only[go_sem]);have g1:F 1=some (aJ b):=W 1 _ (by unfold uA; simp only[go_sem]);have g5:F 5=some v:=W 5 _ (by unfold uA; simp only[go_sem]);have g6:F 6=some (.int .u64 c):=W 6 _ (by unfold uA; simp only[go_sem]);have w:F 7=some (.int .i64 P.length):=W 7 _ (by unfold uA; simp only[go_sem]);have fin:∀ H:PF,H 0=some (aJ a)→H 1=some (aJ b)→H 5=some v→H 7=some (.int .i64 P.length)→H 8=some (.int .u64 (c+x+y:Nat)) →
    aC.wp C (.seq (.region CX) (.region CY)) (fF 1 (gS C (aC.wp C (.region CZ)) K)) H H0:=by
   intro H q0 q1 q5 q7 q8;have ε:(1:Nat)*1≤16777216:=by decide
   generalize ht:c+x+y=t at *
   have ν:t<2*4294967296:=Om;simp only[go_sem,CX,q5,q8,ε,cO];refine fP (src:=[[.int .u32 ((t%4294967296:Nat):Int)]]) hO rfl (qM Om) fun v' H' X _=>?_;rw[qN] at X;simp only[go_sem,CY,q8,yJ,CZ,q7,dC (Om:P.length<9223372036854775807)];refine hK (P++[t%4294967296]) (t/4294967296) v' _ H' (by simp) (l.app fun y hy=>by simp at hy; subst hy; omega) Om ?_ ?_ ?_ X
   ·rcases aZL P.length (max a.length b.length) with h | h
    ·exact .inl h
    ·right;have h1:=Z Om;have h2:=Q Om;omega
   ·rw[jQ,aYU,aZB,η,θ,a0L,aZP,a1D,← aZE];rw[show t%4294967296+4294967296*(t/4294967296)=t from Nat.mod_add_div t 4294967296];have h3:4294967296 ^ P.length*t=4294967296 ^ P.length*c+4294967296 ^ P.length*x+4294967296 ^ P.length*y:=by rw[← ht,aZE,aZE]
    omega
   ·unfold uA;rw[aYU,aZB];exact Lq
  simp only[aC.wp,go_sem] at fin;simp only[go_sem,gd,g6,ge,w,g0];by_cases c1:P.length<a.length
  ·have e:(P.length:Int)<(a.length:Nat):=Om;simp only[go_sem,e,gf,g0,w,ζ c1,ex,N,NU,g1];by_cases J:P.length<b.length
   ·have d:(P.length:Int)<(b.length:Nat):=Om;simp only[go_sem,d,NV,g1,w,Y J,ey,O];exact fin _ (by simp only[go_sem,g0]) (by simp only[go_sem,g1]) (by simp only[go_sem,g5]) (by simp only[go_sem,w]) rfl
   ·have d:¬ (P.length:Int)<(b.length:Nat):=Om;have h0:=Q J;simp only[go_sem,d];exact fin _ (by simp only[go_sem,g0]) (by simp only[go_sem,g1]) (by simp only[go_sem,g5]) (by simp only[go_sem,w]) (by simp only[go_sem,h0])
  ·have e:¬ (P.length:Int)<(a.length:Nat):=Om;have h0:=Z c1;simp only[go_sem,e,NU,g1,w];by_cases J:P.length<b.length
   ·have d:(P.length:Int)<(b.length:Nat):=Om;have β:IntKind.u64.wrap ((c:Int)+(y:Int))=((c+x+y:Nat):Int):=by rw[h0]; exact fJ Om
    simp only[go_sem,d,NV,g1,w,Y J,ey,β];exact fin _ (by simp only[go_sem,g0]) (by simp only[go_sem,g1]) (by simp only[go_sem,g5]) (by simp only[go_sem,w]) rfl
   ·have d:¬ (P.length:Int)<(b.length:Nat):=Om;have γ:=Q J;simp only[go_sem,d];exact fin _ (by simp only[go_sem,g0]) (by simp only[go_sem,g1]) (by simp only[go_sem,g5]) (by simp only[go_sem,w]) (by simp only[go_sem,h0,γ])
 simp only[aC.wp,go_sem] at body;have p:¬ P.length<a.length→¬ P.length<b.length→c=0→∀ F:PF,F 5=some v→aC.wp C (.seq (.region VA) .ret) (aR [.tmp 4] (cA (aJ (aI (val a+val b))))) F H0:=by
  intro n1 n2 n3 F f5;have hV:val P=val a+val b:=by rw[n3,aZJ Om,aZJ Om] at E;omega
  have hs:=L.trim _ l Om;rw[hV] at hs;simp only[go_sem,VA,f5];refine uD hs hO rfl fun F1 H1 _=>?_;simp only[go_sem];exact aZ (.inr rfl) .nil rfl a_ ⟨.refl _,rfl⟩
 simp only[aC.wp,go_sem] at p;simp only[go_sem,Gz,Vx,uA];by_cases c1:P.length<a.length
 ·have e:(P.length:Int)<(a.length:Nat):=Om;simp only[go_sem,e];refine body Om _ ?_ _ (by unfold uA; exact Lq);intro i u v' R H2 N O S A B U V;rw[← N] at B A;exact aD (α:=List Nat × Nat × PV × PH) (i,u,v',H2) ⟨by simp only; omega,A,O,S,B,V⟩ (by simp only; omega) U b_
 ·have e:¬ (P.length:Int)<(a.length:Nat):=Om;simp only[go_sem,e];by_cases J:P.length<b.length
  ·have d:(P.length:Int)<(b.length:Nat):=Om;simp only[go_sem,d];refine body Om _ ?_ _ (by unfold uA; exact Lq);intro i u v' R H2 N O S A B U V;rw[← N] at B A;exact aD (α:=List Nat × Nat × PV × PH) (i,u,v',H2) ⟨by simp only; omega,A,O,S,B,V⟩ (by simp only; omega) U b_
  ·have d:¬ (P.length:Int)<(b.length:Nat):=Om;simp only[go_sem,d];by_cases c3:c=0
   ·have M:¬ (c:Int)>0:=Om;simp only[go_sem,M];exact p c1 J c3 _ rfl
   ·have M:(c:Int)>0:=Om;simp only[go_sem,M];refine body Om _ ?_ _ (by unfold uA; exact Lq);intro i u v' R H2 N O S A B U V;rw[← N] at B A;exact aD (α:=List Nat × Nat × PV × PH) (i,u,v',H2) ⟨by simp only; omega,A,O,S,B,V⟩ (by simp only; omega) U b_
structure ik (C:Ctx):Prop extends J2 C where
 plus:∀ a b,Lim a→Lim b→a.length≤8388608→b.length≤8388608→aH C 43 [aJ a,aJ b] .nil (aF (aJ (aI (val a+val b))))
theorem aLR {C:Ctx} (L:ik C) (a b:List Nat) (i:Lim a) (l:Lim b) (w:a.length≤35184372087808) (x:b.length≤35184372087808) :
  UQ.wp C (aR aEN.res (cA (opV (eG (val a) (val b)) (val a+val b)))) (PF.args [aJ a,aJ b]) .nil:=by
 unfold opV;simp only[go_sem,UQ,agE,agF,aEN];refine aA (L.large a i w) rfl ?_;by_cases d:nl (val a)>512
 ·simp only[go_sem,d,yj];rw[if_pos (by simp[eG,d])];exact eZ rfl
 simp only[go_sem,d];refine aA (L.large b l x) rfl ?_;by_cases e:nl (val b)>512
 ·simp only[go_sem,e,yj];rw[if_pos (by simp[eG,e])];exact eZ rfl
 rw[if_neg (by simp[eG,d,e])];simp only[go_sem,e,agG];refine aA (L.trim a i w) rfl ?_;simp only[go_sem];refine aA (L.trim b l x) rfl ?_;simp only[go_sem];have u:=L.plus (aI (val a)) (aI (val b)) (aV _) (aV _) (by rw[aW]; omega) (by rw[aW]; omega);rw[aS,aS] at u;refine aA u rfl ?_;have y:=n8 (a:=val a) (b:=val b) (m:=512) Om Om;have p:=L.large (aI (val a+val b)) (aV _) (by rw[aW]; omega);rw[aS] at p;simp only[go_sem,agH];refine aA p rfl ?_;unfold szV szL szE;by_cases c:nl (val a+val b)>512
 ·rw[if_pos c,if_pos c];simp only[go_sem,c,agI];exact eZ rfl
 ·rw[if_neg c,if_neg c];simp only[go_sem,c,agJ];exact aZ (.inr rfl) .nil rfl a_ ⟨.refl _,rfl⟩
theorem aMD {C:Ctx} (L:ik C) (a b:List Nat) (i:Lim a) (l:Lim b) (p:a.length≤35184372087808) (u:b.length≤35184372087808) :
  VC.wp C (aR aFH.res (cA (sB (val a) (val b)))) (PF.args [aJ a,aJ b]) .nil:=by
 unfold sB;simp only[go_sem,VC,ahP,ahQ,aFH];refine aA (L.large a i p) rfl ?_;by_cases c:nl (val a)>512
 ·simp only[go_sem,c,yo];rw[if_pos (by simp[eG,c])];exact eZ rfl
 simp only[go_sem,c];refine aA (L.large b l u) rfl ?_;by_cases d:nl (val b)>512
 ·simp only[go_sem,d,yo];rw[if_pos (by simp[eG,d])];exact eZ rfl
 rw[if_neg (by simp[eG,c,d])];simp only[go_sem,d,ahR];refine aA (L.cmp a b i l p u) rfl ?_;by_cases e:val a<val b
 ·have:dJ (val a) (val b)=-1:=by simp[dJ,e]
  rw[if_pos e];simp only[go_sem,this,show ((-1:Int)<0) by decide,ahS];exact eZ rfl
 ·have:¬ dJ (val a) (val b)<0:=by unfold dJ;rw[if_neg e];split<;>decide
  rw[if_neg e];have y:=fQ (Nat.sub_le (val a) (val b));have x:=fQ (Om:val b≤val a);simp only[go_sem,this,ahT];refine aA (L.trim a i p) rfl ?_;simp only[go_sem];refine aA (L.trim b l u) rfl ?_;simp only[go_sem];have w:=L.minus (aI (val a)) (aI (val b)) (aV _) (aV _) (by rw[aS,aS]; omega) (by rw[aW,aW]; exact x) (by rw[aW]; omega);rw[aS,aS] at w;refine aA w rfl ?_;rw[BE Om];simp only[go_sem];exact aZ (.inr rfl) .nil rfl a_ ⟨.refl _,rfl⟩
def Uw (k:Nat) (v:Nat):PF:=((PF.nil.set 3 (.int .i64 k)).set 4 (.int .u32 v))
theorem aEO {C:Ctx} (L:pC C) (xs:List Nat) (H:Lim xs) (Q:xs.length≤35184372087808) :
  NK.wp C (aR apE.res (aF (.int .i64 (cL (val xs):Nat)))) (PF.args [aJ xs]) .nil:=by
 simp only[go_sem,NK,Uy,Uz,apE];refine aA (L.trim xs H Q) rfl ?_;have R:=fU H;simp only[go_sem,U1,aYN,aW,CW];by_cases w:nl (val xs)=0
 ·simp only[go_sem,decide_eq_true w,U2];refine aO (.inr rfl) rfl ?_;have:val xs=0:=gU.1 w;simp[bL,this,jT]
 obtain⟨n,N⟩:∃ n,nl (val xs)=n+1:=⟨nl (val xs)-1,by omega⟩;obtain⟨t,u,y⟩:=Us (xs:=aI (val xs)) (aV _) (by rw[aS]; exact N);have e:t<4294967296:=aV _ t (a1C u);have O:val xs=val ((aI (val xs)).take n)+4294967296 ^ n*t:=by
  have:=aS (val xs);have c:n<(aI (val xs)).length:=by rw[aW]; omega
  have M:(aI (val xs))[n]=t:=by rw[aZA c] at u; exact a0Y.inj u
  conv=>lhs; rw[← this,← aZJ (l:=aI (val xs)) (i:=n+1) (by rw[aW]; omega)]
  rw[cH _ c,M]
 have S:cL (val xs)=32*n+cL t:=by have E:=eX ((aV (val xs)).take n);rw[aZH,aW,a1E Om] at E;have p:=Ke (lo:=val ((aI (val xs)).take n)) (k:=32*n) (hi:=t) (by rw[Nat.pow_mul]; exact E) y;rw[← p,Nat.pow_mul];exact congrArg cL O
 have d:(aL (aI (val xs)))[n]?=some [.int .u32 (t:Nat)]:=by simp[aL,u]
 have J:IntKind.i64.wrap (((nl (val xs):Nat):Int)-1)=(n:Int):=by rw[wrap_i64 Om Om]; omega
 have K:IntKind.i64.wrap (32*(n:Int))=((32*n:Nat):Int):=by rw[wrap_i64 Om Om]; omega
 simp only[go_sem,decide_eq_false w,U3,U4,aYN,aW,J,K,d];refine wp_loop (α:=Nat × Nat) (fun a=>Uw a.1 a.2) (fun _=>.nil) (fun a=>a.1+cL a.2=32*n+cL t∧a.2<4294967296) (fun a=>a.2) (32*n,t) ⟨rfl,e⟩ ?_ a_ ?_
 ·unfold Uw;exact Lq
 rintro⟨k,v⟩ ⟨p,hlt⟩;simp only at p hlt;have F:cL t≤32:=(mF t 32).2 e;simp only[go_sem,Ux,U5,Uw];by_cases B:(v:Int)>0
 ·have A:v≠0:=Om;have x:IntKind.u32.wrap (a1A (v:Int) 2)=((v/2:Nat):Int):=by rw[show a1A (v:Int) 2=((v/2:Nat):Int) from Int.ofNat_tdiv v 2,cO,a0E Om]
  simp only[go_sem,B,U6,U7,x,wZz k];refine aD (k+1,v/2) ⟨?_,?_⟩ (Nat.div_lt_self Om (by decide)) ?_ a_
  ·have:=pP A;simp only; omega
  ·simp only; omega
  ·exact Lq
 ·have:v=0:=Om;subst this;simp only[go_sem,B,Gj];refine aO (.inr rfl) rfl ?_;rw[jT] at p;simp only[bL,PV.int.injEq,true_and];omega
theorem Ec (n:Nat):4294967296 ^ (n/32)*2 ^ (n%32)=2 ^ n:=by
 rw[show (4294967296:Nat)=2 ^ 32 by decide,← Nat.pow_mul,← Nat.pow_add];congr 1;omega
theorem avX (n:Nat):IntKind.i64.wrap (a1A (n:Int) 32)=IntKind.i64.wrap ((n/32:Nat):Int):=by
 rw[show a1A (n:Int) 32=((n/32:Nat):Int) from Int.ofNat_tdiv n 32]
theorem avY (n:Nat):Int.tmod (n:Int) 32=((n%32:Nat):Int):=Int.ofNat_tmod n 32
def aFK (a:List Nat) (n:Nat) (v:PV) (c i:Nat):PF:=(((((PF.nil.set 0 (aJ a)).set 1 (.int .i64 n)).set 5 (v)).set 6 (.int .u64 c)).set 7 (.int .i64 i))
theorem aPF {C:Ctx} (L:pC C) (a:List Nat) (n:Nat) (ha:Lim a) (h1:a.length≤8388608) (hn:n≤8388608) (h0:a.length=0→val a=0) :
  gh.wp C (aR uup.res (pB 1 (aL (aI (val a*2 ^ n))))) (PF.args [aJ a,.int .i64 n]) .nil:=by
 simp only[go_sem,gh,awJ,awK,uup,aYN,CW];by_cases E:a.length=0
 ·simp only[go_sem,decide_eq_true E,awL];rw[h0 E,Nat.zero_mul,dW];exact x9 (.inr rfl) rfl
 have ez:IntKind.i64.wrap (a1A (n:Int) 32)=((n/32:Nat):Int):=by rw[avX,gi Om]
 have em:=avY n;have eu:IntKind.u64.wrap ((n%32:Nat):Int)=((n%32:Nat):Int):=bF Om;have U:=Ec n;have S:n%32<32:=a0I _ (by decide);have hz:n/32≤8388608:=Om;generalize ζ:n/32=z at *
 generalize δ:n%32=s at *
 have Q:((z:Nat):Int)*((4:Nat):Int)≤140737488355328:=Om;have R:((z:Nat):Int)≤9223372036854775807:=Om;have W:aYR z [PV.int .u32 0]=aL (aYR z 0):=by simp[aL]
 have K:2 ^ s≤2147483648:=a1P (show 0<2 by decide) (Om:s≤31);have A:0<2 ^ s:=a1K (by decide);simp only[go_sem,decide_eq_false E,awM,ez,Q,R,W];refine aN fun o ho=>?_;simp only[go_sem,awN,awO];refine wp_loop (α:=List Nat × Nat × Nat × PV × PH) (fun t=>aFK a n t.2.2.2.1 t.2.1 t.2.2.1) (fun t=>t.2.2.2.2)
  (fun t=>t.2.2.1≤a.length∧t.1.length=z+t.2.2.1∧Lim t.1∧t.2.1<2 ^ s∧val t.1+4294967296 ^ t.1.length*t.2.1=val (a.take t.2.2.1)*2 ^ n∧bU t.2.2.2.2 1 t.2.2.2.1 (aL t.1)) (fun t=>a.length-t.2.2.1) (aYR z 0,0,0,.osl o 1 0 z,PH.nil.set o (.rows 1 (aL (aYR z 0))))
  ⟨by simp,by simp,wL _,A,by simp[val,sO],.inr ⟨o,aL (aYR z 0),by rw[cC,List.length_replicate],by simp only[go_sem],by rw[cC]; exact aYV _,aZK⟩⟩ ?_ b_ ?_
 ·unfold aFK;exact Lq
 rintro⟨P,c,i,v,H0⟩ ⟨hi,X,d,Y,p,N⟩;simp only at hi X d Y p N ⊢;simp only[go_sem,ahU,awP,aFK];by_cases F:i<a.length
 ·have u:(i:Int)<(a.length:Nat):=Om;have γ:=ha _ (aYQ F);have V:=cH a F;have O:=bX a F;generalize Z:a[i]=x at *
  have ε:x*2 ^ s≤4294967295*2147483648:=a1U Om K;have ex:IntKind.u64.wrap ((x:Nat):Int)=((x:Nat):Int):=bF Om;have β:2 ^ s*x=x*2 ^ s:=aZT _ _;have J:shift .shl .u64 (x:Int) (s:Int)=some (.int .u64 ((2 ^ s*x:Nat):Int)):=NE Om Om;have H:=orI (a:=2 ^ s*x) (b:=c) (n:=c+2 ^ s*x) Om Om (by rw[Nat.or_comm]; exact Sw Y Om) Om;have B:(c+2 ^ s*x)/4294967296<2 ^ s:=by rw[a1T (by decide)];have:2 ^ s*(x+1)≤2 ^ s*4294967296:=a1F _ Om;rw[aZE,Nat.mul_one] at this;omega
  have w:(1:Nat)*1≤16777216:=by decide
  simp only[go_sem,u,awQ,O,ex,em,eu,J,H,awR,cO,w];refine fP (src:=[[.int .u32 (((c+2 ^ s*x)%4294967296:Nat):Int)]]) N rfl (qM Om) fun v' H' l _=>?_;rw[qN] at l;simp only[go_sem,awS,yJ,ahV,wZz i];refine aD (P++[(c+2 ^ s*x)%4294967296],(c+2 ^ s*x)/4294967296,i+1,v',H') ⟨by simp only; omega,by simp; omega,d.app fun y hy=>by simp at hy; subst hy; exact a0I _ (by decide),B,?_,l⟩ (by simp only; omega) ?_ b_
  ·simp only;have hp:4294967296 ^ P.length*(2 ^ s*x)=4294967296 ^ i*x*2 ^ n:=by rw[X,Nat.pow_add,← U];rw[aZP,Nat.mul_left_comm (4294967296 ^ i),← aZP (4294967296 ^ z),aZT (4294967296 ^ z*2 ^ s),aZP,aZT x]
   rw[jQ,aYU,aZB,a0L,aZP,a1D,← aZE,Nat.mod_add_div,V,aZE,aZX,← a1D,p,hp]
  ·exact Lq
 ·have e:i=a.length:=Om;subst e;have u:¬ (a.length:Int)<(a.length:Nat):=Om;have w:(1:Nat)*1≤16777216:=by decide
  have hV:val (P++[c])=val a*2 ^ n:=by rw[jQ,p,aZK]
  have M:Lim (P++[c]):=d.app fun x Z=>by simp at Z; omega
  have ec:IntKind.u32.wrap ((c:Nat):Int)=((c:Nat):Int):=by rw[cO,a0E Om]
  simp only[go_sem,u,ahW,ec,w];refine fP (src:=[[.int .u32 ((c:Nat):Int)]]) N rfl (qM Om) fun v' H' l _=>?_;rw[qN] at l;have S:=L.trimM _ M (by simp; omega);rw[hV] at S;refine I3 S l rfl fun F1 H1 _ r H2 hr _=>?_;simp only[go_sem];exact avA (.inr rfl) hr rfl
def UT (a:List Nat) (n:Nat) (v:PV) (i:Nat):PF:=((((PF.nil.set 0 (aJ a)).set 1 (.int .i64 n)).set 5 (v)).set 6 (.int .i64 i))
theorem aET {C:Ctx} (L:pC C) (a:List Nat) (n:Nat) (H:Lim a) (h1:a.length≤8388608) (hn:n≤1000000000) :
  NO.wp C (aR apJ.res (cA (aJ (aI (val a/2 ^ n))))) (PF.args [aJ a,.int .i64 n]) .nil:=by
 have ez:IntKind.i64.wrap (a1A (n:Int) 32)=((n/32:Nat):Int):=by rw[avX,gi Om]
 have em:=avY n;have eu:IntKind.u64.wrap ((n%32:Nat):Int)=((n%32:Nat):Int):=bF Om;have M:=Ec n;have Q:n%32<32:=a0I _ (by decide);have hz:n/32≤1000000000:=Om;generalize ι:n/32=z at *
 generalize θ:n%32=s at *
 simp only[go_sem,NO,Vd,Ve,apJ,aYN,ez];by_cases c0:a.length≤z
 ·have d:((z:Nat):Int)≥(a.length:Nat):=Om;have hq:val a/2 ^ n=0:=by refine a2I (Nat.lt_of_lt_of_le (eX H) ?_);rw[← M];exact aZS (a1P (by decide) c0) (Nat.le_mul_of_pos_right _ (a1K (by decide)))
  simp only[go_sem,d,Vf];rw[hq,dW];exact aZ (vs:=[.aB]) (.inr rfl) .nil rfl a_ ⟨.nil 1,rfl⟩
 have d:¬ ((z:Nat):Int)≥(a.length:Nat):=Om;have hR:val a/2 ^ n=val (a.drop z)/2 ^ s:=by rw[vI H Om,← M,Nat.div_div_eq_div_mul]
 have B:Lim (a.drop z):=H.drop z;simp only[go_sem,d,Vg,Vh,ez];refine wp_loop (α:=List Nat × PV × PH) (fun t=>UT a n t.2.1 (z+t.1.length)) (fun t=>t.2.2)
  (fun t=>z+t.1.length≤a.length∧t.1=eA t.1.length (val (a.drop z)/2 ^ s)∧bU t.2.2 1 t.2.1 (aL t.1)) (fun t=>a.length-t.1.length) ([],.aB,.nil)
  ⟨by simp; omega,rfl,.nil⟩ ?_ a_ ?_
 ·unfold UT
  (repeat' (first|exact c_|refine d_ ?_ ?_))<;>first|(simp only[go_sem,a1H]<;>rfl)|rfl
 rintro⟨P,v,H0⟩ ⟨hP,hD,Z⟩;simp only at hP hD Z ⊢;simp only[go_sem,Gk,Vi,UT];have A:Lim P:=by rw[hD]; exact mV _ _
 by_cases R:z+P.length<a.length
 ·have p:((z+P.length:Nat):Int)<(a.length:Nat):=Om;have η:=H _ (aYQ R);have β:=bX a R;have δ:P.length≤(a.drop z).length:=by rw[a0R]; omega
  have N:=vI B δ;have c:(a.drop z).drop P.length=a[z+P.length]::a.drop (z+P.length+1):=by rw[List.drop_drop,a0O R]
  generalize hx:a[z+P.length]=x at *
  have ex:IntKind.u64.wrap ((x:Nat):Int)=((x:Nat):Int):=bF Om;have γ:(1:Nat)*1≤16777216:=by decide
  have Y:IntKind.i64.wrap (((z+P.length:Nat):Int)+1)=((z+P.length+1:Nat):Int):=dC Om;have fin:∀ (t:Nat) (F:PF),t<18446744073709551616→val (a.drop z)/4294967296 ^ P.length%(4294967296*4294967296)=t→F 0=some (aJ a)→F 1=some (.int .i64 n)→F 5=some v→F 6=some (.int .i64 (z+P.length:Nat))→F 7=some (.int .u64 t) →
    ∀ K:bT,(∀ v' O H2,(UT a n v' (z+(P.length+1))).le O→bU H2 1 v' (aL (P++[t/2 ^ s%4294967296]))→(P++[t/2 ^ s%4294967296])=eA (P.length+1) (val (a.drop z)/2 ^ s)→K .normal O H2) →
    aC.wp C (.region ga) (fF 1 (gS C (aC.wp C (.region UU)) K)) F H0:=by
   intro t F ht ε f0 f1 f5 f6 f7 K hK;have w:shift .shr .u64 (t:Int) (s:Int)=some (.int .u64 ((t/2 ^ s:Nat):Int)):=aPC Om;simp only[go_sem,ga,f5,f7,f1,em,eu,w,cO,γ];refine fP (src:=[[.int .u32 ((t/2 ^ s%4294967296:Nat):Int)]]) Z rfl (qM Om) fun v' H' E _=>?_;rw[qN] at E;simp only[go_sem,UU,f6,Y];refine hK v' _ H' ?_ E ?_
   ·unfold UT;exact Lq
   ·rw[wI,← hD];congr 2;have e:val (a.drop z)/4294967296 ^ P.length=t%4294967296+4294967296*(t/4294967296+4294967296*(val (a.drop z)/4294967296 ^ P.length/(4294967296*4294967296))):=by have:=Nat.mod_add_div (val (a.drop z)/4294967296 ^ P.length) (4294967296*4294967296);rw[ε] at this;have h2:=Nat.mod_add_div t 4294967296;rw[aZE,← a1D,h2,← aZP];exact this.symm
    have:=ZE Q e;rw[this];congr 2;have h2:=Nat.mod_add_div t 4294967296;omega
  simp only[aC.wp,go_sem] at fin;simp only[go_sem,p,Vj,β,ex,Vk,Y];by_cases S:z+P.length+1<a.length
  ·have u:((z+P.length+1:Nat):Int)<(a.length:Nat):=Om;have ζ:=H _ (aYQ S);have J:=bX a S;rw[a0O S] at c;generalize hy:a[z+P.length+1]=y at *
   have ey:IntKind.u64.wrap ((y:Nat):Int)=((y:Nat):Int):=bF Om;have w:shift .shl .u64 (y:Int) ((32:Nat):Int)=some (.int .u64 ((2 ^ 32*y:Nat):Int)):=NE (by decide) Om;have X:=orI (a:=x) (b:=2 ^ 32*y) (n:=x+2 ^ 32*y) Om Om (Sw Om Om) Om;simp only[go_sem,u,Vl,Y,J,ey,show shift .shl .u64 (y:Int) 32=_ from w,X];refine fin (x+2 ^ 32*y) _ Om ?_ rfl rfl rfl rfl rfl _ ?_
   ·rw[← N,c];simp only[val];omega
   ·intro v' O H2 U V W;refine aD (α:=List Nat × PV × PH) (P++[(x+2 ^ 32*y)/2 ^ s%4294967296],v',H2) ⟨by simp; omega,by simpa using W,V⟩ (by simp; omega) ?_ b_;simp only[aYU,aZB];exact U
  ·have u:¬ ((z+P.length+1:Nat):Int)<(a.length:Nat):=Om;rw[a2L (l:=a) (i:=z+P.length+1) Om] at c;simp only[go_sem,u];refine fin x _ Om ?_ rfl rfl rfl rfl rfl _ ?_
   ·rw[← N,c];simp only[val];omega
   ·intro v' O H2 U V W;refine aD (α:=List Nat × PV × PH) (P++[x/2 ^ s%4294967296],v',H2) ⟨by simp; omega,by simpa using W,V⟩ (by simp; omega) ?_ b_;simp only[aYU,aZB];exact U
 ·have e:z+P.length=a.length:=Om;have p:¬ ((z+P.length:Nat):Int)<(a.length:Nat):=Om;have hV:val P=val (a.drop z)/2 ^ s:=by rw[hD];refine oZ (Nat.lt_of_le_of_lt (a1O _ _) ?_);have:=eX B;rw[a0R] at this;rw[show P.length=a.length-z by omega];exact this
  have Q:=L.trim _ A Om;rw[hV,← hR] at Q;simp only[go_sem,p,Gl];refine uD Q Z rfl fun F1 H1 _=>?_;simp only[go_sem];exact aZ (.inr rfl) .nil rfl a_ ⟨.refl _,rfl⟩
structure PX (C:Ctx):Prop extends ik C where
 bits:∀ xs,Lim xs→xs.length≤35184372087808→aH C 31 [aJ xs] .nil (aF (.int .i64 (cL (val xs):Nat)))
 upM:∀ (a:List Nat) (n:Nat),Lim a→a.length≤8388608→n≤8388608→(a.length=0→val a=0)→aH C 45 [aJ a,.int .i64 n] .nil (pB 1 (aL (aI (val a*2 ^ n))))
 down:∀ (a:List Nat) (n:Nat),Lim a→a.length≤8388608→n≤1000000000→aH C 40 [aJ a,.int .i64 n] .nil (aF (aJ (aI (val a/2 ^ n))))
def udS:Spec:=fun name vs=>match name,vs with
 | 35,[.int _ v]=>some ([],fun _=>aF (aJ (aI v.toNat)))
 | 44,[x,y]=>some ([],fun _=>aF (aJ (aI (val (jK x)*val (jK y)))))
 | 32,[x,.osl q _ _ _]=>some ([q],fun c r H'=>H'=c∧∀ xs,Lim xs→c q=some (.rows 1 (aL xs))→r=.int .i64 (dJ (val (jK x)) (val xs)))
 | _,_=>none
theorem aES (v:Nat):udS 35 [.int .u64 v]=some ([],fun _=>aF (aJ (aI v))):=rfl
theorem avZ (x y:List Nat):udS 44 [aJ x,aJ y]=some ([],fun _=>aF (aJ (aI (val x*val y)))):=by
 show some ([],fun _=>aF (aJ (aI (val (jK (aJ x))*val (jK (aJ y))))))=_; rw[eO,eO]
theorem azB (q:Nat) (x L:List Nat):(PH.nil.set q (.rows 1 (aL L)))=(PH.nil.set q (.rows 1 (aL L)))∧∀ xs,Lim xs→(PH.nil.set q (.rows 1 (aL L))) q=some (.rows 1 (aL xs))→(PV.int .i64 (dJ (val x) (val L)))=.int .i64 (dJ (val (jK (aJ x))) (val xs)):=by
 refine⟨rfl,fun xs c e=>?_⟩;rw[cR] at e;have:aL L=aL xs:=(cF.rows.inj (a0Y.inj e)).2;rw[SU this,eO]
def duF (n o d:Nat) (y:List Nat) (top e c:Nat) (k:Int):PF :=
 ((((((PF.nil.set 10 (.int .i64 n)).set 11 (.osl o 1 0 d)).set 12 (aJ y)).set 13 (.int .u64 top)).set 14 (.osl e 1 0 c)).set 15 (.int .i64 k))
abbrev eH (X:List Nat) (Z:List (List PV)):List (List PV):=aL X++Z
theorem OI {X:List Nat} {Z:List (List PV)} {i:Nat} (h:i<X.length):(eH X Z)[i]?=some [.int .u32 ((X[i]:Nat):Int)]:=by
 rw[eH,a0V (by rw[cC]; exact h),bX X h]
theorem Hx {X:List Nat} {Z:List (List PV)} {i:Nat} (h:i<X.length) (v:Nat):(eH X Z).set i [.int .u32 (v:Int)]=eH (X.set i v) Z:=by
 rw[eH,List.set_append_left _ _ (by rw[cC]; exact h),fV]
theorem Hw {X:List Nat} {Z:List (List PV)} {j m:Nat} (h:j+m≤X.length):((eH X Z).drop j).take m=aL ((X.drop j).take m):=by
 rw[eH,List.drop_append_of_le_length (by rw[cC]; omega),List.take_append_of_le_length (by rw[a0R,cC]; omega)];unfold aL;rw[← List.map_drop,← List.map_take]
theorem aPE {C:Ctx} (L:PX C) (n o p:Nat) (y:List Nat) (top l S j:Nat) (X:List Nat) (Z:List (List PV)) (Q:l≠o) (hy:Lim y) (hX:Lim X) (γ:X.length=p) (hl:p≤5000) (hj:j+(y.length+1)≤p) (B:0<val y)
  (Y:cF) (g0:Nat) (hg:val ((X.drop j).take (y.length+1))/val y≤g0) (O:g0<4294967296) (K:bT) (F:PF) (H:PH) (hF:((duF n o p y top l S j).set 17 (.int .u64 g0)).le F) (hH:((PH.nil.set o (.rows 1 (eH X Z))).set l Y).le H)
  (hK:∀ F' H',((duF n o p y top l S j).set 17 (.int .u64 (val ((X.drop j).take (y.length+1))/val y:Nat))).le F'→((PH.nil.set o (.rows 1 (eH X Z))).set l Y).le H'→K .normal F' H') :
  aC.wp C (.block 4 (.loop vZ)) K F H:=by
 have d:¬ o=l:=fun h=>Q h.symm;have e:((X.drop j).take (y.length+1)).length=y.length+1:=by rw[aZH,a0R]; omega
 have u:Lim ((X.drop j).take (y.length+1)):=(hX.drop _).take _;have w:=Hw (X:=X) (Z:=Z) (j:=j) (m:=y.length+1) Om;have x:j+(y.length+1)≤(eH X Z).length:=by rw[eH,aYU,cC]; omega
 have M:aL ((X.drop j).take (y.length+1))≠[]:=fun h=>by have:=congrArg List.length h;rw[cC,e] at this;simp at this
 generalize hW:(X.drop j).take (y.length+1)=W at *
 generalize A:val W/val y=J at *
 simp only[go_sem];refine wp_loop (α:=Nat) (fun g=>(duF n o p y top l S j).set 17 (.int .u64 g)) (fun _=>(PH.nil.set o (.rows 1 (eH X Z))).set l Y) (fun g=>J≤g∧g<4294967296) (fun g=>g) g0 ⟨hg,O⟩ hF hH ?_;rintro g ⟨β,hlt⟩;have e1:IntKind.i64.wrap ((j:Int)+(y.length:Int))=((j+y.length:Nat):Int):=gT Om;have e2:IntKind.i64.wrap (((j+y.length:Nat):Int)+1)=((j+y.length+1:Nat):Int):=dC Om;have b1:(j:Int)≤((j+y.length+1:Nat):Int):=Om;have b2:((j+y.length+1:Nat):Int)≤(p:Nat):=Om;have b3:j+y.length+1-j=y.length+1:=Om;have mk:=L.make g Om;have tm:=L.times y (aI g) hy (aV _) Om (by have E:nl g≤1:=jZ (by rw[Nat.pow_one]; exact hlt);rw[aW]; omega)
 rw[aS] at tm;have R:(aI (val y*g)).length≤35184372087808:=by have E:nl g≤1:=jZ (by rw[Nat.pow_one]; exact hlt);have h2:=jY (a:=val y) (b:=g) (fU hy) E;rw[aW]; omega
 have cm:=L.cmp (aI (val y*g)) W (aV _) u R Om;rw[aS] at cm;simp only[go_sem,vZ];refine bO .nil udS a_ ?_;simp only[go_sem,ZO,duF];refine bP (aES g) mk Sq a_ ?_;simp only[go_sem];have tS:=avZ y (aI g);rw[aS] at tS;refine bP tS tm Sq a_ ?_;simp only[go_sem,aYN,e1,e2,b1,b2,b3];refine uC (src:=aL W) ?_ ?_ (fun h=>absurd h M) fun _ o' i=>?_
 ·simp only[go_sem,d,x,w]
 ·unfold roomFor;rw[cC,e];simp only[maxLen]; omega
 refine⟨a_,?_⟩;rw[cC,e];have n1:¬ o'=l:=(jD.1 i).1;refine azK (o:=o') (s:=1) (rs:=aL W) (vs:=[aJ (aI (val y*g)),.osl o' 1 0 (y.length+1)]) (v:=.int .i64 (dJ (val y*g) (val W))) rfl (.int _ _) Sq ?_ ?_ ?_ Sq a_ ?_
 ·rw[a0D,a0D,a0X,qF (by rw[cC,e]; exact aYV _),aZJ (by rw[cC,e]; exact aYV _)];exact cm
 ·have:=azB o' (aI (val y*g)) W;rw[aS] at this;exact this
 ·rintro r H' ⟨E,h2⟩;have:=h2 W u (by rw[cR]);rw[eO,aS] at this;exact⟨this,E⟩
 simp only[go_sem];by_cases c:val W<val y*g
 ·have N:dJ (val y*g) (val W)=1:=by unfold dJ;rw[if_neg Om,if_pos c]
  have hq:J<g:=by rw[← A]; exact (a1T B).2 (by rw[aZT]; exact c)
  have ew:IntKind.u64.wrap ((g:Int)-1)=((g-1:Nat):Int):=by rw[wrap_u64 Om Om]; omega
  simp only[go_sem,N,show (1:Int)>0 by decide,ZP,ew];refine aD (g-1) ⟨by omega,by omega⟩ Om ?_ ?_
  ·exact Lq
  ·refine PH.aK (PH.aK a_ ?_) ?_
   ·have U:¬ o=o':=fun h=>by subst h;rw[aT,if_neg d,cR] at i;cases i
    simp only[go_sem,U,d]
   ·have V:¬ l=o':=fun h=>n1 h.symm;simp only[go_sem,V]
 ·have N:¬ dJ (val y*g) (val W)>0:=by unfold dJ;rw[if_neg c];split<;>decide
  have hq:g=J:=by
   have:g≤J:=by rw[← A]; exact (Nat.le_div_iff_mul_le B).2 (by rw[aZT]; omega)
   omega
  simp only[go_sem,N];refine hK _ _ ?_ ?_
  ·unfold duF
   (repeat' (first|exact c_|refine d_ ?_ ?_))<;>first|(simp only[go_sem,← hq]<;>rfl)|rfl
  ·refine PH.aK (PH.aK a_ ?_) ?_
   ·have U:¬ o=o':=fun h=>by subst h;rw[aT,if_neg d,cR] at i;cases i
    simp only[go_sem,U,d]
   ·have V:¬ l=o':=fun h=>n1 h.symm;simp only[go_sem,V]
theorem aJQ (R k:Nat) (h:k<nl R):∃ i:k<(aI R).length,(aI R)[k]=R/4294967296 ^ k%4294967296:=by
 have c:k<(aI R).length:=by rw[aW]; exact h
 refine⟨c,?_⟩;have d:=vI (aV R) (Nat.le_of_lt c);rw[aS,a0O c] at d;have e:=aV R _ (aYQ c);simp only[val] at d;rw[← d,Nat.add_mul_mod_self_left,a0E e]
theorem aBU (R k:Nat) (h:nl R≤k):R/4294967296 ^ k%4294967296=0:=by
 rw[a2I ((hC R k).1 h)]
theorem aLJ {A P W Z:List Nat} {i:Nat} (c:P.length=i) (hi:i<W.length) (v:Nat):(A++(P++W.drop i)++Z).set (A.length+i) v=A++((P++[v])++W.drop (i+1))++Z :=
 SU (by rw[← fV]; exact GZ c hi v)
theorem aRW {C:Ctx} (n o x:Nat) (y:List Nat) (top u S j:Nat) (X:List Nat) (Z:List (List PV)) (E:u≠o) (O:X.length=x) (hl:x≤5000) (hj:j+(y.length+1)≤x)
  (U:cF) (g R:Nat) (K:bT) (F:PF) (H:PH) (hF:((((duF n o x y top u S j).set 17 (.int .u64 g)).set 18 (aJ (aI R))).set 19 (.int .i64 0)).le F) (hH:((PH.nil.set o (.rows 1 (eH X Z))).set u U).le H)
  (hK:∀ V H',((duF n o x y top u S j).set 17 (.int .u64 g)).le V→((PH.nil.set o (.rows 1 (eH (X.take j++eA (y.length+1) R++X.drop (j+(y.length+1))) Z))).set u U).le H'→K .normal V H') :
  aC.wp C (.block 6 (.loop wA)) K F H:=by
 have l:¬ o=u:=fun h=>E h.symm;have hA:(X.take j).length=j:=by rw[aZH]; omega
 have ε:((X.drop j).take (y.length+1)).length=y.length+1:=by rw[aZH,a0R]; omega
 have θ:(X.drop (j+(y.length+1))).length=x-(j+(y.length+1)):=by rw[a0R,O]
 have w:X.take j++(X.drop j).take (y.length+1)++X.drop (j+(y.length+1))=X:=by rw[a0A,← List.drop_drop,a1N,a1N]
 rw[← w] at hH;generalize γ:X.take j=A at *
 generalize δ:(X.drop j).take (y.length+1)=W at *
 generalize η:X.drop (j+(y.length+1))=p at *
 simp only[go_sem];refine wp_loop (α:=List Nat) (fun P=>(((duF n o x y top u S j).set 17 (.int .u64 g)).set 18 (aJ (aI R))).set 19 (.int .i64 P.length)) (fun P=>(PH.nil.set o (.rows 1 (eH (A++(P++W.drop P.length)++p) Z))).set u U)
  (fun P=>P.length≤y.length+1∧P=eA P.length R) (fun P=>y.length+1-P.length) [] ⟨aYS _,rfl⟩ hF (by simpa using hH) ?_
 rintro P ⟨hP,hD⟩;simp only[go_sem,wA,ZQ,duF];by_cases c:P.length<y.length+1
 ·have M:(P.length:Int)≤(y.length:Nat):=Om;have Y:IntKind.i64.wrap ((j:Int)+(P.length:Int))=((j+P.length:Nat):Int):=gT Om;have β:(A++(P++W.drop P.length)++p).length=x:=by simp only[aYU,a0R]; omega
  have hi:j+P.length<(A++(P++W.drop P.length)++p).length:=Om;have b1:((j+P.length:Nat):Int)<(x:Nat):=Om;have r1:=OI (Z:=Z) hi;have s1:=Hx (Z:=Z) hi 0;have J:j+P.length<((A++(P++W.drop P.length)++p).set (j+P.length) 0).length:=by rw[a0W]; exact hi
  have d:=fun v=>aLJ (A:=A) (P:=P) (W:=W) (Z:=p) (i:=P.length) rfl Om v;rw[hA] at d;generalize ζ:A++(P++W.drop P.length)++p=XX at *
  have r2:(eH (A++((P++[0])++W.drop (P.length+1))++p) Z)[j+P.length]?=some [.int .u32 ((0:Nat):Int)]:=by rw[← d 0,OI J,List.getElem_set_self]
  have s2:∀ v,(eH (A++((P++[0])++W.drop (P.length+1))++p) Z).set (j+P.length) [.int .u32 ((v:Nat):Int)]=eH (A++((P++[v])++W.drop (P.length+1))++p) Z:=by intro v;rw[← d 0,Hx J,List.set_set,d]
  have aXY:=wI P.length R;rw[← hD] at aXY;have ew:IntKind.i64.wrap ((P.length:Int)+1)=((P.length+1:Nat):Int):=dC Om;simp only[go_sem,M,ZR,Y,b1,l,r1,show ([PV.int .u32 (0:Int)])=[PV.int .u32 ((0:Nat):Int)] from rfl,s1,ZS,aW];by_cases c2:P.length<nl R
  ·have B:(P.length:Int)<(nl R:Nat):=Om;obtain⟨N,Q⟩:=aJQ R P.length c2;have hr:=bX (aI R) N;rw[Q] at hr;simp only[go_sem,B,ZT,hr,Y,b1,l,r2,s2,List.set_set,d,FH,ew];refine aD (P++[R/4294967296 ^ P.length%4294967296]) ⟨by simp; omega,by rw[aYU,aZB]; exact aXY.symm⟩ (by simp; omega) ?_ ?_
   ·rw[aYU,aZB];exact Lq
   ·rw[aYU,aZB];refine PH.aK (PH.aK a_ ?_) ?_<;>simp only[go_sem,l,show ¬ u=o from E]
  ·have B:¬ (P.length:Int)<(nl R:Nat):=Om;have Q:=aBU R P.length Om;rw[Q] at aXY;simp only[go_sem,B,d,FH,ew];refine aD (P++[0]) ⟨by simp; omega,by rw[aYU,aZB]; exact aXY.symm⟩ (by simp; omega) ?_ ?_
   ·rw[aYU,aZB];exact Lq
   ·rw[aYU,aZB];refine PH.aK (PH.aK a_ ?_) ?_<;>simp only[go_sem,l,show ¬ u=o from E]
 ·have M:¬ (P.length:Int)≤(y.length:Nat):=Om;have e:P.length=y.length+1:=Om;simp only[go_sem,M];refine hK _ _ (by unfold duF; exact Lq) ?_;have h2:A++eA (y.length+1) R++p=A++(P++W.drop P.length)++p:=by rw[a2L Om,a0M,← e,← hD]
  rw[h2];exact b_
theorem aBI {y W:List Nat} {m:Nat} (B:Lim y) (hW:Lim W) (x:y.length=m+1) (w:W.length=m+2) (A:0<y[m]):val W/val y≤(4294967296*W[m+1]+W[m])/y[m]:=by
 have p:=cH y (Om:m<y.length);rw[aZJ Om] at p;have d:=cH W (Om:m+1<W.length);rw[aZJ Om,cH W (Om:m<W.length)] at d;have i:=eX (hW.take m);rw[aZH,a1E Om] at i;have l:0<4294967296 ^ m:=a1K (by decide);have u:4294967296 ^ m*y[m]≤val y:=Om;have c:0<4294967296 ^ m*y[m]:=Nat.mul_pos l A;have e:val W=val (W.take m)+4294967296 ^ m*(4294967296*W[m+1]+W[m]):=by rw[d,a0L,aZE,aZP]; omega
 refine aZS (Nat.div_le_div_left u c) ?_;rw[← Nat.div_div_eq_div_mul,e,Nat.add_mul_div_left _ _ l,a2I i,aZM];exact aYV _
theorem awA {C:Ctx} (L:PX C) (U0 n o i d e m:Nat) (y z:List Nat) (N:e≠o) (hy:Lim y) (E:y.length=m+1) (ht:0<y[m]) (d':i=d+(m+1)) (R:i≤5000) (X:List Nat) (B:pL U0 (val y) (m+1) i d d X (aYR d 0)) (K:bT) (F:PF) (H:PH)
  (hF:(duF n o i y (y[m]) e d ((d:Int)-1)).le F) (hH:((PH.nil.set o (.rows 1 (eH X (aL z)))).set e (.rows 1 (aL (aYR d 0)))).le H)
  (hK:∀ X' Q' F' H',pL U0 (val y) (m+1) i d 0 X' Q'→(duF n o i y (y[m]) e d (-1)).le F'→((PH.nil.set o (.rows 1 (eH X' (aL z)))).set e (.rows 1 (aL Q'))).le H'→K .normal F' H') :
  aC.wp C (.block 2 (.loop wB)) K F H:=by
 have l:¬ o=e:=fun h=>N h.symm;have m':¬ e=o:=N;have hV:val y<4294967296 ^ (m+1):=by have:=eX hy; rw[E] at this; exact this
 have κ:0<val y:=by have h1:=cH y (Om:m<y.length);rw[aZJ Om] at h1;have:0<4294967296 ^ m*y[m]:=Nat.mul_pos (a1K (by decide)) ht;omega
 have s':=hy _ (aYQ (Om:m<y.length));generalize htop:y[m]=top at *
 simp only[go_sem];refine wp_loop (α:=Nat × List Nat × List Nat) (fun t=>duF n o i y top e d ((t.1:Int)-1)) (fun t=>(PH.nil.set o (.rows 1 (eH t.2.1 (aL z)))).set e (.rows 1 (aL t.2.2)))
  (fun t=>t.1≤d∧pL U0 (val y) (m+1) i d t.1 t.2.1 t.2.2) (fun t=>t.1) (d,X,aYR d 0) ⟨aYV _,B⟩ hF hH ?_
 rintro⟨k,X,Q⟩ ⟨hk,B⟩;simp only at hk B;simp only[go_sem,wB,ZJ,duF];by_cases h0:0<k
 ·obtain⟨j,rfl⟩:∃ j,k=j+1:=⟨k-1,by omega⟩;have hz:((j+1:Nat):Int)-1=(j:Int):=Om;have Ω:(j:Int)≥0:=Om;have dst:=Lw B hV Om d';rw[show m+1+1=m+2 from rfl] at dst;obtain⟨hlt,Γ⟩:=dst;have μ:=B.lu';have n':=B.lq';have M:((X.drop j).take (m+2)).length=m+2:=by rw[aZH,a0R]; omega
  have Y:Lim ((X.drop j).take (m+2)):=(B.limU.drop _).take _;have q':m+1<((X.drop j).take (m+2)).length:=Om;have p':m<((X.drop j).take (m+2)).length:=Om;have a1:j+(m+1)<X.length:=Om;have a0:j+m<X.length:=Om;have w1:((X.drop j).take (m+2))[m+1]=X[j+(m+1)]:=by simp
  have w0:((X.drop j).take (m+2))[m]=X[j+m]:=by simp
  have ξ:=aBI hy Y E M (by rw[htop]; exact ht);rw[w1,w0,htop] at ξ;have r1:=OI (Z:=aL z) a1;have r0:=OI (Z:=aL z) a0;have l1:=B.limU _ (aYQ a1);have l0:=B.limU _ (aYQ a0);generalize u':X[j+(m+1)]=w at *
  generalize t':X[j+m]=A at *
  have e1:IntKind.i64.wrap ((j:Int)+(y.length:Int))=((j+(m+1):Nat):Int):=by rw[E]; exact gT Om
  have e0:IntKind.i64.wrap (((j+(m+1):Nat):Int)-1)=((j+m:Nat):Int):=by rw[wrap_i64 Om Om]; omega
  have b1:((j+(m+1):Nat):Int)<(i:Nat):=Om;have b0:((j+m:Nat):Int)<(i:Nat):=Om;have ψ:IntKind.u64.wrap ((w:Nat):Int)=((w:Nat):Int):=bF Om;have χ:IntKind.u64.wrap ((A:Nat):Int)=((A:Nat):Int):=bF Om;have ε:shift .shl .u64 (w:Int) 32=some (.int .u64 ((2 ^ 32*w:Nat):Int)):=NE (s:=32) Om Om;have φ:(2:Nat) ^ 32=4294967296:=by decide
  have γ:=orI (a:=2 ^ 32*w) (b:=A) (n:=2 ^ 32*w+A) Om Om (Nat.two_pow_add_eq_or_of_lt Om w).symm Om;rw[φ] at ε γ;have Λ:¬ ((top:Nat):Int)=0:=Om;have σ:(4294967296*w+A)/top<18446744073709551616:=Nat.lt_of_le_of_lt (a1O _ _) Om;have δ:IntKind.u64.wrap (a1A ((4294967296*w+A:Nat):Int) ((top:Nat):Int))=(((4294967296*w+A)/top:Nat):Int):=by rw[show a1A ((4294967296*w+A:Nat):Int) ((top:Nat):Int)=(((4294967296*w+A)/top:Nat):Int) from rfl];exact bF σ
  have τ:val ((X.drop j).take (m+2))/val y<4294967296:=(a1T κ).2 (by rw[aZT]; exact hlt);have ν:=Hw (X:=X) (Z:=aL z) (j:=j) (m:=m+2) Om;have ο:j+(m+2)≤(eH X (aL z)).length:=by rw[eH,aYU,cC]; omega
  have β:val ((X.drop j).take (m+2))-val y*(val ((X.drop j).take (m+2))/val y)=val ((X.drop j).take (m+2))%val y:=by have:=a2H (val ((X.drop j).take (m+2))) (val y);omega
  have x:val y*(val ((X.drop j).take (m+2))/val y)≤val ((X.drop j).take (m+2)):=Nat.mul_div_le _ _;clear w1 w0;have gu:=fun g0=>aPE (C:=C) L n o i y top e d j X (aL z) N hy B.limU μ R Om κ (.rows 1 (aL Q)) g0;rw[E,show m+1+1=m+2 from rfl] at gu;generalize hW:(X.drop j).take (m+2)=W at *
  generalize r':val W/val y=J at *
  have Δ:aL W≠[]:=fun h=>by have:=congrArg List.length h;rw[cC,M] at this;simp at this
  have tail:∀ (g0:Nat) (F:PF) (H:PH),J≤g0→g0<4294967296→((duF n o i y top e d j).set 17 (.int .u64 g0)).le F→((PH.nil.set o (.rows 1 (eH X (aL z)))).set e (.rows 1 (aL Q))).le H →
    aC.wp C (.seq (.block 4 (.loop vZ)) (.seq (.region FF) (.seq (.seq (.region FG) (.block 6 (.loop wA))) (.region FI)))) (fF 3 (gS C (aC.wp C (.region FJ)) (fR (fun (t:Nat × List Nat × List Nat)=>duF n o i y top e d ((t.1:Int)-1)) (fun t=>(PH.nil.set o (.rows 1 (eH t.2.1 (aL z)))).set e (.rows 1 (aL t.2.2))) (fun t=>t.1≤d∧pL U0 (val y) (m+1) i d t.1 t.2.1 t.2.2) (fun t=>t.1) (j+1) (fF 2 K)))) F H:=by
   intro g0 F H hg Ψ hF hH;have gu:=gu g0 hg Ψ;simp only[go_sem] at gu;simp only[go_sem];refine gu _ F H hF hH ?_;intro S H1 p θ;have f11:S 11=some (.osl o 1 0 i):=p 11 _ (by unfold duF; simp only[go_sem]);have V:S 12=some (aJ y):=p 12 _ (by unfold duF; simp only[go_sem]);have ζ:S 15=some (.int .i64 j):=p 15 _ (by unfold duF; simp only[go_sem]);have η:S 17=some (.int .u64 (J:Nat)):=p 17 _ (by unfold duF; simp only[go_sem]);have ω:S 10=some (.int .i64 n):=p 10 _ (by unfold duF; simp only[go_sem]);have f13:S 13=some (.int .u64 top):=p 13 _ (by unfold duF; simp only[go_sem]);have f14:S 14=some (.osl e 1 0 d):=p 14 _ (by unfold duF; simp only[go_sem]);have ho:H1 o=some (.rows 1 (eH X (aL z))):=θ o _ (by simp only[go_sem,l]);have ρ:H1 e=some (.rows 1 (aL Q)):=θ e _ Sq;have b3:(j:Int)≤((j+(m+1)+1:Nat):Int):=Om;have b4:((j+(m+1)+1:Nat):Int)≤(i:Nat):=Om;have b5:j+(m+1)+1-j=m+2:=Om;have e2:IntKind.i64.wrap (((j+(m+1):Nat):Int)+1)=((j+(m+1)+1:Nat):Int):=dC Om;simp only[go_sem,FF,f11,ζ,V,aYN,e1,e2,b3,b4,b5];refine uC (src:=aL W) ?_ ?_ (fun h=>absurd h Δ) fun _ o' O=>?_
   ·simp only[go_sem,ho,ο,ν]
   ·unfold roomFor;rw[cC,M];simp only[maxLen]; omega
   rw[cC,M];have n1:¬ e=o':=fun h=>by subst h; rw[ρ] at O; cases O
   have n2:¬ o=o':=fun h=>by subst h; rw[ho] at O; cases O
   have nq:nl J≤1:=jZ (by rw[Nat.pow_one]; exact τ);have tm:=L.times y (aI J) hy (aV _) Om (by rw[aW]; omega);rw[aS] at tm;have nW:=fU Y;have mn:=L.minus W (aI (val y*J)) Y (aV _) (by rw[aS]; exact x) (by rw[aW]; exact aZS (fQ x) nW) Om;rw[aS,β] at mn;have Θ:(aL W).take (m+2)=aL W:=aZJ (by rw[cC]; omega);simp only[go_sem,η];refine aA (L.make J Om) Sq ?_;simp only[go_sem,V];refine aA tm Sq ?_;simp only[go_sem];refine rH (o:=o') (s:=1) (rs:=aL W) mn Sq (by simp only[go_sem,show m+2≤W.length by omega,Θ]) ?_;simp only[go_sem,FG];have Φ:(eH X (aL z)).map (fun r=>r.map (PV.dK o' 1 (aL W)))=eH X (aL z):=by
    have:eH X (aL z)=aL (X++z):=by simp[eH,aL]
    rw[this]; exact sG _ _ _ _
   have Ξ:(aL Q).map (fun r=>r.map (PV.dK o' 1 (aL W)))=aL Q:=sG _ _ _ _;have ur:=aRW (C:=C) n o i y top e d j X (aL z) N μ R Om (.rows 1 (aL Q)) J (val W%val y);rw[E,show m+1+1=m+2 from rfl] at ur;simp only[go_sem] at ur;refine ur _ _ _ ?_ ?_ ?_
   ·unfold duF
    (repeat' (first|exact c_|refine d_ ?_ ?_))<;>first|(simp only[go_sem,ω,f11,V,f13,f14,ζ,η,n1,n2]<;>rfl)|rfl
   ·refine PH.aK (PH.aK a_ ?_) ?_
    ·simp only[go_sem,l,n2,ho,cF.frz,Φ]
    ·simp only[go_sem,n1,ρ,cF.frz,Ξ]
   intro U H3 u ι;have g':U 10=some (.int .i64 n):=u 10 _ (by unfold duF; simp only[go_sem]);have h':U 11=some (.osl o 1 0 i):=u 11 _ (by unfold duF; simp only[go_sem]);have i':U 12=some (aJ y):=u 12 _ (by unfold duF; simp only[go_sem]);have j':U 13=some (.int .u64 top):=u 13 _ (by unfold duF; simp only[go_sem]);have υ:U 14=some (.osl e 1 0 d):=u 14 _ (by unfold duF; simp only[go_sem]);have k':U 15=some (.int .i64 j):=u 15 _ (by unfold duF; simp only[go_sem]);have l':U 17=some (.int .u64 J):=u 17 _ (by unfold duF; simp only[go_sem]);have e':H3 o=some (.rows 1 (eH (X.take j++eA (m+2) (val W%val y)++X.drop (j+(m+2))) (aL z))):=ι o _ (by simp only[go_sem,l]);have f':H3 e=some (.rows 1 (aL Q)):=ι e _ Sq;have b':j<Q.length:=Om;have rq:=bX Q b';have a':(j:Int)<(d:Nat):=Om;have sq:=fV Q j J;have ec:IntKind.u32.wrap ((J:Nat):Int)=((J:Nat):Int):=by rw[cO,a0E τ]
   have ej:IntKind.i64.wrap ((j:Int)-1)=(j:Int)-1:=wrap_i64 Om Om;simp only[go_sem,FI,υ,k',l',a',f',rq,ec,sq,FJ,ej];refine aD (α:=Nat × List Nat × List Nat) (j,_,_) ⟨by simp only; omega,Γ⟩ (by simp only; omega) ?_ ?_
   ·unfold duF
    (repeat' (first|exact c_|refine d_ ?_ ?_))<;>first|(simp only[go_sem,g',h',i',j',υ]<;>rfl)|rfl
   ·refine PH.aK (PH.aK a_ ?_) ?_
    ·simp only[go_sem,l,e']
    ·simp only[go_sem]
  simp only[aC.wp,go_sem] at tail;simp only[go_sem,hz,Ω];refine bO .nil dT a_ ?_;simp only[go_sem,ZK,e1,e0,b1,b0,l,r1,r0,ψ,χ,ε,γ,ZL,Λ,δ,ZM];by_cases c:(4294967296*w+A)/top>4294967295
  ·have c':(((4294967296*w+A)/top:Nat):Int)>4294967295:=Om;simp only[go_sem,c',ZN];exact tail 4294967295 _ _ Om (by decide) (by unfold duF; exact Lq) b_
  ·have c':¬ (((4294967296*w+A)/top:Nat):Int)>4294967295:=Om;simp only[go_sem,c'];exact tail _ _ _ ξ Om (by unfold duF; exact Lq) b_
 ·have:k=0:=Om;subst this;have hz:¬ ((0:Nat):Int)-1≥0:=by decide
  simp only[go_sem,hz];refine hK X Q _ _ B ?_ b_;unfold duF
  (repeat' (first|exact c_|refine d_ ?_ ?_))<;>first|(simp only[go_sem,show ((0:Nat):Int)-1=-1 from rfl]<;>rfl)|rfl
def aER (a:List Nat) (d q k r:Nat):PF:=(((((PF.nil.set 0 (aJ a)).set 1 (aJ [d])).set 6 (.osl q 1 0 a.length)).set 7 (.int .u64 r)).set 8 (.int .i64 ((k:Int)-1)))
theorem apG {C:Ctx} (L:PX C) (a:List Nat) (d:Nat) (ha:Lim a) (i:0<d) (hd:d<4294967296) (h1:a.length≤1000) (F:PF) (f0:F 0=some (aJ a)) (f1:F 1=some (aJ [d])) :
  aC.wp C (.seq (.region NL) (.seq (.region NM) (.seq (.seq (.region NN) (.block 0 (.loop EY))) (.seq (.region EZ) .ret)))) (aR [.tmp 4,.tmp 5] (cA (qX (val a) d))) F .nil:=by
 have W:(a.length:Int)*((4:Nat):Int)≤140737488355328:=Om;have X:(a.length:Int)≤9223372036854775807:=Om;have hz:aYR a.length [PV.int .u32 0]=aL (aYR a.length 0++[]):=by simp[aL]
 simp only[go_sem,NL,f0,aYN,W,X,hz];refine aN fun o ho=>?_;simp only[go_sem,NM,NN,f0,aYN];refine wp_loop (α:=Nat × List Nat × Nat) (fun t=>aER a d o t.1 t.2.2) (fun t=>PH.nil.set o (.rows 1 (aL (aYR t.1 0++t.2.1))))
  (fun t=>t.1+t.2.1.length=a.length∧Lim t.2.1∧t.2.2<d∧val t.2.1*d+t.2.2=val (a.drop t.1)) (fun t=>t.1) (a.length,[],0) ⟨by simp,by simp[Lim],i,by simp[val]⟩ ?_ ?_ ?_
 ·unfold aER
  (repeat' (first|exact c_|refine d_ ?_ ?_))<;>first|(simp only[go_sem,f0,f1,wrap_i64 (Om:-9223372036854775808≤(a.length:Int)-1) (Om:(a.length:Int)-1≤9223372036854775807)]<;>rfl)|rfl
 ·exact PH.aK a_ Sq
 rintro⟨k,S,r⟩ ⟨hk,e,M,c⟩;simp only at hk e M c;simp only[go_sem,EY,sa,aER];by_cases h0:0<k
 ·obtain⟨m,rfl⟩:∃ m,k=m+1:=⟨k-1,by omega⟩;have u:((m+1:Nat):Int)-1=(m:Int):=Om;have U:(m:Int)≥0:=Om;have p:m<a.length:=Om;have hlt:(m:Int)<(a.length:Nat):=Om;have β:=ha _ (aYQ p);have l:val (a.drop m)=a[m]+4294967296*val (a.drop (m+1)):=by rw[a0O p]; rfl
  have Q:=bX a p;generalize hx:a[m]=x at *
  have ex:IntKind.u64.wrap ((x:Nat):Int)=((x:Nat):Int):=bF Om;have ed:IntKind.u64.wrap ((d:Nat):Int)=((d:Nat):Int):=bF Om;have E:shift .shl .u64 (r:Int) 32=some (.int .u64 ((2 ^ 32*r:Nat):Int)):=NE (s:=32) Om Om;have N:(2:Nat) ^ 32=4294967296:=by decide
  have w:=orI (a:=2 ^ 32*r) (b:=x) (n:=2 ^ 32*r+x) Om Om (Nat.two_pow_add_eq_or_of_lt Om r).symm Om;rw[N] at E w;have K:(4294967296*r+x)/d<4294967296:=by rw[a1T i];have:4294967296*(r+1)≤4294967296*d:=a1F _ M;omega
  have R:¬ ((d:Nat):Int)=0:=Om;have A:IntKind.u64.wrap (a1A ((4294967296*r+x:Nat):Int) ((d:Nat):Int))=(((4294967296*r+x)/d:Nat):Int):=by rw[show a1A ((4294967296*r+x:Nat):Int) ((d:Nat):Int)=(((4294967296*r+x)/d:Nat):Int) from rfl];exact bF Om
  have B:Int.tmod ((4294967296*r+x:Nat):Int) ((d:Nat):Int)=(((4294967296*r+x)%d:Nat):Int):=rfl;have Z:IntKind.u32.wrap (((4294967296*r+x)/d:Nat):Int)=(((4294967296*r+x)/d:Nat):Int):=by rw[cO,a0E K]
  have H:aYR (m+1) 0++S=aYR m 0++(0::S):=by rw[List.replicate_succ',a0A]; rfl
  have V:(aL (aYR m 0++(0::S)))[m]?=some [.int .u32 ((0:Nat):Int)]:=by rw[bX _ (by simp)]; simp
  have J:(aL (aYR m 0++(0::S))).set m [.int .u32 (((4294967296*r+x)/d:Nat):Int)]=aL (aYR m 0++(((4294967296*r+x)/d)::S)):=by rw[fV,a1M _ _ (by simp)]; simp
  simp only[go_sem,u,U,sb,E,Q,ex,w,sd,ed,R,A,Z,hlt,H,V,J,ZF,B,ZG];refine aD (m,((4294967296*r+x)/d)::S,(4294967296*r+x)%d) ⟨by simp only[a0F]; omega,fun y hy=>?_,a0I _ i,?_⟩ (by simp only; omega) ?_ (PH.aK a_ Sq)
  ·rw[aYY] at hy;rcases hy with rfl | hy
   ·exact K
   ·exact e y hy
  ·simp only[val];rw[l,← c,aZX,aZE,aZP];have:=a2H (4294967296*r+x) d;rw[aZT d] at this;omega
  ·(repeat' (first|exact c_|refine d_ ?_ ?_))<;>first|(simp only[go_sem,wrap_i64 (Om:-9223372036854775808≤(m:Int)-1) (Om:(m:Int)-1≤9223372036854775807)]<;>rfl)|rfl
 ·have:k=0:=Om;subst this;have u:¬ ((0:Nat):Int)-1≥0:=by decide
  rw[a0B] at c;have hS:S.length=a.length:=Om;have K:val S=val a/d:=by rw[← c,aZT,Nat.mul_add_div i,a2I M,a0S]
  have Y:r=val a%d:=by rw[← c,aZT,Nat.mul_add_mod,a0E M]
  have γ:aYR 0 0++S=S:=by simp
  have hl:=L.trim S e Om;have O:(aL S).take a.length=aL S:=aZJ (by rw[cC]; omega);simp only[go_sem,u,EZ,a2G];refine rH (o:=o) (s:=1) (rs:=aL S) hl Sq (by simp only[go_sem,O,show a.length≤S.length by omega]) ?_;simp only[go_sem];refine aA (L.make r Om) Sq ?_;simp only[go_sem];refine aZ (vs:=[aJ (aI (val S)),aJ (aI r)]) (.inr rfl) .nil Ev a_ ⟨?_,rfl⟩;rw[K,Y];exact .refl _
theorem aHB {B m:Nat} (h:nl B=m+1):32*m<cL B∧cL B≤32*(m+1):=by
 refine⟨?_,(hL B (m+1)).2 Om⟩;rcases aZL (32*m) (cL B) with h1 | h1
 ·exact h1
 ·have:=(hL B m).1 h1;omega
theorem aHC {B:Nat} (h:B≠0):2 ^ (cL B-1)≤B:=by
 rcases aZL B (2 ^ (cL B-1)) with h1 | h1
 ·have c:=(mF B _).2 h1;have d:cL B≠0:=fun e=>h (kD.1 e);omega
 ·exact h1
theorem apH {C:Ctx} (L:PX C) (A B:Nat) (hB:B≠0) (hA:nl A≤512) (Ξ:nl B≤512) :
  BF.wp C (aR yl.res (cA (qX A B))) (PF.args [aJ (aI A),aJ (aI B)]) .nil:=by
 have O:=aV A;have LB:=aV B;have vA:=aS A;have vB:=aS B;have lA:(aI A).length=nl A:=rfl;have lB:(aI B).length=nl B:=rfl;simp only[go_sem,BF,ry,rz,yl];refine aA (L.cmp _ _ O LB Om Om) rfl ?_;rw[vA,vB];by_cases c1:A<B
 ·have hc:dJ A B<0:=by simp[dJ,c1]
  simp only[go_sem,hc,r8];refine aA (L.trim _ O Om) rfl ?_;rw[vA];simp only[go_sem];refine aZ (vs:=[.aB,aJ (aI A)]) (.inr rfl) .nil rfl a_ ⟨?_,rfl⟩;rw[qX,a2I c1,a0E c1,dW];exact CoL.tup (CoL.cons (.nil 1) (CoL.cons (.refl _) .nil))
 have hc:¬ dJ A B<0:=by unfold dJ;rw[if_neg c1];split<;>decide
 have ρ:0<B:=a1G hB;have c':nl B≠0:=fun h=>hB (gU.1 h);simp only[go_sem,hc,r9,aYN,lB];by_cases c2:nl B=1
 ·have R:B<4294967296:=by have:=(hC B 1).1 Om; simpa using this
  have χ:aI B=[B]:=oV hB R;have sh:=apG (C:=C) L (aI A) B O ρ R Om;rw[vA] at sh;simp only[aC.wp,go_sem] at sh;simp only[go_sem,bN (Om:((nl B:Nat):Int)=1)];exact sh _ rfl (by simp only[go_sem,χ])
 obtain⟨m,hm⟩:∃ m,nl B=m+1:=⟨nl B-1,by omega⟩;have b':1≤m:=Om;obtain⟨Ω,α⟩:=aHB hm;obtain⟨n,hn⟩:∃ n,n+cL B=32*(m+1):=⟨32*(m+1)-cL B,by omega⟩;have γ:n<32:=Om;have J:0<2 ^ n:=a1K (by decide);have U:B<2 ^ cL B:=(mF B _).1 (aYV _);have S:=aHC hB;have W:B*2 ^ n<4294967296 ^ (m+1):=by have:B*2 ^ n<2 ^ cL B*2 ^ n:=Nat.mul_lt_mul_of_pos_right U J;rw[← Nat.pow_add,show cL B+n=32*(m+1) by omega,Nat.pow_mul] at this;exact this
 have Θ:4294967296 ^ m*2147483648≤B*2 ^ n:=by have:2 ^ (cL B-1)*2 ^ n≤B*2 ^ n:=aZY _ S;rw[← Nat.pow_add,show cL B-1+n=32*m+31 by omega,Nat.pow_add,Nat.pow_mul] at this;exact this
 have nV:nl (B*2 ^ n)=m+1:=by
  have y:=(hC (B*2 ^ n) (m+1)).2 W;rcases aZL (nl (B*2 ^ n)) (m+1) with h | h
  ·have:=(hC (B*2 ^ n) m).1 Om;have ω:0<4294967296 ^ m:=a1K (by decide);omega
  ·omega
 have Ψ:B*2 ^ n≠0:=Nat.mul_ne_zero hB Om;have e':nl (A*2 ^ n)≤nl A+1:=jY (aYV _) (jZ (by rw[Nat.pow_one]; exact Nat.pow_lt_pow_right (a:=2) (m:=n) (n:=32) (by decide) γ));have υ:B*2 ^ n≤A*2 ^ n:=aZY _ Om;have f':m+1≤nl (A*2 ^ n):=by rw[← nV]; exact fQ υ
 have Φ:A*2 ^ n≠0:=Om;have ι:IntKind.i64.wrap (32*((nl B:Nat):Int))=((32*(m+1):Nat):Int):=by rw[wrap_i64 Om Om]; omega
 have en:IntKind.i64.wrap (((32*(m+1):Nat):Int)-((cL B:Nat):Int))=(n:Int):=by rw[wrap_i64 Om Om]; omega
 have bt:=L.bits (aI B) LB Om;rw[vB] at bt;have ua:=L.upM (aI A) n O Om Om (fun h=>by have:=eX O; rw[h] at this; omega);have ub:=(L.upM (aI B) n LB Om Om (fun h=>by have:=eX LB; rw[h] at this; omega)).freeze;rw[vA] at ua;rw[vB] at ub;have tail:∀ (o:Nat) (F:PF) (H:PH),F 0=some (aJ (aI A))→F 1=some (aJ (aI B))→F 10=some (.int .i64 n)→F 11=some (.osl o 1 0 (nl (A*2 ^ n)+2))→F 12=some (aJ (aI (B*2 ^ n)))→H o=some (.rows 1 (aL (aI (A*2 ^ n))++[[.int .u32 0],[.int .u32 0]])) →
   aC.wp C (.seq (.region FA) (.seq (.region FB) (.seq (.region FC) (.seq (.seq (.region FD) (.block 2 (.loop wB))) (.seq (.region FK) .ret))))) (aR [.tmp 4,.tmp 5] (cA (qX A B))) F H:=by
  intro o F H f0 f1 κ f11 μ hH;have LU:=aV (A*2 ^ n);have LV:=aV (B*2 ^ n);have vU:=aS (A*2 ^ n);have vV:=aS (B*2 ^ n);have lU:(aI (A*2 ^ n)).length=nl (A*2 ^ n):=rfl;have lV:(aI (B*2 ^ n)).length=m+1:=nV;have eu:IntKind.i64.wrap (((nl (A*2 ^ n):Nat):Int)+1)=((nl (A*2 ^ n)+1:Nat):Int):=dC Om;have b1:((nl (A*2 ^ n)+1:Nat):Int)≤((nl (A*2 ^ n)+2:Nat):Int):=Om;simp only[go_sem,FA,f11,f0,κ];refine aA ua.freeze rfl ?_;obtain⟨c,a'⟩:∃ c,nl (A*2 ^ n)+1-(m+1)=c:=⟨_,rfl⟩;have ψ:nl (A*2 ^ n)+1=c+(m+1):=Om;have em:IntKind.i64.wrap (((m+1:Nat):Int)-1)=((m:Nat):Int):=by rw[wrap_i64 Om Om]; omega
  have l:m<(aI (B*2 ^ n)).length:=Om;have rm:=bX (aI (B*2 ^ n)) l;have tl:=LV _ (aYQ l);have htop:0<(aI (B*2 ^ n))[m]:=by
   have y:=cH (aI (B*2 ^ n)) l;rw[aZJ Om,vV] at y;have h2:=eX (LV.take m);rw[aZH,a1E Om] at h2;have ω:0<4294967296 ^ m:=a1K (by decide);rcases a1B (aI (B*2 ^ n))[m] with h | h
   ·rw[h] at y; omega
   ·exact h
  have θ:2147483648≤(aI (B*2 ^ n))[m]:=by
   have y:=cH (aI (B*2 ^ n)) l;rw[aZJ Om,vV] at y;have h2:=eX (LV.take m);rw[aZH,a1E Om] at h2;rcases aZL (aI (B*2 ^ n))[m] 2147483648 with h | h
   ·exfalso;have h3:4294967296 ^ m*((aI (B*2 ^ n))[m]+1)≤4294967296 ^ m*2147483648:=a1F _ h;rw[aZE,Nat.mul_one] at h3;omega
   ·exact h
  have u:=awA (C:=C) L (A*2 ^ n) n o (nl (A*2 ^ n)+1) c;have hI:pL (A*2 ^ n) (val (aI (B*2 ^ n))) (m+1) (nl (A*2 ^ n)+1) c c (aI (A*2 ^ n)++[0]) (aYR c 0):=by
   refine⟨by rw[aYU,lU]; rfl,List.length_replicate,LU.app fun x N=>by simp at N; omega,wL _,?_,?_,fun i x _ N=>W5 N⟩
   ·rw[gJ,vU,sO]; simp[val]
   ·have Λ:(aI (A*2 ^ n)++[0]).length=nl (A*2 ^ n)+1:=by rw[aYU,lU]; rfl
    have Δ:val (aI (A*2 ^ n)++[0])=A*2 ^ n:=by rw[gJ,vU]; simp[val]
    rw[vI (LU.app fun x N=>by simp at N; omega) Om,Δ,vV,a1T (a1K (by decide))];have y:A*2 ^ n<4294967296 ^ nl (A*2 ^ n):=(hC _ _).1 (aYV _);have N:nl (A*2 ^ n)=m+c:=Om;rw[N,Nat.pow_add] at y;have h2:4294967296 ^ m*4294967296 ^ c≤(B*2 ^ n)*4294967296 ^ c:=aZY _ Om;omega
  have K:aL (aI (A*2 ^ n))++[[PV.int .u32 0],[PV.int .u32 0]]=eH (aI (A*2 ^ n)++[0]) (aL [0]):=by simp[eH,aL]
  rw[K] at hH;generalize η:(aI (B*2 ^ n))[m]=top at *
  have et:IntKind.u64.wrap ((top:Nat):Int)=((top:Nat):Int):=bF Om;have k2:IntKind.i64.wrap (((nl (A*2 ^ n)+1:Nat):Int)-((m+1:Nat):Int))=((c:Nat):Int):=by rw[wrap_i64 Om Om]; omega
  have k3:((c:Nat):Int)*((4:Nat):Int)≤140737488355328:=Om;have k4:((c:Nat):Int)≤9223372036854775807:=Om;have hz:aYR c [PV.int .u32 0]=aL (aYR c 0):=by simp[aL]
  have jq:IntKind.i64.wrap ((c:Int)-1)=(c:Int)-1:=wrap_i64 Om Om;simp only[go_sem,aYN,lU,eu,b1,FB,μ,lV,em,rm,et,FC,k2,k3,k4,hz];refine aN fun w ζ=>?_;have δ:w≠o:=by rintro rfl; rw[hH] at ζ; cases ζ
  have e:¬ o=w:=fun h=>δ h.symm;have p:=u w m (aI (B*2 ^ n)) [0] δ LV lV (by rw[η]; exact htop) ψ Om _ hI;rw[η] at p;simp only[go_sem] at p;simp only[go_sem,FD,jq];refine p _ _ _ ?_ ?_ ?_
  ·unfold duF;exact Lq
  ·refine PH.aK (PH.aK a_ ?_) ?_
   ·simp only[go_sem,e,hH]
   ·simp only[go_sem]
  clear p u;intro X Q F1 H1 d E V;have ν:F1 10=some (.int .i64 n):=E 10 _ (by unfold duF; simp only[go_sem]);have ξ:F1 11=some (.osl o 1 0 (nl (A*2 ^ n)+1)):=E 11 _ (by unfold duF; simp only[go_sem]);have ο:F1 14=some (.osl w 1 0 c):=E 14 _ (by unfold duF; simp only[go_sem]);have ε:H1 o=some (.rows 1 (eH X (aL [0]))):=V o _ (by simp only[go_sem,e]);have Γ:H1 w=some (.rows 1 (aL Q)):=V w _ Sq;have hu:val X<val (aI (B*2 ^ n)):=by have:=d.r; rwa [a0B] at this
  have M:=d.v;rw[vV] at hu M;have τ:val Q=A/B:=by
   have:A*2 ^ n/(B*2 ^ n)=val Q:=by rw[← M,Nat.add_mul_div_right _ _ Om,a2I hu,aZM]
   rw[← this,Nat.mul_div_mul_right _ _ J]
  have φ:val X/2 ^ n=A%B:=by
   have:A*2 ^ n%(B*2 ^ n)=val X:=by rw[← M,Nat.add_mul_mod_self_right,a0E hu]
   rw[← this,Nat.mul_mod_mul_right,Nat.mul_div_cancel _ J]
  have lX:=d.lu';have lQ:=d.lq';have σ:(aL Q).take c=aL Q:=aZJ (by rw[cC]; omega);have Z:(eH X (aL [0])).take (nl (A*2 ^ n)+1)=aL X:=by rw[eH,List.take_append_of_le_length (by rw[cC]; omega),aZJ (by rw[cC]; omega)]
  have Y:nl (A*2 ^ n)+1≤(eH X (aL [0])).length:=by rw[eH,aYU,cC]; omega
  have β:(eH X (aL [0])).map (fun r=>r.map (PV.dK w 1 (aL Q)))=eH X (aL [0]):=by
   have:eH X (aL [0])=aL (X++[0]):=by simp[eH,aL]
   rw[this]; exact sG _ _ _ _
  have nX:=fU d.limU;have t1:=L.trim Q d.limQ Om;have t2:=L.trim X d.limU Om;have dn:=L.down (aI (val X)) n (aV _) (by rw[aW]; omega) Om;rw[aS,φ] at dn;rw[τ] at t1;generalize aL [0]=Z0 at ε Z Y β;simp only[go_sem,FK,ο];refine rH (o:=w) (s:=1) (rs:=aL Q) t1 Γ (by simp only[go_sem,σ,show c≤Q.length by omega]) ?_;simp only[go_sem,ξ,e];refine rH (o:=o) (s:=1) (rs:=eH X Z0) t2 (by simp only[go_sem,e,ε,cF.frz,β]) (by simp only[go_sem,Z,Y]) ?_;simp only[go_sem,ν];refine aA dn rfl ?_;simp only[go_sem];exact aZ (vs:=[aJ (aI (A/B)),aJ (aI (A%B))]) (.inr rfl) .nil rfl a_ ⟨.refl _,rfl⟩
 simp only[aC.wp,go_sem] at tail;simp only[go_sem,bD (Om:¬ ((nl B:Nat):Int)=1),ZH,aYN,lB];refine aA bt rfl ?_;simp only[go_sem,ι,en,ZI];refine lF ua rfl a_ fun r H1 hr _=>?_;have α:(2:Nat)*1≤16777216:=by decide
 rcases hr with ⟨h0,_⟩ | ⟨o,rs,rfl,rfl,hrl,hrt⟩
 ·exfalso;have:=congrArg List.length h0;rw[cC,aW] at this;simp at this;omega
 rw[PH.pU];rw[cC,aW] at hrl hrt;simp only[go_sem,α,cC,aW];refine W0 (src:=[[.int .u32 0],[.int .u32 0]]) (rs:=rs) rfl ?_ Sq hrl ?_ fun o' d'=>?_
 ·unfold roomFor;simp only[maxLen,a0F,a1H]; omega
 ·rw[hrt];simp only[go_sem];refine aA ub rfl ?_;simp only[go_sem];exact tail o _ _ rfl rfl rfl rfl rfl Sq
 ·rw[hrt];simp only[go_sem];refine aA ub rfl ?_;simp only[go_sem];exact tail o' _ _ rfl rfl rfl rfl rfl Sq
def bG (C:Ctx) (k:Nat) (c:aX):Prop:=∀ (args:List PV) (H:PH) (R:PV→PH→Prop),args.length≤c.ntmps→c.body.wp C (aR c.res R) (PF.args args) H→aH C k args H R
theorem bG.go {C:Ctx} {k:Nat} {c:aX} (r:bG C k c) {args:List PV} {H:PH} {R:PV→PH→Prop} (h:c.body.wp C (aR c.res R) (PF.args args) H) (d:Nat.ble args.length c.ntmps=true):aH C k args H R:=r args H R (Nat.le_of_ble_eq_true d) h
abbrev wU (C:Ctx):Prop:=∀ n:Nat,n<100→aH C 195 [.int .i64 n] .nil (aF (.str (cB n)))
section
variable {C:Ctx} {F F':PF} {H:PH}
theorem cU (c:F.le F') {x:aQ} {v:PV} (h:x.ev F=some v):x.ev F'=some v:=by
 cases x
 ·exact c _ _ h
 all_goals exact h
theorem GM (c:F.le F'):∀ {xs:List aQ} {vs:List PV},aQ.evs F xs=some vs→aQ.evs F' xs=some vs
 | [],_,h=>h
 | x::xs,vs,h=>by
  rw[rT] at h ⊢;cases e:x.ev F with
  | none=>simp[e] at h
  | some v =>
   cases d:aQ.evs F xs with
   | none=>simp[d] at h
   | some i =>rw[e,d] at h;rw[cU c e,GM c d];exact h
theorem Mq (c:F.le F'):∀ {ps:List (Nat × Nat × aQ)} {cs ds:List PV},qE cs F ps=some ds→qE cs F' ps=some ds
 | [],_,_,h=>h
 | (i,size,x)::ps,cs,ds,h=>by
  simp only[qE] at h ⊢;cases d:x.ev F with
  | none=>simp[d] at h
  | some v =>
   rw[d] at h;rw[cU c d];simp only at h ⊢;split at h
   ·rename_i e; rw[if_pos e]; exact Mq c h
   ·cases h
theorem DN (c:F.le F') {size:Nat}:∀ {ps:List (Nat × aQ)} {cs ds:List (List PV)},gX size cs F ps=some ds→gX size cs F' ps=some ds
 | [],_,_,h=>h
 | (i,x)::ps,cs,ds,h=>by
  simp only[gX] at h ⊢;cases d:x.ev F with
  | none=>simp[d] at h
  | some v =>
   rw[d] at h;rw[cU c d];simp only at h ⊢;split at h
   ·rename_i e; rw[if_pos e]; exact DN c h
   ·cases h
theorem QC (c:F.le F') {d n:Int} {x:Option aQ} (h:bnd F d x=some n):bnd F' d x=some n:=by
 cases x with
 | none=>exact h
 | some x =>
  simp only[bnd] at h ⊢;cases e:x.ev F with
  | none=>simp[e] at h
  | some v=>rw[cU c e,← e]; exact h
theorem S1 {op:POp} {v:PV} (A:F.le F') (h:aP op F H=some v):aP op F' H=some v:=by
 cases op
 case mv x=>exact cU A h
 case pick c a b =>
  simp only[aP] at h ⊢;cases K:c.ev F with
  | none=>simp[K] at h
  | some t =>
   rw[K] at h;rw[cU A K];cases t<;>simp only at h ⊢<;>try cases h
   rename_i t;cases t
   ·simp only[a1S,if_false] at h ⊢; exact cU A h
   ·simp only[if_true] at h ⊢; exact cU A h
 case same x =>
  simp only[aP] at h ⊢;cases e:x.ev F with
  | none=>simp[e] at h
  | some a=>rw[cU A e,← e]; exact h
 case un o x =>
  simp only[aP] at h ⊢;cases e:x.ev F with
  | none=>simp[e] at h
  | some a=>rw[cU A e,← e]; exact h
 case conv k x =>
  simp only[aP] at h ⊢;cases e:x.ev F with
  | none=>simp[e] at h
  | some a=>rw[cU A e,← e]; exact h
 case aXP x =>
  simp only[aP] at h ⊢;cases e:x.ev F with
  | none=>simp[e] at h
  | some a=>rw[cU A e,← e]; exact h
 case aYF o x =>
  simp only[aP] at h ⊢;cases e:x.ev F with
  | none=>simp[e] at h
  | some a=>rw[cU A e,← e]; exact h
 case field o n x =>
  simp only[aP] at h ⊢;cases e:x.ev F with
  | none=>simp[e] at h
  | some a=>rw[cU A e,← e]; exact h
 case aYC x =>
  simp only[aP] at h ⊢;cases e:x.ev F with
  | none=>simp[e] at h
  | some a=>rw[cU A e,← e]; exact h
 case isNil n x =>
  simp only[aP] at h ⊢;cases e:x.ev F with
  | none=>simp[e] at h
  | some a=>rw[cU A e,← e]; exact h
 case lenM x =>
  simp only[aP] at h ⊢;cases e:x.ev F with
  | none=>simp[e] at h
  | some a=>rw[cU A e,← e]; exact h
 case aYM x =>
  simp only[aP] at h ⊢;cases e:x.ev F with
  | none=>simp[e] at h
  | some a=>rw[cU A e,← e]; exact h
 case extract x i =>
  simp only[aP] at h ⊢;cases e:x.ev F with
  | none=>simp[e] at h
  | some a=>rw[cU A e,← e]; exact h
 case aXQ x =>
  simp only[aP] at h ⊢;cases e:x.ev F with
  | none=>simp[e] at h
  | some a=>rw[cU A e,← e]; exact h
 case len x =>
  simp only[aP] at h ⊢;cases e:x.ev F with
  | none=>simp[e] at h
  | some a=>rw[cU A e,← e]; exact h
 case box r x =>
  cases r
  ·cases h
  simp only[aP] at h ⊢;cases e:x.ev F with
  | none=>simp[e] at h
  | some a=>rw[cU A e,← e]; exact h
 case load n p =>
  cases n
  all_goals
   simp only[aP] at h ⊢;cases e:p.ev F with
   | none=>simp[e] at h
   | some a=>rw[cU A e,← e]; exact h
 case bin o x y =>
  simp only[aP] at h ⊢;cases e:x.ev F with
  | none=>simp[e] at h
  | some a =>
   cases B:y.ev F with
   | none=>simp[e,B] at h
   | some b=>rw[cU A e,cU A B,← e,← B]; exact h
 case eqb n x y =>
  simp only[aP] at h ⊢;cases e:x.ev F with
  | none=>simp[e] at h
  | some a =>
   cases B:y.ev F with
   | none=>simp[e,B] at h
   | some b=>rw[cU A e,cU A B,← e,← B]; exact h
 case eqs n k x y =>
  simp only[aP] at h ⊢;cases e:x.ev F with
  | none=>simp[e] at h
  | some a =>
   cases B:y.ev F with
   | none=>simp[e,B] at h
   | some b=>rw[cU A e,cU A B,← e,← B]; exact h
 case aXT s x i =>
  simp only[aP] at h ⊢;cases e:x.ev F with
  | none=>simp[e] at h
  | some a =>
   cases B:i.ev F with
   | none=>simp[e,B] at h
   | some b=>rw[cU A e,cU A B,← e,← B]; exact h
 case idxA n s x i =>
  simp only[aP] at h ⊢;cases e:x.ev F with
  | none=>simp[e] at h
  | some a =>
   cases B:i.ev F with
   | none=>simp[e,B] at h
   | some b=>rw[cU A e,cU A B,← e,← B]; exact h
 case idxV n s g x i =>
  simp only[aP] at h ⊢;cases e:x.ev F with
  | none=>simp[e] at h
  | some a =>
   cases B:i.ev F with
   | none=>simp[e,B] at h
   | some b=>rw[cU A e,cU A B,← e,← B]; exact h
 case aYD x i =>
  simp only[aP] at h ⊢;cases e:x.ev F with
  | none=>simp[e] at h
  | some a =>
   cases B:i.ev F with
   | none=>simp[e,B] at h
   | some b=>rw[cU A e,cU A B,← e,← B]; exact h
 case aXX m x y =>
  simp only[aP] at h ⊢;cases e:x.ev F with
  | none=>simp[e] at h
  | some a =>
   cases B:y.ev F with
   | none=>simp[e,B] at h
   | some b=>rw[cU A e,cU A B,← e,← B]; exact h
 case lookup sh z x k ok =>
  simp only[aP] at h ⊢;cases e:x.ev F with
  | none=>simp[e] at h
  | some a =>
   cases B:k.ev F with
   | none=>simp[e,B] at h
   | some b=>rw[cU A e,cU A B,← e,← B]; exact h
 case build z ps =>simp only[aP,aYX] at h ⊢;obtain⟨cs,E,J⟩:=h;exact⟨cs,Mq A E,J⟩
 case aXI r s l z ps =>
  cases r
  ·cases h
  simp only[aP] at h ⊢;split at h
  ·rename_i K;rw[if_pos K];rw[aYX] at h ⊢;obtain⟨cs,E,J⟩:=h;exact⟨cs,DN A E,J⟩
  ·cases h
 case mkfn n cs =>simp only[aP,aYX] at h ⊢;obtain⟨vs,E,J⟩:=h;exact⟨vs,GM A E,J⟩
 case sliceA n s x lo hi mx =>
  cases lo<;>cases hi<;>cases mx<;>simp only[aP] at h ⊢<;>try cases h
  cases e:x.ev F with
  | none=>simp[e] at h
  | some a=>rw[cU A e,← e]; exact h
 case aXZ x lo hi =>
  simp only[aP] at h ⊢;cases e:x.ev F with
  | none=>simp[e] at h
  | some a =>
   rw[e] at h;rw[cU A e];cases a<;>simp only at h ⊢<;>try cases h
   cases E:bnd F 0 lo with
   | none=>simp[E] at h
   | some l =>
    rename_i s;cases J:bnd F s.length hi with
    | none=>simp[E,J] at h
    | some u=>rw[QC A E,QC A J,← E,← J]; exact h
 case slice s x lo hi mx =>
  simp only[aP] at h ⊢;cases e:x.ev F with
  | none=>simp[e] at h
  | some a =>
   rw[e] at h;rw[cU A e];have N:∀ (d:Int) (w:PV),(match bnd F 0 lo,bnd F d hi with
     | some a1,some a2=>match (generalizing:=false) mx with
      | none=>PV.slice s w a1 a2 none
      | some m=>(bnd F 0 (some m)).bind fun m=>PV.slice s w a1 a2 (some m)
     | _,_=>none)=some v→(match bnd F' 0 lo,bnd F' d hi with
     | some a1,some a2=>match (generalizing:=false) mx with
      | none=>PV.slice s w a1 a2 none
      | some m=>(bnd F' 0 (some m)).bind fun m=>PV.slice s w a1 a2 (some m)
     | _,_=>none)=some v:=by
    intro d w h;cases E:bnd F 0 lo with
    | none=>simp[E] at h
    | some l =>
     cases J:bnd F d hi with
     | none=>simp[E,J] at h
     | some u =>
      rw[E,J] at h;rw[QC A E,QC A J];cases mx with
      | none=>exact h
      | some m =>
       simp only at h ⊢;cases M:bnd F 0 (some m) with
       | none=>simp[M] at h
       | some q=>rw[QC A M,← M]; exact h
   cases a<;>simp only at h ⊢<;>first | exact N _ _ h | cases h
 all_goals exact h
theorem Ka {op:POp} {r:(Nat→PV) × cF} (d:F.le F') (h:dD op F=some r):dD op F'=some r:=by
 cases op
 case box b x =>
  cases b
  ·simp only[dD] at h ⊢;cases e:x.ev F with
   | none=>simp[e] at h
   | some a=>rw[cU d e,← e]; exact h
  ·cases h
 case aXI b s l z ps =>
  cases b
  ·simp only[dD] at h ⊢;split at h
   ·rename_i w;rw[if_pos w];rw[aYX] at h ⊢;obtain⟨cs,p,u⟩:=h;exact⟨cs,DN d p,u⟩
   ·cases h
  ·cases h
 case aXK s b z l c =>
  simp only[dD] at h ⊢;cases e:l.ev F with
  | none=>simp[e] at h
  | some a =>
   cases i:c.ev F with
   | none=>simp[e,i] at h
   | some b=>rw[cU d e,cU d i,← e,← i]; exact h
 all_goals exact h
theorem W3 {op:POp} {K:PV→PH→Prop} (d:F.le F') (h:cD op F H K):cD op F' H K:=by
 cases op
 case store n x y =>
  simp only[cD] at h ⊢;cases e:x.ev F with
  | none=>simp[e] at h
  | some a =>
   cases i:y.ev F with
   | none=>simp[e,i] at h
   | some b=>rw[cU d e,cU d i]; rw[e,i] at h; exact h
 case append s b x y =>
  simp only[cD] at h ⊢;cases e:x.ev F with
  | none=>simp[e] at h
  | some a =>
   cases i:y.ev F with
   | none=>simp[e,i] at h
   | some b=>rw[cU d e,cU d i]; rw[e,i] at h; exact h
 case aXU sh x y z =>
  simp only[cD] at h ⊢;cases e:x.ev F with
  | none=>simp[e] at h
  | some a =>
   cases i:y.ev F with
   | none=>simp[e,i] at h
   | some b =>
    cases l:z.ev F with
    | none=>simp[e,i,l] at h
    | some c=>rw[cU d e,cU d i,cU d l]; rw[e,i,l] at h; exact h
 case insert sh x y z =>
  simp only[cD] at h ⊢;cases e:x.ev F with
  | none=>simp[e] at h
  | some a =>
   cases i:y.ev F with
   | none=>simp[e,i] at h
   | some b =>
    cases l:z.ev F with
    | none=>simp[e,i,l] at h
    | some c=>rw[cU d e,cU d i,cU d l]; rw[e,i,l] at h; exact h
 all_goals exact h
theorem PF.aOZ (c:F.le F') (i:Nat) (v:PV):(F.set i v).le (F'.set i v):=by
 intro j u h;rw[kM] at h ⊢;split at h
 ·rename_i e; rw[if_pos e]; exact h
 ·rename_i e; rw[if_neg e]; exact c j u h
theorem PF.tT (c:F.le F') (d:Option Nat) (v:PV):(F.put d v).le (F'.put d v):=by
 cases d with
 | none=>exact c
 | some d=>exact PF.aOZ c d v
theorem PF.aNX (c:F.le F') (o s:Nat) (rs:List (List PV)):(F.frz o s rs).le (F'.frz o s rs):=by
 intro j u h;rw[nK,aYX] at h ⊢;obtain⟨x,d,e⟩:=h;exact⟨x,c j x d,e⟩
theorem PF.le_trans {A B D:PF} (h:A.le B) (k:B.le D):A.le D:=fun i v hi=>k i v (h i v hi)
theorem jJ.up {e:PF} {i:PH} (h:jJ F H e i):∀ {F':PF},F.le F'→∃ c,jJ F' H c i∧e.le c:=by
 induction h with
 | refl F H=>exact fun {F'} d=>⟨F',.refl _ _,d⟩
 | step o u _ w =>intro F' d;obtain⟨c,l,p⟩:=w (PF.aNX d o _ _);exact⟨c,.step o u l,p⟩
theorem it {name:Nat} {args:Option (List PV)} {d:Option Nat} {K1 K2:PF→PH→Prop} (x:∀ F F' H,F.le F'→K1 F H→K2 F' H) (e:F.le F') {c:Option (List PV)} (y:∀ vs,args=some vs→c=some vs) (h:sQ C name args d K1 F H):sQ C name c d K2 F' H:=by
 obtain⟨vs,i,R,l,p,u,w⟩:=h;exact⟨vs,i,R,y _ l,p,u,fun r H' a b=>x _ _ _ (PF.tT e d r) (w r H' a b)⟩
theorem Qa {cs:List PV} {args:List aQ} (c:F.le F') (vs:List PV) (h:(aQ.evs F args).map (·++cs)=some vs):(aQ.evs F' args).map (·++cs)=some vs:=by
 rw[aYX] at h ⊢;obtain⟨x,d,e⟩:=h;exact⟨x,GM c d,e⟩
theorem Zg {name:Nat} {args:List aQ} {cs:List PV} {d:Option Nat} {K1 K2:PF→PH→Prop} (i:∀ F F' H,F.le F'→K1 F H→K2 F' H) (c:F.le F') (h:iV C name args cs d K1 F H):iV C name args cs d K2 F' H:=by
 rcases h with h | ⟨F1,H1,h1,h2⟩
 ·exact .inl (it i c (Qa c) h)
 ·obtain⟨e,k1,k2⟩:=h1.up c;exact .inr ⟨e,H1,k1,it i k2 (Qa k2) h2⟩
theorem SQ {op:POp} {d:Option Nat} {K1 K2:PF→PH→Prop} (l:∀ F F' H,F.le F'→K1 F H→K2 F' H) (c:F.le F') (h:nF (dD op F) d K1 F H):nF (dD op F') d K2 F' H:=by
 obtain⟨u,x,e,i⟩:=h;exact⟨u,x,Ka c e,fun o p=>l _ _ _ (PF.tT c d _) (i o p)⟩
theorem vq {op:POp} {d:Option Nat} {K1 K2:PF→PH→Prop} (l:∀ F F' H,F.le F'→K1 F H→K2 F' H) (c:F.le F') (h:bZ (aP op F H) d K1 F H):bZ (aP op F' H) d K2 F' H:=by
 obtain⟨v,e,i⟩:=h;exact⟨v,S1 c e,l _ _ _ (PF.tT c d v) i⟩
theorem Jl {op:POp} {d:Option Nat} {K1 K2:PF→PH→Prop} (e:∀ F F' H,F.le F'→K1 F H→K2 F' H) (c:F.le F') (h:cD op F H fun r H'=>K1 (F.put d r) H'):cD op F' H fun r H'=>K2 (F'.put d r) H' :=
 W3 c (BN (fun v H' i=>e _ _ _ (PF.tT c d v) i) h)
theorem aGS {op:POp} {d:Option Nat} {K1 K2:PF→PH→Prop} (i:∀ F F' H,F.le F'→K1 F H→K2 F' H) (e:F.le F') (h:wpOp C op d K1 F H):wpOp C op d K2 F' H:=by
 cases op
 case call n a=>exact Zg i e h
 case aYE x a =>
  have w:vL C (x.ev F) a d K1 F H:=h;show vL C (x.ev F') a d K2 F' H;cases M:x.ev F with
  | none=>rw[M] at w; exact w.elim
  | some u =>
   rw[cU e M];rw[M] at w;cases u<;>first | exact Zg i e w | exact w.elim | skip
   obtain⟨l,O,A⟩:=w;refine⟨l,O,?_⟩;rcases A with ⟨vs,E,R,A,J,K,h5⟩ | ⟨F1,H1,k1,vs,E,R,A,J,K,h5⟩
   ·exact .inl ⟨vs,E,R,GM e A,J,K,fun r H' p q=>i _ _ _ (PF.tT e d r) (h5 r H' p q)⟩
   ·obtain⟨B,k2,N⟩:=k1.up e;exact .inr ⟨B,H1,k2,vs,E,R,GM N A,J,K,fun r H' p q=>i _ _ _ (PF.tT N d r) (h5 r H' p q)⟩
 case box r x=>cases r<;>first | exact SQ (op:=.box false x) i e h | exact vq (op:=.box true x) i e h
 case aXI r s l z ps=>cases r<;>first | exact SQ (op:=.aXI false s l z ps) i e h | exact vq (op:=.aXI true s l z ps) i e h
 case alloc cs=>exact SQ (op:=.alloc cs) i e h
 case aXK s b z l c=>exact SQ (op:=.aXK s b z l c) i e h
 case aYI sh=>exact SQ (op:=.aYI sh) i e h
 case store n x y=>exact Jl (op:=.store n x y) i e h
 case append s b x y=>exact Jl (op:=.append s b x y) i e h
 case aXU sh x y z=>exact Jl (op:=.aXU sh x y z) i e h
 case insert sh x y z=>exact Jl (op:=.insert sh x y z) i e h
 all_goals exact vq i e h
theorem TJ {K1 K2:PF→PH→Prop} (i:∀ F F' H,F.le F'→K1 F H→K2 F' H):∀ {ops:List aU} {F F':PF} {H:PH},F.le F'→wpOps C ops K1 F H→wpOps C ops K2 F' H
 | [],_,_,_,c,h=>i _ _ _ c h
 | ⟨d,op,none⟩::rest,_,_,_,c,h=>aGS (fun _ _ _ a b=>TJ i a b) c h
 | ⟨d,op,some (t,p)⟩::rest,F,F',H,c,h=>by
  rw[Yy] at h ⊢;unfold wK at h;split at h
  ·rename_i b l;rw[c t _ l];unfold wK;simp only;split at h
   ·rename_i e; rw[if_pos e]; exact aGS (fun _ _ _ a b=>TJ i a b) c h
   ·rename_i e; rw[if_neg e]; exact TJ i (PF.tT c d _) h
  ·rename_i l;rw[c t _ l];exact TJ i (PF.tT c d _) h
  ·exact h.elim
theorem Sv {Hs:PH} {S:Spec} {st:Bool} {op:POp} {K:PV→PH→Prop} (d:F.le F') (h:(op.kind F).run C Hs S st K H):(op.kind F').run C Hs S st K H:=by
 have new:∀ op:POp,(Kind.new (dD op F)).run C Hs S st K H→(Kind.new (dD op F')).run C Hs S st K H:=fun op h=>by obtain⟨M,x,e,i⟩:=h;exact⟨M,x,Ka d e,i⟩
 have calm:∀ op:POp,(Kind.calm (aP op F)).run C Hs S st K H→(Kind.calm (aP op F')).run C Hs S st K H:=fun op h=>by obtain⟨v,e,i⟩:=h;exact⟨v,S1 d e,i⟩
 have J:∀ op:POp,(Kind.write fun H K=>cD op F H K).run C Hs S st K H→(Kind.write fun H K=>cD op F' H K).run C Hs S st K H:=fun op h=>W3 (op:=op) d (show cD op F H (fun r H'=>Hs.le H'∧K r H') from h);cases op
 case call n a =>obtain⟨vs,D,R,e,i⟩:=h;exact⟨vs,D,R,GM d e,i⟩
 case aYE x a =>
  unfold POp.kind at h ⊢;simp only at h ⊢;cases p:x.ev F with
  | none=>rw[p] at h; exact h.elim
  | some u =>
   rw[p] at h;rw[cU d p];cases u<;>simp only at h ⊢<;>first | exact h | skip
   obtain⟨vs,D,R,e,i⟩:=h;exact⟨vs,D,R,Qa d _ e,i⟩
 case insert sh x k v =>
  obtain⟨o,E,B,u,g,e,i⟩:=h;refine⟨o,E,B,u,g,?_,i⟩;cases p:x.ev F with
  | none=>simp[p] at e
  | some a =>
   cases w:k.ev F with
   | none=>simp[p,w] at e
   | some b =>
    cases A:v.ev F with
    | none=>simp[p,w,A] at e
    | some c=>rw[cU d p,cU d w,cU d A]; rw[p,w,A] at e; exact e
 case box r x=>cases r<;>first | exact new (.box false x) h | exact calm (.box true x) h
 case aXI r s l z ps=>cases r<;>first | exact new (.aXI false s l z ps) h | exact calm (.aXI true s l z ps) h
 case alloc cs=>exact new (.alloc cs) h
 case aXK s b z l c=>exact new (.aXK s b z l c) h
 case aYI sh=>exact new (.aYI sh) h
 case store n x y=>exact J (.store n x y) h
 case append s b x y=>exact J (.append s b x y) h
 case aXU sh x y z=>exact J (.aXU sh x y z) h
 all_goals exact calm _ h
theorem aBQ {Hs:PH} {S:Spec} {st:Bool} {i:aU} {K:PV→PH→Prop} (c:F.le F') (h:(i.kind F).run C Hs S st K H):(i.kind F').run C Hs S st K H:=by
 unfold aU.kind at h ⊢;split
 ·rename_i l;rw[l] at h;exact Sv c h
 ·rename_i t p l;rw[l] at h;simp only at h;split at h
  ·rename_i b d;rw[c t _ d];simp only;split at h
   ·rename_i e; rw[if_pos e]; exact Sv c h
   ·rename_i e; rw[if_neg e]; exact h
  ·rename_i d;rw[c t _ d];exact h
  ·exact h.elim
theorem axF {Hs:PH} {S:Spec} {K1 K2:PF→PH→Prop} (e:∀ F F' H,F.le F'→K1 F H→K2 F' H):∀ {ops:List (aU × Bool)} {F F':PF} {H:PH},Hs.le H→F.le F'→wpD C Hs S ops K1 F H→wpD C Hs S ops K2 F' H
 | [],_,_,_,_,c,h=>e _ _ _ c h
 | i::rest,F,F',H,u,c,h=>by have l:(i.1.kind F).run C Hs S i.2 (fun v H'=>wpD C Hs S rest K1 (F.put i.1.dst v) H') H:=h;exact aBQ c (Kind.rZ (rW _ _) (fun v H' d p=>axF e d (PF.tT c _ v) p) u l)
class Up (K:bT):Prop where
 up:∀ {e:kW} {F F':PF} {H:PH},F.le F'→K e F H→K e F' H
theorem qW:∀ (c:aC) {K1 K2:bT} (_:∀ e F F' H,F.le F'→K1 e F H→K2 e F' H) {F F':PF} {H:PH},F.le F'→c.wp C K1 F H→c.wp C K2 F' H
 | .skip,_,_,i,_,_,_,d,h=>i _ _ _ _ d h
 | .region ops,_,_,i,_,_,_,d,h=>TJ (i .normal) d h
 | .draw ops,_,_,i,_,_,_,d,⟨Hs,S,u,B⟩=>⟨Hs,S,u,axF (i .normal) u d B⟩
 | .seq a b,K1,K2,i,_,_,_,d,h=>qW a (K1:=gS C (b.wp C) K1) (K2:=gS C (b.wp C) K2) (fun e F F' H p l=>by
   cases e with
   | normal=>exact qW b i p l
   | exit id=>exact i (.exit id) _ _ _ p l
   | ret=>exact i .ret _ _ _ p l) d h
 | .cond c a b,K1,K2,i,F,F',H,d,h=>by
  rw[aGA] at h ⊢;unfold VY at h;split at h
  ·rename_i t O;rw[cU d O];unfold VY;simp only;split at h
   ·rename_i e; rw[if_pos e]; exact qW a i d h
   ·rename_i e; rw[if_neg e]; exact qW b i d h
  ·exact h.elim
 | .block id c,K1,K2,i,_,_,_,d,h=>qW c (K1:=fF id K1) (K2:=fF id K2) (fun e F F' H p l=>by
   cases e with
   | normal=>exact i .normal _ _ _ p l
   | exit j =>
    rw[DF] at l ⊢;split at l
    ·rename_i e; rw[if_pos e]; exact i .normal _ _ _ p l
    ·rename_i e; rw[if_neg e]; exact i (.exit j) _ _ _ p l
   | ret=>exact i .ret _ _ _ p l) d h
 | .loop c,K1,K2,i,F,F',H,d,⟨α,y,Hs,A,m,J,Z,E,u,B,K,M,h5⟩=>by
  obtain⟨w,k1,k2⟩:=u.up d;refine⟨α,y,Hs,A,m,J,w,E,k1,B,PF.le_trans K k2,M,fun a N=>?_⟩;refine qW c (K1:=fR y Hs A m (m a) K1) (K2:=fR y Hs A m (m a) K2) (fun e F F' H p l=>?_) PF.le_refl (h5 a N);cases e with
  | normal =>obtain⟨b,F2,H2,U,V,W,X,Y⟩:=l;obtain⟨x,Q,R⟩:=U.up p;exact⟨b,x,H2,Q,V,W,PF.le_trans X R,Y⟩
  | exit id=>exact i (.exit id) _ _ _ p l
  | ret=>exact i .ret _ _ _ p l
 | .exit id,_,_,i,_,_,_,d,h=>i (.exit id) _ _ _ d h
 | .ret,_,_,i,_,_,_,d,h=>i .ret _ _ _ d h
instance Up.seq {K:bT} [Up K] (b:aC):Up (gS C (b.wp C) K) where
 up {e} {F} {F'} {H} hl hh:=by
  cases e with
  | normal=>exact qW b (fun e F F' H a h=>Up.up a h) hl hh
  | exit id=>exact Up.up (K:=K) (e:=.exit id) hl hh
  | ret=>exact Up.up (K:=K) (e:=.ret) hl hh
instance Up.block {K:bT} [Up K] (id:Nat):Up (fF id K) where
 up {e} {F} {F'} {H} hl hh:=by
  cases e with
  | normal=>exact Up.up (K:=K) (e:=.normal) hl hh
  | exit j =>
   rw[DF] at hh ⊢;split at hh
   ·rename_i e; rw[if_pos e]; exact Up.up (K:=K) (e:=.normal) hl hh
   ·rename_i e; rw[if_neg e]; exact Up.up (K:=K) (e:=.exit j) hl hh
  | ret=>exact Up.up (K:=K) (e:=.ret) hl hh
instance Up.loop {K:bT} [Up K] {α:Type} (d:α→PF) (Hs:α→PH) (i:α→Prop) (m:α→Nat) (n:Nat):Up (fR d Hs i m n K) where
 up {e} {F} {F'} {H} hl hh:=by
  cases e with
  | normal =>obtain⟨b,B,H2,u,w,x,y,A⟩:=hh;obtain⟨c,l,p⟩:=u.up hl;exact⟨b,c,H2,l,w,x,PF.le_trans y p,A⟩
  | exit id=>exact Up.up (K:=K) (e:=.exit id) hl hh
  | ret=>exact Up.up (K:=K) (e:=.ret) hl hh
theorem aOT {H:PH} (c:F.le F') {x:dS} {v:PV} (h:x.ev F H=some v):x.ev F' H=some v:=by
 cases x with
 | tmp t=>exact c t v h
 | cell t n =>
  cases n<;>simp only[dS.ev] at h ⊢<;>(cases d:F t with
   | none=>simp[d] at h
   | some a=>rw[c t a d,← d]; exact h)
theorem yb {H:PH} (c:F.le F'):∀ {xs:List dS} {vs:List PV},dS.evs F H xs=some vs→dS.evs F' H xs=some vs
 | [],_,h=>h
 | x::xs,vs,h=>by
  rw[kS] at h ⊢;cases e:x.ev F H with
  | none=>simp[e] at h
  | some v =>
   cases d:dS.evs F H xs with
   | none=>simp[d] at h
   | some i =>rw[e,d] at h;rw[aOT c e,yb c d];exact h
instance Up.ret (res:List dS) (R:PV→PH→Prop):Up (aR res R) where
 up {e} {F} {F'} {H} hl hh:=by
  cases e with
  | exit id=>exact hh
  | normal=>obtain⟨vs,c,d⟩:=hh; exact⟨vs,yb hl c,d⟩
  | ret=>obtain⟨vs,c,d⟩:=hh; exact⟨vs,yb hl c,d⟩
end
open Go Go.RowKit
def CC (R:PH→Prop):bT
 | .normal,_,H=>R H
 | _,_,_=>False
theorem bQ.putObj {E:Env} {H:PH} {w:World} {l:Nat} {o o':Obj} (hW:bQ E H w) (u:w.heap[l]?=some o) (y:∀ c t b,o≠.cells c t b) (A:H l=none):bQ E H (w.putObj l o'):=by
 refine⟨fun b cs h=>?_,fun q x h=>?_,fun q n h=>?_⟩
 ·obtain⟨d,ty,fr,i⟩:=hW.g b cs h;have:b≠l:=fun e=>by rw[e,u] at i; exact y _ _ _ (by injection i)
  exact⟨d,ty,fr,(World.putObj_heap_other this).trans i⟩
 ·obtain⟨d,i⟩:=hW.h q x h;have:q≠l:=fun e=>by rw[e,A] at h; cases h
  exact⟨by rw[World.putObj_size]; exact d,i.mono (.refl E) (World.putObj_heap_other this)⟩
 ·obtain⟨p,ty,fr,d,i⟩:=hW.s q n h;have:q≠l:=fun e=>by rw[e,u] at d; exact y _ _ _ (by injection d)
  exact⟨p,ty,fr,(World.putObj_heap_other this).trans d,i⟩
theorem bQ.setObj {E:Env} {H:PH} {w:World} {l:Nat} {o:Obj} {x:cF} (hW:bQ E H w) (i:w.heap[l]?=some o) (u:∀ c t b,o≠.cells c t b) (A:PW E w l x):bQ E (H.set l x) w:=by
 refine⟨fun b cs h=>?_,fun q y h=>?_,hW.s⟩
 ·obtain⟨p,ty,fr,d⟩:=hW.g b cs h;have:¬ b=l:=fun e=>by rw[e,i] at d; exact u _ _ _ (by injection d)
  refine⟨fun y B=>p y ?_,ty,fr,d⟩
  rwa [aT,if_neg this] at B
 ·rw[aT] at h;split at h
  ·rename_i e;cases h;subst e;exact⟨(a2A.1 i).1,A⟩
  ·exact hW.h q y h
theorem axG {c:Code} {l m:Nat} {P:Program} {Q:Exit→Act→World→Prop} {d tm':Array Value} {ds:List Deferred} {w:World} (e:d=tm') (h:c.wpIn (Fz (some l)) m P Q { tmps:=tm',defers:=ds } w):c.wpIn (Fence.wide.inRound l) m P Q { tmps:=d,defers:=ds } w:=by
 subst e; exact h
section
variable {C:Ctx} {T:Tbl}
theorem Y1 (V:C.P=T.P) (N:C.num=T.num) {n t l:Nat} {J K:Code} {ζ Q:aC} (h1:T.code n J=some ζ) (h2:T.code n K=some Q) (ht:t<n) {F:PF} {x:PV} {H:PH} {R:PH→Prop} (hl:H l=none)
  (Ξ:ζ.wp C (gS C (Q.wp C) (CC R)) (F.set t x) H) :
  GG C l [x] (H.set l (.loop F n t J K)) (fun r H'=>r=.bool true∧∃ H2,R H2∧H2 l=none∧H'=H2.set l (.loop F n t J K)):=by
 intro E w vs hN hW Λ;obtain⟨vl⟩:=vs;cases Λ with
 | cons e1 e2 =>
 cases e2;rename_i v;obtain⟨hlt,rec,U,O,ε,δ,has,ι,ρ,hF⟩:=hW.h l (.loop F n t J K) (by rw[cR]);have Γ:bQ E H w:=hW.weaken fun o y ho=>by
  have:¬ o=l:=fun e=>by rw[e,hl] at ho; cases ho
  rw[aT,if_neg this]; exact ho
 refine⟨rec.fn,_,rec.assign,rec.body,run_yield U (by rw[δ]; rfl),?_⟩;rw[has,ι,δ];refine roundIn_of_wpIn (F:=Fence.wide) trivial ?_;have hA:dO [] n E (F.set t x) { tmps:=rec.tmps.setIfInBounds t v,defers:=[] }:=by
  refine⟨by simp[ρ],rfl,fun i pv hi=>?_⟩;rw[kM] at hi;split at hi
  ·rename_i e;cases hi;subst e;simp only[a2K];rw[Array.getElem?_setIfInBounds_self_of_lt Om];exact e1
  ·rename_i e;simp only[a2K];rw[Array.getElem?_setIfInBounds_ne (fun h=>e h.symm),← a2K];exact hF i pv hi
 rw[V];refine axG (tm':=rec.tmps.setIfInBounds t v) (by simp) ?_;refine qD (ro:=some l) (fu:=0) V N J ζ (gS C (Q.wp C) (CC R)) _ E (F.set t x) H _ w h1 Ξ hA Γ (hN.trans N) fun e E1 F1 H1 a1 B υ φ p X=>?_;cases e with
 | exit id=>exact X.elim
 | ret=>exact X.elim
 | normal =>
  have α:B.heap[l]?=some (.loop rec):=(p.block l hlt hl).trans U;have W:H1 l=none:=by
   cases hh:H1 l with
   | none=>rfl
   | some y =>
    rcases p.new l y hh with ⟨z,A⟩ | hge
    ·rw[hl] at A; cases A
    ·omega
  refine⟨_,run_beginRound α O,?_⟩;have χ:=φ.putObj (o':=.loop { rec with state:=.busy }) α (fun _ _ _ h=>by cases h) W;have S:l<B.heap.size:=(a2A.1 α).1;have Θ:(B.putObj l (.loop { rec with state:=.busy })).heap[l]?=some (.loop { rec with state:=.busy }):=World.putObj_heap_same S;have σ:(B.putObj l (.loop { rec with state:=.busy })).heap.size=B.heap.size:=World.putObj_size;have γ:∀ b,b≠l→(B.putObj l (.loop { rec with state:=.busy })).heap[b]?=B.heap[b]?:=fun b hb=>World.putObj_heap_other hb;have ο:(B.putObj l (.loop { rec with state:=.busy })).os=B.os:=rfl;have τ:(B.putObj l (.loop { rec with state:=.busy })).tape=B.tape:=rfl;have ξ:(B.putObj l (.loop { rec with state:=.busy })).output=B.output:=rfl;generalize B.putObj l (.loop { rec with state:=.busy })=w2 at *
  refine qD (ro:=some l) (fu:=0) V N K Q (CC R) _ E1 F1 H1 a1 w2 h2 X υ χ (p.env.num.trans (hN.trans N)) fun e2 E2 F2 H2 a2 w3 Φ ψ u Y=>?_;cases e2 with
  | exit id=>exact Y.elim
  | ret=>exact Y.elim
  | normal =>
   have β:w3.heap[l]?=some (.loop { rec with state:=.busy }):=(u.block l (by rw[σ]; exact S) W).trans Θ;have ν:l<w3.heap.size:=(a2A.1 β).1;have θ:H2 l=none:=by
    cases hh:H2 l with
    | none=>rfl
    | some y =>
     rcases u.new l y hh with ⟨z,A⟩ | hge
     ·rw[W] at A; cases A
     ·omega
   have η:({ { rec with state:=.busy } with state:=if (none:Option Code).isNone then .ready else .done,pending:=none }:Loop)=rec:=by obtain⟨a,b,c,d,e,f,g,h⟩:=rec;simp only at O ε;subst O ε;rfl
   refine⟨_,_,run_endRound none β,?_⟩;rw[η];have ω:=(ψ.putObj (o':=.loop rec) β (fun _ _ _ h=>by cases h) θ);have μ:(w3.putObj l (.loop rec)).heap[l]?=some (.loop rec):=World.putObj_heap_same ν;have κ:E.le E2:=p.env.trans u.env;refine⟨.bool true,.bool true,E2,H2.set l (.loop F n t J K),rfl,ω.setObj μ (fun _ _ _ h=>by cases h) ⟨rec,μ,O,ε,δ,has,ι,ρ,fun i pv hi=>(hF i pv hi).mono κ⟩,.bool true,?_,rfl,H2,Y,θ,rfl⟩;refine⟨κ,?_,?_,?_,?_,fun b hb hn=>?_,fun o y ho=>?_,fun b cs hb=>?_⟩
   ·exact u.os.trans (ο.trans p.os)
   ·exact u.tape.trans (τ.trans p.tape)
   ·exact u.output.trans (ξ.trans p.output)
   ·have:=p.size;have:=u.size;rw[World.putObj_size];omega
   ·have Z:b≠l:=fun e=>by rw[e,cR] at hn; cases hn
    rw[aT,if_neg Z] at hn;have Δ:H1 b=none:=by
     cases hh:H1 b with
     | none=>rfl
     | some y =>
      rcases p.new b y hh with ⟨z,A⟩ | hge
      ·rw[hn] at A; cases A
      ·omega
    rw[World.putObj_heap_other Z,u.block b (by have:=p.size; omega) Δ,γ b Z,p.block b hb hn]
   ·rw[aT] at ho;split at ho
    ·rename_i e;exact .inl ⟨_,by rw[e,cR]⟩
    ·rename_i e;rcases u.new o y ho with ⟨z,A⟩ | hge
     ·rcases p.new o z A with ⟨z2,M⟩ | hge
      ·exact .inl ⟨z2,by rw[aT,if_neg e]; exact M⟩
      ·exact .inr hge
     ·have:=p.size;exact .inr Om
   ·rcases u.newG b cs hb with hg | ⟨z,A⟩ | hge
    ·rcases p.newG b cs hg with hg | ⟨z,A⟩ | hge
     ·exact .inl hg
     ·have e:¬ b=l:=fun e=>by rw[e,hl] at A; cases A
      exact .inr (.inl ⟨z,by rw[aT,if_neg e]; exact A⟩)
     ·exact .inr (.inr hge)
    ·rcases p.new b z A with ⟨z2,M⟩ | hge
     ·have e:¬ b=l:=fun e=>by rw[e,hl] at M; cases M
      exact .inr (.inl ⟨z2,by rw[aT,if_neg e]; exact M⟩)
     ·exact .inr (.inr hge)
    ·have:=p.size;exact .inr (.inr Om)
end
open Go Go.RowKit
abbrev vT (D:Nat):Deferred:={ target:=.collected D,args:=#[] }
theorem bQ.alloc {E:Env} {H:PH} {w:World} (hW:bQ E H w) (o:Obj):bQ E H (w.alloc o):=by
 have e:(w.alloc o).heap.size=w.heap.size+1:=World.size_alloc w o;have c:∀ b,b<w.heap.size→(w.alloc o).heap[b]?=w.heap[b]?:=fun b hlt=>Below.heap_alloc w o b hlt;exact hW.same Om (fun b hlt _=>c b hlt) (fun q x d=>c q (hW.h q x d).1)
section
variable {C:Ctx} {T:Tbl} {ds:List Deferred} {fu:Nat}
theorem aNW {f:FuncId} {args:Array Value} {w:World} {P:Program} {fn:Func} (e:P.funcs[f]?=some fn) (i:fn.body.isSome=true) (d:(fn.name=="runtime.NumGoroutine")=false):(callFunc f args).run P w=.ok (.enter f args) w:=by
 have c:fn.body.isNone=false:=by cases h:fn.body<;>simp_all
 simp only[callFunc,Sem.run_bind,Sem.run_pure,Result.andThen_ok,run_program,e,d,c,a1S,if_false]
def Ju (C:Ctx) (name:Nat) (cs:List PV) (F:PF) (H:PH) (n t:Nat) (c d:Code) (e:PH→Prop):Prop :=
 ∀ l,H l=none→aH C name (wT l::cs) (H.set l (.loop F n t c d)) (fun _ H'=>∃ H2,e H2∧H2.le H'∧H2 l=none∧H' l=some (.loop F n t c d))
theorem Yh (β:C.P=T.P) (α:C.num=T.num) {n t name:Nat} {g:Operand} {pg:aQ} {A B:Code} {cs:List PV} {E:Env} {F:PF} {H:PH} {a:Act} {w:World} {KH:PH→Prop} {Q:Exit→Act→World→Prop} (hg:T.opd g=some pg) (Γ:pg.ev F=some (.fn name cs))
  (Δ:Ju C name cs F H n t A B KH) (Z:dO ds n E F a) (hW:bQ E H w) (hN:E.num=T.num)
  (hT:∀ D X H2 w',dO (vT D::ds) n X F { a with defers:=vT D::a.defers }→bQ X H2 w'→Ext E H w X H2 w'→w'.heap[D]?=some (.deferred (some []))→H2 D=none→w.heap.size≤D→KH H2→Q .normal { a with defers:=vT D::a.defers } w') :
  (Code.rangeFunc g #[t] A B).wpIn (Fz none) fu T.P Q a w:=by
 have r:=bC hg Γ Z hN;generalize Ψ:a.eval g=vg at r;cases r with
 | fn vc ψ ω =>
 have K:∀ o x,H o=some x→o<w.heap.size:=fun o x ho=>(hW.h o x ho).1;have nD:H w.heap.size=none:=by
  cases h:H w.heap.size with
  | none=>rfl
  | some x=>have:=K _ x h; omega
 have nl:H (w.heap.size+1)=none:=by
  cases h:H (w.heap.size+1) with
  | none=>rfl
  | some x=>have:=K _ x h; omega
 obtain⟨⟨fn,hf,S,Θ⟩,U⟩:=Δ (w.heap.size+1) nl;rw[β] at hf;refine wpIn_rangeFunc fun ξ _=>?_;obtain⟨rec,N⟩:∃ rec:Loop,rec={ state:=.ready,pending:=none,fn:=ξ,tmps:=a.tmps,params:=#[t],assign:=A,body:=B,defers:=w.heap.size }:=⟨_,rfl⟩;obtain⟨d,c⟩:∃ d,(w.alloc (.deferred (some []))).alloc (.loop rec)=d:=⟨_,rfl⟩;have κ:(w.alloc (.deferred (some []))).heap.size=w.heap.size+1:=World.size_alloc _ _;have a':d.heap.size=w.heap.size+2:=by rw[← c,World.size_alloc,κ]
 have θ:∀ b,b<w.heap.size→d.heap[b]?=w.heap[b]?:=fun b S=>by rw[← c];exact (Below.heap_alloc _ _ b Om).trans (Below.heap_alloc _ _ b S)
 have ρ:d.heap[w.heap.size]?=some (.deferred (some [])):=by rw[← c];exact (Below.heap_alloc _ _ _ Om).trans (World.alloc_heap_new w _)
 have ζ:d.heap[w.heap.size+1]?=some (.loop rec):=by
  rw[← c];have:=World.alloc_heap_new (w.alloc (.deferred (some []))) (.loop rec)
  rwa [κ] at this
 have φ:bQ E H d:=by rw[← c]; exact (hW.alloc _).alloc _
 have χ:bQ E (H.set (w.heap.size+1) (.loop F n t A B)) d:=φ.setObj ζ (fun _ _ _ h=>by cases h) (by subst N;exact⟨_,ζ,rfl,rfl,rfl,rfl,rfl,Z.size,Z.t⟩);have Ξ:d.os=w.os:=by rw[← c]; rfl
 have Φ:d.tape=w.tape:=by rw[← c]; rfl
 have Λ:d.output=w.output:=by rw[← c]; rfl
 have M:C.num name=E.num name:=by rw[α,hN]
 refine⟨w.heap.size+1,[vT w.heap.size],d,{ target:=.fn (.func (E.num name)) vc,args:=#[.func (.yield (w.heap.size+1)) #[] #[]] },d,E.num name,#[Value.func (.yield (w.heap.size+1)) #[] #[]]++vc,d,?_,?_,?_,?_,?_,?_⟩
 ·rw[← c,N];exact run_enterLoop_outer _ _ _ _ _
 ·simp only[resolve,Ψ];simp[go_sem]
 ·exact fun _ _=>trivial
 ·simp only[invoke];exact aNW (by rw[← M]; exact hf) S Θ
 ·intro h; cases h
 ·have R:eQ E (wT (w.heap.size+1)::cs) (#[Value.func (.yield (w.heap.size+1)) #[] #[]]++vc).toList:=by rw[Array.toList_append];exact .cons (.lit _) (eQ.aGR (by simpa using ψ) fun j p u hp hu=>ω j p u hp (by simpa using hu))
  have hc:=U E d _ (hN.trans α.symm) χ R;rw[β,M] at hc;refine Fz.calls (hc.mono fun e w3 he=>?_);obtain⟨v,pv,X,H',rfl,ε,hr,l,H2,υ,V,J,τ⟩:=he;obtain⟨Ω,ν,η,μ,ι,-⟩:=ε.h _ _ τ;have W:w.heap.size≠w.heap.size+1:=Om;have σ:w3.heap[w.heap.size]?=some (.deferred (some [])):=(l.block _ Om (by rw[aT,if_neg W]; exact nD)).trans ρ;have δ:H' w.heap.size=none:=by
   cases hh:H' w.heap.size with
   | none=>rfl
   | some y =>
    rcases l.new _ y hh with ⟨z,O⟩ | hge
    ·rw[aT,if_neg W,nD] at O; cases O
    ·omega
  have γ:H2 w.heap.size=none:=by
   cases hh:H2 w.heap.size with
   | none=>rfl
   | some y=>rw[V _ y hh] at δ; cases δ
  refine⟨ν.pending,_,run_endLoop η (by rw[μ]; exact fun h=>by cases h),?_⟩;rw[ι];simp only;have ο:dO (vT w.heap.size::ds) n X F { a with defers:=vT w.heap.size::a.defers }:=⟨Z.size,by simp only; rw[Z.defers],fun i pv hi=>(Z.t i pv hi).mono l.env⟩;refine hT w.heap.size X H2 _ ο ((ε.weaken V).putObj η (fun _ _ _ h=>by cases h) J) ?_ ((World.putObj_heap_other W).trans σ) γ (aYV _) υ;refine⟨l.env,l.os.trans Ξ,l.tape.trans Φ,l.output.trans Λ,?_,fun b S hn=>?_,fun o y ho=>?_,fun b cs S=>?_⟩
  ·have:=l.size;rw[World.putObj_size]; omega
  ·have Y:b≠w.heap.size+1:=Om;rw[World.putObj_heap_other Y,l.block b Om (by rw[aT,if_neg Y]; exact hn),θ b S]
  ·have Y:o≠w.heap.size+1:=fun e=>by rw[e,J] at ho; cases ho
   rcases l.new o y (V o y ho) with ⟨z,O⟩ | hge
   ·rw[aT,if_neg Y] at O;exact .inl ⟨z,O⟩
   ·exact .inr Om
  ·rcases l.newG b cs S with h | ⟨z,O⟩ | hge
   ·exact .inl h
   ·by_cases Y:b=w.heap.size+1
    ·exact .inr (.inr Om)
    ·rw[aT,if_neg Y] at O;exact .inr (.inl ⟨z,O⟩)
   ·exact .inr (.inr Om)
end
open Go Go.RowKit
inductive qA where
 | seq (a:aC) (t:qA)
 | range (g:aQ) (n t:Nat) (asg bdy:Code) (pas pbd rest:aC)
def qA.wp (C : Ctx) : qA → bT → PF → PH → Prop
  | .seq a t, K, F, H => a.wp C (gS C (t.wp C) K) F H
  | .range g n t asg bdy pas pbd rest, K, F, H => ∃ name cs KH, g.ev F = some (.fn name cs) ∧
      ((∀ (l : Nat) (x : PV) (J : PH) (J' : PH → Prop), J l = none → pas.wp C (gS C (pbd.wp C) (CC J')) (F.set t x) J →
        GG C l [x] (J.set l (.loop F n t asg bdy)) (fun r H' => r = .bool true ∧ ∃ H2, J' H2 ∧ H2 l = none ∧ H' = H2.set l (.loop F n t asg bdy))) → Ju C name cs F H n t asg bdy KH) ∧
      ∀ H2, KH H2 → rest.wp C K F H2
namespace Tbl
variable (T:Tbl)
def tail (n:Nat):Code→Option qA
 | .seq (.rangeFunc g ps c d) rest=>match T.opd g,T.code n c,T.code n d,T.code n rest with
  | some p,some e,some i,some u=>match ps.toList with
   | [t]=>if t<n then some (.range p n t c d e i u) else none
   | _=>none
  | _,_,_,_=>none
 | .seq (.seq a (.block _ (.rangeFunc g ps c d))) rest=>match T.code n a,T.opd g,T.code n c,T.code n d,T.code n rest with
  | some l,some p,some e,some i,some u=>match ps.toList with
   | [t]=>if t<n then some (.seq l (.range p n t c d e i u)) else none
   | _=>none
  | _,_,_,_,_=>none
 | .seq a b=>match T.code n a,tail n b with
  | some l,some w=>some (.seq l w)
  | _,_=>none
 | _=>none
end Tbl
section
variable {C:Ctx} {T:Tbl} {fu:Nat}
def zX (n:Nat) (E:Env) (H:PH) (w:World) (K:bT) (Q:Exit→Act→World→Prop):Prop :=
 ∀ ds,(ds=[]∨∃ D,ds=[vT D])→∀ e d i H' l c,dO ds n d i l→bQ d H' c→Ext E H w d H' c→(∀ D,ds=[vT D]→c.heap[D]?=some (.deferred (some []))∧H' D=none∧w.heap.size≤D)→K e i H'→Q e.out l c
theorem zX.after {n:Nat} {E i:Env} {H H':PH} {w p:World} {K:bT} {Q:Exit→Act→World→Prop} (h:zX n E H w K Q) (l:Ext E H w i H' p):zX n i H' p K Q :=
 fun ds c e u x H2 a2 F y hW B d A=>h ds c e u x H2 a2 F y hW (l.trans B) (fun D hD=>⟨(d D hD).1,(d D hD).2.1,aZS l.size (d D hD).2.2⟩) A
theorem zX.plain {n:Nat} {E:Env} {H:PH} {w:World} {K:bT} {Q:Exit→Act→World→Prop} (h:zX n E H w K Q):PY [] n E H w K Q :=
 fun e c d H' i x l hW u p=>h [] (.inl rfl) e c d H' i x l hW u (fun D hD=>by cases hD) p
theorem pe (u:C.P=T.P) (p:C.num=T.num) {n t:Nat} {g:Operand} {pg:aQ} {ps:Array Tmp} {d i rest:Code} {N O pr:aC} {K:bT} {Q Q0:Exit→Act→World→Prop} {E:Env} {F:PF} {H:PH} {a:Act} {w:World} (hQ:∀ a w,rest.wpIn (Fz none) fu T.P Q a w→Q0 .normal a w)
  (h1:T.opd g=some pg) (h2:T.code n d=some N) (h3:T.code n i=some O) (h4:T.code n rest=some pr) (h5:ps.toList=[t]) (ht:t<n)
  (α:(qA.range pg n t d i N O pr).wp C K F H) (hA:dO [] n E F a) (hW:bQ E H w) (hN:E.num=T.num) (hT:zX n E H w K Q) :
  (Code.rangeFunc g ps d i).wpIn (Fz none) fu T.P Q0 a w:=by
 obtain⟨name,cs,KH,k1,k2,k3⟩:=α;have Z:ps=#[t]:=by obtain⟨l⟩:=ps;simp only at h5;subst h5;rfl
 subst Z;refine Yh (ds:=[]) u p h1 k1 (k2 fun l x J J' hJ hw=>Y1 u p h2 h3 ht hJ hw) hA hW hN fun D E' H2 w' R X B hD M U W=>?_;refine hQ _ w' ?_;refine qD (ro:=none) (fu:=fu) (ds:=[vT D]) u p rest pr K Q E' F H2 _ w' h4 (k3 H2 W) R X (B.env.num.trans hN) fun e E3 F3 H3 a3 w3 S Y A V=>?_;refine hT [vT D] (.inr ⟨D,rfl⟩) e E3 F3 H3 a3 w3 S Y (B.trans A) (fun D' c=>?_) V;injection c with c _
 injection c with c _
 injection c with c
 subst c;have hlt:D<w'.heap.size:=(a2A.1 hD).1;refine⟨(A.block D hlt M).trans hD,?_,U⟩;cases hh:H3 D with
 | none=>rfl
 | some y =>
  rcases A.new D y hh with ⟨z,hz⟩ | hge
  ·rw[M] at hz; cases hz
  ·omega
theorem apD (p:C.P=T.P) (l:C.num=T.num) {n:Nat}:∀ (c:Code) (t:qA) (K:bT) (Q:Exit→Act→World→Prop) (E:Env) (F:PF) (H:PH) (a:Act) (w:World),
  T.tail n c=some t→t.wp C K F H→dO [] n E F a→bQ E H w→E.num=T.num→zX n E H w K Q→c.wpIn (Fz none) fu T.P Q a w:=by
 intro c
 induction c with
 | seq x y γ α =>
  intro t K Q E F H a w d J hA hW X B;unfold Tbl.tail at d;split at d
  ·rename_i g ps u A rest e;cases e;split at d
   ·rename_i pg M N pr V W Z e4;split at d
    ·rename_i t0 e5;split at d
     ·rename_i e6;cases d;exact wpIn_seq (pe p l (fun _ _ h=>h) V W Z e4 e5 e6 J hA hW X B)
     ·cases d
    ·cases d
   ·cases d
  ·rename_i a0 β g ps u A rest e;cases e;split at d
   ·rename_i Y pg M N pr e0 V W Z e4;split at d
    ·rename_i t0 e5;split at d
     ·rename_i e6;cases d;have i:Y.wp C (gS C ((qA.range pg n t0 u A M N pr).wp C) K) F H:=J;refine wpIn_seq (wpIn_seq (qD (ro:=none) (fu:=fu) (ds:=[]) p l a0 Y (gS C ((qA.range pg n t0 u A M N pr).wp C) K) _ E F H a w e0 i hA hW X fun e O R H' S U g1 g2 g3 g4=>?_));cases e with
      | normal=>exact wpIn_block (pe p l (fun _ _ h=>h) V W Z e4 e5 e6 g4 g1 g2 (g3.env.num.trans X) (B.after g3))
      | exit id=>exact B.plain (.exit id) O R H' S U g1 g2 g3 g4
      | ret=>exact B.plain .ret O R H' S U g1 g2 g3 g4
     ·cases d
    ·cases d
   ·cases d
  ·rename_i a0 b0 _ _ e;cases e;split at d
   ·rename_i Y tb V W;cases d;have i:Y.wp C (gS C (tb.wp C) K) F H:=J;refine wpIn_seq (qD (ro:=none) (fu:=fu) (ds:=[]) p l x Y (gS C (tb.wp C) K) _ E F H a w V i hA hW X fun e O R H' S U g1 g2 g3 g4=>?_);cases e with
    | normal=>exact α tb K Q O R H' S U W g4 g1 g2 (g3.env.num.trans X) (B.after g3)
    | exit id=>exact B.plain (.exit id) O R H' S U g1 g2 g3 g4
    | ret=>exact B.plain .ret O R H' S U g1 g2 g3 g4
   ·cases d
  ·cases d
 | _=>intro t K Q E F H a w d; simp[Tbl.tail] at d
end
structure zV where
 nparams:Nat
 ntmps:Nat
 body:qA
 res:List dS
namespace Tbl
variable (T:Tbl)
def amA (fn:Func):Option zV :=
 match fn.body with
 | some c=>match T.tail fn.ntmps c,T.x8 fn.results.toList with
  | some b,some rs=>some ⟨fn.params.size,fn.ntmps,b,rs⟩
  | _,_=>none
 | none=>none
end Tbl
theorem alL {C:Ctx} {T:Tbl} {H:PH} (J:C.P=T.P) (F:C.num=T.num) {name:Nat} {args:List PV} {R:PV→PH→Prop} {fn:Func} {Y:zV} (hf:C.P.funcs[C.num name]?=some fn) (δ:(fn.name=="runtime.NumGoroutine")=false)
  (d:T.amA fn=some Y) (O:args.length≤Y.ntmps) (h:Y.body.wp C (aR Y.res R) (PF.args args) H):aH C name args H R:=by
 unfold Tbl.amA at d;split at d
 ·rename_i c X;split at d
  ·rename_i b rs x A;cases d;refine⟨⟨fn,hf,by simp[X],δ⟩,fun E w vs hN hW U=>?_⟩;have η:vs.size=args.length:=by simpa using U.len
   refine (callsIn_wide (n:=0)).1 (callsIn_of_wp_marks hf X trivial ?_ rfl);rw[J];have hA:dO [] fn.ntmps E (PF.args args) { tmps:=vs++a0N (fn.ntmps-vs.size) undef,defers:=[] }:=by
    refine⟨by simp only at O; simp; omega,rfl,fun i pv hi=>?_⟩;have y:i<vs.size:=by
     rw[η];rcases aZL i args.length with h' | h'
     ·exact h'
     ·simp[PF.args,a0H h'] at hi
    simp only[a2K];rw[Array.getElem?_append_left y,a2D y];exact U.at_ i pv _ hi (by simp[y])
   refine apD (fu:=0) J F c b (aR rs R) _ E (PF.args args) H _ w x h hA hW (hN.trans F) fun ds β e l F' H' W u B K p hm hK=>?_;have fin:∀ Z,bQ l H' Z→Ext E H w l H' Z→aR rs R .ret F' H'→LeavesIn Fence.wide 0 T.P fn W.tmps (fun e u=>∃ v pv l H',e=.returned v∧bQ l H' u∧bA l pv v∧Ext E H w l H' u∧R pv H') [] .returning Z:=by
    rintro Z M α ⟨θ,Q,F1,H1,H2,γ,N,v0,ζ,hR⟩;obtain⟨us,g1,g2⟩:=ML B M fn.results.toList rs θ A Q;have ε:=ot g2;obtain⟨E2,k1,k2,k3⟩:=γ.sound M;have S:=k3 (fun _=>if h:us.toArray.size=1 then us.toArray[0] else .tuple us.toArray) (fun i pv hi=>by
     simp only[PF.set,upd] at hi;split at hi
     ·cases hi; exact ε
     ·cases hi) 0 v0 ζ
    refine⟨_,?_,_,v0,E2,H2,rfl,k1.weaken N,S,(α.trans k2).drop N,hR⟩;rw[p6,Array.mapM_eq_mapM_toList];simp[g1]
   have V:aR rs R .ret F' H'→bodyPostM Fence.wide 0 T.P fn (fun e u=>∃ v pv l H',e=.returned v∧bQ l H' u∧bA l pv v∧Ext E H w l H' u∧R pv H') .ret W u:=by
    intro hr;show LeavesInM Fence.wide 0 T.P fn W.tmps _ W.defers .returning u;rw[B.defers];rcases β with rfl | ⟨D,rfl⟩
    ·exact fin u K p hr
    ·obtain⟨m1,m2,m3⟩:=hm D rfl;refine⟨(fun h=>by cases h),.inl ⟨D,_,rfl,run_takeDeferred m1,?_⟩⟩;refine fin _ (K.putObj m1 (fun _ _ _ h=>by cases h) m2) ⟨p.env,p.os,p.tape,p.output,?_,fun b X hn=>?_,p.new,p.newG⟩ hr
     ·rw[World.putObj_size]; exact p.size
     ·rw[World.putObj_heap_other Om]; exact p.block b X hn
   cases e with
   | normal=>exact V hK
   | exit id=>exact hK.elim
   | ret=>exact V hK
  ·cases d
 ·cases d
end Go.PM
namespace Go.PM
open Go
def ip (C:Ctx) (k:Nat) (c:zV):Prop:=∀ (args:List PV) (H:PH) (R:PV→PH→Prop),args.length≤c.ntmps→c.body.wp C (aR c.res R) (PF.args args) H→aH C k args H R
theorem ip.go {C:Ctx} {k:Nat} {c:zV} (r:ip C k c) {args:List PV} {H:PH} {R:PV→PH→Prop} (h:c.body.wp C (aR c.res R) (PF.args args) H) (d:Nat.ble args.length c.ntmps=true):aH C k args H R:=r args H R (Nat.le_of_ble_eq_true d) h
end Go.PM
