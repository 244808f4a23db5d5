/-
  Texts of ours, joined. No condition.
-/
import Derived.Test.YtkknafmijabgaaaGreatDoorFN1
import Derived.Test.YtkknafmijabgaaaGreatDoorFN2
import Derived.Test.YtkknafmijabgaaaGreatDoorFN3
import Derived.RangeFuncRecord
set_option linter.unusedSimpArgs false
set_option linter.unusedVariables false
open Nat renaming reduceEqDiff → γ, reduceAdd → δ, reduceSub → ε, reduceMul → ζ, reduceLT → η, reduceLeDiff → θ, reduceBEq → τ
open Int renaming reduceLT → ι, reduceLE → κ, reduceEq → μ, reduceToNat → ν, reduceAdd → ξ, reduceNeg → ο, reduceBEq → ρ, reduceBNe → σ
open List renaming reduceReplicate → υ
open List renaming length_map → aTJ, replicate → aTK, length_append → aTM, getElem_mem → aTN, getElem?_eq_getElem → aTP, getD_eq_getElem?_getD → aTR, length_singleton → aTT, mem_cons → aTW, length_take → aUA, take_of_length_le → aUB, append_assoc → aUP, map_cons → aUQ, take_length → aUS, drop_zero → aUV, getElem?_eq_none → aUW, length_cons → aVA, append_nil → aVC, length_drop → aVE, mem_of_getElem? → aVH, getElem?_append_left → aVI, length_set → aVJ, length_nil → aVR, drop_eq_getElem_cons → aVV, map_nil → aVZ, take_append_drop → aWH, nil_append → aWP, set_append_right → aWZ, drop_of_length_le → aXE, length_replicate → aXI
open Nat renaming le_refl → aTO, zero_le → aTQ, mul_add → aTX, lt_or_ge → aUE, zero_add → aUF, mul_assoc → aUI, mul_comm → aUL, mul_le_mul_right → aUM, add_mul → aUT, mod_eq_of_lt → aUZ, add_zero → aVB, mod_lt → aVF, pow_succ → aVL, eq_zero_or_pos → aVP, min_eq_left → aVT, add_assoc → aWB, mul_le_mul_left → aWC, pos_of_ne_zero → aWD, le_trans → aWI, pow_pos → aWJ, div_eq_of_lt → aWQ, div_le_self → aWR, div_lt_iff_lt_mul → aWS, mul_le_mul → aWT, div_add_mod → aXA
open Bool renaming false_eq_true → aWM
open Option renaming map_eq_some_iff → aTU, some → aVU
open Array renaming getElem?_eq_some_iff → aXH
namespace Go.PM
open Go
def Bi:Rg:=[iZ 4]
def Bj:Rg:=[iZ 5]
def Bk:Rg:=[iA 6 (.mv (.const (.int .u64 0)))]
def Bl:Rg:=[iI 7 0]
def Bm:Rg:=[iM 10 7,iM 11 0,iN 12 11,iB 13 .lss 10 12]
def Bn:Rg:=[iM 16 6,iM 8 16]
def Bo:Rg:=[iM 17 7,iM 18 1,iN 19 18,iB 20 .lss 17 19]
def Bp:Rg:=[iM 21 8,iM 22 1,iM 23 7,iX 24 1 22 23,iL 25 24,iA 26 (.conv .u64 (Tm 25)),iB 27 .add 21 26,iM 8 27]
def TA:Rg:=[iM 28 0,iM 29 7,iX 30 1 28 29,iL 31 30,iA 32 (.conv .u64 (Tm 31)),iM 9 32]
def TB:Rg:=[iA 6 (.mv (.const (.int .u64 0)))]
def MM:Rg:=[iM 33 9,iM 34 8,iB 35 .lss 33 34]
def MN:Rg:=[iM 36 9,iA 37 (.bin .add (Tm 36) (.const (.int .u64 4294967296))),iM 9 37]
def MO:Rg:=[iA 6 (.mv (.const (.int .u64 1)))]
def zD:Rg:=[iM 38 5,iM 39 9,iM 40 8,iB 41 .sub 39 40,iA 42 (.conv .u32 (Tm 41)),iA 43 (.aSA true 1 1 [(.int .u32 0)] [(0,(Tm 42))]),iA 44 (.append 1 4 (Tm 38) (Tm 43)),iM 5 44]
def zE:Rg:=[iM 14 7,iC 15 .add 14 1,iM 7 15]
def nj:aC:=(.seq (sq Bm (.cond (Tm 13) .skip (.exit 0))) (.seq (.block 1 (sq Bn (.seq (sq Bo (.cond (Tm 20) (.region Bp) .skip)) (sq TA (sq TB (.seq (sq MM (.cond (Tm 35) (sq MN (.region MO)) .skip)) (.region zD))))))) (.region zE)))
def nn:Rg:=[iM 45 5,iK 46 38 45,iM 4 46]
def FL:aC:=(sq Bi (sq Bj (sq Bk (.seq (sq Bl (.block 0 (.loop nj))) (sq nn .ret)))))
def arG:List Nat:=[43]
def Ru:aW:=⟨2,47,FL,[.tmp 4]⟩
def Rw:Rg:=[iZ 4]
def Rx:Rg:=[iZ 5]
def Ry:Rg:=[iA 6 (.mv (.const (.int .u64 0)))]
def Rz:Rg:=[iI 7 0]
def R0:Rg:=[iM 9 7,iM 10 0,iN 11 10,iB 12 .lss 9 11,iM 13 12,gM 14 7 13 false,gM 15 1 13 false,gN 16 15 13 false,gB 17 .lss 14 16 13 false,iQ 18 13 17,iM 19 18,gM 20 6 19 false,iG 21 (.bin .gtr (Tm 20) (.const (.int .u64 0))) 19 false,iQ 22 19 21]
def fj:Rg:=[iM 25 6,iM 8 25]
def fk:Rg:=[iM 26 7,iM 27 0,iN 28 27,iB 29 .lss 26 28]
def fl:Rg:=[iM 30 8,iM 31 0,iM 32 7,iX 33 1 31 32,iL 34 33,iA 35 (.conv .u64 (Tm 34)),iB 36 .add 30 35,iM 8 36]
def MQ:Rg:=[iM 37 7,iM 38 1,iN 39 38,iB 40 .lss 37 39]
def MR:Rg:=[iM 41 8,iM 42 1,iM 43 7,iX 44 1 42 43,iL 45 44,iA 46 (.conv .u64 (Tm 45)),iB 47 .add 41 46,iM 8 47]
def DD:Rg:=[iM 48 5,iM 49 8,iA 50 (.conv .u32 (Tm 49)),iA 51 (.aSA true 1 1 [(.int .u32 0)] [(0,(Tm 50))]),iA 52 (.append 1 4 (Tm 48) (Tm 51)),iM 5 52]
def DE:Rg:=[iM 53 8,iA 54 (.bin .shr (Tm 53) (.const (.int .u64 32))),iM 6 54]
def DF:Rg:=[iM 23 7,iC 24 .add 23 1,iM 7 24]
def Bq:aC:=(.seq (sq R0 (.cond (Tm 22) .skip (.exit 0))) (.seq (.block 1 (sq fj (.seq (sq fk (.cond (Tm 29) (.region fl) .skip)) (.seq (sq MQ (.cond (Tm 40) (.region MR) .skip)) (sq DD (.region DE)))))) (.region DF)))
def TF:Rg:=[iM 55 5,iK 56 38 55,iM 4 56]
def MP:aC:=(sq Rw (sq Rx (sq Ry (.seq (sq Rz (.block 0 (.loop Bq))) (sq TF .ret)))))
def azX:List Nat:=[51]
def akR:aW:=⟨2,57,MP,[.tmp 4]⟩
def Br:Rg:=[iZ 4]
def Bs:Rg:=[iM 10 0,iN 11 10,iM 12 1,iN 13 12,iB 14 .add 11 13,iA 15 (.aSD 1 4 [(.int .u32 0)] (Tm 14) (Tm 14)),iM 5 15]
def Bt:Rg:=[iI 6 0]
def Bu:Rg:=[iM 16 6,iM 17 0,iN 18 17,iB 19 .lss 16 18]
def TI:Rg:=[iA 7 (.mv (.const (.int .u64 0)))]
def TJ:Rg:=[iI 8 0]
def Bv:Rg:=[iM 22 8,iM 23 1,iN 24 23,iB 25 .lss 22 24]
def Bw:Rd:=[(iM 28 0,false),(iM 29 6,false),(iX 30 1 28 29,false),(iL 31 30,false),(iA 32 (.conv .u64 (Tm 31)),false),(iM 33 1,false),(iM 34 8,false),(iX 35 1 33 34,false),(iL 36 35,false),(iA 37 (.conv .u64 (Tm 36)),false),(iB 38 .mul 32 37,false),(iM 39 5,false),(iM 40 6,false),(iM 41 8,false),(iB 42 .add 40 41,false),(iX 43 1 39 42,false),(iL 44 43,false),(iA 45 (.conv .u64 (Tm 44)),false),(iB 46 .add 38 45,false),(iM 47 7,false),(iB 48 .add 46 47,false),(iM 9 48,false)]
def Bx:Rg:=[iM 49 5,iM 50 6,iM 51 8,iB 52 .add 50 51,iM 53 9,iA 54 (.conv .u32 (Tm 53)),iX 55 1 49 52,iS 1 55 54]
def By:Rg:=[iM 56 9,iA 57 (.bin .shr (Tm 56) (.const (.int .u64 32))),iM 7 57]
def nt:Rg:=[iM 26 8,iC 27 .add 26 1,iM 8 27]
def MS:aC:=(.seq (sq Bv (.cond (Tm 25) .skip (.exit 2))) (.seq (.block 3 (dq Bw (sq Bx (.region By)))) (.region nt)))
def MT:Rg:=[iM 58 5,iM 59 6,iM 60 1,iN 61 60,iB 62 .add 59 61,iM 63 7,iA 64 (.conv .u32 (Tm 63)),iX 65 1 58 62,iS 1 65 64]
def nu:Rg:=[iM 20 6,iC 21 .add 20 1,iM 6 21]
def nr:aC:=(.seq (sq Bu (.cond (Tm 19) .skip (.exit 0))) (.seq (.block 1 (sq TI (.seq (sq TJ (.block 2 (.loop MS))) (.region MT)))) (.region nu)))
def nv:Rg:=[iM 66 5,iK 67 38 66,iM 4 67]
def FN:aC:=(sq Br (sq Bs (.seq (sq Bt (.block 0 (.loop nr))) (sq nv .ret))))
def arI:List Nat:=[]
def R1:aW:=⟨2,68,FN,[.tmp 4]⟩
def acF:Rg:=[iZ 4,iI 5 0]
def acG:Rg:=[iM 7 0,iK 8 41 7,iM 9 8,gM 10 1 9 false,gK 11 41 10 9 false,iQ 12 9 11]
def u7:Rg:=[iZ 4,iI 5 2]
def acH:Rg:=[iM 13 0,iK 14 38 13,iM 15 1,iK 16 38 15,iK2 17 43 14 16,iM 6 17]
def acI:Rg:=[iM 18 6,iK 19 41 18]
def acJ:Rg:=[iZ 4,iI 5 2]
def acK:Rg:=[iM 20 6,iM 4 20,iI 5 0]
def SU:aC:=(sq acF (.seq (sq acG (.cond (Tm 12) (sq u7 .ret) .skip)) (sq acH (.seq (sq acI (.cond (Tm 19) (sq acJ .ret) .skip)) (sq acK .ret)))))
def aGX:List Nat:=[]
def azG:aW:=⟨2,21,SU,[.tmp 4,.tmp 5]⟩
def adP:Rg:=[iZ 4,iI 5 0]
def adQ:Rg:=[iM 6 0,iK 7 41 6,iM 8 7,gM 9 1 8 false,gK 10 41 9 8 false,iQ 11 8 10]
def ve:Rg:=[iZ 4,iI 5 2]
def adR:Rg:=[iM 12 0,iM 13 1,iK2 14 32 12 13,iC 15 .lss 14 0]
def adS:Rg:=[iZ 4,iI 5 4]
def adT:Rg:=[iM 16 0,iK 17 38 16,iM 18 1,iK 19 38 18,iK2 20 42 17 19,iM 4 20,iI 5 0]
def TH:aC:=(sq adP (.seq (sq adQ (.cond (Tm 11) (sq ve .ret) .skip)) (.seq (sq adR (.cond (Tm 15) (sq adS .ret) .skip)) (sq adT .ret))))
def aHJ:List Nat:=[]
def azZ:aW:=⟨2,21,TH,[.tmp 4,.tmp 5]⟩
def adJ:Rg:=[iZ 4,iI 5 0]
def adK:Rg:=[iM 7 0,iK 8 41 7,iM 9 8,gM 10 1 9 false,gK 11 41 10 9 false,iQ 12 9 11]
def vd:Rg:=[iZ 4,iI 5 2]
def adL:Rg:=[iM 13 0,iK 14 38 13,iM 15 1,iK 16 38 15,iK2 17 44 14 16,iM 6 17]
def adM:Rg:=[iM 18 6,iK 19 41 18]
def adN:Rg:=[iZ 4,iI 5 2]
def adO:Rg:=[iM 20 6,iM 4 20,iI 5 0]
def TC:aC:=(sq adJ (.seq (sq adK (.cond (Tm 12) (sq vd .ret) .skip)) (sq adL (.seq (sq adM (.cond (Tm 19) (sq adN .ret) .skip)) (sq adO .ret)))))
def aHF:List Nat:=[]
def azR:aW:=⟨2,21,TC,[.tmp 4,.tmp 5]⟩
def Q1:Rg:=[iI 2 0]
def Q3:Rg:=[iM 5 0,iK 6 38 5,iM 0 6]
def Q4:Rg:=[iM 7 0,iN 8 7,iC 9 .eql 8 0]
def Q5:Rg:=[iI 2 0]
def Q6:Rg:=[iM 10 0,iN 11 10,iC 12 .sub 11 1,iA 13 (.bin .mul (Ci 32) (Tm 12)),iM 3 13]
def Q7:Rg:=[iM 14 0,iM 15 0,iN 16 15,iC 17 .sub 16 1,iX 18 1 14 17,iL 19 18,iM 4 19]
def Q8:Rg:=[iM 20 4,iA 21 (.bin .gtr (Tm 20) (.const (.int .u32 0)))]
def Q9:Rg:=[iM 24 3,iC 25 .add 24 1,iM 3 25]
def Ra:Rg:=[iM 22 4,iA 23 (.bin .quo (Tm 22) (.const (.int .u32 2))),iM 4 23]
def Q0:aC:=(.seq (sq Q8 (.cond (Tm 21) .skip (.exit 0))) (.seq (.block 1 (.region Q9)) (.region Ra)))
def Bd:Rg:=[iM 26 3,iM 2 26]
def MG:aC:=(sq Q1 (sq Q3 (.seq (sq Q4 (.cond (Tm 9) (sq Q5 .ret) .skip)) (sq Q6 (.seq (sq Q7 (.block 0 (.loop Q0))) (sq Bd .ret))))))
def azI:List Nat:=[]
def akI:aW:=⟨1,27,MG,[.tmp 2]⟩
def arJ:Rg:=[iZ 4]
def arK:Rg:=[iM 9 0,iN 10 9,iC 11 .eql 10 0]
def arL:Rg:=[iZ 4]
def arM:Rg:=[iM 12 1,iC 13 .quo 12 32,iA 14 (.aSD 1 4 [(.int .u32 0)] (Tm 13) (Tm 13)),iM 5 14]
def arN:Rg:=[iA 6 (.mv (.const (.int .u64 0)))]
def arO:Rg:=[iI 7 0]
def arP:Rg:=[iM 15 7,iM 16 0,iN 17 16,iB 18 .lss 15 17]
def arQ:Rg:=[iM 21 0,iM 22 7,iX 23 1 21 22,iL 24 23,iA 25 (.conv .u64 (Tm 24)),iM 26 1,iC 27 .rem 26 32,iA 28 (.conv .u64 (Tm 27)),iB 29 .shl 25 28,iM 30 6,iB 31 .or 29 30,iM 8 31]
def arR:Rg:=[iM 32 5,iM 33 8,iA 34 (.conv .u32 (Tm 33)),iA 35 (.aSA true 1 1 [(.int .u32 0)] [(0,(Tm 34))]),iA 36 (.append 1 4 (Tm 32) (Tm 35)),iM 5 36]
def arS:Rg:=[iM 37 8,iA 38 (.bin .shr (Tm 37) (.const (.int .u64 32))),iM 6 38]
def adV:Rg:=[iM 19 7,iC 20 .add 19 1,iM 7 20]
def adU:aC:=(.seq (sq arP (.cond (Tm 18) .skip (.exit 0))) (.seq (.block 1 (sq arQ (sq arR (.region arS)))) (.region adV)))
def adW:Rg:=[iM 39 5,iM 40 6,iA 41 (.conv .u32 (Tm 40)),iA 42 (.aSA true 1 1 [(.int .u32 0)] [(0,(Tm 41))]),iA 43 (.append 1 4 (Tm 39) (Tm 42)),iK 44 38 43,iM 4 44]
def fp:aC:=(sq arJ (.seq (sq arK (.cond (Tm 11) (sq arL .ret) .skip)) (sq arM (sq arN (.seq (sq arO (.block 0 (.loop adU))) (sq adW .ret))))))
def aKC:List Nat:=[35,42]
def uup:aW:=⟨2,45,fp,[.tmp 4]⟩
def Ri:Rg:=[iZ 4]
def Rj:Rg:=[iM 8 1,iC 9 .quo 8 32,iM 10 0,iN 11 10,iB 12 .geq 9 11]
def Rk:Rg:=[iZ 4]
def Rl:Rg:=[iZ 5]
def Rm:Rg:=[iM 13 1,iC 14 .quo 13 32,iM 6 14]
def Rn:Rg:=[iM 15 6,iM 16 0,iN 17 16,iB 18 .lss 15 17]
def Ro:Rg:=[iM 21 0,iM 22 6,iX 23 1 21 22,iL 24 23,iA 25 (.conv .u64 (Tm 24)),iM 7 25]
def Rp:Rg:=[iM 26 6,iC 27 .add 26 1,iM 28 0,iN 29 28,iB 30 .lss 27 29]
def Rq:Rg:=[iM 31 7,iM 32 0,iM 33 6,iC 34 .add 33 1,iX 35 1 32 34,iL 36 35,iA 37 (.conv .u64 (Tm 36)),iA 38 (.bin .shl (Tm 37) (.const (.int .u64 32))),iB 39 .or 31 38,iM 7 39]
def fi:Rg:=[iM 40 5,iM 41 7,iM 42 1,iC 43 .rem 42 32,iA 44 (.conv .u64 (Tm 43)),iB 45 .shr 41 44,iA 46 (.conv .u32 (Tm 45)),iA 47 (.aSA true 1 1 [(.int .u32 0)] [(0,(Tm 46))]),iA 48 (.append 1 4 (Tm 40) (Tm 47)),iM 5 48]
def SY:Rg:=[iM 19 6,iC 20 .add 19 1,iM 6 20]
def Be:aC:=(.seq (sq Rn (.cond (Tm 18) .skip (.exit 0))) (.seq (.block 1 (sq Ro (.seq (sq Rp (.cond (Tm 30) (.region Rq) .skip)) (.region fi)))) (.region SY)))
def Bf:Rg:=[iM 49 5,iK 50 38 49,iM 4 50]
def MK:aC:=(sq Ri (.seq (sq Rj (.cond (Tm 12) (sq Rk .ret) .skip)) (sq Rl (.seq (sq Rm (.block 0 (.loop Be))) (sq Bf .ret)))))
def azN:List Nat:=[47]
def akN:aW:=⟨2,51,MK,[.tmp 4]⟩
def Cl:Rg:=[iA 1 (.box true (Tm 0)),iT 2 false]
def Cm:Rg:=[iF 3 2 1,iL 4 3,iK 5 38 4,iN 6 5,iC 7 .gtr 6 0,iM 8 7,gF 9 2 1 8 true,gL 10 9 8 true,gK 11 38 10 8 true,gN 12 11 8 true,gC 13 .leq 12 128 8 true,iP 14 8 13,iM 15 14,gF 16 1 1 15 true,gL 17 16 15 true,gK 18 38 17 15 true,gN 19 18 15 true,gC 20 .leq 19 128 15 true,iP 21 15 20,iM 2 21]
def FT:aC:=(sq Cl (sq Cm .ret))
def asC:List Nat:=[1]
def S3:aW:=⟨1,22,FT,[.tmp 2]⟩
def B5:Rg:=[iA 1 (.box true (Tm 0)),iT 2 false]
def B6:Rg:=[iF 3 1 1,iL 4 3,iN 5 4,iC 6 .gtr 5 128,iM 7 6,gF 8 2 1 7 false,gL 9 8 7 false,gN 10 9 7 false,gC 11 .gtr 10 128 7 false,iQ 12 7 11,iM 2 12]
def FP:aC:=(sq B5 (sq B6 .ret))
def arW:List Nat:=[1]
def Sg:aW:=⟨1,13,FP,[.tmp 2]⟩
def Sa:Rg:=[iA 1 (.box true (Tm 0)),iA 2 (.alloc [zB,.aB,.aB]),iI 3 0]
def Sb:Rg:=[iO 4 3 1,iK 5 48 4]
def Sd:Rg:=[iA 6 (.build [zB,.aB,.aB] []),iS 3 2 6,iI 3 2]
def Se:Rg:=[iO 7 3 1,iS 3 2 7,iI 3 0]
def MV:aC:=(sq Sa (.seq (sq Sb (.cond (Tm 5) (sq Sd .ret) .skip)) (sq Se .ret)))
def aAF:List Nat:=[1]
def akX:aW:=⟨1,8,MV,[.cell 2 (some 3),.tmp 3]⟩
def oc:Rg:=[iA 1 (.box true (Tm 0)),iA 2 (.alloc [zB,.aB,.aB]),iI 3 0]
def oe:Rg:=[iO 4 3 1,iK 5 56 4,iA 6 (.un .not (Tm 5))]
def og:Rg:=[iA 7 (.build [zB,.aB,.aB] []),iS 3 2 7,iI 3 1]
def oi:Rg:=[iF 8 0 1,iL 9 8,iF 10 1 1,iL 11 10,iF 12 2 1,iL 13 12,iA 14 (.call 58 [(Tm 9),(Tm 11),(Tm 13)]),iS 3 2 14,iI 3 0]
def BR:aC:=(sq oc (.seq (sq oe (.cond (Tm 6) (sq og .ret) .skip)) (sq oi .ret)))
def alE:List Nat:=[1]
def vi:aW:=⟨1,15,BR,[.cell 2 (some 3),.tmp 3]⟩
def Ch:Rg:=[iZ 4]
def Cj:Rg:=[iM 8 0,iM 9 1,iK2 10 36 8 9,iM 7 10,iE 11 7 0,iE 12 7 1,iM 5 11,iM 6 12]
def Ck:Rg:=[iM 13 5,iM 4 13]
def FS:aC:=(sq Ch (sq Cj (sq Ck .ret)))
def asA:List Nat:=[]
def S1:aW:=⟨2,14,FS,[.tmp 4]⟩
def B7:Rg:=[iA 2 (.box true (Tm 0)),iA 3 (.box true (Tm 1)),iI 4 0]
def B8:Rd:=[(iF 9 1 2,false),(iL 10 9,false),(iF 11 2 3,false),(iL 12 11,false),(iK2 13 60 10 12,true),(iF 14 1 3,true),(iL 15 14,true),(iF 16 2 2,true),(iL 17 16,true),(iK2 18 60 15 17,true),(iM 5 13,false),(iM 6 18,false)]
def B9:Rg:=[iF 19 0 2,iL 20 19,iM 21 20,gM 22 5 21 true,gN 23 22 21 true,gC 24 .gtr 23 0 21 true,iP 25 21 24,iF 26 0 3,iL 27 26,iM 28 27,gM 29 6 28 true,gN 30 29 28 true,gC 31 .gtr 30 0 28 true,iP 32 28 31,iM 7 25,iM 8 32]
def Ca:Rg:=[iM 34 7,iM 35 34,gM 36 8 35 true,iG 37 (.un .not (Tm 36)) 35 true,iP 38 35 37,iM 33 38]
def Cb:Rg:=[iI 4 (-1)]
def Cc:Rg:=[iM 40 8,iM 41 40,gM 42 7 41 true,iG 43 (.un .not (Tm 42)) 41 true,iP 44 41 43,iM 39 44]
def Cd:Rg:=[iI 4 1]
def Ce:Rg:=[iM 46 7,iM 45 46]
def Cf:Rg:=[iM 47 6,iM 48 5,iK2 49 32 47 48,iM 4 49]
def Cg:Rg:=[iM 50 5,iM 51 6,iK2 52 32 50 51,iM 4 52]
def FQ:aC:=(sq B7 (dq B8 (sq B9 (.seq (.block 0 (sq Ca (.cond (Tm 33) (sq Cb .ret) (sq Cc (.cond (Tm 39) (sq Cd .ret) (sq Ce (.cond (Tm 45) (sq Cf .ret) .skip))))))) (sq Cg .ret)))))
def arY:List Nat:=[2,3]
def Sr:aW:=⟨2,53,FQ,[.tmp 4]⟩
def Sh:Rg:=[iA 2 (.box true (Tm 0)),iA 3 (.box true (Tm 1)),iT 4 false]
def Si:Rg:=[iO 5 3 2,iO 6 3 3,iK2 7 51 5 6,iC 8 .lss 7 0,iM 4 8]
def MX:aC:=(sq Sh (sq Si .ret))
def aAJ:List Nat:=[2,3]
def alA:aW:=⟨2,9,MX,[.tmp 4]⟩
def Ss:Rg:=[iA 2 (.box true (Tm 0)),iA 3 (.box true (Tm 1)),iT 4 false]
def St:Rg:=[iO 5 3 2,iO 6 3 3,iK2 7 51 5 6,iC 8 .eql 7 0,iM 4 8]
def NB:aC:=(sq Ss (sq St .ret))
def aAN:List Nat:=[2,3]
def alF:aW:=⟨2,9,NB,[.tmp 4]⟩
def Su:Rg:=[iA 1 (.box true (Tm 0)),iI 2 0]
def Sv:Rd:=[(iO 3 3 1,true),(iA 4 (.call 47 [(Ci 0)]),true),(iK2 5 51 3 4,true),(iM 2 5,false)]
def NC:aC:=(sq Su (dq Sv .ret))
def aAP:List Nat:=[1]
def alG:aW:=⟨1,6,NC,[.tmp 2]⟩
def adX:Rg:=[iA 2 (.box true (Tm 0)),iA 3 (.box true (Tm 1)),iA 4 (.alloc [zB,.aB,.aB]),iI 5 0]
def adY:Rg:=[iO 15 3 2,iK 16 56 15,iA 17 (.un .not (Tm 16)),iM 18 17,gO 19 3 3 18 false,gK 20 56 19 18 false,iG 21 (.un .not (Tm 20)) 18 false,iQ 22 18 21]
def vf:Rg:=[iA 23 (.build [zB,.aB,.aB] []),iS 3 4 23,iI 5 1]
def adZ:Rd:=[(iF 24 1 2,false),(iL 25 24,false),(iF 26 2 3,false),(iL 27 26,false),(iK2 28 60 25 27,true),(iF 29 1 3,true),(iL 30 29,true),(iF 31 2 2,true),(iL 32 31,true),(iK2 33 60 30 32,true),(iF 34 2 2,true),(iL 35 34,true),(iF 36 2 3,true),(iL 37 36,true),(iK2 38 60 35 37,true),(iM 6 28,false),(iM 7 33,false),(iM 8 38,false)]
def aeA:Rg:=[iF 39 0 2,iL 40 39,iF 41 0 3,iL 42 41,iA 43 (.eqb false (Tm 40) (Tm 42))]
def aeB:Rg:=[iM 45 6,iM 46 7,iK2 47 30 45 46,iM 44 47,iE 48 44 0,iE 49 44 1,iM 9 48,iM 10 49]
def aeC:Rg:=[iF 50 0 2,iL 51 50,iM 52 9,iM 53 8,iA 54 (.call 58 [(Tm 51),(Tm 52),(Tm 53)]),iK 55 57 54,iE 56 55 0,iE 57 55 1,iS 3 4 56,iM 5 57]
def aeD:Rg:=[iM 58 6,iM 59 7,iK2 60 32 58 59,iC 61 .geq 60 0]
def aeE:Rg:=[iM 63 6,iM 64 7,iK2 65 37 63 64,iM 62 65,iE 66 62 0,iE 67 62 1,iM 11 66,iM 12 67]
def aeF:Rg:=[iF 68 0 2,iL 69 68,iM 70 11,iM 71 8,iA 72 (.call 58 [(Tm 69),(Tm 70),(Tm 71)]),iK 73 57 72,iE 74 73 0,iE 75 73 1,iS 3 4 74,iM 5 75]
def R7:Rg:=[iM 77 7,iM 78 6,iK2 79 37 77 78,iM 76 79,iE 80 76 0,iE 81 76 1,iM 13 80,iM 14 81]
def R8:Rg:=[iF 82 0 3,iL 83 82,iM 84 13,iM 85 8,iA 86 (.call 58 [(Tm 83),(Tm 84),(Tm 85)]),iK 87 57 86,iE 88 87 0,iE 89 87 1,iS 3 4 88,iM 5 89]
def DG:aC:=(sq adX (.seq (sq adY (.cond (Tm 22) (sq vf .ret) .skip)) (dq adZ (.seq (sq aeA (.cond (Tm 43) (sq aeB (sq aeC .ret)) .skip)) (.seq (sq aeD (.cond (Tm 61) (sq aeE (sq aeF .ret)) .skip)) (sq R7 (sq R8 .ret)))))))
def aHL:List Nat:=[2,3]
def akU:aW:=⟨2,90,DG,[.cell 4 (some 3),.tmp 5]⟩
def aeL:Rg:=[iA 2 (.alloc [zB,.aB,.aB]),iI 3 0]
def aeM:Rg:=[iA 8 (.call 47 [(Ci 0)]),iA 4 (.alloc [zB,.aB,.aB]),iS 3 4 8]
def aeN:Rg:=[iI 5 0]
def aeO:Rg:=[iM 9 5,iM 10 0,iN 11 10,iB 12 .lss 9 11]
def aeP:Rd:=[(iO 16 3 4,false),(iM 17 0,false),(iM 18 5,false),(iX 19 3 17 18,false),(iO 20 3 19,false),(iK2 21 46 16 20,true),(iM 15 21,false),(iE 22 15 0,false),(iE 23 15 1,true),(iA 6 (.alloc [zB,.aB,.aB]),true),(iS 3 6 22,true),(iM 7 23,false)]
def vj:Rg:=[iM 24 7,iC 25 .neq 24 0]
def aeQ:Rg:=[iA 26 (.build [zB,.aB,.aB] []),iM 27 7,iS 3 2 26,iM 3 27]
def aeR:Rg:=[iO 28 3 6,iS 3 4 28]
def aeS:Rg:=[iM 13 5,iC 14 .add 13 1,iM 5 14]
def aeK:aC:=(.seq (sq aeO (.cond (Tm 12) .skip (.exit 0))) (.seq (.block 1 (dq aeP (.seq (sq vj (.cond (Tm 25) (sq aeQ .ret) .skip)) (.region aeR)))) (.region aeS)))
def S0:Rg:=[iO 29 3 4,iS 3 2 29,iI 3 0]
def TN:aC:=(sq aeL (sq aeM (.seq (sq aeN (.block 0 (.loop aeK))) (sq S0 .ret))))
def aHP:List Nat:=[]
def aAS:aW:=⟨1,30,TN,[.cell 2 (some 3),.tmp 3]⟩
def vY:Rg:=[iT 4 false]
def vZ:Rg:=[iM 5 0,iC 6 .geq 5 1,iM 7 6,gM 8 0 7 true,gC 9 .leq 8 6 7 true,iP 10 7 9,iM 11 10,gM 12 1 11 true,gC 13 .geq 12 0 11 true,iP 14 11 13,iM 15 14,gM 16 1 15 true,gC 17 .leq 16 4 15 true,iP 18 15 17,iM 19 18,gM 20 0 19 true,gM 21 1 19 true,gB 22 .add 20 21 19 true,gC 23 .leq 22 8 19 true,iP 24 19 23,iM 4 24]
def oY:aC:=(sq vY (sq vZ .ret))
def ayN:List Nat:=[]
def LP:aW:=⟨2,25,oY,[.tmp 4]⟩
def pi:Rg:=[iT 2 false]
def pj:Rg:=[iM 3 0,iA 4 (.bin .geq (Tm 3) (.const (.int .u8 97))),iM 5 4,gM 6 0 5 true,iG 7 (.bin .leq (Tm 6) (.const (.int .u8 122))) 5 true,iP 8 5 7,iM 9 8,gM 10 0 9 false,iG 11 (.bin .geq (Tm 10) (.const (.int .u8 65))) 9 false,gM 12 11 9 false,gM 13 0 12 true,iG 14 (.bin .leq (Tm 13) (.const (.int .u8 90))) 12 true,iG 15 (.pick (Tm 12) (Tm 14) (.const zB)) 9 false,iQ 16 9 15,iM 2 16]
def BU:aC:=(sq pi (sq pj .ret))
def alN:List Nat:=[]
def vp:aW:=⟨1,17,BU,[.tmp 2]⟩
def Cn:Rg:=[iT 2 false]
def Cp:Rg:=[iM 3 0,iA 4 (.bin .geq (Tm 3) (.const (.int .u8 48))),iM 5 4,gM 6 0 5 true,iG 7 (.bin .leq (Tm 6) (.const (.int .u8 57))) 5 true,iP 8 5 7,iM 2 8]
def FW:aC:=(sq Cn (sq Cp .ret))
def asE:List Nat:=[]
def S4:aW:=⟨1,9,FW,[.tmp 2]⟩
def oj:Rg:=[iT 2 false]
def oq:Rg:=[iM 3 0,iK 4 65 3,iM 5 4,gM 6 0 5 false,gK 7 63 6 5 false,iQ 8 5 7,iM 9 8,gM 10 0 9 false,iG 11 (.bin .eql (Tm 10) (.const (.int .u8 45))) 9 false,iQ 12 9 11,iM 13 12,gM 14 0 13 false,iG 15 (.bin .eql (Tm 14) (.const (.int .u8 46))) 13 false,iQ 16 13 15,iM 2 16]
def BS:aC:=(sq oj (sq oq .ret))
def alJ:List Nat:=[]
def vm:aW:=⟨1,17,BS,[.tmp 2]⟩
def ou:Rg:=[iT 2 false]
def ov:Rg:=[iM 4 0,iA 5 (.aSW (Tm 4)),iC 6 .lss 5 1,iM 7 6,gM 8 0 7 false,iG 9 (.aSW (Tm 8)) 7 false,gC 10 .gtr 9 16 7 false,iQ 11 7 10,iM 12 11,gM 13 0 12 false,iG 14 (.aSX (Tm 13) (Ci 0)) 12 false,gK 15 65 14 12 false,iG 16 (.un .not (Tm 15)) 12 false,iQ 17 12 16]
def zH:Rg:=[iT 2 false]
def ow:Rg:=[iI 3 0]
def oz:Rg:=[iM 18 3,iM 19 0,iA 20 (.aSW (Tm 19)),iB 21 .lss 18 20]
def o9:Rg:=[iM 24 0,iM 25 3,iA 26 (.aSX (Tm 24) (Tm 25)),iK 27 64 26,iA 28 (.un .not (Tm 27))]
def pd:Rg:=[iT 2 false]
def pe:Rg:=[iM 22 3,iC 23 .add 22 1,iM 3 23]
def ot:aC:=(.seq (sq oz (.cond (Tm 21) .skip (.exit 0))) (.seq (.block 1 (sq o9 (.cond (Tm 28) (sq pd .ret) .skip))) (.region pe)))
def pg:Rg:=[iT 2 true]
def BT:aC:=(sq ou (.seq (sq ov (.cond (Tm 17) (sq zH .ret) .skip)) (.seq (sq ow (.block 0 (.loop ot))) (sq pg .ret))))
def alL:List Nat:=[]
def vn:aW:=⟨1,29,BT,[.tmp 2]⟩
open Go Go.Na
theorem qZ (P:List Nat) (v:Nat):aL P++[[.int .u32 (v:Int)]]=aL (P++[v]):=by simp[aL]
theorem qY {P:List Nat} (h:P.length≤35184372087808):roomFor (aL P).length 1 4:=by
 unfold roomFor;rw[cF];simp only[maxLen]; omega
def UZ (a b:List Nat) (v:PV) (c i:Nat):PF:=(((((PF.nil.set 0 (aK a)).set 1 (aK b)).set 5 (v)).set 6 (.int .u64 c)).set 7 (.int .i64 i))
theorem arF {C:Ctx} (L:qN C) (a b:List Nat) (ha:Lim a) (hb:Lim b) (η:val b≤val a) (hl:b.length≤a.length) (h1:a.length≤35184372087808) :
  FL.wp C (aR Ru.res (cB (aK (aJ (val a-val b))))) (PF.args [aK a,aK b]) .nil:=by
 simp only[go_sem,FL,Bi,Bj,Bk,Bl,Ru];refine wp_loop (α:=List Nat × Nat × PV × PH) (fun s=>UZ a b s.2.2.1 s.2.1 s.1.length) (fun s=>s.2.2.2)
  (fun s=>s.1.length≤a.length∧Lim s.1∧s.2.1≤1∧val (a.take s.1.length)+4294967296 ^ s.1.length*s.2.1=val s.1+val (b.take s.1.length)∧cA s.2.2.2 1 s.2.2.1 (aL s.1)) (fun s=>a.length-s.1.length) ([],0,.aB,.nil) ⟨by simp,by simp[Lim],by simp,by simp[val],.nil⟩ ?_ a_ ?_
 ·unfold UZ;exact Lq
 rintro⟨P,c,v,H0⟩ ⟨hP,j,hc,B,W⟩;simp only at hP j hc B W ⊢;simp only[go_sem,nj,Bm,UZ];by_cases X:P.length<a.length
 ·have F:(P.length:Int)<(a.length:Nat):=Om;have ε:=ha _ (aTN X);have δ:=cM a X;have β:(aL a)[P.length]?=some [.int .u32 ((a[P.length]:Nat):Int)]:=bT a X;generalize hx:a[P.length]=x at *
  have ex:IntKind.u64.wrap ((x:Nat):Int)=((x:Nat):Int):=bD Om;have fin:∀ (t:Nat) (E:PF),t<4294967296→val (b.take (P.length+1))=val (b.take P.length)+4294967296 ^ P.length*t →
    E 0=some (aK a)→E 1=some (aK b)→E 5=some v→E 8=some (.int .u64 (c+t:Nat))→E 7=some (.int .i64 P.length) →
    ∀ K:cE,(∀ A l v' V H2,A.length=P.length+1→Lim A→l≤1→val (a.take (P.length+1))+4294967296 ^ A.length*l=val A+val (b.take (P.length+1))→(UZ a b v' l A.length).le V→cA H2 1 v' (aL A)→K .normal V H2) →
    aC.wp C (.seq (.region TA) (.seq (.region TB) (.seq (.seq (.region MM) (.cond (.tmp 35) (.seq (.region MN) (.region MO)) .skip)) (.region zD)))) (fA 1 (jV C (aC.wp C (.region zE)) K)) E H0:=by
   intro t E ht w g0 g1 g5 g8 g7 K hK;have step:∀ (d l:Nat),d<4294967296→l≤1→x+4294967296*l=d+(c+t)→val (a.take (P.length+1))+4294967296 ^ (P.length+1)*l=val (P++[d])+val (b.take (P.length+1)):=by
    intro d l hd ζ he;have h2:4294967296 ^ P.length*(x+4294967296*l)=4294967296 ^ P.length*(d+(c+t)):=by rw[he]
    rw[aTX,aTX,aTX] at h2;rw[kF,aVL,aUI,δ,w];omega
   simp only[go_sem,TA,g0,g7,β,ex,TB,MM,g8];by_cases c2:x<c+t
   ·have I:((x:Nat):Int)<((c+t:Nat):Int):=Om;have R:IntKind.u64.wrap ((x:Int)+4294967296)=((x+4294967296:Nat):Int):=by rw[show (x:Int)+4294967296=((x+4294967296:Nat):Int) by omega];exact bD Om
    have M:IntKind.u64.wrap (((x+4294967296:Nat):Int)-((c+t:Nat):Int))=((x+4294967296-(c+t):Nat):Int):=by rw[show ((x+4294967296:Nat):Int)-((c+t:Nat):Int)=((x+4294967296-(c+t):Nat):Int) by omega];exact bD Om
    have N:IntKind.u32.wrap ((x+4294967296-(c+t):Nat):Int)=((x+4294967296-(c+t):Nat):Int):=by rw[cU,aUZ Om]
    have O:(1:Nat)*1≤16777216:=by decide
    simp only[go_sem,I,MN,R,MO,zD,g5,g8,M,N,O];refine jF (src:=[[.int .u32 ((x+4294967296-(c+t):Nat):Int)]]) W rfl (qY Om) fun v' H' u _=>?_;rw[qZ] at u;simp only[go_sem,zE,g7,dM (Om:P.length<9223372036854775807)];refine hK _ 1 v' _ H' (by simp) (j.app fun y U=>by simp at U; subst U; omega) (aTO _) ?_ ?_ u
    ·rw[aTM,aTT];exact step _ 1 Om (aTO _) Om
    ·unfold UZ;rw[aTM,aTT];exact Lq
   ·have I:¬ ((x:Nat):Int)<((c+t:Nat):Int):=Om;have M:IntKind.u64.wrap (((x:Nat):Int)-((c+t:Nat):Int))=((x-(c+t):Nat):Int):=by rw[show ((x:Nat):Int)-((c+t:Nat):Int)=((x-(c+t):Nat):Int) by omega];exact bD Om
    have N:IntKind.u32.wrap ((x-(c+t):Nat):Int)=((x-(c+t):Nat):Int):=by rw[cU,aUZ Om]
    have O:(1:Nat)*1≤16777216:=by decide
    simp only[go_sem,I,zD,g5,g8,M,N,O];refine jF (src:=[[.int .u32 ((x-(c+t):Nat):Int)]]) W rfl (qY Om) fun v' H' u _=>?_;rw[qZ] at u;simp only[go_sem,zE,g7,dM (Om:P.length<9223372036854775807)];refine hK _ 0 v' _ H' (by simp) (j.app fun y U=>by simp at U; subst U; omega) (by decide) ?_ ?_ u
    ·rw[aTM,aTT];exact step _ 0 Om (by decide) Om
    ·unfold UZ;rw[aTM,aTT];exact Lq
  simp only[aC.wp,go_sem] at fin;simp only[go_sem,F,Bn,Bo];by_cases Y:P.length<b.length
  ·have J:(P.length:Int)<(b.length:Nat):=Om;have γ:=hb _ (aTN Y);have w:=cM b Y;have eb:IntKind.u64.wrap ((b[P.length]:Nat):Int)=((b[P.length]:Nat):Int):=bD Om;have es:IntKind.u64.wrap ((c:Int)+(b[P.length]:Int))=((c+b[P.length]:Nat):Int):=fQ Om;simp only[go_sem,J,Bp,bT b Y,eb,es];refine fin b[P.length] _ γ w rfl rfl rfl rfl rfl _ ?_;intro A l v' V H2 R M N S Z e6;rw[← R] at S;exact aH (α:=List Nat × Nat × PV × PH) (A,l,v',H2) ⟨by simp only; omega,M,N,S,e6⟩ (by simp only; omega) Z b_
  ·have J:¬ (P.length:Int)<(b.length:Nat):=Om;have w:val (b.take (P.length+1))=val (b.take P.length)+4294967296 ^ P.length*0:=by rw[aUB Om,aUB Om]; simp
   simp only[go_sem,J];refine fin 0 _ (by decide) w rfl rfl rfl rfl rfl _ ?_;intro A l v' V H2 R M N S Z e6;rw[← R] at S;exact aH (α:=List Nat × Nat × PV × PH) (A,l,v',H2) ⟨by simp only; omega,M,N,S,e6⟩ (by simp only; omega) Z b_
 ·have e:P.length=a.length:=Om;have F:¬ (P.length:Int)<(a.length:Nat):=Om;have hV:val P=val a-val b:=by
   rw[e,aUS,aUB hl] at B;have hlt:=fP j;rw[e] at hlt;rcases aVP c with h | h
   ·subst h; omega
   ·have:c=1:=Om;subst this; omega
  simp only[go_sem,F,nn];have hs:=L.trim _ j Om;rw[hV] at hs;refine uV hs W rfl fun F1 H1 _=>?_;simp only[go_sem];exact aV (.inr rfl) .nil rfl a_ ⟨.refl _,rfl⟩
def sR (a b:List Nat) (o i:Nat):PF:=((((PF.nil.set 0 (aK a)).set 1 (aK b)).set 5 (.osl o 1 0 (a.length+b.length))).set 6 (.int .i64 i))
def utG (a b:List Nat) (o i c j:Nat):PF:=((((((PF.nil.set 0 (aK a)).set 1 (aK b)).set 5 (.osl o 1 0 (a.length+b.length))).set 6 (.int .i64 i)).set 7 (.int .u64 c)).set 8 (.int .i64 j))
theorem akS {C:Ctx} (a b:List Nat) (ha:Lim a) (hb:Lim b) (h1:a.length≤35184372087808) (h2:b.length≤35184372087808) (L:List Nat) (i:Nat) (hi:i<a.length) (O:GG a b L i) (q:Nat) (K:cE) (F:PF) (H:PH) (N:(sR a b q i).le F) (hH:H q=some (.rows 1 (aL L)))
  (hK:∀ L' F' H',GG a b L' (i+1)→(sR a b q i).le F'→H' q=some (.rows 1 (aL L'))→K .normal F' H') :
  aC.wp C (.block 1 (.seq (.region TI) (.seq (.seq (.region TJ) (.block 2 (.loop MS))) (.region MT)))) K F H:=by
 have f0:=N 0 _ (by unfold sR; simp only[go_sem]; rfl);have f1:=N 1 _ (by unfold sR; simp only[go_sem]; rfl);have f5:=N 5 _ (by unfold sR; simp only[go_sem]; rfl);have f6:=N 6 _ (by unfold sR; simp only[go_sem]; rfl);have hx:=ha _ (aTN hi);have β:=cM a hi;generalize δ:a[i]=x at *
 have X:(aL a)[i]?=some [.int .u32 ((x:Nat):Int)]:=by rw[bT a hi,δ]
 simp only[go_sem,TI,TJ];refine wp_loop (α:=List Nat × Nat × Nat) (fun t=>utG a b q i t.2.1 t.2.2) (fun t=>PH.nil.set q (.rows 1 (aL t.1)))
  (fun t=>t.2.2≤b.length∧t.1.length=a.length+b.length∧Lim t.1∧t.2.1<4294967296∧val t.1+4294967296 ^ (i+t.2.2)*t.2.1=val (a.take i)*val b+4294967296 ^ i*(x*val (b.take t.2.2))∧∀ j y,i+b.length≤j→t.1[j]?=some y→y=0) (fun t=>b.length-t.2.2) (L,0,0)
  ⟨by simp,O.len,O.lim,by simp,by simp[val,O.v],O.z⟩ ?_ (e_ a_ hH) ?_
 ·unfold utG;exact Lq
 rintro⟨M,c,j⟩ ⟨hj,W,l,Z,A,S⟩;simp only at hj W l Z A S;simp only[go_sem,MS,Bv,utG];by_cases U:j<b.length
 ·have B:(j:Int)<(b.length:Nat):=Om;have R:=hb _ (aTN U);have γ:=cM b U;generalize ε:b[j]=y at *
  have Y:(aL b)[j]?=some [.int .u32 ((y:Nat):Int)]:=by rw[bT b U,ε]
  have e:i+j<M.length:=Om;have J:=l _ (aTN e);have w:=HH e;generalize ζ:M[i+j]=z at *
  have I:(aL M)[i+j]?=some [.int .u32 ((z:Nat):Int)]:=by rw[bT M e,ζ]
  have ex:IntKind.u64.wrap ((x:Nat):Int)=((x:Nat):Int):=bD Om;have ey:IntKind.u64.wrap ((y:Nat):Int)=((y:Nat):Int):=bD Om;have ez:IntKind.u64.wrap ((z:Nat):Int)=((z:Nat):Int):=bD Om;have em:=Zj hx R;have θ:x*y≤4294967295*4294967295:=aWT Om Om;have e1:IntKind.u64.wrap (((x*y:Nat):Int)+(z:Int))=((x*y+z:Nat):Int):=fQ Om;have e2:IntKind.u64.wrap (((x*y+z:Nat):Int)+(c:Int))=((x*y+z+c:Nat):Int):=fQ Om;have E:IntKind.i64.wrap ((i:Int)+(j:Int))=((i+j:Nat):Int):=iD Om;have hlt:((i+j:Nat):Int)<((a.length+b.length:Nat):Int):=Om;generalize ht:x*y+z+c=t at *
  have η:t<4294967296*4294967296:=Om;have u:(aL M).set (i+j) [.int .u32 ((t%4294967296:Nat):Int)]=aL (M.set (i+j) (t%4294967296)):=gD M (i+j) _;simp only[go_sem,B];refine bC .nil cX a_ ?_;simp only[go_sem,Bw,X,Y,ex,ey,em,E,hlt,I,ez,e1,e2,Bx,cU,u,By,yZ,nt,wZz j];refine aH (M.set (i+j) (t%4294967296),t/4294967296,j+1) ⟨by simp only; omega,by simp only[aVJ]; exact W,l.set _ (aVF _ (by decide)),by simp only; omega,?_,pq S _ _ Om⟩ (by simp only; omega) ?_ (e_ a_ Sq)
  ·simp only;have V:=w (t%4294967296);have h4:4294967296 ^ (i+(j+1))*(t/4294967296)+4294967296 ^ (i+j)*(t%4294967296)=4294967296 ^ (i+j)*t:=by rw[← aWB,aVL,aUI,← aTX,aXA]
   have h5:4294967296 ^ (i+j)*t=4294967296 ^ (i+j)*(x*y)+4294967296 ^ (i+j)*z+4294967296 ^ (i+j)*c:=by rw[← ht,aTX,aTX]
   have h6:4294967296 ^ i*(x*val (b.take (j+1)))=4294967296 ^ i*(x*val (b.take j))+4294967296 ^ (i+j)*(x*y):=by rw[γ,aTX,aTX,Nat.pow_add];congr 1;rw[Nat.mul_left_comm x,aUI]
   omega
  ·exact Lq
 ·have he:j=b.length:=Om;have B:¬ (j:Int)<(b.length:Nat):=Om;subst he;have e:i+b.length<M.length:=Om;have J:M[i+b.length]=0:=S _ _ (aTO _) (aTP e);have w:=HH e;have I:(aL M)[i+b.length]?=some [.int .u32 ((0:Nat):Int)]:=by rw[bT M e,J]
  have E:IntKind.i64.wrap ((i:Int)+(b.length:Int))=((i+b.length:Nat):Int):=iD Om;have hlt:((i+b.length:Nat):Int)<((a.length+b.length:Nat):Int):=Om;have u:(aL M).set (i+b.length) [.int .u32 ((c%4294967296:Nat):Int)]=aL (M.set (i+b.length) c):=by rw[aUZ Z]; exact gD M _ _
  simp only[go_sem,B,MT,E,cU,hlt,I,u];refine hK (M.set (i+b.length) c) _ _ ⟨by rw[aVJ]; exact W,l.set _ Z,?_,fun j y hj R=>?_⟩ (by unfold sR; exact Lq) Sq
  ·have V:=w c;rw[J,Nat.mul_zero,aVB] at V;rw[V,A,aUS,β,aUT,aUI]
  ·rw[List.getElem?_set_ne Om] at R;exact S j y Om R
theorem arH {C:Ctx} (L:qN C) (a b:List Nat) (O:Lim a) (hb:Lim b) (V:a.length≤8388608) (W:b.length≤8388608) :
  FN.wp C (aR R1.res (cB (aK (aJ (val a*val b))))) (PF.args [aK a,aK b]) .nil:=by
 have w:IntKind.i64.wrap ((a.length:Int)+(b.length:Int))=((a.length+b.length:Nat):Int):=iD Om;have E:((a.length+b.length:Nat):Int)*((4:Nat):Int)≤140737488355328:=Om;have F:((a.length+b.length:Nat):Int)≤9223372036854775807:=Om;have R:aTK (a.length+b.length) [PV.int .u32 0]=aL (aTK (a.length+b.length) 0):=by simp[aL]
 simp only[go_sem,FN,Br,Bs,R1,aTJ,w,E,F,R];refine aO fun o X=>?_;simp only[go_sem,Bt];refine wp_loop (α:=List Nat × Nat) (fun t=>sR a b o t.2) (fun t=>PH.nil.set o (.rows 1 (aL t.1))) (fun t=>t.2≤a.length∧GG a b t.1 t.2) (fun t=>a.length-t.2) (aTK (a.length+b.length) 0,0)
  ⟨by simp,by simp,xG _,by simp[val,tH],fun j x _ J=>by rw[List.getElem?_replicate] at J; split at J<;>simp_all⟩ ?_ (e_ a_ Sq) ?_
 ·unfold sR;exact Lq
 rintro⟨M,i⟩ ⟨hi,l⟩;simp only at hi l;simp only[go_sem,nr,Bu,sR];by_cases K:i<a.length
 ·have u:(i:Int)<(a.length:Nat):=Om;have y:=akS (C:=C) a b O hb Om Om M i K l o;simp only[go_sem] at y;simp only[go_sem,u];refine y _ _ _ (by unfold sR; exact Lq) Sq ?_;intro L' S H' B e A;have N:=e 6 _ (by unfold sR; simp only[go_sem]; rfl);have g0:=e 0 _ (by unfold sR; simp only[go_sem]; rfl);have g1:=e 1 _ (by unfold sR; simp only[go_sem]; rfl);have U:=e 5 _ (by unfold sR; simp only[go_sem]; rfl);simp only[go_sem,nu,N,wZz i];refine aH (L',i+1) ⟨by simp only; omega,B⟩ (by simp only; omega) ?_ (e_ a_ A);exact Lq
 ·have he:i=a.length:=Om;subst he;have u:¬ (a.length:Int)<(a.length:Nat):=Om;have hV:val M=val a*val b:=by rw[l.v,aUS]
  simp only[go_sem,nv];have I:=L.trim _ l.lim (by rw[l.len]; omega);rw[hV] at I;refine rH (o:=o) (s:=1) (k:=a.length+b.length) (rs:=aL M) (v:=aK (aJ (val a*val b))) ?_ rfl Sq (by rw[cF,l.len]; exact aTO _) ?_
  ·rw[aUB (by rw[cF,l.len]; exact aTO _)]; exact I
  ·simp only[go_sem];exact aV (.inr rfl) .nil rfl a_ ⟨.refl _,rfl⟩
structure Es (C:Ctx):Prop extends Eq C where
 minus:∀ a b,Lim a→Lim b→val b≤val a→b.length≤a.length→a.length≤35184372087808→aG C 42 [aK a,aK b] .nil (aI (aK (aJ (val a-val b))))
 times:∀ a b,Lim a→Lim b→a.length≤8388608→b.length≤8388608→aG C 44 [aK a,aK b] .nil (aI (aK (aJ (val a*val b))))
theorem aHE {C:Ctx} (L:Es C) (a b:List Nat) (u:Lim a) (hb:Lim b) (y:a.length≤35184372087808) (A:b.length≤35184372087808) :
  TC.wp C (aR azR.res (cB (opV (eI (val a) (val b)) (val a*val b)))) (PF.args [aK a,aK b]) .nil:=by
 unfold opV;simp only[go_sem,TC,adJ,adK,azR];refine aA (L.large a u y) rfl ?_;by_cases j:nl (val a)>512
 ·simp only[go_sem,j,vd];rw[if_pos (by simp[eI,j])];exact fF rfl
 simp only[go_sem,j];refine aA (L.large b hb A) rfl ?_;by_cases l:nl (val b)>512
 ·simp only[go_sem,l,vd];rw[if_pos (by simp[eI,l])];exact fF rfl
 rw[if_neg (by simp[eI,j,l])];simp only[go_sem,l,adL];refine aA (L.trim a u y) rfl ?_;simp only[go_sem];refine aA (L.trim b hb A) rfl ?_;simp only[go_sem];have x:=L.times (aJ (val a)) (aJ (val b)) (aU _) (aU _) (by rw[aY]; omega) (by rw[aY]; omega);rw[aS,aS] at x;refine aA x rfl ?_;have B:=mO (a:=val a) (b:=val b) (m:=512) (n:=512) Om Om;have w:=L.large (aJ (val a*val b)) (aU _) (by rw[aY]; omega);rw[aS] at w;simp only[go_sem,adM];refine aA w rfl ?_;unfold szV szL szE;by_cases e:nl (val a*val b)>512
 ·rw[if_pos e,if_pos e];simp only[go_sem,e,adN];exact fF rfl
 ·rw[if_neg e,if_neg e];simp only[go_sem,e,adO];exact aV (.inr rfl) .nil rfl a_ ⟨.refl _,rfl⟩
def yD (a:List Nat) (i:Nat):Nat:=a.getD i 0
theorem Fh {a:List Nat} (h:Lim a) (i:Nat):yD a i<4294967296:=by
 unfold yD;rw[aTR];rcases aUE i a.length with h1 | h1
 ·rw[aTP h1]; exact h _ (aTN h1)
 ·rw[aUW h1]; decide
theorem YN {a:List Nat} {i:Nat} (h:i<a.length):yD a i=a[i]:=by simp[yD,aTR,h]
theorem PG {a:List Nat} {i:Nat} (h:¬ i<a.length):yD a i=0:=by simp[yD,aTR,h]
theorem TK (a:List Nat) (i:Nat):val (a.take (i+1))=val (a.take i)+4294967296 ^ i*yD a i:=by
 rcases aUE i a.length with h | h
 ·rw[YN h]; exact cM a h
 ·rw[PG Om,aUB Om,aUB Om]; simp
def uR (a b:List Nat) (v:PV) (c i:Nat):PF:=(((((PF.nil.set 0 (aK a)).set 1 (aK b)).set 5 (v)).set 6 (.int .u64 c)).set 7 (.int .i64 i))
theorem azW {C:Ctx} (L:qN C) (a b:List Nat) (ha:Lim a) (hb:Lim b) (h1:a.length≤8388608) (h2:b.length≤8388608) :
  MP.wp C (aR akR.res (cB (aK (aJ (val a+val b))))) (PF.args [aK a,aK b]) .nil:=by
 simp only[go_sem,MP,Rw,Rx,Ry,Rz,akR];refine wp_loop (α:=List Nat × Nat × PV × PH) (fun s=>uR a b s.2.2.1 s.2.1 s.1.length) (fun s=>s.2.2.2)
  (fun s=>s.1.length≤max a.length b.length+1∧(s.1.length≤max a.length b.length∨s.2.1=0)∧Lim s.1∧s.2.1≤1∧val s.1+4294967296 ^ s.1.length*s.2.1=val (a.take s.1.length)+val (b.take s.1.length)∧cA s.2.2.2 1 s.2.2.1 (aL s.1)) (fun s=>max a.length b.length+1-s.1.length) ([],0,.aB,.nil)
  ⟨by simp,by simp,by simp[Lim],by simp,by simp[val],.nil⟩ ?_ a_ ?_
 ·unfold uR;exact Lq
 rintro⟨P,c,v,H0⟩ ⟨hP,η,u,hc,J,hO⟩;simp only at hP η u hc J hO ⊢;have ν:=Fh ha P.length;have ξ:=Fh hb P.length;have κ:=TK a P.length;have μ:=TK b P.length;generalize hx:yD a P.length=x at *
 generalize hy:yD b P.length=y at *
 have ex:IntKind.u64.wrap ((x:Nat):Int)=((x:Nat):Int):=bD Om;have ey:IntKind.u64.wrap ((y:Nat):Int)=((y:Nat):Int):=bD Om;have R:IntKind.u64.wrap ((c:Int)+(x:Int))=((c+x:Nat):Int):=fQ Om;have S:IntKind.u64.wrap (((c+x:Nat):Int)+(y:Int))=((c+x+y:Nat):Int):=fQ Om;have ι:P.length<a.length→(aL a)[P.length]?=some [.int .u32 ((x:Nat):Int)]:=fun h=>by rw[bT a h,← hx,YN h]
 have γ:P.length<b.length→(aL b)[P.length]?=some [.int .u32 ((y:Nat):Int)]:=fun h=>by rw[bT b h,← hy,YN h]
 have δ:¬ P.length<a.length→x=0:=fun h=>by rw[← hx,PG h]
 have U:¬ P.length<b.length→y=0:=fun h=>by rw[← hy,PG h]
 have body:(P.length≤max a.length b.length)→∀ K:cE,(∀ l A v' V H2,l.length=P.length+1→Lim l→A≤1→(P.length+1≤max a.length b.length∨A=0)→val l+4294967296 ^ l.length*A=val (a.take (P.length+1))+val (b.take (P.length+1))→(uR a b v' A l.length).le V→cA H2 1 v' (aL l)→K .normal V H2) →
   ∀ F:PF,(uR a b v c P.length).le F→aC.wp C (.seq (.block 1 (.seq (.region fj) (.seq (.seq (.region fk) (.cond (.tmp 29) (.region fl) .skip)) (.seq (.seq (.region MQ) (.cond (.tmp 40) (.region MR) .skip)) (.seq (.region DD) (.region DE)))))) (.region DF)) K F H0:=by
  intro ο K hK F Z;have g0:F 0=some (aK a):=Z 0 _ (by unfold uR; simp only[go_sem]);have g1:F 1=some (aK b):=Z 1 _ (by unfold uR; simp only[go_sem]);have g5:F 5=some v:=Z 5 _ (by unfold uR; simp only[go_sem]);have g6:F 6=some (.int .u64 c):=Z 6 _ (by unfold uR; simp only[go_sem]);have B:F 7=some (.int .i64 P.length):=Z 7 _ (by unfold uR; simp only[go_sem]);have fin:∀ M:PF,M 0=some (aK a)→M 1=some (aK b)→M 5=some v→M 7=some (.int .i64 P.length)→M 8=some (.int .u64 (c+x+y:Nat)) →
    aC.wp C (.seq (.region DD) (.region DE)) (fA 1 (jV C (aC.wp C (.region DF)) K)) M H0:=by
   intro M q0 q1 q5 q7 q8;have θ:(1:Nat)*1≤16777216:=by decide
   generalize ht:c+x+y=t at *
   have ρ:t<2*4294967296:=Om;simp only[go_sem,DD,q5,q8,θ,cU];refine jF (src:=[[.int .u32 ((t%4294967296:Nat):Int)]]) hO rfl (qY Om) fun v' H' β _=>?_;rw[qZ] at β;simp only[go_sem,DE,q8,yZ,DF,q7,dM (Om:P.length<9223372036854775807)];refine hK (P++[t%4294967296]) (t/4294967296) v' _ H' (by simp) (u.app fun y hy=>by simp at hy; subst hy; omega) Om ?_ ?_ ?_ β
   ·rcases aUE P.length (max a.length b.length) with h | h
    ·exact .inl h
    ·right;have h1:=δ Om;have h2:=U Om;omega
   ·rw[kF,aTM,aTT,κ,μ,aVL,aUI,aWB,← aTX];rw[show t%4294967296+4294967296*(t/4294967296)=t from Nat.mod_add_div t 4294967296];have h3:4294967296 ^ P.length*t=4294967296 ^ P.length*c+4294967296 ^ P.length*x+4294967296 ^ P.length*y:=by rw[← ht,aTX,aTX]
    omega
   ·unfold uR;rw[aTM,aTT];exact Lq
  simp only[aC.wp,go_sem] at fin;simp only[go_sem,fj,g6,fk,B,g0];by_cases c1:P.length<a.length
  ·have j:(P.length:Int)<(a.length:Nat):=Om;simp only[go_sem,j,fl,g0,B,ι c1,ex,R,MQ,g1];by_cases N:P.length<b.length
   ·have e:(P.length:Int)<(b.length:Nat):=Om;simp only[go_sem,e,MR,g1,B,γ N,ey,S];exact fin _ (by simp only[go_sem,g0]) (by simp only[go_sem,g1]) (by simp only[go_sem,g5]) (by simp only[go_sem,B]) rfl
   ·have e:¬ (P.length:Int)<(b.length:Nat):=Om;have h0:=U N;simp only[go_sem,e];exact fin _ (by simp only[go_sem,g0]) (by simp only[go_sem,g1]) (by simp only[go_sem,g5]) (by simp only[go_sem,B]) (by simp only[go_sem,h0])
  ·have j:¬ (P.length:Int)<(a.length:Nat):=Om;have h0:=δ c1;simp only[go_sem,j,MQ,g1,B];by_cases N:P.length<b.length
   ·have e:(P.length:Int)<(b.length:Nat):=Om;have ε:IntKind.u64.wrap ((c:Int)+(y:Int))=((c+x+y:Nat):Int):=by rw[h0]; exact fQ Om
    simp only[go_sem,e,MR,g1,B,γ N,ey,ε];exact fin _ (by simp only[go_sem,g0]) (by simp only[go_sem,g1]) (by simp only[go_sem,g5]) (by simp only[go_sem,B]) rfl
   ·have e:¬ (P.length:Int)<(b.length:Nat):=Om;have ζ:=U N;simp only[go_sem,e];exact fin _ (by simp only[go_sem,g0]) (by simp only[go_sem,g1]) (by simp only[go_sem,g5]) (by simp only[go_sem,B]) (by simp only[go_sem,h0,ζ])
 simp only[aC.wp,go_sem] at body;have w:¬ P.length<a.length→¬ P.length<b.length→c=0→∀ F:PF,F 5=some v→aC.wp C (.seq (.region TF) .ret) (aR [.tmp 4] (cB (aK (aJ (val a+val b))))) F H0:=by
  intro n1 n2 n3 F f5;have hV:val P=val a+val b:=by rw[n3,aUB Om,aUB Om] at J;omega
  have hs:=L.trim _ u Om;rw[hV] at hs;simp only[go_sem,TF,f5];refine uV hs hO rfl fun F1 H1 _=>?_;simp only[go_sem];exact aV (.inr rfl) .nil rfl a_ ⟨.refl _,rfl⟩
 simp only[aC.wp,go_sem] at w;simp only[go_sem,Bq,R0,uR];by_cases c1:P.length<a.length
 ·have j:(P.length:Int)<(a.length:Nat):=Om;simp only[go_sem,j];refine body Om _ ?_ _ (by unfold uR; exact Lq);intro l A v' V H2 R S W E I X Y;rw[← R] at I E;exact aH (α:=List Nat × Nat × PV × PH) (l,A,v',H2) ⟨by simp only; omega,E,S,W,I,Y⟩ (by simp only; omega) X b_
 ·have j:¬ (P.length:Int)<(a.length:Nat):=Om;simp only[go_sem,j];by_cases N:P.length<b.length
  ·have e:(P.length:Int)<(b.length:Nat):=Om;simp only[go_sem,e];refine body Om _ ?_ _ (by unfold uR; exact Lq);intro l A v' V H2 R S W E I X Y;rw[← R] at I E;exact aH (α:=List Nat × Nat × PV × PH) (l,A,v',H2) ⟨by simp only; omega,E,S,W,I,Y⟩ (by simp only; omega) X b_
  ·have e:¬ (P.length:Int)<(b.length:Nat):=Om;simp only[go_sem,e];by_cases c3:c=0
   ·have O:¬ (c:Int)>0:=Om;simp only[go_sem,O];exact w c1 N c3 _ rfl
   ·have O:(c:Int)>0:=Om;simp only[go_sem,O];refine body Om _ ?_ _ (by unfold uR; exact Lq);intro l A v' V H2 R S W E I X Y;rw[← R] at I E;exact aH (α:=List Nat × Nat × PV × PH) (l,A,v',H2) ⟨by simp only; omega,E,S,W,I,Y⟩ (by simp only; omega) X b_
structure gr (C:Ctx):Prop extends Es C where
 plus:∀ a b,Lim a→Lim b→a.length≤8388608→b.length≤8388608→aG C 43 [aK a,aK b] .nil (aI (aK (aJ (val a+val b))))
theorem aGW {C:Ctx} (L:gr C) (a b:List Nat) (u:Lim a) (hb:Lim b) (y:a.length≤35184372087808) (A:b.length≤35184372087808) :
  SU.wp C (aR azG.res (cB (opV (eI (val a) (val b)) (val a+val b)))) (PF.args [aK a,aK b]) .nil:=by
 unfold opV;simp only[go_sem,SU,acF,acG,azG];refine aA (L.large a u y) rfl ?_;by_cases j:nl (val a)>512
 ·simp only[go_sem,j,u7];rw[if_pos (by simp[eI,j])];exact fF rfl
 simp only[go_sem,j];refine aA (L.large b hb A) rfl ?_;by_cases l:nl (val b)>512
 ·simp only[go_sem,l,u7];rw[if_pos (by simp[eI,l])];exact fF rfl
 rw[if_neg (by simp[eI,j,l])];simp only[go_sem,l,acH];refine aA (L.trim a u y) rfl ?_;simp only[go_sem];refine aA (L.trim b hb A) rfl ?_;simp only[go_sem];have x:=L.plus (aJ (val a)) (aJ (val b)) (aU _) (aU _) (by rw[aY]; omega) (by rw[aY]; omega);rw[aS,aS] at x;refine aA x rfl ?_;have B:=No (a:=val a) (b:=val b) (m:=512) Om Om;have w:=L.large (aJ (val a+val b)) (aU _) (by rw[aY]; omega);rw[aS] at w;simp only[go_sem,acI];refine aA w rfl ?_;unfold szV szL szE;by_cases e:nl (val a+val b)>512
 ·rw[if_pos e,if_pos e];simp only[go_sem,e,acJ];exact fF rfl
 ·rw[if_neg e,if_neg e];simp only[go_sem,e,acK];exact aV (.inr rfl) .nil rfl a_ ⟨.refl _,rfl⟩
theorem aHI {C:Ctx} (L:gr C) (a b:List Nat) (u:Lim a) (hb:Lim b) (w:a.length≤35184372087808) (x:b.length≤35184372087808) :
  TH.wp C (aR azZ.res (cB (sQ (val a) (val b)))) (PF.args [aK a,aK b]) .nil:=by
 unfold sQ;simp only[go_sem,TH,adP,adQ,azZ];refine aA (L.large a u w) rfl ?_;by_cases e:nl (val a)>512
 ·simp only[go_sem,e,ve];rw[if_pos (by simp[eI,e])];exact fF rfl
 simp only[go_sem,e];refine aA (L.large b hb x) rfl ?_;by_cases j:nl (val b)>512
 ·simp only[go_sem,j,ve];rw[if_pos (by simp[eI,j])];exact fF rfl
 rw[if_neg (by simp[eI,e,j])];simp only[go_sem,j,adR];refine aA (L.cmp a b u hb w x) rfl ?_;by_cases l:val a<val b
 ·have:dU (val a) (val b)=-1:=by simp[dU,l]
  rw[if_pos l];simp only[go_sem,this,show ((-1:Int)<0) by decide,adS];exact fF rfl
 ·have:¬ dU (val a) (val b)<0:=by unfold dU;rw[if_neg l];split<;>decide
  rw[if_neg l];have B:=gT (Nat.sub_le (val a) (val b));have A:=gT (Om:val b≤val a);simp only[go_sem,this,adT];refine aA (L.trim a u w) rfl ?_;simp only[go_sem];refine aA (L.trim b hb x) rfl ?_;simp only[go_sem];have y:=L.minus (aJ (val a)) (aJ (val b)) (aU _) (aU _) (by rw[aS,aS]; omega) (by rw[aY,aY]; exact A) (by rw[aY]; omega);rw[aS,aS] at y;refine aA y rfl ?_;rw[BN Om];simp only[go_sem];exact aV (.inr rfl) .nil rfl a_ ⟨.refl _,rfl⟩
def Qz (k:Nat) (v:Nat):PF:=((PF.nil.set 3 (.int .i64 k)).set 4 (.int .u32 v))
theorem azH {C:Ctx} (L:qN C) (xs:List Nat) (K:Lim xs) (U:xs.length≤35184372087808) :
  MG.wp C (aR akI.res (aI (.int .i64 (cW (val xs):Nat)))) (PF.args [aK xs]) .nil:=by
 simp only[go_sem,MG,Q1,Q3,akI];refine aA (L.trim xs K U) rfl ?_;have V:=fZ K;simp only[go_sem,Q4,aTJ,aY,DC];by_cases y:nl (val xs)=0
 ·simp only[go_sem,decide_eq_true y,Q5];refine aQ (.inr rfl) rfl ?_;have:val xs=0:=jL.1 y;simp[bQ,this,kJ]
 obtain⟨n,R⟩:∃ n,nl (val xs)=n+1:=⟨nl (val xs)-1,by omega⟩;obtain⟨t,x,B⟩:=Qn (xs:=aJ (val xs)) (aU _) (by rw[aS]; exact R);have u:t<4294967296:=aU _ t (aVH x);have S:val xs=val ((aJ (val xs)).take n)+4294967296 ^ n*t:=by
  have:=aS (val xs);have e:n<(aJ (val xs)).length:=by rw[aY]; omega
  have O:(aJ (val xs))[n]=t:=by rw[aTP e] at x; exact aVU.inj x
  conv=>lhs; rw[← this,← aUB (l:=aJ (val xs)) (i:=n+1) (by rw[aY]; omega)]
  rw[cM _ e,O]
 have hb:cW (val xs)=32*n+cW t:=by have I:=fP ((aU (val xs)).take n);rw[aUA,aY,aVT Om] at I;have w:=E8 (lo:=val ((aJ (val xs)).take n)) (k:=32*n) (hi:=t) (by rw[Nat.pow_mul]; exact I) B;rw[← w,Nat.pow_mul];exact congrArg cW S
 have j:(aL (aJ (val xs)))[n]?=some [.int .u32 (t:Nat)]:=by simp[aL,x]
 have M:IntKind.i64.wrap (((nl (val xs):Nat):Int)-1)=(n:Int):=by rw[wrap_i64 Om Om]; omega
 have N:IntKind.i64.wrap (32*(n:Int))=((32*n:Nat):Int):=by rw[wrap_i64 Om Om]; omega
 simp only[go_sem,decide_eq_false y,Q6,Q7,aTJ,aY,M,N,j];refine wp_loop (α:=Nat × Nat) (fun a=>Qz a.1 a.2) (fun _=>.nil) (fun a=>a.1+cW a.2=32*n+cW t∧a.2<4294967296) (fun a=>a.2) (32*n,t) ⟨rfl,u⟩ ?_ a_ ?_
 ·unfold Qz;exact Lq
 rintro⟨k,v⟩ ⟨w,hlt⟩;simp only at w hlt;have J:cW t≤32:=(mV t 32).2 u;simp only[go_sem,Q0,Q8,Qz];by_cases F:(v:Int)>0
 ·have E:v≠0:=Om;have A:IntKind.u32.wrap (Int.tdiv (v:Int) 2)=((v/2:Nat):Int):=by rw[show Int.tdiv (v:Int) 2=((v/2:Nat):Int) from Int.ofNat_tdiv v 2,cU,aUZ Om]
  simp only[go_sem,F,Q9,Ra,A,wZz k];refine aH (k+1,v/2) ⟨?_,?_⟩ (Nat.div_lt_self Om (by decide)) ?_ a_
  ·have:=pX E;simp only; omega
  ·simp only; omega
  ·exact Lq
 ·have:v=0:=Om;subst this;simp only[go_sem,F,Bd];refine aQ (.inr rfl) rfl ?_;rw[kJ] at w;simp only[bQ,PV.int.injEq,true_and];omega
theorem Ag (n:Nat):4294967296 ^ (n/32)*2 ^ (n%32)=2 ^ n:=by
 rw[show (4294967296:Nat)=2 ^ 32 by decide,← Nat.pow_mul,← Nat.pow_add];congr 1;omega
theorem aqX (n:Nat):IntKind.i64.wrap (Int.tdiv (n:Int) 32)=IntKind.i64.wrap ((n/32:Nat):Int):=by
 rw[show Int.tdiv (n:Int) 32=((n/32:Nat):Int) from Int.ofNat_tdiv n 32]
theorem aqY (n:Nat):Int.tmod (n:Int) 32=((n%32:Nat):Int):=Int.ofNat_tmod n 32
def aAC (a:List Nat) (n:Nat) (v:PV) (c i:Nat):PF:=(((((PF.nil.set 0 (aK a)).set 1 (.int .i64 n)).set 5 (v)).set 6 (.int .u64 c)).set 7 (.int .i64 i))
theorem aKB {C:Ctx} (L:qN C) (a:List Nat) (n:Nat) (ha:Lim a) (h1:a.length≤8388608) (hn:n≤8388608) (h0:a.length=0→val a=0) :
  fp.wp C (aR uup.res (nO 1 (aL (aJ (val a*2 ^ n))))) (PF.args [aK a,.int .i64 n]) .nil:=by
 simp only[go_sem,fp,arJ,arK,uup,aTJ,DC];by_cases F:a.length=0
 ·simp only[go_sem,decide_eq_true F,arL];rw[h0 F,Nat.zero_mul,gE];exact HD (.inr rfl) rfl
 have ez:IntKind.i64.wrap (Int.tdiv (n:Int) 32)=((n/32:Nat):Int):=by rw[aqX,fq Om]
 have em:=aqY n;have eu:IntKind.u64.wrap ((n%32:Nat):Int)=((n%32:Nat):Int):=bD Om;have W:=Ag n;have V:n%32<32:=aVF _ (by decide);have hz:n/32≤8388608:=Om;generalize ζ:n/32=z at *
 generalize δ:n%32=s at *
 have S:((z:Nat):Int)*((4:Nat):Int)≤140737488355328:=Om;have U:((z:Nat):Int)≤9223372036854775807:=Om;have Y:aTK z [PV.int .u32 0]=aL (aTK z 0):=by simp[aL]
 have M:2 ^ s≤2147483648:=Nat.pow_le_pow_right (show 0<2 by decide) (Om:s≤31);have B:0<2 ^ s:=aWJ (by decide);simp only[go_sem,decide_eq_false F,arM,ez,S,U,Y];refine aO fun o ho=>?_;simp only[go_sem,arN,arO];refine wp_loop (α:=List Nat × Nat × Nat × PV × PH) (fun t=>aAC a n t.2.2.2.1 t.2.1 t.2.2.1) (fun t=>t.2.2.2.2)
  (fun t=>t.2.2.1≤a.length∧t.1.length=z+t.2.2.1∧Lim t.1∧t.2.1<2 ^ s∧val t.1+4294967296 ^ t.1.length*t.2.1=val (a.take t.2.2.1)*2 ^ n∧cA t.2.2.2.2 1 t.2.2.2.1 (aL t.1)) (fun t=>a.length-t.2.2.1) (aTK z 0,0,0,.osl o 1 0 z,PH.nil.set o (.rows 1 (aL (aTK z 0))))
  ⟨by simp,by simp,xG _,B,by simp[val,tH],.inr ⟨o,aL (aTK z 0),by rw[cF,aXI],by simp only[go_sem],by rw[cF]; exact aTO _,aUS⟩⟩ ?_ b_ ?_
 ·unfold aAC;exact Lq
 rintro⟨P,c,i,v,H0⟩ ⟨hi,Z,j,hc,u,O⟩;simp only at hi Z j hc u O ⊢;simp only[go_sem,adU,arP,aAC];by_cases I:i<a.length
 ·have w:(i:Int)<(a.length:Nat):=Om;have γ:=ha _ (aTN I);have X:=cM a I;have R:=bT a I;generalize hx:a[i]=x at *
  have ε:x*2 ^ s≤4294967295*2147483648:=aWT Om M;have ex:IntKind.u64.wrap ((x:Nat):Int)=((x:Nat):Int):=bD Om;have β:2 ^ s*x=x*2 ^ s:=aUL _ _;have K:shift .shl .u64 (x:Int) (s:Int)=some (.int .u64 ((2 ^ s*x:Nat):Int)):=LT Om Om;have J:=orI (a:=2 ^ s*x) (b:=c) (n:=c+2 ^ s*x) Om Om (by rw[Nat.or_comm]; exact Oh hc Om) Om;have E:(c+2 ^ s*x)/4294967296<2 ^ s:=by rw[aWS (by decide)];have:2 ^ s*(x+1)≤2 ^ s*4294967296:=aWC _ Om;rw[aTX,Nat.mul_one] at this;omega
  have A:(1:Nat)*1≤16777216:=by decide
  simp only[go_sem,w,arQ,R,ex,em,eu,K,J,arR,cU,A];refine jF (src:=[[.int .u32 (((c+2 ^ s*x)%4294967296:Nat):Int)]]) O rfl (qY Om) fun v' H' l _=>?_;rw[qZ] at l;simp only[go_sem,arS,yZ,adV,wZz i];refine aH (P++[(c+2 ^ s*x)%4294967296],(c+2 ^ s*x)/4294967296,i+1,v',H') ⟨by simp only; omega,by simp; omega,j.app fun y hy=>by simp at hy; subst hy; exact aVF _ (by decide),E,?_,l⟩ (by simp only; omega) ?_ b_
  ·simp only;have hp:4294967296 ^ P.length*(2 ^ s*x)=4294967296 ^ i*x*2 ^ n:=by rw[Z,Nat.pow_add,← W];rw[aUI,Nat.mul_left_comm (4294967296 ^ i),← aUI (4294967296 ^ z),aUL (4294967296 ^ z*2 ^ s),aUI,aUL x]
   rw[kF,aTM,aTT,aVL,aUI,aWB,← aTX,Nat.mod_add_div,X,aTX,aUT,← aWB,u,hp]
  ·exact Lq
 ·have e:i=a.length:=Om;subst e;have w:¬ (a.length:Int)<(a.length:Nat):=Om;have A:(1:Nat)*1≤16777216:=by decide
  have hV:val (P++[c])=val a*2 ^ n:=by rw[kF,u,aUS]
  have N:Lim (P++[c]):=j.app fun x hx=>by simp at hx; omega
  have ec:IntKind.u32.wrap ((c:Nat):Int)=((c:Nat):Int):=by rw[cU,aUZ Om]
  simp only[go_sem,w,adW,ec,A];refine jF (src:=[[.int .u32 ((c:Nat):Int)]]) O rfl (qY Om) fun v' H' l _=>?_;rw[qZ] at l;have V:=L.trimM _ N (by simp; omega);rw[hV] at V;refine Dv V l rfl fun F1 H1 _ r H2 hr _=>?_;simp only[go_sem];exact aqH (.inr rfl) hr rfl
def SX (a:List Nat) (n:Nat) (v:PV) (i:Nat):PF:=((((PF.nil.set 0 (aK a)).set 1 (.int .i64 n)).set 5 (v)).set 6 (.int .i64 i))
theorem azM {C:Ctx} (L:qN C) (a:List Nat) (n:Nat) (M:Lim a) (h1:a.length≤8388608) (hn:n≤1000000000) :
  MK.wp C (aR akN.res (cB (aK (aJ (val a/2 ^ n))))) (PF.args [aK a,.int .i64 n]) .nil:=by
 have ez:IntKind.i64.wrap (Int.tdiv (n:Int) 32)=((n/32:Nat):Int):=by rw[aqX,fq Om]
 have em:=aqY n;have eu:IntKind.u64.wrap ((n%32:Nat):Int)=((n%32:Nat):Int):=bD Om;have O:=Ag n;have U:n%32<32:=aVF _ (by decide);have hz:n/32≤1000000000:=Om;generalize κ:n/32=z at *
 generalize ι:n%32=s at *
 simp only[go_sem,MK,Ri,Rj,akN,aTJ,ez];by_cases c0:a.length≤z
 ·have u:((z:Nat):Int)≥(a.length:Nat):=Om;have hq:val a/2 ^ n=0:=by refine aWQ (Nat.lt_of_lt_of_le (fP M) ?_);rw[← O];exact aWI (Nat.pow_le_pow_right (by decide) c0) (Nat.le_mul_of_pos_right _ (aWJ (by decide)))
  simp only[go_sem,u,Rk];rw[hq,gE];exact aV (vs:=[.aB]) (.inr rfl) .nil rfl a_ ⟨.nil 1,rfl⟩
 have u:¬ ((z:Nat):Int)≥(a.length:Nat):=Om;have hR:val a/2 ^ n=val (a.drop z)/2 ^ s:=by rw[wD M Om,← O,Nat.div_div_eq_div_mul]
 have I:Lim (a.drop z):=M.drop z;simp only[go_sem,u,Rl,Rm,ez];refine wp_loop (α:=List Nat × PV × PH) (fun t=>SX a n t.2.1 (z+t.1.length)) (fun t=>t.2.2)
  (fun t=>z+t.1.length≤a.length∧t.1=eF t.1.length (val (a.drop z)/2 ^ s)∧cA t.2.2 1 t.2.1 (aL t.1)) (fun t=>a.length-t.1.length) ([],.aB,.nil)
  ⟨by simp; omega,rfl,.nil⟩ ?_ a_ ?_
 ·unfold SX
  (repeat' (first|exact c_|refine d_ ?_ ?_))<;>first|(simp only[go_sem,aVR]<;>rfl)|rfl
 rintro⟨P,v,H0⟩ ⟨hP,hD,hO⟩;simp only at hP hD hO ⊢;simp only[go_sem,Be,Rn,SX];have E:Lim P:=by rw[hD]; exact nH _ _
 by_cases V:z+P.length<a.length
 ·have w:((z+P.length:Nat):Int)<(a.length:Nat):=Om;have θ:=M _ (aTN V);have γ:=bT a V;have ε:P.length≤(a.drop z).length:=by rw[aVE]; omega
  have R:=wD I ε;have j:(a.drop z).drop P.length=a[z+P.length]::a.drop (z+P.length+1):=by rw[List.drop_drop,aVV V]
  generalize hx:a[z+P.length]=x at *
  have ex:IntKind.u64.wrap ((x:Nat):Int)=((x:Nat):Int):=bD Om;have δ:(1:Nat)*1≤16777216:=by decide
  have ew:IntKind.i64.wrap (((z+P.length:Nat):Int)+1)=((z+P.length+1:Nat):Int):=dM Om;have fin:∀ (t:Nat) (F:PF),t<18446744073709551616→val (a.drop z)/4294967296 ^ P.length%(4294967296*4294967296)=t→F 0=some (aK a)→F 1=some (.int .i64 n)→F 5=some v→F 6=some (.int .i64 (z+P.length:Nat))→F 7=some (.int .u64 t) →
    ∀ K:cE,(∀ v' S H2,(SX a n v' (z+(P.length+1))).le S→cA H2 1 v' (aL (P++[t/2 ^ s%4294967296]))→(P++[t/2 ^ s%4294967296])=eF (P.length+1) (val (a.drop z)/2 ^ s)→K .normal S H2) →
    aC.wp C (.region fi) (fA 1 (jV C (aC.wp C (.region SY)) K)) F H0:=by
   intro t F ht ζ f0 f1 f5 f6 f7 K hK;have B:shift .shr .u64 (t:Int) (s:Int)=some (.int .u64 ((t/2 ^ s:Nat):Int)):=aJY Om;simp only[go_sem,fi,f5,f7,f1,em,eu,B,cU,δ];refine jF (src:=[[.int .u32 ((t/2 ^ s%4294967296:Nat):Int)]]) hO rfl (qY Om) fun v' H' J _=>?_;rw[qZ] at J;simp only[go_sem,SY,f6,ew];refine hK v' _ H' ?_ J ?_
   ·unfold SX;exact Lq
   ·rw[xB,← hD];congr 2;have e:val (a.drop z)/4294967296 ^ P.length=t%4294967296+4294967296*(t/4294967296+4294967296*(val (a.drop z)/4294967296 ^ P.length/(4294967296*4294967296))):=by have:=Nat.mod_add_div (val (a.drop z)/4294967296 ^ P.length) (4294967296*4294967296);rw[ζ] at this;have h2:=Nat.mod_add_div t 4294967296;rw[aTX,← aWB,h2,← aUI];exact this.symm
    have:=XA U e;rw[this];congr 2;have h2:=Nat.mod_add_div t 4294967296;omega
  simp only[aC.wp,go_sem] at fin;simp only[go_sem,w,Ro,γ,ex,Rp,ew];by_cases W:z+P.length+1<a.length
  ·have A:((z+P.length+1:Nat):Int)<(a.length:Nat):=Om;have η:=M _ (aTN W);have N:=bT a W;rw[aVV W] at j;generalize hy:a[z+P.length+1]=y at *
   have ey:IntKind.u64.wrap ((y:Nat):Int)=((y:Nat):Int):=bD Om;have B:shift .shl .u64 (y:Int) ((32:Nat):Int)=some (.int .u64 ((2 ^ 32*y:Nat):Int)):=LT (by decide) Om;have β:=orI (a:=x) (b:=2 ^ 32*y) (n:=x+2 ^ 32*y) Om Om (Oh Om Om) Om;simp only[go_sem,A,Rq,ew,N,ey,show shift .shl .u64 (y:Int) 32=_ from B,β];refine fin (x+2 ^ 32*y) _ Om ?_ rfl rfl rfl rfl rfl _ ?_
   ·rw[← R,j];simp only[val];omega
   ·intro v' S H2 X Y Z;refine aH (α:=List Nat × PV × PH) (P++[(x+2 ^ 32*y)/2 ^ s%4294967296],v',H2) ⟨by simp; omega,by simpa using Z,Y⟩ (by simp; omega) ?_ b_;simp only[aTM,aTT];exact X
  ·have A:¬ ((z+P.length+1:Nat):Int)<(a.length:Nat):=Om;rw[aXE (l:=a) (i:=z+P.length+1) Om] at j;simp only[go_sem,A];refine fin x _ Om ?_ rfl rfl rfl rfl rfl _ ?_
   ·rw[← R,j];simp only[val];omega
   ·intro v' S H2 X Y Z;refine aH (α:=List Nat × PV × PH) (P++[x/2 ^ s%4294967296],v',H2) ⟨by simp; omega,by simpa using Z,Y⟩ (by simp; omega) ?_ b_;simp only[aTM,aTT];exact X
 ·have e:z+P.length=a.length:=Om;have w:¬ ((z+P.length:Nat):Int)<(a.length:Nat):=Om;have hV:val P=val (a.drop z)/2 ^ s:=by rw[hD];refine pM (Nat.lt_of_le_of_lt (aWR _ _) ?_);have:=fP I;rw[aVE] at this;rw[show P.length=a.length-z by omega];exact this
  have U:=L.trim _ E Om;rw[hV,← hR] at U;simp only[go_sem,w,Bf];refine uV U hO rfl fun F1 H1 _=>?_;simp only[go_sem];exact aV (.inr rfl) .nil rfl a_ ⟨.refl _,rfl⟩
structure OU (C:Ctx):Prop extends gr C where
 bits:∀ xs,Lim xs→xs.length≤35184372087808→aG C 31 [aK xs] .nil (aI (.int .i64 (cW (val xs):Nat)))
 upM:∀ (a:List Nat) (n:Nat),Lim a→a.length≤8388608→n≤8388608→(a.length=0→val a=0)→aG C 45 [aK a,.int .i64 n] .nil (nO 1 (aL (aJ (val a*2 ^ n))))
 down:∀ (a:List Nat) (n:Nat),Lim a→a.length≤8388608→n≤1000000000→aG C 40 [aK a,.int .i64 n] .nil (aI (aK (aJ (val a/2 ^ n))))
def udS:Spec:=fun name vs=>match name,vs with
 | 35,[.int _ v]=>some ([],fun _=>aI (aK (aJ v.toNat)))
 | 44,[x,y]=>some ([],fun _=>aI (aK (aJ (val (jY x)*val (jY y)))))
 | 32,[x,.osl q _ _ _]=>some ([q],fun e r H'=>H'=e∧∀ xs,Lim xs→e q=some (.rows 1 (aL xs))→r=.int .i64 (dU (val (jY x)) (val xs)))
 | _,_=>none
theorem azL (v:Nat):udS 35 [.int .u64 v]=some ([],fun _=>aI (aK (aJ v))):=rfl
theorem arB (x y:List Nat):udS 44 [aK x,aK y]=some ([],fun _=>aI (aK (aJ (val x*val y)))):=by
 show some ([],fun _=>aI (aK (aJ (val (jY (aK x))*val (jY (aK y))))))=_; rw[eS,eS]
theorem atK (q:Nat) (x L:List Nat):(PH.nil.set q (.rows 1 (aL L)))=(PH.nil.set q (.rows 1 (aL L)))∧∀ xs,Lim xs→(PH.nil.set q (.rows 1 (aL L))) q=some (.rows 1 (aL xs))→(PV.int .i64 (dU (val x) (val L)))=.int .i64 (dU (val (jY (aK x))) (val xs)):=by
 refine⟨rfl,fun xs j e=>?_⟩;rw[cL] at e;have:aL L=aL xs:=(bO.rows.inj (aVU.inj e)).2;rw[RH this,eS]
def duF (n o l:Nat) (y:List Nat) (e u j:Nat) (k:Int):PF :=
 ((((((PF.nil.set 10 (.int .i64 n)).set 11 (.osl o 1 0 l)).set 12 (aK y)).set 13 (.int .u64 e)).set 14 (.osl u 1 0 j)).set 15 (.int .i64 k))
abbrev eP (X:List Nat) (Z:List (List PV)):List (List PV):=aL X++Z
theorem NG {X:List Nat} {Z:List (List PV)} {i:Nat} (h:i<X.length):(eP X Z)[i]?=some [.int .u32 ((X[i]:Nat):Int)]:=by
 rw[eP,aVI (by rw[cF]; exact h),bT X h]
theorem Cr {X:List Nat} {Z:List (List PV)} {i:Nat} (h:i<X.length) (v:Nat):(eP X Z).set i [.int .u32 (v:Int)]=eP (X.set i v) Z:=by
 rw[eP,List.set_append_left _ _ (by rw[cF]; exact h),gD]
theorem Cq {X:List Nat} {Z:List (List PV)} {j m:Nat} (h:j+m≤X.length):((eP X Z).drop j).take m=aL ((X.drop j).take m):=by
 rw[eP,List.drop_append_of_le_length (by rw[cF]; omega),List.take_append_of_le_length (by rw[aVE,cF]; omega)];unfold aL;rw[← List.map_drop,← List.map_take]
theorem aKA {C:Ctx} (L:OU C) (n o A:Nat) (y:List Nat) (B w lq j:Nat) (X:List Nat) (Z:List (List PV)) (Y:w≠o) (hy:Lim y) (hX:Lim X) (δ:X.length=A) (hl:A≤5000) (hj:j+(y.length+1)≤A) (N:0<val y)
  (qv:bO) (g0:Nat) (hg:val ((X.drop j).take (y.length+1))/val y≤g0) (V:g0<4294967296) (K:cE) (F:PF) (H:PH) (hF:((duF n o A y B w lq j).set 17 (.int .u64 g0)).le F) (hH:((PH.nil.set o (.rows 1 (eP X Z))).set w qv).le H)
  (hK:∀ F' H',((duF n o A y B w lq j).set 17 (.int .u64 (val ((X.drop j).take (y.length+1))/val y:Nat))).le F'→((PH.nil.set o (.rows 1 (eP X Z))).set w qv).le H'→K .normal F' H') :
  aC.wp C (.block 4 (.loop wS)) K F H:=by
 have e:¬ o=w:=fun h=>Y h.symm;have l:((X.drop j).take (y.length+1)).length=y.length+1:=by rw[aUA,aVE]; omega
 have E:Lim ((X.drop j).take (y.length+1)):=(hX.drop _).take _;have I:=Cq (X:=X) (Z:=Z) (j:=j) (m:=y.length+1) Om;have J:j+(y.length+1)≤(eP X Z).length:=by rw[eP,aTM,cF]; omega
 have S:aL ((X.drop j).take (y.length+1))≠[]:=fun h=>by have:=congrArg List.length h;rw[cF,l] at this;simp at this
 generalize hW:(X.drop j).take (y.length+1)=W at *
 generalize M:val W/val y=R at *
 simp only[go_sem];refine wp_loop (α:=Nat) (fun g=>(duF n o A y B w lq j).set 17 (.int .u64 g)) (fun _=>(PH.nil.set o (.rows 1 (eP X Z))).set w qv) (fun g=>R≤g∧g<4294967296) (fun g=>g) g0 ⟨hg,V⟩ hF hH ?_;rintro g ⟨γ,hlt⟩;have e1:IntKind.i64.wrap ((j:Int)+(y.length:Int))=((j+y.length:Nat):Int):=iD Om;have e2:IntKind.i64.wrap (((j+y.length:Nat):Int)+1)=((j+y.length+1:Nat):Int):=dM Om;have b1:(j:Int)≤((j+y.length+1:Nat):Int):=Om;have b2:((j+y.length+1:Nat):Int)≤(A:Nat):=Om;have b3:j+y.length+1-j=y.length+1:=Om;have mk:=L.make g Om;have tm:=L.times y (aJ g) hy (aU _) Om (by have O:nl g≤1:=oX (by rw[Nat.pow_one]; exact hlt);rw[aY]; omega)
 rw[aS] at tm;have β:(aJ (val y*g)).length≤35184372087808:=by have O:nl g≤1:=oX (by rw[Nat.pow_one]; exact hlt);have h2:=mO (a:=val y) (b:=g) (fZ hy) O;rw[aY]; omega
 have cm:=L.cmp (aJ (val y*g)) W (aU _) E β Om;rw[aS] at cm;simp only[go_sem,wS];refine bC .nil udS a_ ?_;simp only[go_sem,XK,duF];refine bX (azL g) mk Sq a_ ?_;simp only[go_sem];have tS:=arB y (aJ g);rw[aS] at tS;refine bX tS tm Sq a_ ?_;simp only[go_sem,aTJ,e1,e2,b1,b2,b3];refine BV (src:=aL W) ?_ ?_ (fun h=>absurd h S) fun _ x u=>?_
 ·simp only[go_sem,e,J,I]
 ·unfold roomFor;rw[cF,l];simp only[maxLen]; omega
 refine⟨a_,?_⟩;rw[cF,l];have n1:¬ x=w:=(jR.1 u).1;refine atO (o:=x) (s:=1) (rs:=aL W) (vs:=[aK (aJ (val y*g)),.osl x 1 0 (y.length+1)]) (v:=.int .i64 (dU (val y*g) (val W))) rfl (.int _ _) Sq ?_ ?_ ?_ Sq a_ ?_
 ·rw[aUQ,aUQ,aVZ,vK (by rw[cF,l]; exact aTO _),aUB (by rw[cF,l]; exact aTO _)];exact cm
 ·have:=atK x (aJ (val y*g)) W;rw[aS] at this;exact this
 ·rintro r H' ⟨O,h2⟩;have:=h2 W E (by rw[cL]);rw[eS,aS] at this;exact⟨this,O⟩
 simp only[go_sem];by_cases c:val W<val y*g
 ·have U:dU (val y*g) (val W)=1:=by unfold dU;rw[if_neg Om,if_pos c]
  have hq:R<g:=by rw[← M]; exact (aWS N).2 (by rw[aUL]; exact c)
  have ew:IntKind.u64.wrap ((g:Int)-1)=((g-1:Nat):Int):=by rw[wrap_u64 Om Om]; omega
  simp only[go_sem,U,show (1:Int)>0 by decide,XL,ew];refine aH (g-1) ⟨by omega,by omega⟩ Om ?_ ?_
  ·exact Lq
  ·refine e_ (e_ a_ ?_) ?_
   ·have n2:¬ o=x:=fun h=>by subst h;rw[aT,if_neg e,cL] at u;cases u
    simp only[go_sem,n2,e]
   ·have n3:¬ w=x:=fun h=>n1 h.symm;simp only[go_sem,n3]
 ·have U:¬ dU (val y*g) (val W)>0:=by unfold dU;rw[if_neg c];split<;>decide
  have hq:g=R:=by
   have:g≤R:=by rw[← M]; exact (Nat.le_div_iff_mul_le N).2 (by rw[aUL]; omega)
   omega
  simp only[go_sem,U];refine hK _ _ ?_ ?_
  ·unfold duF
   (repeat' (first|exact c_|refine d_ ?_ ?_))<;>first|(simp only[go_sem,← hq]<;>rfl)|rfl
  ·refine e_ (e_ a_ ?_) ?_
   ·have n2:¬ o=x:=fun h=>by subst h;rw[aT,if_neg e,cL] at u;cases u
    simp only[go_sem,n2,e]
   ·have n3:¬ w=x:=fun h=>n1 h.symm;simp only[go_sem,n3]
theorem aEO (R k:Nat) (h:k<nl R):∃ u:k<(aJ R).length,(aJ R)[k]=R/4294967296 ^ k%4294967296:=by
 have e:k<(aJ R).length:=by rw[aY]; exact h
 refine⟨e,?_⟩;have j:=wD (aU R) (Nat.le_of_lt e);rw[aS,aVV e] at j;have l:=aU R _ (aTN e);simp only[val] at j;rw[← j,Nat.add_mul_mod_self_left,aUZ l]
theorem avT (R k:Nat) (h:nl R≤k):R/4294967296 ^ k%4294967296=0:=by
 rw[aWQ ((jU R k).1 h)]
theorem aGO {A P W Z:List Nat} {i:Nat} (e:P.length=i) (hi:i<W.length) (v:Nat):(A++(P++W.drop i)++Z).set (A.length+i) v=A++((P++[v])++W.drop (i+1))++Z :=
 RH (by rw[← gD]; exact HF e hi v)
theorem aMS {C:Ctx} (n o E:Nat) (y:List Nat) (M x Y j:Nat) (X:List Nat) (Z:List (List PV)) (J:x≠o) (U:X.length=E) (hl:E≤5000) (hj:j+(y.length+1)≤E)
  (qv:bO) (g R:Nat) (K:cE) (F:PF) (H:PH) (hF:((((duF n o E y M x Y j).set 17 (.int .u64 g)).set 18 (aK (aJ R))).set 19 (.int .i64 0)).le F) (hH:((PH.nil.set o (.rows 1 (eP X Z))).set x qv).le H)
  (hK:∀ F' H',((duF n o E y M x Y j).set 17 (.int .u64 g)).le F'→((PH.nil.set o (.rows 1 (eP (X.take j++eF (y.length+1) R++X.drop (j+(y.length+1))) Z))).set x qv).le H'→K .normal F' H') :
  aC.wp C (.block 6 (.loop wT)) K F H:=by
 have u:¬ o=x:=fun h=>J h.symm;have hA:(X.take j).length=j:=by rw[aUA]; omega
 have ε:((X.drop j).take (y.length+1)).length=y.length+1:=by rw[aUA,aVE]; omega
 have θ:(X.drop (j+(y.length+1))).length=E-(j+(y.length+1)):=by rw[aVE,U]
 have B:X.take j++(X.drop j).take (y.length+1)++X.drop (j+(y.length+1))=X:=by rw[aUP,← List.drop_drop,aWH,aWH]
 rw[← B] at hH;generalize γ:X.take j=A at *
 generalize δ:(X.drop j).take (y.length+1)=W at *
 generalize η:X.drop (j+(y.length+1))=w at *
 simp only[go_sem];refine wp_loop (α:=List Nat) (fun P=>(((duF n o E y M x Y j).set 17 (.int .u64 g)).set 18 (aK (aJ R))).set 19 (.int .i64 P.length)) (fun P=>(PH.nil.set o (.rows 1 (eP (A++(P++W.drop P.length)++w) Z))).set x qv)
  (fun P=>P.length≤y.length+1∧P=eF P.length R) (fun P=>y.length+1-P.length) [] ⟨aTQ _,rfl⟩ hF (by simpa using hH) ?_
 rintro P ⟨hP,hD⟩;simp only[go_sem,wT,XM,duF];by_cases c:P.length<y.length+1
 ·have O:(P.length:Int)≤(y.length:Nat):=Om;have ei:IntKind.i64.wrap ((j:Int)+(P.length:Int))=((j+P.length:Nat):Int):=iD Om;have β:(A++(P++W.drop P.length)++w).length=E:=by simp only[aTM,aVE]; omega
  have hi:j+P.length<(A++(P++W.drop P.length)++w).length:=Om;have b1:((j+P.length:Nat):Int)<(E:Nat):=Om;have r1:=NG (Z:=Z) hi;have s1:=Cr (Z:=Z) hi 0;have N:j+P.length<((A++(P++W.drop P.length)++w).set (j+P.length) 0).length:=by rw[aVJ]; exact hi
  have l:=fun v=>aGO (A:=A) (P:=P) (W:=W) (Z:=w) (i:=P.length) rfl Om v;rw[hA] at l;generalize ζ:A++(P++W.drop P.length)++w=XX at *
  have r2:(eP (A++((P++[0])++W.drop (P.length+1))++w) Z)[j+P.length]?=some [.int .u32 ((0:Nat):Int)]:=by rw[← l 0,NG N,List.getElem_set_self]
  have s2:∀ v,(eP (A++((P++[0])++W.drop (P.length+1))++w) Z).set (j+P.length) [.int .u32 ((v:Nat):Int)]=eP (A++((P++[v])++W.drop (P.length+1))++w) Z:=by intro v;rw[← l 0,Cr N,List.set_set,l]
  have aSR:=xB P.length R;rw[← hD] at aSR;have ew:IntKind.i64.wrap ((P.length:Int)+1)=((P.length+1:Nat):Int):=dM Om;simp only[go_sem,O,XN,ei,b1,u,r1,show ([PV.int .u32 (0:Int)])=[PV.int .u32 ((0:Nat):Int)] from rfl,s1,XO,aY];by_cases c2:P.length<nl R
  ·have I:(P.length:Int)<(nl R:Nat):=Om;obtain⟨S,V⟩:=aEO R P.length c2;have hr:=bT (aJ R) S;rw[V] at hr;simp only[go_sem,I,XP,hr,ei,b1,u,r2,s2,List.set_set,l,FG,ew];refine aH (P++[R/4294967296 ^ P.length%4294967296]) ⟨by simp; omega,by rw[aTM,aTT]; exact aSR.symm⟩ (by simp; omega) ?_ ?_
   ·rw[aTM,aTT];exact Lq
   ·rw[aTM,aTT];refine e_ (e_ a_ ?_) ?_<;>simp only[go_sem,u,show ¬ x=o from J]
  ·have I:¬ (P.length:Int)<(nl R:Nat):=Om;have V:=avT R P.length Om;rw[V] at aSR;simp only[go_sem,I,l,FG,ew];refine aH (P++[0]) ⟨by simp; omega,by rw[aTM,aTT]; exact aSR.symm⟩ (by simp; omega) ?_ ?_
   ·rw[aTM,aTT];exact Lq
   ·rw[aTM,aTT];refine e_ (e_ a_ ?_) ?_<;>simp only[go_sem,u,show ¬ x=o from J]
 ·have O:¬ (P.length:Int)≤(y.length:Nat):=Om;have e:P.length=y.length+1:=Om;simp only[go_sem,O];refine hK _ _ (by unfold duF; exact Lq) ?_;have h2:A++eF (y.length+1) R++w=A++(P++W.drop P.length)++w:=by rw[aXE Om,aVC,← e,← hD]
  rw[h2];exact b_
theorem avF {y W:List Nat} {m:Nat} (F:Lim y) (hW:Lim W) (B:y.length=m+1) (A:W.length=m+2) (E:0<y[m]):val W/val y≤(4294967296*W[m+1]+W[m])/y[m]:=by
 have x:=cM y (Om:m<y.length);rw[aUB Om] at x;have l:=cM W (Om:m+1<W.length);rw[aUB Om,cM W (Om:m<W.length)] at l;have u:=fP (hW.take m);rw[aUA,aVT Om] at u;have w:0<4294967296 ^ m:=aWJ (by decide);have hb:4294967296 ^ m*y[m]≤val y:=Om;have j:0<4294967296 ^ m*y[m]:=Nat.mul_pos w E;have e:val W=val (W.take m)+4294967296 ^ m*(4294967296*W[m+1]+W[m]):=by rw[l,aVL,aTX,aUI]; omega
 refine aWI (Nat.div_le_div_left hb j) ?_;rw[← Nat.div_div_eq_div_mul,e,Nat.add_mul_div_left _ _ w,aWQ u,aUF];exact aTO _
theorem arC {C:Ctx} (L:OU C) (U0 n o w l u m:Nat) (y z:List Nat) (S:u≠o) (hy:Lim y) (N:y.length=m+1) (ht:0<y[m]) (f':w=l+(m+1)) (V:w≤5000) (X:List Nat) (M:pT U0 (val y) (m+1) w l l X (aTK l 0)) (K:cE) (F:PF) (H:PH)
  (hF:(duF n o w y (y[m]) u l ((l:Int)-1)).le F) (hH:((PH.nil.set o (.rows 1 (eP X (aL z)))).set u (.rows 1 (aL (aTK l 0)))).le H)
  (hK:∀ X' Q' F' H',pT U0 (val y) (m+1) w l 0 X' Q'→(duF n o w y (y[m]) u l (-1)).le F'→((PH.nil.set o (.rows 1 (eP X' (aL z)))).set u (.rows 1 (aL Q'))).le H'→K .normal F' H') :
  aC.wp C (.block 2 (.loop wU)) K F H:=by
 have x:¬ o=u:=fun h=>S h.symm;have p':¬ u=o:=S;have hV:val y<4294967296 ^ (m+1):=by have:=fP hy; rw[N] at this; exact this
 have ν:0<val y:=by have h1:=cM y (Om:m<y.length);rw[aUB Om] at h1;have:0<4294967296 ^ m*y[m]:=Nat.mul_pos (aWJ (by decide)) ht;omega
 have u':=hy _ (aTN (Om:m<y.length));generalize htop:y[m]=e at *
 simp only[go_sem];refine wp_loop (α:=Nat × List Nat × List Nat) (fun t=>duF n o w y e u l ((t.1:Int)-1)) (fun t=>(PH.nil.set o (.rows 1 (eP t.2.1 (aL z)))).set u (.rows 1 (aL t.2.2)))
  (fun t=>t.1≤l∧pT U0 (val y) (m+1) w l t.1 t.2.1 t.2.2) (fun t=>t.1) (l,X,aTK l 0) ⟨aTO _,M⟩ hF hH ?_
 rintro⟨k,X,Q⟩ ⟨hk,M⟩;simp only at hk M;simp only[go_sem,wU,XF,duF];by_cases h0:0<k
 ·obtain⟨j,rfl⟩:∃ j,k=j+1:=⟨k-1,by omega⟩;have hz:((j+1:Nat):Int)-1=(j:Int):=Om;have b':(j:Int)≥0:=Om;have dst:=Fk M hV Om f';rw[show m+1+1=m+2 from rfl] at dst;obtain⟨hlt,Θ⟩:=dst;have ξ:=M.lu';have q':=M.lq';have R:((X.drop j).take (m+2)).length=m+2:=by rw[aUA,aVE]; omega
  have γ:Lim ((X.drop j).take (m+2)):=(M.limU.drop _).take _;have s':m+1<((X.drop j).take (m+2)).length:=Om;have r':m<((X.drop j).take (m+2)).length:=Om;have a1:j+(m+1)<X.length:=Om;have a0:j+m<X.length:=Om;have w1:((X.drop j).take (m+2))[m+1]=X[j+(m+1)]:=by simp
  have w0:((X.drop j).take (m+2))[m]=X[j+m]:=by simp
  have ρ:=avF hy γ N R (by rw[htop]; exact ht);rw[w1,w0,htop] at ρ;have r1:=NG (Z:=aL z) a1;have r0:=NG (Z:=aL z) a0;have l1:=M.limU _ (aTN a1);have l0:=M.limU _ (aTN a0);generalize w':X[j+(m+1)]=E at *
  generalize v':X[j+m]=J at *
  have e1:IntKind.i64.wrap ((j:Int)+(y.length:Int))=((j+(m+1):Nat):Int):=by rw[N]; exact iD Om
  have e0:IntKind.i64.wrap (((j+(m+1):Nat):Int)-1)=((j+m:Nat):Int):=by rw[wrap_i64 Om Om]; omega
  have b1:((j+(m+1):Nat):Int)<(w:Nat):=Om;have b0:((j+m:Nat):Int)<(w:Nat):=Om;have Γ:IntKind.u64.wrap ((E:Nat):Int)=((E:Nat):Int):=bD Om;have ω:IntKind.u64.wrap ((J:Nat):Int)=((J:Nat):Int):=bD Om;have η:shift .shl .u64 (E:Int) 32=some (.int .u64 ((2 ^ 32*E:Nat):Int)):=LT (s:=32) Om Om;have ψ:(2:Nat) ^ 32=4294967296:=by decide
  have ε:=orI (a:=2 ^ 32*E) (b:=J) (n:=2 ^ 32*E+J) Om Om (Nat.two_pow_add_eq_or_of_lt Om E).symm Om;rw[ψ] at η ε;have Φ:¬ ((e:Nat):Int)=0:=Om;have υ:(4294967296*E+J)/e<18446744073709551616:=Nat.lt_of_le_of_lt (aWR _ _) Om;have ζ:IntKind.u64.wrap (Int.tdiv ((4294967296*E+J:Nat):Int) ((e:Nat):Int))=(((4294967296*E+J)/e:Nat):Int):=by rw[show Int.tdiv ((4294967296*E+J:Nat):Int) ((e:Nat):Int)=(((4294967296*E+J)/e:Nat):Int) from rfl];exact bD υ
  have φ:val ((X.drop j).take (m+2))/val y<4294967296:=(aWS ν).2 (by rw[aUL]; exact hlt);have ο:=Cq (X:=X) (Z:=aL z) (j:=j) (m:=m+2) Om;have σ:j+(m+2)≤(eP X (aL z)).length:=by rw[eP,aTM,cF]; omega
  have δ:val ((X.drop j).take (m+2))-val y*(val ((X.drop j).take (m+2))/val y)=val ((X.drop j).take (m+2))%val y:=by have:=aXA (val ((X.drop j).take (m+2))) (val y);omega
  have I:val y*(val ((X.drop j).take (m+2))/val y)≤val ((X.drop j).take (m+2)):=Nat.mul_div_le _ _;clear w1 w0;have gu:=fun g0=>aKA (C:=C) L n o w y e u l j X (aL z) S hy M.limU ξ V Om ν (.rows 1 (aL Q)) g0;rw[N,show m+1+1=m+2 from rfl] at gu;generalize hW:(X.drop j).take (m+2)=W at *
  generalize t':val W/val y=O at *
  have Λ:aL W≠[]:=fun h=>by have:=congrArg List.length h;rw[cF,R] at this;simp at this
  have tail:∀ (g0:Nat) (F:PF) (H:PH),O≤g0→g0<4294967296→((duF n o w y e u l j).set 17 (.int .u64 g0)).le F→((PH.nil.set o (.rows 1 (eP X (aL z)))).set u (.rows 1 (aL Q))).le H →
    aC.wp C (.seq (.block 4 (.loop wS)) (.seq (.region FD) (.seq (.seq (.region FF) (.block 6 (.loop wT))) (.region FH)))) (fA 3 (jV C (aC.wp C (.region FI)) (fN (fun (t:Nat × List Nat × List Nat)=>duF n o w y e u l ((t.1:Int)-1)) (fun t=>(PH.nil.set o (.rows 1 (eP t.2.1 (aL z)))).set u (.rows 1 (aL t.2.2))) (fun t=>t.1≤l∧pT U0 (val y) (m+1) w l t.1 t.2.1 t.2.2) (fun t=>t.1) (j+1) (fA 2 K)))) F H:=by
   intro g0 F H hg a' hF hH;have gu:=gu g0 hg a';simp only[go_sem] at gu;simp only[go_sem];refine gu _ F H hF hH ?_;intro Y H1 A κ;have f11:Y 11=some (.osl o 1 0 w):=A 11 _ (by unfold duF; simp only[go_sem]);have β:Y 12=some (aK y):=A 12 _ (by unfold duF; simp only[go_sem]);have θ:Y 15=some (.int .i64 j):=A 15 _ (by unfold duF; simp only[go_sem]);have ι:Y 17=some (.int .u64 (O:Nat)):=A 17 _ (by unfold duF; simp only[go_sem]);have Δ:Y 10=some (.int .i64 n):=A 10 _ (by unfold duF; simp only[go_sem]);have f13:Y 13=some (.int .u64 e):=A 13 _ (by unfold duF; simp only[go_sem]);have f14:Y 14=some (.osl u 1 0 l):=A 14 _ (by unfold duF; simp only[go_sem]);have ho:H1 o=some (.rows 1 (eP X (aL z))):=κ o _ (by simp only[go_sem,x]);have τ:H1 u=some (.rows 1 (aL Q)):=κ u _ Sq;have b3:(j:Int)≤((j+(m+1)+1:Nat):Int):=Om;have b4:((j+(m+1)+1:Nat):Int)≤(w:Nat):=Om;have b5:j+(m+1)+1-j=m+2:=Om;have e2:IntKind.i64.wrap (((j+(m+1):Nat):Int)+1)=((j+(m+1)+1:Nat):Int):=dM Om;simp only[go_sem,FD,f11,θ,β,aTJ,e1,e2,b3,b4,b5];refine BV (src:=aL W) ?_ ?_ (fun h=>absurd h Λ) fun _ o' U=>?_
   ·simp only[go_sem,ho,σ,ο]
   ·unfold roomFor;rw[cF,R];simp only[maxLen]; omega
   rw[cF,R];have n1:¬ u=o':=fun h=>by subst h; rw[τ] at U; cases U
   have n2:¬ o=o':=fun h=>by subst h; rw[ho] at U; cases U
   have nq:nl O≤1:=oX (by rw[Nat.pow_one]; exact φ);have tm:=L.times y (aJ O) hy (aU _) Om (by rw[aY]; omega);rw[aS] at tm;have nW:=fZ γ;have mn:=L.minus W (aJ (val y*O)) γ (aU _) (by rw[aS]; exact I) (by rw[aY]; exact aWI (gT I) nW) Om;rw[aS,δ] at mn;have Ξ:(aL W).take (m+2)=aL W:=aUB (by rw[cF]; omega);simp only[go_sem,ι];refine aA (L.make O Om) Sq ?_;simp only[go_sem,β];refine aA tm Sq ?_;simp only[go_sem];refine rR (o:=o') (s:=1) (rs:=aL W) mn Sq (by simp only[go_sem,show m+2≤W.length by omega,Ξ]) ?_;simp only[go_sem,FF];have Ω:(eP X (aL z)).map (fun r=>r.map (PV.cH o' 1 (aL W)))=eP X (aL z):=by
    have:eP X (aL z)=aL (X++z):=by simp[eP,aL]
    rw[this]; exact sX _ _ _ _
   have Ψ:(aL Q).map (fun r=>r.map (PV.cH o' 1 (aL W)))=aL Q:=sX _ _ _ _;have ur:=aMS (C:=C) n o w y e u l j X (aL z) S ξ V Om (.rows 1 (aL Q)) O (val W%val y);rw[N,show m+1+1=m+2 from rfl] at ur;simp only[go_sem] at ur;refine ur _ _ _ ?_ ?_ ?_
   ·unfold duF
    (repeat' (first|exact c_|refine d_ ?_ ?_))<;>first|(simp only[go_sem,Δ,f11,β,f13,f14,θ,ι,n1,n2]<;>rfl)|rfl
   ·refine e_ (e_ a_ ?_) ?_
    ·simp only[go_sem,x,n2,ho,bO.frz,Ω]
    ·simp only[go_sem,n1,τ,bO.frz,Ψ]
   intro F3 H3 B μ;have i':F3 10=some (.int .i64 n):=B 10 _ (by unfold duF; simp only[go_sem]);have j':F3 11=some (.osl o 1 0 w):=B 11 _ (by unfold duF; simp only[go_sem]);have k':F3 12=some (aK y):=B 12 _ (by unfold duF; simp only[go_sem]);have l':F3 13=some (.int .u64 e):=B 13 _ (by unfold duF; simp only[go_sem]);have χ:F3 14=some (.osl u 1 0 l):=B 14 _ (by unfold duF; simp only[go_sem]);have m':F3 15=some (.int .i64 j):=B 15 _ (by unfold duF; simp only[go_sem]);have n':F3 17=some (.int .u64 O):=B 17 _ (by unfold duF; simp only[go_sem]);have g':H3 o=some (.rows 1 (eP (X.take j++eF (m+2) (val W%val y)++X.drop (j+(m+2))) (aL z))):=μ o _ (by simp only[go_sem,x]);have h':H3 u=some (.rows 1 (aL Q)):=μ u _ Sq;have e':j<Q.length:=Om;have rq:=bT Q e';have d':(j:Int)<(l:Nat):=Om;have sq:=gD Q j O;have ec:IntKind.u32.wrap ((O:Nat):Int)=((O:Nat):Int):=by rw[cU,aUZ φ]
   have ej:IntKind.i64.wrap ((j:Int)-1)=(j:Int)-1:=wrap_i64 Om Om;simp only[go_sem,FH,χ,m',n',d',h',rq,ec,sq,FI,ej];refine aH (α:=Nat × List Nat × List Nat) (j,_,_) ⟨by simp only; omega,Θ⟩ (by simp only; omega) ?_ ?_
   ·unfold duF
    (repeat' (first|exact c_|refine d_ ?_ ?_))<;>first|(simp only[go_sem,i',j',k',l',χ]<;>rfl)|rfl
   ·refine e_ (e_ a_ ?_) ?_
    ·simp only[go_sem,x,g']
    ·simp only[go_sem]
  simp only[aC.wp,go_sem] at tail;simp only[go_sem,hz,b'];refine bC .nil cX a_ ?_;simp only[go_sem,XG,e1,e0,b1,b0,x,r1,r0,Γ,ω,η,ε,XH,Φ,ζ,XI];by_cases c:(4294967296*E+J)/e>4294967295
  ·have c':(((4294967296*E+J)/e:Nat):Int)>4294967295:=Om;simp only[go_sem,c',XJ];exact tail 4294967295 _ _ Om (by decide) (by unfold duF; exact Lq) b_
  ·have c':¬ (((4294967296*E+J)/e:Nat):Int)>4294967295:=Om;simp only[go_sem,c'];exact tail _ _ _ ρ Om (by unfold duF; exact Lq) b_
 ·have:k=0:=Om;subst this;have hz:¬ ((0:Nat):Int)-1≥0:=by decide
  simp only[go_sem,hz];refine hK X Q _ _ M ?_ b_;unfold duF
  (repeat' (first|exact c_|refine d_ ?_ ?_))<;>first|(simp only[go_sem,show ((0:Nat):Int)-1=-1 from rfl]<;>rfl)|rfl
def azK (a:List Nat) (d q k r:Nat):PF:=(((((PF.nil.set 0 (aK a)).set 1 (aK [d])).set 6 (.osl q 1 0 a.length)).set 7 (.int .u64 r)).set 8 (.int .i64 ((k:Int)-1)))
theorem akK {C:Ctx} (L:OU C) (a:List Nat) (d:Nat) (ha:Lim a) (l:0<d) (hd:d<4294967296) (h1:a.length≤1000) (F:PF) (f0:F 0=some (aK a)) (f1:F 1=some (aK [d])) :
  aC.wp C (.seq (.region MH) (.seq (.region MI) (.seq (.seq (.region MJ) (.block 0 (.loop EX))) (.seq (.region EY) .ret)))) (aR [.tmp 4,.tmp 5] (cB (rJ (val a) d))) F .nil:=by
 have Y:(a.length:Int)*((4:Nat):Int)≤140737488355328:=Om;have Z:(a.length:Int)≤9223372036854775807:=Om;have hz:aTK a.length [PV.int .u32 0]=aL (aTK a.length 0++[]):=by simp[aL]
 simp only[go_sem,MH,f0,aTJ,Y,Z,hz];refine aO fun o ho=>?_;simp only[go_sem,MI,MJ,f0,aTJ];refine wp_loop (α:=Nat × List Nat × Nat) (fun t=>azK a d o t.1 t.2.2) (fun t=>PH.nil.set o (.rows 1 (aL (aTK t.1 0++t.2.1))))
  (fun t=>t.1+t.2.1.length=a.length∧Lim t.2.1∧t.2.2<d∧val t.2.1*d+t.2.2=val (a.drop t.1)) (fun t=>t.1) (a.length,[],0) ⟨by simp,by simp[Lim],l,by simp[val]⟩ ?_ ?_ ?_
 ·unfold azK
  (repeat' (first|exact c_|refine d_ ?_ ?_))<;>first|(simp only[go_sem,f0,f1,wrap_i64 (Om:-9223372036854775808≤(a.length:Int)-1) (Om:(a.length:Int)-1≤9223372036854775807)]<;>rfl)|rfl
 ·exact e_ a_ Sq
 rintro⟨k,S,r⟩ ⟨hk,j,N,e⟩;simp only at hk j N e;simp only[go_sem,EX,nb,azK];by_cases h0:0<k
 ·obtain⟨m,rfl⟩:∃ m,k=m+1:=⟨k-1,by omega⟩;have A:((m+1:Nat):Int)-1=(m:Int):=Om;have W:(m:Int)≥0:=Om;have w:m<a.length:=Om;have hlt:(m:Int)<(a.length:Nat):=Om;have γ:=ha _ (aTN w);have u:val (a.drop m)=a[m]+4294967296*val (a.drop (m+1)):=by rw[aVV w]; rfl
  have U:=bT a w;generalize hx:a[m]=x at *
  have ex:IntKind.u64.wrap ((x:Nat):Int)=((x:Nat):Int):=bD Om;have ed:IntKind.u64.wrap ((d:Nat):Int)=((d:Nat):Int):=bD Om;have J:shift .shl .u64 (r:Int) 32=some (.int .u64 ((2 ^ 32*r:Nat):Int)):=LT (s:=32) Om Om;have O:(2:Nat) ^ 32=4294967296:=by decide
  have B:=orI (a:=2 ^ 32*r) (b:=x) (n:=2 ^ 32*r+x) Om Om (Nat.two_pow_add_eq_or_of_lt Om r).symm Om;rw[O] at J B;have hq:(4294967296*r+x)/d<4294967296:=by rw[aWS l];have:4294967296*(r+1)≤4294967296*d:=aWC _ N;omega
  have V:¬ ((d:Nat):Int)=0:=Om;have E:IntKind.u64.wrap (Int.tdiv ((4294967296*r+x:Nat):Int) ((d:Nat):Int))=(((4294967296*r+x)/d:Nat):Int):=by rw[show Int.tdiv ((4294967296*r+x:Nat):Int) ((d:Nat):Int)=(((4294967296*r+x)/d:Nat):Int) from rfl];exact bD Om
  have I:Int.tmod ((4294967296*r+x:Nat):Int) ((d:Nat):Int)=(((4294967296*r+x)%d:Nat):Int):=rfl;have ec:IntKind.u32.wrap (((4294967296*r+x)/d:Nat):Int)=(((4294967296*r+x)/d:Nat):Int):=by rw[cU,aUZ hq]
  have K:aTK (m+1) 0++S=aTK m 0++(0::S):=by rw[List.replicate_succ',aUP]; rfl
  have X:(aL (aTK m 0++(0::S)))[m]?=some [.int .u32 ((0:Nat):Int)]:=by rw[bT _ (by simp)]; simp
  have M:(aL (aTK m 0++(0::S))).set m [.int .u32 (((4294967296*r+x)/d:Nat):Int)]=aL (aTK m 0++(((4294967296*r+x)/d)::S)):=by rw[gD,aWZ _ _ (by simp)]; simp
  simp only[go_sem,A,W,nc,J,U,ex,B,ni,ed,V,E,ec,hlt,K,X,M,XB,I,XC];refine aH (m,((4294967296*r+x)/d)::S,(4294967296*r+x)%d) ⟨by simp only[aVA]; omega,fun y hy=>?_,aVF _ l,?_⟩ (by simp only; omega) ?_ (e_ a_ Sq)
  ·rw[aTW] at hy;rcases hy with rfl | hy
   ·exact hq
   ·exact j y hy
  ·simp only[val];rw[u,← e,aUT,aTX,aUI];have:=aXA (4294967296*r+x) d;rw[aUL d] at this;omega
  ·(repeat' (first|exact c_|refine d_ ?_ ?_))<;>first|(simp only[go_sem,wrap_i64 (Om:-9223372036854775808≤(m:Int)-1) (Om:(m:Int)-1≤9223372036854775807)]<;>rfl)|rfl
 ·have:k=0:=Om;subst this;have A:¬ ((0:Nat):Int)-1≥0:=by decide
  rw[aUV] at e;have hS:S.length=a.length:=Om;have hq:val S=val a/d:=by rw[← e,aUL,Nat.mul_add_div l,aWQ N,aVB]
  have β:r=val a%d:=by rw[← e,aUL,Nat.mul_add_mod,aUZ N]
  have δ:aTK 0 0++S=S:=by simp
  have hl:=L.trim S j Om;have R:(aL S).take a.length=aL S:=aUB (by rw[cF]; omega);simp only[go_sem,A,EY,aWP];refine rR (o:=o) (s:=1) (rs:=aL S) hl Sq (by simp only[go_sem,R,show a.length≤S.length by omega]) ?_;simp only[go_sem];refine aA (L.make r Om) Sq ?_;simp only[go_sem];refine aV (vs:=[aK (aJ (val S)),aK (aJ r)]) (.inr rfl) .nil Ev a_ ⟨?_,rfl⟩;rw[hq,β];exact .refl _
theorem aCB {B m:Nat} (h:nl B=m+1):32*m<cW B∧cW B≤32*(m+1):=by
 refine⟨?_,(mW B (m+1)).2 Om⟩;rcases aUE (32*m) (cW B) with h1 | h1
 ·exact h1
 ·have:=(mW B m).1 h1;omega
theorem aCC {B:Nat} (h:B≠0):2 ^ (cW B-1)≤B:=by
 rcases aUE B (2 ^ (cW B-1)) with h1 | h1
 ·have j:=(mV B _).2 h1;have l:cW B≠0:=fun e=>h (kV.1 e);omega
 ·exact h1
theorem akL {C:Ctx} (L:OU C) (A B:Nat) (hB:B≠0) (hA:nl A≤512) (Ψ:nl B≤512) :
  BO.wp C (aR va.res (cB (rJ A B))) (PF.args [aK (aJ A),aK (aJ B)]) .nil:=by
 have R:=aU A;have LB:=aU B;have vA:=aS A;have vB:=aS B;have lA:(aJ A).length=nl A:=rfl;have lB:(aJ B).length=nl B:=rfl;simp only[go_sem,BO,m7,m8,va];refine aA (L.cmp _ _ R LB Om Om) rfl ?_;rw[vA,vB];by_cases c1:A<B
 ·have hc:dU A B<0:=by simp[dU,c1]
  simp only[go_sem,hc,m9];refine aA (L.trim _ R Om) rfl ?_;rw[vA];simp only[go_sem];refine aV (vs:=[.aB,aK (aJ A)]) (.inr rfl) .nil rfl a_ ⟨?_,rfl⟩;rw[rJ,aWQ c1,aUZ c1,gE];exact CoL.tup (CoL.cons (.nil 1) (CoL.cons (.refl _) .nil))
 have hc:¬ dU A B<0:=by unfold dU;rw[if_neg c1];split<;>decide
 have τ:0<B:=aWD hB;have e':nl B≠0:=fun h=>hB (jL.1 h);simp only[go_sem,hc,na,aTJ,lB];by_cases c2:nl B=1
 ·have S:B<4294967296:=by have:=(jU B 1).1 Om; simpa using this
  have ω:aJ B=[B]:=pF hB S;have sh:=akK (C:=C) L (aJ A) B R τ S Om;rw[vA] at sh;simp only[aC.wp,go_sem] at sh;simp only[go_sem,bP (Om:((nl B:Nat):Int)=1)];exact sh _ rfl (by simp only[go_sem,ω])
 obtain⟨m,hm⟩:∃ m,nl B=m+1:=⟨nl B-1,by omega⟩;have d':1≤m:=Om;obtain⟨b',β⟩:=aCB hm;obtain⟨n,hn⟩:∃ n,n+cW B=32*(m+1):=⟨32*(m+1)-cW B,by omega⟩;have δ:n<32:=Om;have K:0<2 ^ n:=aWJ (by decide);have V:B<2 ^ cW B:=(mV B _).1 (aTO _);have U:=aCC hB;have Y:B*2 ^ n<4294967296 ^ (m+1):=by have:B*2 ^ n<2 ^ cW B*2 ^ n:=Nat.mul_lt_mul_of_pos_right V K;rw[← Nat.pow_add,show cW B+n=32*(m+1) by omega,Nat.pow_mul] at this;exact this
 have Ξ:4294967296 ^ m*2147483648≤B*2 ^ n:=by have:2 ^ (cW B-1)*2 ^ n≤B*2 ^ n:=aUM _ U;rw[← Nat.pow_add,show cW B-1+n=32*m+31 by omega,Nat.pow_add,Nat.pow_mul] at this;exact this
 have nV:nl (B*2 ^ n)=m+1:=by
  have I:=(jU (B*2 ^ n) (m+1)).2 Y;rcases aUE (nl (B*2 ^ n)) (m+1) with h | h
  ·have:=(jU (B*2 ^ n) m).1 Om;have Δ:0<4294967296 ^ m:=aWJ (by decide);omega
  ·omega
 have a':B*2 ^ n≠0:=Nat.mul_ne_zero hB Om;have g':nl (A*2 ^ n)≤nl A+1:=mO (aTO _) (oX (by rw[Nat.pow_one]; exact Nat.pow_lt_pow_right (a:=2) (m:=n) (n:=32) (by decide) δ));have χ:B*2 ^ n≤A*2 ^ n:=aUM _ Om;have h':m+1≤nl (A*2 ^ n):=by rw[← nV]; exact gT χ
 have Ω:A*2 ^ n≠0:=Om;have μ:IntKind.i64.wrap (32*((nl B:Nat):Int))=((32*(m+1):Nat):Int):=by rw[wrap_i64 Om Om]; omega
 have en:IntKind.i64.wrap (((32*(m+1):Nat):Int)-((cW B:Nat):Int))=(n:Int):=by rw[wrap_i64 Om Om]; omega
 have bt:=L.bits (aJ B) LB Om;rw[vB] at bt;have ua:=L.upM (aJ A) n R Om Om (fun h=>by have:=fP R; rw[h] at this; omega);have ub:=(L.upM (aJ B) n LB Om Om (fun h=>by have:=fP LB; rw[h] at this; omega)).freeze;rw[vA] at ua;rw[vB] at ub;have tail:∀ (o:Nat) (F:PF) (H:PH),F 0=some (aK (aJ A))→F 1=some (aK (aJ B))→F 10=some (.int .i64 n)→F 11=some (.osl o 1 0 (nl (A*2 ^ n)+2))→F 12=some (aK (aJ (B*2 ^ n)))→H o=some (.rows 1 (aL (aJ (A*2 ^ n))++[[.int .u32 0],[.int .u32 0]])) →
   aC.wp C (.seq (.region EZ) (.seq (.region FA) (.seq (.region FB) (.seq (.seq (.region FC) (.block 2 (.loop wU))) (.seq (.region FJ) .ret))))) (aR [.tmp 4,.tmp 5] (cB (rJ A B))) F H:=by
  intro o F H f0 f1 ν f11 ξ hH;have LU:=aU (A*2 ^ n);have LV:=aU (B*2 ^ n);have vU:=aS (A*2 ^ n);have vV:=aS (B*2 ^ n);have lU:(aJ (A*2 ^ n)).length=nl (A*2 ^ n):=rfl;have lV:(aJ (B*2 ^ n)).length=m+1:=nV;have eu:IntKind.i64.wrap (((nl (A*2 ^ n):Nat):Int)+1)=((nl (A*2 ^ n)+1:Nat):Int):=dM Om;have b1:((nl (A*2 ^ n)+1:Nat):Int)≤((nl (A*2 ^ n)+2:Nat):Int):=Om;simp only[go_sem,EZ,f11,f0,ν];refine aA ua.freeze rfl ?_;obtain⟨e,c'⟩:∃ e,nl (A*2 ^ n)+1-(m+1)=e:=⟨_,rfl⟩;have Γ:nl (A*2 ^ n)+1=e+(m+1):=Om;have em:IntKind.i64.wrap (((m+1:Nat):Int)-1)=((m:Nat):Int):=by rw[wrap_i64 Om Om]; omega
  have u:m<(aJ (B*2 ^ n)).length:=Om;have rm:=bT (aJ (B*2 ^ n)) u;have tl:=LV _ (aTN u);have htop:0<(aJ (B*2 ^ n))[m]:=by
   have I:=cM (aJ (B*2 ^ n)) u;rw[aUB Om,vV] at I;have h2:=fP (LV.take m);rw[aUA,aVT Om] at h2;have Δ:0<4294967296 ^ m:=aWJ (by decide);rcases aVP (aJ (B*2 ^ n))[m] with h | h
   ·rw[h] at I; omega
   ·exact h
  have κ:2147483648≤(aJ (B*2 ^ n))[m]:=by
   have I:=cM (aJ (B*2 ^ n)) u;rw[aUB Om,vV] at I;have h2:=fP (LV.take m);rw[aUA,aVT Om] at h2;rcases aUE (aJ (B*2 ^ n))[m] 2147483648 with h | h
   ·exfalso;have h3:4294967296 ^ m*((aJ (B*2 ^ n))[m]+1)≤4294967296 ^ m*2147483648:=aWC _ h;rw[aTX,Nat.mul_one] at h3;omega
   ·exact h
  have y:=arC (C:=C) L (A*2 ^ n) n o (nl (A*2 ^ n)+1) e;have hI:pT (A*2 ^ n) (val (aJ (B*2 ^ n))) (m+1) (nl (A*2 ^ n)+1) e e (aJ (A*2 ^ n)++[0]) (aTK e 0):=by
   refine⟨by rw[aTM,lU]; rfl,aXI,LU.app fun x O=>by simp at O; omega,xG _,?_,?_,fun i x _ O=>Tb O⟩
   ·rw[gZ,vU,tH]; simp[val]
   ·have Φ:(aJ (A*2 ^ n)++[0]).length=nl (A*2 ^ n)+1:=by rw[aTM,lU]; rfl
    have Λ:val (aJ (A*2 ^ n)++[0])=A*2 ^ n:=by rw[gZ,vU]; simp[val]
    rw[wD (LU.app fun x O=>by simp at O; omega) Om,Λ,vV,aWS (aWJ (by decide))];have I:A*2 ^ n<4294967296 ^ nl (A*2 ^ n):=(jU _ _).1 (aTO _);have O:nl (A*2 ^ n)=m+e:=Om;rw[O,Nat.pow_add] at I;have h2:4294967296 ^ m*4294967296 ^ e≤(B*2 ^ n)*4294967296 ^ e:=aUM _ Om;omega
  have M:aL (aJ (A*2 ^ n))++[[PV.int .u32 0],[PV.int .u32 0]]=eP (aJ (A*2 ^ n)++[0]) (aL [0]):=by simp[eP,aL]
  rw[M] at hH;generalize θ:(aJ (B*2 ^ n))[m]=ι at *
  have et:IntKind.u64.wrap ((ι:Nat):Int)=((ι:Nat):Int):=bD Om;have k2:IntKind.i64.wrap (((nl (A*2 ^ n)+1:Nat):Int)-((m+1:Nat):Int))=((e:Nat):Int):=by rw[wrap_i64 Om Om]; omega
  have k3:((e:Nat):Int)*((4:Nat):Int)≤140737488355328:=Om;have k4:((e:Nat):Int)≤9223372036854775807:=Om;have hz:aTK e [PV.int .u32 0]=aL (aTK e 0):=by simp[aL]
  have jq:IntKind.i64.wrap ((e:Int)-1)=(e:Int)-1:=wrap_i64 Om Om;simp only[go_sem,aTJ,lU,eu,b1,FA,ξ,lV,em,rm,et,FB,k2,k3,k4,hz];refine aO fun E η=>?_;have ε:E≠o:=by rintro rfl; rw[hH] at η; cases η
  have l:¬ o=E:=fun h=>ε h.symm;have w:=y E m (aJ (B*2 ^ n)) [0] ε LV lV (by rw[θ]; exact htop) Γ Om _ hI;rw[θ] at w;simp only[go_sem] at w;simp only[go_sem,FC,jq];refine w _ _ _ ?_ ?_ ?_
  ·unfold duF;exact Lq
  ·refine e_ (e_ a_ ?_) ?_
   ·simp only[go_sem,l,hH]
   ·simp only[go_sem]
  clear w y;intro X Q F1 H1 j J W;have ο:F1 10=some (.int .i64 n):=J 10 _ (by unfold duF; simp only[go_sem]);have ρ:F1 11=some (.osl o 1 0 (nl (A*2 ^ n)+1)):=J 11 _ (by unfold duF; simp only[go_sem]);have σ:F1 14=some (.osl E 1 0 e):=J 14 _ (by unfold duF; simp only[go_sem]);have ζ:H1 o=some (.rows 1 (eP X (aL [0]))):=W o _ (by simp only[go_sem,l]);have Θ:H1 E=some (.rows 1 (aL Q)):=W E _ Sq;have hu:val X<val (aJ (B*2 ^ n)):=by have:=j.r; rwa [aUV] at this
  have N:=j.v;rw[vV] at hu N;have φ:val Q=A/B:=by
   have:A*2 ^ n/(B*2 ^ n)=val Q:=by rw[← N,Nat.add_mul_div_right _ _ Om,aWQ hu,aUF]
   rw[← this,Nat.mul_div_mul_right _ _ K]
  have ψ:val X/2 ^ n=A%B:=by
   have:A*2 ^ n%(B*2 ^ n)=val X:=by rw[← N,Nat.add_mul_mod_self_right,aUZ hu]
   rw[← this,Nat.mul_mod_mul_right,Nat.mul_div_cancel _ K]
  have lX:=j.lu';have lQ:=j.lq';have υ:(aL Q).take e=aL Q:=aUB (by rw[cF]; omega);have α:(eP X (aL [0])).take (nl (A*2 ^ n)+1)=aL X:=by rw[eP,List.take_append_of_le_length (by rw[cF]; omega),aUB (by rw[cF]; omega)]
  have Z:nl (A*2 ^ n)+1≤(eP X (aL [0])).length:=by rw[eP,aTM,cF]; omega
  have γ:(eP X (aL [0])).map (fun r=>r.map (PV.cH E 1 (aL Q)))=eP X (aL [0]):=by
   have:eP X (aL [0])=aL (X++[0]):=by simp[eP,aL]
   rw[this]; exact sX _ _ _ _
  have nX:=fZ j.limU;have t1:=L.trim Q j.limQ Om;have t2:=L.trim X j.limU Om;have dn:=L.down (aJ (val X)) n (aU _) (by rw[aY]; omega) Om;rw[aS,ψ] at dn;rw[φ] at t1;generalize aL [0]=Z0 at ζ α Z γ;simp only[go_sem,FJ,σ];refine rR (o:=E) (s:=1) (rs:=aL Q) t1 Θ (by simp only[go_sem,υ,show e≤Q.length by omega]) ?_;simp only[go_sem,ρ,l];refine rR (o:=o) (s:=1) (rs:=eP X Z0) t2 (by simp only[go_sem,l,ζ,bO.frz,γ]) (by simp only[go_sem,α,Z]) ?_;simp only[go_sem,ο];refine aA dn rfl ?_;simp only[go_sem];exact aV (vs:=[aK (aJ (A/B)),aK (aJ (A%B))]) (.inr rfl) .nil rfl a_ ⟨.refl _,rfl⟩
 simp only[aC.wp,go_sem] at tail;simp only[go_sem,bE (Om:¬ ((nl B:Nat):Int)=1),XD,aTJ,lB];refine aA bt rfl ?_;simp only[go_sem,μ,en,XE];refine eO ua rfl a_ fun r H1 hr _=>?_;have β:(2:Nat)*1≤16777216:=by decide
 rcases hr with ⟨h0,_⟩ | ⟨o,rs,rfl,rfl,hrl,hrt⟩
 ·exfalso;have:=congrArg List.length h0;rw[cF,aY] at this;simp at this;omega
 rw[PH.qG];rw[cF,aY] at hrl hrt;simp only[go_sem,β,cF,aY];refine S5 (src:=[[.int .u32 0],[.int .u32 0]]) (rs:=rs) rfl ?_ Sq hrl ?_ fun o' f'=>?_
 ·unfold roomFor;simp only[maxLen,aVA,aVR]; omega
 ·rw[hrt];simp only[go_sem];refine aA ub rfl ?_;simp only[go_sem];exact tail o _ _ rfl rfl rfl rfl rfl Sq
 ·rw[hrt];simp only[go_sem];refine aA ub rfl ?_;simp only[go_sem];exact tail o' _ _ rfl rfl rfl rfl rfl Sq
def bG (C:Ctx) (k:Nat) (e:aW):Prop:=∀ (args:List PV) (H:PH) (R:PV→PH→Prop),args.length≤e.ntmps→e.body.wp C (aR e.res R) (PF.args args) H→aG C k args H R
theorem bG.go {C:Ctx} {k:Nat} {e:aW} (r:bG C k e) {args:List PV} {H:PH} {R:PV→PH→Prop} (h:e.body.wp C (aR e.res R) (PF.args args) H) (j:Nat.ble args.length e.ntmps=true):aG C k args H R:=r args H R (Nat.le_of_ble_eq_true j) h
abbrev AJ (C:Ctx):Prop:=∀ n:Nat,n<100→aG C 195 [.int .i64 n] .nil (aI (.str (cC n)))
section
variable {C:Ctx} {F F':PF} {H:PH}
theorem cY (e:F.le F') {x:aN} {v:PV} (h:x.ev F=some v):x.ev F'=some v:=by
 cases x
 ·exact e _ _ h
 all_goals exact h
theorem GL (e:F.le F'):∀ {xs:List aN} {vs:List PV},aN.evs F xs=some vs→aN.evs F' xs=some vs
 | [],_,h=>h
 | x::xs,vs,h=>by
  rw[AR] at h ⊢;cases l:x.ev F with
  | none=>simp[l] at h
  | some v =>
   cases j:aN.evs F xs with
   | none=>simp[j] at h
   | some ws =>rw[l,j] at h;rw[cY e l,GL e j];exact h
theorem F8 (e:F.le F'):∀ {ps:List (Nat × Nat × aN)} {cs ds:List PV},qP cs F ps=some ds→qP cs F' ps=some ds
 | [],_,_,h=>h
 | (u,size,x)::ps,cs,ds,h=>by
  simp only[qP] at h ⊢;cases j:x.ev F with
  | none=>simp[j] at h
  | some v =>
   rw[j] at h;rw[cY e j];simp only at h ⊢;split at h
   ·rename_i l; rw[if_pos l]; exact F8 e h
   ·cases h
theorem DO (e:F.le F') {size:Nat}:∀ {ps:List (Nat × aN)} {cs ds:List (List PV)},jA size cs F ps=some ds→jA size cs F' ps=some ds
 | [],_,_,h=>h
 | (i,x)::ps,cs,ds,h=>by
  simp only[jA] at h ⊢;cases j:x.ev F with
  | none=>simp[j] at h
  | some v =>
   rw[j] at h;rw[cY e j];simp only at h ⊢;split at h
   ·rename_i l; rw[if_pos l]; exact DO e h
   ·cases h
theorem OY (e:F.le F') {d n:Int} {x:Option aN} (h:bnd F d x=some n):bnd F' d x=some n:=by
 cases x with
 | none=>exact h
 | some x =>
  simp only[bnd] at h ⊢;cases j:x.ev F with
  | none=>simp[j] at h
  | some v=>rw[cY e j,← j]; exact h
theorem Oo {op:POp} {v:PV} (j:F.le F') (h:aP op F H=some v):aP op F' H=some v:=by
 cases op
 case mv x=>exact cY j h
 case pick c a b =>
  simp only[aP] at h ⊢;cases I:c.ev F with
  | none=>simp[I] at h
  | some t =>
   rw[I] at h;rw[cY j I];cases t<;>simp only at h ⊢<;>try cases h
   rename_i t;cases t
   ·simp only[aWM,if_false] at h ⊢; exact cY j h
   ·simp only[if_true] at h ⊢; exact cY j h
 case same x =>
  simp only[aP] at h ⊢;cases e:x.ev F with
  | none=>simp[e] at h
  | some a=>rw[cY j e,← e]; exact h
 case un o x =>
  simp only[aP] at h ⊢;cases e:x.ev F with
  | none=>simp[e] at h
  | some a=>rw[cY j e,← e]; exact h
 case conv k x =>
  simp only[aP] at h ⊢;cases e:x.ev F with
  | none=>simp[e] at h
  | some a=>rw[cY j e,← e]; exact h
 case aSI x =>
  simp only[aP] at h ⊢;cases e:x.ev F with
  | none=>simp[e] at h
  | some a=>rw[cY j e,← e]; exact h
 case aSZ o x =>
  simp only[aP] at h ⊢;cases e:x.ev F with
  | none=>simp[e] at h
  | some a=>rw[cY j e,← e]; exact h
 case field o n x =>
  simp only[aP] at h ⊢;cases e:x.ev F with
  | none=>simp[e] at h
  | some a=>rw[cY j e,← e]; exact h
 case aSW x =>
  simp only[aP] at h ⊢;cases e:x.ev F with
  | none=>simp[e] at h
  | some a=>rw[cY j e,← e]; exact h
 case isNil n x =>
  simp only[aP] at h ⊢;cases e:x.ev F with
  | none=>simp[e] at h
  | some a=>rw[cY j e,← e]; exact h
 case lenM x =>
  simp only[aP] at h ⊢;cases e:x.ev F with
  | none=>simp[e] at h
  | some a=>rw[cY j e,← e]; exact h
 case aTH x =>
  simp only[aP] at h ⊢;cases e:x.ev F with
  | none=>simp[e] at h
  | some a=>rw[cY j e,← e]; exact h
 case extract x i =>
  simp only[aP] at h ⊢;cases e:x.ev F with
  | none=>simp[e] at h
  | some a=>rw[cY j e,← e]; exact h
 case aSJ x =>
  simp only[aP] at h ⊢;cases e:x.ev F with
  | none=>simp[e] at h
  | some a=>rw[cY j e,← e]; exact h
 case len x =>
  simp only[aP] at h ⊢;cases e:x.ev F with
  | none=>simp[e] at h
  | some a=>rw[cY j e,← e]; exact h
 case box r x =>
  cases r
  ·cases h
  simp only[aP] at h ⊢;cases e:x.ev F with
  | none=>simp[e] at h
  | some a=>rw[cY j e,← e]; exact h
 case load n p =>
  cases n
  all_goals
   simp only[aP] at h ⊢;cases e:p.ev F with
   | none=>simp[e] at h
   | some a=>rw[cY j e,← e]; exact h
 case bin o x y =>
  simp only[aP] at h ⊢;cases e:x.ev F with
  | none=>simp[e] at h
  | some a =>
   cases A:y.ev F with
   | none=>simp[e,A] at h
   | some b=>rw[cY j e,cY j A,← e,← A]; exact h
 case eqb n x y =>
  simp only[aP] at h ⊢;cases e:x.ev F with
  | none=>simp[e] at h
  | some a =>
   cases A:y.ev F with
   | none=>simp[e,A] at h
   | some b=>rw[cY j e,cY j A,← e,← A]; exact h
 case eqs n k x y =>
  simp only[aP] at h ⊢;cases e:x.ev F with
  | none=>simp[e] at h
  | some a =>
   cases A:y.ev F with
   | none=>simp[e,A] at h
   | some b=>rw[cY j e,cY j A,← e,← A]; exact h
 case aSM s x i =>
  simp only[aP] at h ⊢;cases e:x.ev F with
  | none=>simp[e] at h
  | some a =>
   cases A:i.ev F with
   | none=>simp[e,A] at h
   | some b=>rw[cY j e,cY j A,← e,← A]; exact h
 case idxA n s x i =>
  simp only[aP] at h ⊢;cases e:x.ev F with
  | none=>simp[e] at h
  | some a =>
   cases A:i.ev F with
   | none=>simp[e,A] at h
   | some b=>rw[cY j e,cY j A,← e,← A]; exact h
 case idxV n s g x i =>
  simp only[aP] at h ⊢;cases e:x.ev F with
  | none=>simp[e] at h
  | some a =>
   cases A:i.ev F with
   | none=>simp[e,A] at h
   | some b=>rw[cY j e,cY j A,← e,← A]; exact h
 case aSX x i =>
  simp only[aP] at h ⊢;cases e:x.ev F with
  | none=>simp[e] at h
  | some a =>
   cases A:i.ev F with
   | none=>simp[e,A] at h
   | some b=>rw[cY j e,cY j A,← e,← A]; exact h
 case aSQ m x y =>
  simp only[aP] at h ⊢;cases e:x.ev F with
  | none=>simp[e] at h
  | some a =>
   cases A:y.ev F with
   | none=>simp[e,A] at h
   | some b=>rw[cY j e,cY j A,← e,← A]; exact h
 case lookup sh z x k ok =>
  simp only[aP] at h ⊢;cases e:x.ev F with
  | none=>simp[e] at h
  | some a =>
   cases A:k.ev F with
   | none=>simp[e,A] at h
   | some b=>rw[cY j e,cY j A,← e,← A]; exact h
 case build z ps =>simp only[aP,aTU] at h ⊢;obtain⟨cs,B,E⟩:=h;exact⟨cs,F8 j B,E⟩
 case aSA r s l z ps =>
  cases r
  ·cases h
  simp only[aP] at h ⊢;split at h
  ·rename_i I;rw[if_pos I];rw[aTU] at h ⊢;obtain⟨cs,B,E⟩:=h;exact⟨cs,DO j B,E⟩
  ·cases h
 case mkfn n cs =>simp only[aP,aTU] at h ⊢;obtain⟨vs,B,E⟩:=h;exact⟨vs,GL j B,E⟩
 case sliceA n s x lo hi mx =>
  cases lo<;>cases hi<;>cases mx<;>simp only[aP] at h ⊢<;>try cases h
  cases e:x.ev F with
  | none=>simp[e] at h
  | some a=>rw[cY j e,← e]; exact h
 case aSS x lo hi =>
  simp only[aP] at h ⊢;cases e:x.ev F with
  | none=>simp[e] at h
  | some a =>
   rw[e] at h;rw[cY j e];cases a<;>simp only at h ⊢<;>try cases h
   cases B:bnd F 0 lo with
   | none=>simp[B] at h
   | some l =>
    rename_i s;cases E:bnd F s.length hi with
    | none=>simp[B,E] at h
    | some u=>rw[OY j B,OY j E,← B,← E]; exact h
 case slice s x lo hi mx =>
  simp only[aP] at h ⊢;cases e:x.ev F with
  | none=>simp[e] at h
  | some a =>
   rw[e] at h;rw[cY j e];have K:∀ (d:Int) (w:PV),(match bnd F 0 lo,bnd F d hi with
     | some a1,some a2=>match (generalizing:=false) mx with
      | none=>PV.slice s w a1 a2 none
      | some m=>(bnd F 0 (some m)).bind fun m=>PV.slice s w a1 a2 (some m)
     | _,_=>none)=some v→(match bnd F' 0 lo,bnd F' d hi with
     | some a1,some a2=>match (generalizing:=false) mx with
      | none=>PV.slice s w a1 a2 none
      | some m=>(bnd F' 0 (some m)).bind fun m=>PV.slice s w a1 a2 (some m)
     | _,_=>none)=some v:=by
    intro d w h;cases B:bnd F 0 lo with
    | none=>simp[B] at h
    | some l =>
     cases E:bnd F d hi with
     | none=>simp[B,E] at h
     | some u =>
      rw[B,E] at h;rw[OY j B,OY j E];cases mx with
      | none=>exact h
      | some m =>
       simp only at h ⊢;cases J:bnd F 0 (some m) with
       | none=>simp[J] at h
       | some q=>rw[OY j J,← J]; exact h
   cases a<;>simp only at h ⊢<;>first | exact K _ _ h | cases h
 all_goals exact h
theorem E5 {op:POp} {r:(Nat→PV) × bO} (e:F.le F') (h:dL op F=some r):dL op F'=some r:=by
 cases op
 case box b x =>
  cases b
  ·simp only[dL] at h ⊢;cases j:x.ev F with
   | none=>simp[j] at h
   | some a=>rw[cY e j,← j]; exact h
  ·cases h
 case aSA b s l z ps =>
  cases b
  ·simp only[dL] at h ⊢;split at h
   ·rename_i A;rw[if_pos A];rw[aTU] at h ⊢;obtain⟨cs,w,y⟩:=h;exact⟨cs,DO e w,y⟩
   ·cases h
  ·cases h
 case aSD s b z l c =>
  simp only[dL] at h ⊢;cases j:l.ev F with
  | none=>simp[j] at h
  | some a =>
   cases u:c.ev F with
   | none=>simp[j,u] at h
   | some b=>rw[cY e j,cY e u,← j,← u]; exact h
 all_goals exact h
theorem S9 {op:POp} {K:PV→PH→Prop} (e:F.le F') (h:cG op F H K):cG op F' H K:=by
 cases op
 case store n x y =>
  simp only[cG] at h ⊢;cases j:x.ev F with
  | none=>simp[j] at h
  | some a =>
   cases l:y.ev F with
   | none=>simp[j,l] at h
   | some b=>rw[cY e j,cY e l]; rw[j,l] at h; exact h
 case append s b x y =>
  simp only[cG] at h ⊢;cases j:x.ev F with
  | none=>simp[j] at h
  | some a =>
   cases l:y.ev F with
   | none=>simp[j,l] at h
   | some b=>rw[cY e j,cY e l]; rw[j,l] at h; exact h
 case aSN sh x y z =>
  simp only[cG] at h ⊢;cases j:x.ev F with
  | none=>simp[j] at h
  | some a =>
   cases l:y.ev F with
   | none=>simp[j,l] at h
   | some b =>
    cases u:z.ev F with
    | none=>simp[j,l,u] at h
    | some c=>rw[cY e j,cY e l,cY e u]; rw[j,l,u] at h; exact h
 case insert sh x y z =>
  simp only[cG] at h ⊢;cases j:x.ev F with
  | none=>simp[j] at h
  | some a =>
   cases l:y.ev F with
   | none=>simp[j,l] at h
   | some b =>
    cases u:z.ev F with
    | none=>simp[j,l,u] at h
    | some c=>rw[cY e j,cY e l,cY e u]; rw[j,l,u] at h; exact h
 all_goals exact h
theorem PF.aJX (l:F.le F') (i:Nat) (v:PV):(F.set i v).le (F'.set i v):=by
 intro j u h;rw[mQ] at h ⊢;split at h
 ·rename_i e; rw[if_pos e]; exact h
 ·rename_i e; rw[if_neg e]; exact l j u h
theorem PF.uL (e:F.le F') (d:Option Nat) (v:PV):(F.put d v).le (F'.put d v):=by
 cases d with
 | none=>exact e
 | some d=>exact PF.aJX e d v
theorem PF.aJA (e:F.le F') (o s:Nat) (rs:List (List PV)):(F.frz o s rs).le (F'.frz o s rs):=by
 intro j u h;rw[oF,aTU] at h ⊢;obtain⟨x,l,w⟩:=h;exact⟨x,e j x l,w⟩
theorem PF.le_trans {A B D:PF} (h:A.le B) (k:B.le D):A.le D:=fun i v hi=>k i v (h i v hi)
theorem jE.up {l:PF} {u:PH} (h:jE F H l u):∀ {F':PF},F.le F'→∃ e,jE F' H e u∧l.le e:=by
 induction h with
 | refl F H=>exact fun {F'} j=>⟨F',.refl _ _,j⟩
 | step o y _ A =>intro F' j;obtain⟨e,w,x⟩:=A (PF.aJA j o _ _);exact⟨e,.step o y w,x⟩
theorem gz {name:Nat} {args:Option (List PV)} {d:Option Nat} {K1 K2:PF→PH→Prop} (A:∀ F F' H,F.le F'→K1 F H→K2 F' H) (j:F.le F') {e:Option (List PV)} (B:∀ vs,args=some vs→e=some vs) (h:tK C name args d K1 F H):tK C name e d K2 F' H:=by
 obtain⟨vs,l,R,u,w,x,y⟩:=h;exact⟨vs,l,R,B _ u,w,x,fun r H' a b=>A _ _ _ (PF.uL j d r) (y r H' a b)⟩
theorem Ld {cs:List PV} {args:List aN} (e:F.le F') (vs:List PV) (h:(aN.evs F args).map (·++cs)=some vs):(aN.evs F' args).map (·++cs)=some vs:=by
 rw[aTU] at h ⊢;obtain⟨x,j,l⟩:=h;exact⟨x,GL e j,l⟩
theorem Ve {name:Nat} {args:List aN} {cs:List PV} {d:Option Nat} {K1 K2:PF→PH→Prop} (l:∀ F F' H,F.le F'→K1 F H→K2 F' H) (e:F.le F') (h:hC C name args cs d K1 F H):hC C name args cs d K2 F' H:=by
 rcases h with h | ⟨F1,H1,h1,h2⟩
 ·exact .inl (gz l e (Ld e) h)
 ·obtain⟨j,k1,k2⟩:=h1.up e;exact .inr ⟨j,H1,k1,gz l k2 (Ld k2) h2⟩
theorem RC {op:POp} {d:Option Nat} {K1 K2:PF→PH→Prop} (u:∀ F F' H,F.le F'→K1 F H→K2 F' H) (e:F.le F') (h:nG (dL op F) d K1 F H):nG (dL op F') d K2 F' H:=by
 obtain⟨y,x,j,l⟩:=h;exact⟨y,x,E5 e j,fun o w=>u _ _ _ (PF.uL e d _) (l o w)⟩
theorem ru {op:POp} {d:Option Nat} {K1 K2:PF→PH→Prop} (u:∀ F F' H,F.le F'→K1 F H→K2 F' H) (e:F.le F') (h:bW (aP op F H) d K1 F H):bW (aP op F' H) d K2 F' H:=by
 obtain⟨v,j,l⟩:=h;exact⟨v,Oo e j,u _ _ _ (PF.uL e d v) l⟩
theorem Eh {op:POp} {d:Option Nat} {K1 K2:PF→PH→Prop} (j:∀ F F' H,F.le F'→K1 F H→K2 F' H) (e:F.le F') (h:cG op F H fun r H'=>K1 (F.put d r) H'):cG op F' H fun r H'=>K2 (F'.put d r) H' :=
 S9 e (BW (fun v H' l=>j _ _ _ (PF.uL e d v) l) h)
theorem aBR {op:POp} {d:Option Nat} {K1 K2:PF→PH→Prop} (j:∀ F F' H,F.le F'→K1 F H→K2 F' H) (e:F.le F') (h:wpOp C op d K1 F H):wpOp C op d K2 F' H:=by
 cases op
 case call n a=>exact Ve j e h
 case aSY x a =>
  have w:wG C (x.ev F) a d K1 F H:=h;show wG C (x.ev F') a d K2 F' H;cases K:x.ev F with
  | none=>rw[K] at w; exact w.elim
  | some u =>
   rw[cY e K];rw[K] at w;cases u<;>first | exact Ve j e w | exact w.elim | skip
   obtain⟨l,N,A⟩:=w;refine⟨l,N,?_⟩;rcases A with ⟨vs,E,R,A,I,J,h5⟩ | ⟨F1,H1,k1,vs,E,R,A,I,J,h5⟩
   ·exact .inl ⟨vs,E,R,GL e A,I,J,fun r H' p q=>j _ _ _ (PF.uL e d r) (h5 r H' p q)⟩
   ·obtain⟨B,k2,M⟩:=k1.up e;exact .inr ⟨B,H1,k2,vs,E,R,GL M A,I,J,fun r H' p q=>j _ _ _ (PF.uL M d r) (h5 r H' p q)⟩
 case box r x=>cases r<;>first | exact RC (op:=.box false x) j e h | exact ru (op:=.box true x) j e h
 case aSA r s l z ps=>cases r<;>first | exact RC (op:=.aSA false s l z ps) j e h | exact ru (op:=.aSA true s l z ps) j e h
 case alloc cs=>exact RC (op:=.alloc cs) j e h
 case aSD s b z l c=>exact RC (op:=.aSD s b z l c) j e h
 case aTD sh=>exact RC (op:=.aTD sh) j e h
 case store n x y=>exact Eh (op:=.store n x y) j e h
 case append s b x y=>exact Eh (op:=.append s b x y) j e h
 case aSN sh x y z=>exact Eh (op:=.aSN sh x y z) j e h
 case insert sh x y z=>exact Eh (op:=.insert sh x y z) j e h
 all_goals exact ru j e h
theorem RY {K1 K2:PF→PH→Prop} (l:∀ F F' H,F.le F'→K1 F H→K2 F' H):∀ {ops:List aZ} {F F':PF} {H:PH},F.le F'→wpOps C ops K1 F H→wpOps C ops K2 F' H
 | [],_,_,_,j,h=>l _ _ _ j h
 | ⟨d,op,none⟩::u,_,_,_,j,h=>aBR (fun _ _ _ a b=>RY l a b) j h
 | ⟨d,op,some (t,w)⟩::u,F,F',H,j,h=>by
  rw[U1] at h ⊢;unfold xE at h;split at h
  ·rename_i b hb;rw[j t _ hb];unfold xE;simp only;split at h
   ·rename_i e; rw[if_pos e]; exact aBR (fun _ _ _ a b=>RY l a b) j h
   ·rename_i e; rw[if_neg e]; exact RY l (PF.uL j d _) h
  ·rename_i hb;rw[j t _ hb];exact RY l (PF.uL j d _) h
  ·exact h.elim
theorem Of {Hs:PH} {S:Spec} {st:Bool} {op:POp} {K:PV→PH→Prop} (e:F.le F') (h:(op.kind F).run C Hs S st K H):(op.kind F').run C Hs S st K H:=by
 have new:∀ op:POp,(Kind.new (dL op F)).run C Hs S st K H→(Kind.new (dL op F')).run C Hs S st K H:=fun op h=>by obtain⟨N,x,j,w⟩:=h;exact⟨N,x,E5 e j,w⟩
 have calm:∀ op:POp,(Kind.calm (aP op F)).run C Hs S st K H→(Kind.calm (aP op F')).run C Hs S st K H:=fun op h=>by obtain⟨v,j,w⟩:=h;exact⟨v,Oo e j,w⟩
 have M:∀ op:POp,(Kind.write fun H K=>cG op F H K).run C Hs S st K H→(Kind.write fun H K=>cG op F' H K).run C Hs S st K H:=fun op h=>S9 (op:=op) e (show cG op F H (fun r H'=>Hs.le H'∧K r H') from h);cases op
 case call n a =>obtain⟨vs,D,R,j,w⟩:=h;exact⟨vs,D,R,GL e j,w⟩
 case aSY x a =>
  unfold POp.kind at h ⊢;simp only at h ⊢;cases A:x.ev F with
  | none=>rw[A] at h; exact h.elim
  | some u =>
   rw[A] at h;rw[cY e A];cases u<;>simp only at h ⊢<;>first | exact h | skip
   obtain⟨vs,D,R,j,w⟩:=h;exact⟨vs,D,R,Ld e _ j,w⟩
 case insert sh x k v =>
  obtain⟨o,J,I,u,g,j,w⟩:=h;refine⟨o,J,I,u,g,?_,w⟩;cases A:x.ev F with
  | none=>simp[A] at j
  | some a =>
   cases B:k.ev F with
   | none=>simp[A,B] at j
   | some b =>
    cases E:v.ev F with
    | none=>simp[A,B,E] at j
    | some c=>rw[cY e A,cY e B,cY e E]; rw[A,B,E] at j; exact j
 case box r x=>cases r<;>first | exact new (.box false x) h | exact calm (.box true x) h
 case aSA r s l z ps=>cases r<;>first | exact new (.aSA false s l z ps) h | exact calm (.aSA true s l z ps) h
 case alloc cs=>exact new (.alloc cs) h
 case aSD s b z l c=>exact new (.aSD s b z l c) h
 case aTD sh=>exact new (.aTD sh) h
 case store n x y=>exact M (.store n x y) h
 case append s b x y=>exact M (.append s b x y) h
 case aSN sh x y z=>exact M (.aSN sh x y z) h
 all_goals exact calm _ h
theorem avM {Hs:PH} {S:Spec} {st:Bool} {i:aZ} {K:PV→PH→Prop} (j:F.le F') (h:(i.kind F).run C Hs S st K H):(i.kind F').run C Hs S st K H:=by
 unfold aZ.kind at h ⊢;split
 ·rename_i l;rw[l] at h;exact Of j h
 ·rename_i t u l;rw[l] at h;simp only at h;split at h
  ·rename_i b hb;rw[j t _ hb];simp only;split at h
   ·rename_i e; rw[if_pos e]; exact Of j h
   ·rename_i e; rw[if_neg e]; exact h
  ·rename_i hb;rw[j t _ hb];exact h
  ·exact h.elim
theorem asG {Hs:PH} {S:Spec} {K1 K2:PF→PH→Prop} (u:∀ F F' H,F.le F'→K1 F H→K2 F' H):∀ {ops:List (aZ × Bool)} {F F':PF} {H:PH},Hs.le H→F.le F'→wpD C Hs S ops K1 F H→wpD C Hs S ops K2 F' H
 | [],_,_,_,_,e,h=>u _ _ _ e h
 | i::j,F,F',H,y,e,h=>by have w:(i.1.kind F).run C Hs S i.2 (fun v H'=>wpD C Hs S j K1 (F.put i.1.dst v) H') H:=h;exact avM e (Kind.sN (sJ _ _) (fun v H' l x=>asG u l (PF.uL e _ v) x) y w)
class Up (K:cE):Prop where
 up:∀ {e:kT} {F F':PF} {H:PH},F.le F'→K e F H→K e F' H
theorem sA:∀ (c:aC) {K1 K2:cE} (_:∀ e F F' H,F.le F'→K1 e F H→K2 e F' H) {F F':PF} {H:PH},F.le F'→c.wp C K1 F H→c.wp C K2 F' H
 | .skip,_,_,u,_,_,_,l,h=>u _ _ _ _ l h
 | .region ops,_,_,u,_,_,_,l,h=>RY (u .normal) l h
 | .draw ops,_,_,u,_,_,_,l,⟨Hs,S,y,J⟩=>⟨Hs,S,y,asG (u .normal) y l J⟩
 | .seq a b,K1,K2,u,_,_,_,l,h=>sA a (K1:=jV C (b.wp C) K1) (K2:=jV C (b.wp C) K2) (fun e F F' H x w=>by
   cases e with
   | normal=>exact sA b u x w
   | exit id=>exact u (.exit id) _ _ _ x w
   | ret=>exact u .ret _ _ _ x w) l h
 | .cond c a b,K1,K2,u,F,F',H,l,h=>by
  rw[aAU] at h ⊢;unfold UA at h;split at h
  ·rename_i t U;rw[cY l U];unfold UA;simp only;split at h
   ·rename_i e; rw[if_pos e]; exact sA a u l h
   ·rename_i e; rw[if_neg e]; exact sA b u l h
  ·exact h.elim
 | .block id c,K1,K2,u,_,_,_,l,h=>sA c (K1:=fA id K1) (K2:=fA id K2) (fun e F F' H x w=>by
   cases e with
   | normal=>exact u .normal _ _ _ x w
   | exit j =>
    rw[DL] at w ⊢;split at w
    ·rename_i e; rw[if_pos e]; exact u .normal _ _ _ x w
    ·rename_i e; rw[if_neg e]; exact u (.exit j) _ _ _ x w
   | ret=>exact u .ret _ _ _ x w) l h
 | .loop c,K1,K2,u,F,F',H,l,⟨α,E,Hs,I,m,M,F1,K,y,J,N,O,h5⟩=>by
  obtain⟨A,k1,k2⟩:=y.up l;refine⟨α,E,Hs,I,m,M,A,K,k1,J,PF.le_trans N k2,O,fun a R=>?_⟩;refine sA c (K1:=fN E Hs I m (m a) K1) (K2:=fN E Hs I m (m a) K2) (fun e F F' H x w=>?_) PF.le_refl (h5 a R);cases e with
  | normal =>obtain⟨b,F2,H2,X,Y,Z,z4,z5⟩:=w;obtain⟨B,V,W⟩:=X.up x;exact⟨b,B,H2,V,Y,Z,PF.le_trans z4 W,z5⟩
  | exit id=>exact u (.exit id) _ _ _ x w
  | ret=>exact u .ret _ _ _ x w
 | .exit id,_,_,u,_,_,_,l,h=>u (.exit id) _ _ _ l h
 | .ret,_,_,u,_,_,_,l,h=>u .ret _ _ _ l h
instance Up.seq {K:cE} [Up K] (b:aC):Up (jV C (b.wp C) K) where
 up {e} {F} {F'} {H} hl hh:=by
  cases e with
  | normal=>exact sA b (fun e F F' H a h=>Up.up a h) hl hh
  | exit id=>exact Up.up (K:=K) (e:=.exit id) hl hh
  | ret=>exact Up.up (K:=K) (e:=.ret) hl hh
instance Up.block {K:cE} [Up K] (id:Nat):Up (fA id K) where
 up {e} {F} {F'} {H} hl hh:=by
  cases e with
  | normal=>exact Up.up (K:=K) (e:=.normal) hl hh
  | exit j =>
   rw[DL] at hh ⊢;split at hh
   ·rename_i e; rw[if_pos e]; exact Up.up (K:=K) (e:=.normal) hl hh
   ·rename_i e; rw[if_neg e]; exact Up.up (K:=K) (e:=.exit j) hl hh
  | ret=>exact Up.up (K:=K) (e:=.ret) hl hh
instance Up.loop {K:cE} [Up K] {α:Type} (l:α→PF) (Hs:α→PH) (u:α→Prop) (m:α→Nat) (n:Nat):Up (fN l Hs u m n K) where
 up {e} {F} {F'} {H} hl hh:=by
  cases e with
  | normal =>obtain⟨b,J,H2,y,A,B,E,I⟩:=hh;obtain⟨j,w,x⟩:=y.up hl;exact⟨b,j,H2,w,A,B,PF.le_trans E x,I⟩
  | exit id=>exact Up.up (K:=K) (e:=.exit id) hl hh
  | ret=>exact Up.up (K:=K) (e:=.ret) hl hh
theorem aJT {H:PH} (e:F.le F') {x:dY} {v:PV} (h:x.ev F H=some v):x.ev F' H=some v:=by
 cases x with
 | tmp t=>exact e t v h
 | cell t n =>
  cases n<;>simp only[dY.ev] at h ⊢<;>(cases j:F t with
   | none=>simp[j] at h
   | some a=>rw[e t a j,← j]; exact h)
theorem ux {H:PH} (e:F.le F'):∀ {xs:List dY} {vs:List PV},dY.evs F H xs=some vs→dY.evs F' H xs=some vs
 | [],_,h=>h
 | x::xs,vs,h=>by
  rw[lK] at h ⊢;cases l:x.ev F H with
  | none=>simp[l] at h
  | some v =>
   cases j:dY.evs F H xs with
   | none=>simp[j] at h
   | some ws =>rw[l,j] at h;rw[aJT e l,ux e j];exact h
instance Up.ret (res:List dY) (R:PV→PH→Prop):Up (aR res R) where
 up {e} {F} {F'} {H} hl hh:=by
  cases e with
  | exit id=>exact hh
  | normal=>obtain⟨vs,j,l⟩:=hh; exact⟨vs,ux hl j,l⟩
  | ret=>obtain⟨vs,j,l⟩:=hh; exact⟨vs,ux hl j,l⟩
end
open Go Go.RowKit
def aMI (R:PH→Prop):cE
 | .normal,_,H=>R H
 | _,_,_=>False
theorem bR.setObj {E:Env} {H:PH} {w:World} {l:Nat} {o:Obj} {x:bO} (hW:bR E H w) (u:w.heap[l]?=some o) (F:∀ c t b,o≠.cells c t b) (I:OS E w l x):bR E (H.set l x) w:=by
 refine⟨fun b cs h=>?_,fun q y h=>?_,hW.s⟩
 ·obtain⟨B,ty,A,j⟩:=hW.g b cs h;have:¬ b=l:=fun e=>by rw[e,u] at j; exact F _ _ _ (by injection j)
  refine⟨fun y J=>B y ?_,ty,A,j⟩
  rwa [aT,if_neg this] at J
 ·rw[aT] at h;split at h
  ·rename_i e;cases h;subst e;exact⟨(aXH.1 u).1,I⟩
  ·exact hW.h q y h
section
variable {C:Ctx} {T:Tbl}
end
open Go Go.RowKit
abbrev aBO (D:Nat):Deferred:={ target:=.collected D,args:=#[] }
theorem bR.alloc {E:Env} {H:PH} {w:World} (hW:bR E H w) (o:Obj):bR E H (w.alloc o):=by
 have e:(w.alloc o).heap.size=w.heap.size+1:=World.size_alloc w o;have hb:∀ b,b<w.heap.size→(w.alloc o).heap[b]?=w.heap[b]?:=fun b hlt=>Below.heap_alloc w o b hlt;exact hW.same Om (fun b hlt _=>hb b hlt) (fun q x hq=>hb q (hW.h q x hq).1)
section
variable {C:Ctx} {T:Tbl} {ds:List Deferred} {fu:Nat}
def aII (C:Ctx) (name:Nat) (cs:List PV) (F:PF) (H:PH) (n t:Nat) (e j:Code) (u:PH→Prop):Prop :=
 ∀ l,H l=none→aG C name (aKH l::cs) (H.set l (.loop F n t e j)) (fun _ H'=>∃ H2,u H2∧H2.le H'∧H2 l=none∧H' l=some (.loop F n t e j))
end
open Go Go.RowKit
inductive gm where
 | seq (a:aC) (t:gm)
 | range (g:aN) (n t:Nat) (asg bdy:Code) (pas pbd rest:aC)
def gm.wp (C : Ctx) : gm → cE → PF → PH → Prop
  | .seq a t, K, F, H => a.wp C (jV C (t.wp C) K) F H
  | .range g n t asg bdy pas pbd rest, K, F, H => ∃ name cs KH, g.ev F = some (.fn name cs) ∧
      ((∀ (l : Nat) (x : PV) (J : PH) (J' : PH → Prop), J l = none → pas.wp C (jV C (pbd.wp C) (aMI J')) (F.set t x) J →
        amD C l [x] (J.set l (.loop F n t asg bdy)) (fun r H' => r = .bool true ∧ ∃ H2, J' H2 ∧ H2 l = none ∧ H' = H2.set l (.loop F n t asg bdy))) → aII C name cs F H n t asg bdy KH) ∧
      ∀ H2, KH H2 → rest.wp C K F H2
namespace Tbl
variable (T:Tbl)
def tail (n:Nat):Code→Option gm
 | .seq (.rangeFunc g ps e j) l=>match T.opd g,T.code n e,T.code n j,T.code n l with
  | some y,some u,some w,some A=>match ps.toList with
   | [t]=>if t<n then some (.range y n t e j u w A) else none
   | _=>none
  | _,_,_,_=>none
 | .seq (.seq a (.block _ (.rangeFunc g ps e j))) l=>match T.code n a,T.opd g,T.code n e,T.code n j,T.code n l with
  | some x,some y,some u,some w,some A=>match ps.toList with
   | [t]=>if t<n then some (.seq x (.range y n t e j u w A)) else none
   | _=>none
  | _,_,_,_,_=>none
 | .seq a b=>match T.code n a,tail n b with
  | some x,some B=>some (.seq x B)
  | _,_=>none
 | _=>none
end Tbl
section
variable {C:Ctx} {T:Tbl} {fu:Nat}
def Ew (n:Nat) (E:Env) (H:PH) (w:World) (K:cE) (Q:Exit→Act→World→Prop):Prop :=
 ∀ ds,(ds=[]∨∃ D,ds=[aBO D])→∀ e l u H' x j,eC ds n l u x→bR l H' j→Ext E H w l H' j→(∀ D,ds=[aBO D]→j.heap[D]?=some (.deferred (some []))∧H' D=none∧w.heap.size≤D)→K e u H'→Q e.out x j
theorem Ew.after {n:Nat} {E u:Env} {H H':PH} {w y:World} {K:cE} {Q:Exit→Act→World→Prop} (h:Ew n E H w K Q) (x:Ext E H w u H' y):Ew n u H' y K Q :=
 fun ds j e A B H2 a2 M F hW J l I=>h ds j e A B H2 a2 M F hW (x.trans J) (fun D hD=>⟨(l D hD).1,(l D hD).2.1,aWI x.size (l D hD).2.2⟩) I
end
structure alZ where
 nparams:Nat
 ntmps:Nat
 body:gm
 res:List dY
namespace Tbl
variable (T:Tbl)
end Tbl
end Go.PM
namespace Go.PM
open Go
def aBH (C:Ctx) (k:Nat) (e:alZ):Prop:=∀ (args:List PV) (H:PH) (R:PV→PH→Prop),args.length≤e.ntmps→e.body.wp C (aR e.res R) (PF.args args) H→aG C k args H R
theorem aBH.go {C:Ctx} {k:Nat} {e:alZ} (r:aBH C k e) {args:List PV} {H:PH} {R:PV→PH→Prop} (h:e.body.wp C (aR e.res R) (PF.args args) H) (j:Nat.ble args.length e.ntmps=true):aG C k args H R:=r args H R (Nat.le_of_ble_eq_true j) h
end Go.PM
