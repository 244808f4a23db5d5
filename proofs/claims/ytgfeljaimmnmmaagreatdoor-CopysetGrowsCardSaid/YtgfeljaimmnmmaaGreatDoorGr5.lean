/-
  Texts of ours, joined: R17Code RhW1 RfW1 RfW2 CyW5 CyW6 CyW7 CsP3 RfP2 RfP3 RfP4 RoPlain RfP5 RwP1 RwP2 RwCode RwW1 RwW2 MdCode MdPlain MdP2 MdW1 MdW2 MdW3 MdW4 MdW5 MdW6 MdW7 MdW8 MdV MdV2 MdW9 RhW2 MdW10 MdW11 RoCode Pm28. No condition.
-/
import Derived.Test.YtgfeljaimmnmmaaGreatDoorGr1
import Derived.Test.YtgfeljaimmnmmaaGreatDoorGr2
import Derived.Test.YtgfeljaimmnmmaaGreatDoorGr3
import Derived.Test.YtgfeljaimmnmmaaGreatDoorGr4
import Derived.Lib.SlicesCompact
import Derived.Shelf.Sort.Plain
import Derived.Shelf.Slices.CompactI
import Derived.Shelf.Slices.In.SortNone
set_option linter.unusedSimpArgs false
set_option linter.unusedVariables false
open Nat renaming reduceEqDiff → γ, reduceAdd → δ, reduceSub → ε, reduceMul → ζ, reduceLT → η, reduceLeDiff → θ, reduceBEq → τ
open Int renaming reduceLT → ι, reduceLE → κ, reduceEq → μ, reduceToNat → ν, reduceAdd → ξ, reduceNeg → ο, reduceBEq → ρ, reduceBNe → σ
open List renaming reduceReplicate → υ
open List renaming length_map → aXI, replicate → aXK, getElem_mem → aXM, length_append → aXN, mem_cons → aXP, range → aXQ, length_singleton → aXR, getElem?_eq_getElem → aXT, not_mem_nil → aXX, take_of_length_le → aXY, length_take → aYA, all_eq_true → aYF, getElem?_map → aYG, mem_map → aYH, getD_eq_getElem?_getD → aYK, map_append → aYN, drop_zero → aYO, getElem?_eq_some_iff → aYP, append_assoc → aYQ, take_length → aYS, getElem?_eq_none → aYT, map_cons → aYU, mem_range → aYV, getElem_of_mem → aYZ, length_cons → aZA, mem_append → aZC, range' → aZF, drop_eq_getElem_cons → aZG, getElem_map → aZH, length_drop → aZI, Sublist → aZJ, append_nil → aZK, length_set → aZM, map_nil → aZN, take_succ_eq_append_getElem → aZT, length_nil → aZV, mem_singleton → aZW, getElem?_append_right → aZY, nodup_append → aZZ, getElem?_append_left → a0C, mem_of_getElem? → a0D, take_append_drop → a0E, ext_getElem → a0K, set_append_right → a0L, getElem?_take → a0Q, drop_of_length_le → a0W, map_congr_left → a0X, set_cons_zero → a0Y, getElem_append_right → a1A
open Nat renaming gcd → aXJ, le_refl → aXL, mul_add → aXS, zero_le → aXU, lt_or_ge → aXZ, mul_assoc → aYC, zero_add → aYD, mul_comm → aYI, mul_le_mul_right → aYL, add_mul → aYM, mod_eq_of_lt → aYR, mod_lt → aYW, pow_succ → aZB, le_trans → aZD, add_assoc → aZO, add_zero → aZP, min_eq_left → aZQ, mul_le_mul_left → aZR, pos_of_ne_zero → aZU, eq_zero_or_pos → aZX, pow_pos → a0A, div_le_self → a0F, succ_mul → a0G, div_lt_iff_lt_mul → a0H, mul_le_mul → a0O, div_add_mod → a0R, div_eq_of_lt → a0S, pow_le_pow_right → a0Z
open Option renaming map_eq_some_iff → aXO, map_some → aYX, some → aZS, getD_some → a0I, bind_eq_some_iff → a0T, bind_some → a0U
open Bool renaming false_and → aXV, not_true → aXW, and_eq_true → aYB, true_and → aYE, not_false → aYJ, and_false → aYY, and_true → a0B, false_eq_true → a0N
open Array renaming replicate → aZE, length_toList → a0J, getElem?_eq_some_iff → a0M, getElem?_eq_getElem → a0P, getD_eq_getD_getElem? → a0V
open Int renaming toNat_natCast → aZL
namespace Go.PM
open Go
def aCL:Rg:=[iA 3 (.box true (Tm 0)),iA 4 (.box true (Tm 1)),iT 6 false]
def aCM:Rg:=[iM 10 2,iN 11 10,iF 12 1 4,iL 13 12,iF 14 2 4,iL 15 14,iB 16 .add 13 15,iB 17 .neq 11 16]
def aCN:Rg:=[iT 6 false]
def aCO:Rg:=[iI 7 0]
def aCP:Rg:=[iM 18 7,iM 19 2,iN 20 19,iB 21 .lss 18 20]
def aCQ:Rd:=[(iM 24 2,false),(iM 25 7,false),(iX 26 1 24 25,false),(iL 27 26,false),(iC 28 .lss 27 0,false),(iM 29 28,false),(gM 30 2 29 false,false),(gM 31 7 29 false,false),(iG 32 (.aWP 1 (Tm 30) (Tm 31)) 29 false,false),(gL 33 32 29 false,false),(gF 34 4 3 29 false,false),(gL 35 34 29 false,false),(gN 36 35 29 false,false),(gB 37 .geq 33 36 29 false,false),(iQ 38 29 37,false),(iM 39 38,false),(gM 40 7 39 false,false),(gC 41 .gtr 40 0 39 false,false),(gM 42 41 39 false,false),(gM 43 2 42 true,false),(gM 44 7 42 true,false),(iG 45 (.aWP 1 (Tm 43) (Tm 44)) 42 true,false),(gL 46 45 42 true,false),(gM 47 2 42 true,false),(gM 48 7 42 true,false),(gC 49 .sub 48 1 42 true,false),(iG 50 (.aWP 1 (Tm 47) (Tm 49)) 42 true,false),(gL 51 50 42 true,false),(gB 52 .leq 46 51 42 true,false),(iG 53 (.pick (Tm 42) (Tm 52) (.const (.bool false))) 39 false,false),(iQ 54 39 53,false),(iM 55 54,false),(gO 56 17 4 55 false,false),(gO 57 7 3 55 false,false),(gM 58 2 55 false,false),(gM 59 7 55 false,false),(iG 60 (.aWP 1 (Tm 58) (Tm 59)) 55 false,false),(gL 61 60 55 false,false),(iG 62 (.call 77 [(Tm 56),(Tm 57),(Tm 61)]) 55 false,true),(iG 63 (.un .not (Tm 62)) 55 false,false),(iQ 64 55 63,false)]
def aCR:Rg:=[iT 6 false]
def aCS:Rg:=[iM 22 7,iC 23 .add 22 1,iM 7 23]
def aCK:aA:=(.seq (sq aCP (.cond (Tm 21) .skip (.exit 0))) (.seq (.block 1 (dq aCQ (.cond (Tm 64) (sq aCR .ret) .skip))) (.region aCS)))
def aCT:Rg:=[iI 8 1]
def asU:Rg:=[iM 65 8,iF 66 3 3,iL 67 66,iN 68 67,iB 69 .lss 65 68]
def asV:Rg:=[iF 72 3 3,iL 73 72,iM 74 8,iX 75 7 73 74,iF 76 1 75,iL 77 76,iF 78 4 4,iA 79 (.idxA 5 1 (Tm 78) (Tm 77)),iL 80 79,iM 9 80]
def asW:Rg:=[iM 81 9,iC 82 .gtr 81 0,iM 83 82,gO 84 7 3 83 true,gM 85 2 83 true,gM 86 8 83 true,iG 87 (.call 80 [(Tm 84),(Tm 85),(Tm 86)]) 83 true,gM 88 9 83 true,gB 89 .gtr 87 88 83 true,iP 90 83 89]
def asX:Rg:=[iT 6 false]
def asY:Rg:=[iM 70 8,iC 71 .add 70 1,iM 8 71]
def asT:aA:=(.seq (sq asU (.cond (Tm 69) .skip (.exit 2))) (.seq (.block 3 (sq asV (sq asW (.cond (Tm 90) (sq asX .ret) .skip)))) (.region asY)))
def asZ:Rg:=[iT 6 true]
def aeB:aA:=(sq aCL (.seq (sq aCM (.cond (Tm 17) (sq aCN .ret) .skip)) (.seq (sq aCO (.block 0 (.loop aCK))) (.seq (sq aCT (.block 2 (.loop asT))) (sq asZ .ret)))))
def aCU:List Nat:=[3,4]
def aJY:aS:=⟨3,91,aeB,[.tmp 6]⟩
def aeD:Rg:=[iA 3 (.box true (Tm 0)),iT 6 false]
def aeE:Rd:=[(iO 7 7 3,false),(iK 8 67 7,true),(iM 9 8,false),(gM 10 1 9 true,false),(gC 11 .geq 10 0 9 true,false),(iP 12 9 11,false),(iM 13 12,false),(gM 14 1 13 true,false),(gF 15 5 3 13 true,false),(gL 16 15 13 true,false),(gN 17 16 13 true,false),(gB 18 .lss 14 17 13 true,false),(iP 19 13 18,false),(iM 20 19,false),(gO 21 7 3 20 true,false),(gF 22 5 3 20 true,false),(gL 23 22 20 true,false),(gM 24 1 20 true,false),(iG 25 (.aWP 17 (Tm 23) (Tm 24)) 20 true,false),(gO 26 17 25 20 true,false),(gM 27 2 20 true,false),(iG 28 (.call 213 [(Tm 21),(Tm 26),(Tm 27)]) 20 true,true),(iP 29 20 28,false),(iM 6 29,false)]
def Jz:aA:=(sq aeD (dq aeE .ret))
def aeF:List Nat:=[3]
def aeC:aS:=⟨3,30,Jz,[.tmp 6]⟩
def U8:Rg:=[iZ 6]
def U9:Rg:=[iM 11 2,iC 12 .eql 11 0]
def Va:Rg:=[iA 13 (.aWF true 1 1 [.aB] [(0,(.const .aB))]),iM 6 13]
def Vb:Rg:=[iZ 7]
def Vc:Rg:=[iM 14 0,iM 8 14]
def Vd:Rg:=[iM 15 8,iM 16 2,iB 17 .add 15 16,iM 18 1,iB 19 .leq 17 18]
def Ve:Rg:=[iM 22 8,iC 23 .add 22 1,iM 24 1,iM 25 2,iC 26 .sub 25 1,iA 27 (.call 215 [(Tm 23),(Tm 24),(Tm 26)]),iM 9 27]
def Vf:Rg:=[iI 10 0]
def Vg:Rg:=[iM 28 10,iM 29 9,iN 30 29,iB 31 .lss 28 30]
def Vh:Rg:=[iM 34 7,iM 35 8,iA 36 (.aWF false 1 1 [(.int .i64 0)] [(0,(Tm 35))]),iM 37 9,iM 38 10,iX 39 1 37 38,iL 40 39,iA 41 (.append 1 8 (Tm 36) (Tm 40)),iA 42 (.aWF true 1 1 [.aB] [(0,(Tm 41))]),iA 43 (.append 1 24 (Tm 34) (Tm 42)),iM 7 43]
def J3:Rg:=[iM 32 10,iC 33 .add 32 1,iM 10 33]
def J1:aA:=(.seq (sq Vg (.cond (Tm 31) .skip (.exit 2))) (.seq (.block 3 (.region Vh)) (.region J3)))
def J4:Rg:=[iM 20 8,iC 21 .add 20 1,iM 8 21]
def J2:aA:=(.seq (sq Vd (.cond (Tm 19) .skip (.exit 0))) (.seq (.block 1 (sq Ve (sq Vf (.block 2 (.loop J1))))) (.region J4)))
def J5:Rg:=[iM 44 7,iM 6 44]
def Gd:aA:=(sq U8 (.seq (sq U9 (.cond (Tm 12) (sq Va .ret) .skip)) (sq Vb (.seq (sq Vc (.block 0 (.loop J2))) (sq J5 .ret)))))
def Vi:List Nat:=[13,42]
def Ra:aS:=⟨3,45,Gd,[.tmp 6]⟩
def aCV:Rg:=[iA 2 (.box true (Tm 0)),iZ 4,iI 5 0]
def aCW:Rg:=[iO 10 7 2,iK 11 67 10,iA 12 (.un .not (Tm 11)),iM 13 12,gM 14 1 13 false,gC 15 .lss 14 0 13 false,iQ 16 13 15,iM 17 16,gM 18 1 17 false,gF 19 5 2 17 false,gL 20 19 17 false,gN 21 20 17 false,gB 22 .geq 18 21 17 false,iQ 23 17 22]
def aCX:Rg:=[iZ 4,iI 5 1]
def aCY:Rg:=[iF 24 4 2,iL 25 24,iN 26 25,iC 27 .gtr 26 12]
def aCZ:Rg:=[iZ 4,iI 5 2]
def aDA:Rg:=[iF 28 5 2,iL 29 28,iM 30 1,iX 31 17 29 30,iO 32 17 31,iA 6 (.alloc [(.str []),(.int .i64 0),(.int .i64 0),(.int .i64 0),(.int .i64 0),(.int .i64 0),(.int .i64 0),(.int .i64 0),(.int .i64 0),.aB,.aB,(.bool false),.aB,.aB,(.bool false),.aB,.aB]),iS 17 6 32]
def aDB:Rg:=[iZ 7]
def aDC:Rg:=[iF 33 4 2,iL 34 33,iN 35 34,iF 36 1 6,iL 37 36,iF 38 2 6,iL 39 38,iB 40 .add 37 39,iA 41 (.call 215 [(Ci 0),(Tm 35),(Tm 40)]),iM 8 41]
def aDD:Rg:=[iI 9 0]
def aDE:Rg:=[iM 42 9,iM 43 8,iN 44 43,iB 45 .lss 42 44]
def atB:Rd:=[(iO 48 7 2,false),(iO 49 17 6,false),(iM 50 8,false),(iM 51 9,false),(iX 52 1 50 51,false),(iL 53 52,false),(iA 54 (.call 213 [(Tm 48),(Tm 49),(Tm 53)]),true)]
def atC:Rg:=[iM 55 7,iM 56 8,iM 57 9,iX 58 1 56 57,iL 59 58,iA 60 (.aWF true 1 1 [.aB] [(0,(Tm 59))]),iA 61 (.append 1 24 (Tm 55) (Tm 60)),iM 7 61]
def atD:Rg:=[iM 46 9,iC 47 .add 46 1,iM 9 47]
def atA:aA:=(.seq (sq aDE (.cond (Tm 45) .skip (.exit 0))) (.seq (.block 1 (dq atB (.cond (Tm 54) (.region atC) .skip))) (.region atD)))
def atE:Rg:=[iM 62 7,iM 4 62,iI 5 0]
def aeG:aA:=(sq aCV (.seq (sq aCW (.cond (Tm 23) (sq aCX .ret) .skip)) (.seq (sq aCY (.cond (Tm 27) (sq aCZ .ret) .skip)) (sq aDA (sq aDB (sq aDC (.seq (sq aDD (.block 0 (.loop atA))) (sq atE .ret))))))))
def aDF:List Nat:=[2,60]
def aJZ:aS:=⟨2,63,aeG,[.tmp 4,.tmp 5]⟩
def afV:Rg:=[iA 2 (.box true (Tm 0)),iZ 4]
def afW:Rg:=[iZ 5]
def afX:Rg:=[iM 8 1,iC 9 .eql 8 5]
def afY:Rg:=[iI 6 0]
def afZ:Rg:=[iM 10 6,iF 11 4 2,iL 12 11,iN 13 12,iB 14 .lss 10 13]
def agA:Rg:=[iM 17 5,iM 18 6,iA 19 (.aWF true 1 1 [(.int .i64 0)] [(0,(Tm 18))]),iA 20 (.aWF true 1 1 [.aB] [(0,(Tm 19))]),iA 21 (.append 1 24 (Tm 17) (Tm 20)),iM 5 21]
def agB:Rg:=[iM 15 6,iC 16 .add 15 1,iM 6 16]
def afU:aA:=(.seq (sq afZ (.cond (Tm 14) .skip (.exit 0))) (.seq (.block 1 (.region agA)) (.region agB)))
def agC:Rg:=[iM 22 5,iM 4 22]
def agD:Rg:=[iI 7 0]
def Vy:Rg:=[iM 23 7,iF 24 3 2,iL 25 24,iN 26 25,iB 27 .lss 23 26]
def Vz:Rg:=[iF 30 3 2,iL 31 30,iM 32 7,iX 33 7 31 32,iF 34 1 33,iL 35 34,iM 36 1,iB 37 .eql 35 36]
def V0:Rg:=[iM 38 5,iO 39 7 2,iM 40 7,iK2 41 81 39 40,iA 42 (.aWF true 1 1 [.aB] [(0,(Tm 41))]),iA 43 (.append 1 24 (Tm 38) (Tm 42)),iM 5 43]
def V1:Rg:=[iM 28 7,iC 29 .add 28 1,iM 7 29]
def Vx:aA:=(.seq (sq Vy (.cond (Tm 27) .skip (.exit 2))) (.seq (.block 3 (sq Vz (.cond (Tm 37) (.region V0) .skip))) (.region V1)))
def V2:Rg:=[iM 44 5,iM 4 44]
def J7:aA:=(sq afV (sq afW (.seq (sq afX (.cond (Tm 9) (.seq (sq afY (.block 0 (.loop afU))) (sq agC .ret)) .skip)) (.seq (sq agD (.block 2 (.loop Vx))) (sq V2 .ret)))))
def agE:List Nat:=[2,19,20,42]
def afT:aS:=⟨2,45,J7,[.tmp 4]⟩
def aDI:Rg:=[iT 4 false]
def aDJ:Rg:=[iI 5 0]
def aDK:Rg:=[iM 6 5,iM 7 0,iN 8 7,iB 9 .lss 6 8]
def aDL:Rg:=[iM 12 0,iM 13 5,iX 14 1 12 13,iL 15 14,iM 16 1,iB 17 .eql 15 16]
def aDM:Rg:=[iT 4 true]
def aDN:Rg:=[iM 10 5,iC 11 .add 10 1,iM 5 11]
def aDH:aA:=(.seq (sq aDK (.cond (Tm 9) .skip (.exit 0))) (.seq (.block 1 (sq aDL (.cond (Tm 17) (sq aDM .ret) .skip))) (.region aDN)))
def aDO:Rg:=[iT 4 false]
def aeK:aA:=(sq aDI (.seq (sq aDJ (.block 0 (.loop aDH))) (sq aDO .ret)))
def aDP:List Nat:=[]
def aKB:aS:=⟨2,18,aeK,[.tmp 4]⟩
def atU:Rg:=[iA 2 (.box true (Tm 0)),iA 3 (.box true (Tm 1)),iZ 4,iI 5 0]
def atV:Rg:=[iO 16 7 2,iK 17 67 16,iA 18 (.un .not (Tm 17)),iM 19 18,gF 20 0 3 19 false,gL 21 20 19 false,gC 22 .lss 21 1 19 false,iQ 23 19 22,iM 24 23,gF 25 0 3 24 false,gL 26 25 24 false,gC 27 .gtr 26 5 24 false,iQ 28 24 27,iM 29 28,gF 30 1 3 29 false,gL 31 30 29 false,gC 32 .lss 31 1 29 false,iQ 33 29 32,iM 34 33,gF 35 1 3 34 false,gL 36 35 34 false,gC 37 .gtr 36 3 34 false,iQ 38 34 37]
def atW:Rg:=[iZ 4,iI 5 1]
def atX:Rg:=[iF 39 4 2,iL 40 39,iN 41 40,iC 42 .gtr 41 12]
def atY:Rg:=[iZ 4,iI 5 2]
def atZ:Rg:=[iO 43 7 2,iF 44 0 3,iL 45 44,iK2 46 217 43 45,iM 6 46]
def auA:Rg:=[iI 7 1]
def auB:Rg:=[iI 8 0]
def auC:Rg:=[iM 47 8,iF 48 1 3,iL 49 48,iB 50 .lss 47 49]
def auD:Rg:=[iM 53 7,iM 54 6,iN 55 54,iM 56 8,iB 57 .sub 55 56,iB 58 .mul 53 57,iM 59 8,iC 60 .add 59 1,iB 61 .quo 58 60,iM 7 61]
def aeY:Rg:=[iM 51 8,iC 52 .add 51 1,iM 8 52]
def aeU:aA:=(.seq (sq auC (.cond (Tm 50) .skip (.exit 0))) (.seq (.block 1 (.region auD)) (.region aeY)))
def aeZ:Rg:=[iM 62 7,iC 63 .gtr 62 512]
def afA:Rg:=[iZ 4,iI 5 2]
def afB:Rg:=[iM 64 6,iN 65 64,iF 66 1 3,iL 67 66,iA 68 (.call 215 [(Ci 0),(Tm 65),(Tm 67)]),iM 9 68]
def afC:Rg:=[iZ 10]
def afD:Rg:=[iI 11 0]
def afE:Rg:=[iM 69 11,iM 70 9,iN 71 70,iB 72 .lss 69 71]
def afF:Rg:=[iZ 12]
def afG:Rg:=[iI 13 0]
def afH:Rg:=[iM 75 13,iF 76 4 2,iL 77 76,iN 78 77,iB 79 .lss 75 78]
def afI:Rg:=[iT 14 false]
def afJ:Rg:=[iI 15 0]
def afK:Rg:=[iM 82 15,iM 83 9,iM 84 11,iX 85 1 83 84,iL 86 85,iN 87 86,iB 88 .lss 82 87]
def afL:Rg:=[iM 91 14,iM 92 91,gM 93 6 92 false,gM 94 9 92 false,gM 95 11 92 false,iG 96 (.aWP 1 (Tm 94) (Tm 95)) 92 false,gL 97 96 92 false,gM 98 15 92 false,iG 99 (.aWP 1 (Tm 97) (Tm 98)) 92 false,gL 100 99 92 false,iG 101 (.aWP 1 (Tm 93) (Tm 100)) 92 false,gL 102 101 92 false,gM 103 13 92 false,gK2 104 218 102 103 92 false,iQ 105 92 104,iM 14 105]
def afM:Rg:=[iM 89 15,iC 90 .add 89 1,iM 15 90]
def aeV:aA:=(.seq (sq afK (.cond (Tm 88) .skip (.exit 6))) (.seq (.block 7 (.region afL)) (.region afM)))
def afN:Rg:=[iM 106 14]
def afO:Rg:=[iM 107 12,iM 108 13,iA 109 (.aWF true 1 1 [(.int .i64 0)] [(0,(Tm 108))]),iA 110 (.append 1 8 (Tm 107) (Tm 109)),iM 12 110]
def afP:Rg:=[iM 80 13,iC 81 .add 80 1,iM 13 81]
def aeW:aA:=(.seq (sq afH (.cond (Tm 79) .skip (.exit 4))) (.seq (.block 5 (sq afI (.seq (sq afJ (.block 6 (.loop aeV))) (sq afN (.cond (Tm 106) (.region afO) .skip))))) (.region afP)))
def afQ:Rg:=[iM 111 10,iM 112 12,iA 113 (.aWF true 1 1 [.aB] [(0,(Tm 112))]),iA 114 (.append 1 24 (Tm 111) (Tm 113)),iM 10 114]
def afR:Rg:=[iM 73 11,iC 74 .add 73 1,iM 11 74]
def aeX:aA:=(.seq (sq afE (.cond (Tm 72) .skip (.exit 2))) (.seq (.block 3 (sq afF (.seq (sq afG (.block 4 (.loop aeW))) (.region afQ)))) (.region afR)))
def afS:Rg:=[iM 115 10,iM 4 115,iI 5 0]
def Vw:aA:=(sq atU (.seq (sq atV (.cond (Tm 38) (sq atW .ret) .skip)) (.seq (sq atX (.cond (Tm 42) (sq atY .ret) .skip)) (sq atZ (sq auA (.seq (sq auB (.block 0 (.loop aeU))) (.seq (sq aeZ (.cond (Tm 63) (sq afA .ret) .skip)) (sq afB (sq afC (.seq (sq afD (.block 2 (.loop aeX))) (sq afS .ret)))))))))))
def auE:List Nat:=[2,3,109,113]
def ayY:aS:=⟨2,116,Vw,[.tmp 4,.tmp 5]⟩
def atH:Rg:=[iI 6 0]
def atI:Rg:=[iI 7 0]
def atJ:Rg:=[iI 8 0]
def atK:Rg:=[iM 11 8,iM 12 0,iN 13 12,iB 14 .lss 11 13]
def atL:Rg:=[iI 9 0]
def atM:Rg:=[iI 10 0]
def atN:Rg:=[iM 17 10,iM 18 1,iN 19 18,iB 20 .lss 17 19]
def atO:Rd:=[(iM 23 0,false),(iM 24 8,false),(iX 25 1 23 24,false),(iL 26 25,false),(iM 27 1,false),(iM 28 10,false),(iX 29 1 27 28,false),(iL 30 29,false),(iK2 31 218 26 30,true)]
def atP:Rg:=[iM 32 9,iC 33 .add 32 1,iM 9 33]
def atQ:Rg:=[iM 21 10,iC 22 .add 21 1,iM 10 22]
def aeL:aA:=(.seq (sq atN (.cond (Tm 20) .skip (.exit 2))) (.seq (.block 3 (dq atO (.cond (Tm 31) (.region atP) .skip))) (.region atQ)))
def aeN:Rg:=[iM 34 9,iM 35 2,iB 36 .gtr 34 35]
def aeO:Rg:=[iM 37 7,iC 38 .add 37 1,iM 7 38]
def aeP:Rg:=[iM 15 8,iC 16 .add 15 1,iM 8 16]
def aeM:aA:=(.seq (sq atK (.cond (Tm 14) .skip (.exit 0))) (.seq (.block 1 (sq atL (.seq (sq atM (.block 2 (.loop aeL))) (sq aeN (.cond (Tm 36) (.region aeO) .skip))))) (.region aeP)))
def aeQ:Rg:=[iM 39 7,iM 6 39]
def Vt:aA:=(sq atH (sq atI (.seq (sq atJ (.block 0 (.loop aeM))) (sq aeQ .ret))))
def atS:List Nat:=[]
def ayX:aS:=⟨3,40,Vt,[.tmp 6]⟩
def Vk:Rg:=[iA 4 (.box true (Tm 0)),iA 7 (.box true (Tm 3)),iI 8 0,iI 9 0]
def Vl:Rg:=[iO 13 7 4,iO 14 2 7,iK2 15 219 13 14,iM 12 15,iE 16 12 0,iE 17 12 1,iM 10 16,iM 11 17]
def Vm:Rg:=[iM 18 11,iC 19 .neq 18 0]
def Vn:Rg:=[iM 20 11,iI 8 0,iM 9 20]
def Vo:Rg:=[iO 21 7 4,iM 22 1,iM 23 2,iA 24 (.call 214 [(Tm 21),(Tm 22),(Tm 23)]),iA 25 (.un .not (Tm 24))]
def Vp:Rg:=[iI 8 0,iI 9 1]
def Vq:Rg:=[iM 26 10,iM 27 2,iF 28 5 4,iL 29 28,iM 30 1,iX 31 17 29 30,iF 32 2 31,iL 33 32,iA 34 (.call 220 [(Tm 26),(Tm 27),(Tm 33)]),iM 8 34,iI 9 0]
def Gg:aA:=(sq Vk (sq Vl (.seq (sq Vm (.cond (Tm 19) (sq Vn .ret) .skip)) (.seq (sq Vo (.cond (Tm 25) (sq Vp .ret) .skip)) (sq Vq .ret)))))
def Vs:List Nat:=[4,7]
def Rc:aS:=⟨4,35,Gg,[.tmp 8,.tmp 9]⟩
open Go Go.Na


theorem fT {t:Nat} {b i:Bool} {F:PF} {H:PH} (h:F t=some (.bool b)) (e:b=i):aW [.tmp t] (aL (.bool i)) .ret F H:=by
 subst e;exact bB (.inr rfl) .nil (vs:=[.bool b]) (by rw[jI,lP,h,mN]) PH.nil_le ⟨rfl,rfl⟩
theorem azU {C:Ctx} (f:aK) (hV:VF f) (p:cB) (hp:∀ m∈p.aWA,0≤m∧m<f.aWA.length) (R:Fits p.aWA) (set:List Int) (hs:Su f set) :
  IH.wp C (aW S9.res (aL (.bool (lN f p set)))) (PF.args [.agg f.cells,.agg p.cells,ints set]) .nil:=by
 have l:=hV.small;have β:(f.aWA.length:Int)*((1:Nat):Int)≤140737488355328:=by have:=l.aWA; omega
 have γ:(f.aWA.length:Int)≤9223372036854775807:=by have:=l.aWA; omega
 have δ:(0:Int)≤(f.aWA.length:Int):=Om;have η:(f.aWC.length:Int)*((8:Nat):Int)≤140737488355328:=by have:=l.aWC; omega
 have θ:(f.aWC.length:Int)≤9223372036854775807:=by have:=l.aWC; omega
 have ι:(0:Int)≤(f.aWC.length:Int):=Om;simp only[go_sem,IH,L6,L7,S9,aXI,β,γ,δ,Int.le_refl,aZL];refine aT fun U hA=>?_;rw[IF];simp only[go_sem,L8,aXI];refine wp_loop (α:=Nat) (fun k=>(((((((PF.nil.set 2 (ints set)).set 3 (.cO f.cells)).set 4 (.cO p.cells)).set 7 (.osl U 1 0 f.aWA.length)).set 20 (ints p.aWA)).set 21 (.int .i64 (p.aWA.length:Nat))).set 22 (.int .i64 k))) (fun k=>PH.nil.set U (.rows 1 (cY (marks f.aWA.length (p.aWA.take k))))) (fun k=>k≤p.aWA.length) (fun k=>p.aWA.length-k) 0 (aXU _) Lq (by rw[List.take_zero]; exact PH.le_refl) ?_;intro k hk;simp only[go_sem,L5,L9];by_cases hlt:k<p.aWA.length
 ·have i:(k:Int)<(p.aWA.length:Nat):=Om;have κ:(p.aWA.map fun n=>[PV.int .i64 n])[k]?=some [.int .i64 p.aWA[k]]:=by simp[hlt]
  obtain⟨m1,m2⟩:=hp _ (aXM hlt);have ε:(p.aWA[k]).toNat<(cY (marks f.aWA.length (p.aWA.take k))).length:=by rw[xD,KK]; omega
  have ζ:(cY (marks f.aWA.length (p.aWA.take k)))[(p.aWA[k]).toNat]?=some [.bool ((p.aWA.take k).contains p.aWA[k])]:=by unfold cY;rw[aYG,wM m1 m2]; rfl
  have ν:p.aWA.length≤9223372036854775807:=by have:=R; omega
  simp only[go_sem,i,Ma,κ,Mb,m1,m2,aYD,ζ,ε,pY,KL m1 m2,Mc,wZz k];refine aM (k+1) hlt Om Lq ?_;rw[aZT hlt];exact PH.le_refl
 ·have i:¬ (k:Int)<(p.aWA.length:Nat):=Om;have:k=p.aWA.length:=Om;subst this;rw[aYS];simp only[go_sem,i,Md,aXI,η,θ,ι,Int.le_refl,aZL];refine aT fun oD hD=>?_;have hn:U≠oD:=by rintro rfl; simp only[cD] at hD; cases hD
  rw[anJ];simp only[go_sem,Me,aXI];refine aaL (C:=C) f hV p U oD hn set hs (by unfold BV; (repeat' (first|exact PF.nil_le|refine PF.aJ ?_ ?_))<;>first|(simp only[go_sem,aXI]<;>rfl)|rfl) (by simp only[aQ,if_neg hn,if_true]) (by rw[cD]) ?_ ?_
  ·intro F' H' h6 J;simp only[go_sem];exact fT h6 J.symm
  ·intro F' H' μ;simp only[go_sem,xb];exact fT Sq μ.symm
theorem aaI (set:List Int) (top:Int) {k:Nat}:(aXQ (k+1)).all (mA set top)=((aXQ k).all (mA set top)&&mA set top k):=by
 rw[List.range_succ,List.all_append]; simp
theorem azY {C:Ctx} (set:List Int) (hl:set.length≤1000000000000000) (n top:Int) :
  IK.wp C (aW Td.res (aL (.bool (oR set n top)))) (PF.args [ints set,.int .i64 n,.int .i64 top]) .nil:=by
 have hE:oR set n top=(decide ((set.length:Int)=n)&&(aXQ set.length).all (mA set top)):=rfl;simp only[go_sem,IK,Mg,Mh,Td,aXI];refine wp_loop (α:=Nat) (fun k=>((((((PF.nil.set 0 (ints set)).set 1 (.int .i64 n)).set 2 (.int .i64 top)).set 9 (ints set)).set 10 (.int .i64 (set.length:Nat))).set 11 (.int .i64 k))) (fun _=>.nil) (fun k=>k≤set.length∧(aXQ k).all (mA set top)=true) (fun k=>set.length-k) 0 ⟨aXU _,rfl⟩ Lq PH.nil_le ?_;rintro k ⟨hk,l⟩;have J:k<set.length→mA set top k=false→oR set n top=false:=by
  intro h h2;rw[hE];have:(aXQ set.length).all (mA set top)=false:=by simp only[List.all_eq_false,aYV];exact⟨k,h,by rw[h2]; simp⟩
  rw[this,aYY]
 by_cases hlt:k<set.length
 ·have i:(k:Int)<(set.length:Nat):=Om;have δ:(set.map fun n=>[PV.int .i64 n])[k]?=some [.int .i64 set[k]]:=by simp[hlt]
  have hg:set.getD k 0=set[k]:=by simp[aYK,hlt]
  have R:mA set top k=((decide (0≤set[k])&&decide (set[k]<top))&&(decide (k=0)||decide (set.getD (k-1) 0<set[k]))):=by rw[mA,hg]
  have aWU:mA set top k=true→(aXQ (k+1)).all (mA set top)=true:=fun h=>by rw[aaI,l,h]; rfl
  generalize set[k]=x at *
  simp only[go_sem,fz,ga,i,Mi,δ];by_cases U:x<0
  ·simp only[go_sem,vC,U,OB];exact fT Sq (J hlt (by rw[R,decide_eq_false (Om:¬ 0≤x)]; rfl)).symm
  by_cases c2:x≥top
  ·simp only[go_sem,vC,U,c2,OB];exact fT Sq (J hlt (by rw[R,decide_eq_false (Om:¬ x<top),aYY]; rfl)).symm
  rw[decide_eq_true (Om:0≤x),decide_eq_true (Om:x<top),a0B,aYE] at R;by_cases c3:k=0
  ·subst c3;simp only[go_sem,vC,U,c2,show ¬ ((0:Nat):Int)>0 by omega,gb,wZz 0];exact aM 1 ⟨hlt,aYF.1 (aWU (by rw[R]; rfl))⟩ Om Lq PH.nil_le
  obtain⟨j,rfl⟩:∃ j,k=j+1:=⟨k-1,by omega⟩;have w1:IntKind.i64.wrap (((j+1:Nat):Int)-1)=(j:Int):=by rw[wrap_i64 Om Om]; omega
  have β:j<set.length:=Om;have p:(j:Int)<(set.length:Nat):=Om;have γ:(set.map fun n=>[PV.int .i64 n])[j]?=some [.int .i64 set[j]]:=by simp[β]
  have ε:set.getD (j+1-1) 0=set[j]:=by simp[aYK,β]
  rw[ε,decide_eq_false c3,Bool.false_or] at R;generalize set[j]=y at *
  by_cases c4:y≥x
  ·simp only[go_sem,vC,U,c2,show ((j+1:Nat):Int)>0 by omega,w1,γ,p,c4,OB];exact fT Sq (J hlt (by rw[R,decide_eq_false (Om:¬ y<x)])).symm
  ·simp only[go_sem,vC,U,c2,show ((j+1:Nat):Int)>0 by omega,w1,γ,p,c4,gb,cP (Om:j+1<9223372036854775807)];exact aM (j+1+1) ⟨hlt,aYF.1 (aWU (by rw[R,decide_eq_true (Om:y<x)]))⟩ Om Lq PH.nil_le
 ·have i:¬ (k:Int)<(set.length:Nat):=Om;have:k=set.length:=Om;subst this;rw[l,a0B] at hE;simp only[go_sem,fz,ga,i,Mj,aXI];exact fT (b:=decide ((set.length:Int)=n)) (by simp only[go_sem]; rfl) hE.symm
theorem wL {f:aK} {aWK:Int} (h:gG f aWK=true):VF f∧0≤aWK∧aWK.toNat<f.aWD.length∧aWK=(aWK.toNat:Nat):=by
 unfold gG at h;simp only[aYB,decide_eq_true_eq] at h;exact⟨VF.of h.1,h.2.1,by omega,by omega⟩
theorem xR {f:aK} {aWK:Int} (h:gG f aWK=true):gV f aWK∈f.aWD∧f.aWD[aWK.toNat]?=some (gV f aWK):=by
 obtain⟨_,_,i,_⟩:=wL h;have e:gV f aWK=f.aWD[aWK.toNat]:=by simp[gV,aYK,i]
 rw[e];exact⟨aXM i,aXT i⟩
theorem aaR {C:Ctx} (val:∀ f:aK,f.Ok→aH C 96 [.agg f.cells] .nil (aL (.int .i64 (tU f)))) (f:aK) (J:f.Ok) (aWK:Int) :
  yP.wp C (aW WR.res (aL (.bool (gG f aWK)))) (PF.args [.agg f.cells,.int .i64 aWK]) .nil:=by
 have p:=val f J;unfold tU at p;simp only[go_sem,yP,j4,j5,WR];refine aC p Ev ?_;have i:gG f aWK=(jL f&&(decide (0≤aWK)&&decide (aWK<f.aWD.length))):=rfl;cases l:jL f with
 | false =>rw[l,aXV] at i;simp only[go_sem,bF (show (1:Int)≠0 by decide)];exact fT Sq i.symm
 | true =>
  rw[l,aYE] at i;by_cases c:aWK≥0
  ·rw[decide_eq_true (Om:0≤aWK),aYE] at i;simp only[go_sem,bM (show (0:Int)=0 from rfl),c,aXI];exact fT (b:=decide (aWK<f.aWD.length)) Sq i.symm
  ·rw[decide_eq_false (Om:¬ 0≤aWK),aXV] at i;simp only[go_sem,bM (show (0:Int)=0 from rfl),c,aXI];exact fT Sq i.symm
structure St (C:Ctx):Prop where
 adm:∀ (f:aK) (p:cB) (set:List Int),VF f→(∀ m∈p.aWA,0≤m∧m<f.aWA.length)→Fits p.aWA→Su f set→aH C 201 [.agg f.cells,.agg p.cells,ints set] .nil (aL (.bool (lN f p set)))
 asc:∀ (set:List Int) (n top:Int),set.length≤1000000000000000→aH C 202 [ints set,.int .i64 n,.int .i64 top] .nil (aL (.bool (oR set n top)))
 known:∀ (f:aK) (aWK:Int),f.Ok→aH C 203 [.agg f.cells,.int .i64 aWK] .nil (aL (.bool (gG f aWK)))
theorem apB {set:List Int} {n top:Int} (h:oR set n top=true):(set.length:Int)=n:=by
 unfold oR at h;simp only[aYB,decide_eq_true_eq] at h;exact h.1
theorem azQ {set:List Int} {n top:Int} (h:oR set n top=true):∀ x∈set,0≤x∧x<top:=by
 unfold oR at h;simp only[aYB,decide_eq_true_eq,aYF,aYV] at h;intro x p;obtain⟨i,hi,rfl⟩:=aYZ p;have:=h.2 i hi;unfold mA at this;simp only[aYB,decide_eq_true_eq] at this;have l:set.getD i 0=set[i]:=by simp[aYK,hi]
 rw[l] at this;exact this.1
theorem aaM {C:Ctx} (Lb:St C) (f:aK) (hf:f.Ok) (aWK:Int) (set:List Int) (hl:set.length≤1000000000000000) :
  yN.wp C (aW WD.res (aL (.bool (BR f aWK set)))) (PF.args [.agg f.cells,.int .i64 aWK,ints set]) .nil:=by
 have i:BR f aWK set=(gG f aWK&&(oR set (oN (gV f aWK)) f.aVZ.length&&lN f (gV f aWK) set)):=rfl;simp only[go_sem,yN,js,jt,WD];refine aC (Lb.known f aWK hf) Ev ?_;cases hk:gG f aWK with
 | false =>rw[hk,aXV] at i;simp only[go_sem,ju];exact fT Sq i.symm
 | true =>
  rw[hk,aYE] at i;obtain⟨hV,h0,hm,he⟩:=wL hk;obtain⟨R,α⟩:=xR hk;have U:=hV.aWK _ R;have J:=(hf.aWK _ R).aWA;have l:(f.aWD.map cB.cells)[aWK.toNat]?=some (gV f aWK).cells:=by rw[aYG,α]; rfl
  generalize gV f aWK=p at *
  have hlt:aWK<(f.aWD.length:Nat):=Om;have hw:IntKind.i64.wrap (p.k+p.m)=p.k+p.m:=wrap_i64 Om Om;simp only[go_sem,aXW,jv,h0,hlt,aXI,l];refine aT fun q hq=>?_;simp only[go_sem,jw,aXI,hw];refine aC (Lb.asc set (p.k+p.m) f.aVZ.length hl) Ev ?_;have β:oN p=p.k+p.m:=rfl;rw[β] at i;cases ha:oR set (p.k+p.m) f.aVZ.length with
  | false =>rw[ha,aXV] at i;simp only[go_sem];exact fT Sq i.symm
  | true =>rw[ha,aYE] at i;have γ:=apB ha;simp only[go_sem];refine aC (Lb.adm f p set hV U.2.2.2.2.2.2.2 J ⟨by omega,azQ ha⟩) Ev ?_;simp only[go_sem];exact fT Sq i.symm
theorem BZ {m:Nat} (p:m≤1000):∀ i,i≤1000→(eD m i).natAbs≤1000 ^ i
 | 0,_=>aXL _
 | i+1,h=>by have J:=BZ p i Om;have l:((m:Int)-(i:Int)).natAbs≤1000:=Om;rw[eD,Int.natAbs_tdiv,Int.natAbs_mul,aZB];exact aZD (a0F _ _) (a0O J l)
theorem WO {m:Nat} (l:m≤1000) {i:Nat} (hi:i≤3):-1000000000≤eD m i∧eD m i≤1000000000:=by
 have h:=BZ l i Om;have:1000 ^ i≤1000 ^ 3:=a0Z Om hi;have e:(1000:Nat) ^ 3=1000000000:=by decide
 omega
theorem Te {C:Ctx} (m n:Nat) (J:m≤1000) (hn:n≤3) :
  wA.wp C (aW OC.res (aL (.int .i64 (max (eD m n) 0)))) (PF.args [.int .i64 m,.int .i64 n]) .nil:=by
 simp only[go_sem,wA,WG,WH,WI,OC];refine wp_loop (α:=Nat) (fun k=>((((PF.nil.set 0 (.int .i64 m)).set 1 (.int .i64 n)).set 5 (.int .i64 (eD m k))).set 6 (.int .i64 k))) (fun _=>.nil) (fun k=>k≤n) (fun k=>n-k) 0 (aXU _) (by (repeat' (first|exact PF.nil_le|refine PF.aJ ?_ ?_))<;>first|(simp only[go_sem,eD]<;>rfl)|rfl) PH.nil_le ?_;intro k hk;simp only[go_sem,WF,WJ];by_cases hlt:k<n
 ·have l:(k:Int)<(n:Nat):=Om;obtain⟨b1,b2⟩:=WO J (i:=k) Om;have hs:=BZ J k Om;have hb:((m:Int)-(k:Int)).natAbs≤1000:=Om;have p:=a0O (aZD hs (a0Z Om (Om:k≤2))) hb;rw[← Int.natAbs_mul] at p;have e:(1000:Nat) ^ 2*1000=1000000000:=by decide
  have w1:IntKind.i64.wrap ((m:Int)-(k:Int))=(m:Int)-k:=wrap_i64 Om Om;have w2:IntKind.i64.wrap (eD m k*((m:Int)-(k:Int)))=eD m k*((m:Int)-k):=wrap_i64 Om Om;have w3:IntKind.i64.wrap ((k:Int)+1)=(k:Int)+1:=wrap_i64 Om Om;have U:¬ ((k:Int)+1)=0:=Om;obtain⟨b3,b4⟩:=WO J (i:=k+1) Om;have hq:eD m (k+1)=Int.tdiv (eD m k*((m:Int)-k)) ((k:Int)+1):=by rw[eD]
  rw[hq] at b3 b4;have w4:IntKind.i64.wrap (Int.tdiv (eD m k*((m:Int)-k)) ((k:Int)+1))=Int.tdiv (eD m k*((m:Int)-k)) ((k:Int)+1):=wrap_i64 Om Om;simp only[go_sem,l,WK,w1,w2,w3,U,w4];simp only[go_sem,WL,wZz k];exact aM (k+1) hlt Om (by (repeat' (first|exact PF.nil_le|refine PF.aJ ?_ ?_))<;>first|(simp only[go_sem,hq]<;>rfl)|rfl) PH.nil_le
 ·have l:¬ (k:Int)<(n:Nat):=Om;have:k=n:=Om;subst this;simp only[go_sem,l,WM];have R:(if eD m k<0 then 0 else eD m k)=max (eD m k) 0:=by split<;>omega
  rw[R];refine bV (.inr rfl) Ev ?_;rfl
def DW (k:Nat) (b:Bool):Nat:=if b then k+1 else k
theorem PP {α:Type} (q:α→Bool) (l:List α) {i:Nat} (h:i<l.length):(l.take (i+1)).countP q=DW ((l.take i).countP q) (q l[i]):=by
 rw[aZT h,List.countP_append];unfold DW;cases p:q l[i]<;>simp[p]
def xU (sc:List (List Int)) (set:List Int) (m:Int) (n i:Nat):PF:=((((((PF.nil.set 1 (ints set)).set 2 (.int .i64 m)).set 7 (.int .i64 n)).set 14 (lay sc)).set 15 (.int .i64 (sc.length:Nat))).set 16 (.int .i64 i))
def kY (sc:List (List Int)) (set:List Int) (m:Int) (n i:Nat) (b:Nat) (s:List Int) (j:Nat):PF:=((((((((((PF.nil.set 1 (ints set)).set 2 (.int .i64 m)).set 7 (.int .i64 n)).set 14 (lay sc)).set 15 (.int .i64 (sc.length:Nat))).set 16 (.int .i64 i)).set 10 (.int .i64 b)).set 20 (ints s)).set 21 (.int .i64 (s.length:Nat))).set 22 (.int .i64 j))
theorem Tg {C:Ctx} {K:bT} [Up K] (sc:List (List Int)) (set:List Int) (hl:set.length≤1000000000000000) (m:Int) (n i b:Nat) (s:List Int) (j:Nat) (d:Int) (k:Nat) (U:k≤dT set d) {F:PF} {H:PH}
  (hF:(((kY sc set m n i b s j).set 13 (.int .i64 d)).set 11 (.int .i64 k)).le F)
  (R:K (.exit 4) (((kY sc set m n i b s j).set 13 (.int .i64 d)).set 11 (.int .i64 (dT set d:Nat))) H) :
  aA.wp C (.loop sX) K F H:=by
 refine wp_loop (α:=Nat) (fun k=>((kY sc set m n i b s j).set 13 (.int .i64 d)).set 11 (.int .i64 k)) (fun _=>H) (fun k=>k≤dT set d) (fun k=>dT set d-k) k U hF PH.le_refl ?_;intro k U;have β:=jh set d;by_cases hlt:k<set.length
 ·have l:(k:Int)<(set.length:Nat):=Om;have p:(set.map fun n=>[PV.int .i64 n])[k]?=some [.int .i64 set[k]]:=by simp[hlt]
  by_cases c:k<dT set d
  ·have J:set[k]<d:=GC set d c;simp only[go_sem,sX,CB,kY,aXI,l,p,J,j6,wZz k];exact aM (k+1) c Om Lq PH.le_refl
  ·have e:k=dT set d:=Om;subst e;have J:¬ set[dT set d]<d:=Rh set d hlt;simp only[go_sem,sX,CB,kY,aXI,l,p,J];refine Up.up ?_ R;unfold kY;exact Lq
 ·have l:¬ (k:Int)<(set.length:Nat):=Om;have e:k=dT set d:=Om;subst e;simp only[go_sem,sX,CB,kY,aXI,l];refine Up.up ?_ R;unfold kY;exact Lq
theorem aaT {C:Ctx} {K:bT} [Up K] (sc:List (List Int)) (set:List Int) (hl:set.length≤1000000000000000) (hs:set.Pairwise (· < ·)) (m:Int) (n i:Nat) (s:List Int) (η:s.length≤1000000000000000) (δ:s.Pairwise (· < ·)) {F:PF} {H:PH}
  (hF:((kY sc set m n i 0 s 0).set 11 (.int .i64 0)).le F)
  (hK:K (.exit 2) ((xU sc set m n i).set 10 (.int .i64 (kM set s:Nat))) H) :
  aA.wp C (.loop xE) K F H:=by
 refine wp_loop (α:=Nat × Nat) (fun t=>(kY sc set m n i ((s.take t.1).countP fun d=>set.contains d) s t.1).set 11 (.int .i64 t.2)) (fun _=>H) (fun t=>t.1≤s.length∧∀ d∈s.drop t.1,t.2≤dT set d) (fun t=>s.length-t.1) (0,0) ⟨aXU _,fun d _=>aXU _⟩ (by simpa using hF) PH.le_refl ?_;rintro⟨j,k⟩ ⟨hj,hk⟩;simp only at hj hk;by_cases hlt:j<s.length
 ·have R:(j:Int)<(s.length:Nat):=Om;have β:(s.map fun n=>[PV.int .i64 n])[j]?=some [.int .i64 s[j]]:=by simp[hlt]
  have p:=PP (fun d=>set.contains d) s hlt;have J:s.drop j=s[j]::s.drop (j+1):=aZG hlt;have γ:k≤dT set s[j]:=hk _ (by rw[J]; exact List.mem_cons_self ..);have aWU:∀ d∈s.drop (j+1),dT set s[j]≤dT set d:=by intro d hd;have:=δ.sublist (List.drop_sublist j s);rw[J,List.pairwise_cons] at this;exact agZ set (Int.le_of_lt (this.1 d hd))
  have l:=auL hs s[j];have ε:(s.take j).countP (fun d=>set.contains d)≤j:=aZD List.countP_le_length (by rw[aYA]; omega);generalize (s.take j).countP (fun d=>set.contains d)=b at *
  generalize s[j]=d at *
  simp only[go_sem,xE,SF,kY,R,xk,β];have sk:=fun {K:bT} [Up K] {F:PF}=>Tg (C:=C) (K:=K) sc set hl m n i b s j d k γ (F:=F) (H:=H);refine sk (by unfold kY; exact Lq) ?_;have ζ:=jh set d;by_cases c:dT set d<set.length
  ·have c':((dT set d:Nat):Int)<(set.length:Nat):=Om;have U:(set.map fun n=>[PV.int .i64 n])[dT set d]?=some [.int .i64 set[dT set d]]:=by simp[c]
   have hg:set.getD (dT set d) 0=set[dT set d]:=by simp[aYK,c]
   rw[decide_eq_true c,aYE,hg] at l;by_cases c2:set[dT set d]=d
   ·rw[decide_eq_true c2] at l;rw[l] at p;simp only[go_sem,kY,xF,aXI,c',U,bM c2,j7,wZz b,xG,wZz j];exact aM (j+1,dT set d) ⟨hlt,aWU⟩ (by simp only; omega) (by (repeat' (first|exact PF.nil_le|refine PF.aJ ?_ ?_))<;>first|(simp only[go_sem,p,DW]<;>rfl)|rfl) PH.le_refl
   ·rw[decide_eq_false c2] at l;rw[l] at p;simp only[go_sem,kY,xF,aXI,c',U,bF c2,xG,wZz j];exact aM (j+1,dT set d) ⟨hlt,aWU⟩ (by simp only; omega) (by (repeat' (first|exact PF.nil_le|refine PF.aJ ?_ ?_))<;>first|(simp only[go_sem,p,DW]<;>rfl)|rfl) PH.le_refl
  ·have c':¬ ((dT set d:Nat):Int)<(set.length:Nat):=Om;rw[decide_eq_false c,aXV] at l;rw[l] at p;simp only[go_sem,kY,xF,aXI,c',xG,wZz j];exact aM (j+1,dT set d) ⟨hlt,aWU⟩ (by simp only; omega) (by (repeat' (first|exact PF.nil_le|refine PF.aJ ?_ ?_))<;>first|(simp only[go_sem,p,DW]<;>rfl)|rfl) PH.le_refl
 ·have R:¬ (j:Int)<(s.length:Nat):=Om;have:j=s.length:=Om;subst this;simp only[go_sem,xE,SF,kY,R,aYS];refine Up.up ?_ hK;unfold xU kM;exact Lq
theorem apP {C:Ctx} (sc:List (List Int)) (γ:sc.length≤1000000000000000) (U:∀ s∈sc,s.length≤1000000000000000∧s.Pairwise (· < ·)) (set:List Int) (hl:set.length≤1000000000000000) (hs:set.Pairwise (· < ·)) (m:Int) :
  CA.wp C (aW vd.res (aL (.int .i64 (xV sc set m:Nat)))) (PF.args [lay sc,ints set,.int .i64 m]) .nil:=by
 simp only[go_sem,CA,xe,xf,xg,vd,aXI];refine wp_loop (α:=Nat) (fun i=>xU sc set m ((sc.take i).countP fun s=>decide (((kM s set:Nat):Int)>m)) i) (fun _=>.nil) (fun i=>i≤sc.length) (fun i=>sc.length-i) 0 (aXU _) (by unfold xU; exact Lq) PH.nil_le ?_;intro i hi;by_cases hlt:i<sc.length
 ·have p:(i:Int)<(sc.length:Nat):=Om;have R:(sc.map fun r=>[ints r])[i]?=some [ints sc[i]]:=by simp[hlt]
  have l:=PP (fun s=>decide (((kM s set:Nat):Int)>m)) sc hlt;obtain⟨k1,k2⟩:=U sc[i] (aXM hlt);have β:(sc.take i).countP (fun s=>decide (((kM s set:Nat):Int)>m))≤i:=aZD List.countP_le_length (by rw[aYA]; omega);generalize (sc.take i).countP (fun s=>decide (((kM s set:Nat):Int)>m))=n at *
  generalize sc[i]=s at *
  have J:kM set s=kM s set:=jr (hs.imp (fun h=>by omega)) (k2.imp (fun h=>by omega));simp only[go_sem,IM,SE,xU,p,xh,R,xi,xj,aXI];have one:=fun {K:bT} [Up K] {F:PF} {H:PH}=>aaT (C:=C) (K:=K) sc set hl hs m n i s k1 k2 (F:=F) (H:=H);refine one (by unfold kY; exact Lq) ?_;rw[J];by_cases c:((kM s set:Nat):Int)>m
  ·rw[decide_eq_true c] at l;simp only[go_sem,xU,IN,c,j8,wZz n,IP,wZz i];exact aM (i+1) hlt Om (by (repeat' (first|exact PF.nil_le|refine PF.aJ ?_ ?_))<;>first|(simp only[go_sem,l,DW]<;>rfl)|rfl) PH.nil_le
  ·rw[decide_eq_false c] at l;simp only[go_sem,xU,IN,c,IP,wZz i];exact aM (i+1) hlt Om (by (repeat' (first|exact PF.nil_le|refine PF.aJ ?_ ?_))<;>first|(simp only[go_sem,l,DW]<;>rfl)|rfl) PH.nil_le
 ·have p:¬ (i:Int)<(sc.length:Nat):=Om;have:i=sc.length:=Om;subst this;rw[aYS];simp only[go_sem,IM,SE,xU,p,j9];refine bV (.inr rfl) Ev ?_;rfl
def Kept (f:aK) (p:cB) (xs:List Int):Prop:=∀ i,i<f.aWC.length→dR f p i>0→fA f xs i≤dR f p i
theorem Kept.nil (f:aK) (p:cB):Kept f p []:=fun i _ h=>by
 have:fA f [] i=0:=by unfold fA; split<;>simp
 omega
def vS (f:aK) (p:cB) (xs:List Int) (d:Nat) (k:Nat):Prop:=∀ i,i<f.aWC.length→4-(k:Int)<lvl f i→dR f p i>0→fA f (xs++[(d:Int)]) i≤dR f p i
theorem vS.zero {f:aK} (hV:VF f) {p:cB} (xs:List Int) (d:Nat):vS f p xs d 0:=fun i hi h _=>by
 have:=hV.kZ hi;omega
theorem vS.done {f:aK} (hV:VF f) {p:cB} (J:dR f p 0≤0) {xs:List Int} {d:Nat} (h:vS f p xs d 4):Kept f p (xs++[(d:Int)]):=fun i hi l=>by
 have:=hV.kZ hi;by_cases e:i=0
 ·subst e; omega
 ·exact h i hi Om l
theorem vS.next {f:aK} (hV:VF f) {p:cB} {xs:List Int} {d k:Nat} (hd:d<f.aVZ.length) (hk:k<4) (R:Kept f p xs) (h:vS f p xs d k) (U:dR f p (upN f k (cX f d))>0→fA f (xs++[(d:Int)]) (upN f k (cX f d))≤dR f p (upN f k (cX f d))):vS f p xs d (k+1):=fun i hi hl J=>by
 by_cases e:4-(k:Int)<lvl f i
 ·exact h i hi e J
 have l:lvl f i=4-(k:Int):=Om;by_cases c:i=upN f k (cX f d)
 ·subst c; exact U J
 have:fA f (xs++[(d:Int)]) i=fA f xs i:=by
  unfold fA;split
  ·rfl
  ·rw[List.countP_append,List.countP_cons,List.countP_nil];have:OP f i (d:Int)=false:=by unfold OP cT;rw[l,show (4-(4-(k:Int)).toNat)=k by omega,aZL];simp[show ¬ upN f k (cX f d)=i from fun h=>c h.symm]
   rw[this];simp
 rw[this];exact R i hi J
theorem abM {q:Nat→Bool} {n:Nat}:∀ {i:Nat},i<n→q i=true→((aXQ n).filter q)[(aXQ i).countP q]?=some i:=by
 intro i hi l;have e:aXQ n=aXQ i++(i::aZF (i+1) (n-i-1)):=by rw[List.range_eq_range',List.range_eq_range',show i::aZF (i+1) (n-i-1)=aZF i (n-i-1+1) from rfl];have:=List.range'_append (s:=0) (m:=i) (n:=n-i-1+1) (step:=1);rw[Nat.one_mul,aYD] at this;rw[this];congr 1;omega
 rw[e,List.filter_append,List.filter_cons_of_pos l,List.countP_eq_length_filter,aZY (aXL _),Nat.sub_self];rfl
def InR (l:List Int) (n:Nat):Prop:=∀ x∈l,0≤x∧x<(n:Int)
def NX (f:aK) (i:List (List Int)) (r:Int) (l:List Int):Bool:=!l.isEmpty&&vi f i r l
def asR (f:aK) (J:List (List Int)) (r:Int) (p:List (List Int)) (d:Nat):List (List Int):=match p.findIdx? (fun l=>vi f J r (l++[(d:Int)])) with
 | some i=>p.set i (p.getD i []++[(d:Int)])
 | none=>p++[[(d:Int)]]
def fm (f:aK) (i:List (List Int)) (r:Int):Nat→List (List Int)
 | 0=>[]
 | d+1=>asR f i r (fm f i r d) d
def aaH (f:aK) (i:List (List Int)) (r:Int):Bool:=(aXQ f.aVZ.length).all fun d=>vi f i r [(d:Int)]
theorem set_perm:∀ (p:List (List Int)) (i:Nat) (x:Int),i<p.length→((p.set i (p.getD i []++[x])).flatten).Perm (p.flatten++[x])
 | [],i,x,h=>by cases h
 | l::p,0,x,_=>by simp only[a0Y,List.getD_cons_zero,List.flatten_cons,aYQ];exact List.Perm.append_left _ List.perm_append_comm
 | l::p,i+1,x,h=>by have:=set_perm p i x (by simpa using h);simp only[List.set_cons_succ,List.getD_cons_succ,List.flatten_cons,aYQ];exact List.Perm.append_left _ this
structure wh (f:aK) (now:List (List Int)) (r:Int) (n:Nat) (w:List (List Int)):Prop where
 ok:∀ l∈w,NX f now r l=true
 len:w.flatten.length=n
 nd:w.flatten.Nodup
 rng:InR w.flatten n
theorem wh.put {f:aK} {p:List (List Int)} {r:Int} {n:Nat} {w:List (List Int)} (h:wh f p r n w) (U:vi f p r [(n:Int)]=true):wh f p r (n+1) (asR f p r w n):=by
 have key:∀ u:List (List Int),u.flatten.Perm (w.flatten++[(n:Int)])→(∀ l∈u,NX f p r l=true)→wh f p r (n+1) u:=fun u R α=>by
  refine⟨α,by rw[R.length_eq,aXN,h.len]; rfl,R.nodup_iff.2 ?_,fun x hx=>?_⟩
  ·rw[aZZ];refine⟨h.nd,by simp,fun a U b hb=>?_⟩;rw[aZW] at hb;subst hb;have:=h.rng a U;omega
  ·have:=R.mem_iff.1 hx;rw[aZC,aZW] at this;rcases this with hx | rfl
   ·have:=h.rng x hx; omega
   ·omega
 unfold asR;split
 ·rename_i i hi;obtain⟨hlt,R,-⟩:=List.findIdx?_eq_some_iff_getElem.1 hi;refine key _ (set_perm w i n hlt) fun l J=>?_;rcases List.mem_or_eq_of_mem_set J with J | rfl
  ·exact h.ok l J
  ·unfold NX;rw[aYK,aXT hlt,a0I,R];simp
 ·refine key _ (by rw[List.flatten_append]; simp) fun l J=>?_;rw[aZC,aZW] at J;rcases J with J | rfl
  ·exact h.ok l J
  ·unfold NX;rw[U]; rfl
theorem ud {f:aK} {i:List (List Int)} {r:Int} (p:aaH f i r=true):∀ d,d≤f.aVZ.length→wh f i r d (fm f i r d)
 | 0,_=>⟨(fun l h=>by cases h),rfl,.nil,fun x h=>by cases h⟩
 | d+1,J=>(ud p d Om).put (aYF.1 p d (aYV.2 Om))
end Go.PM
namespace Go.RO
open Go
def ins (x:Int):List Int→List Int
 | []=>[x]
 | y::ys=>if y<x then y::ins x ys else if y=x then y::ys else x::y::ys
end Go.RO
namespace Go.PM
open Go Go.Na






def ayT (c:UInt8) (n:Nat):List UInt8:=[c,UInt8.ofNat (97+n/26%26),UInt8.ofNat (97+n%26)]
def ye (ds:List cI) (level parent aWS:Nat):List cI:=ds++[⟨ayT 110 ds.length,(level:Nat),(parent:Nat),(aWS:Nat),iH⟩]
theorem arY (a b:Nat) (p:a<4294967296) (J:b<4294967296):(mkT (a:Int) (b:Int)).Ok:=by
 rw[O5];have i:=a0F a (aXJ a b);have l:=a0F b (aXJ a b);have k1:nl (a/aXJ a b)≤1:=(gQ _ _).2 Om;have k2:nl (b/aXJ a b)≤1:=(gQ _ _).2 Om;refine⟨bC _,bC _,?_,?_⟩
 ·show (aI _).length≤_;rw[bH]; omega
 ·show (aI _).length≤_;rw[bH]; omega
theorem Cn {n:Nat} (h:n≤1000000):dC (n:Int):=by unfold dC; omega
def v6 (ds:List cI):Prop:=∀ x∈ds,x.aWN.Ok∧dC x.level∧dC x.parent
theorem v6.dom {ds:List cI} (h:v6 ds) {level parent aWS:Nat} (l:level≤1000) (p:parent≤1000):v6 (ye ds level parent aWS):=fun x i=>by
 unfold ye at i;rw[aZC,aZW] at i;rcases i with i | rfl
 ·exact h x i
 ·exact⟨arY 0 1 (by decide) (by decide),Cn Om,Cn Om⟩
structure FM (f:aK):Prop where
 ok:f.Ok
 km:∀ p∈f.aWD,1≤p.k∧p.k≤2∧0≤p.m∧p.m≤2
 aVZ:f.aVZ.length≤9
 pols:1≤f.aWD.length∧f.aWD.length≤2
 vols:∀ x∈f.aWB,0≤x.aWK∧x.aWK<f.aWD.length
theorem FM.pol {f:aK} (h:FM f) {v:Nat} (l:v<f.aWB.length):zU f v<f.aWD.length∧FX f v∈f.aWD:=by
 have p:=h.vols _ (aXM l);have J:zU f v=(f.aWB[v]).aWK.toNat:=by rw[zU,getD_at l]
 have i:zU f v<f.aWD.length:=Om;refine⟨i,?_⟩;unfold FX;rw[aYK,aXT i,a0I];exact aXM i
abbrev aNU (l:List Int) (a:Nat):bX:=.rows 2 [[ints l,.int .i64 (a:Nat)]]
section
variable {C:Ctx} {F:PF} {H Hs:PH} {l:List Int} {o a:Nat}
end
structure ME where
 o:Nat
 o4:Nat
 o5:Nat
 vols:Nat
abbrev ME.boxes (E:ME) (l:List Int) (ext i p J R wp wv:PV) (a:Nat):List BX:=[(E.o5,flB ext i p J R wp wv),(E.o,aNU l a),(E.o4,flZ)]





def aPX (ds:List cI) (i:Nat) (d:cI):Prop:=∃ l p u:Nat,d.name=ayT 110 (i+1)∧d.level=l∧1≤l∧l≤4∧d.parent=p∧p≤i∧(lvs ds)[p]?=some ((l:Int)-1)∧d.aWS=u∧1≤u∧u≤64∧d.aWN=iH
structure DV (ds:List cI):Prop where
 root:ds[0]?=some jE
 dom:∀ i (hi:i+1<ds.length),aPX ds i ds[i+1]
theorem DV.new {ds:List cI} (h:DV ds) {level parent up:Nat} (h1:1≤level) (h4:level≤4) (J:(lvs ds)[parent]?=some ((level:Int)-1)) (u1:1≤up) (u2:up≤64) :
  DV (ye ds level parent up)∧(lvs (ye ds level parent up))[ds.length]?=some (level:Int):=by
 have α:parent<ds.length:=by
  have:=(aYP.1 J).1
  rwa [aXI] at this
 unfold ye;refine⟨⟨by rw[a0C Om]; exact h.root,fun i hi=>?_⟩,?_⟩
 ·simp only[aXN,aXR] at hi;by_cases hlt:i+1<ds.length
  ·rw[List.getElem_append_left hlt];obtain⟨l,p,v,g1,g2,g3,g4,R,U,g7,g8⟩:=h.dom i hlt;exact⟨l,p,v,g1,g2,g3,g4,R,U,vM g7,g8⟩
  ·have:i+1=ds.length:=Om;rw[a1A Om];simp only[List.getElem_singleton];exact⟨level,parent,up,by rw[this],rfl,h1,h4,rfl,by omega,vM J,rfl,u1,u2,rfl⟩
 ·unfold lvs;rw[aYN,aZY (by rw[aXI]; exact aXL _),aXI,Nat.sub_self];rfl




theorem aP.store {H:PH} {B:List BX} {L:List LI} (h:aP H B L) (i:Nat) {q s n:Nat} {rows:List (List PV)} (hi:L[i]?=some (.osl q s 0 n,s,rows)) (k:Nat) (c:List PV) :
  ∃ rs,H q=some (.rows s rs)∧n≤rs.length∧rs.take n=rows∧aP (H.set q (.rows s (rs.set k c))) B (L.set i (.osl q s 0 n,s,rows.set k c)):=by
 obtain⟨rs,U,h2,J,R⟩:=(h.own i hi).id rfl;injection h2 with _ _ _ hn
 subst hn;refine⟨rs,U,J,R,h.dd i hi (.inr ⟨q,rs.set k c,by rw[aZM],by rw[cD],by rw[aZM,aZM]; exact J,by rw[aZM,List.take_set,R]⟩) (fun p l=>.inl l) fun p _ l=>?_⟩;have:p≠q:=l q rfl;rw[aQ,if_neg this]
def aEH:Rg:=[iA 4 (.box false (Tm 1)),iA 6 (.alloc [(.int .i64 0),(.int .i64 0)]),iI 7 0]
def aEI:Rg:=[iF 10 1 4,iL 11 10,iC 12 .lss 11 0,iM 13 12,gF 14 1 4 13 false,gL 15 14 13 false,gM 16 0 13 false,gB 17 .geq 15 16 13 false,iQ 18 13 17]
def aEJ:Rg:=[iA 19 (.build [(.int .i64 0),(.int .i64 0)] []),iS 2 6 19,iI 7 110]
def aEK:Rd:=[(iA 21 (.aXE (true,[.int .i64,.int .i64])),true),(iA 22 (.build [(.int .i64 0),(.int .i64 0)] [(0,1,(Ci 1)),(1,1,(Ci 1))]),true),(⟨none,.insert (true,[.int .i64,.int .i64]) (Tm 21) (Tm 22) (Ci 2),none⟩,true),(iA 23 (.build [(.int .i64 0),(.int .i64 0)] [(0,1,(Ci 2)),(1,1,(Ci 2))]),true),(⟨none,.insert (true,[.int .i64,.int .i64]) (Tm 21) (Tm 23) (Ci 3),none⟩,true),(iA 24 (.build [(.int .i64 0),(.int .i64 0)] [(0,1,(Ci 3)),(1,1,(Ci 3))]),true),(⟨none,.insert (true,[.int .i64,.int .i64]) (Tm 21) (Tm 24) (Ci 1),none⟩,true),(iA 25 (.build [(.int .i64 0),(.int .i64 0)] [(0,1,(Ci 3)),(1,1,(Ci 4))]),true),(⟨none,.insert (true,[.int .i64,.int .i64]) (Tm 21) (Tm 25) (Ci 5),none⟩,true),(iM 26 21,false),(iF 27 0 4,true),(iL 28 27,true),(iM 29 2,true),(iA 30 (.build [(.int .i64 0),(.int .i64 0)] [(0,1,(Tm 28)),(1,1,(Tm 29))]),true),(iA 31 (.lookup (true,[.int .i64,.int .i64]) (.int .i64 0) (Tm 26) (Tm 30) true),false),(iM 20 31,false),(iE 32 20 0,false),(iE 33 20 1,false),(iM 8 32,false),(iM 9 33,false)]
def aEL:Rg:=[iM 40 9,iA 41 (.un .not (Tm 40)),iM 39 41]
def aEM:Rg:=[iA 42 (.build [(.int .i64 0),(.int .i64 0)] []),iS 2 6 42,iI 7 110]
def aEN:Rg:=[iM 44 2,iC 45 .neq 44 3,iM 43 45]
def aEO:Rg:=[iM 46 8,iF 47 0 4,iS 1 47 46]
def aEP:Rg:=[iF 49 1 4,iL 50 49,iM 51 0,iC 52 .sub 51 1,iB 53 .eql 50 52,iM 48 53]
def aEQ:Rg:=[iF 54 0 4,⟨none,.store 1 (Tm 54) (Ci 4),none⟩]
def auN:Rg:=[iM 34 8,iF 35 1 4,iL 36 35,iC 37 .add 36 1,iA 38 (.build [(.int .i64 0),(.int .i64 0)] [(0,1,(Tm 34)),(1,1,(Tm 37))]),iS 2 4 38]
def auO:Rg:=[iO 55 2 4,iS 2 6 55,iI 7 0]
def ahH:aA:=(sq aEH (.seq (sq aEI (.cond (Tm 18) (sq aEJ .ret) .skip)) (dq aEK (.seq (.block 0 (sq aEL (.cond (Tm 39) (sq aEM .ret) (sq aEN (.cond (Tm 43) (.region aEO) (sq aEP (.cond (Tm 48) (.region aEQ) (.region auN)))))))) (sq auO .ret)))))
def step:aS:=⟨3,56,ahH,[.cell 6 (some 2),.tmp 7]⟩
def aDR:Rg:=[iT 4 false]
def aDS:Rg:=[iM 6 0,iN 7 6,iM 8 1,iN 9 8,iB 10 .neq 7 9]
def aDT:Rg:=[iT 4 false]
def aDU:Rg:=[iI 5 0]
def aDV:Rg:=[iM 11 5,iM 12 0,iN 13 12,iB 14 .lss 11 13]
def aDW:Rd:=[(iM 17 0,false),(iM 18 5,false),(iX 19 1 17 18,false),(iL 20 19,false),(iM 21 1,false),(iM 22 5,false),(iX 23 1 21 22,false),(iL 24 23,false),(iB 25 .neq 20 24,false)]
def aDX:Rg:=[iT 4 false]
def aDY:Rg:=[iM 15 5,iC 16 .add 15 1,iM 5 16]
def aDQ:aA:=(.seq (sq aDV (.cond (Tm 14) .skip (.exit 0))) (.seq (.block 1 (dq aDW (.cond (Tm 25) (sq aDX .ret) .skip))) (.region aDY)))
def aDZ:Rg:=[iT 4 true]
def agN:aA:=(sq aDR (.seq (sq aDS (.cond (Tm 10) (sq aDT .ret) .skip)) (.seq (sq aDU (.block 0 (.loop aDQ))) (sq aDZ .ret))))
def same:aS:=⟨2,26,agN,[.tmp 4]⟩
def apD:Rg:=[iT 0 false]
def apE:Rg:=[iA 10 (.call 144 [(Ci 1)]),iA 1 (.alloc [(.int .i64 0),(.int .i64 0)]),iS 2 1 10]
def apF:Rg:=[iO 12 2 1,iA 13 (.call 145 [(Ci 1),(Tm 12),(Ci 1)]),iM 11 13,iE 14 11 0,iE 15 11 1,iA 2 (.alloc [(.int .i64 0),(.int .i64 0)]),iS 2 2 14,iM 3 15]
def apG:Rg:=[iO 17 2 2,iA 18 (.call 145 [(Ci 1),(Tm 17),(Ci 2)]),iM 16 18,iE 19 16 0,iE 20 16 1,iA 4 (.alloc [(.int .i64 0),(.int .i64 0)]),iS 2 4 19,iM 5 20]
def apH:Rg:=[iO 22 2 4,iA 23 (.call 145 [(Ci 1),(Tm 22),(Ci 3)]),iM 21 23,iE 24 21 0,iE 25 21 1,iA 6 (.alloc [(.int .i64 0),(.int .i64 0)]),iS 2 6 24,iM 7 25]
def apI:Rg:=[iO 27 2 6,iA 28 (.call 145 [(Ci 1),(Tm 27),(Ci 1)]),iM 26 28,iE 29 26 0,iE 30 26 1,iA 8 (.alloc [(.int .i64 0),(.int .i64 0)]),iS 2 8 29,iM 9 30]
def apJ:Rg:=[iO 31 2 1,iA 32 (.build [(.int .i64 0),(.int .i64 0)] [(0,1,(Ci 1))]),iA 33 (.eqs false [.int,.int] (Tm 31) (Tm 32)),iM 34 33,gM 35 3 34 true,gC 36 .eql 35 0 34 true,iP 37 34 36,iM 38 37,gM 39 5 38 true,gC 40 .eql 39 0 38 true,iP 41 38 40,iM 42 41,gM 43 7 42 true,gC 44 .eql 43 0 42 true,iP 45 42 44,iM 46 45,gM 47 9 46 true,gC 48 .eql 47 110 46 true,iP 49 46 48,iM 50 49,gO 51 2 6 50 true,iG 52 (.build [(.int .i64 0),(.int .i64 0)] [(0,1,(Ci 4))]) 50 true,iG 53 (.eqs false [.int,.int] (Tm 51) (Tm 52)) 50 true,iP 54 50 53,iM 55 54,iG 56 (.aWF true 1 2 [(.int .i64 0)] [(0,(Ci 2)),(1,(Ci 1))]) 55 true,iG 57 (.aWF true 1 1 [.aB] [(0,(Tm 56))]) 55 true,gO 58 2 6 55 true,gK2 59 146 57 58 55 true,iG 60 (.aWF true 1 2 [(.int .i64 0)] [(0,(Ci 1)),(1,(Ci 2))]) 55 true,gK2 61 91 59 60 55 true,iP 62 55 61,iM 63 62,iG 64 (.call 144 [(Ci 0)]) 63 true,iG 65 (.build [(.int .i64 0),(.int .i64 0)] [(0,1,(Ci 4))]) 63 true,iG 66 (.eqs false [.int,.int] (Tm 64) (Tm 65)) 63 true,iP 67 63 66,iM 0 67]
def S5:aA:=(sq apD (sq apE (sq apF (sq apG (sq apH (sq apI (sq apJ .ret)))))))
def u9:aS:=⟨0,68,S5,[.tmp 0]⟩
def aIY:Rg:=[iA 5 (.box true (Tm 1)),iT 8 false]
def aIZ:Rg:=[iM 20 3,iN 21 20,iC 22 .gtr 21 20]
def aJA:Rg:=[iA 23 (.call 26 []),iM 8 23]
def aJB:Rg:=[iI 9 0]
def aJC:Rg:=[iM 24 9,iM 25 3,iN 26 25,iB 27 .lss 24 26]
def aJD:Rg:=[iM 30 3,iM 31 9,iX 32 1 30 31,iL 33 32,iN 34 33,iC 35 .gtr 34 20]
def aJE:Rg:=[iA 36 (.call 26 []),iM 8 36]
def aJF:Rg:=[iM 28 9,iC 29 .add 28 1,iM 9 29]
def aIX:aA:=(.seq (sq aJC (.cond (Tm 27) .skip (.exit 0))) (.seq (.block 1 (sq aJD (.cond (Tm 35) (sq aJE .ret) .skip))) (.region aJF)))
def aJG:Rg:=[iM 37 0,iA 38 (.call 24 [(Tm 37),(Ci 5)]),iM 10 38]
def aBK:Rd:=[(iF 39 0 5,false),(iL 40 39,false),(iA 41 (.call 24 [(Tm 40),(Ci 5)]),true),(iA 42 (.bin .add (Ci 1) (Tm 41)),true),(iF 43 1 5,true),(iL 44 43,true),(iA 45 (.call 24 [(Tm 44),(Ci 5)]),true),(iA 46 (.build [(.int .i64 0),(.int .i64 0)] [(0,1,(Tm 42)),(1,1,(Tm 45))]),false),(iA 11 (.alloc [(.int .i64 0),(.int .i64 0)]),true),(iS 2 11 46,true)]
def aBL:Rg:=[iM 48 0,iO 49 2 5,iM 50 2,iA 51 (.call 145 [(Tm 48),(Tm 49),(Tm 50)]),iM 47 51,iE 52 47 0,iE 53 47 1,iA 12 (.alloc [(.int .i64 0),(.int .i64 0)]),iS 2 12 52,iM 13 53]
def aBM:Rg:=[iM 55 0,iO 56 2 5,iM 57 2,iA 58 (.call 92 [(Tm 55),(Tm 56),(Tm 57)]),iM 54 58,iE 59 54 0,iE 60 54 1,iA 14 (.alloc [(.int .i64 0),(.int .i64 0)]),iS 2 14 59,iM 15 60]
def aBN:Rd:=[(iM 62 10,true),(iO 63 2 11,true),(iM 64 2,false),(iA 65 (.call 24 [(Tm 64),(Ci 4)]),true),(iA 66 (.bin .add (Ci 1) (Tm 65)),false),(iA 67 (.call 145 [(Tm 62),(Tm 63),(Tm 66)]),true),(iM 61 67,false),(iE 68 61 0,false),(iE 69 61 1,true),(iA 16 (.alloc [(.int .i64 0),(.int .i64 0)]),true),(iS 2 16 68,true),(iM 17 69,false)]
def aBO:Rd:=[(iM 71 10,true),(iO 72 2 11,true),(iM 73 2,false),(iA 74 (.call 24 [(Tm 73),(Ci 4)]),true),(iA 75 (.bin .add (Ci 1) (Tm 74)),false),(iA 76 (.call 92 [(Tm 71),(Tm 72),(Tm 75)]),true),(iM 70 76,false),(iE 77 70 0,false),(iE 78 70 1,true),(iA 18 (.alloc [(.int .i64 0),(.int .i64 0)]),true),(iS 2 18 77,true),(iM 19 78,false)]
def aBP:Rd:=[(iA 79 (.call 26 []),true),(iM 80 79,false),(gO 81 2 12 80 true,false),(gO 82 2 14 80 true,false),(iG 83 (.eqs false [.int,.int] (Tm 81) (Tm 82)) 80 true,false),(iP 84 80 83,false),(iM 85 84,false),(gM 86 13 85 true,false),(gM 87 15 85 true,false),(gB 88 .eql 86 87 85 true,false),(iP 89 85 88,false),(iM 90 89,false),(gO 91 2 16 90 true,false),(gO 92 2 18 90 true,false),(iG 93 (.eqs false [.int,.int] (Tm 91) (Tm 92)) 90 true,false),(iP 94 90 93,false),(iM 95 94,false),(gM 96 17 95 true,false),(gM 97 19 95 true,false),(gB 98 .eql 96 97 95 true,false),(iP 99 95 98,false),(iM 100 99,false),(gM 101 3 100 true,false),(gO 102 2 5 100 true,false),(gK2 103 146 101 102 100 true,true),(gM 104 3 100 true,true),(gO 105 2 5 100 true,true),(gK2 106 93 104 105 100 true,true),(gK2 107 91 103 106 100 true,true),(iP 108 100 107,false),(iM 109 108,false),(gM 110 3 109 true,false),(gO 111 2 11 109 true,false),(gK2 112 146 110 111 109 true,true),(gM 113 3 109 true,true),(gO 114 2 11 109 true,true),(gK2 115 93 113 114 109 true,true),(gK2 116 91 112 115 109 true,true),(iP 117 109 116,false),(iM 8 117,false)]
def arL:aA:=(sq aIY (.seq (sq aIZ (.cond (Tm 22) (sq aJA .ret) .skip)) (.seq (sq aJB (.block 0 (.loop aIX))) (sq aJG (dq aBK (sq aBL (sq aBM (dq aBN (dq aBO (dq aBP .ret))))))))))
def law:aS:=⟨4,118,arL,[.tmp 8]⟩
open Go Go.RowKit Go.Sort Go.Shelf Go.Proofs
section
variable {E:Env} {H:PH} {w:World}
end
section
variable {C:Ctx} {ρ:Ren} {name:Nat}
end
abbrev lists (i:List (List Int)):PV:=.sl 1 (i.map fun w=>[ints w])
abbrev WPs:=List (PV × List Int)
def dD (ps:WPs):List (List PV):=ps.map fun p=>[p.1]
def nH (ps:WPs):List LI:=ps.map fun p=>(p.1,1,aZ p.2)
def wls (ps:WPs):List (List Int):=ps.map (·.2)
def eS (i:PV) (ps:WPs):List LI:=(i,1,dD ps)::nH ps
section
variable {H:PH} {B:List BX}
theorem lW (ps:WPs):(dD ps).length=ps.length:=aXI _
theorem gw {ps:WPs} {i:Nat} {v:PV} {w:List Int} (hi:ps[i]?=some (v,w)):(nH ps)[i]?=some (v,1,aZ w):=by
 unfold nH;rw[aYG,hi]; rfl
theorem Fu {ps:WPs} {i:Nat} {v:PV} {w:List Int} (hi:ps[i]?=some (v,w)):(dD ps)[i]?=some [v]:=by
 unfold dD;rw[aYG,hi]; rfl
theorem aP.OY (h:aP H B []):aP H B (eS .aB []):=h.rZ 1
theorem aP.inner {l:PV} {ps:WPs} (h:aP H B (eS l ps)) {i:Nat} {v:PV} {w:List Int} (hi:ps[i]?=some (v,w)):bO H 1 v (aZ w):=h.own (i+1) (gw hi)
theorem aP.outer {i:PV} {ps:WPs} (h:aP H B (eS i ps)):bO H 1 i (dD ps):=h.own 0 rfl
theorem KE (a b:List Int):aZ (a++b)=aZ a++aZ b:=aYN
theorem aP.aNS {R:PV} {ps:WPs} (h:aP H B (eS R ps)) {i b:Nat} {v y:PV} {w src:List Int} {K:PV→PH→Prop} (hi:ps[i]?=some (v,w)) (hy:dS H 1 y=some (aZ src)) (hr:roomFor w.length src.length b) (p:src≠[])
  (U:∀ q H',aP H' B ((R,1,dD ps)::(nH ps).set i (.osl q 1 0 (w++src).length,1,aZ (w++src)))→K (.osl q 1 0 (w++src).length) H'):mF H 1 b v y K:=by
 have l:aZ src≠[]:=fun e=>p (List.map_eq_nil_iff.1 e);refine h.append (i+1) (gw hi) hy (by rw[dM,dM]; exact hr) fun v' H' J hv=>?_;obtain⟨q,rfl⟩:=hv l;rw[← KE,dM] at J ⊢;exact U q H' J
theorem aP.aKI {l n i:Nat} {ps:WPs} {v':PV} {p:List Int} (h:aP H B ((.osl l 1 0 n,1,dD ps)::(nH ps).set i (v',1,aZ p))) :
  ∃ rs,H l=some (.rows 1 rs)∧n≤rs.length∧rs.take n=dD ps∧aP (H.set l (.rows 1 (rs.set i [v']))) B (eS (.osl l 1 0 n) (ps.set i (v',p))):=by
 obtain⟨rs,J,R,U,h4⟩:=h.store 0 rfl i [v'];refine⟨rs,J,R,U,?_⟩;have e:eS (.osl l 1 0 n) (ps.set i (v',p))=((.osl l 1 0 n,1,dD ps)::(nH ps).set i (v',1,aZ p)).set 0 (.osl l 1 0 n,1,(dD ps).set i [v']):=by unfold eS dD nH;rw[List.map_set,List.map_set];rfl
 rw[e];exact h4
theorem aP.aBU {i:PV} {ps:WPs} {b:Nat} {y:PV} {K:PV→PH→Prop} (h:aP H B (eS i ps)) (hy:dS H 1 y=some [[.aB]]) (R:roomFor ps.length 1 b)
  (J:∀ q H',aP H' B (eS (.osl q 1 0 (ps.length+1)) (ps++[(.aB,[])]))→K (.osl q 1 0 (ps.length+1)) H'):mF H 1 b i y K:=by
 refine h.append 0 (src:=[[.aB]]) rfl hy (by rw[lW]; exact R) fun v' H' p U=>?_;obtain⟨q,rfl⟩:=U (by simp);have l:=p.rZ 1;rw[aXN,lW] at l ⊢;refine J q H' ?_;have e:eS (.osl q 1 0 (ps.length+1)) (ps++[(.aB,[])])=(((i,1,dD ps)::nH ps).set 0 (.osl q 1 0 (ps.length+1),1,dD ps++[[.aB]]))++[(.aB,1,[])]:=by unfold eS dD nH;rw[aYN,aYN];rfl
 rw[e];exact l
def oZ (l:List (List PV)) (p:List (List Int)):Prop:=l.length=p.length∧∀ (i:Nat) r w,l[i]?=some r→p[i]?=some w→r=[ints w]∨(r=[.aB]∧w=[])
theorem oZ.nil:oZ [] []:=⟨rfl,fun i r w h=>by cases h⟩
theorem oZ.snoc {J:List (List PV)} {R:List (List Int)} {u:PV} {w:List Int} (h:oZ J R) (U:u=ints w∨(u=.aB∧w=[])):oZ (J++[[u]]) (R++[w]):=by
 refine⟨by simp[h.1],fun i r x l p=>?_⟩;rcases Nat.lt_trichotomy i J.length with c | c | c
 ·rw[a0C c] at l;rw[a0C (by rw[← h.1]; exact c)] at p;exact h.2 i r x l p
 ·subst c;rw[aZY (aXL _),Nat.sub_self] at l;rw[h.1,aZY (aXL _),Nat.sub_self] at p;cases l; cases p;rcases U with rfl | ⟨rfl,rfl⟩
  ·exact .inl rfl
  ·exact .inr ⟨rfl,rfl⟩
 ·rw[aZY Om,aYT (by simp; omega)] at l;cases l
theorem oZ.flat {p:List (List PV)} {U:List (List Int)} (h:oZ p U):Flat p:=Flat.of fun r R c l q s rs=>by
 obtain⟨i,hi⟩:=List.mem_iff_getElem?.1 R;have J:=(aYP.1 hi).1;rcases h.2 i r _ hi (aXT (by rw[← h.1]; exact J)) with rfl | ⟨rfl,-⟩
 ·rw[aZW] at l; subst l; rfl
 ·rw[aZW] at l; subst l; rfl
theorem oZ.co {fs:List (List PV)} {ws:List (List Int)} (h:oZ fs ws):Co (.sl 1 fs) (lists ws):=by
 have key:∀ (i:Nat) r t,fs[i]?=some r→(ws.map fun w=>[ints w])[i]?=some t→∃ w,t=[ints w]∧(r=[ints w]∨(r=[.aB]∧w=[])):=fun i r t R l=>by
  rw[aYG] at l;cases hw:ws[i]? with
  | none=>rw[hw] at l; cases l
  | some w =>rw[hw] at l;cases l;exact⟨w,rfl,h.2 i r w R hw⟩
 refine .sl (by rw[aXI,h.1]) (fun i r t R l=>?_) (fun i j p q J U=>?_)
 ·obtain⟨w,rfl,h1 | ⟨h1,-⟩⟩:=key i r t R l<;>subst h1<;>rfl
 ·unfold at2 at J U;cases R:fs[i]? with
  | none=>rw[R] at J; cases J
  | some r =>
   cases l:(ws.map fun w=>[ints w])[i]? with
   | none=>rw[l] at U; cases U
   | some t =>
    rw[R] at J;rw[l] at U;obtain⟨w,rfl,h1⟩:=key i r t R l;rcases h1 with rfl | ⟨rfl,rfl⟩
    ·have:some p=some q:=J.symm.trans U;cases this;exact .refl _
    ·cases j with
     | zero=>cases J; cases U; exact .nil 1
     | succ j=>cases J
end
def Fx (u:PV):Prop:=∀ q s rs,PV.frz q s rs u=u
theorem Fx.int (k:IntKind) (n:Int):Fx (.int k n):=fun _ _ _=>rfl
theorem Fx.bool (b:Bool):Fx (.bool b):=fun _ _ _=>rfl
theorem Fx.sl (n:Nat) (r:List (List PV)):Fx (.sl n r):=fun _ _ _=>rfl
theorem Fx.aB:Fx .aB:=fun _ _ _=>rfl
theorem Fx.ptr (q z i c:Nat):Fx (.ptr q z i c):=fun _ _ _=>rfl
theorem Fx.cO (c:List PV):Fx (.cO c):=fun _ _ _=>rfl
theorem bO.cN {H:PH} {s:Nat} {v:PV} {rows:List (List PV)} (h:bO H s v rows) (q z:Nat) (rs:List (List PV)):PV.frz q z rs v=PV.cN q z rs v:=by
 rcases h with ⟨-,rfl⟩ | ⟨p,rs',rfl,-⟩<;>rfl
def Io (φ:PV→PV) (F:PF):PF:=fun i=>(F i).map φ
theorem BM (φ:PV→PV) (F:PF) (i:Nat):Io φ F i=(F i).map φ:=rfl
theorem EX:∀ (ps:WPs) {H:PH} {B:List BX} {vo:PV} (R:List (List PV)) (J:List (List Int)),oZ R J→aP H B ((vo,1,R++dD ps)::nH ps)→(∀ b∈B,∀ q s rs,bX.frz q s rs b.2=b.2) →
  ∃ (φ:PV→PV) (H1:PH),Co (φ vo) (lists (J++wls ps))∧(∀ u,Fx u→φ u=u)∧(∀ e:Int,φ (.tup [vo,.int .i64 e])=.tup [φ vo,.int .i64 e])∧aP H1 B []∧(∀ F:PF,gT F H (Io φ F) H1)∧∀ o,(H o=none∨vo.oid=some o∨∃ p∈ps,p.1.oid=some o)→H1 o=none
 | [],H,B,vo,R,J,hs,h,hB=>by
  have e0:R++dD []=R:=aZK R;have e1:J++wls []=J:=aZK J;rw[e0] at h;rw[e1];rcases h.own 0 rfl with ⟨h1,rfl⟩ | ⟨q,rs,rfl,_⟩
  ·refine⟨id,H,?_,fun _ _=>rfl,fun _=>rfl,h.Tq 0,fun F=>?_,fun o l=>?_⟩
   ·subst h1;have:J=[]:=List.length_eq_zero_iff.1 hs.1.symm;subst this;exact .nil 1
   ·have:Io id F=F:=funext fun i=>by rw[BM]; simp
    rw[this];exact .refl _ _
   ·rcases l with l | l | ⟨p,U,-⟩
    ·exact l
    ·cases l
    ·cases U
  ·obtain⟨rs,z1,z2,z3,z4,z5⟩:=h.frz 0 rfl;refine⟨PV.frz q 1 rs,H.frz q 1 rs,?_,fun u hu=>hu _ _ _,fun e=>?_,?_,fun F=>.step q z1 (.refl _ _),fun o l=>?_⟩
   ·rw[z3]; exact hs.co
   ·show PV.tup [PV.cN q 1 rs (.osl q 1 0 R.length),.int .i64 e]=_;rw[z2,z3]
   ·have eB:(B.map fun b=>(b.1,b.2.frz q 1 rs))=B:=by
     conv=>rhs; rw[← List.map_id B]
     refine a0X fun b hb=>?_;rw[hB b hb q 1 rs]; rfl
    rw[eB] at z5;exact z5
   ·rw[vJ];rcases l with l | l | ⟨p,U,-⟩
    ·rw[l]; split<;>rfl
    ·have:q=o:=by injection l
     rw[if_pos this.symm]
    ·cases U
 | (v,w)::ps,H,B,vo,R,J,hs,h,hB=>by
  have eo:∀ u:PV,R++[[u]]++dD ps=R++[u]::dD ps:=fun u=>by rw[aYQ]; rfl
  have ew:J++[w]++wls ps=J++wls ((v,w)::ps):=by rw[aYQ]; rfl
  have l:bO H 1 v (aZ w):=h.own 1 rfl;rcases l with ⟨h1,rfl⟩ | ⟨q,rs,rfl,_⟩
  ·have hw:w=[]:=List.map_eq_nil_iff.1 h1;have h2:=h.Tq 1;obtain⟨φ,H1,k1,k2,k3,k4,k5,k6⟩:=EX ps (R++[[.aB]]) (J++[w]) (hs.snoc (.inr ⟨rfl,hw⟩)) (by rw[eo]; exact h2) hB;rw[ew] at k1;refine⟨φ,H1,k1,k2,k3,k4,k5,fun o l=>k6 o ?_⟩;rcases l with l | l | ⟨p,U,l⟩
   ·exact .inl l
   ·exact .inr (.inl l)
   ·rcases aXP.1 U with rfl | U
    ·cases l
    ·exact .inr (.inr ⟨p,U,l⟩)
  ·obtain⟨rs,z1,z2,z3,z4,z5⟩:=h.frz 1 rfl;have eB:(B.map fun b=>(b.1,b.2.frz q 1 rs))=B:=by
    conv=>rhs; rw[← List.map_id B]
    refine a0X fun b hb=>?_;rw[hB b hb q 1 rs]; rfl
   have y0:PV.cN q 1 rs vo=vo:=z4 0 _ (by decide) rfl;have α:PV.frz q 1 rs vo=vo:=((h.own 0 rfl).cN q 1 rs).trans y0;have yp:∀ p∈ps,PV.cN q 1 rs p.1=p.1:=fun p U=>by obtain⟨j,hj⟩:=List.mem_iff_getElem?.1 U;exact z4 (j+2) (p.1,1,aZ p.2) Om (gw hj)
   have er:(R++dD ((.osl q 1 0 (aZ w).length,w)::ps)).map (fun r=>r.map (PV.cN q 1 rs))=R++[[ints w]]++dD ps:=by
    rw[aYN,hs.flat,aYQ];congr 1;show [PV.cN q 1 rs (.osl q 1 0 (aZ w).length)]::(dD ps).map _=_;rw[z2];have:(dD ps).map (fun r=>r.map (PV.cN q 1 rs))=dD ps:=by unfold dD;rw[List.map_map];refine a0X fun p U=>?_;show [PV.cN q 1 rs p.1]=_;rw[yp p U]
    rw[this];rfl
   have ei:(nH ps).map (fun x=>(x.1,x.2.1,x.2.2.map fun r=>r.map (PV.cN q 1 rs)))=nH ps:=by unfold nH;rw[List.map_map];refine a0X fun p _=>?_;show (p.1,1,(aZ p.2).map fun r=>r.map (PV.cN q 1 rs))=_;rw[show (aZ p.2).map (fun r=>r.map (PV.cN q 1 rs))=aZ p.2 from Flat.map p.2 (fun x c hc q s rs=>by rw[aZW] at hc; subst hc; rfl) q 1 rs]
   have z6:aP (H.frz q 1 rs) B ((vo,1,R++[[ints w]]++dD ps)::nH ps):=by rw[eB] at z5;have z7:aP (H.frz q 1 rs) B ((vo,1,(R++dD ((.osl q 1 0 (aZ w).length,w)::ps)).map (fun r=>r.map (PV.cN q 1 rs)))::(nH ps).map (fun x=>(x.1,x.2.1,x.2.2.map fun r=>r.map (PV.cN q 1 rs)))):=z5;rw[er,ei] at z7;exact z7
   obtain⟨φ,H1,k1,k2,k3,k4,k5,k6⟩:=EX ps (R++[[ints w]]) (J++[w]) (hs.snoc (.inl rfl)) z6 hB;rw[ew] at k1;refine⟨fun u=>φ (PV.frz q 1 rs u),H1,?_,fun u hu=>?_,fun e=>?_,k4,fun F=>.step q z1 ?_,fun o l=>k6 o ?_⟩
   ·simp only;rw[α]; exact k1
   ·simp only;rw[hu,k2 u hu]
   ·simp only;rw[α];have yt:PV.frz q 1 rs (.tup [vo,.int .i64 e])=.tup [PV.frz q 1 rs vo,.int .i64 e]:=by rcases h.own 0 rfl with ⟨-,e0⟩ | ⟨p,rs',e0,-⟩<;>(subst e0; rfl)
    rw[yt,α,k3]
   ·have:Io (fun u=>φ (PV.frz q 1 rs u)) F=Io φ (F.frz q 1 rs):=funext fun i=>by rw[BM,BM,pC,Option.map_map];rfl
    rw[this];exact k5 _
   ·rw[vJ];rcases l with l | l | ⟨p,U,l⟩
    ·left; rw[l]; split<;>rfl
    ·exact .inr (.inl l)
    ·rcases aXP.1 U with rfl | U
     ·have:q=o:=by injection l
      left; rw[if_pos this.symm]
     ·exact .inr (.inr ⟨p,U,l⟩)
theorem yA {res:List dN} {F:PF} {H:PH} {i:PV} {ps:WPs} {c:Int} {e:kL} (he:e=.normal∨e=.ret) (h:dN.evs F H res=some [i,.int .i64 c]) (R:aP H [] (eS i ps)):aW res (cG (.tup [lists (wls ps),.int .i64 c])) e F H:=by
 obtain⟨φ,H1,k1,-,k3,-,k5,-⟩:=EX ps [] [] .nil R (fun b U=>by cases U);refine BG he h ⟨_,_,.nil,k5 _,PH.nil_le,φ (dB [i,.int .i64 c]),?_,?_⟩
 ·rw[BM,jM,if_pos rfl]; rfl
 ·show cG _ (φ (.tup [i,.int .i64 c])) .nil;rw[k3];refine⟨.tup rfl fun j p q l J=>?_,rfl⟩
  match j with
  | 0=>cases l; cases J; exact k1
  | 1=>cases l; cases J; exact .refl _
  | j+2=>cases l
theorem bO.lenOf {H:PH} {v:PV} {rows:List (List PV)} {s:Nat} (h:bO H s v rows):PV.qX v=some (.int .i64 (rows.length:Nat)):=by
 rcases h with ⟨rfl,rfl⟩ | ⟨q,rs,rfl,-⟩<;>rfl
theorem aP.aJP {H:PH} {B:List BX} {J:PV} {ps:WPs} (h:aP H B (eS J ps)) {i:Nat} (hi:i<ps.length) :
  ∃ p rs,J=.osl p 1 0 ps.length∧H p=some (.rows 1 rs)∧rs[i]?=some [ps[i].1]∧i<rs.length:=by
 rcases h.outer with ⟨l,-⟩ | ⟨q,rs,rfl,l,h2,h3⟩
 ·have:(dD ps).length=0:=by rw[l]; rfl
  rw[lW] at this;omega
 ·rw[lW] at h2 h3;refine⟨q,rs,by rw[lW],l,?_,by omega⟩;have:=Fu (ps:=ps) (i:=i) (v:=ps[i].1) (w:=ps[i].2) (by rw[aXT hi]);rw[← h3,List.getElem?_take_of_lt hi] at this;exact this
theorem aP.aCA {H:PH} {B:List BX} {i:PV} {ps:WPs} (h:aP H B (eS i ps)):PV.qX i=some (.int .i64 (ps.length:Nat)):=by
 have:=h.outer.lenOf
 rwa [lW] at this
theorem BP (ps:WPs):(wls ps).length=ps.length:=aXI _
theorem cx {res:List dN} {F:PF} {H:PH} {i:PV} {ps:WPs} {e:kL} (J:e=.normal∨e=.ret) (h:dN.evs F H res=some [i]) (l:aP H [] (eS i ps)):aW res (cG (lists (wls ps))) e F H:=by
 obtain⟨φ,U,k1,-,-,-,R,-⟩:=EX ps [] [] .nil l (fun b p=>by cases p);refine BG J h ⟨_,_,.nil,R _,PH.nil_le,φ (dB [i]),?_,?_⟩
 ·rw[BM,jM,if_pos rfl]; rfl
 ·exact⟨k1,rfl⟩
def gy (f:aK) (lv:Int) (i:Nat):Bool:=decide (lvl f i=lv)
def uB (f:aK) (lv:Int):List Nat:=(aXQ f.aWC.length).filter (gy f lv)
def dH (f:aK) (lv:Int) (i:Nat):Nat:=(aXQ i).countP (gy f lv)
def eO (f:aK) (lv:Int) (k:Nat):List Int:=(aXQ f.aWC.length).map fun i=>if i<k∧lvl f i=lv then ((dH f lv i:Nat):Int) else 0
def tB (f:aK) (lv:Int) (d i:Nat):List Nat:=(aXQ d).filter fun e=>decide (cT f e lv=i)
def mH (f:aK) (lv:Int) (d:Nat):List (List Int):=(uB f lv).map fun i=>bU (tB f lv d i)
theorem VI (f:aK) {lv:Int} (h:lv≠5):eW f lv=mH f lv f.aVZ.length:=by
 unfold eW;rw[if_neg h]; rfl
theorem tq (f:aK):eW f 5=(aXQ f.aVZ.length).map fun (d:Nat)=>[(d:Int)]:=by
 unfold eW;rw[if_pos rfl]
theorem U6 (f:aK) (lv:Int) (k:Nat):(eO f lv k).length=f.aWC.length:=by unfold eO; simp
theorem Jy (f:aK) (lv:Int):eO f lv 0=aXK f.aWC.length 0:=by
 unfold eO;refine a0K (by simp) fun i l p=>?_;simp
theorem sf {f:aK} {lv:Int} {k i:Nat} (hi:i<f.aWC.length):(eO f lv k)[i]?=some (if i<k∧lvl f i=lv then ((dH f lv i:Nat):Int) else 0):=by
 unfold eO;rw[aYG,List.getElem?_range hi]; rfl
theorem U5 {f:aK} {lv:Int} {k:Nat} (h:lvl f k=lv):(eO f lv k).set k ((dH f lv k:Nat):Int)=eO f lv (k+1):=by
 refine a0K (by simp[eO]) fun i l p=>?_;simp only[eO,List.getElem_set,aZH,List.getElem_range];by_cases e:k=i
 ·subst e; rw[if_pos rfl,if_pos ⟨by omega,h⟩]
 ·rw[if_neg e];have:i<k↔i<k+1:=Om;simp only[this]
theorem Jx {f:aK} {lv:Int} {k:Nat} (h:lvl f k≠lv):eO f lv k=eO f lv (k+1):=by
 refine a0K (by simp[eO]) fun i l p=>?_;simp only[eO,aZH,List.getElem_range];by_cases e:k=i
 ·subst e; rw[if_neg Om,if_neg (fun x=>h x.2)]
 ·have:i<k↔i<k+1:=Om;simp only[this]
theorem dz {f:aK} {lv:Int} {k:Nat} (h:lvl f k=lv):dH f lv (k+1)=dH f lv k+1:=by
 unfold dH gy;rw[List.range_succ,List.countP_append]; simp[h]
theorem RT {f:aK} {lv:Int} {k:Nat} (h:lvl f k≠lv):dH f lv (k+1)=dH f lv k:=by
 unfold dH gy;rw[List.range_succ,List.countP_append]; simp[h]
theorem tk (f:aK) (lv:Int) (k:Nat):dH f lv k≤k:=aZD List.countP_le_length (by simp)
theorem Sd {f:aK} {lv:Int} {a:Nat} (i:a<f.aWC.length) (h:lvl f a=lv):(uB f lv)[dH f lv a]?=some a:=abM (q:=gy f lv) i (by rw[gy,decide_eq_true h])
theorem Jn (f:aK) (lv:Int) (d i:Nat):tB f lv (d+1) i=if cT f d lv=i then tB f lv d i++[d] else tB f lv d i:=by
 unfold tB;rw[List.range_succ,List.filter_append];by_cases h:cT f d lv=i<;>simp[h]
theorem ZE (f:aK) (lv:Int) (d i:Nat):(tB f lv d i).length≤d:=aZD (List.length_filter_le ..) (by simp)
theorem aqG (f:aK) (lv:Int):(uB f lv).Nodup:=List.nodup_range.filter _
theorem awJ {f:aK} {lv:Int} {d:Nat} (ha:cT f d lv<f.aWC.length) (h:lvl f (cT f d lv)=lv) {ps:WPs} (R:wls ps=mH f lv d) {v:PV} {w:List Int} (hi:ps[dH f lv (cT f d lv)]?=some (v,w)) (v':PV) :
  w.length≤d∧wls (ps.set (dH f lv (cT f d lv)) (v',w++[(d:Int)]))=mH f lv (d+1):=by
 have p:=Sd ha h;have U:w=bU (tB f lv d (cT f d lv)):=by
  have l:(wls ps)[dH f lv (cT f d lv)]?=some w:=by unfold wls; rw[aYG,hi]; rfl
  rw[R,mH,aYG,p] at l;injection l with l
  exact l.symm
 refine⟨by rw[U]; unfold bU; rw[aXI]; exact ZE ..,?_⟩;have J:wls (ps.set (dH f lv (cT f d lv)) (v',w++[(d:Int)]))=(mH f lv d).set (dH f lv (cT f d lv)) (w++[(d:Int)]):=by rw[← R];unfold wls;rw[List.map_set]
 rw[J,U];unfold mH;refine a0K (by simp) fun i l J=>?_;have il:i<(uB f lv).length:=by simpa using J
 rw[List.getElem_set];simp only[aZH];rw[Jn];obtain⟨ul,ue⟩:=aYP.1 p;by_cases e:dH f lv (cT f d lv)=i
 ·subst e;rw[if_pos rfl,ue,if_pos rfl];unfold bU;rw[aYN]; rfl
 ·rw[if_neg e,if_neg];intro e2;have e3:(uB f lv)[dH f lv (cT f d lv)]=(uB f lv)[i]:=ue.trans e2;exact e ((List.getElem_inj (aqG f lv)).1 e3)
def yC (n:Nat):List (List PV):=(aXQ n).map fun (d:Nat)=>[ints [(d:Int)]]
theorem aeR (n:Nat):(yC n).length=n:=by unfold yC; simp
theorem Vu (n:Nat):yC (n+1)=yC n++[[ints [(n:Int)]]]:=by unfold yC; rw[List.range_succ,aYN]; rfl
theorem alL (f:aK):lay (eW f 5)=.sl 1 (yC f.aVZ.length):=by
 rw[tq];unfold yC;show PV.sl 1 (List.map _ (List.map _ _))=_;rw[List.map_map];rfl
theorem K5 (f:aK) (lv:Int):mH f lv 0=aXK (dH f lv f.aWC.length) []:=by
 unfold mH dH;rw[List.countP_eq_length_filter];refine a0K (by simp[uB]) fun i l p=>?_;simp[tB,bU]
theorem GU (f:aK) (lv:Int) (d:Nat):(mH f lv d).length=(uB f lv).length:=by unfold mH; simp
def unB (f:aK) (lv:Int) (i:Nat) (l:PV) (k:Nat):PF:=(((((((PF.nil.set 1 (.int .i64 lv)).set 2 (.cO f.cells)).set 5 (l)).set 7 (.osl i 1 0 f.aWC.length)).set 33 (.sl 7 (f.aWC.map cI.cells))).set 34 (.int .i64 (f.aWC.length:Nat))).set 35 (.int .i64 k))
def unC (f:aK) (lv:Int) (i:Nat) (l:PV) (d:Nat):PF:=(((((((PF.nil.set 1 (.int .i64 lv)).set 2 (.cO f.cells)).set 5 (l)).set 7 (.osl i 1 0 f.aWC.length)).set 54 (.sl 3 (f.aVZ.map cS.cells))).set 55 (.int .i64 (f.aVZ.length:Nat))).set 56 (.int .i64 d))
def unE (f:aK) (lv:Int) (i:Nat) (l:PV) (d at_:Nat):PF:=(((((((((PF.nil.set 1 (.int .i64 lv)).set 2 (.cO f.cells)).set 5 (l)).set 7 (.osl i 1 0 f.aWC.length)).set 54 (.sl 3 (f.aVZ.map cS.cells))).set 55 (.int .i64 (f.aVZ.length:Nat))).set 56 (.int .i64 d)).set 10 (.int .i64 d)).set 12 (.int .i64 at_))
theorem aaY {C:Ctx} {K:bT} [Up K] (f:aK) (hV:VF f) (lv:Int) (h1:1≤lv) (h4:lv≤4) (oP:Nat) (vo:PV) (d:Nat) (hd:d<f.aVZ.length) {F:PF} {H:PH}
  (hF:(unE f lv oP vo d (cX f d)).le F) (hK:K (.exit 6) (unE f lv oP vo d (cT f d lv)) H):aA.wp C (.loop tV) K F H:=by
 refine wp_loop (α:=Nat) (fun j=>unE f lv oP vo d (upN f j (cX f d))) (fun _=>H) (fun j=>(j:Int)≤4-lv) (fun j=>4-j) 0 Om (by rw[upN]; exact hF) PH.le_refl ?_;intro j hj;obtain⟨l,u2⟩:=NN hV hd (k:=j) Om;have p:((upN f j (cX f d):Nat):Int)<(f.aWC.length:Nat):=Om;by_cases c:(j:Int)<4-lv
 ·have i:4-(j:Int)>lv:=Om;have R:0<upN f j (cX f d):=by
   rcases aZX (upN f j (cX f d)) with e | e
   ·rw[e,hV.root.2.1] at u2; omega
   ·exact e
  have U:upN f (j+1) (cX f d)=FU f (upN f j (cX f d)):=rfl;have J:=hV.Q8 R l;simp only[go_sem,tV,CI,unE,p,mB l,KI l,u2,i,XR,Fy l,J];exact aM (j+1) Om Om (by (repeat' (first|exact PF.nil_le|refine PF.aJ ?_ ?_))<;>first|(simp only[go_sem,U]<;>rfl)|rfl) PH.le_refl
 ·have i:¬ 4-(j:Int)>lv:=Om;have e:cT f d lv=upN f j (cX f d):=by rw[cT,show 4-lv.toNat=j by omega]
  rw[e] at hK;simp only[go_sem,tV,CI,unE,p,mB l,KI l,u2,i];refine Up.up ?_ hK;unfold unE;exact Lq
theorem aaW {C:Ctx} (f:aK) (hV:VF f) (lv:Int) (h1:1≤lv) (h5:lv≤5) :
  yR.wp C (aW XD.res (cG (lay (eW f lv)))) (PF.args [.agg f.cells,.int .i64 lv]) .nil:=by
 have ο:=hV.small;have hd:=ο.aVZ;have Δ:=ο.aWC;simp only[go_sem,yR,lg,lh,lk,XD];by_cases c5:lv=5
 ·subst c5;rw[alL];simp only[go_sem,bM (show (5:Int)=5 from rfl),ll,aXI];refine wp_loop (α:=Nat × PV × PH) (fun s=>(((PF.nil.set 5 (s.2.1)).set 17 (.int .i64 (f.aVZ.length:Nat))).set 18 (.int .i64 s.1))) (fun s=>s.2.2) (fun s=>s.1≤f.aVZ.length∧bO s.2.2 1 s.2.1 (yC s.1)) (fun s=>f.aVZ.length-s.1) (0,.aB,.nil) ⟨aXU _,.nil⟩ Lq PH.le_refl ?_;rintro⟨k,v,H⟩ ⟨hk,hO⟩;simp only at hk hO;simp only[go_sem,lf,lm];by_cases hlt:k<f.aVZ.length
  ·have l:(k:Int)<(f.aVZ.length:Nat):=Om;simp only[go_sem,l,ln,lz];refine fX (src:=[[ints [(k:Int)]]]) hO (by simp only[go_sem]; rfl) (by unfold roomFor; rw[aeR]; simp only[aXR,maxLen]; omega) fun v' H' κ _=>?_;rw[← Vu] at κ;simp only[go_sem,l8,wZz k];exact aM (k+1,v',H') ⟨hlt,κ⟩ (by simp only; omega) Lq PH.le_refl
  ·have l:¬ (k:Int)<(f.aVZ.length:Nat):=Om;have:k=f.aVZ.length:=Om;subst this;simp only[go_sem,l,l9];exact cz (.inr rfl) hO Sq
 have h4:lv≤4:=Om;rw[VI f c5];have τ:(f.aWC.length:Int)*((8:Nat):Int)≤140737488355328:=Om;have υ:(f.aWC.length:Int)≤9223372036854775807:=Om;have φ:(0:Int)≤(f.aWC.length:Int):=Om;simp only[go_sem,bF c5,XG,aXI,τ,υ,φ,Int.le_refl,aZL];refine aT fun U hP=>?_;have ez:aXK f.aWC.length [PV.int .i64 0]=aZ (eO f lv 0):=by rw[Jy,PW]
 rw[ez];have ι:aP (PH.nil.set U (.rows 1 (aZ (eO f lv 0)))) [(U,.rows 1 (aZ (eO f lv 0)))] (eS .aB []):=((aP.nil (H:=PH.nil)).new hP _).OY;simp only[go_sem,XH,aXI];refine wp_loop (α:=Nat × PV × WPs × PH) (fun s=>unB f lv U s.2.1 s.1) (fun s=>s.2.2.2) (fun s=>s.1≤f.aWC.length∧wls s.2.2.1=aXK (dH f lv s.1) []∧aP s.2.2.2 [(U,.rows 1 (aZ (eO f lv s.1)))] (eS s.2.1 s.2.2.1)) (fun s=>f.aWC.length-s.1) (0,.aB,[],_) ⟨aXU _,rfl,ι⟩ (by unfold unB; exact Lq) PH.le_refl ?_;clear ι ez hP;rintro⟨i,vo,ps,H⟩ ⟨hi,p,J⟩;simp only at hi p J;simp only[go_sem,XE,XI,unB];by_cases hlt:i<f.aWC.length
 ·have l:(i:Int)<(f.aWC.length:Nat):=Om;have ω:ps.length=dH f lv i:=by have:=congrArg List.length p;rw[BP,List.length_replicate] at this;exact this
  have η:=tk f lv i;simp only[go_sem,l,XJ,mB hlt];refine aT fun q hq=>?_;have γ:=J.at 0 rfl;have n1:¬ U=q:=by rintro rfl; rw[γ] at hq; cases hq
  have h2:=fun x=>J.new hq x;simp only[go_sem,XK,KI hlt];by_cases c:lvl f i=lv
  ·have ν:=J.aCA;have β:=sf (f:=f) (lv:=lv) (k:=i) hlt;have R:(aZ (eO f lv i))[i]?=some [.int .i64 (if i<i∧lvl f i=lv then ((dH f lv i:Nat):Int) else 0)]:=by unfold aZ; rw[aYG,β]; rfl
   have ψ:i<(aZ (eO f lv i)).length:=by rw[dM,U6]; exact hlt
   have θ:(aZ (eO f lv i)).set i [.int .i64 (ps.length:Nat)]=aZ (eO f lv (i+1)):=by rw[ny,ω,U5 c]
   have h3:=fun x=>(h2 x).set 0 rfl (.rows 1 (aZ (eO f lv (i+1))));simp only[go_sem,bM c,XL,ν,l,n1,γ,R,ψ,aYD,θ,XM];refine (h3 _).aBU Sq (by unfold roomFor; simp only[maxLen]; omega) fun q2 H2 h4=>?_;simp only[go_sem,CH,wZz i];refine aM (i+1,PV.osl q2 1 0 (ps.length+1),ps++[(PV.aB,[])],H2) ⟨hlt,?_,h4.uC 1⟩ (by simp only; omega) Lq PH.le_refl;simp only;rw[dz c,List.replicate_succ'];unfold wls at p ⊢;rw[aYN,p]; rfl
  ·have θ:eO f lv i=eO f lv (i+1):=Jx c;simp only[go_sem,bF c,CH,wZz i];refine aM (i+1,vo,ps,_) ⟨hlt,?_,?_⟩ (by simp only; omega) Lq PH.le_refl
   ·simp only; rw[RT c]; exact p
   ·simp only; rw[← θ]; exact (h2 _).uC 1
 have l:¬ (i:Int)<(f.aWC.length:Nat):=Om;have:i=f.aWC.length:=Om;subst this;rw[← K5] at p;simp only[go_sem,l,XN,aXI];refine wp_loop (α:=Nat × PV × WPs × PH) (fun s=>unC f lv U s.2.1 s.1) (fun s=>s.2.2.2) (fun s=>s.1≤f.aVZ.length∧wls s.2.2.1=mH f lv s.1∧aP s.2.2.2 [(U,.rows 1 (aZ (eO f lv f.aWC.length)))] (eS s.2.1 s.2.2.1)) (fun s=>f.aVZ.length-s.1) (0,vo,ps,H) ⟨aXU _,p,J⟩ (by unfold unC; exact Lq) PH.le_refl ?_;clear p J hi hlt l;rintro⟨d,vo,ps,H⟩ ⟨χ,p,J⟩;simp only at χ p J;simp only[go_sem,XF,XO,unC];by_cases hlt:d<f.aVZ.length
 ·have l:(d:Int)<(f.aVZ.length:Nat):=Om;simp only[go_sem,l,XP,JD hlt];refine aT fun q hq=>?_;have γ:=J.at 0 rfl;have n1:¬ U=q:=by rintro rfl; rw[γ] at hq; cases hq
  have h2:=fun x=>(J.new hq x).uC 1;simp only[go_sem,XQ,hV.O3 hlt];generalize hx:bX.rows 3 _=x;have h2:=h2 x;have ε:=h2.at 0 rfl;generalize H.set q x=H1 at *
  have up:=fun {K:bT} [Up K] {F:PF} {H:PH}=>aaY (C:=C) (K:=K) f hV lv h1 h4 U vo d hlt (F:=F) (H:=H);refine up (by unfold unE; exact Lq) ?_;obtain⟨a1,a2⟩:=NN hV hlt (k:=4-lv.toNat) Om;have a3:lvl f (cT f d lv)=lv:=by rw[cT,a2]; omega
  have a1:cT f d lv<f.aWC.length:=a1;have σ:((cT f d lv:Nat):Int)<(f.aWC.length:Nat):=Om;have β:=sf (f:=f) (lv:=lv) (k:=f.aWC.length) a1;rw[if_pos ⟨a1,a3⟩] at β;have R:(aZ (eO f lv f.aWC.length))[cT f d lv]?=some [.int .i64 (dH f lv (cT f d lv):Nat)]:=by unfold aZ; rw[aYG,β]; rfl
  have δ:dH f lv (cT f d lv)<ps.length:=by have:=(aYP.1 (Sd a1 a3)).1;rw[← BP,p,GU];exact this
  have ζ:=fun v'=>awJ (ps:=ps) a1 a3 p (aXT δ) v';have η:ps[dH f lv (cT f d lv)]?=some (ps[dH f lv (cT f d lv)].1,ps[dH f lv (cT f d lv)].2):=by rw[aXT δ]
  have Θ:ps[dH f lv (cT f d lv)]=(ps[dH f lv (cT f d lv)].1,ps[dH f lv (cT f d lv)].2):=rfl;obtain⟨qo,rs,rfl,b1,b2,b3⟩:=h2.aJP δ;generalize ps[dH f lv (cT f d lv)].2=w at *
  generalize ps[dH f lv (cT f d lv)].1=v at *
  generalize dH f lv (cT f d lv)=u at *
  have ρ:(u:Int)<(ps.length:Nat):=Om;have Λ:=(ζ .aB).1;simp only[go_sem,unE];refine cJ (PH.nil.set U (.rows 1 (aZ (eO f lv f.aWC.length)))) eU (PH.aJ PH.nil_le ε) ?_;simp only[go_sem,XS,σ,ε,R,aYD,ρ,b1,b2,b3];refine h2.aNS (src:=[(d:Int)]) η (by simp only[go_sem]; rfl) (by unfold roomFor; simp only[aXR,maxLen]; omega) (by simp) fun q2 H2 h5=>?_;have ξ:=h5.at 0 rfl;refine⟨PH.aJ PH.nil_le ξ,?_⟩;obtain⟨rs2,e1,e2,e3,h6⟩:=h5.aKI;have Γ:u<rs2.length:=Om;have μ:rs2[u]?=some [v]:=by have:=Fu η;rw[← e3,List.getElem?_take_of_lt δ] at this;exact this
  refine cJ .nil eU PH.nil_le ?_;simp only[go_sem,XT,e1,Γ,μ,XU,wZz d];refine⟨PH.nil_le,?_⟩;refine aM (d+1,PV.osl qo 1 0 ps.length,ps.set u (PV.osl q2 1 0 (w++[(d:Int)]).length,w++[(d:Int)]),H2.set qo (.rows 1 (rs2.set u [.osl q2 1 0 (w++[(d:Int)]).length]))) ⟨hlt,(ζ _).2,h6⟩ (by simp only; omega) Lq (by simp only; exact PH.le_refl)
 ·have l:¬ (d:Int)<(f.aVZ.length:Nat):=Om;have:d=f.aVZ.length:=Om;subst this;simp only[go_sem,l,XV];rw[← p];exact cx (.inr rfl) Sq (J.uC 0)
def xv:List aR:=[
 ⟨(some 2),.box true (.tmp 0),none⟩,
 ⟨(some 3),.box true (.tmp 1),none⟩,
 ⟨(some 4),.mv (.const .aB),none⟩]
def xw:List aR:=[
 ⟨(some 5),.alloc [.aB],none⟩]
def xx:List aR:=[
 ⟨(some 7),.aXB 1 (.tmp 3),none⟩,
 ⟨(some 8),.load none (.tmp 7),none⟩,
 ⟨(some 9),.aXB 2 (.tmp 3),none⟩,
 ⟨(some 10),.load none (.tmp 9),none⟩,
 ⟨(some 11),.bin .add (.tmp 8) (.tmp 10),none⟩,
 ⟨(some 12),.aXB 4 (.tmp 2),none⟩,
 ⟨(some 13),.load none (.tmp 12),none⟩,
 ⟨(some 14),.len (.tmp 13),none⟩,
 ⟨(some 15),.call 210 [(.tmp 11),(.tmp 14)],none⟩]
def xy:List aR:=[
 ⟨(some 6),.mv (.tmp 16),none⟩]
def xz:List aR:=[
 ⟨(some 17),.load (some 7) (.tmp 2),none⟩,
 ⟨(some 18),.load (some 17) (.tmp 3),none⟩,
 ⟨(some 19),.mv (.tmp 6),none⟩,
 ⟨(some 20),.call 201 [(.tmp 17),(.tmp 18),(.tmp 19)],none⟩]
def x5:List aR:=[
 ⟨(some 21),.load none (.tmp 5),none⟩,
 ⟨(some 22),.mv (.tmp 6),none⟩,
 ⟨(some 23),.aWF true 1 1 [.aB] [(0,(.tmp 22))],none⟩,
 ⟨(some 24),.append 1 24 (.tmp 21) (.tmp 23),none⟩,
 ⟨none,.store 1 (.tmp 5) (.tmp 24),none⟩]
def x6:List aR:=[
 ⟨(some 25),.load none (.tmp 5),none⟩,
 ⟨(some 4),.mv (.tmp 25),none⟩]
def k0:aA:=(.region xy)
def k7:aA:=(.block 1 (.seq (.region xz) (.cond (.tmp 20) (.region x5) .skip)))
def XC:aA:=(.seq (.region x6) .ret)
def CF (i l:Code):nP:=(.seq (.region xv) (.seq (.region xw) (.seq (.region xx) (.range (.tmp 15) 26 16 i l k0 k7 XC))))
def apY:List Nat:=[2,3,23]
def XB (i l:Code):AP:=⟨2,26,CF i l,[.tmp 4]⟩
def xm:List aR:=[
 ⟨(some 2),.box true (.tmp 0),none⟩,
 ⟨(some 3),.box true (.tmp 1),none⟩,
 ⟨(some 4),.mv (.const .aB),none⟩,
 ⟨(some 5),.mv (.const (.int .i64 0)),none⟩]
def xn:List aR:=[
 ⟨(some 17),.load (some 7) (.tmp 2),none⟩,
 ⟨(some 18),.call 96 [(.tmp 17)],none⟩,
 ⟨(some 19),.bin .neq (.tmp 18) (.const (.int .i64 0)),none⟩,
 ⟨(some 20),.mv (.tmp 19),none⟩,
 ⟨(some 21),.aXB 0 (.tmp 3),(some (20,false))⟩,
 ⟨(some 22),.load none (.tmp 21),(some (20,false))⟩,
 ⟨(some 23),.bin .lss (.tmp 22) (.const (.int .i64 1)),(some (20,false))⟩,
 ⟨(some 24),.pick (.tmp 20) (.const (.bool true)) (.tmp 23),none⟩,
 ⟨(some 25),.mv (.tmp 24),none⟩,
 ⟨(some 26),.aXB 0 (.tmp 3),(some (25,false))⟩,
 ⟨(some 27),.load none (.tmp 26),(some (25,false))⟩,
 ⟨(some 28),.bin .gtr (.tmp 27) (.const (.int .i64 5)),(some (25,false))⟩,
 ⟨(some 29),.pick (.tmp 25) (.const (.bool true)) (.tmp 28),none⟩,
 ⟨(some 30),.mv (.tmp 29),none⟩,
 ⟨(some 31),.aXB 1 (.tmp 3),(some (30,false))⟩,
 ⟨(some 32),.load none (.tmp 31),(some (30,false))⟩,
 ⟨(some 33),.bin .lss (.tmp 32) (.const (.int .i64 1)),(some (30,false))⟩,
 ⟨(some 34),.pick (.tmp 30) (.const (.bool true)) (.tmp 33),none⟩,
 ⟨(some 35),.mv (.tmp 34),none⟩,
 ⟨(some 36),.aXB 1 (.tmp 3),(some (35,false))⟩,
 ⟨(some 37),.load none (.tmp 36),(some (35,false))⟩,
 ⟨(some 38),.bin .gtr (.tmp 37) (.const (.int .i64 3)),(some (35,false))⟩,
 ⟨(some 39),.pick (.tmp 35) (.const (.bool true)) (.tmp 38),none⟩]
def rR:List aR:=[
 ⟨(some 4),.mv (.const .aB),none⟩,
 ⟨(some 5),.mv (.const (.int .i64 1)),none⟩]
def xo:List aR:=[
 ⟨(some 40),.load (some 7) (.tmp 2),none⟩,
 ⟨(some 41),.aXB 0 (.tmp 3),none⟩,
 ⟨(some 42),.load none (.tmp 41),none⟩,
 ⟨(some 43),.call 206 [(.tmp 40),(.tmp 42)],none⟩,
 ⟨(some 6),.alloc [.aB],none⟩,
 ⟨none,.store 1 (.tmp 6) (.tmp 43),none⟩]
def xp:List aR:=[
 ⟨(some 44),.aXB 4 (.tmp 2),none⟩,
 ⟨(some 45),.load none (.tmp 44),none⟩,
 ⟨(some 46),.len (.tmp 45),none⟩,
 ⟨(some 47),.bin .gtr (.tmp 46) (.const (.int .i64 12)),none⟩,
 ⟨(some 48),.mv (.tmp 47),none⟩,
 ⟨(some 49),.load none (.tmp 6),(some (48,false))⟩,
 ⟨(some 50),.len (.tmp 49),(some (48,false))⟩,
 ⟨(some 51),.aXB 1 (.tmp 3),(some (48,false))⟩,
 ⟨(some 52),.load none (.tmp 51),(some (48,false))⟩,
 ⟨(some 53),.call 207 [(.tmp 50),(.tmp 52)],(some (48,false))⟩,
 ⟨(some 54),.bin .gtr (.tmp 53) (.const (.int .i64 512)),(some (48,false))⟩,
 ⟨(some 55),.pick (.tmp 48) (.const (.bool true)) (.tmp 54),none⟩]
def SG:List aR:=[
 ⟨(some 4),.mv (.const .aB),none⟩,
 ⟨(some 5),.mv (.const (.int .i64 2)),none⟩]
def xq:List aR:=[
 ⟨(some 7),.alloc [.aB],none⟩]
def xr:List aR:=[
 ⟨(some 56),.aXB 1 (.tmp 3),none⟩,
 ⟨(some 57),.load none (.tmp 56),none⟩,
 ⟨(some 58),.load none (.tmp 6),none⟩,
 ⟨(some 59),.len (.tmp 58),none⟩,
 ⟨(some 60),.call 210 [(.tmp 57),(.tmp 59)],none⟩]
def xt:List aR:=[
 ⟨(some 8),.mv (.tmp 61),none⟩]
def xu:List aR:=[
 ⟨(some 62),.aXB 4 (.tmp 2),none⟩,
 ⟨(some 63),.load none (.tmp 62),none⟩,
 ⟨(some 64),.len (.tmp 63),none⟩,
 ⟨(some 65),.aWH 1 1 [(.bool false)] (.tmp 64) (.tmp 64),none⟩,
 ⟨(some 9),.mv (.tmp 65),none⟩]
def ka:List aR:=[
 ⟨(some 66),.mv (.tmp 8),none⟩,
 ⟨(some 67),.len (.tmp 66),none⟩,
 ⟨(some 68),.mv (.const (.int .i64 0)),none⟩]
def kb:List aR:=[
 ⟨(some 69),.bin .lss (.tmp 68) (.tmp 67),none⟩]
def kc:List aR:=[
 ⟨(some 70),.aWP 1 (.tmp 66) (.tmp 68),none⟩,
 ⟨(some 71),.load none (.tmp 70),none⟩,
 ⟨(some 11),.mv (.tmp 71),none⟩]
def kd:List aR:=[
 ⟨(some 72),.load none (.tmp 6),none⟩,
 ⟨(some 73),.mv (.tmp 11),none⟩,
 ⟨(some 74),.aWP 1 (.tmp 72) (.tmp 73),none⟩,
 ⟨(some 75),.load none (.tmp 74),none⟩,
 ⟨(some 76),.len (.tmp 75),none⟩,
 ⟨(some 77),.mv (.const (.int .i64 0)),none⟩]
def kf:List aR:=[
 ⟨(some 78),.bin .lss (.tmp 77) (.tmp 76),none⟩]
def kg:List aR:=[
 ⟨(some 79),.aWP 1 (.tmp 75) (.tmp 77),none⟩,
 ⟨(some 80),.load none (.tmp 79),none⟩,
 ⟨(some 13),.mv (.tmp 80),none⟩]
def kn:List aR:=[
 ⟨(some 81),.mv (.tmp 9),none⟩,
 ⟨(some 82),.mv (.tmp 13),none⟩,
 ⟨(some 83),.aWP 1 (.tmp 81) (.tmp 82),none⟩,
 ⟨none,.store 1 (.tmp 83) (.const (.bool true)),none⟩]
def ko:List aR:=[
 ⟨(some 84),.bin .add (.tmp 77) (.const (.int .i64 1)),none⟩,
 ⟨(some 77),.mv (.tmp 84),none⟩]
def IS:aA:=(.seq (.region kf) (.seq (.cond (.tmp 78) .skip (.exit 4)) (.seq (.block 5 (.seq (.region kg) (.region kn))) (.region ko))))
def kp:List aR:=[
 ⟨(some 85),.bin .add (.tmp 68) (.const (.int .i64 1)),none⟩,
 ⟨(some 68),.mv (.tmp 85),none⟩]
def IT:aA:=(.seq (.region kb) (.seq (.cond (.tmp 69) .skip (.exit 2)) (.seq (.block 3 (.seq (.region kc) (.seq (.region kd) (.block 4 (.loop IS))))) (.region kp))))
def kr:List aR:=[
 ⟨(some 14),.mv (.const .aB),none⟩]
def ku:List aR:=[
 ⟨(some 86),.mv (.tmp 9),none⟩,
 ⟨(some 87),.len (.tmp 86),none⟩,
 ⟨(some 88),.mv (.const (.int .i64 0)),none⟩]
def kw:List aR:=[
 ⟨(some 89),.bin .lss (.tmp 88) (.tmp 87),none⟩]
def IV:List aR:=[
 ⟨(some 90),.mv (.tmp 88),none⟩,
 ⟨(some 91),.aWP 1 (.tmp 86) (.tmp 88),none⟩,
 ⟨(some 92),.load none (.tmp 91),none⟩,
 ⟨(some 15),.mv (.tmp 90),none⟩,
 ⟨(some 16),.mv (.tmp 92),none⟩]
def IW:List aR:=[
 ⟨(some 93),.mv (.tmp 16),none⟩]
def kx:List aR:=[
 ⟨(some 94),.mv (.tmp 14),none⟩,
 ⟨(some 95),.mv (.tmp 15),none⟩,
 ⟨(some 96),.aWF true 1 1 [(.int .i64 0)] [(0,(.tmp 95))],none⟩,
 ⟨(some 97),.append 1 8 (.tmp 94) (.tmp 96),none⟩,
 ⟨(some 14),.mv (.tmp 97),none⟩]
def IX:List aR:=[
 ⟨(some 98),.bin .add (.tmp 88) (.const (.int .i64 1)),none⟩,
 ⟨(some 88),.mv (.tmp 98),none⟩]
def IU:aA:=(.seq (.region kw) (.seq (.cond (.tmp 89) .skip (.exit 6)) (.seq (.block 7 (.seq (.region IV) (.seq (.region IW) (.cond (.tmp 93) (.region kx) .skip)))) (.region IX))))
def IY:List aR:=[
 ⟨(some 99),.load none (.tmp 7),none⟩,
 ⟨(some 100),.mv (.tmp 14),none⟩,
 ⟨(some 101),.aWF true 1 1 [.aB] [(0,(.tmp 100))],none⟩,
 ⟨(some 102),.append 1 24 (.tmp 99) (.tmp 101),none⟩,
 ⟨none,.store 1 (.tmp 7) (.tmp 102),none⟩]
def kz:List aR:=[
 ⟨(some 103),.load none (.tmp 7),none⟩,
 ⟨(some 4),.mv (.tmp 103),none⟩,
 ⟨(some 5),.mv (.const (.int .i64 0)),none⟩]
def IQ:aA:=(.region xt)
def IR:aA:=(.block 1 (.seq (.region xu) (.seq (.seq (.region ka) (.block 2 (.loop IT))) (.seq (.region kr) (.seq (.seq (.region ku) (.block 6 (.loop IU))) (.region IY))))))
def XA:aA:=(.seq (.region kz) .ret)
def CE (i l:Code):nP:=(.seq (.region xm) (.seq (.seq (.region xn) (.cond (.tmp 39) (.seq (.region rR) .ret) .skip)) (.seq (.region xo) (.seq (.seq (.region xp) (.cond (.tmp 55) (.seq (.region SG) .ret) .skip)) (.seq (.region xq) (.seq (.region xr) (.range (.tmp 60) 104 61 i l IQ IR XA)))))))
def apW:List Nat:=[2,3,96,101]
def WZ (i l:Code):AP:=⟨2,104,CE i l,[.tmp 4,.tmp 5]⟩
theorem acE {C:Ctx} {H:PH} {name:Nat} {pre:List PV} {v u:PV} {l:List Int} (U:Plain u) (R:∀ x∈pre,Fx x) (J:bO H 1 v (aZ l)) (i:l≠[]) (h:aH C name (pre++[ints l]) .nil (aL u)) :
  ∃ q,v=.osl q 1 0 l.length∧(∃ x,H q=some x)∧aH C name (pre++[v]) (H.only [q]) (fun r H'=>r=u∧H'=H.only [q]):=by
 rcases J with ⟨p,-⟩ | ⟨q,rs,rfl,h1,h2,h3⟩
 ·exact absurd (List.map_eq_nil_iff.1 p) i
 ·rw[dM] at h2 h3 ⊢;refine⟨q,rfl,⟨_,h1⟩,?_⟩;rw[UX h1];refine aH.aJL U ?_;have e:pre.map (PV.frz q 1 rs)=pre:=by
   conv=>rhs; rw[← List.map_id pre]
   exact a0X fun x hx=>R x hx q 1 rs
  rw[aYN,e,aYU,aZN,vF h2,h3];exact h
theorem ia {α:Type} (L:List α) (x:α) (n:Nat) (h:L.length=n):(L++[x])[n]?=some x:=by
 subst h; simp
structure aIK (f:aK) (now:List (List Int)) (r:Int) (d:Nat) (ps:WPs):Prop where
 eq:wls ps=fm f now r d
 num:ps.length≤d
 len:∀ i (h:i<ps.length),1≤(ps[i].2).length∧(ps[i].2).length≤d
theorem aIK.of {f:aK} {p:List (List Int)} {r:Int} (U:aaH f p r=true) {d:Nat} (hd:d≤f.aVZ.length) {ps:WPs} (h:wls ps=fm f p r d):aIK f p r d ps:=by
 have k:=ud U d hd;rw[← h] at k;have J:∀ i (h:i<ps.length),ps[i].2∈wls ps:=fun i hi=>aYH.2 ⟨ps[i],aXM hi,rfl⟩;have ne:∀ l∈wls ps,1≤l.length:=fun l hl=>by
  have:=k.ok l hl;unfold NX at this;cases l with
  | nil=>cases this
  | cons x xs=>rw[aZA]; omega
 refine⟨h,?_,fun i hi=>⟨ne _ (J i hi),?_⟩⟩
 ·have R:(wls ps).length≤(wls ps).flatten.length:=by
   generalize wls ps=w at ne
   induction w with
   | nil=>exact aXL _
   | cons l w ih =>have:=ih fun x hx=>ne x (List.mem_cons_of_mem _ hx);have:=ne l (by simp);rw[List.flatten_cons,aXN,aZA];omega
  rw[BP,k.len] at R;exact R
 ·have:=(List.sublist_flatten_of_mem (J i hi)).length_le;rw[k.len] at this;exact this
def aII (n top:Int) (r:PV) (H':PH):Prop:=∃ o1 o2,o1≠o2∧r=.fn 211 [.ptr o1 1 0 0,.ptr o2 1 0 0]∧H'=(PH.nil.set o1 (.rows 1 [[.int .i64 n]])).set o2 (.rows 1 [[.int .i64 top]])
theorem apZ {C:Ctx} (n top:Int):CG.wp C (aW ve.res (aII n top)) (PF.args [.int .i64 n,.int .i64 top]) .nil:=by
 simp only[go_sem,CG,x7,ve];refine aT fun o1 p=>?_;simp only[go_sem];refine aT fun o2 i=>?_;have l:o1≠o2:=by rintro rfl; simp only[cD] at i; cases i
 simp only[go_sem,x8];exact bB (.inr rfl) _ (vs:=[.fn 211 [.ptr o1 1 0 0,.ptr o2 1 0 0]]) Sq PH.le_refl ⟨o1,o2,l,rfl,rfl⟩
structure VQ (C:Ctx):Prop extends St C where
 subs:∀ n top:Int,aH C 210 [.int .i64 n,.int .i64 top] .nil (aII n top)
 iter:∀ (l o1 o2 n top:Nat) (J:Nat→PH→Prop) (ss:List (List Nat)),ss=cV top n 0→1≤n→n≤1000→top≤1000 →
  (∀ k (hk:k<ss.length) G c,J k G→G c=none→AR C l [.osl c 1 0 n] (G.set c (.rows 1 (aZ (bU ss[k])))) (fun r H'=>r=.bool true∧J (k+1) H')) →
  ∀ G0 H:PH,J 0 G0→G0.le H→H o1=some (.rows 1 [[.int .i64 n]])→H o2=some (.rows 1 [[.int .i64 top]])→G0 o1=none→G0 o2=none→aH C 211 [tN l,.ptr o1 1 0 0,.ptr o2 1 0 0] H (fun _ H'=>∃ G,J ss.length G∧G.le H')
theorem ZF {C:Ctx} (Lb:VQ C) {F:PF} {H:PH} {n m t o1 o2 top:Nat} {i p:Code} {η θ:aA} {ss:List (List Nat)} (μ:ss=cV top n 0) (h1:1≤n) (hn:n≤1000) (ht:top≤1000) (ν:o1≠o2)
  (I:Nat→PH→Prop) (G0:PH) (hI:I 0 G0) (ζ:G0.le H) (b1:H o1=some (.rows 1 [[.int .i64 n]])) (b2:H o2=some (.rows 1 [[.int .i64 top]])) (g1:G0 o1=none) (g2:G0 o2=none)
  (hY:∀ (l:Nat) (x:PV) (J:PH) (J':PH→Prop),J l=none→η.wp C (fZ C (θ.wp C) (xI J')) (F.set t x) J→AR C l [x] (J.set l (.loop F m t i p)) (fun r H'=>r=.bool true∧∃ H2,J' H2∧H2 l=none∧H'=H2.set l (.loop F m t i p)))
  (hb:∀ k (hk:k<ss.length) G c,I k G→G c=none→η.wp C (fZ C (θ.wp C) (xI (I (k+1)))) (F.set t (.osl c 1 0 n)) (G.set c (.rows 1 (aZ (bU ss[k]))))) :
  v7 C 211 [.ptr o1 1 0 0,.ptr o2 1 0 0] F H m t i p (I ss.length):=by
 intro l hl;have γ:G0 l=none:=by
  cases h:G0 l with
  | none=>rfl
  | some x=>rw[ζ l x h] at hl; cases hl
 have n1:¬ o1=l:=fun e=>by rw[e,hl] at b1; cases b1
 have n2:¬ o2=l:=fun e=>by rw[e,hl] at b2; cases b2
 refine (Lb.iter l o1 o2 n top (fun k G=>∃ R,I k R∧R l=none∧G=R.set l (.loop F m t i p)) ss μ h1 hn ht ?_ (G0.set l (.loop F m t i p)) (H.set l (.loop F m t i p)) ⟨G0,hI,γ,rfl⟩ ?_ ?_ ?_ ?_ ?_).post ?_
 ·rintro k hk G c ⟨R,β,U,rfl⟩ hc;have δ:¬ c=l:=fun e=>by rw[e,cD] at hc; cases hc
  have ε:¬ l=c:=fun e=>δ e.symm;have ι:R c=none:=by rwa [aQ,if_neg δ] at hc
  have:=hY l (.osl c 1 0 n) (R.set c (.rows 1 (aZ (bU ss[k])))) (I (k+1)) (by rw[aQ,if_neg ε]; exact U) (hb k hk R c β ι);have e:(R.set c (.rows 1 (aZ (bU ss[k])))).set l (.loop F m t i p)=(R.set l (.loop F m t i p)).set c (.rows 1 (aZ (bU ss[k]))):=by
   refine PH.ext fun o=>?_;simp only[aQ];by_cases e1:o=l
   ·subst e1; rw[if_pos rfl,if_neg ε,if_pos rfl]
   ·rw[if_neg e1,if_neg e1]
  rw[e] at this;exact this
 ·intro o x ho;rw[aQ] at ho ⊢;split at ho
  ·rename_i e; rw[if_pos e]; exact ho
  ·rename_i e; rw[if_neg e]; exact ζ o x ho
 ·rw[aQ,if_neg n1]; exact b1
 ·rw[aQ,if_neg n2]; exact b2
 ·rw[aQ,if_neg n1]; exact g1
 ·rw[aQ,if_neg n2]; exact g2
 ·rintro r H' ⟨G,⟨R,β,U,rfl⟩,α⟩;have κ:H' l=some (.loop F m t i p):=α l _ (by rw[cD]);exact⟨r,.refl _,R,β,(fun o x ho=>α o x (by
   have:¬ o=l:=fun e=>by rw[e,U] at ho; cases ho
   rw[aQ,if_neg this]; exact ho)),U,κ⟩
def ayO (l:Nat) (p:List (List Int)) (G:PH):Prop:=∃ i ps,aP G [(l,.rows 1 [[i]])] (eS i ps)∧wls ps=p
theorem apX {C:Ctx} (Lb:VQ C) (α β:Code) (f:aK) (hV:VF f) (hd:f.aVZ.length≤12) (p:cB) (hp:∀ m∈p.aWA,0≤m∧m<f.aWA.length) (ζ:Fits p.aWA) (hk:1≤p.k) (ω:p.k≤6) (hm:0≤p.m) (Γ:p.m≤4) :
  (CF α β).wp C (aW (XB α β).res (cG (lay (mX f p)))) (PF.args [.agg f.cells,.agg p.cells]) .nil:=by
 obtain⟨n,hn⟩:∃ n:Nat,(n:Int)=oN p:=⟨(p.k+p.m).toNat,by unfold oN; omega⟩;have ν:1≤n∧n≤10:=by unfold oN at hn; omega
 have hw:IntKind.i64.wrap (p.k+p.m)=(n:Int):=by rw[hn]; exact wrap_i64 Om Om
 simp only[go_sem,CF,nP.wp,xv,xw,XB];refine aT fun ob ξ=>?_;simp only[go_sem,xx,hw,aXI];refine lF (Lb.subs n f.aVZ.length) Sq PH.nil_le ?_;rintro r H' ⟨o1,o2,J,rfl,rfl⟩ ε;have θ:¬ ob=o1:=fun e=>by have:=ε o1 _ (by rw[aQ,if_neg J,cD]) rfl;rw[← e,cD] at this; cases this
 have ι:¬ ob=o2:=fun e=>by have:=ε o2 _ (by rw[cD]) rfl;rw[← e,cD] at this; cases this
 have χ:¬ o2=o1:=fun e=>J e.symm;simp only[go_sem];generalize hF:PF.set _ 15 _=F;have f2:F 2=some (.cO f.cells):=by rw[← hF]; simp only[go_sem]
 have f3:F 3=some (.cO p.cells):=by rw[← hF]; simp only[go_sem]
 have f5:F 5=some (.ptr ob 1 0 0):=by rw[← hF]; simp only[go_sem]
 have ψ:F 15=some (.fn 211 [.ptr o1 1 0 0,.ptr o2 1 0 0]):=by rw[← hF]; simp only[go_sem]
 clear hF;have ρ:cV f.aVZ.length n 0=cV f.aVZ.length (oN p).toNat 0:=by rw[← hn]; rfl
 have δ:=wV f.aVZ.length n 0;have hE:mX f p=((cV f.aVZ.length n 0).map bU).filter (lN f p):=by rw[ρ]; rfl
 refine⟨211,[.ptr o1 1 0 0,.ptr o2 1 0 0],ayO ob (((((cV f.aVZ.length n 0).take (cV f.aVZ.length n 0).length)).map bU).filter (lN f p)),rfl,fun hY=>?_,fun H2 γ=>?_⟩
 ·refine ZF (m:=26) (t:=16) Lb rfl ν.1 Om Om J (fun k=>ayO ob ((((cV f.aVZ.length n 0).take k).map bU).filter (lN f p))) (PH.nil.set ob (.rows 1 [[.aB]])) ⟨.aB,[],((aP.nil (H:=PH.nil)).new ξ _).OY,rfl⟩ ?_ ?_ ?_ ?_ ?_ hY ?_
  ·intro o x ho;rw[aQ] at ho;split at ho
   ·rename_i e;rw[fW]; simp only[aQ,e,if_neg θ,if_neg ι,OO,if_true];exact ho
   ·cases ho
  ·rw[fW]; simp only[aQ,if_neg J,if_true]
  ·rw[fW]; simp only[aQ,if_true]
  ·rw[aQ,if_neg (fun e=>θ e.symm)]; rfl
  ·rw[aQ,if_neg (fun e=>ι e.symm)]; rfl
  rintro k hk G c ⟨vo,ps,hH,R⟩ hc;have ο:=δ _ (aXM hk);have σ:(cV f.aVZ.length n 0).take (k+1)=(cV f.aVZ.length n 0).take k++[(cV f.aVZ.length n 0)[k]]:=aZT hk;generalize (cV f.aVZ.length n 0)[k]=s at *
  obtain⟨sl,κ,-⟩:=ο;have l:((((cV f.aVZ.length n 0).take (k+1)).map bU).filter (lN f p))=wls ps++if lN f p (bU s) then [bU s] else []:=by rw[σ,aYN,List.filter_append,R];congr 1;by_cases c:lN f p (bU s)<;>simp[c]
  have η:(aZ (bU s)).length=n:=by rw[dM,fF,sl]
  have h2:=hH.asE (s:=1) (rows:=aZ (bU s)) hc;have hO:bO (G.set c (.rows 1 (aZ (bU s)))) 1 (.osl c 1 0 n) (aZ (bU s)):=by
   have:=h2.own ((eS vo ps).length) (ia _ _ _ rfl)
   rwa [η] at this
  have Δ:ps.length≤4096:=by
   rw[← BP,R];refine aZD (List.length_filter_le ..) ?_;rw[aXI,aYA];have h1:=GI f.aVZ.length n 0;have h2:2 ^ (f.aVZ.length-0)≤2 ^ 12:=a0Z Om Om;have e:(2:Nat) ^ 12=4096:=by decide
   omega
  have i:=Lb.adm f p (bU s) hV hp ζ ⟨by rw[fF]; omega,fun x hx=>by obtain⟨y,hy,rfl⟩:=aYH.1 hx;have:=κ y hy;omega⟩;obtain⟨q,e1,hx,i⟩:=acE (C:=C) (name:=201) (pre:=[.agg f.cells,.agg p.cells]) (u:=.bool (lN f p (bU s))) (.bool _) (fun x hx=>by
   simp only[aXP,aXX,or_false] at hx;rcases hx with rfl | rfl
   ·exact fun _ _ _=>rfl
   ·exact fun _ _ _=>rfl) hO (fun e=>by have:=congrArg List.length e; rw[fF,sl] at this; simp at this; omega) i
  have eq:c=q:=by injection e1
  subst eq;have φ:=h2.at 0 rfl;have υ:¬ ob=c:=fun e=>by have:=hH.at 0 rfl; rw[e,hc] at this; cases this
  simp only[go_sem,k0,xy,k7,xz,f2,f3];refine Yl (cs:=[]) (vs:=[.agg f.cells,.agg p.cells,.osl c 1 0 n]) (by rw[aZK]; exact i) Sq (OZ _ _) ?_;cases U:lN f p (bU s) with
  | true =>
   rw[U,if_pos rfl] at l;simp only[go_sem,x5,f5,υ,hH.at 0 rfl];refine h2.append 0 (rows:=dD ps) (src:=[[.osl c 1 0 n]]) rfl Sq (by unfold roomFor; rw[lW]; simp only[aXR,maxLen]; omega) fun v' H' h3 τ=>?_;obtain⟨q2,rfl⟩:=τ (by simp);have μ:=h3.at 0 rfl;have h4:=h3.set 0 rfl (bX.rows 1 [[PV.osl q2 1 0 (dD ps++[[PV.osl c 1 0 n]]).length]]);simp only[go_sem,μ,f5,aXP,aXX,or_false,forall_eq];refine⟨PV.osl q2 1 0 (dD ps++[[PV.osl c 1 0 n]]).length,ps++[(.osl c 1 0 n,bU s)],?_,?_⟩
   ·have e:eS (.osl q2 1 0 (dD ps++[[PV.osl c 1 0 n]]).length) (ps++[(PV.osl c 1 0 n,bU s)])=((eS vo ps)++[(PV.osl c 1 0 (aZ (bU s)).length,1,aZ (bU s))]).set 0 (.osl q2 1 0 (dD ps++[[PV.osl c 1 0 n]]).length,1,dD ps++[[PV.osl c 1 0 n]]):=by rw[η];unfold eS dD nH;rw[aYN,aYN];rfl
    rw[e];exact h4
   ·rw[l];unfold wls;rw[aYN]; rfl
  | false =>rw[U,if_neg (by decide),aZK] at l;simp only[go_sem];exact⟨vo,ps,h2.sub (aZJ.refl _) (List.sublist_append_left ..),l.symm⟩
 ·rw[aYS,← hE] at γ;obtain⟨vo,ps,hH,R⟩:=γ;have hb:=hH.at 0 rfl;simp only[go_sem,XC,x6,f5,hb];rw[← R];exact cx (.inr rfl) Sq (hH.uC 0)
def yL (f:aK) (aWK:Int):Int:=if gG f aWK then (if f.aVZ.length>12 then 2 else 0) else 1
def fv (f:aK) (aWK:Int):List (List Int):=if yL f aWK=0 then mX f (gV f aWK) else []
structure vy (C:Ctx):Prop extends VQ C where
 sets:∀ (f:aK) (p:cB),VF f→f.aVZ.length≤12→(∀ m∈p.aWA,0≤m∧m<f.aWA.length)→Fits p.aWA→1≤p.k→p.k≤6→0≤p.m→p.m≤4→aH C 229 [.agg f.cells,.agg p.cells] .nil (aL (lay (mX f p)))
def cyS (r:PV):Spec:=fun _ _=>some ([],fun _=>aL r)
theorem aaO {C:Ctx} (Lb:vy C) (f:aK) (hf:f.Ok) (aWK:Int) :
  yO.wp C (aW call17.res (cG (.tup [lay (fv f aWK),.int .i64 (yL f aWK)]))) (PF.args [.agg f.cells,.int .i64 aWK]) .nil:=by
 have hB:fv f aWK=if yL f aWK=0 then mX f (gV f aWK) else []:=rfl
 have l:yL f aWK=if gG f aWK then (if f.aVZ.length>12 then 2 else 0) else 1:=rfl
 simp only[go_sem,yO,jx,jy,call17];refine aC (Lb.known f aWK hf) Ev ?_;cases U:gG f aWK with
 | false =>rw[U,if_neg (by decide)] at l;rw[l,if_neg (by decide)] at hB;rw[hB,l];simp only[go_sem,aYJ,jz];exact yA (.inr rfl) Sq (aP.OY aP.nil)
 | true =>
  rw[U,if_pos rfl] at l;obtain⟨hV,h0,hm,he⟩:=wL U;obtain⟨R,α⟩:=xR U;have i:=hV.aWK _ R;have J:=(hf.aWK _ R).aWA;have p:(f.aWD.map cB.cells)[aWK.toNat]?=some (gV f aWK).cells:=by rw[aYG,α]; rfl
  have hlt:aWK<(f.aWD.length:Nat):=Om;by_cases c:f.aVZ.length>12
  ·rw[if_pos c] at l;rw[l,if_neg (by decide)] at hB;rw[hB,l];simp only[go_sem,aXW,II,aXI,show (f.aVZ.length:Int)>12 by omega,j2];exact yA (.inr rfl) Sq (aP.OY aP.nil)
  ·rw[if_neg c] at l;rw[l,if_pos rfl] at hB;rw[hB,l];simp only[go_sem,aXW,II,aXI,show ¬ (f.aVZ.length:Int)>12 by omega];refine cJ .nil (cyS (lay (mX f (gV f aWK)))) PH.nil_le ?_;simp only[go_sem,j3,h0,hlt,aXI,p];refine cW rfl (Lb.sets f (gV f aWK) hV Om i.2.2.2.2.2.2.2 J i.1 i.2.1 i.2.2.1 i.2.2.2.1) Sq PH.nil_le ?_;simp only[go_sem];exact bB (.inr rfl) .nil (vs:=[lay (mX f (gV f aWK)),.int .i64 0]) Sq PH.nil_le (aL.aKE ⟨rfl,rfl⟩)
structure UOk (n:Nat) (U:List (List Int)):Prop where
 len:U.length≤1000
 at_:∀ u∈U,u.length≤1000∧∀ d∈u,0≤d∧d<n
def lT (U:List (List Int)) (s:List Nat):List Int:=s.flatMap fun i=>U.getD i []
theorem H8 (U:List (List Int)) (s:List Nat) {i:Nat} (h:i<s.length):lT U (s.take (i+1))=lT U (s.take i)++U.getD s[i] []:=by
 unfold lT;rw[aZT h,List.flatMap_append]; simp
theorem K6 (U:List (List Int)) (s:List Nat) (d:Nat):(lT U s).contains (d:Int)=nU U s d:=by
 unfold lT nU
 induction s with
 | nil=>rfl
 | cons i s l=>rw[List.flatMap_cons,List.contains_append,l,List.any_cons]
theorem aaV {C:Ctx} {K:bT} [Up K] (ou ob J c nd n i:Nat) (fl:PV) (u:List Int) (ι:u.length≤1000) (hu:∀ d∈u,0≤d∧d<nd) (l:List Int) {F:PF} {H:PH} {B:List BX} {L:List LI}
  (R:aP H B L) (b:Nat) (hb:B[b]?=some (J,.rows 1 (cY (marks nd l))))
  (hF:(((((((((((PF.nil.set 2 (fl)).set 6 (.ptr ou 1 0 0)).set 7 (.ptr ob 1 0 0)).set 9 (.osl J 1 0 nd)).set 66 (.osl c 1 0 n)).set 67 (.int .i64 n)).set 68 (.int .i64 i)).set 75 (ints u)).set 76 (.int .i64 (u.length:Nat))).set 77 (.int .i64 0))).le F)
  (hK:∀ H',aP H' (B.set b (J,.rows 1 (cY (marks nd (l++u))))) L→K (.exit 4) ((((((((PF.nil.set 2 (fl)).set 6 (.ptr ou 1 0 0)).set 7 (.ptr ob 1 0 0)).set 9 (.osl J 1 0 nd)).set 66 (.osl c 1 0 n)).set 67 (.int .i64 n)).set 68 (.int .i64 i))) H') :
  aA.wp C (.loop IS) K F H:=by
 refine wp_loop (α:=Nat × PH) (fun s=>((((((((((PF.nil.set 2 (fl)).set 6 (.ptr ou 1 0 0)).set 7 (.ptr ob 1 0 0)).set 9 (.osl J 1 0 nd)).set 66 (.osl c 1 0 n)).set 67 (.int .i64 n)).set 68 (.int .i64 i)).set 75 (ints u)).set 76 (.int .i64 (u.length:Nat))).set 77 (.int .i64 s.1))) (fun s=>s.2) (fun s=>s.1≤u.length∧aP s.2 (B.set b (J,.rows 1 (cY (marks nd (l++u.take s.1))))) L) (fun s=>u.length-s.1) (0,H) ⟨aXU _,?_⟩ hF PH.le_refl ?_
 ·rw[List.take_zero,aZK];have e:B.set b (J,.rows 1 (cY (marks nd l)))=B:=by obtain⟨h1,h2⟩:=aYP.1 hb;rw[← h2,List.set_getElem_self]
  rw[e]; exact R
 rintro⟨j,H0⟩ ⟨hj,R⟩;simp only at hj R;have γ:b<B.length:=(aYP.1 hb).1;have U:(B.set b (J,bX.rows 1 (cY (marks nd (l++u.take j)))))[b]?=some (J,.rows 1 (cY (marks nd (l++u.take j)))):=List.getElem?_set_self γ;simp only[go_sem,IS,kf];by_cases hlt:j<u.length
 ·have p:(j:Int)<(u.length:Nat):=Om;have η:(u.map fun n=>[PV.int .i64 n])[j]?=some [.int .i64 u[j]]:=by simp[hlt]
  obtain⟨m1,m2⟩:=hu _ (aXM hlt);have θ:u.take (j+1)=u.take j++[u[j]]:=aZT hlt;have ε:(u[j]).toNat<(cY (marks nd (l++u.take j))).length:=by rw[xD,KK]; omega
  have δ:(cY (marks nd (l++u.take j)))[(u[j]).toNat]?=some [.bool ((l++u.take j).contains u[j])]:=by unfold cY;rw[aYG,wM m1 m2]; rfl
  have ζ:=R.at b U;have h2:=R.set b U (.rows 1 (cY (marks nd (l++u.take (j+1)))));rw[List.set_set] at h2;have β:=KL (l:=l++u.take j) m1 m2;rw[aYQ,← θ] at β;simp only[go_sem,p,kg,η,kn,m1,m2,aYD,ζ,δ,ε,pY,β,ko,wZz j];exact aM (j+1,H0.set J (.rows 1 (cY (marks nd (l++u.take (j+1)))))) ⟨hlt,h2⟩ (by simp only; omega) Lq PH.le_refl
 ·have p:¬ (j:Int)<(u.length:Nat):=Om;have:j=u.length:=Om;subst this;rw[aYS] at R;simp only[go_sem,p];exact Up.up Lq (hK H0 R)
def scB (i J c p:Nat) (R:PV) (U:List (List Int)) (s:List Nat) (nd:Nat) (l:List Int):List BX:=[(i,.rows 1 [[R]]),(J,.rows 1 [[lay U]]),(c,.rows 1 (aZ (bU s))),(p,.rows 1 (cY (marks nd l)))]
theorem Jf {C:Ctx} {K:bT} [Up K] (ou R od c nd n:Nat) (fl vo:PV) (U:List (List Int)) (hU:UOk nd U) (s:List Nat) (hs:s.length=n) (θ:∀ x∈s,x<U.length) (hn:n≤1000) {F:PF} {H:PH} {L:List LI}
  (J:aP H (scB R ou c od vo U s nd []) L)
  (hF:((((((((PF.nil.set 2 (fl)).set 6 (.ptr ou 1 0 0)).set 7 (.ptr R 1 0 0)).set 9 (.osl od 1 0 nd)).set 66 (.osl c 1 0 n)).set 67 (.int .i64 n)).set 68 (.int .i64 0))).le F)
  (hK:∀ H',aP H' (scB R ou c od vo U s nd (lT U s)) L→K (.exit 2) (((((PF.nil.set 2 (fl)).set 6 (.ptr ou 1 0 0)).set 7 (.ptr R 1 0 0)).set 9 (.osl od 1 0 nd))) H') :
  aA.wp C (.loop IT) K F H:=by
 refine wp_loop (α:=Nat × PH) (fun t=>(((((((PF.nil.set 2 (fl)).set 6 (.ptr ou 1 0 0)).set 7 (.ptr R 1 0 0)).set 9 (.osl od 1 0 nd)).set 66 (.osl c 1 0 n)).set 67 (.int .i64 n)).set 68 (.int .i64 t.1))) (fun t=>t.2) (fun t=>t.1≤s.length∧aP t.2 (scB R ou c od vo U s nd (lT U (s.take t.1))) L) (fun t=>s.length-t.1) (0,H) ⟨aXU _,J⟩ hF PH.le_refl ?_;rintro⟨i,H0⟩ ⟨hi,J⟩;simp only at hi J;simp only[go_sem,IT,kb];by_cases hlt:i<s.length
 ·have l:(i:Int)<(n:Nat):=Om;have hc:=J.at 2 rfl;have η:=J.at 1 rfl;have ε:=vN hlt;have ζ:i<(aZ (bU s)).length:=by rw[dM,fF]; exact hlt
  have hx:=θ s[i] (aXM hlt);have ι:((s[i]:Nat):Int)<(U.length:Nat):=Om;have p:=H8 U s hlt;have β:=hU.at_ U[s[i]] (aXM hx);have δ:U.getD s[i] []=U[s[i]]:=by simp[aYK,hx]
  have γ:(U.map fun r=>[ints r])[s[i]]?=some [ints U[s[i]]]:=by simp[hx]
  rw[δ] at p;generalize U[s[i]]=u at *
  generalize s[i]=x at *
  simp only[go_sem,l,kc,hc,ε,ζ,aYD,kd,η,ι,aXI,γ];have one:=fun {K:bT} [Up K] {F:PF}=>aaV (C:=C) (K:=K) ou R od c nd n i fl u β.1 β.2 (lT U (s.take i)) (F:=F) J 3 rfl;refine one (by (repeat' (first|exact PF.nil_le|refine PF.aJ ?_ ?_))<;>first|(simp only[go_sem,aXI]<;>rfl)|rfl) fun H' h2=>?_;rw[← p] at h2;simp only[go_sem,kp,wZz i];exact aM (i+1,H') ⟨hlt,h2⟩ (by simp only; omega) Lq PH.le_refl
 ·have l:¬ (i:Int)<(n:Nat):=Om;have:i=s.length:=Om;subst this;rw[aYS] at J;simp only[go_sem,l];exact Up.up Lq (hK H0 J)
def scD (l:List Int) (k:Nat):List Int:=bU ((aXQ k).filter fun d=>l.contains (d:Int))
theorem auG (l:List Int) (k:Nat):scD l (k+1)=if l.contains (k:Int) then scD l k++[(k:Int)] else scD l k:=by
 unfold scD;rw[List.range_succ,List.filter_append,asC];by_cases h:l.contains (k:Int)
 ·rw[if_pos h]; simp[bU] at h ⊢; simp[h]
 ·rw[if_neg h]; simp[bU] at h ⊢; simp[h]
theorem aEA (l:List Int) (k:Nat):(scD l k).length≤k:=by
 unfold scD;rw[fF];exact aZD (List.length_filter_le ..) (by simp)
theorem xl {C:Ctx} {K:bT} [Up K] (ou ob od c nd:Nat) (ζ:nd≤1000) (fl vo:PV) (U:List (List Int)) (s:List Nat) (l:List Int) {F:PF} {H:PH} {L:List LI}
  (J:aP H (scB ob ou c od vo U s nd l) L)
  (hF:((((((((PF.nil.set 2 (fl)).set 6 (.ptr ou 1 0 0)).set 7 (.ptr ob 1 0 0)).set 14 (.aB)).set 86 (.osl od 1 0 nd)).set 87 (.int .i64 nd)).set 88 (.int .i64 0))).le F)
  (hK:∀ v H',aP H' (scB ob ou c od vo U s nd l) (L++[(v,1,aZ (scD l nd))])→K (.exit 6) (((((PF.nil.set 2 (fl)).set 6 (.ptr ou 1 0 0)).set 7 (.ptr ob 1 0 0)).set 14 (v))) H') :
  aA.wp C (.loop IU) K F H:=by
 refine wp_loop (α:=Nat × PV × PH) (fun t=>(((((((PF.nil.set 2 (fl)).set 6 (.ptr ou 1 0 0)).set 7 (.ptr ob 1 0 0)).set 14 (t.2.1)).set 86 (.osl od 1 0 nd)).set 87 (.int .i64 nd)).set 88 (.int .i64 t.1))) (fun t=>t.2.2) (fun t=>t.1≤nd∧aP t.2.2 (scB ob ou c od vo U s nd l) (L++[(t.2.1,1,aZ (scD l t.1))])) (fun t=>nd-t.1) (0,.aB,H) ⟨aXU _,J.rZ 1⟩ hF PH.le_refl ?_;clear J;rintro⟨k,v,H0⟩ ⟨hk,J⟩;simp only at hk J;simp only[go_sem,IU,kw];by_cases hlt:k<nd
 ·have p:(k:Int)<(nd:Nat):=Om;have γ:=J.at 3 rfl;have i:=auG l k;have ε:=aEA l k;have β:k<(cY (marks nd l)).length:=by rw[xD,KK]; exact hlt
  have R:(cY (marks nd l))[k]?=some [.bool (l.contains (k:Int))]:=by have:=wM (n:=nd) (l:=l) (m:=(k:Int)) Om p;rw[aZL] at this;unfold cY;rw[aYG,this]; rfl
  cases hc:l.contains (k:Int) with
  | true =>
   rw[hc] at R i;rw[if_pos rfl] at i;simp only[go_sem,p,IV,γ,R,β,aYD,IW,kx];refine J.append L.length (rows:=aZ (scD l k)) (src:=[[.int .i64 k]]) (ia _ _ _ rfl) Sq (by unfold roomFor; rw[dM]; simp only[aXR,maxLen]; omega) fun v' H' h3 _=>?_;have δ:aZ (scD l k)++[[.int .i64 k]]=aZ (scD l (k+1)):=by rw[i,KE]; rfl
   rw[δ,a0L _ _ (aXL _),Nat.sub_self] at h3;simp only[go_sem,IX,wZz k];exact aM (k+1,v',H') ⟨hlt,h3⟩ (by simp only; omega) Lq PH.le_refl
  | false =>rw[hc] at R i;rw[if_neg (by decide)] at i;rw[← i] at J;simp only[go_sem,p,IV,γ,R,β,aYD,IW,IX,wZz k];exact aM (k+1,v,H0) ⟨hlt,J⟩ (by simp only; omega) Lq PH.le_refl
 ·have p:¬ (k:Int)<(nd:Nat):=Om;have:k=nd:=Om;subst this;simp only[go_sem,p];exact Up.up Lq (hK v H0 J)
def iU (f:aK) (lv i:Int):Int:=if jL f&&(decide (1≤lv)&&decide (lv≤5)&&decide (1≤i)&&decide (i≤3)) then (if 12<f.aVZ.length∨512<eD ((eW f lv).length:Nat) i.toNat then 2 else 0) else 1
def pM (f:aK) (lv i:Int):List (List Int):=if iU f lv i=0 then pL f (eW f lv) i.toNat else []
structure vz (C:Ctx):Prop extends vy C where
 val:∀ f:aK,f.Ok→aH C 96 [.agg f.cells] .nil (aL (.int .i64 (tU f)))
 units:∀ (f:aK) (lv:Int),VF f→1≤lv→lv≤5→aH C 206 [.agg f.cells,.int .i64 lv] .nil (aL (lay (eW f lv)))
 choose:∀ m n:Nat,m≤1000→n≤3→aH C 207 [.int .i64 m,.int .i64 n] .nil (aL (.int .i64 (max (eD m n) 0)))
theorem H9 {f:aK} (hV:VF f) (lv:Int):UOk f.aVZ.length (eW f lv)∧(eW f lv).length≤40:=by
 have hd:=hV.small.aVZ;have R:=hV.small.aWC;by_cases c:lv=5
 ·subst c;rw[tq];refine⟨⟨by simp; omega,fun u p=>?_⟩,by simp; omega⟩;obtain⟨d,l,rfl⟩:=aYH.1 p;rw[aYV] at l;refine⟨by simp,fun x J=>?_⟩;rw[aZW] at J;omega
 ·rw[VI f c];have U:(mH f lv f.aVZ.length).length≤40:=by rw[GU];exact aZD (List.length_filter_le ..) (by simp; omega)
  refine⟨⟨by omega,fun u p=>?_⟩,U⟩;obtain⟨i,-,rfl⟩:=aYH.1 p;refine⟨by rw[fF]; have:=ZE f lv f.aVZ.length i; omega,fun x J=>?_⟩;obtain⟨y,hy,rfl⟩:=aYH.1 J;have:=aYV.1 (List.mem_filter.1 hy).1;omega
theorem aKD (U:List (List Int)) (s:List Nat) (nd:Nat):scD (lT U s) nd=bU ((aXQ nd).filter (nU U s)):=by
 unfold scD;congr 2;funext d;exact K6 U s d
instance upDone {R:PH→Prop}:Up (xI R):=⟨fun {e F i H} _ h=>by cases e<;>exact h⟩
def wc (l p:Nat) (U:List (List Int)) (J:List (List Int)) (G:PH):Prop:=∃ i ps,aP G [(l,.rows 1 [[i]]),(p,.rows 1 [[lay U]])] (eS i ps)∧wls ps=J
theorem Jg {C:Ctx} (f:aK) (hV:VF f) (U:List (List Int)) (hU:UOk f.aVZ.length U) (ι:U.length≤40) (n:Nat) (κ:1≤n) (hn:n≤3) (ou l:Nat) (F:PF) (f2:F 2=some (.cO f.cells)) (f6:F 6=some (.ptr ou 1 0 0)) (f7:F 7=some (.ptr l 1 0 0)) (k:Nat) (hk:k<(cV U.length n 0).length) (G:PH) (c:Nat)
  (hI:wc l ou U (((cV U.length n 0).take k).map fun s=>bU ((aXQ f.aVZ.length).filter (nU U s))) G) (hc:G c=none) :
  IQ.wp C (fZ C (IR.wp C) (xI (wc l ou U (((cV U.length n 0).take (k+1)).map fun s=>bU ((aXQ f.aVZ.length).filter (nU U s)))))) (F.set 61 (.osl c 1 0 n)) (G.set c (.rows 1 (aZ (bU (cV U.length n 0)[k])))):=by
 obtain⟨p,ps,hH,hw⟩:=hI;have R:=hV.small;have δ:(f.aVZ.length:Int)*((1:Nat):Int)≤140737488355328:=by have:=R.aVZ; omega
 have ε:(f.aVZ.length:Int)≤9223372036854775807:=by have:=R.aVZ; omega
 have i:(0:Int)≤(f.aVZ.length:Int):=Om;have η:=wV U.length n 0 _ (aXM hk);have θ:(cV U.length n 0).take (k+1)=(cV U.length n 0).take k++[(cV U.length n 0)[k]]:=aZT hk;have μ:ps.length≤1099511627776:=by
  rw[← BP,hw,aXI,aYA];have h1:=GI U.length n 0;have h2:2 ^ (U.length-0)≤2 ^ 40:=a0Z Om Om;have e:(2:Nat) ^ 40=1099511627776:=by decide
  omega
 generalize (cV U.length n 0)[k]=s at *
 obtain⟨sl,γ,-⟩:=η;rw[θ,aYN,← hw];have h2:=hH.new hc (.rows 1 (aZ (bU s)));simp only[go_sem,IQ,xt,IR,xu,f2,aXI,δ,ε,i,Int.le_refl,aZL];refine aT fun od ζ=>?_;rw[IF];have h3:=h2.new ζ (.rows 1 (cY (marks f.aVZ.length [])));simp only[go_sem,ka];have mk:=fun {K:bT} [Up K] {F:PF} {H:PH}=>Jf (C:=C) (K:=K) ou l od c f.aVZ.length n (.cO f.cells) p U hU s sl (fun x hx=>(γ x hx).2) Om (F:=F) (H:=H) (L:=eS p ps);refine mk h3 (by (repeat' (first|exact PF.nil_le|refine PF.aJ ?_ ?_))<;>first|(simp only[go_sem,f2,f6,f7]<;>rfl)|rfl) fun H1 h4=>?_;simp only[go_sem,kr,ku];have dr:=fun {K:bT} [Up K] {F:PF} {H:PH}=>xl (C:=C) (K:=K) ou l od c f.aVZ.length (by have:=R.aVZ; omega) (.cO f.cells) p U s (lT U s) (F:=F) (H:=H) (L:=eS p ps);refine dr h4 Lq fun v H2 h5=>?_;have hO:=h5.own (eS p ps).length (ia _ _ _ rfl);have β:=h5.at 0 rfl;rw[aKD] at h5 hO;generalize hD:bU ((aXQ f.aVZ.length).filter (nU U s))=D at *
 have fin:∀ (q2:Nat) (H':PH),aP H' (scB l ou c od p U s f.aVZ.length (lT U s)) ((eS p ps++[(v,1,aZ D)]).set 0 (PV.osl q2 1 0 (dD ps++[[v]]).length,1,dD ps++[[v]]))→wc l ou U (wls ps++[D]) (H'.set l (.rows 1 [[PV.osl q2 1 0 (dD ps++[[v]]).length]])):=by
  intro q2 H' J;have h7:=J.set 0 rfl (bX.rows 1 [[PV.osl q2 1 0 (dD ps++[[v]]).length]]);refine⟨PV.osl q2 1 0 (dD ps++[[v]]).length,ps++[(v,D)],?_,?_⟩
  ·have e:eS (PV.osl q2 1 0 (dD ps++[[v]]).length) (ps++[(v,D)])=(eS p ps++[(v,1,aZ D)]).set 0 (PV.osl q2 1 0 (dD ps++[[v]]).length,1,dD ps++[[v]]):=by unfold eS dD nH;rw[aYN,aYN];rfl
   rw[e];exact (h7.uC 3).uC 2
  ·unfold wls;rw[aYN]; rfl
 have room:roomFor (dD ps).length 1 24:=by unfold roomFor; rw[lW]; simp only[maxLen]; omega
 rcases hO with ⟨-,rfl⟩ | ⟨q,rs,rfl,-,-,-⟩
 ·simp only[go_sem,IY,β,aXP,aXX,or_false,forall_eq];refine h5.append 0 (rows:=dD ps) (src:=[[PV.aB]]) rfl Sq room fun v' H' J α=>?_;obtain⟨q2,rfl⟩:=α (by simp);have i:=J.at 0 rfl;simp only[go_sem,i,aXP,aXX,or_false,forall_eq];exact fin q2 H' J
 ·simp only[go_sem,IY,β,aXP,aXX,or_false,forall_eq];refine h5.append 0 (rows:=dD ps) (src:=[[PV.osl q 1 0 (aZ D).length]]) rfl Sq room fun v' H' J α=>?_;obtain⟨q2,rfl⟩:=α (by simp);have i:=J.at 0 rfl;simp only[go_sem,i,aXP,aXX,or_false,forall_eq];exact fin q2 H' J
abbrev xJ (lv i:Int):PV:=.agg [.int .i64 lv,.int .i64 i]
theorem apV {C:Ctx} (Lb:vz C) (η θ:Code) (f:aK) (hf:f.Ok) (lv i:Int) :
  (CE η θ).wp C (aW (WZ η θ).res (cG (.tup [lay (pM f lv i),.int .i64 (iU f lv i)]))) (PF.args [.agg f.cells,xJ lv i]) .nil:=by
 have hB:pM f lv i=if iU f lv i=0 then pL f (eW f lv) i.toNat else []:=rfl
 have hE:iU f lv i=if jL f&&(decide (1≤lv)&&decide (lv≤5)&&decide (1≤i)&&decide (i≤3)) then (if 12<f.aVZ.length∨512<eD ((eW f lv).length:Nat) i.toNat then 2 else 0) else 1:=rfl
 have hv:=Lb.val f hf;unfold tU at hv;have p:∀ (e:Int) (F:PF) (H:PH),e≠0→iU f lv i=e→F 4=some .aB→F 5=some (.int .i64 e)→aW [.tmp 4,.tmp 5] (cG (.tup [lay (pM f lv i),.int .i64 (iU f lv i)])) .ret F H:=by intro e F H he l h2 h3;rw[l,if_neg he] at hB;rw[hB,l];exact yA (H:=H) (.inr rfl) (by simp only[go_sem,h2,h3]) (show aP H [] (eS .aB []) from aP.OY aP.nil)
 have no:(jL f&&(decide (1≤lv)&&decide (lv≤5)&&decide (1≤i)&&decide (i≤3)))=false→iU f lv i=1:=fun h=>by rw[hE,h]; rfl
 simp only[go_sem,CE,nP.wp,xm,xn,WZ];refine aC hv Ev ?_;cases hp:jL f with
 | false =>have l:=no (by rw[hp]; rfl);simp only[go_sem,eT (show (1:Int)≠0 by decide),rR];exact p 1 _ _ (by decide) l Sq Sq
 | true =>
  have hV:=VF.of hp;by_cases c1:lv<1
  ·have l:=no (by rw[decide_eq_false (Om:¬ 1≤lv)]; simp);simp only[go_sem,cE (show (0:Int)=0 from rfl),c1,rR];exact p 1 _ _ (by decide) l Sq Sq
  by_cases c2:lv>5
  ·have l:=no (by rw[decide_eq_false (Om:¬ lv≤5)]; simp);simp only[go_sem,cE (show (0:Int)=0 from rfl),c1,c2,rR];exact p 1 _ _ (by decide) l Sq Sq
  by_cases c3:i<1
  ·have l:=no (by rw[decide_eq_false (Om:¬ 1≤i)]; simp);simp only[go_sem,cE (show (0:Int)=0 from rfl),c1,c2,c3,rR];exact p 1 _ _ (by decide) l Sq Sq
  by_cases c4:i>3
  ·have l:=no (by rw[decide_eq_false (Om:¬ i≤3)]; simp);simp only[go_sem,cE (show (0:Int)=0 from rfl),c1,c2,c3,c4,rR];exact p 1 _ _ (by decide) l Sq Sq
  obtain⟨n,rfl⟩:∃ n:Nat,i=n:=⟨i.toNat,by omega⟩;rw[hp,decide_eq_true (Om:1≤lv),decide_eq_true (Om:lv≤5),decide_eq_true (Om:(1:Int)≤(n:Int)),decide_eq_true (Om:(n:Int)≤3),Bool.and_self,Bool.and_self,Bool.and_self,Bool.and_self,if_pos rfl,aZL] at hE;rw[aZL] at hB;obtain⟨hU,ι⟩:=H9 hV lv;have β:=Lb.units f lv hV Om Om;generalize eW f lv=U at *
  simp only[go_sem,cE (show (0:Int)=0 from rfl),c1,c2,c3,c4,xo];refine aC β Ev ?_;simp only[go_sem];refine aT fun R σ=>?_;simp only[go_sem,xp,aXI];by_cases c5:12<f.aVZ.length
  ·have l:iU f lv n=2:=by rw[hE,if_pos (.inl c5)]
   simp only[go_sem,show (f.aVZ.length:Int)>12 by omega,SG];exact p 2 _ _ (by decide) l Sq Sq
  simp only[go_sem,show ¬ (f.aVZ.length:Int)>12 by omega];refine aC (Lb.choose U.length n Om Om) Ev ?_;by_cases c6:512<eD (U.length:Nat) n
  ·have l:iU f lv n=2:=by rw[hE,if_pos (.inr c6)]
   simp only[go_sem,show max (eD (U.length:Nat) n) 0>512 by omega,SG];exact p 2 _ _ (by decide) l Sq Sq
  have l:iU f lv n=0:=by rw[hE,if_neg (fun h=>h.elim c5 c6)]
  rw[l,if_pos rfl] at hB;rw[hB,l];simp only[go_sem,show ¬ max (eD (U.length:Nat) n) 0>512 by omega,xq];refine aT fun J ζ=>?_;have υ:¬ J=R:=by rintro rfl; rw[cD] at ζ; cases ζ
  have γ:¬ R=J:=fun e=>υ e.symm;simp only[go_sem,xr,γ,aXI];refine lF (Lb.subs n U.length) Sq PH.nil_le ?_;rintro r H' ⟨o1,o2,ε,rfl,rfl⟩ ρ;have sep:∀ o x,(((PH.nil.set o1 (.rows 1 [[.int .i64 n]])).set o2 (.rows 1 [[.int .i64 (U.length:Nat)]])):PH) o=some x→¬ J=o∧¬ R=o:=fun o x h=>by
   have:=ρ o x h rfl;refine⟨fun e=>?_,fun e=>?_⟩
   ·rw[← e,cD] at this; cases this
   ·rw[← e,aQ,if_neg γ,cD] at this; cases this
  obtain⟨κ,ν⟩:=sep o1 _ (by rw[aQ,if_neg ε,cD]);obtain⟨μ,ξ⟩:=sep o2 _ (by rw[cD]);simp only[go_sem];generalize hF:PF.set _ 60 _=F;have f2:F 2=some (.cO f.cells):=by rw[← hF]; simp only[go_sem]
  have f6:F 6=some (.ptr R 1 0 0):=by rw[← hF]; simp only[go_sem]
  have f7:F 7=some (.ptr J 1 0 0):=by rw[← hF]; simp only[go_sem]
  have φ:F 60=some (.fn 211 [.ptr o1 1 0 0,.ptr o2 1 0 0]):=by rw[← hF]; simp only[go_sem]
  clear hF;have δ:pL f U n=((cV U.length n 0).take (cV U.length n 0).length).map fun s=>bU ((aXQ f.aVZ.length).filter (nU U s)):=by rw[aYS]; rfl
  have α:aP ((PH.nil.set R (.rows 1 [[lay U]])).set J (.rows 1 [[.aB]])) [(J,.rows 1 [[.aB]]),(R,.rows 1 [[lay U]])] (eS .aB []):=((((aP.nil (H:=PH.nil)).new σ _).new ζ _).perm (List.Perm.swap _ _ _) (List.Perm.refl _)).OY;refine⟨211,[.ptr o1 1 0 0,.ptr o2 1 0 0],wc J R U (pL f U n),rfl,fun hY=>?_,fun H2 ο=>?_⟩
  ·rw[δ];refine ZF (m:=104) (t:=61) Lb.toVQ rfl Om Om Om ε (fun k=>wc J R U (((cV U.length n 0).take k).map fun s=>bU ((aXQ f.aVZ.length).filter (nU U s)))) ((PH.nil.set R (.rows 1 [[lay U]])).set J (.rows 1 [[.aB]])) ⟨.aB,[],α,rfl⟩ ?_ ?_ ?_ ?_ ?_ hY fun k hk G c hI hc=>Jg f hV U hU ι n Om Om R J F f2 f6 f7 k hk G c hI hc
   ·intro o x ho;rw[fW];have e1:¬ o=o1:=fun e=>by rw[e,aQ,if_neg (fun h=>κ h.symm),aQ,if_neg (fun h=>ν h.symm)] at ho; cases ho
    have e2:¬ o=o2:=fun e=>by rw[e,aQ,if_neg (fun h=>μ h.symm),aQ,if_neg (fun h=>ξ h.symm)] at ho; cases ho
    have:((PH.nil.set o1 (.rows 1 [[.int .i64 n]])).set o2 (.rows 1 [[.int .i64 (U.length:Nat)]]):PH) o=none:=by rw[aQ,if_neg e2,aQ,if_neg e1]; rfl
    rw[this];exact ho
   ·rw[fW]; simp only[aQ,if_neg ε,if_true]
   ·rw[fW]; simp only[aQ,if_true]
   ·rw[aQ,if_neg (fun e=>κ e.symm),aQ,if_neg (fun e=>ν e.symm)]; rfl
   ·rw[aQ,if_neg (fun e=>μ e.symm),aQ,if_neg (fun e=>ξ e.symm)]; rfl
  ·obtain⟨vo,ps,hH,τ⟩:=ο;have hb:=hH.at 0 rfl;simp only[go_sem,XA,kz,f7,hb];rw[← τ];exact yA (.inr rfl) Sq ((hH.uC 0).uC 0)
theorem Jb {set:List Int} {n top:Int} (h:oR set n top=true):set.Pairwise (· < ·):=by
 unfold oR at h;simp only[aYB,decide_eq_true_eq,aYF,aYV] at h;have l:∀ i (hi:i+1<set.length),set[i]<set[i+1]:=by
  intro i hi;have:=h.2 (i+1) hi;unfold mA at this;have g1:set.getD (i+1) 0=set[i+1]:=by simp[aYK,hi]
  have g2:set.getD (i+1-1) 0=set[i]:=by simp[aYK,show i<set.length by omega]
  rw[g1,g2] at this;simp only[aYB,Bool.or_eq_true,decide_eq_true_eq] at this;rcases this.2 with h | h
  ·omega
  ·exact h
 rw[List.pairwise_iff_getElem];intro i j hi U p;obtain⟨d,rfl⟩:∃ d,j=i+1+d:=⟨j-i-1,by omega⟩;clear p
 induction d with
 | zero=>exact l i U
 | succ d ih =>have J:=ih Om;have R:=l (i+1+d) Om;exact Int.lt_trans J R
theorem Ju {l:List Nat} (h:l.Pairwise (· < ·)):(bU l).Pairwise (· < ·):=by
 unfold bU;rw[List.pairwise_map];exact h.imp fun h=>by omega
theorem auH {f:aK} (hV:VF f) (U:List (List Int)) (J:U.length≤40) (n:Nat):(pL f U n).length≤1099511627776∧∀ s∈pL f U n,s.length≤24∧s.Pairwise (· < ·):=by
 have R:=hV.small.aVZ;unfold pL;constructor
 ·rw[aXI];have l:=GI U.length n 0;have p:2 ^ (U.length-0)≤2 ^ 40:=a0Z Om Om;have e:(2:Nat) ^ 40=1099511627776:=by decide
  omega
 ·intro s i;obtain⟨t,-,rfl⟩:=aYH.1 i;refine⟨?_,Ju (List.pairwise_lt_range.filter _)⟩;rw[fF];exact aZD (List.length_filter_le ..) (by simp; omega)
def pK (f:aK) (aWK:Int) (set:List Int) (lv i:Int):Int:=if iU f lv i≠0 then iU f lv i else if BR f aWK set then 0 else 1
def qZ (f:aK) (aWK:Int) (set:List Int) (lv i:Int):Nat:=if pK f aWK set lv i=0 then xV (pM f lv i) set (gV f aWK).m else 0
structure aaF (C:Ctx):Prop extends vz C where
 GB:∀ (f:aK) (lv cnt:Int),f.Ok→aH C 230 [.agg f.cells,xJ lv cnt] .nil (aL (.tup [lay (pM f lv cnt),.int .i64 (iU f lv cnt)]))
 admis:∀ (f:aK) (aWK:Int) (set:List Int),f.Ok→set.length≤1000000000000000→aH C 204 [.agg f.cells,.int .i64 aWK,ints set] .nil (aL (.bool (BR f aWK set)))
 loss:∀ (sc:List (List Int)) (set:List Int) (m:Int),sc.length≤1000000000000000→(∀ s∈sc,s.length≤1000000000000000∧s.Pairwise (· < ·))→set.length≤1000000000000000→set.Pairwise (· < ·)→aH C 208 [lay sc,ints set,.int .i64 m] .nil (aL (.int .i64 (xV sc set m:Nat)))
theorem Th {C:Ctx} (R:aaF C) (f:aK) (hf:f.Ok) (aWK:Int) (set:List Int) (hl:set.length≤1000000000000000) (lv i:Int) :
  wB.wp C (aW OD.res (aL (.tup [.int .i64 (qZ f aWK set lv i:Nat),.int .i64 (pK f aWK set lv i)]))) (PF.args [.agg f.cells,.int .i64 aWK,ints set,xJ lv i]) .nil:=by
 have hB:qZ f aWK set lv i=if pK f aWK set lv i=0 then xV (pM f lv i) set (gV f aWK).m else 0:=rfl
 have l:pK f aWK set lv i=if iU f lv i≠0 then iU f lv i else if BR f aWK set then 0 else 1:=rfl
 simp only[go_sem,wB,WS,WT,OD];refine aC (R.GB f lv i hf) Ev ?_;by_cases c:iU f lv i≠0
 ·rw[if_pos c] at l;rw[l,if_neg c] at hB;simp only[go_sem,CC,eT c,WU];refine bV (.inr rfl) Ev ?_;rw[hB,l]; rfl
 have c:iU f lv i=0:=Decidable.not_not.1 c;rw[if_neg (fun h=>h c)] at l;simp only[go_sem,CC,c,cE (show (0:Int)=0 from rfl),WV];refine aC (R.admis f aWK set hf hl) Ev ?_;cases p:BR f aWK set with
 | false =>rw[p,if_neg (by decide)] at l;rw[l,if_neg (by decide)] at hB;simp only[go_sem,aYJ,WW];refine bV (.inr rfl) Ev ?_;rw[hB,l]; rfl
 | true =>
  rw[p,if_pos rfl] at l;rw[l,if_pos rfl] at hB;have hp:gG f aWK=true∧oR set (oN (gV f aWK)) f.aVZ.length=true:=by unfold BR at p;simp only[aYB] at p;exact⟨p.1,p.2.1⟩
  obtain⟨hV,h0,hm,he⟩:=wL hp.1;obtain⟨β,U⟩:=xR hp.1;have J:(f.aWD.map cB.cells)[aWK.toNat]?=some (gV f aWK).cells:=by rw[aYG,U]; rfl
  have hlt:aWK<(f.aWD.length:Nat):=Om;have α:pM f lv i=pL f (eW f lv) i.toNat:=by unfold pM; rw[if_pos c]
  obtain⟨k1,k2⟩:=auH hV (eW f lv) (H9 hV lv).2 i.toNat;rw[← α] at k1 k2;simp only[go_sem,aXW,WX,h0,hlt,aXI,J];refine aC (R.loss (pM f lv i) set (gV f aWK).m Om (fun s hs=>⟨by have:=(k2 s hs).1; omega,(k2 s hs).2⟩) hl (Jb hp.2)) Ev ?_;simp only[go_sem];refine bV (.inr rfl) Ev ?_;rw[hB,l]; rfl
def qa:Rg:=[iT 0 false]
def qb:Rg:=[iA 10 (.call 27 [(.const .aB),(Ci 1),(Ci 0)]),iA 1 (.alloc [(.int .i64 0),.aB,.aB,.aB,.aB,.aB,.aB]),iS 7 1 10]
def qc:Rg:=[iO 12 7 1,iA 13 (.call 205 [(Tm 12),(Ci 0)]),iM 11 13,iE 14 11 0,iE 15 11 1,iM 2 14,iM 3 15]
def qe:Rg:=[iO 17 7 1,iA 18 (.build [(.int .i64 0),(.int .i64 0)] [(0,1,(Ci 5)),(1,1,(Ci 1))]),iK2 19 230 17 18,iM 16 19,iE 20 16 0,iE 21 16 1,iM 4 20,iM 5 21]
def qf:Rg:=[iO 23 7 1,iA 24 (.aWF true 1 1 [(.int .i64 0)] [(0,(Ci 0))]),iA 25 (.build [(.int .i64 0),(.int .i64 0)] [(0,1,(Ci 1)),(1,1,(Ci 1))]),iA 26 (.call 209 [(Tm 23),(Ci 0),(Tm 24),(Tm 25)]),iM 22 26,iE 27 22 0,iE 28 22 1,iM 6 27,iM 7 28]
def qg:Rg:=[iO 30 7 1,iA 31 (.call 205 [(Tm 30),(Ci 5)]),iM 29 31,iE 32 29 0,iE 33 29 1,iM 8 32,iM 9 33]
def qh:Rg:=[iM 34 3,iC 35 .eql 34 0,iM 36 35,gM 37 2 36 true,iG 38 (.aWF true 1 1 [(.int .i64 0)] [(0,(Ci 0))]) 36 true,iG 39 (.aWF true 1 1 [.aB] [(0,(Tm 38))]) 36 true,gK2 40 212 37 39 36 true,iP 41 36 40,iM 42 41,gM 43 5 42 true,gC 44 .eql 43 0 42 true,iP 45 42 44,iM 46 45,gM 47 4 46 true,iG 48 (.aWF true 1 1 [(.int .i64 0)] [(0,(Ci 0))]) 46 true,iG 49 (.aWF true 1 1 [.aB] [(0,(Tm 48))]) 46 true,gK2 50 212 47 49 46 true,iP 51 46 50,iM 52 51,gM 53 7 52 true,gC 54 .eql 53 0 52 true,iP 55 52 54,iM 56 55,gM 57 6 56 true,gC 58 .eql 57 1 56 true,iP 59 56 58,iM 60 59,gM 61 9 60 true,gC 62 .eql 61 1 60 true,iP 63 60 62,iM 0 63]
def zC:aA:=(sq qa (sq qb (sq qc (sq qe (sq qf (sq qg (sq qh .ret)))))))
def acV:List Nat:=[24,38,39,48,49]
def bc:aS:=⟨0,64,zC,[.tmp 0]⟩
def qk:Rg:=[iA 4 (.alloc [(.int .i64 0),(.int .i64 0)])]
def qn:Rg:=[iM 5 0,iA 6 (.conv .i64 (Tm 5)),iC 7 .rem 6 5,iA 8 (.bin .add (Ci 1) (Tm 7)),iM 9 1,iA 10 (.conv .i64 (Tm 9)),iC 11 .rem 10 3,iA 12 (.bin .add (Ci 1) (Tm 11)),iA 13 (.build [(.int .i64 0),(.int .i64 0)] [(0,1,(Tm 8)),(1,1,(Tm 12))]),iS 2 4 13]
def zP:aA:=(sq qk (sq qn .ret))
def acY:List Nat:=[]
def bv:aS:=⟨2,14,zP,[.cell 4 (some 2)]⟩
def LH:Rg:=[iT 8 false]
def LJ:Rg:=[iM 22 0,iA 23 (.call 27 [(Tm 22),(Ci 9),(Ci 0)]),iA 9 (.alloc [(.int .i64 0),.aB,.aB,.aB,.aB,.aB,.aB]),iS 7 9 23]
def LK:Rg:=[iM 24 1,iA 25 (.conv .i64 (Tm 24)),iF 26 5 9,iL 27 26,iN 28 27,iB 29 .rem 25 28,iM 10 29]
def LL:Rg:=[iM 30 2,iM 31 3,iA 32 (.bin .rem (Tm 31) (.const (.int .u8 2))),iK2 33 223 30 32,iA 11 (.alloc [(.int .i64 0),(.int .i64 0)]),iS 2 11 33]
def xW:Rg:=[iF 34 4 9,iL 35 34,iN 36 35,iM 12 36]
def xX:Rg:=[iF 37 0 11,iL 38 37,iC 39 .lss 38 5]
def LM:Rg:=[iI 12 0]
def LN:Rg:=[iI 13 0]
def qp:Rg:=[iM 40 13,iF 41 3 9,iL 42 41,iN 43 42,iB 44 .lss 40 43]
def qr:Rd:=[(iF 47 3 9,false),(iL 48 47,false),(iM 49 13,false),(iX 50 7 48 49,false),(iF 51 1 50,false),(iL 52 51,false),(iF 53 0 11,false),(iL 54 53,false),(iB 55 .eql 52 54,false)]
def bw:Rg:=[iM 56 12,iC 57 .add 56 1,iM 12 57]
def FA:Rg:=[iM 45 13,iC 46 .add 45 1,iM 13 46]
def uP:aA:=(.seq (sq qp (.cond (Tm 44) .skip (.exit 0))) (.seq (.block 1 (dq qr (.cond (Tm 55) (.region bw) .skip))) (.region FA)))
def FB:Rg:=[iM 58 12,iF 59 1 11,iL 60 59,iA 61 (.bin .mul (Ci 2) (Tm 60)),iC 62 .add 61 1,iB 63 .lss 58 62]
def FC:Rg:=[iA 64 (.call 222 []),iM 8 64]
def FD:Rg:=[iO 65 2 11,iA 14 (.alloc [(.int .i64 0),(.int .i64 0)]),iS 2 14 65]
def FF:Rg:=[iF 66 1 14,iL 67 66,iC 68 .add 67 1,iF 69 1 14,iS 1 69 68]
def FG:Rg:=[iO 71 7 9,iM 72 10,iK2 73 205 71 72,iM 70 73,iE 74 70 0,iE 75 70 1,iM 15 74,iM 16 75]
def FH:Rg:=[iM 76 16,iC 77 .neq 76 0]
def bz:Rg:=[iT 8 false]
def FI:Rg:=[iI 17 0]
def b8:Rg:=[iM 78 17,iM 79 15,iN 80 79,iB 81 .lss 78 80,iM 82 81,gM 83 17 82 true,gC 84 .lss 83 30 82 true,iP 85 82 84]
def b9:Rd:=[(iO 89 7 9,false),(iM 90 10,false),(iM 91 15,false),(iM 92 17,false),(iX 93 1 91 92,false),(iL 94 93,false),(iO 95 2 11,false),(iA 96 (.call 209 [(Tm 89),(Tm 90),(Tm 94),(Tm 95)]),true),(iM 88 96,false),(iE 97 88 0,false),(iE 98 88 1,false),(iM 18 97,false),(iM 19 98,false)]
def ca:Rd:=[(iO 100 7 9,false),(iM 101 10,false),(iM 102 15,false),(iM 103 17,false),(iX 104 1 102 103,false),(iL 105 104,false),(iO 106 2 14,false),(iA 107 (.call 209 [(Tm 100),(Tm 101),(Tm 105),(Tm 106)]),true),(iM 99 107,false),(iE 108 99 0,false),(iE 109 99 1,false),(iM 20 108,false),(iM 21 109,false)]
def cb:Rg:=[iM 110 19,iC 111 .neq 110 0,iM 112 111,gM 113 21 112 false,gC 114 .neq 113 0 112 false,iQ 115 112 114,iM 116 115,gM 117 20 116 false,gM 118 18 116 false,gB 119 .lss 117 118 116 false,iQ 120 116 119]
def Uw:Rg:=[iT 8 false]
def cc:Rg:=[iM 86 17,iC 87 .add 86 1,iM 17 87]
def EZ:aA:=(.seq (sq b8 (.cond (Tm 85) .skip (.exit 2))) (.seq (.block 3 (dq b9 (dq ca (sq cb (.cond (Tm 120) (sq Uw .ret) .skip))))) (.region cc)))
def uQ:Rg:=[iA 121 (.call 222 []),iM 8 121]
def zQ:aA:=(sq LH (sq LJ (sq LK (sq LL (sq xW (.seq (sq xX (.cond (Tm 39) (sq LM (sq LN (.block 0 (.loop uP)))) .skip)) (.seq (sq FB (.cond (Tm 63) (sq FC .ret) .skip)) (sq FD (sq FF (sq FG (.seq (sq FH (.cond (Tm 77) (sq bz .ret) .skip)) (.seq (sq FI (.block 2 (.loop EZ))) (sq uQ .ret)))))))))))))
def adB:List Nat:=[]
def tF:aS:=⟨4,122,zQ,[.tmp 8]⟩
structure ayM (C:Ctx):Prop where
 same1:∀ l:List Int,Fits l→aH C 94 [ints l,ints l] .nil (aL (.bool true))
 fleet:∀ (l:List Nat),(∀ x∈l,x<256)→l.length≤9223372036854775807→∀ aVZ aWB:Nat,aVZ≤60→aWB≤50 →
  aH C 27 [.sl 1 (jG l),.int .i64 aVZ,.int .i64 aWB] .nil (aL (.agg (fC (l.take 400) aVZ aWB 0).1.cells))
 all:∀ (f:aK) (aWK:Int),f.Ok→aH C 205 [.agg f.cells,.int .i64 aWK] .nil (aL (.tup [lay (fv f aWK),.int .i64 (yL f aWK)]))
 GB:∀ (f:aK) (lv cnt:Int),f.Ok→aH C 230 [.agg f.cells,xJ lv cnt] .nil (aL (.tup [lay (pM f lv cnt),.int .i64 (iU f lv cnt)]))
 loss:∀ (f:aK) (aWK:Int) (set:List Int) (lv cnt:Int),f.Ok→set.length≤1000000000000000→aH C 209 [.agg f.cells,.int .i64 aWK,ints set,xJ lv cnt] .nil (aL (.tup [.int .i64 (qZ f aWK set lv cnt:Nat),.int .i64 (pK f aWK set lv cnt)]))
theorem aqP {C:Ctx} (same1:∀ l:List Int,Fits l→aH C 94 [ints l,ints l] .nil (aL (.bool true))) (a:List (List Int)) (R:a.length≤9000000000000000000) (J:∀ w∈a,w.length≤9000000000000000000) :
  CS.wp C (aW vh.res (aL (.bool true))) (PF.args [lay a,lay a]) .nil:=by
 simp only[go_sem,CS,yr,yu,vh,aXI,cE (show (a.length:Int)=(a.length:Nat) from rfl),yv];refine wp_loop (α:=Nat) (fun k=>(((PF.nil.set 0 (lay a)).set 1 (lay a)).set 5 (.int .i64 k))) (fun _=>.nil) (fun k=>k≤a.length) (fun k=>a.length-k) 0 (aXU _) Lq PH.nil_le ?_;intro k U;simp only[go_sem,yq,yw,aXI];by_cases hlt:k<a.length
 ·have i:(k:Int)<(a.length:Nat):=Om;have p:(a.map fun w=>[ints w])[k]?=some [ints a[k]]:=by simp[hlt]
  have hw:=J a[k] (aXM hlt);generalize a[k]=x at *
  simp only[go_sem,i];refine cJ .nil (cyS (.bool true)) PH.nil_le ?_;simp only[go_sem,yx,p,aXI];refine cW rfl (same1 x Om) Sq PH.nil_le ?_;simp only[go_sem,aXW,yy,wZz k];exact aM (k+1) hlt Om Lq PH.nil_le
 ·have i:¬ (k:Int)<(a.length:Nat):=Om;simp only[go_sem,i,yz];refine bV (.inr rfl) Ev ?_;rfl
noncomputable def mY:aK:=(fC [] 1 0 0).1
theorem PE:mY.Ok:=aJU (by decide +kernel)
theorem VG:fv mY 0=[[0]]∧yL mY 0=0∧yL mY 5=1:=by decide +kernel
theorem sv:pM mY 5 1=[[0]]∧iU mY 5 1=0:=by decide +kernel
theorem su:qZ mY 0 [0] 1 1=1∧pK mY 0 [0] 1 1=0:=by decide +kernel
structure vx (C:Ctx):Prop extends ayM C where
 sets:∀ a:List (List Int),a.length≤9000000000000000000→(∀ w∈a,w.length≤9000000000000000000)→aH C 212 [lay a,lay a] .nil (aL (.bool true))
theorem acX {C:Ctx} (a b:Nat) (ha:a<256) (hb:b<256):zP.wp C (aW bv.res (aL (xJ (1+a%5:Nat) (1+b%3:Nat)))) (PF.args [.int .u8 a,.int .u8 b]) .nil:=by
 have p:IntKind.i64.wrap (a:Int)=a:=wrap_i64 Om Om;have J:IntKind.i64.wrap (b:Int)=b:=wrap_i64 Om Om;have i:Int.tmod (a:Int) 5=((a%5:Nat):Int):=by rw[Int.tmod_eq_emod_of_nonneg Om]; omega
 have l:Int.tmod (b:Int) 3=((b%3:Nat):Int):=by rw[Int.tmod_eq_emod_of_nonneg Om]; omega
 have R:IntKind.i64.wrap ((a%5:Nat):Int)=((a%5:Nat):Int):=wrap_i64 Om Om;have U:IntKind.i64.wrap ((b%3:Nat):Int)=((b%3:Nat):Int):=wrap_i64 Om Om;have w5:IntKind.i64.wrap (1+((a%5:Nat):Int))=((1+a%5:Nat):Int):=by rw[wrap_i64 Om Om]; omega
 have w6:IntKind.i64.wrap (1+((b%3:Nat):Int))=((1+b%3:Nat):Int):=by rw[wrap_i64 Om Om]; omega
 simp only[go_sem,zP,qk,bv];refine aT fun o ho=>?_;simp only[go_sem,qn,p,J,i,l,R,U,w5,w6,aXP,aXX,or_false,forall_eq,forall_eq_or_imp];refine bV (.inr rfl) (vs:=[xJ (1+a%5:Nat) (1+b%3:Nat)]) ?_ rfl;simp only[go_sem]
theorem acU {C:Ctx} (L:vx C):zC.wp C (aW bc.res (aL (.bool true))) (PF.args []) .nil:=by
 have U:=L.fleet [] (fun x hx=>by cases hx) (by decide) 1 0 (by decide) (by decide);have i:aH C 27 [.sl 1 (jG []),.int .i64 (1:Nat),.int .i64 (0:Nat)] .nil (aL (.agg mY.cells)):=U;have l:=L.all mY 0 PE;rw[VG.1,VG.2.1] at l;have p:=L.GB mY 5 1 PE;rw[sv.1,sv.2] at p;have J:=L.loss mY 0 [0] 1 1 PE (by decide);rw[su.1,su.2] at J;have R:=L.all mY 5 PE;rw[VG.2.2] at R;have h5:=L.sets [[0]] (by decide) (by decide);generalize mY=f at *
 simp only[go_sem,zC,qa,qb,bc];refine aC (i.args (.Tl (.nil 1) (.Tl (.refl _) (.Tl (.refl _) .aQV)))) (by simp only[go_sem]; rfl) ?_;simp only[go_sem];refine aT fun o ho=>?_;simp only[go_sem,qc];refine aC l Sq ?_;simp only[go_sem,qe];refine aC p Sq ?_;simp only[go_sem,qf];refine aC J (by simp only[go_sem]; rfl) ?_;simp only[go_sem,qg];refine aC R Sq ?_;simp only[go_sem,qh,bM (show (0:Int)=0 from rfl)];refine aC h5 (by simp only[go_sem]; rfl) ?_;simp only[go_sem,bM (show (0:Int)=0 from rfl)];refine aC h5 (by simp only[go_sem]; rfl) ?_;simp only[go_sem,bM (show (0:Int)=0 from rfl),bM (show ((1:Nat):Int)=1 from rfl),bM (show (1:Int)=1 from rfl)];refine bV (.inr rfl) Ev ?_;rfl
theorem Kq (n k a:Nat) (h:a<n):cV n (k+1) a=(cV n k (a+1)).map (a::·)++cV n (k+1) (a+1):=by
 rw[cV];by_cases c:n-k-a=0
 ·have i:n-k-(a+1)=0:=Om;rw[cV,c,i];have:cV n k (a+1)=[]:=by
   cases k with
   | zero=>omega
   | succ k=>rw[cV,show n-k-(a+1)=0 by omega]; rfl
  rw[this]; rfl
 ·obtain⟨m,l⟩:∃ m,n-k-a=m+1:=⟨n-k-a-1,by omega⟩;rw[cV,l,List.range'_succ,List.flatMap_cons,show n-k-(a+1)=m by omega]
def Grow (P:List Nat→Bool):Prop:=∀ s t:List Nat,(∀ x∈s,x∈t)→P s=true→P t=true
theorem Grow.cons {P:List Nat→Bool} (h:Grow P) (a:Nat):Grow fun s=>P (a::s):=fun s t i p =>
 h (a::s) (a::t) (fun x l=>(aXP.1 l).elim (fun e=>e ▸ List.mem_cons_self) fun l=>List.mem_cons_of_mem _ (i x l)) p
def gA (n k a:Nat) (P:List Nat→Bool):Nat:=(cV n k a).countP P
theorem wC (n k a:Nat) (h:a<n) (P:List Nat→Bool):gA n (k+1) a P=gA n k (a+1) (fun s=>P (a::s))+gA n (k+1) (a+1) P:=by
 unfold gA;rw[Kq n k a h,List.countP_append,List.countP_map];rfl
theorem aaU (n k a:Nat) {P Q:List Nat→Bool} (h:∀ s,P s=true→Q s=true):gA n k a P≤gA n k a Q:=List.countP_mono_left fun s _ i=>h s i
theorem yQ (n a:Nat) (P:List Nat→Bool):gA n 0 a P=if P [] then 1 else 0:=by
 unfold gA; rw[cV,List.countP_cons,List.countP_nil,aYD]
theorem CD (n:Nat):∀ (m k a:Nat) (P:List Nat→Bool),Grow P→a+m=n→(m-k)*gA n k a P≤(k+1)*gA n (k+1) a P
 | 0,k,a,P,_,_=>by rw[Nat.zero_sub,Nat.zero_mul]; exact aXU _
 | m+1,0,a,P,i,h=>by
  rw[wC n 0 a Om,yQ,yQ];have J:=CD n m 0 (a+1) P i Om;rw[yQ] at J;cases p:P [] with
  | false=>rw[if_neg (by simp)]; omega
  | true =>have R:P [a]=true:=i [] [a] (fun x l=>by cases l) p;rw[if_pos p] at J;rw[if_pos rfl,if_pos R];omega
 | m+1,k+1,a,P,i,h=>by
  have α:=CD n m (k+1) (a+1) P i Om;have β:=CD n m k (a+1) (fun s=>P (a::s)) (i.cons a) Om;have U:=aaU n (k+1) (a+1) (P:=P) (Q:=fun s=>P (a::s)) fun s hs=>i s (a::s) (fun x l=>List.mem_cons_of_mem _ l) hs;rw[wC n k a Om,wC n (k+1) a Om];generalize gA n (k+1) (a+1) P=x at *
  generalize gA n (k+1+1) (a+1) P=y at *
  generalize gA n k (a+1) (fun s=>P (a::s))=z at *
  generalize gA n (k+1) (a+1) (fun s=>P (a::s))=w at *
  rw[show m+1-(k+1)=m-k by omega,aXS,aXS];have e1:(m-k)*x≤(m-(k+1))*x+x:=by
   rcases aXZ k m with c | c
   ·rw[show m-k=(m-(k+1))+1 by omega,a0G]; exact aXL _
   ·rw[show m-k=0 by omega,Nat.zero_mul]; exact aXU _
  have e2:(k+1+1)*w=(k+1)*w+w:=a0G _ _;omega
theorem apT {n k:Nat} {P:List Nat→Bool} (p:Grow P) (h:2*k+1≤n):gA n k 0 P≤gA n (k+1) 0 P:=by
 have i:=CD n n k 0 P p Om;have l:(k+1)*gA n k 0 P≤(n-k)*gA n k 0 P:=aYL _ Om;exact Nat.le_of_mul_le_mul_left (aZD l i) Om
theorem C3 (f:aK) (u:List (List Int)) (k:Nat) (set:List Int) (m:Int):xV (pL f u k) set m=gA u.length k 0 fun s=>decide (((kM (bU ((aXQ f.aVZ.length).filter (nU u s))) set:Nat):Int)>m):=by
 unfold xV pL gA;rw[List.countP_map];rfl
theorem acI {f:aK} {u:List (List Int)} {k:Nat} {set:List Int} {m:Int} (h:2*k+1≤u.length):xV (pL f u k) set m≤xV (pL f u (k+1)) set m:=by
 rw[C3,C3];refine apT (fun s t J U=>?_) h;have h1:=of_decide_eq_true U;refine decide_eq_true ?_;have:kM (bU ((aXQ f.aVZ.length).filter (nU u s))) set≤kM (bU ((aXQ f.aVZ.length).filter (nU u t))) set:=by unfold kM;refine List.countP_mono_left fun d _ p=>?_;rw[List.contains_iff_mem] at p ⊢;unfold bU at p ⊢;rw[aYH] at p ⊢;obtain⟨x,l,rfl⟩:=p;refine⟨x,?_,rfl⟩;rw[List.mem_filter] at l ⊢;refine⟨l.1,?_⟩;unfold nU at l ⊢;rw[List.any_eq_true] at l ⊢;obtain⟨-,i,hi,R⟩:=l;exact⟨i,J i hi,R⟩
 omega
def lvC (L:Int) (ds:List cI):Nat:=ds.countP fun x=>decide (x.level=L)
def lvT:Nat→Int→Nat
 | 0,_=>0
 | k+1,L=>(if 4-k=2 then 1 else 2)*((if ((4-k:Nat):Int)=L then 1 else 0)+lvT k L)
theorem DL (l:List Nat) (mc aVZ domain:Nat) (s:GS):∀ i,(gP l mc aVZ domain s i).aWI=s.aWI
 | 0=>rfl
 | i+1=>by
  rw[gP];simp only;split
  ·exact DL l mc aVZ domain s i
  ·exact DL l mc aVZ domain s i
theorem aAH (l:List Nat) (level domain:Nat) (s:GS) (L:Int):lvC L (jR l level domain s).aWI=lvC L s.aWI+if (level:Int)=L then 1 else 0:=by
 unfold jR lvC;simp only[List.countP_append,List.countP_cons,List.countP_nil,aYD,decide_eq_true_eq]
theorem Bm {l:List Nat} {level aVZ domain b:Nat} {rec:Nat→GS→GS} {L:Int} (p:∀ d s,lvC L (rec d s).aWI≤lvC L s.aWI+b) (s:GS):∀ i,lvC L (eR l level aVZ domain rec s i).aWI≤lvC L s.aWI+i*((if (level:Int)=L then 1 else 0)+b)
 | 0=>by rw[eR]; omega
 | i+1=>by
  have R:=Bm (l:=l) (level:=level) (aVZ:=aVZ) (domain:=domain) p s i;rw[eR];simp only;rw[a0G];split
  ·omega
  ·have J:=p ((jR l level domain (eR l level aVZ domain rec s i)).aWI.length-1) (jR l level domain (eR l level aVZ domain rec s i));rw[aAH] at J;omega
theorem Bo (l:List Nat) (mc aVZ:Nat) (L:Int):∀ (k domain:Nat) (s:GS),lvC L (dV l mc aVZ k domain s).aWI≤lvC L s.aWI+lvT k L
 | 0,domain,s=>by rw[dV];rw[DL];exact Nat.le_add_right _ _
 | k+1,domain,s=>by rw[dV];have i:=Bm (l:=l) (level:=4-k) (aVZ:=aVZ) (domain:=domain) (rec:=dV l mc aVZ k) (Bo l mc aVZ L k) { s with a:=(aD l 2 s.a).2 } (if 4-k=2 then 1 else 1+(aD l 2 s.a).1);refine aZD i (Nat.add_le_add_left ?_ _);rw[lvT];refine aYL _ ?_;have:=bZ l (show 0<2 by decide) s.a;split<;>omega
theorem abO (l:List Nat) (aVZ aWB a:Nat) {L:Int} (p:1≤L) (J:L≤4):lvC L (fC l aVZ aWB a).1.aWC≤8:=by
 unfold fC;simp only;refine aZD (Bo l _ aVZ L 4 0 _) ?_;have i:lvC L [jE]=0:=by unfold lvC jE;simp only[List.countP_cons,List.countP_nil,decide_eq_true_eq];rw[if_neg Om]
 rw[i];have:L=1∨L=2∨L=3∨L=4:=Om;rcases this with rfl | rfl | rfl | rfl<;>decide
theorem arR (f:aK) (L:Int):((aXQ f.aWC.length).filter fun i=>decide (lvl f i=L)).length=lvC L f.aWC:=by
 rw[← List.countP_eq_length_filter];unfold lvC lvl;have key:∀ (ds:List cI),(aXQ ds.length).countP (fun i=>decide ((ds.map cI.level).getD i 0=L))=ds.countP fun x=>decide (x.level=L):=by
  intro ds
  induction ds with
  | nil=>rfl
  | cons d ds l =>rw[aZA,List.range_succ_eq_map,List.countP_cons,List.countP_map,List.countP_cons,← l];rfl
 exact key f.aWC
theorem xd:∀ m:Fin 10,∀ c:Fin 4,eD (m.val:Int) c.val≤512:=by decide
theorem ui (l:List Nat) (aVZ aWB:Nat) {a:Nat} (h:a≤l.length):(fC l aVZ aWB a).1.aVZ.length≤aVZ:=by
 have U:=bJ l 2 h;have J:=bJ l 2 U;obtain⟨p,-⟩:=DY l J (1+(aD l 2 (aD l 2 a).2).1);have R:=bJ l 2 p;obtain⟨i,-⟩:=uO l (1+(aD l 2 (aD l 2 a).2).1) R (1+(aD l 2 (fP l (aD l 2 (aD l 2 a).2).2 (1+(aD l 2 (aD l 2 a).2).1)).2).1);obtain⟨hG,-⟩:=DM (mc:=1+(aD l 2 (fP l (aD l 2 (aD l 2 a).2).2 (1+(aD l 2 (aD l 2 a).2).1)).2).1) 4 0 (⟨by simp,aXU _,i⟩:GOk l aVZ ⟨[jE],[],_⟩);exact hG.aWR
theorem HT (l:List Nat) (aWA a:Nat):∀ k,(cU l aWA a k).1.length=k
 | 0=>rfl
 | k+1=>by have:=HT l aWA a k;rw[cU];simp[this]
theorem Ji (l:List Nat) (aVZ aWB a:Nat):1≤(fC l aVZ aWB a).1.aWD.length:=by
 unfold fC;simp only;rw[HT];omega
theorem tp (f:aK) (lv:Int):(eW f lv).length=if lv=5 then f.aVZ.length else lvC lv f.aWC:=by
 unfold eW;split
 ·simp
 ·rw[aXI]; exact arR f lv
structure qL (f:aK):Prop where
 ok:f.Ok
 valid:jL f=true
 aVZ:f.aVZ.length≤9
 lv:∀ L:Int,1≤L→L≤4→lvC L f.aWC≤8
theorem qL.num {f:aK} (h:qL f) {lv:Int} (i:1≤lv) (h5:lv≤5):(eW f lv).length≤9:=by
 rw[tp];split
 ·exact h.aVZ
 ·have:=h.lv lv i Om; omega
theorem qL.GB {f:aK} (h:qL f) {lv:Int} (i:1≤lv) (h5:lv≤5) {c:Nat} (p:1≤c) (J:c≤3):iU f lv c=0:=by
 have R:=h.num i h5;have l:=xd ⟨(eW f lv).length,by omega⟩ ⟨c,by omega⟩;simp only at l;unfold iU;rw[h.valid,decide_eq_true i,decide_eq_true h5,decide_eq_true (Om:(1:Int)≤(c:Int)),decide_eq_true (Om:(c:Int)≤3),Bool.and_self,Bool.and_self,Bool.and_self,Bool.and_self,if_pos rfl,aZL,if_neg];have:=h.aVZ;omega
theorem qL.all {f:aK} (h:qL f) {p:Int} (l:gG f p=true):yL f p=0∧fv f p=mX f (gV f p):=by
 have i:yL f p=0:=by unfold yL;rw[l,if_pos rfl,if_neg];have:=h.aVZ;omega
 exact⟨i,by unfold fv; rw[if_pos i]⟩
theorem apC {s:List Nat} {n top:Nat} (J:s.length=n) (R:∀ x∈s,x<top) (U:s.Pairwise (· < ·)):oR (bU s) n top=true:=by
 unfold oR;rw[fF,J,decide_eq_true rfl,aYE];simp only[aYF,aYV];intro i hi;have l:i<s.length:=Om;have g:(bU s).getD i 0=(s[i]:Nat):=by unfold bU; simp[aYK,l]
 unfold mA;rw[g];have hx:=R _ (aXM l);simp only[aYB,Bool.or_eq_true,decide_eq_true_eq];refine⟨by omega,?_⟩;by_cases c:i=0
 ·exact .inl c
 ·right;have p:i-1<s.length:=Om;have g2:(bU s).getD (i-1) 0=(s[i-1]:Nat):=by unfold bU; simp[aYK,p]
  rw[g2];have:=List.pairwise_iff_getElem.1 U (i-1) i p l Om;omega
theorem Gq {f:aK} {p:Int} (i:gG f p=true) {set:List Int} (h:set∈mX f (gV f p)):BR f p set=true∧set.length≤8:=by
 obtain⟨hV,-⟩:=wL i;have l:=hV.aWK _ (xR i).1;unfold mX at h;rw[List.mem_filter] at h;obtain⟨J,R⟩:=h;obtain⟨s,U,rfl⟩:=aYH.1 J;obtain⟨k1,k2,k3⟩:=wV _ _ _ _ U;have e:((oN (gV f p)).toNat:Int)=oN (gV f p):=by unfold oN; omega
 have:=apC k1 (fun x hx=>(k2 x hx).2) k3;rw[e] at this;refine⟨by unfold BR; rw[i,this,R]; rfl,?_⟩;rw[fF,k1];unfold oN; omega
theorem qL.more {f:aK} (h:qL f) {p:Int} (hk:gG f p=true) {lv:Int} (J:1≤lv) (h5:lv≤5) {c:Nat} (U:1≤c) (c2:c≤2) (hn:2*c+1≤(eW f lv).length) {set:List Int} (hs:set∈mX f (gV f p)) :
  pK f p set lv c=0∧pK f p set lv ((c+1:Nat):Int)=0∧qZ f p set lv c≤qZ f p set lv ((c+1:Nat):Int):=by
 have s1:=h.GB J h5 U (Om:c≤3);have s2:=h.GB J h5 (Om:1≤c+1) (Om:c+1≤3);obtain⟨R,-⟩:=Gq hk hs;have i:pK f p set lv c=0:=by unfold pK; rw[s1,R]; rfl
 have l:pK f p set lv ((c+1:Nat):Int)=0:=by unfold pK; rw[s2,R]; rfl
 refine⟨i,l,?_⟩;unfold qZ pM;rw[if_pos i,if_pos l,if_pos s1,if_pos s2,aZL,aZL];exact acI hn
structure VP (C:Ctx):Prop extends vx C where
 u9:aH C 222 [] .nil (aL (.bool true))
 fails:∀ a b:Nat,a<256→b<256→aH C 223 [.int .u8 a,.int .u8 b] .nil (aL (xJ (1+a%5:Nat) (1+b%3:Nat)))
def asG:aA:=(.seq (.seq (.region FI) (.block 2 (.loop EZ))) (.seq (.region uQ) .ret))
def asF:aA:=(.seq (.seq (.region FB) (.cond (.tmp 63) (.seq (.region FC) .ret) .skip)) (.seq (.region FD) (.seq (.region FF) (.seq (.region FG) (.seq (.seq (.region FH) (.cond (.tmp 77) (.seq (.region bz) .ret) .skip)) asG)))))
theorem Ux {C:Ctx} (Lb:VP C) (f:aK) (G:qL f) (q:Nat) (hq:gG f q=true) (lv p:Nat) (h1:1≤lv) (h5:lv≤5) (c1:1≤p) (c2:p≤2) (hn:2*p+1≤(eW f lv).length) (o9 U β:Nat) {F:PF} {H:PH}
  (h9:H o9=some (.rows 7 [f.cells])) (κ:H U=some (.rows 2 [[.int .i64 lv,.int .i64 p]])) (μ:H β=some (.rows 2 [[.int .i64 lv,.int .i64 (p+1:Nat)]]))
  (hF:((((((PF.nil.set 9 (.ptr o9 7 0 0)).set 10 (.int .i64 q)).set 11 (.ptr U 2 0 0)).set 14 (.ptr β 2 0 0)).set 15 (lay (mX f (gV f q))))).le F) :
  asG.wp C (aW tF.res (aL (.bool true))) F H:=by
 have f9:=hF 9 _ (by simp only[go_sem]; rfl);have θ:=hF 10 _ (by simp only[go_sem]; rfl);have f11:=hF 11 _ (by simp only[go_sem]; rfl);have f14:=hF 14 _ (by simp only[go_sem]; rfl);have ι:=hF 15 _ (by simp only[go_sem]; rfl);have R:=fun s hs=>G.more hq (lv:=lv) Om Om c1 c2 hn (set:=s) hs;have ε:∀ s∈mX f (gV f q),s.length≤8:=fun s hs=>(Gq hq hs).2;have J:=fun (s:List Int) (hs:s.length≤8) (c:Int)=>Lb.loss f q s lv c G.ok Om;generalize mX f (gV f q)=l at *
 simp only[go_sem,asG,FI,tF];refine wp_loop (α:=Nat) (fun k=>((((((PF.nil.set 9 (.ptr o9 7 0 0)).set 10 (.int .i64 q)).set 11 (.ptr U 2 0 0)).set 14 (.ptr β 2 0 0)).set 15 (lay l)).set 17 (.int .i64 k))) (fun _=>H) (fun k=>k≤l.length∧k≤30) (fun k=>l.length-k) 0 ⟨aXU _,aXU _⟩ (by (repeat' (first|exact PF.nil_le|refine PF.aJ ?_ ?_))<;>first|(simp only[go_sem,f9,θ,f11,f14,ι]<;>rfl)|rfl) PH.le_refl ?_;rintro k ⟨hk,ξ⟩;simp only[go_sem,EZ,b8,aXI];have done:∀ F':PF,wpOps C uQ (aA.wp C .ret (aW [.tmp 8] (aL (.bool true)))) F' H:=by intro F';simp only[go_sem,uQ];refine aC Lb.u9 Ev ?_;simp only[go_sem];exact fT Sq rfl
 by_cases hlt:k<l.length
 ·have i:(k:Int)<(l.length:Nat):=Om;by_cases ν:k<30
  ·have γ:(k:Int)<30:=Om;have δ:(l.map fun r=>[ints r])[k]?=some [ints l[k]]:=by simp[hlt]
   obtain⟨e1,e2,e3⟩:=R l[k] (aXM hlt);have ζ:=ε l[k] (aXM hlt);have k1:=J l[k] ζ p;have k2:=J l[k] ζ (p+1:Nat);rw[e1] at k1;rw[e2] at k2;generalize l[k]=s at *
   have η:¬ ((qZ f q s lv (p+1:Nat):Nat):Int)<(qZ f q s lv p:Nat):=Om;simp only[go_sem,i,γ];refine cJ H (cyS (.tup [.int .i64 (qZ f q s lv p:Nat),.int .i64 0])) PH.le_refl ?_;simp only[go_sem,b9,h9,κ,i,δ,aXI];refine cW rfl k1 Sq PH.le_refl ?_;simp only[go_sem];refine cJ H (cyS (.tup [.int .i64 (qZ f q s lv (p+1:Nat):Nat),.int .i64 0])) PH.le_refl ?_;simp only[go_sem,ca,h9,μ,i,δ,aXI];refine cW rfl k2 Sq PH.le_refl ?_;simp only[go_sem,cb,cE (show (0:Int)=0 from rfl),η,cc,wZz k];exact aM (k+1) ⟨hlt,ν⟩ Om Lq PH.le_refl
  ·simp only[go_sem,i,show ¬ (k:Int)<30 by omega];exact done _
 ·simp only[go_sem,show ¬ (k:Int)<(l.length:Nat) by omega];exact done _
theorem Uv {C:Ctx} (Lb:VP C) (f:aK) (G:qL f) (q:Nat) (hq:gG f q=true) (lv i:Nat) (h1:1≤lv) (h5:lv≤5) (c1:1≤i) (c2:i≤2) (o9 p:Nat) {F:PF} {H:PH}
  (h9:H o9=some (.rows 7 [f.cells])) (l:H p=some (.rows 2 [[.int .i64 lv,.int .i64 i]]))
  (hF:(((((PF.nil.set 9 (.ptr o9 7 0 0)).set 10 (.int .i64 q)).set 11 (.ptr p 2 0 0)).set 12 (.int .i64 ((eW f lv).length:Nat)))).le F) :
  asF.wp C (aW tF.res (aL (.bool true))) F H:=by
 have f9:=hF 9 _ (by simp only[go_sem]; rfl);have U:=hF 10 _ (by simp only[go_sem]; rfl);have f11:=hF 11 _ (by simp only[go_sem]; rfl);have α:=hF 12 _ (by simp only[go_sem]; rfl);have J:=Lb.all f q G.ok;obtain⟨a1,a2⟩:=G.all hq;rw[a1,a2] at J;have w1:IntKind.i64.wrap (2*(i:Int))=2*i:=wrap_i64 Om Om;have w2:IntKind.i64.wrap (2*(i:Int)+1)=2*i+1:=wrap_i64 Om Om;have w3:IntKind.i64.wrap ((i:Int)+1)=((i+1:Nat):Int):=by rw[wrap_i64 Om Om]; omega
 simp only[go_sem,asF,FB,f11,α,l,w1,w2,tF];by_cases c:((eW f lv).length:Int)<2*i+1
 ·simp only[go_sem,c,FC];refine aC Lb.u9 Ev ?_;simp only[go_sem];exact fT Sq rfl
 ·simp only[go_sem,c,FD,f11,l];refine aT fun R ho=>?_;have n1:¬ o9=R:=fun e=>by rw[← e,h9] at ho; cases ho
  have n2:¬ p=R:=fun e=>by rw[← e,l] at ho; cases ho
  simp only[go_sem,aXP,aXX,or_false,forall_eq,forall_eq_or_imp,FF,w3,FG,f9,U,n1,h9];refine aC J Sq ?_;simp only[go_sem,FH,cE (show (0:Int)=0 from rfl)];refine Ux Lb f G q hq lv i h1 h5 c1 c2 Om o9 p R ?_ ?_ ?_ (by (repeat' (first|exact PF.nil_le|refine PF.aJ ?_ ?_))<;>first|(simp only[go_sem,f9,U,f11]<;>rfl)|rfl)
  ·simp only[aQ,if_neg n1]; exact h9
  ·simp only[aQ,if_neg n2]; exact l
  ·simp only[cD]
theorem Ey {C:Ctx} {K:bT} [Up K] (f:aK) (hV:VF f) (q lv cn p l:Nat) (h1:1≤lv) (h4:lv≤4) {F:PF} {H:PH}
  (R:H p=some (.rows 7 [f.cells])) (J:H l=some (.rows 2 [[.int .i64 lv,.int .i64 cn]]))
  (hF:((((((PF.nil.set 9 (.ptr p 7 0 0)).set 10 (.int .i64 q)).set 11 (.ptr l 2 0 0)).set 12 (.int .i64 0)).set 13 (.int .i64 0))).le F)
  (U:K (.exit 0) (((((PF.nil.set 9 (.ptr p 7 0 0)).set 10 (.int .i64 q)).set 11 (.ptr l 2 0 0)).set 12 (.int .i64 ((eW f lv).length:Nat)))) H):aA.wp C (.loop uP) K F H:=by
 have β:=hV.small.aWC;have hu:(eW f lv).length=dH f lv f.aWC.length:=by rw[VI f Om,GU,uB,dH,List.countP_eq_length_filter]
 rw[hu] at U;refine wp_loop (α:=Nat) (fun k=>(((((PF.nil.set 9 (.ptr p 7 0 0)).set 10 (.int .i64 q)).set 11 (.ptr l 2 0 0)).set 12 (.int .i64 (dH f lv k:Nat))).set 13 (.int .i64 k))) (fun _=>H) (fun k=>k≤f.aWC.length) (fun k=>f.aWC.length-k) 0 (aXU _) hF PH.le_refl ?_;intro k hk;simp only[go_sem,uP,qp,R,aXI];by_cases hlt:k<f.aWC.length
 ·have i:(k:Int)<(f.aWC.length:Nat):=Om;have γ:=tk f lv k;simp only[go_sem,i];refine cJ H eU PH.le_refl ?_;simp only[go_sem,qr,R,J,i,mB hlt,KI hlt,aXI];by_cases c:lvl f k=lv
  ·have e:=dz c;simp only[go_sem,bM c,bw,cP (Om:dH f lv k<9223372036854775807),FA,wZz k];exact aM (k+1) hlt Om (by (repeat' (first|exact PF.nil_le|refine PF.aJ ?_ ?_))<;>first|(simp only[go_sem,e]<;>rfl)|rfl) PH.le_refl
  ·have e:=RT c;simp only[go_sem,bF c,FA,wZz k];exact aM (k+1) hlt Om (by (repeat' (first|exact PF.nil_le|refine PF.aJ ?_ ?_))<;>first|(simp only[go_sem,e]<;>rfl)|rfl) PH.le_refl
 ·have i:¬ (k:Int)<(f.aWC.length:Nat):=Om;have:k=f.aWC.length:=Om;subst this;simp only[go_sem,i];exact Up.up Lq U
theorem acZ:zQ=(.seq (.region LH) (.seq (.region LJ) (.seq (.region LK) (.seq (.region LL) (.seq (.region xW) (.seq (.seq (.region xX) (.cond (.tmp 39) (.seq (.region LM) (.seq (.region LN) (.block 0 (.loop uP)))) .skip)) asF)))))):=rfl
theorem adA {C:Ctx} (Lb:VP C) (l:List Nat) (hb:∀ x∈l,x<256) (hl:l.length≤9223372036854775807) (p J i:Nat) (hp:p<256) (δ:J<256) (η:i<256) :
  zQ.wp C (aW tF.res (aL (.bool true))) (PF.args [.sl 1 (jG l),.int .u8 p,.int .u8 J,.int .u8 i]) .nil:=by
 have γ:=Lb.fleet l hb hl 9 0 (by decide) (by decide);obtain⟨hv,hf⟩:=zf (l.take 400) 9 0 0 (by decide) (by decide);have G:qL (fC (l.take 400) 9 0 0).1:=⟨hf,hv,ui _ _ _ (aXU _),fun L h1 h4=>abO _ _ _ _ h1 h4⟩;have ζ:=Ji (l.take 400) 9 0 0;generalize (fC (l.take 400) 9 0 0).1=f at *
 have hV:=VF.of hv;have θ:=hV.small.aWD;have hq:gG f ((p%f.aWD.length:Nat):Int)=true:=by have:=aYW p (Om:0<f.aWD.length);unfold gG;rw[hv,decide_eq_true Om,decide_eq_true Om]; rfl
 have R:=Lb.fails J (i%2) δ Om;have ql:=Nat.mod_le p f.aWD.length;have w1:IntKind.i64.wrap (p:Int)=p:=wrap_i64 Om Om;have t1:Int.tmod (p:Int) (f.aWD.length:Nat)=((p%f.aWD.length:Nat):Int):=by rw[Int.tmod_eq_emod_of_nonneg Om]; omega
 have w2:IntKind.i64.wrap ((p%f.aWD.length:Nat):Int)=((p%f.aWD.length:Nat):Int):=wrap_i64 Om Om;have t2:Int.tmod (i:Int) 2=((i%2:Nat):Int):=by rw[Int.tmod_eq_emod_of_nonneg Om]; omega
 have ε:¬ (f.aWD.length:Int)=0:=Om;have h1:1≤1+J%5:=Om;have h5:1+J%5≤5:=Om;have c1:1≤1+i%2%3:=Om;have c2:1+i%2%3≤2:=Om;generalize p%f.aWD.length=q at *
 generalize 1+J%5=lv at *
 generalize 1+i%2%3=cn at *
 rw[acZ];simp only[go_sem,LH,LJ,tF];refine aC γ (by simp only[go_sem]; rfl) ?_;simp only[go_sem];refine aT fun o9 h9=>?_;simp only[go_sem,LK,w1,aXI,ε,t1,w2,LL];refine aC R (by simp only[go_sem,t2]) ?_;simp only[go_sem,t2];refine aT fun U α=>?_;have n1:¬ o9=U:=fun e=>by rw[← e,cD] at α; cases α
 have one:=fun {F:PF} {H:PH}=>Uv (C:=C) Lb f G q hq lv cn h1 h5 c1 c2 o9 U (F:=F) (H:=H);by_cases c:lv<5
 ·have c':(lv:Int)<5:=Om;simp only[go_sem,aXP,aXX,or_false,forall_eq,forall_eq_or_imp,xW,n1,aXI,xX,c',LM,LN];have β:=fun {K:bT} [Up K] {F:PF} {H:PH}=>Ey (C:=C) (K:=K) f hV q lv cn o9 U h1 Om (F:=F) (H:=H);refine β (by simp only[aQ,if_neg n1,if_true]) (by simp only[cD]) Lq ?_;simp only[go_sem];exact one (by simp only[aQ,if_neg n1,if_true]) (by simp only[cD]) Lq
 ·have c':¬ (lv:Int)<5:=Om;have e5:(lv:Int)=5:=Om;have hu:(eW f lv).length=f.aVZ.length:=by rw[tp,if_pos e5]
  simp only[go_sem,aXP,aXX,or_false,forall_eq,forall_eq_or_imp,xW,n1,aXI,xX,c'];exact one (by simp only[aQ,if_neg n1,if_true]) (by simp only[cD]) (by (repeat' (first|exact PF.nil_le|refine PF.aJ ?_ ?_))<;>first|(simp only[go_sem,hu]<;>rfl)|rfl)











def OA (C:Ctx) (k:Nat) (i:AP):Prop:=∀ (args:List PV) (H:PH) (R:PV→PH→Prop),args.length≤i.ntmps→i.body.wp C (aW i.res R) (PF.args args) H→aH C k args H R
theorem OA.go {C:Ctx} {k:Nat} {i:AP} (r:OA C k i) {args:List PV} {H:PH} {R:PV→PH→Prop} (h:i.body.wp C (aW i.res R) (PF.args args) H) (l:Nat.ble args.length i.ntmps=true):aH C k args H R:=r args H R (Nat.le_of_ble_eq_true l) h
structure dE (C:Ctx):Prop where
 r0:aE C 0 KN
 r1:aE C 1 aw
 r2:aE C 2 Dp
 r4:aE C 4 OW
 r5:aE C 5 D3
 r7:aE C 7 OU
 r27:aE C 27 KJ
 r28:aE C 28 Dz
 r29:aE C 29 ba
 r30:aE C 30 awB
 r31:aE C 31 de
 r32:aE C 32 Hg
 r33:aE C 33 udiv
 r34:aE C 34 Hx
 r35:aE C 35 du
 r36:aE C 36 awH
 r37:aE C 37 awP
 r38:aE C 38 fa
 r39:aE C 39 BK
 r40:aE C 40 dt
 r41:aE C 41 NJ
 r42:aE C 42 NK
 r43:aE C 43 d6
 r44:aE C 44 NR
 r45:aE C 45 uup
 r46:aE C 46 aLA
 r47:aE C 47 Ip
 r48:aE C 48 amB
 r49:aE C 49 azB
 r50:aE C 50 PJ
 r51:aE C 51 amF
 r52:aE C 52 Sl
 r53:aE C 53 azC
 r54:aE C 54 azD
 r55:aE C 55 aLB
 r56:aE C 56 amX
 r57:aE C 57 azA
 r58:aE C 58 BN
 r59:aE C 59 fk
 r60:aE C 60 amS
 r61:aE C 61 ayZ
 r62:aE C 62 Sn
 r63:aE C 63 anB
 r64:aE C 64 Sm
 r65:aE C 65 So
 r66:aE C 66 aLK
 r67:aE C 67 aoJ
 r68:aE C 68 aLJ
 r69:aE C 69 aLI
 r70:aE C 70 anK
 r71:aE C 71 anO
 r72:aE C 72 I8
 r73:aE C 73 aoA
 r74:aE C 74 aoE
 r75:aE C 75 Sr
 r76:aE C 76 Ss
 r77:aE C 77 Gk
 r80:aE C 80 agO
 r81:aE C 81 Rf
 r88:aE C 88 agF
 r94:aE C 94 vf
 r95:aE C 95 A6
 r96:aE C 96 Bz
 r97:aE C 97 JR
 r98:aE C 98 YS
 r99:aE C 99 YT
 r100:aE C 100 YU
 r101:aE C 101 gone
 r102:aE C 102 YV
 r103:aE C 103 JS
 r104:aE C 104 gin
 r105:aE C 105 A8
 r106:aE C 106 A9
 r107:aE C 107 YY
 r108:aE C 108 YZ
 r109:aE C 109 KB
 r110:aE C 110 ZA
 r111:aE C 111 gk
 r112:aE C 112 Bd
 r113:aE C 113 JG
 r114:aE C 114 za
 r115:aE C 115 OJ
 r116:aE C 116 vE
 r117:aE C 117 SO
 r118:aE C 118 JQ
 r119:aE C 119 y7
 r120:aE C 120 oC
 r121:aE C 121 JP
 r122:aE C 122 YR
 r123:aE C 123 OS
 r124:aE C 124 BC
 r125:aE C 125 BD
 r126:aE C 126 vL
 r127:aE C 127 D4
 r128:aE C 128 bd
 r129:aE C 129 El
 r130:aE C 130 Er
 r131:aE C 131 Ex
 r132:aE C 132 cf
 r133:aE C 133 E6
 r134:aE C 134 Ff
 r135:aE C 135 cj
 r136:aE C 136 BE
 r137:aE C 137 LO
 r138:aE C 138 sA
 r139:aE C 139 wP
 r140:aE C 140 LT
 r141:aE C 141 LW
 r142:aE C 142 tH
 r143:aE C 143 nup
 r201:aE C 201 S9
 r202:aE C 202 Td
 r203:aE C 203 WR
 r204:aE C 204 WD
 r205:aE C 205 call17
 r206:aE C 206 XD
 r207:aE C 207 OC
 r208:aE C 208 vd
 r209:aE C 209 OD
 r210:aE C 210 ve
 r211:aE C 211 XW
 r212:aE C 212 vh
 r213:aE C 213 aJY
 r214:aE C 214 aeC
 r215:aE C 215 Ra
 r216:aE C 216 aJZ
 r217:aE C 217 afT
 r218:aE C 218 aKB
 r219:aE C 219 ayY
 r220:aE C 220 ayX
 r221:aE C 221 Rc
 r222:aE C 222 bc
 r223:aE C 223 bv
 r229:∃ asg bdy,OA C 229 (XB asg bdy)
 r230:∃ asg bdy,OA C 230 (WZ asg bdy)
namespace Y
theorem jT {C:Ctx} (c:dE C):nO C :=
 have len:∀ xs,Lim xs→xs.length≤35184372087808→aH C 138 [aG xs] .nil (aL (.int .i64 (nl (val xs):Nat))):=fun xs h l=>c.r138.go (ce xs h l) rfl
 {length:=len
  large:=fun xs h l=>c.r137.go (qt xs (len xs h l)) rfl
  sized:=fun xs h l=>(c.r141.go (rt xs h (len xs h l)) rfl).seen
  trim:=fun xs h l=>(c.r135.go (Fm xs h l (len xs h l)) rfl).seen
  make:=fun v h=>c.r132.go (Ez v h len) rfl
  cmp:=fun xs ys i p J R=>c.r129.go (Pz xs ys i p J R (len xs i J) (len ys p R)) rfl }
theorem Uo {C:Ctx} (c:dE C):VX C :=
 {subtract:=fun A W Z v f o hW J p l R i=>c.r142.go (MA A W Z v f hW J p l R i o) rfl
  restore:=fun A W Z v o hW J p l=>c.r139.go (QQ A W Z v hW J p l o) rfl }
theorem UC {C:Ctx} (c:dE C):RY C :=
 {L:=jT c
  D:=Uo c
  up:=fun a s l U i=>c.r143.go (adI a s l U i) rfl
  short:=fun a d l p J i=>c.r140.go (qz (jT c) a d l p J i) rfl
  lengthO:=fun xs o hx R=>c.r138.go (QO xs hx R o) rfl }
theorem wN {C:Ctx} (c:dE C) (A B:Nat) (hB:B≠0) (l:nl A≤900) (i:nl B≤900):aH C 136 [aG (aI A),aG (aI B)] .nil (aL (nG A B)) :=
 (c.r136.go (bf (UC c) A B hB l i) rfl).seen
theorem kJ {C:Ctx} (c:dE C):oY C :=
 {jT c with
  bits:=fun xs h l=>c.r128.go (Eb xs h l ((jT c).length xs h l)) rfl
  add:=fun xs ys i p J R=>(c.r127.go (Ps (jT c) xs ys i p J R) rfl).seen
  sub:=fun xs ys i p J R=>(c.r134.go (Qv (jT c) xs ys i p J R) rfl).seen
  mul:=fun xs ys i p J R=>(c.r133.go (Qq (jT c) xs ys i p J R) rfl).seen
  gcd:=fun xs ys i p J R=>(c.r131.go (Qi (jT c) (wN c) xs ys i p J R) rfl).seen
  div:=fun xs ys i p J R=>(c.r130.go (Qa (jT c) (wN c) xs ys i p J R) rfl).seen }
theorem oE {C:Ctx} (c:dE C):xA C :=
 {kJ c with
  times:=fun a b i p l J R U=>c.r121.go (mp (kJ c) a b i p l J R U) rfl
  zero:=fun neg a b i l=>c.r122.go (zn (kJ c) neg a b i l) rfl
  valid:=fun neg a b i p l J=>c.r118.go (mw (kJ c) neg a b i p l J) rfl
  abs:=fun v h1 h2=>c.r119.go (Mr (kJ c) v h1 h2) rfl
  lowest:=fun neg a b i p l J R U h0=>(c.r120.go (YE (kJ c) neg a b i p l J R U h0) rfl).seen }
theorem JN {C:Ctx} (c:dE C) (x y:RF) (i:x.Ok) (l:y.Ok):aH C 113 [.agg x.cells,.agg y.cells] .nil (aL (frV (iW x.v y.v))) :=
 (c.r113.go (Mw (oE c) x.neg y.neg x.num x.den y.num y.den i.1 i.2.1 l.1 l.2.1 i.2.2.1 i.2.2.2 l.2.2.1 l.2.2.2) rfl).seen
theorem DA {C:Ctx} (c:dE C):VT C :=
 {oE c with
  frac:=fun n d U J=>(c.r115.go (zg (oE c) n d U.1 U.2 J.1 J.2) rfl).seen
  red:=fun x i=>by rw[← cu];exact (c.r116.go (YK (oE c) x.neg x.num x.den i.1 i.2.1 i.2.2.1 i.2.2.2) rfl).seen
  ord:=fun x y i p=>(c.r114.go (M6 (oE c) x.neg y.neg x.num x.den y.num y.den i.1 i.2.1 p.1 p.2.1 i.2.2.1 i.2.2.2 p.2.2.1 p.2.2.2) rfl).seen
  plus:=JN c
  tot:=fun l R=>(c.r117.go (Nd (oE c) (JN c) l R.all R.fits) rfl).seen }
theorem nZ {C:Ctx} (c:dE C):pI C :=
 have inn:∀ n lo hi:Int,aH C 104 [.int .i64 n,.int .i64 lo,.int .i64 hi] .nil (aL (.bool (within n lo hi))):=fun n lo hi=>(c.r104.go (abU n lo hi) rfl).seen;have mS:∀ x:RF,x.Ok→aH C 97 [.agg x.cells] .nil (aL (.bool (bP x))):=fun x R=>(c.r97.go (m5 (kJ c) x R) rfl).seen;have lim:∀ x:RF,x.Ok→aH C 105 [.agg x.cells] .nil (aL (.bool (eH x))):=fun x R=>(c.r105.go (N4 (DA c) x R) rfl).seen;have i:∀ n:Nat,aH C 126 [.int .u8 n] .nil (aL (.bool (fV n))):=fun n=>c.r126.go (ZI n) rfl;have J:∀ n:Nat,aH C 124 [.int .u8 n] .nil (aL (.bool (pB n))):=fun n=>c.r124.go (n9 n) rfl
 {DA c with
  inn:=inn
  mS:=mS
  lim:=lim
  one:=fun x R=>(c.r101.go (Ob (DA c) x R) rfl).seen
  allf:=fun p fn l U h=>(c.r99.go (Ac p fn l U h) rfl).seen
  alli:=fun p fn l U h=>(c.r100.go (Am p fn l U h) rfl).seen
  allb:=fun p fn l U h=>(c.r98.go (zr p fn l U h) rfl).seen
  ends1:=fun b=>(c.r103.go (m8 b) rfl).seen
  num1:=fun n=>(c.r107.go (Ba inn n) rfl).seen
  rate1:=fun x R=>(c.r109.go (nr lim mS x R) rfl).seen
  name:=fun s=>c.r123.go (Cv i (fun n=>c.r125.go (oe i J n) rfl) s) rfl }
theorem JK {C:Ctx} (c:dE C):VS C :=
 {nZ c with
  num:=fun p i=>(c.r106.go (N7 (nZ c) p i) rfl).seen
  rate:=fun p i=>(c.r108.go (Bh (nZ c) p i) rfl).seen
  uniq:=fun l J=>(c.r110.go (Bq (nZ c) l J) rfl).seen }
theorem JL {C:Ctx} (c:dE C):HU C :=
 {JK c with
  ends:=fun l p i=>(c.r102.go (Ay (nZ c) l p i) rfl).seen }
theorem zc {C:Ctx} (c:dE C):iV C :=
 {JL c with
  law:=fun l J=>(c.r95.go (Nv (JL c) l J) rfl).seen
  pol:=fun p n U R=>(c.r112.go (Of (JK c) p U n R) rfl).seen
  aWI:=fun f i=>(c.r111.go (No (nZ c) f i) rfl).seen }
theorem gi {C:Ctx} (c:dE C) (f:aK) (i:f.Ok):aH C 96 [.agg f.cells] .nil (aL (.int .i64 (tU f))):=(c.r96.go (Or (zc c) f i) rfl).seen
theorem iR {C:Ctx} (c:dE C):mR C:={ trimM:=fun xs h l=>c.r38.go (Ii xs h l) rfl }
theorem MQ {C:Ctx} (c:dE C):VZ C :=
 {iR c with
  make:=fun v h=>(c.r35.go (Hy (iR c) v h) rfl).seen
  large:=fun xs h l=>(c.r41.go (s7 (iR c) xs h l) rfl).seen
  cmp:=fun xs ys i p J R=>c.r32.go (Rk (iR c) xs ys i p J R) rfl }
theorem Ga {C:Ctx} (c:dE C):wa C :=
 {MQ c with
  minus:=fun a b l p J U i=>(c.r42.go (ta (iR c) a b l p J U i) rfl).seen
  times:=fun a b l p i R=>(c.r44.go (tt (iR c) a b l p i R) rfl).seen }
theorem Gb {C:Ctx} (c:dE C):wb C :=
 {Ga c with
  plus:=fun a b p J i l=>(c.r43.go (Ib (iR c) a b p J i l) rfl).seen }
theorem Gc {C:Ctx} (c:dE C):AQ C :=
 {Gb c with
  bits:=fun xs h l=>c.r31.go (G6 (iR c) xs h l) rfl
  upM:=fun a n p i J R=>c.r45.go (alO (iR c) a n p i J R) rfl
  down:=fun a n p i J=>(c.r40.go (Hm (iR c) a n p i J) rfl).seen }
theorem wS {C:Ctx} (c:dE C):HW C :=
 {MQ c with
  divide:=fun A B hB l i=>(c.r39.go (df (Gc c) A B hB l i) rfl).seen }
theorem MR {C:Ctx} (c:dE C):WA C :=
 {wS c with
  gcd:=fun a b i l p J=>(c.r34.go (R4 (wS c) a b i l p J) rfl).seen
  div:=fun a b i l p J=>(c.r33.go (Rv (wS c) a b i l p J) rfl).seen }
theorem cp {C:Ctx} (c:dE C):u7 C :=
 {MR c with
  lowest:=fun neg a b p J R U na nb l=>(c.r58.go (fc (MR c) neg a b p J R U na nb l) rfl).seen
  size:=fun v i=>c.r59.go (Iw v i.1 i.2) rfl }
theorem MS {C:Ctx} (c:dE C):HX C :=
 {cp c with
  fmk:=fun n d l i=>(c.r50.go (Iq (cp c) n d l i) rfl).seen }
theorem ER {C:Ctx} (c:dE C) (hi:nB C):xC C :=
 {MS c with
  int:=fun n i=>(c.r47.go (Sh (MS c) n i) rfl).seen
  itoa:=hi
  next:=fun l v T o n a i p=>c.r4.go (D0 T o n a i p) rfl }
theorem KR {C:Ctx} (c:dE C) (hi:nB C):VV C :=
 {ER c hi with
  frac:=fun l v T o a i=>c.r1.go (Dc (ER c hi) T o a i) rfl }
theorem KT {C:Ctx} (c:dE C) (hi:nB C):oX C :=
 {KR c hi with
  rep:=fun l v T o a m p i=>c.r5.go (Pi (KR c hi) T o a m p i) rfl
  name:=fun s n R J=>c.r29.go (Dw (ER c hi) s n R J) rfl }
theorem KU {C:Ctx} (c:dE C) (hi:nB C):kT C :=
 {KT c hi with
  law:=fun l v T o dR a J i p=>c.r2.go (O6 (KT c hi) T o dR a J i p) rfl }
theorem KV {C:Ctx} (c:dE C) (hi:nB C):VW C :=
 {KU c hi with
  grow:=fun l v T mc aVZ i p J=>SW (KU c hi) T mc aVZ i p J (fun args H R U h=>c.r7 args H R (by rw[U]; decide) h) 4 (aXL _) }
theorem acR {C:Ctx} (c:dE C) (hi:nB C):v8 C :=
 {KV c hi with
  new:=fun l R U=>c.r28.go (Pd l R U) rfl
  fleet:=fun l v T o aVZ aWB a i p J=>AN.exact (c.r0.go (pd (KV c hi) T o aVZ aWB a i p J) rfl) }
theorem aLH {C:Ctx} (c:dE C):St C :=
 {adm:=fun f p set hV R i U=>c.r201.go (azU f hV p R i set U) rfl
  asc:=fun set n top J=>c.r202.go (azY set J n top) rfl
  known:=fun f aWK l=>c.r203.go (aaR (gi c) f l aWK) rfl }
theorem azF {C:Ctx} (c:dE C):VQ C :=
 {aLH c with
  subs:=fun n top=>c.r210.go (apZ n top) rfl
  iter:=fun l o1 o2 n top J ss p R hn ht hY G0 H U i b1 b2 g1 g2=>c.r211.go (apO J ss p R hn ht hY U i b1 b2 g1 g2) rfl }
theorem azG {C:Ctx} (c:dE C):vy C :=
 {azF c with
  sets:=fun f p hV hd hp i hk R hm U=>by obtain⟨l,J,r⟩:=c.r229;exact (r.go (apX (azF c) l J f hV hd p hp i hk R hm U) rfl).seen }
theorem azH {C:Ctx} (c:dE C):vz C :=
 {azG c with
  val:=gi c
  units:=fun f lv hV i h5=>(c.r206.go (aaW f hV lv i h5) rfl).seen
  choose:=fun m n l p=>c.r207.go (Te m n l p) rfl }
theorem azI {C:Ctx} (c:dE C):aaF C :=
 {azH c with
  GB:=fun f lv p J=>by obtain⟨i,l,r⟩:=c.r230;exact (r.go (apV (azH c) i l f J lv p) rfl).seen
  admis:=fun f aWK set J hl=>c.r204.go (aaM (aLH c) f J aWK set hl) rfl
  loss:=fun sc set m R U h3 h4=>c.r208.go (apP sc R U set h3 h4 m) rfl }
theorem aLG {C:Ctx} (c:dE C) (hi:nB C):ayM C :=
 {same1:=fun l i=>c.r94.go (aqI l i) rfl
  fleet:=fun l hb i aVZ aWB J U=>(c.r27.go (acN (acR c hi) l hb i aVZ aWB J U) rfl).seen
  all:=fun f aWK R=>(c.r205.go (aaO (azG c) f R aWK) rfl).seen
  GB:=(azI c).GB
  loss:=fun f aWK set lv p R i=>c.r209.go (Th (azI c) f R aWK set i lv p) rfl }
theorem azE {C:Ctx} (c:dE C) (hi:nB C):vx C :=
 { aLG c hi with sets:=fun a i l=>c.r212.go (aqP (aLG c hi).same1 a i l) rfl }
theorem aOM {C:Ctx} (c:dE C) (hi:nB C):VP C :=
 {azE c hi with
  u9:=c.r222.go (acU (azE c hi)) rfl
  fails:=fun a b i l=>c.r223.go (acX a b i l) rfl }
end Y
theorem aLF {C:Ctx} (c:dE C) (hi:nB C) (r:aE C 228 tF) (l:List Nat) (U:∀ x∈l,x<256) (hl:l.length≤9223372036854775807) (p lv i:Nat) (hp:p<256) (R:lv<256) (J:i<256):aH C 228 [.sl 1 (jG l),.int .u8 p,.int .u8 lv,.int .u8 i] .nil (aL (.bool true)) :=
 r.go (adA (Y.aOM c hi) l U hl p lv i hp R J) rfl
end Go.PM
