/-
  Texts of ours, joined: FlCode Pm33 FlW1 FlPlain FlW2 FlW3 FlW4 FlW5 FlW6 FlW7 FlW8 FlW9 ToPlain ToCode ToW1 ToW2 Pm34 ToW3 ToW4 ToW5 ToW6 ToW7 ToW8 RfPlain RfP2 RfP3 RfP4 RoPlain RfP5 RwP1 RfCode R17Code R11Code ToW9 ToW10 . No condition.
-/
import Derived.Test.YthbkofcdddghgaaGreatRChecks1
import Derived.Test.YthbkofcdddghgaaGreatRChecks2
import Derived.Lib.SlicesCompact
set_option linter.unusedSimpArgs false
set_option linter.unusedVariables false
open Nat renaming reduceEqDiff → γ, reduceAdd → δ, reduceSub → ε, reduceMul → ζ, reduceLT → η, reduceLeDiff → θ, reduceBEq → τ
open Int renaming reduceLT → ι, reduceLE → κ, reduceEq → μ, reduceToNat → ν, reduceAdd → ξ, reduceNeg → ο, reduceBEq → ρ, reduceBNe → σ
open List renaming reduceReplicate → υ
open List renaming length_map → bJT, range → bJU, replicate → bJW, getElem_mem → bJX, length_append → bKA, getElem?_eq_getElem → bKD, length_singleton → bKH, mem_cons → bKJ, take_of_length_le → bKK, length_take → bKL, getD_eq_getElem?_getD → bKO, all_eq_true → bKQ, take_length → bKS, append_assoc → bKU, getElem?_eq_some_iff → bKV, drop_zero → bKW, mem_map → bKX, getElem?_map → bKZ, not_mem_nil → bLB, mem_singleton → bLD, getElem?_eq_none → bLG, mem_append → bLH, mem_range → bLI, take_succ_eq_append_getElem → bLK, append_nil → bLM, drop_eq_getElem_cons → bLP, length_set → bLQ, Sublist → bLR, getElem?_append_right → bLS, length_cons → bLU, length_drop → bLV, map_append → bLW, map_cons → bLX, getElem_of_mem → bMA, getElem_map → bMC, length_nil → bMD, nodup_append → bME, take_append_drop → bMF, getElem?_append_left → bMH, mem_of_getElem? → bMK, nil_append → bML, getElem?_take_of_lt → bMO, getElem?_take → bMY, set_append_right → bMZ, contains_iff_mem → bNE, drop_of_length_le → bNF, flatten_cons → bNG, getElem?_drop → bNH, length_replicate → bNI, eq_nil_of_length_eq_zero → bNJ
open Nat renaming le_refl → bJV, gcd → bJY, zero_le → bKF, mul_add → bKG, lt_or_ge → bKM, zero_add → bKN, mul_assoc → bKP, mul_comm → bKT, add_mul → bKY, mul_le_mul_right → bLA, mod_eq_of_lt → bLE, mod_lt → bLJ, add_zero → bLL, pow_succ → bLN, min_eq_left → bLY, mul_le_mul_left → bLZ, pos_of_ne_zero → bMB, add_assoc → bMG, sub_self → bMI, pow_pos → bMM, div_lt_iff_lt_mul → bMP, le_trans → bMQ, eq_zero_or_pos → bMT, div_add_mod → bNA, div_eq_of_lt → bNB
open Bool renaming false_and → bJZ, not_true → bKC, true_and → bKE, not_false → bKI, and_eq_true → bKR, and_false → bLC, and_true → bLT, and_assoc → bMS, false_eq_true → bMU
open Option renaming map_eq_some_iff → bKB, map_some → bLF, getD_some → bMJ, some → bMN, bind_eq_some_iff → bMV, bind_some → bNC
open Array renaming replicate → bLO, length_toList → bMR, getElem?_eq_getElem → bMW, getElem?_eq_some_iff → bND
open Int renaming toNat_natCast → bMX
namespace Go.PM
open Go
def nN:Rg:=[iT 2 false]
def nO:Rg:=[iM 3 0,iA 4 (.bin .geq (Tm 3) (.const (.int .u8 97))),iM 5 4,gM 6 0 5 true,iG 7 (.bin .leq (Tm 6) (.const (.int .u8 122))) 5 true,iP 8 5 7,iM 9 8,gM 10 0 9 false,iG 11 (.bin .geq (Tm 10) (.const (.int .u8 65))) 9 false,gM 12 11 9 false,gM 13 0 12 true,iG 14 (.bin .leq (Tm 13) (.const (.int .u8 90))) 12 true,iG 15 (.pick (Tm 12) (Tm 14) (.const (.bool false))) 9 false,iQ 16 9 15,iM 2 16]
def kA:aC:=(sq nN (sq nO .ret))
def a1H:List Nat:=[]
def vZ:aW:=⟨1,17,kA,[.tmp 2]⟩
def yR:Rg:=[iT 2 false]
def yS:Rg:=[iM 3 0,iA 4 (.bin .geq (Tm 3) (.const (.int .u8 48))),iM 5 4,gM 6 0 5 true,iG 7 (.bin .leq (Tm 6) (.const (.int .u8 57))) 5 true,iP 8 5 7,iM 2 8]
def oO:aC:=(sq yR (sq yS .ret))
def a7O:List Nat:=[]
def DF:aW:=⟨1,9,oO,[.tmp 2]⟩
def apT:Rg:=[iT 2 false]
def apU:Rg:=[iM 3 0,iK 4 126 3,iM 5 4,gM 6 0 5 false,gK 7 124 6 5 false,iQ 8 5 7,iM 9 8,gM 10 0 9 false,iG 11 (.bin .eql (Tm 10) (.const (.int .u8 45))) 9 false,iQ 12 9 11,iM 13 12,gM 14 0 13 false,iG 15 (.bin .eql (Tm 14) (.const (.int .u8 46))) 13 false,iQ 16 13 15,iM 2 16]
def AI:aC:=(sq apT (sq apU .ret))
def a7S:List Nat:=[]
def DG:aW:=⟨1,17,AI,[.tmp 2]⟩
def GZ:Rg:=[iT 2 false]
def HA:Rg:=[iM 4 0,iA 5 (.bin .eql (Tm 4) (.const (.str []))),iM 6 5,gM 7 0 6 false,iG 8 (.bIX (Tm 7)) 6 false,gC 9 .gtr 8 16 6 false,iQ 10 6 9,iM 11 10,gM 12 0 11 false,iG 13 (.bIY (Tm 12) (Ci 0)) 11 false,gK 14 126 13 11 false,iG 15 (.un .not (Tm 14)) 11 false,iQ 16 11 15]
def HB:Rg:=[iT 2 false]
def aDF:Rg:=[iI 3 0]
def aDG:Rg:=[iM 17 3,iM 18 0,iA 19 (.bIX (Tm 18)),iB 20 .lss 17 19]
def aDH:Rg:=[iM 23 0,iM 24 3,iA 25 (.bIY (Tm 23) (Tm 24)),iK 26 125 25,iA 27 (.un .not (Tm 26))]
def aDI:Rg:=[iT 2 false]
def aDJ:Rg:=[iM 21 3,iC 22 .add 21 1,iM 3 22]
def aDE:aC:=(.seq (sq aDG (.cond (Tm 20) .skip (.exit 0))) (.seq (.block 1 (sq aDH (.cond (Tm 27) (sq aDI .ret) .skip))) (.region aDJ)))
def aDK:Rg:=[iT 2 true]
def qS:aC:=(sq GZ (.seq (sq HA (.cond (Tm 16) (sq HB .ret) .skip)) (.seq (sq aDF (.block 0 (.loop aDE))) (sq aDK .ret))))
def bgK:List Nat:=[]
def SM:aW:=⟨1,28,qS,[.tmp 2]⟩
def acZ:Rg:=[iT 6 false]
def adA:Rg:=[iM 7 0,iM 8 1,iB 9 .geq 7 8,iM 10 9,gM 11 0 10 true,gM 12 2 10 true,gB 13 .leq 11 12 10 true,iP 14 10 13,iM 6 14]
def wT:aC:=(sq acZ (sq adA .ret))
def brE:List Nat:=[]
def gin:aW:=⟨3,15,wT,[.tmp 6]⟩
def apC:Rg:=[iA 1 (.box true (Tm 0)),iT 2 false]
def apD:Rg:=[iF 3 1 1,iL 4 3,iK 5 128 4,iC 6 .gtr 5 0,iM 2 6]
def AA:aC:=(sq apC (sq apD .ret))
def a7C:List Nat:=[1]
def MU:aW:=⟨1,7,AA,[.tmp 2]⟩
def aRB:Rg:=[iA 1 (.box true (Tm 0)),iT 2 false]
def aRC:Rg:=[iO 6 3 1,iK 7 116 6,iM 5 7,iE 8 5 0,iE 9 5 1,iA 3 (.alloc [(.bool false),.aB,.aB]),iS 3 3 8,iM 4 9]
def SI:Rg:=[iM 10 4,iC 11 .eql 10 0,iM 12 11,gF 13 0 3 12 true,gL 14 13 12 true,iG 15 (.un .not (Tm 14)) 12 true,iP 16 12 15,iM 17 16,gF 18 1 3 17 true,gL 19 18 17 true,gK 20 128 19 17 true,gC 21 .leq 20 32 17 true,iP 22 17 21,iM 23 22,gF 24 2 3 23 true,gL 25 24 23 true,gK 26 128 25 23 true,gC 27 .leq 26 32 23 true,iP 28 23 27,iM 2 28]
def NA:aC:=(sq aRB (sq aRC (sq SI .ret)))
def bmG:List Nat:=[1]
def aBJ:aW:=⟨1,29,NA,[.tmp 2]⟩
def aRG:Rg:=[iA 1 (.box true (Tm 0)),iT 2 false]
def aRH:Rg:=[iA 8 (.call 115 [(Ci 1),(Ci 1)]),iM 7 8,iE 9 7 0,iE 10 7 1,iA 3 (.alloc [(.bool false),.aB,.aB]),iS 3 3 9,iM 4 10]
def aRI:Rg:=[iO 12 3 1,iO 13 3 3,iK2 14 114 12 13,iM 11 14,iE 15 11 0,iE 16 11 1,iM 5 15,iM 6 16]
def alK:Rg:=[iM 17 6,iC 18 .eql 17 0,iM 19 18,gM 20 5 19 true,gC 21 .leq 20 0 19 true,iP 22 19 21,iM 2 22]
def NC:aC:=(sq aRG (sq aRH (sq aRI (sq alK .ret))))
def bmK:List Nat:=[1]
def gone:aW:=⟨1,23,NC,[.tmp 2]⟩
def aAG:Rg:=[iT 4 false]
def aAH:Rg:=[iM 7 0,iN 8 7,iI 9 0]
def aAI:Rg:=[iB 10 .lss 9 8]
def aAJ:Rg:=[iX 11 3 7 9,iO 12 3 11,iA 6 (.alloc [(.bool false),.aB,.aB]),iS 3 6 12]
def aAK:Rg:=[iM 13 1,iO 14 3 6,iA 15 (.bJA (Tm 13) [(Tm 14)]),iA 16 (.un .not (Tm 15))]
def aAL:Rg:=[iT 4 false]
def aAM:Rg:=[iC 17 .add 9 1,iM 9 17]
def aAF:aC:=(sq aAI (.seq (.cond (Tm 10) .skip (.exit 0)) (.seq (.block 1 (sq aAJ (sq aAK (.cond (Tm 16) (sq aAL .ret) .skip)))) (.region aAM))))
def aAN:Rg:=[iT 4 true]
def GF:aC:=(sq aAG (.seq (sq aAH (.block 0 (.loop aAF))) (sq aAN .ret)))
def bfJ:List Nat:=[]
def acW:aW:=⟨2,18,GF,[.tmp 4]⟩
def aAP:Rg:=[iT 4 false]
def aAQ:Rg:=[iM 7 0,iN 8 7,iI 9 0]
def aAR:Rg:=[iB 10 .lss 9 8]
def aAS:Rg:=[iX 11 1 7 9,iL 12 11,iM 6 12]
def aAT:Rg:=[iM 13 1,iM 14 6,iA 15 (.bJA (Tm 13) [(Tm 14)]),iA 16 (.un .not (Tm 15))]
def aAU:Rg:=[iT 4 false]
def aAV:Rg:=[iC 17 .add 9 1,iM 9 17]
def aAO:aC:=(sq aAR (.seq (.cond (Tm 10) .skip (.exit 0)) (.seq (.block 1 (sq aAS (sq aAT (.cond (Tm 16) (sq aAU .ret) .skip)))) (.region aAV))))
def aAW:Rg:=[iT 4 true]
def GG:aC:=(sq aAP (.seq (sq aAQ (.block 0 (.loop aAO))) (sq aAW .ret)))
def bfL:List Nat:=[]
def acX:aW:=⟨2,18,GG,[.tmp 4]⟩
def azX:Rg:=[iT 4 false]
def azY:Rg:=[iM 7 0,iN 8 7,iI 9 0]
def azZ:Rg:=[iB 10 .lss 9 8]
def aAA:Rg:=[iX 11 1 7 9,iL 12 11,iM 6 12]
def aAB:Rg:=[iM 13 1,iM 14 6,iA 15 (.bJA (Tm 13) [(Tm 14)]),iA 16 (.un .not (Tm 15))]
def aAC:Rg:=[iT 4 false]
def aAD:Rg:=[iC 17 .add 9 1,iM 9 17]
def azW:aC:=(sq azZ (.seq (.cond (Tm 10) .skip (.exit 0)) (.seq (.block 1 (sq aAA (sq aAB (.cond (Tm 16) (sq aAC .ret) .skip)))) (.region aAD))))
def aAE:Rg:=[iT 4 true]
def GD:aC:=(sq azX (.seq (sq azY (.block 0 (.loop azW))) (sq aAE .ret)))
def bfH:List Nat:=[]
def acV:aW:=⟨2,18,GD,[.tmp 4]⟩
def apE:Rg:=[iT 2 false]
def apF:Rg:=[iM 3 0,iM 2 3]
def AB:aC:=(sq apE (sq apF .ret))
def a7E:List Nat:=[]
def MW:aW:=⟨1,4,AB,[.tmp 2]⟩
def aBA:Rg:=[iA 1 (.box true (Tm 0)),iT 2 false]
def aBB:Rg:=[iF 8 3 1,iL 9 8,iN 10 9,iA 11 (.bHZ 1 1 [(.bool false)] (Tm 10) (Tm 10)),iM 3 11]
def aBC:Rg:=[iI 4 0]
def aBD:Rg:=[iM 12 4,iM 13 3,iN 14 13,iB 15 .leq 12 14]
def aBE:Rg:=[iM 18 3,iN 19 18,iI 20 0]
def XC:Rg:=[iB 21 .lss 20 19]
def aBF:Rg:=[iM 22 20,iM 5 22]
def XD:Rg:=[iM 23 3,iM 24 5,iM 25 3,iM 26 5,iX 27 1 25 26,iL 28 27,iM 29 28,gF 30 3 1 29 false,gL 31 30 29 false,gM 32 5 29 false,iG 33 (.bIK 3 (Tm 31) (Tm 32)) 29 false,gO 34 3 33 29 false,gK 35 97 34 29 false,iQ 36 29 35,iX 37 1 23 24,iS 1 37 36]
def XE:Rg:=[iF 38 2 1,iL 39 38,iM 40 5,iX 41 1 39 40,iL 42 41,iN 43 42,iI 44 0]
def aBG:Rg:=[iB 45 .lss 44 43]
def apH:Rg:=[iM 46 44,iX 47 3 42 44,iO 48 3 47,iA 7 (.alloc [(.bool false),.aB,.aB]),iM 6 46,iS 3 7 48]
def MX:Rg:=[iM 49 3,iM 50 5,iM 51 3,iM 52 5,iX 53 1 51 52,iL 54 53,iM 55 54,gO 56 3 7 55 false,gK 57 97 56 55 false,gM 58 57 55 false,gM 59 3 58 true,gM 60 6 58 true,iG 61 (.bIK 1 (Tm 59) (Tm 60)) 58 true,gL 62 61 58 true,iG 63 (.pick (Tm 58) (Tm 62) (.const (.bool false))) 55 false,iQ 64 55 63,iX 65 1 49 50,iS 1 65 64]
def yP:Rg:=[iC 66 .add 44 1,iM 44 66]
def yN:aC:=(sq aBG (.seq (.cond (Tm 45) .skip (.exit 4)) (.seq (.block 5 (sq apH (.region MX))) (.region yP))))
def MY:Rg:=[iC 67 .add 20 1,iM 20 67]
def yO:aC:=(sq XC (.seq (.cond (Tm 21) .skip (.exit 2)) (.seq (.block 3 (sq aBF (sq XD (sq XE (.block 4 (.loop yN)))))) (.region MY))))
def apI:Rg:=[iM 16 4,iC 17 .add 16 1,iM 4 17]
def apG:aC:=(.seq (sq aBD (.cond (Tm 15) .skip (.exit 0))) (.seq (.block 1 (sq aBE (.block 2 (.loop yO)))) (.region apI)))
def apJ:Rg:=[iM 68 3,iA 69 (.call 98 [(Tm 68),(.const (.fn 103 []))]),iM 2 69]
def GH:aC:=(sq aBA (sq aBB (.seq (sq aBC (.block 0 (.loop apG))) (sq apJ .ret))))
def bfO:List Nat:=[1]
def acY:aW:=⟨1,70,GH,[.tmp 2]⟩
def aQT:Rg:=[iA 1 (.box true (Tm 0)),iT 2 false]
def aQU:Rg:=[iF 12 1 1,iL 13 12,iN 14 13,iM 3 14]
def aQV:Rg:=[iM 15 3,iA 16 (.call 104 [(Tm 15),(Ci 1),(Ci 4)]),iA 17 (.un .not (Tm 16)),iM 18 17,gF 19 3 1 18 false,gL 20 19 18 false,gN 21 20 18 false,gM 22 3 18 false,gB 23 .neq 21 22 18 false,iQ 24 18 23,iM 25 24,gF 26 2 1 25 false,gL 27 26 25 false,gN 28 27 25 false,gM 29 3 25 false,gB 30 .neq 28 29 25 false,iQ 31 25 30,iM 32 31,gF 33 1 1 32 false,gL 34 33 32 false,iG 35 (.call 99 [(Tm 34),(.const (.fn 105 []))]) 32 false,iG 36 (.un .not (Tm 35)) 32 false,iQ 37 32 36,iM 38 37,gF 39 3 1 38 false,gL 40 39 38 false,iG 41 (.call 99 [(Tm 40),(.const (.fn 105 []))]) 38 false,iG 42 (.un .not (Tm 41)) 38 false,iQ 43 38 42]
def vS:Rg:=[iT 2 false]
def aQW:Rg:=[iF 44 2 1,iL 45 44,iN 46 45,iI 47 0]
def aQX:Rg:=[iB 48 .lss 47 46]
def aQY:Rg:=[iM 49 47,iX 50 1 45 47,iL 51 50,iM 4 49,iM 5 51]
def aQZ:Rg:=[iM 52 5,iN 53 52,iM 54 3,iB 55 .neq 53 54,iM 56 55,gM 57 5 56 false,iG 58 (.call 99 [(Tm 57),(.const (.fn 105 []))]) 56 false,iG 59 (.un .not (Tm 58)) 56 false,iQ 60 56 59,iM 61 60,gM 62 5 61 false,gM 63 4 61 false,iG 64 (.bIK 3 (Tm 62) (Tm 63)) 61 false,gO 65 3 64 61 false,gK 66 97 65 61 false,iQ 67 61 66]
def SH:Rg:=[iT 2 false]
def aRA:Rg:=[iC 68 .add 47 1,iM 47 68]
def aBI:aC:=(sq aQX (.seq (.cond (Tm 48) .skip (.exit 0)) (.seq (.block 1 (sq aQY (sq aQZ (.cond (Tm 67) (sq SH .ret) .skip)))) (.region aRA))))
def XF:Rg:=[iF 70 1 1,iL 71 70,iK 72 117 71,iM 69 72,iE 73 69 0,iE 74 69 1,iA 6 (.alloc [(.bool false),.aB,.aB]),iS 3 6 73,iM 7 74]
def GI:Rg:=[iA 76 (.call 115 [(Ci 1),(Ci 1)]),iM 75 76,iE 77 75 0,iE 78 75 1,iA 8 (.alloc [(.bool false),.aB,.aB]),iS 3 8 77,iM 9 78]
def GJ:Rg:=[iO 80 3 6,iO 81 3 8,iK2 82 114 80 81,iM 79 82,iE 83 79 0,iE 84 79 1,iM 10 83,iM 11 84]
def rR:Rg:=[iM 85 7,iC 86 .eql 85 0,iM 87 86,gM 88 10 87 true,gC 89 .eql 88 0 87 true,iP 90 87 89,iM 91 90,gO 92 4 1 91 true,gK 93 102 92 91 true,iP 94 91 93,iM 2 94]
def MZ:aC:=(sq aQT (sq aQU (.seq (sq aQV (.cond (Tm 43) (sq vS .ret) .skip)) (.seq (sq aQW (.block 0 (.loop aBI))) (sq XF (sq GI (sq GJ (sq rR .ret))))))))
def bmE:List Nat:=[1]
def aBH:aW:=⟨1,95,MZ,[.tmp 2]⟩
def aBU:Rg:=[iT 2 false]
def aBV:Rg:=[iA 6 (.bJL (false,[.str])),iM 3 6]
def aBW:Rg:=[iM 7 0,iN 8 7,iI 9 0]
def aBX:Rg:=[iB 10 .lss 9 8]
def aBY:Rg:=[iX 11 1 7 9,iL 12 11,iM 5 12]
def aBZ:Rg:=[iM 13 5,iK 14 123 13,iA 15 (.un .not (Tm 14)),iM 16 15,gM 17 3 16 false,gM 18 5 16 false,iG 19 (.lookup (false,[.str]) (.bool false) (Tm 17) (Tm 18) false) 16 false,iQ 20 16 19]
def XH:Rg:=[iT 2 false]
def aCA:Rg:=[iM 21 3,iM 22 5,⟨none,.bIN (false,[.str]) (Tm 21) (Tm 22) (.const (.bool true)),none⟩]
def aCB:Rg:=[iC 23 .add 9 1,iM 9 23]
def aBT:aC:=(sq aBX (.seq (.cond (Tm 10) .skip (.exit 0)) (.seq (.block 1 (sq aBY (.seq (sq aBZ (.cond (Tm 20) (sq XH .ret) .skip)) (.region aCA)))) (.region aCB))))
def apM:Rg:=[iT 2 true]
def GM:aC:=(sq aBU (sq aBV (.seq (sq aBW (.block 0 (.loop aBT))) (sq apM .ret))))
def bfV:List Nat:=[]
def adD:aW:=⟨1,24,GM,[.tmp 2]⟩
def alI:Rg:=[iA 1 (.box true (Tm 0)),iT 2 false]
def alJ:Rg:=[iF 6 3 1,iL 7 6,iN 8 7,iC 9 .eql 8 0]
def aQN:Rg:=[iT 2 false]
def aQO:Rg:=[iF 10 3 1,iL 11 10,iA 12 (.bIK 7 (Tm 11) (Ci 0)),iO 13 7 12,iA 3 (.alloc [(.str []),(.int .i64 0),(.int .i64 0),(.int .i64 0),(.bool false),.aB,.aB]),iS 7 3 13]
def vQ:Rg:=[iF 14 0 3,iL 15 14,iA 16 (.bin .neq (Tm 15) (.const (.str []))),iM 17 16,gF 18 1 3 17 false,gL 19 18 17 false,gC 20 .neq 19 0 17 false,iQ 21 17 20,iM 22 21,gF 23 2 3 22 false,gL 24 23 22 false,gC 25 .neq 24 (-1) 22 false,iQ 26 22 25,iM 27 26,gF 28 3 3 27 false,gL 29 28 27 false,gC 30 .neq 29 0 27 false,iQ 31 27 30,iM 32 31,gF 33 4 3 32 false,gO 34 3 33 32 false,gK 35 105 34 32 false,iG 36 (.un .not (Tm 35)) 32 false,iQ 37 32 36,iM 38 37,gF 39 4 3 38 false,gO 40 3 39 38 false,gK 41 97 40 38 false,iQ 42 38 41]
def rQ:Rg:=[iT 2 false]
def aQP:Rg:=[iF 43 3 1,iL 44 43,iA 45 (.slice 7 (Tm 44) (some (Ci 1)) none none),iN 46 45,iI 47 0]
def aQQ:Rg:=[iB 48 .lss 47 46]
def aQR:Rg:=[iM 49 47,iX 50 7 45 47,iO 51 7 50,iA 5 (.alloc [(.str []),(.int .i64 0),(.int .i64 0),(.int .i64 0),(.bool false),.aB,.aB]),iM 4 49,iS 7 5 51]
def aQS:Rd:=[(iF 52 2 5,false),(iL 53 52,false),(iM 54 4,false),(iA 55 (.call 104 [(Tm 53),(Ci 0),(Tm 54)]),true),(iA 56 (.un .not (Tm 55)),false),(iM 57 56,false),(gF 58 3 1 57 false,false),(gL 59 58 57 false,false),(gF 60 2 5 57 false,false),(gL 61 60 57 false,false),(iG 62 (.bIK 7 (Tm 59) (Tm 61)) 57 false,false),(gF 63 1 62 57 false,false),(gL 64 63 57 false,false),(gF 65 1 5 57 false,false),(gL 66 65 57 false,false),(gC 67 .sub 66 1 57 false,false),(gB 68 .neq 64 67 57 false,false),(iQ 69 57 68,false),(iM 70 69,false),(gF 71 1 5 70 false,false),(gL 72 71 70 false,false),(iG 73 (.call 104 [(Tm 72),(Ci 1),(Ci 4)]) 70 false,true),(iG 74 (.un .not (Tm 73)) 70 false,false),(iQ 75 70 74,false),(iM 76 75,false),(gF 77 3 5 76 false,false),(gL 78 77 76 false,false),(iG 79 (.call 104 [(Tm 78),(Ci 1),(Ci 64)]) 76 false,true),(iG 80 (.un .not (Tm 79)) 76 false,false),(iQ 81 76 80,false),(iM 82 81,false),(gF 83 4 5 82 false,false),(gO 84 3 83 82 false,false),(gK 85 105 84 82 false,true),(iG 86 (.un .not (Tm 85)) 82 false,false),(iQ 87 82 86,false)]
def rP:Rg:=[iT 2 false]
def aAY:Rg:=[iC 88 .add 47 1,iM 47 88]
def aAX:aC:=(sq aQQ (.seq (.cond (Tm 48) .skip (.exit 0)) (.seq (.block 1 (sq aQR (dq aQS (.cond (Tm 87) (sq rP .ret) .skip)))) (.region aAY))))
def aAZ:Rg:=[iT 2 true]
def yM:aC:=(sq alI (.seq (sq alJ (.cond (Tm 9) (sq aQN .ret) .skip)) (sq aQO (.seq (sq vQ (.cond (Tm 42) (sq rQ .ret) .skip)) (.seq (sq aQP (.block 0 (.loop aAX))) (sq aAZ .ret))))))
def bmC:List Nat:=[1]
def alH:aW:=⟨1,89,yM,[.tmp 2]⟩
def aBL:Rg:=[iT 2 false]
def aBM:Rg:=[iM 3 0,iA 4 (.call 104 [(Tm 3),(Ci 0),(Ci 8)]),iM 2 4]
def GK:aC:=(sq aBL (sq aBM .ret))
def bfQ:List Nat:=[]
def adB:aW:=⟨1,5,GK,[.tmp 2]⟩
def aRD:Rg:=[iA 7 (.box true (Tm 3)),iT 8 false]
def aRE:Rg:=[iM 9 0,iA 10 (.call 104 [(Tm 9),(Ci 1),(Ci 6)]),iA 11 (.un .not (Tm 10)),iM 12 11,gM 13 1 12 false,iG 14 (.call 104 [(Tm 13),(Ci 0),(Ci 4)]) 12 false,iG 15 (.un .not (Tm 14)) 12 false,iQ 16 12 15,iM 17 16,gM 18 0 17 false,gM 19 1 17 false,gB 20 .add 18 19 17 false,gC 21 .gtr 20 8 17 false,iQ 22 17 21,iM 23 22,gM 24 2 23 false,gM 25 0 23 false,gM 26 0 23 false,gM 27 1 23 false,gB 28 .add 26 27 23 false,iG 29 (.call 104 [(Tm 24),(Tm 25),(Tm 28)]) 23 false,iG 30 (.un .not (Tm 29)) 23 false,iQ 31 23 30,iM 32 31,iG 33 (.idxA 5 1 (Tm 7) (Ci 0)) 32 false,gL 34 33 32 false,gC 35 .neq 34 0 32 false,iQ 36 32 35]
def vT:Rg:=[iT 8 false]
def aRF:Rg:=[iA 37 (.sliceA 5 1 (Tm 7) none none none),iA 38 (.call 100 [(Tm 37),(.const (.fn 107 []))]),iM 8 38]
def NB:aC:=(sq aRD (.seq (sq aRE (.cond (Tm 36) (sq vT .ret) .skip)) (sq aRF .ret)))
def bmI:List Nat:=[7]
def aBK:aW:=⟨4,39,NB,[.tmp 8]⟩
def apK:Rg:=[iA 1 (.box true (Tm 0)),iT 2 false]
def apL:Rg:=[iO 3 3 1,iK 4 105 3,iM 5 4,gO 6 3 1 5 true,gK 7 97 6 5 true,iP 8 5 7,iM 2 8]
def AC:aC:=(sq apK (sq apL .ret))
def a7H:List Nat:=[1]
def NE:aW:=⟨1,9,AC,[.tmp 2]⟩
def aBR:Rg:=[iA 6 (.box true (Tm 2)),iA 7 (.box true (Tm 3)),iT 8 false]
def aBS:Rg:=[iM 9 1,iN 10 9,iM 11 0,iA 12 (.bIQ true (Tm 11) (Ci 1)),iB 13 .eql 10 12,iM 14 13,gM 15 1 14 true,iG 16 (.call 99 [(Tm 15),(.const (.fn 109 []))]) 14 true,iP 17 14 16,iM 18 17,gO 19 3 6 18 true,gK 20 105 19 18 true,iP 21 18 20,iM 22 21,gO 23 3 6 22 true,gK 24 101 23 22 true,iP 25 22 24,iM 26 25,gO 27 3 7 26 true,gK 28 105 27 26 true,iP 29 26 28,iM 8 29]
def GL:aC:=(sq aBR (sq aBS .ret))
def bfS:List Nat:=[6,7]
def adC:aW:=⟨4,30,GL,[.tmp 8]⟩
def aRJ:Rg:=[iA 2 (.box true (Tm 0)),iT 4 false]
def aRK:Rg:=[iF 8 1 2,iL 9 8,iF 10 2 2,iL 11 10,iF 12 3 2,iL 13 12,iF 14 4 2,iO 15 5 14,iA 16 (.call 106 [(Tm 9),(Tm 11),(Tm 13),(Tm 15)]),iA 17 (.un .not (Tm 16)),iM 18 17,gF 19 9 2 18 false,gL 20 19 18 false,gN 21 20 18 false,gC 22 .eql 21 0 18 false,iQ 23 18 22,iM 24 23,gF 25 2 2 24 false,gL 26 25 24 false,gF 27 10 2 24 false,gL 28 27 24 false,gF 29 11 2 24 false,gO 30 3 29 24 false,gF 31 14 2 24 false,gO 32 3 31 24 false,iG 33 (.call 108 [(Tm 26),(Tm 28),(Tm 30),(Tm 32)]) 24 false,iG 34 (.un .not (Tm 33)) 24 false,iQ 35 24 34]
def SJ:Rg:=[iT 4 false]
def aRL:Rg:=[iM 36 1,iA 37 (.bHZ 1 1 [(.bool false)] (Tm 36) (Tm 36)),iM 5 37]
def aRM:Rg:=[iF 38 9 2,iL 39 38,iN 40 39,iI 41 0]
def aRN:Rg:=[iB 42 .lss 41 40]
def aRO:Rg:=[iX 43 1 39 41,iL 44 43,iM 7 44]
def aRP:Rg:=[iM 45 7,iM 46 1,iC 47 .sub 46 1,iA 48 (.call 104 [(Tm 45),(Ci 0),(Tm 47)]),iA 49 (.un .not (Tm 48)),iM 50 49,gM 51 5 50 false,gM 52 7 50 false,iG 53 (.bIK 1 (Tm 51) (Tm 52)) 50 false,gL 54 53 50 false,iQ 55 50 54]
def alL:Rg:=[iT 4 false]
def aRQ:Rg:=[iM 56 5,iM 57 7,iX 58 1 56 57,⟨none,.store 1 (Tm 58) (.const (.bool true)),none⟩]
def aBP:Rg:=[iC 59 .add 41 1,iM 41 59]
def aBO:aC:=(sq aRN (.seq (.cond (Tm 42) .skip (.exit 0)) (.seq (.block 1 (sq aRO (.seq (sq aRP (.cond (Tm 55) (sq alL .ret) .skip)) (.region aRQ)))) (.region aBP))))
def aBQ:Rg:=[iT 4 true]
def ND:aC:=(sq aRJ (.seq (sq aRK (.cond (Tm 35) (sq SJ .ret) .skip)) (sq aRL (.seq (sq aRM (.block 0 (.loop aBO))) (sq aBQ .ret)))))
def bmM:List Nat:=[2]
def aBN:aW:=⟨2,60,ND,[.tmp 4]⟩
def aRR:Rg:=[iA 1 (.box true (Tm 0)),iI 2 0]
def aRS:Rg:=[iF 21 0 1,iL 22 21,iA 23 (.call 104 [(Tm 22),(Ci 1),(Ci 4)]),iA 24 (.un .not (Tm 23)),iM 25 24,gF 26 1 1 25 false,gL 27 26 25 false,gN 28 27 25 false,gC 29 .gtr 28 4 25 false,iQ 30 25 29,iM 31 30,gF 32 2 1 31 false,gL 33 32 31 false,gN 34 33 31 false,gC 35 .gtr 34 4 31 false,iQ 36 31 35,iM 37 36,gF 38 3 1 37 false,gL 39 38 37 false,gN 40 39 37 false,gC 41 .gtr 40 40 37 false,iQ 42 37 41,iM 43 42,gF 44 4 1 43 false,gL 45 44 43 false,gN 46 45 43 false,gC 47 .gtr 46 24 43 false,iQ 48 43 47,iM 49 48,gF 50 5 1 49 false,gL 51 50 49 false,gN 52 51 49 false,gC 53 .gtr 52 4 49 false,iQ 54 49 53,iM 55 54,gF 56 6 1 55 false,gL 57 56 55 false,gN 58 57 55 false,gC 59 .gtr 58 12 55 false,iQ 60 55 59,iM 61 60,gO 62 7 1 61 false,gK 63 111 62 61 false,iG 64 (.un .not (Tm 63)) 61 false,iQ 65 61 64]
def nL:Rg:=[iI 2 1]
def aRT:Rg:=[iZ 3,iZ 4,iZ 5,iZ 6,iZ 7]
def aRU:Rg:=[iT 8 true]
def alM:Rg:=[iF 66 1 1,iL 67 66,iN 68 67,iI 69 0]
def aRV:Rg:=[iB 70 .lss 69 68]
def aRW:Rg:=[iX 71 4 67 69,iO 72 4 71,iA 10 (.alloc [(.str []),.aB,.aB,.aB]),iS 4 10 72]
def aRX:Rg:=[iM 73 3,iF 74 0 10,iL 75 74,iA 76 (.bHV true 1 1 [(.str [])] [(0,(Tm 75))]),iA 77 (.append 1 16 (Tm 73) (Tm 76)),iM 3 77]
def alN:Rg:=[iM 78 8,iM 79 78,gO 80 4 10 79 true,gK 81 95 80 79 true,iP 82 79 81,iM 8 82]
def XI:Rg:=[iC 83 .add 69 1,iM 69 83]
def GN:aC:=(sq aRV (.seq (.cond (Tm 70) .skip (.exit 0)) (.seq (.block 1 (sq aRW (sq aRX (.region alN)))) (.region XI))))
def XJ:Rg:=[iF 84 2 1,iL 85 84,iN 86 85,iI 87 0]
def aCD:Rg:=[iB 88 .lss 87 86]
def aCE:Rg:=[iX 89 4 85 87,iO 90 4 89,iA 12 (.alloc [(.str []),(.int .i64 0),(.int .i64 0),(.int .i64 0)]),iS 4 12 90]
def aCF:Rg:=[iM 91 4,iF 92 0 12,iL 93 92,iA 94 (.bHV true 1 1 [(.str [])] [(0,(Tm 93))]),iA 95 (.append 1 16 (Tm 91) (Tm 94)),iM 4 95]
def XK:Rg:=[iM 96 8,iM 97 96,gF 98 1 12 97 true,gL 99 98 97 true,iG 100 (.call 104 [(Tm 99),(Ci 1),(Ci 16)]) 97 true,iP 101 97 100,iM 102 101,gF 103 2 12 102 true,gL 104 103 102 true,iG 105 (.call 104 [(Tm 104),(Ci 1),(Ci 64)]) 102 true,iP 106 102 105,iM 107 106,gF 108 3 12 107 true,gL 109 108 107 true,gF 110 1 1 107 true,gL 111 110 107 true,gN 112 111 107 true,gC 113 .sub 112 1 107 true,iG 114 (.call 104 [(Tm 109),(Ci 0),(Tm 113)]) 107 true,iP 115 107 114,iM 8 115]
def wW:Rg:=[iC 116 .add 87 1,iM 87 116]
def GO:aC:=(sq aCD (.seq (.cond (Tm 88) .skip (.exit 2)) (.seq (.block 3 (sq aCE (sq aCF (.region XK)))) (.region wW))))
def XL:Rg:=[iF 117 3 1,iL 118 117,iA 119 (.slice 7 (Tm 118) (some (Ci 1)) none none),iN 120 119,iI 121 0]
def aCG:Rg:=[iB 122 .lss 121 120]
def aCH:Rg:=[iX 123 7 119 121,iO 124 7 123,iA 14 (.alloc [(.str []),(.int .i64 0),(.int .i64 0),(.int .i64 0),(.bool false),.aB,.aB]),iS 7 14 124]
def aCI:Rg:=[iM 125 5,iF 126 0 14,iL 127 126,iA 128 (.bHV true 1 1 [(.str [])] [(0,(Tm 127))]),iA 129 (.append 1 16 (Tm 125) (Tm 128)),iM 5 129]
def aCJ:Rg:=[iC 130 .add 121 1,iM 121 130]
def GP:aC:=(sq aCG (.seq (.cond (Tm 122) .skip (.exit 4)) (.seq (.block 5 (sq aCH (.region aCI))) (.region aCJ))))
def XM:Rg:=[iF 131 4 1,iL 132 131,iN 133 132,iI 134 0]
def aCK:Rg:=[iB 135 .lss 134 133]
def aCL:Rg:=[iX 136 3 132 134,iO 137 3 136,iA 16 (.alloc [(.str []),(.int .i64 0),(.int .i64 0)]),iS 3 16 137]
def aCM:Rg:=[iM 138 5,iF 139 0 16,iL 140 139,iA 141 (.bHV true 1 1 [(.str [])] [(0,(Tm 140))]),iA 142 (.append 1 16 (Tm 138) (Tm 141)),iM 5 142]
def XN:Rg:=[iM 143 8,iM 144 143,gF 145 1 16 144 true,gL 146 145 144 true,gF 147 2 1 144 true,gL 148 147 144 true,gN 149 148 144 true,gC 150 .sub 149 1 144 true,iG 151 (.call 104 [(Tm 146),(Ci 0),(Tm 150)]) 144 true,iP 152 144 151,iM 153 152,gF 154 2 16 153 true,gL 155 154 153 true,gF 156 3 1 153 true,gL 157 156 153 true,gN 158 157 153 true,gC 159 .sub 158 1 153 true,iG 160 (.call 104 [(Tm 155),(Ci 0),(Tm 159)]) 153 true,iP 161 153 160,iM 162 161,gF 163 3 1 162 true,gL 164 163 162 true,gF 165 2 16 162 true,gL 166 165 162 true,iG 167 (.bIK 7 (Tm 164) (Tm 166)) 162 true,gF 168 1 167 162 true,gL 169 168 162 true,gC 170 .eql 169 4 162 true,iP 171 162 170,iM 8 171]
def rS:Rg:=[iC 172 .add 134 1,iM 134 172]
def GQ:aC:=(sq aCK (.seq (.cond (Tm 135) .skip (.exit 6)) (.seq (.block 7 (sq aCL (sq aCM (.region XN)))) (.region rS))))
def XO:Rg:=[iF 173 5 1,iL 174 173,iN 175 174,iI 176 0]
def aCN:Rg:=[iB 177 .lss 176 175]
def aCO:Rg:=[iX 178 17 174 176,iO 179 17 178,iA 18 (.alloc [(.str []),(.int .i64 0),(.int .i64 0),(.int .i64 0),(.int .i64 0),(.int .i64 0),(.int .i64 0),(.int .i64 0),(.int .i64 0),.aB,.aB,(.bool false),.aB,.aB,(.bool false),.aB,.aB]),iS 17 18 179]
def aCP:Rg:=[iM 180 6,iF 181 0 18,iL 182 181,iA 183 (.bHV true 1 1 [(.str [])] [(0,(Tm 182))]),iA 184 (.append 1 16 (Tm 180) (Tm 183)),iM 6 184]
def XP:Rg:=[iM 185 8,iM 186 185,gO 187 17 18 186 true,gF 188 2 1 186 true,gL 189 188 186 true,gN 190 189 186 true,gK2 191 112 187 190 186 true,iP 192 186 191,iM 8 192]
def XQ:Rg:=[iC 193 .add 176 1,iM 176 193]
def GR:aC:=(sq aCN (.seq (.cond (Tm 177) .skip (.exit 8)) (.seq (.block 9 (sq aCO (sq aCP (.region XP)))) (.region XQ))))
def XR:Rg:=[iF 194 6 1,iL 195 194,iN 196 195,iI 197 0]
def aCQ:Rg:=[iB 198 .lss 197 196]
def aCR:Rg:=[iX 199 2 195 197,iO 200 2 199,iA 20 (.alloc [(.str []),(.int .i64 0)]),iS 2 20 200]
def aCS:Rg:=[iM 201 7,iF 202 0 20,iL 203 202,iA 204 (.bHV true 1 1 [(.str [])] [(0,(Tm 203))]),iA 205 (.append 1 16 (Tm 201) (Tm 204)),iM 7 205]
def XS:Rg:=[iM 206 8,iM 207 206,gF 208 1 20 207 true,gL 209 208 207 true,gF 210 5 1 207 true,gL 211 210 207 true,gN 212 211 207 true,gC 213 .sub 212 1 207 true,iG 214 (.call 104 [(Tm 209),(Ci 0),(Tm 213)]) 207 true,iP 215 207 214,iM 8 215]
def XT:Rg:=[iC 216 .add 197 1,iM 197 216]
def GT:aC:=(sq aCQ (.seq (.cond (Tm 198) .skip (.exit 10)) (.seq (.block 11 (sq aCR (sq aCS (.region XS)))) (.region XT))))
def wX:Rg:=[iM 217 8,iA 218 (.un .not (Tm 217)),iM 219 218,gM 220 3 219 false,gK 221 110 220 219 false,iG 222 (.un .not (Tm 221)) 219 false,iQ 223 219 222,iM 224 223,gM 225 4 224 false,gK 226 110 225 224 false,iG 227 (.un .not (Tm 226)) 224 false,iQ 228 224 227,iM 229 228,gM 230 5 229 false,gK 231 110 230 229 false,iG 232 (.un .not (Tm 231)) 229 false,iQ 233 229 232,iM 234 233,gM 235 6 234 false,gK 236 110 235 234 false,iG 237 (.un .not (Tm 236)) 234 false,iQ 238 234 237,iM 239 238,gM 240 7 239 false,gK 241 110 240 239 false,iG 242 (.un .not (Tm 241)) 239 false,iQ 243 239 242]
def lO:Rg:=[iI 2 1]
def GU:Rg:=[iI 2 0]
def NF:aC:=(sq aRR (.seq (sq aRS (.cond (Tm 65) (sq nL .ret) .skip)) (sq aRT (sq aRU (.seq (sq alM (.block 0 (.loop GN))) (.seq (sq XJ (.block 2 (.loop GO))) (.seq (sq XL (.block 4 (.loop GP))) (.seq (sq XM (.block 6 (.loop GQ))) (.seq (sq XO (.block 8 (.loop GR))) (.seq (sq XR (.block 10 (.loop GT))) (.seq (sq wX (.cond (Tm 243) (sq lO .ret) .skip)) (sq GU .ret))))))))))))
def bmO:List Nat:=[1,76,94,128,141,183,204]
def aCC:aW:=⟨1,244,NF,[.tmp 2]⟩
@[go_sem] theorem buP (a b:List UInt8):LH .eql a b=some (.bool (a==b)):=(rfl)
@[go_sem] theorem buQ (a b:List UInt8):LH .neq a b=some (.bool !(a==b)):=(rfl)
@[go_sem] theorem buO (a b:List UInt8):LH .add a b=if ((a.length+b.length:Nat):Int)>9223372036854775807 then none else some (.str (a++b)):=(rfl)
@[go_sem] theorem bqO:(([]:List UInt8)==[])=true:=(rfl)
@[go_sem] theorem blD (c:UInt8) (t:List UInt8):((c::t)==[])=false:=(rfl)
theorem nG {a b:List UInt8} (h:a=b):(a==b)=true:=by simp[h]
theorem aaI {a b:List UInt8} (h:a≠b):(a==b)=false:=by simp[h]
section
variable {C:Ctx} {F:PF} {H:PH}
theorem oU {name o s:Nat} {rs:List (List PV)} {vs:List PV} {v:PV} {args:List aP} {d:Option Nat} {K:PF→PH→Prop} (h:aE C name vs .nil (aD v)) (ho:H o=some (.rows s rs))
  (ha:aP.evs (F.frz o s rs) args=some vs) (hK:K ((F.frz o s rs).put d v) (H.frz o s rs)):fP C name args [] d K F H:=by
 refine .inr ⟨_,_,.step o ho (.refl _ _),vs,.nil,aD v,?_,PH.nil_le,h,?_⟩
 ·rw[ha]; simp
 ·rintro r H' ⟨rfl,rfl⟩ -
  rw[PH.kV]
  exact hK
theorem iW.trans {F1 F2 F3:PF} {H1 H2 H3:PH} (h:iW F1 H1 F2 H2) (k:iW F2 H2 F3 H3):iW F1 H1 F3 H3:=by
 induction h with
 | refl=>exact k
 | step o ho h ih=>exact .step o ho (ih k)
theorem oE {c:aC} {K:cN} {s:Nat} {v:PV} {rows:List (List PV)} (ho:bL H s v rows)
  (h:∀ v1,Seen s v1 rows→∀ F1 H1,(∀ t,F t=some v→F1 t=some v1)→(∀ i u,F i=some u→Pure u→F1 i=some u)→aC.wp C (.loop c) K F1 H1):aC.wp C (.loop c) K F H:=by
 obtain⟨v1,hs,hf⟩:=ho.frz
 obtain⟨F1,H1,hz,h1,h2⟩:=hf F
 obtain⟨α,Fs,Hs,Pr,m,a0,F2,H2,hz2,rest⟩:=h v1 hs F1 H1 h1 h2
 exact⟨α,Fs,Hs,Pr,m,a0,F2,H2,hz.trans hz2,rest⟩
theorem aE.a2V {name s:Nat} {v:PV} {rows:List (List PV)} {H0:PH} {R:PV→PH→Prop} (h:aE C name [.sl s rows] H0 R) (hs:Seen s v rows):aE C name [v] H0 R:=by
 rcases hs with ⟨rfl,rfl⟩ | rfl
 ·refine h.args ⟨rfl,fun j p q hp hq=>?_⟩
  cases j with
  | zero=>simp at hp hq; subst hp; subst hq; exact .nil s
  | succ j=>simp at hp
 ·exact h
theorem bL.fresh {s:Nat} {v:PV} {rows:List (List PV)} {o:Nat} (h:bL H s v rows) (ho:H o=none) (x:cP):bL (H.set o x) s v rows∧∀ l,v≠.osl o s 0 l:=by
 refine⟨h.ext fun q y hq=>?_,fun l e=>?_⟩
 ·have:q≠o:=by rintro rfl; rw[ho] at hq; cases hq
  simp only[bS,if_neg this,hq]
 ·rcases h with ⟨_,h2⟩ | ⟨q,rs,h1,h2,_⟩
  ·rw[h2] at e; cases e
  ·rw[h1] at e
   injection e with e1
   subst e1
   rw[ho] at h2; cases h2
theorem lF {s b:Nat} {v:PV} {rows:List (List PV)} {r:List PV} {o:Nat} {x:cP} {K:PV→PH→Prop} (h:bL H s v rows) (ho:H o=none) (hr:roomFor rows.length 1 b)
  (hk:∀ v' H',bL H' s v' (rows++[r])→H' o=some x→K v' H'):kY (H.set o x) s b v (.sl s [r]) K:=by
 obtain⟨h1,h2⟩:=h.fresh ho x
 refine fZ (src:=[r]) h1 (by simp[dU]) hr fun v' H' hO hp=>hk v' H' hO (hp o x (by simp only[bS,if_true]) h2)
theorem nJ {o s k:Nat} {rs:List (List PV)} (hk:k≤rs.length):PV.frz o s rs (.osl o s 0 k)=.sl s (rs.take k):=by
 have:0+k≤rs.length:=by omega
 simp only[PV.frz,PV.rO,PV.dC,if_true,true_and,if_pos this,bKW]
end
open Go Go.Na
def eT (n:Nat):Bool:=decide (97≤n)&&decide (n≤122)||decide (65≤n)&&decide (n≤90)
def kM (n:Nat):Bool:=decide (48≤n)&&decide (n≤57)
def fD (n:Nat):Bool:=eT n||kM n||decide (n=45)||decide (n=46)
theorem a1G {C:Ctx} (n:Nat):kA.wp C (aT vZ.res (aD (.bool (eT n)))) (PF.args [.int .u8 n]) .nil:=by
 have fin:∀ (F:PF) (b:Bool),F 2=some (.bool b)→b=eT n→aT vZ.res (aD (.bool (eT n))) .ret F .nil:=by
  intro F b h e
  subst e
  refine aM (.inr rfl) (vs:=[.bool (eT n)]) (by simp only[go_sem,vZ,h]) rfl
 unfold eT at *
 by_cases a:97≤n
 ·have a':(n:Int)≥97:=by omega
  by_cases b:n≤122
  ·have b':(n:Int)≤122:=by omega
   simp only[go_sem,γ,reduceCtorEq,kA,nN,nO,a',b']
   exact fin _ _ rfl (by simp[a,b])
  ·have b':¬ (n:Int)≤122:=by omega
   by_cases c:65≤n
   ·have c':(n:Int)≥65:=by omega
    have d:¬ (n:Int)≤90:=by omega
    simp only[go_sem,γ,reduceCtorEq,kA,nN,nO,a',b',c',d]
    exact fin _ _ rfl (by simp[a,b,c]; omega)
   ·omega
 ·have a':¬ (n:Int)≥97:=by omega
  by_cases c:65≤n
  ·have c':(n:Int)≥65:=by omega
   by_cases d:n≤90
   ·have d':(n:Int)≤90:=by omega
    simp only[go_sem,γ,reduceCtorEq,kA,nN,nO,a',c',d']
    exact fin _ _ rfl (by simp[a,c,d])
   ·have d':¬ (n:Int)≤90:=by omega
    simp only[go_sem,γ,reduceCtorEq,kA,nN,nO,a',c',d']
    exact fin _ _ rfl (by simp[a,c,d])
  ·have c':¬ (n:Int)≥65:=by omega
   simp only[go_sem,γ,reduceCtorEq,kA,nN,nO,a',c']
   exact fin _ _ rfl (by simp[a,c])
theorem a7N {C:Ctx} (n:Nat):oO.wp C (aT DF.res (aD (.bool (kM n)))) (PF.args [.int .u8 n]) .nil:=by
 have fin:∀ (F:PF) (b:Bool),F 2=some (.bool b)→b=kM n→aT DF.res (aD (.bool (kM n))) .ret F .nil:=by
  intro F b h e
  subst e
  refine aM (.inr rfl) (vs:=[.bool (kM n)]) (by simp only[go_sem,DF,h]) rfl
 unfold kM at *
 by_cases a:48≤n
 ·have a':(n:Int)≥48:=by omega
  by_cases b:n≤57
  ·have b':(n:Int)≤57:=by omega
   simp only[go_sem,γ,reduceCtorEq,oO,yR,yS,a',b']
   exact fin _ _ rfl (by simp[a,b])
  ·have b':¬ (n:Int)≤57:=by omega
   simp only[go_sem,γ,reduceCtorEq,oO,yR,yS,a',b']
   exact fin _ _ rfl (by simp[a,b])
 ·have a':¬ (n:Int)≥48:=by omega
  simp only[go_sem,γ,reduceCtorEq,oO,yR,yS,a']
  exact fin _ _ rfl (by simp[a])
theorem a7R {C:Ctx} (h1:∀ n:Nat,aE C 126 [.int .u8 n] .nil (aD (.bool (eT n)))) (h2:∀ n:Nat,aE C 124 [.int .u8 n] .nil (aD (.bool (kM n)))) (n:Nat) :
  AI.wp C (aT DG.res (aD (.bool (fD n)))) (PF.args [.int .u8 n]) .nil:=by
 have fin:∀ (F:PF) (b:Bool),F 2=some (.bool b)→b=fD n→aT DG.res (aD (.bool (fD n))) .ret F .nil:=by
  intro F b h e
  subst e
  refine aM (.inr rfl) (vs:=[.bool (fD n)]) (by simp only[go_sem,DG,h]) rfl
 simp only[go_sem,reduceCtorEq,AI,apT,apU]
 refine aA (h1 n) rfl ?_
 cases hl:eT n with
 | true =>
  simp only[go_sem,γ]
  exact fin _ _ rfl (by simp[fD,hl])
 | false =>
  simp only[go_sem,γ,reduceCtorEq]
  refine aA (h2 n) rfl ?_
  cases hd:kM n with
  | true =>
   simp only[go_sem,γ,reduceCtorEq]
   exact fin _ _ rfl (by simp[fD,hd])
  | false =>
   by_cases c:n=45
   ·simp only[go_sem,γ,reduceCtorEq,bO (Om:(n:Int)=45)]
    exact fin _ _ rfl (by simp[fD,c])
   ·by_cases d:n=46
    ·simp only[go_sem,γ,reduceCtorEq,bB (Om:(n:Int)≠45),bO (Om:(n:Int)=46)]
     exact fin _ _ rfl (by simp[fD,d])
    ·simp only[go_sem,γ,reduceCtorEq,bB (Om:(n:Int)≠45),bB (Om:(n:Int)≠46)]
     exact fin _ _ rfl (by simp[fD,c,d,hl,hd])
def isName (s:List UInt8):Bool:=match s with
 | []=>false
 | c::_=>decide (s.length≤16)&&eT c.toNat&&s.all fun c=>fD c.toNat
theorem mT {α:Type} {p:α→Bool} {l:List α} {k:Nat} (hk:k<l.length) (h:(l.take k).all p=true) (hp:p l[k]=true):(l.take (k+1)).all p=true:=by
 rw[bLK hk,List.all_append,h]; simp[hp]
theorem mU {α:Type} {p:α→Bool} {l:List α} {k:Nat} (hk:k<l.length) (hp:p l[k]=false):l.all p=false:=by
 rw[List.all_eq_false]
 exact⟨l[k],bJX hk,by simp[hp]⟩
def aDD (s:List UInt8) (k:Nat):PF:=((PF.nil.set 0 (.str s)).set 3 (.int .i64 k))
theorem bgJ {C:Ctx} (h1:∀ n:Nat,aE C 126 [.int .u8 n] .nil (aD (.bool (eT n)))) (h2:∀ n:Nat,aE C 125 [.int .u8 n] .nil (aD (.bool (fD n)))) (s:List UInt8) :
  qS.wp C (aT SM.res (aD (.bool (isName s)))) (PF.args [.str s]) .nil:=by
 have fin:∀ (F:PF) (b:Bool),F 2=some (.bool b)→b=isName s→aT SM.res (aD (.bool (isName s))) .ret F .nil:=by
  intro F b h e
  subst e
  refine aM (.inr rfl) (vs:=[.bool (isName s)]) (by simp only[go_sem,SM,h]) rfl
 cases s with
 | nil =>
  simp only[go_sem,γ,reduceCtorEq,qS,GZ,HA,HB]
  exact fin _ _ rfl rfl
 | cons c t =>
  have hz:(c::t)[0]?=some c:=rfl
  have hne:(c::t==[])=false:=rfl
  have hN:isName (c::t)=(decide ((c::t).length≤16)&&eT c.toNat&&(c::t).all fun c=>fD c.toNat):=rfl
  generalize c::t=s at *
  by_cases hl:s.length≤16
  ·have hl':¬ ((s.length:Nat):Int)>16:=by omega
   rw[decide_eq_true hl,bKE] at hN
   simp only[go_sem,ν,γ,reduceCtorEq,qS,GZ,HA,hne,hl',hz,bLF]
   refine aA (h1 c.toNat) rfl ?_
   cases hc:eT c.toNat with
   | false =>
    simp only[go_sem,γ,reduceCtorEq,bKI,HB]
    exact fin _ _ rfl (by rw[hN,hc]; rfl)
   | true =>
    rw[hc,bKE] at hN
    simp only[go_sem,γ,reduceCtorEq,bKC,aDF]
    refine wp_loop (α:=Nat) (fun k=>aDD s k) (fun _=>.nil) (fun k=>k≤s.length∧(s.take k).all (fun c=>fD c.toNat)=true) (fun k=>s.length-k) 0 ⟨bKF _,rfl⟩ ?_ PH.nil_le ?_
    ·unfold aDD
     exact Lq
    rintro k ⟨hk,ha⟩
    simp only[go_sem,γ,reduceCtorEq,aDE,aDG,aDD]
    by_cases hlt:k<s.length
    ·have bHW:(k:Int)<(s.length:Nat):=by omega
     have hg:s[k]?=some s[k]:=bKD hlt
     simp only[go_sem,γ,reduceCtorEq,bHW,aDH,hg,bLF]
     refine aA (h2 (s[k]).toNat) rfl ?_
     cases hi:fD (s[k]).toNat with
     | false =>
      simp only[go_sem,γ,reduceCtorEq,bKI,aDI]
      refine fin _ false rfl ?_
      rw[hN,mU hlt hi]
     | true =>
      simp only[go_sem,γ,reduceCtorEq,bKC,aDJ,wZz k]
      refine aH (k+1) ⟨hlt,bKQ.1 (mT hlt ha hi)⟩ Om ?_ PH.nil_le
      exact Lq
    ·have bHW:¬ (k:Int)<(s.length:Nat):=by omega
     simp only[go_sem,bHW,aDK]
     have:k=s.length:=by omega
     subst this
     rw[bKK (bJV _)] at ha
     exact fin _ true rfl (by rw[hN,ha])
  ·have hl':((s.length:Nat):Int)>16:=by omega
   simp only[go_sem,γ,reduceCtorEq,qS,GZ,HA,HB,hne,hl']
   exact fin _ _ rfl (by rw[hN,decide_eq_false hl]; rfl)
abbrev cU (x:Int):Prop:=-9223372036854775808≤x∧x≤9223372036854775807
structure cJ where
 name:List UInt8
 start:List RF
 bHU:List (List RF)
 exit:List RF
structure cS where
 name:List UInt8
 bIJ:Int
 port:Int
 law:Int
structure bQ where
 name:List UInt8
 level:Int
 parent:Int
 bIP:Int
 bIH:RF
structure cB where
 name:List UInt8
 model:Int
 machine:Int
structure cZ where
 name:List UInt8
 k:Int
 m:Int
 bIT:Int
 s0:Int
 s1:Int
 s2:Int
 s3:Int
 s4:Int
 bHQ:List Int
 repair:List RF
 target:RF
 bIB:RF
structure eC where
 name:List UInt8
 bID:Int
structure aK where
 bJD:Int
 bHY:List cJ
 bHQ:List cS
 bHS:List bQ
 bHP:List cB
 bHT:List cZ
 bHR:List eC
abbrev a2R (l:List (List RF)):PV:=.sl 1 (l.map fun r=>[frs r])
abbrev cJ.cells (x:cJ):List PV:=[.str x.name,frs x.start,a2R x.bHU,frs x.exit]
abbrev cS.cells (x:cS):List PV:=[.str x.name,.int .i64 x.bIJ,.int .i64 x.port,.int .i64 x.law]
abbrev bQ.cells (x:bQ):List PV:=[.str x.name,.int .i64 x.level,.int .i64 x.parent,.int .i64 x.bIP,.bool x.bIH.neg,aF x.bIH.num,aF x.bIH.den]
abbrev cB.cells (x:cB):List PV:=[.str x.name,.int .i64 x.model,.int .i64 x.machine]
abbrev cZ.cells (x:cZ):List PV:=[.str x.name,.int .i64 x.k,.int .i64 x.m,.int .i64 x.bIT,.int .i64 x.s0,.int .i64 x.s1,.int .i64 x.s2,.int .i64 x.s3,.int .i64 x.s4,ints x.bHQ,frs x.repair,
 .bool x.target.neg,aF x.target.num,aF x.target.den,.bool x.bIB.neg,aF x.bIB.num,aF x.bIB.den]
abbrev eC.cells (x:eC):List PV:=[.str x.name,.int .i64 x.bID]
abbrev aK.cells (f:aK):List PV:=[.int .i64 f.bJD,.sl 4 (f.bHY.map cJ.cells),.sl 4 (f.bHQ.map cS.cells),.sl 7 (f.bHS.map bQ.cells),.sl 3 (f.bHP.map cB.cells),.sl 17 (f.bHT.map cZ.cells),.sl 2 (f.bHR.map eC.cells)]
def cZ.spread (p:cZ) (level:Nat):Int:=match level with
 | 0=>p.s0
 | 1=>p.s1
 | 2=>p.s2
 | 3=>p.s3
 | _=>p.s4
abbrev Fits {α:Type} (l:List α):Prop:=l.length≤9223372036854775807
structure jG (l:List RF):Prop where
 fits:Fits l
 all:∀ x∈l,x.Ok
structure cJ.Ok (x:cJ):Prop where
 start:jG x.start
 exit:jG x.exit
 bHU:Fits x.bHU
 row:∀ r∈x.bHU,jG r
structure cZ.Ok (x:cZ):Prop where
 k:cU x.k
 m:cU x.m
 bIT:cU x.bIT
 bHQ:Fits x.bHQ
 each:∀ m∈x.bHQ,cU m
 repair:jG x.repair
 target:x.target.Ok
 bIB:x.bIB.Ok
structure aK.Ok (f:aK):Prop where
 bHY:Fits f.bHY
 bHQ:Fits f.bHQ
 bHS:Fits f.bHS
 bHP:Fits f.bHP
 bHT:Fits f.bHT
 bHR:Fits f.bHR
 law:∀ x∈f.bHY,x.Ok
 dom:∀ x∈f.bHS,x.bIH.Ok∧cU x.level∧cU x.parent
 drive:∀ x∈f.bHP,cU x.model∧cU x.machine
 bID:∀ x∈f.bHT,x.Ok
 volume:∀ x∈f.bHR,cU x.bID
def mG (x:RF):FR:=if cM (val x.num) (val x.den) then gP x.neg (val x.num) (val x.den) else .error 1
theorem a2L (x:RF):SP x.neg (val x.num) (val x.den)=frV (mG x):=by
 unfold SP mG
 split
 ·exact alR _ _ _
 ·rfl
def cG (x:RF):Bool:=match mG x with
 | .ok (n,a,b)=>!n&&(decide (cC a≤32)&&decide (cC b≤32))
 | .error _=>false
def bZ (x:RF):Bool:=decide (val x.num≠0)
def rW (x:RF):Bool:=cM (val x.num) (val x.den)&&decide (pE x.neg (val x.num) (val x.den) false 1 1≤0)
def within (n lo hi:Int):Bool:=decide (lo≤n)&&decide (n≤hi)
def cO (R:List Bool) (i:Nat) (row:List RF):Nat→List Bool
 | 0=>R
 | k+1=>let R':=cO R i row k
  R'.set i (R'.getD i false||(row.map bZ).getD k false&&R'.getD k false)
def xJ (l:cJ) (R:List Bool) (i:Nat):List Bool :=
 cO (R.set i (R.getD i false||(l.exit.map bZ).getD i false)) i (l.bHU.getD i []) (l.bHU.getD i []).length
def cX (l:cJ) (R:List Bool):Nat→List Bool
 | 0=>R
 | i+1=>xJ l (cX l R i) i
def dE (l:cJ):Nat→List Bool
 | 0=>bJW l.exit.length false
 | r+1=>cX l (dE l r) l.exit.length
def uO (l:cJ):Bool:=(dE l (l.exit.length+1)).all id
def jZ (l:cJ):Bool :=
 within l.start.length 1 4&&decide (l.exit.length=l.start.length)&&decide (l.bHU.length=l.start.length)&&l.start.all cG&&l.exit.all cG
 && (bJU l.bHU.length).all (fun i=>decide ((l.bHU.getD i []).length=l.start.length)&&(l.bHU.getD i []).all cG&&!((l.bHU.getD i []).map bZ).getD i false)
 && (match nD (l.start.map RF.v) with
  | .ok (n,a,b)=>decide (pE n a b false 1 1=0)
  | .error _=>false)&&uO l
def distinct (l:List (List UInt8)):Bool:=(bJU l.length).all fun i=>isName (l.getD i [])&&!(l.take i).contains (l.getD i [])
def FS (f:aK) (i:Nat) (d:bQ):Bool :=
 within d.parent 0 i&&decide ((f.bHS.map bQ.level).getD d.parent.toNat 0=IntKind.i64.wrap (d.level-1))&&within d.level 1 4&&within d.bIP 1 64&&cG d.bIH
def yF (f:aK) (r:bQ) (t:List bQ):Bool :=
 decide (r.name=[])&&decide (r.level=0)&&decide (r.parent=-1)&&decide (r.bIP=0)&&cG r.bIH&&!bZ r.bIH
  && (bJU t.length).all fun i=>match t[i]? with
   | some d=>FS f i d
   | none=>false
def mJ (f:aK):Bool:=match f.bHS with
 | []=>false
 | r::t=>yF f r t
def HO (p:cZ):Bool :=
 within p.k 1 6&&within p.m 0 4&&decide (p.k+p.m≤8)&&within p.bIT p.k (p.k+p.m)&&decide (p.s0=0)&&([p.s0,p.s1,p.s2,p.s3,p.s4].all fun n=>within n 0 8)
def yX (p:cZ):Bool :=
 decide ((p.repair.length:Int)=max p.m 1)&&(p.repair.all fun x=>cG x&&bZ x)&&cG p.target&&rW p.target&&cG p.bIB
def jB (bHQ:Nat) (p:cZ):Bool :=
 HO p&&decide (p.bHQ.length≠0)&&yX p&&(bJU p.bHQ.length).all fun j=>within (p.bHQ.getD j 0) 0 ((bHQ:Int)-1)&&!(p.bHQ.take j).contains (p.bHQ.getD j 0)
def jF (f:aK) (m:cS):Bool:=within m.bIJ 1 16&&within m.port 1 64&&within m.law 0 ((f.bHY.length:Int)-1)
def gQ (f:aK) (d:cB):Bool:=within d.model 0 ((f.bHQ.length:Int)-1)&&within d.machine 0 ((f.bHS.length:Int)-1)&&decide ((f.bHS.map bQ.level).getD d.machine.toNat 0=4)
def mH (f:aK) (v:eC):Bool:=within v.bID 0 ((f.bHT.length:Int)-1)
def lH (f:aK):Bool:=within f.bJD 1 4&&decide (f.bHY.length≤4)&&decide (f.bHQ.length≤4)&&decide (f.bHS.length≤40)&&decide (f.bHP.length≤24)&&decide (f.bHT.length≤4)&&decide (f.bHR.length≤12)
def dL (f:aK):Bool :=
 lH f&&mJ f&&(f.bHY.all jZ&&f.bHQ.all (jF f)&&f.bHP.all (gQ f)&&f.bHT.all (jB f.bHQ.length)&&f.bHR.all (mH f))
 && (distinct (f.bHY.map cJ.name)&&distinct (f.bHQ.map cS.name)&&distinct ((f.bHS.drop 1).map bQ.name++f.bHP.map cB.name)&&distinct (f.bHT.map cZ.name)&&distinct (f.bHR.map eC.name))
theorem bA {t:Nat} {b b':Bool} {F:PF} {H:PH} (h:F t=some (.bool b)) (e:b=b'):aT [.tmp t] (bY (.bool b')) .ret F H:=by
 subst e
 exact aX (.inr rfl) .nil (vs:=[.bool b]) (by rw[kX,nY,h,pV]) PH.nil_le ⟨.refl _,rfl⟩
theorem brD {C:Ctx} (n lo hi:Int):wT.wp C (aT gin.res (bY (.bool (within n lo hi)))) (PF.args [.int .i64 n,.int .i64 lo,.int .i64 hi]) .nil:=by
 by_cases a:lo≤n
 ·by_cases b:n≤hi
  ·simp only[go_sem,γ,reduceCtorEq,wT,acZ,adA,gin,show n≥lo from a,b]
   exact bA rfl (by simp[within,a,b])
  ·simp only[go_sem,γ,reduceCtorEq,wT,acZ,adA,gin,show n≥lo from a,b]
   exact bA rfl (by simp[within,a,b])
 ·have a':¬ n≥lo:=a
  simp only[go_sem,γ,reduceCtorEq,wT,acZ,adA,gin,a']
  exact bA rfl (by simp[within,a])
theorem a7B {C:Ctx} (L:qI C) (x:RF) (hx:x.Ok):AA.wp C (aT MU.res (bY (.bool (bZ x)))) (PF.args [.agg x.cells]) .nil:=by
 simp only[go_sem,δ,γ,θ,AA,apC,apD,MU]
 refine aA (L.bits x.num hx.1 hx.2.2.1) rfl ?_
 simp only[go_sem,γ]
 refine bA rfl ?_
 have:=@jE (val x.num)
 rw[bZ,decide_eq_decide]
 omega
structure awH (C:Ctx):Prop extends EE C where
 frac:∀ n d:Int,cU n→cU d→aE C 115 [.int .i64 n,.int .i64 d] .nil (aD (aeG n d))
 red:∀ x:RF,x.Ok→aE C 116 [.agg x.cells] .nil (aD (frV (mG x)))
 ord:∀ x y:RF,x.Ok→y.Ok→aE C 114 [.agg x.cells,.agg y.cells] .nil (aD (yH x.neg (val x.num) (val x.den) y.neg (val y.num) (val y.den)))
 plus:∀ x y:RF,x.Ok→y.Ok→aE C 113 [.agg x.cells,.agg y.cells] .nil (aD (frV (gU x.v y.v)))
 tot:∀ l:List RF,jG l→aE C 117 [frs l] .nil (aD (frV (nD (l.map RF.v))))
theorem HC {neg:Bool} {a b:Nat} {e:Int} (h:gP neg a b=.error e):e=2:=by
 unfold gP at h
 split at h
 ·injection h with h; exact h.symm
 ·cases h
theorem aHL {x:RF} {e:Int} (h:mG x=.error e):e≠0:=by
 unfold mG at h
 split at h
 ·rw[HC h]; decide
 ·injection h with h; subst h; decide
theorem boR {x:RF} {r:FV} (h:mG x=.ok r):r.rf.Ok:=by
 unfold mG at h
 split at h
 ·exact (qT h).2
 ·cases h
theorem bmF {C:Ctx} (L:awH C) (x:RF) (hx:x.Ok):NA.wp C (aT aBJ.res (bY (.bool (cG x)))) (PF.args [.agg x.cells]) .nil:=by
 simp only[go_sem,δ,γ,NA,aRB,aRC,aBJ]
 refine aA (L.red x hx) rfl ?_
 unfold cG
 cases hr:mG x with
 | error e =>
  have:=bB (aHL hr)
  simp only[go_sem,δ,γ,frV]
  refine aR fun o ho=>?_
  simp only[go_sem,δ,γ,reduceCtorEq,SI,this]
  exact bA rfl rfl
 | ok r =>
  obtain⟨n,a,b⟩:=r
  obtain⟨l1,l2,l3,l4⟩:=boR hr
  simp only[go_sem,δ,γ,frV]
  refine aR fun o ho=>?_
  cases n with
  | true =>
   simp only[go_sem,ρ,δ,γ,θ,reduceCtorEq,SI]
   exact bA rfl rfl
  | false =>
   simp only[go_sem,ρ,δ,γ,θ,SI]
   refine aA (L.bits _ l1 l3) rfl ?_
   rw[show val (FV.rf (false,a,b)).num=a from aS a]
   by_cases c1:cC a≤32
   ·have c1':((cC a:Nat):Int)≤32:=by omega
    simp only[go_sem,δ,γ,c1']
    refine aA (L.bits _ l2 l4) rfl ?_
    rw[show val (FV.rf (false,a,b)).den=b from aS b]
    simp only[go_sem,γ]
    refine bA rfl ?_
    rw[decide_eq_true c1]
    simp
    omega
   ·have c1':¬ ((cC a:Nat):Int)≤32:=by omega
    simp only[go_sem,γ,reduceCtorEq,c1']
    refine bA rfl ?_
    rw[decide_eq_false c1]
    rfl
theorem aDM:gP false 1 1=.ok (false,1,1):=by
 have:cC 1=1:=by rw[mV (by decide),iV]
 simp[gP,this]
theorem aDR:aeG 1 1=frV (.ok (false,1,1)):=by
 rw[aeG,if_neg (by decide),alR]
 show frV (gP false 1 1)=_
 rw[aDM]
theorem a8V:(FV.rf (false,1,1)).Ok:=(qT aDM).2
theorem atD:cM 1 1=true:=by
 have:cC 1=1:=by rw[mV (by decide),iV]
 simp[cM,this]
theorem bmJ {C:Ctx} (L:awH C) (x:RF) (hx:x.Ok):NC.wp C (aT gone.res (bY (.bool (rW x)))) (PF.args [.agg x.cells]) .nil:=by
 simp only[go_sem,NC,aRG,aRH,gone]
 refine aA (L.frac 1 1 (by decide) (by decide)) rfl ?_
 rw[aDR]
 simp only[go_sem,δ,γ,frV]
 refine aR fun o ho=>?_
 simp only[go_sem,δ,γ,aRI]
 refine aA (L.ord x (FV.rf (false,1,1)) hx a8V) rfl ?_
 rw[show val (FV.rf (false,1,1)).num=1 from aS 1,show val (FV.rf (false,1,1)).den=1 from aS 1,show (FV.rf (false,1,1)).neg=false from rfl]
 unfold yH rW
 rw[atD,bLT]
 cases hv:cM (val x.num) (val x.den) with
 | false =>
  simp only[go_sem,ρ,γ,reduceCtorEq,alK]
  exact bA rfl rfl
 | true =>
  simp only[go_sem,ρ,γ,alK]
  exact bA rfl rfl
theorem bfI {C:Ctx} (p:RF→Bool) (fn:Nat) (l:List RF) (hf:Fits l) (h:∀ x∈l,aE C fn [.agg x.cells] .nil (aD (.bool (p x)))) :
  GF.wp C (aT acW.res (bY (.bool (l.all p)))) (PF.args [frs l,.fn fn []]) .nil:=by
 simp only[go_sem,γ,reduceCtorEq,GF,aAG,aAH,acW]
 refine wp_loop (α:=Nat) (fun k=>((((PF.nil.set 1 (.fn fn [])).set 7 (frs l)).set 8 (.int .i64 (l.length:Nat))).set 9 (.int .i64 k))) (fun _=>.nil) (fun k=>k≤l.length∧(l.take k).all p=true) (fun k=>l.length-k) 0 ⟨bKF _,rfl⟩ ?_ PH.nil_le ?_
 ·(repeat' (first|exact PF.nil_le|refine PF.aI ?_ ?_))<;>first|(simp only[go_sem,γ,bJT]<;>rfl)|rfl
 rintro k ⟨hk,ha⟩
 simp only[go_sem,γ,aAF,aAI]
 by_cases hlt:k<l.length
 ·have bHW:(k:Int)<(l.length:Nat):=by omega
  have hr:(l.map RF.cells)[k]?=some (l[k]).cells:=by simp[hlt]
  simp only[go_sem,δ,γ,bHW,aAJ,hr]
  refine aR fun o ho=>?_
  simp only[go_sem,δ,γ,aAK]
  refine⟨fn,[],rfl,?_⟩
  refine aA (h _ (bJX hlt)) rfl ?_
  cases hp:p l[k] with
  | false =>
   simp only[go_sem,γ,aAL]
   exact bA (b:=false) rfl (mU (p:=p) hlt hp).symm
  | true =>
   simp only[go_sem,γ,aAM,wZz k]
   refine aH (k+1) ⟨hlt,bKQ.1 (mT hlt ha hp)⟩ Om ?_ PH.nil_le
   exact Lq
 ·have bHW:¬ (k:Int)<(l.length:Nat):=by omega
  simp only[go_sem,bHW,aAN]
  have:k=l.length:=by omega
  subst this
  rw[bKK (bJV _)] at ha
  exact bA rfl ha.symm
theorem bfK {C:Ctx} (p:Int→Bool) (fn:Nat) (l:List Int) (hf:Fits l) (h:∀ x∈l,aE C fn [.int .i64 x] .nil (aD (.bool (p x)))) :
  GG.wp C (aT acX.res (bY (.bool (l.all p)))) (PF.args [ints l,.fn fn []]) .nil:=by
 simp only[go_sem,γ,reduceCtorEq,GG,aAP,aAQ,acX]
 refine wp_loop (α:=Nat) (fun k=>((((PF.nil.set 1 (.fn fn [])).set 7 (ints l)).set 8 (.int .i64 (l.length:Nat))).set 9 (.int .i64 k))) (fun _=>.nil) (fun k=>k≤l.length∧(l.take k).all p=true) (fun k=>l.length-k) 0 ⟨bKF _,rfl⟩ ?_ PH.nil_le ?_
 ·(repeat' (first|exact PF.nil_le|refine PF.aI ?_ ?_))<;>first|(simp only[go_sem,γ,bJT]<;>rfl)|rfl
 rintro k ⟨hk,ha⟩
 simp only[go_sem,γ,aAO,aAR]
 by_cases hlt:k<l.length
 ·have bHW:(k:Int)<(l.length:Nat):=by omega
  have hr:(l.map fun n=>[PV.int .i64 n])[k]?=some [.int .i64 l[k]]:=by simp[hlt]
  simp only[go_sem,γ,bHW,aAS,hr,aAT]
  refine⟨fn,[],rfl,?_⟩
  refine aA (h _ (bJX hlt)) rfl ?_
  cases hp:p l[k] with
  | false =>
   simp only[go_sem,γ,aAU]
   exact bA (b:=false) rfl (mU (p:=p) hlt hp).symm
  | true =>
   simp only[go_sem,γ,aAV,wZz k]
   refine aH (k+1) ⟨hlt,bKQ.1 (mT hlt ha hp)⟩ Om ?_ PH.nil_le
   exact Lq
 ·have bHW:¬ (k:Int)<(l.length:Nat):=by omega
  simp only[go_sem,bHW,aAW]
  have:k=l.length:=by omega
  subst this
  rw[bKK (bJV _)] at ha
  exact bA rfl ha.symm
abbrev aZL (l:List Bool):PV:=.sl 1 (l.map fun b=>[PV.bool b])
theorem bfG {C:Ctx} (p:Bool→Bool) (fn:Nat) (l:List Bool) (hf:Fits l) (h:∀ x∈l,aE C fn [.bool x] .nil (aD (.bool (p x)))) :
  GD.wp C (aT acV.res (bY (.bool (l.all p)))) (PF.args [aZL l,.fn fn []]) .nil:=by
 simp only[go_sem,γ,reduceCtorEq,GD,azX,azY,acV]
 refine wp_loop (α:=Nat) (fun k=>((((PF.nil.set 1 (.fn fn [])).set 7 (aZL l)).set 8 (.int .i64 (l.length:Nat))).set 9 (.int .i64 k))) (fun _=>.nil) (fun k=>k≤l.length∧(l.take k).all p=true) (fun k=>l.length-k) 0 ⟨bKF _,rfl⟩ ?_ PH.nil_le ?_
 ·(repeat' (first|exact PF.nil_le|refine PF.aI ?_ ?_))<;>first|(simp only[go_sem,γ,bJT]<;>rfl)|rfl
 rintro k ⟨hk,ha⟩
 simp only[go_sem,γ,azW,azZ]
 by_cases hlt:k<l.length
 ·have bHW:(k:Int)<(l.length:Nat):=by omega
  have hr:(l.map fun b=>[PV.bool b])[k]?=some [.bool l[k]]:=by simp[hlt]
  simp only[go_sem,γ,bHW,aAA,hr,aAB]
  refine⟨fn,[],rfl,?_⟩
  refine aA (h _ (bJX hlt)) rfl ?_
  cases hp:p l[k] with
  | false =>
   simp only[go_sem,γ,aAC]
   exact bA (b:=false) rfl (mU (p:=p) hlt hp).symm
  | true =>
   simp only[go_sem,γ,aAD,wZz k]
   refine aH (k+1) ⟨hlt,bKQ.1 (mT hlt ha hp)⟩ Om ?_ PH.nil_le
   exact Lq
 ·have bHW:¬ (k:Int)<(l.length:Nat):=by omega
  simp only[go_sem,bHW,aAE]
  have:k=l.length:=by omega
  subst this
  rw[bKK (bJV _)] at ha
  exact bA rfl ha.symm
theorem a7D {C:Ctx} (b:Bool):AB.wp C (aT MW.res (bY (.bool b))) (PF.args [.bool b]) .nil:=by
 simp only[go_sem,γ,reduceCtorEq,AB,apE,apF,MW]
 exact bA rfl rfl
theorem bfP {C:Ctx} (hin:∀ n lo hi:Int,aE C 104 [.int .i64 n,.int .i64 lo,.int .i64 hi] .nil (aD (.bool (within n lo hi)))) (n:Int):GK.wp C (aT adB.res (bY (.bool (within n 0 8)))) (PF.args [.int .i64 n]) .nil:=by
 simp only[go_sem,reduceCtorEq,GK,aBL,aBM,adB]
 refine aA (hin n 0 8) rfl ?_
 simp only[go_sem,γ]
 exact bA rfl rfl
theorem a7G {C:Ctx} (h1:∀ x:RF,x.Ok→aE C 105 [.agg x.cells] .nil (aD (.bool (cG x)))) (h2:∀ x:RF,x.Ok→aE C 97 [.agg x.cells] .nil (aD (.bool (bZ x)))) (x:RF) (hx:x.Ok) :
  AC.wp C (aT NE.res (bY (.bool (cG x&&bZ x)))) (PF.args [.agg x.cells]) .nil:=by
 simp only[go_sem,δ,γ,AC,apK,apL,NE]
 refine aA (h1 x hx) rfl ?_
 cases hl:cG x with
 | false =>
  simp only[go_sem,γ,reduceCtorEq]
  exact bA rfl rfl
 | true =>
  simp only[go_sem,δ,γ]
  refine aA (h2 x hx) rfl ?_
  simp only[go_sem,γ]
  exact bA rfl rfl
structure qH (C:Ctx):Prop extends awH C where
 inn:∀ n lo hi:Int,aE C 104 [.int .i64 n,.int .i64 lo,.int .i64 hi] .nil (aD (.bool (within n lo hi)))
 uF:∀ x:RF,x.Ok→aE C 97 [.agg x.cells] .nil (aD (.bool (bZ x)))
 lim:∀ x:RF,x.Ok→aE C 105 [.agg x.cells] .nil (aD (.bool (cG x)))
 one:∀ x:RF,x.Ok→aE C 101 [.agg x.cells] .nil (aD (.bool (rW x)))
 allf:∀ (p:RF→Bool) (fn:Nat) (l:List RF),Fits l→(∀ x∈l,aE C fn [.agg x.cells] .nil (aD (.bool (p x))))→aE C 99 [frs l,.fn fn []] .nil (aD (.bool (l.all p)))
 alli:∀ (p:Int→Bool) (fn:Nat) (l:List Int),Fits l→(∀ x∈l,aE C fn [.int .i64 x] .nil (aD (.bool (p x))))→aE C 100 [ints l,.fn fn []] .nil (aD (.bool (l.all p)))
 allb:∀ (p:Bool→Bool) (fn:Nat) (l:List Bool),Fits l→(∀ x∈l,aE C fn [.bool x] .nil (aD (.bool (p x))))→aE C 98 [aZL l,.fn fn []] .nil (aD (.bool (l.all p)))
 ends1:∀ b:Bool,aE C 103 [.bool b] .nil (aD (.bool b))
 num1:∀ n:Int,aE C 107 [.int .i64 n] .nil (aD (.bool (within n 0 8)))
 rate1:∀ x:RF,x.Ok→aE C 109 [.agg x.cells] .nil (aD (.bool (cG x&&bZ x)))
 name:∀ s:List UInt8,aE C 123 [.str s] .nil (aD (.bool (isName s)))
theorem qH.bgI {C:Ctx} (L:qH C) (l:List RF) (h:jG l):aE C 99 [frs l,.fn 105 []] .nil (aD (.bool (l.all cG))) :=
 L.allf cG 105 l h.fits fun x hx=>L.lim x (h.all x hx)
theorem within_iff {n lo hi:Int}:within n lo hi=true↔lo≤n∧n≤hi:=by simp[within]
theorem bmH {C:Ctx} (L:qH C) (p:cZ) (hp:p.Ok) :
  NB.wp C (aT aBK.res (bY (.bool (HO p)))) (PF.args [.int .i64 p.k,.int .i64 p.m,.int .i64 p.bIT,.agg [.int .i64 p.s0,.int .i64 p.s1,.int .i64 p.s2,.int .i64 p.s3,.int .i64 p.s4]]) .nil:=by
 simp only[go_sem,reduceCtorEq,NB,aRD,aRE,aBK]
 refine aA (L.inn p.k 1 6) rfl ?_
 unfold HO
 cases h1:within p.k 1 6 with
 | false =>
  simp only[go_sem,γ,bKI,vT]
  exact bA rfl (by simp only[bJZ])
 | true =>
  obtain⟨k1,k2⟩:=within_iff.1 h1
  simp only[go_sem,γ,bKC]
  refine aA (L.inn p.m 0 4) rfl ?_
  cases h2:within p.m 0 4 with
  | false =>
   simp only[go_sem,γ,reduceCtorEq,bKI,vT]
   exact bA rfl (by simp only[bJZ,bLC])
  | true =>
   obtain⟨m1,m2⟩:=within_iff.1 h2
   have hw:IntKind.i64.wrap (p.k+p.m)=p.k+p.m:=wrap_i64 Om Om
   by_cases h3:p.k+p.m≤8
   ·have h3':¬ p.k+p.m>8:=by omega
    simp only[go_sem,γ,reduceCtorEq,bKC,hw,h3']
    refine aA (L.inn p.bIT p.k (p.k+p.m)) rfl ?_
    cases h4:within p.bIT p.k (p.k+p.m) with
    | false =>
     simp only[go_sem,γ,reduceCtorEq,bKI,vT]
     exact bA rfl (by simp only[bJZ,bLC])
    | true =>
     have h50:(0:Int)<((5:Nat):Int):=by decide
     by_cases h5:p.s0=0
     ·have hch:chunks 1 5 [PV.int .i64 p.s0,.int .i64 p.s1,.int .i64 p.s2,.int .i64 p.s3,.int .i64 p.s4]=([p.s0,p.s1,p.s2,p.s3,p.s4].map fun n=>[PV.int .i64 n]):=rfl
      have hm:5≤maxLen:=by decide
      simp only[go_sem,ν,δ,γ,η,θ,ζ,reduceCtorEq,bKC,h50,cH h5,aRF,hch,hm]
      refine aA (L.alli (fun n=>within n 0 8) 107 [p.s0,p.s1,p.s2,p.s3,p.s4] (show 5≤9223372036854775807 by decide) fun x _=>L.num1 x) rfl ?_
      simp only[go_sem,γ]
      exact bA rfl (by rw[decide_eq_true h3,decide_eq_true h5]; simp only[bKE])
     ·simp only[go_sem,ν,δ,γ,θ,ζ,reduceCtorEq,bKC,h50,cT h5,vT]
      exact bA rfl (by rw[decide_eq_false h5]; simp only[bJZ,bLC])
   ·have h3':p.k+p.m>8:=by omega
    simp only[go_sem,γ,reduceCtorEq,bKC,hw,h3',vT]
    exact bA rfl (by rw[decide_eq_false h3]; simp only[bJZ,bLC])
theorem max_eq (a b:Int):(if a<b then b else a)=max a b:=by
 rw[Int.max_def]
 by_cases h:a<b
 ·rw[if_pos h,if_pos Om]
 ·by_cases h':a≤b
  ·rw[if_neg h,if_pos h']; omega
  ·rw[if_neg h,if_neg h']
theorem bfR {C:Ctx} (L:qH C) (p:cZ) (hp:p.Ok) :
  GL.wp C (aT adC.res (bY (.bool (yX p)))) (PF.args [.int .i64 p.m,frs p.repair,.agg p.target.cells,.agg p.bIB.cells]) .nil:=by
 simp only[go_sem,γ,reduceCtorEq,GL,aBR,aBS,adC,max_eq,bJT]
 unfold yX
 by_cases h1:(p.repair.length:Int)=max p.m 1
 ·simp only[go_sem,γ,bO h1]
  refine aA (L.allf (fun x=>cG x&&bZ x) 109 p.repair hp.repair.fits fun x hx=>L.rate1 x (hp.repair.all x hx)) rfl ?_
  rw[decide_eq_true h1,bKE]
  cases h2:p.repair.all fun x=>cG x&&bZ x with
  | false =>
   simp only[go_sem,γ,reduceCtorEq]
   exact bA rfl rfl
  | true =>
   simp only[go_sem,δ,γ]
   refine aA (L.lim _ hp.target) rfl ?_
   cases h3:cG p.target with
   | false =>
    simp only[go_sem,γ,reduceCtorEq]
    exact bA rfl rfl
   | true =>
    simp only[go_sem,δ,γ]
    refine aA (L.one _ hp.target) rfl ?_
    cases h4:rW p.target with
    | false =>
     simp only[go_sem,γ,reduceCtorEq]
     exact bA rfl rfl
    | true =>
     simp only[go_sem,δ,γ]
     refine aA (L.lim _ hp.bIB) rfl ?_
     simp only[go_sem,γ]
     exact bA rfl rfl
 ·simp only[go_sem,γ,reduceCtorEq,bB h1]
  exact bA rfl (by rw[decide_eq_false h1]; rfl)
def oA (l:List (List UInt8)) (k:List KS):Option PV:=match k with
 | [.str s]=>if l.contains s then some (.bool true) else none
 | _=>none
theorem a9Y (l:List (List UInt8)) (s:List UInt8):(fun k=>if k=[KS.str s] then some (PV.bool true) else oA l k)=oA (l++[s]):=by
 funext k
 match k with
 | []=>rfl
 | [.int a b]=>simp[oA]
 | [.bool a]=>simp[oA]
 | [.str t] =>
  by_cases h:t=s
  ·subst h; simp[oA]
  ·simp[oA,h]
 | a::b::c=>simp[oA]
abbrev texts (l:List (List UInt8)):PV:=.sl 1 (l.map fun s=>[PV.str s])
theorem a9X:oA []=(fun _=>none:fG):=by
 funext k
 match k with
 | []=>rfl
 | [.int a b]=>rfl
 | [.bool a]=>rfl
 | [.str t]=>rfl
 | a::b::c=>cases a<;>rfl
theorem a9Z (l:List (List UInt8)) (s:List UInt8):fG.upd (oA l) [KS.str s] (.bool true)=oA (l++[s]):=a9Y l s
theorem aHY (l:List (List UInt8)) (s:List UInt8):(oA l [KS.str s]).getD (.bool false)=.bool (l.contains s):=by
 show (if l.contains s then some (PV.bool true) else none).getD (.bool false)=_
 cases l.contains s<;>rfl
theorem amP {p:Nat→Bool} {k:Nat} (h:(bJU k).all p=true) (hp:p k=true):(bJU (k+1)).all p=true:=by
 rw[List.range_succ,List.all_append,h]; simp[hp]
theorem dP {p:Nat→Bool} {n k:Nat} (hk:k<n) (hp:p k=false):(bJU n).all p=false:=by
 rw[List.all_eq_false]
 exact⟨k,bLI.2 hk,by simp[hp]⟩
def mI (p:Nat→Bool) (k:Nat):Prop:=(bJU k).all p=true
theorem mI.zero {p:Nat→Bool}:mI p 0:=rfl
theorem mI.step {p:Nat→Bool} {k:Nat} (h:mI p k) (hp:p k=true):mI p (k+1):=amP h hp
def a3K (l:List (List UInt8)) (o k:Nat):PF:=((((PF.nil.set 3 (.map o)).set 7 (texts l)).set 8 (.int .i64 (l.length:Nat))).set 9 (.int .i64 k))
theorem bfU {C:Ctx} (L:qH C) (l:List (List UInt8)) (hf:Fits l):GM.wp C (aT adD.res (bY (.bool (distinct l)))) (PF.args [texts l]) .nil:=by
 simp only[go_sem,GM,aBU,aBV,adD]
 refine aR fun o ho=>?_
 simp only[go_sem,γ,reduceCtorEq,aBW]
 have e0:(PH.nil.set o (.map (false,[.str]) (fun _=>none)))=PH.nil.set o (.map (false,[.str]) (oA (l.take 0))):=by rw[List.take_zero,a9X]
 unfold distinct
 generalize hp:(fun i=>isName (l.getD i [])&&!(l.take i).contains (l.getD i []))=p
 have hpk:∀ k (h:k<l.length),p k=(isName l[k]&&!(l.take k).contains l[k]):=by
  intro k h
  rw[← hp]
  simp only[bKO,bKD h,bMJ]
 refine wp_loop (α:=Nat) (fun k=>a3K l o k) (fun k=>PH.nil.set o (.map (false,[.str]) (oA (l.take k)))) (fun k=>k≤l.length∧mI p k) (fun k=>l.length-k) 0 ⟨bKF _,.zero⟩ ?_ ?_ ?_
 ·unfold a3K
  (repeat' (first|exact PF.nil_le|refine PF.aI ?_ ?_))<;>first|(simp only[go_sem,γ,bJT]<;>rfl)|rfl
 ·rw[e0]; exact PH.le_refl
 rintro k ⟨hk,ha⟩
 simp only[go_sem,γ,aBT,aBX,a3K]
 by_cases hlt:k<l.length
 ·have bHW:(k:Int)<(l.length:Nat):=by omega
  have hr:(l.map fun s=>[PV.str s])[k]?=some [.str l[k]]:=by simp[hlt]
  simp only[go_sem,γ,bHW,aBY,hr,aBZ]
  refine aA (L.name l[k]) rfl ?_
  have hk2:=hpk k hlt
  cases h1:isName l[k] with
  | false =>
   rw[h1,bJZ] at hk2
   simp only[go_sem,γ,bKI,XH]
   exact bA (b:=false) rfl (dP hlt hk2).symm
  | true =>
   rw[h1,bKE] at hk2
   cases h2:(l.take k).contains l[k] with
   | true =>
    rw[h2] at hk2
    simp only[go_sem,γ,reduceCtorEq,bKC,aHY,h2,XH]
    exact bA (b:=false) rfl (dP hlt hk2).symm
   | false =>
    rw[h2] at hk2
    simp only[go_sem,γ,reduceCtorEq,bKC,aHY,h2,aCA,a9Z,aCB,wZz k]
    refine aH (k+1) ⟨hlt,ha.step hk2⟩ Om ?_ ?_
    ·exact Lq
    ·rw[bLK hlt]
     exact PH.aI PH.nil_le Sq
 ·have bHW:¬ (k:Int)<(l.length:Nat):=by omega
  simp only[go_sem,bHW,apM]
  have:k=l.length:=by omega
  subst this
  exact bA (b:=true) rfl (show mI p l.length from ha).symm
def marks (n:Nat) (l:List Int):List Bool:=(bJU n).map fun (i:Nat)=>l.contains (i:Int)
theorem a7U (n:Nat):marks n []=bJW n false:=by
 refine List.ext_getElem (by simp[marks]) fun i h1 h2=>by simp[marks]
theorem bgM {n:Nat} {l:List Int} {m:Int} (h0:0≤m) (h1:m<n):(marks n l)[m.toNat]?=some (l.contains m):=by
 have:m.toNat<n:=by omega
 simp only[marks,bKZ,List.getElem?_range this,bLF]
 rw[Int.toNat_of_nonneg h0]
theorem a7V {n:Nat} {l:List Int} {m:Int} (h0:0≤m) (h1:m<n):(marks n l).set m.toNat true=marks n (l++[m]):=by
 refine List.ext_getElem (by simp[marks]) fun i h2 h3=>?_
 simp only[marks,bMC,List.getElem_range,List.getElem_set,List.contains_append]
 by_cases h:m.toNat=i
 ·subst h
  rw[if_pos rfl,Int.toNat_of_nonneg h0]; simp
 ·have hne:((i:Nat):Int)≠m:=by omega
  rw[if_neg h]; simp[hne]
abbrev fR (l:List Bool):List (List PV):=l.map fun b=>[PV.bool b]
theorem kL (l:List Bool) (i:Nat) (b:Bool):(fR l).set i [.bool b]=fR (l.set i b):=by unfold fR; rw[List.map_set]
structure awX (C:Ctx):Prop extends qH C where
 num:∀ p:cZ,p.Ok→aE C 106 [.int .i64 p.k,.int .i64 p.m,.int .i64 p.bIT,.agg [.int .i64 p.s0,.int .i64 p.s1,.int .i64 p.s2,.int .i64 p.s3,.int .i64 p.s4]] .nil (aD (.bool (HO p)))
 rate:∀ p:cZ,p.Ok→aE C 108 [.int .i64 p.m,frs p.repair,.agg p.target.cells,.agg p.bIB.cells] .nil (aD (.bool (yX p)))
 uniq:∀ l:List (List UInt8),Fits l→aE C 110 [texts l] .nil (aD (.bool (distinct l)))
def bhI (p:cZ) (bHQ:Nat) (o k:Nat):PF:=(((((PF.nil.set 1 (.int .i64 bHQ)).set 5 (.osl o 1 0 bHQ)).set 39 (ints p.bHQ)).set 40 (.int .i64 (p.bHQ.length:Nat))).set 41 (.int .i64 k))
theorem bmL {C:Ctx} (L:awX C) (p:cZ) (hp:p.Ok) (bHQ:Nat) (hm:bHQ≤4):ND.wp C (aT aBN.res (bY (.bool (jB bHQ p)))) (PF.args [.agg p.cells,.int .i64 bHQ]) .nil:=by
 simp only[go_sem,δ,γ,θ,ND,aRJ,aRK,aBN]
 refine aA (L.num p hp) rfl ?_
 unfold jB
 cases h1:HO p with
 | false =>
  simp only[go_sem,γ,bKI,SJ]
  exact bA rfl (by simp only[bJZ])
 | true =>
  by_cases h2:p.bHQ.length=0
  ·simp only[go_sem,δ,γ,θ,reduceCtorEq,bKC,bJT,bO (Om:((p.bHQ.length:Nat):Int)=0),SJ]
   refine bA rfl ?_
   have:decide (p.bHQ.length≠0)=false:=by simp[h2]
   rw[this]; simp only[bJZ,bLC]
  ·have h2':decide (p.bHQ.length≠0)=true:=by simp[h2]
   simp only[go_sem,δ,γ,θ,reduceCtorEq,bKC,bJT,bB (Om:((p.bHQ.length:Nat):Int)≠0)]
   refine aA (L.rate p hp) rfl ?_
   rw[h2']
   cases h3:yX p with
   | false =>
    simp only[go_sem,γ,reduceCtorEq,bKI,SJ]
    exact bA rfl (by simp only[bJZ,bLC])
   | true =>
    have hb1:((bHQ:Nat):Int)*((1:Nat):Int)≤140737488355328:=by omega
    have hb2:((bHQ:Nat):Int)≤9223372036854775807:=by omega
    simp only[bKE]
    simp only[go_sem,γ,reduceCtorEq,bKC,aRL,hb1,hb2]
    refine aR fun o ho=>?_
    simp only[go_sem,δ,γ,θ,aRM]
    have e0:bJW bHQ [PV.bool false]=fR (marks bHQ (p.bHQ.take 0)):=by
     rw[List.take_zero,a7U]; simp[fR]
    rw[e0]
    generalize hq:(fun j=>within (p.bHQ.getD j 0) 0 ((bHQ:Int)-1)&&!(p.bHQ.take j).contains (p.bHQ.getD j 0))=q
    have hqk:∀ k (h:k<p.bHQ.length),q k=(within p.bHQ[k] 0 ((bHQ:Int)-1)&&!(p.bHQ.take k).contains p.bHQ[k]):=by
     intro k h
     rw[← hq]
     simp only[bKO,bKD h,bMJ]
    refine wp_loop (α:=Nat) (fun k=>bhI p bHQ o k) (fun k=>PH.nil.set o (.rows 1 (fR (marks bHQ (p.bHQ.take k))))) (fun k=>k≤p.bHQ.length∧mI q k) (fun k=>p.bHQ.length-k) 0 ⟨bKF _,.zero⟩ ?_ (PH.le_refl) ?_
    ·unfold bhI
     (repeat' (first|exact PF.nil_le|refine PF.aI ?_ ?_))<;>first|(simp only[go_sem,γ,bJT]<;>rfl)|rfl
    rintro k ⟨hk,ha⟩
    simp only[go_sem,γ,aBO,aRN,bhI]
    have bJE:=hp.bHQ
    by_cases hlt:k<p.bHQ.length
    ·have bHW:(k:Int)<(p.bHQ.length:Nat):=by omega
     have hr:(p.bHQ.map fun n=>[PV.int .i64 n])[k]?=some [.int .i64 p.bHQ[k]]:=by simp[hlt]
     have hw:IntKind.i64.wrap ((bHQ:Int)-1)=(bHQ:Int)-1:=wrap_i64 Om Om
     simp only[go_sem,γ,bHW,aRO,hr,aRP,hw]
     refine aA (L.inn p.bHQ[k] 0 ((bHQ:Int)-1)) rfl ?_
     have hk2:=hqk k hlt
     cases h1:within p.bHQ[k] 0 ((bHQ:Int)-1) with
     | false =>
      rw[h1,bJZ] at hk2
      simp only[go_sem,γ,bKI,alL]
      exact bA (b:=false) rfl (dP hlt hk2).symm
     | true =>
      rw[h1,bKE] at hk2
      obtain⟨i1,i2⟩:=within_iff.1 h1
      have i3:p.bHQ[k]<(bHQ:Nat):=by omega
      have hmk:(fR (marks bHQ (p.bHQ.take k)))[p.bHQ[k].toNat]?=some [.bool ((p.bHQ.take k).contains p.bHQ[k])]:=by
       unfold fR
       rw[bKZ,bgM i1 i3]; rfl
      cases h2:(p.bHQ.take k).contains p.bHQ[k] with
      | true =>
       rw[h2] at hk2 hmk
       simp only[go_sem,γ,reduceCtorEq,bKC,i1,i3,bKN,hmk,alL]
       exact bA (b:=false) rfl (dP hlt hk2).symm
      | false =>
       rw[h2] at hk2 hmk
       simp only[go_sem,γ,reduceCtorEq,bKC,i1,i3,bKN,hmk,aRQ,kL,a7V i1 i3,aBP,wZz k]
       refine aH (k+1) ⟨hlt,ha.step hk2⟩ Om ?_ ?_
       ·exact Lq
       ·rw[bLK hlt]
        exact PH.aI PH.nil_le Sq
    ·have bHW:¬ (k:Int)<(p.bHQ.length:Nat):=by omega
     simp only[go_sem,bHW,aBQ]
     have:k=p.bHQ.length:=by omega
     subst this
     exact bA (b:=true) rfl (show mI q p.bHQ.length from ha).symm
def beJ:PV→RF
 | .agg [.bool n,a,b]=>⟨n,gW a,gW b⟩
 | _=>⟨false,[],[]⟩
theorem aZT (x:RF):beJ (.agg x.cells)=x:=by
 show (⟨x.neg,gW (aF x.num),gW (aF x.den)⟩:RF)=x
 rw[dX,dX]
def flS:Spec:=fun name vs=>match name,vs with
 | 104,[.int _ n,.int _ lo,.int _ hi]=>some ([],fun _=>aD (.bool (within n lo hi)))
 | 105,[x]=>some ([],fun _=>aD (.bool (cG (beJ x))))
 | 97,[x]=>some ([],fun _=>aD (.bool (bZ (beJ x))))
 | _,_=>none
theorem azK (n lo hi:Int):flS 104 [.int .i64 n,.int .i64 lo,.int .i64 hi]=some ([],fun _=>aD (.bool (within n lo hi))):=rfl
theorem blW (x:RF):flS 105 [.agg x.cells]=some ([],fun _=>aD (.bool (cG x))):=by
 show some _=_; rw[aZT]
def a0O (f:aK) (t:List bQ) (k:Nat):PF:=((((PF.nil.set 1 (.bH f.cells)).set 45 (.sl 7 (t.map bQ.cells))).set 46 (.int .i64 (t.length:Nat))).set 47 (.int .i64 k))
theorem bmB {C:Ctx} (L:qH C) (f:aK) (hf:f.Ok):yM.wp C (aT alH.res (bY (.bool (mJ f)))) (PF.args [.agg f.cells]) .nil:=by
 obtain⟨bJD,bHY,bHQ,bHS,bHP,bHT,bHR⟩:=f
 cases bHS with
 | nil =>
  rw[show mJ ⟨bJD,bHY,bHQ,[],bHP,bHT,bHR⟩=false from rfl]
  simp only[go_sem,δ,γ,θ,yM,alI,alJ,alH,List.map_nil,bMD]
  have:(((0:Nat):Int)==0)=true:=rfl
  simp only[go_sem,this,aQN]
  exact bA rfl rfl
 | cons r t =>
  generalize hF:(⟨bJD,bHY,bHQ,r::t,bHP,bHT,bHR⟩:aK)=f at *
  have hd:f.bHS=r::t:=by rw[← hF]
  have hP:mJ f=yF f r t:=by unfold mJ; rw[hd]
  rw[hP]
  unfold yF
  have hlen:f.bHS.length=t.length+1:=by rw[hd]; rfl
  have bJE:=hf.bHS
  have hr0:(f.bHS.map bQ.cells)[0]?=some r.cells:=by rw[hd]; rfl
  have hr0':(f.bHS.map bQ.cells)[Int.toNat 0]?=some r.cells:=hr0
  have hok:=hf.dom
  have hrok:=hok r (by rw[hd]; exact List.mem_cons_self ..)
  simp only[go_sem,ο,ν,δ,γ,θ,yM,alI,alJ,alH,bJT,hlen,bB (Om:((t.length+1:Nat):Int)≠0),aQO,hr0]
  refine aR fun o ho=>?_
  by_cases c1:r.name=[]
  ·rw[decide_eq_true c1]
   by_cases c2:r.level=0
   ·rw[decide_eq_true c2]
    by_cases c3:r.parent=-1
    ·rw[decide_eq_true c3]
     by_cases c4:r.bIP=0
     ·rw[decide_eq_true c4]
      simp only[go_sem,ο,δ,γ,θ,reduceCtorEq,vQ,nG c1,bKC,cH c2,cH c3,cH c4]
      refine aA (L.lim r.bIH hrok.1) rfl ?_
      cases c5:cG r.bIH with
      | false =>
       simp only[go_sem,γ,reduceCtorEq,bKI,rQ]
       exact bA rfl (by simp only[bLC,bJZ])
      | true =>
       simp only[go_sem,δ,γ,reduceCtorEq,bKC]
       refine aA (L.uF r.bIH hrok.1) rfl ?_
       cases c6:bZ r.bIH with
       | true =>
        simp only[go_sem,γ,reduceCtorEq,rQ]
        exact bA rfl (by simp only[bKC,bLC,bJZ])
       | false =>
        have hsl:(0:Int)≤1∧(1:Int)≤((t.length+1:Nat):Int):=by omega
        have hdrop:((f.bHS.map bQ.cells).take (t.length+1)).drop (Int.toNat 1)=t.map bQ.cells:=by
         rw[bKK (by simp[hlen]),hd]; rfl
        have hdrop':((f.bHS.map bQ.cells).take (t.length+1)).drop 1=t.map bQ.cells:=hdrop
        simp only[go_sem,ν,δ,γ,θ,reduceCtorEq,aQP,bJT,hlen,hsl,hdrop',bMX]
        generalize hq:(fun i=>match t[i]? with | some d=>FS f i d | none=>false)=q
        have hqk:∀ k (h:k<t.length),q k=FS f k t[k]:=by
         intro k h
         rw[← hq]
         simp only[bKD h]
        refine wp_loop (α:=Nat) (fun k=>a0O f t k) (fun k=>.nil) (fun k=>k≤t.length∧mI q k) (fun k=>t.length-k) 0 ⟨bKF _,.zero⟩ ?_ PH.nil_le ?_
        ·unfold a0O
         (repeat' (first|exact PF.nil_le|refine PF.aI ?_ ?_))<;>first|(simp only[go_sem,γ,bJT]<;>rfl)|rfl
        rintro k ⟨hk,ha⟩
        simp only[go_sem,γ,aAX,aQQ,a0O]
        by_cases hlt:k<t.length
        ·have bHW:(k:Int)<(t.length:Nat):=by omega
         have hrk:(t.map bQ.cells)[k]?=some (t[k]).cells:=by simp[hlt]
         have hdk:=hok t[k] (by rw[hd]; exact List.mem_cons_of_mem _ (bJX hlt))
         have hk2:=hqk k hlt
         unfold FS at hk2
         simp only[go_sem,δ,γ,bHW,aQR,hrk]
         refine aR fun o2 ho2=>?_
         simp only[go_sem,δ,γ]
         refine bR .nil flS PH.nil_le ?_
         simp only[go_sem,δ,γ,θ,reduceCtorEq,aQS]
         refine bJ (azK _ 0 k) (L.inn (t[k]).parent 0 k) rfl PH.nil_le ?_
         cases e1:within (t[k]).parent 0 k with
         | false =>
          simp only[e1,bJZ] at hk2
          simp only[go_sem,γ,bKI,rP]
          exact bA (b:=false) rfl (dP hlt hk2).symm
         | true =>
          obtain⟨i1,i2⟩:=within_iff.1 e1
          have i3:(t[k]).parent.toNat<f.bHS.length:=by omega
          have hpr:(f.bHS.map bQ.cells)[(t[k]).parent.toNat]?=some (f.bHS[(t[k]).parent.toNat]).cells:=by simp[i3]
          have hlv:(f.bHS.map bQ.level).getD (t[k]).parent.toNat 0=(f.bHS[(t[k]).parent.toNat]).level:=by simp[i3]
          rw[hlv,e1,bKE] at hk2
          by_cases e2:(f.bHS[(t[k]).parent.toNat]).level=IntKind.i64.wrap ((t[k]).level-1)
          ·rw[decide_eq_true e2,bKE] at hk2
           simp only[go_sem,δ,γ,θ,reduceCtorEq,bKC,i1,hpr,cH e2]
           refine bJ (azK _ 1 4) (L.inn (t[k]).level 1 4) rfl PH.nil_le ?_
           cases e3:within (t[k]).level 1 4 with
           | false =>
            simp only[e3,bJZ] at hk2
            simp only[go_sem,γ,reduceCtorEq,bKI,rP]
            exact bA (b:=false) rfl (dP hlt hk2).symm
           | true =>
            rw[e3,bKE] at hk2
            simp only[go_sem,δ,γ,θ,reduceCtorEq,bKC]
            refine bJ (azK _ 1 64) (L.inn (t[k]).bIP 1 64) rfl PH.nil_le ?_
            cases e4:within (t[k]).bIP 1 64 with
            | false =>
             simp only[e4,bJZ] at hk2
             simp only[go_sem,γ,reduceCtorEq,bKI,rP]
             exact bA (b:=false) rfl (dP hlt hk2).symm
            | true =>
             rw[e4,bKE] at hk2
             simp only[go_sem,δ,γ,reduceCtorEq,bKC]
             refine bJ (blW (t[k]).bIH) (L.lim _ hdk.1) rfl PH.nil_le ?_
             cases e5:cG (t[k]).bIH with
             | false =>
              rw[e5] at hk2
              simp only[go_sem,γ,reduceCtorEq,bKI,rP]
              exact bA (b:=false) rfl (dP hlt hk2).symm
             | true =>
              rw[e5] at hk2
              simp only[go_sem,γ,reduceCtorEq,bKC,aAY,wZz k]
              refine aH (k+1) ⟨hlt,ha.step hk2⟩ Om ?_ PH.nil_le
              exact Lq
          ·simp only[decide_eq_false e2,bJZ] at hk2
           simp only[go_sem,δ,γ,θ,reduceCtorEq,bKC,i1,hpr,cT e2,rP]
           exact bA (b:=false) rfl (dP hlt hk2).symm
        ·have bHW:¬ (k:Int)<(t.length:Nat):=by omega
         simp only[go_sem,bHW,aAZ]
         have:k=t.length:=by omega
         subst this
         exact bA (b:=true) rfl (show mI q t.length from ha).symm
     ·simp only[go_sem,ο,δ,γ,θ,reduceCtorEq,vQ,nG c1,bKC,cH c2,cH c3,cT c4,rQ]
      exact bA rfl (by rw[decide_eq_false c4]; simp only[bLC,bJZ])
    ·simp only[go_sem,ο,δ,γ,θ,reduceCtorEq,vQ,nG c1,bKC,cH c2,cT c3,rQ]
     exact bA rfl (by rw[decide_eq_false c3]; simp only[bLC,bJZ])
   ·simp only[go_sem,ο,δ,γ,θ,reduceCtorEq,vQ,nG c1,bKC,cT c2,rQ]
    exact bA rfl (by rw[decide_eq_false c2]; simp only[bLC,bJZ])
  ·simp only[go_sem,ο,δ,γ,θ,vQ,aaI c1,bKI,rQ]
   exact bA rfl (by rw[decide_eq_false c1]; simp only[bLC,bJZ])
theorem rA (R:List Bool) (i:Nat) (row:List RF):∀ k,(cO R i row k).length=R.length
 | 0=>rfl
 | k+1=>by simp only[cO,bLQ,rA R i row k]
theorem aHK (l:cJ) (R:List Bool) (i:Nat):(xJ l R i).length=R.length:=by
 unfold xJ; rw[rA,bLQ]
theorem nU (l:cJ) (R:List Bool):∀ i,(cX l R i).length=R.length
 | 0=>rfl
 | i+1=>by simp only[cX,aHK,nU l R i]
theorem nT (l:cJ):∀ r,(dE l r).length=l.exit.length
 | 0=>by simp[dE]
 | r+1=>by simp only[dE,nU,nT l r]
theorem pA {R:List Bool} {i:Nat} (h:i<R.length):(fR R)[i]?=some [.bool (R.getD i false)]:=by
 unfold fR
 rw[bKZ,bKD h,bKO,bKD h]; rfl
theorem a5Z (R:List Bool):(fR R).length=R.length:=by simp[fR]
def RZ (l:cJ) (o r:Nat):PF:=(((PF.nil.set 1 (.bH l.cells)).set 3 (.osl o 1 0 l.exit.length)).set 4 (.int .i64 r))
def FU (l:cJ) (o r i:Nat):PF:=(((((PF.nil.set 1 (.bH l.cells)).set 3 (.osl o 1 0 l.exit.length)).set 4 (.int .i64 r)).set 19 (.int .i64 (l.exit.length:Nat))).set 20 (.int .i64 i))
def qN (l:cJ) (o r i:Nat) (row:List RF) (k:Nat):PF:=(((((((((PF.nil.set 1 (.bH l.cells)).set 3 (.osl o 1 0 l.exit.length)).set 4 (.int .i64 r)).set 19 (.int .i64 (l.exit.length:Nat))).set 20 (.int .i64 i)).set 5 (.int .i64 i)).set 42 (frs row)).set 43 (.int .i64 (row.length:Nat))).set 44 (.int .i64 k))
def gE (o:Nat) (R:List Bool):PH:=PH.nil.set o (.rows 1 (fR R))
theorem aNM {C:Ctx} (L:qH C) (l:cJ) (o r i:Nat) (row:List RF) (bIC:jG row) (hrl:row.length=l.exit.length) (hi:i<l.exit.length) (hn:l.exit.length≤4) (R1:List Bool) (hR:R1.length=l.exit.length) (K:cN) (F:PF) (H:PH)
  (hF:(qN l o r i row 0).le F) (hH:(gE o R1).le H)
  (hK:∀ F H,(qN l o r i row row.length).le F→(gE o (cO R1 i row row.length)).le H→K .normal F H) :
  aC.wp C (.block 4 (.loop yN)) K F H:=by
 simp only[go_sem]
 refine wp_loop (α:=Nat) (fun k=>qN l o r i row k) (fun k=>gE o (cO R1 i row k)) (fun k=>k≤row.length) (fun k=>row.length-k) 0 (bKF _) hF hH ?_
 intro k hk
 simp only[go_sem,γ,yN,aBG,qN,gE]
 have hlen:=rA R1 i row k
 by_cases hlt:k<row.length
 ·have bHW:(k:Int)<(row.length:Nat):=by omega
  have hr:(row.map RF.cells)[k]?=some (row[k]).cells:=by simp[hlt]
  simp only[go_sem,δ,γ,bHW,apH,hr]
  refine aR fun o7 ho7=>?_
  have n7:o≠o7:=by rintro rfl; simp only[bS,if_true] at ho7; cases ho7
  have hi':(i:Int)<(l.exit.length:Nat):=by omega
  have hk':(k:Int)<(l.exit.length:Nat):=by omega
  have hat:=pA (R:=cO R1 i row k) (i:=i) Om
  have hatk:=pA (R:=cO R1 i row k) (i:=k) Om
  have bHX:cO R1 i row (k+1)=(cO R1 i row k).set i ((cO R1 i row k).getD i false||bZ row[k]&&(cO R1 i row k).getD k false):=by
   simp only[cO,bKO,bKZ,bKD hlt,bLF,bMJ]
  have fin:∀ (b:Bool) (F:PF) (H:PH),b=((cO R1 i row k).getD i false||bZ row[k]&&(cO R1 i row k).getD k false)→(qN l o r i row (k+1)).le F→H o=some (.rows 1 ((fR (cO R1 i row k)).set i [.bool b])) →
    eE (fun k=>qN l o r i row k) (fun k=>gE o (cO R1 i row k)) (fun k=>k≤row.length) (fun k=>row.length-k) (row.length-k) (dW 4 K) .normal F H:=by
   intro b F H hb hF hH
   refine aH (k+1) hlt Om hF ?_
   rw[kL,hb,← bHX] at hH
   exact PH.aI PH.nil_le hH
  unfold qN gE at fin
  generalize hb:(cO R1 i row k).getD i false=b at *
  generalize hc:(cO R1 i row k).getD k false=c at *
  generalize hA:bZ row[k]=A at *
  cases b with
  | true =>
   simp only[go_sem,δ,γ,MX,n7,hi',bKN,hat,yP,wZz k]
   exact fin true _ _ (by simp) Lq Sq
  | false =>
   simp only[go_sem,δ,γ,MX,n7,hi',bKN,hat]
   refine aA (L.uF _ (bIC.all _ (bJX hlt))) rfl ?_
   rw[hA]
   cases A with
   | false =>
    simp only[go_sem,γ,reduceCtorEq,hi',hk',n7,bKN,hat,hatk,yP,wZz k]
    exact fin false _ _ (by simp) Lq Sq
   | true =>
    simp only[go_sem,γ,reduceCtorEq,hi',hk',n7,bKN,hat,hatk,yP,wZz k]
    exact fin c _ _ (by simp) Lq Sq
 ·have bHW:¬ (k:Int)<(row.length:Nat):=by omega
  simp only[go_sem,bHW]
  have:k=row.length:=by omega
  subst this
  exact hK _ _ (by unfold qN; exact Lq) (PH.le_refl)
structure yC (l:cJ):Prop where
 n:l.exit.length≤4
 bHU:l.bHU.length=l.exit.length
 row:∀ r∈l.bHU,r.length=l.exit.length
theorem aNN {C:Ctx} (L:qH C) (l:cJ) (hl:l.Ok) (he:yC l) (o r:Nat) (R:List Bool) (hR:R.length=l.exit.length) (K:cN) (F:PF) (H:PH)
  (hF:(FU l o r 0).le F) (hH:(gE o R).le H)
  (hK:∀ F H,(RZ l o r).le F→(gE o (cX l R l.exit.length)).le H→K .normal F H) :
  aC.wp C (.block 2 (.loop yO)) K F H:=by
 simp only[go_sem]
 refine wp_loop (α:=Nat) (fun i=>FU l o r i) (fun i=>gE o (cX l R i)) (fun i=>i≤l.exit.length) (fun i=>l.exit.length-i) 0 (bKF _) hF hH ?_
 intro i hi
 have hlen:=nU l R i
 have hn:=he.n
 by_cases hlt:i<l.exit.length
 ·have bHW:(i:Int)<(l.exit.length:Nat):=by omega
  have hir:i<l.bHU.length:=by rw[he.bHU]; exact hlt
  have hat:=pA (R:=cX l R i) (i:=i) Om
  have hx:(l.exit.map RF.cells)[i]?=some (l.exit[i]).cells:=by simp[hlt]
  have bIC:(l.bHU.map fun r=>[frs r])[i]?=some [frs l.bHU[i]]:=by simp[hir]
  have hrl:(l.bHU[i]).length=l.exit.length:=he.row _ (bJX hir)
  generalize hR1:(cX l R i).set i ((cX l R i).getD i false||bZ l.exit[i])=R1
  have hR1l:R1.length=l.exit.length:=by rw[← hR1,bLQ]; omega
  have bHX:cX l R (i+1)=cO R1 i l.bHU[i] (l.bHU[i]).length:=by
   simp only[cX,xJ]
   have e1:(l.exit.map bZ).getD i false=bZ l.exit[i]:=by simp[bKO,hlt]
   have e2:l.bHU.getD i []=l.bHU[i]:=by simp[bKO,hir]
   rw[e1,e2,hR1]
  have rest:∀ (F:PF) (H:PH),(((((((PF.nil.set 1 (.bH l.cells)).set 3 (.osl o 1 0 l.exit.length)).set 4 (.int .i64 r)).set 19 (.int .i64 (l.exit.length:Nat))).set 20 (.int .i64 i)).set 5 (.int .i64 i)):PF).le F→H o=some (.rows 1 (fR R1)) →
    aC.wp C (.seq (.region XE) (.block 4 (.loop yN))) (dW 3 (iD C (aC.wp C (.region MY)) (eE (fun i=>FU l o r i) (fun i=>gE o (cX l R i)) (fun i=>i≤l.exit.length) (fun i=>l.exit.length-i) (l.exit.length-i) (dW 2 K)))) F H:=by
   intro F H hF hH
   have f1:F 1=some (.bH l.cells):=hF 1 _ rfl
   have f3:F 3=some (.osl o 1 0 l.exit.length):=hF 3 _ rfl
   have f4:F 4=some (.int .i64 r):=hF 4 _ rfl
   have f19:F 19=some (.int .i64 (l.exit.length:Nat)):=hF 19 _ rfl
   have f20:F 20=some (.int .i64 i):=hF 20 _ rfl
   have f5:F 5=some (.int .i64 i):=hF 5 _ rfl
   rw[aYD]
   simp only[go_sem,δ,γ,θ,XE,f1,f5,bIC,bJT]
   have inner:=aNM L l o r i l.bHU[i] (hl.row _ (bJX hir)) hrl hlt hn R1 hR1l
   simp only[aC.wp,go_sem] at inner
   refine inner _ _ _ ?_ (PH.aI PH.nil_le hH) ?_
   ·unfold qN
    exact Lq
   ·intro F' H' hF' hH'
    have g20:F' 20=some (.int .i64 i):=hF' 20 _ (by unfold qN; simp only[go_sem,γ])
    simp only[go_sem,MY,g20,wZz i]
    refine aH (i+1) hlt Om ?_ (by rw[bHX]; exact hH')
    have g:=fun (q:Nat) v h=>hF' q v h
    unfold FU
    unfold qN at g
    refine PF.aI (PF.aI (PF.aI (PF.aI (PF.aI PF.nil_le ?_) ?_) ?_) ?_) ?_
    ·simp only[go_sem,γ]; exact g 1 _ rfl
    ·simp only[go_sem,γ]; exact g 3 _ rfl
    ·simp only[go_sem,γ]; exact g 4 _ rfl
    ·simp only[go_sem,γ]; exact g 19 _ rfl
    ·simp only[go_sem,γ]
  simp only[aC.wp,go_sem] at rest
  simp only[go_sem,γ,yO,XC,FU,gE,bHW,aBF]
  generalize hb:(cX l R i).getD i false=b at *
  cases b with
  | true =>
   simp only[go_sem,γ,XD,bHW,bKN,hat]
   refine rest _ _ Lq ?_
   rw[← hR1]
   simp only[go_sem,kL,Bool.true_or]
  | false =>
   simp only[go_sem,δ,γ,XD,bHW,bKN,hat,hx]
   refine aA (L.uF _ (hl.exit.all _ (bJX hlt))) rfl ?_
   simp only[go_sem,γ,reduceCtorEq,bHW,bKN,hat]
   refine rest _ _ Lq ?_
   rw[← hR1]
   simp only[go_sem,kL,Bool.false_or]
 ·have bHW:¬ (i:Int)<(l.exit.length:Nat):=by omega
  simp only[go_sem,γ,yO,XC,FU,gE,bHW]
  have:i=l.exit.length:=by omega
  subst this
  exact hK _ _ (by unfold RZ; exact Lq) PH.le_refl
theorem bfN {C:Ctx} (L:qH C) (l:cJ) (hl:l.Ok) (he:yC l):GH.wp C (aT acY.res (bY (.bool (uO l)))) (PF.args [.agg l.cells]) .nil:=by
 have hn:=he.n
 have hb1:((l.exit.length:Nat):Int)*((1:Nat):Int)≤140737488355328:=by omega
 have hb2:((l.exit.length:Nat):Int)≤9223372036854775807:=by omega
 simp only[go_sem,γ,GH,aBA,aBB,acY,bJT,hb1,hb2]
 refine aR fun o ho=>?_
 simp only[go_sem,γ,aBC]
 refine wp_loop (α:=Nat) (fun r=>RZ l o r) (fun r=>gE o (dE l r)) (fun r=>r≤l.exit.length+1) (fun r=>l.exit.length+1-r) 0 (bKF _) ?_ ?_ ?_
 ·unfold RZ
  exact Lq
 ·refine PH.aI PH.nil_le ?_
  simp only[go_sem,dE]
  simp[fR]
 intro r hr
 have hlen:=nT l r
 simp only[go_sem,γ,apG,aBD,RZ,gE]
 by_cases hlt:r≤l.exit.length
 ·have bHW:(r:Int)≤(l.exit.length:Nat):=by omega
  simp only[go_sem,γ,bHW,aBE]
  have inner:=aNN L l hl he o r (dE l r) hlen
  simp only[aC.wp,go_sem] at inner
  refine inner _ _ _ ?_ PH.le_refl ?_
  ·unfold FU
   exact Lq
  ·intro F' H' hF' hH'
   have g:=fun (q:Nat) v h=>hF' q v h
   unfold RZ at g
   have g4:F' 4=some (.int .i64 r):=g 4 _ rfl
   simp only[go_sem,γ,apI,g4,wZz r]
   refine aH (r+1) Om Om ?_ hH'
   refine PF.aI (PF.aI (PF.aI PF.nil_le ?_) ?_) ?_
   ·simp only[go_sem,γ]; exact g 1 _ rfl
   ·simp only[go_sem,γ]; exact g 3 _ rfl
   ·simp only[go_sem,γ]
 ·have bHW:¬ (r:Int)≤(l.exit.length:Nat):=by omega
  have:r=l.exit.length+1:=by omega
  subst this
  simp only[go_sem,γ,bHW,apJ]
  have bIW:=L.allb id 103 (dE l (l.exit.length+1)) (Om:(dE l (l.exit.length+1)).length≤_) fun x _=>L.ends1 x
  have hbl:(fR (dE l (l.exit.length+1))).length=l.exit.length:=by rw[a5Z,hlen]
  refine oU bIW (rs:=fR (dE l (l.exit.length+1))) (o:=o) (s:=1) Sq ?_ ?_
  ·simp only[go_sem,γ,nJ (show l.exit.length≤(fR (dE l (l.exit.length+1))).length by omega),bKK (show (fR (dE l (l.exit.length+1))).length≤l.exit.length by omega)]
  ·simp only[go_sem,γ]
   exact bA rfl rfl
structure ZV (C:Ctx):Prop extends awX C where
 ends:∀ l:cJ,l.Ok→yC l→aE C 102 [.agg l.cells] .nil (aD (.bool (uO l)))
def pF (l:cJ) (i:Nat):Bool:=decide ((l.bHU.getD i []).length=l.start.length)&&(l.bHU.getD i []).all cG&&!((l.bHU.getD i []).map bZ).getD i false
def sF (l:cJ):Bool:=match nD (l.start.map RF.v) with
 | .ok (n,a,b)=>decide (pE n a b false 1 1=0)
 | .error _=>false
theorem aSA (l:cJ):jZ l=(within l.start.length 1 4&&decide (l.exit.length=l.start.length)&&decide (l.bHU.length=l.start.length)&&l.start.all cG&&l.exit.all cG&&(bJU l.bHU.length).all (pF l)&&sF l&&uO l):=rfl
theorem aIS {l:List FV} {e:Int} (h:nD l=.error e):e≠0:=by
 have:∀ (l:List FV) (b:FV) (e:Int),l.foldlM gU b=.error e→e≠0:=by
  intro l
  induction l with
  | nil=>intro b e h; cases h
  | cons x t ih =>
   intro b e h
   rw[List.foldlM_cons] at h
   cases hx:gU b x with
   | error e' =>
    rw[hx] at h
    have:e'=e:=by injection h
    subst this
    obtain⟨n1,a1,b1⟩:=b
    obtain⟨n2,a2,b2⟩:=x
    simp only[gU] at hx
    split at hx
    ·split at hx
     ·rw[HC hx]; decide
     ·split at hx
      ·rw[HC hx]; decide
      ·rw[HC hx]; decide
    ·injection hx with hx; subst hx; decide
   | ok y=>rw[hx] at h; exact ih y e h
 exact this l _ e h
theorem aVM {l:List FV} {r:FV} (h:nD l=.ok r):r.rf.Ok:=by
 have:∀ (l:List FV) (b r:FV),b.rf.Ok→l.foldlM gU b=.ok r→r.rf.Ok:=by
  intro l
  induction l with
  | nil=>intro b r hb h; injection h with h; subst h; exact hb
  | cons x t ih =>
   intro b r hb h
   rw[List.foldlM_cons] at h
   cases hx:gU b x with
   | error e'=>rw[hx] at h; cases h
   | ok y=>rw[hx] at h; exact ih y r (akU hx) h
 refine this l _ r ⟨aU _,aU _,?_,?_⟩ h
 ·show (aG 0).length≤_
  rw[eW]; simp
 ·show (aG 1).length≤_
  rw[mB (by decide) (by decide)]; simp
theorem HD {neg:Bool} {a b:Nat} {r:FV} (hb:b≠0) (h:gP neg a b=.ok r):cM r.2.1 r.2.2=true:=by
 unfold gP at h
 split at h
 ·cases h
 ·rename_i hc
  injection h with h
  subst h
  have hg:bJY a b ∣ b:=Nat.gcd_dvd_right _ _
  have h0:b/bJY a b≠0:=by
   have:=Nat.div_pos (Nat.le_of_dvd (bMB hb) hg) (bMB fun h=>hb (Nat.gcd_eq_zero_iff.1 h).2)
   omega
  have h1:=@jE (b/bJY a b)
  simp only[cM,bKR,decide_eq_true_eq]
  omega
theorem aZC {x y r:FV} (h:gU x y=.ok r):cM r.2.1 r.2.2=true:=by
 obtain⟨n1,a1,b1⟩:=x
 obtain⟨n2,a2,b2⟩:=y
 simp only[gU] at h
 split at h
 ·rename_i hv
  rw[bKR] at hv
  have h0:b1*b2≠0:=Nat.mul_ne_zero (eX.1 hv.1).1 (eX.1 hv.2).1
  split at h
  ·exact HD h0 h
  ·split at h
   ·exact HD h0 h
   ·exact HD h0 h
 ·cases h
theorem a3O:cM 0 1=true:=by
 have:cC 1=1:=by rw[mV (by decide),iV]
 simp[cM,this,iV]
theorem agB {l:List FV} {r:FV} (h:nD l=.ok r):cM r.2.1 r.2.2=true:=by
 have:∀ (l:List FV) (b r:FV),cM b.2.1 b.2.2=true→l.foldlM gU b=.ok r→cM r.2.1 r.2.2=true:=by
  intro l
  induction l with
  | nil=>intro b r hb h; injection h with h; subst h; exact hb
  | cons x t ih =>
   intro b r hb h
   rw[List.foldlM_cons] at h
   cases hx:gU b x with
   | error e'=>rw[hx] at h; cases h
   | ok y=>rw[hx] at h; exact ih y r (aZC hx) h
 exact this l _ r a3O h
theorem bfB:(⟨false,[],[]⟩:RF).Ok:=⟨fun _ h=>absurd h (bLB),fun _ h=>absurd h (bLB),show 0≤35184372087808 by decide,show 0≤35184372087808 by decide⟩
def bgD (l:cJ) (k:Nat):PF:=(((((PF.nil.set 1 (.bH l.cells)).set 3 (.int .i64 (l.start.length:Nat))).set 45 (a2R l.bHU)).set 46 (.int .i64 (l.bHU.length:Nat))).set 47 (.int .i64 k))
theorem a7F {C:Ctx} (L:ZV C) (l:cJ) (hl:l.Ok) (he:yC l) (F:PF) (hF:F 1=some (.bH l.cells)) :
  aC.wp C (.seq (.region XF) (.seq (.region GI) (.seq (.region GJ) (.seq (.region rR) .ret)))) (aT [.tmp 2] (bY (.bool (sF l&&uO l)))) F .nil:=by
 simp only[go_sem,δ,θ,XF,hF]
 refine aA (L.tot l.start hl.start) rfl ?_
 obtain⟨neg',x,y,e,hs⟩:=rN (nD (l.start.map RF.v))
 have go:∀ (z:RF) (e:Int),z.Ok→(e=0→(yH z.neg (val z.num) (val z.den) false 1 1=.tup [.int .i64 (pE z.neg (val z.num) (val z.den) false 1 1),.int .i64 0])∧sF l=decide (pE z.neg (val z.num) (val z.den) false 1 1=0))→(e≠0→sF l=false) →
   frV (nD (l.start.map RF.v))=.tup [.agg z.cells,.int .i64 e] →
   wpOps C [⟨(some 69),.mv (.tmp 72),none⟩,⟨(some 73),.extract (.tmp 69) 0,none⟩,⟨(some 74),.extract (.tmp 69) 1,none⟩,⟨(some 6),.alloc [(.bool false),.aB,.aB],none⟩,⟨none,.store 3 (.tmp 6) (.tmp 73),none⟩,⟨(some 7),.mv (.tmp 74),none⟩]
    (aC.wp C (.seq (.region GI) (.seq (.region GJ) (.seq (.region rR) .ret))) (aT [.tmp 2] (bY (.bool (sF l&&uO l))))) ((((F.set 70 (.bH [frs l.start,a2R l.bHU,frs l.exit])).set 71 (frs l.start))).set 72 (.tup [.agg z.cells,.int .i64 e])) .nil:=by
  intro z e hz h0 h1 _
  simp only[go_sem,δ,γ]
  refine aR fun o6 ho6=>?_
  simp only[go_sem,δ,γ,GI]
  refine aA (L.frac 1 1 (by decide) (by decide)) rfl ?_
  rw[aDR]
  simp only[go_sem,δ,γ,frV]
  refine aR fun o8 ho8=>?_
  have n8:o6≠o8:=by rintro rfl; simp only[bS,if_true] at ho8; cases ho8
  simp only[go_sem,δ,γ,GJ,n8]
  refine aA (L.ord z (FV.rf (false,1,1)) hz a8V) rfl ?_
  rw[show val (FV.rf (false,1,1)).num=1 from aS 1,show val (FV.rf (false,1,1)).den=1 from aS 1,show (FV.rf (false,1,1)).neg=false from rfl]
  by_cases c:e=0
  ·obtain⟨g1,g2⟩:=h0 c
   rw[g1,g2]
   by_cases d:pE z.neg (val z.num) (val z.den) false 1 1=0
   ·simp only[go_sem,δ,γ,rR,bO c,bO d,hF]
    refine aA (L.ends l hl he) rfl ?_
    simp only[go_sem,γ]
    exact bA rfl (by rw[decide_eq_true d,bKE])
   ·simp only[go_sem,γ,reduceCtorEq,rR,bO c,bB d]
    exact bA rfl (by rw[decide_eq_false d,bJZ])
  ·rw[h1 c]
   have:∃ v w,yH z.neg (val z.num) (val z.den) false 1 1=.tup [.int .i64 v,.int .i64 w]:=by
    unfold yH
    split
    ·exact⟨_,_,rfl⟩
    ·exact⟨_,_,rfl⟩
   obtain⟨v,w,hv⟩:=this
   rw[hv]
   simp only[go_sem,γ,reduceCtorEq,rR,bB c]
   exact bA rfl rfl
 cases hs':nD (l.start.map RF.v) with
 | error e =>
  rw[hs'] at go
  exact go ⟨false,[],[]⟩ e bfB (fun h=>absurd h (aIS hs')) (fun _=>by rw[sF,hs']) rfl
 | ok r =>
  obtain⟨n,a,b⟩:=r
  rw[hs'] at go
  have hr:=aVM hs'
  refine go (FV.rf (n,a,b)) 0 hr (fun _=>?_) (fun h=>absurd rfl h) rfl
  rw[show val (FV.rf (n,a,b)).num=a from aS a,show val (FV.rf (n,a,b)).den=b from aS b,show (FV.rf (n,a,b)).neg=n from rfl]
  refine⟨?_,by rw[sF,hs']⟩
  have hv:cM a b=true:=agB hs'
  rw[yH,hv,atD]
  rfl
theorem bmD {C:Ctx} (L:ZV C) (l:cJ) (hl:l.Ok):MZ.wp C (aT aBH.res (bY (.bool (jZ l)))) (PF.args [.agg l.cells]) .nil:=by
 rw[aSA]
 simp only[go_sem,δ,γ,θ,MZ,aQT,aQU,aBH,aQV,bJT]
 refine aA (L.inn l.start.length 1 4) rfl ?_
 cases c1:within l.start.length 1 4 with
 | false =>
  simp only[go_sem,γ,bKI,vS]
  exact bA rfl (by simp only[bJZ])
 | true =>
  obtain⟨n1,n2⟩:=within_iff.1 c1
  by_cases c2:l.exit.length=l.start.length
  ·rw[decide_eq_true c2]
   by_cases c3:l.bHU.length=l.start.length
   ·rw[decide_eq_true c3]
    simp only[go_sem,δ,γ,θ,reduceCtorEq,bKC,bJT,cH (Om:((l.exit.length:Nat):Int)=(l.start.length:Nat)),cH (Om:((l.bHU.length:Nat):Int)=(l.start.length:Nat))]
    refine aA (L.bgI l.start hl.start) rfl ?_
    cases c4:l.start.all cG with
    | false =>
     simp only[go_sem,γ,reduceCtorEq,bKI,vS]
     exact bA rfl (by simp only[bJZ])
    | true =>
     simp only[go_sem,γ,reduceCtorEq,bKC]
     refine aA (L.bgI l.exit hl.exit) rfl ?_
     cases c5:l.exit.all cG with
     | false =>
      simp only[go_sem,γ,reduceCtorEq,bKI,vS]
      exact bA rfl (by simp only[bJZ])
     | true =>
      simp only[go_sem,δ,γ,θ,reduceCtorEq,bKC,aQW,bJT]
      have hrk:∀ k (h:k<l.bHU.length),pF l k=(decide ((l.bHU[k]).length=l.start.length)&&(l.bHU[k]).all cG&&!((l.bHU[k]).map bZ).getD k false):=by
       intro k h
       have:l.bHU.getD k []=l.bHU[k]:=by simp[bKO,h]
       rw[pF,this]
      refine wp_loop (α:=Nat) (fun k=>bgD l k) (fun _=>.nil) (fun k=>k≤l.bHU.length∧mI (pF l) k) (fun k=>l.bHU.length-k) 0 ⟨bKF _,.zero⟩ ?_ PH.nil_le ?_
      ·unfold bgD
       (repeat' (first|exact PF.nil_le|refine PF.aI ?_ ?_))<;>first|(simp only[go_sem,γ,bJT]<;>rfl)|rfl
      rintro k ⟨hk,ha⟩
      simp only[go_sem,γ,aBI,aQX,bgD]
      by_cases hlt:k<l.bHU.length
      ·have bHW:(k:Int)<(l.bHU.length:Nat):=by omega
       have hr:(l.bHU.map fun r=>[frs r])[k]?=some [frs l.bHU[k]]:=by simp[hlt]
       have hk2:=hrk k hlt
       have hrok:=hl.row l.bHU[k] (bJX hlt)
       simp only[go_sem,γ,bHW,aQY,hr,aQZ,bJT]
       by_cases d1:(l.bHU[k]).length=l.start.length
       ·rw[decide_eq_true d1,bKE] at hk2
        simp only[go_sem,γ,cH (show (((l.bHU[k]).length:Nat):Int)=(l.start.length:Nat) by omega)]
        refine aA (L.bgI _ hrok) rfl ?_
        cases d2:(l.bHU[k]).all cG with
        | false =>
         rw[d2,bJZ] at hk2
         simp only[go_sem,γ,reduceCtorEq,bKI,SH]
         refine bA (b:=false) rfl ?_
         have:(bJU l.bHU.length).all (pF l)=false:=dP hlt hk2
         rw[this]; simp only[bJZ,bLC]
        | true =>
         have hkr:k<(l.bHU[k]).length:=by omega
         have hx:((l.bHU[k]).map RF.cells)[k]?=some ((l.bHU[k])[k]).cells:=by simp[hkr]
         have hab:((l.bHU[k]).map bZ).getD k false=bZ (l.bHU[k])[k]:=by simp[bKO,hkr]
         rw[d2,bKE,hab] at hk2
         simp only[go_sem,δ,γ,reduceCtorEq,bKC,hx]
         refine aA (L.uF _ (hrok.all _ (bJX hkr))) rfl ?_
         cases d3:bZ (l.bHU[k])[k] with
         | true =>
          rw[d3] at hk2
          simp only[go_sem,γ,reduceCtorEq,SH]
          refine bA (b:=false) rfl ?_
          have:(bJU l.bHU.length).all (pF l)=false:=dP hlt hk2
          rw[this]; simp only[bJZ,bLC]
         | false =>
          rw[d3] at hk2
          simp only[go_sem,γ,reduceCtorEq,aRA,wZz k]
          refine aH (k+1) ⟨hlt,ha.step hk2⟩ Om ?_ PH.nil_le
          exact Lq
       ·simp only[decide_eq_false d1,bJZ] at hk2
        simp only[go_sem,γ,cT (show (((l.bHU[k]).length:Nat):Int)≠(l.start.length:Nat) by omega),SH]
        refine bA (b:=false) rfl ?_
        have:(bJU l.bHU.length).all (pF l)=false:=dP hlt hk2
        rw[this]; simp only[bJZ,bLC]
      ·have bHW:¬ (k:Int)<(l.bHU.length:Nat):=by omega
       have:k=l.bHU.length:=by omega
       subst this
       have bJG:(bJU l.bHU.length).all (pF l)=true:=ha
       have he:yC l:=⟨by omega,by omega,fun r hr=>by
        obtain⟨i,hi,rfl⟩:=bMA hr
        have:=bKQ.1 bJG i (bLI.2 hi)
        rw[hrk i hi] at this
        simp only[bKR,decide_eq_true_eq] at this
        omega⟩
       have tail:=a7F L l hl he
       simp only[aC.wp,go_sem] at tail
       rw[bJG]
       simp only[go_sem,bHW,bKE,bLT]
       exact tail _ rfl
   ·simp only[go_sem,δ,γ,θ,reduceCtorEq,bKC,bJT,cH (Om:((l.exit.length:Nat):Int)=(l.start.length:Nat)),cT (Om:((l.bHU.length:Nat):Int)≠(l.start.length:Nat)),vS]
    exact bA rfl (by rw[decide_eq_false c3]; simp only[bJZ,bLC])
  ·simp only[go_sem,γ,reduceCtorEq,bKC,bJT,cT (Om:((l.exit.length:Nat):Int)≠(l.start.length:Nat)),vS]
   exact bA rfl (by rw[decide_eq_false c2]; simp only[bJZ,bLC])
structure jJ (C:Ctx):Prop extends ZV C where
 law:∀ l:cJ,l.Ok→aE C 95 [.agg l.cells] .nil (aD (.bool (jZ l)))
 pol:∀ (p:cZ) (n:Nat),p.Ok→n≤4→aE C 112 [.agg p.cells,.int .i64 n] .nil (aD (.bool (jB n p)))
 bIA:∀ f:aK,f.Ok→aE C 111 [.agg f.cells] .nil (aD (.bool (mJ f)))
abbrev eM (l:List (List UInt8)):List (List PV):=l.map fun s=>[PV.str s]
theorem tN (l:List (List UInt8)) {k:Nat} (h:k<l.length):eM (l.take k)++[[.str l[k]]]=eM (l.take (k+1)):=by
 unfold eM
 rw[bLK h,bLW]; rfl
theorem qC {l:List (List UInt8)} (h:l.length≤1000):roomFor (eM l).length 1 16:=by
 unfold roomFor eM
 simp only[bJT,maxLen]; omega
def gS {α:Type} (l:List α) (p:α→Bool) (k:Nat):Bool:=(l.take k).all p
theorem qK {α:Type} (l:List α) (p:α→Bool):gS l p 0=true:=rfl
theorem qJ {α:Type} (l:List α) (p:α→Bool) {k:Nat} (h:k<l.length):gS l p (k+1)=(gS l p k&&p l[k]):=by
 unfold gS
 rw[bLK h,List.all_append]; simp
theorem sZ {α:Type} (l:List α) (p:α→Bool):gS l p l.length=l.all p:=by unfold gS; rw[bKS]
def gV (f:aK) (w3 w4 w5 w6 w7:PV) (ok:Bool):PF:=(((((((PF.nil.set 1 (.bH f.cells)).set 3 (w3)).set 4 (w4)).set 5 (w5)).set 6 (w6)).set 7 (w7)).set 8 (.bool ok))
structure jL (F:PF) (f:aK) (w3 w4 w5 w6 w7:PV) (ok:Bool):Prop where
 a1:F 1=some (.bH f.cells)
 a3:F 3=some w3
 a4:F 4=some w4
 a5:F 5=some w5
 a6:F 6=some w6
 a7:F 7=some w7
 a8:F 8=some (.bool ok)
theorem a0R {C:Ctx} (L:jJ C) (f:aK) (hf:f.Ok) (hs:f.bHY.length≤4) (w4 w5 w6 w7:PV) (K:cN) (F:PF) (H:PH) (hv:jL F f .aB w4 w5 w6 w7 true)
  (h67:F 67=some (.sl 4 (f.bHY.map cJ.cells))) (h68:F 68=some (.int .i64 (f.bHY.length:Nat))) (h69:F 69=some (.int .i64 0))
  (hK:∀ v F' H',jL F' f v w4 w5 w6 w7 (f.bHY.all jZ)→bL H' 1 v (eM (f.bHY.map cJ.name))→K (.exit 0) F' H') :
  aC.wp C (.loop GN) K F H:=by
 refine wp_loop (α:=Nat × PV × PH) (fun t=>(((gV f t.2.1 w4 w5 w6 w7 (gS f.bHY jZ t.1)).set 67 (.sl 4 (f.bHY.map cJ.cells))).set 68 (.int .i64 (f.bHY.length:Nat))).set 69 (.int .i64 t.1)) (fun t=>t.2.2)
  (fun t=>t.1≤f.bHY.length∧bL t.2.2 1 t.2.1 (eM ((f.bHY.map cJ.name).take t.1))) (fun t=>f.bHY.length-t.1) (0,.aB,.nil) ⟨bKF _,.nil⟩ ?_ PH.nil_le ?_
 ·unfold gV
  (repeat' (first|exact PF.nil_le|refine PF.aI ?_ ?_))<;>first|(simp only[go_sem,hv.a1,hv.a3,hv.a4,hv.a5,hv.a6,hv.a7,hv.a8,h67,h68,h69,qK]<;>rfl)|rfl
 rintro⟨k,v,H0⟩ ⟨hk,hO⟩
 simp only at hk hO ⊢
 simp only[go_sem,γ,GN,aRV,gV]
 by_cases hlt:k<f.bHY.length
 ·have bHW:(k:Int)<(f.bHY.length:Nat):=by omega
  have hr:(f.bHY.map cJ.cells)[k]?=some (f.bHY[k]).cells:=by simp[hlt]
  have hsn:=tN (f.bHY.map cJ.name) (k:=k) (by simpa using hlt)
  rw[bMC] at hsn
  simp only[go_sem,δ,γ,bHW,aRW,hr]
  refine aR fun o ho=>?_
  simp only[go_sem,υ,δ,γ,η,θ,ζ,aRX]
  refine lF hO ho (qC (by simp; omega)) fun v' H' hO' ho'=>?_
  rw[hsn] at hO'
  have bHX:=qJ f.bHY jZ hlt
  cases hb:gS f.bHY jZ k with
  | false =>
   rw[hb,bJZ] at bHX
   simp only[go_sem,γ,reduceCtorEq,alN,ho',XI,wZz k]
   refine aH (k+1,v',H') ⟨hlt,hO'⟩ (by simp only; omega) ?_ PH.le_refl
   simp only[bHX]
   exact Lq
  | true =>
   rw[hb,bKE] at bHX
   simp only[go_sem,δ,γ,alN,ho']
   refine aA (L.law _ (hf.law _ (bJX hlt))) Ev ?_
   simp only[go_sem,γ,XI,wZz k]
   refine aH (k+1,v',H') ⟨hlt,hO'⟩ (by simp only; omega) ?_ PH.le_refl
   simp only[bHX]
   exact Lq
 ·have bHW:¬ (k:Int)<(f.bHY.length:Nat):=by omega
  have:k=f.bHY.length:=by omega
  subst this
  rw[bKK (by simp)] at hO
  rw[sZ]
  simp only[go_sem,bHW]
  exact hK v _ _ ⟨by simp only[go_sem,γ],by simp only[go_sem,γ],by simp only[go_sem,γ],by simp only[go_sem,γ],by simp only[go_sem,γ],by simp only[go_sem,γ],by simp only[go_sem,γ]⟩ hO
theorem zL {n:Nat} (h:n≤1000):IntKind.i64.wrap ((n:Int)-1)=(n:Int)-1:=wrap_i64 Om Om
theorem a0S {C:Ctx} (L:jJ C) (f:aK) (hs:f.bHQ.length≤4) (hl:f.bHY.length≤4) (b0:Bool) (w3 w5 w6 w7:PV) (K:cN) (F:PF) (H:PH) (hv:jL F f w3 .aB w5 w6 w7 b0)
  (h67:F 85=some (.sl 4 (f.bHQ.map cS.cells))) (h68:F 86=some (.int .i64 (f.bHQ.length:Nat))) (h69:F 87=some (.int .i64 0))
  (hK:∀ v F' H',jL F' f w3 v w5 w6 w7 (b0&&f.bHQ.all (jF f))→bL H' 1 v (eM (f.bHQ.map cS.name))→K (.exit 2) F' H') :
  aC.wp C (.loop GO) K F H:=by
 refine wp_loop (α:=Nat × PV × PH) (fun t=>(((gV f w3 t.2.1 w5 w6 w7 (b0&&gS f.bHQ (jF f) t.1)).set 85 (.sl 4 (f.bHQ.map cS.cells))).set 86 (.int .i64 (f.bHQ.length:Nat))).set 87 (.int .i64 t.1)) (fun t=>t.2.2)
  (fun t=>t.1≤f.bHQ.length∧bL t.2.2 1 t.2.1 (eM ((f.bHQ.map cS.name).take t.1))) (fun t=>f.bHQ.length-t.1) (0,.aB,.nil) ⟨bKF _,.nil⟩ ?_ PH.nil_le ?_
 ·unfold gV
  (repeat' (first|exact PF.nil_le|refine PF.aI ?_ ?_))<;>first|(simp only[go_sem,hv.a1,hv.a3,hv.a4,hv.a5,hv.a6,hv.a7,hv.a8,h67,h68,h69,qK,bLT]<;>rfl)|rfl
 rintro⟨k,v,H0⟩ ⟨hk,hO⟩
 simp only at hk hO ⊢
 simp only[go_sem,γ,GO,aCD,gV]
 by_cases hlt:k<f.bHQ.length
 ·have bHW:(k:Int)<(f.bHQ.length:Nat):=by omega
  have hr:(f.bHQ.map cS.cells)[k]?=some (f.bHQ[k]).cells:=by simp[hlt]
  have hsn:=tN (f.bHQ.map cS.name) (k:=k) (by simpa using hlt)
  rw[bMC] at hsn
  simp only[go_sem,δ,γ,bHW,aCE,hr]
  refine aR fun o ho=>?_
  simp only[go_sem,υ,δ,γ,η,θ,ζ,aCF]
  refine lF hO ho (qC (by simp; omega)) fun v' H' hO' ho'=>?_
  rw[hsn] at hO'
  have bHX:=qJ f.bHQ (jF f) hlt
  have fin:∀ (c:Bool) (F':PF),c=(b0&&gS f.bHQ (jF f) (k+1))→((((gV f w3 v' w5 w6 w7 c).set 85 (.sl 4 (f.bHQ.map cS.cells))).set 86 (.int .i64 (f.bHQ.length:Nat))).set 87 (.int .i64 (k+1:Nat))).le F' →
    eE (fun (t:Nat × PV × PH)=>(((gV f w3 t.2.1 w5 w6 w7 (b0&&gS f.bHQ (jF f) t.1)).set 85 (.sl 4 (f.bHQ.map cS.cells))).set 86 (.int .i64 (f.bHQ.length:Nat))).set 87 (.int .i64 t.1)) (fun (t:Nat × PV × PH)=>t.2.2)  (fun (t:Nat × PV × PH)=>t.1≤f.bHQ.length∧bL t.2.2 1 t.2.1 (eM ((f.bHQ.map cS.name).take t.1))) (fun (t:Nat × PV × PH)=>f.bHQ.length-t.1) (f.bHQ.length-k) K .normal F' H':=by
   intro c F' hc hle
   refine aH (α:=Nat × PV × PH) (k+1,v',H') ⟨hlt,hO'⟩ (by simp only; omega) ?_ PH.le_refl
   rw[hc] at hle
   exact hle
  unfold gV at fin
  rw[bHX,← bMS] at fin
  have hm:jF f f.bHQ[k]=(within (f.bHQ[k]).bIJ 1 16&&within (f.bHQ[k]).port 1 64&&within (f.bHQ[k]).law 0 ((f.bHY.length:Int)-1)):=rfl
  cases hb:(b0&&gS f.bHQ (jF f) k) with
  | false =>
   rw[hb,bJZ] at fin
   simp only[go_sem,γ,reduceCtorEq,XK,ho',wW,wZz k]
   refine fin false _ rfl ?_
   exact Lq
  | true =>
   rw[hb,bKE] at fin
   simp only[go_sem,δ,γ,θ,XK,ho']
   refine aA (L.inn _ 1 16) Ev ?_
   cases e1:within (f.bHQ[k]).bIJ 1 16 with
   | false =>
    simp only[go_sem,γ,reduceCtorEq,wW,wZz k]
    refine fin false _ (by rw[hm,e1]; simp only[bJZ]) ?_
    exact Lq
   | true =>
    simp only[go_sem,δ,γ,θ,ho']
    refine aA (L.inn _ 1 64) Ev ?_
    cases e2:within (f.bHQ[k]).port 1 64 with
    | false =>
     simp only[go_sem,γ,reduceCtorEq,wW,wZz k]
     refine fin false _ (by rw[hm,e1,e2]; simp only[bJZ,bLC]) ?_
     exact Lq
    | true =>
     simp only[go_sem,δ,γ,θ,ho',bJT,zL (Om:f.bHY.length≤1000)]
     refine aA (L.inn _ 0 _) Ev ?_
     simp only[go_sem,γ,wW,wZz k]
     refine fin (within (f.bHQ[k]).law 0 ((f.bHY.length:Int)-1)) _ (by rw[hm,e1,e2]; simp only[bKE]) ?_
     exact Lq
 ·have bHW:¬ (k:Int)<(f.bHQ.length:Nat):=by omega
  have:k=f.bHQ.length:=by omega
  subst this
  rw[bKK (by simp)] at hO
  rw[sZ]
  simp only[go_sem,bHW]
  exact hK v _ _ ⟨by simp only[go_sem,γ],by simp only[go_sem,γ],by simp only[go_sem,γ],by simp only[go_sem,γ],by simp only[go_sem,γ],by simp only[go_sem,γ],by simp only[go_sem,γ]⟩ hO
theorem a0T {C:Ctx} (L:jJ C) (f:aK) (t:List bQ) (hs:t.length≤40) (b0:Bool) (w3 w4 w6 w7:PV) (K:cN) (F:PF) (H:PH) (hv:jL F f w3 w4 .aB w6 w7 b0)
  (h67:F 119=some (.sl 7 (t.map bQ.cells))) (h68:F 120=some (.int .i64 (t.length:Nat))) (h69:F 121=some (.int .i64 0))
  (hK:∀ v F' H',jL F' f w3 w4 v w6 w7 b0→bL H' 1 v (eM (t.map bQ.name))→K (.exit 4) F' H') :
  aC.wp C (.loop GP) K F H:=by
 refine wp_loop (α:=Nat × PV × PH) (fun a=>(((gV f w3 w4 a.2.1 w6 w7 b0).set 119 (.sl 7 (t.map bQ.cells))).set 120 (.int .i64 (t.length:Nat))).set 121 (.int .i64 a.1)) (fun a=>a.2.2)
  (fun a=>a.1≤t.length∧bL a.2.2 1 a.2.1 (eM ((t.map bQ.name).take a.1))) (fun a=>t.length-a.1) (0,.aB,.nil) ⟨bKF _,.nil⟩ ?_ PH.nil_le ?_
 ·unfold gV
  (repeat' (first|exact PF.nil_le|refine PF.aI ?_ ?_))<;>first|(simp only[go_sem,hv.a1,hv.a3,hv.a4,hv.a5,hv.a6,hv.a7,hv.a8,h67,h68,h69]<;>rfl)|rfl
 rintro⟨k,v,H0⟩ ⟨hk,hO⟩
 simp only at hk hO ⊢
 simp only[go_sem,γ,GP,aCG,gV]
 by_cases hlt:k<t.length
 ·have bHW:(k:Int)<(t.length:Nat):=by omega
  have hr:(t.map bQ.cells)[k]?=some (t[k]).cells:=by simp[hlt]
  have hsn:=tN (t.map bQ.name) (k:=k) (by simpa using hlt)
  rw[bMC] at hsn
  simp only[go_sem,δ,γ,bHW,aCH,hr]
  refine aR fun o ho=>?_
  simp only[go_sem,υ,δ,γ,η,θ,ζ,aCI]
  refine lF hO ho (qC (by simp; omega)) fun v' H' hO' ho'=>?_
  rw[hsn] at hO'
  simp only[go_sem,γ,aCJ,wZz k]
  refine aH (k+1,v',H') ⟨hlt,hO'⟩ (by simp only; omega) ?_ PH.le_refl
  exact Lq
 ·have bHW:¬ (k:Int)<(t.length:Nat):=by omega
  have:k=t.length:=by omega
  subst this
  rw[bKK (by simp)] at hO
  simp only[go_sem,bHW]
  exact hK v _ _ ⟨by simp only[go_sem,γ],by simp only[go_sem,γ],by simp only[go_sem,γ],by simp only[go_sem,γ],by simp only[go_sem,γ],by simp only[go_sem,γ],by simp only[go_sem,γ]⟩ hO
theorem a0U {C:Ctx} (L:jJ C) (f:aK) (names:List (List UInt8)) (hn:names.length≤40) (hs:f.bHP.length≤24) (hm:f.bHQ.length≤4) (hd:f.bHS.length≤40) (b0:Bool) (w3 w4 v0 w6 w7:PV) (K:cN) (F:PF) (H:PH) (hv:jL F f w3 w4 v0 w6 w7 b0)
  (h0:bL H 1 v0 (eM names))
  (h67:F 132=some (.sl 3 (f.bHP.map cB.cells))) (h68:F 133=some (.int .i64 (f.bHP.length:Nat))) (h69:F 134=some (.int .i64 0))
  (hK:∀ v F' H',jL F' f w3 w4 v w6 w7 (b0&&f.bHP.all (gQ f))→bL H' 1 v (eM (names++f.bHP.map cB.name))→K (.exit 6) F' H') :
  aC.wp C (.loop GQ) K F H:=by
 refine wp_loop (α:=Nat × PV × PH) (fun t=>(((gV f w3 w4 t.2.1 w6 w7 (b0&&gS f.bHP (gQ f) t.1)).set 132 (.sl 3 (f.bHP.map cB.cells))).set 133 (.int .i64 (f.bHP.length:Nat))).set 134 (.int .i64 t.1)) (fun t=>t.2.2)
  (fun t=>t.1≤f.bHP.length∧bL t.2.2 1 t.2.1 (eM (names++(f.bHP.map cB.name).take t.1))) (fun t=>f.bHP.length-t.1) (0,v0,H) ⟨bKF _,by rw[List.take_zero,bLM]; exact h0⟩ ?_ PH.le_refl ?_
 ·unfold gV
  (repeat' (first|exact PF.nil_le|refine PF.aI ?_ ?_))<;>first|(simp only[go_sem,hv.a1,hv.a3,hv.a4,hv.a5,hv.a6,hv.a7,hv.a8,h67,h68,h69,qK,bLT]<;>rfl)|rfl
 rintro⟨k,v,H0⟩ ⟨hk,hO⟩
 simp only at hk hO ⊢
 simp only[go_sem,γ,GQ,aCK,gV]
 by_cases hlt:k<f.bHP.length
 ·have bHW:(k:Int)<(f.bHP.length:Nat):=by omega
  have hr:(f.bHP.map cB.cells)[k]?=some (f.bHP[k]).cells:=by simp[hlt]
  have hsn:eM (names++(f.bHP.map cB.name).take k)++[[.str (f.bHP[k]).name]]=eM (names++(f.bHP.map cB.name).take (k+1)):=by
   rw[bLK (by simpa using hlt),← bKU,bMC]
   unfold eM
   simp only[bLW,bLX,List.map_nil]
  simp only[go_sem,δ,γ,bHW,aCL,hr]
  refine aR fun o ho=>?_
  simp only[go_sem,υ,δ,γ,η,θ,ζ,aCM]
  refine lF hO ho (qC (by simp; omega)) fun v' H' hO' ho'=>?_
  rw[hsn] at hO'
  have bHX:=qJ f.bHP (gQ f) hlt
  have fin:∀ (c:Bool) (F':PF),c=(b0&&gS f.bHP (gQ f) (k+1))→((((gV f w3 w4 v' w6 w7 c).set 132 (.sl 3 (f.bHP.map cB.cells))).set 133 (.int .i64 (f.bHP.length:Nat))).set 134 (.int .i64 (k+1:Nat))).le F' →
    eE (fun (t:Nat × PV × PH)=>(((gV f w3 w4 t.2.1 w6 w7 (b0&&gS f.bHP (gQ f) t.1)).set 132 (.sl 3 (f.bHP.map cB.cells))).set 133 (.int .i64 (f.bHP.length:Nat))).set 134 (.int .i64 t.1)) (fun (t:Nat × PV × PH)=>t.2.2)  (fun (t:Nat × PV × PH)=>t.1≤f.bHP.length∧bL t.2.2 1 t.2.1 (eM (names++(f.bHP.map cB.name).take t.1))) (fun (t:Nat × PV × PH)=>f.bHP.length-t.1) (f.bHP.length-k) K .normal F' H':=by
   intro c F' hc hle
   refine aH (α:=Nat × PV × PH) (k+1,v',H') ⟨hlt,hO'⟩ (by simp only; omega) ?_ PH.le_refl
   rw[hc] at hle
   exact hle
  unfold gV at fin
  rw[bHX,← bMS] at fin
  have hmd:gQ f f.bHP[k]=(within (f.bHP[k]).model 0 ((f.bHQ.length:Int)-1)&&within (f.bHP[k]).machine 0 ((f.bHS.length:Int)-1)&&decide ((f.bHS.map bQ.level).getD (f.bHP[k]).machine.toNat 0=4)):=rfl
  cases hb:(b0&&gS f.bHP (gQ f) k) with
  | false =>
   rw[hb,bJZ] at fin
   simp only[go_sem,γ,reduceCtorEq,XN,ho',rS,wZz k]
   refine fin false _ rfl ?_
   exact Lq
  | true =>
   rw[hb,bKE] at fin
   simp only[go_sem,δ,γ,θ,XN,ho',bJT,zL (Om:f.bHQ.length≤1000)]
   refine aA (L.inn _ 0 _) Ev ?_
   cases e1:within (f.bHP[k]).model 0 ((f.bHQ.length:Int)-1) with
   | false =>
    simp only[go_sem,γ,reduceCtorEq,rS,wZz k]
    refine fin false _ (by rw[hmd,e1]; simp only[bJZ]) ?_
    exact Lq
   | true =>
    simp only[go_sem,δ,γ,θ,ho',bJT,zL (Om:f.bHS.length≤1000)]
    refine aA (L.inn _ 0 _) Ev ?_
    cases e2:within (f.bHP[k]).machine 0 ((f.bHS.length:Int)-1) with
    | false =>
     simp only[go_sem,γ,reduceCtorEq,rS,wZz k]
     refine fin false _ (by rw[hmd,e1,e2]; simp only[bJZ,bLC]) ?_
     exact Lq
    | true =>
     obtain⟨i1,i2⟩:=within_iff.1 e2
     have i3:(f.bHP[k]).machine.toNat<f.bHS.length:=by omega
     have hpr:(f.bHS.map bQ.cells)[(f.bHP[k]).machine.toNat]?=some (f.bHS[(f.bHP[k]).machine.toNat]).cells:=by simp[i3]
     have hlv:(f.bHS.map bQ.level).getD (f.bHP[k]).machine.toNat 0=(f.bHS[(f.bHP[k]).machine.toNat]).level:=by simp[i3]
     rw[hlv] at hmd
     by_cases e3:(f.bHS[(f.bHP[k]).machine.toNat]).level=4
     ·simp only[go_sem,δ,γ,θ,ho',i1,hpr,bO e3,rS,wZz k]
      refine fin true _ (by rw[hmd,e1,e2,decide_eq_true e3]; rfl) ?_
      exact Lq
     ·simp only[go_sem,δ,γ,θ,ho',i1,hpr,bB e3,rS,wZz k]
      refine fin false _ (by rw[hmd,e1,e2,decide_eq_false e3]; rfl) ?_
      exact Lq
 ·have bHW:¬ (k:Int)<(f.bHP.length:Nat):=by omega
  have:k=f.bHP.length:=by omega
  subst this
  rw[bKK (by simp)] at hO
  rw[sZ]
  simp only[go_sem,bHW]
  exact hK v _ _ ⟨by simp only[go_sem,γ],by simp only[go_sem,γ],by simp only[go_sem,γ],by simp only[go_sem,γ],by simp only[go_sem,γ],by simp only[go_sem,γ],by simp only[go_sem,γ]⟩ hO
theorem a0V {C:Ctx} (L:jJ C) (f:aK) (hf:f.Ok) (hs:f.bHT.length≤4) (hm:f.bHQ.length≤4) (b0:Bool) (w3 w4 w5 w7:PV) (K:cN) (F:PF) (H:PH) (hv:jL F f w3 w4 w5 .aB w7 b0)
  (h67:F 174=some (.sl 17 (f.bHT.map cZ.cells))) (h68:F 175=some (.int .i64 (f.bHT.length:Nat))) (h69:F 176=some (.int .i64 0))
  (hK:∀ v F' H',jL F' f w3 w4 w5 v w7 (b0&&f.bHT.all (jB f.bHQ.length))→bL H' 1 v (eM (f.bHT.map cZ.name))→K (.exit 8) F' H') :
  aC.wp C (.loop GR) K F H:=by
 refine wp_loop (α:=Nat × PV × PH) (fun t=>(((gV f w3 w4 w5 t.2.1 w7 (b0&&gS f.bHT (jB f.bHQ.length) t.1)).set 174 (.sl 17 (f.bHT.map cZ.cells))).set 175 (.int .i64 (f.bHT.length:Nat))).set 176 (.int .i64 t.1)) (fun t=>t.2.2)
  (fun t=>t.1≤f.bHT.length∧bL t.2.2 1 t.2.1 (eM ((f.bHT.map cZ.name).take t.1))) (fun t=>f.bHT.length-t.1) (0,.aB,.nil) ⟨bKF _,.nil⟩ ?_ PH.nil_le ?_
 ·unfold gV
  (repeat' (first|exact PF.nil_le|refine PF.aI ?_ ?_))<;>first|(simp only[go_sem,hv.a1,hv.a3,hv.a4,hv.a5,hv.a6,hv.a7,hv.a8,h67,h68,h69,qK,bLT]<;>rfl)|rfl
 rintro⟨k,v,H0⟩ ⟨hk,hO⟩
 simp only at hk hO ⊢
 simp only[go_sem,γ,GR,aCN,gV]
 by_cases hlt:k<f.bHT.length
 ·have bHW:(k:Int)<(f.bHT.length:Nat):=by omega
  have hr:(f.bHT.map cZ.cells)[k]?=some (f.bHT[k]).cells:=by simp[hlt]
  have hsn:=tN (f.bHT.map cZ.name) (k:=k) (by simpa using hlt)
  rw[bMC] at hsn
  simp only[go_sem,δ,γ,bHW,aCO,hr]
  refine aR fun o ho=>?_
  simp only[go_sem,υ,δ,γ,η,θ,ζ,aCP]
  refine lF hO ho (qC (by simp; omega)) fun v' H' hO' ho'=>?_
  rw[hsn] at hO'
  have bHX:=qJ f.bHT (jB f.bHQ.length) hlt
  have fin:∀ (c:Bool) (F':PF),c=(b0&&gS f.bHT (jB f.bHQ.length) (k+1))→((((gV f w3 w4 w5 v' w7 c).set 174 (.sl 17 (f.bHT.map cZ.cells))).set 175 (.int .i64 (f.bHT.length:Nat))).set 176 (.int .i64 (k+1:Nat))).le F' →
    eE (fun (t:Nat × PV × PH)=>(((gV f w3 w4 w5 t.2.1 w7 (b0&&gS f.bHT (jB f.bHQ.length) t.1)).set 174 (.sl 17 (f.bHT.map cZ.cells))).set 175 (.int .i64 (f.bHT.length:Nat))).set 176 (.int .i64 t.1)) (fun (t:Nat × PV × PH)=>t.2.2)  (fun (t:Nat × PV × PH)=>t.1≤f.bHT.length∧bL t.2.2 1 t.2.1 (eM ((f.bHT.map cZ.name).take t.1))) (fun (t:Nat × PV × PH)=>f.bHT.length-t.1) (f.bHT.length-k) K .normal F' H':=by
   intro c F' hc hle
   refine aH (α:=Nat × PV × PH) (k+1,v',H') ⟨hlt,hO'⟩ (by simp only; omega) ?_ PH.le_refl
   rw[hc] at hle
   exact hle
  unfold gV at fin
  rw[bHX,← bMS] at fin
  cases hb:(b0&&gS f.bHT (jB f.bHQ.length) k) with
  | false =>
   rw[hb,bJZ] at fin
   simp only[go_sem,γ,reduceCtorEq,XP,ho',XQ,wZz k]
   refine fin false _ rfl ?_
   exact Lq
  | true =>
   rw[hb,bKE] at fin
   simp only[go_sem,δ,γ,θ,XP,ho',bJT]
   refine aA (L.pol _ _ (hf.bID _ (bJX hlt)) hm) Ev ?_
   simp only[go_sem,γ,XQ,wZz k]
   refine fin _ _ rfl ?_
   exact Lq
 ·have bHW:¬ (k:Int)<(f.bHT.length:Nat):=by omega
  have:k=f.bHT.length:=by omega
  subst this
  rw[bKK (by simp)] at hO
  rw[sZ]
  simp only[go_sem,bHW]
  exact hK v _ _ ⟨by simp only[go_sem,γ],by simp only[go_sem,γ],by simp only[go_sem,γ],by simp only[go_sem,γ],by simp only[go_sem,γ],by simp only[go_sem,γ],by simp only[go_sem,γ]⟩ hO
theorem a0W {C:Ctx} (L:jJ C) (f:aK) (hs:f.bHR.length≤12) (hl:f.bHT.length≤4) (b0:Bool) (w3 w4 w5 w6:PV) (K:cN) (F:PF) (H:PH) (hv:jL F f w3 w4 w5 w6 .aB b0)
  (h67:F 195=some (.sl 2 (f.bHR.map eC.cells))) (h68:F 196=some (.int .i64 (f.bHR.length:Nat))) (h69:F 197=some (.int .i64 0))
  (hK:∀ v F' H',jL F' f w3 w4 w5 w6 v (b0&&f.bHR.all (mH f))→bL H' 1 v (eM (f.bHR.map eC.name))→K (.exit 10) F' H') :
  aC.wp C (.loop GT) K F H:=by
 refine wp_loop (α:=Nat × PV × PH) (fun t=>(((gV f w3 w4 w5 w6 t.2.1 (b0&&gS f.bHR (mH f) t.1)).set 195 (.sl 2 (f.bHR.map eC.cells))).set 196 (.int .i64 (f.bHR.length:Nat))).set 197 (.int .i64 t.1)) (fun t=>t.2.2)
  (fun t=>t.1≤f.bHR.length∧bL t.2.2 1 t.2.1 (eM ((f.bHR.map eC.name).take t.1))) (fun t=>f.bHR.length-t.1) (0,.aB,.nil) ⟨bKF _,.nil⟩ ?_ PH.nil_le ?_
 ·unfold gV
  (repeat' (first|exact PF.nil_le|refine PF.aI ?_ ?_))<;>first|(simp only[go_sem,hv.a1,hv.a3,hv.a4,hv.a5,hv.a6,hv.a7,hv.a8,h67,h68,h69,qK,bLT]<;>rfl)|rfl
 rintro⟨k,v,H0⟩ ⟨hk,hO⟩
 simp only at hk hO ⊢
 simp only[go_sem,γ,GT,aCQ,gV]
 by_cases hlt:k<f.bHR.length
 ·have bHW:(k:Int)<(f.bHR.length:Nat):=by omega
  have hr:(f.bHR.map eC.cells)[k]?=some (f.bHR[k]).cells:=by simp[hlt]
  have hsn:=tN (f.bHR.map eC.name) (k:=k) (by simpa using hlt)
  rw[bMC] at hsn
  simp only[go_sem,δ,γ,bHW,aCR,hr]
  refine aR fun o ho=>?_
  simp only[go_sem,υ,δ,γ,η,θ,ζ,aCS]
  refine lF hO ho (qC (by simp; omega)) fun v' H' hO' ho'=>?_
  rw[hsn] at hO'
  have bHX:=qJ f.bHR (mH f) hlt
  have fin:∀ (c:Bool) (F':PF),c=(b0&&gS f.bHR (mH f) (k+1))→((((gV f w3 w4 w5 w6 v' c).set 195 (.sl 2 (f.bHR.map eC.cells))).set 196 (.int .i64 (f.bHR.length:Nat))).set 197 (.int .i64 (k+1:Nat))).le F' →
    eE (fun (t:Nat × PV × PH)=>(((gV f w3 w4 w5 w6 t.2.1 (b0&&gS f.bHR (mH f) t.1)).set 195 (.sl 2 (f.bHR.map eC.cells))).set 196 (.int .i64 (f.bHR.length:Nat))).set 197 (.int .i64 t.1)) (fun (t:Nat × PV × PH)=>t.2.2)  (fun (t:Nat × PV × PH)=>t.1≤f.bHR.length∧bL t.2.2 1 t.2.1 (eM ((f.bHR.map eC.name).take t.1))) (fun (t:Nat × PV × PH)=>f.bHR.length-t.1) (f.bHR.length-k) K .normal F' H':=by
   intro c F' hc hle
   refine aH (α:=Nat × PV × PH) (k+1,v',H') ⟨hlt,hO'⟩ (by simp only; omega) ?_ PH.le_refl
   rw[hc] at hle
   exact hle
  unfold gV at fin
  rw[bHX,← bMS] at fin
  have hm:mH f f.bHR[k]=within (f.bHR[k]).bID 0 ((f.bHT.length:Int)-1):=rfl
  cases hb:(b0&&gS f.bHR (mH f) k) with
  | false =>
   rw[hb,bJZ] at fin
   simp only[go_sem,γ,reduceCtorEq,XS,ho',XT,wZz k]
   refine fin false _ rfl ?_
   exact Lq
  | true =>
   rw[hb,bKE,hm] at fin
   simp only[go_sem,δ,γ,θ,XS,ho',bJT,zL (Om:f.bHT.length≤1000)]
   refine aA (L.inn _ 0 _) Ev ?_
   simp only[go_sem,γ,XT,wZz k]
   refine fin _ _ rfl ?_
   exact Lq
 ·have bHW:¬ (k:Int)<(f.bHR.length:Nat):=by omega
  have:k=f.bHR.length:=by omega
  subst this
  rw[bKK (by simp)] at hO
  rw[sZ]
  simp only[go_sem,bHW]
  exact hK v _ _ ⟨by simp only[go_sem,γ],by simp only[go_sem,γ],by simp only[go_sem,γ],by simp only[go_sem,γ],by simp only[go_sem,γ],by simp only[go_sem,γ],by simp only[go_sem,γ]⟩ hO
theorem lI {f:aK} (h:¬ (f.bHY.length≤4∧f.bHQ.length≤4∧f.bHS.length≤40∧f.bHP.length≤24∧f.bHT.length≤4∧f.bHR.length≤12)):lH f=false:=by
 rw[← Bool.not_eq_true]
 intro hs
 simp only[lH,bKR,decide_eq_true_eq] at hs
 omega
theorem aOD {f:aK} (h:f.bHY.length≤4∧f.bHQ.length≤4∧f.bHS.length≤40∧f.bHP.length≤24∧f.bHT.length≤4∧f.bHR.length≤12):lH f=within f.bJD 1 4:=by
 obtain⟨h1,h2,h3,h4,h5,h6⟩:=h
 simp[lH,h1,h2,h3,h4,h5,h6]
theorem kW {t:Nat} {n m:Int} {F:PF} {H:PH} (h:F t=some (.int .i64 n)) (e:n=m):aT [.tmp t] (bY (.int .i64 m)) .ret F H:=by
 subst e
 exact aX (.inr rfl) .nil (vs:=[.int .i64 n]) (by rw[kX,nY,h,pV]) PH.nil_le ⟨.refl _,rfl⟩
def pJ (f:aK):Int:=if dL f then 0 else 1
theorem a3N {f:aK} (h:dL f=false):pJ f=1:=by rw[pJ,h]; rfl
theorem rG {C:Ctx} {F:PF} {H:PH} {name t s:Nat} {v r:PV} {rows:List (List PV)} {d:Option Nat} {K:PF→PH→Prop} (h:aE C name [.sl s rows] .nil (aD r)) (hO:bL H s v rows) (ht:F t=some v)
  (hK:∀ (F1:PF) (H1:PH),(∀ i u,F i=some u→Pure u→F1 i=some u)→K (F1.put d r) H1):fP C name [.tmp t] [] d K F H:=by
 rcases hO with ⟨rfl,rfl⟩ | ⟨q,rs,rfl,h1,h2,h3⟩
 ·refine aA (h.a2V (.inl ⟨rfl,rfl⟩)) (by rw[wP,acB,ht,SA]) ?_
  exact hK F H fun i u hi _=>hi
 ·rw[← h3] at h
  refine oC (k:=rows.length) h ht h1 h2 (hK _ _ fun i u hi hp=>?_)
  rw[qO,hi,bLF,hp q s rs]
theorem Seen.pure {s:Nat} {v:PV} {rows:List (List PV)} (h:Seen s v rows):Pure v:=by
 rcases h with ⟨_,rfl⟩ | rfl
 ·exact fun _ _ _=>rfl
 ·exact fun _ _ _=>rfl
def bI (b:Bool):Int:=if b then 0 else 1
abbrev SN (f:aK):List (List UInt8):=(f.bHS.drop 1).map bQ.name++f.bHP.map cB.name
def sV (f:aK):Bool:=distinct (f.bHY.map cJ.name)&&distinct (f.bHQ.map cS.name)&&distinct (SN f)&&distinct (f.bHT.map cZ.name)&&distinct (f.bHR.map eC.name)
structure Small (f:aK):Prop where
 bHY:f.bHY.length≤4
 bHQ:f.bHQ.length≤4
 bHS:f.bHS.length≤40
 bHP:f.bHP.length≤24
 bHT:f.bHT.length≤4
 bHR:f.bHR.length≤12
theorem yY {C:Ctx} (L:jJ C) {v:PV} {l:List (List UInt8)} (h:Seen 1 v (eM l)) (hl:l.length≤1000):aE C 110 [v] .nil (aD (.bool (distinct l))) :=
 (L.uniq l (Om:l.length≤9223372036854775807)).a2V h
theorem bfW {C:Ctx} (L:jJ C) (f:aK) (hs:Small f) (w3 w4 w5 w6 w7:PV) (ok:Bool) (F:PF) (H:PH) (hv:jL F f w3 w4 w5 w6 w7 ok)
  (h3:Seen 1 w3 (eM (f.bHY.map cJ.name))) (h4:Seen 1 w4 (eM (f.bHQ.map cS.name))) (h5:Seen 1 w5 (eM (SN f))) (h6:Seen 1 w6 (eM (f.bHT.map cZ.name))) (h7:bL H 1 w7 (eM (f.bHR.map eC.name))) :
  aC.wp C (.seq (.seq (.region wX) (.cond (.tmp 243) (.seq (.region lO) .ret) .skip)) (.seq (.region GU) .ret)) (aT [.tmp 2] (bY (.int .i64 (bI (ok&&sV f))))) F H:=by
 obtain⟨s1,s2,s3,s4,s5,s6⟩:=hs
 have l3:(f.bHY.map cJ.name).length≤1000:=by simp; omega
 have l4:(f.bHQ.map cS.name).length≤1000:=by simp; omega
 have l5:(SN f).length≤1000:=by simp; omega
 have l6:(f.bHT.map cZ.name).length≤1000:=by simp; omega
 have l7:(f.bHR.map eC.name).length≤9223372036854775807:=by simp; omega
 cases ok with
 | false =>
  simp only[go_sem,γ,wX,hv.a8,lO]
  exact kW rfl rfl
 | true =>
  simp only[go_sem,γ,wX,hv.a8,hv.a3]
  refine aA (yY L h3 l3) rfl ?_
  unfold sV
  cases c1:distinct (f.bHY.map cJ.name) with
  | false =>
   simp only[go_sem,γ,reduceCtorEq,lO,bKI]
   exact kW rfl rfl
  | true =>
   simp only[go_sem,γ,reduceCtorEq,hv.a4,bKC]
   refine aA (yY L h4 l4) rfl ?_
   cases c2:distinct (f.bHQ.map cS.name) with
   | false =>
    simp only[go_sem,γ,reduceCtorEq,lO,bKI]
    exact kW rfl rfl
   | true =>
    simp only[go_sem,γ,reduceCtorEq,hv.a5,bKC]
    refine aA (yY L h5 l5) rfl ?_
    cases c3:distinct (SN f) with
    | false =>
     simp only[go_sem,γ,reduceCtorEq,lO,bKI]
     exact kW rfl rfl
    | true =>
     simp only[go_sem,γ,reduceCtorEq,hv.a6,bKC]
     refine aA (yY L h6 l6) rfl ?_
     cases c4:distinct (f.bHT.map cZ.name) with
     | false =>
      simp only[go_sem,γ,reduceCtorEq,lO,bKI]
      exact kW rfl rfl
     | true =>
      simp only[go_sem,γ,reduceCtorEq,hv.a7,bKC]
      refine rG (L.uniq _ l7) h7 rfl fun F1 H1 hp=>?_
      have g:F1 239=some (.bool false):=hp 239 _ rfl fun _ _ _=>rfl
      cases c5:distinct (f.bHR.map eC.name) with
      | false =>
       simp only[go_sem,γ,reduceCtorEq,lO,bKI,g]
       exact kW rfl rfl
      | true =>
       simp only[go_sem,γ,reduceCtorEq,GU,bKC,g]
       exact kW rfl rfl
abbrev anH (b:Bool):cN:=aT [.tmp 2] (bY (.int .i64 (bI b)))
def awS:aC:=.seq (.seq (.region XR) (.block 10 (.loop GT))) (.seq (.seq (.region wX) (.cond (.tmp 243) (.seq (.region lO) .ret) .skip)) (.seq (.region GU) .ret))
def awR:aC:=.seq (.seq (.region XO) (.block 8 (.loop GR))) awS
def awQ:aC:=.seq (.seq (.region XM) (.block 6 (.loop GQ))) awR
def awP:aC:=.seq (.seq (.region XL) (.block 4 (.loop GP))) awQ
def awO:aC:=.seq (.seq (.region XJ) (.block 2 (.loop GO))) awP
def a3M:aC:=.seq (.seq (.region alM) (.block 0 (.loop GN))) awO
theorem bmU {C:Ctx} (L:jJ C) (f:aK) (hs:Small f) (w3 w4 w5 w6:PV) (ok:Bool) (F:PF) (H:PH) (hv:jL F f w3 w4 w5 w6 .aB ok)
  (h3:Seen 1 w3 (eM (f.bHY.map cJ.name))) (h4:Seen 1 w4 (eM (f.bHQ.map cS.name))) (h5:Seen 1 w5 (eM (SN f))) (h6:bL H 1 w6 (eM (f.bHT.map cZ.name))) :
  aC.wp C awS (anH (ok&&f.bHR.all (mH f)&&sV f)) F H:=by
 unfold awS
 simp only[go_sem,γ,XR,hv.a1,bJT]
 refine oE h6 fun v1 hv1 F1 H1 ht hp=>?_
 refine a0W L f hs.bHR hs.bHT ok w3 w4 w5 v1 _ F1 H1 ⟨hp 1 _ (by simp only[go_sem,γ,hv.a1]) fun _ _ _=>rfl,hp 3 _ (by simp only[go_sem,γ,hv.a3]) h3.pure,hp 4 _ (by simp only[go_sem,γ,hv.a4]) h4.pure,hp 5 _ (by simp only[go_sem,γ,hv.a5]) h5.pure,ht 6 (by simp only[go_sem,γ,hv.a6]),hp 7 _ (by simp only[go_sem,γ,hv.a7]) fun _ _ _=>rfl,hp 8 _ (by simp only[go_sem,γ,hv.a8]) fun _ _ _=>rfl⟩
  (hp 195 _ rfl fun _ _ _=>rfl) (hp 196 _ rfl fun _ _ _=>rfl) (hp 197 _ rfl fun _ _ _=>rfl) fun v F' H' hv' hO=>?_
 have e:=bfW L f hs w3 w4 w5 v1 v _ F' H' hv' h3 h4 h5 hv1 hO
 simp only[aC.wp,go_sem] at e
 simp only[go_sem]
 exact e
theorem bmT {C:Ctx} (L:jJ C) (f:aK) (hf:f.Ok) (hs:Small f) (w3 w4 w5:PV) (ok:Bool) (F:PF) (H:PH) (hv:jL F f w3 w4 w5 .aB .aB ok)
  (h3:Seen 1 w3 (eM (f.bHY.map cJ.name))) (h4:Seen 1 w4 (eM (f.bHQ.map cS.name))) (h5:bL H 1 w5 (eM (SN f))) :
  aC.wp C awR (anH (ok&&f.bHT.all (jB f.bHQ.length)&&f.bHR.all (mH f)&&sV f)) F H:=by
 unfold awR
 simp only[go_sem,δ,γ,θ,XO,hv.a1,bJT]
 refine oE h5 fun v1 hv1 F1 H1 ht hp=>?_
 refine a0V L f hf hs.bHT hs.bHQ ok w3 w4 v1 .aB _ F1 H1 ⟨hp 1 _ (by simp only[go_sem,γ,hv.a1]) fun _ _ _=>rfl,hp 3 _ (by simp only[go_sem,γ,hv.a3]) h3.pure,hp 4 _ (by simp only[go_sem,γ,hv.a4]) h4.pure,ht 5 (by simp only[go_sem,γ,hv.a5]),hp 6 _ (by simp only[go_sem,γ,hv.a6]) fun _ _ _=>rfl,hp 7 _ (by simp only[go_sem,γ,hv.a7]) fun _ _ _=>rfl,hp 8 _ (by simp only[go_sem,γ,hv.a8]) fun _ _ _=>rfl⟩
  (hp 174 _ rfl fun _ _ _=>rfl) (hp 175 _ rfl fun _ _ _=>rfl) (hp 176 _ rfl fun _ _ _=>rfl) fun v F' H' hv' hO=>?_
 simp only[go_sem]
 exact bmU L f hs w3 w4 v1 v _ F' H' hv' h3 h4 hv1 hO
theorem bmS {C:Ctx} (L:jJ C) (f:aK) (hf:f.Ok) (hs:Small f) (w3 w4 w5:PV) (ok:Bool) (F:PF) (H:PH) (hv:jL F f w3 w4 w5 .aB .aB ok)
  (h3:Seen 1 w3 (eM (f.bHY.map cJ.name))) (h4:Seen 1 w4 (eM (f.bHQ.map cS.name))) (h5:bL H 1 w5 (eM ((f.bHS.drop 1).map bQ.name))) :
  aC.wp C awQ (anH (ok&&f.bHP.all (gQ f)&&f.bHT.all (jB f.bHQ.length)&&f.bHR.all (mH f)&&sV f)) F H:=by
 unfold awQ
 simp only[go_sem,δ,γ,θ,XM,hv.a1,bJT]
 refine a0U L f ((f.bHS.drop 1).map bQ.name) (by have:=hs.bHS; simp; omega) hs.bHP hs.bHQ hs.bHS ok w3 w4 w5 .aB .aB _ _ H ⟨by simp only[go_sem,γ,hv.a1],by simp only[go_sem,γ,hv.a3],by simp only[go_sem,γ,hv.a4],by simp only[go_sem,γ,hv.a5],by simp only[go_sem,γ,hv.a6],by simp only[go_sem,γ,hv.a7],by simp only[go_sem,γ,hv.a8]⟩ h5
  rfl rfl rfl fun v F' H' hv' hO=>?_
 simp only[go_sem]
 exact bmT L f hf hs w3 w4 v _ F' H' hv' h3 h4 hO
theorem bmR {C:Ctx} (L:jJ C) (f:aK) (hf:f.Ok) (hs:Small f) (hd:0<f.bHS.length) (w3 w4:PV) (ok:Bool) (F:PF) (H:PH) (hv:jL F f w3 w4 .aB .aB .aB ok)
  (h3:Seen 1 w3 (eM (f.bHY.map cJ.name))) (h4:bL H 1 w4 (eM (f.bHQ.map cS.name))) :
  aC.wp C awP (anH (ok&&f.bHP.all (gQ f)&&f.bHT.all (jB f.bHQ.length)&&f.bHR.all (mH f)&&sV f)) F H:=by
 unfold awP
 have hsl:(1:Int)≤(f.bHS.length:Nat):=by omega
 have hsd:=hs.bHS
 have hdrop:((f.bHS.map bQ.cells).take f.bHS.length).drop 1=(f.bHS.drop 1).map bQ.cells:=by
  rw[bKK (by simp),List.map_drop]
 simp only[go_sem,κ,ν,δ,γ,θ,reduceCtorEq,XL,hv.a1,bJT,hsl,bMX,hdrop]
 refine oE h4 fun v1 hv1 F1 H1 ht hp=>?_
 refine a0T L f (f.bHS.drop 1) (by simp; omega) ok w3 v1 .aB .aB _ F1 H1 ⟨hp 1 _ (by simp only[go_sem,γ,hv.a1]) fun _ _ _=>rfl,hp 3 _ (by simp only[go_sem,γ,hv.a3]) h3.pure,ht 4 (by simp only[go_sem,γ,hv.a4]),hp 5 _ (by simp only[go_sem,γ,hv.a5]) fun _ _ _=>rfl,hp 6 _ (by simp only[go_sem,γ,hv.a6]) fun _ _ _=>rfl,hp 7 _ (by simp only[go_sem,γ,hv.a7]) fun _ _ _=>rfl,hp 8 _ (by simp only[go_sem,γ,hv.a8]) fun _ _ _=>rfl⟩
  (hp 119 _ rfl fun _ _ _=>rfl) (hp 120 _ rfl fun _ _ _=>rfl) (hp 121 _ rfl fun _ _ _=>rfl) fun v F' H' hv' hO=>?_
 simp only[go_sem]
 exact bmS L f hf hs w3 v1 v _ F' H' hv' h3 hv1 hO
theorem bmQ {C:Ctx} (L:jJ C) (f:aK) (hf:f.Ok) (hs:Small f) (hd:0<f.bHS.length) (w3:PV) (ok:Bool) (F:PF) (H:PH) (hv:jL F f w3 .aB .aB .aB .aB ok)
  (h3:bL H 1 w3 (eM (f.bHY.map cJ.name))) :
  aC.wp C awO (anH (ok&&f.bHQ.all (jF f)&&f.bHP.all (gQ f)&&f.bHT.all (jB f.bHQ.length)&&f.bHR.all (mH f)&&sV f)) F H:=by
 unfold awO
 simp only[go_sem,δ,γ,θ,XJ,hv.a1,bJT]
 refine oE h3 fun v1 hv1 F1 H1 ht hp=>?_
 refine a0S L f hs.bHQ hs.bHY ok v1 .aB .aB .aB _ F1 H1 ⟨hp 1 _ (by simp only[go_sem,γ,hv.a1]) fun _ _ _=>rfl,ht 3 (by simp only[go_sem,γ,hv.a3]),hp 4 _ (by simp only[go_sem,γ,hv.a4]) fun _ _ _=>rfl,hp 5 _ (by simp only[go_sem,γ,hv.a5]) fun _ _ _=>rfl,hp 6 _ (by simp only[go_sem,γ,hv.a6]) fun _ _ _=>rfl,hp 7 _ (by simp only[go_sem,γ,hv.a7]) fun _ _ _=>rfl,hp 8 _ (by simp only[go_sem,γ,hv.a8]) fun _ _ _=>rfl⟩
  (hp 85 _ rfl fun _ _ _=>rfl) (hp 86 _ rfl fun _ _ _=>rfl) (hp 87 _ rfl fun _ _ _=>rfl) fun v F' H' hv' hO=>?_
 simp only[go_sem]
 exact bmR L f hf hs hd v1 v _ F' H' hv' hv1 hO
theorem bmP {C:Ctx} (L:jJ C) (f:aK) (hf:f.Ok) (hs:Small f) (hd:0<f.bHS.length) (F:PF) (H:PH) (hv:jL F f .aB .aB .aB .aB .aB true) :
  aC.wp C a3M (anH (f.bHY.all jZ&&f.bHQ.all (jF f)&&f.bHP.all (gQ f)&&f.bHT.all (jB f.bHQ.length)&&f.bHR.all (mH f)&&sV f)) F H:=by
 unfold a3M
 simp only[go_sem,δ,γ,θ,alM,hv.a1,bJT]
 refine a0R L f hf hs.bHY .aB .aB .aB .aB _ _ H ⟨by simp only[go_sem,γ,hv.a1],by simp only[go_sem,γ,hv.a3],by simp only[go_sem,γ,hv.a4],by simp only[go_sem,γ,hv.a5],by simp only[go_sem,γ,hv.a6],by simp only[go_sem,γ,hv.a7],by simp only[go_sem,γ,hv.a8]⟩ rfl rfl rfl fun v F' H' hv' hO=>?_
 simp only[go_sem]
 exact bmQ L f hf hs hd v _ F' H' hv' hO
theorem bmN {C:Ctx} (L:jJ C) (f:aK) (hf:f.Ok):NF.wp C (aT aCC.res (bY (.int .i64 (pJ f)))) (PF.args [.agg f.cells]) .nil:=by
 have he:dL f=(lH f&&mJ f&&(f.bHY.all jZ&&f.bHQ.all (jF f)&&f.bHP.all (gQ f)&&f.bHT.all (jB f.bHQ.length)&&f.bHR.all (mH f))&&sV f):=rfl
 simp only[go_sem,δ,γ,θ,NF,aRR,aRS,aCC]
 refine aA (L.inn f.bJD 1 4) rfl ?_
 have bad:∀ (F:PF) (H:PH),dL f=false→F 2=some (.int .i64 1)→aT [.tmp 2] (bY (.int .i64 (pJ f))) .ret F H:=fun F H h1 h2=>kW h2 (a3N h1).symm
 cases e0:within f.bJD 1 4 with
 | false =>
  have:lH f=false:=by simp[lH,e0]
  simp only[go_sem,γ,bKI,nL]
  exact bad _ _ (by rw[he,this]; simp only[bJZ]) rfl
 | true =>
  by_cases s1:f.bHY.length≤4
  ·have s1':¬ ((f.bHY.length:Nat):Int)>4:=by omega
   by_cases s2:f.bHQ.length≤4
   ·have s2':¬ ((f.bHQ.length:Nat):Int)>4:=by omega
    by_cases s3:f.bHS.length≤40
    ·have s3':¬ ((f.bHS.length:Nat):Int)>40:=by omega
     by_cases s4:f.bHP.length≤24
     ·have s4':¬ ((f.bHP.length:Nat):Int)>24:=by omega
      by_cases s5:f.bHT.length≤4
      ·have s5':¬ ((f.bHT.length:Nat):Int)>4:=by omega
       by_cases s6:f.bHR.length≤12
       ·have s6':¬ ((f.bHR.length:Nat):Int)>12:=by omega
        have hsz:=aOD ⟨s1,s2,s3,s4,s5,s6⟩
        rw[e0] at hsz
        simp only[go_sem,δ,γ,θ,reduceCtorEq,bKC,bJT,s1',s2',s3',s4',s5',s6']
        refine aA (L.bIA f hf) rfl ?_
        cases e1:mJ f with
        | false =>
         simp only[go_sem,γ,reduceCtorEq,bKI,nL]
         exact bad _ _ (by rw[he,e1]; simp only[bLC,bJZ]) rfl
        | true =>
         have hd:0<f.bHS.length:=by
          rcases bMT f.bHS.length with h | h
          ·have:f.bHS=[]:=bNJ h
           rw[mJ,this] at e1
           cases e1
          ·exact h
         have hz:pJ f=bI (f.bHY.all jZ&&f.bHQ.all (jF f)&&f.bHP.all (gQ f)&&f.bHT.all (jB f.bHQ.length)&&f.bHR.all (mH f)&&sV f):=by
          rw[pJ,he,hsz,e1]; rfl
         rw[hz]
         simp only[go_sem,γ,reduceCtorEq,bKC,aRT,aRU]
         have e:=fun F H hv=>bmP L f hf ⟨s1,s2,s3,s4,s5,s6⟩ hd F H hv
         simp only[a3M,awO,awP,awQ,awR,awS,aC.wp,go_sem] at e
         exact e _ _ ⟨by simp only[go_sem,γ],by simp only[go_sem,γ],by simp only[go_sem,γ],by simp only[go_sem,γ],by simp only[go_sem,γ],by simp only[go_sem,γ],by simp only[go_sem,γ]⟩
       ·have s6':((f.bHR.length:Nat):Int)>12:=by omega
        simp only[go_sem,δ,γ,θ,reduceCtorEq,bKC,bJT,s1',s2',s3',s4',s5',s6',nL]
        exact bad _ _ (by rw[he,lI Om]; simp only[bJZ]) rfl
      ·have s5':((f.bHT.length:Nat):Int)>4:=by omega
       simp only[go_sem,δ,γ,θ,reduceCtorEq,bKC,bJT,s1',s2',s3',s4',s5',nL]
       exact bad _ _ (by rw[he,lI Om]; simp only[bJZ]) rfl
     ·have s4':((f.bHP.length:Nat):Int)>24:=by omega
      simp only[go_sem,δ,γ,θ,reduceCtorEq,bKC,bJT,s1',s2',s3',s4',nL]
      exact bad _ _ (by rw[he,lI Om]; simp only[bJZ]) rfl
    ·have s3':((f.bHS.length:Nat):Int)>40:=by omega
     simp only[go_sem,δ,γ,θ,reduceCtorEq,bKC,bJT,s1',s2',s3',nL]
     exact bad _ _ (by rw[he,lI Om]; simp only[bJZ]) rfl
   ·have s2':((f.bHQ.length:Nat):Int)>4:=by omega
    simp only[go_sem,δ,γ,θ,reduceCtorEq,bKC,bJT,s1',s2',nL]
    exact bad _ _ (by rw[he,lI Om]; simp only[bJZ]) rfl
  ·have s1':((f.bHY.length:Nat):Int)>4:=by omega
   simp only[go_sem,δ,γ,θ,reduceCtorEq,bKC,bJT,s1',nL]
   exact bad _ _ (by rw[he,lI Om]; simp only[bJZ]) rfl
def lvl (f:aK) (i:Nat):Int:=(f.bHS.map bQ.level).getD i 0
def par (f:aK) (i:Nat):Int:=(f.bHS.map bQ.parent).getD i 0
def aGD (f:aK) (i:Nat):Nat:=(par f i).toNat
def aDP (f:aK) (d:Nat):Nat:=((f.bHP.map cB.machine).getD d 0).toNat
def mdl (f:aK) (d:Nat):Nat:=((f.bHP.map cB.model).getD d 0).toNat
def ext (f:aK) (d:Nat):Int:=(f.bHQ.map cS.bIJ).getD (mdl f d) 0
def uD (f:aK) (v:Nat):Nat:=((f.bHR.map eC.bID).getD v 0).toNat
def bvS:cZ:=⟨[],0,0,0,0,0,0,0,0,[],[],⟨false,[],[]⟩,⟨false,[],[]⟩⟩
def fE (f:aK) (v:Nat):cZ:=f.bHT.getD (uD f v) bvS
def upN (f:aK):Nat→Nat→Nat
 | 0,i=>i
 | k+1,i=>aGD f (upN f k i)
theorem nK {α β:Type} {l:List α} {g:α→β} {i:Nat} {b:β} (h:i<l.length):(l.map g).getD i b=g l[i]:=by
 simp[bKO,h]
structure VF (f:aK):Prop where
 small:Small f
 root:0<f.bHS.length∧lvl f 0=0∧par f 0=-1
 dom:∀ i,0<i→i<f.bHS.length→0≤par f i∧aGD f i<i∧lvl f (aGD f i)=lvl f i-1∧1≤lvl f i∧lvl f i≤4
 drive:∀ d (h:d<f.bHP.length),0≤(f.bHP[d]).model∧mdl f d<f.bHQ.length∧0≤(f.bHP[d]).machine∧aDP f d<f.bHS.length∧lvl f (aDP f d)=4
 bID:∀ p∈f.bHT,1≤p.k∧p.k≤6∧0≤p.m∧p.m≤4∧p.k+p.m≤8∧p.s0=0∧(∀ l,0≤p.spread l∧p.spread l≤8)∧∀ m∈p.bHQ,0≤m∧m<f.bHQ.length
 volume:∀ v (h:v<f.bHR.length),0≤(f.bHR[v]).bID∧uD f v<f.bHT.length
 model:∀ m∈f.bHQ,1≤m.bIJ∧m.bIJ≤16
theorem boL {p:cZ} {n:Nat} (h:jB n p=true):∀ m∈p.bHQ,0≤m∧m<n:=by
 intro m hm
 simp only[jB,bKR] at h
 obtain⟨i,hi,rfl⟩:=bMA hm
 have:=bKQ.1 h.2 i (bLI.2 hi)
 rw[bKR] at this
 have h1:=within_iff.1 this.1
 simp only[bKO,bKD hi,bMJ] at h1
 omega
theorem aiW {x:Int} (h1:1≤x) (h2:x≤4):IntKind.i64.wrap (x-1)=x-1:=wrap_i64 Om Om
theorem VF.of {f:aK} (h:dL f=true):VF f:=by
 simp only[dL,bKR] at h
 obtain⟨⟨⟨hs,hd⟩,⟨⟨⟨hlaw,hmod⟩,hdrv⟩,hpol⟩,hvol⟩,-⟩:=h
 simp only[lH,bKR,decide_eq_true_eq] at hs
 obtain⟨⟨⟨⟨⟨⟨s0,s1⟩,s2⟩,s3⟩,s4⟩,s5⟩,s6⟩:=hs
 cases hdm:f.bHS with
 | nil=>rw[mJ,hdm] at hd; cases hd
 | cons r t =>
  rw[mJ,hdm] at hd
  simp only[yF,bKR,decide_eq_true_eq] at hd
  obtain⟨⟨⟨⟨⟨⟨r1,r2⟩,r3⟩,r4⟩,r5⟩,r6⟩,bJG⟩:=hd
  have hlen:f.bHS.length=t.length+1:=by rw[hdm]; rfl
  refine⟨⟨s1,s2,s3,s4,s5,s6⟩,⟨by omega,by rw[lvl,hdm]; exact r2,by rw[par,hdm]; exact r3⟩,?_,?_,?_,?_,?_⟩
  ·intro i h0 hi
   obtain⟨k,rfl⟩:∃ k,i=k+1:=⟨i-1,by omega⟩
   have hk:k<t.length:=by omega
   have:=bKQ.1 bJG k (bLI.2 hk)
   rw[bKD hk] at this
   simp only[FS,bKR,decide_eq_true_eq] at this
   obtain⟨⟨⟨⟨d1,d2⟩,d3⟩,d4⟩,d5⟩:=this
   obtain⟨p0,p1⟩:=within_iff.1 d1
   obtain⟨l1,l4⟩:=within_iff.1 d3
   have e1:par f (k+1)=(t[k]).parent:=by rw[par,hdm]; simp[bKO,hk]
   have e2:lvl f (k+1)=(t[k]).level:=by rw[lvl,hdm]; simp[bKO,hk]
   rw[aiW l1 l4] at d2
   have e3:lvl f (t[k]).parent.toNat=(t[k]).level-1:=d2
   refine⟨by rw[e1]; exact p0,?_,?_,by rw[e2]; exact l1,by rw[e2]; exact l4⟩
   ·rw[aGD,e1]; omega
   ·rw[aGD,e1,e2]; exact e3
  ·intro d hd
   have:=bKQ.1 hdrv _ (bJX hd)
   simp only[gQ,bKR,decide_eq_true_eq] at this
   obtain⟨⟨d1,d2⟩,d3⟩:=this
   have a1:=within_iff.1 d1
   have a2:=within_iff.1 d2
   have e1:mdl f d=(f.bHP[d]).model.toNat:=by rw[mdl,nK hd]
   have e2:aDP f d=(f.bHP[d]).machine.toNat:=by rw[aDP,nK hd]
   refine⟨a1.1,by rw[e1]; omega,a2.1,by rw[e2]; omega,by rw[e2]; exact d3⟩
  ·intro p hp
   have h1:=bKQ.1 hpol p hp
   have h2:=boL h1
   simp only[jB,HO,bKR,decide_eq_true_eq,List.all_cons,List.all_nil,bLT] at h1
   obtain⟨⟨⟨⟨⟨⟨⟨⟨k1,m1⟩,km⟩,q1⟩,z0⟩,sp⟩,-⟩,-⟩,-⟩:=h1
   obtain⟨g0,g1,g2,g3,g4⟩:=sp
   have b1:=within_iff.1 k1
   have b2:=within_iff.1 m1
   have b3:=within_iff.1 g0
   have b4:=within_iff.1 g1
   have b5:=within_iff.1 g2
   have b6:=within_iff.1 g3
   have b7:=within_iff.1 g4
   refine⟨b1.1,b1.2,b2.1,b2.2,km,z0,fun l=>?_,h2⟩
   unfold cZ.spread
   split<;>omega
  ·intro v hv
   have:=bKQ.1 hvol _ (bJX hv)
   have a1:=within_iff.1 this
   have e1:uD f v=(f.bHR[v]).bID.toNat:=by rw[uD,nK hv]
   exact⟨a1.1,by rw[e1]; omega⟩
  ·intro m hm
   have:=bKQ.1 hmod m hm
   simp only[jF,bKR] at this
   exact within_iff.1 this.1.1
def bqU (f:aK) (d:Nat) (level:Int):Nat:=upN f (4-level.toNat) (aDP f d)
def fC (f:aK) (v:Nat):Int:=(fE f v).k+(fE f v).m
def asE:Rg:=[iA 1 (.box true (Tm 0)),iT 2 false]
def asF:Rg:=[iO 3 7 1,iK 4 96 3,iC 5 .eql 4 0,iM 2 5]
def BF:aC:=(sq asE (sq asF .ret))
def baI:List Nat:=[1]
def PS:aW:=⟨1,6,BF,[.tmp 2]⟩
def aIX:Rg:=[iA 2 (.box true (Tm 0)),iI 4 0]
def aIY:Rd:=[(iF 6 5 2,false),(iL 7 6,false),(iF 8 6 2,false),(iL 9 8,false),(iM 10 1,false),(iX 11 2 9 10,false),(iF 12 1 11,false),(iL 13 12,false),(iX 14 17 7 13,false),(iO 15 17 14,false),(iA 5 (.alloc [(.str []),(.int .i64 0),(.int .i64 0),(.int .i64 0),(.int .i64 0),(.int .i64 0),(.int .i64 0),(.int .i64 0),(.int .i64 0),.aB,.aB,(.bool false),.aB,.aB,(.bool false),.aB,.aB]),true),(iS 17 5 15,true)]
def aIZ:Rg:=[iF 16 1 5,iL 17 16,iF 18 2 5,iL 19 18,iB 20 .add 17 19,iM 4 20]
def IM:aC:=(sq aIX (dq aIY (sq aIZ .ret)))
def aJA:List Nat:=[2]
def zA:aW:=⟨2,21,IM,[.tmp 4]⟩
def arY:Rg:=[iA 3 (.box true (Tm 0)),iA 6 (.alloc [(.int .i64 0),(.int .i64 0),(.int .i64 0)]),iT 7 false]
def arZ:Rd:=[(iM 10 1,true),(iM 11 2,true),(iX 12 1 10 11,true),(iL 13 12,true),(iN 14 13,true),(iO 15 7 3,false),(iM 16 2,false),(iK2 17 156 15 16,true),(iB 18 .neq 14 17,false)]
def asA:Rg:=[iM 19 2,iM 20 1,iM 21 2,iX 22 1 20 21,iL 23 22,iN 24 23,iA 25 (.build [(.int .i64 0),(.int .i64 0),(.int .i64 0)] [(0,1,(Ci 1)),(1,1,(Tm 19)),(2,1,(Tm 24))]),iS 3 6 25,iT 7 true]
def asB:Rg:=[iM 26 1,iM 27 2,iX 28 1 26 27,iL 29 28,iN 30 29,iI 31 0]
def asC:Rg:=[iB 32 .lss 31 30]
def zB:Rg:=[iM 33 31,iX 34 1 29 31,iL 35 34,iM 8 33,iM 9 35]
def zC:Rg:=[iM 36 9,iC 37 .lss 36 (-1),iM 38 37,gM 39 9 38 false,gF 40 4 3 38 false,gL 41 40 38 false,gN 42 41 38 false,gB 43 .geq 39 42 38 false,iQ 44 38 43]
def PR:Rg:=[iM 45 2,iM 46 8,iA 47 (.build [(.int .i64 0),(.int .i64 0),(.int .i64 0)] [(0,1,(Ci 1)),(1,1,(Tm 45)),(2,1,(Tm 46))]),iS 3 6 47,iT 7 true]
def asD:Rg:=[iC 48 .add 31 1,iM 31 48]
def arX:aC:=(sq asC (.seq (.cond (Tm 32) .skip (.exit 0)) (.seq (.block 1 (sq zB (sq zC (.cond (Tm 44) (sq PR .ret) .skip)))) (.region asD))))
def agM:Rg:=[iA 49 (.build [(.int .i64 0),(.int .i64 0),(.int .i64 0)] []),iS 3 6 49,iT 7 false]
def BE:aC:=(sq arY (.seq (dq arZ (.cond (Tm 18) (sq asA .ret) .skip)) (.seq (sq asB (.block 0 (.loop arX))) (sq agM .ret))))
def baG:List Nat:=[3]
def xP:aW:=⟨3,50,BE,[.cell 6 (some 3),.tmp 7]⟩
def agC:Rg:=[iA 2 (.box true (Tm 0)),iT 4 false]
def agD:Rg:=[iO 8 7 2,iK 9 161 8,iA 10 (.un .not (Tm 9)),iM 11 10,gM 12 1 11 false,gN 13 12 11 false,gF 14 6 2 11 false,gL 15 14 11 false,gN 16 15 11 false,gB 17 .neq 13 16 11 false,iQ 18 11 17]
def IJ:Rg:=[iT 4 false]
def agE:Rg:=[iM 19 1,iN 20 19,iI 21 0]
def agF:Rg:=[iB 22 .lss 21 20]
def agG:Rg:=[iM 23 21,iM 5 23]
def agH:Rg:=[iO 25 7 2,iM 26 1,iM 27 5,iA 28 (.call 160 [(Tm 25),(Tm 26),(Tm 27)]),iM 24 28,iE 29 24 0,iE 30 24 1,iA 6 (.alloc [(.int .i64 0),(.int .i64 0),(.int .i64 0)]),iS 3 6 29,iM 7 30]
def IK:Rg:=[iM 31 7]
def agI:Rg:=[iT 4 false]
def agJ:Rg:=[iC 32 .add 21 1,iM 21 32]
def VJ:aC:=(sq agF (.seq (.cond (Tm 22) .skip (.exit 0)) (.seq (.block 1 (sq agG (sq agH (sq IK (.cond (Tm 31) (sq agI .ret) .skip))))) (.region agJ))))
def VK:Rg:=[iT 4 true]
def xO:aC:=(sq agC (.seq (sq agD (.cond (Tm 18) (sq IJ .ret) .skip)) (.seq (sq agE (.block 0 (.loop VJ))) (sq VK .ret))))
def a3D:List Nat:=[2]
def DT:aW:=⟨2,33,xO,[.tmp 4]⟩
theorem baH {C:Ctx} (h:∀ f:aK,f.Ok→aE C 96 [.agg f.cells] .nil (aD (.int .i64 (pJ f)))) (f:aK) (hf:f.Ok) :
  BF.wp C (aT PS.res (bY (.bool (dL f)))) (PF.args [.agg f.cells]) .nil:=by
 simp only[go_sem,δ,γ,BF,asE,asF,PS]
 refine aA (h f hf) rfl ?_
 simp only[go_sem,γ]
 refine bA rfl ?_
 unfold pJ
 cases dL f<;>rfl
theorem aoH {f:aK} {d:Nat} (h:d<f.bHP.length):(f.bHP.map cB.cells)[d]?=some (f.bHP[d]).cells:=by simp[h]
theorem uM {f:aK} {d:Nat} (h:d<f.bHS.length):(f.bHS.map bQ.cells)[d]?=some (f.bHS[d]).cells:=by simp[h]
theorem vC {f:aK} {d:Nat} (h:d<f.bHR.length):(f.bHR.map eC.cells)[d]?=some (f.bHR[d]).cells:=by simp[h]
theorem oR {f:aK} {d:Nat} (h:d<f.bHT.length):(f.bHT.map cZ.cells)[d]?=some (f.bHT[d]).cells:=by simp[h]
theorem a7X {f:aK} {d:Nat} (h:d<f.bHQ.length):(f.bHQ.map cS.cells)[d]?=some (f.bHQ[d]).cells:=by simp[h]
theorem VF.brX {f:aK} (h:VF f) {d:Nat} (hd:d<f.bHP.length):(f.bHP[d]).model=((mdl f d:Nat):Int):=by
 have:=(h.drive d hd).1
 rw[mdl,nK hd]; omega
theorem VF.afD {f:aK} (h:VF f) {v:Nat} (hv:v<f.bHR.length):(f.bHR[v]).bID=((uD f v:Nat):Int):=by
 have:=(h.volume v hv).1
 rw[uD,nK hv]; omega
theorem sA {f:aK} (h:VF f) {v:Nat} (hv:v<f.bHR.length):∃ hp:uD f v<f.bHT.length,f.bHT[uD f v]=fE f v:=by
 have hp:=(h.volume v hv).2
 exact⟨hp,by simp[fE,bKO,hp]⟩
theorem aIW {C:Ctx} (f:aK) (hv:VF f) (v:Nat) (h:v<f.bHR.length) :
  IM.wp C (aT zA.res (bY (.int .i64 (fC f v)))) (PF.args [.agg f.cells,.int .i64 v]) .nil:=by
 obtain⟨hp,he⟩:=sA hv h
 have hpol:=hv.bID _ (bJX hp)
 rw[he] at hpol
 have hw:IntKind.i64.wrap ((fE f v).k+(fE f v).m)=(fE f v).k+(fE f v).m:=wrap_i64 Om Om
 simp only[go_sem,IM,aIX,zA]
 refine bR .nil eG PH.nil_le ?_
 simp only[go_sem,δ,γ,θ,aIY,vC h,hv.afD h,oR hp,he]
 refine aR fun o ho=>?_
 simp only[go_sem,δ,γ,θ,aIZ,hw]
 refine⟨PH.nil_le,?_⟩
 exact kW (n:=(fE f v).k+(fE f v).m) rfl rfl
def pick (n:Nat) (p:Nat→Bool):List Int:=((bJU n).filter p).map fun (i:Nat)=>(i:Int)
theorem a1C (l:List Int) (x:Int):bD l++[[.int .i64 x]]=bD (l++[x]):=by unfold bD; rw[bLW]; rfl
theorem dO (l:List Int):(bD l).length=l.length:=by unfold bD; rw[bJT]
def toS (f:aK):Spec:=fun name vs=>match name,vs with
 | 155,[_,.int _ d,.int _ l]=>some ([],fun _=>aD (.int .i64 (bqU f d.toNat l:Nat)))
 | 156,[_,.int _ v]=>some ([],fun _=>aD (.int .i64 (fC f v.toNat)))
 | _,_=>none
theorem biM (f:aK) (v:Nat):toS f 156 [.agg f.cells,.int .i64 v]=some ([],fun _=>aD (.int .i64 (fC f v))):=rfl
section
variable (o s:Nat) (rs:List (List PV))
@[go_sem] theorem bBS (k:IntKind) (n:Int):PV.frz o s rs (.int k n)=.int k n:=(rfl)
@[go_sem] theorem bwU (b:Bool):PV.frz o s rs (.bool b)=.bool b:=(rfl)
@[go_sem] theorem bBW (l:List UInt8):PV.frz o s rs (.str l)=.str l:=(rfl)
@[go_sem] theorem bwV:PV.frz o s rs .aB=.aB:=(rfl)
@[go_sem] theorem bGB (n:Nat) (r:List (List PV)):PV.frz o s rs (.sl n r)=.sl n r:=(rfl)
@[go_sem] theorem bwW (c:List PV):PV.frz o s rs (.bH c)=.bH c:=(rfl)
@[go_sem] theorem bBV (q z i c:Nat):PV.frz o s rs (.ptr q z i c)=.ptr q z i c:=(rfl)
@[go_sem] theorem bGA (n:Nat) (c:List PV):PV.frz o s rs (.fn n c)=.fn n c:=(rfl)
@[go_sem] theorem bBT (q:Nat):PV.frz o s rs (.map q)=.map q:=(rfl)
@[go_sem] theorem bBU (q z off len:Nat):PV.frz o s rs (.osl q z off len)=if q=o then (if z=s∧off+len≤rs.length then .sl s ((rs.drop off).take len) else .junk) else .osl q z off len:=(rfl)
end
def kK (s:Nat) (rows:List (List PV)) (r:PV) (H:PH):Prop :=
 (rows=[]∧r=.aB∧H=PH.nil)∨∃ q rs,r=.osl q s 0 rows.length∧H=PH.nil.set q (.rows s rs)∧rows.length≤rs.length∧rs.take rows.length=rows
theorem aQD (q s:Nat) (rs:List (List PV)):(PH.nil.set q (.rows s rs)).frz q s rs=PH.nil:=PH.ext fun o=>by
 rw[vW]
 by_cases e:o=q
 ·rw[if_pos e]; rfl
 ·rw[if_neg e,bS,if_neg e]; rfl
section
variable {C:Ctx} {K:cN} {F:PF} {H:PH} {s:Nat} {v:PV} {rows:List (List PV)}
theorem kK.eJ {r:PV} {H':PH} (h:kK s rows r H') (ha:kJ H .nil H'):bL (H.eJ .nil H') s r rows∧∀ o x,H o=some x→(H.eJ .nil H') o=some x:=by
 rcases h with ⟨h1,h2,rfl⟩ | ⟨q,rs,h1,rfl,h3,h4⟩
 ·rw[PH.kV]; exact⟨.inl ⟨h1,h2⟩,fun o x h=>h⟩
 ·rw[PH.kD]
  have hq:H q=none:=ha q (.rows s rs) (by simp only[bS,if_true]) rfl
  refine⟨.inr ⟨q,rs,h1,by simp only[bS,if_true],h3,h4⟩,fun o x ho=>?_⟩
  have:o≠q:=by rintro rfl; rw[hq] at ho; cases ho
  simp only[bS,if_neg this,ho]
theorem HY {t:Nat} {e:lJ} (he:e=.normal∨e=.ret) (h:bL H s v rows) (ht:F t=some v):aT [.tmp t] (kK s rows) e F H:=by
 rcases h with ⟨rfl,rfl⟩ | ⟨q,rs,rfl,h1,h2,h3⟩
 ·exact aX (vs:=[.aB]) he .nil (by rw[kX,nY,ht,pV]) PH.nil_le (.inl ⟨rfl,rfl,rfl⟩)
 ·exact aX (vs:=[.osl q s 0 rows.length]) he (PH.nil.set q (.rows s rs)) (by rw[kX,nY,ht,pV]) (PH.aI PH.nil_le h1) (.inr ⟨q,rs,rfl,rfl,h2,h3⟩)
theorem DO {t:Nat} {e:lJ} (he:e=.normal∨e=.ret) (ht:F t=some .aB):aT [.tmp t] (kK s []) e F H:=HY he .nil ht
theorem a9O {t:Nat} {e:lJ} {r:PV} {H':PH} (he:e=.normal∨e=.ret) (h:kK s rows r H') (ht:F t=some r):aT [.tmp t] (kK s rows) e F (H.eJ .nil H'):=by
 refine aX (vs:=[r]) he H' (by rw[kX,nY,ht,pV]) (fun o x ho=>?_) h
 rw[mD,ho]
theorem aE.freeze {name:Nat} {args:List PV} (h:aE C name args H (kK s rows)):aE C name args H (aD (.sl s rows)) :=
 ⟨h.1,fun E w vs hN hW hvs=>(h.2 E w vs hN hW hvs).mono fun e w' he=>by
  obtain⟨u,pv,E',H',rfl,hW',hr,hE,hp⟩:=he
  rcases hp with ⟨rfl,rfl,rfl⟩ | ⟨q,rs,rfl,rfl,h3,h4⟩
  ·exact⟨u,_,E',_,rfl,hW',(Co.nil s).sound hr,hE,rfl,rfl⟩
  ·have hz:iW (PF.nil.set 0 (.osl q s 0 rows.length)) (PH.nil.set q (.rows s rs)) _ _:=.step q (s:=s) (rs:=rs) (by simp only[bS,if_true]) (.refl _ _)
   obtain⟨E2,k1,k2,k3⟩:=hz.sound hW'
   have bJO:=k3 (fun _=>u) (fun i p hi=>by
    rw[nA] at hi
    split at hi
    ·cases hi; exact hr
    ·cases hi) 0 (.sl s rows) (by rw[qO,nA,if_pos rfl,bLF,nJ h3,h4])
   rw[aQD] at k1 k2
   exact⟨u,_,E2,_,rfl,k1,bJO,hE.trans k2,rfl,rfl⟩⟩
theorem eI.of:∀ {E:Env} (ps:List PV) (vs:List Value),vs.length=ps.length→(∀ (i:Nat) p v,ps[i]?=some p→vs[i]?=some v→aY E p v)→eI E ps vs
 | _,[],[],_,_=>.nil
 | _,[],_::_,h,_=>by simp at h
 | _,_::_,[],h,_=>by simp at h
 | _,p::ps,v::vs,h,k=>.cons (k 0 p v rfl rfl) (eI.of ps vs (by simpa using h) fun i q u a b=>k (i+1) q u (by simpa using a) (by simpa using b))
theorem bM.same {E:Env} {w w':World} (hW:bM E H w) (hs:w.heap.size≤w'.heap.size) (hb:∀ b,b<w.heap.size→H b=none→w'.heap[b]?=w.heap[b]?) (hH:∀ o x,H o=some x→w'.heap[o]?=w.heap[o]?):bM E H w':=by
 have key:∀ b,b<w.heap.size→w'.heap[b]?=w.heap[b]?:=fun b hlt=>by
  cases e:H b with
  | none=>exact hb b hlt e
  | some x=>exact hH b x e
 refine⟨fun b cs h=>?_,fun o x h=>?_,fun o n h=>?_⟩
 ·obtain⟨h1,ty,fr,h2⟩:=hW.g b cs h
  exact⟨h1,ty,fr,(key b (bND.1 h2).1).trans h2⟩
 ·obtain⟨h1,h2⟩:=hW.h o x h
  exact⟨Nat.lt_of_lt_of_le h1 hs,h2.mono (.refl E) (key o h1)⟩
 ·obtain⟨cur,ty,fr,h1,h2⟩:=hW.s o n h
  exact⟨cur,ty,fr,(key o (bND.1 h1).1).trans h1,h2⟩
inductive Plain:PV→Prop
 | int (k:IntKind) (n:Int):Plain (.int k n)
 | bool (b:Bool):Plain (.bool b)
 | str (l:List UInt8):Plain (.str l)
theorem Plain.rep {v:PV} (h:Plain v) {E E':Env} {u:Value} (r:aY E v u):aY E' v u:=by
 cases h<;>cases r
 ·exact .int _ _
 ·exact .bool _
 ·exact .str _
theorem aE.bgG {name o:Nat} {rs:List (List PV)} {args:List PV} (hv:Plain v) (h:aE C name (args.map (PV.frz o s rs)) .nil (aD v)) :
  aE C name args (PH.nil.set o (.rows s rs)) (fun r H'=>r=v∧H'=PH.nil.set o (.rows s rs)):=by
 refine⟨h.1,fun E w vs hN hW hvs=>?_⟩
 have hz:iW (PF.args args) (PH.nil.set o (.rows s rs)) _ _:=.step o (s:=s) (rs:=rs) (by simp only[bS,if_true]) (.refl _ _)
 obtain⟨E1,k1,k2,k3⟩:=hz.sound hW
 rw[aQD] at k1 k2
 have hlen:=hvs.len
 have hvs1:eI E1 (args.map (PV.frz o s rs)) vs.toList:=by
  refine eI.of _ _ (by rw[bJT]; exact hlen) fun i p u hp hu=>?_
  have:=k3 (fun i=>(vs.toList[i]?).getD undef) (fun j q hj=>by
   have hjl:=(bKV.1 hj).1
   have hjv:j<vs.toList.length:=by omega
   simp only[bKD hjv,bMJ]
   exact hvs.at_ j q _ hj (bKD hjv)) i p (by rw[qO,args_at,← bKZ]; exact hp)
  simp only[hu,bMJ] at this
  exact this
 refine (h.2 E1 w vs (k2.env.num.trans hN) k1 hvs1).mono fun e w' he=>?_
 obtain⟨u,pv,E2,H2,rfl,hW2,hr,hE,rfl,rfl⟩:=he
 have hblk:∀ b,b<w.heap.size→w'.heap[b]?=w.heap[b]?:=fun b hb=>hE.block b hb rfl
 refine⟨u,pv,E,_,rfl,hW.same hE.size (fun b hb _=>hblk b hb) (fun q x hq=>hblk q (hW.h q x hq).1),hv.rep hr,⟨.refl E,hE.os,hE.tape,hE.output,hE.size,fun b hb _=>hblk b hb,fun q x hq=>.inl ⟨x,hq⟩,fun b cs hb=>.inl hb⟩,rfl,rfl⟩
theorem CG {name o:Nat} {rs:List (List PV)} {args:List aP} {vs:List PV} {d:Option Nat} {K:PF→PH→Prop} (hv:Plain v) (h:aE C name (vs.map (PV.frz o s rs)) .nil (aD v)) (ho:H o=some (.rows s rs)) (ha:aP.evs F args=some vs)
  (hk:K (F.put d v) H):fP C name args [] d K F H:=by
 refine eR (h.bgG hv) ha (PH.aI PH.nil_le ho) ?_
 rintro r H' ⟨rfl,rfl⟩ -
 rw[PH.OL _ (PH.aI PH.nil_le ho)]
 exact hk
theorem beI {Hs:PH} {S:Spec} {name o:Nat} {rs:List (List PV)} {vs:List PV} {R:PH→PV→PH→Prop} {args:List aP} {st:Bool} {d:Option Nat} {K:PF→PH→Prop} (hS:S name vs=some ([o],R)) (hv:Plain v) (ho:H o=some (.rows s rs))
  (h:aE C name (vs.map (PV.frz o s rs)) .nil (aD v)) (hR1:R (PH.nil.set o (.rows s rs)) v (PH.nil.set o (.rows s rs))) (hR2:∀ r H',R (PH.nil.set o (.rows s rs)) r H'→r=v∧H'=PH.nil.set o (.rows s rs)) (ha:aP.evs F args=some vs) (hle:Hs.le H) (hk:K (F.put d v) H) :
  dOp C Hs S st (.call name args) d K F H:=WN hS ho (h.bgG hv) hR1 hR2 ha hle hk
theorem awG {name t:Nat} {R:PV→PH→Prop} {d:Option Nat} {K:PF→PH→Prop} (h:aE C name [.sl s rows] .nil R) (hO:bL H s v rows) (ht:F t=some v)
  (hK:∀ (F1:PF) (H1:PH),(∀ i u,F i=some u→Pure u→F1 i=some u)→∀ r H',R r H'→kJ H1 .nil H'→K (F1.put d r) (H1.eJ .nil H')):fP C name [.tmp t] [] d K F H:=by
 rcases hO with ⟨rfl,rfl⟩ | ⟨q,rs,rfl,h1,h2,h3⟩
 ·exact .inl ⟨[.aB],.nil,R,by rw[wP,acB,ht,SA]; rfl,PH.nil_le,h.a2V (.inl ⟨rfl,rfl⟩),hK F H fun i u hi _=>hi⟩
 ·refine .inr ⟨_,_,.step q h1 (.refl _ _),[.sl s rows],.nil,R,?_,PH.nil_le,h,hK _ _ fun i u hi hp=>?_⟩
  ·simp only[wP,SA,acB,qO,ht,bLF,nJ h2,h3,bLM]
  ·rw[qO,hi,bLF,hp q s rs]
end
theorem a7K (l:List Int) (i:Nat) (x:Int):(bD l).set i [.int .i64 x]=bD (l.set i x):=by unfold bD; rw[List.map_set]
def rB (f:aK) (room:List Int) (d:Nat):Int:=if room.length=f.bHP.length then min (max (room.getD d 0) 0) (ext f d) else ext f d
def fK (f:aK) (room:List Int):List Int:=(bJU f.bHP.length).map (rB f room)
def afO (f:aK) (room:List Int):List Int:=if dL f then fK f room else []
theorem PA (f:aK) (room:List Int):(fK f room).length=f.bHP.length:=by simp[fK]
theorem aHP (f:aK) (room:List Int) {d:Nat} (h:d<(fK f room).length):(fK f room)[d]=rB f room d:=by simp[fK]
theorem VF.a6S {f:aK} (h:VF f) {d:Nat} (hd:d<f.bHP.length):∃ hm:mdl f d<f.bHQ.length,(f.bHQ[mdl f d]).bIJ=ext f d:=by
 have hm:=(h.drive d hd).2.1
 exact⟨hm,by rw[ext,nK hm]⟩
theorem bnR (a b:Int):(if b<a then b else a)=min a b:=by
 rw[Int.min_def]
 by_cases h:b<a
 ·rw[if_pos h,if_neg Om]
 ·rw[if_neg h,if_pos Om]
abbrev lay (l:List (List Int)):PV:=.sl 1 (l.map fun r=>[ints r])
def bBF (n:Nat) (xs:List Int):List Int:=(bJU n).map fun (d:Nat)=>((xs.count (d:Int):Nat):Int)
def brV (f:aK) (l:List (List Int)):List Int:=bBF f.bHP.length l.flatten
structure fI (l:List (List Int)):Prop where
 rows:l.length≤16777216
 all:l.flatten.length≤16777216
theorem MN (l:List (List Int)) {i:Nat} (h:i<l.length):(l.take (i+1)).flatten=(l.take i).flatten++l[i]:=by
 rw[bLK h,List.flatten_append]
 simp only[bNG,List.flatten_nil,bLM]
theorem azM (l:List (List Int)) (i:Nat):(l.take i).flatten.length≤l.flatten.length:=by
 have:l.flatten=(l.take i).flatten++(l.drop i).flatten:=by rw[← List.flatten_append,bMF]
 rw[this,bKA]; omega
structure axG where
 kind:Int
 vol:Int
 wher:Int
abbrev axG.cells (x:axG):List PV:=[.int .i64 x.kind,.int .i64 x.vol,.int .i64 x.wher]
def fV (p:Int→Bool):List Int→Nat→Option Nat
 | [],_=>none
 | x::t,i=>if p x then some i else fV p t (i+1)
def jS (f:aK) (d:Int):Bool:=decide (d < -1)||decide (d≥(f.bHP.length:Nat))
def lZ (f:aK) (l:List (List Int)) (v:Nat):Option axG :=
 if ((l.getD v []).length:Int)=fC f v then (fV (jS f) (l.getD v []) 0).map fun (i:Nat)=>⟨1,v,i⟩ else some ⟨1,v,((l.getD v []).length:Nat)⟩
def shV:Option axG→PV
 | some x=>.tup [.agg x.cells,.bool true]
 | none=>.tup [.agg [.int .i64 0,.int .i64 0,.int .i64 0],.bool false]
def biO (f:aK) (o:Nat) (v:Nat) (row:List Int) (k:Nat):PF:=((((((PF.nil.set 2 (.int .i64 v)).set 3 (.bH f.cells)).set 6 (.ptr o 3 0 0)).set 29 (ints row)).set 30 (.int .i64 (row.length:Nat))).set 31 (.int .i64 k))
def iU (f:aK) (l:List (List Int)):Bool:=dL f&&decide (l.length=f.bHR.length)&&(bJU l.length).all fun v=>(lZ f l v).isNone
def tSF (f:aK) (l:List (List Int)) (k:Nat):PF:=((((PF.nil.set 1 (lay l)).set 2 (.bH f.cells)).set 20 (.int .i64 (l.length:Nat))).set 21 (.int .i64 k))
section
variable {C:Ctx} {F:PF} {H:PH}
theorem bL.ne {s s':Nat} {v:PV} {rows:List (List PV)} {o:Nat} {y:List (List PV)} (h:bL H s v rows) (ho:H o=some (.rows s' y)) (hs:s≠s'):∀ l,v≠.osl o s 0 l:=by
 intro l e
 rcases h with ⟨_,h2⟩ | ⟨q,rs,h1,h2,_⟩
 ·rw[h2] at e; cases e
 ·rw[h1] at e
  injection e with e1
  subst e1
  rw[ho] at h2
  injection h2 with h2
  injection h2 with h2
  exact hs h2.symm
theorem bL.set {s s':Nat} {v:PV} {rows:List (List PV)} {o:Nat} {y:List (List PV)} {x:cP} (h:bL H s v rows) (ho:H o=some (.rows s' y)) (hs:s≠s'):bL (H.set o x) s v rows:=by
 have hne:=h.ne ho hs
 rcases h with ⟨h1,h2⟩ | ⟨q,rs,h1,h2,h3,h4⟩
 ·exact .inl ⟨h1,h2⟩
 ·refine .inr ⟨q,rs,h1,?_,h3,h4⟩
  have:q≠o:=by rintro rfl; exact hne _ h1
  simp only[bS,if_neg this,h2]
def Dis (s:Nat) (v u:PV):Prop:=∀ q l q' l',v=.osl q s 0 l→u=.osl q' s 0 l'→q≠q'
theorem Dis.nil {s:Nat}:Dis s .aB .aB:=fun _ _ _ _ h=>by cases h
theorem Dis.symm {s:Nat} {v u:PV} (h:Dis s v u):Dis s u v:=fun q l q' l' h1 h2=>(h q' l' q l h2 h1).symm
end
structure Obs where
 o5:Nat
 o7:Nat
 o8:Nat
 oD:Nat
 oB:Nat
structure Obs.Ne (o:Obs):Prop where
 a1:o.o5≠o.oD
 a2:o.o5≠o.oB
 a3:o.o7≠o.oD
 a4:o.o7≠o.oB
 a5:o.o8≠o.oD
 a6:o.o8≠o.oB
 a7:o.oD≠o.oB
structure bdZ (H:PH) (o:Obs) (v:Nat) (p:cZ) (A:List Bool) (D B:List Int):Prop where
 h5:H o.o5=some (.rows 1 [[.int .i64 v]])
 h7:H o.o7=some (.rows 17 [p.cells])
 h8:H o.o8=some (.rows 1 (fR A))
 hD:H o.oD=some (.rows 1 (bD D))
 hB:H o.oB=some (.rows 1 (bD B))
theorem bdZ.keep {H H':PH} {o:Obs} {v:Nat} {p:cZ} {A:List Bool} {D B:List Int} (h:bdZ H o v p A D B) (hk:∀ q s' z,3≠s'→H q=some (.rows s' z)→H' q=some (.rows s' z)):bdZ H' o v p A D B :=
 ⟨hk _ _ _ (by decide) h.h5,hk _ _ _ (by decide) h.h7,hk _ _ _ (by decide) h.h8,hk _ _ _ (by decide) h.hD,hk _ _ _ (by decide) h.hB⟩
def home (row:List Int) (i:Nat):Bool:=decide (row.getD i 0<0)
def brY (f:aK) (p:cZ) (i:Nat):Int:=p.spread (lvl f i).toNat
def mK (down:List Int) (d:Int):Bool:=decide (0≤d)&&down.contains d
def mL (down:List Int) (d:Int):Bool:=decide (0≤d)&&!down.contains d
def tZ (down row:List Int):Bool:=row.any (mK down)
def iR (down row:List Int):Nat:=row.countP (mL down)
def xK (f:aK) (reserve:Int) (down:List Int) (v:Nat) (row:List Int):Bool:=tZ down row&&decide (((iR down row:Nat):Int)<(fE f v).k+reserve)
def yI (f:aK) (now:List (List Int)) (reserve:Int) (down:List Int) (n:Nat):Bool:=(bJU n).all fun v=>!xK f reserve down v (now.getD v [])
def fW (f:aK) (now:List (List Int)) (reserve:Int) (down:List Int):Bool:=yI f now reserve down now.length
def fH (f:aK) (now:List (List Int)) (reserve:Int):Bool:=(dL f&&iU f now)&&(decide (0≤reserve)&&decide (reserve≤4))
theorem acF (f:aK) (now:List (List Int)) (reserve:Int) (down:List Int) (n:Nat):yI f now reserve down (n+1)=(yI f now reserve down n&&!xK f reserve down n (now.getD n [])):=by
 unfold yI
 rw[List.range_succ,List.all_append]
 simp
theorem azJ {f:aK} {now:List (List Int)} {reserve:Int} {down:List Int} {v n:Nat} (h:v<n) (hs:xK f reserve down v (now.getD v [])=true):yI f now reserve down n=false:=by
 unfold yI
 rw[Bool.eq_false_iff,ne_eq,bKQ]
 intro hk
 have:=hk v (bLI.2 h)
 rw[hs] at this
 cases this
theorem apN {down row:List Int} {k:Nat} (h:k<row.length):tZ down (row.take (k+1))=(tZ down (row.take k)||mK down row[k]):=by
 unfold tZ
 rw[bLK h,List.any_append]
 simp
theorem VE {down row:List Int} {k:Nat} (h:k<row.length):iR down (row.take (k+1))=iR down (row.take k)+if mL down row[k] then 1 else 0:=by
 unfold iR
 rw[bLK h,List.countP_append,List.countP_cons,List.countP_nil]
 omega
theorem a2W {f:aK} {l:List (List Int)} (h:iU f l=true):l.length=f.bHR.length:=by
 unfold iU at h
 simp only[bKR,decide_eq_true_eq] at h
 omega
def InR (l:List Int) (n:Nat):Prop:=∀ x∈l,0≤x∧x<(n:Int)
theorem NS:∀ (n:Nat) (l:List Int),l.Nodup→InR l n→l.length≤n
 | 0,l,_,h=>by
  cases l with
  | nil=>exact bJV _
  | cons x l=>have:=h x (by simp); omega
 | n+1,l,hd,h=>by
  by_cases c:(n:Int)∈l
  ·have h1:=NS n (l.erase n) (hd.erase _) fun x hx=>by
    have h2:=h x (List.mem_of_mem_erase hx)
    have h3:x≠n:=fun e=>by
     subst e
     exact hd.not_mem_erase hx
    omega
   rw[List.length_erase_of_mem c] at h1
   omega
  ·have:=NS n l hd fun x hx=>by
    have h2:=h x hx
    have h3:x≠n:=fun e=>c (e ▸ hx)
    omega
   omega
theorem LG:∀ (n:Nat) (l:List Int),l.length=n→l.Nodup→InR l n→∀ d,d<n→(d:Int)∈l
 | 0,_,_,_,_,d,h=>by omega
 | n+1,l,hl,hd,h,d,hdn=>by
  by_cases c:(n:Int)∈l
  ·by_cases e:d=n
   ·subst e; exact c
   ·refine List.mem_of_mem_erase (LG n (l.erase n) (by rw[List.length_erase_of_mem c]; omega) (hd.erase _) (fun x hx=>?_) d Om)
    have h2:=h x (List.mem_of_mem_erase hx)
    have h3:x≠n:=fun e=>by
     subst e
     exact hd.not_mem_erase hx
    omega
  ·have:=NS n l hd fun x hx=>by
    have h2:=h x hx
    have h3:x≠n:=fun e=>c (e ▸ hx)
    omega
   omega
theorem NT:∀ (n:Nat) (l:List Int),l.length=n→(∀ d,d<n→(d:Int)∈l)→l.Nodup∧InR l n
 | 0,l,hl,_=>by
  rw[List.length_eq_zero_iff] at hl
  subst hl
  exact⟨.nil,fun x hx=>by cases hx⟩
 | n+1,l,hl,h=>by
  have c:=h n Om
  obtain⟨h1,h2⟩:=NT n (l.erase n) (by rw[List.length_erase_of_mem c]; omega) fun d hd=>(List.mem_erase_of_ne Om).2 (h d Om)
  have hp:=List.perm_cons_erase c
  refine⟨hp.nodup_iff.2 (List.nodup_cons.2 ⟨fun hm=>?_,h1⟩),fun x hx=>?_⟩
  ·have:=(h2 _ hm).2; omega
  ·rcases bKJ.1 (hp.mem_iff.1 hx) with e | hx
   ·omega
   ·have:=h2 x hx; omega
theorem auQ {n:Nat} {l:List Int} (hl:l.length=n):(∀ d,d<n→(d:Int)∈l)↔l.Nodup∧InR l n:=⟨NT n l hl,fun h=>LG n l hl h.1 h.2⟩
def kR (f:aK) (now:List (List Int)) (r:Int) (l:List Int):Bool:=!l.isEmpty&&fW f now r l
def xU (n:Nat) (all:List Int):Bool:=decide (all.length=n)&&(bJU n).all fun d=>all.contains (d:Int)
def fL (f:aK) (now:List (List Int)) (r:Int) (w:List (List Int)):Bool:=fH f now r&&(xU f.bHP.length w.flatten&&w.all (kR f now r))
def OU (f:aK) (now:List (List Int)) (r:Int) (ws:List (List Int)) (d:Nat):List (List Int):=match ws.findIdx? (fun l=>fW f now r (l++[(d:Int)])) with
 | some i=>ws.set i (ws.getD i []++[(d:Int)])
 | none=>ws++[[(d:Int)]]
def oT (f:aK) (now:List (List Int)) (r:Int):Nat→List (List Int)
 | 0=>[]
 | d+1=>OU f now r (oT f now r d) d
def tA (f:aK) (now:List (List Int)) (r:Int):Bool:=(bJU f.bHP.length).all fun d=>fW f now r [(d:Int)]
theorem JR {n:Nat} {all:List Int}:xU n all=true↔all.length=n∧all.Nodup∧InR all n:=by
 unfold xU
 rw[bKR,decide_eq_true_eq,bKQ]
 constructor
 ·rintro⟨h1,h2⟩
  exact⟨h1,(auQ h1).1 fun d hd=>by
   have:=h2 d (bLI.2 hd)
   exact bNE.1 this⟩
 ·rintro⟨h1,h2⟩
  exact⟨h1,fun d hd=>bNE.2 ((auQ h1).2 h2 d (bLI.1 hd))⟩
theorem set_perm:∀ (ws:List (List Int)) (i:Nat) (x:Int),i<ws.length→((ws.set i (ws.getD i []++[x])).flatten).Perm (ws.flatten++[x])
 | [],i,x,h=>by cases h
 | l::ws,0,x,_=>by
  simp only[List.set_cons_zero,List.getD_cons_zero,bNG,bKU]
  exact List.Perm.append_left _ List.perm_append_comm
 | l::ws,i+1,x,h=>by
  have:=set_perm ws i x (by simpa using h)
  simp only[List.set_cons_succ,List.getD_cons_succ,bNG,bKU]
  exact List.Perm.append_left _ this
structure axJ (f:aK) (now:List (List Int)) (r:Int) (n:Nat) (w:List (List Int)):Prop where
 ok:∀ l∈w,kR f now r l=true
 len:w.flatten.length=n
 nd:w.flatten.Nodup
 rng:InR w.flatten n
theorem axJ.put {f:aK} {now:List (List Int)} {r:Int} {n:Nat} {w:List (List Int)} (h:axJ f now r n w) (ha:fW f now r [(n:Int)]=true):axJ f now r (n+1) (OU f now r w n):=by
 have key:∀ u:List (List Int),u.flatten.Perm (w.flatten++[(n:Int)])→(∀ l∈u,kR f now r l=true)→axJ f now r (n+1) u:=fun u hp hok=>by
  refine⟨hok,by rw[hp.length_eq,bKA,h.len]; rfl,hp.nodup_iff.2 ?_,fun x hx=>?_⟩
  ·rw[bME]
   refine⟨h.nd,by simp,fun a ha b hb=>?_⟩
   rw[bLD] at hb
   subst hb
   have:=h.rng a ha
   omega
  ·have:=hp.mem_iff.1 hx
   rw[bLH,bLD] at this
   rcases this with hx | rfl
   ·have:=h.rng x hx; omega
   ·omega
 unfold OU
 split
 ·rename_i i hi
  obtain⟨hlt,hp,-⟩:=List.findIdx?_eq_some_iff_getElem.1 hi
  refine key _ (set_perm w i n hlt) fun l hl=>?_
  rcases List.mem_or_eq_of_mem_set hl with hl | rfl
  ·exact h.ok l hl
  ·unfold kR
   rw[bKO,bKD hlt,bMJ,hp]
   simp
 ·refine key _ (by rw[List.flatten_append]; simp) fun l hl=>?_
  rw[bLH,bLD] at hl
  rcases hl with hl | rfl
  ·exact h.ok l hl
  ·unfold kR
   rw[ha]; rfl
theorem QY {f:aK} {now:List (List Int)} {r:Int} (ha:tA f now r=true):∀ d,d≤f.bHP.length→axJ f now r d (oT f now r d)
 | 0,_=>⟨(fun l h=>by cases h),rfl,.nil,fun x h=>by cases h⟩
 | d+1,hd=>(QY ha d Om).put (bKQ.1 ha d (bLI.2 Om))
end Go.PM
namespace Go.RO
open Go
theorem MF:∀ {a b:List Int},a.Pairwise (· < ·)→b.Pairwise (· < ·)→(∀ y,y∈a↔y∈b)→a=b
 | [],[],_,_,_=>rfl
 | [],y::ys,_,_,h=>by have:=(h y).2 (by simp); simp at this
 | x::xs,[],_,_,h=>by have:=(h x).1 (by simp); simp at this
 | x::xs,y::ys,ha,hb,h=>by
  rw[List.pairwise_cons] at ha hb
  have e:x=y:=by
   have h1:=(h x).1 (by simp)
   have h2:=(h y).2 (by simp)
   rw[bKJ] at h1 h2
   rcases h1 with h1 | h1
   ·exact h1
   ·rcases h2 with h2 | h2
    ·exact h2.symm
    ·have:=hb.1 x h1; have:=ha.1 y h2; omega
  subst e
  rw[MF ha.2 hb.2 fun z=>?_]
  constructor
  ·intro hz
   have h1:=(h z).1 (by simp[hz])
   rw[bKJ] at h1
   rcases h1 with rfl | h1
   ·have:=ha.1 z hz; omega
   ·exact h1
  ·intro hz
   have h1:=(h z).2 (by simp[hz])
   rw[bKJ] at h1
   rcases h1 with rfl | h1
   ·have:=hb.1 z hz; omega
   ·exact h1
def ins (x:Int):List Int→List Int
 | []=>[x]
 | y::ys=>if y<x then y::ins x ys else if y=x then y::ys else x::y::ys
theorem alP (x z:Int):∀ l,z∈ins x l↔z=x∨z∈l
 | []=>by simp[ins]
 | y::ys=>by
  unfold ins
  split
  ·simp only[bKJ,alP x z ys]
   constructor
   ·rintro (h | h | h)<;>simp[h]
   ·rintro (h | h | h)<;>simp[h]
  ·split
   ·rename_i e; subst e; simp
   ·simp
theorem adJ (x:Int):∀ l:List Int,l.Pairwise (· < ·)→(ins x l).Pairwise (· < ·)
 | [],_=>by simp[ins]
 | y::ys,h=>by
  rw[List.pairwise_cons] at h
  unfold ins
  split
  ·rename_i hlt
   rw[List.pairwise_cons]
   refine⟨fun z hz=>?_,adJ x ys h.2⟩
   rcases (alP x z ys).1 hz with rfl | hz
   ·exact hlt
   ·exact h.1 z hz
  ·rename_i h1
   split
   ·rw[List.pairwise_cons]; exact h
   ·rename_i h2
    rw[List.pairwise_cons,List.pairwise_cons]
    refine⟨fun z hz=>?_,h⟩
    rw[bKJ] at hz
    rcases hz with rfl | hz
    ·omega
    ·have:=h.1 z hz; omega
def tG (out:List Int) (xs:List Int):List Int:=xs.foldl (fun o x=>ins x o) out
theorem adI (z:Int):∀ (xs out:List Int),z∈tG out xs↔z∈out∨z∈xs
 | [],out=>by simp[tG]
 | x::xs,out=>by
  have:=adI z xs (ins x out)
  unfold tG at this ⊢
  rw[List.foldl_cons,this,alP,bKJ]
  constructor
  ·rintro ((h | h) | h)<;>simp[h]
  ·rintro (h | h | h)<;>simp[h]
theorem KW:∀ (xs out:List Int),out.Pairwise (· < ·)→(tG out xs).Pairwise (· < ·)
 | [],out,h=>h
 | x::xs,out,h=>KW xs (ins x out) (adJ x out h)
def srt (xs:List Int):List Int:=xs.mergeSort fun x y=>decide (x≤y)
theorem akZ {zs:List Int} (h:zs.Pairwise (·≤·)):(Lib.compact zs).Pairwise (· < ·):=by
 unfold Lib.compact Lib.compactUpTo
 rw[List.pairwise_map]
 have hr:(bJU zs.length).Pairwise (· < ·):=List.pairwise_lt_range
 have hf:=hr.filter (Lib.keeps zs.toArray)
 refine hf.imp_of_mem fun {i j} hi hj hij=>?_
 rw[List.mem_filter,bLI] at hi hj
 obtain⟨hj1,hj2⟩:=hj
 have k:zs[j]!≠zs[j-1]!:=by
  simp only[Lib.keeps,decide_eq_true_eq] at hj2
  rcases hj2 with h0 | h0
  ·omega
  ·simpa using h0
 have e1:zs[j]! = zs[j]:=by simp[hj1]
 have e2:zs[j-1]! = zs[j-1]:=by simp[show j-1<zs.length by omega]
 have h1:zs[i]≤zs[j-1]:=by
  rcases bKM i (j-1) with hlt | hge
  ·exact List.pairwise_iff_getElem.1 h i (j-1) hi.1 Om hlt
  ·have:i=j-1:=by omega
   subst this
   exact Int.le_refl _
 have h2:zs[j-1]≤zs[j]:=List.pairwise_iff_getElem.1 h (j-1) j Om hj1 Om
 rw[e1,e2] at k
 simp only[List.getElem!_toArray]
 rw[e1,show zs[i]! = zs[i] by simp[hi.1]]
 omega
theorem aNJ (zs:List Int) (y:Int):y∈Lib.compact zs↔y∈zs:=by
 unfold Lib.compact Lib.compactUpTo
 rw[bKX]
 constructor
 ·rintro⟨i,hi,rfl⟩
  rw[List.mem_filter,bLI] at hi
  simp only[List.getElem!_toArray]
  rw[show zs[i]! = zs[i] by simp[hi.1]]
  exact bJX _
 ·intro hy
  obtain⟨i,hi,rfl⟩:=bMA hy
  have key:∀ i,i<zs.length→∃ k,k≤i∧Lib.keeps zs.toArray k=true∧zs[k]! = zs[i]!:=by
   intro i
   induction i with
   | zero=>intro _; exact⟨0,bJV _,by simp[Lib.keeps],rfl⟩
   | succ i ih =>
    intro hi
    by_cases e:zs[i+1]! = zs[i]!
    ·obtain⟨k,h1,h2,h3⟩:=ih Om
     exact⟨k,by omega,h2,h3.trans e.symm⟩
    ·exact⟨i+1,bJV _,by simp[Lib.keeps]; simpa using e,rfl⟩
  obtain⟨k,h1,h2,h3⟩:=key i hi
  refine⟨k,?_,?_⟩
  ·rw[List.mem_filter,bLI]; exact⟨by omega,h2⟩
  ·simp only[List.getElem!_toArray]
   rw[h3]; simp[hi]
theorem a3A (xs:List Int):(srt xs).Pairwise (·≤·):=by
 have:=List.pairwise_mergeSort (le:=fun x y:Int=>decide (x≤y)) (fun a b c h1 h2=>by simp at *; omega) (fun a b=>by simp; omega) xs
 exact this.imp (by simp)
theorem bpC (xs:List Int) (y:Int):y∈srt xs↔y∈xs:=by simp[srt]
theorem aNK (xs:List Int):Lib.compact (srt xs)=tG [] xs :=
 MF (akZ (a3A xs)) (KW xs [] .nil) fun y=>by
  rw[aNJ,bpC,adI]; simp
end Go.RO
namespace Go.PM
open Go Go.Na
def CU (f:aK) (now:List (List Int)) (r:Int) (n:Nat):Bool:=(bJU n).all fun d=>fW f now r [(d:Int)]
theorem aNF (f:aK) (now:List (List Int)) (r:Int) (n:Nat):CU f now r (n+1)=(CU f now r n&&fW f now r [(n:Int)]):=by
 unfold CU
 rw[List.range_succ,List.all_append]
 simp
theorem a5W {f:aK} {now:List (List Int)} {r:Int} {n d:Nat} (h:d<n) (hs:fW f now r [(d:Int)]=false):CU f now r n=false:=by
 unfold CU
 rw[Bool.eq_false_iff,ne_eq,bKQ]
 intro hk
 rw[hk d (bLI.2 h)] at hs
 cases hs
def oH (f:aK) (now:List (List Int)) (r:Int):Int:=if fH f now r then (if tA f now r then 0 else 116) else 1
def kE (f:aK) (now:List (List Int)) (r:Int):List (List Int):=if oH f now r=0 then oT f now r f.bHP.length else []
theorem MH {f:aK} {now:List (List Int)} {r:Int} (h:oH f now r=0):fH f now r=true∧tA f now r=true:=by
 unfold oH at h
 cases hu:fH f now r<;>rw[hu] at h
 ·cases h
 ·cases ha:tA f now r<;>rw[ha] at h
  ·cases h
  ·exact⟨rfl,rfl⟩
def afF:Rg:=[iA 3 (.box true (Tm 0)),iT 6 false]
def afG:Rg:=[iO 7 7 3,iK 8 96 7,iC 9 .eql 8 0,iM 10 9,gO 11 7 3 10 true,gM 12 1 10 true,gK2 13 153 11 12 10 true,iP 14 10 13,iM 15 14,gM 16 2 15 true,gC 17 .geq 16 0 15 true,iP 18 15 17,iM 19 18,gM 20 2 19 true,gC 21 .leq 20 4 19 true,iP 22 19 21,iM 6 22]
def xG:aC:=(sq afF (sq afG .ret))
def a2F:List Nat:=[3]
def DM:aW:=⟨3,23,xG,[.tmp 6]⟩
def aGJ:Rg:=[iA 4 (.box true (Tm 0)),iT 8 false]
def aGK:Rg:=[iM 15 1,iN 16 15,iI 17 0]
def aGL:Rg:=[iB 18 .lss 17 16]
def aGM:Rg:=[iM 19 17,iX 20 1 15 17,iL 21 20,iM 9 19,iM 10 21]
def aGN:Rg:=[iT 11 false,iI 12 0]
def aGO:Rg:=[iM 22 10,iN 23 22,iI 24 0]
def aGP:Rg:=[iB 25 .lss 24 23]
def YR:Rg:=[iX 26 1 22 24,iL 27 26,iM 14 27]
def YS:Rg:=[iM 31 14,iC 32 .lss 31 0,iM 30 32]
def aGQ:Rg:=[iM 34 3,iM 35 14,iK2 36 260 34 35,iM 33 36]
def arB:Rg:=[iT 11 true]
def arC:Rg:=[iM 28 12,iC 29 .add 28 1,iM 12 29]
def yV:Rg:=[iC 37 .add 24 1,iM 24 37]
def aqZ:aC:=(sq aGP (.seq (.cond (Tm 25) .skip (.exit 2)) (.seq (.block 3 (sq YR (.block 4 (sq YS (.cond (Tm 30) .skip (sq aGQ (.cond (Tm 33) (.region arB) (.region arC)))))))) (.region yV))))
def OP:Rd:=[(iM 38 11,false),(iM 39 38,false),(gM 40 12 39 true,false),(gF 41 5 4 39 true,false),(gL 42 41 39 true,false),(gF 43 6 4 39 true,false),(gL 44 43 39 true,false),(gM 45 9 39 true,false),(iG 46 (.bIK 2 (Tm 44) (Tm 45)) 39 true,false),(gF 47 1 46 39 true,false),(gL 48 47 39 true,false),(iG 49 (.bIK 17 (Tm 42) (Tm 48)) 39 true,false),(gF 50 1 49 39 true,false),(gL 51 50 39 true,false),(gM 52 2 39 true,false),(gB 53 .add 51 52 39 true,false),(gB 54 .lss 40 53 39 true,false),(iP 55 39 54,false)]
def arD:Rg:=[iT 8 false]
def OQ:Rg:=[iC 56 .add 17 1,iM 17 56]
def arA:aC:=(sq aGL (.seq (.cond (Tm 18) .skip (.exit 0)) (.seq (.block 1 (sq aGM (sq aGN (.seq (sq aGO (.block 2 (.loop aqZ))) (dq OP (.cond (Tm 55) (sq arD .ret) .skip)))))) (.region OQ))))
def arE:Rg:=[iT 8 true]
def HT:aC:=(sq aGJ (.seq (sq aGK (.block 0 (.loop arA))) (sq arE .ret)))
def bhG:List Nat:=[4]
def afC:aW:=⟨4,57,HT,[.tmp 8]⟩
def bhB:Rg:=[iA 4 (.box true (Tm 0)),iT 8 false]
def bhC:Rg:=[iO 9 7 4,iM 10 1,iM 11 2,iA 12 (.call 250 [(Tm 9),(Tm 10),(Tm 11)]),iM 13 12,gO 14 7 4 13 true,gM 15 1 13 true,gM 16 2 13 true,gM 17 3 13 true,iG 18 (.call 251 [(Tm 14),(Tm 15),(Tm 16),(Tm 17)]) 13 true,iP 19 13 18,iM 8 19]
def a2B:aC:=(sq bhB (sq bhC .ret))
def bhD:List Nat:=[4]
def a2A:aW:=⟨4,20,a2B,[.tmp 8]⟩
def afI:Rg:=[iA 3 (.box true (Tm 0)),iT 6 false]
def afJ:Rg:=[iM 7 2,iC 8 .geq 7 0,iM 9 8,gM 10 2 9 true,gC 11 .leq 10 4 9 true,iP 12 9 11,iM 13 12,gO 14 7 3 13 true,gK 15 258 14 13 true,gC 16 .eql 15 0 13 true,iP 17 13 16,iM 18 17,gO 19 7 3 18 true,gM 20 1 18 true,gK2 21 86 19 20 18 true,iP 22 18 21,iM 6 22]
def xI:aC:=(sq afI (sq afJ .ret))
def a2I:List Nat:=[3]
def DN:aW:=⟨3,23,xI,[.tmp 6]⟩
def aGW:Rg:=[iA 4 (.box true (Tm 0)),iT 8 false]
def aGX:Rg:=[iI 9 0]
def aGY:Rg:=[iM 13 9,iM 14 1,iN 15 14,iB 16 .lss 13 15]
def aGZ:Rg:=[iT 10 false,iI 11 0]
def aHA:Rg:=[iI 12 0]
def aHB:Rg:=[iM 19 12,iM 20 1,iM 21 9,iX 22 1 20 21,iL 23 22,iN 24 23,iB 25 .lss 19 24]
def YU:Rg:=[iM 31 1,iM 32 9,iX 33 1 31 32,iL 34 33,iM 35 12,iX 36 1 34 35,iL 37 36,iC 38 .lss 37 0,iM 30 38]
def aHC:Rg:=[iM 40 3,iM 41 1,iM 42 9,iX 43 1 41 42,iL 44 43,iM 45 12,iX 46 1 44 45,iL 47 46,iK2 48 254 40 47,iM 39 48]
def aHD:Rg:=[iT 10 true]
def aHE:Rg:=[iM 28 11,iC 29 .add 28 1,iM 11 29]
def yW:Rg:=[iM 26 12,iC 27 .add 26 1,iM 12 27]
def arO:aC:=(.seq (sq aHB (.cond (Tm 25) .skip (.exit 2))) (.seq (.block 3 (.block 4 (sq YU (.cond (Tm 30) .skip (sq aHC (.cond (Tm 39) (.region aHD) (.region aHE))))))) (.region yW)))
def arQ:Rg:=[iM 49 10,iM 50 49,gM 51 11 50 true,gO 52 7 4 50 true,gM 53 9 50 true,gK2 54 257 52 53 50 true,gM 55 2 50 true,gB 56 .add 54 55 50 true,gB 57 .lss 51 56 50 true,iP 58 50 57]
def arR:Rg:=[iT 8 false]
def OV:Rg:=[iM 17 9,iC 18 .add 17 1,iM 9 18]
def arP:aC:=(.seq (sq aGY (.cond (Tm 16) .skip (.exit 0))) (.seq (.block 1 (sq aGZ (.seq (sq aHA (.block 2 (.loop arO))) (sq arQ (.cond (Tm 58) (sq arR .ret) .skip))))) (.region OV)))
def arS:Rg:=[iT 8 true]
def HW:aC:=(sq aGW (.seq (sq aGX (.block 0 (.loop arP))) (sq arS .ret)))
def bhM:List Nat:=[4]
def afH:aW:=⟨4,59,HW,[.tmp 8]⟩
def bkN:Rg:=[iA 2 (.box true (Tm 0)),iI 4 0]
def bkO:Rd:=[(iF 5 5 2,false),(iL 6 5,false),(iF 7 6 2,false),(iL 8 7,false),(iM 9 1,false),(iX 10 2 8 9,false),(iF 11 1 10,false),(iL 12 11,false),(iX 13 17 6 12,false),(iF 14 1 13,false),(iL 15 14,false),(iM 4 15,false)]
def amO:aC:=(sq bkN (dq bkO .ret))
def bvV:List Nat:=[2]
def qk:aW:=⟨2,16,amO,[.tmp 4]⟩
def RQ:Rg:=[iA 1 (.box true (Tm 0)),iI 2 0]
def RR:Rg:=[iO 3 7 1,iK 4 67 3,iA 5 (.un .not (Tm 4))]
def RS:Rg:=[iI 2 1]
def RT:Rg:=[iI 2 0]
def sI:aC:=(sq RQ (.seq (sq RR (.cond (Tm 5) (sq RS .ret) .skip)) (sq RT .ret)))
def aNE:List Nat:=[1]
def tT:aW:=⟨1,6,sI,[.tmp 2]⟩
def ON:Rg:=[iT 4 false]
def OO:Rg:=[iM 5 0,iM 6 1,iK2 7 261 5 6,iC 8 .geq 7 0,iM 4 8]
def rZ:aC:=(sq ON (sq OO .ret))
def aGH:List Nat:=[]
def tM:aW:=⟨2,9,rZ,[.tmp 4]⟩
def arG:Rg:=[iI 4 0]
def arH:Rg:=[iM 6 0,iN 7 6,iI 8 0]
def arI:Rg:=[iB 9 .lss 8 7]
def OS:Rg:=[iM 10 8,iM 5 10]
def OT:Rg:=[iM 11 1,iM 12 0,iM 13 5,iX 14 1 12 13,iL 15 14,iB 16 .eql 11 15]
def arJ:Rg:=[iM 17 5,iM 4 17]
def arK:Rg:=[iC 18 .add 8 1,iM 8 18]
def arF:aC:=(sq arI (.seq (.cond (Tm 9) .skip (.exit 0)) (.seq (.block 1 (sq OS (sq OT (.cond (Tm 16) (sq arJ .ret) .skip)))) (.region arK))))
def arL:Rg:=[iI 4 (-1)]
def BC:aC:=(sq arG (.seq (sq arH (.block 0 (.loop arF))) (sq arL .ret)))
def a9E:List Nat:=[]
def OR:aW:=⟨2,19,BC,[.tmp 4]⟩
def aUI:Rg:=[iT 4 false]
def aUJ:Rg:=[iI 5 0]
def aUK:Rg:=[iM 6 5,iM 7 0,iN 8 7,iB 9 .lss 6 8]
def amT:Rg:=[iM 12 0,iM 13 5,iX 14 1 12 13,iL 15 14,iM 16 1,iB 17 .eql 15 16]
def aUL:Rg:=[iT 4 true]
def aUM:Rg:=[iM 10 5,iC 11 .add 10 1,iM 5 11]
def aUG:aC:=(.seq (sq aUK (.cond (Tm 9) .skip (.exit 0))) (.seq (.block 1 (sq amT (.cond (Tm 17) (sq aUL .ret) .skip))) (.region aUM)))
def aUN:Rg:=[iT 4 false]
def OZ:aC:=(sq aUI (.seq (sq aUJ (.block 0 (.loop aUG))) (sq aUN .ret)))
def aUO:List Nat:=[]
def OY:aW:=⟨2,18,OZ,[.tmp 4]⟩
def aII:Rg:=[iA 2 (.box true (Tm 0)),iZ 4]
def aIJ:Rg:=[iO 8 7 2,iK 9 67 8,iA 10 (.un .not (Tm 9))]
def aIK:Rg:=[iZ 4]
def aIL:Rg:=[iZ 5]
def aIM:Rg:=[iI 6 0]
def aIN:Rg:=[iM 11 6,iF 12 4 2,iL 13 12,iN 14 13,iB 15 .lss 11 14]
def aIO:Rd:=[(iF 18 2 2,false),(iL 19 18,false),(iF 20 4 2,false),(iL 21 20,false),(iM 22 6,false),(iX 23 3 21 22,false),(iF 24 1 23,false),(iL 25 24,false),(iX 26 4 19 25,false),(iF 27 1 26,false),(iL 28 27,false),(iM 7 28,false)]
def YX:Rg:=[iM 29 1,iN 30 29,iF 31 4 2,iL 32 31,iN 33 32,iB 34 .eql 30 33]
def aIP:Rg:=[iM 35 1,iM 36 6,iX 37 1 35 36,iL 38 37,iM 39 7,iA 40 (.bIQ false (Tm 38) (Tm 39)),iA 41 (.bIQ true (Ci 0) (Tm 40)),iM 7 41]
def YY:Rg:=[iM 42 5,iM 43 7,iA 44 (.bHV true 1 1 [(.int .i64 0)] [(0,(Tm 43))]),iA 45 (.append 1 8 (Tm 42) (Tm 44)),iM 5 45]
def PN:Rg:=[iM 16 6,iC 17 .add 16 1,iM 6 17]
def arW:aC:=(.seq (sq aIN (.cond (Tm 15) .skip (.exit 0))) (.seq (.block 1 (dq aIO (.seq (sq YX (.cond (Tm 34) (.region aIP) .skip)) (.region YY)))) (.region PN)))
def PO:Rg:=[iM 46 5,iM 4 46]
def IF:aC:=(sq aII (.seq (sq aIJ (.cond (Tm 10) (sq aIK .ret) .skip)) (sq aIL (.seq (sq aIM (.block 0 (.loop arW))) (sq PO .ret)))))
def biI:List Nat:=[2,44]
def afS:aW:=⟨2,47,IF,[.tmp 4]⟩
def aVB:Rg:=[iA 2 (.box true (Tm 0)),iI 4 0]
def aVC:Rg:=[iI 5 0]
def aVD:Rg:=[iM 6 5,iM 7 1,iN 8 7,iB 9 .lss 6 8]
def SQ:Rd:=[(iM 12 1,false),(iM 13 5,false),(iX 14 1 12 13,false),(iL 15 14,false),(iC 16 .lss 15 (-1),false),(iM 17 16,false),(gM 18 1 17 false,false),(gM 19 5 17 false,false),(iG 20 (.bIK 1 (Tm 18) (Tm 19)) 17 false,false),(gL 21 20 17 false,false),(gF 22 4 2 17 false,false),(gL 23 22 17 false,false),(gN 24 23 17 false,false),(gB 25 .geq 21 24 17 false,false),(iQ 26 17 25,false)]
def amU:Rg:=[iM 27 5,iM 4 27]
def aVE:Rg:=[iM 10 5,iC 11 .add 10 1,iM 5 11]
def aVA:aC:=(.seq (sq aVD (.cond (Tm 9) .skip (.exit 0))) (.seq (.block 1 (dq SQ (.cond (Tm 26) (sq amU .ret) .skip))) (.region aVE)))
def aVF:Rg:=[iI 4 (-1)]
def PE:aC:=(sq aVB (.seq (sq aVC (.block 0 (.loop aVA))) (sq aVF .ret)))
def boX:List Nat:=[2]
def aHX:aW:=⟨2,28,PE,[.tmp 4]⟩
def afU:Rg:=[iA 2 (.box true (Tm 0)),iT 4 false]
def afV:Rg:=[iO 6 7 2,iK 7 67 6,iA 8 (.un .not (Tm 7)),iM 9 8,gM 10 1 9 false,gN 11 10 9 false,gF 12 6 2 9 false,gL 13 12 9 false,gN 14 13 9 false,gB 15 .neq 11 14 9 false,iQ 16 9 15]
def IG:Rg:=[iT 4 false]
def afW:Rg:=[iI 5 0]
def afX:Rg:=[iM 17 5,iM 18 1,iN 19 18,iB 20 .lss 17 19]
def afY:Rd:=[(iM 23 1,true),(iM 24 5,true),(iX 25 1 23 24,true),(iL 26 25,true),(iN 27 26,true),(iO 28 7 2,false),(iM 29 5,false),(iK2 30 82 28 29,true),(iB 31 .neq 27 30,false),(iM 32 31,false),(gO 33 7 2 32 false,false),(gM 34 1 32 false,false),(gM 35 5 32 false,false),(iG 36 (.bIK 1 (Tm 34) (Tm 35)) 32 false,false),(gL 37 36 32 false,false),(gK2 38 89 33 37 32 false,true),(gC 39 .geq 38 0 32 false,false),(iQ 40 32 39,false)]
def IH:Rg:=[iT 4 false]
def afZ:Rg:=[iM 21 5,iC 22 .add 21 1,iM 5 22]
def afT:aC:=(.seq (sq afX (.cond (Tm 20) .skip (.exit 0))) (.seq (.block 1 (dq afY (.cond (Tm 40) (sq IH .ret) .skip))) (.region afZ)))
def agA:Rg:=[iT 4 true]
def xM:aC:=(sq afU (.seq (sq afV (.cond (Tm 16) (sq IG .ret) .skip)) (.seq (sq afW (.block 0 (.loop afT))) (sq agA .ret))))
def a3B:List Nat:=[2]
def DS:aW:=⟨2,41,xM,[.tmp 4]⟩

def eJ (f:aK) (l:List (List Int)) (room:List Int) (d:Nat):Bool:=decide ((brV f l).getD d 0>(fK f room).getD d 0)
def PV.oid:PV→Option Nat
 | .osl q _ _ _=>some q
 | _=>none
abbrev LI:=PV × Nat × List (List PV)
abbrev BX:=Nat × cP
def dZ (B:List BX):List Nat:=B.map (·.1)
def dA (L:List LI):List Nat:=L.filterMap fun x=>x.1.oid
structure aQ (H:PH) (B:List BX) (L:List LI):Prop where
 box:∀ b∈B,H b.1=some b.2
 lst:∀ x∈L,bL H x.2.1 x.1 x.2.2
 nd:(dZ B++dA L).Nodup
section
variable {C:Ctx} {H:PH} {B:List BX} {L:List LI} {K:PV→PH→Prop}
theorem bL.id {s q:Nat} {v:PV} {rows:List (List PV)} (h:bL H s v rows) (hq:v.oid=some q):∃ rs,H q=some (.rows s rs)∧v=.osl q s 0 rows.length∧rows.length≤rs.length∧rs.take rows.length=rows:=by
 rcases h with ⟨_,rfl⟩ | ⟨p,rs,rfl,h1,h2,h3⟩
 ·cases hq
 ·cases hq
  exact⟨rs,h1,rfl,h2,h3⟩
theorem bL.same {s:Nat} {v:PV} {rows:List (List PV)} {H':PH} (h:bL H s v rows) (hk:∀ q,v.oid=some q→H' q=H q):bL H' s v rows:=by
 rcases h with h | ⟨p,rs,rfl,h1,h2,h3⟩
 ·exact .inl h
 ·exact .inr ⟨p,rs,rfl,by rw[hk p rfl]; exact h1,h2,h3⟩
theorem kB {x:LI} {q:Nat} (h:x∈L) (hq:x.1.oid=some q):q∈dA L:=List.mem_filterMap.2 ⟨x,h,hq⟩
theorem rT {b:BX} (h:b∈B):b.1∈dZ B:=bKX.2 ⟨b,h,rfl⟩
theorem aQ.nil:aQ H [] []:=⟨by simp,by simp,by simp[dZ,dA]⟩
theorem aQ.at (h:aQ H B L) (i:Nat) {o:Nat} {x:cP} (hi:B[i]?=some (o,x)):H o=some x:=h.box _ (bMK hi)
theorem aQ.own (h:aQ H B L) (i:Nat) {s:Nat} {v:PV} {rows:List (List PV)} (hi:L[i]?=some (v,s,rows)):bL H s v rows:=h.lst _ (bMK hi)
theorem aQ.ndB (h:aQ H B L):(dZ B).Nodup:=(bME.1 h.nd).1
theorem aQ.ndL (h:aQ H B L):(dA L).Nodup:=(bME.1 h.nd).2.1
theorem aQ.ndX (h:aQ H B L) {o q:Nat} (ho:o∈dZ B) (hq:q∈dA L):o≠q:=(bME.1 h.nd).2.2 o ho q hq
theorem aQ.ne (h:aQ H B L) (i j:Nat) {o p:Nat} {x y:cP} (hi:B[i]?=some (o,x)) (hj:B[j]?=some (p,y)) (hij:i≠j):o≠p:=by
 intro e
 have h1:(dZ B)[i]?=some o:=by unfold dZ; rw[bKZ,hi]; rfl
 have h2:(dZ B)[j]?=some p:=by unfold dZ; rw[bKZ,hj]; rfl
 obtain⟨li,e1⟩:=bKV.1 h1
 obtain⟨lj,e2⟩:=bKV.1 h2
 have hp:=List.pairwise_iff_getElem.1 h.ndB
 rcases Nat.lt_or_gt_of_ne hij with g | g
 ·exact hp i j li lj g (by rw[e1,e2,e])
 ·exact hp j i lj li g (by rw[e1,e2,e])
theorem aQ.neL (h:aQ H B L) (i j:Nat) {o q:Nat} {x:cP} {y:LI} (hi:B[i]?=some (o,x)) (hj:L[j]?=some y) (hq:y.1.oid=some q):o≠q :=
 h.ndX (rT (bMK hi)) (kB (bMK hj) hq)
theorem aQ.fresh (h:aQ H B L) {o:Nat} (ho:H o=none):o ∉ dZ B∧o ∉ dA L:=by
 refine⟨fun hm=>?_,fun hm=>?_⟩
 ·obtain⟨b,hb,rfl⟩:=bKX.1 hm
  rw[h.box b hb] at ho; cases ho
 ·obtain⟨x,hx,e⟩:=List.mem_filterMap.1 hm
  obtain⟨rs,h1,_⟩:=(h.lst x hx).id e
  rw[h1] at ho; cases ho
theorem aQ.keep (h:aQ H B L) {H':PH} (hk:∀ q,q∈dZ B∨q∈dA L→H' q=H q):aQ H' B L :=
 ⟨fun b hb=>by rw[hk _ (.inl (rT hb))]; exact h.box b hb,fun x hx=>(h.lst x hx).same fun q hq=>hk q (.inr (kB hx hq)),h.nd⟩
theorem bfY {i:Nat} {o:Nat} {x y:cP} (hi:B[i]?=some (o,x)):dZ (B.set i (o,y))=dZ B:=by
 unfold dZ
 rw[List.map_set]
 refine List.ext_getElem? fun j=>?_
 rw[List.getElem?_set]
 split
 ·rename_i e
  subst e
  rw[bKZ,hi]
  have:=(bKV.1 hi).1
  simp[this]
 ·rfl
theorem aQ.set (h:aQ H B L) (i:Nat) {o:Nat} {x:cP} (hi:B[i]?=some (o,x)) (y:cP):aQ (H.set o y) (B.set i (o,y)) L:=by
 have hoB:o∈dZ B:=rT (bMK hi)
 refine⟨fun b hb=>?_,fun z hz=>(h.lst z hz).same fun q hq=>?_,by rw[bfY hi]; exact h.nd⟩
 ·obtain⟨j,hj⟩:=List.mem_iff_getElem?.1 hb
  rw[List.getElem?_set] at hj
  split at hj
  ·split at hj
   ·cases hj; simp only[bS,if_true]
   ·cases hj
  ·rename_i hne
   have:b.1≠o:=fun e=>h.ne i j hi (show B[j]?=some (b.1,b.2) from hj) hne e.symm
   rw[bS,if_neg this]
   exact h.box b (bMK hj)
 ·have:q≠o:=fun e=>h.ndX hoB (kB hz hq) e.symm
  rw[bS,if_neg this]
theorem aQ.new (h:aQ H B L) {o:Nat} (ho:H o=none) (y:cP):aQ (H.set o y) (B++[(o,y)]) L:=by
 obtain⟨f1,f2⟩:=h.fresh ho
 refine⟨fun b hb=>?_,fun z hz=>(h.lst z hz).same fun q hq=>?_,?_⟩
 ·rw[bLH,bLD] at hb
  rcases hb with hb | rfl
  ·have:b.1≠o:=fun e=>f1 (e ▸ rT hb)
   rw[bS,if_neg this]; exact h.box b hb
  ·simp only[bS,if_true]
 ·have:q≠o:=fun e=>f2 (e ▸ kB hz hq)
  rw[bS,if_neg this]
 ·have:=h.nd
  simp only[dZ,bLW,bLX,List.map_nil] at *
  rw[bKU,bME] at *
  obtain⟨a,b,c⟩:=this
  refine⟨a,?_,fun p hp q hq=>?_⟩
  ·rw[List.singleton_append,List.nodup_cons]; exact⟨f2,b⟩
  ·rw[List.singleton_append,bKJ] at hq
   rcases hq with rfl | hq
   ·intro e; subst e; exact f1 hp
   ·exact c p hp q hq
theorem jQ (L1 L2:List LI):dA (L1++L2)=dA L1++dA L2:=List.filterMap_append ..
theorem aQ.mF (h:aQ H B L) (s:Nat):aQ H B (L++[(.aB,s,[])]):=by
 refine⟨h.box,fun z hz=>?_,?_⟩
 ·rw[bLH,bLD] at hz
  rcases hz with hz | rfl
  ·exact h.lst z hz
  ·exact .nil
 ·rw[jQ,show dA [((.aB:PV),s,([]:List (List PV)))]=[] from rfl,bLM]; exact h.nd
theorem aQ.bgR (h:aQ H B L) {o s:Nat} {rows:List (List PV)} (ho:H o=none):aQ (H.set o (.rows s rows)) B (L++[(.osl o s 0 rows.length,s,rows)]):=by
 obtain⟨f1,f2⟩:=h.fresh ho
 have hk:=h.keep (H':=H.set o (.rows s rows)) fun q hq=>by
  have:q≠o:=by rintro rfl; exact hq.elim f1 f2
  rw[bS,if_neg this]
 refine⟨hk.box,fun z hz=>?_,?_⟩
 ·rw[bLH,bLD] at hz
  rcases hz with hz | rfl
  ·exact hk.lst z hz
  ·exact .inr ⟨o,rows,rfl,by simp only[bS,if_true],bJV _,bKS⟩
 ·rw[jQ,show dA [((.osl o s 0 rows.length:PV),s,rows)]=[o] from rfl,← bKU,bME]
  refine⟨h.nd,by simp,fun p hp q hq=>?_⟩
  rw[bLD] at hq
  subst hq
  rintro rfl
  rcases bLH.1 hp with hp | hp
  ·exact f1 hp
  ·exact f2 hp
theorem aCV {i:Nat} {v v':PV} {s s':Nat} {rows rows':List (List PV)} (hi:L[i]?=some (v,s,rows)):∃ L1 L2,L=L1++(v,s,rows)::L2∧L.set i (v',s',rows')=L1++(v',s',rows')::L2:=by
 obtain⟨hl,he⟩:=bKV.1 hi
 refine⟨L.take i,L.drop (i+1),?_,?_⟩
 ·rw[← he,← bLP hl,bMF]
 ·rw[List.set_eq_take_append_cons_drop,if_pos hl]
theorem aQ.zD (h:aQ H B L) (i:Nat) {s:Nat} {v:PV} {rows:List (List PV)} (hi:L[i]?=some (v,s,rows)) {s':Nat} {v':PV} {rows':List (List PV)} {H':PH} (ho:bL H' s' v' rows')
  (hid:∀ q,v'.oid=some q→v.oid=some q∨H q=none) (hk:∀ q,q∈dZ B∨q∈dA L→(∀ p,v.oid=some p→q≠p)→H' q=H q):aQ H' B (L.set i (v',s',rows')):=by
 obtain⟨L1,L2,e1,e2⟩:=aCV (v':=v') (s':=s') (rows':=rows') hi
 rw[e2]
 subst e1
 have hnd:=h.nd
 have eL:dA (L1++(v,s,rows)::L2)=dA L1++(v.oid.toList++dA L2):=by
  rw[jQ]
  congr 1
  unfold dA
  rw[List.filterMap_cons]
  cases e:v.oid<;>simp
 have eL':dA (L1++(v',s',rows')::L2)=dA L1++(v'.oid.toList++dA L2):=by
  rw[jQ]
  congr 1
  unfold dA
  rw[List.filterMap_cons]
  cases e:v'.oid<;>simp
 rw[eL] at hnd
 have other:∀ q,q∈dZ B∨q∈dA L1∨q∈dA L2→∀ p,v.oid=some p→q≠p:=by
  intro q hq p hp e
  subst e
  rw[hp] at hnd
  simp only[Option.toList_some] at hnd
  rw[bME] at hnd
  obtain⟨a,b,c⟩:=hnd
  rw[bME] at b
  obtain⟨b1,b2,b3⟩:=b
  rw[List.singleton_append,List.nodup_cons] at b2
  rcases hq with hq | hq | hq
  ·exact c q hq q (by simp) rfl
  ·exact b3 q hq q (by simp) rfl
  ·exact b2.1 hq
 have keepq:∀ q,q∈dZ B∨q∈dA L1∨q∈dA L2→H' q=H q:=by
  intro q hq
  refine hk q ?_ (other q hq)
  rw[eL]
  simp only[bLH]
  rcases hq with hq | hq | hq
  ·exact .inl hq
  ·exact .inr (.inl hq)
  ·exact .inr (.inr (.inr hq))
 refine⟨fun b hb=>by rw[keepq _ (.inl (rT hb))]; exact h.box b hb,fun z hz=>?_,?_⟩
 ·rw[bLH,bKJ] at hz
  rcases hz with hz | rfl | hz
  ·exact (h.lst z (by simp[hz])).same fun q hq=>keepq q (.inr (.inl (kB hz hq)))
  ·exact ho
  ·exact (h.lst z (by simp[hz])).same fun q hq=>keepq q (.inr (.inr (kB hz hq)))
 ·rw[eL']
  cases e:v'.oid with
  | none =>
   simp only[Option.toList_none,bML]
   refine List.Nodup.sublist ?_ hnd
   exact bLR.append (bLR.refl _) (bLR.append (bLR.refl _) (List.sublist_append_right _ _))
  | some q =>
   rcases hid q e with hv | hn
   ·rw[hv] at hnd
    exact hnd
   ·obtain⟨f1,f2⟩:=h.fresh hn
    rw[eL] at f2
    simp only[bLH,not_or] at f2
    have hnd':(dZ B++(dA L1++dA L2)).Nodup:=List.Nodup.sublist (bLR.append (bLR.refl _) (bLR.append (bLR.refl _) (List.sublist_append_right _ _))) hnd
    simp only[Option.toList_some]
    rw[bME] at hnd' ⊢
    obtain⟨a,b,c⟩:=hnd'
    rw[bME] at b
    obtain⟨b1,b2,b3⟩:=b
    refine⟨a,?_,?_⟩
    ·rw[bME]
     refine⟨b1,by rw[List.singleton_append,List.nodup_cons]; exact⟨f2.2.2,b2⟩,fun p hp r hr=>?_⟩
     rw[List.singleton_append,bKJ] at hr
     rcases hr with rfl | hr
     ·rintro rfl; exact f2.1 hp
     ·exact b3 p hp r hr
    ·intro p hp r hr
     rw[bLH,List.singleton_append,bKJ] at hr
     rcases hr with hr | rfl | hr
     ·exact c p hp r (by simp[hr])
     ·rintro rfl; exact f1 hp
     ·exact c p hp r (by simp[hr])
theorem aQ.append (h:aQ H B L) (i:Nat) {s b:Nat} {v y:PV} {rows src:List (List PV)} (hi:L[i]?=some (v,s,rows)) (hy:dU H s y=some src) (hr:roomFor rows.length src.length b)
  (hk:∀ v' H',aQ H' B (L.set i (v',s,rows++src))→(src≠[]→∃ q,v'=.osl q s 0 (rows++src).length)→K v' H'):kY H s b v y K:=by
 rcases h.own i hi with ⟨rfl,rfl⟩ | ⟨q,rs,rfl,h1,h2,h3⟩
 ·refine⟨src,hy,hr,fun e=>?_,fun e o ho=>?_⟩
  ·subst e
   refine hk _ _ ?_ fun h=>absurd rfl h
   exact h.zD i hi (.inl ⟨rfl,rfl⟩) (fun q hq=>by cases hq) fun q _ _=>rfl
  ·refine hk _ _ (h.zD i hi (.inr ⟨o,src,rfl,by simp only[bS,if_true],bJV _,bKS⟩) (fun q hq=>by cases hq; exact .inr ho) fun q hq _=>?_) fun _=>⟨o,rfl⟩
   obtain⟨f1,f2⟩:=h.fresh ho
   have:q≠o:=by rintro rfl; exact hq.elim f1 f2
   rw[bS,if_neg this]
 ·have hlen:(rows++src).length=rows.length+src.length:=bKA
  refine⟨src,hy,rfl,rfl,hr,rs,h1,h2,?_,fun o ho=>?_⟩
  ·rw[h3]
   refine hk _ _ (h.zD i hi (.inr ⟨q,rows++src,by rw[hlen],by simp only[bS,if_true],bJV _,bKS⟩) (fun p hp=>by cases hp; exact .inl rfl) fun p _ hp=>?_) fun _=>⟨q,by rw[hlen]⟩
   rw[bS,if_neg (hp q rfl)]
  ·rw[h3]
   refine hk _ _ (h.zD i hi (.inr ⟨o,rows++src,by rw[hlen],by simp only[bS,if_true],bJV _,bKS⟩) (fun p hp=>by cases hp; exact .inr ho) fun p hpm hp=>?_) fun _=>⟨o,by rw[hlen]⟩
   obtain⟨f1,f2⟩:=h.fresh ho
   have n1:p≠o:=by rintro rfl; exact hpm.elim f1 f2
   rw[bS,if_neg n1]
theorem aQ.sub (h:aQ H B L) {B':List BX} {L':List LI} (hB:B'.Sublist B) (hL:L'.Sublist L):aQ H B' L' :=
 ⟨fun b hb=>h.box b (hB.subset hb),fun x hx=>h.lst x (hL.subset hx),List.Nodup.sublist (bLR.append (hB.map _) (hL.filterMap _)) h.nd⟩
theorem aQ.bvG (h:aQ H B L) (i:Nat):aQ H (B.eraseIdx i) L:=h.sub (List.eraseIdx_sublist ..) (bLR.refl _)
theorem aQ.a0B (h:aQ H B L) (i:Nat):aQ H B (L.eraseIdx i):=h.sub (bLR.refl _) (List.eraseIdx_sublist ..)
end
section
variable {C:Ctx} {F:PF} {H:PH} {B:List BX} {L:List LI}
theorem aQ.wE (h:aQ H B L) {q:Nat} (hq:q∈dZ B∨q∈dA L):∃ x,H q=some x:=by
 rcases hq with hq | hq
 ·obtain⟨b,hb,rfl⟩:=bKX.1 hq
  exact⟨_,h.box b hb⟩
 ·obtain⟨x,hx,e⟩:=List.mem_filterMap.1 hq
  obtain⟨rs,h1,_⟩:=(h.lst x hx).id e
  exact⟨_,h1⟩
theorem aQ.perm (h:aQ H B L) {B':List BX} {L':List LI} (hB:B.Perm B') (hL:L.Perm L'):aQ H B' L' :=
 ⟨fun b hb=>h.box b (hB.mem_iff.2 hb),fun x hx=>h.lst x (hL.mem_iff.2 hx),(List.Perm.nodup_iff ((hB.map _).append (hL.filterMap _))).1 h.nd⟩
theorem aQ.only (h:aQ H B L) {B1:List BX} {L1:List LI} (hB:B1.Sublist B) (hL:L1.Sublist L):aQ (H.only (dZ B1++dA L1)) B1 L1:=by
 refine (h.sub hB hL).keep fun q hq=>?_
 rw[pR]
 rw[if_pos (bLH.2 hq)]
theorem bsA {a b c d:List Nat} (h1:(a++c).Nodup) (h2:(b++d).Nodup) (h3:∀ q,q∈a∨q∈c→q∈b∨q∈d→False):((a++b)++(c++d)).Nodup:=by
 have e:List.Perm ((a++b)++(c++d)) ((a++c)++(b++d)):=by
  rw[bKU,bKU]
  exact List.Perm.append_left a (by rw[← bKU,← bKU]; exact List.Perm.append_right d List.perm_append_comm)
 rw[e.nodup_iff,bME]
 refine⟨h1,h2,fun p hp q hq=>?_⟩
 rintro rfl
 exact h3 p (bLH.1 hp) (bLH.1 hq)
theorem aQ.frame {H':PH} {B1 B2 B':List BX} {L1 L2 L':List LI} (h:aQ H (B1++B2) (L1++L2)) (h':aQ H' B' L') (ha:kJ H (H.only (dZ B1++dA L1)) H'):aQ (H.eJ (H.only (dZ B1++dA L1)) H') (B'++B2) (L'++L2):=by
 have h2:aQ H B2 L2:=h.sub (List.sublist_append_right ..) (List.sublist_append_right ..)
 have dis:∀ q,q∈dZ B2∨q∈dA L2→¬ (q∈dZ B1++dA L1):=by
  intro q hq hm
  have hnd:=h.nd
  rw[show dZ (B1++B2)=dZ B1++dZ B2 from bLW,jQ] at hnd
  have e:List.Perm ((dZ B1++dZ B2)++(dA L1++dA L2)) ((dZ B1++dA L1)++(dZ B2++dA L2)):=by
   rw[bKU,bKU]
   exact List.Perm.append_left _ (by rw[← bKU,← bKU]; exact List.Perm.append_right _ List.perm_append_comm)
  rw[e.nodup_iff,bME] at hnd
  exact hnd.2.2 q hm q (bLH.2 hq) rfl
 have new:∀ q,q∈dZ B'∨q∈dA L'→(H.eJ (H.only (dZ B1++dA L1)) H') q=H' q:=by
  intro q hq
  obtain⟨x,hx⟩:=h'.wE hq
  rw[mD,hx]
 have old:∀ q,q∈dZ B2∨q∈dA L2→(H.eJ (H.only (dZ B1++dA L1)) H') q=H q:=by
  intro q hq
  obtain⟨x,hx⟩:=h2.wE hq
  have h0:(H.only (dZ B1++dA L1)) q=none:=by rw[pR,if_neg (dis q hq)]
  rw[mD]
  cases e:H' q with
  | none=>simp only[h0]
  | some y =>
   have:=ha q y e h0
   rw[hx] at this; cases this
 have k1:=h'.keep new
 have k2:=h2.keep old
 refine⟨fun b hb=>?_,fun x hx=>?_,?_⟩
 ·rcases bLH.1 hb with hb | hb
  ·exact k1.box b hb
  ·exact k2.box b hb
 ·rcases bLH.1 hx with hx | hx
  ·exact k1.lst x hx
  ·exact k2.lst x hx
 ·rw[show dZ (B'++B2)=dZ B'++dZ B2 from bLW,jQ]
  refine bsA h'.nd h2.nd fun q hq hq2=>?_
  obtain⟨x,hx⟩:=h'.wE hq
  obtain⟨y,hy⟩:=h2.wE hq2
  have h0:(H.only (dZ B1++dA L1)) q=none:=by rw[pR,if_neg (dis q hq2)]
  have:=ha q x hx h0
  rw[hy] at this; cases this
theorem CF {name:Nat} {vs:List PV} {args:List aP} {d:Option Nat} {K:PF→PH→Prop} {B1 B2:List BX} {L1 L2:List LI} {Q:PV→List BX→List LI→Prop} (h:aQ H (B1++B2) (L1++L2))
  (hc:∀ H0,aQ H0 B1 L1→aE C name vs H0 (fun r H'=>∃ B' L',Q r B' L'∧aQ H' B' L')) (ha:aP.evs F args=some vs)
  (hk:∀ r B' L' H',Q r B' L'→aQ H' (B'++B2) (L'++L2)→K (F.put d r) H'):fP C name args [] d K F H:=by
 refine eR (hc (H.only (dZ B1++dA L1)) (h.only (List.sublist_append_left ..) (List.sublist_append_left ..))) ha (SO H _) ?_
 rintro r H' ⟨B',L',hq,h'⟩ hap
 exact hk r B' L' _ hq (h.frame h' hap)
theorem CH {name o:Nat} {x y:cP} {r:PV} {vs:List PV} {args:List aP} {d:Option Nat} {K:PF→PH→Prop} (h:aE C name vs (PH.nil.set o x) (fun r' H'=>r'=r∧H'=PH.nil.set o y)) (ho:H o=some x) (ha:aP.evs F args=some vs)
  (hk:K (F.put d r) (H.set o y)):fP C name args [] d K F H:=by
 refine eR h ha (PH.aI PH.nil_le ho) ?_
 rintro r' H' ⟨rfl,rfl⟩ -
 rw[PH.lG]
 exact hk
theorem ayF {Hs:PH} {S:Spec} {name o:Nat} {x y:cP} {r:PV} {vs:List PV} {R:PH→PV→PH→Prop} {args:List aP} {st:Bool} {d:Option Nat} {K:PF→PH→Prop} (hS:S name vs=some ([o],R)) (ho:H o=some x)
  (h:aE C name vs (PH.nil.set o x) (fun r' H'=>r'=r∧H'=PH.nil.set o y)) (hR1:R (PH.nil.set o x) r (PH.nil.set o y)) (hR2:∀ r' H',R (PH.nil.set o x) r' H'→r'=r∧H'=PH.nil.set o y) (ha:aP.evs F args=some vs)
  (hle:Hs.le (H.set o y)) (hk:K (F.put d r) (H.set o y)):dOp C Hs S st (.call name args) d K F H:=by
 have e:=YP ho
 refine⟨vs,[o],_,ha,hS,fun q hq=>?_,?_,fun G=>⟨r,_,by rw[e]; exact hR1,fun q z hz hn=>?_⟩,fun r' H' hr _=>?_⟩
 ·simp at hq; subst hq; exact⟨x,ho⟩
 ·rw[e]
  exact h.post fun r' H' hr=>⟨r',.refl _,by rw[hr.1,hr.2]; exact hR1⟩
 ·rw[e] at hn
  rw[bS] at hz hn
  split at hn
  ·cases hn
  ·rename_i hne
   rw[if_neg hne] at hz; cases hz
 ·rw[e] at hr
  obtain⟨rfl,rfl⟩:=hR2 r' H' hr
  rw[e,PH.lG]
  exact⟨hle,hk⟩
theorem biL {s:Nat} {q z:Nat} {rs:List (List PV)} {v:PV} {rows:List (List PV)} (h:bL H s v rows) (hv:v.oid≠some q):bL (H.frz q z rs) s v (rows.map fun r=>r.map (PV.dC q z rs)):=by
 rcases h with ⟨rfl,rfl⟩ | ⟨p,rs',rfl,h1,h2,h3⟩
 ·exact .inl ⟨rfl,rfl⟩
 ·have hne:¬ p=q:=fun e=>hv (by rw[e]; rfl)
  refine .inr ⟨p,rs'.map fun r=>r.map (PV.dC q z rs),by rw[bJT],?_,by simpa using h2,?_⟩
  ·rw[vW,if_neg hne,h1]; rfl
  ·rw[bJT,← List.map_take,h3]
theorem aQ.frz (h:aQ H B L) (i:Nat) {q s k:Nat} {rows:List (List PV)} (hi:L[i]?=some (.osl q s 0 k,s,rows)):∃ rs,H q=some (.rows s rs)∧PV.dC q s rs (.osl q s 0 k)=.sl s rows∧PV.frz q s rs (.osl q s 0 k)=.sl s rows∧(∀ j x,j≠i→L[j]?=some x→PV.dC q s rs x.1=x.1) ∧
  aQ (H.frz q s rs) (B.map fun b=>(b.1,b.2.frz q s rs)) ((L.eraseIdx i).map fun x=>(x.1,x.2.1,x.2.2.map fun r=>r.map (PV.dC q s rs))):=by
 obtain⟨rs,h1,h2,h3,h4⟩:=(h.own i hi).id rfl
 injection h2 with _ _ _ hk
 subst hk
 have e:PV.frz q s rs (.osl q s 0 rows.length)=.sl s rows:=by rw[nJ h3,h4]
 refine⟨rs,h1,e,e,?_⟩
 refine⟨fun j x hji hj=>?_,?_⟩
 ·have hxq:x.1.oid≠some q:=by
   intro hxq
   obtain⟨hl,he⟩:=bKV.1 hi
   obtain⟨hl2,he2⟩:=bKV.1 hj
   have hmem:x∈L.eraseIdx i:=List.mem_eraseIdx_iff_getElem?.2 ⟨j,hji,hj⟩
   have hnd:=h.ndL
   have hs:L=L.take i++(L[i]::L.drop (i+1)):=by rw[← bLP hl,bMF]
   rw[List.eraseIdx_eq_take_drop_succ] at hmem
   rw[hs,jQ] at hnd
   have e3:dA (L[i]::L.drop (i+1))=q::dA (L.drop (i+1)):=by rw[he]; rfl
   rw[e3,bME] at hnd
   obtain⟨a,b,c⟩:=hnd
   rcases bLH.1 hmem with hx | hx
   ·exact c q (kB hx hxq) q (by simp) rfl
   ·exact (List.nodup_cons.1 b).1 (kB hx hxq)
  cases hx:x.1<;>try rfl
  rename_i p z off len
  have:¬ p=q:=fun e=>hxq (by rw[hx,e]; rfl)
  simp only[PV.dC,if_neg this]
 obtain⟨L1,L2,e1,e2⟩:=aCV (v':=.aB) (s':=s) (rows':=rows) hi
 have hil:i=L1.length∨True:=.inr trivial
 have ers:(L.eraseIdx i).Sublist L:=List.eraseIdx_sublist ..
 have hqn:∀ x∈L.eraseIdx i,x.1.oid≠some q:=by
  intro x hx hxq
  obtain⟨hl,he⟩:=bKV.1 hi
  have hnd:=h.ndL
  have hs:L=L.take i++(L[i]::L.drop (i+1)):=by rw[← bLP hl,bMF]
  rw[List.eraseIdx_eq_take_drop_succ] at hx
  rw[hs,jQ] at hnd
  have e3:dA (L[i]::L.drop (i+1))=q::dA (L.drop (i+1)):=by
   rw[he]; rfl
  rw[e3,bME] at hnd
  obtain⟨a,b,c⟩:=hnd
  rcases bLH.1 hx with hx | hx
  ·exact c q (kB hx hxq) q (by simp) rfl
  ·exact (List.nodup_cons.1 b).1 (kB hx hxq)
 refine⟨fun b hb=>?_,fun x hx=>?_,?_⟩
 ·obtain⟨b0,hb0,rfl⟩:=bKX.1 hb
  have:¬ b0.1=q:=h.ndX (rT hb0) (kB (bMK hi) rfl)
  simp only
  rw[vW,if_neg this,h.box b0 hb0]; rfl
 ·obtain⟨x0,hx0,rfl⟩:=bKX.1 hx
  exact biL (h.lst x0 (ers.subset hx0)) (hqn x0 hx0)
 ·have i1:dZ (B.map fun b=>(b.1,b.2.frz q s rs))=dZ B:=by unfold dZ; rw[List.map_map]; rfl
  have i2:dA ((L.eraseIdx i).map fun x=>(x.1,x.2.1,x.2.2.map fun r=>r.map (PV.dC q s rs)))=dA (L.eraseIdx i):=by unfold dA; rw[List.filterMap_map]; rfl
  rw[i1,i2]
  exact List.Nodup.sublist (bLR.append (bLR.refl _) (ers.filterMap _)) h.nd
def Flat (rows:List (List PV)):Prop:=∀ q s rs,rows.map (fun r=>r.map (PV.dC q s rs))=rows
theorem Flat.nil:Flat []:=fun _ _ _=>rfl
theorem Flat.of {rows:List (List PV)} (h:∀ r∈rows,∀ c∈r,∀ q s rs,PV.dC q s rs c=c):Flat rows:=fun q s rs=>by
 conv=>rhs; rw[← List.map_id rows]
 refine List.map_congr_left fun r hr=>?_
 conv=>rhs; rw[id,← List.map_id r]
 exact List.map_congr_left fun c hc=>h r hr c hc q s rs
theorem Flat.map {α:Type} {f:α→List PV} (l:List α) (h:∀ x,∀ c∈f x,∀ q s rs,PV.dC q s rs c=c):Flat (l.map f):=Flat.of fun r hr=>by
 obtain⟨x,_,rfl⟩:=bKX.1 hr
 exact h x
theorem Flat.append {r1 r2:List (List PV)} (h1:Flat r1) (h2:Flat r2):Flat (r1++r2):=fun q s rs=>by rw[bLW,h1,h2]
theorem aQ.flat {φ:PV→List (List PV)} (h:aQ H B L):aQ H B L:=h
def yD (v:PV) (H:PH) (R:PV→PH→Prop):Prop:=∃ F1 H1 H2,iW (PF.nil.set 0 v) H F1 H1∧H2.le H1∧∃ u,F1 0=some u∧R u H2
theorem yD.done {v:PV} {H2:PH} {R:PV→PH→Prop} (hR:R v H2) (hle:H2.le H):yD v H R:=⟨_,_,H2,.refl _ _,hle,v,by rw[nA,if_pos rfl],hR⟩
theorem yD.step {v:PV} {q s:Nat} {rs:List (List PV)} {R:PV→PH→Prop} (hq:H q=some (.rows s rs)) (h:yD (PV.frz q s rs v) (H.frz q s rs) R):yD v H R:=by
 obtain⟨F1,H1,H2,h1,h2,h3⟩:=h
 have e:(PF.nil.set 0 v).frz q s rs=PF.nil.set 0 (PV.frz q s rs v):=by
  funext i
  rw[qO,nA,nA]
  split<;>rfl
 exact⟨F1,H1,H2,.step q hq (by rw[e]; exact h1),h2,h3⟩
theorem amQ {res:List dQ} {R:PV→PH→Prop} {vs:List PV} {e:lJ} (he:e=.normal∨e=.ret) (h:dQ.evs F H res=some vs) (hf:yD (aV vs) H R):aT res R e F H:=by
 have key:∃ vs,dQ.evs F H res=some vs∧∃ F1 H1 H2,iW (PF.nil.set 0 (aV vs)) H F1 H1∧H2.le H1∧∃ u,F1 0=some u∧R u H2:=⟨vs,h,hf⟩
 rcases he with rfl | rfl<;>exact key
theorem uQ {u:PV} (h:u.oid=none) (q s:Nat) (rs:List (List PV)):PV.dC q s rs u=u:=by
 cases u<;>first | rfl | (simp[PV.oid] at h)
theorem Seen.co {s:Nat} {v:PV} {rows:List (List PV)} (h:Seen s v rows):Co v (.sl s rows):=by
 rcases h with ⟨rfl,rfl⟩ | rfl
 ·exact .nil s
 ·exact .refl _
theorem aQ.giveUp:∀ (L:List LI) {H:PH} {B:List BX},aQ H B L→(∀ x∈L,Flat x.2.2)→(∀ b∈B,∀ q s rs,cP.frz q s rs b.2=b.2) →
  ∃ (φ:PV→PV) (H1:PH),(∀ x∈L,Seen x.2.1 (φ x.1) x.2.2)∧(∀ u,u.oid=none→φ u=u)∧aQ H1 B []∧∀ cs R,yD (.agg (cs.map φ)) H1 R→yD (.agg cs) H R
 | [],H,B,h,_,_=>⟨id,H,by simp,fun _ _=>rfl,h,fun cs R hf=>by rwa [List.map_id] at hf⟩
 | (w,s,rows)::L,H,B,h,hL,hB=>by
  have hflat:∀ q z rs,(L.map fun x=>(x.1,x.2.1,x.2.2.map fun r=>r.map (PV.dC q z rs)))=L:=fun q z rs=>by
   conv=>rhs; rw[← List.map_id L]
   refine List.map_congr_left fun x hx=>?_
   rw[hL x (by simp[hx]) q z rs]; rfl
  rcases h.own 0 rfl with ⟨h1,h2⟩ | ⟨q,rs,h1,_⟩
  ·obtain⟨φ,H1,k1,k2,k3,k4⟩:=aQ.giveUp L (h.a0B 0) (fun x hx=>hL x (by simp[hx])) hB
   refine⟨φ,H1,fun x hx=>?_,k2,k3,k4⟩
   rw[bKJ] at hx
   rcases hx with rfl | hx
   ·exact .inl ⟨h1,by simp only; rw[h2]; exact k2 _ rfl⟩
   ·exact k1 x hx
  ·subst h1
   obtain⟨rs,z1,z2,z3,z4,z5⟩:=h.frz 0 rfl
   have z6:aQ (H.frz q s rs) B L:=by
    have eB:(B.map fun b=>(b.1,b.2.frz q s rs))=B:=by
     conv=>rhs; rw[← List.map_id B]
     refine List.map_congr_left fun b hb=>?_
     rw[hB b hb q s rs]; rfl
    rw[eB] at z5
    have:=z5
    simp only[List.eraseIdx_cons_zero] at this
    rwa [hflat q s rs] at this
   obtain⟨φ,H1,k1,k2,k3,k4⟩:=aQ.giveUp L z6 (fun x hx=>hL x (by simp[hx])) hB
   refine⟨fun u=>φ (PV.dC q s rs u),H1,fun x hx=>?_,fun u hu=>?_,k3,fun cs R hf=>?_⟩
   ·rw[bKJ] at hx
    rcases hx with rfl | hx
    ·simp only
     rw[z2]
     exact .inr (k2 _ rfl)
    ·obtain⟨j,hj⟩:=List.mem_iff_getElem?.1 hx
     have:=z4 (j+1) x Om (by simpa using hj)
     simp only
     rw[this]
     exact k1 x hx
   ·simp only
    rw[uQ hu,k2 u hu]
   ·refine .step z1 ?_
    have e:PV.frz q s rs (.agg cs)=.agg (cs.map (PV.dC q s rs)):=rfl
    rw[e]
    refine k4 _ R ?_
    rw[List.map_map]
    exact hf
theorem apW {K:cN} {α:Type} {Fs:α→PF} {Hs:α→PH} {Pr:α→Prop} {m:α→Nat} {n q s:Nat} {rs:List (List PV)} (a:α) (hq:H q=some (.rows s rs)) (h0:Pr a) (hm:m a<n) (hF:(Fs a).le (F.frz q s rs)) (hH:(Hs a).le (H.frz q s rs)):eE Fs Hs Pr m n K .normal F H :=
 ⟨a,_,_,.step q hq (.refl _ _),h0,hm,hF,hH⟩
end
section
variable {C:Ctx} {F F':PF} {H:PH}
theorem cI (hle:F.le F') {x:aP} {v:PV} (h:x.ev F=some v):x.ev F'=some v:=by
 cases x
 ·exact hle _ _ h
 all_goals exact h
theorem acC (hle:F.le F'):∀ {xs:List aP} {vs:List PV},aP.evs F xs=some vs→aP.evs F' xs=some vs
 | [],_,h=>h
 | x::xs,vs,h=>by
  rw[wP] at h ⊢
  cases hx:x.ev F with
  | none=>simp[hx] at h
  | some v =>
   cases hs:aP.evs F xs with
   | none=>simp[hs] at h
   | some ws =>
    rw[hx,hs] at h
    rw[cI hle hx,acC hle hs]
    exact h
theorem azH (hle:F.le F'):∀ {ps:List (Nat × Nat × aP)} {cs ds:List PV},nH cs F ps=some ds→nH cs F' ps=some ds
 | [],_,_,h=>h
 | (off,size,x)::ps,cs,ds,h=>by
  simp only[nH] at h ⊢
  cases hx:x.ev F with
  | none=>simp[hx] at h
  | some v =>
   rw[hx] at h
   rw[cI hle hx]
   simp only at h ⊢
   split at h
   ·rename_i hc; rw[if_pos hc]; exact azH hle h
   ·cases h
theorem zX (hle:F.le F') {size:Nat}:∀ {ps:List (Nat × aP)} {cs ds:List (List PV)},fU size cs F ps=some ds→fU size cs F' ps=some ds
 | [],_,_,h=>h
 | (i,x)::ps,cs,ds,h=>by
  simp only[fU] at h ⊢
  cases hx:x.ev F with
  | none=>simp[hx] at h
  | some v =>
   rw[hx] at h
   rw[cI hle hx]
   simp only at h ⊢
   split at h
   ·rename_i hc; rw[if_pos hc]; exact zX hle h
   ·cases h
theorem LK (hle:F.le F') {d n:Int} {x:Option aP} (h:bnd F d x=some n):bnd F' d x=some n:=by
 cases x with
 | none=>exact h
 | some x =>
  simp only[bnd] at h ⊢
  cases hx:x.ev F with
  | none=>simp[hx] at h
  | some v=>rw[cI hle hx,← hx]; exact h
theorem aGI {op:POp} {v:PV} (hle:F.le F') (h:aO op F H=some v):aO op F' H=some v:=by
 cases op
 case mv x=>exact cI hle h
 case pick c a b =>
  simp only[aO] at h ⊢
  cases hc:c.ev F with
  | none=>simp[hc] at h
  | some t =>
   rw[hc] at h
   rw[cI hle hc]
   cases t<;>simp only at h ⊢<;>try cases h
   rename_i t
   cases t
   ·simp only[bMU,if_false] at h ⊢; exact cI hle h
   ·simp only[if_true] at h ⊢; exact cI hle h
 case same x =>
  simp only[aO] at h ⊢
  cases hx:x.ev F with
  | none=>simp[hx] at h
  | some a=>rw[cI hle hx,← hx]; exact h
 case un o x =>
  simp only[aO] at h ⊢
  cases hx:x.ev F with
  | none=>simp[hx] at h
  | some a=>rw[cI hle hx,← hx]; exact h
 case conv k x =>
  simp only[aO] at h ⊢
  cases hx:x.ev F with
  | none=>simp[hx] at h
  | some a=>rw[cI hle hx,← hx]; exact h
 case bIE x =>
  simp only[aO] at h ⊢
  cases hx:x.ev F with
  | none=>simp[hx] at h
  | some a=>rw[cI hle hx,← hx]; exact h
 case bJB o x =>
  simp only[aO] at h ⊢
  cases hx:x.ev F with
  | none=>simp[hx] at h
  | some a=>rw[cI hle hx,← hx]; exact h
 case field o n x =>
  simp only[aO] at h ⊢
  cases hx:x.ev F with
  | none=>simp[hx] at h
  | some a=>rw[cI hle hx,← hx]; exact h
 case bIX x =>
  simp only[aO] at h ⊢
  cases hx:x.ev F with
  | none=>simp[hx] at h
  | some a=>rw[cI hle hx,← hx]; exact h
 case isNil n x =>
  simp only[aO] at h ⊢
  cases hx:x.ev F with
  | none=>simp[hx] at h
  | some a=>rw[cI hle hx,← hx]; exact h
 case lenM x =>
  simp only[aO] at h ⊢
  cases hx:x.ev F with
  | none=>simp[hx] at h
  | some a=>rw[cI hle hx,← hx]; exact h
 case bJR x =>
  simp only[aO] at h ⊢
  cases hx:x.ev F with
  | none=>simp[hx] at h
  | some a=>rw[cI hle hx,← hx]; exact h
 case extract x i =>
  simp only[aO] at h ⊢
  cases hx:x.ev F with
  | none=>simp[hx] at h
  | some a=>rw[cI hle hx,← hx]; exact h
 case bIF x =>
  simp only[aO] at h ⊢
  cases hx:x.ev F with
  | none=>simp[hx] at h
  | some a=>rw[cI hle hx,← hx]; exact h
 case len x =>
  simp only[aO] at h ⊢
  cases hx:x.ev F with
  | none=>simp[hx] at h
  | some a=>rw[cI hle hx,← hx]; exact h
 case box r x =>
  cases r
  ·cases h
  simp only[aO] at h ⊢
  cases hx:x.ev F with
  | none=>simp[hx] at h
  | some a=>rw[cI hle hx,← hx]; exact h
 case load n p =>
  cases n
  all_goals
   simp only[aO] at h ⊢
   cases hx:p.ev F with
   | none=>simp[hx] at h
   | some a=>rw[cI hle hx,← hx]; exact h
 case bin o x y =>
  simp only[aO] at h ⊢
  cases hx:x.ev F with
  | none=>simp[hx] at h
  | some a =>
   cases hy:y.ev F with
   | none=>simp[hx,hy] at h
   | some b=>rw[cI hle hx,cI hle hy,← hx,← hy]; exact h
 case eqb n x y =>
  simp only[aO] at h ⊢
  cases hx:x.ev F with
  | none=>simp[hx] at h
  | some a =>
   cases hy:y.ev F with
   | none=>simp[hx,hy] at h
   | some b=>rw[cI hle hx,cI hle hy,← hx,← hy]; exact h
 case eqs n k x y =>
  simp only[aO] at h ⊢
  cases hx:x.ev F with
  | none=>simp[hx] at h
  | some a =>
   cases hy:y.ev F with
   | none=>simp[hx,hy] at h
   | some b=>rw[cI hle hx,cI hle hy,← hx,← hy]; exact h
 case bIK s x i =>
  simp only[aO] at h ⊢
  cases hx:x.ev F with
  | none=>simp[hx] at h
  | some a =>
   cases hy:i.ev F with
   | none=>simp[hx,hy] at h
   | some b=>rw[cI hle hx,cI hle hy,← hx,← hy]; exact h
 case idxA n s x i =>
  simp only[aO] at h ⊢
  cases hx:x.ev F with
  | none=>simp[hx] at h
  | some a =>
   cases hy:i.ev F with
   | none=>simp[hx,hy] at h
   | some b=>rw[cI hle hx,cI hle hy,← hx,← hy]; exact h
 case idxV n s g x i =>
  simp only[aO] at h ⊢
  cases hx:x.ev F with
  | none=>simp[hx] at h
  | some a =>
   cases hy:i.ev F with
   | none=>simp[hx,hy] at h
   | some b=>rw[cI hle hx,cI hle hy,← hx,← hy]; exact h
 case bIY x i =>
  simp only[aO] at h ⊢
  cases hx:x.ev F with
  | none=>simp[hx] at h
  | some a =>
   cases hy:i.ev F with
   | none=>simp[hx,hy] at h
   | some b=>rw[cI hle hx,cI hle hy,← hx,← hy]; exact h
 case bIQ m x y =>
  simp only[aO] at h ⊢
  cases hx:x.ev F with
  | none=>simp[hx] at h
  | some a =>
   cases hy:y.ev F with
   | none=>simp[hx,hy] at h
   | some b=>rw[cI hle hx,cI hle hy,← hx,← hy]; exact h
 case lookup sh z x k ok =>
  simp only[aO] at h ⊢
  cases hx:x.ev F with
  | none=>simp[hx] at h
  | some a =>
   cases hy:k.ev F with
   | none=>simp[hx,hy] at h
   | some b=>rw[cI hle hx,cI hle hy,← hx,← hy]; exact h
 case build z ps =>
  simp only[aO,bKB] at h ⊢
  obtain⟨cs,h1,h2⟩:=h
  exact⟨cs,azH hle h1,h2⟩
 case bHV r s l z ps =>
  cases r
  ·cases h
  simp only[aO] at h ⊢
  split at h
  ·rename_i hc
   rw[if_pos hc]
   rw[bKB] at h ⊢
   obtain⟨cs,h1,h2⟩:=h
   exact⟨cs,zX hle h1,h2⟩
  ·cases h
 case mkfn n cs =>
  simp only[aO,bKB] at h ⊢
  obtain⟨vs,h1,h2⟩:=h
  exact⟨vs,acC hle h1,h2⟩
 case sliceA n s x lo hi mx =>
  cases lo<;>cases hi<;>cases mx<;>simp only[aO] at h ⊢<;>try cases h
  cases hx:x.ev F with
  | none=>simp[hx] at h
  | some a=>rw[cI hle hx,← hx]; exact h
 case bIS x lo hi =>
  simp only[aO] at h ⊢
  cases hx:x.ev F with
  | none=>simp[hx] at h
  | some a =>
   rw[hx] at h
   rw[cI hle hx]
   cases a<;>simp only at h ⊢<;>try cases h
   cases h1:bnd F 0 lo with
   | none=>simp[h1] at h
   | some l =>
    rename_i s
    cases h2:bnd F s.length hi with
    | none=>simp[h1,h2] at h
    | some u=>rw[LK hle h1,LK hle h2,← h1,← h2]; exact h
 case slice s x lo hi mx =>
  simp only[aO] at h ⊢
  cases hx:x.ev F with
  | none=>simp[hx] at h
  | some a =>
   rw[hx] at h
   rw[cI hle hx]
   have key:∀ (d:Int) (w:PV),(match bnd F 0 lo,bnd F d hi with
     | some a1,some a2=>match (generalizing:=false) mx with
      | none=>PV.slice s w a1 a2 none
      | some m=>(bnd F 0 (some m)).bind fun m=>PV.slice s w a1 a2 (some m)
     | _,_=>none)=some v→(match bnd F' 0 lo,bnd F' d hi with
     | some a1,some a2=>match (generalizing:=false) mx with
      | none=>PV.slice s w a1 a2 none
      | some m=>(bnd F' 0 (some m)).bind fun m=>PV.slice s w a1 a2 (some m)
     | _,_=>none)=some v:=by
    intro d w h
    cases h1:bnd F 0 lo with
    | none=>simp[h1] at h
    | some l =>
     cases h2:bnd F d hi with
     | none=>simp[h1,h2] at h
     | some u =>
      rw[h1,h2] at h
      rw[LK hle h1,LK hle h2]
      cases mx with
      | none=>exact h
      | some m =>
       simp only at h ⊢
       cases h3:bnd F 0 (some m) with
       | none=>simp[h3] at h
       | some q=>rw[LK hle h3,← h3]; exact h
   cases a<;>simp only at h ⊢<;>first | exact key _ _ h | cases h
 all_goals exact h
theorem axM {op:POp} {r:(Nat→PV) × cP} (hle:F.le F') (h:cQ op F=some r):cQ op F'=some r:=by
 cases op
 case box b x =>
  cases b
  ·simp only[cQ] at h ⊢
   cases hx:x.ev F with
   | none=>simp[hx] at h
   | some a=>rw[cI hle hx,← hx]; exact h
  ·cases h
 case bHV b s l z ps =>
  cases b
  ·simp only[cQ] at h ⊢
   split at h
   ·rename_i hc
    rw[if_pos hc]
    rw[bKB] at h ⊢
    obtain⟨cs,h1,h2⟩:=h
    exact⟨cs,zX hle h1,h2⟩
   ·cases h
  ·cases h
 case bHZ s b z l c =>
  simp only[cQ] at h ⊢
  cases hx:l.ev F with
  | none=>simp[hx] at h
  | some a =>
   cases hy:c.ev F with
   | none=>simp[hx,hy] at h
   | some b=>rw[cI hle hx,cI hle hy,← hx,← hy]; exact h
 all_goals exact h
theorem aML {op:POp} {K:PV→PH→Prop} (hle:F.le F') (h:bU op F H K):bU op F' H K:=by
 cases op
 case store n x y =>
  simp only[bU] at h ⊢
  cases hx:x.ev F with
  | none=>simp[hx] at h
  | some a =>
   cases hy:y.ev F with
   | none=>simp[hx,hy] at h
   | some b=>rw[cI hle hx,cI hle hy]; rw[hx,hy] at h; exact h
 case append s b x y =>
  simp only[bU] at h ⊢
  cases hx:x.ev F with
  | none=>simp[hx] at h
  | some a =>
   cases hy:y.ev F with
   | none=>simp[hx,hy] at h
   | some b=>rw[cI hle hx,cI hle hy]; rw[hx,hy] at h; exact h
 case bIN sh x y z =>
  simp only[bU] at h ⊢
  cases hx:x.ev F with
  | none=>simp[hx] at h
  | some a =>
   cases hy:y.ev F with
   | none=>simp[hx,hy] at h
   | some b =>
    cases hz:z.ev F with
    | none=>simp[hx,hy,hz] at h
    | some c=>rw[cI hle hx,cI hle hy,cI hle hz]; rw[hx,hy,hz] at h; exact h
 case insert sh x y z =>
  simp only[bU] at h ⊢
  cases hx:x.ev F with
  | none=>simp[hx] at h
  | some a =>
   cases hy:y.ev F with
   | none=>simp[hx,hy] at h
   | some b =>
    cases hz:z.ev F with
    | none=>simp[hx,hy,hz] at h
    | some c=>rw[cI hle hx,cI hle hy,cI hle hz]; rw[hx,hy,hz] at h; exact h
 all_goals exact h
theorem PF.bsS (hle:F.le F') (i:Nat) (v:PV):(F.set i v).le (F'.set i v):=by
 intro j u h
 rw[nA] at h ⊢
 split at h
 ·rename_i e; rw[if_pos e]; exact h
 ·rename_i e; rw[if_neg e]; exact hle j u h
theorem PF.xH (hle:F.le F') (d:Option Nat) (v:PV):(F.put d v).le (F'.put d v):=by
 cases d with
 | none=>exact hle
 | some d=>exact PF.bsS hle d v
theorem PF.brC (hle:F.le F') (o s:Nat) (rs:List (List PV)):(F.frz o s rs).le (F'.frz o s rs):=by
 intro j u h
 rw[qO,bKB] at h ⊢
 obtain⟨x,h1,h2⟩:=h
 exact⟨x,hle j x h1,h2⟩
theorem PF.le_trans {A B D:PF} (h:A.le B) (k:B.le D):A.le D:=fun i v hi=>k i v (h i v hi)
theorem iW.up {F1:PF} {H1:PH} (h:iW F H F1 H1):∀ {F':PF},F.le F'→∃ F1',iW F' H F1' H1∧F1.le F1':=by
 induction h with
 | refl F H=>exact fun {F'} hle=>⟨F',.refl _ _,hle⟩
 | step o ho _ ih =>
  intro F' hle
  obtain⟨F1',h1,h2⟩:=ih (PF.brC hle o _ _)
  exact⟨F1',.step o ho h1,h2⟩
theorem aaJ {name:Nat} {args:Option (List PV)} {d:Option Nat} {K1 K2:PF→PH→Prop} (hK:∀ F F' H,F.le F'→K1 F H→K2 F' H) (hle:F.le F') {args':Option (List PV)} (ha:∀ vs,args=some vs→args'=some vs) (h:qG C name args d K1 F H):qG C name args' d K2 F' H:=by
 obtain⟨vs,H0,R,h1,h2,h3,h4⟩:=h
 exact⟨vs,H0,R,ha _ h1,h2,h3,fun r H' a b=>hK _ _ _ (PF.xH hle d r) (h4 r H' a b)⟩
theorem aDS {cs:List PV} {args:List aP} (hle:F.le F') (vs:List PV) (h:(aP.evs F args).map (·++cs)=some vs):(aP.evs F' args).map (·++cs)=some vs:=by
 rw[bKB] at h ⊢
 obtain⟨x,h1,h2⟩:=h
 exact⟨x,acC hle h1,h2⟩
theorem aOY {name:Nat} {args:List aP} {cs:List PV} {d:Option Nat} {K1 K2:PF→PH→Prop} (hK:∀ F F' H,F.le F'→K1 F H→K2 F' H) (hle:F.le F') (h:fP C name args cs d K1 F H):fP C name args cs d K2 F' H:=by
 rcases h with h | ⟨F1,H1,h1,h2⟩
 ·exact .inl (aaJ hK hle (aDS hle) h)
 ·obtain⟨F1',k1,k2⟩:=h1.up hle
  exact .inr ⟨F1',H1,k1,aaJ hK k2 (aDS k2) h2⟩
theorem NN {op:POp} {d:Option Nat} {K1 K2:PF→PH→Prop} (hK:∀ F F' H,F.le F'→K1 F H→K2 F' H) (hle:F.le F') (h:lD (cQ op F) d K1 F H):lD (cQ op F') d K2 F' H:=by
 obtain⟨mk,x,h1,h2⟩:=h
 exact⟨mk,x,axM hle h1,fun o ho=>hK _ _ _ (PF.xH hle d _) (h2 o ho)⟩
theorem akX {op:POp} {d:Option Nat} {K1 K2:PF→PH→Prop} (hK:∀ F F' H,F.le F'→K1 F H→K2 F' H) (hle:F.le F') (h:bP (aO op F H) d K1 F H):bP (aO op F' H) d K2 F' H:=by
 obtain⟨v,h1,h2⟩:=h
 exact⟨v,aGI hle h1,hK _ _ _ (PF.xH hle d v) h2⟩
theorem awV {op:POp} {d:Option Nat} {K1 K2:PF→PH→Prop} (hK:∀ F F' H,F.le F'→K1 F H→K2 F' H) (hle:F.le F') (h:bU op F H fun r H'=>K1 (F.put d r) H'):bU op F' H fun r H'=>K2 (F'.put d r) H' :=
 aML hle (xZ (fun v H' hh=>hK _ _ _ (PF.xH hle d v) hh) h)
theorem bkM {op:POp} {d:Option Nat} {K1 K2:PF→PH→Prop} (hK:∀ F F' H,F.le F'→K1 F H→K2 F' H) (hle:F.le F') (h:wpOp C op d K1 F H):wpOp C op d K2 F' H:=by
 cases op
 case call n a=>exact aOY hK hle h
 case bJA x a =>
  obtain⟨n,cs,h1,h2⟩:=h
  exact⟨n,cs,cI hle h1,aOY hK hle h2⟩
 case box r x=>cases r<;>first | exact NN (op:=.box false x) hK hle h | exact akX (op:=.box true x) hK hle h
 case bHV r s l z ps=>cases r<;>first | exact NN (op:=.bHV false s l z ps) hK hle h | exact akX (op:=.bHV true s l z ps) hK hle h
 case alloc cs=>exact NN (op:=.alloc cs) hK hle h
 case bHZ s b z l c=>exact NN (op:=.bHZ s b z l c) hK hle h
 case bJL sh=>exact NN (op:=.bJL sh) hK hle h
 case store n x y=>exact awV (op:=.store n x y) hK hle h
 case append s b x y=>exact awV (op:=.append s b x y) hK hle h
 case bIN sh x y z=>exact awV (op:=.bIN sh x y z) hK hle h
 case insert sh x y z=>exact awV (op:=.insert sh x y z) hK hle h
 all_goals exact akX hK hle h
theorem OK {K1 K2:PF→PH→Prop} (hK:∀ F F' H,F.le F'→K1 F H→K2 F' H):∀ {ops:List bC} {F F':PF} {H:PH},F.le F'→wpOps C ops K1 F H→wpOps C ops K2 F' H
 | [],_,_,_,hle,h=>hK _ _ _ hle h
 | ⟨d,op,none⟩::rest,_,_,_,hle,h=>bkM (fun _ _ _ a b=>OK hK a b) hle h
 | ⟨d,op,some (t,want)⟩::rest,F,F',H,hle,h=>by
  rw[aOM] at h ⊢
  unfold tE at h
  split at h
  ·rename_i b hb
   rw[hle t _ hb]
   unfold tE
   simp only
   split at h
   ·rename_i e; rw[if_pos e]; exact bkM (fun _ _ _ a b=>OK hK a b) hle h
   ·rename_i e; rw[if_neg e]; exact OK hK (PF.xH hle d _) h
  ·rename_i hb
   rw[hle t _ hb]
   exact OK hK (PF.xH hle d _) h
  ·exact h.elim
theorem aGA {Hs:PH} {S:Spec} {st:Bool} {op:POp} {K:PV→PH→Prop} (hle:F.le F') (h:(op.kind F).run C Hs S st K H):(op.kind F').run C Hs S st K H:=by
 have new:∀ op:POp,(Kind.new (cQ op F)).run C Hs S st K H→(Kind.new (cQ op F')).run C Hs S st K H:=fun op h=>by
  obtain⟨mk,x,h1,h2⟩:=h
  exact⟨mk,x,axM hle h1,h2⟩
 have calm:∀ op:POp,(Kind.calm (aO op F)).run C Hs S st K H→(Kind.calm (aO op F')).run C Hs S st K H:=fun op h=>by
  obtain⟨v,h1,h2⟩:=h
  exact⟨v,aGI hle h1,h2⟩
 have wr:∀ op:POp,(Kind.write fun H K=>bU op F H K).run C Hs S st K H→(Kind.write fun H K=>bU op F' H K).run C Hs S st K H:=fun op h=>aML (op:=op) hle (show bU op F H (fun r H'=>Hs.le H'∧K r H') from h)
 cases op
 case call n a =>
  obtain⟨vs,D,R,h1,h2⟩:=h
  exact⟨vs,D,R,acC hle h1,h2⟩
 case bJA x a =>
  unfold POp.kind at h ⊢
  simp only at h ⊢
  cases hx:x.ev F with
  | none=>rw[hx] at h; exact h.elim
  | some u =>
   rw[hx] at h
   rw[cI hle hx]
   cases u<;>simp only at h ⊢<;>first | exact h | skip
   obtain⟨vs,D,R,h1,h2⟩:=h
   exact⟨vs,D,R,aDS hle _ h1,h2⟩
 case insert sh x k v =>
  obtain⟨o,sh',key,u,g,h1,h2⟩:=h
  refine⟨o,sh',key,u,g,?_,h2⟩
  cases hx:x.ev F with
  | none=>simp[hx] at h1
  | some a =>
   cases hy:k.ev F with
   | none=>simp[hx,hy] at h1
   | some b =>
    cases hz:v.ev F with
    | none=>simp[hx,hy,hz] at h1
    | some c=>rw[cI hle hx,cI hle hy,cI hle hz]; rw[hx,hy,hz] at h1; exact h1
 case box r x=>cases r<;>first | exact new (.box false x) h | exact calm (.box true x) h
 case bHV r s l z ps=>cases r<;>first | exact new (.bHV false s l z ps) h | exact calm (.bHV true s l z ps) h
 case alloc cs=>exact new (.alloc cs) h
 case bHZ s b z l c=>exact new (.bHZ s b z l c) h
 case bJL sh=>exact new (.bJL sh) h
 case store n x y=>exact wr (.store n x y) h
 case append s b x y=>exact wr (.append s b x y) h
 case bIN sh x y z=>exact wr (.bIN sh x y z) h
 all_goals exact calm _ h
theorem bgA {Hs:PH} {S:Spec} {st:Bool} {i:bC} {K:PV→PH→Prop} (hle:F.le F') (h:(i.kind F).run C Hs S st K H):(i.kind F').run C Hs S st K H:=by
 unfold bC.kind at h ⊢
 split
 ·rename_i hg
  rw[hg] at h
  exact aGA hle h
 ·rename_i t want hg
  rw[hg] at h
  simp only at h
  split at h
  ·rename_i b hb
   rw[hle t _ hb]
   simp only
   split at h
   ·rename_i e; rw[if_pos e]; exact aGA hle h
   ·rename_i e; rw[if_neg e]; exact h
  ·rename_i hb
   rw[hle t _ hb]
   exact h
  ·exact h.elim
theorem bcY {Hs:PH} {S:Spec} {K1 K2:PF→PH→Prop} (hK:∀ F F' H,F.le F'→K1 F H→K2 F' H):∀ {ops:List (bC × Bool)} {F F':PF} {H:PH},Hs.le H→F.le F'→wpD C Hs S ops K1 F H→wpD C Hs S ops K2 F' H
 | [],_,_,_,_,hle,h=>hK _ _ _ hle h
 | i::rest,F,F',H,hs,hle,h=>by
  have h1:(i.1.kind F).run C Hs S i.2 (fun v H'=>wpD C Hs S rest K1 (F.put i.1.dst v) H') H:=h
  exact bgA hle (Kind.pG (pD _ _) (fun v H' hs' hh=>bcY hK hs' (PF.xH hle _ v) hh) hs h1)
class Up (K:cN):Prop where
 up:∀ {e:lJ} {F F':PF} {H:PH},F.le F'→K e F H→K e F' H
theorem sW:∀ (c:aC) {K1 K2:cN} (_:∀ e F F' H,F.le F'→K1 e F H→K2 e F' H) {F F':PF} {H:PH},F.le F'→c.wp C K1 F H→c.wp C K2 F' H
 | .skip,_,_,hK,_,_,_,hle,h=>hK _ _ _ _ hle h
 | .region ops,_,_,hK,_,_,_,hle,h=>OK (hK .normal) hle h
 | .draw ops,_,_,hK,_,_,_,hle,⟨Hs,S,h1,h2⟩=>⟨Hs,S,h1,bcY (hK .normal) h1 hle h2⟩
 | .seq a b,K1,K2,hK,_,_,_,hle,h=>sW a (K1:=iD C (b.wp C) K1) (K2:=iD C (b.wp C) K2) (fun e F F' H hl hh=>by
   cases e with
   | normal=>exact sW b hK hl hh
   | exit id=>exact hK (.exit id) _ _ _ hl hh
   | ret=>exact hK .ret _ _ _ hl hh) hle h
 | .cond c a b,K1,K2,hK,F,F',H,hle,h=>by
  rw[bjW] at h ⊢
  unfold RX at h
  split at h
  ·rename_i t ht
   rw[cI hle ht]
   unfold RX
   simp only
   split at h
   ·rename_i e; rw[if_pos e]; exact sW a hK hle h
   ·rename_i e; rw[if_neg e]; exact sW b hK hle h
  ·exact h.elim
 | .block id c,K1,K2,hK,_,_,_,hle,h=>sW c (K1:=dW id K1) (K2:=dW id K2) (fun e F F' H hl hh=>by
   cases e with
   | normal=>exact hK .normal _ _ _ hl hh
   | exit j =>
    rw[TA] at hh ⊢
    split at hh
    ·rename_i e; rw[if_pos e]; exact hK .normal _ _ _ hl hh
    ·rename_i e; rw[if_neg e]; exact hK (.exit j) _ _ _ hl hh
   | ret=>exact hK .ret _ _ _ hl hh) hle h
 | .loop c,K1,K2,hK,F,F',H,hle,⟨α,Fs,Hs,Pr,m,a0,F1,H1,h1,h2,h3,h4,h5⟩=>by
  obtain⟨F1',k1,k2⟩:=h1.up hle
  refine⟨α,Fs,Hs,Pr,m,a0,F1',H1,k1,h2,PF.le_trans h3 k2,h4,fun a ha=>?_⟩
  refine sW c (K1:=eE Fs Hs Pr m (m a) K1) (K2:=eE Fs Hs Pr m (m a) K2) (fun e F F' H hl hh=>?_) PF.le_refl (h5 a ha)
  cases e with
  | normal =>
   obtain⟨b,F2,H2,z1,z2,z3,z4,z5⟩:=hh
   obtain⟨F2',y1,y2⟩:=z1.up hl
   exact⟨b,F2',H2,y1,z2,z3,PF.le_trans z4 y2,z5⟩
  | exit id=>exact hK (.exit id) _ _ _ hl hh
  | ret=>exact hK .ret _ _ _ hl hh
 | .exit id,_,_,hK,_,_,_,hle,h=>hK (.exit id) _ _ _ hle h
 | .ret,_,_,hK,_,_,_,hle,h=>hK .ret _ _ _ hle h
instance Up.seq {K:cN} [Up K] (b:aC):Up (iD C (b.wp C) K) where
 up {e} {F} {F'} {H} hl hh:=by
  cases e with
  | normal=>exact sW b (fun e F F' H a h=>Up.up a h) hl hh
  | exit id=>exact Up.up (K:=K) (e:=.exit id) hl hh
  | ret=>exact Up.up (K:=K) (e:=.ret) hl hh
instance Up.block {K:cN} [Up K] (id:Nat):Up (dW id K) where
 up {e} {F} {F'} {H} hl hh:=by
  cases e with
  | normal=>exact Up.up (K:=K) (e:=.normal) hl hh
  | exit j =>
   rw[TA] at hh ⊢
   split at hh
   ·rename_i e; rw[if_pos e]; exact Up.up (K:=K) (e:=.normal) hl hh
   ·rename_i e; rw[if_neg e]; exact Up.up (K:=K) (e:=.exit j) hl hh
  | ret=>exact Up.up (K:=K) (e:=.ret) hl hh
instance Up.loop {K:cN} [Up K] {α:Type} (Fs:α→PF) (Hs:α→PH) (Pr:α→Prop) (m:α→Nat) (n:Nat):Up (eE Fs Hs Pr m n K) where
 up {e} {F} {F'} {H} hl hh:=by
  cases e with
  | normal =>
   obtain⟨b,F2,H2,z1,z2,z3,z4,z5⟩:=hh
   obtain⟨F2',y1,y2⟩:=z1.up hl
   exact⟨b,F2',H2,y1,z2,z3,PF.le_trans z4 y2,z5⟩
  | exit id=>exact Up.up (K:=K) (e:=.exit id) hl hh
  | ret=>exact Up.up (K:=K) (e:=.ret) hl hh
theorem bsJ {H:PH} (hle:F.le F') {x:dQ} {v:PV} (h:x.ev F H=some v):x.ev F' H=some v:=by
 cases x with
 | tmp t=>exact hle t v h
 | cell t n =>
  cases n<;>simp only[dQ.ev] at h ⊢<;>(cases hx:F t with
   | none=>simp[hx] at h
   | some a=>rw[hle t a hx,← hx]; exact h)
theorem amR {H:PH} (hle:F.le F'):∀ {xs:List dQ} {vs:List PV},dQ.evs F H xs=some vs→dQ.evs F' H xs=some vs
 | [],_,h=>h
 | x::xs,vs,h=>by
  rw[kX] at h ⊢
  cases hx:x.ev F H with
  | none=>simp[hx] at h
  | some v =>
   cases hs:dQ.evs F H xs with
   | none=>simp[hs] at h
   | some ws =>
    rw[hx,hs] at h
    rw[bsJ hle hx,amR hle hs]
    exact h
instance Up.ret (res:List dQ) (R:PV→PH→Prop):Up (aT res R) where
 up {e} {F} {F'} {H} hl hh:=by
  cases e with
  | exit id=>exact hh
  | normal=>obtain⟨vs,h1,h2⟩:=hh; exact⟨vs,amR hl h1,h2⟩
  | ret=>obtain⟨vs,h1,h2⟩:=hh; exact⟨vs,amR hl h1,h2⟩
end
def EI (f:aK) (row:List Int):Int:=match fV (jS f) row 0 with
 | some i=>i
 | none=>-1
theorem boW {C:Ctx} (f:aK) (row:List Int) (hl:row.length≤16777216):PE.wp C (aT aHX.res (aD (.int .i64 (EI f row)))) (PF.args [.agg f.cells,ints row]) .nil:=by
 unfold EI
 simp only[go_sem,ο,PE,aVB,aVC,aHX]
 refine wp_loop (α:=Nat) (fun k=>(((PF.nil.set 1 (ints row)).set 2 (.bH f.cells)).set 5 (.int .i64 k))) (fun _=>.nil) (fun k=>k≤row.length∧fV (jS f) row 0=fV (jS f) (row.drop k) k) (fun k=>row.length-k) 0 ⟨bKF _,rfl⟩ Lq PH.nil_le ?_
 rintro k ⟨hk,ha⟩
 simp only[go_sem,ο,γ,aVA,aVD,bJT]
 by_cases hlt:k<row.length
 ·have bHW:(k:Int)<(row.length:Nat):=by omega
  have hat:(row.map fun x=>[PV.int .i64 x])[k]?=some [.int .i64 row[k]]:=by simp[hlt]
  rw[bLP hlt,fV] at ha
  generalize row[k]=x at *
  simp only[go_sem,ο,bHW]
  refine bR .nil eG PH.nil_le ?_
  by_cases c1:x < -1
  ·rw[show jS f x=true from by unfold jS; rw[decide_eq_true c1]; rfl,if_pos rfl] at ha
   simp only[go_sem,ο,γ,SQ,hat,c1,amU]
   refine aM (.inr rfl) rfl ?_
   rw[aV,ha]
  ·by_cases c2:x≥(f.bHP.length:Nat)
   ·rw[show jS f x=true from by unfold jS; rw[decide_eq_true c2,Bool.or_true],if_pos rfl] at ha
    simp only[go_sem,ο,δ,γ,θ,reduceCtorEq,SQ,hat,c1,bJT,c2,amU]
    refine aM (.inr rfl) rfl ?_
    rw[aV,ha]
   ·rw[show jS f x=false from by unfold jS; rw[decide_eq_false c1,decide_eq_false c2]; rfl,if_neg (by decide)] at ha
    simp only[go_sem,ο,δ,γ,θ,reduceCtorEq,SQ,hat,c1,bJT,c2,aVE,wZz k]
    exact aH (k+1) ⟨hlt,ha⟩ Om Lq PH.le_refl
 ·have bHW:¬ (k:Int)<(row.length:Nat):=by omega
  have:k=row.length:=by omega
  subst this
  rw[List.drop_length,fV] at ha
  simp only[go_sem,ο,bHW,aVF]
  refine aM (.inr rfl) rfl ?_
  rw[aV,ha]
theorem bnQ {r e:Int} (h:0≤e):max 0 (min r e)=min (max r 0) e:=by omega
theorem a2P (f:aK) (room:List Int) {k:Nat} (h:k<f.bHP.length):(fK f room).take (k+1)=(fK f room).take k++[rB f room k]:=by
 have hk:k<(fK f room).length:=by rw[PA]; exact h
 rw[bLK hk,aHP]
theorem aCU {xs:List Int} {k:Nat} {d:Int} (h:k<xs.length):(xs.take (k+1)).contains d=((xs.take k).contains d||decide (xs[k]=d)):=by
 rw[Bool.eq_iff_iff]
 rw[bNE,bLK h,bLH,bLD,Bool.or_eq_true,bNE,decide_eq_true_eq]
 exact⟨fun h=>h.imp id Eq.symm,fun h=>h.imp id Eq.symm⟩
theorem aUH {C:Ctx} (l:List Int) (hl:l.length≤1000000000000000) (x:Int):OZ.wp C (aT OY.res (aD (.bool (l.contains x)))) (PF.args [ints l,.int .i64 x]) .nil:=by
 simp only[go_sem,γ,δ,ε,ζ,η,θ,ι,κ,μ,ν,ξ,ο,ρ,σ,τ,υ,reduceIte,reduceCtorEq,OZ,aUI,aUJ,OY]
 refine wp_loop (α:=Nat) (fun k=>(((PF.nil.set 0 (ints l)).set 1 (.int .i64 x)).set 5 (.int .i64 k))) (fun _=>.nil) (fun k=>k≤l.length∧(l.take k).contains x=false) (fun k=>l.length-k) 0 ⟨bKF _,by simp⟩ Lq PH.nil_le ?_
 rintro k ⟨hk,hn⟩
 simp only[go_sem,γ,δ,ε,ζ,η,θ,ι,κ,μ,ν,ξ,ο,ρ,σ,τ,υ,reduceIte,reduceCtorEq,aUG,aUK,bJT]
 by_cases hlt:k<l.length
 ·have bHW:(k:Int)<(l.length:Nat):=by omega
  have hat:(l.map fun n=>[PV.int .i64 n])[k]?=some [.int .i64 l[k]]:=by simp[hlt]
  have hs:=aCU (d:=x) hlt
  by_cases c:l[k]=x
  ·simp only[go_sem,γ,δ,ε,ζ,η,θ,ι,κ,μ,ν,ξ,ο,ρ,σ,τ,υ,reduceIte,reduceCtorEq,bHW,amT,hat,bO c,aUL]
   refine aM (.inr rfl) rfl ?_
   rw[aV]
   exact congrArg PV.bool (bNE.2 (c ▸ bJX hlt)).symm
  ·simp only[go_sem,γ,δ,ε,ζ,η,θ,ι,κ,μ,ν,ξ,ο,ρ,σ,τ,υ,reduceIte,reduceCtorEq,bHW,amT,hat,bB c,aUM,wZz k]
   exact aH (k+1) ⟨hlt,by rw[hs,hn]; simp[c]⟩ Om Lq PH.le_refl
 ·have bHW:¬ (k:Int)<(l.length:Nat):=by omega
  have:k=l.length:=by omega
  subst this
  rw[bKS] at hn
  simp only[go_sem,γ,δ,ε,ζ,η,θ,ι,κ,μ,ν,ξ,ο,ρ,σ,τ,υ,reduceIte,reduceCtorEq,bHW,aUN]
  refine aM (.inr rfl) rfl ?_
  rw[aV,hn]
def NG (l:List Int) (x:Int):Int:=match l.findIdx? (fun y=>decide (y=x)) with
 | some i=>(i:Int)
 | none=>-1
theorem bmW {l:List Int} {x:Int} {k:Nat} (h:k<l.length) (h1:l[k]=x) (h2:(l.take k).contains x=false):NG l x=k:=by
 unfold NG
 have:l.findIdx? (fun y=>decide (y=x))=some k:=by
  rw[List.findIdx?_eq_some_iff_getElem]
  refine⟨h,by simp[h1],fun j hj=>?_⟩
  intro hx
  rw[decide_eq_true_eq] at hx
  have:x∈l.take k:=by
   rw[← hx]
   exact List.mem_take_iff_getElem.2 ⟨j,by omega,rfl⟩
  rw[bNE.2 this] at h2
  cases h2
 rw[this]
theorem apO {l:List Int} {x:Int} (h:l.contains x=false):NG l x=-1:=by
 unfold NG
 have:l.findIdx? (fun y=>decide (y=x))=none:=by
  rw[List.findIdx?_eq_none_iff]
  intro y hy
  rw[decide_eq_false_iff_not]
  intro e
  subst e
  rw[bNE.2 hy] at h
  cases h
 rw[this]
theorem bmX (l:List Int) (x:Int):decide (NG l x≥0)=l.contains x:=by
 cases hc:l.contains x with
 | false=>rw[apO hc]; rfl
 | true =>
  unfold NG
  cases hf:l.findIdx? (fun y=>decide (y=x)) with
  | some i=>exact decide_eq_true (Om:(i:Int)≥0)
  | none =>
   rw[List.findIdx?_eq_none_iff] at hf
   have:=hf x (bNE.1 hc)
   simp at this
theorem a9D {C:Ctx} (l:List Int) (hl:l.length≤1000000000000000) (x:Int):BC.wp C (aT OR.res (aD (.int .i64 (NG l x)))) (PF.args [ints l,.int .i64 x]) .nil:=by
 simp only[go_sem,γ,δ,ε,ζ,η,θ,ι,κ,μ,ν,ξ,ο,ρ,σ,τ,υ,reduceIte,reduceCtorEq,BC,arG,arH,OR,bJT]
 refine wp_loop (α:=Nat) (fun k=>((((PF.nil.set 0 (ints l)).set 1 (.int .i64 x)).set 7 (.int .i64 (l.length:Nat))).set 8 (.int .i64 k))) (fun _=>.nil) (fun k=>k≤l.length∧(l.take k).contains x=false) (fun k=>l.length-k) 0 ⟨bKF _,by simp⟩ Lq PH.nil_le ?_
 rintro k ⟨hk,hn⟩
 simp only[go_sem,γ,δ,ε,ζ,η,θ,ι,κ,μ,ν,ξ,ο,ρ,σ,τ,υ,reduceIte,reduceCtorEq,arF,arI]
 by_cases hlt:k<l.length
 ·have bHW:(k:Int)<(l.length:Nat):=by omega
  have hat:(l.map fun n=>[PV.int .i64 n])[k]?=some [.int .i64 l[k]]:=by simp[hlt]
  have hs:=aCU (d:=x) hlt
  by_cases c:l[k]=x
  ·simp only[go_sem,γ,δ,ε,ζ,η,θ,ι,κ,μ,ν,ξ,ο,ρ,σ,τ,υ,reduceIte,reduceCtorEq,bHW,OS,OT,hat,bO c.symm,arJ]
   refine aM (.inr rfl) Ev ?_
   rw[aV,bmW hlt c hn]
  ·simp only[go_sem,γ,δ,ε,ζ,η,θ,ι,κ,μ,ν,ξ,ο,ρ,σ,τ,υ,reduceIte,reduceCtorEq,bHW,OS,OT,hat,bB (fun h:x=l[k]=>c h.symm),arK,wZz k]
   exact aH (k+1) ⟨hlt,by rw[hs,hn]; simp[c]⟩ Om Lq PH.le_refl
 ·have bHW:¬ (k:Int)<(l.length:Nat):=by omega
  have:k=l.length:=by omega
  subst this
  rw[bKS] at hn
  simp only[go_sem,γ,δ,ε,ζ,η,θ,ι,κ,μ,ν,ξ,ο,ρ,σ,τ,υ,reduceIte,reduceCtorEq,bHW,arL]
  refine aM (.inr rfl) Ev ?_
  rw[aV,apO hn]
theorem aGG {C:Ctx} (l:List Int) (x:Int) (h:aE C 261 [ints l,.int .i64 x] .nil (aD (.int .i64 (NG l x)))):rZ.wp C (aT tM.res (aD (.bool (l.contains x)))) (PF.args [ints l,.int .i64 x]) .nil:=by
 simp only[go_sem,γ,δ,ε,ζ,η,θ,ι,κ,μ,ν,ξ,ο,ρ,σ,τ,υ,reduceIte,reduceCtorEq,rZ,ON,OO,tM]
 refine aA h Ev ?_
 simp only[go_sem,γ,δ,ε,ζ,η,θ,ι,κ,μ,ν,ξ,ο,ρ,σ,τ,υ,reduceIte,reduceCtorEq]
 refine aM (.inr rfl) Ev ?_
 rw[aV,bmX]
structure btZ (C:Ctx):Prop where
 has:∀ (l:List Int) (x:Int),l.length≤1000000000000000→aE C 260 [ints l,.int .i64 x] .nil (aD (.bool (l.contains x)))
theorem bhF {C:Ctx} (Lb:btZ C) (f:aK) (hV:VF f) (now:List (List Int)) (hl:fI now) (hlen:now.length=f.bHR.length) (r:Int) (h0:0≤r) (h4:r≤4) (down:List Int) (hd:down.length≤1000000000000000) :
  HT.wp C (aT afC.res (aD (.bool (fW f now r down)))) (PF.args [.agg f.cells,lay now,.int .i64 r,ints down]) .nil:=by
 have bIC:=hl.rows
 simp only[go_sem,γ,δ,ε,ζ,η,θ,ι,κ,μ,ν,ξ,ο,ρ,σ,τ,υ,reduceIte,reduceCtorEq,HT,aGJ,aGK,afC,bJT]
 refine wp_loop (α:=Nat) (fun v=>((((((PF.nil.set 2 (.int .i64 r)).set 3 (ints down)).set 4 (.bH f.cells)).set 15 (lay now)).set 16 (.int .i64 (now.length:Nat))).set 17 (.int .i64 v))) (fun _=>.nil) (fun v=>v≤now.length∧yI f now r down v=true) (fun v=>now.length-v) 0 ⟨bKF _,rfl⟩ (by (repeat' (first|exact PF.nil_le|refine PF.aI ?_ ?_))<;>first|(simp only[go_sem,γ,δ,ε,ζ,η,θ,ι,κ,μ,ν,ξ,ο,ρ,σ,τ,υ,reduceIte,reduceCtorEq,bJT]<;>rfl)|rfl) PH.nil_le ?_
 rintro v ⟨hv,hok⟩
 simp only[go_sem,γ,δ,ε,ζ,η,θ,ι,κ,μ,ν,ξ,ο,ρ,σ,τ,υ,reduceIte,reduceCtorEq,arA,aGL]
 by_cases hlt:v<now.length
 ·have bHW:(v:Int)<(now.length:Nat):=by omega
  have hat:(now.map fun r=>[ints r])[v]?=some [ints now[v]]:=by simp[hlt]
  have hgd:now.getD v []=now[v]:=by simp[bKO,hlt]
  have hrl:(now[v]).length≤16777216:=by
   have h1:=hl.all
   have h2:(now[v]).length≤now.flatten.length:=(List.sublist_flatten_of_mem (bJX hlt)).length_le
   omega
  obtain⟨hp,he⟩:=sA hV (Om:v<f.bHR.length)
  have hpol:=hV.bID _ (bJX hp)
  rw[he] at hpol
  have hw:IntKind.i64.wrap ((fE f v).k+r)=(fE f v).k+r:=wrap_i64 Om Om
  have bIL:=acF f now r down v
  rw[hok,bKE,hgd] at bIL
  have hno:=fun (h:xK f r down v now[v]=true)=>azJ (f:=f) (now:=now) (reserve:=r) (down:=down) hlt (by rw[hgd]; exact h)
  generalize now[v]=row at *
  simp only[go_sem,γ,δ,ε,ζ,η,θ,ι,κ,μ,ν,ξ,ο,ρ,σ,τ,υ,reduceIte,reduceCtorEq,bHW,aGM,hat,aGN,aGO,bJT]
  refine wp_loop (α:=Nat) (fun k=>((((((((((((PF.nil.set 2 (.int .i64 r)).set 3 (ints down)).set 4 (.bH f.cells)).set 15 (lay now)).set 16 (.int .i64 (now.length:Nat))).set 17 (.int .i64 v)).set 9 (.int .i64 v)).set 11 (.bool (tZ down (row.take k)))).set 12 (.int .i64 (iR down (row.take k):Nat))).set 22 (ints row)).set 23 (.int .i64 (row.length:Nat))).set 24 (.int .i64 k))) (fun _=>.nil) (fun k=>k≤row.length) (fun k=>row.length-k) 0 (bKF _) (by (repeat' (first|exact PF.nil_le|refine PF.aI ?_ ?_))<;>first|(simp only[go_sem,γ,δ,ε,ζ,η,θ,ι,κ,μ,ν,ξ,ο,ρ,σ,τ,υ,reduceIte,reduceCtorEq,List.take_zero,bJT,tZ,iR,List.any_nil,List.countP_nil]<;>rfl)|rfl) PH.nil_le ?_
  intro k hk
  have hol:iR down (row.take k)≤row.length:=bMQ List.countP_le_length (by rw[bKL]; omega)
  simp only[go_sem,γ,δ,ε,ζ,η,θ,ι,κ,μ,ν,ξ,ο,ρ,σ,τ,υ,reduceIte,reduceCtorEq,aqZ,aGP]
  by_cases hkl:k<row.length
  ·have hkl':(k:Int)<(row.length:Nat):=by omega
   have hra:(row.map fun n=>[PV.int .i64 n])[k]?=some [.int .i64 row[k]]:=by simp[hkl]
   have hs1:=apN (down:=down) hkl
   have hs2:=VE (down:=down) hkl
   by_cases c:row[k]<0
   ·have d1:mK down row[k]=false:=by unfold mK; rw[decide_eq_false Om]; rfl
    have d2:mL down row[k]=false:=by unfold mL; rw[decide_eq_false Om]; rfl
    rw[d1,Bool.or_false] at hs1
    rw[d2,if_neg (by simp),bLL] at hs2
    simp only[go_sem,γ,δ,ε,ζ,η,θ,ι,κ,μ,ν,ξ,ο,ρ,σ,τ,υ,reduceIte,reduceCtorEq,hkl',YR,hra,YS,c,yV,wZz k]
    exact aH (k+1) hkl Om (by (repeat' (first|exact PF.nil_le|refine PF.aI ?_ ?_))<;>first|(simp only[go_sem,γ,δ,ε,ζ,η,θ,ι,κ,μ,ν,ξ,ο,ρ,σ,τ,υ,reduceIte,reduceCtorEq,hs1,hs2]<;>rfl)|rfl) PH.le_refl
   ·simp only[go_sem,γ,δ,ε,ζ,η,θ,ι,κ,μ,ν,ξ,ο,ρ,σ,τ,υ,reduceIte,reduceCtorEq,hkl',YR,hra,YS,c,aGQ]
    refine aA (Lb.has down row[k] hd) Ev ?_
    cases hc:down.contains row[k] with
    | true =>
     have d1:mK down row[k]=true:=by unfold mK; rw[decide_eq_true Om,hc]; rfl
     have d2:mL down row[k]=false:=by unfold mL; rw[hc]; simp
     rw[d1,Bool.or_true] at hs1
     rw[d2,if_neg (by simp),bLL] at hs2
     simp only[go_sem,γ,δ,ε,ζ,η,θ,ι,κ,μ,ν,ξ,ο,ρ,σ,τ,υ,reduceIte,reduceCtorEq,arB,yV,wZz k]
     exact aH (k+1) hkl Om (by (repeat' (first|exact PF.nil_le|refine PF.aI ?_ ?_))<;>first|(simp only[go_sem,γ,δ,ε,ζ,η,θ,ι,κ,μ,ν,ξ,ο,ρ,σ,τ,υ,reduceIte,reduceCtorEq,hs1,hs2]<;>rfl)|rfl) PH.le_refl
    | false =>
     have d1:mK down row[k]=false:=by unfold mK; rw[hc]; simp
     have d2:mL down row[k]=true:=by unfold mL; rw[decide_eq_true Om,hc]; rfl
     rw[d1,Bool.or_false] at hs1
     rw[d2,if_pos rfl] at hs2
     simp only[go_sem,γ,δ,ε,ζ,η,θ,ι,κ,μ,ν,ξ,ο,ρ,σ,τ,υ,reduceIte,reduceCtorEq,arC,dH (Om:iR down (row.take k)<9223372036854775807),yV,wZz k]
     exact aH (k+1) hkl Om (by (repeat' (first|exact PF.nil_le|refine PF.aI ?_ ?_))<;>first|(simp only[go_sem,γ,δ,ε,ζ,η,θ,ι,κ,μ,ν,ξ,ο,ρ,σ,τ,υ,reduceIte,reduceCtorEq,hs1,hs2]<;>rfl)|rfl) PH.le_refl
  ·have hkl':¬ (k:Int)<(row.length:Nat):=by omega
   have:k=row.length:=by omega
   subst this
   rw[bKS] at hol
   simp only[go_sem,γ,δ,ε,ζ,η,θ,ι,κ,μ,ν,ξ,ο,ρ,σ,τ,υ,reduceIte,reduceCtorEq,hkl',bKS]
   refine bR .nil eG PH.nil_le ?_
   have hsh:xK f r down v row=(tZ down row&&decide (((iR down row:Nat):Int)<(fE f v).k+r)):=rfl
   cases hh:tZ down row with
   | false =>
    rw[hh,bJZ] at hsh
    rw[hsh] at bIL
    simp only[go_sem,γ,δ,ε,ζ,η,θ,ι,κ,μ,ν,ξ,ο,ρ,σ,τ,υ,reduceIte,reduceCtorEq,OP,hh,OQ,wZz v]
    exact aH (v+1) ⟨hlt,bIL⟩ Om Lq PH.nil_le
   | true =>
    rw[hh,bKE] at hsh
    simp only[go_sem,γ,δ,ε,ζ,η,θ,ι,κ,μ,ν,ξ,ο,ρ,σ,τ,υ,reduceIte,reduceCtorEq,OP,hh,vC (Om:v<f.bHR.length),hV.afD (Om:v<f.bHR.length),oR hp,he,hw]
    by_cases c:((iR down row:Nat):Int)<(fE f v).k+r
    ·rw[decide_eq_true c] at hsh
     simp only[go_sem,γ,δ,ε,ζ,η,θ,ι,κ,μ,ν,ξ,ο,ρ,σ,τ,υ,reduceIte,reduceCtorEq,c,arD]
     refine aM (.inr rfl) Ev ?_
     rw[aV]
     exact congrArg PV.bool (hno hsh).symm
    ·rw[decide_eq_false c] at hsh
     rw[hsh] at bIL
     simp only[go_sem,γ,δ,ε,ζ,η,θ,ι,κ,μ,ν,ξ,ο,ρ,σ,τ,υ,reduceIte,reduceCtorEq,c,OQ,wZz v]
     exact aH (v+1) ⟨hlt,bIL⟩ Om Lq PH.nil_le
 ·have bHW:¬ (v:Int)<(now.length:Nat):=by omega
  have:v=now.length:=by omega
  subst this
  simp only[go_sem,γ,δ,ε,ζ,η,θ,ι,κ,μ,ν,ξ,ο,ρ,σ,τ,υ,reduceIte,reduceCtorEq,bHW,arE]
  refine aM (.inr rfl) Ev ?_
  rw[aV]
  exact congrArg PV.bool hok.symm
def avP:Rg:=[iA 1 (.box true (Tm 0)),iT 2 false]
def avQ:Rg:=[iO 6 3 1,iK 7 52 6,iM 5 7,iE 8 5 0,iE 9 5 1,iA 3 (.alloc [(.bool false),.aB,.aB]),iS 3 3 8,iM 4 9]
def zM:Rg:=[iM 10 4,iC 11 .eql 10 0,iM 12 11,gF 13 0 3 12 true,gL 14 13 12 true,iG 15 (.un .not (Tm 14)) 12 true,iP 16 12 15,iM 17 16,gF 18 1 3 17 true,gL 19 18 17 true,gN 20 19 17 true,gC 21 .leq 20 1 17 true,iP 22 17 21,iM 23 22,gF 24 2 3 23 true,gL 25 24 23 true,gN 26 25 23 true,gC 27 .leq 26 1 23 true,iP 28 23 27,iM 2 28]
def CN:aC:=(sq avP (sq avQ (sq zM .ret)))
def bdU:List Nat:=[1]
def RL:aW:=⟨1,29,CN,[.tmp 2]⟩
def ajJ:Rg:=[iT 4 false]
def ajK:Rg:=[iM 6 0,iN 7 6,iM 8 1,iB 9 .neq 7 8]
def ajL:Rg:=[iT 4 false]
def ajM:Rg:=[iI 5 0]
def ajN:Rg:=[iM 10 5,iM 11 1,iB 12 .lss 10 11]
def ajO:Rg:=[iM 15 0,iM 16 5,iX 17 3 15 16,iO 18 3 17,iK 19 74 18,iA 20 (.un .not (Tm 19))]
def ajP:Rg:=[iT 4 false]
def ajQ:Rg:=[iM 13 5,iC 14 .add 13 1,iM 5 14]
def ajI:aC:=(.seq (sq ajN (.cond (Tm 12) .skip (.exit 0))) (.seq (.block 1 (sq ajO (.cond (Tm 20) (sq ajP .ret) .skip))) (.region ajQ)))
def ajR:Rg:=[iT 4 true]
def yB:aC:=(sq ajJ (.seq (sq ajK (.cond (Tm 9) (sq ajL .ret) .skip)) (.seq (sq ajM (.block 0 (.loop ajI))) (sq ajR .ret))))
def a5O:List Nat:=[]
def ED:aW:=⟨2,21,yB,[.tmp 4]⟩
def aYH:Rg:=[iA 1 (.box true (Tm 0)),iT 2 false]
def aYI:Rg:=[iF 12 1 1,iL 13 12,iN 14 13,iM 3 14]
def aYJ:Rg:=[iM 15 3,iC 16 .lss 15 1,iM 17 16,gM 18 3 17 false,gC 19 .gtr 18 4 17 false,iQ 20 17 19,iM 21 20,gF 22 1 1 21 false,gL 23 22 21 false,gM 24 3 21 false,gK2 25 75 23 24 21 false,iG 26 (.un .not (Tm 25)) 21 false,iQ 27 21 26,iM 28 27,gF 29 3 1 28 false,gL 30 29 28 false,gM 31 3 28 false,gK2 32 75 30 31 28 false,iG 33 (.un .not (Tm 32)) 28 false,iQ 34 28 33,iM 35 34,gF 36 2 1 35 false,gL 37 36 35 false,gN 38 37 35 false,gM 39 3 35 false,gB 40 .neq 38 39 35 false,iQ 41 35 40]
def wG:Rg:=[iT 2 false]
def aYK:Rg:=[iI 4 0]
def aYL:Rg:=[iM 42 4,iM 43 3,iB 44 .lss 42 43]
def aYM:Rg:=[iF 47 2 1,iL 48 47,iM 49 4,iX 50 1 48 49,iL 51 50,iM 52 3,iK2 53 75 51 52,iA 54 (.un .not (Tm 53)),iM 55 54,gF 56 2 1 55 false,gL 57 56 55 false,gM 58 4 55 false,iG 59 (.bIK 1 (Tm 57) (Tm 58)) 55 false,gL 60 59 55 false,gM 61 4 55 false,iG 62 (.bIK 3 (Tm 60) (Tm 61)) 55 false,gO 63 3 62 55 false,gK 64 54 63 55 false,gC 65 .neq 64 0 55 false,iQ 66 55 65]
def anK:Rg:=[iT 2 false]
def aYN:Rg:=[iM 45 4,iC 46 .add 45 1,iM 4 46]
def aYG:aC:=(.seq (sq aYL (.cond (Tm 44) .skip (.exit 0))) (.seq (.block 1 (sq aYM (.cond (Tm 66) (sq anK .ret) .skip))) (.region aYN)))
def aMQ:Rg:=[iF 68 1 1,iL 69 68,iK 70 55 69,iM 67 70,iE 71 67 0,iE 72 67 1,iA 5 (.alloc [(.bool false),.aB,.aB]),iS 3 5 71,iM 6 72]
def ZM:Rd:=[(iM 73 6,false),(iC 74 .neq 73 0,false),(iM 75 74,false),(gO 76 3 5 75 false,true),(iG 77 (.call 47 [(Ci 1)]) 75 false,true),(gK2 78 53 76 77 75 false,true),(iG 79 (.un .not (Tm 78)) 75 false,false),(iQ 80 75 79,false)]
def ZN:Rg:=[iT 2 false]
def aMR:Rg:=[iM 81 3,iA 82 (.bHZ 1 1 [(.bool false)] (Tm 81) (Tm 81)),iM 7 82]
def aMS:Rg:=[iI 8 0]
def aMT:Rg:=[iM 83 8,iM 84 3,iB 85 .lss 83 84]
def aMU:Rg:=[iI 9 0]
def aMV:Rg:=[iM 88 9,iM 89 3,iB 90 .lss 88 89]
def ZO:Rg:=[iM 93 7,iM 94 9,iM 95 7,iM 96 9,iX 97 1 95 96,iL 98 97,iM 99 98,gF 100 3 1 99 false,gL 101 100 99 false,gM 102 9 99 false,iG 103 (.bIK 3 (Tm 101) (Tm 102)) 99 false,gO 104 3 103 99 false,gK 105 54 104 99 false,gC 106 .gtr 105 0 99 false,iQ 107 99 106,iX 108 1 93 94,iS 1 108 107]
def ZP:Rg:=[iI 10 0]
def aMW:Rg:=[iM 109 10,iM 110 3,iB 111 .lss 109 110]
def ZQ:Rg:=[iM 114 7,iM 115 9,iM 116 7,iM 117 9,iX 118 1 116 117,iL 119 118,iM 120 119,gF 121 2 1 120 false,gL 122 121 120 false,gM 123 9 120 false,iG 124 (.bIK 1 (Tm 122) (Tm 123)) 120 false,gL 125 124 120 false,gM 126 10 120 false,iG 127 (.bIK 3 (Tm 125) (Tm 126)) 120 false,gO 128 3 127 120 false,gK 129 54 128 120 false,gC 130 .gtr 129 0 120 false,gM 131 130 120 false,gM 132 7 131 true,gM 133 10 131 true,iG 134 (.bIK 1 (Tm 132) (Tm 133)) 131 true,gL 135 134 131 true,iG 136 (.pick (Tm 131) (Tm 135) (.const (.bool false))) 120 false,iQ 137 120 136,iX 138 1 114 115,iS 1 138 137]
def JW:Rg:=[iM 112 10,iC 113 .add 112 1,iM 10 113]
def JV:aC:=(.seq (sq aMW (.cond (Tm 111) .skip (.exit 6))) (.seq (.block 7 (.region ZQ)) (.region JW)))
def ZR:Rg:=[iM 91 9,iC 92 .add 91 1,iM 9 92]
def ZJ:aC:=(.seq (sq aMV (.cond (Tm 90) .skip (.exit 4))) (.seq (.block 5 (sq ZO (sq ZP (.block 6 (.loop JV))))) (.region ZR)))
def aMX:Rg:=[iM 86 8,iC 87 .add 86 1,iM 8 87]
def ZK:aC:=(.seq (sq aMT (.cond (Tm 85) .skip (.exit 2))) (.seq (.block 3 (sq aMU (.block 4 (.loop ZJ)))) (.region aMX)))
def aMY:Rg:=[iI 11 0]
def aMZ:Rg:=[iM 139 11,iM 140 3,iB 141 .lss 139 140]
def ZS:Rg:=[iM 144 7,iM 145 11,iX 146 1 144 145,iL 147 146,iA 148 (.un .not (Tm 147))]
def aNA:Rg:=[iT 2 false]
def aNB:Rg:=[iM 142 11,iC 143 .add 142 1,iM 11 143]
def ZL:aC:=(.seq (sq aMZ (.cond (Tm 141) .skip (.exit 8))) (.seq (.block 9 (sq ZS (.cond (Tm 148) (sq aNA .ret) .skip))) (.region aNB)))
def ZT:Rg:=[iT 2 true]
def RI:aC:=(sq aYH (sq aYI (.seq (sq aYJ (.cond (Tm 41) (sq wG .ret) .skip)) (.seq (sq aYK (.block 0 (.loop aYG))) (.seq (sq aMQ (dq ZM (.cond (Tm 80) (sq ZN .ret) .skip))) (sq aMR (.seq (sq aMS (.block 2 (.loop ZK))) (.seq (sq aMY (.block 8 (.loop ZL))) (sq ZT .ret)))))))))
def bqG:List Nat:=[1]
def aMP:aW:=⟨1,149,RI,[.tmp 2]⟩
def aYP:Rg:=[iT 4 false]
def aYQ:Rg:=[iM 6 0,iM 7 1,iA 8 (.bIQ true (Tm 7) (Ci 1)),iK2 9 75 6 8,iA 10 (.un .not (Tm 9))]
def aYR:Rg:=[iT 4 false]
def aYS:Rg:=[iI 5 0]
def aYT:Rg:=[iM 11 5,iM 12 0,iN 13 12,iB 14 .lss 11 13]
def aYU:Rg:=[iM 17 0,iM 18 5,iX 19 3 17 18,iO 20 3 19,iK 21 54 20,iC 22 .eql 21 0]
def aYV:Rg:=[iT 4 false]
def aYW:Rg:=[iM 15 5,iC 16 .add 15 1,iM 5 16]
def aYO:aC:=(.seq (sq aYT (.cond (Tm 14) .skip (.exit 0))) (.seq (.block 1 (sq aYU (.cond (Tm 22) (sq aYV .ret) .skip))) (.region aYW)))
def aYX:Rg:=[iT 4 true]
def RJ:aC:=(sq aYP (.seq (sq aYQ (.cond (Tm 10) (sq aYR .ret) .skip)) (.seq (sq aYS (.block 0 (.loop aYO))) (sq aYX .ret))))
def bqI:List Nat:=[]
def aNC:aW:=⟨2,23,RJ,[.tmp 4]⟩
def KQ:Rg:=[iT 6 false]
def KR:Rg:=[iM 7 0,iM 8 1,iB 9 .geq 7 8,iM 10 9,gM 11 0 10 true,gM 12 2 10 true,gB 13 .leq 11 12 10 true,iP 14 10 13,iM 6 14]
def rK:aC:=(sq KQ (sq KR .ret))
def a5Q:List Nat:=[]
def wH:aW:=⟨3,15,rK,[.tmp 6]⟩
def avN:Rg:=[iT 12 false]
def avO:Rg:=[iM 13 0,iC 14 .leq 13 4,iM 15 14,gM 16 1 15 true,gC 17 .leq 16 4 15 true,iP 18 15 17,iM 19 18,gM 20 2 19 true,gC 21 .leq 20 40 19 true,iP 22 19 21,iM 23 22,gM 24 3 23 true,gC 25 .leq 24 24 23 true,iP 26 23 25,iM 27 26,gM 28 4 27 true,gC 29 .leq 28 4 27 true,iP 30 27 29,iM 31 30,gM 32 5 31 true,gC 33 .leq 32 12 31 true,iP 34 31 33,iM 12 34]
def CM:aC:=(sq avN (sq avO .ret))
def bdS:List Nat:=[]
def RK:aW:=⟨6,35,CM,[.tmp 12]⟩
def WD:Rg:=[iA 7 (.box true (Tm 3)),iT 8 false]
def WE:Rg:=[iM 10 0,iM 11 1,iK2 12 61 10 11,iA 13 (.un .not (Tm 12)),iM 14 13,gM 15 2 14 false,gM 16 0 14 false,gM 17 0 14 false,gM 18 1 14 false,gB 19 .add 17 18 14 false,iG 20 (.call 76 [(Tm 15),(Tm 16),(Tm 19)]) 14 false,iG 21 (.un .not (Tm 20)) 14 false,iQ 22 14 21,iM 23 22,iG 24 (.idxA 5 1 (Tm 7) (Ci 0)) 23 false,gL 25 24 23 false,gC 26 .neq 25 0 23 false,iQ 27 23 26]
def sX:Rg:=[iT 8 false]
def WF:Rg:=[iI 9 1]
def WG:Rg:=[iM 28 9,iC 29 .lss 28 5]
def CL:Rg:=[iM 32 9,iA 33 (.idxA 5 1 (Tm 7) (Tm 32)),iL 34 33,iA 35 (.call 76 [(Tm 34),(Ci 0),(Ci 8)]),iA 36 (.un .not (Tm 35))]
def WH:Rg:=[iT 8 false]
def WI:Rg:=[iM 30 9,iC 31 .add 30 1,iM 9 31]
def WC:aC:=(.seq (sq WG (.cond (Tm 29) .skip (.exit 0))) (.seq (.block 1 (sq CL (.cond (Tm 36) (sq WH .ret) .skip))) (.region WI)))
def WJ:Rg:=[iT 8 true]
def uE:aC:=(sq WD (.seq (sq WE (.cond (Tm 27) (sq sX .ret) .skip)) (.seq (sq WF (.block 0 (.loop WC))) (sq WJ .ret))))
def aOR:List Nat:=[7]
def yA:aW:=⟨4,37,uE,[.tmp 8]⟩
def aYE:Rg:=[iA 6 (.box true (Tm 2)),iA 7 (.box true (Tm 3)),iT 8 false]
def aYF:Rd:=[(iM 9 1,false),(iM 10 0,false),(iK2 11 66 9 10,true),(iM 12 11,false),(gO 13 3 6 12 true,false),(gK 14 74 13 12 true,true),(iP 15 12 14,false),(iM 16 15,false),(iG 17 (.call 47 [(Ci 1)]) 16 true,true),(gO 18 3 6 16 true,true),(gK2 19 49 17 18 16 true,true),(iG 20 (.un .not (Tm 19)) 16 true,false),(iP 21 16 20,false),(iM 22 21,false),(gO 23 3 7 22 true,false),(gK 24 74 23 22 true,true),(iP 25 22 24,false),(iM 8 25,false)]
def RD:aC:=(sq aYE (dq aYF .ret))
def bqE:List Nat:=[6,7]
def aMN:aW:=⟨4,26,RD,[.tmp 8]⟩
def avH:Rg:=[iI 4 0]
def avI:Rg:=[iI 5 0]
def avJ:Rg:=[iM 6 5,iM 7 0,iN 8 7,iB 9 .lss 6 8]
def RH:Rg:=[iM 12 0,iM 13 5,iX 14 1 12 13,iL 15 14,iM 16 1,iB 17 .eql 15 16]
def avK:Rg:=[iM 18 5,iM 4 18]
def avL:Rg:=[iM 10 5,iC 11 .add 10 1,iM 5 11]
def avG:aC:=(.seq (sq avJ (.cond (Tm 9) .skip (.exit 0))) (.seq (.block 1 (sq RH (.cond (Tm 17) (sq avK .ret) .skip))) (.region avL)))
def avM:Rg:=[iI 4 (-1)]
def CK:aC:=(sq avH (.seq (sq avI (.block 0 (.loop avG))) (sq avM .ret)))
def bdP:List Nat:=[]
def RG:aW:=⟨2,19,CK,[.tmp 4]⟩
def avR:Rg:=[iA 1 (.box true (Tm 0)),iT 2 false]
def avS:Rg:=[iF 22 0 1,iL 23 22,iA 24 (.call 76 [(Tm 23),(Ci 1),(Ci 4)]),iA 25 (.un .not (Tm 24)),iM 26 25,gF 27 1 1 26 false,gL 28 27 26 false,gN 29 28 26 false,gF 30 2 1 26 false,gL 31 30 26 false,gN 32 31 26 false,gF 33 3 1 26 false,gL 34 33 26 false,gN 35 34 26 false,gF 36 4 1 26 false,gL 37 36 26 false,gN 38 37 26 false,gF 39 5 1 26 false,gL 40 39 26 false,gN 41 40 26 false,gF 42 6 1 26 false,gL 43 42 26 false,gN 44 43 26 false,iG 45 (.call 73 [(Tm 29),(Tm 32),(Tm 35),(Tm 38),(Tm 41),(Tm 44)]) 26 false,iG 46 (.un .not (Tm 45)) 26 false,iQ 47 26 46,iM 48 47,gF 49 3 1 48 false,gL 50 49 48 false,gN 51 50 48 false,gC 52 .eql 51 0 48 false,iQ 53 48 52]
def zN:Rg:=[iT 2 false]
def avT:Rg:=[iZ 3,iZ 4,iZ 5,iZ 6,iZ 7]
def avU:Rg:=[iT 8 true]
def avV:Rg:=[iI 9 0]
def avW:Rg:=[iM 54 9,iF 55 1 1,iL 56 55,iN 57 56,iB 58 .lss 54 57,iM 59 58,gM 60 8 59 true,iP 61 59 60]
def avX:Rg:=[iM 65 3,iF 66 1 1,iL 67 66,iM 68 9,iX 69 4 67 68,iF 70 0 69,iL 71 70,iK2 72 70 65 71,iM 64 72,iE 73 64 0,iE 74 64 1,iM 3 73,iM 8 74]
def RN:Rg:=[iM 75 8,iM 76 75,gF 77 1 1 76 true,gL 78 77 76 true,gM 79 9 76 true,iG 80 (.bIK 4 (Tm 78) (Tm 79)) 76 true,gO 81 4 80 76 true,gK 82 68 81 76 true,iP 83 76 82,iM 8 83]
def RP:Rg:=[iM 62 9,iC 63 .add 62 1,iM 9 63]
def JX:aC:=(.seq (sq avW (.cond (Tm 61) .skip (.exit 0))) (.seq (.block 1 (sq avX (.region RN))) (.region RP)))
def ajS:Rg:=[iI 10 0]
def ajT:Rg:=[iM 84 10,iF 85 2 1,iL 86 85,iN 87 86,iB 88 .lss 84 87,iM 89 88,gM 90 8 89 true,iP 91 89 90]
def ajU:Rg:=[iF 94 2 1,iL 95 94,iM 96 10,iX 97 4 95 96,iO 98 4 97,iA 11 (.alloc [(.str []),(.int .i64 0),(.int .i64 0),(.int .i64 0)]),iS 4 11 98]
def ajV:Rg:=[iM 100 4,iF 101 0 11,iL 102 101,iK2 103 70 100 102,iM 99 103,iE 104 99 0,iE 105 99 1,iM 4 104,iM 8 105]
def KB:Rg:=[iM 106 8,iM 107 106,gF 108 1 11 107 true,gL 109 108 107 true,iG 110 (.call 76 [(Tm 109),(Ci 1),(Ci 16)]) 107 true,iP 111 107 110,iM 112 111,gF 113 2 11 112 true,gL 114 113 112 true,iG 115 (.call 76 [(Tm 114),(Ci 1),(Ci 64)]) 112 true,iP 116 112 115,iM 117 116,gF 118 3 11 117 true,gL 119 118 117 true,gF 120 1 1 117 true,gL 121 120 117 true,gN 122 121 117 true,gC 123 .sub 122 1 117 true,iG 124 (.call 76 [(Tm 119),(Ci 0),(Tm 123)]) 117 true,iP 125 117 124,iM 8 125]
def rH:Rg:=[iM 92 10,iC 93 .add 92 1,iM 10 93]
def JY:aC:=(.seq (sq ajT (.cond (Tm 91) .skip (.exit 2))) (.seq (.block 3 (sq ajU (sq ajV (.region KB)))) (.region rH)))
def ajW:Rg:=[iF 126 3 1,iL 127 126,iA 128 (.bIK 7 (Tm 127) (Ci 0)),iO 129 7 128,iA 12 (.alloc [(.str []),(.int .i64 0),(.int .i64 0),(.int .i64 0),(.bool false),.aB,.aB]),iS 7 12 129]
def KC:Rg:=[iM 130 8,iM 131 130,gF 132 0 12 131 true,gL 133 132 131 true,iG 134 (.bin .eql (Tm 133) (.const (.str []))) 131 true,iP 135 131 134,iM 136 135,gF 137 1 12 136 true,gL 138 137 136 true,gC 139 .eql 138 0 136 true,iP 140 136 139,iM 141 140,gF 142 2 12 141 true,gL 143 142 141 true,gC 144 .eql 143 (-1) 141 true,iP 145 141 144,iM 146 145,gF 147 3 12 146 true,gL 148 147 146 true,gC 149 .eql 148 0 146 true,iP 150 146 149,iM 151 150,gF 152 4 12 151 true,gO 153 3 152 151 true,gK 154 56 153 151 true,iP 155 151 154,iM 156 155,gF 157 4 12 156 true,gO 158 3 157 156 true,gK 159 54 158 156 true,gC 160 .eql 159 0 156 true,iP 161 156 160,iM 8 161]
def KD:Rg:=[iI 13 1]
def ajX:Rg:=[iM 162 13,iF 163 3 1,iL 164 163,iN 165 164,iB 166 .lss 162 165,iM 167 166,gM 168 8 167 true,iP 169 167 168]
def ajY:Rg:=[iF 172 3 1,iL 173 172,iM 174 13,iX 175 7 173 174,iO 176 7 175,iA 14 (.alloc [(.str []),(.int .i64 0),(.int .i64 0),(.int .i64 0),(.bool false),.aB,.aB]),iS 7 14 176]
def ajZ:Rg:=[iM 178 5,iF 179 0 14,iL 180 179,iK2 181 70 178 180,iM 177 181,iE 182 177 0,iE 183 177 1,iM 5 182,iM 8 183]
def KE:Rd:=[(iM 184 8,false),(iM 185 184,false),(gF 186 1 14 185 true,false),(gL 187 186 185 true,false),(iG 188 (.call 76 [(Tm 187),(Ci 1),(Ci 4)]) 185 true,true),(iP 189 185 188,false),(iM 190 189,false),(gF 191 2 14 190 true,false),(gL 192 191 190 true,false),(gM 193 13 190 true,false),(gC 194 .sub 193 1 190 true,false),(iG 195 (.call 76 [(Tm 192),(Ci 0),(Tm 194)]) 190 true,true),(iP 196 190 195,false),(iM 197 196,false),(gF 198 3 1 197 true,false),(gL 199 198 197 true,false),(gF 200 2 14 197 true,false),(gL 201 200 197 true,false),(iG 202 (.bIK 7 (Tm 199) (Tm 201)) 197 true,false),(gF 203 1 202 197 true,false),(gL 204 203 197 true,false),(gF 205 1 14 197 true,false),(gL 206 205 197 true,false),(gC 207 .sub 206 1 197 true,false),(gB 208 .eql 204 207 197 true,false),(iP 209 197 208,false),(iM 210 209,false),(gF 211 3 14 210 true,false),(gL 212 211 210 true,false),(iG 213 (.call 76 [(Tm 212),(Ci 1),(Ci 64)]) 210 true,true),(iP 214 210 213,false),(iM 215 214,false),(gF 216 4 14 215 true,false),(gO 217 3 216 215 true,false),(gK 218 74 217 215 true,true),(iP 219 215 218,false),(iM 8 219,false)]
def lW:Rg:=[iM 170 13,iC 171 .add 170 1,iM 13 171]
def vH:aC:=(.seq (sq ajX (.cond (Tm 169) .skip (.exit 4))) (.seq (.block 5 (sq ajY (sq ajZ (.draw KE)))) (.region lW)))
def KF:Rg:=[iI 15 0]
def akA:Rg:=[iM 220 15,iF 221 4 1,iL 222 221,iN 223 222,iB 224 .lss 220 223,iM 225 224,gM 226 8 225 true,iP 227 225 226]
def akB:Rg:=[iF 230 4 1,iL 231 230,iM 232 15,iX 233 3 231 232,iO 234 3 233,iA 16 (.alloc [(.str []),(.int .i64 0),(.int .i64 0)]),iS 3 16 234]
def akC:Rg:=[iM 236 5,iF 237 0 16,iL 238 237,iK2 239 70 236 238,iM 235 239,iE 240 235 0,iE 241 235 1,iM 5 240,iM 8 241]
def KG:Rg:=[iM 242 8,iM 243 242,gF 244 1 16 243 true,gL 245 244 243 true,gF 246 2 1 243 true,gL 247 246 243 true,gN 248 247 243 true,gC 249 .sub 248 1 243 true,iG 250 (.call 76 [(Tm 245),(Ci 0),(Tm 249)]) 243 true,iP 251 243 250,iM 252 251,gF 253 2 16 252 true,gL 254 253 252 true,gF 255 3 1 252 true,gL 256 255 252 true,gN 257 256 252 true,gC 258 .sub 257 1 252 true,iG 259 (.call 76 [(Tm 254),(Ci 0),(Tm 258)]) 252 true,iP 260 252 259,iM 261 260,gF 262 3 1 261 true,gL 263 262 261 true,gF 264 2 16 261 true,gL 265 264 261 true,iG 266 (.bIK 7 (Tm 263) (Tm 265)) 261 true,gF 267 1 266 261 true,gL 268 267 261 true,gC 269 .eql 268 4 261 true,iP 270 261 269,iM 8 270]
def rI:Rg:=[iM 228 15,iC 229 .add 228 1,iM 15 229]
def vI:aC:=(.seq (sq akA (.cond (Tm 227) .skip (.exit 6))) (.seq (.block 7 (sq akB (sq akC (.region KG)))) (.region rI)))
def KH:Rg:=[iI 17 0]
def akD:Rg:=[iM 271 17,iF 272 5 1,iL 273 272,iN 274 273,iB 275 .lss 271 274,iM 276 275,gM 277 8 276 true,iP 278 276 277]
def akE:Rg:=[iF 281 5 1,iL 282 281,iM 283 17,iX 284 17 282 283,iO 285 17 284,iA 18 (.alloc [(.str []),(.int .i64 0),(.int .i64 0),(.int .i64 0),(.int .i64 0),(.int .i64 0),(.int .i64 0),(.int .i64 0),(.int .i64 0),.aB,.aB,(.bool false),.aB,.aB,(.bool false),.aB,.aB]),iS 17 18 285]
def akF:Rg:=[iM 287 6,iF 288 0 18,iL 289 288,iK2 290 70 287 289,iM 286 290,iE 291 286 0,iE 292 286 1,iM 6 291,iM 8 292]
def KI:Rg:=[iM 293 8,iM 294 293,gF 295 1 18 294 true,gL 296 295 294 true,gF 297 2 18 294 true,gL 298 297 294 true,gF 299 3 18 294 true,gL 300 299 294 true,gF 301 4 18 294 true,gO 302 5 301 294 true,iG 303 (.call 72 [(Tm 296),(Tm 298),(Tm 300),(Tm 302)]) 294 true,iP 304 294 303,iM 305 304,gF 306 2 18 305 true,gL 307 306 305 true,gF 308 10 18 305 true,gL 309 308 305 true,gF 310 11 18 305 true,gO 311 3 310 305 true,gF 312 14 18 305 true,gO 313 3 312 305 true,iG 314 (.call 69 [(Tm 307),(Tm 309),(Tm 311),(Tm 313)]) 305 true,iP 315 305 314,iM 316 315,gF 317 9 18 316 true,gL 318 317 316 true,gN 319 318 316 true,gC 320 .gtr 319 0 316 true,iP 321 316 320,iM 8 321]
def rJ:Rg:=[iI 19 0]
def akG:Rg:=[iM 322 19,iF 323 9 18,iL 324 323,iN 325 324,iB 326 .lss 322 325,iM 327 326,gM 328 8 327 true,iP 329 327 328]
def akH:Rd:=[(iF 332 9 18,false),(iL 333 332,false),(iM 334 19,false),(iX 335 1 333 334,false),(iL 336 335,false),(iF 337 2 1,false),(iL 338 337,false),(iN 339 338,false),(iC 340 .sub 339 1,false),(iA 341 (.call 76 [(Tm 336),(Ci 0),(Tm 340)]),true),(iM 8 341,false)]
def akI:Rg:=[iI 20 0]
def akJ:Rg:=[iM 342 20,iM 343 19,iB 344 .lss 342 343]
def KJ:Rd:=[(iM 347 8,false),(iM 348 347,false),(gF 349 9 18 348 true,false),(gL 350 349 348 true,false),(gM 351 20 348 true,false),(iG 352 (.bIK 1 (Tm 350) (Tm 351)) 348 true,false),(gL 353 352 348 true,false),(gF 354 9 18 348 true,false),(gL 355 354 348 true,false),(gM 356 19 348 true,false),(iG 357 (.bIK 1 (Tm 355) (Tm 356)) 348 true,false),(gL 358 357 348 true,false),(gB 359 .neq 353 358 348 true,false),(iP 360 348 359,false),(iM 8 360,false)]
def KK:Rg:=[iM 345 20,iC 346 .add 345 1,iM 20 346]
def JZ:aC:=(.seq (sq akJ (.cond (Tm 344) .skip (.exit 12))) (.seq (.block 13 (.draw KJ)) (.region KK)))
def akK:Rg:=[iM 330 19,iC 331 .add 330 1,iM 19 331]
def vJ:aC:=(.seq (sq akG (.cond (Tm 329) .skip (.exit 10))) (.seq (.block 11 (dq akH (sq akI (.block 12 (.loop JZ))))) (.region akK)))
def KL:Rg:=[iM 279 17,iC 280 .add 279 1,iM 17 280]
def vK:aC:=(.seq (sq akD (.cond (Tm 278) .skip (.exit 8))) (.seq (.block 9 (sq akE (sq akF (sq KI (sq rJ (.block 10 (.loop vJ))))))) (.region KL)))
def KM:Rg:=[iI 21 0]
def akL:Rg:=[iM 361 21,iF 362 6 1,iL 363 362,iN 364 363,iB 365 .lss 361 364,iM 366 365,gM 367 8 366 true,iP 368 366 367]
def akM:Rg:=[iM 372 7,iF 373 6 1,iL 374 373,iM 375 21,iX 376 2 374 375,iF 377 0 376,iL 378 377,iK2 379 70 372 378,iM 371 379,iE 380 371 0,iE 381 371 1,iM 7 380,iM 8 381]
def KN:Rd:=[(iM 382 8,false),(iM 383 382,false),(gF 384 6 1 383 true,false),(gL 385 384 383 true,false),(gM 386 21 383 true,false),(iG 387 (.bIK 2 (Tm 385) (Tm 386)) 383 true,false),(gF 388 1 387 383 true,false),(gL 389 388 383 true,false),(gF 390 5 1 383 true,false),(gL 391 390 383 true,false),(gN 392 391 383 true,false),(gC 393 .sub 392 1 383 true,false),(iG 394 (.call 76 [(Tm 389),(Ci 0),(Tm 393)]) 383 true,true),(iP 395 383 394,false),(iM 8 395,false)]
def KO:Rg:=[iM 369 21,iC 370 .add 369 1,iM 21 370]
def vL:aC:=(.seq (sq akL (.cond (Tm 368) .skip (.exit 14))) (.seq (.block 15 (sq akM (.draw KN))) (.region KO)))
def KP:Rg:=[iM 396 8,iM 2 396]
def CO:aC:=(sq avR (.seq (sq avS (.cond (Tm 53) (sq zN .ret) .skip)) (sq avT (sq avU (.seq (sq avV (.block 0 (.loop JX))) (.seq (sq ajS (.block 2 (.loop JY))) (sq ajW (sq KC (.seq (sq KD (.block 4 (.loop vH))) (.seq (sq KF (.block 6 (.loop vI))) (.seq (sq KH (.block 8 (.loop vK))) (.seq (sq KM (.block 14 (.loop vL))) (sq KP .ret)))))))))))))
def bdY:List Nat:=[1]
def RM:aW:=⟨1,397,CO,[.tmp 2]⟩
def avE:Rg:=[iZ 4,iT 5 false]
def avF:Rg:=[iM 6 0,iM 7 1,iA 8 (.bHV true 1 1 [(.str [])] [(0,(Tm 7))]),iA 9 (.append 1 16 (Tm 6) (Tm 8)),iM 10 1,iK 11 62 10,iM 12 11,gM 13 0 12 true,gM 14 1 12 true,gK2 15 71 13 14 12 true,gC 16 .lss 15 0 12 true,iP 17 12 16,iM 4 9,iM 5 17]
def CJ:aC:=(sq avE (sq avF .ret))
def bdN:List Nat:=[8]
def RE:aW:=⟨2,18,CJ,[.tmp 4,.tmp 5]⟩
structure aaD (C:Ctx):Prop where
 val:∀ f:aK,f.Ok→aE C 96 [.agg f.cells] .nil (aD (.int .i64 (pJ f)))
 valid:∀ f:aK,f.Ok→aE C 67 [.agg f.cells] .nil (aD (.bool (dL f)))
 shaped:∀ (f:aK) (l:List (List Int)),f.Ok→fI l→aE C 153 [.agg f.cells,lay l] .nil (aD (.bool (iU f l)))
 rshaped:∀ (f:aK) (l:List (List Int)),f.Ok→fI l→aE C 86 [.agg f.cells,lay l] .nil (aD (.bool (iU f l)))
theorem aND {C:Ctx} (Lb:aaD C) (f:aK) (hf:f.Ok):sI.wp C (aT tT.res (aD (.int .i64 (pJ f)))) (PF.args [.agg f.cells]) .nil:=by
 simp only[go_sem,γ,δ,ε,ζ,η,θ,ι,κ,μ,ν,ξ,ο,ρ,σ,τ,υ,reduceIte,reduceCtorEq,sI,RQ,RR,tT]
 refine aA (Lb.valid f hf) Ev ?_
 unfold pJ
 cases dL f with
 | true =>
  simp only[go_sem,γ,δ,ε,ζ,η,θ,ι,κ,μ,ν,ξ,ο,ρ,σ,τ,υ,reduceIte,reduceCtorEq,bKC,RT]
  refine aM (.inr rfl) Ev ?_
  rfl
 | false =>
  simp only[go_sem,γ,δ,ε,ζ,η,θ,ι,κ,μ,ν,ξ,ο,ρ,σ,τ,υ,reduceIte,reduceCtorEq,bKI,RS]
  refine aM (.inr rfl) Ev ?_
  rfl
theorem a2E {C:Ctx} (Lb:aaD C) (f:aK) (hf:f.Ok) (now:List (List Int)) (hl:fI now) (r:Int):xG.wp C (aT DM.res (aD (.bool (fH f now r)))) (PF.args [.agg f.cells,lay now,.int .i64 r]) .nil:=by
 have hU:fH f now r=((dL f&&iU f now)&&(decide (0≤r)&&decide (r≤4))):=rfl
 have hsh:=Lb.shaped f now hf hl
 have hvl:=Lb.val f hf
 unfold pJ at hvl
 simp only[go_sem,γ,δ,ε,ζ,η,θ,ι,κ,μ,ν,ξ,ο,ρ,σ,τ,υ,reduceIte,reduceCtorEq,xG,afF,afG,DM]
 refine aA hvl Ev ?_
 cases hv:dL f with
 | false =>
  rw[hv] at hU
  simp only[go_sem,γ,δ,ε,ζ,η,θ,ι,κ,μ,ν,ξ,ο,ρ,σ,τ,υ,reduceIte,reduceCtorEq]
  refine aM (.inr rfl) Ev ?_
  rw[aV,hU]; rfl
 | true =>
  rw[hv] at hU
  simp only[go_sem,γ,δ,ε,ζ,η,θ,ι,κ,μ,ν,ξ,ο,ρ,σ,τ,υ,reduceIte,reduceCtorEq]
  refine aA hsh Ev ?_
  cases hs:iU f now with
  | false =>
   rw[hs] at hU
   simp only[go_sem,γ,δ,ε,ζ,η,θ,ι,κ,μ,ν,ξ,ο,ρ,σ,τ,υ,reduceIte,reduceCtorEq]
   refine aM (.inr rfl) Ev ?_
   rw[aV,hU]; rfl
  | true =>
   rw[hs,bKE,bKE] at hU
   by_cases c:0≤r
   ·rw[decide_eq_true c,bKE] at hU
    simp only[go_sem,γ,δ,ε,ζ,η,θ,ι,κ,μ,ν,ξ,ο,ρ,σ,τ,υ,reduceIte,reduceCtorEq,show r≥0 by omega]
    refine aM (.inr rfl) Ev ?_
    rw[aV,hU]
   ·rw[decide_eq_false c,bJZ] at hU
    simp only[go_sem,γ,δ,ε,ζ,η,θ,ι,κ,μ,ν,ξ,ο,ρ,σ,τ,υ,reduceIte,reduceCtorEq,show ¬ r≥0 by omega]
    refine aM (.inr rfl) Ev ?_
    rw[aV,hU]
theorem a2H {C:Ctx} (Lb:aaD C) (hz:∀ f:aK,f.Ok→aE C 258 [.agg f.cells] .nil (aD (.int .i64 (pJ f)))) (f:aK) (hf:f.Ok) (now:List (List Int)) (hl:fI now) (r:Int):xI.wp C (aT DN.res (aD (.bool (fH f now r)))) (PF.args [.agg f.cells,lay now,.int .i64 r]) .nil:=by
 have hU:fH f now r=((dL f&&iU f now)&&(decide (0≤r)&&decide (r≤4))):=rfl
 have hsh:=Lb.rshaped f now hf hl
 have hvl:=hz f hf
 unfold pJ at hvl
 simp only[go_sem,γ,δ,ε,ζ,η,θ,ι,κ,μ,ν,ξ,ο,ρ,σ,τ,υ,reduceIte,reduceCtorEq,xI,afI,afJ,DN]
 by_cases c:0≤r
 ·by_cases c4:r≤4
  ·rw[decide_eq_true c,decide_eq_true c4] at hU
   simp only[go_sem,γ,δ,ε,ζ,η,θ,ι,κ,μ,ν,ξ,ο,ρ,σ,τ,υ,reduceIte,reduceCtorEq,show r≥0 by omega,c4]
   refine aA hvl Ev ?_
   cases hv:dL f with
   | false =>
    rw[hv] at hU
    simp only[go_sem,γ,δ,ε,ζ,η,θ,ι,κ,μ,ν,ξ,ο,ρ,σ,τ,υ,reduceIte,reduceCtorEq]
    refine aM (.inr rfl) Ev ?_
    rw[aV,hU]; rfl
   | true =>
    rw[hv] at hU
    simp only[go_sem,γ,δ,ε,ζ,η,θ,ι,κ,μ,ν,ξ,ο,ρ,σ,τ,υ,reduceIte,reduceCtorEq]
    refine aA hsh Ev ?_
    simp only[go_sem,γ,δ,ε,ζ,η,θ,ι,κ,μ,ν,ξ,ο,ρ,σ,τ,υ,reduceIte,reduceCtorEq]
    refine aM (.inr rfl) Ev ?_
    rw[aV,hU]
    cases iU f now<;>rfl
  ·rw[decide_eq_false c4,bLC,bLC] at hU
   simp only[go_sem,γ,δ,ε,ζ,η,θ,ι,κ,μ,ν,ξ,ο,ρ,σ,τ,υ,reduceIte,reduceCtorEq,show r≥0 by omega,c4]
   refine aM (.inr rfl) Ev ?_
   rw[aV,hU]
 ·rw[decide_eq_false c,bJZ,bLC] at hU
  simp only[go_sem,γ,δ,ε,ζ,η,θ,ι,κ,μ,ν,ξ,ο,ρ,σ,τ,υ,reduceIte,reduceCtorEq,show ¬ r≥0 by omega]
  refine aM (.inr rfl) Ev ?_
  rw[aV,hU]
theorem bvU {C:Ctx} (f:aK) (hV:VF f) (v:Nat) (h:v<f.bHR.length):amO.wp C (aT qk.res (aD (.int .i64 (fE f v).k))) (PF.args [.agg f.cells,.int .i64 v]) .nil:=by
 obtain⟨hp,he⟩:=sA hV h
 simp only[go_sem,γ,δ,ε,ζ,η,θ,ι,κ,μ,ν,ξ,ο,ρ,σ,τ,υ,reduceIte,reduceCtorEq,amO,bkN,qk]
 refine bR .nil eG PH.nil_le ?_
 simp only[go_sem,γ,δ,ε,ζ,η,θ,ι,κ,μ,ν,ξ,ο,ρ,σ,τ,υ,reduceIte,reduceCtorEq,bkO,vC h,hV.afD h,oR hp,he]
 refine aM (.inr rfl) Ev ?_
 rfl
structure a5T (C:Ctx):Prop where
 has:∀ (l:List Int) (x:Int),l.length≤1000000000000000→aE C 254 [ints l,.int .i64 x] .nil (aD (.bool (l.contains x)))
 k:∀ (f:aK) (v:Nat),VF f→v<f.bHR.length→aE C 257 [.agg f.cells,.int .i64 v] .nil (aD (.int .i64 (fE f v).k))
theorem bhL {C:Ctx} (Lb:a5T C) (f:aK) (hV:VF f) (now:List (List Int)) (hl:fI now) (hlen:now.length=f.bHR.length) (r:Int) (h0:0≤r) (h4:r≤4) (down:List Int) (hd:down.length≤1000000000000000) :
  HW.wp C (aT afH.res (aD (.bool (fW f now r down)))) (PF.args [.agg f.cells,lay now,.int .i64 r,ints down]) .nil:=by
 have bIC:=hl.rows
 simp only[go_sem,γ,δ,ε,ζ,η,θ,ι,κ,μ,ν,ξ,ο,ρ,σ,τ,υ,reduceIte,reduceCtorEq,HW,aGW,aGX,afH]
 refine wp_loop (α:=Nat) (fun v=>(((((PF.nil.set 1 (lay now)).set 2 (.int .i64 r)).set 3 (ints down)).set 4 (.bH f.cells)).set 9 (.int .i64 v))) (fun _=>.nil) (fun v=>v≤now.length∧yI f now r down v=true) (fun v=>now.length-v) 0 ⟨bKF _,rfl⟩ Lq PH.nil_le ?_
 rintro v ⟨hv,hok⟩
 simp only[go_sem,γ,δ,ε,ζ,η,θ,ι,κ,μ,ν,ξ,ο,ρ,σ,τ,υ,reduceIte,reduceCtorEq,arP,aGY,bJT]
 by_cases hlt:v<now.length
 ·have bHW:(v:Int)<(now.length:Nat):=by omega
  have hat:(now.map fun r=>[ints r])[v]?=some [ints now[v]]:=by simp[hlt]
  have hgd:now.getD v []=now[v]:=by simp[bKO,hlt]
  have hrl:(now[v]).length≤16777216:=by
   have h1:=hl.all
   have h2:(now[v]).length≤now.flatten.length:=(List.sublist_flatten_of_mem (bJX hlt)).length_le
   omega
  obtain⟨hp,he⟩:=sA hV (Om:v<f.bHR.length)
  have hpol:=hV.bID _ (bJX hp)
  rw[he] at hpol
  have hw:IntKind.i64.wrap ((fE f v).k+r)=(fE f v).k+r:=wrap_i64 Om Om
  have bIL:=acF f now r down v
  rw[hok,bKE,hgd] at bIL
  have hno:=fun (h:xK f r down v now[v]=true)=>azJ (f:=f) (now:=now) (reserve:=r) (down:=down) hlt (by rw[hgd]; exact h)
  generalize now[v]=row at *
  simp only[go_sem,γ,δ,ε,ζ,η,θ,ι,κ,μ,ν,ξ,ο,ρ,σ,τ,υ,reduceIte,reduceCtorEq,bHW,aGZ,aHA]
  refine wp_loop (α:=Nat) (fun k=>((((((((PF.nil.set 1 (lay now)).set 2 (.int .i64 r)).set 3 (ints down)).set 4 (.bH f.cells)).set 9 (.int .i64 v)).set 10 (.bool (tZ down (row.take k)))).set 11 (.int .i64 (iR down (row.take k):Nat))).set 12 (.int .i64 k))) (fun _=>.nil) (fun k=>k≤row.length) (fun k=>row.length-k) 0 (bKF _) (by (repeat' (first|exact PF.nil_le|refine PF.aI ?_ ?_))<;>first|(simp only[go_sem,γ,δ,ε,ζ,η,θ,ι,κ,μ,ν,ξ,ο,ρ,σ,τ,υ,reduceIte,reduceCtorEq,List.take_zero,tZ,iR,List.any_nil,List.countP_nil]<;>rfl)|rfl) PH.nil_le ?_
  intro k hk
  have hol:iR down (row.take k)≤row.length:=bMQ List.countP_le_length (by rw[bKL]; omega)
  simp only[go_sem,γ,δ,ε,ζ,η,θ,ι,κ,μ,ν,ξ,ο,ρ,σ,τ,υ,reduceIte,reduceCtorEq,arO,aHB,hat,bJT]
  by_cases hkl:k<row.length
  ·have hkl':(k:Int)<(row.length:Nat):=by omega
   have hra:(row.map fun n=>[PV.int .i64 n])[k]?=some [.int .i64 row[k]]:=by simp[hkl]
   have hs1:=apN (down:=down) hkl
   have hs2:=VE (down:=down) hkl
   by_cases c:row[k]<0
   ·have d1:mK down row[k]=false:=by unfold mK; rw[decide_eq_false Om]; rfl
    have d2:mL down row[k]=false:=by unfold mL; rw[decide_eq_false Om]; rfl
    rw[d1,Bool.or_false] at hs1
    rw[d2,if_neg (by simp),bLL] at hs2
    simp only[go_sem,γ,δ,ε,ζ,η,θ,ι,κ,μ,ν,ξ,ο,ρ,σ,τ,υ,reduceIte,reduceCtorEq,hkl',YU,hat,hra,c,yW,wZz k]
    exact aH (k+1) hkl Om (by (repeat' (first|exact PF.nil_le|refine PF.aI ?_ ?_))<;>first|(simp only[go_sem,γ,δ,ε,ζ,η,θ,ι,κ,μ,ν,ξ,ο,ρ,σ,τ,υ,reduceIte,reduceCtorEq,hs1,hs2]<;>rfl)|rfl) PH.le_refl
   ·simp only[go_sem,γ,δ,ε,ζ,η,θ,ι,κ,μ,ν,ξ,ο,ρ,σ,τ,υ,reduceIte,reduceCtorEq,hkl',YU,hat,hra,c,aHC]
    refine aA (Lb.has down row[k] hd) Ev ?_
    cases hc:down.contains row[k] with
    | true =>
     have d1:mK down row[k]=true:=by unfold mK; rw[decide_eq_true Om,hc]; rfl
     have d2:mL down row[k]=false:=by unfold mL; rw[hc]; simp
     rw[d1,Bool.or_true] at hs1
     rw[d2,if_neg (by simp),bLL] at hs2
     simp only[go_sem,γ,δ,ε,ζ,η,θ,ι,κ,μ,ν,ξ,ο,ρ,σ,τ,υ,reduceIte,reduceCtorEq,aHD,yW,wZz k]
     exact aH (k+1) hkl Om (by (repeat' (first|exact PF.nil_le|refine PF.aI ?_ ?_))<;>first|(simp only[go_sem,γ,δ,ε,ζ,η,θ,ι,κ,μ,ν,ξ,ο,ρ,σ,τ,υ,reduceIte,reduceCtorEq,hs1,hs2]<;>rfl)|rfl) PH.le_refl
    | false =>
     have d1:mK down row[k]=false:=by unfold mK; rw[hc]; simp
     have d2:mL down row[k]=true:=by unfold mL; rw[decide_eq_true Om,hc]; rfl
     rw[d1,Bool.or_false] at hs1
     rw[d2,if_pos rfl] at hs2
     simp only[go_sem,γ,δ,ε,ζ,η,θ,ι,κ,μ,ν,ξ,ο,ρ,σ,τ,υ,reduceIte,reduceCtorEq,aHE,dH (Om:iR down (row.take k)<9223372036854775807),yW,wZz k]
     exact aH (k+1) hkl Om (by (repeat' (first|exact PF.nil_le|refine PF.aI ?_ ?_))<;>first|(simp only[go_sem,γ,δ,ε,ζ,η,θ,ι,κ,μ,ν,ξ,ο,ρ,σ,τ,υ,reduceIte,reduceCtorEq,hs1,hs2]<;>rfl)|rfl) PH.le_refl
  ·have hkl':¬ (k:Int)<(row.length:Nat):=by omega
   have:k=row.length:=by omega
   subst this
   rw[bKS] at hol
   simp only[go_sem,γ,δ,ε,ζ,η,θ,ι,κ,μ,ν,ξ,ο,ρ,σ,τ,υ,reduceIte,reduceCtorEq,hkl',bKS,arQ]
   have hsh:xK f r down v row=(tZ down row&&decide (((iR down row:Nat):Int)<(fE f v).k+r)):=rfl
   cases hh:tZ down row with
   | false =>
    rw[hh,bJZ] at hsh
    rw[hsh] at bIL
    simp only[go_sem,γ,δ,ε,ζ,η,θ,ι,κ,μ,ν,ξ,ο,ρ,σ,τ,υ,reduceIte,reduceCtorEq,hh,OV,wZz v]
    exact aH (v+1) ⟨hlt,bIL⟩ Om Lq PH.nil_le
   | true =>
    rw[hh,bKE] at hsh
    simp only[go_sem,γ,δ,ε,ζ,η,θ,ι,κ,μ,ν,ξ,ο,ρ,σ,τ,υ,reduceIte,reduceCtorEq,hh]
    refine aA (Lb.k f v hV Om) Ev ?_
    by_cases c:((iR down row:Nat):Int)<(fE f v).k+r
    ·rw[decide_eq_true c] at hsh
     simp only[go_sem,γ,δ,ε,ζ,η,θ,ι,κ,μ,ν,ξ,ο,ρ,σ,τ,υ,reduceIte,reduceCtorEq,hw,c,arR]
     refine aM (.inr rfl) Ev ?_
     rw[aV]
     exact congrArg PV.bool (hno hsh).symm
    ·rw[decide_eq_false c] at hsh
     rw[hsh] at bIL
     simp only[go_sem,γ,δ,ε,ζ,η,θ,ι,κ,μ,ν,ξ,ο,ρ,σ,τ,υ,reduceIte,reduceCtorEq,hw,c,OV,wZz v]
     exact aH (v+1) ⟨hlt,bIL⟩ Om Lq PH.nil_le
 ·have bHW:¬ (v:Int)<(now.length:Nat):=by omega
  have:v=now.length:=by omega
  subst this
  simp only[go_sem,γ,δ,ε,ζ,η,θ,ι,κ,μ,ν,ξ,ο,ρ,σ,τ,υ,reduceIte,reduceCtorEq,bHW,arS]
  refine aM (.inr rfl) Ev ?_
  rw[aV]
  exact congrArg PV.bool hok.symm
theorem qD {f:aK} {now:List (List Int)} {r:Int} (h:fH f now r=true):dL f=true∧now.length=f.bHR.length∧0≤r∧r≤4:=by
 unfold fH at h
 simp only[bKR,decide_eq_true_eq] at h
 exact⟨h.1.1,a2W h.1.2,h.2.1,h.2.2⟩

def bcM:Rg:=[iA 3 (.box true (Tm 0)),iI 6 0]
def bcN:Rg:=[iO 8 7 3,iM 9 1,iM 10 2,iA 11 (.call 250 [(Tm 8),(Tm 9),(Tm 10)]),iA 12 (.un .not (Tm 11))]
def bcO:Rg:=[iI 6 1]
def bcP:Rg:=[iF 13 4 3,iL 14 13,iN 15 14,iI 16 0]
def bcQ:Rg:=[iB 17 .lss 16 15]
def bcR:Rg:=[iM 18 16,iM 7 18]
def bcS:Rg:=[iO 19 7 3,iM 20 1,iM 21 2,iM 22 7,iA 23 (.bHV true 1 1 [(.int .i64 0)] [(0,(Tm 22))]),iA 24 (.call 251 [(Tm 19),(Tm 20),(Tm 21),(Tm 23)]),iA 25 (.un .not (Tm 24))]
def bcT:Rg:=[iI 6 116]
def bcU:Rg:=[iC 26 .add 16 1,iM 16 26]
def bcL:aC:=(sq bcQ (.seq (.cond (Tm 17) .skip (.exit 0)) (.seq (.block 1 (sq bcR (sq bcS (.cond (Tm 25) (sq bcT .ret) .skip)))) (.region bcU))))
def a4W:Rg:=[iI 6 0]
def aOK:aC:=(sq bcM (.seq (sq bcN (.cond (Tm 12) (sq bcO .ret) .skip)) (.seq (sq bcP (.block 0 (.loop bcL))) (sq a4W .ret))))
def bcV:List Nat:=[3,23]
def aMJ:aW:=⟨3,27,aOK,[.tmp 6]⟩
def bdB:Rg:=[iA 3 (.box true (Tm 0)),iZ 6,iI 7 0]
def bdC:Rg:=[iO 13 7 3,iM 14 1,iM 15 2,iA 16 (.call 262 [(Tm 13),(Tm 14),(Tm 15)]),iM 8 16]
def bdD:Rg:=[iM 17 8,iC 18 .neq 17 0]
def bdE:Rg:=[iM 19 8,iZ 6,iM 7 19]
def bdF:Rg:=[iZ 9]
def bdG:Rg:=[iF 20 4 3,iL 21 20,iN 22 21,iI 23 0]
def bdH:Rg:=[iB 24 .lss 23 22]
def bdI:Rg:=[iM 25 23,iM 10 25]
def bdJ:Rg:=[iM 26 9,iN 27 26,iI 28 0]
def bdK:Rg:=[iB 29 .lss 28 27]
def a5G:Rg:=[iM 30 28,iX 31 1 26 28,iL 32 31,iM 11 30,iM 12 32]
def a5H:Rd:=[(iO 33 7 3,true),(iM 34 1,true),(iM 35 2,true),(iM 36 12,false),(iK 37 277 36,true),(iM 38 10,true),(iA 39 (.bHV true 1 1 [(.int .i64 0)] [(0,(Tm 38))]),true),(iA 40 (.append 1 8 (Tm 37) (Tm 39)),true),(iA 41 (.call 251 [(Tm 33),(Tm 34),(Tm 35),(Tm 40)]),true)]
def a5I:Rg:=[iM 42 9,iM 43 11,iM 44 12,iM 45 10,iA 46 (.bHV true 1 1 [(.int .i64 0)] [(0,(Tm 45))]),iA 47 (.append 1 8 (Tm 44) (Tm 46)),iX 48 1 42 43,iS 1 48 47]
def a5J:Rg:=[iC 49 .add 28 1,iM 28 49]
def a5E:aC:=(sq bdK (.seq (.cond (Tm 29) .skip (.exit 2)) (.seq (.block 3 (sq a5G (dq a5H (.cond (Tm 41) (sq a5I (.exit 1)) .skip)))) (.region a5J))))
def a5K:Rg:=[iM 50 9,iM 51 10,iA 52 (.bHV false 1 1 [(.int .i64 0)] [(0,(Tm 51))]),iA 53 (.bHV true 1 1 [.aB] [(0,(Tm 52))]),iA 54 (.append 1 24 (Tm 50) (Tm 53)),iM 9 54]
def a5L:Rg:=[iC 55 .add 23 1,iM 23 55]
def a5F:aC:=(sq bdH (.seq (.cond (Tm 24) .skip (.exit 0)) (.seq (.block 1 (sq bdI (.seq (sq bdJ (.block 2 (.loop a5E))) (.region a5K)))) (.region a5L))))
def a5M:Rg:=[iM 56 9,iM 6 56,iI 7 0]
def aOP:aC:=(sq bdB (.seq (sq bdC (sq bdD (.cond (Tm 18) (sq bdE .ret) .skip))) (sq bdF (.seq .skip (.seq (sq bdG (.block 0 (.loop a5F))) (sq a5M .ret))))))
def bdL:List Nat:=[3,39,46,53]
def aMM:aW:=⟨3,57,aOP,[.tmp 6,.tmp 7]⟩
def bcA:Rg:=[iA 3 (.box true (Tm 0)),iI 6 0,iI 7 0]
def bcB:Rg:=[iO 18 7 3,iM 19 1,iM 20 2,iA 21 (.call 262 [(Tm 18),(Tm 19),(Tm 20)]),iM 8 21]
def bcC:Rg:=[iM 22 8,iC 23 .neq 22 0]
def bcD:Rg:=[iM 24 8,iI 6 0,iM 7 24]
def bcE:Rg:=[iF 25 4 3,iL 26 25,iN 27 26,iA 28 (.bIQ false (Tm 27) (Ci 1)),iM 9 28]
def bcF:Rg:=[iM 29 1,iN 30 29,iI 31 0]
def bcG:Rg:=[iB 32 .lss 31 30]
def bcH:Rg:=[iM 33 31,iX 34 1 29 31,iL 35 34,iM 10 33,iM 11 35]
def bcI:Rg:=[iA 36 (.bJL (false,[.int .i64])),iM 12 36]
def bcJ:Rg:=[iI 13 0]
def a4J:Rg:=[iM 37 11,iN 38 37,iI 39 0]
def a4K:Rg:=[iB 40 .lss 39 38]
def a4L:Rg:=[iX 41 1 37 39,iL 42 41,iM 15 42]
def a4M:Rg:=[iM 43 15,iC 44 .geq 43 0]
def a4N:Rg:=[iM 45 12,iM 46 15,⟨none,.bIN (false,[.int .i64]) (Tm 45) (Tm 46) (.const (.bool true)),none⟩]
def a4O:Rg:=[iM 47 13,iC 48 .add 47 1,iM 13 48]
def a4P:Rg:=[iC 49 .add 39 1,iM 39 49]
def a4H:aC:=(sq a4K (.seq (.cond (Tm 40) .skip (.exit 2)) (.seq (.block 3 (sq a4L (sq a4M (.cond (Tm 44) (sq a4N (.region a4O)) .skip)))) (.region a4P))))
def a4Q:Rg:=[iM 50 12,iA 51 (.lenM (Tm 50)),iM 16 51]
def a4R:Rg:=[iM 52 16,iC 53 .eql 52 0,iM 54 53,gM 55 16 54 false,gM 56 13 54 false,gB 57 .neq 55 56 54 false,iQ 58 54 57]
def a4S:Rd:=[(iM 59 16,false),(iF 60 5 3,false),(iL 61 60,false),(iF 62 6 3,false),(iL 63 62,false),(iM 64 10,false),(iX 65 2 63 64,false),(iF 66 1 65,false),(iL 67 66,false),(iX 68 17 61 67,false),(iF 69 1 68,false),(iL 70 69,false),(iB 71 .sub 59 70,false),(iM 72 2,false),(iB 73 .sub 71 72,false),(iM 17 73,false)]
def a4T:Rg:=[iM 74 9,iM 75 16,iM 76 17,iB 77 .add 75 76,iC 78 .sub 77 1,iM 79 17,iB 80 .quo 78 79,iA 81 (.bIQ true (Tm 74) (Tm 80)),iM 9 81]
def a4U:Rg:=[iC 82 .add 31 1,iM 31 82]
def a4I:aC:=(sq bcG (.seq (.cond (Tm 32) .skip (.exit 0)) (.seq (.block 1 (sq bcH (sq bcI (sq bcJ (.seq (sq a4J (.block 2 (.loop a4H))) (sq a4Q (.seq (sq a4R (.cond (Tm 58) (.exit 1) .skip)) (dq a4S (.region a4T))))))))) (.region a4U))))
def a4V:Rg:=[iM 83 9,iM 6 83,iI 7 0]
def aOJ:aC:=(sq bcA (.seq (sq bcB (sq bcC (.cond (Tm 23) (sq bcD .ret) .skip))) (sq bcE (.seq (sq bcF (.block 0 (.loop a4I))) (sq a4V .ret)))))
def bcK:List Nat:=[3]
def aMI:aW:=⟨3,84,aOJ,[.tmp 6,.tmp 7]⟩
def auR:Rg:=[iA 4 (.box true (Tm 0)),iT 8 false]
def auS:Rg:=[iO 13 7 4,iM 14 1,iM 15 2,iA 16 (.call 250 [(Tm 13),(Tm 14),(Tm 15)]),iA 17 (.un .not (Tm 16))]
def auT:Rg:=[iT 8 false]
def auU:Rg:=[iM 18 3,iK 19 178 18,iM 9 19]
def auV:Rg:=[iM 20 9,iN 21 20,iF 22 4 4,iL 23 22,iN 24 23,iB 25 .neq 21 24]
def auW:Rg:=[iT 8 false]
def auX:Rg:=[iF 26 4 4,iL 27 26,iN 28 27,iI 29 0]
def auY:Rg:=[iB 30 .lss 29 28]
def auZ:Rg:=[iM 31 29,iM 10 31]
def avA:Rg:=[iM 32 9,iM 33 10,iK2 34 260 32 33,iA 35 (.un .not (Tm 34))]
def aiZ:Rg:=[iT 8 false]
def ajA:Rg:=[iC 36 .add 29 1,iM 29 36]
def aiX:aC:=(sq auY (.seq (.cond (Tm 30) .skip (.exit 0)) (.seq (.block 1 (sq auZ (sq avA (.cond (Tm 35) (sq aiZ .ret) .skip)))) (.region ajA))))
def ajB:Rg:=[iM 37 3,iN 38 37,iI 39 0]
def ajC:Rg:=[iB 40 .lss 39 38]
def ajD:Rg:=[iX 41 1 37 39,iL 42 41,iM 12 42]
def ajE:Rg:=[iM 43 12,iN 44 43,iC 45 .eql 44 0,iM 46 45,gO 47 7 4 46 false,gM 48 1 46 false,gM 49 2 46 false,gM 50 12 46 false,iG 51 (.call 251 [(Tm 47),(Tm 48),(Tm 49),(Tm 50)]) 46 false,iG 52 (.un .not (Tm 51)) 46 false,iQ 53 46 52]
def JS:Rg:=[iT 8 false]
def ajF:Rg:=[iC 54 .add 39 1,iM 39 54]
def aiY:aC:=(sq ajC (.seq (.cond (Tm 40) .skip (.exit 2)) (.seq (.block 3 (sq ajD (sq ajE (.cond (Tm 53) (sq JS .ret) .skip)))) (.region ajF))))
def ajG:Rg:=[iT 8 true]
def CI:aC:=(sq auR (.seq (sq auS (.cond (Tm 17) (sq auT .ret) .skip)) (sq auU (.seq (sq auV (.cond (Tm 25) (sq auW .ret) .skip)) (.seq (sq auX (.block 0 (.loop aiX))) (.seq (sq ajB (.block 2 (.loop aiY))) (sq ajG .ret)))))))
def bdA:List Nat:=[4]
def RC:aW:=⟨4,55,CI,[.tmp 8]⟩
def aKV:Rg:=[iA 3 (.box true (Tm 0)),iI 6 0]
def aKW:Rg:=[iO 8 7 3,iM 9 1,iM 10 2,iA 11 (.call 253 [(Tm 8),(Tm 9),(Tm 10)]),iA 12 (.un .not (Tm 11))]
def aKX:Rg:=[iI 6 1]
def aKY:Rg:=[iI 7 0]
def aKZ:Rg:=[iM 13 7,iF 14 4 3,iL 15 14,iN 16 15,iB 17 .lss 13 16]
def aLA:Rg:=[iO 20 7 3,iM 21 1,iM 22 2,iM 23 7,iA 24 (.bHV true 1 1 [(.int .i64 0)] [(0,(Tm 23))]),iA 25 (.call 255 [(Tm 20),(Tm 21),(Tm 22),(Tm 24)]),iA 26 (.un .not (Tm 25))]
def aLB:Rg:=[iI 6 116]
def aLC:Rg:=[iM 18 7,iC 19 .add 18 1,iM 7 19]
def aKU:aC:=(.seq (sq aKZ (.cond (Tm 17) .skip (.exit 0))) (.seq (.block 1 (sq aLA (.cond (Tm 26) (sq aLB .ret) .skip))) (.region aLC)))
def aLD:Rg:=[iI 6 0]
def JD:aC:=(sq aKV (.seq (sq aKW (.cond (Tm 12) (sq aKX .ret) .skip)) (.seq (sq aKY (.block 0 (.loop aKU))) (sq aLD .ret))))
def bjH:List Nat:=[3,24]
def ahF:aW:=⟨3,27,JD,[.tmp 6]⟩
def auF:Rg:=[iA 3 (.box true (Tm 0)),iZ 6,iI 7 0]
def auG:Rg:=[iO 13 7 3,iM 14 1,iM 15 2,iA 16 (.call 266 [(Tm 13),(Tm 14),(Tm 15)]),iM 8 16]
def QX:Rg:=[iM 17 8,iC 18 .neq 17 0]
def auH:Rg:=[iM 19 8,iZ 6,iM 7 19]
def auI:Rg:=[iZ 9]
def auJ:Rg:=[iI 10 0]
def auK:Rg:=[iM 20 10,iF 21 4 3,iL 22 21,iN 23 22,iB 24 .lss 20 23]
def auL:Rg:=[iI 11 (-1)]
def auM:Rg:=[iI 12 0]
def auN:Rg:=[iM 27 12,iM 28 9,iN 29 28,iB 30 .lss 27 29,iM 31 30,gM 32 11 31 true,gC 33 .lss 32 0 31 true,iP 34 31 33]
def aiE:Rd:=[(iO 37 7 3,true),(iM 38 1,true),(iM 39 2,true),(iM 40 9,false),(iM 41 12,false),(iX 42 1 40 41,false),(iL 43 42,false),(iA 44 (.append 1 8 (.const .aB) (Tm 43)),true),(iM 45 10,true),(iA 46 (.bHV true 1 1 [(.int .i64 0)] [(0,(Tm 45))]),true),(iA 47 (.append 1 8 (Tm 44) (Tm 46)),true),(iA 48 (.call 255 [(Tm 37),(Tm 38),(Tm 39),(Tm 47)]),true)]
def aiF:Rg:=[iM 49 12,iM 11 49]
def JO:Rg:=[iM 35 12,iC 36 .add 35 1,iM 12 36]
def aiC:aC:=(.seq (sq auN (.cond (Tm 34) .skip (.exit 2))) (.seq (.block 3 (dq aiE (.cond (Tm 48) (.region aiF) .skip))) (.region JO)))
def vE:Rg:=[iM 50 11,iC 51 .lss 50 0]
def aiG:Rg:=[iM 52 9,iA 53 (.bHV true 1 1 [.aB] [(0,(.const .aB))]),iA 54 (.append 1 24 (Tm 52) (Tm 53)),iM 9 54]
def aiH:Rg:=[iM 55 9,iN 56 55,iC 57 .sub 56 1,iM 11 57]
def vF:Rg:=[iM 58 9,iM 59 11,iM 60 9,iM 61 11,iX 62 1 60 61,iL 63 62,iM 64 10,iA 65 (.bHV true 1 1 [(.int .i64 0)] [(0,(Tm 64))]),iA 66 (.append 1 8 (Tm 63) (Tm 65)),iX 67 1 58 59,iS 1 67 66]
def JP:Rg:=[iM 25 10,iC 26 .add 25 1,iM 10 26]
def aiD:aC:=(.seq (sq auK (.cond (Tm 24) .skip (.exit 0))) (.seq (.block 1 (sq auL (.seq (sq auM (.block 2 (.loop aiC))) (.seq (sq vE (.cond (Tm 51) (sq aiG (.region aiH)) .skip)) (.region vF))))) (.region JP)))
def JQ:Rg:=[iM 68 9,iM 6 68,iI 7 0]
def CC:aC:=(sq auF (.seq (sq auG (sq QX (.cond (Tm 18) (sq auH .ret) .skip))) (sq auI (.seq (sq auJ (.block 0 (.loop aiD))) (sq JQ .ret)))))
def bbZ:List Nat:=[3,46,53,65]
def QW:aW:=⟨3,69,CC,[.tmp 6,.tmp 7]⟩
def bbC:Rg:=[iA 3 (.box true (Tm 0)),iI 6 0,iI 7 0]
def bbD:Rg:=[iO 16 7 3,iM 17 1,iM 18 2,iA 19 (.call 266 [(Tm 16),(Tm 17),(Tm 18)]),iM 8 19]
def bbE:Rg:=[iM 20 8,iC 21 .neq 20 0]
def bbF:Rg:=[iM 22 8,iI 6 0,iM 7 22]
def bbG:Rg:=[iF 23 4 3,iL 24 23,iN 25 24,iA 26 (.bIQ false (Tm 25) (Ci 1)),iM 9 26]
def bbH:Rg:=[iI 10 0]
def bbI:Rg:=[iM 27 10,iM 28 1,iN 29 28,iB 30 .lss 27 29]
def bbJ:Rg:=[iZ 11]
def bbK:Rg:=[iT 12 false]
def bbL:Rg:=[iI 13 0]
def a3R:Rg:=[iM 33 13,iM 34 1,iM 35 10,iX 36 1 34 35,iL 37 36,iN 38 37,iB 39 .lss 33 38]
def a3S:Rg:=[iM 42 1,iM 43 10,iX 44 1 42 43,iL 45 44,iM 46 13,iX 47 1 45 46,iL 48 47,iC 49 .geq 48 0]
def a3T:Rg:=[iM 50 12,iM 51 50,gM 52 11 51 false,gM 53 1 51 false,gM 54 10 51 false,iG 55 (.bIK 1 (Tm 53) (Tm 54)) 51 false,gL 56 55 51 false,gM 57 13 51 false,iG 58 (.bIK 1 (Tm 56) (Tm 57)) 51 false,gL 59 58 51 false,gK2 60 254 52 59 51 false,iQ 61 51 60,iM 12 61]
def a3U:Rg:=[iM 62 11,iM 63 1,iM 64 10,iX 65 1 63 64,iL 66 65,iM 67 13,iX 68 1 66 67,iL 69 68,iA 70 (.bHV true 1 1 [(.int .i64 0)] [(0,(Tm 69))]),iA 71 (.append 1 8 (Tm 62) (Tm 70)),iM 11 71]
def a3V:Rg:=[iM 40 13,iC 41 .add 40 1,iM 13 41]
def a3P:aC:=(.seq (sq a3R (.cond (Tm 39) .skip (.exit 2))) (.seq (.block 3 (sq a3S (.cond (Tm 49) (sq a3T (.region a3U)) .skip))) (.region a3V)))
def a3W:Rg:=[iM 72 11,iN 73 72,iM 14 73]
def a3X:Rg:=[iM 74 12,iM 75 74,gM 76 14 75 false,gC 77 .eql 76 0 75 false,iQ 78 75 77]
def a3Y:Rg:=[iM 79 14,iO 80 7 3,iM 81 10,iK2 82 257 80 81,iB 83 .sub 79 82,iM 84 2,iB 85 .sub 83 84,iM 15 85]
def a3Z:Rg:=[iM 86 9,iM 87 14,iM 88 15,iB 89 .add 87 88,iC 90 .sub 89 1,iM 91 15,iB 92 .quo 90 91,iA 93 (.bIQ true (Tm 86) (Tm 92)),iM 9 93]
def a4A:Rg:=[iM 31 10,iC 32 .add 31 1,iM 10 32]
def a3Q:aC:=(.seq (sq bbI (.cond (Tm 30) .skip (.exit 0))) (.seq (.block 1 (sq bbJ (sq bbK (.seq (sq bbL (.block 2 (.loop a3P))) (sq a3W (.seq (sq a3X (.cond (Tm 78) (.exit 1) .skip)) (sq a3Y (.region a3Z)))))))) (.region a4A)))
def a4B:Rg:=[iM 94 9,iM 6 94,iI 7 0]
def aOI:aC:=(sq bbC (.seq (sq bbD (sq bbE (.cond (Tm 21) (sq bbF .ret) .skip))) (sq bbG (.seq (sq bbH (.block 0 (.loop a3Q))) (sq a4B .ret)))))
def bbM:List Nat:=[3,70]
def aLH:aW:=⟨3,95,aOI,[.tmp 6,.tmp 7]⟩
def atQ:Rg:=[iA 4 (.box true (Tm 0)),iT 8 false]
def atR:Rg:=[iO 13 7 4,iM 14 1,iM 15 2,iA 16 (.call 253 [(Tm 13),(Tm 14),(Tm 15)]),iA 17 (.un .not (Tm 16))]
def atS:Rg:=[iT 8 false]
def atT:Rg:=[iZ 9]
def atU:Rg:=[iI 10 0]
def atV:Rg:=[iM 18 10,iM 19 3,iN 20 19,iB 21 .lss 18 20]
def atW:Rg:=[iI 11 0]
def atX:Rg:=[iM 24 11,iM 25 3,iM 26 10,iX 27 1 25 26,iL 28 27,iN 29 28,iB 30 .lss 24 29]
def atY:Rg:=[iM 33 3,iM 34 10,iX 35 1 33 34,iL 36 35,iM 37 11,iX 38 1 36 37,iL 39 38,iM 12 39]
def atZ:Rg:=[iM 40 12,iC 41 .lss 40 0,iM 42 41,gM 43 12 42 false,gF 44 4 4 42 false,gL 45 44 42 false,gN 46 45 42 false,gB 47 .geq 43 46 42 false,iQ 48 42 47,iM 49 48,gM 50 9 49 false,gM 51 12 49 false,gK2 52 254 50 51 49 false,iQ 53 49 52]
def vD:Rg:=[iT 8 false]
def ahV:Rg:=[iM 54 9,iM 55 12,iA 56 (.bHV true 1 1 [(.int .i64 0)] [(0,(Tm 55))]),iA 57 (.append 1 8 (Tm 54) (Tm 56)),iM 9 57]
def ahW:Rg:=[iM 31 11,iC 32 .add 31 1,iM 11 32]
def ahT:aC:=(.seq (sq atX (.cond (Tm 30) .skip (.exit 2))) (.seq (.block 3 (sq atY (.seq (sq atZ (.cond (Tm 53) (sq vD .ret) .skip)) (.region ahV)))) (.region ahW)))
def ahX:Rd:=[(iM 58 3,false),(iM 59 10,false),(iX 60 1 58 59,false),(iL 61 60,false),(iN 62 61,false),(iC 63 .eql 62 0,false),(iM 64 63,false),(gO 65 7 4 64 false,false),(gM 66 1 64 false,false),(gM 67 2 64 false,false),(gM 68 3 64 false,false),(gM 69 10 64 false,false),(iG 70 (.bIK 1 (Tm 68) (Tm 69)) 64 false,false),(gL 71 70 64 false,false),(iG 72 (.call 255 [(Tm 65),(Tm 66),(Tm 67),(Tm 71)]) 64 false,true),(iG 73 (.un .not (Tm 72)) 64 false,false),(iQ 74 64 73,false)]
def JJ:Rg:=[iT 8 false]
def ahY:Rg:=[iM 22 10,iC 23 .add 22 1,iM 10 23]
def ahU:aC:=(.seq (sq atV (.cond (Tm 21) .skip (.exit 0))) (.seq (.block 1 (.seq (sq atW (.block 2 (.loop ahT))) (dq ahX (.cond (Tm 74) (sq JJ .ret) .skip)))) (.region ahY)))
def JK:Rg:=[iM 75 9,iN 76 75,iF 77 4 4,iL 78 77,iN 79 78,iB 80 .eql 76 79,iM 8 80]
def BZ:aC:=(sq atQ (.seq (sq atR (.cond (Tm 17) (sq atS .ret) .skip)) (sq atT (.seq (sq atU (.block 0 (.loop ahU))) (sq JK .ret)))))
def bbT:List Nat:=[4,56]
def QS:aW:=⟨4,81,BZ,[.tmp 8]⟩
def bhT:Rg:=[iT 4 false]
def bhU:Rg:=[iM 7 0,iN 8 7,iM 9 1,iN 10 9,iB 11 .neq 8 10]
def bhV:Rg:=[iT 4 false]
def bhW:Rg:=[iI 5 0]
def bhX:Rg:=[iM 12 5,iM 13 0,iN 14 13,iB 15 .lss 12 14]
def bhY:Rd:=[(iM 18 0,false),(iM 19 5,false),(iX 20 1 18 19,false),(iL 21 20,false),(iN 22 21,false),(iM 23 1,false),(iM 24 5,false),(iX 25 1 23 24,false),(iL 26 25,false),(iN 27 26,false),(iB 28 .neq 22 27,false)]
def bhZ:Rg:=[iT 4 false]
def biA:Rg:=[iI 6 0]
def biB:Rg:=[iM 29 6,iM 30 0,iM 31 5,iX 32 1 30 31,iL 33 32,iN 34 33,iB 35 .lss 29 34]
def biC:Rd:=[(iM 38 0,false),(iM 39 5,false),(iX 40 1 38 39,false),(iL 41 40,false),(iM 42 6,false),(iX 43 1 41 42,false),(iL 44 43,false),(iM 45 1,false),(iM 46 5,false),(iX 47 1 45 46,false),(iL 48 47,false),(iM 49 6,false),(iX 50 1 48 49,false),(iL 51 50,false),(iB 52 .neq 44 51,false)]
def a9T:Rg:=[iT 4 false]
def a9U:Rg:=[iM 36 6,iC 37 .add 36 1,iM 6 37]
def a9R:aC:=(.seq (sq biB (.cond (Tm 35) .skip (.exit 2))) (.seq (.block 3 (dq biC (.cond (Tm 52) (sq a9T .ret) .skip))) (.region a9U)))
def a9V:Rg:=[iM 16 5,iC 17 .add 16 1,iM 5 17]
def a9S:aC:=(.seq (sq bhX (.cond (Tm 15) .skip (.exit 0))) (.seq (.block 1 (.seq (dq bhY (.cond (Tm 28) (sq bhZ .ret) .skip)) (sq biA (.block 2 (.loop a9R))))) (.region a9V)))
def a9W:Rg:=[iT 4 true]
def a2T:aC:=(sq bhT (.seq (sq bhU (.cond (Tm 11) (sq bhV .ret) .skip)) (.seq (sq bhW (.block 0 (.loop a9S))) (sq a9W .ret))))
def biD:List Nat:=[]
def a2S:aW:=⟨2,53,a2T,[.tmp 4]⟩
def a8X:Rg:=[iZ 2]
def a8Y:Rg:=[iM 3 0,iA 4 (.isNil false (Tm 3))]
def a8Z:Rg:=[iZ 2]
def a9A:Rg:=[iA 5 (.bHV false 1 0 [(.int .i64 0)] []),iM 6 0,iA 7 (.append 1 8 (Tm 5) (Tm 6)),iM 2 7]
def aNZ:aC:=(sq a8X (.seq (sq a8Y (.cond (Tm 4) (sq a8Z .ret) .skip)) (sq a9A .ret)))
def a9B:List Nat:=[]
def aGF:aW:=⟨1,8,aNZ,[.tmp 2]⟩
def UA:Rg:=[iZ 4]
def UB:Rg:=[iZ 5]
def UC:Rg:=[iI 6 0]
def UD:Rg:=[iM 7 6,iM 8 0,iN 9 8,iB 10 .lss 7 9]
def AJ:Rg:=[iM 13 0,iM 14 6,iX 15 1 13 14,iL 16 15,iM 17 1,iB 18 .neq 16 17]
def UE:Rg:=[iM 19 5,iM 20 0,iM 21 6,iX 22 1 20 21,iL 23 22,iA 24 (.bHV true 1 1 [(.int .i64 0)] [(0,(Tm 23))]),iA 25 (.append 1 8 (Tm 19) (Tm 24)),iM 5 25]
def AK:Rg:=[iM 11 6,iC 12 .add 11 1,iM 6 12]
def TZ:aC:=(.seq (sq UD (.cond (Tm 10) .skip (.exit 0))) (.seq (.block 1 (sq AJ (.cond (Tm 18) (.region UE) .skip))) (.region AK)))
def UF:Rg:=[iM 26 5,iM 4 26]
def uB:aC:=(sq UA (sq UB (.seq (sq UC (.block 0 (.loop TZ))) (sq UF .ret))))
def aNR:List Nat:=[24]
def xB:aW:=⟨2,27,uB,[.tmp 4]⟩
def adN:Rg:=[iT 12 false]
def adO:Rg:=[iM 22 5,iN 23 22,iC 24 .gtr 23 20]
def adP:Rg:=[iA 25 (.call 26 []),iM 12 25]
def adQ:Rg:=[iI 13 0]
def adR:Rg:=[iM 26 13,iM 27 5,iN 28 27,iB 29 .lss 26 28]
def adS:Rg:=[iM 32 5,iM 33 13,iX 34 1 32 33,iL 35 34,iN 36 35,iC 37 .gtr 36 20]
def adT:Rg:=[iA 38 (.call 26 []),iM 12 38]
def adU:Rg:=[iM 30 13,iC 31 .add 30 1,iM 13 31]
def adM:aC:=(.seq (sq adR (.cond (Tm 29) .skip (.exit 0))) (.seq (.block 1 (sq adS (.cond (Tm 37) (sq adT .ret) .skip))) (.region adU)))
def adV:Rg:=[iM 40 0,iK 41 249 40,iM 39 41,iE 42 39 0,iE 43 39 1,iA 14 (.alloc [(.int .i64 0),.aB,.aB,.aB,.aB,.aB,.aB,.aB,.aB]),iS 9 14 42,iM 15 43]
def TS:Rg:=[iM 44 1,iA 45 (.call 24 [(Tm 44),(Ci 2)]),iM 16 45]
def TT:Rg:=[iF 47 0 14,iO 48 7 47,iF 49 7 14,iL 50 49,iM 51 16,iA 52 (.call 267 [(Tm 48),(Tm 50),(Tm 51)]),iM 46 52,iE 53 46 0,iE 54 46 1,iM 17 53,iM 18 54]
def TU:Rg:=[iM 55 17,iN 56 55,iC 57 .gtr 56 0]
def TV:Rg:=[iM 58 3,iM 59 17,iN 60 59,iK2 61 24 58 60,iM 62 4,iM 63 17,iN 64 63,iK2 65 24 62 64,iM 19 61,iM 20 65]
def TW:Rd:=[(iM 66 17,true),(iM 67 19,true),(iX 68 1 66 67,true),(iL 69 68,true),(iM 70 3,false),(iM 71 17,false),(iM 72 19,false),(iX 73 1 71 72,false),(iL 74 73,false),(iN 75 74,false),(iK2 76 24 70 75,true),(iX 77 1 69 76,false),(iL 78 77,false),(iM 21 78,false)]
def TX:Rg:=[iM 79 2,iA 80 (.call 24 [(Tm 79),(Ci 4)])]
def oN:Rg:=[iC 82 .eql 80 0,iM 81 82]
def AD:Rg:=[iM 83 17,iM 84 20,iM 85 17,iM 86 20,iX 87 1 85 86,iL 88 87,iM 89 21,iA 90 (.bHV true 1 1 [(.int .i64 0)] [(0,(Tm 89))]),iA 91 (.append 1 8 (Tm 88) (Tm 90)),iX 92 1 83 84,iS 1 92 91]
def sL:Rg:=[iC 94 .eql 80 1,iM 93 94]
def AE:Rg:=[iM 95 17,iM 96 19,iM 97 17,iM 98 19,iX 99 1 97 98,iL 100 99,iM 101 21,iK2 102 272 100 101,iX 103 1 95 96,iS 1 103 102]
def AF:Rg:=[iM 104 17,iM 105 20,iM 106 17,iM 107 20,iX 108 1 106 107,iL 109 108,iM 110 21,iA 111 (.bHV true 1 1 [(.int .i64 0)] [(0,(Tm 110))]),iA 112 (.append 1 8 (Tm 109) (Tm 111)),iX 113 1 104 105,iS 1 113 112]
def AG:Rg:=[iC 115 .eql 80 2,iM 114 115]
def AH:Rg:=[iM 116 17,iM 117 19,iM 118 17,iM 119 19,iX 120 1 118 119,iL 121 120,iM 122 21,iK2 123 272 121 122,iX 124 1 116 117,iS 1 124 123]
def sM:Rd:=[(iA 125 (.call 26 []),true),(iM 126 125,false),(gF 127 0 14 126 true,false),(gO 128 7 127 126 true,false),(gF 129 7 14 126 true,false),(gL 130 129 126 true,false),(gM 131 16 126 true,false),(gM 132 17 126 true,false),(iG 133 (.call 265 [(Tm 128),(Tm 130),(Tm 131),(Tm 132)]) 126 true,true),(gF 134 0 14 126 true,true),(gO 135 7 134 126 true,true),(gF 136 7 14 126 true,true),(gL 137 136 126 true,true),(gM 138 16 126 true,true),(gM 139 17 126 true,true),(iG 140 (.call 269 [(Tm 135),(Tm 137),(Tm 138),(Tm 139)]) 126 true,true),(iG 141 (.eqb false (Tm 133) (Tm 140)) 126 true,false),(iP 142 126 141,false),(iM 143 142,false),(gF 144 0 14 143 true,false),(gO 145 7 144 143 true,false),(gF 146 7 14 143 true,false),(gL 147 146 143 true,false),(gM 148 1 143 true,false),(gM 149 5 143 true,false),(iG 150 (.call 265 [(Tm 145),(Tm 147),(Tm 148),(Tm 149)]) 143 true,true),(gF 151 0 14 143 true,true),(gO 152 7 151 143 true,true),(gF 153 7 14 143 true,true),(gL 154 153 143 true,true),(gM 155 1 143 true,true),(gM 156 5 143 true,true),(iG 157 (.call 269 [(Tm 152),(Tm 154),(Tm 155),(Tm 156)]) 143 true,true),(iG 158 (.eqb false (Tm 150) (Tm 157)) 143 true,false),(iP 159 143 158,false),(iM 12 159,false)]
def wZ:aC:=(sq adN (.seq (sq adO (.cond (Tm 24) (sq adP .ret) .skip)) (.seq (sq adQ (.block 0 (.loop adM))) (sq adV (sq TS (sq TT (.seq (sq TU (.cond (Tm 57) (sq TV (dq TW (sq TX (.block 2 (sq oN (.cond (Tm 81) (.region AD) (sq sL (.cond (Tm 93) (sq AE (.region AF)) (sq AG (.cond (Tm 114) (.region AH) .skip)))))))))) .skip)) (dq sM .ret))))))))
def a1F:List Nat:=[90,111]
def DE:aW:=⟨6,160,wZ,[.tmp 12]⟩
structure RV (C:Ctx) (us ft:Nat):Prop where
 usable:∀ (f:aK) (now:List (List Int)) (r:Int),f.Ok→fI now→aE C us [.agg f.cells,lay now,.int .i64 r] .nil (aD (.bool (fH f now r)))
 fits:∀ (f:aK) (now:List (List Int)) (r:Int) (down:List Int),fH f now r=true→fI now→down.length≤1000000000000000→aE C ft [.agg f.cells,lay now,.int .i64 r,ints down] .nil (aD (.bool (fW f now r down)))
theorem bjG {C:Ctx} (Lb:RV C 253 255) (f:aK) (hf:f.Ok) (now:List (List Int)) (hl:fI now) (r:Int) :
  JD.wp C (aT ahF.res (aD (.int .i64 (oH f now r)))) (PF.args [.agg f.cells,lay now,.int .i64 r]) .nil:=by
 have hE:oH f now r=if fH f now r then (if tA f now r then 0 else 116) else 1:=rfl
 simp only[go_sem,γ,δ,ε,ζ,η,θ,ι,κ,μ,ν,ξ,ο,ρ,σ,τ,υ,reduceIte,reduceCtorEq,JD,aKV,aKW,ahF]
 refine aA (Lb.usable f now r hf hl) Ev ?_
 cases hu:fH f now r with
 | false =>
  rw[hu] at hE
  simp only[go_sem,γ,δ,ε,ζ,η,θ,ι,κ,μ,ν,ξ,ο,ρ,σ,τ,υ,reduceIte,reduceCtorEq,aKX]
  refine aM (.inr rfl) Ev ?_
  rw[aV,hE]; rfl
 | true =>
  rw[hu,if_pos rfl] at hE
  have hV:=VF.of (qD hu).1
  have hd:=hV.small.bHP
  simp only[go_sem,γ,δ,ε,ζ,η,θ,ι,κ,μ,ν,ξ,ο,ρ,σ,τ,υ,reduceIte,reduceCtorEq,aKY]
  refine wp_loop (α:=Nat) (fun k=>((((PF.nil.set 1 (lay now)).set 2 (.int .i64 r)).set 3 (.bH f.cells)).set 7 (.int .i64 k))) (fun _=>.nil) (fun k=>k≤f.bHP.length∧CU f now r k=true) (fun k=>f.bHP.length-k) 0 ⟨bKF _,rfl⟩ Lq PH.nil_le ?_
  rintro k ⟨hk,hok⟩
  simp only[go_sem,γ,δ,ε,ζ,η,θ,ι,κ,μ,ν,ξ,ο,ρ,σ,τ,υ,reduceIte,reduceCtorEq,aKU,aKZ,bJT]
  by_cases hlt:k<f.bHP.length
  ·have bHW:(k:Int)<(f.bHP.length:Nat):=by omega
   have hs:=aNF f now r k
   rw[hok,bKE] at hs
   simp only[go_sem,γ,δ,ε,ζ,η,θ,ι,κ,μ,ν,ξ,ο,ρ,σ,τ,υ,reduceIte,reduceCtorEq,bHW,aLA]
   refine aA (Lb.fits f now r [(k:Int)] hu hl (by simp)) Ev ?_
   cases bJE:fW f now r [(k:Int)] with
   | false =>
    simp only[go_sem,γ,δ,ε,ζ,η,θ,ι,κ,μ,ν,ξ,ο,ρ,σ,τ,υ,reduceIte,reduceCtorEq,aLB]
    refine aM (.inr rfl) Ev ?_
    rw[aV,hE]
    have:=a5W hlt bJE
    rw[show tA f now r=false from this]; rfl
   | true =>
    rw[bJE] at hs
    simp only[go_sem,γ,δ,ε,ζ,η,θ,ι,κ,μ,ν,ξ,ο,ρ,σ,τ,υ,reduceIte,reduceCtorEq,aLC,wZz k]
    exact aH (k+1) ⟨hlt,hs⟩ Om Lq PH.nil_le
  ·have bHW:¬ (k:Int)<(f.bHP.length:Nat):=by omega
   have:k=f.bHP.length:=by omega
   subst this
   simp only[go_sem,γ,δ,ε,ζ,η,θ,ι,κ,μ,ν,ξ,ο,ρ,σ,τ,υ,reduceIte,reduceCtorEq,bHW,aLD]
   refine aM (.inr rfl) Ev ?_
   rw[aV,hE,show tA f now r=true from hok]; rfl
end Go.PM
