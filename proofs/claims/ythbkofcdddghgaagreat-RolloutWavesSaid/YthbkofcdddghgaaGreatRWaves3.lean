/-
  Texts of ours, joined: FlCode Pm33 FlW1 FlPlain FlW2 FlW3 FlW4 FlW5 FlW6 FlW7 FlW8 FlW9 ToPlain ToCode ToW1 ToW2 Pm34 ToW3 ToW4 ToW5 ToW6 ToW7 ToW8 RfPlain RfP2 RfP3 RfP4 RoPlain RfP5 RwP1 RfCode R17Code R11Code ToW9 ToW10 . No condition.
-/
import Derived.Test.YthbkofcdddghgaaGreatRWaves1
import Derived.Test.YthbkofcdddghgaaGreatRWaves2
import Derived.Lib.SlicesCompact
set_option linter.unusedSimpArgs false
set_option linter.unusedVariables false
open Nat renaming reduceEqDiff → γ, reduceAdd → δ, reduceSub → ε, reduceMul → ζ, reduceLT → η, reduceLeDiff → θ, reduceBEq → τ
open Int renaming reduceLT → ι, reduceLE → κ, reduceEq → μ, reduceToNat → ν, reduceAdd → ξ, reduceNeg → ο, reduceBEq → ρ, reduceBNe → σ
open List renaming reduceReplicate → υ
open List renaming length_map → bJO, range → bJP, replicate → bJR, getElem_mem → bJS, length_append → bJW, getElem?_eq_getElem → bJZ, length_singleton → bKC, mem_cons → bKE, take_of_length_le → bKF, length_take → bKG, getD_eq_getElem?_getD → bKH, all_eq_true → bKK, take_length → bKL, append_assoc → bKP, drop_zero → bKQ, getElem?_map → bKS, mem_map → bKU, mem_singleton → bKV, getElem?_eq_some_iff → bKY, mem_range → bKZ, mem_append → bLB, not_mem_nil → bLC, getElem?_eq_none → bLD, length_cons → bLG, map_append → bLK, take_succ_eq_append_getElem → bLL, append_nil → bLM, drop_eq_getElem_cons → bLN, length_set → bLO, length_drop → bLQ, map_cons → bLR, Sublist → bLU, getElem_of_mem → bLV, getElem?_append_right → bLX, getElem_map → bLY, length_nil → bLZ, nil_append → bMA, nodup_append → bMC, take_append_drop → bMD, getElem?_append_left → bMH, mem_of_getElem? → bMI, contains_iff_mem → bMN, set_append_right → bMQ, getElem?_take → bMU, drop_of_length_le → bMZ, getElem?_drop → bNA, length_replicate → bNB, eq_nil_of_length_eq_zero → bNC, getElem?_take_of_lt → bND
open Nat renaming le_refl → bJQ, gcd → bJT, zero_le → bJY, mul_add → bKB, lt_or_ge → bKI, mul_assoc → bKJ, zero_add → bKN, mul_comm → bKO, add_mul → bKR, mul_le_mul_right → bKT, mod_eq_of_lt → bKW, mod_lt → bLE, add_zero → bLH, pow_succ → bLI, min_eq_left → bLS, mul_le_mul_left → bLT, pos_of_ne_zero → bLW, add_assoc → bMB, pow_pos → bME, sub_self → bMF, div_lt_iff_lt_mul → bMJ, eq_zero_or_pos → bMO, div_add_mod → bMV, div_eq_of_lt → bMW
open Bool renaming false_and → bJU, not_true → bJV, true_and → bKA, not_false → bKD, and_eq_true → bKM, and_false → bLA, and_true → bLP, and_assoc → bMM, false_eq_true → bMP
open Option renaming map_eq_some_iff → bJX, map_some → bKX, some → bMG, getD_some → bMK, bind_eq_some_iff → bMR, bind_some → bMX
open Int renaming tdiv → bLF, toNat_natCast → bMT
open Array renaming replicate → bLJ, length_toList → bML, getElem?_eq_getElem → bMS, getElem?_eq_some_iff → bMY
namespace Go.PM
open Go
def oG:Rg:=[iT 2 false]
def oH:Rg:=[iM 3 0,iA 4 (.bin .geq (Tm 3) (.const (.int .u8 97))),iM 5 4,gM 6 0 5 true,iG 7 (.bin .leq (Tm 6) (.const (.int .u8 122))) 5 true,iP 8 5 7,iM 9 8,gM 10 0 9 false,iG 11 (.bin .geq (Tm 10) (.const (.int .u8 65))) 9 false,gM 12 11 9 false,gM 13 0 12 true,iG 14 (.bin .leq (Tm 13) (.const (.int .u8 90))) 12 true,iG 15 (.pick (Tm 12) (Tm 14) (.const (.bool false))) 9 false,iQ 16 9 15,iM 2 16]
def kD:aC:=(sq oG (sq oH .ret))
def a3I:List Nat:=[]
def wH:aW:=⟨1,17,kD,[.tmp 2]⟩
def yT:Rg:=[iT 2 false]
def yU:Rg:=[iM 3 0,iA 4 (.bin .geq (Tm 3) (.const (.int .u8 48))),iM 5 4,gM 6 0 5 true,iG 7 (.bin .leq (Tm 6) (.const (.int .u8 57))) 5 true,iP 8 5 7,iM 2 8]
def oY:aC:=(sq yT (sq yU .ret))
def a8Z:List Nat:=[]
def DE:aW:=⟨1,9,oY,[.tmp 2]⟩
def aqL:Rg:=[iT 2 false]
def aqM:Rg:=[iM 3 0,iK 4 126 3,iM 5 4,gM 6 0 5 false,gK 7 124 6 5 false,iQ 8 5 7,iM 9 8,gM 10 0 9 false,iG 11 (.bin .eql (Tm 10) (.const (.int .u8 45))) 9 false,iQ 12 9 11,iM 13 12,gM 14 0 13 false,iG 15 (.bin .eql (Tm 14) (.const (.int .u8 46))) 13 false,iQ 16 13 15,iM 2 16]
def AH:aC:=(sq aqL (sq aqM .ret))
def a9C:List Nat:=[]
def DF:aW:=⟨1,17,AH,[.tmp 2]⟩
def HC:Rg:=[iT 2 false]
def HD:Rg:=[iM 4 0,iA 5 (.bin .eql (Tm 4) (.const (.str []))),iM 6 5,gM 7 0 6 false,iG 8 (.bIS (Tm 7)) 6 false,gC 9 .gtr 8 16 6 false,iQ 10 6 9,iM 11 10,gM 12 0 11 false,iG 13 (.bIT (Tm 12) (Ci 0)) 11 false,gK 14 126 13 11 false,iG 15 (.un .not (Tm 14)) 11 false,iQ 16 11 15]
def HE:Rg:=[iT 2 false]
def aFB:Rg:=[iI 3 0]
def aFC:Rg:=[iM 17 3,iM 18 0,iA 19 (.bIS (Tm 18)),iB 20 .lss 17 19]
def aFD:Rg:=[iM 23 0,iM 24 3,iA 25 (.bIT (Tm 23) (Tm 24)),iK 26 125 25,iA 27 (.un .not (Tm 26))]
def aFE:Rg:=[iT 2 false]
def aFF:Rg:=[iM 21 3,iC 22 .add 21 1,iM 3 22]
def aFA:aC:=(.seq (sq aFC (.cond (Tm 20) .skip (.exit 0))) (.seq (.block 1 (sq aFD (.cond (Tm 27) (sq aFE .ret) .skip))) (.region aFF)))
def aFG:Rg:=[iT 2 true]
def qZ:aC:=(sq HC (.seq (sq HD (.cond (Tm 16) (sq HE .ret) .skip)) (.seq (sq aFB (.block 0 (.loop aFA))) (sq aFG .ret))))
def bhA:List Nat:=[]
def TE:aW:=⟨1,28,qZ,[.tmp 2]⟩
def adK:Rg:=[iT 6 false]
def adL:Rg:=[iM 7 0,iM 8 1,iB 9 .geq 7 8,iM 10 9,gM 11 0 10 true,gM 12 2 10 true,gB 13 .leq 11 12 10 true,iP 14 10 13,iM 6 14]
def xA:aC:=(sq adK (sq adL .ret))
def brF:List Nat:=[]
def gin:aW:=⟨3,15,xA,[.tmp 6]⟩
def apT:Rg:=[iA 1 (.box true (Tm 0)),iT 2 false]
def apU:Rg:=[iF 3 1 1,iL 4 3,iK 5 128 4,iC 6 .gtr 5 0,iM 2 6]
def AE:aC:=(sq apT (sq apU .ret))
def a8M:List Nat:=[1]
def NC:aW:=⟨1,7,AE,[.tmp 2]⟩
def aTI:Rg:=[iA 1 (.box true (Tm 0)),iT 2 false]
def aTJ:Rg:=[iO 6 3 1,iK 7 116 6,iM 5 7,iE 8 5 0,iE 9 5 1,iA 3 (.alloc [(.bool false),.aB,.aB]),iS 3 3 8,iM 4 9]
def TB:Rg:=[iM 10 4,iC 11 .eql 10 0,iM 12 11,gF 13 0 3 12 true,gL 14 13 12 true,iG 15 (.un .not (Tm 14)) 12 true,iP 16 12 15,iM 17 16,gF 18 1 3 17 true,gL 19 18 17 true,gK 20 128 19 17 true,gC 21 .leq 20 32 17 true,iP 22 17 21,iM 23 22,gF 24 2 3 23 true,gL 25 24 23 true,gK 26 128 25 23 true,gC 27 .leq 26 32 23 true,iP 28 23 27,iM 2 28]
def NH:aC:=(sq aTI (sq aTJ (sq TB .ret)))
def bmL:List Nat:=[1]
def aDH:aW:=⟨1,29,NH,[.tmp 2]⟩
def aTN:Rg:=[iA 1 (.box true (Tm 0)),iT 2 false]
def aTO:Rg:=[iA 8 (.call 115 [(Ci 1),(Ci 1)]),iM 7 8,iE 9 7 0,iE 10 7 1,iA 3 (.alloc [(.bool false),.aB,.aB]),iS 3 3 9,iM 4 10]
def aTP:Rg:=[iO 12 3 1,iO 13 3 3,iK2 14 114 12 13,iM 11 14,iE 15 11 0,iE 16 11 1,iM 5 15,iM 6 16]
def alW:Rg:=[iM 17 6,iC 18 .eql 17 0,iM 19 18,gM 20 5 19 true,gC 21 .leq 20 0 19 true,iP 22 19 21,iM 2 22]
def NJ:aC:=(sq aTN (sq aTO (sq aTP (sq alW .ret))))
def bmP:List Nat:=[1]
def gone:aW:=⟨1,23,NJ,[.tmp 2]⟩
def aCE:Rg:=[iT 4 false]
def aCF:Rg:=[iM 7 0,iN 8 7,iI 9 0]
def aCG:Rg:=[iB 10 .lss 9 8]
def aCH:Rg:=[iX 11 3 7 9,iO 12 3 11,iA 6 (.alloc [(.bool false),.aB,.aB]),iS 3 6 12]
def aCI:Rg:=[iM 13 1,iO 14 3 6,iA 15 (.bIV (Tm 13) [(Tm 14)]),iA 16 (.un .not (Tm 15))]
def aCJ:Rg:=[iT 4 false]
def aCK:Rg:=[iC 17 .add 9 1,iM 9 17]
def aCD:aC:=(sq aCG (.seq (.cond (Tm 10) .skip (.exit 0)) (.seq (.block 1 (sq aCH (sq aCI (.cond (Tm 16) (sq aCJ .ret) .skip)))) (.region aCK))))
def aCL:Rg:=[iT 4 true]
def GI:aC:=(sq aCE (.seq (sq aCF (.block 0 (.loop aCD))) (sq aCL .ret)))
def bgA:List Nat:=[]
def adH:aW:=⟨2,18,GI,[.tmp 4]⟩
def aCN:Rg:=[iT 4 false]
def aCO:Rg:=[iM 7 0,iN 8 7,iI 9 0]
def aCP:Rg:=[iB 10 .lss 9 8]
def aCQ:Rg:=[iX 11 1 7 9,iL 12 11,iM 6 12]
def aCR:Rg:=[iM 13 1,iM 14 6,iA 15 (.bIV (Tm 13) [(Tm 14)]),iA 16 (.un .not (Tm 15))]
def aCS:Rg:=[iT 4 false]
def aCT:Rg:=[iC 17 .add 9 1,iM 9 17]
def aCM:aC:=(sq aCP (.seq (.cond (Tm 10) .skip (.exit 0)) (.seq (.block 1 (sq aCQ (sq aCR (.cond (Tm 16) (sq aCS .ret) .skip)))) (.region aCT))))
def aCU:Rg:=[iT 4 true]
def GJ:aC:=(sq aCN (.seq (sq aCO (.block 0 (.loop aCM))) (sq aCU .ret)))
def bgC:List Nat:=[]
def adI:aW:=⟨2,18,GJ,[.tmp 4]⟩
def aBV:Rg:=[iT 4 false]
def aBW:Rg:=[iM 7 0,iN 8 7,iI 9 0]
def aBX:Rg:=[iB 10 .lss 9 8]
def aBY:Rg:=[iX 11 1 7 9,iL 12 11,iM 6 12]
def aBZ:Rg:=[iM 13 1,iM 14 6,iA 15 (.bIV (Tm 13) [(Tm 14)]),iA 16 (.un .not (Tm 15))]
def aCA:Rg:=[iT 4 false]
def aCB:Rg:=[iC 17 .add 9 1,iM 9 17]
def aBU:aC:=(sq aBX (.seq (.cond (Tm 10) .skip (.exit 0)) (.seq (.block 1 (sq aBY (sq aBZ (.cond (Tm 16) (sq aCA .ret) .skip)))) (.region aCB))))
def aCC:Rg:=[iT 4 true]
def GH:aC:=(sq aBV (.seq (sq aBW (.block 0 (.loop aBU))) (sq aCC .ret)))
def bfY:List Nat:=[]
def adG:aW:=⟨2,18,GH,[.tmp 4]⟩
def apV:Rg:=[iT 2 false]
def apW:Rg:=[iM 3 0,iM 2 3]
def AF:aC:=(sq apV (sq apW .ret))
def a8O:List Nat:=[]
def ND:aW:=⟨1,4,AF,[.tmp 2]⟩
def aCY:Rg:=[iA 1 (.box true (Tm 0)),iT 2 false]
def aCZ:Rg:=[iF 8 3 1,iL 9 8,iN 10 9,iA 11 (.bHU 1 1 [(.bool false)] (Tm 10) (Tm 10)),iM 3 11]
def aDA:Rg:=[iI 4 0]
def aDB:Rg:=[iM 12 4,iM 13 3,iN 14 13,iB 15 .leq 12 14]
def aDC:Rg:=[iM 18 3,iN 19 18,iI 20 0]
def XL:Rg:=[iB 21 .lss 20 19]
def aDD:Rg:=[iM 22 20,iM 5 22]
def XM:Rg:=[iM 23 3,iM 24 5,iM 25 3,iM 26 5,iX 27 1 25 26,iL 28 27,iM 29 28,gF 30 3 1 29 false,gL 31 30 29 false,gM 32 5 29 false,iG 33 (.bIF 3 (Tm 31) (Tm 32)) 29 false,gO 34 3 33 29 false,gK 35 97 34 29 false,iQ 36 29 35,iX 37 1 23 24,iS 1 37 36]
def XN:Rg:=[iF 38 2 1,iL 39 38,iM 40 5,iX 41 1 39 40,iL 42 41,iN 43 42,iI 44 0]
def aDE:Rg:=[iB 45 .lss 44 43]
def apY:Rg:=[iM 46 44,iX 47 3 42 44,iO 48 3 47,iA 7 (.alloc [(.bool false),.aB,.aB]),iM 6 46,iS 3 7 48]
def NE:Rg:=[iM 49 3,iM 50 5,iM 51 3,iM 52 5,iX 53 1 51 52,iL 54 53,iM 55 54,gO 56 3 7 55 false,gK 57 97 56 55 false,gM 58 57 55 false,gM 59 3 58 true,gM 60 6 58 true,iG 61 (.bIF 1 (Tm 59) (Tm 60)) 58 true,gL 62 61 58 true,iG 63 (.pick (Tm 58) (Tm 62) (.const (.bool false))) 55 false,iQ 64 55 63,iX 65 1 49 50,iS 1 65 64]
def yR:Rg:=[iC 66 .add 44 1,iM 44 66]
def yP:aC:=(sq aDE (.seq (.cond (Tm 45) .skip (.exit 4)) (.seq (.block 5 (sq apY (.region NE))) (.region yR))))
def NF:Rg:=[iC 67 .add 20 1,iM 20 67]
def yQ:aC:=(sq XL (.seq (.cond (Tm 21) .skip (.exit 2)) (.seq (.block 3 (sq aDD (sq XM (sq XN (.block 4 (.loop yP)))))) (.region NF))))
def apZ:Rg:=[iM 16 4,iC 17 .add 16 1,iM 4 17]
def apX:aC:=(.seq (sq aDB (.cond (Tm 15) .skip (.exit 0))) (.seq (.block 1 (sq aDC (.block 2 (.loop yQ)))) (.region apZ)))
def aqA:Rg:=[iM 68 3,iA 69 (.call 98 [(Tm 68),(.const (.fn 103 []))]),iM 2 69]
def GK:aC:=(sq aCY (sq aCZ (.seq (sq aDA (.block 0 (.loop apX))) (sq aqA .ret))))
def bgF:List Nat:=[1]
def adJ:aW:=⟨1,70,GK,[.tmp 2]⟩
def aTA:Rg:=[iA 1 (.box true (Tm 0)),iT 2 false]
def aTB:Rg:=[iF 12 1 1,iL 13 12,iN 14 13,iM 3 14]
def aTC:Rg:=[iM 15 3,iA 16 (.call 104 [(Tm 15),(Ci 1),(Ci 4)]),iA 17 (.un .not (Tm 16)),iM 18 17,gF 19 3 1 18 false,gL 20 19 18 false,gN 21 20 18 false,gM 22 3 18 false,gB 23 .neq 21 22 18 false,iQ 24 18 23,iM 25 24,gF 26 2 1 25 false,gL 27 26 25 false,gN 28 27 25 false,gM 29 3 25 false,gB 30 .neq 28 29 25 false,iQ 31 25 30,iM 32 31,gF 33 1 1 32 false,gL 34 33 32 false,iG 35 (.call 99 [(Tm 34),(.const (.fn 105 []))]) 32 false,iG 36 (.un .not (Tm 35)) 32 false,iQ 37 32 36,iM 38 37,gF 39 3 1 38 false,gL 40 39 38 false,iG 41 (.call 99 [(Tm 40),(.const (.fn 105 []))]) 38 false,iG 42 (.un .not (Tm 41)) 38 false,iQ 43 38 42]
def wD:Rg:=[iT 2 false]
def aTD:Rg:=[iF 44 2 1,iL 45 44,iN 46 45,iI 47 0]
def aTE:Rg:=[iB 48 .lss 47 46]
def aTF:Rg:=[iM 49 47,iX 50 1 45 47,iL 51 50,iM 4 49,iM 5 51]
def aTG:Rg:=[iM 52 5,iN 53 52,iM 54 3,iB 55 .neq 53 54,iM 56 55,gM 57 5 56 false,iG 58 (.call 99 [(Tm 57),(.const (.fn 105 []))]) 56 false,iG 59 (.un .not (Tm 58)) 56 false,iQ 60 56 59,iM 61 60,gM 62 5 61 false,gM 63 4 61 false,iG 64 (.bIF 3 (Tm 62) (Tm 63)) 61 false,gO 65 3 64 61 false,gK 66 97 65 61 false,iQ 67 61 66]
def TA:Rg:=[iT 2 false]
def aTH:Rg:=[iC 68 .add 47 1,iM 47 68]
def aDG:aC:=(sq aTE (.seq (.cond (Tm 48) .skip (.exit 0)) (.seq (.block 1 (sq aTF (sq aTG (.cond (Tm 67) (sq TA .ret) .skip)))) (.region aTH))))
def XO:Rg:=[iF 70 1 1,iL 71 70,iK 72 117 71,iM 69 72,iE 73 69 0,iE 74 69 1,iA 6 (.alloc [(.bool false),.aB,.aB]),iS 3 6 73,iM 7 74]
def GL:Rg:=[iA 76 (.call 115 [(Ci 1),(Ci 1)]),iM 75 76,iE 77 75 0,iE 78 75 1,iA 8 (.alloc [(.bool false),.aB,.aB]),iS 3 8 77,iM 9 78]
def GM:Rg:=[iO 80 3 6,iO 81 3 8,iK2 82 114 80 81,iM 79 82,iE 83 79 0,iE 84 79 1,iM 10 83,iM 11 84]
def rZ:Rg:=[iM 85 7,iC 86 .eql 85 0,iM 87 86,gM 88 10 87 true,gC 89 .eql 88 0 87 true,iP 90 87 89,iM 91 90,gO 92 4 1 91 true,gK 93 102 92 91 true,iP 94 91 93,iM 2 94]
def NG:aC:=(sq aTA (sq aTB (.seq (sq aTC (.cond (Tm 43) (sq wD .ret) .skip)) (.seq (sq aTD (.block 0 (.loop aDG))) (sq XO (sq GL (sq GM (sq rZ .ret))))))))
def bmJ:List Nat:=[1]
def aDF:aW:=⟨1,95,NG,[.tmp 2]⟩
def aDS:Rg:=[iT 2 false]
def aDT:Rg:=[iA 6 (.bJG (false,[.str])),iM 3 6]
def aDU:Rg:=[iM 7 0,iN 8 7,iI 9 0]
def aDV:Rg:=[iB 10 .lss 9 8]
def aDW:Rg:=[iX 11 1 7 9,iL 12 11,iM 5 12]
def aDX:Rg:=[iM 13 5,iK 14 123 13,iA 15 (.un .not (Tm 14)),iM 16 15,gM 17 3 16 false,gM 18 5 16 false,iG 19 (.lookup (false,[.str]) (.bool false) (Tm 17) (Tm 18) false) 16 false,iQ 20 16 19]
def XQ:Rg:=[iT 2 false]
def aDY:Rg:=[iM 21 3,iM 22 5,⟨none,.bII (false,[.str]) (Tm 21) (Tm 22) (.const (.bool true)),none⟩]
def aDZ:Rg:=[iC 23 .add 9 1,iM 9 23]
def aDR:aC:=(sq aDV (.seq (.cond (Tm 10) .skip (.exit 0)) (.seq (.block 1 (sq aDW (.seq (sq aDX (.cond (Tm 20) (sq XQ .ret) .skip)) (.region aDY)))) (.region aDZ))))
def aqD:Rg:=[iT 2 true]
def GP:aC:=(sq aDS (sq aDT (.seq (sq aDU (.block 0 (.loop aDR))) (sq aqD .ret))))
def bgM:List Nat:=[]
def adO:aW:=⟨1,24,GP,[.tmp 2]⟩
def alU:Rg:=[iA 1 (.box true (Tm 0)),iT 2 false]
def alV:Rg:=[iF 6 3 1,iL 7 6,iN 8 7,iC 9 .eql 8 0]
def aSU:Rg:=[iT 2 false]
def aSV:Rg:=[iF 10 3 1,iL 11 10,iA 12 (.bIF 7 (Tm 11) (Ci 0)),iO 13 7 12,iA 3 (.alloc [(.str []),(.int .i64 0),(.int .i64 0),(.int .i64 0),(.bool false),.aB,.aB]),iS 7 3 13]
def wC:Rg:=[iF 14 0 3,iL 15 14,iA 16 (.bin .neq (Tm 15) (.const (.str []))),iM 17 16,gF 18 1 3 17 false,gL 19 18 17 false,gC 20 .neq 19 0 17 false,iQ 21 17 20,iM 22 21,gF 23 2 3 22 false,gL 24 23 22 false,gC 25 .neq 24 (-1) 22 false,iQ 26 22 25,iM 27 26,gF 28 3 3 27 false,gL 29 28 27 false,gC 30 .neq 29 0 27 false,iQ 31 27 30,iM 32 31,gF 33 4 3 32 false,gO 34 3 33 32 false,gK 35 105 34 32 false,iG 36 (.un .not (Tm 35)) 32 false,iQ 37 32 36,iM 38 37,gF 39 4 3 38 false,gO 40 3 39 38 false,gK 41 97 40 38 false,iQ 42 38 41]
def rY:Rg:=[iT 2 false]
def aSW:Rg:=[iF 43 3 1,iL 44 43,iA 45 (.slice 7 (Tm 44) (some (Ci 1)) none none),iN 46 45,iI 47 0]
def aSX:Rg:=[iB 48 .lss 47 46]
def aSY:Rg:=[iM 49 47,iX 50 7 45 47,iO 51 7 50,iA 5 (.alloc [(.str []),(.int .i64 0),(.int .i64 0),(.int .i64 0),(.bool false),.aB,.aB]),iM 4 49,iS 7 5 51]
def aSZ:Rd:=[(iF 52 2 5,false),(iL 53 52,false),(iM 54 4,false),(iA 55 (.call 104 [(Tm 53),(Ci 0),(Tm 54)]),true),(iA 56 (.un .not (Tm 55)),false),(iM 57 56,false),(gF 58 3 1 57 false,false),(gL 59 58 57 false,false),(gF 60 2 5 57 false,false),(gL 61 60 57 false,false),(iG 62 (.bIF 7 (Tm 59) (Tm 61)) 57 false,false),(gF 63 1 62 57 false,false),(gL 64 63 57 false,false),(gF 65 1 5 57 false,false),(gL 66 65 57 false,false),(gC 67 .sub 66 1 57 false,false),(gB 68 .neq 64 67 57 false,false),(iQ 69 57 68,false),(iM 70 69,false),(gF 71 1 5 70 false,false),(gL 72 71 70 false,false),(iG 73 (.call 104 [(Tm 72),(Ci 1),(Ci 4)]) 70 false,true),(iG 74 (.un .not (Tm 73)) 70 false,false),(iQ 75 70 74,false),(iM 76 75,false),(gF 77 3 5 76 false,false),(gL 78 77 76 false,false),(iG 79 (.call 104 [(Tm 78),(Ci 1),(Ci 64)]) 76 false,true),(iG 80 (.un .not (Tm 79)) 76 false,false),(iQ 81 76 80,false),(iM 82 81,false),(gF 83 4 5 82 false,false),(gO 84 3 83 82 false,false),(gK 85 105 84 82 false,true),(iG 86 (.un .not (Tm 85)) 82 false,false),(iQ 87 82 86,false)]
def rX:Rg:=[iT 2 false]
def aCW:Rg:=[iC 88 .add 47 1,iM 47 88]
def aCV:aC:=(sq aSX (.seq (.cond (Tm 48) .skip (.exit 0)) (.seq (.block 1 (sq aSY (dq aSZ (.cond (Tm 87) (sq rX .ret) .skip)))) (.region aCW))))
def aCX:Rg:=[iT 2 true]
def yO:aC:=(sq alU (.seq (sq alV (.cond (Tm 9) (sq aSU .ret) .skip)) (sq aSV (.seq (sq wC (.cond (Tm 42) (sq rY .ret) .skip)) (.seq (sq aSW (.block 0 (.loop aCV))) (sq aCX .ret))))))
def bmH:List Nat:=[1]
def alT:aW:=⟨1,89,yO,[.tmp 2]⟩
def aDJ:Rg:=[iT 2 false]
def aDK:Rg:=[iM 3 0,iA 4 (.call 104 [(Tm 3),(Ci 0),(Ci 8)]),iM 2 4]
def GN:aC:=(sq aDJ (sq aDK .ret))
def bgH:List Nat:=[]
def adM:aW:=⟨1,5,GN,[.tmp 2]⟩
def aTK:Rg:=[iA 7 (.box true (Tm 3)),iT 8 false]
def aTL:Rg:=[iM 9 0,iA 10 (.call 104 [(Tm 9),(Ci 1),(Ci 6)]),iA 11 (.un .not (Tm 10)),iM 12 11,gM 13 1 12 false,iG 14 (.call 104 [(Tm 13),(Ci 0),(Ci 4)]) 12 false,iG 15 (.un .not (Tm 14)) 12 false,iQ 16 12 15,iM 17 16,gM 18 0 17 false,gM 19 1 17 false,gB 20 .add 18 19 17 false,gC 21 .gtr 20 8 17 false,iQ 22 17 21,iM 23 22,gM 24 2 23 false,gM 25 0 23 false,gM 26 0 23 false,gM 27 1 23 false,gB 28 .add 26 27 23 false,iG 29 (.call 104 [(Tm 24),(Tm 25),(Tm 28)]) 23 false,iG 30 (.un .not (Tm 29)) 23 false,iQ 31 23 30,iM 32 31,iG 33 (.idxA 5 1 (Tm 7) (Ci 0)) 32 false,gL 34 33 32 false,gC 35 .neq 34 0 32 false,iQ 36 32 35]
def wE:Rg:=[iT 8 false]
def aTM:Rg:=[iA 37 (.sliceA 5 1 (Tm 7) none none none),iA 38 (.call 100 [(Tm 37),(.const (.fn 107 []))]),iM 8 38]
def NI:aC:=(sq aTK (.seq (sq aTL (.cond (Tm 36) (sq wE .ret) .skip)) (sq aTM .ret)))
def bmN:List Nat:=[7]
def aDI:aW:=⟨4,39,NI,[.tmp 8]⟩
def aqB:Rg:=[iA 1 (.box true (Tm 0)),iT 2 false]
def aqC:Rg:=[iO 3 3 1,iK 4 105 3,iM 5 4,gO 6 3 1 5 true,gK 7 97 6 5 true,iP 8 5 7,iM 2 8]
def AG:aC:=(sq aqB (sq aqC .ret))
def a8R:List Nat:=[1]
def NL:aW:=⟨1,9,AG,[.tmp 2]⟩
def aDP:Rg:=[iA 6 (.box true (Tm 2)),iA 7 (.box true (Tm 3)),iT 8 false]
def aDQ:Rg:=[iM 9 1,iN 10 9,iM 11 0,iA 12 (.bIL true (Tm 11) (Ci 1)),iB 13 .eql 10 12,iM 14 13,gM 15 1 14 true,iG 16 (.call 99 [(Tm 15),(.const (.fn 109 []))]) 14 true,iP 17 14 16,iM 18 17,gO 19 3 6 18 true,gK 20 105 19 18 true,iP 21 18 20,iM 22 21,gO 23 3 6 22 true,gK 24 101 23 22 true,iP 25 22 24,iM 26 25,gO 27 3 7 26 true,gK 28 105 27 26 true,iP 29 26 28,iM 8 29]
def GO:aC:=(sq aDP (sq aDQ .ret))
def bgJ:List Nat:=[6,7]
def adN:aW:=⟨4,30,GO,[.tmp 8]⟩
def aTQ:Rg:=[iA 2 (.box true (Tm 0)),iT 4 false]
def aTR:Rg:=[iF 8 1 2,iL 9 8,iF 10 2 2,iL 11 10,iF 12 3 2,iL 13 12,iF 14 4 2,iO 15 5 14,iA 16 (.call 106 [(Tm 9),(Tm 11),(Tm 13),(Tm 15)]),iA 17 (.un .not (Tm 16)),iM 18 17,gF 19 9 2 18 false,gL 20 19 18 false,gN 21 20 18 false,gC 22 .eql 21 0 18 false,iQ 23 18 22,iM 24 23,gF 25 2 2 24 false,gL 26 25 24 false,gF 27 10 2 24 false,gL 28 27 24 false,gF 29 11 2 24 false,gO 30 3 29 24 false,gF 31 14 2 24 false,gO 32 3 31 24 false,iG 33 (.call 108 [(Tm 26),(Tm 28),(Tm 30),(Tm 32)]) 24 false,iG 34 (.un .not (Tm 33)) 24 false,iQ 35 24 34]
def TC:Rg:=[iT 4 false]
def aTS:Rg:=[iM 36 1,iA 37 (.bHU 1 1 [(.bool false)] (Tm 36) (Tm 36)),iM 5 37]
def aTT:Rg:=[iF 38 9 2,iL 39 38,iN 40 39,iI 41 0]
def aTU:Rg:=[iB 42 .lss 41 40]
def aTV:Rg:=[iX 43 1 39 41,iL 44 43,iM 7 44]
def aTW:Rg:=[iM 45 7,iM 46 1,iC 47 .sub 46 1,iA 48 (.call 104 [(Tm 45),(Ci 0),(Tm 47)]),iA 49 (.un .not (Tm 48)),iM 50 49,gM 51 5 50 false,gM 52 7 50 false,iG 53 (.bIF 1 (Tm 51) (Tm 52)) 50 false,gL 54 53 50 false,iQ 55 50 54]
def alX:Rg:=[iT 4 false]
def aTX:Rg:=[iM 56 5,iM 57 7,iX 58 1 56 57,⟨none,.store 1 (Tm 58) (.const (.bool true)),none⟩]
def aDN:Rg:=[iC 59 .add 41 1,iM 41 59]
def aDM:aC:=(sq aTU (.seq (.cond (Tm 42) .skip (.exit 0)) (.seq (.block 1 (sq aTV (.seq (sq aTW (.cond (Tm 55) (sq alX .ret) .skip)) (.region aTX)))) (.region aDN))))
def aDO:Rg:=[iT 4 true]
def NK:aC:=(sq aTQ (.seq (sq aTR (.cond (Tm 35) (sq TC .ret) .skip)) (sq aTS (.seq (sq aTT (.block 0 (.loop aDM))) (sq aDO .ret)))))
def bmR:List Nat:=[2]
def aDL:aW:=⟨2,60,NK,[.tmp 4]⟩
def aTY:Rg:=[iA 1 (.box true (Tm 0)),iI 2 0]
def aTZ:Rg:=[iF 21 0 1,iL 22 21,iA 23 (.call 104 [(Tm 22),(Ci 1),(Ci 4)]),iA 24 (.un .not (Tm 23)),iM 25 24,gF 26 1 1 25 false,gL 27 26 25 false,gN 28 27 25 false,gC 29 .gtr 28 4 25 false,iQ 30 25 29,iM 31 30,gF 32 2 1 31 false,gL 33 32 31 false,gN 34 33 31 false,gC 35 .gtr 34 4 31 false,iQ 36 31 35,iM 37 36,gF 38 3 1 37 false,gL 39 38 37 false,gN 40 39 37 false,gC 41 .gtr 40 40 37 false,iQ 42 37 41,iM 43 42,gF 44 4 1 43 false,gL 45 44 43 false,gN 46 45 43 false,gC 47 .gtr 46 24 43 false,iQ 48 43 47,iM 49 48,gF 50 5 1 49 false,gL 51 50 49 false,gN 52 51 49 false,gC 53 .gtr 52 4 49 false,iQ 54 49 53,iM 55 54,gF 56 6 1 55 false,gL 57 56 55 false,gN 58 57 55 false,gC 59 .gtr 58 12 55 false,iQ 60 55 59,iM 61 60,gO 62 7 1 61 false,gK 63 111 62 61 false,iG 64 (.un .not (Tm 63)) 61 false,iQ 65 61 64]
def oE:Rg:=[iI 2 1]
def aUA:Rg:=[iZ 3,iZ 4,iZ 5,iZ 6,iZ 7]
def aUB:Rg:=[iT 8 true]
def alY:Rg:=[iF 66 1 1,iL 67 66,iN 68 67,iI 69 0]
def aUC:Rg:=[iB 70 .lss 69 68]
def aUD:Rg:=[iX 71 4 67 69,iO 72 4 71,iA 10 (.alloc [(.str []),.aB,.aB,.aB]),iS 4 10 72]
def aUE:Rg:=[iM 73 3,iF 74 0 10,iL 75 74,iA 76 (.bHQ true 1 1 [(.str [])] [(0,(Tm 75))]),iA 77 (.append 1 16 (Tm 73) (Tm 76)),iM 3 77]
def alZ:Rg:=[iM 78 8,iM 79 78,gO 80 4 10 79 true,gK 81 95 80 79 true,iP 82 79 81,iM 8 82]
def XR:Rg:=[iC 83 .add 69 1,iM 69 83]
def GQ:aC:=(sq aUC (.seq (.cond (Tm 70) .skip (.exit 0)) (.seq (.block 1 (sq aUD (sq aUE (.region alZ)))) (.region XR))))
def XS:Rg:=[iF 84 2 1,iL 85 84,iN 86 85,iI 87 0]
def aEB:Rg:=[iB 88 .lss 87 86]
def aEC:Rg:=[iX 89 4 85 87,iO 90 4 89,iA 12 (.alloc [(.str []),(.int .i64 0),(.int .i64 0),(.int .i64 0)]),iS 4 12 90]
def aED:Rg:=[iM 91 4,iF 92 0 12,iL 93 92,iA 94 (.bHQ true 1 1 [(.str [])] [(0,(Tm 93))]),iA 95 (.append 1 16 (Tm 91) (Tm 94)),iM 4 95]
def XT:Rg:=[iM 96 8,iM 97 96,gF 98 1 12 97 true,gL 99 98 97 true,iG 100 (.call 104 [(Tm 99),(Ci 1),(Ci 16)]) 97 true,iP 101 97 100,iM 102 101,gF 103 2 12 102 true,gL 104 103 102 true,iG 105 (.call 104 [(Tm 104),(Ci 1),(Ci 64)]) 102 true,iP 106 102 105,iM 107 106,gF 108 3 12 107 true,gL 109 108 107 true,gF 110 1 1 107 true,gL 111 110 107 true,gN 112 111 107 true,gC 113 .sub 112 1 107 true,iG 114 (.call 104 [(Tm 109),(Ci 0),(Tm 113)]) 107 true,iP 115 107 114,iM 8 115]
def xD:Rg:=[iC 116 .add 87 1,iM 87 116]
def GR:aC:=(sq aEB (.seq (.cond (Tm 88) .skip (.exit 2)) (.seq (.block 3 (sq aEC (sq aED (.region XT)))) (.region xD))))
def XU:Rg:=[iF 117 3 1,iL 118 117,iA 119 (.slice 7 (Tm 118) (some (Ci 1)) none none),iN 120 119,iI 121 0]
def aEE:Rg:=[iB 122 .lss 121 120]
def aEF:Rg:=[iX 123 7 119 121,iO 124 7 123,iA 14 (.alloc [(.str []),(.int .i64 0),(.int .i64 0),(.int .i64 0),(.bool false),.aB,.aB]),iS 7 14 124]
def aEG:Rg:=[iM 125 5,iF 126 0 14,iL 127 126,iA 128 (.bHQ true 1 1 [(.str [])] [(0,(Tm 127))]),iA 129 (.append 1 16 (Tm 125) (Tm 128)),iM 5 129]
def aEH:Rg:=[iC 130 .add 121 1,iM 121 130]
def GT:aC:=(sq aEE (.seq (.cond (Tm 122) .skip (.exit 4)) (.seq (.block 5 (sq aEF (.region aEG))) (.region aEH))))
def XV:Rg:=[iF 131 4 1,iL 132 131,iN 133 132,iI 134 0]
def aEI:Rg:=[iB 135 .lss 134 133]
def aEJ:Rg:=[iX 136 3 132 134,iO 137 3 136,iA 16 (.alloc [(.str []),(.int .i64 0),(.int .i64 0)]),iS 3 16 137]
def aEK:Rg:=[iM 138 5,iF 139 0 16,iL 140 139,iA 141 (.bHQ true 1 1 [(.str [])] [(0,(Tm 140))]),iA 142 (.append 1 16 (Tm 138) (Tm 141)),iM 5 142]
def XW:Rg:=[iM 143 8,iM 144 143,gF 145 1 16 144 true,gL 146 145 144 true,gF 147 2 1 144 true,gL 148 147 144 true,gN 149 148 144 true,gC 150 .sub 149 1 144 true,iG 151 (.call 104 [(Tm 146),(Ci 0),(Tm 150)]) 144 true,iP 152 144 151,iM 153 152,gF 154 2 16 153 true,gL 155 154 153 true,gF 156 3 1 153 true,gL 157 156 153 true,gN 158 157 153 true,gC 159 .sub 158 1 153 true,iG 160 (.call 104 [(Tm 155),(Ci 0),(Tm 159)]) 153 true,iP 161 153 160,iM 162 161,gF 163 3 1 162 true,gL 164 163 162 true,gF 165 2 16 162 true,gL 166 165 162 true,iG 167 (.bIF 7 (Tm 164) (Tm 166)) 162 true,gF 168 1 167 162 true,gL 169 168 162 true,gC 170 .eql 169 4 162 true,iP 171 162 170,iM 8 171]
def sA:Rg:=[iC 172 .add 134 1,iM 134 172]
def GU:aC:=(sq aEI (.seq (.cond (Tm 135) .skip (.exit 6)) (.seq (.block 7 (sq aEJ (sq aEK (.region XW)))) (.region sA))))
def XY:Rg:=[iF 173 5 1,iL 174 173,iN 175 174,iI 176 0]
def aEL:Rg:=[iB 177 .lss 176 175]
def aEM:Rg:=[iX 178 17 174 176,iO 179 17 178,iA 18 (.alloc [(.str []),(.int .i64 0),(.int .i64 0),(.int .i64 0),(.int .i64 0),(.int .i64 0),(.int .i64 0),(.int .i64 0),(.int .i64 0),.aB,.aB,(.bool false),.aB,.aB,(.bool false),.aB,.aB]),iS 17 18 179]
def aEN:Rg:=[iM 180 6,iF 181 0 18,iL 182 181,iA 183 (.bHQ true 1 1 [(.str [])] [(0,(Tm 182))]),iA 184 (.append 1 16 (Tm 180) (Tm 183)),iM 6 184]
def XZ:Rg:=[iM 185 8,iM 186 185,gO 187 17 18 186 true,gF 188 2 1 186 true,gL 189 188 186 true,gN 190 189 186 true,gK2 191 112 187 190 186 true,iP 192 186 191,iM 8 192]
def YA:Rg:=[iC 193 .add 176 1,iM 176 193]
def GW:aC:=(sq aEL (.seq (.cond (Tm 177) .skip (.exit 8)) (.seq (.block 9 (sq aEM (sq aEN (.region XZ)))) (.region YA))))
def YB:Rg:=[iF 194 6 1,iL 195 194,iN 196 195,iI 197 0]
def aEO:Rg:=[iB 198 .lss 197 196]
def aEP:Rg:=[iX 199 2 195 197,iO 200 2 199,iA 20 (.alloc [(.str []),(.int .i64 0)]),iS 2 20 200]
def aEQ:Rg:=[iM 201 7,iF 202 0 20,iL 203 202,iA 204 (.bHQ true 1 1 [(.str [])] [(0,(Tm 203))]),iA 205 (.append 1 16 (Tm 201) (Tm 204)),iM 7 205]
def YC:Rg:=[iM 206 8,iM 207 206,gF 208 1 20 207 true,gL 209 208 207 true,gF 210 5 1 207 true,gL 211 210 207 true,gN 212 211 207 true,gC 213 .sub 212 1 207 true,iG 214 (.call 104 [(Tm 209),(Ci 0),(Tm 213)]) 207 true,iP 215 207 214,iM 8 215]
def YD:Rg:=[iC 216 .add 197 1,iM 197 216]
def GX:aC:=(sq aEO (.seq (.cond (Tm 198) .skip (.exit 10)) (.seq (.block 11 (sq aEP (sq aEQ (.region YC)))) (.region YD))))
def xE:Rg:=[iM 217 8,iA 218 (.un .not (Tm 217)),iM 219 218,gM 220 3 219 false,gK 221 110 220 219 false,iG 222 (.un .not (Tm 221)) 219 false,iQ 223 219 222,iM 224 223,gM 225 4 224 false,gK 226 110 225 224 false,iG 227 (.un .not (Tm 226)) 224 false,iQ 228 224 227,iM 229 228,gM 230 5 229 false,gK 231 110 230 229 false,iG 232 (.un .not (Tm 231)) 229 false,iQ 233 229 232,iM 234 233,gM 235 6 234 false,gK 236 110 235 234 false,iG 237 (.un .not (Tm 236)) 234 false,iQ 238 234 237,iM 239 238,gM 240 7 239 false,gK 241 110 240 239 false,iG 242 (.un .not (Tm 241)) 239 false,iQ 243 239 242]
def mF:Rg:=[iI 2 1]
def GY:Rg:=[iI 2 0]
def NM:aC:=(sq aTY (.seq (sq aTZ (.cond (Tm 65) (sq oE .ret) .skip)) (sq aUA (sq aUB (.seq (sq alY (.block 0 (.loop GQ))) (.seq (sq XS (.block 2 (.loop GR))) (.seq (sq XU (.block 4 (.loop GT))) (.seq (sq XV (.block 6 (.loop GU))) (.seq (sq XY (.block 8 (.loop GW))) (.seq (sq YB (.block 10 (.loop GX))) (.seq (sq xE (.cond (Tm 243) (sq mF .ret) .skip)) (sq GY .ret))))))))))))
def bmT:List Nat:=[1,76,94,128,141,183,204]
def aEA:aW:=⟨1,244,NM,[.tmp 2]⟩
@[go_sem] theorem buN (a b:List UInt8):LP .eql a b=some (.bool (a==b)):=(rfl)
@[go_sem] theorem buO (a b:List UInt8):LP .neq a b=some (.bool !(a==b)):=(rfl)
@[go_sem] theorem buM (a b:List UInt8):LP .add a b=if ((a.length+b.length:Nat):Int)>9223372036854775807 then none else some (.str (a++b)):=(rfl)
@[go_sem] theorem bqP:(([]:List UInt8)==[])=true:=(rfl)
@[go_sem] theorem blH (c:UInt8) (t:List UInt8):((c::t)==[])=false:=(rfl)
theorem nU {a b:List UInt8} (h:a=b):(a==b)=true:=by simp[h]
theorem aaT {a b:List UInt8} (h:a≠b):(a==b)=false:=by simp[h]
section
variable {C:Ctx} {F:PF} {H:PH}
theorem pD {name o s:Nat} {rs:List (List PV)} {vs:List PV} {v:PV} {args:List aP} {d:Option Nat} {K:PF→PH→Prop} (h:aD C name vs .nil (aE v)) (ho:H o=some (.rows s rs))
  (ha:aP.evs (F.frz o s rs) args=some vs) (hK:K ((F.frz o s rs).put d v) (H.frz o s rs)):fW C name args [] d K F H:=by
 refine .inr ⟨_,_,.step o ho (.refl _ _),vs,.nil,aE v,?_,PH.nil_le,h,?_⟩
 ·rw[ha]; simp
 ·rintro r H' ⟨rfl,rfl⟩ -
  rw[PH.lC]
  exact hK
theorem jC.trans {F1 F2 F3:PF} {H1 H2 H3:PH} (h:jC F1 H1 F2 H2) (k:jC F2 H2 F3 H3):jC F1 H1 F3 H3:=by
 induction h with
 | refl=>exact k
 | step o ho h ih=>exact .step o ho (ih k)
theorem oQ {c:aC} {K:cQ} {s:Nat} {v:PV} {rows:List (List PV)} (ho:bK H s v rows)
  (h:∀ v1,Seen s v1 rows→∀ F1 H1,(∀ t,F t=some v→F1 t=some v1)→(∀ i u,F i=some u→Pure u→F1 i=some u)→aC.wp C (.loop c) K F1 H1):aC.wp C (.loop c) K F H:=by
 obtain⟨v1,hs,hf⟩:=ho.frz
 obtain⟨F1,H1,hz,h1,h2⟩:=hf F
 obtain⟨α,Fs,Hs,Pr,m,a0,F2,H2,hz2,rest⟩:=h v1 hs F1 H1 h1 h2
 exact⟨α,Fs,Hs,Pr,m,a0,F2,H2,hz.trans hz2,rest⟩
theorem aD.a4Z {name s:Nat} {v:PV} {rows:List (List PV)} {H0:PH} {R:PV→PH→Prop} (h:aD C name [.sl s rows] H0 R) (hs:Seen s v rows):aD C name [v] H0 R:=by
 rcases hs with ⟨rfl,rfl⟩ | rfl
 ·refine h.args ⟨rfl,fun j p q hp hq=>?_⟩
  cases j with
  | zero=>simp at hp hq; subst hp; subst hq; exact .nil s
  | succ j=>simp at hp
 ·exact h
theorem bK.fresh {s:Nat} {v:PV} {rows:List (List PV)} {o:Nat} (h:bK H s v rows) (ho:H o=none) (x:cT):bK (H.set o x) s v rows∧∀ l,v≠.osl o s 0 l:=by
 refine⟨h.ext fun q y hq=>?_,fun l e=>?_⟩
 ·have:q≠o:=by rintro rfl; rw[ho] at hq; cases hq
  simp only[bM,if_neg this,hq]
 ·rcases h with ⟨_,h2⟩ | ⟨q,rs,h1,h2,_⟩
  ·rw[h2] at e; cases e
  ·rw[h1] at e
   injection e with e1
   subst e1
   rw[ho] at h2; cases h2
theorem lL {s b:Nat} {v:PV} {rows:List (List PV)} {r:List PV} {o:Nat} {x:cT} {K:PV→PH→Prop} (h:bK H s v rows) (ho:H o=none) (hr:roomFor rows.length 1 b)
  (hk:∀ v' H',bK H' s v' (rows++[r])→H' o=some x→K v' H'):lF (H.set o x) s b v (.sl s [r]) K:=by
 obtain⟨h1,h2⟩:=h.fresh ho x
 refine gG (src:=[r]) h1 (by simp[dN]) hr fun v' H' hO hp=>hk v' H' hO (hp o x (by simp only[bM,if_true]) h2)
theorem oA {o s k:Nat} {rs:List (List PV)} (hk:k≤rs.length):PV.frz o s rs (.osl o s 0 k)=.sl s (rs.take k):=by
 have:0+k≤rs.length:=by omega
 simp only[PV.frz,PV.rW,PV.dE,if_true,true_and,if_pos this,bKQ]
end
open Go Go.Na
def eX (n:Nat):Bool:=decide (97≤n)&&decide (n≤122)||decide (65≤n)&&decide (n≤90)
def kR (n:Nat):Bool:=decide (48≤n)&&decide (n≤57)
def fN (n:Nat):Bool:=eX n||kR n||decide (n=45)||decide (n=46)
theorem a3H {C:Ctx} (n:Nat):kD.wp C (aU wH.res (aE (.bool (eX n)))) (PF.args [.int .u8 n]) .nil:=by
 have fin:∀ (F:PF) (b:Bool),F 2=some (.bool b)→b=eX n→aU wH.res (aE (.bool (eX n))) .ret F .nil:=by
  intro F b h e
  subst e
  refine aL (.inr rfl) (vs:=[.bool (eX n)]) (by simp only[go_sem,wH,h]) rfl
 unfold eX at *
 by_cases a:97≤n
 ·have a':(n:Int)≥97:=by omega
  by_cases b:n≤122
  ·have b':(n:Int)≤122:=by omega
   simp only[go_sem,γ,reduceCtorEq,kD,oG,oH,a',b']
   exact fin _ _ rfl (by simp[a,b])
  ·have b':¬ (n:Int)≤122:=by omega
   by_cases c:65≤n
   ·have c':(n:Int)≥65:=by omega
    have d:¬ (n:Int)≤90:=by omega
    simp only[go_sem,γ,reduceCtorEq,kD,oG,oH,a',b',c',d]
    exact fin _ _ rfl (by simp[a,b,c]; omega)
   ·omega
 ·have a':¬ (n:Int)≥97:=by omega
  by_cases c:65≤n
  ·have c':(n:Int)≥65:=by omega
   by_cases d:n≤90
   ·have d':(n:Int)≤90:=by omega
    simp only[go_sem,γ,reduceCtorEq,kD,oG,oH,a',c',d']
    exact fin _ _ rfl (by simp[a,c,d])
   ·have d':¬ (n:Int)≤90:=by omega
    simp only[go_sem,γ,reduceCtorEq,kD,oG,oH,a',c',d']
    exact fin _ _ rfl (by simp[a,c,d])
  ·have c':¬ (n:Int)≥65:=by omega
   simp only[go_sem,γ,reduceCtorEq,kD,oG,oH,a',c']
   exact fin _ _ rfl (by simp[a,c])
theorem a8Y {C:Ctx} (n:Nat):oY.wp C (aU DE.res (aE (.bool (kR n)))) (PF.args [.int .u8 n]) .nil:=by
 have fin:∀ (F:PF) (b:Bool),F 2=some (.bool b)→b=kR n→aU DE.res (aE (.bool (kR n))) .ret F .nil:=by
  intro F b h e
  subst e
  refine aL (.inr rfl) (vs:=[.bool (kR n)]) (by simp only[go_sem,DE,h]) rfl
 unfold kR at *
 by_cases a:48≤n
 ·have a':(n:Int)≥48:=by omega
  by_cases b:n≤57
  ·have b':(n:Int)≤57:=by omega
   simp only[go_sem,γ,reduceCtorEq,oY,yT,yU,a',b']
   exact fin _ _ rfl (by simp[a,b])
  ·have b':¬ (n:Int)≤57:=by omega
   simp only[go_sem,γ,reduceCtorEq,oY,yT,yU,a',b']
   exact fin _ _ rfl (by simp[a,b])
 ·have a':¬ (n:Int)≥48:=by omega
  simp only[go_sem,γ,reduceCtorEq,oY,yT,yU,a']
  exact fin _ _ rfl (by simp[a])
theorem a9B {C:Ctx} (h1:∀ n:Nat,aD C 126 [.int .u8 n] .nil (aE (.bool (eX n)))) (h2:∀ n:Nat,aD C 124 [.int .u8 n] .nil (aE (.bool (kR n)))) (n:Nat) :
  AH.wp C (aU DF.res (aE (.bool (fN n)))) (PF.args [.int .u8 n]) .nil:=by
 have fin:∀ (F:PF) (b:Bool),F 2=some (.bool b)→b=fN n→aU DF.res (aE (.bool (fN n))) .ret F .nil:=by
  intro F b h e
  subst e
  refine aL (.inr rfl) (vs:=[.bool (fN n)]) (by simp only[go_sem,DF,h]) rfl
 simp only[go_sem,reduceCtorEq,AH,aqL,aqM]
 refine aA (h1 n) rfl ?_
 cases hl:eX n with
 | true =>
  simp only[go_sem,γ]
  exact fin _ _ rfl (by simp[fN,hl])
 | false =>
  simp only[go_sem,γ,reduceCtorEq]
  refine aA (h2 n) rfl ?_
  cases hd:kR n with
  | true =>
   simp only[go_sem,γ,reduceCtorEq]
   exact fin _ _ rfl (by simp[fN,hd])
  | false =>
   by_cases c:n=45
   ·simp only[go_sem,γ,reduceCtorEq,bX (Om:(n:Int)=45)]
    exact fin _ _ rfl (by simp[fN,c])
   ·by_cases d:n=46
    ·simp only[go_sem,γ,reduceCtorEq,bG (Om:(n:Int)≠45),bX (Om:(n:Int)=46)]
     exact fin _ _ rfl (by simp[fN,d])
    ·simp only[go_sem,γ,reduceCtorEq,bG (Om:(n:Int)≠45),bG (Om:(n:Int)≠46)]
     exact fin _ _ rfl (by simp[fN,c,d,hl,hd])
def isName (s:List UInt8):Bool:=match s with
 | []=>false
 | c::_=>decide (s.length≤16)&&eX c.toNat&&s.all fun c=>fN c.toNat
theorem nD {α:Type} {p:α→Bool} {l:List α} {k:Nat} (hk:k<l.length) (h:(l.take k).all p=true) (hp:p l[k]=true):(l.take (k+1)).all p=true:=by
 rw[bLL hk,List.all_append,h]; simp[hp]
theorem nE {α:Type} {p:α→Bool} {l:List α} {k:Nat} (hk:k<l.length) (hp:p l[k]=false):l.all p=false:=by
 rw[List.all_eq_false]
 exact⟨l[k],bJS hk,by simp[hp]⟩
def aEZ (s:List UInt8) (k:Nat):PF:=((PF.nil.set 0 (.str s)).set 3 (.int .i64 k))
theorem bgZ {C:Ctx} (h1:∀ n:Nat,aD C 126 [.int .u8 n] .nil (aE (.bool (eX n)))) (h2:∀ n:Nat,aD C 125 [.int .u8 n] .nil (aE (.bool (fN n)))) (s:List UInt8) :
  qZ.wp C (aU TE.res (aE (.bool (isName s)))) (PF.args [.str s]) .nil:=by
 have fin:∀ (F:PF) (b:Bool),F 2=some (.bool b)→b=isName s→aU TE.res (aE (.bool (isName s))) .ret F .nil:=by
  intro F b h e
  subst e
  refine aL (.inr rfl) (vs:=[.bool (isName s)]) (by simp only[go_sem,TE,h]) rfl
 cases s with
 | nil =>
  simp only[go_sem,γ,reduceCtorEq,qZ,HC,HD,HE]
  exact fin _ _ rfl rfl
 | cons c t =>
  have hz:(c::t)[0]?=some c:=rfl
  have hne:(c::t==[])=false:=rfl
  have hN:isName (c::t)=(decide ((c::t).length≤16)&&eX c.toNat&&(c::t).all fun c=>fN c.toNat):=rfl
  generalize c::t=s at *
  by_cases hl:s.length≤16
  ·have hl':¬ ((s.length:Nat):Int)>16:=by omega
   rw[decide_eq_true hl,bKA] at hN
   simp only[go_sem,ν,γ,reduceCtorEq,qZ,HC,HD,hne,hl',hz,bKX]
   refine aA (h1 c.toNat) rfl ?_
   cases hc:eX c.toNat with
   | false =>
    simp only[go_sem,γ,reduceCtorEq,bKD,HE]
    exact fin _ _ rfl (by rw[hN,hc]; rfl)
   | true =>
    rw[hc,bKA] at hN
    simp only[go_sem,γ,reduceCtorEq,bJV,aFB]
    refine wp_loop (α:=Nat) (fun k=>aEZ s k) (fun _=>.nil) (fun k=>k≤s.length∧(s.take k).all (fun c=>fN c.toNat)=true) (fun k=>s.length-k) 0 ⟨bJY _,rfl⟩ ?_ PH.nil_le ?_
    ·unfold aEZ
     exact Lq
    rintro k ⟨hk,ha⟩
    simp only[go_sem,γ,reduceCtorEq,aFA,aFC,aEZ]
    by_cases hlt:k<s.length
    ·have bHR:(k:Int)<(s.length:Nat):=by omega
     have hg:s[k]?=some s[k]:=bJZ hlt
     simp only[go_sem,γ,reduceCtorEq,bHR,aFD,hg,bKX]
     refine aA (h2 (s[k]).toNat) rfl ?_
     cases hi:fN (s[k]).toNat with
     | false =>
      simp only[go_sem,γ,reduceCtorEq,bKD,aFE]
      refine fin _ false rfl ?_
      rw[hN,nE hlt hi]
     | true =>
      simp only[go_sem,γ,reduceCtorEq,bJV,aFF,wZz k]
      refine aG (k+1) ⟨hlt,bKK.1 (nD hlt ha hi)⟩ Om ?_ PH.nil_le
      exact Lq
    ·have bHR:¬ (k:Int)<(s.length:Nat):=by omega
     simp only[go_sem,bHR,aFG]
     have:k=s.length:=by omega
     subst this
     rw[bKF (bJQ _)] at ha
     exact fin _ true rfl (by rw[hN,ha])
  ·have hl':((s.length:Nat):Int)>16:=by omega
   simp only[go_sem,γ,reduceCtorEq,qZ,HC,HD,HE,hne,hl']
   exact fin _ _ rfl (by rw[hN,decide_eq_false hl]; rfl)
abbrev cW (x:Int):Prop:=-9223372036854775808≤x∧x≤9223372036854775807
structure cN where
 name:List UInt8
 start:List RF
 bHP:List (List RF)
 exit:List RF
structure cV where
 name:List UInt8
 bIE:Int
 port:Int
 law:Int
structure bR where
 name:List UInt8
 level:Int
 parent:Int
 bIK:Int
 bIC:RF
structure cG where
 name:List UInt8
 model:Int
 machine:Int
structure dB where
 name:List UInt8
 k:Int
 m:Int
 bIO:Int
 s0:Int
 s1:Int
 s2:Int
 s3:Int
 s4:Int
 bHL:List Int
 repair:List RF
 target:RF
 bHW:RF
structure eG where
 name:List UInt8
 bHY:Int
structure aJ where
 bIY:Int
 bHT:List cN
 bHL:List cV
 bHN:List bR
 bHK:List cG
 bHO:List dB
 bHM:List eG
abbrev a4W (l:List (List RF)):PV:=.sl 1 (l.map fun r=>[frs r])
abbrev cN.cells (x:cN):List PV:=[.str x.name,frs x.start,a4W x.bHP,frs x.exit]
abbrev cV.cells (x:cV):List PV:=[.str x.name,.int .i64 x.bIE,.int .i64 x.port,.int .i64 x.law]
abbrev bR.cells (x:bR):List PV:=[.str x.name,.int .i64 x.level,.int .i64 x.parent,.int .i64 x.bIK,.bool x.bIC.neg,aF x.bIC.num,aF x.bIC.den]
abbrev cG.cells (x:cG):List PV:=[.str x.name,.int .i64 x.model,.int .i64 x.machine]
abbrev dB.cells (x:dB):List PV:=[.str x.name,.int .i64 x.k,.int .i64 x.m,.int .i64 x.bIO,.int .i64 x.s0,.int .i64 x.s1,.int .i64 x.s2,.int .i64 x.s3,.int .i64 x.s4,ints x.bHL,frs x.repair,
 .bool x.target.neg,aF x.target.num,aF x.target.den,.bool x.bHW.neg,aF x.bHW.num,aF x.bHW.den]
abbrev eG.cells (x:eG):List PV:=[.str x.name,.int .i64 x.bHY]
abbrev aJ.cells (f:aJ):List PV:=[.int .i64 f.bIY,.sl 4 (f.bHT.map cN.cells),.sl 4 (f.bHL.map cV.cells),.sl 7 (f.bHN.map bR.cells),.sl 3 (f.bHK.map cG.cells),.sl 17 (f.bHO.map dB.cells),.sl 2 (f.bHM.map eG.cells)]
def dB.spread (p:dB) (level:Nat):Int:=match level with
 | 0=>p.s0
 | 1=>p.s1
 | 2=>p.s2
 | 3=>p.s3
 | _=>p.s4
abbrev Fits {α:Type} (l:List α):Prop:=l.length≤9223372036854775807
structure jJ (l:List RF):Prop where
 fits:Fits l
 all:∀ x∈l,x.Ok
structure cN.Ok (x:cN):Prop where
 start:jJ x.start
 exit:jJ x.exit
 bHP:Fits x.bHP
 row:∀ r∈x.bHP,jJ r
structure dB.Ok (x:dB):Prop where
 k:cW x.k
 m:cW x.m
 bIO:cW x.bIO
 bHL:Fits x.bHL
 each:∀ m∈x.bHL,cW m
 repair:jJ x.repair
 target:x.target.Ok
 bHW:x.bHW.Ok
structure aJ.Ok (f:aJ):Prop where
 bHT:Fits f.bHT
 bHL:Fits f.bHL
 bHN:Fits f.bHN
 bHK:Fits f.bHK
 bHO:Fits f.bHO
 bHM:Fits f.bHM
 law:∀ x∈f.bHT,x.Ok
 dom:∀ x∈f.bHN,x.bIC.Ok∧cW x.level∧cW x.parent
 drive:∀ x∈f.bHK,cW x.model∧cW x.machine
 bHY:∀ x∈f.bHO,x.Ok
 volume:∀ x∈f.bHM,cW x.bHY
def mR (x:RF):FR:=if cP (val x.num) (val x.den) then gS x.neg (val x.num) (val x.den) else .error 1
theorem a4P (x:RF):TG x.neg (val x.num) (val x.den)=frV (mR x):=by
 unfold TG mR
 split
 ·exact amH _ _ _
 ·rfl
def cJ (x:RF):Bool:=match mR x with
 | .ok (n,a,b)=>!n&&(decide (cD a≤32)&&decide (cD b≤32))
 | .error _=>false
def cB (x:RF):Bool:=decide (val x.num≠0)
def sF (x:RF):Bool:=cP (val x.num) (val x.den)&&decide (pO x.neg (val x.num) (val x.den) false 1 1≤0)
def within (n lo hi:Int):Bool:=decide (lo≤n)&&decide (n≤hi)
def cS (R:List Bool) (i:Nat) (row:List RF):Nat→List Bool
 | 0=>R
 | k+1=>let R':=cS R i row k
  R'.set i (R'.getD i false||(row.map cB).getD k false&&R'.getD k false)
def xO (l:cN) (R:List Bool) (i:Nat):List Bool :=
 cS (R.set i (R.getD i false||(l.exit.map cB).getD i false)) i (l.bHP.getD i []) (l.bHP.getD i []).length
def cZ (l:cN) (R:List Bool):Nat→List Bool
 | 0=>R
 | i+1=>xO l (cZ l R i) i
def dJ (l:cN):Nat→List Bool
 | 0=>bJR l.exit.length false
 | r+1=>cZ l (dJ l r) l.exit.length
def uR (l:cN):Bool:=(dJ l (l.exit.length+1)).all id
def kC (l:cN):Bool :=
 within l.start.length 1 4&&decide (l.exit.length=l.start.length)&&decide (l.bHP.length=l.start.length)&&l.start.all cJ&&l.exit.all cJ
 && (bJP l.bHP.length).all (fun i=>decide ((l.bHP.getD i []).length=l.start.length)&&(l.bHP.getD i []).all cJ&&!((l.bHP.getD i []).map cB).getD i false)
 && (match nP (l.start.map RF.v) with
  | .ok (n,a,b)=>decide (pO n a b false 1 1=0)
  | .error _=>false)&&uR l
def distinct (l:List (List UInt8)):Bool:=(bJP l.length).all fun i=>isName (l.getD i [])&&!(l.take i).contains (l.getD i [])
def FW (f:aJ) (i:Nat) (d:bR):Bool :=
 within d.parent 0 i&&decide ((f.bHN.map bR.level).getD d.parent.toNat 0=IntKind.i64.wrap (d.level-1))&&within d.level 1 4&&within d.bIK 1 64&&cJ d.bIC
def yI (f:aJ) (r:bR) (t:List bR):Bool :=
 decide (r.name=[])&&decide (r.level=0)&&decide (r.parent=-1)&&decide (r.bIK=0)&&cJ r.bIC&&!cB r.bIC
  && (bJP t.length).all fun i=>match t[i]? with
   | some d=>FW f i d
   | none=>false
def mV (f:aJ):Bool:=match f.bHN with
 | []=>false
 | r::t=>yI f r t
def HR (p:dB):Bool :=
 within p.k 1 6&&within p.m 0 4&&decide (p.k+p.m≤8)&&within p.bIO p.k (p.k+p.m)&&decide (p.s0=0)&&([p.s0,p.s1,p.s2,p.s3,p.s4].all fun n=>within n 0 8)
def yZ (p:dB):Bool :=
 decide ((p.repair.length:Int)=max p.m 1)&&(p.repair.all fun x=>cJ x&&cB x)&&cJ p.target&&sF p.target&&cJ p.bHW
def jD (bHL:Nat) (p:dB):Bool :=
 HR p&&decide (p.bHL.length≠0)&&yZ p&&(bJP p.bHL.length).all fun j=>within (p.bHL.getD j 0) 0 ((bHL:Int)-1)&&!(p.bHL.take j).contains (p.bHL.getD j 0)
def jI (f:aJ) (m:cV):Bool:=within m.bIE 1 16&&within m.port 1 64&&within m.law 0 ((f.bHT.length:Int)-1)
def gT (f:aJ) (d:cG):Bool:=within d.model 0 ((f.bHL.length:Int)-1)&&within d.machine 0 ((f.bHN.length:Int)-1)&&decide ((f.bHN.map bR.level).getD d.machine.toNat 0=4)
def mS (f:aJ) (v:eG):Bool:=within v.bHY 0 ((f.bHO.length:Int)-1)
def lT (f:aJ):Bool:=within f.bIY 1 4&&decide (f.bHT.length≤4)&&decide (f.bHL.length≤4)&&decide (f.bHN.length≤40)&&decide (f.bHK.length≤24)&&decide (f.bHO.length≤4)&&decide (f.bHM.length≤12)
def dM (f:aJ):Bool :=
 lT f&&mV f&&(f.bHT.all kC&&f.bHL.all (jI f)&&f.bHK.all (gT f)&&f.bHO.all (jD f.bHL.length)&&f.bHM.all (mS f))
 && (distinct (f.bHT.map cN.name)&&distinct (f.bHL.map cV.name)&&distinct ((f.bHN.drop 1).map bR.name++f.bHK.map cG.name)&&distinct (f.bHO.map dB.name)&&distinct (f.bHM.map eG.name))
theorem bA {t:Nat} {b b':Bool} {F:PF} {H:PH} (h:F t=some (.bool b)) (e:b=b'):aU [.tmp t] (cA (.bool b')) .ret F H:=by
 subst e
 exact aX (.inr rfl) .nil (vs:=[.bool b]) (by rw[lE,oM,h,qC]) PH.nil_le ⟨.refl _,rfl⟩
theorem brE {C:Ctx} (n lo hi:Int):xA.wp C (aU gin.res (cA (.bool (within n lo hi)))) (PF.args [.int .i64 n,.int .i64 lo,.int .i64 hi]) .nil:=by
 by_cases a:lo≤n
 ·by_cases b:n≤hi
  ·simp only[go_sem,γ,reduceCtorEq,xA,adK,adL,gin,show n≥lo from a,b]
   exact bA rfl (by simp[within,a,b])
  ·simp only[go_sem,γ,reduceCtorEq,xA,adK,adL,gin,show n≥lo from a,b]
   exact bA rfl (by simp[within,a,b])
 ·have a':¬ n≥lo:=a
  simp only[go_sem,γ,reduceCtorEq,xA,adK,adL,gin,a']
  exact bA rfl (by simp[within,a])
theorem a8L {C:Ctx} (L:qP C) (x:RF) (hx:x.Ok):AE.wp C (aU NC.res (cA (.bool (cB x)))) (PF.args [.agg x.cells]) .nil:=by
 simp only[go_sem,δ,γ,θ,AE,apT,apU,NC]
 refine aA (L.bits x.num hx.1 hx.2.2.1) rfl ?_
 simp only[go_sem,γ]
 refine bA rfl ?_
 have:=@jH (val x.num)
 rw[cB,decide_eq_decide]
 omega
structure ayD (C:Ctx):Prop extends EH C where
 frac:∀ n d:Int,cW n→cW d→aD C 115 [.int .i64 n,.int .i64 d] .nil (aE (aeG n d))
 red:∀ x:RF,x.Ok→aD C 116 [.agg x.cells] .nil (aE (frV (mR x)))
 ord:∀ x y:RF,x.Ok→y.Ok→aD C 114 [.agg x.cells,.agg y.cells] .nil (aE (yK x.neg (val x.num) (val x.den) y.neg (val y.num) (val y.den)))
 plus:∀ x y:RF,x.Ok→y.Ok→aD C 113 [.agg x.cells,.agg y.cells] .nil (aE (frV (gZ x.v y.v)))
 tot:∀ l:List RF,jJ l→aD C 117 [frs l] .nil (aE (frV (nP (l.map RF.v))))
theorem HF {neg:Bool} {a b:Nat} {e:Int} (h:gS neg a b=.error e):e=2:=by
 unfold gS at h
 split at h
 ·injection h with h; exact h.symm
 ·cases h
theorem aJJ {x:RF} {e:Int} (h:mR x=.error e):e≠0:=by
 unfold mR at h
 split at h
 ·rw[HF h]; decide
 ·injection h with h; subst h; decide
theorem boP {x:RF} {r:FV} (h:mR x=.ok r):r.rf.Ok:=by
 unfold mR at h
 split at h
 ·exact (rA h).2
 ·cases h
theorem bmK {C:Ctx} (L:ayD C) (x:RF) (hx:x.Ok):NH.wp C (aU aDH.res (cA (.bool (cJ x)))) (PF.args [.agg x.cells]) .nil:=by
 simp only[go_sem,δ,γ,NH,aTI,aTJ,aDH]
 refine aA (L.red x hx) rfl ?_
 unfold cJ
 cases hr:mR x with
 | error e =>
  have:=bG (aJJ hr)
  simp only[go_sem,δ,γ,frV]
  refine aQ fun o ho=>?_
  simp only[go_sem,δ,γ,reduceCtorEq,TB,this]
  exact bA rfl rfl
 | ok r =>
  obtain⟨n,a,b⟩:=r
  obtain⟨l1,l2,l3,l4⟩:=boP hr
  simp only[go_sem,δ,γ,frV]
  refine aQ fun o ho=>?_
  cases n with
  | true =>
   simp only[go_sem,ρ,δ,γ,θ,reduceCtorEq,TB]
   exact bA rfl rfl
  | false =>
   simp only[go_sem,ρ,δ,γ,θ,TB]
   refine aA (L.bits _ l1 l3) rfl ?_
   rw[show val (FV.rf (false,a,b)).num=a from aS a]
   by_cases c1:cD a≤32
   ·have c1':((cD a:Nat):Int)≤32:=by omega
    simp only[go_sem,δ,γ,c1']
    refine aA (L.bits _ l2 l4) rfl ?_
    rw[show val (FV.rf (false,a,b)).den=b from aS b]
    simp only[go_sem,γ]
    refine bA rfl ?_
    rw[decide_eq_true c1]
    simp
    omega
   ·have c1':¬ ((cD a:Nat):Int)≤32:=by omega
    simp only[go_sem,γ,reduceCtorEq,c1']
    refine bA rfl ?_
    rw[decide_eq_false c1]
    rfl
theorem aFI:gS false 1 1=.ok (false,1,1):=by
 have:cD 1=1:=by rw[nF (by decide),jA]
 simp[gS,this]
theorem aFN:aeG 1 1=frV (.ok (false,1,1)):=by
 rw[aeG,if_neg (by decide),amH]
 show frV (gS false 1 1)=_
 rw[aFI]
theorem baG:(FV.rf (false,1,1)).Ok:=(rA aFI).2
theorem auH:cP 1 1=true:=by
 have:cD 1=1:=by rw[nF (by decide),jA]
 simp[cP,this]
theorem bmO {C:Ctx} (L:ayD C) (x:RF) (hx:x.Ok):NJ.wp C (aU gone.res (cA (.bool (sF x)))) (PF.args [.agg x.cells]) .nil:=by
 simp only[go_sem,NJ,aTN,aTO,gone]
 refine aA (L.frac 1 1 (by decide) (by decide)) rfl ?_
 rw[aFN]
 simp only[go_sem,δ,γ,frV]
 refine aQ fun o ho=>?_
 simp only[go_sem,δ,γ,aTP]
 refine aA (L.ord x (FV.rf (false,1,1)) hx baG) rfl ?_
 rw[show val (FV.rf (false,1,1)).num=1 from aS 1,show val (FV.rf (false,1,1)).den=1 from aS 1,show (FV.rf (false,1,1)).neg=false from rfl]
 unfold yK sF
 rw[auH,bLP]
 cases hv:cP (val x.num) (val x.den) with
 | false =>
  simp only[go_sem,ρ,γ,reduceCtorEq,alW]
  exact bA rfl rfl
 | true =>
  simp only[go_sem,ρ,γ,alW]
  exact bA rfl rfl
theorem bfZ {C:Ctx} (p:RF→Bool) (fn:Nat) (l:List RF) (hf:Fits l) (h:∀ x∈l,aD C fn [.agg x.cells] .nil (aE (.bool (p x)))) :
  GI.wp C (aU adH.res (cA (.bool (l.all p)))) (PF.args [frs l,.fn fn []]) .nil:=by
 simp only[go_sem,γ,reduceCtorEq,GI,aCE,aCF,adH]
 refine wp_loop (α:=Nat) (fun k=>((((PF.nil.set 1 (.fn fn [])).set 7 (frs l)).set 8 (.int .i64 (l.length:Nat))).set 9 (.int .i64 k))) (fun _=>.nil) (fun k=>k≤l.length∧(l.take k).all p=true) (fun k=>l.length-k) 0 ⟨bJY _,rfl⟩ ?_ PH.nil_le ?_
 ·(repeat' (first|exact PF.nil_le|refine PF.aI ?_ ?_))<;>first|(simp only[go_sem,γ,bJO]<;>rfl)|rfl
 rintro k ⟨hk,ha⟩
 simp only[go_sem,γ,aCD,aCG]
 by_cases hlt:k<l.length
 ·have bHR:(k:Int)<(l.length:Nat):=by omega
  have hr:(l.map RF.cells)[k]?=some (l[k]).cells:=by simp[hlt]
  simp only[go_sem,δ,γ,bHR,aCH,hr]
  refine aQ fun o ho=>?_
  simp only[go_sem,δ,γ,aCI]
  refine⟨fn,[],rfl,?_⟩
  refine aA (h _ (bJS hlt)) rfl ?_
  cases hp:p l[k] with
  | false =>
   simp only[go_sem,γ,aCJ]
   exact bA (b:=false) rfl (nE (p:=p) hlt hp).symm
  | true =>
   simp only[go_sem,γ,aCK,wZz k]
   refine aG (k+1) ⟨hlt,bKK.1 (nD hlt ha hp)⟩ Om ?_ PH.nil_le
   exact Lq
 ·have bHR:¬ (k:Int)<(l.length:Nat):=by omega
  simp only[go_sem,bHR,aCL]
  have:k=l.length:=by omega
  subst this
  rw[bKF (bJQ _)] at ha
  exact bA rfl ha.symm
theorem bgB {C:Ctx} (p:Int→Bool) (fn:Nat) (l:List Int) (hf:Fits l) (h:∀ x∈l,aD C fn [.int .i64 x] .nil (aE (.bool (p x)))) :
  GJ.wp C (aU adI.res (cA (.bool (l.all p)))) (PF.args [ints l,.fn fn []]) .nil:=by
 simp only[go_sem,γ,reduceCtorEq,GJ,aCN,aCO,adI]
 refine wp_loop (α:=Nat) (fun k=>((((PF.nil.set 1 (.fn fn [])).set 7 (ints l)).set 8 (.int .i64 (l.length:Nat))).set 9 (.int .i64 k))) (fun _=>.nil) (fun k=>k≤l.length∧(l.take k).all p=true) (fun k=>l.length-k) 0 ⟨bJY _,rfl⟩ ?_ PH.nil_le ?_
 ·(repeat' (first|exact PF.nil_le|refine PF.aI ?_ ?_))<;>first|(simp only[go_sem,γ,bJO]<;>rfl)|rfl
 rintro k ⟨hk,ha⟩
 simp only[go_sem,γ,aCM,aCP]
 by_cases hlt:k<l.length
 ·have bHR:(k:Int)<(l.length:Nat):=by omega
  have hr:(l.map fun n=>[PV.int .i64 n])[k]?=some [.int .i64 l[k]]:=by simp[hlt]
  simp only[go_sem,γ,bHR,aCQ,hr,aCR]
  refine⟨fn,[],rfl,?_⟩
  refine aA (h _ (bJS hlt)) rfl ?_
  cases hp:p l[k] with
  | false =>
   simp only[go_sem,γ,aCS]
   exact bA (b:=false) rfl (nE (p:=p) hlt hp).symm
  | true =>
   simp only[go_sem,γ,aCT,wZz k]
   refine aG (k+1) ⟨hlt,bKK.1 (nD hlt ha hp)⟩ Om ?_ PH.nil_le
   exact Lq
 ·have bHR:¬ (k:Int)<(l.length:Nat):=by omega
  simp only[go_sem,bHR,aCU]
  have:k=l.length:=by omega
  subst this
  rw[bKF (bJQ _)] at ha
  exact bA rfl ha.symm
abbrev a1Q (l:List Bool):PV:=.sl 1 (l.map fun b=>[PV.bool b])
theorem bfX {C:Ctx} (p:Bool→Bool) (fn:Nat) (l:List Bool) (hf:Fits l) (h:∀ x∈l,aD C fn [.bool x] .nil (aE (.bool (p x)))) :
  GH.wp C (aU adG.res (cA (.bool (l.all p)))) (PF.args [a1Q l,.fn fn []]) .nil:=by
 simp only[go_sem,γ,reduceCtorEq,GH,aBV,aBW,adG]
 refine wp_loop (α:=Nat) (fun k=>((((PF.nil.set 1 (.fn fn [])).set 7 (a1Q l)).set 8 (.int .i64 (l.length:Nat))).set 9 (.int .i64 k))) (fun _=>.nil) (fun k=>k≤l.length∧(l.take k).all p=true) (fun k=>l.length-k) 0 ⟨bJY _,rfl⟩ ?_ PH.nil_le ?_
 ·(repeat' (first|exact PF.nil_le|refine PF.aI ?_ ?_))<;>first|(simp only[go_sem,γ,bJO]<;>rfl)|rfl
 rintro k ⟨hk,ha⟩
 simp only[go_sem,γ,aBU,aBX]
 by_cases hlt:k<l.length
 ·have bHR:(k:Int)<(l.length:Nat):=by omega
  have hr:(l.map fun b=>[PV.bool b])[k]?=some [.bool l[k]]:=by simp[hlt]
  simp only[go_sem,γ,bHR,aBY,hr,aBZ]
  refine⟨fn,[],rfl,?_⟩
  refine aA (h _ (bJS hlt)) rfl ?_
  cases hp:p l[k] with
  | false =>
   simp only[go_sem,γ,aCA]
   exact bA (b:=false) rfl (nE (p:=p) hlt hp).symm
  | true =>
   simp only[go_sem,γ,aCB,wZz k]
   refine aG (k+1) ⟨hlt,bKK.1 (nD hlt ha hp)⟩ Om ?_ PH.nil_le
   exact Lq
 ·have bHR:¬ (k:Int)<(l.length:Nat):=by omega
  simp only[go_sem,bHR,aCC]
  have:k=l.length:=by omega
  subst this
  rw[bKF (bJQ _)] at ha
  exact bA rfl ha.symm
theorem a8N {C:Ctx} (b:Bool):AF.wp C (aU ND.res (cA (.bool b))) (PF.args [.bool b]) .nil:=by
 simp only[go_sem,γ,reduceCtorEq,AF,apV,apW,ND]
 exact bA rfl rfl
theorem bgG {C:Ctx} (hin:∀ n lo hi:Int,aD C 104 [.int .i64 n,.int .i64 lo,.int .i64 hi] .nil (aE (.bool (within n lo hi)))) (n:Int):GN.wp C (aU adM.res (cA (.bool (within n 0 8)))) (PF.args [.int .i64 n]) .nil:=by
 simp only[go_sem,reduceCtorEq,GN,aDJ,aDK,adM]
 refine aA (hin n 0 8) rfl ?_
 simp only[go_sem,γ]
 exact bA rfl rfl
theorem a8Q {C:Ctx} (h1:∀ x:RF,x.Ok→aD C 105 [.agg x.cells] .nil (aE (.bool (cJ x)))) (h2:∀ x:RF,x.Ok→aD C 97 [.agg x.cells] .nil (aE (.bool (cB x)))) (x:RF) (hx:x.Ok) :
  AG.wp C (aU NL.res (cA (.bool (cJ x&&cB x)))) (PF.args [.agg x.cells]) .nil:=by
 simp only[go_sem,δ,γ,AG,aqB,aqC,NL]
 refine aA (h1 x hx) rfl ?_
 cases hl:cJ x with
 | false =>
  simp only[go_sem,γ,reduceCtorEq]
  exact bA rfl rfl
 | true =>
  simp only[go_sem,δ,γ]
  refine aA (h2 x hx) rfl ?_
  simp only[go_sem,γ]
  exact bA rfl rfl
structure qO (C:Ctx):Prop extends ayD C where
 inn:∀ n lo hi:Int,aD C 104 [.int .i64 n,.int .i64 lo,.int .i64 hi] .nil (aE (.bool (within n lo hi)))
 uI:∀ x:RF,x.Ok→aD C 97 [.agg x.cells] .nil (aE (.bool (cB x)))
 lim:∀ x:RF,x.Ok→aD C 105 [.agg x.cells] .nil (aE (.bool (cJ x)))
 one:∀ x:RF,x.Ok→aD C 101 [.agg x.cells] .nil (aE (.bool (sF x)))
 allf:∀ (p:RF→Bool) (fn:Nat) (l:List RF),Fits l→(∀ x∈l,aD C fn [.agg x.cells] .nil (aE (.bool (p x))))→aD C 99 [frs l,.fn fn []] .nil (aE (.bool (l.all p)))
 alli:∀ (p:Int→Bool) (fn:Nat) (l:List Int),Fits l→(∀ x∈l,aD C fn [.int .i64 x] .nil (aE (.bool (p x))))→aD C 100 [ints l,.fn fn []] .nil (aE (.bool (l.all p)))
 allb:∀ (p:Bool→Bool) (fn:Nat) (l:List Bool),Fits l→(∀ x∈l,aD C fn [.bool x] .nil (aE (.bool (p x))))→aD C 98 [a1Q l,.fn fn []] .nil (aE (.bool (l.all p)))
 ends1:∀ b:Bool,aD C 103 [.bool b] .nil (aE (.bool b))
 num1:∀ n:Int,aD C 107 [.int .i64 n] .nil (aE (.bool (within n 0 8)))
 rate1:∀ x:RF,x.Ok→aD C 109 [.agg x.cells] .nil (aE (.bool (cJ x&&cB x)))
 name:∀ s:List UInt8,aD C 123 [.str s] .nil (aE (.bool (isName s)))
theorem qO.bgY {C:Ctx} (L:qO C) (l:List RF) (h:jJ l):aD C 99 [frs l,.fn 105 []] .nil (aE (.bool (l.all cJ))) :=
 L.allf cJ 105 l h.fits fun x hx=>L.lim x (h.all x hx)
theorem within_iff {n lo hi:Int}:within n lo hi=true↔lo≤n∧n≤hi:=by simp[within]
theorem bmM {C:Ctx} (L:qO C) (p:dB) (hp:p.Ok) :
  NI.wp C (aU aDI.res (cA (.bool (HR p)))) (PF.args [.int .i64 p.k,.int .i64 p.m,.int .i64 p.bIO,.agg [.int .i64 p.s0,.int .i64 p.s1,.int .i64 p.s2,.int .i64 p.s3,.int .i64 p.s4]]) .nil:=by
 simp only[go_sem,reduceCtorEq,NI,aTK,aTL,aDI]
 refine aA (L.inn p.k 1 6) rfl ?_
 unfold HR
 cases h1:within p.k 1 6 with
 | false =>
  simp only[go_sem,γ,bKD,wE]
  exact bA rfl (by simp only[bJU])
 | true =>
  obtain⟨k1,k2⟩:=within_iff.1 h1
  simp only[go_sem,γ,bJV]
  refine aA (L.inn p.m 0 4) rfl ?_
  cases h2:within p.m 0 4 with
  | false =>
   simp only[go_sem,γ,reduceCtorEq,bKD,wE]
   exact bA rfl (by simp only[bJU,bLA])
  | true =>
   obtain⟨m1,m2⟩:=within_iff.1 h2
   have hw:IntKind.i64.wrap (p.k+p.m)=p.k+p.m:=wrap_i64 Om Om
   by_cases h3:p.k+p.m≤8
   ·have h3':¬ p.k+p.m>8:=by omega
    simp only[go_sem,γ,reduceCtorEq,bJV,hw,h3']
    refine aA (L.inn p.bIO p.k (p.k+p.m)) rfl ?_
    cases h4:within p.bIO p.k (p.k+p.m) with
    | false =>
     simp only[go_sem,γ,reduceCtorEq,bKD,wE]
     exact bA rfl (by simp only[bJU,bLA])
    | true =>
     have h50:(0:Int)<((5:Nat):Int):=by decide
     by_cases h5:p.s0=0
     ·have hch:chunks 1 5 [PV.int .i64 p.s0,.int .i64 p.s1,.int .i64 p.s2,.int .i64 p.s3,.int .i64 p.s4]=([p.s0,p.s1,p.s2,p.s3,p.s4].map fun n=>[PV.int .i64 n]):=rfl
      have hm:5≤maxLen:=by decide
      simp only[go_sem,ν,δ,γ,η,θ,ζ,reduceCtorEq,bJV,h50,bV h5,aTM,hch,hm]
      refine aA (L.alli (fun n=>within n 0 8) 107 [p.s0,p.s1,p.s2,p.s3,p.s4] (show 5≤9223372036854775807 by decide) fun x _=>L.num1 x) rfl ?_
      simp only[go_sem,γ]
      exact bA rfl (by rw[decide_eq_true h3,decide_eq_true h5]; simp only[bKA])
     ·simp only[go_sem,ν,δ,γ,θ,ζ,reduceCtorEq,bJV,h50,cI h5,wE]
      exact bA rfl (by rw[decide_eq_false h5]; simp only[bJU,bLA])
   ·have h3':p.k+p.m>8:=by omega
    simp only[go_sem,γ,reduceCtorEq,bJV,hw,h3',wE]
    exact bA rfl (by rw[decide_eq_false h3]; simp only[bJU,bLA])
theorem max_eq (a b:Int):(if a<b then b else a)=max a b:=by
 rw[Int.max_def]
 by_cases h:a<b
 ·rw[if_pos h,if_pos Om]
 ·by_cases h':a≤b
  ·rw[if_neg h,if_pos h']; omega
  ·rw[if_neg h,if_neg h']
theorem bgI {C:Ctx} (L:qO C) (p:dB) (hp:p.Ok) :
  GO.wp C (aU adN.res (cA (.bool (yZ p)))) (PF.args [.int .i64 p.m,frs p.repair,.agg p.target.cells,.agg p.bHW.cells]) .nil:=by
 simp only[go_sem,γ,reduceCtorEq,GO,aDP,aDQ,adN,max_eq,bJO]
 unfold yZ
 by_cases h1:(p.repair.length:Int)=max p.m 1
 ·simp only[go_sem,γ,bX h1]
  refine aA (L.allf (fun x=>cJ x&&cB x) 109 p.repair hp.repair.fits fun x hx=>L.rate1 x (hp.repair.all x hx)) rfl ?_
  rw[decide_eq_true h1,bKA]
  cases h2:p.repair.all fun x=>cJ x&&cB x with
  | false =>
   simp only[go_sem,γ,reduceCtorEq]
   exact bA rfl rfl
  | true =>
   simp only[go_sem,δ,γ]
   refine aA (L.lim _ hp.target) rfl ?_
   cases h3:cJ p.target with
   | false =>
    simp only[go_sem,γ,reduceCtorEq]
    exact bA rfl rfl
   | true =>
    simp only[go_sem,δ,γ]
    refine aA (L.one _ hp.target) rfl ?_
    cases h4:sF p.target with
    | false =>
     simp only[go_sem,γ,reduceCtorEq]
     exact bA rfl rfl
    | true =>
     simp only[go_sem,δ,γ]
     refine aA (L.lim _ hp.bHW) rfl ?_
     simp only[go_sem,γ]
     exact bA rfl rfl
 ·simp only[go_sem,γ,reduceCtorEq,bG h1]
  exact bA rfl (by rw[decide_eq_false h1]; rfl)
def oO (l:List (List UInt8)) (k:List KS):Option PV:=match k with
 | [.str s]=>if l.contains s then some (.bool true) else none
 | _=>none
theorem bbC (l:List (List UInt8)) (s:List UInt8):(fun k=>if k=[KS.str s] then some (PV.bool true) else oO l k)=oO (l++[s]):=by
 funext k
 match k with
 | []=>rfl
 | [.int a b]=>simp[oO]
 | [.bool a]=>simp[oO]
 | [.str t] =>
  by_cases h:t=s
  ·subst h; simp[oO]
  ·simp[oO,h]
 | a::b::c=>simp[oO]
abbrev texts (l:List (List UInt8)):PV:=.sl 1 (l.map fun s=>[PV.str s])
theorem bbB:oO []=(fun _=>none:eU):=by
 funext k
 match k with
 | []=>rfl
 | [.int a b]=>rfl
 | [.bool a]=>rfl
 | [.str t]=>rfl
 | a::b::c=>cases a<;>rfl
theorem bbD (l:List (List UInt8)) (s:List UInt8):eU.upd (oO l) [KS.str s] (.bool true)=oO (l++[s]):=bbC l s
theorem aKF (l:List (List UInt8)) (s:List UInt8):(oO l [KS.str s]).getD (.bool false)=.bool (l.contains s):=by
 show (if l.contains s then some (PV.bool true) else none).getD (.bool false)=_
 cases l.contains s<;>rfl
theorem anE {p:Nat→Bool} {k:Nat} (h:(bJP k).all p=true) (hp:p k=true):(bJP (k+1)).all p=true:=by
 rw[List.range_succ,List.all_append,h]; simp[hp]
theorem dQ {p:Nat→Bool} {n k:Nat} (hk:k<n) (hp:p k=false):(bJP n).all p=false:=by
 rw[List.all_eq_false]
 exact⟨k,bKZ.2 hk,by simp[hp]⟩
def mT (p:Nat→Bool) (k:Nat):Prop:=(bJP k).all p=true
theorem mT.zero {p:Nat→Bool}:mT p 0:=rfl
theorem mT.step {p:Nat→Bool} {k:Nat} (h:mT p k) (hp:p k=true):mT p (k+1):=anE h hp
def a5Q (l:List (List UInt8)) (o k:Nat):PF:=((((PF.nil.set 3 (.map o)).set 7 (texts l)).set 8 (.int .i64 (l.length:Nat))).set 9 (.int .i64 k))
theorem bgL {C:Ctx} (L:qO C) (l:List (List UInt8)) (hf:Fits l):GP.wp C (aU adO.res (cA (.bool (distinct l)))) (PF.args [texts l]) .nil:=by
 simp only[go_sem,GP,aDS,aDT,adO]
 refine aQ fun o ho=>?_
 simp only[go_sem,γ,reduceCtorEq,aDU]
 have e0:(PH.nil.set o (.map (false,[.str]) (fun _=>none)))=PH.nil.set o (.map (false,[.str]) (oO (l.take 0))):=by rw[List.take_zero,bbB]
 unfold distinct
 generalize hp:(fun i=>isName (l.getD i [])&&!(l.take i).contains (l.getD i []))=p
 have hpk:∀ k (h:k<l.length),p k=(isName l[k]&&!(l.take k).contains l[k]):=by
  intro k h
  rw[← hp]
  simp only[bKH,bJZ h,bMK]
 refine wp_loop (α:=Nat) (fun k=>a5Q l o k) (fun k=>PH.nil.set o (.map (false,[.str]) (oO (l.take k)))) (fun k=>k≤l.length∧mT p k) (fun k=>l.length-k) 0 ⟨bJY _,.zero⟩ ?_ ?_ ?_
 ·unfold a5Q
  (repeat' (first|exact PF.nil_le|refine PF.aI ?_ ?_))<;>first|(simp only[go_sem,γ,bJO]<;>rfl)|rfl
 ·rw[e0]; exact PH.le_refl
 rintro k ⟨hk,ha⟩
 simp only[go_sem,γ,aDR,aDV,a5Q]
 by_cases hlt:k<l.length
 ·have bHR:(k:Int)<(l.length:Nat):=by omega
  have hr:(l.map fun s=>[PV.str s])[k]?=some [.str l[k]]:=by simp[hlt]
  simp only[go_sem,γ,bHR,aDW,hr,aDX]
  refine aA (L.name l[k]) rfl ?_
  have hk2:=hpk k hlt
  cases h1:isName l[k] with
  | false =>
   rw[h1,bJU] at hk2
   simp only[go_sem,γ,bKD,XQ]
   exact bA (b:=false) rfl (dQ hlt hk2).symm
  | true =>
   rw[h1,bKA] at hk2
   cases h2:(l.take k).contains l[k] with
   | true =>
    rw[h2] at hk2
    simp only[go_sem,γ,reduceCtorEq,bJV,aKF,h2,XQ]
    exact bA (b:=false) rfl (dQ hlt hk2).symm
   | false =>
    rw[h2] at hk2
    simp only[go_sem,γ,reduceCtorEq,bJV,aKF,h2,aDY,bbD,aDZ,wZz k]
    refine aG (k+1) ⟨hlt,ha.step hk2⟩ Om ?_ ?_
    ·exact Lq
    ·rw[bLL hlt]
     exact PH.aI PH.nil_le Sq
 ·have bHR:¬ (k:Int)<(l.length:Nat):=by omega
  simp only[go_sem,bHR,aqD]
  have:k=l.length:=by omega
  subst this
  exact bA (b:=true) rfl (show mT p l.length from ha).symm
def marks (n:Nat) (l:List Int):List Bool:=(bJP n).map fun (i:Nat)=>l.contains (i:Int)
theorem a9F (n:Nat):marks n []=bJR n false:=by
 refine List.ext_getElem (by simp[marks]) fun i h1 h2=>by simp[marks]
theorem bhC {n:Nat} {l:List Int} {m:Int} (h0:0≤m) (h1:m<n):(marks n l)[m.toNat]?=some (l.contains m):=by
 have:m.toNat<n:=by omega
 simp only[marks,bKS,List.getElem?_range this,bKX]
 rw[Int.toNat_of_nonneg h0]
theorem a9G {n:Nat} {l:List Int} {m:Int} (h0:0≤m) (h1:m<n):(marks n l).set m.toNat true=marks n (l++[m]):=by
 refine List.ext_getElem (by simp[marks]) fun i h2 h3=>?_
 simp only[marks,bLY,List.getElem_range,List.getElem_set,List.contains_append]
 by_cases h:m.toNat=i
 ·subst h
  rw[if_pos rfl,Int.toNat_of_nonneg h0]; simp
 ·have hne:((i:Nat):Int)≠m:=by omega
  rw[if_neg h]; simp[hne]
abbrev fU (l:List Bool):List (List PV):=l.map fun b=>[PV.bool b]
theorem kP (l:List Bool) (i:Nat) (b:Bool):(fU l).set i [.bool b]=fU (l.set i b):=by unfold fU; rw[List.map_set]
structure ayT (C:Ctx):Prop extends qO C where
 num:∀ p:dB,p.Ok→aD C 106 [.int .i64 p.k,.int .i64 p.m,.int .i64 p.bIO,.agg [.int .i64 p.s0,.int .i64 p.s1,.int .i64 p.s2,.int .i64 p.s3,.int .i64 p.s4]] .nil (aE (.bool (HR p)))
 rate:∀ p:dB,p.Ok→aD C 108 [.int .i64 p.m,frs p.repair,.agg p.target.cells,.agg p.bHW.cells] .nil (aE (.bool (yZ p)))
 uniq:∀ l:List (List UInt8),Fits l→aD C 110 [texts l] .nil (aE (.bool (distinct l)))
def bhW (p:dB) (bHL:Nat) (o k:Nat):PF:=(((((PF.nil.set 1 (.int .i64 bHL)).set 5 (.osl o 1 0 bHL)).set 39 (ints p.bHL)).set 40 (.int .i64 (p.bHL.length:Nat))).set 41 (.int .i64 k))
theorem bmQ {C:Ctx} (L:ayT C) (p:dB) (hp:p.Ok) (bHL:Nat) (hm:bHL≤4):NK.wp C (aU aDL.res (cA (.bool (jD bHL p)))) (PF.args [.agg p.cells,.int .i64 bHL]) .nil:=by
 simp only[go_sem,δ,γ,θ,NK,aTQ,aTR,aDL]
 refine aA (L.num p hp) rfl ?_
 unfold jD
 cases h1:HR p with
 | false =>
  simp only[go_sem,γ,bKD,TC]
  exact bA rfl (by simp only[bJU])
 | true =>
  by_cases h2:p.bHL.length=0
  ·simp only[go_sem,δ,γ,θ,reduceCtorEq,bJV,bJO,bX (Om:((p.bHL.length:Nat):Int)=0),TC]
   refine bA rfl ?_
   have:decide (p.bHL.length≠0)=false:=by simp[h2]
   rw[this]; simp only[bJU,bLA]
  ·have h2':decide (p.bHL.length≠0)=true:=by simp[h2]
   simp only[go_sem,δ,γ,θ,reduceCtorEq,bJV,bJO,bG (Om:((p.bHL.length:Nat):Int)≠0)]
   refine aA (L.rate p hp) rfl ?_
   rw[h2']
   cases h3:yZ p with
   | false =>
    simp only[go_sem,γ,reduceCtorEq,bKD,TC]
    exact bA rfl (by simp only[bJU,bLA])
   | true =>
    have hb1:((bHL:Nat):Int)*((1:Nat):Int)≤140737488355328:=by omega
    have hb2:((bHL:Nat):Int)≤9223372036854775807:=by omega
    simp only[bKA]
    simp only[go_sem,γ,reduceCtorEq,bJV,aTS,hb1,hb2]
    refine aQ fun o ho=>?_
    simp only[go_sem,δ,γ,θ,aTT]
    have e0:bJR bHL [PV.bool false]=fU (marks bHL (p.bHL.take 0)):=by
     rw[List.take_zero,a9F]; simp[fU]
    rw[e0]
    generalize hq:(fun j=>within (p.bHL.getD j 0) 0 ((bHL:Int)-1)&&!(p.bHL.take j).contains (p.bHL.getD j 0))=q
    have hqk:∀ k (h:k<p.bHL.length),q k=(within p.bHL[k] 0 ((bHL:Int)-1)&&!(p.bHL.take k).contains p.bHL[k]):=by
     intro k h
     rw[← hq]
     simp only[bKH,bJZ h,bMK]
    refine wp_loop (α:=Nat) (fun k=>bhW p bHL o k) (fun k=>PH.nil.set o (.rows 1 (fU (marks bHL (p.bHL.take k))))) (fun k=>k≤p.bHL.length∧mT q k) (fun k=>p.bHL.length-k) 0 ⟨bJY _,.zero⟩ ?_ (PH.le_refl) ?_
    ·unfold bhW
     (repeat' (first|exact PF.nil_le|refine PF.aI ?_ ?_))<;>first|(simp only[go_sem,γ,bJO]<;>rfl)|rfl
    rintro k ⟨hk,ha⟩
    simp only[go_sem,γ,aDM,aTU,bhW]
    have bIZ:=hp.bHL
    by_cases hlt:k<p.bHL.length
    ·have bHR:(k:Int)<(p.bHL.length:Nat):=by omega
     have hr:(p.bHL.map fun n=>[PV.int .i64 n])[k]?=some [.int .i64 p.bHL[k]]:=by simp[hlt]
     have hw:IntKind.i64.wrap ((bHL:Int)-1)=(bHL:Int)-1:=wrap_i64 Om Om
     simp only[go_sem,γ,bHR,aTV,hr,aTW,hw]
     refine aA (L.inn p.bHL[k] 0 ((bHL:Int)-1)) rfl ?_
     have hk2:=hqk k hlt
     cases h1:within p.bHL[k] 0 ((bHL:Int)-1) with
     | false =>
      rw[h1,bJU] at hk2
      simp only[go_sem,γ,bKD,alX]
      exact bA (b:=false) rfl (dQ hlt hk2).symm
     | true =>
      rw[h1,bKA] at hk2
      obtain⟨i1,i2⟩:=within_iff.1 h1
      have i3:p.bHL[k]<(bHL:Nat):=by omega
      have hmk:(fU (marks bHL (p.bHL.take k)))[p.bHL[k].toNat]?=some [.bool ((p.bHL.take k).contains p.bHL[k])]:=by
       unfold fU
       rw[bKS,bhC i1 i3]; rfl
      cases h2:(p.bHL.take k).contains p.bHL[k] with
      | true =>
       rw[h2] at hk2 hmk
       simp only[go_sem,γ,reduceCtorEq,bJV,i1,i3,bKN,hmk,alX]
       exact bA (b:=false) rfl (dQ hlt hk2).symm
      | false =>
       rw[h2] at hk2 hmk
       simp only[go_sem,γ,reduceCtorEq,bJV,i1,i3,bKN,hmk,aTX,kP,a9G i1 i3,aDN,wZz k]
       refine aG (k+1) ⟨hlt,ha.step hk2⟩ Om ?_ ?_
       ·exact Lq
       ·rw[bLL hlt]
        exact PH.aI PH.nil_le Sq
    ·have bHR:¬ (k:Int)<(p.bHL.length:Nat):=by omega
     simp only[go_sem,bHR,aDO]
     have:k=p.bHL.length:=by omega
     subst this
     exact bA (b:=true) rfl (show mT q p.bHL.length from ha).symm
def bfA:PV→RF
 | .agg [.bool n,a,b]=>⟨n,iD a,iD b⟩
 | _=>⟨false,[],[]⟩
theorem a1X (x:RF):bfA (.agg x.cells)=x:=by
 show (⟨x.neg,iD (aF x.num),iD (aF x.den)⟩:RF)=x
 rw[dZ,dZ]
def flS:Spec:=fun name vs=>match name,vs with
 | 104,[.int _ n,.int _ lo,.int _ hi]=>some ([],fun _=>aE (.bool (within n lo hi)))
 | 105,[x]=>some ([],fun _=>aE (.bool (cJ (bfA x))))
 | 97,[x]=>some ([],fun _=>aE (.bool (cB (bfA x))))
 | _,_=>none
theorem aBI (n lo hi:Int):flS 104 [.int .i64 n,.int .i64 lo,.int .i64 hi]=some ([],fun _=>aE (.bool (within n lo hi))):=rfl
theorem bmB (x:RF):flS 105 [.agg x.cells]=some ([],fun _=>aE (.bool (cJ x))):=by
 show some _=_; rw[a1X]
def a2S (f:aJ) (t:List bR) (k:Nat):PF:=((((PF.nil.set 1 (.bH f.cells)).set 45 (.sl 7 (t.map bR.cells))).set 46 (.int .i64 (t.length:Nat))).set 47 (.int .i64 k))
theorem bmG {C:Ctx} (L:qO C) (f:aJ) (hf:f.Ok):yO.wp C (aU alT.res (cA (.bool (mV f)))) (PF.args [.agg f.cells]) .nil:=by
 obtain⟨bIY,bHT,bHL,bHN,bHK,bHO,bHM⟩:=f
 cases bHN with
 | nil =>
  rw[show mV ⟨bIY,bHT,bHL,[],bHK,bHO,bHM⟩=false from rfl]
  simp only[go_sem,δ,γ,θ,yO,alU,alV,alT,List.map_nil,bLZ]
  have:(((0:Nat):Int)==0)=true:=rfl
  simp only[go_sem,this,aSU]
  exact bA rfl rfl
 | cons r t =>
  generalize hF:(⟨bIY,bHT,bHL,r::t,bHK,bHO,bHM⟩:aJ)=f at *
  have hd:f.bHN=r::t:=by rw[← hF]
  have hP:mV f=yI f r t:=by unfold mV; rw[hd]
  rw[hP]
  unfold yI
  have hlen:f.bHN.length=t.length+1:=by rw[hd]; rfl
  have bIZ:=hf.bHN
  have hr0:(f.bHN.map bR.cells)[0]?=some r.cells:=by rw[hd]; rfl
  have hr0':(f.bHN.map bR.cells)[Int.toNat 0]?=some r.cells:=hr0
  have hok:=hf.dom
  have hrok:=hok r (by rw[hd]; exact List.mem_cons_self ..)
  simp only[go_sem,ο,ν,δ,γ,θ,yO,alU,alV,alT,bJO,hlen,bG (Om:((t.length+1:Nat):Int)≠0),aSV,hr0]
  refine aQ fun o ho=>?_
  by_cases c1:r.name=[]
  ·rw[decide_eq_true c1]
   by_cases c2:r.level=0
   ·rw[decide_eq_true c2]
    by_cases c3:r.parent=-1
    ·rw[decide_eq_true c3]
     by_cases c4:r.bIK=0
     ·rw[decide_eq_true c4]
      simp only[go_sem,ο,δ,γ,θ,reduceCtorEq,wC,nU c1,bJV,bV c2,bV c3,bV c4]
      refine aA (L.lim r.bIC hrok.1) rfl ?_
      cases c5:cJ r.bIC with
      | false =>
       simp only[go_sem,γ,reduceCtorEq,bKD,rY]
       exact bA rfl (by simp only[bLA,bJU])
      | true =>
       simp only[go_sem,δ,γ,reduceCtorEq,bJV]
       refine aA (L.uI r.bIC hrok.1) rfl ?_
       cases c6:cB r.bIC with
       | true =>
        simp only[go_sem,γ,reduceCtorEq,rY]
        exact bA rfl (by simp only[bJV,bLA,bJU])
       | false =>
        have hsl:(0:Int)≤1∧(1:Int)≤((t.length+1:Nat):Int):=by omega
        have hdrop:((f.bHN.map bR.cells).take (t.length+1)).drop (Int.toNat 1)=t.map bR.cells:=by
         rw[bKF (by simp[hlen]),hd]; rfl
        have hdrop':((f.bHN.map bR.cells).take (t.length+1)).drop 1=t.map bR.cells:=hdrop
        simp only[go_sem,ν,δ,γ,θ,reduceCtorEq,aSW,bJO,hlen,hsl,hdrop',bMT]
        generalize hq:(fun i=>match t[i]? with | some d=>FW f i d | none=>false)=q
        have hqk:∀ k (h:k<t.length),q k=FW f k t[k]:=by
         intro k h
         rw[← hq]
         simp only[bJZ h]
        refine wp_loop (α:=Nat) (fun k=>a2S f t k) (fun k=>.nil) (fun k=>k≤t.length∧mT q k) (fun k=>t.length-k) 0 ⟨bJY _,.zero⟩ ?_ PH.nil_le ?_
        ·unfold a2S
         (repeat' (first|exact PF.nil_le|refine PF.aI ?_ ?_))<;>first|(simp only[go_sem,γ,bJO]<;>rfl)|rfl
        rintro k ⟨hk,ha⟩
        simp only[go_sem,γ,aCV,aSX,a2S]
        by_cases hlt:k<t.length
        ·have bHR:(k:Int)<(t.length:Nat):=by omega
         have hrk:(t.map bR.cells)[k]?=some (t[k]).cells:=by simp[hlt]
         have hdk:=hok t[k] (by rw[hd]; exact List.mem_cons_of_mem _ (bJS hlt))
         have hk2:=hqk k hlt
         unfold FW at hk2
         simp only[go_sem,δ,γ,bHR,aSY,hrk]
         refine aQ fun o2 ho2=>?_
         simp only[go_sem,δ,γ]
         refine bP .nil flS PH.nil_le ?_
         simp only[go_sem,δ,γ,θ,reduceCtorEq,aSZ]
         refine bS (aBI _ 0 k) (L.inn (t[k]).parent 0 k) rfl PH.nil_le ?_
         cases e1:within (t[k]).parent 0 k with
         | false =>
          simp only[e1,bJU] at hk2
          simp only[go_sem,γ,bKD,rX]
          exact bA (b:=false) rfl (dQ hlt hk2).symm
         | true =>
          obtain⟨i1,i2⟩:=within_iff.1 e1
          have i3:(t[k]).parent.toNat<f.bHN.length:=by omega
          have hpr:(f.bHN.map bR.cells)[(t[k]).parent.toNat]?=some (f.bHN[(t[k]).parent.toNat]).cells:=by simp[i3]
          have hlv:(f.bHN.map bR.level).getD (t[k]).parent.toNat 0=(f.bHN[(t[k]).parent.toNat]).level:=by simp[i3]
          rw[hlv,e1,bKA] at hk2
          by_cases e2:(f.bHN[(t[k]).parent.toNat]).level=IntKind.i64.wrap ((t[k]).level-1)
          ·rw[decide_eq_true e2,bKA] at hk2
           simp only[go_sem,δ,γ,θ,reduceCtorEq,bJV,i1,hpr,bV e2]
           refine bS (aBI _ 1 4) (L.inn (t[k]).level 1 4) rfl PH.nil_le ?_
           cases e3:within (t[k]).level 1 4 with
           | false =>
            simp only[e3,bJU] at hk2
            simp only[go_sem,γ,reduceCtorEq,bKD,rX]
            exact bA (b:=false) rfl (dQ hlt hk2).symm
           | true =>
            rw[e3,bKA] at hk2
            simp only[go_sem,δ,γ,θ,reduceCtorEq,bJV]
            refine bS (aBI _ 1 64) (L.inn (t[k]).bIK 1 64) rfl PH.nil_le ?_
            cases e4:within (t[k]).bIK 1 64 with
            | false =>
             simp only[e4,bJU] at hk2
             simp only[go_sem,γ,reduceCtorEq,bKD,rX]
             exact bA (b:=false) rfl (dQ hlt hk2).symm
            | true =>
             rw[e4,bKA] at hk2
             simp only[go_sem,δ,γ,reduceCtorEq,bJV]
             refine bS (bmB (t[k]).bIC) (L.lim _ hdk.1) rfl PH.nil_le ?_
             cases e5:cJ (t[k]).bIC with
             | false =>
              rw[e5] at hk2
              simp only[go_sem,γ,reduceCtorEq,bKD,rX]
              exact bA (b:=false) rfl (dQ hlt hk2).symm
             | true =>
              rw[e5] at hk2
              simp only[go_sem,γ,reduceCtorEq,bJV,aCW,wZz k]
              refine aG (k+1) ⟨hlt,ha.step hk2⟩ Om ?_ PH.nil_le
              exact Lq
          ·simp only[decide_eq_false e2,bJU] at hk2
           simp only[go_sem,δ,γ,θ,reduceCtorEq,bJV,i1,hpr,cI e2,rX]
           exact bA (b:=false) rfl (dQ hlt hk2).symm
        ·have bHR:¬ (k:Int)<(t.length:Nat):=by omega
         simp only[go_sem,bHR,aCX]
         have:k=t.length:=by omega
         subst this
         exact bA (b:=true) rfl (show mT q t.length from ha).symm
     ·simp only[go_sem,ο,δ,γ,θ,reduceCtorEq,wC,nU c1,bJV,bV c2,bV c3,cI c4,rY]
      exact bA rfl (by rw[decide_eq_false c4]; simp only[bLA,bJU])
    ·simp only[go_sem,ο,δ,γ,θ,reduceCtorEq,wC,nU c1,bJV,bV c2,cI c3,rY]
     exact bA rfl (by rw[decide_eq_false c3]; simp only[bLA,bJU])
   ·simp only[go_sem,ο,δ,γ,θ,reduceCtorEq,wC,nU c1,bJV,cI c2,rY]
    exact bA rfl (by rw[decide_eq_false c2]; simp only[bLA,bJU])
  ·simp only[go_sem,ο,δ,γ,θ,wC,aaT c1,bKD,rY]
   exact bA rfl (by rw[decide_eq_false c1]; simp only[bLA,bJU])
theorem rH (R:List Bool) (i:Nat) (row:List RF):∀ k,(cS R i row k).length=R.length
 | 0=>rfl
 | k+1=>by simp only[cS,bLO,rH R i row k]
theorem aJI (l:cN) (R:List Bool) (i:Nat):(xO l R i).length=R.length:=by
 unfold xO; rw[rH,bLO]
theorem oL (l:cN) (R:List Bool):∀ i,(cZ l R i).length=R.length
 | 0=>rfl
 | i+1=>by simp only[cZ,aJI,oL l R i]
theorem oK (l:cN):∀ r,(dJ l r).length=l.exit.length
 | 0=>by simp[dJ]
 | r+1=>by simp only[dJ,oL,oK l r]
theorem pJ {R:List Bool} {i:Nat} (h:i<R.length):(fU R)[i]?=some [.bool (R.getD i false)]:=by
 unfold fU
 rw[bKS,bJZ h,bKH,bJZ h]; rfl
theorem a7K (R:List Bool):(fU R).length=R.length:=by simp[fU]
def ST (l:cN) (o r:Nat):PF:=(((PF.nil.set 1 (.bH l.cells)).set 3 (.osl o 1 0 l.exit.length)).set 4 (.int .i64 r))
def FY (l:cN) (o r i:Nat):PF:=(((((PF.nil.set 1 (.bH l.cells)).set 3 (.osl o 1 0 l.exit.length)).set 4 (.int .i64 r)).set 19 (.int .i64 (l.exit.length:Nat))).set 20 (.int .i64 i))
def qV (l:cN) (o r i:Nat) (row:List RF) (k:Nat):PF:=(((((((((PF.nil.set 1 (.bH l.cells)).set 3 (.osl o 1 0 l.exit.length)).set 4 (.int .i64 r)).set 19 (.int .i64 (l.exit.length:Nat))).set 20 (.int .i64 i)).set 5 (.int .i64 i)).set 42 (frs row)).set 43 (.int .i64 (row.length:Nat))).set 44 (.int .i64 k))
def gJ (o:Nat) (R:List Bool):PH:=PH.nil.set o (.rows 1 (fU R))
theorem aPR {C:Ctx} (L:qO C) (l:cN) (o r i:Nat) (row:List RF) (bHX:jJ row) (hrl:row.length=l.exit.length) (hi:i<l.exit.length) (hn:l.exit.length≤4) (R1:List Bool) (hR:R1.length=l.exit.length) (K:cQ) (F:PF) (H:PH)
  (hF:(qV l o r i row 0).le F) (hH:(gJ o R1).le H)
  (hK:∀ F H,(qV l o r i row row.length).le F→(gJ o (cS R1 i row row.length)).le H→K .normal F H) :
  aC.wp C (.block 4 (.loop yP)) K F H:=by
 simp only[go_sem]
 refine wp_loop (α:=Nat) (fun k=>qV l o r i row k) (fun k=>gJ o (cS R1 i row k)) (fun k=>k≤row.length) (fun k=>row.length-k) 0 (bJY _) hF hH ?_
 intro k hk
 simp only[go_sem,γ,yP,aDE,qV,gJ]
 have hlen:=rH R1 i row k
 by_cases hlt:k<row.length
 ·have bHR:(k:Int)<(row.length:Nat):=by omega
  have hr:(row.map RF.cells)[k]?=some (row[k]).cells:=by simp[hlt]
  simp only[go_sem,δ,γ,bHR,apY,hr]
  refine aQ fun o7 ho7=>?_
  have n7:o≠o7:=by rintro rfl; simp only[bM,if_true] at ho7; cases ho7
  have hi':(i:Int)<(l.exit.length:Nat):=by omega
  have hk':(k:Int)<(l.exit.length:Nat):=by omega
  have hat:=pJ (R:=cS R1 i row k) (i:=i) Om
  have hatk:=pJ (R:=cS R1 i row k) (i:=k) Om
  have bHS:cS R1 i row (k+1)=(cS R1 i row k).set i ((cS R1 i row k).getD i false||cB row[k]&&(cS R1 i row k).getD k false):=by
   simp only[cS,bKH,bKS,bJZ hlt,bKX,bMK]
  have fin:∀ (b:Bool) (F:PF) (H:PH),b=((cS R1 i row k).getD i false||cB row[k]&&(cS R1 i row k).getD k false)→(qV l o r i row (k+1)).le F→H o=some (.rows 1 ((fU (cS R1 i row k)).set i [.bool b])) →
    eE (fun k=>qV l o r i row k) (fun k=>gJ o (cS R1 i row k)) (fun k=>k≤row.length) (fun k=>row.length-k) (row.length-k) (dW 4 K) .normal F H:=by
   intro b F H hb hF hH
   refine aG (k+1) hlt Om hF ?_
   rw[kP,hb,← bHS] at hH
   exact PH.aI PH.nil_le hH
  unfold qV gJ at fin
  generalize hb:(cS R1 i row k).getD i false=b at *
  generalize hc:(cS R1 i row k).getD k false=c at *
  generalize hA:cB row[k]=A at *
  cases b with
  | true =>
   simp only[go_sem,δ,γ,NE,n7,hi',bKN,hat,yR,wZz k]
   exact fin true _ _ (by simp) Lq Sq
  | false =>
   simp only[go_sem,δ,γ,NE,n7,hi',bKN,hat]
   refine aA (L.uI _ (bHX.all _ (bJS hlt))) rfl ?_
   rw[hA]
   cases A with
   | false =>
    simp only[go_sem,γ,reduceCtorEq,hi',hk',n7,bKN,hat,hatk,yR,wZz k]
    exact fin false _ _ (by simp) Lq Sq
   | true =>
    simp only[go_sem,γ,reduceCtorEq,hi',hk',n7,bKN,hat,hatk,yR,wZz k]
    exact fin c _ _ (by simp) Lq Sq
 ·have bHR:¬ (k:Int)<(row.length:Nat):=by omega
  simp only[go_sem,bHR]
  have:k=row.length:=by omega
  subst this
  exact hK _ _ (by unfold qV; exact Lq) (PH.le_refl)
structure yG (l:cN):Prop where
 n:l.exit.length≤4
 bHP:l.bHP.length=l.exit.length
 row:∀ r∈l.bHP,r.length=l.exit.length
theorem aPS {C:Ctx} (L:qO C) (l:cN) (hl:l.Ok) (he:yG l) (o r:Nat) (R:List Bool) (hR:R.length=l.exit.length) (K:cQ) (F:PF) (H:PH)
  (hF:(FY l o r 0).le F) (hH:(gJ o R).le H)
  (hK:∀ F H,(ST l o r).le F→(gJ o (cZ l R l.exit.length)).le H→K .normal F H) :
  aC.wp C (.block 2 (.loop yQ)) K F H:=by
 simp only[go_sem]
 refine wp_loop (α:=Nat) (fun i=>FY l o r i) (fun i=>gJ o (cZ l R i)) (fun i=>i≤l.exit.length) (fun i=>l.exit.length-i) 0 (bJY _) hF hH ?_
 intro i hi
 have hlen:=oL l R i
 have hn:=he.n
 by_cases hlt:i<l.exit.length
 ·have bHR:(i:Int)<(l.exit.length:Nat):=by omega
  have hir:i<l.bHP.length:=by rw[he.bHP]; exact hlt
  have hat:=pJ (R:=cZ l R i) (i:=i) Om
  have hx:(l.exit.map RF.cells)[i]?=some (l.exit[i]).cells:=by simp[hlt]
  have bHX:(l.bHP.map fun r=>[frs r])[i]?=some [frs l.bHP[i]]:=by simp[hir]
  have hrl:(l.bHP[i]).length=l.exit.length:=he.row _ (bJS hir)
  generalize hR1:(cZ l R i).set i ((cZ l R i).getD i false||cB l.exit[i])=R1
  have hR1l:R1.length=l.exit.length:=by rw[← hR1,bLO]; omega
  have bHS:cZ l R (i+1)=cS R1 i l.bHP[i] (l.bHP[i]).length:=by
   simp only[cZ,xO]
   have e1:(l.exit.map cB).getD i false=cB l.exit[i]:=by simp[bKH,hlt]
   have e2:l.bHP.getD i []=l.bHP[i]:=by simp[bKH,hir]
   rw[e1,e2,hR1]
  have rest:∀ (F:PF) (H:PH),(((((((PF.nil.set 1 (.bH l.cells)).set 3 (.osl o 1 0 l.exit.length)).set 4 (.int .i64 r)).set 19 (.int .i64 (l.exit.length:Nat))).set 20 (.int .i64 i)).set 5 (.int .i64 i)):PF).le F→H o=some (.rows 1 (fU R1)) →
    aC.wp C (.seq (.region XN) (.block 4 (.loop yP))) (dW 3 (iV C (aC.wp C (.region NF)) (eE (fun i=>FY l o r i) (fun i=>gJ o (cZ l R i)) (fun i=>i≤l.exit.length) (fun i=>l.exit.length-i) (l.exit.length-i) (dW 2 K)))) F H:=by
   intro F H hF hH
   have f1:F 1=some (.bH l.cells):=hF 1 _ rfl
   have f3:F 3=some (.osl o 1 0 l.exit.length):=hF 3 _ rfl
   have f4:F 4=some (.int .i64 r):=hF 4 _ rfl
   have f19:F 19=some (.int .i64 (l.exit.length:Nat)):=hF 19 _ rfl
   have f20:F 20=some (.int .i64 i):=hF 20 _ rfl
   have f5:F 5=some (.int .i64 i):=hF 5 _ rfl
   rw[bqD]
   simp only[go_sem,δ,γ,θ,XN,f1,f5,bHX,bJO]
   have inner:=aPR L l o r i l.bHP[i] (hl.row _ (bJS hir)) hrl hlt hn R1 hR1l
   simp only[aC.wp,go_sem] at inner
   refine inner _ _ _ ?_ (PH.aI PH.nil_le hH) ?_
   ·unfold qV
    exact Lq
   ·intro F' H' hF' hH'
    have g20:F' 20=some (.int .i64 i):=hF' 20 _ (by unfold qV; simp only[go_sem,γ])
    simp only[go_sem,NF,g20,wZz i]
    refine aG (i+1) hlt Om ?_ (by rw[bHS]; exact hH')
    have g:=fun (q:Nat) v h=>hF' q v h
    unfold FY
    unfold qV at g
    refine PF.aI (PF.aI (PF.aI (PF.aI (PF.aI PF.nil_le ?_) ?_) ?_) ?_) ?_
    ·simp only[go_sem,γ]; exact g 1 _ rfl
    ·simp only[go_sem,γ]; exact g 3 _ rfl
    ·simp only[go_sem,γ]; exact g 4 _ rfl
    ·simp only[go_sem,γ]; exact g 19 _ rfl
    ·simp only[go_sem,γ]
  simp only[aC.wp,go_sem] at rest
  simp only[go_sem,γ,yQ,XL,FY,gJ,bHR,aDD]
  generalize hb:(cZ l R i).getD i false=b at *
  cases b with
  | true =>
   simp only[go_sem,γ,XM,bHR,bKN,hat]
   refine rest _ _ Lq ?_
   rw[← hR1]
   simp only[go_sem,kP,Bool.true_or]
  | false =>
   simp only[go_sem,δ,γ,XM,bHR,bKN,hat,hx]
   refine aA (L.uI _ (hl.exit.all _ (bJS hlt))) rfl ?_
   simp only[go_sem,γ,reduceCtorEq,bHR,bKN,hat]
   refine rest _ _ Lq ?_
   rw[← hR1]
   simp only[go_sem,kP,Bool.false_or]
 ·have bHR:¬ (i:Int)<(l.exit.length:Nat):=by omega
  simp only[go_sem,γ,yQ,XL,FY,gJ,bHR]
  have:i=l.exit.length:=by omega
  subst this
  exact hK _ _ (by unfold ST; exact Lq) PH.le_refl
theorem bgE {C:Ctx} (L:qO C) (l:cN) (hl:l.Ok) (he:yG l):GK.wp C (aU adJ.res (cA (.bool (uR l)))) (PF.args [.agg l.cells]) .nil:=by
 have hn:=he.n
 have hb1:((l.exit.length:Nat):Int)*((1:Nat):Int)≤140737488355328:=by omega
 have hb2:((l.exit.length:Nat):Int)≤9223372036854775807:=by omega
 simp only[go_sem,γ,GK,aCY,aCZ,adJ,bJO,hb1,hb2]
 refine aQ fun o ho=>?_
 simp only[go_sem,γ,aDA]
 refine wp_loop (α:=Nat) (fun r=>ST l o r) (fun r=>gJ o (dJ l r)) (fun r=>r≤l.exit.length+1) (fun r=>l.exit.length+1-r) 0 (bJY _) ?_ ?_ ?_
 ·unfold ST
  exact Lq
 ·refine PH.aI PH.nil_le ?_
  simp only[go_sem,dJ]
  simp[fU]
 intro r hr
 have hlen:=oK l r
 simp only[go_sem,γ,apX,aDB,ST,gJ]
 by_cases hlt:r≤l.exit.length
 ·have bHR:(r:Int)≤(l.exit.length:Nat):=by omega
  simp only[go_sem,γ,bHR,aDC]
  have inner:=aPS L l hl he o r (dJ l r) hlen
  simp only[aC.wp,go_sem] at inner
  refine inner _ _ _ ?_ PH.le_refl ?_
  ·unfold FY
   exact Lq
  ·intro F' H' hF' hH'
   have g:=fun (q:Nat) v h=>hF' q v h
   unfold ST at g
   have g4:F' 4=some (.int .i64 r):=g 4 _ rfl
   simp only[go_sem,γ,apZ,g4,wZz r]
   refine aG (r+1) Om Om ?_ hH'
   refine PF.aI (PF.aI (PF.aI PF.nil_le ?_) ?_) ?_
   ·simp only[go_sem,γ]; exact g 1 _ rfl
   ·simp only[go_sem,γ]; exact g 3 _ rfl
   ·simp only[go_sem,γ]
 ·have bHR:¬ (r:Int)≤(l.exit.length:Nat):=by omega
  have:r=l.exit.length+1:=by omega
  subst this
  simp only[go_sem,γ,bHR,aqA]
  have bIR:=L.allb id 103 (dJ l (l.exit.length+1)) (Om:(dJ l (l.exit.length+1)).length≤_) fun x _=>L.ends1 x
  have hbl:(fU (dJ l (l.exit.length+1))).length=l.exit.length:=by rw[a7K,hlen]
  refine pD bIR (rs:=fU (dJ l (l.exit.length+1))) (o:=o) (s:=1) Sq ?_ ?_
  ·simp only[go_sem,γ,oA (show l.exit.length≤(fU (dJ l (l.exit.length+1))).length by omega),bKF (show (fU (dJ l (l.exit.length+1))).length≤l.exit.length by omega)]
  ·simp only[go_sem,γ]
   exact bA rfl rfl
structure aaH (C:Ctx):Prop extends ayT C where
 ends:∀ l:cN,l.Ok→yG l→aD C 102 [.agg l.cells] .nil (aE (.bool (uR l)))
def pP (l:cN) (i:Nat):Bool:=decide ((l.bHP.getD i []).length=l.start.length)&&(l.bHP.getD i []).all cJ&&!((l.bHP.getD i []).map cB).getD i false
def sL (l:cN):Bool:=match nP (l.start.map RF.v) with
 | .ok (n,a,b)=>decide (pO n a b false 1 1=0)
 | .error _=>false
theorem aUF (l:cN):kC l=(within l.start.length 1 4&&decide (l.exit.length=l.start.length)&&decide (l.bHP.length=l.start.length)&&l.start.all cJ&&l.exit.all cJ&&(bJP l.bHP.length).all (pP l)&&sL l&&uR l):=rfl
theorem aKZ {l:List FV} {e:Int} (h:nP l=.error e):e≠0:=by
 have:∀ (l:List FV) (b:FV) (e:Int),l.foldlM gZ b=.error e→e≠0:=by
  intro l
  induction l with
  | nil=>intro b e h; cases h
  | cons x t ih =>
   intro b e h
   rw[List.foldlM_cons] at h
   cases hx:gZ b x with
   | error e' =>
    rw[hx] at h
    have:e'=e:=by injection h
    subst this
    obtain⟨n1,a1,b1⟩:=b
    obtain⟨n2,a2,b2⟩:=x
    simp only[gZ] at hx
    split at hx
    ·split at hx
     ·rw[HF hx]; decide
     ·split at hx
      ·rw[HF hx]; decide
      ·rw[HF hx]; decide
    ·injection hx with hx; subst hx; decide
   | ok y=>rw[hx] at h; exact ih y e h
 exact this l _ e h
theorem aXR {l:List FV} {r:FV} (h:nP l=.ok r):r.rf.Ok:=by
 have:∀ (l:List FV) (b r:FV),b.rf.Ok→l.foldlM gZ b=.ok r→r.rf.Ok:=by
  intro l
  induction l with
  | nil=>intro b r hb h; injection h with h; subst h; exact hb
  | cons x t ih =>
   intro b r hb h
   rw[List.foldlM_cons] at h
   cases hx:gZ b x with
   | error e'=>rw[hx] at h; cases h
   | ok y=>rw[hx] at h; exact ih y r (alF hx) h
 refine this l _ r ⟨aV _,aV _,?_,?_⟩ h
 ·show (aH 0).length≤_
  rw[fC]; simp
 ·show (aH 1).length≤_
  rw[mM (by decide) (by decide)]; simp
theorem HG {neg:Bool} {a b:Nat} {r:FV} (hb:b≠0) (h:gS neg a b=.ok r):cP r.2.1 r.2.2=true:=by
 unfold gS at h
 split at h
 ·cases h
 ·rename_i hc
  injection h with h
  subst h
  have hg:bJT a b ∣ b:=Nat.gcd_dvd_right _ _
  have h0:b/bJT a b≠0:=by
   have:=Nat.div_pos (Nat.le_of_dvd (bLW hb) hg) (bLW fun h=>hb (Nat.gcd_eq_zero_iff.1 h).2)
   omega
  have h1:=@jH (b/bJT a b)
  simp only[cP,bKM,decide_eq_true_eq]
  omega
theorem a1H {x y r:FV} (h:gZ x y=.ok r):cP r.2.1 r.2.2=true:=by
 obtain⟨n1,a1,b1⟩:=x
 obtain⟨n2,a2,b2⟩:=y
 simp only[gZ] at h
 split at h
 ·rename_i hv
  rw[bKM] at hv
  have h0:b1*b2≠0:=Nat.mul_ne_zero (fE.1 hv.1).1 (fE.1 hv.2).1
  split at h
  ·exact HG h0 h
  ·split at h
   ·exact HG h0 h
   ·exact HG h0 h
 ·cases h
theorem a5U:cP 0 1=true:=by
 have:cD 1=1:=by rw[nF (by decide),jA]
 simp[cP,this,jA]
theorem afY {l:List FV} {r:FV} (h:nP l=.ok r):cP r.2.1 r.2.2=true:=by
 have:∀ (l:List FV) (b r:FV),cP b.2.1 b.2.2=true→l.foldlM gZ b=.ok r→cP r.2.1 r.2.2=true:=by
  intro l
  induction l with
  | nil=>intro b r hb h; injection h with h; subst h; exact hb
  | cons x t ih =>
   intro b r hb h
   rw[List.foldlM_cons] at h
   cases hx:gZ b x with
   | error e'=>rw[hx] at h; cases h
   | ok y=>rw[hx] at h; exact ih y r (a1H hx) h
 exact this l _ r a5U h
theorem bfS:(⟨false,[],[]⟩:RF).Ok:=⟨fun _ h=>absurd h (bLC),fun _ h=>absurd h (bLC),show 0≤35184372087808 by decide,show 0≤35184372087808 by decide⟩
def bgT (l:cN) (k:Nat):PF:=(((((PF.nil.set 1 (.bH l.cells)).set 3 (.int .i64 (l.start.length:Nat))).set 45 (a4W l.bHP)).set 46 (.int .i64 (l.bHP.length:Nat))).set 47 (.int .i64 k))
theorem a8P {C:Ctx} (L:aaH C) (l:cN) (hl:l.Ok) (he:yG l) (F:PF) (hF:F 1=some (.bH l.cells)) :
  aC.wp C (.seq (.region XO) (.seq (.region GL) (.seq (.region GM) (.seq (.region rZ) .ret)))) (aU [.tmp 2] (cA (.bool (sL l&&uR l)))) F .nil:=by
 simp only[go_sem,δ,θ,XO,hF]
 refine aA (L.tot l.start hl.start) rfl ?_
 obtain⟨neg',x,y,e,hs⟩:=rV (nP (l.start.map RF.v))
 have go:∀ (z:RF) (e:Int),z.Ok→(e=0→(yK z.neg (val z.num) (val z.den) false 1 1=.tup [.int .i64 (pO z.neg (val z.num) (val z.den) false 1 1),.int .i64 0])∧sL l=decide (pO z.neg (val z.num) (val z.den) false 1 1=0))→(e≠0→sL l=false) →
   frV (nP (l.start.map RF.v))=.tup [.agg z.cells,.int .i64 e] →
   wpOps C [⟨(some 69),.mv (.tmp 72),none⟩,⟨(some 73),.extract (.tmp 69) 0,none⟩,⟨(some 74),.extract (.tmp 69) 1,none⟩,⟨(some 6),.alloc [(.bool false),.aB,.aB],none⟩,⟨none,.store 3 (.tmp 6) (.tmp 73),none⟩,⟨(some 7),.mv (.tmp 74),none⟩]
    (aC.wp C (.seq (.region GL) (.seq (.region GM) (.seq (.region rZ) .ret))) (aU [.tmp 2] (cA (.bool (sL l&&uR l))))) ((((F.set 70 (.bH [frs l.start,a4W l.bHP,frs l.exit])).set 71 (frs l.start))).set 72 (.tup [.agg z.cells,.int .i64 e])) .nil:=by
  intro z e hz h0 h1 _
  simp only[go_sem,δ,γ]
  refine aQ fun o6 ho6=>?_
  simp only[go_sem,δ,γ,GL]
  refine aA (L.frac 1 1 (by decide) (by decide)) rfl ?_
  rw[aFN]
  simp only[go_sem,δ,γ,frV]
  refine aQ fun o8 ho8=>?_
  have n8:o6≠o8:=by rintro rfl; simp only[bM,if_true] at ho8; cases ho8
  simp only[go_sem,δ,γ,GM,n8]
  refine aA (L.ord z (FV.rf (false,1,1)) hz baG) rfl ?_
  rw[show val (FV.rf (false,1,1)).num=1 from aS 1,show val (FV.rf (false,1,1)).den=1 from aS 1,show (FV.rf (false,1,1)).neg=false from rfl]
  by_cases c:e=0
  ·obtain⟨g1,g2⟩:=h0 c
   rw[g1,g2]
   by_cases d:pO z.neg (val z.num) (val z.den) false 1 1=0
   ·simp only[go_sem,δ,γ,rZ,bX c,bX d,hF]
    refine aA (L.ends l hl he) rfl ?_
    simp only[go_sem,γ]
    exact bA rfl (by rw[decide_eq_true d,bKA])
   ·simp only[go_sem,γ,reduceCtorEq,rZ,bX c,bG d]
    exact bA rfl (by rw[decide_eq_false d,bJU])
  ·rw[h1 c]
   have:∃ v w,yK z.neg (val z.num) (val z.den) false 1 1=.tup [.int .i64 v,.int .i64 w]:=by
    unfold yK
    split
    ·exact⟨_,_,rfl⟩
    ·exact⟨_,_,rfl⟩
   obtain⟨v,w,hv⟩:=this
   rw[hv]
   simp only[go_sem,γ,reduceCtorEq,rZ,bG c]
   exact bA rfl rfl
 cases hs':nP (l.start.map RF.v) with
 | error e =>
  rw[hs'] at go
  exact go ⟨false,[],[]⟩ e bfS (fun h=>absurd h (aKZ hs')) (fun _=>by rw[sL,hs']) rfl
 | ok r =>
  obtain⟨n,a,b⟩:=r
  rw[hs'] at go
  have hr:=aXR hs'
  refine go (FV.rf (n,a,b)) 0 hr (fun _=>?_) (fun h=>absurd rfl h) rfl
  rw[show val (FV.rf (n,a,b)).num=a from aS a,show val (FV.rf (n,a,b)).den=b from aS b,show (FV.rf (n,a,b)).neg=n from rfl]
  refine⟨?_,by rw[sL,hs']⟩
  have hv:cP a b=true:=afY hs'
  rw[yK,hv,auH]
  rfl
theorem bmI {C:Ctx} (L:aaH C) (l:cN) (hl:l.Ok):NG.wp C (aU aDF.res (cA (.bool (kC l)))) (PF.args [.agg l.cells]) .nil:=by
 rw[aUF]
 simp only[go_sem,δ,γ,θ,NG,aTA,aTB,aDF,aTC,bJO]
 refine aA (L.inn l.start.length 1 4) rfl ?_
 cases c1:within l.start.length 1 4 with
 | false =>
  simp only[go_sem,γ,bKD,wD]
  exact bA rfl (by simp only[bJU])
 | true =>
  obtain⟨n1,n2⟩:=within_iff.1 c1
  by_cases c2:l.exit.length=l.start.length
  ·rw[decide_eq_true c2]
   by_cases c3:l.bHP.length=l.start.length
   ·rw[decide_eq_true c3]
    simp only[go_sem,δ,γ,θ,reduceCtorEq,bJV,bJO,bV (Om:((l.exit.length:Nat):Int)=(l.start.length:Nat)),bV (Om:((l.bHP.length:Nat):Int)=(l.start.length:Nat))]
    refine aA (L.bgY l.start hl.start) rfl ?_
    cases c4:l.start.all cJ with
    | false =>
     simp only[go_sem,γ,reduceCtorEq,bKD,wD]
     exact bA rfl (by simp only[bJU])
    | true =>
     simp only[go_sem,γ,reduceCtorEq,bJV]
     refine aA (L.bgY l.exit hl.exit) rfl ?_
     cases c5:l.exit.all cJ with
     | false =>
      simp only[go_sem,γ,reduceCtorEq,bKD,wD]
      exact bA rfl (by simp only[bJU])
     | true =>
      simp only[go_sem,δ,γ,θ,reduceCtorEq,bJV,aTD,bJO]
      have hrk:∀ k (h:k<l.bHP.length),pP l k=(decide ((l.bHP[k]).length=l.start.length)&&(l.bHP[k]).all cJ&&!((l.bHP[k]).map cB).getD k false):=by
       intro k h
       have:l.bHP.getD k []=l.bHP[k]:=by simp[bKH,h]
       rw[pP,this]
      refine wp_loop (α:=Nat) (fun k=>bgT l k) (fun _=>.nil) (fun k=>k≤l.bHP.length∧mT (pP l) k) (fun k=>l.bHP.length-k) 0 ⟨bJY _,.zero⟩ ?_ PH.nil_le ?_
      ·unfold bgT
       (repeat' (first|exact PF.nil_le|refine PF.aI ?_ ?_))<;>first|(simp only[go_sem,γ,bJO]<;>rfl)|rfl
      rintro k ⟨hk,ha⟩
      simp only[go_sem,γ,aDG,aTE,bgT]
      by_cases hlt:k<l.bHP.length
      ·have bHR:(k:Int)<(l.bHP.length:Nat):=by omega
       have hr:(l.bHP.map fun r=>[frs r])[k]?=some [frs l.bHP[k]]:=by simp[hlt]
       have hk2:=hrk k hlt
       have hrok:=hl.row l.bHP[k] (bJS hlt)
       simp only[go_sem,γ,bHR,aTF,hr,aTG,bJO]
       by_cases d1:(l.bHP[k]).length=l.start.length
       ·rw[decide_eq_true d1,bKA] at hk2
        simp only[go_sem,γ,bV (show (((l.bHP[k]).length:Nat):Int)=(l.start.length:Nat) by omega)]
        refine aA (L.bgY _ hrok) rfl ?_
        cases d2:(l.bHP[k]).all cJ with
        | false =>
         rw[d2,bJU] at hk2
         simp only[go_sem,γ,reduceCtorEq,bKD,TA]
         refine bA (b:=false) rfl ?_
         have:(bJP l.bHP.length).all (pP l)=false:=dQ hlt hk2
         rw[this]; simp only[bJU,bLA]
        | true =>
         have hkr:k<(l.bHP[k]).length:=by omega
         have hx:((l.bHP[k]).map RF.cells)[k]?=some ((l.bHP[k])[k]).cells:=by simp[hkr]
         have hab:((l.bHP[k]).map cB).getD k false=cB (l.bHP[k])[k]:=by simp[bKH,hkr]
         rw[d2,bKA,hab] at hk2
         simp only[go_sem,δ,γ,reduceCtorEq,bJV,hx]
         refine aA (L.uI _ (hrok.all _ (bJS hkr))) rfl ?_
         cases d3:cB (l.bHP[k])[k] with
         | true =>
          rw[d3] at hk2
          simp only[go_sem,γ,reduceCtorEq,TA]
          refine bA (b:=false) rfl ?_
          have:(bJP l.bHP.length).all (pP l)=false:=dQ hlt hk2
          rw[this]; simp only[bJU,bLA]
         | false =>
          rw[d3] at hk2
          simp only[go_sem,γ,reduceCtorEq,aTH,wZz k]
          refine aG (k+1) ⟨hlt,ha.step hk2⟩ Om ?_ PH.nil_le
          exact Lq
       ·simp only[decide_eq_false d1,bJU] at hk2
        simp only[go_sem,γ,cI (show (((l.bHP[k]).length:Nat):Int)≠(l.start.length:Nat) by omega),TA]
        refine bA (b:=false) rfl ?_
        have:(bJP l.bHP.length).all (pP l)=false:=dQ hlt hk2
        rw[this]; simp only[bJU,bLA]
      ·have bHR:¬ (k:Int)<(l.bHP.length:Nat):=by omega
       have:k=l.bHP.length:=by omega
       subst this
       have bJB:(bJP l.bHP.length).all (pP l)=true:=ha
       have he:yG l:=⟨by omega,by omega,fun r hr=>by
        obtain⟨i,hi,rfl⟩:=bLV hr
        have:=bKK.1 bJB i (bKZ.2 hi)
        rw[hrk i hi] at this
        simp only[bKM,decide_eq_true_eq] at this
        omega⟩
       have tail:=a8P L l hl he
       simp only[aC.wp,go_sem] at tail
       rw[bJB]
       simp only[go_sem,bHR,bKA,bLP]
       exact tail _ rfl
   ·simp only[go_sem,δ,γ,θ,reduceCtorEq,bJV,bJO,bV (Om:((l.exit.length:Nat):Int)=(l.start.length:Nat)),cI (Om:((l.bHP.length:Nat):Int)≠(l.start.length:Nat)),wD]
    exact bA rfl (by rw[decide_eq_false c3]; simp only[bJU,bLA])
  ·simp only[go_sem,γ,reduceCtorEq,bJV,bJO,cI (Om:((l.exit.length:Nat):Int)≠(l.start.length:Nat)),wD]
   exact bA rfl (by rw[decide_eq_false c2]; simp only[bJU,bLA])
structure jL (C:Ctx):Prop extends aaH C where
 law:∀ l:cN,l.Ok→aD C 95 [.agg l.cells] .nil (aE (.bool (kC l)))
 pol:∀ (p:dB) (n:Nat),p.Ok→n≤4→aD C 112 [.agg p.cells,.int .i64 n] .nil (aE (.bool (jD n p)))
 bHV:∀ f:aJ,f.Ok→aD C 111 [.agg f.cells] .nil (aE (.bool (mV f)))
abbrev eK (l:List (List UInt8)):List (List PV):=l.map fun s=>[PV.str s]
theorem tT (l:List (List UInt8)) {k:Nat} (h:k<l.length):eK (l.take k)++[[.str l[k]]]=eK (l.take (k+1)):=by
 unfold eK
 rw[bLL h,bLK]; rfl
theorem qJ {l:List (List UInt8)} (h:l.length≤1000):roomFor (eK l).length 1 16:=by
 unfold roomFor eK
 simp only[bJO,maxLen]; omega
def gX {α:Type} (l:List α) (p:α→Bool) (k:Nat):Bool:=(l.take k).all p
theorem qR {α:Type} (l:List α) (p:α→Bool):gX l p 0=true:=rfl
theorem qQ {α:Type} (l:List α) (p:α→Bool) {k:Nat} (h:k<l.length):gX l p (k+1)=(gX l p k&&p l[k]):=by
 unfold gX
 rw[bLL h,List.all_append]; simp
theorem tD {α:Type} (l:List α) (p:α→Bool):gX l p l.length=l.all p:=by unfold gX; rw[bKL]
def hJ (f:aJ) (w3 w4 w5 w6 w7:PV) (ok:Bool):PF:=(((((((PF.nil.set 1 (.bH f.cells)).set 3 (w3)).set 4 (w4)).set 5 (w5)).set 6 (w6)).set 7 (w7)).set 8 (.bool ok))
structure jO (F:PF) (f:aJ) (w3 w4 w5 w6 w7:PV) (ok:Bool):Prop where
 a1:F 1=some (.bH f.cells)
 a3:F 3=some w3
 a4:F 4=some w4
 a5:F 5=some w5
 a6:F 6=some w6
 a7:F 7=some w7
 a8:F 8=some (.bool ok)
theorem a2V {C:Ctx} (L:jL C) (f:aJ) (hf:f.Ok) (hs:f.bHT.length≤4) (w4 w5 w6 w7:PV) (K:cQ) (F:PF) (H:PH) (hv:jO F f .aB w4 w5 w6 w7 true)
  (h67:F 67=some (.sl 4 (f.bHT.map cN.cells))) (h68:F 68=some (.int .i64 (f.bHT.length:Nat))) (h69:F 69=some (.int .i64 0))
  (hK:∀ v F' H',jO F' f v w4 w5 w6 w7 (f.bHT.all kC)→bK H' 1 v (eK (f.bHT.map cN.name))→K (.exit 0) F' H') :
  aC.wp C (.loop GQ) K F H:=by
 refine wp_loop (α:=Nat × PV × PH) (fun t=>(((hJ f t.2.1 w4 w5 w6 w7 (gX f.bHT kC t.1)).set 67 (.sl 4 (f.bHT.map cN.cells))).set 68 (.int .i64 (f.bHT.length:Nat))).set 69 (.int .i64 t.1)) (fun t=>t.2.2)
  (fun t=>t.1≤f.bHT.length∧bK t.2.2 1 t.2.1 (eK ((f.bHT.map cN.name).take t.1))) (fun t=>f.bHT.length-t.1) (0,.aB,.nil) ⟨bJY _,.nil⟩ ?_ PH.nil_le ?_
 ·unfold hJ
  (repeat' (first|exact PF.nil_le|refine PF.aI ?_ ?_))<;>first|(simp only[go_sem,hv.a1,hv.a3,hv.a4,hv.a5,hv.a6,hv.a7,hv.a8,h67,h68,h69,qR]<;>rfl)|rfl
 rintro⟨k,v,H0⟩ ⟨hk,hO⟩
 simp only at hk hO ⊢
 simp only[go_sem,γ,GQ,aUC,hJ]
 by_cases hlt:k<f.bHT.length
 ·have bHR:(k:Int)<(f.bHT.length:Nat):=by omega
  have hr:(f.bHT.map cN.cells)[k]?=some (f.bHT[k]).cells:=by simp[hlt]
  have hsn:=tT (f.bHT.map cN.name) (k:=k) (by simpa using hlt)
  rw[bLY] at hsn
  simp only[go_sem,δ,γ,bHR,aUD,hr]
  refine aQ fun o ho=>?_
  simp only[go_sem,υ,δ,γ,η,θ,ζ,aUE]
  refine lL hO ho (qJ (by simp; omega)) fun v' H' hO' ho'=>?_
  rw[hsn] at hO'
  have bHS:=qQ f.bHT kC hlt
  cases hb:gX f.bHT kC k with
  | false =>
   rw[hb,bJU] at bHS
   simp only[go_sem,γ,reduceCtorEq,alZ,ho',XR,wZz k]
   refine aG (k+1,v',H') ⟨hlt,hO'⟩ (by simp only; omega) ?_ PH.le_refl
   simp only[bHS]
   exact Lq
  | true =>
   rw[hb,bKA] at bHS
   simp only[go_sem,δ,γ,alZ,ho']
   refine aA (L.law _ (hf.law _ (bJS hlt))) Ev ?_
   simp only[go_sem,γ,XR,wZz k]
   refine aG (k+1,v',H') ⟨hlt,hO'⟩ (by simp only; omega) ?_ PH.le_refl
   simp only[bHS]
   exact Lq
 ·have bHR:¬ (k:Int)<(f.bHT.length:Nat):=by omega
  have:k=f.bHT.length:=by omega
  subst this
  rw[bKF (by simp)] at hO
  rw[tD]
  simp only[go_sem,bHR]
  exact hK v _ _ ⟨by simp only[go_sem,γ],by simp only[go_sem,γ],by simp only[go_sem,γ],by simp only[go_sem,γ],by simp only[go_sem,γ],by simp only[go_sem,γ],by simp only[go_sem,γ]⟩ hO
theorem zN {n:Nat} (h:n≤1000):IntKind.i64.wrap ((n:Int)-1)=(n:Int)-1:=wrap_i64 Om Om
theorem a2W {C:Ctx} (L:jL C) (f:aJ) (hs:f.bHL.length≤4) (hl:f.bHT.length≤4) (b0:Bool) (w3 w5 w6 w7:PV) (K:cQ) (F:PF) (H:PH) (hv:jO F f w3 .aB w5 w6 w7 b0)
  (h67:F 85=some (.sl 4 (f.bHL.map cV.cells))) (h68:F 86=some (.int .i64 (f.bHL.length:Nat))) (h69:F 87=some (.int .i64 0))
  (hK:∀ v F' H',jO F' f w3 v w5 w6 w7 (b0&&f.bHL.all (jI f))→bK H' 1 v (eK (f.bHL.map cV.name))→K (.exit 2) F' H') :
  aC.wp C (.loop GR) K F H:=by
 refine wp_loop (α:=Nat × PV × PH) (fun t=>(((hJ f w3 t.2.1 w5 w6 w7 (b0&&gX f.bHL (jI f) t.1)).set 85 (.sl 4 (f.bHL.map cV.cells))).set 86 (.int .i64 (f.bHL.length:Nat))).set 87 (.int .i64 t.1)) (fun t=>t.2.2)
  (fun t=>t.1≤f.bHL.length∧bK t.2.2 1 t.2.1 (eK ((f.bHL.map cV.name).take t.1))) (fun t=>f.bHL.length-t.1) (0,.aB,.nil) ⟨bJY _,.nil⟩ ?_ PH.nil_le ?_
 ·unfold hJ
  (repeat' (first|exact PF.nil_le|refine PF.aI ?_ ?_))<;>first|(simp only[go_sem,hv.a1,hv.a3,hv.a4,hv.a5,hv.a6,hv.a7,hv.a8,h67,h68,h69,qR,bLP]<;>rfl)|rfl
 rintro⟨k,v,H0⟩ ⟨hk,hO⟩
 simp only at hk hO ⊢
 simp only[go_sem,γ,GR,aEB,hJ]
 by_cases hlt:k<f.bHL.length
 ·have bHR:(k:Int)<(f.bHL.length:Nat):=by omega
  have hr:(f.bHL.map cV.cells)[k]?=some (f.bHL[k]).cells:=by simp[hlt]
  have hsn:=tT (f.bHL.map cV.name) (k:=k) (by simpa using hlt)
  rw[bLY] at hsn
  simp only[go_sem,δ,γ,bHR,aEC,hr]
  refine aQ fun o ho=>?_
  simp only[go_sem,υ,δ,γ,η,θ,ζ,aED]
  refine lL hO ho (qJ (by simp; omega)) fun v' H' hO' ho'=>?_
  rw[hsn] at hO'
  have bHS:=qQ f.bHL (jI f) hlt
  have fin:∀ (c:Bool) (F':PF),c=(b0&&gX f.bHL (jI f) (k+1))→((((hJ f w3 v' w5 w6 w7 c).set 85 (.sl 4 (f.bHL.map cV.cells))).set 86 (.int .i64 (f.bHL.length:Nat))).set 87 (.int .i64 (k+1:Nat))).le F' →
    eE (fun (t:Nat × PV × PH)=>(((hJ f w3 t.2.1 w5 w6 w7 (b0&&gX f.bHL (jI f) t.1)).set 85 (.sl 4 (f.bHL.map cV.cells))).set 86 (.int .i64 (f.bHL.length:Nat))).set 87 (.int .i64 t.1)) (fun (t:Nat × PV × PH)=>t.2.2)  (fun (t:Nat × PV × PH)=>t.1≤f.bHL.length∧bK t.2.2 1 t.2.1 (eK ((f.bHL.map cV.name).take t.1))) (fun (t:Nat × PV × PH)=>f.bHL.length-t.1) (f.bHL.length-k) K .normal F' H':=by
   intro c F' hc hle
   refine aG (α:=Nat × PV × PH) (k+1,v',H') ⟨hlt,hO'⟩ (by simp only; omega) ?_ PH.le_refl
   rw[hc] at hle
   exact hle
  unfold hJ at fin
  rw[bHS,← bMM] at fin
  have hm:jI f f.bHL[k]=(within (f.bHL[k]).bIE 1 16&&within (f.bHL[k]).port 1 64&&within (f.bHL[k]).law 0 ((f.bHT.length:Int)-1)):=rfl
  cases hb:(b0&&gX f.bHL (jI f) k) with
  | false =>
   rw[hb,bJU] at fin
   simp only[go_sem,γ,reduceCtorEq,XT,ho',xD,wZz k]
   refine fin false _ rfl ?_
   exact Lq
  | true =>
   rw[hb,bKA] at fin
   simp only[go_sem,δ,γ,θ,XT,ho']
   refine aA (L.inn _ 1 16) Ev ?_
   cases e1:within (f.bHL[k]).bIE 1 16 with
   | false =>
    simp only[go_sem,γ,reduceCtorEq,xD,wZz k]
    refine fin false _ (by rw[hm,e1]; simp only[bJU]) ?_
    exact Lq
   | true =>
    simp only[go_sem,δ,γ,θ,ho']
    refine aA (L.inn _ 1 64) Ev ?_
    cases e2:within (f.bHL[k]).port 1 64 with
    | false =>
     simp only[go_sem,γ,reduceCtorEq,xD,wZz k]
     refine fin false _ (by rw[hm,e1,e2]; simp only[bJU,bLA]) ?_
     exact Lq
    | true =>
     simp only[go_sem,δ,γ,θ,ho',bJO,zN (Om:f.bHT.length≤1000)]
     refine aA (L.inn _ 0 _) Ev ?_
     simp only[go_sem,γ,xD,wZz k]
     refine fin (within (f.bHL[k]).law 0 ((f.bHT.length:Int)-1)) _ (by rw[hm,e1,e2]; simp only[bKA]) ?_
     exact Lq
 ·have bHR:¬ (k:Int)<(f.bHL.length:Nat):=by omega
  have:k=f.bHL.length:=by omega
  subst this
  rw[bKF (by simp)] at hO
  rw[tD]
  simp only[go_sem,bHR]
  exact hK v _ _ ⟨by simp only[go_sem,γ],by simp only[go_sem,γ],by simp only[go_sem,γ],by simp only[go_sem,γ],by simp only[go_sem,γ],by simp only[go_sem,γ],by simp only[go_sem,γ]⟩ hO
theorem a2X {C:Ctx} (L:jL C) (f:aJ) (t:List bR) (hs:t.length≤40) (b0:Bool) (w3 w4 w6 w7:PV) (K:cQ) (F:PF) (H:PH) (hv:jO F f w3 w4 .aB w6 w7 b0)
  (h67:F 119=some (.sl 7 (t.map bR.cells))) (h68:F 120=some (.int .i64 (t.length:Nat))) (h69:F 121=some (.int .i64 0))
  (hK:∀ v F' H',jO F' f w3 w4 v w6 w7 b0→bK H' 1 v (eK (t.map bR.name))→K (.exit 4) F' H') :
  aC.wp C (.loop GT) K F H:=by
 refine wp_loop (α:=Nat × PV × PH) (fun a=>(((hJ f w3 w4 a.2.1 w6 w7 b0).set 119 (.sl 7 (t.map bR.cells))).set 120 (.int .i64 (t.length:Nat))).set 121 (.int .i64 a.1)) (fun a=>a.2.2)
  (fun a=>a.1≤t.length∧bK a.2.2 1 a.2.1 (eK ((t.map bR.name).take a.1))) (fun a=>t.length-a.1) (0,.aB,.nil) ⟨bJY _,.nil⟩ ?_ PH.nil_le ?_
 ·unfold hJ
  (repeat' (first|exact PF.nil_le|refine PF.aI ?_ ?_))<;>first|(simp only[go_sem,hv.a1,hv.a3,hv.a4,hv.a5,hv.a6,hv.a7,hv.a8,h67,h68,h69]<;>rfl)|rfl
 rintro⟨k,v,H0⟩ ⟨hk,hO⟩
 simp only at hk hO ⊢
 simp only[go_sem,γ,GT,aEE,hJ]
 by_cases hlt:k<t.length
 ·have bHR:(k:Int)<(t.length:Nat):=by omega
  have hr:(t.map bR.cells)[k]?=some (t[k]).cells:=by simp[hlt]
  have hsn:=tT (t.map bR.name) (k:=k) (by simpa using hlt)
  rw[bLY] at hsn
  simp only[go_sem,δ,γ,bHR,aEF,hr]
  refine aQ fun o ho=>?_
  simp only[go_sem,υ,δ,γ,η,θ,ζ,aEG]
  refine lL hO ho (qJ (by simp; omega)) fun v' H' hO' ho'=>?_
  rw[hsn] at hO'
  simp only[go_sem,γ,aEH,wZz k]
  refine aG (k+1,v',H') ⟨hlt,hO'⟩ (by simp only; omega) ?_ PH.le_refl
  exact Lq
 ·have bHR:¬ (k:Int)<(t.length:Nat):=by omega
  have:k=t.length:=by omega
  subst this
  rw[bKF (by simp)] at hO
  simp only[go_sem,bHR]
  exact hK v _ _ ⟨by simp only[go_sem,γ],by simp only[go_sem,γ],by simp only[go_sem,γ],by simp only[go_sem,γ],by simp only[go_sem,γ],by simp only[go_sem,γ],by simp only[go_sem,γ]⟩ hO
theorem a2Y {C:Ctx} (L:jL C) (f:aJ) (names:List (List UInt8)) (hn:names.length≤40) (hs:f.bHK.length≤24) (hm:f.bHL.length≤4) (hd:f.bHN.length≤40) (b0:Bool) (w3 w4 v0 w6 w7:PV) (K:cQ) (F:PF) (H:PH) (hv:jO F f w3 w4 v0 w6 w7 b0)
  (h0:bK H 1 v0 (eK names))
  (h67:F 132=some (.sl 3 (f.bHK.map cG.cells))) (h68:F 133=some (.int .i64 (f.bHK.length:Nat))) (h69:F 134=some (.int .i64 0))
  (hK:∀ v F' H',jO F' f w3 w4 v w6 w7 (b0&&f.bHK.all (gT f))→bK H' 1 v (eK (names++f.bHK.map cG.name))→K (.exit 6) F' H') :
  aC.wp C (.loop GU) K F H:=by
 refine wp_loop (α:=Nat × PV × PH) (fun t=>(((hJ f w3 w4 t.2.1 w6 w7 (b0&&gX f.bHK (gT f) t.1)).set 132 (.sl 3 (f.bHK.map cG.cells))).set 133 (.int .i64 (f.bHK.length:Nat))).set 134 (.int .i64 t.1)) (fun t=>t.2.2)
  (fun t=>t.1≤f.bHK.length∧bK t.2.2 1 t.2.1 (eK (names++(f.bHK.map cG.name).take t.1))) (fun t=>f.bHK.length-t.1) (0,v0,H) ⟨bJY _,by rw[List.take_zero,bLM]; exact h0⟩ ?_ PH.le_refl ?_
 ·unfold hJ
  (repeat' (first|exact PF.nil_le|refine PF.aI ?_ ?_))<;>first|(simp only[go_sem,hv.a1,hv.a3,hv.a4,hv.a5,hv.a6,hv.a7,hv.a8,h67,h68,h69,qR,bLP]<;>rfl)|rfl
 rintro⟨k,v,H0⟩ ⟨hk,hO⟩
 simp only at hk hO ⊢
 simp only[go_sem,γ,GU,aEI,hJ]
 by_cases hlt:k<f.bHK.length
 ·have bHR:(k:Int)<(f.bHK.length:Nat):=by omega
  have hr:(f.bHK.map cG.cells)[k]?=some (f.bHK[k]).cells:=by simp[hlt]
  have hsn:eK (names++(f.bHK.map cG.name).take k)++[[.str (f.bHK[k]).name]]=eK (names++(f.bHK.map cG.name).take (k+1)):=by
   rw[bLL (by simpa using hlt),← bKP,bLY]
   unfold eK
   simp only[bLK,bLR,List.map_nil]
  simp only[go_sem,δ,γ,bHR,aEJ,hr]
  refine aQ fun o ho=>?_
  simp only[go_sem,υ,δ,γ,η,θ,ζ,aEK]
  refine lL hO ho (qJ (by simp; omega)) fun v' H' hO' ho'=>?_
  rw[hsn] at hO'
  have bHS:=qQ f.bHK (gT f) hlt
  have fin:∀ (c:Bool) (F':PF),c=(b0&&gX f.bHK (gT f) (k+1))→((((hJ f w3 w4 v' w6 w7 c).set 132 (.sl 3 (f.bHK.map cG.cells))).set 133 (.int .i64 (f.bHK.length:Nat))).set 134 (.int .i64 (k+1:Nat))).le F' →
    eE (fun (t:Nat × PV × PH)=>(((hJ f w3 w4 t.2.1 w6 w7 (b0&&gX f.bHK (gT f) t.1)).set 132 (.sl 3 (f.bHK.map cG.cells))).set 133 (.int .i64 (f.bHK.length:Nat))).set 134 (.int .i64 t.1)) (fun (t:Nat × PV × PH)=>t.2.2)  (fun (t:Nat × PV × PH)=>t.1≤f.bHK.length∧bK t.2.2 1 t.2.1 (eK (names++(f.bHK.map cG.name).take t.1))) (fun (t:Nat × PV × PH)=>f.bHK.length-t.1) (f.bHK.length-k) K .normal F' H':=by
   intro c F' hc hle
   refine aG (α:=Nat × PV × PH) (k+1,v',H') ⟨hlt,hO'⟩ (by simp only; omega) ?_ PH.le_refl
   rw[hc] at hle
   exact hle
  unfold hJ at fin
  rw[bHS,← bMM] at fin
  have hmd:gT f f.bHK[k]=(within (f.bHK[k]).model 0 ((f.bHL.length:Int)-1)&&within (f.bHK[k]).machine 0 ((f.bHN.length:Int)-1)&&decide ((f.bHN.map bR.level).getD (f.bHK[k]).machine.toNat 0=4)):=rfl
  cases hb:(b0&&gX f.bHK (gT f) k) with
  | false =>
   rw[hb,bJU] at fin
   simp only[go_sem,γ,reduceCtorEq,XW,ho',sA,wZz k]
   refine fin false _ rfl ?_
   exact Lq
  | true =>
   rw[hb,bKA] at fin
   simp only[go_sem,δ,γ,θ,XW,ho',bJO,zN (Om:f.bHL.length≤1000)]
   refine aA (L.inn _ 0 _) Ev ?_
   cases e1:within (f.bHK[k]).model 0 ((f.bHL.length:Int)-1) with
   | false =>
    simp only[go_sem,γ,reduceCtorEq,sA,wZz k]
    refine fin false _ (by rw[hmd,e1]; simp only[bJU]) ?_
    exact Lq
   | true =>
    simp only[go_sem,δ,γ,θ,ho',bJO,zN (Om:f.bHN.length≤1000)]
    refine aA (L.inn _ 0 _) Ev ?_
    cases e2:within (f.bHK[k]).machine 0 ((f.bHN.length:Int)-1) with
    | false =>
     simp only[go_sem,γ,reduceCtorEq,sA,wZz k]
     refine fin false _ (by rw[hmd,e1,e2]; simp only[bJU,bLA]) ?_
     exact Lq
    | true =>
     obtain⟨i1,i2⟩:=within_iff.1 e2
     have i3:(f.bHK[k]).machine.toNat<f.bHN.length:=by omega
     have hpr:(f.bHN.map bR.cells)[(f.bHK[k]).machine.toNat]?=some (f.bHN[(f.bHK[k]).machine.toNat]).cells:=by simp[i3]
     have hlv:(f.bHN.map bR.level).getD (f.bHK[k]).machine.toNat 0=(f.bHN[(f.bHK[k]).machine.toNat]).level:=by simp[i3]
     rw[hlv] at hmd
     by_cases e3:(f.bHN[(f.bHK[k]).machine.toNat]).level=4
     ·simp only[go_sem,δ,γ,θ,ho',i1,hpr,bX e3,sA,wZz k]
      refine fin true _ (by rw[hmd,e1,e2,decide_eq_true e3]; rfl) ?_
      exact Lq
     ·simp only[go_sem,δ,γ,θ,ho',i1,hpr,bG e3,sA,wZz k]
      refine fin false _ (by rw[hmd,e1,e2,decide_eq_false e3]; rfl) ?_
      exact Lq
 ·have bHR:¬ (k:Int)<(f.bHK.length:Nat):=by omega
  have:k=f.bHK.length:=by omega
  subst this
  rw[bKF (by simp)] at hO
  rw[tD]
  simp only[go_sem,bHR]
  exact hK v _ _ ⟨by simp only[go_sem,γ],by simp only[go_sem,γ],by simp only[go_sem,γ],by simp only[go_sem,γ],by simp only[go_sem,γ],by simp only[go_sem,γ],by simp only[go_sem,γ]⟩ hO
theorem a2Z {C:Ctx} (L:jL C) (f:aJ) (hf:f.Ok) (hs:f.bHO.length≤4) (hm:f.bHL.length≤4) (b0:Bool) (w3 w4 w5 w7:PV) (K:cQ) (F:PF) (H:PH) (hv:jO F f w3 w4 w5 .aB w7 b0)
  (h67:F 174=some (.sl 17 (f.bHO.map dB.cells))) (h68:F 175=some (.int .i64 (f.bHO.length:Nat))) (h69:F 176=some (.int .i64 0))
  (hK:∀ v F' H',jO F' f w3 w4 w5 v w7 (b0&&f.bHO.all (jD f.bHL.length))→bK H' 1 v (eK (f.bHO.map dB.name))→K (.exit 8) F' H') :
  aC.wp C (.loop GW) K F H:=by
 refine wp_loop (α:=Nat × PV × PH) (fun t=>(((hJ f w3 w4 w5 t.2.1 w7 (b0&&gX f.bHO (jD f.bHL.length) t.1)).set 174 (.sl 17 (f.bHO.map dB.cells))).set 175 (.int .i64 (f.bHO.length:Nat))).set 176 (.int .i64 t.1)) (fun t=>t.2.2)
  (fun t=>t.1≤f.bHO.length∧bK t.2.2 1 t.2.1 (eK ((f.bHO.map dB.name).take t.1))) (fun t=>f.bHO.length-t.1) (0,.aB,.nil) ⟨bJY _,.nil⟩ ?_ PH.nil_le ?_
 ·unfold hJ
  (repeat' (first|exact PF.nil_le|refine PF.aI ?_ ?_))<;>first|(simp only[go_sem,hv.a1,hv.a3,hv.a4,hv.a5,hv.a6,hv.a7,hv.a8,h67,h68,h69,qR,bLP]<;>rfl)|rfl
 rintro⟨k,v,H0⟩ ⟨hk,hO⟩
 simp only at hk hO ⊢
 simp only[go_sem,γ,GW,aEL,hJ]
 by_cases hlt:k<f.bHO.length
 ·have bHR:(k:Int)<(f.bHO.length:Nat):=by omega
  have hr:(f.bHO.map dB.cells)[k]?=some (f.bHO[k]).cells:=by simp[hlt]
  have hsn:=tT (f.bHO.map dB.name) (k:=k) (by simpa using hlt)
  rw[bLY] at hsn
  simp only[go_sem,δ,γ,bHR,aEM,hr]
  refine aQ fun o ho=>?_
  simp only[go_sem,υ,δ,γ,η,θ,ζ,aEN]
  refine lL hO ho (qJ (by simp; omega)) fun v' H' hO' ho'=>?_
  rw[hsn] at hO'
  have bHS:=qQ f.bHO (jD f.bHL.length) hlt
  have fin:∀ (c:Bool) (F':PF),c=(b0&&gX f.bHO (jD f.bHL.length) (k+1))→((((hJ f w3 w4 w5 v' w7 c).set 174 (.sl 17 (f.bHO.map dB.cells))).set 175 (.int .i64 (f.bHO.length:Nat))).set 176 (.int .i64 (k+1:Nat))).le F' →
    eE (fun (t:Nat × PV × PH)=>(((hJ f w3 w4 w5 t.2.1 w7 (b0&&gX f.bHO (jD f.bHL.length) t.1)).set 174 (.sl 17 (f.bHO.map dB.cells))).set 175 (.int .i64 (f.bHO.length:Nat))).set 176 (.int .i64 t.1)) (fun (t:Nat × PV × PH)=>t.2.2)  (fun (t:Nat × PV × PH)=>t.1≤f.bHO.length∧bK t.2.2 1 t.2.1 (eK ((f.bHO.map dB.name).take t.1))) (fun (t:Nat × PV × PH)=>f.bHO.length-t.1) (f.bHO.length-k) K .normal F' H':=by
   intro c F' hc hle
   refine aG (α:=Nat × PV × PH) (k+1,v',H') ⟨hlt,hO'⟩ (by simp only; omega) ?_ PH.le_refl
   rw[hc] at hle
   exact hle
  unfold hJ at fin
  rw[bHS,← bMM] at fin
  cases hb:(b0&&gX f.bHO (jD f.bHL.length) k) with
  | false =>
   rw[hb,bJU] at fin
   simp only[go_sem,γ,reduceCtorEq,XZ,ho',YA,wZz k]
   refine fin false _ rfl ?_
   exact Lq
  | true =>
   rw[hb,bKA] at fin
   simp only[go_sem,δ,γ,θ,XZ,ho',bJO]
   refine aA (L.pol _ _ (hf.bHY _ (bJS hlt)) hm) Ev ?_
   simp only[go_sem,γ,YA,wZz k]
   refine fin _ _ rfl ?_
   exact Lq
 ·have bHR:¬ (k:Int)<(f.bHO.length:Nat):=by omega
  have:k=f.bHO.length:=by omega
  subst this
  rw[bKF (by simp)] at hO
  rw[tD]
  simp only[go_sem,bHR]
  exact hK v _ _ ⟨by simp only[go_sem,γ],by simp only[go_sem,γ],by simp only[go_sem,γ],by simp only[go_sem,γ],by simp only[go_sem,γ],by simp only[go_sem,γ],by simp only[go_sem,γ]⟩ hO
theorem a3A {C:Ctx} (L:jL C) (f:aJ) (hs:f.bHM.length≤12) (hl:f.bHO.length≤4) (b0:Bool) (w3 w4 w5 w6:PV) (K:cQ) (F:PF) (H:PH) (hv:jO F f w3 w4 w5 w6 .aB b0)
  (h67:F 195=some (.sl 2 (f.bHM.map eG.cells))) (h68:F 196=some (.int .i64 (f.bHM.length:Nat))) (h69:F 197=some (.int .i64 0))
  (hK:∀ v F' H',jO F' f w3 w4 w5 w6 v (b0&&f.bHM.all (mS f))→bK H' 1 v (eK (f.bHM.map eG.name))→K (.exit 10) F' H') :
  aC.wp C (.loop GX) K F H:=by
 refine wp_loop (α:=Nat × PV × PH) (fun t=>(((hJ f w3 w4 w5 w6 t.2.1 (b0&&gX f.bHM (mS f) t.1)).set 195 (.sl 2 (f.bHM.map eG.cells))).set 196 (.int .i64 (f.bHM.length:Nat))).set 197 (.int .i64 t.1)) (fun t=>t.2.2)
  (fun t=>t.1≤f.bHM.length∧bK t.2.2 1 t.2.1 (eK ((f.bHM.map eG.name).take t.1))) (fun t=>f.bHM.length-t.1) (0,.aB,.nil) ⟨bJY _,.nil⟩ ?_ PH.nil_le ?_
 ·unfold hJ
  (repeat' (first|exact PF.nil_le|refine PF.aI ?_ ?_))<;>first|(simp only[go_sem,hv.a1,hv.a3,hv.a4,hv.a5,hv.a6,hv.a7,hv.a8,h67,h68,h69,qR,bLP]<;>rfl)|rfl
 rintro⟨k,v,H0⟩ ⟨hk,hO⟩
 simp only at hk hO ⊢
 simp only[go_sem,γ,GX,aEO,hJ]
 by_cases hlt:k<f.bHM.length
 ·have bHR:(k:Int)<(f.bHM.length:Nat):=by omega
  have hr:(f.bHM.map eG.cells)[k]?=some (f.bHM[k]).cells:=by simp[hlt]
  have hsn:=tT (f.bHM.map eG.name) (k:=k) (by simpa using hlt)
  rw[bLY] at hsn
  simp only[go_sem,δ,γ,bHR,aEP,hr]
  refine aQ fun o ho=>?_
  simp only[go_sem,υ,δ,γ,η,θ,ζ,aEQ]
  refine lL hO ho (qJ (by simp; omega)) fun v' H' hO' ho'=>?_
  rw[hsn] at hO'
  have bHS:=qQ f.bHM (mS f) hlt
  have fin:∀ (c:Bool) (F':PF),c=(b0&&gX f.bHM (mS f) (k+1))→((((hJ f w3 w4 w5 w6 v' c).set 195 (.sl 2 (f.bHM.map eG.cells))).set 196 (.int .i64 (f.bHM.length:Nat))).set 197 (.int .i64 (k+1:Nat))).le F' →
    eE (fun (t:Nat × PV × PH)=>(((hJ f w3 w4 w5 w6 t.2.1 (b0&&gX f.bHM (mS f) t.1)).set 195 (.sl 2 (f.bHM.map eG.cells))).set 196 (.int .i64 (f.bHM.length:Nat))).set 197 (.int .i64 t.1)) (fun (t:Nat × PV × PH)=>t.2.2)  (fun (t:Nat × PV × PH)=>t.1≤f.bHM.length∧bK t.2.2 1 t.2.1 (eK ((f.bHM.map eG.name).take t.1))) (fun (t:Nat × PV × PH)=>f.bHM.length-t.1) (f.bHM.length-k) K .normal F' H':=by
   intro c F' hc hle
   refine aG (α:=Nat × PV × PH) (k+1,v',H') ⟨hlt,hO'⟩ (by simp only; omega) ?_ PH.le_refl
   rw[hc] at hle
   exact hle
  unfold hJ at fin
  rw[bHS,← bMM] at fin
  have hm:mS f f.bHM[k]=within (f.bHM[k]).bHY 0 ((f.bHO.length:Int)-1):=rfl
  cases hb:(b0&&gX f.bHM (mS f) k) with
  | false =>
   rw[hb,bJU] at fin
   simp only[go_sem,γ,reduceCtorEq,YC,ho',YD,wZz k]
   refine fin false _ rfl ?_
   exact Lq
  | true =>
   rw[hb,bKA,hm] at fin
   simp only[go_sem,δ,γ,θ,YC,ho',bJO,zN (Om:f.bHO.length≤1000)]
   refine aA (L.inn _ 0 _) Ev ?_
   simp only[go_sem,γ,YD,wZz k]
   refine fin _ _ rfl ?_
   exact Lq
 ·have bHR:¬ (k:Int)<(f.bHM.length:Nat):=by omega
  have:k=f.bHM.length:=by omega
  subst this
  rw[bKF (by simp)] at hO
  rw[tD]
  simp only[go_sem,bHR]
  exact hK v _ _ ⟨by simp only[go_sem,γ],by simp only[go_sem,γ],by simp only[go_sem,γ],by simp only[go_sem,γ],by simp only[go_sem,γ],by simp only[go_sem,γ],by simp only[go_sem,γ]⟩ hO
theorem lW {f:aJ} (h:¬ (f.bHT.length≤4∧f.bHL.length≤4∧f.bHN.length≤40∧f.bHK.length≤24∧f.bHO.length≤4∧f.bHM.length≤12)):lT f=false:=by
 rw[← Bool.not_eq_true]
 intro hs
 simp only[lT,bKM,decide_eq_true_eq] at hs
 omega
theorem aQM {f:aJ} (h:f.bHT.length≤4∧f.bHL.length≤4∧f.bHN.length≤40∧f.bHK.length≤24∧f.bHO.length≤4∧f.bHM.length≤12):lT f=within f.bIY 1 4:=by
 obtain⟨h1,h2,h3,h4,h5,h6⟩:=h
 simp[lT,h1,h2,h3,h4,h5,h6]
theorem lD {t:Nat} {n m:Int} {F:PF} {H:PH} (h:F t=some (.int .i64 n)) (e:n=m):aU [.tmp t] (cA (.int .i64 m)) .ret F H:=by
 subst e
 exact aX (.inr rfl) .nil (vs:=[.int .i64 n]) (by rw[lE,oM,h,qC]) PH.nil_le ⟨.refl _,rfl⟩
def pT (f:aJ):Int:=if dM f then 0 else 1
theorem a5T {f:aJ} (h:dM f=false):pT f=1:=by rw[pT,h]; rfl
theorem rP {C:Ctx} {F:PF} {H:PH} {name t s:Nat} {v r:PV} {rows:List (List PV)} {d:Option Nat} {K:PF→PH→Prop} (h:aD C name [.sl s rows] .nil (aE r)) (hO:bK H s v rows) (ht:F t=some v)
  (hK:∀ (F1:PF) (H1:PH),(∀ i u,F i=some u→Pure u→F1 i=some u)→K (F1.put d r) H1):fW C name [.tmp t] [] d K F H:=by
 rcases hO with ⟨rfl,rfl⟩ | ⟨q,rs,rfl,h1,h2,h3⟩
 ·refine aA (h.a4Z (.inl ⟨rfl,rfl⟩)) (by rw[wW,acM,ht,SU]) ?_
  exact hK F H fun i u hi _=>hi
 ·rw[← h3] at h
  refine oP (k:=rows.length) h ht h1 h2 (hK _ _ fun i u hi hp=>?_)
  rw[qW,hi,bKX,hp q s rs]
theorem Seen.pure {s:Nat} {v:PV} {rows:List (List PV)} (h:Seen s v rows):Pure v:=by
 rcases h with ⟨_,rfl⟩ | rfl
 ·exact fun _ _ _=>rfl
 ·exact fun _ _ _=>rfl
def bI (b:Bool):Int:=if b then 0 else 1
abbrev TF (f:aJ):List (List UInt8):=(f.bHN.drop 1).map bR.name++f.bHK.map cG.name
def sZ (f:aJ):Bool:=distinct (f.bHT.map cN.name)&&distinct (f.bHL.map cV.name)&&distinct (TF f)&&distinct (f.bHO.map dB.name)&&distinct (f.bHM.map eG.name)
structure Small (f:aJ):Prop where
 bHT:f.bHT.length≤4
 bHL:f.bHL.length≤4
 bHN:f.bHN.length≤40
 bHK:f.bHK.length≤24
 bHO:f.bHO.length≤4
 bHM:f.bHM.length≤12
theorem zB {C:Ctx} (L:jL C) {v:PV} {l:List (List UInt8)} (h:Seen 1 v (eK l)) (hl:l.length≤1000):aD C 110 [v] .nil (aE (.bool (distinct l))) :=
 (L.uniq l (Om:l.length≤9223372036854775807)).a4Z h
theorem bgN {C:Ctx} (L:jL C) (f:aJ) (hs:Small f) (w3 w4 w5 w6 w7:PV) (ok:Bool) (F:PF) (H:PH) (hv:jO F f w3 w4 w5 w6 w7 ok)
  (h3:Seen 1 w3 (eK (f.bHT.map cN.name))) (h4:Seen 1 w4 (eK (f.bHL.map cV.name))) (h5:Seen 1 w5 (eK (TF f))) (h6:Seen 1 w6 (eK (f.bHO.map dB.name))) (h7:bK H 1 w7 (eK (f.bHM.map eG.name))) :
  aC.wp C (.seq (.seq (.region xE) (.cond (.tmp 243) (.seq (.region mF) .ret) .skip)) (.seq (.region GY) .ret)) (aU [.tmp 2] (cA (.int .i64 (bI (ok&&sZ f))))) F H:=by
 obtain⟨s1,s2,s3,s4,s5,s6⟩:=hs
 have l3:(f.bHT.map cN.name).length≤1000:=by simp; omega
 have l4:(f.bHL.map cV.name).length≤1000:=by simp; omega
 have l5:(TF f).length≤1000:=by simp; omega
 have l6:(f.bHO.map dB.name).length≤1000:=by simp; omega
 have l7:(f.bHM.map eG.name).length≤9223372036854775807:=by simp; omega
 cases ok with
 | false =>
  simp only[go_sem,γ,xE,hv.a8,mF]
  exact lD rfl rfl
 | true =>
  simp only[go_sem,γ,xE,hv.a8,hv.a3]
  refine aA (zB L h3 l3) rfl ?_
  unfold sZ
  cases c1:distinct (f.bHT.map cN.name) with
  | false =>
   simp only[go_sem,γ,reduceCtorEq,mF,bKD]
   exact lD rfl rfl
  | true =>
   simp only[go_sem,γ,reduceCtorEq,hv.a4,bJV]
   refine aA (zB L h4 l4) rfl ?_
   cases c2:distinct (f.bHL.map cV.name) with
   | false =>
    simp only[go_sem,γ,reduceCtorEq,mF,bKD]
    exact lD rfl rfl
   | true =>
    simp only[go_sem,γ,reduceCtorEq,hv.a5,bJV]
    refine aA (zB L h5 l5) rfl ?_
    cases c3:distinct (TF f) with
    | false =>
     simp only[go_sem,γ,reduceCtorEq,mF,bKD]
     exact lD rfl rfl
    | true =>
     simp only[go_sem,γ,reduceCtorEq,hv.a6,bJV]
     refine aA (zB L h6 l6) rfl ?_
     cases c4:distinct (f.bHO.map dB.name) with
     | false =>
      simp only[go_sem,γ,reduceCtorEq,mF,bKD]
      exact lD rfl rfl
     | true =>
      simp only[go_sem,γ,reduceCtorEq,hv.a7,bJV]
      refine rP (L.uniq _ l7) h7 rfl fun F1 H1 hp=>?_
      have g:F1 239=some (.bool false):=hp 239 _ rfl fun _ _ _=>rfl
      cases c5:distinct (f.bHM.map eG.name) with
      | false =>
       simp only[go_sem,γ,reduceCtorEq,mF,bKD,g]
       exact lD rfl rfl
      | true =>
       simp only[go_sem,γ,reduceCtorEq,GY,bJV,g]
       exact lD rfl rfl
abbrev anW (b:Bool):cQ:=aU [.tmp 2] (cA (.int .i64 (bI b)))
def ayP:aC:=.seq (.seq (.region YB) (.block 10 (.loop GX))) (.seq (.seq (.region xE) (.cond (.tmp 243) (.seq (.region mF) .ret) .skip)) (.seq (.region GY) .ret))
def ayO:aC:=.seq (.seq (.region XY) (.block 8 (.loop GW))) ayP
def ayN:aC:=.seq (.seq (.region XV) (.block 6 (.loop GU))) ayO
def ayM:aC:=.seq (.seq (.region XU) (.block 4 (.loop GT))) ayN
def ayL:aC:=.seq (.seq (.region XS) (.block 2 (.loop GR))) ayM
def a5S:aC:=.seq (.seq (.region alY) (.block 0 (.loop GQ))) ayL
theorem bmZ {C:Ctx} (L:jL C) (f:aJ) (hs:Small f) (w3 w4 w5 w6:PV) (ok:Bool) (F:PF) (H:PH) (hv:jO F f w3 w4 w5 w6 .aB ok)
  (h3:Seen 1 w3 (eK (f.bHT.map cN.name))) (h4:Seen 1 w4 (eK (f.bHL.map cV.name))) (h5:Seen 1 w5 (eK (TF f))) (h6:bK H 1 w6 (eK (f.bHO.map dB.name))) :
  aC.wp C ayP (anW (ok&&f.bHM.all (mS f)&&sZ f)) F H:=by
 unfold ayP
 simp only[go_sem,γ,YB,hv.a1,bJO]
 refine oQ h6 fun v1 hv1 F1 H1 ht hp=>?_
 refine a3A L f hs.bHM hs.bHO ok w3 w4 w5 v1 _ F1 H1 ⟨hp 1 _ (by simp only[go_sem,γ,hv.a1]) fun _ _ _=>rfl,hp 3 _ (by simp only[go_sem,γ,hv.a3]) h3.pure,hp 4 _ (by simp only[go_sem,γ,hv.a4]) h4.pure,hp 5 _ (by simp only[go_sem,γ,hv.a5]) h5.pure,ht 6 (by simp only[go_sem,γ,hv.a6]),hp 7 _ (by simp only[go_sem,γ,hv.a7]) fun _ _ _=>rfl,hp 8 _ (by simp only[go_sem,γ,hv.a8]) fun _ _ _=>rfl⟩
  (hp 195 _ rfl fun _ _ _=>rfl) (hp 196 _ rfl fun _ _ _=>rfl) (hp 197 _ rfl fun _ _ _=>rfl) fun v F' H' hv' hO=>?_
 have e:=bgN L f hs w3 w4 w5 v1 v _ F' H' hv' h3 h4 h5 hv1 hO
 simp only[aC.wp,go_sem] at e
 simp only[go_sem]
 exact e
theorem bmY {C:Ctx} (L:jL C) (f:aJ) (hf:f.Ok) (hs:Small f) (w3 w4 w5:PV) (ok:Bool) (F:PF) (H:PH) (hv:jO F f w3 w4 w5 .aB .aB ok)
  (h3:Seen 1 w3 (eK (f.bHT.map cN.name))) (h4:Seen 1 w4 (eK (f.bHL.map cV.name))) (h5:bK H 1 w5 (eK (TF f))) :
  aC.wp C ayO (anW (ok&&f.bHO.all (jD f.bHL.length)&&f.bHM.all (mS f)&&sZ f)) F H:=by
 unfold ayO
 simp only[go_sem,δ,γ,θ,XY,hv.a1,bJO]
 refine oQ h5 fun v1 hv1 F1 H1 ht hp=>?_
 refine a2Z L f hf hs.bHO hs.bHL ok w3 w4 v1 .aB _ F1 H1 ⟨hp 1 _ (by simp only[go_sem,γ,hv.a1]) fun _ _ _=>rfl,hp 3 _ (by simp only[go_sem,γ,hv.a3]) h3.pure,hp 4 _ (by simp only[go_sem,γ,hv.a4]) h4.pure,ht 5 (by simp only[go_sem,γ,hv.a5]),hp 6 _ (by simp only[go_sem,γ,hv.a6]) fun _ _ _=>rfl,hp 7 _ (by simp only[go_sem,γ,hv.a7]) fun _ _ _=>rfl,hp 8 _ (by simp only[go_sem,γ,hv.a8]) fun _ _ _=>rfl⟩
  (hp 174 _ rfl fun _ _ _=>rfl) (hp 175 _ rfl fun _ _ _=>rfl) (hp 176 _ rfl fun _ _ _=>rfl) fun v F' H' hv' hO=>?_
 simp only[go_sem]
 exact bmZ L f hs w3 w4 v1 v _ F' H' hv' h3 h4 hv1 hO
theorem bmX {C:Ctx} (L:jL C) (f:aJ) (hf:f.Ok) (hs:Small f) (w3 w4 w5:PV) (ok:Bool) (F:PF) (H:PH) (hv:jO F f w3 w4 w5 .aB .aB ok)
  (h3:Seen 1 w3 (eK (f.bHT.map cN.name))) (h4:Seen 1 w4 (eK (f.bHL.map cV.name))) (h5:bK H 1 w5 (eK ((f.bHN.drop 1).map bR.name))) :
  aC.wp C ayN (anW (ok&&f.bHK.all (gT f)&&f.bHO.all (jD f.bHL.length)&&f.bHM.all (mS f)&&sZ f)) F H:=by
 unfold ayN
 simp only[go_sem,δ,γ,θ,XV,hv.a1,bJO]
 refine a2Y L f ((f.bHN.drop 1).map bR.name) (by have:=hs.bHN; simp; omega) hs.bHK hs.bHL hs.bHN ok w3 w4 w5 .aB .aB _ _ H ⟨by simp only[go_sem,γ,hv.a1],by simp only[go_sem,γ,hv.a3],by simp only[go_sem,γ,hv.a4],by simp only[go_sem,γ,hv.a5],by simp only[go_sem,γ,hv.a6],by simp only[go_sem,γ,hv.a7],by simp only[go_sem,γ,hv.a8]⟩ h5
  rfl rfl rfl fun v F' H' hv' hO=>?_
 simp only[go_sem]
 exact bmY L f hf hs w3 w4 v _ F' H' hv' h3 h4 hO
theorem bmW {C:Ctx} (L:jL C) (f:aJ) (hf:f.Ok) (hs:Small f) (hd:0<f.bHN.length) (w3 w4:PV) (ok:Bool) (F:PF) (H:PH) (hv:jO F f w3 w4 .aB .aB .aB ok)
  (h3:Seen 1 w3 (eK (f.bHT.map cN.name))) (h4:bK H 1 w4 (eK (f.bHL.map cV.name))) :
  aC.wp C ayM (anW (ok&&f.bHK.all (gT f)&&f.bHO.all (jD f.bHL.length)&&f.bHM.all (mS f)&&sZ f)) F H:=by
 unfold ayM
 have hsl:(1:Int)≤(f.bHN.length:Nat):=by omega
 have hsd:=hs.bHN
 have hdrop:((f.bHN.map bR.cells).take f.bHN.length).drop 1=(f.bHN.drop 1).map bR.cells:=by
  rw[bKF (by simp),List.map_drop]
 simp only[go_sem,κ,ν,δ,γ,θ,reduceCtorEq,XU,hv.a1,bJO,hsl,bMT,hdrop]
 refine oQ h4 fun v1 hv1 F1 H1 ht hp=>?_
 refine a2X L f (f.bHN.drop 1) (by simp; omega) ok w3 v1 .aB .aB _ F1 H1 ⟨hp 1 _ (by simp only[go_sem,γ,hv.a1]) fun _ _ _=>rfl,hp 3 _ (by simp only[go_sem,γ,hv.a3]) h3.pure,ht 4 (by simp only[go_sem,γ,hv.a4]),hp 5 _ (by simp only[go_sem,γ,hv.a5]) fun _ _ _=>rfl,hp 6 _ (by simp only[go_sem,γ,hv.a6]) fun _ _ _=>rfl,hp 7 _ (by simp only[go_sem,γ,hv.a7]) fun _ _ _=>rfl,hp 8 _ (by simp only[go_sem,γ,hv.a8]) fun _ _ _=>rfl⟩
  (hp 119 _ rfl fun _ _ _=>rfl) (hp 120 _ rfl fun _ _ _=>rfl) (hp 121 _ rfl fun _ _ _=>rfl) fun v F' H' hv' hO=>?_
 simp only[go_sem]
 exact bmX L f hf hs w3 v1 v _ F' H' hv' h3 hv1 hO
theorem bmV {C:Ctx} (L:jL C) (f:aJ) (hf:f.Ok) (hs:Small f) (hd:0<f.bHN.length) (w3:PV) (ok:Bool) (F:PF) (H:PH) (hv:jO F f w3 .aB .aB .aB .aB ok)
  (h3:bK H 1 w3 (eK (f.bHT.map cN.name))) :
  aC.wp C ayL (anW (ok&&f.bHL.all (jI f)&&f.bHK.all (gT f)&&f.bHO.all (jD f.bHL.length)&&f.bHM.all (mS f)&&sZ f)) F H:=by
 unfold ayL
 simp only[go_sem,δ,γ,θ,XS,hv.a1,bJO]
 refine oQ h3 fun v1 hv1 F1 H1 ht hp=>?_
 refine a2W L f hs.bHL hs.bHT ok v1 .aB .aB .aB _ F1 H1 ⟨hp 1 _ (by simp only[go_sem,γ,hv.a1]) fun _ _ _=>rfl,ht 3 (by simp only[go_sem,γ,hv.a3]),hp 4 _ (by simp only[go_sem,γ,hv.a4]) fun _ _ _=>rfl,hp 5 _ (by simp only[go_sem,γ,hv.a5]) fun _ _ _=>rfl,hp 6 _ (by simp only[go_sem,γ,hv.a6]) fun _ _ _=>rfl,hp 7 _ (by simp only[go_sem,γ,hv.a7]) fun _ _ _=>rfl,hp 8 _ (by simp only[go_sem,γ,hv.a8]) fun _ _ _=>rfl⟩
  (hp 85 _ rfl fun _ _ _=>rfl) (hp 86 _ rfl fun _ _ _=>rfl) (hp 87 _ rfl fun _ _ _=>rfl) fun v F' H' hv' hO=>?_
 simp only[go_sem]
 exact bmW L f hf hs hd v1 v _ F' H' hv' hv1 hO
theorem bmU {C:Ctx} (L:jL C) (f:aJ) (hf:f.Ok) (hs:Small f) (hd:0<f.bHN.length) (F:PF) (H:PH) (hv:jO F f .aB .aB .aB .aB .aB true) :
  aC.wp C a5S (anW (f.bHT.all kC&&f.bHL.all (jI f)&&f.bHK.all (gT f)&&f.bHO.all (jD f.bHL.length)&&f.bHM.all (mS f)&&sZ f)) F H:=by
 unfold a5S
 simp only[go_sem,δ,γ,θ,alY,hv.a1,bJO]
 refine a2V L f hf hs.bHT .aB .aB .aB .aB _ _ H ⟨by simp only[go_sem,γ,hv.a1],by simp only[go_sem,γ,hv.a3],by simp only[go_sem,γ,hv.a4],by simp only[go_sem,γ,hv.a5],by simp only[go_sem,γ,hv.a6],by simp only[go_sem,γ,hv.a7],by simp only[go_sem,γ,hv.a8]⟩ rfl rfl rfl fun v F' H' hv' hO=>?_
 simp only[go_sem]
 exact bmV L f hf hs hd v _ F' H' hv' hO
theorem bmS {C:Ctx} (L:jL C) (f:aJ) (hf:f.Ok):NM.wp C (aU aEA.res (cA (.int .i64 (pT f)))) (PF.args [.agg f.cells]) .nil:=by
 have he:dM f=(lT f&&mV f&&(f.bHT.all kC&&f.bHL.all (jI f)&&f.bHK.all (gT f)&&f.bHO.all (jD f.bHL.length)&&f.bHM.all (mS f))&&sZ f):=rfl
 simp only[go_sem,δ,γ,θ,NM,aTY,aTZ,aEA]
 refine aA (L.inn f.bIY 1 4) rfl ?_
 have bad:∀ (F:PF) (H:PH),dM f=false→F 2=some (.int .i64 1)→aU [.tmp 2] (cA (.int .i64 (pT f))) .ret F H:=fun F H h1 h2=>lD h2 (a5T h1).symm
 cases e0:within f.bIY 1 4 with
 | false =>
  have:lT f=false:=by simp[lT,e0]
  simp only[go_sem,γ,bKD,oE]
  exact bad _ _ (by rw[he,this]; simp only[bJU]) rfl
 | true =>
  by_cases s1:f.bHT.length≤4
  ·have s1':¬ ((f.bHT.length:Nat):Int)>4:=by omega
   by_cases s2:f.bHL.length≤4
   ·have s2':¬ ((f.bHL.length:Nat):Int)>4:=by omega
    by_cases s3:f.bHN.length≤40
    ·have s3':¬ ((f.bHN.length:Nat):Int)>40:=by omega
     by_cases s4:f.bHK.length≤24
     ·have s4':¬ ((f.bHK.length:Nat):Int)>24:=by omega
      by_cases s5:f.bHO.length≤4
      ·have s5':¬ ((f.bHO.length:Nat):Int)>4:=by omega
       by_cases s6:f.bHM.length≤12
       ·have s6':¬ ((f.bHM.length:Nat):Int)>12:=by omega
        have hsz:=aQM ⟨s1,s2,s3,s4,s5,s6⟩
        rw[e0] at hsz
        simp only[go_sem,δ,γ,θ,reduceCtorEq,bJV,bJO,s1',s2',s3',s4',s5',s6']
        refine aA (L.bHV f hf) rfl ?_
        cases e1:mV f with
        | false =>
         simp only[go_sem,γ,reduceCtorEq,bKD,oE]
         exact bad _ _ (by rw[he,e1]; simp only[bLA,bJU]) rfl
        | true =>
         have hd:0<f.bHN.length:=by
          rcases bMO f.bHN.length with h | h
          ·have:f.bHN=[]:=bNC h
           rw[mV,this] at e1
           cases e1
          ·exact h
         have hz:pT f=bI (f.bHT.all kC&&f.bHL.all (jI f)&&f.bHK.all (gT f)&&f.bHO.all (jD f.bHL.length)&&f.bHM.all (mS f)&&sZ f):=by
          rw[pT,he,hsz,e1]; rfl
         rw[hz]
         simp only[go_sem,γ,reduceCtorEq,bJV,aUA,aUB]
         have e:=fun F H hv=>bmU L f hf ⟨s1,s2,s3,s4,s5,s6⟩ hd F H hv
         simp only[a5S,ayL,ayM,ayN,ayO,ayP,aC.wp,go_sem] at e
         exact e _ _ ⟨by simp only[go_sem,γ],by simp only[go_sem,γ],by simp only[go_sem,γ],by simp only[go_sem,γ],by simp only[go_sem,γ],by simp only[go_sem,γ],by simp only[go_sem,γ]⟩
       ·have s6':((f.bHM.length:Nat):Int)>12:=by omega
        simp only[go_sem,δ,γ,θ,reduceCtorEq,bJV,bJO,s1',s2',s3',s4',s5',s6',oE]
        exact bad _ _ (by rw[he,lW Om]; simp only[bJU]) rfl
      ·have s5':((f.bHO.length:Nat):Int)>4:=by omega
       simp only[go_sem,δ,γ,θ,reduceCtorEq,bJV,bJO,s1',s2',s3',s4',s5',oE]
       exact bad _ _ (by rw[he,lW Om]; simp only[bJU]) rfl
     ·have s4':((f.bHK.length:Nat):Int)>24:=by omega
      simp only[go_sem,δ,γ,θ,reduceCtorEq,bJV,bJO,s1',s2',s3',s4',oE]
      exact bad _ _ (by rw[he,lW Om]; simp only[bJU]) rfl
    ·have s3':((f.bHN.length:Nat):Int)>40:=by omega
     simp only[go_sem,δ,γ,θ,reduceCtorEq,bJV,bJO,s1',s2',s3',oE]
     exact bad _ _ (by rw[he,lW Om]; simp only[bJU]) rfl
   ·have s2':((f.bHL.length:Nat):Int)>4:=by omega
    simp only[go_sem,δ,γ,θ,reduceCtorEq,bJV,bJO,s1',s2',oE]
    exact bad _ _ (by rw[he,lW Om]; simp only[bJU]) rfl
  ·have s1':((f.bHT.length:Nat):Int)>4:=by omega
   simp only[go_sem,δ,γ,θ,reduceCtorEq,bJV,bJO,s1',oE]
   exact bad _ _ (by rw[he,lW Om]; simp only[bJU]) rfl
def lvl (f:aJ) (i:Nat):Int:=(f.bHN.map bR.level).getD i 0
def par (f:aJ) (i:Nat):Int:=(f.bHN.map bR.parent).getD i 0
def aIB (f:aJ) (i:Nat):Nat:=(par f i).toNat
def aFL (f:aJ) (d:Nat):Nat:=((f.bHK.map cG.machine).getD d 0).toNat
def mdl (f:aJ) (d:Nat):Nat:=((f.bHK.map cG.model).getD d 0).toNat
def ext (f:aJ) (d:Nat):Int:=(f.bHL.map cV.bIE).getD (mdl f d) 0
def uG (f:aJ) (v:Nat):Nat:=((f.bHM.map eG.bHY).getD v 0).toNat
def bvO:dB:=⟨[],0,0,0,0,0,0,0,0,[],[],⟨false,[],[]⟩,⟨false,[],[]⟩⟩
def cY (f:aJ) (v:Nat):dB:=f.bHO.getD (uG f v) bvO
def upN (f:aJ):Nat→Nat→Nat
 | 0,i=>i
 | k+1,i=>aIB f (upN f k i)
theorem oC {α β:Type} {l:List α} {g:α→β} {i:Nat} {b:β} (h:i<l.length):(l.map g).getD i b=g l[i]:=by
 simp[bKH,h]
structure VF (f:aJ):Prop where
 small:Small f
 root:0<f.bHN.length∧lvl f 0=0∧par f 0=-1
 dom:∀ i,0<i→i<f.bHN.length→0≤par f i∧aIB f i<i∧lvl f (aIB f i)=lvl f i-1∧1≤lvl f i∧lvl f i≤4
 drive:∀ d (h:d<f.bHK.length),0≤(f.bHK[d]).model∧mdl f d<f.bHL.length∧0≤(f.bHK[d]).machine∧aFL f d<f.bHN.length∧lvl f (aFL f d)=4
 bHY:∀ p∈f.bHO,1≤p.k∧p.k≤6∧0≤p.m∧p.m≤4∧p.k+p.m≤8∧p.s0=0∧(∀ l,0≤p.spread l∧p.spread l≤8)∧∀ m∈p.bHL,0≤m∧m<f.bHL.length
 volume:∀ v (h:v<f.bHM.length),0≤(f.bHM[v]).bHY∧uG f v<f.bHO.length
 model:∀ m∈f.bHL,1≤m.bIE∧m.bIE≤16
theorem boK {p:dB} {n:Nat} (h:jD n p=true):∀ m∈p.bHL,0≤m∧m<n:=by
 intro m hm
 simp only[jD,bKM] at h
 obtain⟨i,hi,rfl⟩:=bLV hm
 have:=bKK.1 h.2 i (bKZ.2 hi)
 rw[bKM] at this
 have h1:=within_iff.1 this.1
 simp only[bKH,bJZ hi,bMK] at h1
 omega
theorem ajI {x:Int} (h1:1≤x) (h2:x≤4):IntKind.i64.wrap (x-1)=x-1:=wrap_i64 Om Om
theorem VF.of {f:aJ} (h:dM f=true):VF f:=by
 simp only[dM,bKM] at h
 obtain⟨⟨⟨hs,hd⟩,⟨⟨⟨hlaw,hmod⟩,hdrv⟩,hpol⟩,hvol⟩,-⟩:=h
 simp only[lT,bKM,decide_eq_true_eq] at hs
 obtain⟨⟨⟨⟨⟨⟨s0,s1⟩,s2⟩,s3⟩,s4⟩,s5⟩,s6⟩:=hs
 cases hdm:f.bHN with
 | nil=>rw[mV,hdm] at hd; cases hd
 | cons r t =>
  rw[mV,hdm] at hd
  simp only[yI,bKM,decide_eq_true_eq] at hd
  obtain⟨⟨⟨⟨⟨⟨r1,r2⟩,r3⟩,r4⟩,r5⟩,r6⟩,bJB⟩:=hd
  have hlen:f.bHN.length=t.length+1:=by rw[hdm]; rfl
  refine⟨⟨s1,s2,s3,s4,s5,s6⟩,⟨by omega,by rw[lvl,hdm]; exact r2,by rw[par,hdm]; exact r3⟩,?_,?_,?_,?_,?_⟩
  ·intro i h0 hi
   obtain⟨k,rfl⟩:∃ k,i=k+1:=⟨i-1,by omega⟩
   have hk:k<t.length:=by omega
   have:=bKK.1 bJB k (bKZ.2 hk)
   rw[bJZ hk] at this
   simp only[FW,bKM,decide_eq_true_eq] at this
   obtain⟨⟨⟨⟨d1,d2⟩,d3⟩,d4⟩,d5⟩:=this
   obtain⟨p0,p1⟩:=within_iff.1 d1
   obtain⟨l1,l4⟩:=within_iff.1 d3
   have e1:par f (k+1)=(t[k]).parent:=by rw[par,hdm]; simp[bKH,hk]
   have e2:lvl f (k+1)=(t[k]).level:=by rw[lvl,hdm]; simp[bKH,hk]
   rw[ajI l1 l4] at d2
   have e3:lvl f (t[k]).parent.toNat=(t[k]).level-1:=d2
   refine⟨by rw[e1]; exact p0,?_,?_,by rw[e2]; exact l1,by rw[e2]; exact l4⟩
   ·rw[aIB,e1]; omega
   ·rw[aIB,e1,e2]; exact e3
  ·intro d hd
   have:=bKK.1 hdrv _ (bJS hd)
   simp only[gT,bKM,decide_eq_true_eq] at this
   obtain⟨⟨d1,d2⟩,d3⟩:=this
   have a1:=within_iff.1 d1
   have a2:=within_iff.1 d2
   have e1:mdl f d=(f.bHK[d]).model.toNat:=by rw[mdl,oC hd]
   have e2:aFL f d=(f.bHK[d]).machine.toNat:=by rw[aFL,oC hd]
   refine⟨a1.1,by rw[e1]; omega,a2.1,by rw[e2]; omega,by rw[e2]; exact d3⟩
  ·intro p hp
   have h1:=bKK.1 hpol p hp
   have h2:=boK h1
   simp only[jD,HR,bKM,decide_eq_true_eq,List.all_cons,List.all_nil,bLP] at h1
   obtain⟨⟨⟨⟨⟨⟨⟨⟨k1,m1⟩,km⟩,q1⟩,z0⟩,sp⟩,-⟩,-⟩,-⟩:=h1
   obtain⟨g0,g1,g2,g3,g4⟩:=sp
   have b1:=within_iff.1 k1
   have b2:=within_iff.1 m1
   have b3:=within_iff.1 g0
   have b4:=within_iff.1 g1
   have b5:=within_iff.1 g2
   have b6:=within_iff.1 g3
   have b7:=within_iff.1 g4
   refine⟨b1.1,b1.2,b2.1,b2.2,km,z0,fun l=>?_,h2⟩
   unfold dB.spread
   split<;>omega
  ·intro v hv
   have:=bKK.1 hvol _ (bJS hv)
   have a1:=within_iff.1 this
   have e1:uG f v=(f.bHM[v]).bHY.toNat:=by rw[uG,oC hv]
   exact⟨a1.1,by rw[e1]; omega⟩
  ·intro m hm
   have:=bKK.1 hmod m hm
   simp only[jI,bKM] at this
   exact within_iff.1 this.1.1
def bqV (f:aJ) (d:Nat) (level:Int):Nat:=upN f (4-level.toNat) (aFL f d)
def fB (f:aJ) (v:Nat):Int:=(cY f v).k+(cY f v).m
def atI:Rg:=[iA 1 (.box true (Tm 0)),iT 2 false]
def atJ:Rg:=[iO 3 7 1,iK 4 96 3,iC 5 .eql 4 0,iM 2 5]
def BE:aC:=(sq atI (sq atJ .ret))
def bbP:List Nat:=[1]
def QI:aW:=⟨1,6,BE,[.tmp 2]⟩
def aLE:Rg:=[iA 2 (.box true (Tm 0)),iI 4 0]
def aLF:Rd:=[(iF 6 5 2,false),(iL 7 6,false),(iF 8 6 2,false),(iL 9 8,false),(iM 10 1,false),(iX 11 2 9 10,false),(iF 12 1 11,false),(iL 13 12,false),(iX 14 17 7 13,false),(iO 15 17 14,false),(iA 5 (.alloc [(.str []),(.int .i64 0),(.int .i64 0),(.int .i64 0),(.int .i64 0),(.int .i64 0),(.int .i64 0),(.int .i64 0),(.int .i64 0),.aB,.aB,(.bool false),.aB,.aB,(.bool false),.aB,.aB]),true),(iS 17 5 15,true)]
def aLG:Rg:=[iF 16 1 5,iL 17 16,iF 18 2 5,iL 19 18,iB 20 .add 17 19,iM 4 20]
def IS:aC:=(sq aLE (dq aLF (sq aLG .ret)))
def aLH:List Nat:=[2]
def zD:aW:=⟨2,21,IS,[.tmp 4]⟩
def atC:Rg:=[iA 3 (.box true (Tm 0)),iA 6 (.alloc [(.int .i64 0),(.int .i64 0),(.int .i64 0)]),iT 7 false]
def atD:Rd:=[(iM 10 1,true),(iM 11 2,true),(iX 12 1 10 11,true),(iL 13 12,true),(iN 14 13,true),(iO 15 7 3,false),(iM 16 2,false),(iK2 17 156 15 16,true),(iB 18 .neq 14 17,false)]
def atE:Rg:=[iM 19 2,iM 20 1,iM 21 2,iX 22 1 20 21,iL 23 22,iN 24 23,iA 25 (.build [(.int .i64 0),(.int .i64 0),(.int .i64 0)] [(0,1,(Ci 1)),(1,1,(Tm 19)),(2,1,(Tm 24))]),iS 3 6 25,iT 7 true]
def atF:Rg:=[iM 26 1,iM 27 2,iX 28 1 26 27,iL 29 28,iN 30 29,iI 31 0]
def atG:Rg:=[iB 32 .lss 31 30]
def zE:Rg:=[iM 33 31,iX 34 1 29 31,iL 35 34,iM 8 33,iM 9 35]
def zF:Rg:=[iM 36 9,iC 37 .lss 36 (-1),iM 38 37,gM 39 9 38 false,gF 40 4 3 38 false,gL 41 40 38 false,gN 42 41 38 false,gB 43 .geq 39 42 38 false,iQ 44 38 43]
def QG:Rg:=[iM 45 2,iM 46 8,iA 47 (.build [(.int .i64 0),(.int .i64 0),(.int .i64 0)] [(0,1,(Ci 1)),(1,1,(Tm 45)),(2,1,(Tm 46))]),iS 3 6 47,iT 7 true]
def atH:Rg:=[iC 48 .add 31 1,iM 31 48]
def atB:aC:=(sq atG (.seq (.cond (Tm 32) .skip (.exit 0)) (.seq (.block 1 (sq zE (sq zF (.cond (Tm 44) (sq QG .ret) .skip)))) (.region atH))))
def agJ:Rg:=[iA 49 (.build [(.int .i64 0),(.int .i64 0),(.int .i64 0)] []),iS 3 6 49,iT 7 false]
def BD:aC:=(sq atC (.seq (dq atD (.cond (Tm 18) (sq atE .ret) .skip)) (.seq (sq atF (.block 0 (.loop atB))) (sq agJ .ret))))
def bbN:List Nat:=[3]
def xT:aW:=⟨3,50,BD,[.cell 6 (some 3),.tmp 7]⟩
def afZ:Rg:=[iA 2 (.box true (Tm 0)),iT 4 false]
def agA:Rg:=[iO 8 7 2,iK 9 161 8,iA 10 (.un .not (Tm 9)),iM 11 10,gM 12 1 11 false,gN 13 12 11 false,gF 14 6 2 11 false,gL 15 14 11 false,gN 16 15 11 false,gB 17 .neq 13 16 11 false,iQ 18 11 17]
def IP:Rg:=[iT 4 false]
def agB:Rg:=[iM 19 1,iN 20 19,iI 21 0]
def agC:Rg:=[iB 22 .lss 21 20]
def agD:Rg:=[iM 23 21,iM 5 23]
def agE:Rg:=[iO 25 7 2,iM 26 1,iM 27 5,iA 28 (.call 160 [(Tm 25),(Tm 26),(Tm 27)]),iM 24 28,iE 29 24 0,iE 30 24 1,iA 6 (.alloc [(.int .i64 0),(.int .i64 0),(.int .i64 0)]),iS 3 6 29,iM 7 30]
def IQ:Rg:=[iM 31 7]
def agF:Rg:=[iT 4 false]
def agG:Rg:=[iC 32 .add 21 1,iM 21 32]
def VQ:aC:=(sq agC (.seq (.cond (Tm 22) .skip (.exit 0)) (.seq (.block 1 (sq agD (sq agE (sq IQ (.cond (Tm 31) (sq agF .ret) .skip))))) (.region agG))))
def VR:Rg:=[iT 4 true]
def xS:aC:=(sq afZ (.seq (sq agA (.cond (Tm 18) (sq IP .ret) .skip)) (.seq (sq agB (.block 0 (.loop VQ))) (sq VR .ret))))
def a5I:List Nat:=[2]
def DX:aW:=⟨2,33,xS,[.tmp 4]⟩
theorem bbO {C:Ctx} (h:∀ f:aJ,f.Ok→aD C 96 [.agg f.cells] .nil (aE (.int .i64 (pT f)))) (f:aJ) (hf:f.Ok) :
  BE.wp C (aU QI.res (cA (.bool (dM f)))) (PF.args [.agg f.cells]) .nil:=by
 simp only[go_sem,δ,γ,BE,atI,atJ,QI]
 refine aA (h f hf) rfl ?_
 simp only[go_sem,γ]
 refine bA rfl ?_
 unfold pT
 cases dM f<;>rfl
theorem aoY {f:aJ} {d:Nat} (h:d<f.bHK.length):(f.bHK.map cG.cells)[d]?=some (f.bHK[d]).cells:=by simp[h]
theorem uP {f:aJ} {d:Nat} (h:d<f.bHN.length):(f.bHN.map bR.cells)[d]?=some (f.bHN[d]).cells:=by simp[h]
theorem rN {f:aJ} {d:Nat} (h:d<f.bHM.length):(f.bHM.map eG.cells)[d]?=some (f.bHM[d]).cells:=by simp[h]
theorem mP {f:aJ} {d:Nat} (h:d<f.bHO.length):(f.bHO.map dB.cells)[d]?=some (f.bHO[d]).cells:=by simp[h]
theorem a9I {f:aJ} {d:Nat} (h:d<f.bHL.length):(f.bHL.map cV.cells)[d]?=some (f.bHL[d]).cells:=by simp[h]
theorem VF.brY {f:aJ} (h:VF f) {d:Nat} (hd:d<f.bHK.length):(f.bHK[d]).model=((mdl f d:Nat):Int):=by
 have:=(h.drive d hd).1
 rw[mdl,oC hd]; omega
theorem VF.PK {f:aJ} (h:VF f) {v:Nat} (hv:v<f.bHM.length):(f.bHM[v]).bHY=((uG f v:Nat):Int):=by
 have:=(h.volume v hv).1
 rw[uG,oC hv]; omega
theorem nM {f:aJ} (h:VF f) {v:Nat} (hv:v<f.bHM.length):∃ hp:uG f v<f.bHO.length,f.bHO[uG f v]=cY f v:=by
 have hp:=(h.volume v hv).2
 exact⟨hp,by simp[cY,bKH,hp]⟩
theorem aLD {C:Ctx} (f:aJ) (hv:VF f) (v:Nat) (h:v<f.bHM.length) :
  IS.wp C (aU zD.res (cA (.int .i64 (fB f v)))) (PF.args [.agg f.cells,.int .i64 v]) .nil:=by
 obtain⟨hp,he⟩:=nM hv h
 have hpol:=hv.bHY _ (bJS hp)
 rw[he] at hpol
 have hw:IntKind.i64.wrap ((cY f v).k+(cY f v).m)=(cY f v).k+(cY f v).m:=wrap_i64 Om Om
 simp only[go_sem,IS,aLE,zD]
 refine bP .nil dX PH.nil_le ?_
 simp only[go_sem,δ,γ,θ,aLF,rN h,hv.PK h,mP hp,he]
 refine aQ fun o ho=>?_
 simp only[go_sem,δ,γ,θ,aLG,hw]
 refine⟨PH.nil_le,?_⟩
 exact lD (n:=(cY f v).k+(cY f v).m) rfl rfl
def pick (n:Nat) (p:Nat→Bool):List Int:=((bJP n).filter p).map fun (i:Nat)=>(i:Int)
theorem a3F (l:List Int) (x:Int):bD l++[[.int .i64 x]]=bD (l++[x]):=by unfold bD; rw[bLK]; rfl
theorem cK (l:List Int):(bD l).length=l.length:=by unfold bD; rw[bJO]
def toS (f:aJ):Spec:=fun name vs=>match name,vs with
 | 155,[_,.int _ d,.int _ l]=>some ([],fun _=>aE (.int .i64 (bqV f d.toNat l:Nat)))
 | 156,[_,.int _ v]=>some ([],fun _=>aE (.int .i64 (fB f v.toNat)))
 | _,_=>none
theorem biQ (f:aJ) (v:Nat):toS f 156 [.agg f.cells,.int .i64 v]=some ([],fun _=>aE (.int .i64 (fB f v))):=rfl
section
variable (o s:Nat) (rs:List (List PV))
@[go_sem] theorem bBN (k:IntKind) (n:Int):PV.frz o s rs (.int k n)=.int k n:=(rfl)
@[go_sem] theorem bwP (b:Bool):PV.frz o s rs (.bool b)=.bool b:=(rfl)
@[go_sem] theorem bBR (l:List UInt8):PV.frz o s rs (.str l)=.str l:=(rfl)
@[go_sem] theorem bwQ:PV.frz o s rs .aB=.aB:=(rfl)
@[go_sem] theorem bFW (n:Nat) (r:List (List PV)):PV.frz o s rs (.sl n r)=.sl n r:=(rfl)
@[go_sem] theorem bwR (c:List PV):PV.frz o s rs (.bH c)=.bH c:=(rfl)
@[go_sem] theorem bBQ (q z i c:Nat):PV.frz o s rs (.ptr q z i c)=.ptr q z i c:=(rfl)
@[go_sem] theorem bFV (n:Nat) (c:List PV):PV.frz o s rs (.fn n c)=.fn n c:=(rfl)
@[go_sem] theorem bBO (q:Nat):PV.frz o s rs (.map q)=.map q:=(rfl)
@[go_sem] theorem bBP (q z off len:Nat):PV.frz o s rs (.osl q z off len)=if q=o then (if z=s∧off+len≤rs.length then .sl s ((rs.drop off).take len) else .junk) else .osl q z off len:=(rfl)
end
def kO (s:Nat) (rows:List (List PV)) (r:PV) (H:PH):Prop :=
 (rows=[]∧r=.aB∧H=PH.nil)∨∃ q rs,r=.osl q s 0 rows.length∧H=PH.nil.set q (.rows s rs)∧rows.length≤rs.length∧rs.take rows.length=rows
theorem aSK (q s:Nat) (rs:List (List PV)):(PH.nil.set q (.rows s rs)).frz q s rs=PH.nil:=PH.ext fun o=>by
 rw[wF]
 by_cases e:o=q
 ·rw[if_pos e]; rfl
 ·rw[if_neg e,bM,if_neg e]; rfl
section
variable {C:Ctx} {K:cQ} {F:PF} {H:PH} {s:Nat} {v:PV} {rows:List (List PV)}
theorem kO.eQ {r:PV} {H':PH} (h:kO s rows r H') (ha:kN H .nil H'):bK (H.eQ .nil H') s r rows∧∀ o x,H o=some x→(H.eQ .nil H') o=some x:=by
 rcases h with ⟨h1,h2,rfl⟩ | ⟨q,rs,h1,rfl,h3,h4⟩
 ·rw[PH.lC]; exact⟨.inl ⟨h1,h2⟩,fun o x h=>h⟩
 ·rw[PH.kG]
  have hq:H q=none:=ha q (.rows s rs) (by simp only[bM,if_true]) rfl
  refine⟨.inr ⟨q,rs,h1,by simp only[bM,if_true],h3,h4⟩,fun o x ho=>?_⟩
  have:o≠q:=by rintro rfl; rw[hq] at ho; cases ho
  simp only[bM,if_neg this,ho]
theorem ID {t:Nat} {e:lZ} (he:e=.normal∨e=.ret) (h:bK H s v rows) (ht:F t=some v):aU [.tmp t] (kO s rows) e F H:=by
 rcases h with ⟨rfl,rfl⟩ | ⟨q,rs,rfl,h1,h2,h3⟩
 ·exact aX (vs:=[.aB]) he .nil (by rw[lE,oM,ht,qC]) PH.nil_le (.inl ⟨rfl,rfl,rfl⟩)
 ·exact aX (vs:=[.osl q s 0 rows.length]) he (PH.nil.set q (.rows s rs)) (by rw[lE,oM,ht,qC]) (PH.aI PH.nil_le h1) (.inr ⟨q,rs,rfl,rfl,h2,h3⟩)
theorem DQ {t:Nat} {e:lZ} (he:e=.normal∨e=.ret) (ht:F t=some .aB):aU [.tmp t] (kO s []) e F H:=ID he .nil ht
theorem baW {t:Nat} {e:lZ} {r:PV} {H':PH} (he:e=.normal∨e=.ret) (h:kO s rows r H') (ht:F t=some r):aU [.tmp t] (kO s rows) e F (H.eQ .nil H'):=by
 refine aX (vs:=[r]) he H' (by rw[lE,oM,ht,qC]) (fun o x ho=>?_) h
 rw[lN,ho]
theorem aD.freeze {name:Nat} {args:List PV} (h:aD C name args H (kO s rows)):aD C name args H (aE (.sl s rows)) :=
 ⟨h.1,fun E w vs hN hW hvs=>(h.2 E w vs hN hW hvs).mono fun e w' he=>by
  obtain⟨u,pv,E',H',rfl,hW',hr,hE,hp⟩:=he
  rcases hp with ⟨rfl,rfl,rfl⟩ | ⟨q,rs,rfl,rfl,h3,h4⟩
  ·exact⟨u,_,E',_,rfl,hW',(Co.nil s).sound hr,hE,rfl,rfl⟩
  ·have hz:jC (PF.nil.set 0 (.osl q s 0 rows.length)) (PH.nil.set q (.rows s rs)) _ _:=.step q (s:=s) (rs:=rs) (by simp only[bM,if_true]) (.refl _ _)
   obtain⟨E2,k1,k2,k3⟩:=hz.sound hW'
   have bJJ:=k3 (fun _=>u) (fun i p hi=>by
    rw[lP] at hi
    split at hi
    ·cases hi; exact hr
    ·cases hi) 0 (.sl s rows) (by rw[qW,lP,if_pos rfl,bKX,oA h3,h4])
   rw[aSK] at k1 k2
   exact⟨u,_,E2,_,rfl,k1,bJJ,hE.trans k2,rfl,rfl⟩⟩
theorem eR.of:∀ {E:Env} (ps:List PV) (vs:List Value),vs.length=ps.length→(∀ (i:Nat) p v,ps[i]?=some p→vs[i]?=some v→aY E p v)→eR E ps vs
 | _,[],[],_,_=>.nil
 | _,[],_::_,h,_=>by simp at h
 | _,_::_,[],h,_=>by simp at h
 | _,p::ps,v::vs,h,k=>.cons (k 0 p v rfl rfl) (eR.of ps vs (by simpa using h) fun i q u a b=>k (i+1) q u (by simpa using a) (by simpa using b))
theorem bN.same {E:Env} {w w':World} (hW:bN E H w) (hs:w.heap.size≤w'.heap.size) (hb:∀ b,b<w.heap.size→H b=none→w'.heap[b]?=w.heap[b]?) (hH:∀ o x,H o=some x→w'.heap[o]?=w.heap[o]?):bN E H w':=by
 have key:∀ b,b<w.heap.size→w'.heap[b]?=w.heap[b]?:=fun b hlt=>by
  cases e:H b with
  | none=>exact hb b hlt e
  | some x=>exact hH b x e
 refine⟨fun b cs h=>?_,fun o x h=>?_,fun o n h=>?_⟩
 ·obtain⟨h1,ty,fr,h2⟩:=hW.g b cs h
  exact⟨h1,ty,fr,(key b (bMY.1 h2).1).trans h2⟩
 ·obtain⟨h1,h2⟩:=hW.h o x h
  exact⟨Nat.lt_of_lt_of_le h1 hs,h2.mono (.refl E) (key o h1)⟩
 ·obtain⟨cur,ty,fr,h1,h2⟩:=hW.s o n h
  exact⟨cur,ty,fr,(key o (bMY.1 h1).1).trans h1,h2⟩
inductive Plain:PV→Prop
 | int (k:IntKind) (n:Int):Plain (.int k n)
 | bool (b:Bool):Plain (.bool b)
 | str (l:List UInt8):Plain (.str l)
theorem Plain.rep {v:PV} (h:Plain v) {E E':Env} {u:Value} (r:aY E v u):aY E' v u:=by
 cases h<;>cases r
 ·exact .int _ _
 ·exact .bool _
 ·exact .str _
theorem aD.bgW {name o:Nat} {rs:List (List PV)} {args:List PV} (hv:Plain v) (h:aD C name (args.map (PV.frz o s rs)) .nil (aE v)) :
  aD C name args (PH.nil.set o (.rows s rs)) (fun r H'=>r=v∧H'=PH.nil.set o (.rows s rs)):=by
 refine⟨h.1,fun E w vs hN hW hvs=>?_⟩
 have hz:jC (PF.args args) (PH.nil.set o (.rows s rs)) _ _:=.step o (s:=s) (rs:=rs) (by simp only[bM,if_true]) (.refl _ _)
 obtain⟨E1,k1,k2,k3⟩:=hz.sound hW
 rw[aSK] at k1 k2
 have hlen:=hvs.len
 have hvs1:eR E1 (args.map (PV.frz o s rs)) vs.toList:=by
  refine eR.of _ _ (by rw[bJO]; exact hlen) fun i p u hp hu=>?_
  have:=k3 (fun i=>(vs.toList[i]?).getD undef) (fun j q hj=>by
   have hjl:=(bKY.1 hj).1
   have hjv:j<vs.toList.length:=by omega
   simp only[bJZ hjv,bMK]
   exact hvs.at_ j q _ hj (bJZ hjv)) i p (by rw[qW,args_at,← bKS]; exact hp)
  simp only[hu,bMK] at this
  exact this
 refine (h.2 E1 w vs (k2.env.num.trans hN) k1 hvs1).mono fun e w' he=>?_
 obtain⟨u,pv,E2,H2,rfl,hW2,hr,hE,rfl,rfl⟩:=he
 have hblk:∀ b,b<w.heap.size→w'.heap[b]?=w.heap[b]?:=fun b hb=>hE.block b hb rfl
 refine⟨u,pv,E,_,rfl,hW.same hE.size (fun b hb _=>hblk b hb) (fun q x hq=>hblk q (hW.h q x hq).1),hv.rep hr,⟨.refl E,hE.os,hE.tape,hE.output,hE.size,fun b hb _=>hblk b hb,fun q x hq=>.inl ⟨x,hq⟩,fun b cs hb=>.inl hb⟩,rfl,rfl⟩
theorem CH {name o:Nat} {rs:List (List PV)} {args:List aP} {vs:List PV} {d:Option Nat} {K:PF→PH→Prop} (hv:Plain v) (h:aD C name (vs.map (PV.frz o s rs)) .nil (aE v)) (ho:H o=some (.rows s rs)) (ha:aP.evs F args=some vs)
  (hk:K (F.put d v) H):fW C name args [] d K F H:=by
 refine fP (h.bgW hv) ha (PH.aI PH.nil_le ho) ?_
 rintro r H' ⟨rfl,rfl⟩ -
 rw[PH.OY _ (PH.aI PH.nil_le ho)]
 exact hk
theorem beZ {Hs:PH} {S:Spec} {name o:Nat} {rs:List (List PV)} {vs:List PV} {R:PH→PV→PH→Prop} {args:List aP} {st:Bool} {d:Option Nat} {K:PF→PH→Prop} (hS:S name vs=some ([o],R)) (hv:Plain v) (ho:H o=some (.rows s rs))
  (h:aD C name (vs.map (PV.frz o s rs)) .nil (aE v)) (hR1:R (PH.nil.set o (.rows s rs)) v (PH.nil.set o (.rows s rs))) (hR2:∀ r H',R (PH.nil.set o (.rows s rs)) r H'→r=v∧H'=PH.nil.set o (.rows s rs)) (ha:aP.evs F args=some vs) (hle:Hs.le H) (hk:K (F.put d v) H) :
  dOp C Hs S st (.call name args) d K F H:=WU hS ho (h.bgW hv) hR1 hR2 ha hle hk
theorem ayC {name t:Nat} {R:PV→PH→Prop} {d:Option Nat} {K:PF→PH→Prop} (h:aD C name [.sl s rows] .nil R) (hO:bK H s v rows) (ht:F t=some v)
  (hK:∀ (F1:PF) (H1:PH),(∀ i u,F i=some u→Pure u→F1 i=some u)→∀ r H',R r H'→kN H1 .nil H'→K (F1.put d r) (H1.eQ .nil H')):fW C name [.tmp t] [] d K F H:=by
 rcases hO with ⟨rfl,rfl⟩ | ⟨q,rs,rfl,h1,h2,h3⟩
 ·exact .inl ⟨[.aB],.nil,R,by rw[wW,acM,ht,SU]; rfl,PH.nil_le,h.a4Z (.inl ⟨rfl,rfl⟩),hK F H fun i u hi _=>hi⟩
 ·refine .inr ⟨_,_,.step q h1 (.refl _ _),[.sl s rows],.nil,R,?_,PH.nil_le,h,hK _ _ fun i u hi hp=>?_⟩
  ·simp only[wW,SU,acM,qW,ht,bKX,oA h2,h3,bLM]
  ·rw[qW,hi,bKX,hp q s rs]
end
theorem a8V (l:List Int) (i:Nat) (x:Int):(bD l).set i [.int .i64 x]=bD (l.set i x):=by unfold bD; rw[List.map_set]
def rI (f:aJ) (room:List Int) (d:Nat):Int:=if room.length=f.bHK.length then min (max (room.getD d 0) 0) (ext f d) else ext f d
def fQ (f:aJ) (room:List Int):List Int:=(bJP f.bHK.length).map (rI f room)
def afK (f:aJ) (room:List Int):List Int:=if dM f then fQ f room else []
theorem PR (f:aJ) (room:List Int):(fQ f room).length=f.bHK.length:=by simp[fQ]
theorem aJN (f:aJ) (room:List Int) {d:Nat} (h:d<(fQ f room).length):(fQ f room)[d]=rI f room d:=by simp[fQ]
theorem VF.a8C {f:aJ} (h:VF f) {d:Nat} (hd:d<f.bHK.length):∃ hm:mdl f d<f.bHL.length,(f.bHL[mdl f d]).bIE=ext f d:=by
 have hm:=(h.drive d hd).2.1
 exact⟨hm,by rw[ext,oC hm]⟩
theorem bnR (a b:Int):(if b<a then b else a)=min a b:=by
 rw[Int.min_def]
 by_cases h:b<a
 ·rw[if_pos h,if_neg Om]
 ·rw[if_neg h,if_pos Om]
abbrev lay (l:List (List Int)):PV:=.sl 1 (l.map fun r=>[ints r])
def bBA (n:Nat) (xs:List Int):List Int:=(bJP n).map fun (d:Nat)=>((xs.count (d:Int):Nat):Int)
def brW (f:aJ) (l:List (List Int)):List Int:=bBA f.bHK.length l.flatten
structure eT (l:List (List Int)):Prop where
 rows:l.length≤16777216
 all:l.flatten.length≤16777216
theorem MU (l:List (List Int)) {i:Nat} (h:i<l.length):(l.take (i+1)).flatten=(l.take i).flatten++l[i]:=by
 rw[bLL h,List.flatten_append]
 simp only[List.flatten_cons,List.flatten_nil,bLM]
theorem aBK (l:List (List Int)) (i:Nat):(l.take i).flatten.length≤l.flatten.length:=by
 have:l.flatten=(l.take i).flatten++(l.drop i).flatten:=by rw[← List.flatten_append,bMD]
 rw[this,bJW]; omega
structure azD where
 kind:Int
 vol:Int
 wher:Int
abbrev azD.cells (x:azD):List PV:=[.int .i64 x.kind,.int .i64 x.vol,.int .i64 x.wher]
def eW (p:Int→Bool):List Int→Nat→Option Nat
 | [],_=>none
 | x::t,i=>if p x then some i else eW p t (i+1)
def jG (f:aJ) (d:Int):Bool:=decide (d < -1)||decide (d≥(f.bHK.length:Nat))
def lS (f:aJ) (l:List (List Int)) (v:Nat):Option azD :=
 if ((l.getD v []).length:Int)=fB f v then (eW (jG f) (l.getD v []) 0).map fun (i:Nat)=>⟨1,v,i⟩ else some ⟨1,v,((l.getD v []).length:Nat)⟩
def shV:Option azD→PV
 | some x=>.tup [.agg x.cells,.bool true]
 | none=>.tup [.agg [.int .i64 0,.int .i64 0,.int .i64 0],.bool false]
def biS (f:aJ) (o:Nat) (v:Nat) (row:List Int) (k:Nat):PF:=((((((PF.nil.set 2 (.int .i64 v)).set 3 (.bH f.cells)).set 6 (.ptr o 3 0 0)).set 29 (ints row)).set 30 (.int .i64 (row.length:Nat))).set 31 (.int .i64 k))
def gU (f:aJ) (l:List (List Int)):Bool:=dM f&&decide (l.length=f.bHM.length)&&(bJP l.length).all fun v=>(lS f l v).isNone
def tSF (f:aJ) (l:List (List Int)) (k:Nat):PF:=((((PF.nil.set 1 (lay l)).set 2 (.bH f.cells)).set 20 (.int .i64 (l.length:Nat))).set 21 (.int .i64 k))
section
variable {C:Ctx} {F:PF} {H:PH}
theorem bK.ne {s s':Nat} {v:PV} {rows:List (List PV)} {o:Nat} {y:List (List PV)} (h:bK H s v rows) (ho:H o=some (.rows s' y)) (hs:s≠s'):∀ l,v≠.osl o s 0 l:=by
 intro l e
 rcases h with ⟨_,h2⟩ | ⟨q,rs,h1,h2,_⟩
 ·rw[h2] at e; cases e
 ·rw[h1] at e
  injection e with e1
  subst e1
  rw[ho] at h2
  injection h2 with h2
  injection h2 with h2
  exact hs h2.symm
theorem bK.set {s s':Nat} {v:PV} {rows:List (List PV)} {o:Nat} {y:List (List PV)} {x:cT} (h:bK H s v rows) (ho:H o=some (.rows s' y)) (hs:s≠s'):bK (H.set o x) s v rows:=by
 have hne:=h.ne ho hs
 rcases h with ⟨h1,h2⟩ | ⟨q,rs,h1,h2,h3,h4⟩
 ·exact .inl ⟨h1,h2⟩
 ·refine .inr ⟨q,rs,h1,?_,h3,h4⟩
  have:q≠o:=by rintro rfl; exact hne _ h1
  simp only[bM,if_neg this,h2]
def Dis (s:Nat) (v u:PV):Prop:=∀ q l q' l',v=.osl q s 0 l→u=.osl q' s 0 l'→q≠q'
theorem Dis.nil {s:Nat}:Dis s .aB .aB:=fun _ _ _ _ h=>by cases h
theorem Dis.symm {s:Nat} {v u:PV} (h:Dis s v u):Dis s u v:=fun q l q' l' h1 h2=>(h q' l' q l h2 h1).symm
end
structure Obs where
 o5:Nat
 o7:Nat
 o8:Nat
 oD:Nat
 oB:Nat
structure Obs.Ne (o:Obs):Prop where
 a1:o.o5≠o.oD
 a2:o.o5≠o.oB
 a3:o.o7≠o.oD
 a4:o.o7≠o.oB
 a5:o.o8≠o.oD
 a6:o.o8≠o.oB
 a7:o.oD≠o.oB
structure beN (H:PH) (o:Obs) (v:Nat) (p:dB) (A:List Bool) (D B:List Int):Prop where
 h5:H o.o5=some (.rows 1 [[.int .i64 v]])
 h7:H o.o7=some (.rows 17 [p.cells])
 h8:H o.o8=some (.rows 1 (fU A))
 hD:H o.oD=some (.rows 1 (bD D))
 hB:H o.oB=some (.rows 1 (bD B))
theorem beN.keep {H H':PH} {o:Obs} {v:Nat} {p:dB} {A:List Bool} {D B:List Int} (h:beN H o v p A D B) (hk:∀ q s' z,3≠s'→H q=some (.rows s' z)→H' q=some (.rows s' z)):beN H' o v p A D B :=
 ⟨hk _ _ _ (by decide) h.h5,hk _ _ _ (by decide) h.h7,hk _ _ _ (by decide) h.h8,hk _ _ _ (by decide) h.hD,hk _ _ _ (by decide) h.hB⟩
def home (row:List Int) (i:Nat):Bool:=decide (row.getD i 0<0)
def brZ (f:aJ) (p:dB) (i:Nat):Int:=p.spread (lvl f i).toNat
def kI (down:List Int) (d:Int):Bool:=decide (0≤d)&&down.contains d
def mD (down:List Int) (d:Int):Bool:=decide (0≤d)&&!down.contains d
def sB (down row:List Int):Bool:=row.any (kI down)
def gD (down row:List Int):Nat:=row.countP (mD down)
def tR (f:aJ) (reserve:Int) (down:List Int) (v:Nat) (row:List Int):Bool:=sB down row&&decide (((gD down row:Nat):Int)<(cY f v).k+reserve)
def uS (f:aJ) (now:List (List Int)) (reserve:Int) (down:List Int) (n:Nat):Bool:=(bJP n).all fun v=>!tR f reserve down v (now.getD v [])
def fA (f:aJ) (now:List (List Int)) (reserve:Int) (down:List Int):Bool:=uS f now reserve down now.length
def fJ (f:aJ) (now:List (List Int)) (reserve:Int):Bool:=(dM f&&gU f now)&&(decide (0≤reserve)&&decide (reserve≤4))
theorem acQ (f:aJ) (now:List (List Int)) (reserve:Int) (down:List Int) (n:Nat):uS f now reserve down (n+1)=(uS f now reserve down n&&!tR f reserve down n (now.getD n [])):=by
 unfold uS
 rw[List.range_succ,List.all_append]
 simp
theorem aBH {f:aJ} {now:List (List Int)} {reserve:Int} {down:List Int} {v n:Nat} (h:v<n) (hs:tR f reserve down v (now.getD v [])=true):uS f now reserve down n=false:=by
 unfold uS
 rw[Bool.eq_false_iff,ne_eq,bKK]
 intro hk
 have:=hk v (bKZ.2 h)
 rw[hs] at this
 cases this
theorem aqE {down row:List Int} {k:Nat} (h:k<row.length):sB down (row.take (k+1))=(sB down (row.take k)||kI down row[k]):=by
 unfold sB
 rw[bLL h,List.any_append]
 simp
theorem VM {down row:List Int} {k:Nat} (h:k<row.length):gD down (row.take (k+1))=gD down (row.take k)+if mD down row[k] then 1 else 0:=by
 unfold gD
 rw[bLL h,List.countP_append,List.countP_cons,List.countP_nil]
 omega
theorem a5B {f:aJ} {l:List (List Int)} (h:gU f l=true):l.length=f.bHM.length:=by
 unfold gU at h
 simp only[bKM,decide_eq_true_eq] at h
 omega
def InR (l:List Int) (n:Nat):Prop:=∀ x∈l,0≤x∧x<(n:Int)
def RQ (f:aJ) (now:List (List Int)) (r:Int) (l:List Int):Bool:=!l.isEmpty&&fA f now r l
def IA (f:aJ) (now:List (List Int)) (r:Int) (ws:List (List Int)) (d:Nat):List (List Int):=match ws.findIdx? (fun l=>fA f now r (l++[(d:Int)])) with
 | some i=>ws.set i (ws.getD i []++[(d:Int)])
 | none=>ws++[[(d:Int)]]
def lY (f:aJ) (now:List (List Int)) (r:Int):Nat→List (List Int)
 | 0=>[]
 | d+1=>IA f now r (lY f now r d) d
def lK (f:aJ) (now:List (List Int)) (r:Int):Bool:=(bJP f.bHK.length).all fun d=>fA f now r [(d:Int)]
def bE (row:List Int):List Int:=row.filter fun d=>decide (0≤d)
def a3U (f:aJ) (r:Int) (v:Nat) (row:List Int):Int :=
 if (bE row).Nodup∧bE row≠[] then (((bE row).length:Nat):Int)-(cY f v).k-r else 0
def ayG (f:aJ) (r:Int) (v:Nat) (row:List Int):Int :=
 if (bE row).Nodup∧bE row≠[] then bLF ((((bE row).length:Nat):Int)+a3U f r v row-1) (a3U f r v row) else 0
def fR (f:aJ) (now:List (List Int)) (r:Int):Nat→Int
 | 0=>min (f.bHK.length:Int) 1
 | v+1=>max (fR f now r v) (ayG f r v (now.getD v []))
def inN (down row:List Int):Nat:=row.countP (kI down)
theorem a8T (down row:List Int):inN down row+gD down row=(bE row).length:=by
 unfold inN gD bE kI mD
 rw[← List.countP_eq_length_filter]
 induction row with
 | nil=>rfl
 | cons x xs ih =>
  rw[List.countP_cons,List.countP_cons,List.countP_cons,← ih]
  cases decide (0≤x)<;>cases down.contains x<;>simp<;>omega
theorem bmA {f:aJ} {now:List (List Int)} {r:Int} {l:List Int} (h:fA f now r l=true) {v:Nat} (hv:v<now.length) (hh:bE (now.getD v [])≠[]) (hk:0≤(cY f v).k+r) :
  inN l (now.getD v [])=0∨((inN l (now.getD v []):Nat):Int)≤(((bE (now.getD v [])).length:Nat):Int)-(cY f v).k-r:=by
 unfold fA uS at h
 have h1:=bKK.1 h v (bKZ.2 hv)
 have h2:=a8T l (now.getD v [])
 rw[Bool.not_eq_true'] at h1
 unfold tR at h1
 rw[Bool.and_eq_false_iff,decide_eq_false_iff_not] at h1
 rcases h1 with h1 | h1
 ·refine .inl ?_
  unfold inN
  rw[List.countP_eq_zero]
  intro d hd hd2
  unfold sB at h1
  have:(now.getD v []).any (kI l)=true:=List.any_eq_true.2 ⟨d,hd,hd2⟩
  rw[this] at h1; cases h1
 ·exact .inr Om
theorem blI {n e k:Nat} (he:0<e) (h:n≤k*e):bLF ((n:Int)+(e:Int)-1) (e:Int)≤(k:Int):=by
 have h1:(n:Int)+(e:Int)-1=((n+e-1:Nat):Int):=by omega
 rw[h1,← Int.ofNat_tdiv]
 have:(n+e-1)/e≤k:=by
  have h2:n+e-1<(k+1)*e:=by rw[Nat.succ_mul]; omega
  exact Nat.le_of_lt_succ ((bMJ he).2 h2)
 exact_mod_cast this
theorem set_perm:∀ (ws:List (List Int)) (i:Nat) (x:Int),i<ws.length→((ws.set i (ws.getD i []++[x])).flatten).Perm (ws.flatten++[x])
 | [],i,x,h=>by cases h
 | l::ws,0,x,_=>by
  simp only[List.set_cons_zero,List.getD_cons_zero,List.flatten_cons,bKP]
  exact List.Perm.append_left _ List.perm_append_comm
 | l::ws,i+1,x,h=>by
  have:=set_perm ws i x (by simpa using h)
  simp only[List.set_cons_succ,List.getD_cons_succ,List.flatten_cons,bKP]
  exact List.Perm.append_left _ this
structure azG (f:aJ) (now:List (List Int)) (r:Int) (n:Nat) (w:List (List Int)):Prop where
 ok:∀ l∈w,RQ f now r l=true
 len:w.flatten.length=n
 nd:w.flatten.Nodup
 rng:InR w.flatten n
theorem azG.put {f:aJ} {now:List (List Int)} {r:Int} {n:Nat} {w:List (List Int)} (h:azG f now r n w) (ha:fA f now r [(n:Int)]=true):azG f now r (n+1) (IA f now r w n):=by
 have key:∀ u:List (List Int),u.flatten.Perm (w.flatten++[(n:Int)])→(∀ l∈u,RQ f now r l=true)→azG f now r (n+1) u:=fun u hp hok=>by
  refine⟨hok,by rw[hp.length_eq,bJW,h.len]; rfl,hp.nodup_iff.2 ?_,fun x hx=>?_⟩
  ·rw[bMC]
   refine⟨h.nd,by simp,fun a ha b hb=>?_⟩
   rw[bKV] at hb
   subst hb
   have:=h.rng a ha
   omega
  ·have:=hp.mem_iff.1 hx
   rw[bLB,bKV] at this
   rcases this with hx | rfl
   ·have:=h.rng x hx; omega
   ·omega
 unfold IA
 split
 ·rename_i i hi
  obtain⟨hlt,hp,-⟩:=List.findIdx?_eq_some_iff_getElem.1 hi
  refine key _ (set_perm w i n hlt) fun l hl=>?_
  rcases List.mem_or_eq_of_mem_set hl with hl | rfl
  ·exact h.ok l hl
  ·unfold RQ
   rw[bKH,bJZ hlt,bMK,hp]
   simp
 ·refine key _ (by rw[List.flatten_append]; simp) fun l hl=>?_
  rw[bLB,bKV] at hl
  rcases hl with hl | rfl
  ·exact h.ok l hl
  ·unfold RQ
   rw[ha]; rfl
theorem RR {f:aJ} {now:List (List Int)} {r:Int} (ha:lK f now r=true):∀ d,d≤f.bHK.length→azG f now r d (lY f now r d)
 | 0,_=>⟨(fun l h=>by cases h),rfl,.nil,fun x h=>by cases h⟩
 | d+1,hd=>(RR ha d Om).put (bKK.1 ha d (bKZ.2 Om))
end Go.PM
namespace Go.RO
open Go
theorem MM:∀ {a b:List Int},a.Pairwise (· < ·)→b.Pairwise (· < ·)→(∀ y,y∈a↔y∈b)→a=b
 | [],[],_,_,_=>rfl
 | [],y::ys,_,_,h=>by have:=(h y).2 (by simp); simp at this
 | x::xs,[],_,_,h=>by have:=(h x).1 (by simp); simp at this
 | x::xs,y::ys,ha,hb,h=>by
  rw[List.pairwise_cons] at ha hb
  have e:x=y:=by
   have h1:=(h x).1 (by simp)
   have h2:=(h y).2 (by simp)
   rw[bKE] at h1 h2
   rcases h1 with h1 | h1
   ·exact h1
   ·rcases h2 with h2 | h2
    ·exact h2.symm
    ·have:=hb.1 x h1; have:=ha.1 y h2; omega
  subst e
  rw[MM ha.2 hb.2 fun z=>?_]
  constructor
  ·intro hz
   have h1:=(h z).1 (by simp[hz])
   rw[bKE] at h1
   rcases h1 with rfl | h1
   ·have:=ha.1 z hz; omega
   ·exact h1
  ·intro hz
   have h1:=(h z).2 (by simp[hz])
   rw[bKE] at h1
   rcases h1 with rfl | h1
   ·have:=hb.1 z hz; omega
   ·exact h1
def ins (x:Int):List Int→List Int
 | []=>[x]
 | y::ys=>if y<x then y::ins x ys else if y=x then y::ys else x::y::ys
theorem amD (x z:Int):∀ l,z∈ins x l↔z=x∨z∈l
 | []=>by simp[ins]
 | y::ys=>by
  unfold ins
  split
  ·simp only[bKE,amD x z ys]
   constructor
   ·rintro (h | h | h)<;>simp[h]
   ·rintro (h | h | h)<;>simp[h]
  ·split
   ·rename_i e; subst e; simp
   ·simp
theorem adU (x:Int):∀ l:List Int,l.Pairwise (· < ·)→(ins x l).Pairwise (· < ·)
 | [],_=>by simp[ins]
 | y::ys,h=>by
  rw[List.pairwise_cons] at h
  unfold ins
  split
  ·rename_i hlt
   rw[List.pairwise_cons]
   refine⟨fun z hz=>?_,adU x ys h.2⟩
   rcases (amD x z ys).1 hz with rfl | hz
   ·exact hlt
   ·exact h.1 z hz
  ·rename_i h1
   split
   ·rw[List.pairwise_cons]; exact h
   ·rename_i h2
    rw[List.pairwise_cons,List.pairwise_cons]
    refine⟨fun z hz=>?_,h⟩
    rw[bKE] at hz
    rcases hz with rfl | hz
    ·omega
    ·have:=h.1 z hz; omega
def tL (out:List Int) (xs:List Int):List Int:=xs.foldl (fun o x=>ins x o) out
theorem adT (z:Int):∀ (xs out:List Int),z∈tL out xs↔z∈out∨z∈xs
 | [],out=>by simp[tL]
 | x::xs,out=>by
  have:=adT z xs (ins x out)
  unfold tL at this ⊢
  rw[List.foldl_cons,this,amD,bKE]
  constructor
  ·rintro ((h | h) | h)<;>simp[h]
  ·rintro (h | h | h)<;>simp[h]
theorem LE:∀ (xs out:List Int),out.Pairwise (· < ·)→(tL out xs).Pairwise (· < ·)
 | [],out,h=>h
 | x::xs,out,h=>LE xs (ins x out) (adU x out h)
def srt (xs:List Int):List Int:=xs.mergeSort fun x y=>decide (x≤y)
theorem alK {zs:List Int} (h:zs.Pairwise (·≤·)):(Lib.compact zs).Pairwise (· < ·):=by
 unfold Lib.compact Lib.compactUpTo
 rw[List.pairwise_map]
 have hr:(bJP zs.length).Pairwise (· < ·):=List.pairwise_lt_range
 have hf:=hr.filter (Lib.keeps zs.toArray)
 refine hf.imp_of_mem fun {i j} hi hj hij=>?_
 rw[List.mem_filter,bKZ] at hi hj
 obtain⟨hj1,hj2⟩:=hj
 have k:zs[j]!≠zs[j-1]!:=by
  simp only[Lib.keeps,decide_eq_true_eq] at hj2
  rcases hj2 with h0 | h0
  ·omega
  ·simpa using h0
 have e1:zs[j]! = zs[j]:=by simp[hj1]
 have e2:zs[j-1]! = zs[j-1]:=by simp[show j-1<zs.length by omega]
 have h1:zs[i]≤zs[j-1]:=by
  rcases bKI i (j-1) with hlt | hge
  ·exact List.pairwise_iff_getElem.1 h i (j-1) hi.1 Om hlt
  ·have:i=j-1:=by omega
   subst this
   exact Int.le_refl _
 have h2:zs[j-1]≤zs[j]:=List.pairwise_iff_getElem.1 h (j-1) j Om hj1 Om
 rw[e1,e2] at k
 simp only[List.getElem!_toArray]
 rw[e1,show zs[i]! = zs[i] by simp[hi.1]]
 omega
theorem aPO (zs:List Int) (y:Int):y∈Lib.compact zs↔y∈zs:=by
 unfold Lib.compact Lib.compactUpTo
 rw[bKU]
 constructor
 ·rintro⟨i,hi,rfl⟩
  rw[List.mem_filter,bKZ] at hi
  simp only[List.getElem!_toArray]
  rw[show zs[i]! = zs[i] by simp[hi.1]]
  exact bJS _
 ·intro hy
  obtain⟨i,hi,rfl⟩:=bLV hy
  have key:∀ i,i<zs.length→∃ k,k≤i∧Lib.keeps zs.toArray k=true∧zs[k]! = zs[i]!:=by
   intro i
   induction i with
   | zero=>intro _; exact⟨0,bJQ _,by simp[Lib.keeps],rfl⟩
   | succ i ih =>
    intro hi
    by_cases e:zs[i+1]! = zs[i]!
    ·obtain⟨k,h1,h2,h3⟩:=ih Om
     exact⟨k,by omega,h2,h3.trans e.symm⟩
    ·exact⟨i+1,bJQ _,by simp[Lib.keeps]; simpa using e,rfl⟩
  obtain⟨k,h1,h2,h3⟩:=key i hi
  refine⟨k,?_,?_⟩
  ·rw[List.mem_filter,bKZ]; exact⟨by omega,h2⟩
  ·simp only[List.getElem!_toArray]
   rw[h3]; simp[hi]
theorem a5F (xs:List Int):(srt xs).Pairwise (·≤·):=by
 have:=List.pairwise_mergeSort (le:=fun x y:Int=>decide (x≤y)) (fun a b c h1 h2=>by simp at *; omega) (fun a b=>by simp; omega) xs
 exact this.imp (by simp)
theorem bpC (xs:List Int) (y:Int):y∈srt xs↔y∈xs:=by simp[srt]
theorem aPP (xs:List Int):Lib.compact (srt xs)=tL [] xs :=
 MM (alK (a5F xs)) (LE xs [] .nil) fun y=>by
  rw[aPO,bpC,adT]; simp
end Go.RO
namespace Go.PM
open Go Go.Na
def wQ (f:aJ) (now:List (List Int)) (r:Int) (n:Nat):Bool:=(bJP n).all fun d=>fA f now r [(d:Int)]
theorem TR (f:aJ) (now:List (List Int)) (r:Int) (n:Nat):wQ f now r (n+1)=(wQ f now r n&&fA f now r [(n:Int)]):=by
 unfold wQ
 rw[List.range_succ,List.all_append]
 simp
theorem aoA {f:aJ} {now:List (List Int)} {r:Int} {n d:Nat} (h:d<n) (hs:fA f now r [(d:Int)]=false):wQ f now r n=false:=by
 unfold wQ
 rw[Bool.eq_false_iff,ne_eq,bKK]
 intro hk
 rw[hk d (bKZ.2 h)] at hs
 cases hs
def fL (f:aJ) (now:List (List Int)) (r:Int):Int:=if fJ f now r then (if lK f now r then 0 else 116) else 1
def jN (f:aJ) (now:List (List Int)) (r:Int):List (List Int):=if fL f now r=0 then lY f now r f.bHK.length else []
def tE (f:aJ) (now:List (List Int)) (r:Int):Int:=if fL f now r=0 then fR f now r now.length else 0
theorem tH {f:aJ} {now:List (List Int)} {r:Int} (h:fL f now r=0):fJ f now r=true∧lK f now r=true:=by
 unfold fL at h
 cases hu:fJ f now r<;>rw[hu] at h
 ·cases h
 ·cases ha:lK f now r<;>rw[ha] at h
  ·cases h
  ·exact⟨rfl,rfl⟩
def afD:Rg:=[iA 3 (.box true (Tm 0)),iT 6 false]
def afE:Rg:=[iO 7 7 3,iK 8 96 7,iC 9 .eql 8 0,iM 10 9,gO 11 7 3 10 true,gM 12 1 10 true,gK2 13 153 11 12 10 true,iP 14 10 13,iM 15 14,gM 16 2 15 true,gC 17 .geq 16 0 15 true,iP 18 15 17,iM 19 18,gM 20 2 19 true,gC 21 .leq 20 4 19 true,iP 22 19 21,iM 6 22]
def xL:aC:=(sq afD (sq afE .ret))
def a4K:List Nat:=[3]
def DO:aW:=⟨3,23,xL,[.tmp 6]⟩
def aIG:Rg:=[iA 4 (.box true (Tm 0)),iT 8 false]
def aIH:Rg:=[iM 15 1,iN 16 15,iI 17 0]
def aII:Rg:=[iB 18 .lss 17 16]
def aIJ:Rg:=[iM 19 17,iX 20 1 15 17,iL 21 20,iM 9 19,iM 10 21]
def aIK:Rg:=[iT 11 false,iI 12 0]
def aIL:Rg:=[iM 22 10,iN 23 22,iI 24 0]
def aIM:Rg:=[iB 25 .lss 24 23]
def ZC:Rg:=[iX 26 1 22 24,iL 27 26,iM 14 27]
def ZD:Rg:=[iM 31 14,iC 32 .lss 31 0,iM 30 32]
def aIN:Rg:=[iM 34 3,iM 35 14,iK2 36 260 34 35,iM 33 36]
def arY:Rg:=[iT 11 true]
def arZ:Rg:=[iM 28 12,iC 29 .add 28 1,iM 12 29]
def yX:Rg:=[iC 37 .add 24 1,iM 24 37]
def arW:aC:=(sq aIM (.seq (.cond (Tm 25) .skip (.exit 2)) (.seq (.block 3 (sq ZC (.block 4 (sq ZD (.cond (Tm 30) .skip (sq aIN (.cond (Tm 33) (.region arY) (.region arZ)))))))) (.region yX))))
def PD:Rd:=[(iM 38 11,false),(iM 39 38,false),(gM 40 12 39 true,false),(gF 41 5 4 39 true,false),(gL 42 41 39 true,false),(gF 43 6 4 39 true,false),(gL 44 43 39 true,false),(gM 45 9 39 true,false),(iG 46 (.bIF 2 (Tm 44) (Tm 45)) 39 true,false),(gF 47 1 46 39 true,false),(gL 48 47 39 true,false),(iG 49 (.bIF 17 (Tm 42) (Tm 48)) 39 true,false),(gF 50 1 49 39 true,false),(gL 51 50 39 true,false),(gM 52 2 39 true,false),(gB 53 .add 51 52 39 true,false),(gB 54 .lss 40 53 39 true,false),(iP 55 39 54,false)]
def asA:Rg:=[iT 8 false]
def PE:Rg:=[iC 56 .add 17 1,iM 17 56]
def arX:aC:=(sq aII (.seq (.cond (Tm 18) .skip (.exit 0)) (.seq (.block 1 (sq aIJ (sq aIK (.seq (sq aIL (.block 2 (.loop arW))) (dq PD (.cond (Tm 55) (sq asA .ret) .skip)))))) (.region PE))))
def asB:Rg:=[iT 8 true]
def HX:aC:=(sq aIG (.seq (sq aIH (.block 0 (.loop arX))) (sq asB .ret)))
def bhU:List Nat:=[4]
def afB:aW:=⟨4,57,HX,[.tmp 8]⟩
def bhQ:Rg:=[iA 4 (.box true (Tm 0)),iT 8 false]
def bhR:Rg:=[iO 9 7 4,iM 10 1,iM 11 2,iA 12 (.call 250 [(Tm 9),(Tm 10),(Tm 11)]),iM 13 12,gO 14 7 4 13 true,gM 15 1 13 true,gM 16 2 13 true,gM 17 3 13 true,iG 18 (.call 251 [(Tm 14),(Tm 15),(Tm 16),(Tm 17)]) 13 true,iP 19 13 18,iM 8 19]
def a4G:aC:=(sq bhQ (sq bhR .ret))
def bhS:List Nat:=[4]
def a4F:aW:=⟨4,20,a4G,[.tmp 8]⟩
def afG:Rg:=[iA 3 (.box true (Tm 0)),iT 6 false]
def afH:Rg:=[iM 7 2,iC 8 .geq 7 0,iM 9 8,gM 10 2 9 true,gC 11 .leq 10 4 9 true,iP 12 9 11,iM 13 12,gO 14 7 3 13 true,gK 15 258 14 13 true,gC 16 .eql 15 0 13 true,iP 17 13 16,iM 18 17,gO 19 7 3 18 true,gM 20 1 18 true,gK2 21 86 19 20 18 true,iP 22 18 21,iM 6 22]
def xN:aC:=(sq afG (sq afH .ret))
def a4M:List Nat:=[3]
def DP:aW:=⟨3,23,xN,[.tmp 6]⟩
def aIU:Rg:=[iA 4 (.box true (Tm 0)),iT 8 false]
def aIV:Rg:=[iI 9 0]
def aIW:Rg:=[iM 13 9,iM 14 1,iN 15 14,iB 16 .lss 13 15]
def aIX:Rg:=[iT 10 false,iI 11 0]
def aIY:Rg:=[iI 12 0]
def aIZ:Rg:=[iM 19 12,iM 20 1,iM 21 9,iX 22 1 20 21,iL 23 22,iN 24 23,iB 25 .lss 19 24]
def ZF:Rg:=[iM 31 1,iM 32 9,iX 33 1 31 32,iL 34 33,iM 35 12,iX 36 1 34 35,iL 37 36,iC 38 .lss 37 0,iM 30 38]
def aJA:Rg:=[iM 40 3,iM 41 1,iM 42 9,iX 43 1 41 42,iL 44 43,iM 45 12,iX 46 1 44 45,iL 47 46,iK2 48 254 40 47,iM 39 48]
def aJB:Rg:=[iT 10 true]
def aJC:Rg:=[iM 28 11,iC 29 .add 28 1,iM 11 29]
def yY:Rg:=[iM 26 12,iC 27 .add 26 1,iM 12 27]
def asM:aC:=(.seq (sq aIZ (.cond (Tm 25) .skip (.exit 2))) (.seq (.block 3 (.block 4 (sq ZF (.cond (Tm 30) .skip (sq aJA (.cond (Tm 39) (.region aJB) (.region aJC))))))) (.region yY)))
def asO:Rg:=[iM 49 10,iM 50 49,gM 51 11 50 true,gO 52 7 4 50 true,gM 53 9 50 true,gK2 54 257 52 53 50 true,gM 55 2 50 true,gB 56 .add 54 55 50 true,gB 57 .lss 51 56 50 true,iP 58 50 57]
def asP:Rg:=[iT 8 false]
def PL:Rg:=[iM 17 9,iC 18 .add 17 1,iM 9 18]
def asN:aC:=(.seq (sq aIW (.cond (Tm 16) .skip (.exit 0))) (.seq (.block 1 (sq aIX (.seq (sq aIY (.block 2 (.loop asM))) (sq asO (.cond (Tm 58) (sq asP .ret) .skip))))) (.region PL)))
def asQ:Rg:=[iT 8 true]
def IB:aC:=(sq aIU (.seq (sq aIV (.block 0 (.loop asN))) (sq asQ .ret)))
def bhZ:List Nat:=[4]
def afF:aW:=⟨4,59,IB,[.tmp 8]⟩
def bkQ:Rg:=[iA 2 (.box true (Tm 0)),iI 4 0]
def bkR:Rd:=[(iF 5 5 2,false),(iL 6 5,false),(iF 7 6 2,false),(iL 8 7,false),(iM 9 1,false),(iX 10 2 8 9,false),(iF 11 1 10,false),(iL 12 11,false),(iX 13 17 6 12,false),(iF 14 1 13,false),(iL 15 14,false),(iM 4 15,false)]
def anD:aC:=(sq bkQ (dq bkR .ret))
def bvR:List Nat:=[2]
def qk:aW:=⟨2,16,anD,[.tmp 4]⟩
def SJ:Rg:=[iA 1 (.box true (Tm 0)),iI 2 0]
def SK:Rg:=[iO 3 7 1,iK 4 67 3,iA 5 (.un .not (Tm 4))]
def SL:Rg:=[iI 2 1]
def SM:Rg:=[iI 2 0]
def sO:aC:=(sq SJ (.seq (sq SK (.cond (Tm 5) (sq SL .ret) .skip)) (sq SM .ret)))
def aPK:List Nat:=[1]
def tY:aW:=⟨1,6,sO,[.tmp 2]⟩
def PB:Rg:=[iT 4 false]
def PC:Rg:=[iM 5 0,iM 6 1,iK2 7 261 5 6,iC 8 .geq 7 0,iM 4 8]
def sG:aC:=(sq PB (sq PC .ret))
def aIE:List Nat:=[]
def tQ:aW:=⟨2,9,sG,[.tmp 4]⟩
def asD:Rg:=[iI 4 0]
def asE:Rg:=[iM 6 0,iN 7 6,iI 8 0]
def asF:Rg:=[iB 9 .lss 8 7]
def PI:Rg:=[iM 10 8,iM 5 10]
def PJ:Rg:=[iM 11 1,iM 12 0,iM 13 5,iX 14 1 12 13,iL 15 14,iB 16 .eql 11 15]
def asG:Rg:=[iM 17 5,iM 4 17]
def asH:Rg:=[iC 18 .add 8 1,iM 8 18]
def asC:aC:=(sq asF (.seq (.cond (Tm 9) .skip (.exit 0)) (.seq (.block 1 (sq PI (sq PJ (.cond (Tm 16) (sq asG .ret) .skip)))) (.region asH))))
def asI:Rg:=[iI 4 (-1)]
def BB:aC:=(sq asD (.seq (sq asE (.block 0 (.loop asC))) (sq asI .ret)))
def baN:List Nat:=[]
def PG:aW:=⟨2,19,BB,[.tmp 4]⟩
def aWN:Rg:=[iT 4 false]
def aWO:Rg:=[iI 5 0]
def aWP:Rg:=[iM 6 5,iM 7 0,iN 8 7,iB 9 .lss 6 8]
def anI:Rg:=[iM 12 0,iM 13 5,iX 14 1 12 13,iL 15 14,iM 16 1,iB 17 .eql 15 16]
def aWQ:Rg:=[iT 4 true]
def aWR:Rg:=[iM 10 5,iC 11 .add 10 1,iM 5 11]
def aWL:aC:=(.seq (sq aWP (.cond (Tm 9) .skip (.exit 0))) (.seq (.block 1 (sq anI (.cond (Tm 17) (sq aWQ .ret) .skip))) (.region aWR)))
def aWS:Rg:=[iT 4 false]
def PQ:aC:=(sq aWN (.seq (sq aWO (.block 0 (.loop aWL))) (sq aWS .ret)))
def aWT:List Nat:=[]
def PP:aW:=⟨2,18,PQ,[.tmp 4]⟩
def aKP:Rg:=[iA 2 (.box true (Tm 0)),iZ 4]
def aKQ:Rg:=[iO 8 7 2,iK 9 67 8,iA 10 (.un .not (Tm 9))]
def aKR:Rg:=[iZ 4]
def aKS:Rg:=[iZ 5]
def aKT:Rg:=[iI 6 0]
def aKU:Rg:=[iM 11 6,iF 12 4 2,iL 13 12,iN 14 13,iB 15 .lss 11 14]
def aKV:Rd:=[(iF 18 2 2,false),(iL 19 18,false),(iF 20 4 2,false),(iL 21 20,false),(iM 22 6,false),(iX 23 3 21 22,false),(iF 24 1 23,false),(iL 25 24,false),(iX 26 4 19 25,false),(iF 27 1 26,false),(iL 28 27,false),(iM 7 28,false)]
def ZI:Rg:=[iM 29 1,iN 30 29,iF 31 4 2,iL 32 31,iN 33 32,iB 34 .eql 30 33]
def aKW:Rg:=[iM 35 1,iM 36 6,iX 37 1 35 36,iL 38 37,iM 39 7,iA 40 (.bIL false (Tm 38) (Tm 39)),iA 41 (.bIL true (Ci 0) (Tm 40)),iM 7 41]
def ZJ:Rg:=[iM 42 5,iM 43 7,iA 44 (.bHQ true 1 1 [(.int .i64 0)] [(0,(Tm 43))]),iA 45 (.append 1 8 (Tm 42) (Tm 44)),iM 5 45]
def QB:Rg:=[iM 16 6,iC 17 .add 16 1,iM 6 17]
def atA:aC:=(.seq (sq aKU (.cond (Tm 15) .skip (.exit 0))) (.seq (.block 1 (dq aKV (.seq (sq ZI (.cond (Tm 34) (.region aKW) .skip)) (.region ZJ)))) (.region QB)))
def QC:Rg:=[iM 46 5,iM 4 46]
def IK:aC:=(sq aKP (.seq (sq aKQ (.cond (Tm 10) (sq aKR .ret) .skip)) (sq aKS (.seq (sq aKT (.block 0 (.loop atA))) (sq QC .ret)))))
def biM:List Nat:=[2,44]
def afP:aW:=⟨2,47,IK,[.tmp 4]⟩
def aXH:Rg:=[iA 2 (.box true (Tm 0)),iI 4 0]
def aXI:Rg:=[iI 5 0]
def aXJ:Rg:=[iM 6 5,iM 7 1,iN 8 7,iB 9 .lss 6 8]
def TH:Rd:=[(iM 12 1,false),(iM 13 5,false),(iX 14 1 12 13,false),(iL 15 14,false),(iC 16 .lss 15 (-1),false),(iM 17 16,false),(gM 18 1 17 false,false),(gM 19 5 17 false,false),(iG 20 (.bIF 1 (Tm 18) (Tm 19)) 17 false,false),(gL 21 20 17 false,false),(gF 22 4 2 17 false,false),(gL 23 22 17 false,false),(gN 24 23 17 false,false),(gB 25 .geq 21 24 17 false,false),(iQ 26 17 25,false)]
def anJ:Rg:=[iM 27 5,iM 4 27]
def aXK:Rg:=[iM 10 5,iC 11 .add 10 1,iM 5 11]
def aXG:aC:=(.seq (sq aXJ (.cond (Tm 9) .skip (.exit 0))) (.seq (.block 1 (dq TH (.cond (Tm 26) (sq anJ .ret) .skip))) (.region aXK)))
def aXL:Rg:=[iI 4 (-1)]
def PW:aC:=(sq aXH (.seq (sq aXI (.block 0 (.loop aXG))) (sq aXL .ret)))
def boW:List Nat:=[2]
def aKE:aW:=⟨2,28,PW,[.tmp 4]⟩
def afR:Rg:=[iA 2 (.box true (Tm 0)),iT 4 false]
def afS:Rg:=[iO 6 7 2,iK 7 67 6,iA 8 (.un .not (Tm 7)),iM 9 8,gM 10 1 9 false,gN 11 10 9 false,gF 12 6 2 9 false,gL 13 12 9 false,gN 14 13 9 false,gB 15 .neq 11 14 9 false,iQ 16 9 15]
def IL:Rg:=[iT 4 false]
def afT:Rg:=[iI 5 0]
def afU:Rg:=[iM 17 5,iM 18 1,iN 19 18,iB 20 .lss 17 19]
def afV:Rd:=[(iM 23 1,true),(iM 24 5,true),(iX 25 1 23 24,true),(iL 26 25,true),(iN 27 26,true),(iO 28 7 2,false),(iM 29 5,false),(iK2 30 82 28 29,true),(iB 31 .neq 27 30,false),(iM 32 31,false),(gO 33 7 2 32 false,false),(gM 34 1 32 false,false),(gM 35 5 32 false,false),(iG 36 (.bIF 1 (Tm 34) (Tm 35)) 32 false,false),(gL 37 36 32 false,false),(gK2 38 89 33 37 32 false,true),(gC 39 .geq 38 0 32 false,false),(iQ 40 32 39,false)]
def IM:Rg:=[iT 4 false]
def afW:Rg:=[iM 21 5,iC 22 .add 21 1,iM 5 22]
def afQ:aC:=(.seq (sq afU (.cond (Tm 20) .skip (.exit 0))) (.seq (.block 1 (dq afV (.cond (Tm 40) (sq IM .ret) .skip))) (.region afW)))
def afX:Rg:=[iT 4 true]
def xQ:aC:=(sq afR (.seq (sq afS (.cond (Tm 16) (sq IL .ret) .skip)) (.seq (sq afT (.block 0 (.loop afQ))) (sq afX .ret))))
def a5G:List Nat:=[2]
def DW:aW:=⟨2,41,xQ,[.tmp 4]⟩

def eQ (f:aJ) (l:List (List Int)) (room:List Int) (d:Nat):Bool:=decide ((brW f l).getD d 0>(fQ f room).getD d 0)
def PV.oid:PV→Option Nat
 | .osl q _ _ _=>some q
 | _=>none
abbrev LI:=PV × Nat × List (List PV)
abbrev BX:=Nat × cT
def eH (B:List BX):List Nat:=B.map (·.1)
def dY (L:List LI):List Nat:=L.filterMap fun x=>x.1.oid
structure aR (H:PH) (B:List BX) (L:List LI):Prop where
 box:∀ b∈B,H b.1=some b.2
 lst:∀ x∈L,bK H x.2.1 x.1 x.2.2
 nd:(eH B++dY L).Nodup
section
variable {C:Ctx} {H:PH} {B:List BX} {L:List LI} {K:PV→PH→Prop}
theorem bK.id {s q:Nat} {v:PV} {rows:List (List PV)} (h:bK H s v rows) (hq:v.oid=some q):∃ rs,H q=some (.rows s rs)∧v=.osl q s 0 rows.length∧rows.length≤rs.length∧rs.take rows.length=rows:=by
 rcases h with ⟨_,rfl⟩ | ⟨p,rs,rfl,h1,h2,h3⟩
 ·cases hq
 ·cases hq
  exact⟨rs,h1,rfl,h2,h3⟩
theorem bK.same {s:Nat} {v:PV} {rows:List (List PV)} {H':PH} (h:bK H s v rows) (hk:∀ q,v.oid=some q→H' q=H q):bK H' s v rows:=by
 rcases h with h | ⟨p,rs,rfl,h1,h2,h3⟩
 ·exact .inl h
 ·exact .inr ⟨p,rs,rfl,by rw[hk p rfl]; exact h1,h2,h3⟩
theorem kE {x:LI} {q:Nat} (h:x∈L) (hq:x.1.oid=some q):q∈dY L:=List.mem_filterMap.2 ⟨x,h,hq⟩
theorem sC {b:BX} (h:b∈B):b.1∈eH B:=bKU.2 ⟨b,h,rfl⟩
theorem aR.nil:aR H [] []:=⟨by simp,by simp,by simp[eH,dY]⟩
theorem aR.at (h:aR H B L) (i:Nat) {o:Nat} {x:cT} (hi:B[i]?=some (o,x)):H o=some x:=h.box _ (bMI hi)
theorem aR.own (h:aR H B L) (i:Nat) {s:Nat} {v:PV} {rows:List (List PV)} (hi:L[i]?=some (v,s,rows)):bK H s v rows:=h.lst _ (bMI hi)
theorem aR.ndB (h:aR H B L):(eH B).Nodup:=(bMC.1 h.nd).1
theorem aR.ndL (h:aR H B L):(dY L).Nodup:=(bMC.1 h.nd).2.1
theorem aR.ndX (h:aR H B L) {o q:Nat} (ho:o∈eH B) (hq:q∈dY L):o≠q:=(bMC.1 h.nd).2.2 o ho q hq
theorem aR.ne (h:aR H B L) (i j:Nat) {o p:Nat} {x y:cT} (hi:B[i]?=some (o,x)) (hj:B[j]?=some (p,y)) (hij:i≠j):o≠p:=by
 intro e
 have h1:(eH B)[i]?=some o:=by unfold eH; rw[bKS,hi]; rfl
 have h2:(eH B)[j]?=some p:=by unfold eH; rw[bKS,hj]; rfl
 obtain⟨li,e1⟩:=bKY.1 h1
 obtain⟨lj,e2⟩:=bKY.1 h2
 have hp:=List.pairwise_iff_getElem.1 h.ndB
 rcases Nat.lt_or_gt_of_ne hij with g | g
 ·exact hp i j li lj g (by rw[e1,e2,e])
 ·exact hp j i lj li g (by rw[e1,e2,e])
theorem aR.neL (h:aR H B L) (i j:Nat) {o q:Nat} {x:cT} {y:LI} (hi:B[i]?=some (o,x)) (hj:L[j]?=some y) (hq:y.1.oid=some q):o≠q :=
 h.ndX (sC (bMI hi)) (kE (bMI hj) hq)
theorem aR.fresh (h:aR H B L) {o:Nat} (ho:H o=none):o ∉ eH B∧o ∉ dY L:=by
 refine⟨fun hm=>?_,fun hm=>?_⟩
 ·obtain⟨b,hb,rfl⟩:=bKU.1 hm
  rw[h.box b hb] at ho; cases ho
 ·obtain⟨x,hx,e⟩:=List.mem_filterMap.1 hm
  obtain⟨rs,h1,_⟩:=(h.lst x hx).id e
  rw[h1] at ho; cases ho
theorem aR.keep (h:aR H B L) {H':PH} (hk:∀ q,q∈eH B∨q∈dY L→H' q=H q):aR H' B L :=
 ⟨fun b hb=>by rw[hk _ (.inl (sC hb))]; exact h.box b hb,fun x hx=>(h.lst x hx).same fun q hq=>hk q (.inr (kE hx hq)),h.nd⟩
theorem bgP {i:Nat} {o:Nat} {x y:cT} (hi:B[i]?=some (o,x)):eH (B.set i (o,y))=eH B:=by
 unfold eH
 rw[List.map_set]
 refine List.ext_getElem? fun j=>?_
 rw[List.getElem?_set]
 split
 ·rename_i e
  subst e
  rw[bKS,hi]
  have:=(bKY.1 hi).1
  simp[this]
 ·rfl
theorem aR.set (h:aR H B L) (i:Nat) {o:Nat} {x:cT} (hi:B[i]?=some (o,x)) (y:cT):aR (H.set o y) (B.set i (o,y)) L:=by
 have hoB:o∈eH B:=sC (bMI hi)
 refine⟨fun b hb=>?_,fun z hz=>(h.lst z hz).same fun q hq=>?_,by rw[bgP hi]; exact h.nd⟩
 ·obtain⟨j,hj⟩:=List.mem_iff_getElem?.1 hb
  rw[List.getElem?_set] at hj
  split at hj
  ·split at hj
   ·cases hj; simp only[bM,if_true]
   ·cases hj
  ·rename_i hne
   have:b.1≠o:=fun e=>h.ne i j hi (show B[j]?=some (b.1,b.2) from hj) hne e.symm
   rw[bM,if_neg this]
   exact h.box b (bMI hj)
 ·have:q≠o:=fun e=>h.ndX hoB (kE hz hq) e.symm
  rw[bM,if_neg this]
theorem aR.new (h:aR H B L) {o:Nat} (ho:H o=none) (y:cT):aR (H.set o y) (B++[(o,y)]) L:=by
 obtain⟨f1,f2⟩:=h.fresh ho
 refine⟨fun b hb=>?_,fun z hz=>(h.lst z hz).same fun q hq=>?_,?_⟩
 ·rw[bLB,bKV] at hb
  rcases hb with hb | rfl
  ·have:b.1≠o:=fun e=>f1 (e ▸ sC hb)
   rw[bM,if_neg this]; exact h.box b hb
  ·simp only[bM,if_true]
 ·have:q≠o:=fun e=>f2 (e ▸ kE hz hq)
  rw[bM,if_neg this]
 ·have:=h.nd
  simp only[eH,bLK,bLR,List.map_nil] at *
  rw[bKP,bMC] at *
  obtain⟨a,b,c⟩:=this
  refine⟨a,?_,fun p hp q hq=>?_⟩
  ·rw[List.singleton_append,List.nodup_cons]; exact⟨f2,b⟩
  ·rw[List.singleton_append,bKE] at hq
   rcases hq with rfl | hq
   ·intro e; subst e; exact f1 hp
   ·exact c p hp q hq
theorem jU (L1 L2:List LI):dY (L1++L2)=dY L1++dY L2:=List.filterMap_append ..
theorem aR.nI (h:aR H B L) (s:Nat):aR H B (L++[(.aB,s,[])]):=by
 refine⟨h.box,fun z hz=>?_,?_⟩
 ·rw[bLB,bKV] at hz
  rcases hz with hz | rfl
  ·exact h.lst z hz
  ·exact .nil
 ·rw[jU,show dY [((.aB:PV),s,([]:List (List PV)))]=[] from rfl,bLM]; exact h.nd
theorem aR.aGX (h:aR H B L) {o s:Nat} {rows:List (List PV)} (ho:H o=none):aR (H.set o (.rows s rows)) B (L++[(.osl o s 0 rows.length,s,rows)]):=by
 obtain⟨f1,f2⟩:=h.fresh ho
 have hk:=h.keep (H':=H.set o (.rows s rows)) fun q hq=>by
  have:q≠o:=by rintro rfl; exact hq.elim f1 f2
  rw[bM,if_neg this]
 refine⟨hk.box,fun z hz=>?_,?_⟩
 ·rw[bLB,bKV] at hz
  rcases hz with hz | rfl
  ·exact hk.lst z hz
  ·exact .inr ⟨o,rows,rfl,by simp only[bM,if_true],bJQ _,bKL⟩
 ·rw[jU,show dY [((.osl o s 0 rows.length:PV),s,rows)]=[o] from rfl,← bKP,bMC]
  refine⟨h.nd,by simp,fun p hp q hq=>?_⟩
  rw[bKV] at hq
  subst hq
  rintro rfl
  rcases bLB.1 hp with hp | hp
  ·exact f1 hp
  ·exact f2 hp
theorem aET {i:Nat} {v v':PV} {s s':Nat} {rows rows':List (List PV)} (hi:L[i]?=some (v,s,rows)):∃ L1 L2,L=L1++(v,s,rows)::L2∧L.set i (v',s',rows')=L1++(v',s',rows')::L2:=by
 obtain⟨hl,he⟩:=bKY.1 hi
 refine⟨L.take i,L.drop (i+1),?_,?_⟩
 ·rw[← he,← bLN hl,bMD]
 ·rw[List.set_eq_take_append_cons_drop,if_pos hl]
theorem aR.zG (h:aR H B L) (i:Nat) {s:Nat} {v:PV} {rows:List (List PV)} (hi:L[i]?=some (v,s,rows)) {s':Nat} {v':PV} {rows':List (List PV)} {H':PH} (ho:bK H' s' v' rows')
  (hid:∀ q,v'.oid=some q→v.oid=some q∨H q=none) (hk:∀ q,q∈eH B∨q∈dY L→(∀ p,v.oid=some p→q≠p)→H' q=H q):aR H' B (L.set i (v',s',rows')):=by
 obtain⟨L1,L2,e1,e2⟩:=aET (v':=v') (s':=s') (rows':=rows') hi
 rw[e2]
 subst e1
 have hnd:=h.nd
 have eL:dY (L1++(v,s,rows)::L2)=dY L1++(v.oid.toList++dY L2):=by
  rw[jU]
  congr 1
  unfold dY
  rw[List.filterMap_cons]
  cases e:v.oid<;>simp
 have eL':dY (L1++(v',s',rows')::L2)=dY L1++(v'.oid.toList++dY L2):=by
  rw[jU]
  congr 1
  unfold dY
  rw[List.filterMap_cons]
  cases e:v'.oid<;>simp
 rw[eL] at hnd
 have other:∀ q,q∈eH B∨q∈dY L1∨q∈dY L2→∀ p,v.oid=some p→q≠p:=by
  intro q hq p hp e
  subst e
  rw[hp] at hnd
  simp only[Option.toList_some] at hnd
  rw[bMC] at hnd
  obtain⟨a,b,c⟩:=hnd
  rw[bMC] at b
  obtain⟨b1,b2,b3⟩:=b
  rw[List.singleton_append,List.nodup_cons] at b2
  rcases hq with hq | hq | hq
  ·exact c q hq q (by simp) rfl
  ·exact b3 q hq q (by simp) rfl
  ·exact b2.1 hq
 have keepq:∀ q,q∈eH B∨q∈dY L1∨q∈dY L2→H' q=H q:=by
  intro q hq
  refine hk q ?_ (other q hq)
  rw[eL]
  simp only[bLB]
  rcases hq with hq | hq | hq
  ·exact .inl hq
  ·exact .inr (.inl hq)
  ·exact .inr (.inr (.inr hq))
 refine⟨fun b hb=>by rw[keepq _ (.inl (sC hb))]; exact h.box b hb,fun z hz=>?_,?_⟩
 ·rw[bLB,bKE] at hz
  rcases hz with hz | rfl | hz
  ·exact (h.lst z (by simp[hz])).same fun q hq=>keepq q (.inr (.inl (kE hz hq)))
  ·exact ho
  ·exact (h.lst z (by simp[hz])).same fun q hq=>keepq q (.inr (.inr (kE hz hq)))
 ·rw[eL']
  cases e:v'.oid with
  | none =>
   simp only[Option.toList_none,bMA]
   refine List.Nodup.sublist ?_ hnd
   exact bLU.append (bLU.refl _) (bLU.append (bLU.refl _) (List.sublist_append_right _ _))
  | some q =>
   rcases hid q e with hv | hn
   ·rw[hv] at hnd
    exact hnd
   ·obtain⟨f1,f2⟩:=h.fresh hn
    rw[eL] at f2
    simp only[bLB,not_or] at f2
    have hnd':(eH B++(dY L1++dY L2)).Nodup:=List.Nodup.sublist (bLU.append (bLU.refl _) (bLU.append (bLU.refl _) (List.sublist_append_right _ _))) hnd
    simp only[Option.toList_some]
    rw[bMC] at hnd' ⊢
    obtain⟨a,b,c⟩:=hnd'
    rw[bMC] at b
    obtain⟨b1,b2,b3⟩:=b
    refine⟨a,?_,?_⟩
    ·rw[bMC]
     refine⟨b1,by rw[List.singleton_append,List.nodup_cons]; exact⟨f2.2.2,b2⟩,fun p hp r hr=>?_⟩
     rw[List.singleton_append,bKE] at hr
     rcases hr with rfl | hr
     ·rintro rfl; exact f2.1 hp
     ·exact b3 p hp r hr
    ·intro p hp r hr
     rw[bLB,List.singleton_append,bKE] at hr
     rcases hr with hr | rfl | hr
     ·exact c p hp r (by simp[hr])
     ·rintro rfl; exact f1 hp
     ·exact c p hp r (by simp[hr])
theorem aR.append (h:aR H B L) (i:Nat) {s b:Nat} {v y:PV} {rows src:List (List PV)} (hi:L[i]?=some (v,s,rows)) (hy:dN H s y=some src) (hr:roomFor rows.length src.length b)
  (hk:∀ v' H',aR H' B (L.set i (v',s,rows++src))→(src≠[]→∃ q,v'=.osl q s 0 (rows++src).length)→K v' H'):lF H s b v y K:=by
 rcases h.own i hi with ⟨rfl,rfl⟩ | ⟨q,rs,rfl,h1,h2,h3⟩
 ·refine⟨src,hy,hr,fun e=>?_,fun e o ho=>?_⟩
  ·subst e
   refine hk _ _ ?_ fun h=>absurd rfl h
   exact h.zG i hi (.inl ⟨rfl,rfl⟩) (fun q hq=>by cases hq) fun q _ _=>rfl
  ·refine hk _ _ (h.zG i hi (.inr ⟨o,src,rfl,by simp only[bM,if_true],bJQ _,bKL⟩) (fun q hq=>by cases hq; exact .inr ho) fun q hq _=>?_) fun _=>⟨o,rfl⟩
   obtain⟨f1,f2⟩:=h.fresh ho
   have:q≠o:=by rintro rfl; exact hq.elim f1 f2
   rw[bM,if_neg this]
 ·have hlen:(rows++src).length=rows.length+src.length:=bJW
  refine⟨src,hy,rfl,rfl,hr,rs,h1,h2,?_,fun o ho=>?_⟩
  ·rw[h3]
   refine hk _ _ (h.zG i hi (.inr ⟨q,rows++src,by rw[hlen],by simp only[bM,if_true],bJQ _,bKL⟩) (fun p hp=>by cases hp; exact .inl rfl) fun p _ hp=>?_) fun _=>⟨q,by rw[hlen]⟩
   rw[bM,if_neg (hp q rfl)]
  ·rw[h3]
   refine hk _ _ (h.zG i hi (.inr ⟨o,rows++src,by rw[hlen],by simp only[bM,if_true],bJQ _,bKL⟩) (fun p hp=>by cases hp; exact .inr ho) fun p hpm hp=>?_) fun _=>⟨o,by rw[hlen]⟩
   obtain⟨f1,f2⟩:=h.fresh ho
   have n1:p≠o:=by rintro rfl; exact hpm.elim f1 f2
   rw[bM,if_neg n1]
theorem aR.sub (h:aR H B L) {B':List BX} {L':List LI} (hB:B'.Sublist B) (hL:L'.Sublist L):aR H B' L' :=
 ⟨fun b hb=>h.box b (hB.subset hb),fun x hx=>h.lst x (hL.subset hx),List.Nodup.sublist (bLU.append (hB.map _) (hL.filterMap _)) h.nd⟩
theorem aR.bvE (h:aR H B L) (i:Nat):aR H (B.eraseIdx i) L:=h.sub (List.eraseIdx_sublist ..) (bLU.refl _)
theorem aR.a2F (h:aR H B L) (i:Nat):aR H B (L.eraseIdx i):=h.sub (bLU.refl _) (List.eraseIdx_sublist ..)
end
section
variable {C:Ctx} {F:PF} {H:PH} {B:List BX} {L:List LI}
theorem aR.DU (h:aR H B L) {q:Nat} (hq:q∈eH B∨q∈dY L):∃ x,H q=some x:=by
 rcases hq with hq | hq
 ·obtain⟨b,hb,rfl⟩:=bKU.1 hq
  exact⟨_,h.box b hb⟩
 ·obtain⟨x,hx,e⟩:=List.mem_filterMap.1 hq
  obtain⟨rs,h1,_⟩:=(h.lst x hx).id e
  exact⟨_,h1⟩
theorem aR.perm (h:aR H B L) {B':List BX} {L':List LI} (hB:B.Perm B') (hL:L.Perm L'):aR H B' L' :=
 ⟨fun b hb=>h.box b (hB.mem_iff.2 hb),fun x hx=>h.lst x (hL.mem_iff.2 hx),(List.Perm.nodup_iff ((hB.map _).append (hL.filterMap _))).1 h.nd⟩
theorem aR.only (h:aR H B L) {B1:List BX} {L1:List LI} (hB:B1.Sublist B) (hL:L1.Sublist L):aR (H.only (eH B1++dY L1)) B1 L1:=by
 refine (h.sub hB hL).keep fun q hq=>?_
 rw[mO]
 rw[if_pos (bLB.2 hq)]
theorem bsA {a b c d:List Nat} (h1:(a++c).Nodup) (h2:(b++d).Nodup) (h3:∀ q,q∈a∨q∈c→q∈b∨q∈d→False):((a++b)++(c++d)).Nodup:=by
 have e:List.Perm ((a++b)++(c++d)) ((a++c)++(b++d)):=by
  rw[bKP,bKP]
  exact List.Perm.append_left a (by rw[← bKP,← bKP]; exact List.Perm.append_right d List.perm_append_comm)
 rw[e.nodup_iff,bMC]
 refine⟨h1,h2,fun p hp q hq=>?_⟩
 rintro rfl
 exact h3 p (bLB.1 hp) (bLB.1 hq)
theorem aR.frame {H':PH} {B1 B2 B':List BX} {L1 L2 L':List LI} (h:aR H (B1++B2) (L1++L2)) (h':aR H' B' L') (ha:kN H (H.only (eH B1++dY L1)) H'):aR (H.eQ (H.only (eH B1++dY L1)) H') (B'++B2) (L'++L2):=by
 have h2:aR H B2 L2:=h.sub (List.sublist_append_right ..) (List.sublist_append_right ..)
 have dis:∀ q,q∈eH B2∨q∈dY L2→¬ (q∈eH B1++dY L1):=by
  intro q hq hm
  have hnd:=h.nd
  rw[show eH (B1++B2)=eH B1++eH B2 from bLK,jU] at hnd
  have e:List.Perm ((eH B1++eH B2)++(dY L1++dY L2)) ((eH B1++dY L1)++(eH B2++dY L2)):=by
   rw[bKP,bKP]
   exact List.Perm.append_left _ (by rw[← bKP,← bKP]; exact List.Perm.append_right _ List.perm_append_comm)
  rw[e.nodup_iff,bMC] at hnd
  exact hnd.2.2 q hm q (bLB.2 hq) rfl
 have new:∀ q,q∈eH B'∨q∈dY L'→(H.eQ (H.only (eH B1++dY L1)) H') q=H' q:=by
  intro q hq
  obtain⟨x,hx⟩:=h'.DU hq
  rw[lN,hx]
 have old:∀ q,q∈eH B2∨q∈dY L2→(H.eQ (H.only (eH B1++dY L1)) H') q=H q:=by
  intro q hq
  obtain⟨x,hx⟩:=h2.DU hq
  have h0:(H.only (eH B1++dY L1)) q=none:=by rw[mO,if_neg (dis q hq)]
  rw[lN]
  cases e:H' q with
  | none=>simp only[h0]
  | some y =>
   have:=ha q y e h0
   rw[hx] at this; cases this
 have k1:=h'.keep new
 have k2:=h2.keep old
 refine⟨fun b hb=>?_,fun x hx=>?_,?_⟩
 ·rcases bLB.1 hb with hb | hb
  ·exact k1.box b hb
  ·exact k2.box b hb
 ·rcases bLB.1 hx with hx | hx
  ·exact k1.lst x hx
  ·exact k2.lst x hx
 ·rw[show eH (B'++B2)=eH B'++eH B2 from bLK,jU]
  refine bsA h'.nd h2.nd fun q hq hq2=>?_
  obtain⟨x,hx⟩:=h'.DU hq
  obtain⟨y,hy⟩:=h2.DU hq2
  have h0:(H.only (eH B1++dY L1)) q=none:=by rw[mO,if_neg (dis q hq2)]
  have:=ha q x hx h0
  rw[hy] at this; cases this
theorem WI {name:Nat} {vs:List PV} {args:List aP} {d:Option Nat} {K:PF→PH→Prop} {B1 B2:List BX} {L1 L2:List LI} {Q:PV→List BX→List LI→Prop} (h:aR H (B1++B2) (L1++L2))
  (hc:∀ H0,aR H0 B1 L1→aD C name vs H0 (fun r H'=>∃ B' L',Q r B' L'∧aR H' B' L')) (ha:aP.evs F args=some vs)
  (hk:∀ r B' L' H',Q r B' L'→aR H' (B'++B2) (L'++L2)→K (F.put d r) H'):fW C name args [] d K F H:=by
 refine fP (hc (H.only (eH B1++dY L1)) (h.only (List.sublist_append_left ..) (List.sublist_append_left ..))) ha (DN H _) ?_
 rintro r H' ⟨B',L',hq,h'⟩ hap
 exact hk r B' L' _ hq (h.frame h' hap)
theorem CI {name o:Nat} {x y:cT} {r:PV} {vs:List PV} {args:List aP} {d:Option Nat} {K:PF→PH→Prop} (h:aD C name vs (PH.nil.set o x) (fun r' H'=>r'=r∧H'=PH.nil.set o y)) (ho:H o=some x) (ha:aP.evs F args=some vs)
  (hk:K (F.put d r) (H.set o y)):fW C name args [] d K F H:=by
 refine fP h ha (PH.aI PH.nil_le ho) ?_
 rintro r' H' ⟨rfl,rfl⟩ -
 rw[PH.lO]
 exact hk
theorem aAD {Hs:PH} {S:Spec} {name o:Nat} {x y:cT} {r:PV} {vs:List PV} {R:PH→PV→PH→Prop} {args:List aP} {st:Bool} {d:Option Nat} {K:PF→PH→Prop} (hS:S name vs=some ([o],R)) (ho:H o=some x)
  (h:aD C name vs (PH.nil.set o x) (fun r' H'=>r'=r∧H'=PH.nil.set o y)) (hR1:R (PH.nil.set o x) r (PH.nil.set o y)) (hR2:∀ r' H',R (PH.nil.set o x) r' H'→r'=r∧H'=PH.nil.set o y) (ha:aP.evs F args=some vs)
  (hle:Hs.le (H.set o y)) (hk:K (F.put d r) (H.set o y)):dOp C Hs S st (.call name args) d K F H:=by
 have e:=YZ ho
 refine⟨vs,[o],_,ha,hS,fun q hq=>?_,?_,fun G=>⟨r,_,by rw[e]; exact hR1,fun q z hz hn=>?_⟩,fun r' H' hr _=>?_⟩
 ·simp at hq; subst hq; exact⟨x,ho⟩
 ·rw[e]
  exact h.post fun r' H' hr=>⟨r',.refl _,by rw[hr.1,hr.2]; exact hR1⟩
 ·rw[e] at hn
  rw[bM] at hz hn
  split at hn
  ·cases hn
  ·rename_i hne
   rw[if_neg hne] at hz; cases hz
 ·rw[e] at hr
  obtain⟨rfl,rfl⟩:=hR2 r' H' hr
  rw[e,PH.lO]
  exact⟨hle,hk⟩
theorem biP {s:Nat} {q z:Nat} {rs:List (List PV)} {v:PV} {rows:List (List PV)} (h:bK H s v rows) (hv:v.oid≠some q):bK (H.frz q z rs) s v (rows.map fun r=>r.map (PV.dE q z rs)):=by
 rcases h with ⟨rfl,rfl⟩ | ⟨p,rs',rfl,h1,h2,h3⟩
 ·exact .inl ⟨rfl,rfl⟩
 ·have hne:¬ p=q:=fun e=>hv (by rw[e]; rfl)
  refine .inr ⟨p,rs'.map fun r=>r.map (PV.dE q z rs),by rw[bJO],?_,by simpa using h2,?_⟩
  ·rw[wF,if_neg hne,h1]; rfl
  ·rw[bJO,← List.map_take,h3]
theorem aR.frz (h:aR H B L) (i:Nat) {q s k:Nat} {rows:List (List PV)} (hi:L[i]?=some (.osl q s 0 k,s,rows)):∃ rs,H q=some (.rows s rs)∧PV.dE q s rs (.osl q s 0 k)=.sl s rows∧PV.frz q s rs (.osl q s 0 k)=.sl s rows∧(∀ j x,j≠i→L[j]?=some x→PV.dE q s rs x.1=x.1) ∧
  aR (H.frz q s rs) (B.map fun b=>(b.1,b.2.frz q s rs)) ((L.eraseIdx i).map fun x=>(x.1,x.2.1,x.2.2.map fun r=>r.map (PV.dE q s rs))):=by
 obtain⟨rs,h1,h2,h3,h4⟩:=(h.own i hi).id rfl
 injection h2 with _ _ _ hk
 subst hk
 have e:PV.frz q s rs (.osl q s 0 rows.length)=.sl s rows:=by rw[oA h3,h4]
 refine⟨rs,h1,e,e,?_⟩
 refine⟨fun j x hji hj=>?_,?_⟩
 ·have hxq:x.1.oid≠some q:=by
   intro hxq
   obtain⟨hl,he⟩:=bKY.1 hi
   obtain⟨hl2,he2⟩:=bKY.1 hj
   have hmem:x∈L.eraseIdx i:=List.mem_eraseIdx_iff_getElem?.2 ⟨j,hji,hj⟩
   have hnd:=h.ndL
   have hs:L=L.take i++(L[i]::L.drop (i+1)):=by rw[← bLN hl,bMD]
   rw[List.eraseIdx_eq_take_drop_succ] at hmem
   rw[hs,jU] at hnd
   have e3:dY (L[i]::L.drop (i+1))=q::dY (L.drop (i+1)):=by rw[he]; rfl
   rw[e3,bMC] at hnd
   obtain⟨a,b,c⟩:=hnd
   rcases bLB.1 hmem with hx | hx
   ·exact c q (kE hx hxq) q (by simp) rfl
   ·exact (List.nodup_cons.1 b).1 (kE hx hxq)
  cases hx:x.1<;>try rfl
  rename_i p z off len
  have:¬ p=q:=fun e=>hxq (by rw[hx,e]; rfl)
  simp only[PV.dE,if_neg this]
 obtain⟨L1,L2,e1,e2⟩:=aET (v':=.aB) (s':=s) (rows':=rows) hi
 have hil:i=L1.length∨True:=.inr trivial
 have ers:(L.eraseIdx i).Sublist L:=List.eraseIdx_sublist ..
 have hqn:∀ x∈L.eraseIdx i,x.1.oid≠some q:=by
  intro x hx hxq
  obtain⟨hl,he⟩:=bKY.1 hi
  have hnd:=h.ndL
  have hs:L=L.take i++(L[i]::L.drop (i+1)):=by rw[← bLN hl,bMD]
  rw[List.eraseIdx_eq_take_drop_succ] at hx
  rw[hs,jU] at hnd
  have e3:dY (L[i]::L.drop (i+1))=q::dY (L.drop (i+1)):=by
   rw[he]; rfl
  rw[e3,bMC] at hnd
  obtain⟨a,b,c⟩:=hnd
  rcases bLB.1 hx with hx | hx
  ·exact c q (kE hx hxq) q (by simp) rfl
  ·exact (List.nodup_cons.1 b).1 (kE hx hxq)
 refine⟨fun b hb=>?_,fun x hx=>?_,?_⟩
 ·obtain⟨b0,hb0,rfl⟩:=bKU.1 hb
  have:¬ b0.1=q:=h.ndX (sC hb0) (kE (bMI hi) rfl)
  simp only
  rw[wF,if_neg this,h.box b0 hb0]; rfl
 ·obtain⟨x0,hx0,rfl⟩:=bKU.1 hx
  exact biP (h.lst x0 (ers.subset hx0)) (hqn x0 hx0)
 ·have i1:eH (B.map fun b=>(b.1,b.2.frz q s rs))=eH B:=by unfold eH; rw[List.map_map]; rfl
  have i2:dY ((L.eraseIdx i).map fun x=>(x.1,x.2.1,x.2.2.map fun r=>r.map (PV.dE q s rs)))=dY (L.eraseIdx i):=by unfold dY; rw[List.filterMap_map]; rfl
  rw[i1,i2]
  exact List.Nodup.sublist (bLU.append (bLU.refl _) (ers.filterMap _)) h.nd
def Flat (rows:List (List PV)):Prop:=∀ q s rs,rows.map (fun r=>r.map (PV.dE q s rs))=rows
theorem Flat.nil:Flat []:=fun _ _ _=>rfl
theorem Flat.of {rows:List (List PV)} (h:∀ r∈rows,∀ c∈r,∀ q s rs,PV.dE q s rs c=c):Flat rows:=fun q s rs=>by
 conv=>rhs; rw[← List.map_id rows]
 refine List.map_congr_left fun r hr=>?_
 conv=>rhs; rw[id,← List.map_id r]
 exact List.map_congr_left fun c hc=>h r hr c hc q s rs
theorem Flat.map {α:Type} {f:α→List PV} (l:List α) (h:∀ x,∀ c∈f x,∀ q s rs,PV.dE q s rs c=c):Flat (l.map f):=Flat.of fun r hr=>by
 obtain⟨x,_,rfl⟩:=bKU.1 hr
 exact h x
theorem Flat.append {r1 r2:List (List PV)} (h1:Flat r1) (h2:Flat r2):Flat (r1++r2):=fun q s rs=>by rw[bLK,h1,h2]
theorem aR.flat {φ:PV→List (List PV)} (h:aR H B L):aR H B L:=h
def yH (v:PV) (H:PH) (R:PV→PH→Prop):Prop:=∃ F1 H1 H2,jC (PF.nil.set 0 v) H F1 H1∧H2.le H1∧∃ u,F1 0=some u∧R u H2
theorem yH.done {v:PV} {H2:PH} {R:PV→PH→Prop} (hR:R v H2) (hle:H2.le H):yH v H R:=⟨_,_,H2,.refl _ _,hle,v,by rw[lP,if_pos rfl],hR⟩
theorem yH.step {v:PV} {q s:Nat} {rs:List (List PV)} {R:PV→PH→Prop} (hq:H q=some (.rows s rs)) (h:yH (PV.frz q s rs v) (H.frz q s rs) R):yH v H R:=by
 obtain⟨F1,H1,H2,h1,h2,h3⟩:=h
 have e:(PF.nil.set 0 v).frz q s rs=PF.nil.set 0 (PV.frz q s rs v):=by
  funext i
  rw[qW,lP,lP]
  split<;>rfl
 exact⟨F1,H1,H2,.step q hq (by rw[e]; exact h1),h2,h3⟩
theorem anF {res:List dR} {R:PV→PH→Prop} {vs:List PV} {e:lZ} (he:e=.normal∨e=.ret) (h:dR.evs F H res=some vs) (hf:yH (aT vs) H R):aU res R e F H:=by
 have key:∃ vs,dR.evs F H res=some vs∧∃ F1 H1 H2,jC (PF.nil.set 0 (aT vs)) H F1 H1∧H2.le H1∧∃ u,F1 0=some u∧R u H2:=⟨vs,h,hf⟩
 rcases he with rfl | rfl<;>exact key
theorem uU {u:PV} (h:u.oid=none) (q s:Nat) (rs:List (List PV)):PV.dE q s rs u=u:=by
 cases u<;>first | rfl | (simp[PV.oid] at h)
theorem Seen.co {s:Nat} {v:PV} {rows:List (List PV)} (h:Seen s v rows):Co v (.sl s rows):=by
 rcases h with ⟨rfl,rfl⟩ | rfl
 ·exact .nil s
 ·exact .refl _
theorem aR.giveUp:∀ (L:List LI) {H:PH} {B:List BX},aR H B L→(∀ x∈L,Flat x.2.2)→(∀ b∈B,∀ q s rs,cT.frz q s rs b.2=b.2) →
  ∃ (φ:PV→PV) (H1:PH),(∀ x∈L,Seen x.2.1 (φ x.1) x.2.2)∧(∀ u,u.oid=none→φ u=u)∧aR H1 B []∧∀ cs R,yH (.agg (cs.map φ)) H1 R→yH (.agg cs) H R
 | [],H,B,h,_,_=>⟨id,H,by simp,fun _ _=>rfl,h,fun cs R hf=>by rwa [List.map_id] at hf⟩
 | (w,s,rows)::L,H,B,h,hL,hB=>by
  have hflat:∀ q z rs,(L.map fun x=>(x.1,x.2.1,x.2.2.map fun r=>r.map (PV.dE q z rs)))=L:=fun q z rs=>by
   conv=>rhs; rw[← List.map_id L]
   refine List.map_congr_left fun x hx=>?_
   rw[hL x (by simp[hx]) q z rs]; rfl
  rcases h.own 0 rfl with ⟨h1,h2⟩ | ⟨q,rs,h1,_⟩
  ·obtain⟨φ,H1,k1,k2,k3,k4⟩:=aR.giveUp L (h.a2F 0) (fun x hx=>hL x (by simp[hx])) hB
   refine⟨φ,H1,fun x hx=>?_,k2,k3,k4⟩
   rw[bKE] at hx
   rcases hx with rfl | hx
   ·exact .inl ⟨h1,by simp only; rw[h2]; exact k2 _ rfl⟩
   ·exact k1 x hx
  ·subst h1
   obtain⟨rs,z1,z2,z3,z4,z5⟩:=h.frz 0 rfl
   have z6:aR (H.frz q s rs) B L:=by
    have eB:(B.map fun b=>(b.1,b.2.frz q s rs))=B:=by
     conv=>rhs; rw[← List.map_id B]
     refine List.map_congr_left fun b hb=>?_
     rw[hB b hb q s rs]; rfl
    rw[eB] at z5
    have:=z5
    simp only[List.eraseIdx_cons_zero] at this
    rwa [hflat q s rs] at this
   obtain⟨φ,H1,k1,k2,k3,k4⟩:=aR.giveUp L z6 (fun x hx=>hL x (by simp[hx])) hB
   refine⟨fun u=>φ (PV.dE q s rs u),H1,fun x hx=>?_,fun u hu=>?_,k3,fun cs R hf=>?_⟩
   ·rw[bKE] at hx
    rcases hx with rfl | hx
    ·simp only
     rw[z2]
     exact .inr (k2 _ rfl)
    ·obtain⟨j,hj⟩:=List.mem_iff_getElem?.1 hx
     have:=z4 (j+1) x Om (by simpa using hj)
     simp only
     rw[this]
     exact k1 x hx
   ·simp only
    rw[uU hu,k2 u hu]
   ·refine .step z1 ?_
    have e:PV.frz q s rs (.agg cs)=.agg (cs.map (PV.dE q s rs)):=rfl
    rw[e]
    refine k4 _ R ?_
    rw[List.map_map]
    exact hf
theorem aqO {K:cQ} {α:Type} {Fs:α→PF} {Hs:α→PH} {Pr:α→Prop} {m:α→Nat} {n q s:Nat} {rs:List (List PV)} (a:α) (hq:H q=some (.rows s rs)) (h0:Pr a) (hm:m a<n) (hF:(Fs a).le (F.frz q s rs)) (hH:(Hs a).le (H.frz q s rs)):eE Fs Hs Pr m n K .normal F H :=
 ⟨a,_,_,.step q hq (.refl _ _),h0,hm,hF,hH⟩
end
section
variable {C:Ctx} {F F':PF} {H:PH}
theorem cM (hle:F.le F') {x:aP} {v:PV} (h:x.ev F=some v):x.ev F'=some v:=by
 cases x
 ·exact hle _ _ h
 all_goals exact h
theorem acN (hle:F.le F'):∀ {xs:List aP} {vs:List PV},aP.evs F xs=some vs→aP.evs F' xs=some vs
 | [],_,h=>h
 | x::xs,vs,h=>by
  rw[wW] at h ⊢
  cases hx:x.ev F with
  | none=>simp[hx] at h
  | some v =>
   cases hs:aP.evs F xs with
   | none=>simp[hs] at h
   | some ws =>
    rw[hx,hs] at h
    rw[cM hle hx,acN hle hs]
    exact h
theorem aBF (hle:F.le F'):∀ {ps:List (Nat × Nat × aP)} {cs ds:List PV},nY cs F ps=some ds→nY cs F' ps=some ds
 | [],_,_,h=>h
 | (off,size,x)::ps,cs,ds,h=>by
  simp only[nY] at h ⊢
  cases hx:x.ev F with
  | none=>simp[hx] at h
  | some v =>
   rw[hx] at h
   rw[cM hle hx]
   simp only at h ⊢
   split at h
   ·rename_i hc; rw[if_pos hc]; exact aBF hle h
   ·cases h
theorem AB (hle:F.le F') {size:Nat}:∀ {ps:List (Nat × aP)} {cs ds:List (List PV)},fY size cs F ps=some ds→fY size cs F' ps=some ds
 | [],_,_,h=>h
 | (i,x)::ps,cs,ds,h=>by
  simp only[fY] at h ⊢
  cases hx:x.ev F with
  | none=>simp[hx] at h
  | some v =>
   rw[hx] at h
   rw[cM hle hx]
   simp only at h ⊢
   split at h
   ·rename_i hc; rw[if_pos hc]; exact AB hle h
   ·cases h
theorem LS (hle:F.le F') {d n:Int} {x:Option aP} (h:bnd F d x=some n):bnd F' d x=some n:=by
 cases x with
 | none=>exact h
 | some x =>
  simp only[bnd] at h ⊢
  cases hx:x.ev F with
  | none=>simp[hx] at h
  | some v=>rw[cM hle hx,← hx]; exact h
theorem aIF {op:POp} {v:PV} (hle:F.le F') (h:aO op F H=some v):aO op F' H=some v:=by
 cases op
 case mv x=>exact cM hle h
 case pick c a b =>
  simp only[aO] at h ⊢
  cases hc:c.ev F with
  | none=>simp[hc] at h
  | some t =>
   rw[hc] at h
   rw[cM hle hc]
   cases t<;>simp only at h ⊢<;>try cases h
   rename_i t
   cases t
   ·simp only[bMP,if_false] at h ⊢; exact cM hle h
   ·simp only[if_true] at h ⊢; exact cM hle h
 case same x =>
  simp only[aO] at h ⊢
  cases hx:x.ev F with
  | none=>simp[hx] at h
  | some a=>rw[cM hle hx,← hx]; exact h
 case un o x =>
  simp only[aO] at h ⊢
  cases hx:x.ev F with
  | none=>simp[hx] at h
  | some a=>rw[cM hle hx,← hx]; exact h
 case conv k x =>
  simp only[aO] at h ⊢
  cases hx:x.ev F with
  | none=>simp[hx] at h
  | some a=>rw[cM hle hx,← hx]; exact h
 case bHZ x =>
  simp only[aO] at h ⊢
  cases hx:x.ev F with
  | none=>simp[hx] at h
  | some a=>rw[cM hle hx,← hx]; exact h
 case bIW o x =>
  simp only[aO] at h ⊢
  cases hx:x.ev F with
  | none=>simp[hx] at h
  | some a=>rw[cM hle hx,← hx]; exact h
 case field o n x =>
  simp only[aO] at h ⊢
  cases hx:x.ev F with
  | none=>simp[hx] at h
  | some a=>rw[cM hle hx,← hx]; exact h
 case bIS x =>
  simp only[aO] at h ⊢
  cases hx:x.ev F with
  | none=>simp[hx] at h
  | some a=>rw[cM hle hx,← hx]; exact h
 case isNil n x =>
  simp only[aO] at h ⊢
  cases hx:x.ev F with
  | none=>simp[hx] at h
  | some a=>rw[cM hle hx,← hx]; exact h
 case lenM x =>
  simp only[aO] at h ⊢
  cases hx:x.ev F with
  | none=>simp[hx] at h
  | some a=>rw[cM hle hx,← hx]; exact h
 case bJM x =>
  simp only[aO] at h ⊢
  cases hx:x.ev F with
  | none=>simp[hx] at h
  | some a=>rw[cM hle hx,← hx]; exact h
 case extract x i =>
  simp only[aO] at h ⊢
  cases hx:x.ev F with
  | none=>simp[hx] at h
  | some a=>rw[cM hle hx,← hx]; exact h
 case bIA x =>
  simp only[aO] at h ⊢
  cases hx:x.ev F with
  | none=>simp[hx] at h
  | some a=>rw[cM hle hx,← hx]; exact h
 case len x =>
  simp only[aO] at h ⊢
  cases hx:x.ev F with
  | none=>simp[hx] at h
  | some a=>rw[cM hle hx,← hx]; exact h
 case box r x =>
  cases r
  ·cases h
  simp only[aO] at h ⊢
  cases hx:x.ev F with
  | none=>simp[hx] at h
  | some a=>rw[cM hle hx,← hx]; exact h
 case load n p =>
  cases n
  all_goals
   simp only[aO] at h ⊢
   cases hx:p.ev F with
   | none=>simp[hx] at h
   | some a=>rw[cM hle hx,← hx]; exact h
 case bin o x y =>
  simp only[aO] at h ⊢
  cases hx:x.ev F with
  | none=>simp[hx] at h
  | some a =>
   cases hy:y.ev F with
   | none=>simp[hx,hy] at h
   | some b=>rw[cM hle hx,cM hle hy,← hx,← hy]; exact h
 case eqb n x y =>
  simp only[aO] at h ⊢
  cases hx:x.ev F with
  | none=>simp[hx] at h
  | some a =>
   cases hy:y.ev F with
   | none=>simp[hx,hy] at h
   | some b=>rw[cM hle hx,cM hle hy,← hx,← hy]; exact h
 case eqs n k x y =>
  simp only[aO] at h ⊢
  cases hx:x.ev F with
  | none=>simp[hx] at h
  | some a =>
   cases hy:y.ev F with
   | none=>simp[hx,hy] at h
   | some b=>rw[cM hle hx,cM hle hy,← hx,← hy]; exact h
 case bIF s x i =>
  simp only[aO] at h ⊢
  cases hx:x.ev F with
  | none=>simp[hx] at h
  | some a =>
   cases hy:i.ev F with
   | none=>simp[hx,hy] at h
   | some b=>rw[cM hle hx,cM hle hy,← hx,← hy]; exact h
 case idxA n s x i =>
  simp only[aO] at h ⊢
  cases hx:x.ev F with
  | none=>simp[hx] at h
  | some a =>
   cases hy:i.ev F with
   | none=>simp[hx,hy] at h
   | some b=>rw[cM hle hx,cM hle hy,← hx,← hy]; exact h
 case idxV n s g x i =>
  simp only[aO] at h ⊢
  cases hx:x.ev F with
  | none=>simp[hx] at h
  | some a =>
   cases hy:i.ev F with
   | none=>simp[hx,hy] at h
   | some b=>rw[cM hle hx,cM hle hy,← hx,← hy]; exact h
 case bIT x i =>
  simp only[aO] at h ⊢
  cases hx:x.ev F with
  | none=>simp[hx] at h
  | some a =>
   cases hy:i.ev F with
   | none=>simp[hx,hy] at h
   | some b=>rw[cM hle hx,cM hle hy,← hx,← hy]; exact h
 case bIL m x y =>
  simp only[aO] at h ⊢
  cases hx:x.ev F with
  | none=>simp[hx] at h
  | some a =>
   cases hy:y.ev F with
   | none=>simp[hx,hy] at h
   | some b=>rw[cM hle hx,cM hle hy,← hx,← hy]; exact h
 case lookup sh z x k ok =>
  simp only[aO] at h ⊢
  cases hx:x.ev F with
  | none=>simp[hx] at h
  | some a =>
   cases hy:k.ev F with
   | none=>simp[hx,hy] at h
   | some b=>rw[cM hle hx,cM hle hy,← hx,← hy]; exact h
 case build z ps =>
  simp only[aO,bJX] at h ⊢
  obtain⟨cs,h1,h2⟩:=h
  exact⟨cs,aBF hle h1,h2⟩
 case bHQ r s l z ps =>
  cases r
  ·cases h
  simp only[aO] at h ⊢
  split at h
  ·rename_i hc
   rw[if_pos hc]
   rw[bJX] at h ⊢
   obtain⟨cs,h1,h2⟩:=h
   exact⟨cs,AB hle h1,h2⟩
  ·cases h
 case mkfn n cs =>
  simp only[aO,bJX] at h ⊢
  obtain⟨vs,h1,h2⟩:=h
  exact⟨vs,acN hle h1,h2⟩
 case sliceA n s x lo hi mx =>
  cases lo<;>cases hi<;>cases mx<;>simp only[aO] at h ⊢<;>try cases h
  cases hx:x.ev F with
  | none=>simp[hx] at h
  | some a=>rw[cM hle hx,← hx]; exact h
 case bIN x lo hi =>
  simp only[aO] at h ⊢
  cases hx:x.ev F with
  | none=>simp[hx] at h
  | some a =>
   rw[hx] at h
   rw[cM hle hx]
   cases a<;>simp only at h ⊢<;>try cases h
   cases h1:bnd F 0 lo with
   | none=>simp[h1] at h
   | some l =>
    rename_i s
    cases h2:bnd F s.length hi with
    | none=>simp[h1,h2] at h
    | some u=>rw[LS hle h1,LS hle h2,← h1,← h2]; exact h
 case slice s x lo hi mx =>
  simp only[aO] at h ⊢
  cases hx:x.ev F with
  | none=>simp[hx] at h
  | some a =>
   rw[hx] at h
   rw[cM hle hx]
   have key:∀ (d:Int) (w:PV),(match bnd F 0 lo,bnd F d hi with
     | some a1,some a2=>match (generalizing:=false) mx with
      | none=>PV.slice s w a1 a2 none
      | some m=>(bnd F 0 (some m)).bind fun m=>PV.slice s w a1 a2 (some m)
     | _,_=>none)=some v→(match bnd F' 0 lo,bnd F' d hi with
     | some a1,some a2=>match (generalizing:=false) mx with
      | none=>PV.slice s w a1 a2 none
      | some m=>(bnd F' 0 (some m)).bind fun m=>PV.slice s w a1 a2 (some m)
     | _,_=>none)=some v:=by
    intro d w h
    cases h1:bnd F 0 lo with
    | none=>simp[h1] at h
    | some l =>
     cases h2:bnd F d hi with
     | none=>simp[h1,h2] at h
     | some u =>
      rw[h1,h2] at h
      rw[LS hle h1,LS hle h2]
      cases mx with
      | none=>exact h
      | some m =>
       simp only at h ⊢
       cases h3:bnd F 0 (some m) with
       | none=>simp[h3] at h
       | some q=>rw[LS hle h3,← h3]; exact h
   cases a<;>simp only at h ⊢<;>first | exact key _ _ h | cases h
 all_goals exact h
theorem azJ {op:POp} {r:(Nat→PV) × cT} (hle:F.le F') (h:cU op F=some r):cU op F'=some r:=by
 cases op
 case box b x =>
  cases b
  ·simp only[cU] at h ⊢
   cases hx:x.ev F with
   | none=>simp[hx] at h
   | some a=>rw[cM hle hx,← hx]; exact h
  ·cases h
 case bHQ b s l z ps =>
  cases b
  ·simp only[cU] at h ⊢
   split at h
   ·rename_i hc
    rw[if_pos hc]
    rw[bJX] at h ⊢
    obtain⟨cs,h1,h2⟩:=h
    exact⟨cs,AB hle h1,h2⟩
   ·cases h
  ·cases h
 case bHU s b z l c =>
  simp only[cU] at h ⊢
  cases hx:l.ev F with
  | none=>simp[hx] at h
  | some a =>
   cases hy:c.ev F with
   | none=>simp[hx,hy] at h
   | some b=>rw[cM hle hx,cM hle hy,← hx,← hy]; exact h
 all_goals exact h
theorem aOS {op:POp} {K:PV→PH→Prop} (hle:F.le F') (h:bU op F H K):bU op F' H K:=by
 cases op
 case store n x y =>
  simp only[bU] at h ⊢
  cases hx:x.ev F with
  | none=>simp[hx] at h
  | some a =>
   cases hy:y.ev F with
   | none=>simp[hx,hy] at h
   | some b=>rw[cM hle hx,cM hle hy]; rw[hx,hy] at h; exact h
 case append s b x y =>
  simp only[bU] at h ⊢
  cases hx:x.ev F with
  | none=>simp[hx] at h
  | some a =>
   cases hy:y.ev F with
   | none=>simp[hx,hy] at h
   | some b=>rw[cM hle hx,cM hle hy]; rw[hx,hy] at h; exact h
 case bII sh x y z =>
  simp only[bU] at h ⊢
  cases hx:x.ev F with
  | none=>simp[hx] at h
  | some a =>
   cases hy:y.ev F with
   | none=>simp[hx,hy] at h
   | some b =>
    cases hz:z.ev F with
    | none=>simp[hx,hy,hz] at h
    | some c=>rw[cM hle hx,cM hle hy,cM hle hz]; rw[hx,hy,hz] at h; exact h
 case insert sh x y z =>
  simp only[bU] at h ⊢
  cases hx:x.ev F with
  | none=>simp[hx] at h
  | some a =>
   cases hy:y.ev F with
   | none=>simp[hx,hy] at h
   | some b =>
    cases hz:z.ev F with
    | none=>simp[hx,hy,hz] at h
    | some c=>rw[cM hle hx,cM hle hy,cM hle hz]; rw[hx,hy,hz] at h; exact h
 all_goals exact h
theorem PF.bsR (hle:F.le F') (i:Nat) (v:PV):(F.set i v).le (F'.set i v):=by
 intro j u h
 rw[lP] at h ⊢
 split at h
 ·rename_i e; rw[if_pos e]; exact h
 ·rename_i e; rw[if_neg e]; exact hle j u h
theorem PF.xM (hle:F.le F') (d:Option Nat) (v:PV):(F.put d v).le (F'.put d v):=by
 cases d with
 | none=>exact hle
 | some d=>exact PF.bsR hle d v
theorem PF.brD (hle:F.le F') (o s:Nat) (rs:List (List PV)):(F.frz o s rs).le (F'.frz o s rs):=by
 intro j u h
 rw[qW,bJX] at h ⊢
 obtain⟨x,h1,h2⟩:=h
 exact⟨x,hle j x h1,h2⟩
theorem PF.le_trans {A B D:PF} (h:A.le B) (k:B.le D):A.le D:=fun i v hi=>k i v (h i v hi)
theorem jC.up {F1:PF} {H1:PH} (h:jC F H F1 H1):∀ {F':PF},F.le F'→∃ F1',jC F' H F1' H1∧F1.le F1':=by
 induction h with
 | refl F H=>exact fun {F'} hle=>⟨F',.refl _ _,hle⟩
 | step o ho _ ih =>
  intro F' hle
  obtain⟨F1',h1,h2⟩:=ih (PF.brD hle o _ _)
  exact⟨F1',.step o ho h1,h2⟩
theorem aaU {name:Nat} {args:Option (List PV)} {d:Option Nat} {K1 K2:PF→PH→Prop} (hK:∀ F F' H,F.le F'→K1 F H→K2 F' H) (hle:F.le F') {args':Option (List PV)} (ha:∀ vs,args=some vs→args'=some vs) (h:qN C name args d K1 F H):qN C name args' d K2 F' H:=by
 obtain⟨vs,H0,R,h1,h2,h3,h4⟩:=h
 exact⟨vs,H0,R,ha _ h1,h2,h3,fun r H' a b=>hK _ _ _ (PF.xM hle d r) (h4 r H' a b)⟩
theorem aFO {cs:List PV} {args:List aP} (hle:F.le F') (vs:List PV) (h:(aP.evs F args).map (·++cs)=some vs):(aP.evs F' args).map (·++cs)=some vs:=by
 rw[bJX] at h ⊢
 obtain⟨x,h1,h2⟩:=h
 exact⟨x,acN hle h1,h2⟩
theorem aRE {name:Nat} {args:List aP} {cs:List PV} {d:Option Nat} {K1 K2:PF→PH→Prop} (hK:∀ F F' H,F.le F'→K1 F H→K2 F' H) (hle:F.le F') (h:fW C name args cs d K1 F H):fW C name args cs d K2 F' H:=by
 rcases h with h | ⟨F1,H1,h1,h2⟩
 ·exact .inl (aaU hK hle (aFO hle) h)
 ·obtain⟨F1',k1,k2⟩:=h1.up hle
  exact .inr ⟨F1',H1,k1,aaU hK k2 (aFO k2) h2⟩
theorem OC {op:POp} {d:Option Nat} {K1 K2:PF→PH→Prop} (hK:∀ F F' H,F.le F'→K1 F H→K2 F' H) (hle:F.le F') (h:lI (cU op F) d K1 F H):lI (cU op F') d K2 F' H:=by
 obtain⟨mk,x,h1,h2⟩:=h
 exact⟨mk,x,azJ hle h1,fun o ho=>hK _ _ _ (PF.xM hle d _) (h2 o ho)⟩
theorem alI {op:POp} {d:Option Nat} {K1 K2:PF→PH→Prop} (hK:∀ F F' H,F.le F'→K1 F H→K2 F' H) (hle:F.le F') (h:bQ (aO op F H) d K1 F H):bQ (aO op F' H) d K2 F' H:=by
 obtain⟨v,h1,h2⟩:=h
 exact⟨v,aIF hle h1,hK _ _ _ (PF.xM hle d v) h2⟩
theorem ayR {op:POp} {d:Option Nat} {K1 K2:PF→PH→Prop} (hK:∀ F F' H,F.le F'→K1 F H→K2 F' H) (hle:F.le F') (h:bU op F H fun r H'=>K1 (F.put d r) H'):bU op F' H fun r H'=>K2 (F'.put d r) H' :=
 aOS hle (yD (fun v H' hh=>hK _ _ _ (PF.xM hle d v) hh) h)
theorem bkO {op:POp} {d:Option Nat} {K1 K2:PF→PH→Prop} (hK:∀ F F' H,F.le F'→K1 F H→K2 F' H) (hle:F.le F') (h:wpOp C op d K1 F H):wpOp C op d K2 F' H:=by
 cases op
 case call n a=>exact aRE hK hle h
 case bIV x a =>
  obtain⟨n,cs,h1,h2⟩:=h
  exact⟨n,cs,cM hle h1,aRE hK hle h2⟩
 case box r x=>cases r<;>first | exact OC (op:=.box false x) hK hle h | exact alI (op:=.box true x) hK hle h
 case bHQ r s l z ps=>cases r<;>first | exact OC (op:=.bHQ false s l z ps) hK hle h | exact alI (op:=.bHQ true s l z ps) hK hle h
 case alloc cs=>exact OC (op:=.alloc cs) hK hle h
 case bHU s b z l c=>exact OC (op:=.bHU s b z l c) hK hle h
 case bJG sh=>exact OC (op:=.bJG sh) hK hle h
 case store n x y=>exact ayR (op:=.store n x y) hK hle h
 case append s b x y=>exact ayR (op:=.append s b x y) hK hle h
 case bII sh x y z=>exact ayR (op:=.bII sh x y z) hK hle h
 case insert sh x y z=>exact ayR (op:=.insert sh x y z) hK hle h
 all_goals exact alI hK hle h
theorem OX {K1 K2:PF→PH→Prop} (hK:∀ F F' H,F.le F'→K1 F H→K2 F' H):∀ {ops:List bB} {F F':PF} {H:PH},F.le F'→wpOps C ops K1 F H→wpOps C ops K2 F' H
 | [],_,_,_,hle,h=>hK _ _ _ hle h
 | ⟨d,op,none⟩::rest,_,_,_,hle,h=>bkO (fun _ _ _ a b=>OX hK a b) hle h
 | ⟨d,op,some (t,want)⟩::rest,F,F',H,hle,h=>by
  rw[aQT] at h ⊢
  unfold tJ at h
  split at h
  ·rename_i b hb
   rw[hle t _ hb]
   unfold tJ
   simp only
   split at h
   ·rename_i e; rw[if_pos e]; exact bkO (fun _ _ _ a b=>OX hK a b) hle h
   ·rename_i e; rw[if_neg e]; exact OX hK (PF.xM hle d _) h
  ·rename_i hb
   rw[hle t _ hb]
   exact OX hK (PF.xM hle d _) h
  ·exact h.elim
theorem aHY {Hs:PH} {S:Spec} {st:Bool} {op:POp} {K:PV→PH→Prop} (hle:F.le F') (h:(op.kind F).run C Hs S st K H):(op.kind F').run C Hs S st K H:=by
 have new:∀ op:POp,(Kind.new (cU op F)).run C Hs S st K H→(Kind.new (cU op F')).run C Hs S st K H:=fun op h=>by
  obtain⟨mk,x,h1,h2⟩:=h
  exact⟨mk,x,azJ hle h1,h2⟩
 have calm:∀ op:POp,(Kind.calm (aO op F)).run C Hs S st K H→(Kind.calm (aO op F')).run C Hs S st K H:=fun op h=>by
  obtain⟨v,h1,h2⟩:=h
  exact⟨v,aIF hle h1,h2⟩
 have wr:∀ op:POp,(Kind.write fun H K=>bU op F H K).run C Hs S st K H→(Kind.write fun H K=>bU op F' H K).run C Hs S st K H:=fun op h=>aOS (op:=op) hle (show bU op F H (fun r H'=>Hs.le H'∧K r H') from h)
 cases op
 case call n a =>
  obtain⟨vs,D,R,h1,h2⟩:=h
  exact⟨vs,D,R,acN hle h1,h2⟩
 case bIV x a =>
  unfold POp.kind at h ⊢
  simp only at h ⊢
  cases hx:x.ev F with
  | none=>rw[hx] at h; exact h.elim
  | some u =>
   rw[hx] at h
   rw[cM hle hx]
   cases u<;>simp only at h ⊢<;>first | exact h | skip
   obtain⟨vs,D,R,h1,h2⟩:=h
   exact⟨vs,D,R,aFO hle _ h1,h2⟩
 case insert sh x k v =>
  obtain⟨o,sh',key,u,g,h1,h2⟩:=h
  refine⟨o,sh',key,u,g,?_,h2⟩
  cases hx:x.ev F with
  | none=>simp[hx] at h1
  | some a =>
   cases hy:k.ev F with
   | none=>simp[hx,hy] at h1
   | some b =>
    cases hz:v.ev F with
    | none=>simp[hx,hy,hz] at h1
    | some c=>rw[cM hle hx,cM hle hy,cM hle hz]; rw[hx,hy,hz] at h1; exact h1
 case box r x=>cases r<;>first | exact new (.box false x) h | exact calm (.box true x) h
 case bHQ r s l z ps=>cases r<;>first | exact new (.bHQ false s l z ps) h | exact calm (.bHQ true s l z ps) h
 case alloc cs=>exact new (.alloc cs) h
 case bHU s b z l c=>exact new (.bHU s b z l c) h
 case bJG sh=>exact new (.bJG sh) h
 case store n x y=>exact wr (.store n x y) h
 case append s b x y=>exact wr (.append s b x y) h
 case bII sh x y z=>exact wr (.bII sh x y z) h
 all_goals exact calm _ h
theorem bgR {Hs:PH} {S:Spec} {st:Bool} {i:bB} {K:PV→PH→Prop} (hle:F.le F') (h:(i.kind F).run C Hs S st K H):(i.kind F').run C Hs S st K H:=by
 unfold bB.kind at h ⊢
 split
 ·rename_i hg
  rw[hg] at h
  exact aHY hle h
 ·rename_i t want hg
  rw[hg] at h
  simp only at h
  split at h
  ·rename_i b hb
   rw[hle t _ hb]
   simp only
   split at h
   ·rename_i e; rw[if_pos e]; exact aHY hle h
   ·rename_i e; rw[if_neg e]; exact h
  ·rename_i hb
   rw[hle t _ hb]
   exact h
  ·exact h.elim
theorem bdM {Hs:PH} {S:Spec} {K1 K2:PF→PH→Prop} (hK:∀ F F' H,F.le F'→K1 F H→K2 F' H):∀ {ops:List (bB × Bool)} {F F':PF} {H:PH},Hs.le H→F.le F'→wpD C Hs S ops K1 F H→wpD C Hs S ops K2 F' H
 | [],_,_,_,_,hle,h=>hK _ _ _ hle h
 | i::rest,F,F',H,hs,hle,h=>by
  have h1:(i.1.kind F).run C Hs S i.2 (fun v H'=>wpD C Hs S rest K1 (F.put i.1.dst v) H') H:=h
  exact bgR hle (Kind.pQ (pN _ _) (fun v H' hs' hh=>bdM hK hs' (PF.xM hle _ v) hh) hs h1)
class Up (K:cQ):Prop where
 up:∀ {e:lZ} {F F':PF} {H:PH},F.le F'→K e F H→K e F' H
theorem tA:∀ (c:aC) {K1 K2:cQ} (_:∀ e F F' H,F.le F'→K1 e F H→K2 e F' H) {F F':PF} {H:PH},F.le F'→c.wp C K1 F H→c.wp C K2 F' H
 | .skip,_,_,hK,_,_,_,hle,h=>hK _ _ _ _ hle h
 | .region ops,_,_,hK,_,_,_,hle,h=>OX (hK .normal) hle h
 | .draw ops,_,_,hK,_,_,_,hle,⟨Hs,S,h1,h2⟩=>⟨Hs,S,h1,bdM (hK .normal) h1 hle h2⟩
 | .seq a b,K1,K2,hK,_,_,_,hle,h=>tA a (K1:=iV C (b.wp C) K1) (K2:=iV C (b.wp C) K2) (fun e F F' H hl hh=>by
   cases e with
   | normal=>exact tA b hK hl hh
   | exit id=>exact hK (.exit id) _ _ _ hl hh
   | ret=>exact hK .ret _ _ _ hl hh) hle h
 | .cond c a b,K1,K2,hK,F,F',H,hle,h=>by
  rw[bjZ] at h ⊢
  unfold SR at h
  split at h
  ·rename_i t ht
   rw[cM hle ht]
   unfold SR
   simp only
   split at h
   ·rename_i e; rw[if_pos e]; exact tA a hK hle h
   ·rename_i e; rw[if_neg e]; exact tA b hK hle h
  ·exact h.elim
 | .block id c,K1,K2,hK,_,_,_,hle,h=>tA c (K1:=dW id K1) (K2:=dW id K2) (fun e F F' H hl hh=>by
   cases e with
   | normal=>exact hK .normal _ _ _ hl hh
   | exit j =>
    rw[TS] at hh ⊢
    split at hh
    ·rename_i e; rw[if_pos e]; exact hK .normal _ _ _ hl hh
    ·rename_i e; rw[if_neg e]; exact hK (.exit j) _ _ _ hl hh
   | ret=>exact hK .ret _ _ _ hl hh) hle h
 | .loop c,K1,K2,hK,F,F',H,hle,⟨α,Fs,Hs,Pr,m,a0,F1,H1,h1,h2,h3,h4,h5⟩=>by
  obtain⟨F1',k1,k2⟩:=h1.up hle
  refine⟨α,Fs,Hs,Pr,m,a0,F1',H1,k1,h2,PF.le_trans h3 k2,h4,fun a ha=>?_⟩
  refine tA c (K1:=eE Fs Hs Pr m (m a) K1) (K2:=eE Fs Hs Pr m (m a) K2) (fun e F F' H hl hh=>?_) PF.le_refl (h5 a ha)
  cases e with
  | normal =>
   obtain⟨b,F2,H2,z1,z2,z3,z4,z5⟩:=hh
   obtain⟨F2',y1,y2⟩:=z1.up hl
   exact⟨b,F2',H2,y1,z2,z3,PF.le_trans z4 y2,z5⟩
  | exit id=>exact hK (.exit id) _ _ _ hl hh
  | ret=>exact hK .ret _ _ _ hl hh
 | .exit id,_,_,hK,_,_,_,hle,h=>hK (.exit id) _ _ _ hle h
 | .ret,_,_,hK,_,_,_,hle,h=>hK .ret _ _ _ hle h
instance Up.seq {K:cQ} [Up K] (b:aC):Up (iV C (b.wp C) K) where
 up {e} {F} {F'} {H} hl hh:=by
  cases e with
  | normal=>exact tA b (fun e F F' H a h=>Up.up a h) hl hh
  | exit id=>exact Up.up (K:=K) (e:=.exit id) hl hh
  | ret=>exact Up.up (K:=K) (e:=.ret) hl hh
instance Up.block {K:cQ} [Up K] (id:Nat):Up (dW id K) where
 up {e} {F} {F'} {H} hl hh:=by
  cases e with
  | normal=>exact Up.up (K:=K) (e:=.normal) hl hh
  | exit j =>
   rw[TS] at hh ⊢
   split at hh
   ·rename_i e; rw[if_pos e]; exact Up.up (K:=K) (e:=.normal) hl hh
   ·rename_i e; rw[if_neg e]; exact Up.up (K:=K) (e:=.exit j) hl hh
  | ret=>exact Up.up (K:=K) (e:=.ret) hl hh
instance Up.loop {K:cQ} [Up K] {α:Type} (Fs:α→PF) (Hs:α→PH) (Pr:α→Prop) (m:α→Nat) (n:Nat):Up (eE Fs Hs Pr m n K) where
 up {e} {F} {F'} {H} hl hh:=by
  cases e with
  | normal =>
   obtain⟨b,F2,H2,z1,z2,z3,z4,z5⟩:=hh
   obtain⟨F2',y1,y2⟩:=z1.up hl
   exact⟨b,F2',H2,y1,z2,z3,PF.le_trans z4 y2,z5⟩
  | exit id=>exact Up.up (K:=K) (e:=.exit id) hl hh
  | ret=>exact Up.up (K:=K) (e:=.ret) hl hh
theorem bsJ {H:PH} (hle:F.le F') {x:dR} {v:PV} (h:x.ev F H=some v):x.ev F' H=some v:=by
 cases x with
 | tmp t=>exact hle t v h
 | cell t n =>
  cases n<;>simp only[dR.ev] at h ⊢<;>(cases hx:F t with
   | none=>simp[hx] at h
   | some a=>rw[hle t a hx,← hx]; exact h)
theorem anG {H:PH} (hle:F.le F'):∀ {xs:List dR} {vs:List PV},dR.evs F H xs=some vs→dR.evs F' H xs=some vs
 | [],_,h=>h
 | x::xs,vs,h=>by
  rw[lE] at h ⊢
  cases hx:x.ev F H with
  | none=>simp[hx] at h
  | some v =>
   cases hs:dR.evs F H xs with
   | none=>simp[hs] at h
   | some ws =>
    rw[hx,hs] at h
    rw[bsJ hle hx,anG hle hs]
    exact h
instance Up.ret (res:List dR) (R:PV→PH→Prop):Up (aU res R) where
 up {e} {F} {F'} {H} hl hh:=by
  cases e with
  | exit id=>exact hh
  | normal=>obtain⟨vs,h1,h2⟩:=hh; exact⟨vs,anG hl h1,h2⟩
  | ret=>obtain⟨vs,h1,h2⟩:=hh; exact⟨vs,anG hl h1,h2⟩
end
def EL (f:aJ) (row:List Int):Int:=match eW (jG f) row 0 with
 | some i=>i
 | none=>-1
theorem boV {C:Ctx} (f:aJ) (row:List Int) (hl:row.length≤16777216):PW.wp C (aU aKE.res (aE (.int .i64 (EL f row)))) (PF.args [.agg f.cells,ints row]) .nil:=by
 unfold EL
 simp only[go_sem,ο,PW,aXH,aXI,aKE]
 refine wp_loop (α:=Nat) (fun k=>(((PF.nil.set 1 (ints row)).set 2 (.bH f.cells)).set 5 (.int .i64 k))) (fun _=>.nil) (fun k=>k≤row.length∧eW (jG f) row 0=eW (jG f) (row.drop k) k) (fun k=>row.length-k) 0 ⟨bJY _,rfl⟩ Lq PH.nil_le ?_
 rintro k ⟨hk,ha⟩
 simp only[go_sem,ο,γ,aXG,aXJ,bJO]
 by_cases hlt:k<row.length
 ·have bHR:(k:Int)<(row.length:Nat):=by omega
  have hat:(row.map fun x=>[PV.int .i64 x])[k]?=some [.int .i64 row[k]]:=by simp[hlt]
  rw[bLN hlt,eW] at ha
  generalize row[k]=x at *
  simp only[go_sem,ο,bHR]
  refine bP .nil dX PH.nil_le ?_
  by_cases c1:x < -1
  ·rw[show jG f x=true from by unfold jG; rw[decide_eq_true c1]; rfl,if_pos rfl] at ha
   simp only[go_sem,ο,γ,TH,hat,c1,anJ]
   refine aL (.inr rfl) rfl ?_
   rw[aT,ha]
  ·by_cases c2:x≥(f.bHK.length:Nat)
   ·rw[show jG f x=true from by unfold jG; rw[decide_eq_true c2,Bool.or_true],if_pos rfl] at ha
    simp only[go_sem,ο,δ,γ,θ,reduceCtorEq,TH,hat,c1,bJO,c2,anJ]
    refine aL (.inr rfl) rfl ?_
    rw[aT,ha]
   ·rw[show jG f x=false from by unfold jG; rw[decide_eq_false c1,decide_eq_false c2]; rfl,if_neg (by decide)] at ha
    simp only[go_sem,ο,δ,γ,θ,reduceCtorEq,TH,hat,c1,bJO,c2,aXK,wZz k]
    exact aG (k+1) ⟨hlt,ha⟩ Om Lq PH.le_refl
 ·have bHR:¬ (k:Int)<(row.length:Nat):=by omega
  have:k=row.length:=by omega
  subst this
  rw[List.drop_length,eW] at ha
  simp only[go_sem,ο,bHR,aXL]
  refine aL (.inr rfl) rfl ?_
  rw[aT,ha]
theorem bnQ {r e:Int} (h:0≤e):max 0 (min r e)=min (max r 0) e:=by omega
theorem a4U (f:aJ) (room:List Int) {k:Nat} (h:k<f.bHK.length):(fQ f room).take (k+1)=(fQ f room).take k++[rI f room k]:=by
 have hk:k<(fQ f room).length:=by rw[PR]; exact h
 rw[bLL hk,aJN]
theorem aES {xs:List Int} {k:Nat} {d:Int} (h:k<xs.length):(xs.take (k+1)).contains d=((xs.take k).contains d||decide (xs[k]=d)):=by
 rw[Bool.eq_iff_iff]
 rw[bMN,bLL h,bLB,bKV,Bool.or_eq_true,bMN,decide_eq_true_eq]
 exact⟨fun h=>h.imp id Eq.symm,fun h=>h.imp id Eq.symm⟩
theorem aWM {C:Ctx} (l:List Int) (hl:l.length≤1000000000000000) (x:Int):PQ.wp C (aU PP.res (aE (.bool (l.contains x)))) (PF.args [ints l,.int .i64 x]) .nil:=by
 simp only[go_sem,γ,δ,ε,ζ,η,θ,ι,κ,μ,ν,ξ,ο,ρ,σ,τ,υ,reduceIte,reduceCtorEq,PQ,aWN,aWO,PP]
 refine wp_loop (α:=Nat) (fun k=>(((PF.nil.set 0 (ints l)).set 1 (.int .i64 x)).set 5 (.int .i64 k))) (fun _=>.nil) (fun k=>k≤l.length∧(l.take k).contains x=false) (fun k=>l.length-k) 0 ⟨bJY _,by simp⟩ Lq PH.nil_le ?_
 rintro k ⟨hk,hn⟩
 simp only[go_sem,γ,δ,ε,ζ,η,θ,ι,κ,μ,ν,ξ,ο,ρ,σ,τ,υ,reduceIte,reduceCtorEq,aWL,aWP,bJO]
 by_cases hlt:k<l.length
 ·have bHR:(k:Int)<(l.length:Nat):=by omega
  have hat:(l.map fun n=>[PV.int .i64 n])[k]?=some [.int .i64 l[k]]:=by simp[hlt]
  have hs:=aES (d:=x) hlt
  by_cases c:l[k]=x
  ·simp only[go_sem,γ,δ,ε,ζ,η,θ,ι,κ,μ,ν,ξ,ο,ρ,σ,τ,υ,reduceIte,reduceCtorEq,bHR,anI,hat,bX c,aWQ]
   refine aL (.inr rfl) rfl ?_
   rw[aT]
   exact congrArg PV.bool (bMN.2 (c ▸ bJS hlt)).symm
  ·simp only[go_sem,γ,δ,ε,ζ,η,θ,ι,κ,μ,ν,ξ,ο,ρ,σ,τ,υ,reduceIte,reduceCtorEq,bHR,anI,hat,bG c,aWR,wZz k]
   exact aG (k+1) ⟨hlt,by rw[hs,hn]; simp[c]⟩ Om Lq PH.le_refl
 ·have bHR:¬ (k:Int)<(l.length:Nat):=by omega
  have:k=l.length:=by omega
  subst this
  rw[bKL] at hn
  simp only[go_sem,γ,δ,ε,ζ,η,θ,ι,κ,μ,ν,ξ,ο,ρ,σ,τ,υ,reduceIte,reduceCtorEq,bHR,aWS]
  refine aL (.inr rfl) rfl ?_
  rw[aT,hn]
def NN (l:List Int) (x:Int):Int:=match l.findIdx? (fun y=>decide (y=x)) with
 | some i=>(i:Int)
 | none=>-1
theorem bnB {l:List Int} {x:Int} {k:Nat} (h:k<l.length) (h1:l[k]=x) (h2:(l.take k).contains x=false):NN l x=k:=by
 unfold NN
 have:l.findIdx? (fun y=>decide (y=x))=some k:=by
  rw[List.findIdx?_eq_some_iff_getElem]
  refine⟨h,by simp[h1],fun j hj=>?_⟩
  intro hx
  rw[decide_eq_true_eq] at hx
  have:x∈l.take k:=by
   rw[← hx]
   exact List.mem_take_iff_getElem.2 ⟨j,by omega,rfl⟩
  rw[bMN.2 this] at h2
  cases h2
 rw[this]
theorem aqF {l:List Int} {x:Int} (h:l.contains x=false):NN l x=-1:=by
 unfold NN
 have:l.findIdx? (fun y=>decide (y=x))=none:=by
  rw[List.findIdx?_eq_none_iff]
  intro y hy
  rw[decide_eq_false_iff_not]
  intro e
  subst e
  rw[bMN.2 hy] at h
  cases h
 rw[this]
theorem bnC (l:List Int) (x:Int):decide (NN l x≥0)=l.contains x:=by
 cases hc:l.contains x with
 | false=>rw[aqF hc]; rfl
 | true =>
  unfold NN
  cases hf:l.findIdx? (fun y=>decide (y=x)) with
  | some i=>exact decide_eq_true (Om:(i:Int)≥0)
  | none =>
   rw[List.findIdx?_eq_none_iff] at hf
   have:=hf x (bMN.1 hc)
   simp at this
theorem baM {C:Ctx} (l:List Int) (hl:l.length≤1000000000000000) (x:Int):BB.wp C (aU PG.res (aE (.int .i64 (NN l x)))) (PF.args [ints l,.int .i64 x]) .nil:=by
 simp only[go_sem,γ,δ,ε,ζ,η,θ,ι,κ,μ,ν,ξ,ο,ρ,σ,τ,υ,reduceIte,reduceCtorEq,BB,asD,asE,PG,bJO]
 refine wp_loop (α:=Nat) (fun k=>((((PF.nil.set 0 (ints l)).set 1 (.int .i64 x)).set 7 (.int .i64 (l.length:Nat))).set 8 (.int .i64 k))) (fun _=>.nil) (fun k=>k≤l.length∧(l.take k).contains x=false) (fun k=>l.length-k) 0 ⟨bJY _,by simp⟩ Lq PH.nil_le ?_
 rintro k ⟨hk,hn⟩
 simp only[go_sem,γ,δ,ε,ζ,η,θ,ι,κ,μ,ν,ξ,ο,ρ,σ,τ,υ,reduceIte,reduceCtorEq,asC,asF]
 by_cases hlt:k<l.length
 ·have bHR:(k:Int)<(l.length:Nat):=by omega
  have hat:(l.map fun n=>[PV.int .i64 n])[k]?=some [.int .i64 l[k]]:=by simp[hlt]
  have hs:=aES (d:=x) hlt
  by_cases c:l[k]=x
  ·simp only[go_sem,γ,δ,ε,ζ,η,θ,ι,κ,μ,ν,ξ,ο,ρ,σ,τ,υ,reduceIte,reduceCtorEq,bHR,PI,PJ,hat,bX c.symm,asG]
   refine aL (.inr rfl) Ev ?_
   rw[aT,bnB hlt c hn]
  ·simp only[go_sem,γ,δ,ε,ζ,η,θ,ι,κ,μ,ν,ξ,ο,ρ,σ,τ,υ,reduceIte,reduceCtorEq,bHR,PI,PJ,hat,bG (fun h:x=l[k]=>c h.symm),asH,wZz k]
   exact aG (k+1) ⟨hlt,by rw[hs,hn]; simp[c]⟩ Om Lq PH.le_refl
 ·have bHR:¬ (k:Int)<(l.length:Nat):=by omega
  have:k=l.length:=by omega
  subst this
  rw[bKL] at hn
  simp only[go_sem,γ,δ,ε,ζ,η,θ,ι,κ,μ,ν,ξ,ο,ρ,σ,τ,υ,reduceIte,reduceCtorEq,bHR,asI]
  refine aL (.inr rfl) Ev ?_
  rw[aT,aqF hn]
theorem aID {C:Ctx} (l:List Int) (x:Int) (h:aD C 261 [ints l,.int .i64 x] .nil (aE (.int .i64 (NN l x)))):sG.wp C (aU tQ.res (aE (.bool (l.contains x)))) (PF.args [ints l,.int .i64 x]) .nil:=by
 simp only[go_sem,γ,δ,ε,ζ,η,θ,ι,κ,μ,ν,ξ,ο,ρ,σ,τ,υ,reduceIte,reduceCtorEq,sG,PB,PC,tQ]
 refine aA h Ev ?_
 simp only[go_sem,γ,δ,ε,ζ,η,θ,ι,κ,μ,ν,ξ,ο,ρ,σ,τ,υ,reduceIte,reduceCtorEq]
 refine aL (.inr rfl) Ev ?_
 rw[aT,bnC]
structure btY (C:Ctx):Prop where
 has:∀ (l:List Int) (x:Int),l.length≤1000000000000000→aD C 260 [ints l,.int .i64 x] .nil (aE (.bool (l.contains x)))
theorem bhT {C:Ctx} (Lb:btY C) (f:aJ) (hV:VF f) (now:List (List Int)) (hl:eT now) (hlen:now.length=f.bHM.length) (r:Int) (h0:0≤r) (h4:r≤4) (down:List Int) (hd:down.length≤1000000000000000) :
  HX.wp C (aU afB.res (aE (.bool (fA f now r down)))) (PF.args [.agg f.cells,lay now,.int .i64 r,ints down]) .nil:=by
 have bHX:=hl.rows
 simp only[go_sem,γ,δ,ε,ζ,η,θ,ι,κ,μ,ν,ξ,ο,ρ,σ,τ,υ,reduceIte,reduceCtorEq,HX,aIG,aIH,afB,bJO]
 refine wp_loop (α:=Nat) (fun v=>((((((PF.nil.set 2 (.int .i64 r)).set 3 (ints down)).set 4 (.bH f.cells)).set 15 (lay now)).set 16 (.int .i64 (now.length:Nat))).set 17 (.int .i64 v))) (fun _=>.nil) (fun v=>v≤now.length∧uS f now r down v=true) (fun v=>now.length-v) 0 ⟨bJY _,rfl⟩ (by (repeat' (first|exact PF.nil_le|refine PF.aI ?_ ?_))<;>first|(simp only[go_sem,γ,δ,ε,ζ,η,θ,ι,κ,μ,ν,ξ,ο,ρ,σ,τ,υ,reduceIte,reduceCtorEq,bJO]<;>rfl)|rfl) PH.nil_le ?_
 rintro v ⟨hv,hok⟩
 simp only[go_sem,γ,δ,ε,ζ,η,θ,ι,κ,μ,ν,ξ,ο,ρ,σ,τ,υ,reduceIte,reduceCtorEq,arX,aII]
 by_cases hlt:v<now.length
 ·have bHR:(v:Int)<(now.length:Nat):=by omega
  have hat:(now.map fun r=>[ints r])[v]?=some [ints now[v]]:=by simp[hlt]
  have hgd:now.getD v []=now[v]:=by simp[bKH,hlt]
  have hrl:(now[v]).length≤16777216:=by
   have h1:=hl.all
   have h2:(now[v]).length≤now.flatten.length:=(List.sublist_flatten_of_mem (bJS hlt)).length_le
   omega
  obtain⟨hp,he⟩:=nM hV (Om:v<f.bHM.length)
  have hpol:=hV.bHY _ (bJS hp)
  rw[he] at hpol
  have hw:IntKind.i64.wrap ((cY f v).k+r)=(cY f v).k+r:=wrap_i64 Om Om
  have bIG:=acQ f now r down v
  rw[hok,bKA,hgd] at bIG
  have hno:=fun (h:tR f r down v now[v]=true)=>aBH (f:=f) (now:=now) (reserve:=r) (down:=down) hlt (by rw[hgd]; exact h)
  generalize now[v]=row at *
  simp only[go_sem,γ,δ,ε,ζ,η,θ,ι,κ,μ,ν,ξ,ο,ρ,σ,τ,υ,reduceIte,reduceCtorEq,bHR,aIJ,hat,aIK,aIL,bJO]
  refine wp_loop (α:=Nat) (fun k=>((((((((((((PF.nil.set 2 (.int .i64 r)).set 3 (ints down)).set 4 (.bH f.cells)).set 15 (lay now)).set 16 (.int .i64 (now.length:Nat))).set 17 (.int .i64 v)).set 9 (.int .i64 v)).set 11 (.bool (sB down (row.take k)))).set 12 (.int .i64 (gD down (row.take k):Nat))).set 22 (ints row)).set 23 (.int .i64 (row.length:Nat))).set 24 (.int .i64 k))) (fun _=>.nil) (fun k=>k≤row.length) (fun k=>row.length-k) 0 (bJY _) (by (repeat' (first|exact PF.nil_le|refine PF.aI ?_ ?_))<;>first|(simp only[go_sem,γ,δ,ε,ζ,η,θ,ι,κ,μ,ν,ξ,ο,ρ,σ,τ,υ,reduceIte,reduceCtorEq,List.take_zero,bJO,sB,gD,List.any_nil,List.countP_nil]<;>rfl)|rfl) PH.nil_le ?_
  intro k hk
  have hol:gD down (row.take k)≤row.length:=Nat.le_trans List.countP_le_length (by rw[bKG]; omega)
  simp only[go_sem,γ,δ,ε,ζ,η,θ,ι,κ,μ,ν,ξ,ο,ρ,σ,τ,υ,reduceIte,reduceCtorEq,arW,aIM]
  by_cases hkl:k<row.length
  ·have hkl':(k:Int)<(row.length:Nat):=by omega
   have hra:(row.map fun n=>[PV.int .i64 n])[k]?=some [.int .i64 row[k]]:=by simp[hkl]
   have hs1:=aqE (down:=down) hkl
   have hs2:=VM (down:=down) hkl
   by_cases c:row[k]<0
   ·have d1:kI down row[k]=false:=by unfold kI; rw[decide_eq_false Om]; rfl
    have d2:mD down row[k]=false:=by unfold mD; rw[decide_eq_false Om]; rfl
    rw[d1,Bool.or_false] at hs1
    rw[d2,if_neg (by simp),bLH] at hs2
    simp only[go_sem,γ,δ,ε,ζ,η,θ,ι,κ,μ,ν,ξ,ο,ρ,σ,τ,υ,reduceIte,reduceCtorEq,hkl',ZC,hra,ZD,c,yX,wZz k]
    exact aG (k+1) hkl Om (by (repeat' (first|exact PF.nil_le|refine PF.aI ?_ ?_))<;>first|(simp only[go_sem,γ,δ,ε,ζ,η,θ,ι,κ,μ,ν,ξ,ο,ρ,σ,τ,υ,reduceIte,reduceCtorEq,hs1,hs2]<;>rfl)|rfl) PH.le_refl
   ·simp only[go_sem,γ,δ,ε,ζ,η,θ,ι,κ,μ,ν,ξ,ο,ρ,σ,τ,υ,reduceIte,reduceCtorEq,hkl',ZC,hra,ZD,c,aIN]
    refine aA (Lb.has down row[k] hd) Ev ?_
    cases hc:down.contains row[k] with
    | true =>
     have d1:kI down row[k]=true:=by unfold kI; rw[decide_eq_true Om,hc]; rfl
     have d2:mD down row[k]=false:=by unfold mD; rw[hc]; simp
     rw[d1,Bool.or_true] at hs1
     rw[d2,if_neg (by simp),bLH] at hs2
     simp only[go_sem,γ,δ,ε,ζ,η,θ,ι,κ,μ,ν,ξ,ο,ρ,σ,τ,υ,reduceIte,reduceCtorEq,arY,yX,wZz k]
     exact aG (k+1) hkl Om (by (repeat' (first|exact PF.nil_le|refine PF.aI ?_ ?_))<;>first|(simp only[go_sem,γ,δ,ε,ζ,η,θ,ι,κ,μ,ν,ξ,ο,ρ,σ,τ,υ,reduceIte,reduceCtorEq,hs1,hs2]<;>rfl)|rfl) PH.le_refl
    | false =>
     have d1:kI down row[k]=false:=by unfold kI; rw[hc]; simp
     have d2:mD down row[k]=true:=by unfold mD; rw[decide_eq_true Om,hc]; rfl
     rw[d1,Bool.or_false] at hs1
     rw[d2,if_pos rfl] at hs2
     simp only[go_sem,γ,δ,ε,ζ,η,θ,ι,κ,μ,ν,ξ,ο,ρ,σ,τ,υ,reduceIte,reduceCtorEq,arZ,dC (Om:gD down (row.take k)<9223372036854775807),yX,wZz k]
     exact aG (k+1) hkl Om (by (repeat' (first|exact PF.nil_le|refine PF.aI ?_ ?_))<;>first|(simp only[go_sem,γ,δ,ε,ζ,η,θ,ι,κ,μ,ν,ξ,ο,ρ,σ,τ,υ,reduceIte,reduceCtorEq,hs1,hs2]<;>rfl)|rfl) PH.le_refl
  ·have hkl':¬ (k:Int)<(row.length:Nat):=by omega
   have:k=row.length:=by omega
   subst this
   rw[bKL] at hol
   simp only[go_sem,γ,δ,ε,ζ,η,θ,ι,κ,μ,ν,ξ,ο,ρ,σ,τ,υ,reduceIte,reduceCtorEq,hkl',bKL]
   refine bP .nil dX PH.nil_le ?_
   have hsh:tR f r down v row=(sB down row&&decide (((gD down row:Nat):Int)<(cY f v).k+r)):=rfl
   cases hh:sB down row with
   | false =>
    rw[hh,bJU] at hsh
    rw[hsh] at bIG
    simp only[go_sem,γ,δ,ε,ζ,η,θ,ι,κ,μ,ν,ξ,ο,ρ,σ,τ,υ,reduceIte,reduceCtorEq,PD,hh,PE,wZz v]
    exact aG (v+1) ⟨hlt,bIG⟩ Om Lq PH.nil_le
   | true =>
    rw[hh,bKA] at hsh
    simp only[go_sem,γ,δ,ε,ζ,η,θ,ι,κ,μ,ν,ξ,ο,ρ,σ,τ,υ,reduceIte,reduceCtorEq,PD,hh,rN (Om:v<f.bHM.length),hV.PK (Om:v<f.bHM.length),mP hp,he,hw]
    by_cases c:((gD down row:Nat):Int)<(cY f v).k+r
    ·rw[decide_eq_true c] at hsh
     simp only[go_sem,γ,δ,ε,ζ,η,θ,ι,κ,μ,ν,ξ,ο,ρ,σ,τ,υ,reduceIte,reduceCtorEq,c,asA]
     refine aL (.inr rfl) Ev ?_
     rw[aT]
     exact congrArg PV.bool (hno hsh).symm
    ·rw[decide_eq_false c] at hsh
     rw[hsh] at bIG
     simp only[go_sem,γ,δ,ε,ζ,η,θ,ι,κ,μ,ν,ξ,ο,ρ,σ,τ,υ,reduceIte,reduceCtorEq,c,PE,wZz v]
     exact aG (v+1) ⟨hlt,bIG⟩ Om Lq PH.nil_le
 ·have bHR:¬ (v:Int)<(now.length:Nat):=by omega
  have:v=now.length:=by omega
  subst this
  simp only[go_sem,γ,δ,ε,ζ,η,θ,ι,κ,μ,ν,ξ,ο,ρ,σ,τ,υ,reduceIte,reduceCtorEq,bHR,asB]
  refine aL (.inr rfl) Ev ?_
  rw[aT]
  exact congrArg PV.bool hok.symm
def axK:Rg:=[iA 1 (.box true (Tm 0)),iT 2 false]
def axL:Rg:=[iO 6 3 1,iK 7 52 6,iM 5 7,iE 8 5 0,iE 9 5 1,iA 3 (.alloc [(.bool false),.aB,.aB]),iS 3 3 8,iM 4 9]
def zO:Rg:=[iM 10 4,iC 11 .eql 10 0,iM 12 11,gF 13 0 3 12 true,gL 14 13 12 true,iG 15 (.un .not (Tm 14)) 12 true,iP 16 12 15,iM 17 16,gF 18 1 3 17 true,gL 19 18 17 true,gN 20 19 17 true,gC 21 .leq 20 1 17 true,iP 22 17 21,iM 23 22,gF 24 2 3 23 true,gL 25 24 23 true,gN 26 25 23 true,gC 27 .leq 26 1 23 true,iP 28 23 27,iM 2 28]
def CO:aC:=(sq axK (sq axL (sq zO .ret)))
def beI:List Nat:=[1]
def SF:aW:=⟨1,29,CO,[.tmp 2]⟩
def ajT:Rg:=[iT 4 false]
def ajU:Rg:=[iM 6 0,iN 7 6,iM 8 1,iB 9 .neq 7 8]
def ajV:Rg:=[iT 4 false]
def ajW:Rg:=[iI 5 0]
def ajX:Rg:=[iM 10 5,iM 11 1,iB 12 .lss 10 11]
def ajY:Rg:=[iM 15 0,iM 16 5,iX 17 3 15 16,iO 18 3 17,iK 19 74 18,iA 20 (.un .not (Tm 19))]
def ajZ:Rg:=[iT 4 false]
def akA:Rg:=[iM 13 5,iC 14 .add 13 1,iM 5 14]
def ajS:aC:=(.seq (sq ajX (.cond (Tm 12) .skip (.exit 0))) (.seq (.block 1 (sq ajY (.cond (Tm 20) (sq ajZ .ret) .skip))) (.region akA)))
def akB:Rg:=[iT 4 true]
def yF:aC:=(sq ajT (.seq (sq ajU (.cond (Tm 9) (sq ajV .ret) .skip)) (.seq (sq ajW (.block 0 (.loop ajS))) (sq akB .ret))))
def a7C:List Nat:=[]
def EG:aW:=⟨2,21,yF,[.tmp 4]⟩
def a0M:Rg:=[iA 1 (.box true (Tm 0)),iT 2 false]
def a0N:Rg:=[iF 12 1 1,iL 13 12,iN 14 13,iM 3 14]
def a0O:Rg:=[iM 15 3,iC 16 .lss 15 1,iM 17 16,gM 18 3 17 false,gC 19 .gtr 18 4 17 false,iQ 20 17 19,iM 21 20,gF 22 1 1 21 false,gL 23 22 21 false,gM 24 3 21 false,gK2 25 75 23 24 21 false,iG 26 (.un .not (Tm 25)) 21 false,iQ 27 21 26,iM 28 27,gF 29 3 1 28 false,gL 30 29 28 false,gM 31 3 28 false,gK2 32 75 30 31 28 false,iG 33 (.un .not (Tm 32)) 28 false,iQ 34 28 33,iM 35 34,gF 36 2 1 35 false,gL 37 36 35 false,gN 38 37 35 false,gM 39 3 35 false,gB 40 .neq 38 39 35 false,iQ 41 35 40]
def wM:Rg:=[iT 2 false]
def a0P:Rg:=[iI 4 0]
def a0Q:Rg:=[iM 42 4,iM 43 3,iB 44 .lss 42 43]
def a0R:Rg:=[iF 47 2 1,iL 48 47,iM 49 4,iX 50 1 48 49,iL 51 50,iM 52 3,iK2 53 75 51 52,iA 54 (.un .not (Tm 53)),iM 55 54,gF 56 2 1 55 false,gL 57 56 55 false,gM 58 4 55 false,iG 59 (.bIF 1 (Tm 57) (Tm 58)) 55 false,gL 60 59 55 false,gM 61 4 55 false,iG 62 (.bIF 3 (Tm 60) (Tm 61)) 55 false,gO 63 3 62 55 false,gK 64 54 63 55 false,gC 65 .neq 64 0 55 false,iQ 66 55 65]
def anZ:Rg:=[iT 2 false]
def a0S:Rg:=[iM 45 4,iC 46 .add 45 1,iM 4 46]
def a0L:aC:=(.seq (sq a0Q (.cond (Tm 44) .skip (.exit 0))) (.seq (.block 1 (sq a0R (.cond (Tm 66) (sq anZ .ret) .skip))) (.region a0S)))
def aOW:Rg:=[iF 68 1 1,iL 69 68,iK 70 55 69,iM 67 70,iE 71 67 0,iE 72 67 1,iA 5 (.alloc [(.bool false),.aB,.aB]),iS 3 5 71,iM 6 72]
def ZY:Rd:=[(iM 73 6,false),(iC 74 .neq 73 0,false),(iM 75 74,false),(gO 76 3 5 75 false,true),(iG 77 (.call 47 [(Ci 1)]) 75 false,true),(gK2 78 53 76 77 75 false,true),(iG 79 (.un .not (Tm 78)) 75 false,false),(iQ 80 75 79,false)]
def ZZ:Rg:=[iT 2 false]
def aOX:Rg:=[iM 81 3,iA 82 (.bHU 1 1 [(.bool false)] (Tm 81) (Tm 81)),iM 7 82]
def aOY:Rg:=[iI 8 0]
def aOZ:Rg:=[iM 83 8,iM 84 3,iB 85 .lss 83 84]
def aPA:Rg:=[iI 9 0]
def aPB:Rg:=[iM 88 9,iM 89 3,iB 90 .lss 88 89]
def aaA:Rg:=[iM 93 7,iM 94 9,iM 95 7,iM 96 9,iX 97 1 95 96,iL 98 97,iM 99 98,gF 100 3 1 99 false,gL 101 100 99 false,gM 102 9 99 false,iG 103 (.bIF 3 (Tm 101) (Tm 102)) 99 false,gO 104 3 103 99 false,gK 105 54 104 99 false,gC 106 .gtr 105 0 99 false,iQ 107 99 106,iX 108 1 93 94,iS 1 108 107]
def aaB:Rg:=[iI 10 0]
def aPC:Rg:=[iM 109 10,iM 110 3,iB 111 .lss 109 110]
def aaC:Rg:=[iM 114 7,iM 115 9,iM 116 7,iM 117 9,iX 118 1 116 117,iL 119 118,iM 120 119,gF 121 2 1 120 false,gL 122 121 120 false,gM 123 9 120 false,iG 124 (.bIF 1 (Tm 122) (Tm 123)) 120 false,gL 125 124 120 false,gM 126 10 120 false,iG 127 (.bIF 3 (Tm 125) (Tm 126)) 120 false,gO 128 3 127 120 false,gK 129 54 128 120 false,gC 130 .gtr 129 0 120 false,gM 131 130 120 false,gM 132 7 131 true,gM 133 10 131 true,iG 134 (.bIF 1 (Tm 132) (Tm 133)) 131 true,gL 135 134 131 true,iG 136 (.pick (Tm 131) (Tm 135) (.const (.bool false))) 120 false,iQ 137 120 136,iX 138 1 114 115,iS 1 138 137]
def KD:Rg:=[iM 112 10,iC 113 .add 112 1,iM 10 113]
def KC:aC:=(.seq (sq aPC (.cond (Tm 111) .skip (.exit 6))) (.seq (.block 7 (.region aaC)) (.region KD)))
def aaD:Rg:=[iM 91 9,iC 92 .add 91 1,iM 9 92]
def ZV:aC:=(.seq (sq aPB (.cond (Tm 90) .skip (.exit 4))) (.seq (.block 5 (sq aaA (sq aaB (.block 6 (.loop KC))))) (.region aaD)))
def aPD:Rg:=[iM 86 8,iC 87 .add 86 1,iM 8 87]
def ZW:aC:=(.seq (sq aOZ (.cond (Tm 85) .skip (.exit 2))) (.seq (.block 3 (sq aPA (.block 4 (.loop ZV)))) (.region aPD)))
def aPE:Rg:=[iI 11 0]
def aPF:Rg:=[iM 139 11,iM 140 3,iB 141 .lss 139 140]
def aaE:Rg:=[iM 144 7,iM 145 11,iX 146 1 144 145,iL 147 146,iA 148 (.un .not (Tm 147))]
def aPG:Rg:=[iT 2 false]
def aPH:Rg:=[iM 142 11,iC 143 .add 142 1,iM 11 143]
def ZX:aC:=(.seq (sq aPF (.cond (Tm 141) .skip (.exit 8))) (.seq (.block 9 (sq aaE (.cond (Tm 148) (sq aPG .ret) .skip))) (.region aPH)))
def aaF:Rg:=[iT 2 true]
def SC:aC:=(sq a0M (sq a0N (.seq (sq a0O (.cond (Tm 41) (sq wM .ret) .skip)) (.seq (sq a0P (.block 0 (.loop a0L))) (.seq (sq aOW (dq ZY (.cond (Tm 80) (sq ZZ .ret) .skip))) (sq aOX (.seq (sq aOY (.block 2 (.loop ZW))) (.seq (sq aPE (.block 8 (.loop ZX))) (sq aaF .ret)))))))))
def bqH:List Nat:=[1]
def aOV:aW:=⟨1,149,SC,[.tmp 2]⟩
def a0U:Rg:=[iT 4 false]
def a0V:Rg:=[iM 6 0,iM 7 1,iA 8 (.bIL true (Tm 7) (Ci 1)),iK2 9 75 6 8,iA 10 (.un .not (Tm 9))]
def a0W:Rg:=[iT 4 false]
def a0X:Rg:=[iI 5 0]
def a0Y:Rg:=[iM 11 5,iM 12 0,iN 13 12,iB 14 .lss 11 13]
def a0Z:Rg:=[iM 17 0,iM 18 5,iX 19 3 17 18,iO 20 3 19,iK 21 54 20,iC 22 .eql 21 0]
def a1A:Rg:=[iT 4 false]
def a1B:Rg:=[iM 15 5,iC 16 .add 15 1,iM 5 16]
def a0T:aC:=(.seq (sq a0Y (.cond (Tm 14) .skip (.exit 0))) (.seq (.block 1 (sq a0Z (.cond (Tm 22) (sq a1A .ret) .skip))) (.region a1B)))
def a1C:Rg:=[iT 4 true]
def SD:aC:=(sq a0U (.seq (sq a0V (.cond (Tm 10) (sq a0W .ret) .skip)) (.seq (sq a0X (.block 0 (.loop a0T))) (sq a1C .ret))))
def bqJ:List Nat:=[]
def aPI:aW:=⟨2,23,SD,[.tmp 4]⟩
def KX:Rg:=[iT 6 false]
def KY:Rg:=[iM 7 0,iM 8 1,iB 9 .geq 7 8,iM 10 9,gM 11 0 10 true,gM 12 2 10 true,gB 13 .leq 11 12 10 true,iP 14 10 13,iM 6 14]
def rT:aC:=(sq KX (sq KY .ret))
def a7E:List Nat:=[]
def wN:aW:=⟨3,15,rT,[.tmp 6]⟩
def axI:Rg:=[iT 12 false]
def axJ:Rg:=[iM 13 0,iC 14 .leq 13 4,iM 15 14,gM 16 1 15 true,gC 17 .leq 16 4 15 true,iP 18 15 17,iM 19 18,gM 20 2 19 true,gC 21 .leq 20 40 19 true,iP 22 19 21,iM 23 22,gM 24 3 23 true,gC 25 .leq 24 24 23 true,iP 26 23 25,iM 27 26,gM 28 4 27 true,gC 29 .leq 28 4 27 true,iP 30 27 29,iM 31 30,gM 32 5 31 true,gC 33 .leq 32 12 31 true,iP 34 31 33,iM 12 34]
def CN:aC:=(sq axI (sq axJ .ret))
def beG:List Nat:=[]
def SE:aW:=⟨6,35,CN,[.tmp 12]⟩
def WL:Rg:=[iA 7 (.box true (Tm 3)),iT 8 false]
def WM:Rg:=[iM 10 0,iM 11 1,iK2 12 61 10 11,iA 13 (.un .not (Tm 12)),iM 14 13,gM 15 2 14 false,gM 16 0 14 false,gM 17 0 14 false,gM 18 1 14 false,gB 19 .add 17 18 14 false,iG 20 (.call 76 [(Tm 15),(Tm 16),(Tm 19)]) 14 false,iG 21 (.un .not (Tm 20)) 14 false,iQ 22 14 21,iM 23 22,iG 24 (.idxA 5 1 (Tm 7) (Ci 0)) 23 false,gL 25 24 23 false,gC 26 .neq 25 0 23 false,iQ 27 23 26]
def tB:Rg:=[iT 8 false]
def WN:Rg:=[iI 9 1]
def WO:Rg:=[iM 28 9,iC 29 .lss 28 5]
def CM:Rg:=[iM 32 9,iA 33 (.idxA 5 1 (Tm 7) (Tm 32)),iL 34 33,iA 35 (.call 76 [(Tm 34),(Ci 0),(Ci 8)]),iA 36 (.un .not (Tm 35))]
def WP:Rg:=[iT 8 false]
def WQ:Rg:=[iM 30 9,iC 31 .add 30 1,iM 9 31]
def WK:aC:=(.seq (sq WO (.cond (Tm 29) .skip (.exit 0))) (.seq (.block 1 (sq CM (.cond (Tm 36) (sq WP .ret) .skip))) (.region WQ)))
def WR:Rg:=[iT 8 true]
def uH:aC:=(sq WL (.seq (sq WM (.cond (Tm 27) (sq tB .ret) .skip)) (.seq (sq WN (.block 0 (.loop WK))) (sq WR .ret))))
def aQY:List Nat:=[7]
def yE:aW:=⟨4,37,uH,[.tmp 8]⟩
def a0J:Rg:=[iA 6 (.box true (Tm 2)),iA 7 (.box true (Tm 3)),iT 8 false]
def a0K:Rd:=[(iM 9 1,false),(iM 10 0,false),(iK2 11 66 9 10,true),(iM 12 11,false),(gO 13 3 6 12 true,false),(gK 14 74 13 12 true,true),(iP 15 12 14,false),(iM 16 15,false),(iG 17 (.call 47 [(Ci 1)]) 16 true,true),(gO 18 3 6 16 true,true),(gK2 19 49 17 18 16 true,true),(iG 20 (.un .not (Tm 19)) 16 true,false),(iP 21 16 20,false),(iM 22 21,false),(gO 23 3 7 22 true,false),(gK 24 74 23 22 true,true),(iP 25 22 24,false),(iM 8 25,false)]
def RY:aC:=(sq a0J (dq a0K .ret))
def bqF:List Nat:=[6,7]
def aOT:aW:=⟨4,26,RY,[.tmp 8]⟩
def axC:Rg:=[iI 4 0]
def axD:Rg:=[iI 5 0]
def axE:Rg:=[iM 6 5,iM 7 0,iN 8 7,iB 9 .lss 6 8]
def SB:Rg:=[iM 12 0,iM 13 5,iX 14 1 12 13,iL 15 14,iM 16 1,iB 17 .eql 15 16]
def axF:Rg:=[iM 18 5,iM 4 18]
def axG:Rg:=[iM 10 5,iC 11 .add 10 1,iM 5 11]
def axB:aC:=(.seq (sq axE (.cond (Tm 9) .skip (.exit 0))) (.seq (.block 1 (sq SB (.cond (Tm 17) (sq axF .ret) .skip))) (.region axG)))
def axH:Rg:=[iI 4 (-1)]
def CL:aC:=(sq axC (.seq (sq axD (.block 0 (.loop axB))) (sq axH .ret)))
def beD:List Nat:=[]
def SA:aW:=⟨2,19,CL,[.tmp 4]⟩
def axM:Rg:=[iA 1 (.box true (Tm 0)),iT 2 false]
def axN:Rg:=[iF 22 0 1,iL 23 22,iA 24 (.call 76 [(Tm 23),(Ci 1),(Ci 4)]),iA 25 (.un .not (Tm 24)),iM 26 25,gF 27 1 1 26 false,gL 28 27 26 false,gN 29 28 26 false,gF 30 2 1 26 false,gL 31 30 26 false,gN 32 31 26 false,gF 33 3 1 26 false,gL 34 33 26 false,gN 35 34 26 false,gF 36 4 1 26 false,gL 37 36 26 false,gN 38 37 26 false,gF 39 5 1 26 false,gL 40 39 26 false,gN 41 40 26 false,gF 42 6 1 26 false,gL 43 42 26 false,gN 44 43 26 false,iG 45 (.call 73 [(Tm 29),(Tm 32),(Tm 35),(Tm 38),(Tm 41),(Tm 44)]) 26 false,iG 46 (.un .not (Tm 45)) 26 false,iQ 47 26 46,iM 48 47,gF 49 3 1 48 false,gL 50 49 48 false,gN 51 50 48 false,gC 52 .eql 51 0 48 false,iQ 53 48 52]
def zP:Rg:=[iT 2 false]
def axO:Rg:=[iZ 3,iZ 4,iZ 5,iZ 6,iZ 7]
def axP:Rg:=[iT 8 true]
def axQ:Rg:=[iI 9 0]
def axR:Rg:=[iM 54 9,iF 55 1 1,iL 56 55,iN 57 56,iB 58 .lss 54 57,iM 59 58,gM 60 8 59 true,iP 61 59 60]
def axS:Rg:=[iM 65 3,iF 66 1 1,iL 67 66,iM 68 9,iX 69 4 67 68,iF 70 0 69,iL 71 70,iK2 72 70 65 71,iM 64 72,iE 73 64 0,iE 74 64 1,iM 3 73,iM 8 74]
def SH:Rg:=[iM 75 8,iM 76 75,gF 77 1 1 76 true,gL 78 77 76 true,gM 79 9 76 true,iG 80 (.bIF 4 (Tm 78) (Tm 79)) 76 true,gO 81 4 80 76 true,gK 82 68 81 76 true,iP 83 76 82,iM 8 83]
def SI:Rg:=[iM 62 9,iC 63 .add 62 1,iM 9 63]
def KE:aC:=(.seq (sq axR (.cond (Tm 61) .skip (.exit 0))) (.seq (.block 1 (sq axS (.region SH))) (.region SI)))
def akC:Rg:=[iI 10 0]
def akD:Rg:=[iM 84 10,iF 85 2 1,iL 86 85,iN 87 86,iB 88 .lss 84 87,iM 89 88,gM 90 8 89 true,iP 91 89 90]
def akE:Rg:=[iF 94 2 1,iL 95 94,iM 96 10,iX 97 4 95 96,iO 98 4 97,iA 11 (.alloc [(.str []),(.int .i64 0),(.int .i64 0),(.int .i64 0)]),iS 4 11 98]
def akF:Rg:=[iM 100 4,iF 101 0 11,iL 102 101,iK2 103 70 100 102,iM 99 103,iE 104 99 0,iE 105 99 1,iM 4 104,iM 8 105]
def KH:Rg:=[iM 106 8,iM 107 106,gF 108 1 11 107 true,gL 109 108 107 true,iG 110 (.call 76 [(Tm 109),(Ci 1),(Ci 16)]) 107 true,iP 111 107 110,iM 112 111,gF 113 2 11 112 true,gL 114 113 112 true,iG 115 (.call 76 [(Tm 114),(Ci 1),(Ci 64)]) 112 true,iP 116 112 115,iM 117 116,gF 118 3 11 117 true,gL 119 118 117 true,gF 120 1 1 117 true,gL 121 120 117 true,gN 122 121 117 true,gC 123 .sub 122 1 117 true,iG 124 (.call 76 [(Tm 119),(Ci 0),(Tm 123)]) 117 true,iP 125 117 124,iM 8 125]
def rQ:Rg:=[iM 92 10,iC 93 .add 92 1,iM 10 93]
def KF:aC:=(.seq (sq akD (.cond (Tm 91) .skip (.exit 2))) (.seq (.block 3 (sq akE (sq akF (.region KH)))) (.region rQ)))
def akG:Rg:=[iF 126 3 1,iL 127 126,iA 128 (.bIF 7 (Tm 127) (Ci 0)),iO 129 7 128,iA 12 (.alloc [(.str []),(.int .i64 0),(.int .i64 0),(.int .i64 0),(.bool false),.aB,.aB]),iS 7 12 129]
def KI:Rg:=[iM 130 8,iM 131 130,gF 132 0 12 131 true,gL 133 132 131 true,iG 134 (.bin .eql (Tm 133) (.const (.str []))) 131 true,iP 135 131 134,iM 136 135,gF 137 1 12 136 true,gL 138 137 136 true,gC 139 .eql 138 0 136 true,iP 140 136 139,iM 141 140,gF 142 2 12 141 true,gL 143 142 141 true,gC 144 .eql 143 (-1) 141 true,iP 145 141 144,iM 146 145,gF 147 3 12 146 true,gL 148 147 146 true,gC 149 .eql 148 0 146 true,iP 150 146 149,iM 151 150,gF 152 4 12 151 true,gO 153 3 152 151 true,gK 154 56 153 151 true,iP 155 151 154,iM 156 155,gF 157 4 12 156 true,gO 158 3 157 156 true,gK 159 54 158 156 true,gC 160 .eql 159 0 156 true,iP 161 156 160,iM 8 161]
def KJ:Rg:=[iI 13 1]
def akH:Rg:=[iM 162 13,iF 163 3 1,iL 164 163,iN 165 164,iB 166 .lss 162 165,iM 167 166,gM 168 8 167 true,iP 169 167 168]
def akI:Rg:=[iF 172 3 1,iL 173 172,iM 174 13,iX 175 7 173 174,iO 176 7 175,iA 14 (.alloc [(.str []),(.int .i64 0),(.int .i64 0),(.int .i64 0),(.bool false),.aB,.aB]),iS 7 14 176]
def akJ:Rg:=[iM 178 5,iF 179 0 14,iL 180 179,iK2 181 70 178 180,iM 177 181,iE 182 177 0,iE 183 177 1,iM 5 182,iM 8 183]
def KK:Rd:=[(iM 184 8,false),(iM 185 184,false),(gF 186 1 14 185 true,false),(gL 187 186 185 true,false),(iG 188 (.call 76 [(Tm 187),(Ci 1),(Ci 4)]) 185 true,true),(iP 189 185 188,false),(iM 190 189,false),(gF 191 2 14 190 true,false),(gL 192 191 190 true,false),(gM 193 13 190 true,false),(gC 194 .sub 193 1 190 true,false),(iG 195 (.call 76 [(Tm 192),(Ci 0),(Tm 194)]) 190 true,true),(iP 196 190 195,false),(iM 197 196,false),(gF 198 3 1 197 true,false),(gL 199 198 197 true,false),(gF 200 2 14 197 true,false),(gL 201 200 197 true,false),(iG 202 (.bIF 7 (Tm 199) (Tm 201)) 197 true,false),(gF 203 1 202 197 true,false),(gL 204 203 197 true,false),(gF 205 1 14 197 true,false),(gL 206 205 197 true,false),(gC 207 .sub 206 1 197 true,false),(gB 208 .eql 204 207 197 true,false),(iP 209 197 208,false),(iM 210 209,false),(gF 211 3 14 210 true,false),(gL 212 211 210 true,false),(iG 213 (.call 76 [(Tm 212),(Ci 1),(Ci 64)]) 210 true,true),(iP 214 210 213,false),(iM 215 214,false),(gF 216 4 14 215 true,false),(gO 217 3 216 215 true,false),(gK 218 74 217 215 true,true),(iP 219 215 218,false),(iM 8 219,false)]
def mJ:Rg:=[iM 170 13,iC 171 .add 170 1,iM 13 171]
def vP:aC:=(.seq (sq akH (.cond (Tm 169) .skip (.exit 4))) (.seq (.block 5 (sq akI (sq akJ (.draw KK)))) (.region mJ)))
def KL:Rg:=[iI 15 0]
def akK:Rg:=[iM 220 15,iF 221 4 1,iL 222 221,iN 223 222,iB 224 .lss 220 223,iM 225 224,gM 226 8 225 true,iP 227 225 226]
def akL:Rg:=[iF 230 4 1,iL 231 230,iM 232 15,iX 233 3 231 232,iO 234 3 233,iA 16 (.alloc [(.str []),(.int .i64 0),(.int .i64 0)]),iS 3 16 234]
def akM:Rg:=[iM 236 5,iF 237 0 16,iL 238 237,iK2 239 70 236 238,iM 235 239,iE 240 235 0,iE 241 235 1,iM 5 240,iM 8 241]
def KM:Rg:=[iM 242 8,iM 243 242,gF 244 1 16 243 true,gL 245 244 243 true,gF 246 2 1 243 true,gL 247 246 243 true,gN 248 247 243 true,gC 249 .sub 248 1 243 true,iG 250 (.call 76 [(Tm 245),(Ci 0),(Tm 249)]) 243 true,iP 251 243 250,iM 252 251,gF 253 2 16 252 true,gL 254 253 252 true,gF 255 3 1 252 true,gL 256 255 252 true,gN 257 256 252 true,gC 258 .sub 257 1 252 true,iG 259 (.call 76 [(Tm 254),(Ci 0),(Tm 258)]) 252 true,iP 260 252 259,iM 261 260,gF 262 3 1 261 true,gL 263 262 261 true,gF 264 2 16 261 true,gL 265 264 261 true,iG 266 (.bIF 7 (Tm 263) (Tm 265)) 261 true,gF 267 1 266 261 true,gL 268 267 261 true,gC 269 .eql 268 4 261 true,iP 270 261 269,iM 8 270]
def rR:Rg:=[iM 228 15,iC 229 .add 228 1,iM 15 229]
def vQ:aC:=(.seq (sq akK (.cond (Tm 227) .skip (.exit 6))) (.seq (.block 7 (sq akL (sq akM (.region KM)))) (.region rR)))
def KN:Rg:=[iI 17 0]
def akN:Rg:=[iM 271 17,iF 272 5 1,iL 273 272,iN 274 273,iB 275 .lss 271 274,iM 276 275,gM 277 8 276 true,iP 278 276 277]
def akO:Rg:=[iF 281 5 1,iL 282 281,iM 283 17,iX 284 17 282 283,iO 285 17 284,iA 18 (.alloc [(.str []),(.int .i64 0),(.int .i64 0),(.int .i64 0),(.int .i64 0),(.int .i64 0),(.int .i64 0),(.int .i64 0),(.int .i64 0),.aB,.aB,(.bool false),.aB,.aB,(.bool false),.aB,.aB]),iS 17 18 285]
def akP:Rg:=[iM 287 6,iF 288 0 18,iL 289 288,iK2 290 70 287 289,iM 286 290,iE 291 286 0,iE 292 286 1,iM 6 291,iM 8 292]
def KO:Rg:=[iM 293 8,iM 294 293,gF 295 1 18 294 true,gL 296 295 294 true,gF 297 2 18 294 true,gL 298 297 294 true,gF 299 3 18 294 true,gL 300 299 294 true,gF 301 4 18 294 true,gO 302 5 301 294 true,iG 303 (.call 72 [(Tm 296),(Tm 298),(Tm 300),(Tm 302)]) 294 true,iP 304 294 303,iM 305 304,gF 306 2 18 305 true,gL 307 306 305 true,gF 308 10 18 305 true,gL 309 308 305 true,gF 310 11 18 305 true,gO 311 3 310 305 true,gF 312 14 18 305 true,gO 313 3 312 305 true,iG 314 (.call 69 [(Tm 307),(Tm 309),(Tm 311),(Tm 313)]) 305 true,iP 315 305 314,iM 316 315,gF 317 9 18 316 true,gL 318 317 316 true,gN 319 318 316 true,gC 320 .gtr 319 0 316 true,iP 321 316 320,iM 8 321]
def rS:Rg:=[iI 19 0]
def akQ:Rg:=[iM 322 19,iF 323 9 18,iL 324 323,iN 325 324,iB 326 .lss 322 325,iM 327 326,gM 328 8 327 true,iP 329 327 328]
def akR:Rd:=[(iF 332 9 18,false),(iL 333 332,false),(iM 334 19,false),(iX 335 1 333 334,false),(iL 336 335,false),(iF 337 2 1,false),(iL 338 337,false),(iN 339 338,false),(iC 340 .sub 339 1,false),(iA 341 (.call 76 [(Tm 336),(Ci 0),(Tm 340)]),true),(iM 8 341,false)]
def akS:Rg:=[iI 20 0]
def akT:Rg:=[iM 342 20,iM 343 19,iB 344 .lss 342 343]
def KP:Rd:=[(iM 347 8,false),(iM 348 347,false),(gF 349 9 18 348 true,false),(gL 350 349 348 true,false),(gM 351 20 348 true,false),(iG 352 (.bIF 1 (Tm 350) (Tm 351)) 348 true,false),(gL 353 352 348 true,false),(gF 354 9 18 348 true,false),(gL 355 354 348 true,false),(gM 356 19 348 true,false),(iG 357 (.bIF 1 (Tm 355) (Tm 356)) 348 true,false),(gL 358 357 348 true,false),(gB 359 .neq 353 358 348 true,false),(iP 360 348 359,false),(iM 8 360,false)]
def KQ:Rg:=[iM 345 20,iC 346 .add 345 1,iM 20 346]
def KG:aC:=(.seq (sq akT (.cond (Tm 344) .skip (.exit 12))) (.seq (.block 13 (.draw KP)) (.region KQ)))
def akU:Rg:=[iM 330 19,iC 331 .add 330 1,iM 19 331]
def vS:aC:=(.seq (sq akQ (.cond (Tm 329) .skip (.exit 10))) (.seq (.block 11 (dq akR (sq akS (.block 12 (.loop KG))))) (.region akU)))
def KR:Rg:=[iM 279 17,iC 280 .add 279 1,iM 17 280]
def vT:aC:=(.seq (sq akN (.cond (Tm 278) .skip (.exit 8))) (.seq (.block 9 (sq akO (sq akP (sq KO (sq rS (.block 10 (.loop vS))))))) (.region KR)))
def KT:Rg:=[iI 21 0]
def akV:Rg:=[iM 361 21,iF 362 6 1,iL 363 362,iN 364 363,iB 365 .lss 361 364,iM 366 365,gM 367 8 366 true,iP 368 366 367]
def akW:Rg:=[iM 372 7,iF 373 6 1,iL 374 373,iM 375 21,iX 376 2 374 375,iF 377 0 376,iL 378 377,iK2 379 70 372 378,iM 371 379,iE 380 371 0,iE 381 371 1,iM 7 380,iM 8 381]
def KU:Rd:=[(iM 382 8,false),(iM 383 382,false),(gF 384 6 1 383 true,false),(gL 385 384 383 true,false),(gM 386 21 383 true,false),(iG 387 (.bIF 2 (Tm 385) (Tm 386)) 383 true,false),(gF 388 1 387 383 true,false),(gL 389 388 383 true,false),(gF 390 5 1 383 true,false),(gL 391 390 383 true,false),(gN 392 391 383 true,false),(gC 393 .sub 392 1 383 true,false),(iG 394 (.call 76 [(Tm 389),(Ci 0),(Tm 393)]) 383 true,true),(iP 395 383 394,false),(iM 8 395,false)]
def KV:Rg:=[iM 369 21,iC 370 .add 369 1,iM 21 370]
def vW:aC:=(.seq (sq akV (.cond (Tm 368) .skip (.exit 14))) (.seq (.block 15 (sq akW (.draw KU))) (.region KV)))
def KW:Rg:=[iM 396 8,iM 2 396]
def CP:aC:=(sq axM (.seq (sq axN (.cond (Tm 53) (sq zP .ret) .skip)) (sq axO (sq axP (.seq (sq axQ (.block 0 (.loop KE))) (.seq (sq akC (.block 2 (.loop KF))) (sq akG (sq KI (.seq (sq KJ (.block 4 (.loop vP))) (.seq (sq KL (.block 6 (.loop vQ))) (.seq (sq KN (.block 8 (.loop vT))) (.seq (sq KT (.block 14 (.loop vW))) (sq KW .ret)))))))))))))
def beM:List Nat:=[1]
def SG:aW:=⟨1,397,CP,[.tmp 2]⟩
def awZ:Rg:=[iZ 4,iT 5 false]
def axA:Rg:=[iM 6 0,iM 7 1,iA 8 (.bHQ true 1 1 [(.str [])] [(0,(Tm 7))]),iA 9 (.append 1 16 (Tm 6) (Tm 8)),iM 10 1,iK 11 62 10,iM 12 11,gM 13 0 12 true,gM 14 1 12 true,gK2 15 71 13 14 12 true,gC 16 .lss 15 0 12 true,iP 17 12 16,iM 4 9,iM 5 17]
def CK:aC:=(sq awZ (sq axA .ret))
def beB:List Nat:=[8]
def RZ:aW:=⟨2,18,CK,[.tmp 4,.tmp 5]⟩
structure aaO (C:Ctx):Prop where
 val:∀ f:aJ,f.Ok→aD C 96 [.agg f.cells] .nil (aE (.int .i64 (pT f)))
 valid:∀ f:aJ,f.Ok→aD C 67 [.agg f.cells] .nil (aE (.bool (dM f)))
 shaped:∀ (f:aJ) (l:List (List Int)),f.Ok→eT l→aD C 153 [.agg f.cells,lay l] .nil (aE (.bool (gU f l)))
 rshaped:∀ (f:aJ) (l:List (List Int)),f.Ok→eT l→aD C 86 [.agg f.cells,lay l] .nil (aE (.bool (gU f l)))
theorem aPJ {C:Ctx} (Lb:aaO C) (f:aJ) (hf:f.Ok):sO.wp C (aU tY.res (aE (.int .i64 (pT f)))) (PF.args [.agg f.cells]) .nil:=by
 simp only[go_sem,γ,δ,ε,ζ,η,θ,ι,κ,μ,ν,ξ,ο,ρ,σ,τ,υ,reduceIte,reduceCtorEq,sO,SJ,SK,tY]
 refine aA (Lb.valid f hf) Ev ?_
 unfold pT
 cases dM f with
 | true =>
  simp only[go_sem,γ,δ,ε,ζ,η,θ,ι,κ,μ,ν,ξ,ο,ρ,σ,τ,υ,reduceIte,reduceCtorEq,bJV,SM]
  refine aL (.inr rfl) Ev ?_
  rfl
 | false =>
  simp only[go_sem,γ,δ,ε,ζ,η,θ,ι,κ,μ,ν,ξ,ο,ρ,σ,τ,υ,reduceIte,reduceCtorEq,bKD,SL]
  refine aL (.inr rfl) Ev ?_
  rfl
theorem a4J {C:Ctx} (Lb:aaO C) (f:aJ) (hf:f.Ok) (now:List (List Int)) (hl:eT now) (r:Int):xL.wp C (aU DO.res (aE (.bool (fJ f now r)))) (PF.args [.agg f.cells,lay now,.int .i64 r]) .nil:=by
 have hU:fJ f now r=((dM f&&gU f now)&&(decide (0≤r)&&decide (r≤4))):=rfl
 have hsh:=Lb.shaped f now hf hl
 have hvl:=Lb.val f hf
 unfold pT at hvl
 simp only[go_sem,γ,δ,ε,ζ,η,θ,ι,κ,μ,ν,ξ,ο,ρ,σ,τ,υ,reduceIte,reduceCtorEq,xL,afD,afE,DO]
 refine aA hvl Ev ?_
 cases hv:dM f with
 | false =>
  rw[hv] at hU
  simp only[go_sem,γ,δ,ε,ζ,η,θ,ι,κ,μ,ν,ξ,ο,ρ,σ,τ,υ,reduceIte,reduceCtorEq]
  refine aL (.inr rfl) Ev ?_
  rw[aT,hU]; rfl
 | true =>
  rw[hv] at hU
  simp only[go_sem,γ,δ,ε,ζ,η,θ,ι,κ,μ,ν,ξ,ο,ρ,σ,τ,υ,reduceIte,reduceCtorEq]
  refine aA hsh Ev ?_
  cases hs:gU f now with
  | false =>
   rw[hs] at hU
   simp only[go_sem,γ,δ,ε,ζ,η,θ,ι,κ,μ,ν,ξ,ο,ρ,σ,τ,υ,reduceIte,reduceCtorEq]
   refine aL (.inr rfl) Ev ?_
   rw[aT,hU]; rfl
  | true =>
   rw[hs,bKA,bKA] at hU
   by_cases c:0≤r
   ·rw[decide_eq_true c,bKA] at hU
    simp only[go_sem,γ,δ,ε,ζ,η,θ,ι,κ,μ,ν,ξ,ο,ρ,σ,τ,υ,reduceIte,reduceCtorEq,show r≥0 by omega]
    refine aL (.inr rfl) Ev ?_
    rw[aT,hU]
   ·rw[decide_eq_false c,bJU] at hU
    simp only[go_sem,γ,δ,ε,ζ,η,θ,ι,κ,μ,ν,ξ,ο,ρ,σ,τ,υ,reduceIte,reduceCtorEq,show ¬ r≥0 by omega]
    refine aL (.inr rfl) Ev ?_
    rw[aT,hU]
theorem a4L {C:Ctx} (Lb:aaO C) (hz:∀ f:aJ,f.Ok→aD C 258 [.agg f.cells] .nil (aE (.int .i64 (pT f)))) (f:aJ) (hf:f.Ok) (now:List (List Int)) (hl:eT now) (r:Int):xN.wp C (aU DP.res (aE (.bool (fJ f now r)))) (PF.args [.agg f.cells,lay now,.int .i64 r]) .nil:=by
 have hU:fJ f now r=((dM f&&gU f now)&&(decide (0≤r)&&decide (r≤4))):=rfl
 have hsh:=Lb.rshaped f now hf hl
 have hvl:=hz f hf
 unfold pT at hvl
 simp only[go_sem,γ,δ,ε,ζ,η,θ,ι,κ,μ,ν,ξ,ο,ρ,σ,τ,υ,reduceIte,reduceCtorEq,xN,afG,afH,DP]
 by_cases c:0≤r
 ·by_cases c4:r≤4
  ·rw[decide_eq_true c,decide_eq_true c4] at hU
   simp only[go_sem,γ,δ,ε,ζ,η,θ,ι,κ,μ,ν,ξ,ο,ρ,σ,τ,υ,reduceIte,reduceCtorEq,show r≥0 by omega,c4]
   refine aA hvl Ev ?_
   cases hv:dM f with
   | false =>
    rw[hv] at hU
    simp only[go_sem,γ,δ,ε,ζ,η,θ,ι,κ,μ,ν,ξ,ο,ρ,σ,τ,υ,reduceIte,reduceCtorEq]
    refine aL (.inr rfl) Ev ?_
    rw[aT,hU]; rfl
   | true =>
    rw[hv] at hU
    simp only[go_sem,γ,δ,ε,ζ,η,θ,ι,κ,μ,ν,ξ,ο,ρ,σ,τ,υ,reduceIte,reduceCtorEq]
    refine aA hsh Ev ?_
    simp only[go_sem,γ,δ,ε,ζ,η,θ,ι,κ,μ,ν,ξ,ο,ρ,σ,τ,υ,reduceIte,reduceCtorEq]
    refine aL (.inr rfl) Ev ?_
    rw[aT,hU]
    cases gU f now<;>rfl
  ·rw[decide_eq_false c4,bLA,bLA] at hU
   simp only[go_sem,γ,δ,ε,ζ,η,θ,ι,κ,μ,ν,ξ,ο,ρ,σ,τ,υ,reduceIte,reduceCtorEq,show r≥0 by omega,c4]
   refine aL (.inr rfl) Ev ?_
   rw[aT,hU]
 ·rw[decide_eq_false c,bJU,bLA] at hU
  simp only[go_sem,γ,δ,ε,ζ,η,θ,ι,κ,μ,ν,ξ,ο,ρ,σ,τ,υ,reduceIte,reduceCtorEq,show ¬ r≥0 by omega]
  refine aL (.inr rfl) Ev ?_
  rw[aT,hU]
theorem bvQ {C:Ctx} (f:aJ) (hV:VF f) (v:Nat) (h:v<f.bHM.length):anD.wp C (aU qk.res (aE (.int .i64 (cY f v).k))) (PF.args [.agg f.cells,.int .i64 v]) .nil:=by
 obtain⟨hp,he⟩:=nM hV h
 simp only[go_sem,γ,δ,ε,ζ,η,θ,ι,κ,μ,ν,ξ,ο,ρ,σ,τ,υ,reduceIte,reduceCtorEq,anD,bkQ,qk]
 refine bP .nil dX PH.nil_le ?_
 simp only[go_sem,γ,δ,ε,ζ,η,θ,ι,κ,μ,ν,ξ,ο,ρ,σ,τ,υ,reduceIte,reduceCtorEq,bkR,rN h,hV.PK h,mP hp,he]
 refine aL (.inr rfl) Ev ?_
 rfl
structure azB (C:Ctx):Prop where
 has:∀ (l:List Int) (x:Int),l.length≤1000000000000000→aD C 254 [ints l,.int .i64 x] .nil (aE (.bool (l.contains x)))
 k:∀ (f:aJ) (v:Nat),VF f→v<f.bHM.length→aD C 257 [.agg f.cells,.int .i64 v] .nil (aE (.int .i64 (cY f v).k))
theorem bhY {C:Ctx} (Lb:azB C) (f:aJ) (hV:VF f) (now:List (List Int)) (hl:eT now) (hlen:now.length=f.bHM.length) (r:Int) (h0:0≤r) (h4:r≤4) (down:List Int) (hd:down.length≤1000000000000000) :
  IB.wp C (aU afF.res (aE (.bool (fA f now r down)))) (PF.args [.agg f.cells,lay now,.int .i64 r,ints down]) .nil:=by
 have bHX:=hl.rows
 simp only[go_sem,γ,δ,ε,ζ,η,θ,ι,κ,μ,ν,ξ,ο,ρ,σ,τ,υ,reduceIte,reduceCtorEq,IB,aIU,aIV,afF]
 refine wp_loop (α:=Nat) (fun v=>(((((PF.nil.set 1 (lay now)).set 2 (.int .i64 r)).set 3 (ints down)).set 4 (.bH f.cells)).set 9 (.int .i64 v))) (fun _=>.nil) (fun v=>v≤now.length∧uS f now r down v=true) (fun v=>now.length-v) 0 ⟨bJY _,rfl⟩ Lq PH.nil_le ?_
 rintro v ⟨hv,hok⟩
 simp only[go_sem,γ,δ,ε,ζ,η,θ,ι,κ,μ,ν,ξ,ο,ρ,σ,τ,υ,reduceIte,reduceCtorEq,asN,aIW,bJO]
 by_cases hlt:v<now.length
 ·have bHR:(v:Int)<(now.length:Nat):=by omega
  have hat:(now.map fun r=>[ints r])[v]?=some [ints now[v]]:=by simp[hlt]
  have hgd:now.getD v []=now[v]:=by simp[bKH,hlt]
  have hrl:(now[v]).length≤16777216:=by
   have h1:=hl.all
   have h2:(now[v]).length≤now.flatten.length:=(List.sublist_flatten_of_mem (bJS hlt)).length_le
   omega
  obtain⟨hp,he⟩:=nM hV (Om:v<f.bHM.length)
  have hpol:=hV.bHY _ (bJS hp)
  rw[he] at hpol
  have hw:IntKind.i64.wrap ((cY f v).k+r)=(cY f v).k+r:=wrap_i64 Om Om
  have bIG:=acQ f now r down v
  rw[hok,bKA,hgd] at bIG
  have hno:=fun (h:tR f r down v now[v]=true)=>aBH (f:=f) (now:=now) (reserve:=r) (down:=down) hlt (by rw[hgd]; exact h)
  generalize now[v]=row at *
  simp only[go_sem,γ,δ,ε,ζ,η,θ,ι,κ,μ,ν,ξ,ο,ρ,σ,τ,υ,reduceIte,reduceCtorEq,bHR,aIX,aIY]
  refine wp_loop (α:=Nat) (fun k=>((((((((PF.nil.set 1 (lay now)).set 2 (.int .i64 r)).set 3 (ints down)).set 4 (.bH f.cells)).set 9 (.int .i64 v)).set 10 (.bool (sB down (row.take k)))).set 11 (.int .i64 (gD down (row.take k):Nat))).set 12 (.int .i64 k))) (fun _=>.nil) (fun k=>k≤row.length) (fun k=>row.length-k) 0 (bJY _) (by (repeat' (first|exact PF.nil_le|refine PF.aI ?_ ?_))<;>first|(simp only[go_sem,γ,δ,ε,ζ,η,θ,ι,κ,μ,ν,ξ,ο,ρ,σ,τ,υ,reduceIte,reduceCtorEq,List.take_zero,sB,gD,List.any_nil,List.countP_nil]<;>rfl)|rfl) PH.nil_le ?_
  intro k hk
  have hol:gD down (row.take k)≤row.length:=Nat.le_trans List.countP_le_length (by rw[bKG]; omega)
  simp only[go_sem,γ,δ,ε,ζ,η,θ,ι,κ,μ,ν,ξ,ο,ρ,σ,τ,υ,reduceIte,reduceCtorEq,asM,aIZ,hat,bJO]
  by_cases hkl:k<row.length
  ·have hkl':(k:Int)<(row.length:Nat):=by omega
   have hra:(row.map fun n=>[PV.int .i64 n])[k]?=some [.int .i64 row[k]]:=by simp[hkl]
   have hs1:=aqE (down:=down) hkl
   have hs2:=VM (down:=down) hkl
   by_cases c:row[k]<0
   ·have d1:kI down row[k]=false:=by unfold kI; rw[decide_eq_false Om]; rfl
    have d2:mD down row[k]=false:=by unfold mD; rw[decide_eq_false Om]; rfl
    rw[d1,Bool.or_false] at hs1
    rw[d2,if_neg (by simp),bLH] at hs2
    simp only[go_sem,γ,δ,ε,ζ,η,θ,ι,κ,μ,ν,ξ,ο,ρ,σ,τ,υ,reduceIte,reduceCtorEq,hkl',ZF,hat,hra,c,yY,wZz k]
    exact aG (k+1) hkl Om (by (repeat' (first|exact PF.nil_le|refine PF.aI ?_ ?_))<;>first|(simp only[go_sem,γ,δ,ε,ζ,η,θ,ι,κ,μ,ν,ξ,ο,ρ,σ,τ,υ,reduceIte,reduceCtorEq,hs1,hs2]<;>rfl)|rfl) PH.le_refl
   ·simp only[go_sem,γ,δ,ε,ζ,η,θ,ι,κ,μ,ν,ξ,ο,ρ,σ,τ,υ,reduceIte,reduceCtorEq,hkl',ZF,hat,hra,c,aJA]
    refine aA (Lb.has down row[k] hd) Ev ?_
    cases hc:down.contains row[k] with
    | true =>
     have d1:kI down row[k]=true:=by unfold kI; rw[decide_eq_true Om,hc]; rfl
     have d2:mD down row[k]=false:=by unfold mD; rw[hc]; simp
     rw[d1,Bool.or_true] at hs1
     rw[d2,if_neg (by simp),bLH] at hs2
     simp only[go_sem,γ,δ,ε,ζ,η,θ,ι,κ,μ,ν,ξ,ο,ρ,σ,τ,υ,reduceIte,reduceCtorEq,aJB,yY,wZz k]
     exact aG (k+1) hkl Om (by (repeat' (first|exact PF.nil_le|refine PF.aI ?_ ?_))<;>first|(simp only[go_sem,γ,δ,ε,ζ,η,θ,ι,κ,μ,ν,ξ,ο,ρ,σ,τ,υ,reduceIte,reduceCtorEq,hs1,hs2]<;>rfl)|rfl) PH.le_refl
    | false =>
     have d1:kI down row[k]=false:=by unfold kI; rw[hc]; simp
     have d2:mD down row[k]=true:=by unfold mD; rw[decide_eq_true Om,hc]; rfl
     rw[d1,Bool.or_false] at hs1
     rw[d2,if_pos rfl] at hs2
     simp only[go_sem,γ,δ,ε,ζ,η,θ,ι,κ,μ,ν,ξ,ο,ρ,σ,τ,υ,reduceIte,reduceCtorEq,aJC,dC (Om:gD down (row.take k)<9223372036854775807),yY,wZz k]
     exact aG (k+1) hkl Om (by (repeat' (first|exact PF.nil_le|refine PF.aI ?_ ?_))<;>first|(simp only[go_sem,γ,δ,ε,ζ,η,θ,ι,κ,μ,ν,ξ,ο,ρ,σ,τ,υ,reduceIte,reduceCtorEq,hs1,hs2]<;>rfl)|rfl) PH.le_refl
  ·have hkl':¬ (k:Int)<(row.length:Nat):=by omega
   have:k=row.length:=by omega
   subst this
   rw[bKL] at hol
   simp only[go_sem,γ,δ,ε,ζ,η,θ,ι,κ,μ,ν,ξ,ο,ρ,σ,τ,υ,reduceIte,reduceCtorEq,hkl',bKL,asO]
   have hsh:tR f r down v row=(sB down row&&decide (((gD down row:Nat):Int)<(cY f v).k+r)):=rfl
   cases hh:sB down row with
   | false =>
    rw[hh,bJU] at hsh
    rw[hsh] at bIG
    simp only[go_sem,γ,δ,ε,ζ,η,θ,ι,κ,μ,ν,ξ,ο,ρ,σ,τ,υ,reduceIte,reduceCtorEq,hh,PL,wZz v]
    exact aG (v+1) ⟨hlt,bIG⟩ Om Lq PH.nil_le
   | true =>
    rw[hh,bKA] at hsh
    simp only[go_sem,γ,δ,ε,ζ,η,θ,ι,κ,μ,ν,ξ,ο,ρ,σ,τ,υ,reduceIte,reduceCtorEq,hh]
    refine aA (Lb.k f v hV Om) Ev ?_
    by_cases c:((gD down row:Nat):Int)<(cY f v).k+r
    ·rw[decide_eq_true c] at hsh
     simp only[go_sem,γ,δ,ε,ζ,η,θ,ι,κ,μ,ν,ξ,ο,ρ,σ,τ,υ,reduceIte,reduceCtorEq,hw,c,asP]
     refine aL (.inr rfl) Ev ?_
     rw[aT]
     exact congrArg PV.bool (hno hsh).symm
    ·rw[decide_eq_false c] at hsh
     rw[hsh] at bIG
     simp only[go_sem,γ,δ,ε,ζ,η,θ,ι,κ,μ,ν,ξ,ο,ρ,σ,τ,υ,reduceIte,reduceCtorEq,hw,c,PL,wZz v]
     exact aG (v+1) ⟨hlt,bIG⟩ Om Lq PH.nil_le
 ·have bHR:¬ (v:Int)<(now.length:Nat):=by omega
  have:v=now.length:=by omega
  subst this
  simp only[go_sem,γ,δ,ε,ζ,η,θ,ι,κ,μ,ν,ξ,ο,ρ,σ,τ,υ,reduceIte,reduceCtorEq,bHR,asQ]
  refine aL (.inr rfl) Ev ?_
  rw[aT]
  exact congrArg PV.bool hok.symm
theorem gV {f:aJ} {now:List (List Int)} {r:Int} (h:fJ f now r=true):dM f=true∧now.length=f.bHM.length∧0≤r∧r≤4:=by
 unfold fJ at h
 simp only[bKM,decide_eq_true_eq] at h
 exact⟨h.1.1,a5B h.1.2,h.2.1,h.2.2⟩
theorem apL {p:Int→Bool}:∀ {l:List Int} {i:Nat},eW p l i=none→∀ x∈l,p x=false
 | [],_,_,x,hx=>by cases hx
 | y::l,i,h,x,hx=>by
  unfold eW at h
  cases hp:p y with
  | true=>rw[hp] at h; cases h
  | false =>
   rw[hp] at h
   rcases bKE.1 hx with rfl | hx
   ·exact hp
   ·exact apL (i:=i+1) (by simpa using h) x hx
theorem vG {f:aJ} {now:List (List Int)} {r:Int} (h:fJ f now r=true) {v:Nat} (hv:v<now.length) :
  (now.getD v []).length≤10∧(∀ d∈now.getD v [],d<(f.bHK.length:Int))∧1≤(cY f v).k∧(cY f v).k≤6∧0≤r∧r≤4:=by
 obtain⟨h1,h2,h3,h4⟩:=gV h
 have hV:=VF.of h1
 obtain⟨hp,he⟩:=nM hV (Om:v<f.bHM.length)
 have hpol:=hV.bHY _ (bJS hp)
 rw[he] at hpol
 unfold fJ gU at h
 simp only[bKM] at h
 have hs:=bKK.1 h.1.2.2 v (bKZ.2 hv)
 unfold lS at hs
 by_cases c:((now.getD v []).length:Int)=fB f v
 ·rw[if_pos c] at hs
  have hb:eW (jG f) (now.getD v []) 0=none:=by
   cases hfb:eW (jG f) (now.getD v []) 0 with
   | none=>rfl
   | some i=>rw[hfb] at hs; cases hs
  refine⟨?_,fun d hd=>?_,hpol.1,hpol.2.1,h3,h4⟩
  ·have:fB f v=(cY f v).k+(cY f v).m:=rfl
   omega
  ·have:=apL hb d hd
   unfold jG at this
   simp only[Bool.or_eq_false_iff,decide_eq_false_iff_not] at this
   omega
 ·rw[if_neg c] at hs
  cases hs
theorem XC {f:aJ} {now:List (List Int)} {r:Int} (hu:fJ f now r=true) (ha:lK f now r=true) {v:Nat} (hv:v<now.length) (hc:(bE (now.getD v [])).Nodup∧bE (now.getD v [])≠[]) :
  1≤(((bE (now.getD v [])).length:Nat):Int)-(cY f v).k-r:=by
 obtain⟨-,g1,g2,g3,g4,g5⟩:=vG hu hv
 obtain⟨d,hd⟩:=List.exists_mem_of_ne_nil _ hc.2
 have hd2:=List.mem_filter.1 hd
 have hd0:0≤d:=by simpa using hd2.2
 have hdn:=g1 d hd2.1
 have one:1≤inN [((d.toNat:Nat):Int)] (now.getD v []):=by
  unfold inN
  refine List.countP_pos_iff.2 ⟨d,hd2.1,?_⟩
  unfold kI
  rw[decide_eq_true hd0,Int.toNat_of_nonneg hd0]
  simp
 have hal:=bKK.1 ha d.toNat (bKZ.2 Om)
 rcases bmA hal (v:=v) hv hc.2 Om with e | e<;>omega
theorem UJ {row:List Int} {k:Nat} (h:k<row.length):bE (row.take (k+1))=bE (row.take k)++if 0≤row[k] then [row[k]] else []:=by
 unfold bE
 rw[bLL h,List.filter_append]
 congr 1
 by_cases c:0≤row[k]
 ·rw[if_pos c,List.filter_cons_of_pos (by simpa using c)]; rfl
 ·rw[if_neg c,List.filter_cons_of_neg (by simpa using c)]; rfl
theorem GZ (row:List Int):(bE row).length≤row.length:=List.length_filter_le ..
def zA (l:List Int):eU:=fun k=>match k with
 | [.int .i64 d]=>if l.contains d then some (.bool true) else none
 | _=>none
theorem bbE:zA []=(fun _=>none:eU):=by
 funext k
 unfold zA
 split<;>rfl
theorem bbF (l:List Int) (d:Int):eU.upd (zA l) [KS.int .i64 d] (.bool true)=zA (l++[d]):=by
 funext k
 unfold eU.upd
 by_cases c:k=[KS.int .i64 d]
 ·subst c
  rw[if_pos rfl]
  show _=if (l++[d]).contains d then some (PV.bool true) else none
  rw[if_pos (by simp)]
 ·rw[if_neg c]
  unfold zA
  split
  ·rename_i e
   have hne:¬ e=d:=fun h=>c (by rw[h])
   have:(l++[d]).contains e=l.contains e:=by
    rw[List.contains_eq_any_beq,List.contains_eq_any_beq,List.any_append]
    simp[hne]
   rw[this]
  ·rfl
def jT:List Int→List Int
 | []=>[]
 | x::xs=>if xs.contains x then jT xs else x::jT xs
theorem qK (y:Int):∀ l:List Int,y∈jT l↔y∈l
 | []=>Iff.rfl
 | x::xs=>by
  unfold jT
  split
  ·rename_i h
   rw[qK y xs,bKE]
   exact⟨.inr,fun h2=>h2.elim (fun e=>by rw[e]; exact bMN.1 h) id⟩
  ·rw[bKE,bKE,qK y xs]
theorem BT:∀ l:List Int,(jT l).Nodup
 | []=>.nil
 | x::xs=>by
  unfold jT
  split
  ·exact BT xs
  ·rename_i h
   refine List.nodup_cons.2 ⟨fun hm=>h ?_,BT xs⟩
   exact bMN.2 ((qK x xs).1 hm)
theorem ZO:∀ l:List Int,(jT l).length≤l.length
 | []=>bJQ _
 | x::xs=>by
  have:=ZO xs
  unfold jT
  split
  ·rw[bLG]; omega
  ·rw[bLG,bLG]; omega
theorem agW:∀ l:List Int,(jT l).length=l.length↔l.Nodup
 | []=>by simp[jT]
 | x::xs=>by
  have hle:=ZO xs
  have ih:=agW xs
  rw[List.nodup_cons]
  unfold jT
  split
  ·rename_i h
   rw[bLG]
   constructor
   ·intro e; omega
   ·intro e; exact absurd (bMN.1 h) e.1
  ·rename_i h
   rw[bLG,bLG,← ih]
   constructor
   ·intro e; exact⟨fun hm=>h (bMN.2 hm),by omega⟩
   ·intro e; omega
theorem a5A (l:List Int):(zA l).aAA=(jT l).length:=by
 rw[eU.aRF (ks:=(jT l).map fun d=>[KS.int .i64 d]),bJO]
 ·have:=BT l
  unfold List.Nodup at this ⊢
  rw[List.pairwise_map]
  exact this.imp fun h e=>h (by injection e with e; injection e)
 ·intro k
  rw[bKU]
  constructor
  ·rintro⟨d,hd,rfl⟩
   show (if l.contains d then some (PV.bool true) else none).isSome=true
   rw[if_pos (bMN.2 ((qK d l).1 hd))]
   rfl
  ·intro h
   unfold zA at h
   split at h
   ·rename_i d
    by_cases c:l.contains d=true
    ·exact⟨d,(qK d l).2 (bMN.1 c),rfl⟩
    ·rw[if_neg c] at h; cases h
   ·cases h
theorem a5P (l:List Int):(jT l).length=0↔l=[]:=by
 constructor
 ·intro h
  cases l with
  | nil=>rfl
  | cons x xs =>
   have:=(qK x (x::xs)).2 (by simp)
   rw[List.length_eq_zero_iff.1 h] at this
   cases this
 ·rintro rfl; rfl
theorem zR (f:aJ) (now:List (List Int)) (r:Int) (v:Nat):fR f now r (v+1)=max (fR f now r v) (ayG f r v (now.getD v [])):=rfl
theorem kM (f:aJ) (now:List (List Int)) (r:Int):∀ v,0≤fR f now r v
 | 0=>by unfold fR; omega
 | v+1=>by have:=kM f now r v; rw[zR]; omega
theorem zQ {f:aJ} {now:List (List Int)} {r:Int} {v:Nat} (h:¬ ((bE (now.getD v [])).Nodup∧bE (now.getD v [])≠[])):fR f now r (v+1)=fR f now r v:=by
 have:=kM f now r v
 rw[zR]
 unfold ayG
 rw[if_neg h]
 omega
theorem LW {f:aJ} {now:List (List Int)} {r:Int} {v:Nat} (h:(bE (now.getD v [])).Nodup∧bE (now.getD v [])≠[]) {n e:Int} (hn:n=((bE (now.getD v [])).length:Nat)) (he:e=n-(cY f v).k-r) :
  fR f now r (v+1)=if fR f now r v<bLF (n+e-1) e then bLF (n+e-1) e else fR f now r v:=by
 rw[zR]
 unfold ayG a3U
 rw[if_pos h,if_pos h,← hn,← he]
 split<;>omega
theorem qS {f:aJ} {now:List (List Int)} {r:Int} (hu:fJ f now r=true) (ha:lK f now r=true):∀ v,v≤now.length→fR f now r v≤100
 | 0,_=>by unfold fR; omega
 | v+1,hv=>by
  have ih:=qS hu ha v Om
  by_cases c:(bE (now.getD v [])).Nodup∧bE (now.getD v [])≠[]
  ·have h1:=XC hu ha (Om:v<now.length) c
   have h2:=(vG hu (Om:v<now.length)).1
   have h3:=GZ (now.getD v [])
   rw[LW c rfl rfl]
   generalize (((bE (now.getD v [])).length:Nat):Int)-(cY f v).k-r=e at *
   obtain⟨m,rfl⟩:=Int.eq_ofNat_of_zero_le (Om:0≤e)
   have:bLF ((((bE (now.getD v [])).length:Nat):Int)+(m:Int)-1) (m:Int)≤((10:Nat):Int):=blI Om (by
    have:10*1≤10*m:=bLT _ Om
    omega)
   split<;>omega
  ·rw[zQ c]; exact ih
def awC:Rg:=[iA 3 (.box true (Tm 0)),iI 6 0]
def awD:Rg:=[iO 8 7 3,iM 9 1,iM 10 2,iA 11 (.call 250 [(Tm 8),(Tm 9),(Tm 10)]),iA 12 (.un .not (Tm 11))]
def awE:Rg:=[iI 6 1]
def awF:Rg:=[iF 13 4 3,iL 14 13,iN 15 14,iI 16 0]
def awG:Rg:=[iB 17 .lss 16 15]
def awH:Rg:=[iM 18 16,iM 7 18]
def awI:Rg:=[iO 19 7 3,iM 20 1,iM 21 2,iM 22 7,iA 23 (.bHQ true 1 1 [(.int .i64 0)] [(0,(Tm 22))]),iA 24 (.call 251 [(Tm 19),(Tm 20),(Tm 21),(Tm 23)]),iA 25 (.un .not (Tm 24))]
def awJ:Rg:=[iI 6 116]
def awK:Rg:=[iC 26 .add 16 1,iM 16 26]
def awB:aC:=(sq awG (.seq (.cond (Tm 17) .skip (.exit 0)) (.seq (.block 1 (sq awH (sq awI (.cond (Tm 25) (sq awJ .ret) .skip)))) (.region awK))))
def aiT:Rg:=[iI 6 0]
def CF:aC:=(sq awC (.seq (sq awD (.cond (Tm 12) (sq awE .ret) .skip)) (.seq (sq awF (.block 0 (.loop awB))) (sq aiT .ret))))
def bdJ:List Nat:=[3,23]
def RU:aW:=⟨3,27,CF,[.tmp 6]⟩
def awN:Rg:=[iA 3 (.box true (Tm 0)),iZ 6,iI 7 0]
def awO:Rg:=[iO 13 7 3,iM 14 1,iM 15 2,iA 16 (.call 262 [(Tm 13),(Tm 14),(Tm 15)]),iM 8 16]
def RX:Rg:=[iM 17 8,iC 18 .neq 17 0]
def awP:Rg:=[iM 19 8,iZ 6,iM 7 19]
def awQ:Rg:=[iZ 9]
def awR:Rg:=[iF 20 4 3,iL 21 20,iN 22 21,iI 23 0]
def awS:Rg:=[iB 24 .lss 23 22]
def awT:Rg:=[iM 25 23,iM 10 25]
def awU:Rg:=[iM 26 9,iN 27 26,iI 28 0]
def awV:Rg:=[iB 29 .lss 28 27]
def ajL:Rg:=[iM 30 28,iX 31 1 26 28,iL 32 31,iM 11 30,iM 12 32]
def ajM:Rd:=[(iO 33 7 3,true),(iM 34 1,true),(iM 35 2,true),(iM 36 12,false),(iK 37 277 36,true),(iM 38 10,true),(iA 39 (.bHQ true 1 1 [(.int .i64 0)] [(0,(Tm 38))]),true),(iA 40 (.append 1 8 (Tm 37) (Tm 39)),true),(iA 41 (.call 251 [(Tm 33),(Tm 34),(Tm 35),(Tm 40)]),true)]
def ajN:Rg:=[iM 42 9,iM 43 11,iM 44 12,iM 45 10,iA 46 (.bHQ true 1 1 [(.int .i64 0)] [(0,(Tm 45))]),iA 47 (.append 1 8 (Tm 44) (Tm 46)),iX 48 1 42 43,iS 1 48 47]
def ajO:Rg:=[iC 49 .add 28 1,iM 28 49]
def ajJ:aC:=(sq awV (.seq (.cond (Tm 29) .skip (.exit 2)) (.seq (.block 3 (sq ajL (dq ajM (.cond (Tm 41) (sq ajN (.exit 1)) .skip)))) (.region ajO))))
def ajP:Rg:=[iM 50 9,iM 51 10,iA 52 (.bHQ false 1 1 [(.int .i64 0)] [(0,(Tm 51))]),iA 53 (.bHQ true 1 1 [.aB] [(0,(Tm 52))]),iA 54 (.append 1 24 (Tm 50) (Tm 53)),iM 9 54]
def JY:Rg:=[iC 55 .add 23 1,iM 23 55]
def ajK:aC:=(sq awS (.seq (.cond (Tm 24) .skip (.exit 0)) (.seq (.block 1 (sq awT (.seq (sq awU (.block 2 (.loop ajJ))) (.region ajP)))) (.region JY))))
def ajQ:Rg:=[iM 56 9,iM 6 56,iI 7 0]
def CJ:aC:=(sq awN (.seq (sq awO (sq RX (.cond (Tm 18) (sq awP .ret) .skip))) (sq awQ (.seq .skip (.seq (sq awR (.block 0 (.loop ajK))) (sq ajQ .ret))))))
def bdZ:List Nat:=[3,39,46,53]
def RW:aW:=⟨3,57,CJ,[.tmp 6,.tmp 7]⟩
def avS:Rg:=[iA 3 (.box true (Tm 0)),iI 6 0,iI 7 0]
def avT:Rg:=[iO 18 7 3,iM 19 1,iM 20 2,iA 21 (.call 262 [(Tm 18),(Tm 19),(Tm 20)]),iM 8 21]
def RT:Rg:=[iM 22 8,iC 23 .neq 22 0]
def avU:Rg:=[iM 24 8,iI 6 0,iM 7 24]
def avV:Rg:=[iF 25 4 3,iL 26 25,iN 27 26,iA 28 (.bIL false (Tm 27) (Ci 1)),iM 9 28]
def avW:Rg:=[iM 29 1,iN 30 29,iI 31 0]
def avX:Rg:=[iB 32 .lss 31 30]
def avY:Rg:=[iM 33 31,iX 34 1 29 31,iL 35 34,iM 10 33,iM 11 35]
def avZ:Rg:=[iA 36 (.bJG (false,[.int .i64])),iM 12 36]
def awA:Rg:=[iI 13 0]
def aiK:Rg:=[iM 37 11,iN 38 37,iI 39 0]
def aiL:Rg:=[iB 40 .lss 39 38]
def JV:Rg:=[iX 41 1 37 39,iL 42 41,iM 15 42]
def JW:Rg:=[iM 43 15,iC 44 .geq 43 0]
def aiM:Rg:=[iM 45 12,iM 46 15,⟨none,.bII (false,[.int .i64]) (Tm 45) (Tm 46) (.const (.bool true)),none⟩]
def aiN:Rg:=[iM 47 13,iC 48 .add 47 1,iM 13 48]
def JX:Rg:=[iC 49 .add 39 1,iM 39 49]
def aiI:aC:=(sq aiL (.seq (.cond (Tm 40) .skip (.exit 2)) (.seq (.block 3 (sq JV (sq JW (.cond (Tm 44) (sq aiM (.region aiN)) .skip)))) (.region JX))))
def aiO:Rg:=[iM 50 12,iA 51 (.lenM (Tm 50)),iM 16 51]
def aiP:Rg:=[iM 52 16,iC 53 .eql 52 0,iM 54 53,gM 55 16 54 false,gM 56 13 54 false,gB 57 .neq 55 56 54 false,iQ 58 54 57]
def aiQ:Rd:=[(iM 59 16,false),(iF 60 5 3,false),(iL 61 60,false),(iF 62 6 3,false),(iL 63 62,false),(iM 64 10,false),(iX 65 2 63 64,false),(iF 66 1 65,false),(iL 67 66,false),(iX 68 17 61 67,false),(iF 69 1 68,false),(iL 70 69,false),(iB 71 .sub 59 70,false),(iM 72 2,false),(iB 73 .sub 71 72,false),(iM 17 73,false)]
def aiR:Rg:=[iM 74 9,iM 75 16,iM 76 17,iB 77 .add 75 76,iC 78 .sub 77 1,iM 79 17,iB 80 .quo 78 79,iA 81 (.bIL true (Tm 74) (Tm 80)),iM 9 81]
def vN:Rg:=[iC 82 .add 31 1,iM 31 82]
def aiJ:aC:=(sq avX (.seq (.cond (Tm 32) .skip (.exit 0)) (.seq (.block 1 (sq avY (sq avZ (sq awA (.seq (sq aiK (.block 2 (.loop aiI))) (sq aiO (.seq (sq aiP (.cond (Tm 58) (.exit 1) .skip)) (dq aiQ (.region aiR))))))))) (.region vN))))
def aiS:Rg:=[iM 83 9,iM 6 83,iI 7 0]
def CE:aC:=(sq avS (.seq (sq avT (sq RT (.cond (Tm 23) (sq avU .ret) .skip))) (sq avV (.seq (sq avW (.block 0 (.loop aiJ))) (sq aiS .ret)))))
def bdH:List Nat:=[3]
def RS:aW:=⟨3,84,CE,[.tmp 6,.tmp 7]⟩
def bdN:Rg:=[iA 4 (.box true (Tm 0)),iT 8 false]
def bdO:Rg:=[iO 13 7 4,iM 14 1,iM 15 2,iA 16 (.call 250 [(Tm 13),(Tm 14),(Tm 15)]),iA 17 (.un .not (Tm 16))]
def bdP:Rg:=[iT 8 false]
def bdQ:Rg:=[iM 18 3,iK 19 178 18,iM 9 19]
def bdR:Rg:=[iM 20 9,iN 21 20,iF 22 4 4,iL 23 22,iN 24 23,iB 25 .neq 21 24]
def bdS:Rg:=[iT 8 false]
def bdT:Rg:=[iF 26 4 4,iL 27 26,iN 28 27,iI 29 0]
def bdU:Rg:=[iB 30 .lss 29 28]
def bdV:Rg:=[iM 31 29,iM 10 31]
def bdW:Rg:=[iM 32 9,iM 33 10,iK2 34 260 32 33,iA 35 (.un .not (Tm 34))]
def a6R:Rg:=[iT 8 false]
def a6S:Rg:=[iC 36 .add 29 1,iM 29 36]
def a6P:aC:=(sq bdU (.seq (.cond (Tm 30) .skip (.exit 0)) (.seq (.block 1 (sq bdV (sq bdW (.cond (Tm 35) (sq a6R .ret) .skip)))) (.region a6S))))
def a6T:Rg:=[iM 37 3,iN 38 37,iI 39 0]
def a6U:Rg:=[iB 40 .lss 39 38]
def a6V:Rg:=[iX 41 1 37 39,iL 42 41,iM 12 42]
def a6W:Rg:=[iM 43 12,iN 44 43,iC 45 .eql 44 0,iM 46 45,gO 47 7 4 46 false,gM 48 1 46 false,gM 49 2 46 false,gM 50 12 46 false,iG 51 (.call 251 [(Tm 47),(Tm 48),(Tm 49),(Tm 50)]) 46 false,iG 52 (.un .not (Tm 51)) 46 false,iQ 53 46 52]
def a6X:Rg:=[iT 8 false]
def a6Y:Rg:=[iC 54 .add 39 1,iM 39 54]
def a6Q:aC:=(sq a6U (.seq (.cond (Tm 40) .skip (.exit 2)) (.seq (.block 3 (sq a6V (sq a6W (.cond (Tm 53) (sq a6X .ret) .skip)))) (.region a6Y))))
def a6Z:Rg:=[iT 8 true]
def aQV:aC:=(sq bdN (.seq (sq bdO (.cond (Tm 17) (sq bdP .ret) .skip)) (sq bdQ (.seq (sq bdR (.cond (Tm 25) (sq bdS .ret) .skip)) (.seq (sq bdT (.block 0 (.loop a6P))) (.seq (sq a6T (.block 2 (.loop a6Q))) (sq a6Z .ret)))))))
def bdX:List Nat:=[4]
def aOR:aW:=⟨4,55,aQV,[.tmp 8]⟩
def aNC:Rg:=[iA 3 (.box true (Tm 0)),iI 6 0]
def aND:Rg:=[iO 8 7 3,iM 9 1,iM 10 2,iA 11 (.call 253 [(Tm 8),(Tm 9),(Tm 10)]),iA 12 (.un .not (Tm 11))]
def aNE:Rg:=[iI 6 1]
def aNF:Rg:=[iI 7 0]
def aNG:Rg:=[iM 13 7,iF 14 4 3,iL 15 14,iN 16 15,iB 17 .lss 13 16]
def aNH:Rg:=[iO 20 7 3,iM 21 1,iM 22 2,iM 23 7,iA 24 (.bHQ true 1 1 [(.int .i64 0)] [(0,(Tm 23))]),iA 25 (.call 255 [(Tm 20),(Tm 21),(Tm 22),(Tm 24)]),iA 26 (.un .not (Tm 25))]
def aNI:Rg:=[iI 6 116]
def aNJ:Rg:=[iM 18 7,iC 19 .add 18 1,iM 7 19]
def aNB:aC:=(.seq (sq aNG (.cond (Tm 17) .skip (.exit 0))) (.seq (.block 1 (sq aNH (.cond (Tm 26) (sq aNI .ret) .skip))) (.region aNJ)))
def aNK:Rg:=[iI 6 0]
def JI:aC:=(sq aNC (.seq (sq aND (.cond (Tm 12) (sq aNE .ret) .skip)) (.seq (sq aNF (.block 0 (.loop aNB))) (sq aNK .ret))))
def bjL:List Nat:=[3,24]
def ahD:aW:=⟨3,27,JI,[.tmp 6]⟩
def avJ:Rg:=[iA 3 (.box true (Tm 0)),iZ 6,iI 7 0]
def avK:Rg:=[iO 13 7 3,iM 14 1,iM 15 2,iA 16 (.call 266 [(Tm 13),(Tm 14),(Tm 15)]),iM 8 16]
def RP:Rg:=[iM 17 8,iC 18 .neq 17 0]
def avL:Rg:=[iM 19 8,iZ 6,iM 7 19]
def avM:Rg:=[iZ 9]
def avN:Rg:=[iI 10 0]
def avO:Rg:=[iM 20 10,iF 21 4 3,iL 22 21,iN 23 22,iB 24 .lss 20 23]
def avP:Rg:=[iI 11 (-1)]
def avQ:Rg:=[iI 12 0]
def avR:Rg:=[iM 27 12,iM 28 9,iN 29 28,iB 30 .lss 27 29,iM 31 30,gM 32 11 31 true,gC 33 .lss 32 0 31 true,iP 34 31 33]
def aiE:Rd:=[(iO 37 7 3,true),(iM 38 1,true),(iM 39 2,true),(iM 40 9,false),(iM 41 12,false),(iX 42 1 40 41,false),(iL 43 42,false),(iA 44 (.append 1 8 (.const .aB) (Tm 43)),true),(iM 45 10,true),(iA 46 (.bHQ true 1 1 [(.int .i64 0)] [(0,(Tm 45))]),true),(iA 47 (.append 1 8 (Tm 44) (Tm 46)),true),(iA 48 (.call 255 [(Tm 37),(Tm 38),(Tm 39),(Tm 47)]),true)]
def aiF:Rg:=[iM 49 12,iM 11 49]
def JS:Rg:=[iM 35 12,iC 36 .add 35 1,iM 12 36]
def aiC:aC:=(.seq (sq avR (.cond (Tm 34) .skip (.exit 2))) (.seq (.block 3 (dq aiE (.cond (Tm 48) (.region aiF) .skip))) (.region JS)))
def vL:Rg:=[iM 50 11,iC 51 .lss 50 0]
def aiG:Rg:=[iM 52 9,iA 53 (.bHQ true 1 1 [.aB] [(0,(.const .aB))]),iA 54 (.append 1 24 (Tm 52) (Tm 53)),iM 9 54]
def aiH:Rg:=[iM 55 9,iN 56 55,iC 57 .sub 56 1,iM 11 57]
def vM:Rg:=[iM 58 9,iM 59 11,iM 60 9,iM 61 11,iX 62 1 60 61,iL 63 62,iM 64 10,iA 65 (.bHQ true 1 1 [(.int .i64 0)] [(0,(Tm 64))]),iA 66 (.append 1 8 (Tm 63) (Tm 65)),iX 67 1 58 59,iS 1 67 66]
def JT:Rg:=[iM 25 10,iC 26 .add 25 1,iM 10 26]
def aiD:aC:=(.seq (sq avO (.cond (Tm 24) .skip (.exit 0))) (.seq (.block 1 (sq avP (.seq (sq avQ (.block 2 (.loop aiC))) (.seq (sq vL (.cond (Tm 51) (sq aiG (.region aiH)) .skip)) (.region vM))))) (.region JT)))
def JU:Rg:=[iM 68 9,iM 6 68,iI 7 0]
def CC:aC:=(sq avJ (.seq (sq avK (sq RP (.cond (Tm 18) (sq avL .ret) .skip))) (sq avM (.seq (sq avN (.block 0 (.loop aiD))) (sq JU .ret)))))
def bdF:List Nat:=[3,46,53,65]
def RN:aW:=⟨3,69,CC,[.tmp 6,.tmp 7]⟩
def auI:Rg:=[iA 3 (.box true (Tm 0)),iI 6 0,iI 7 0]
def auJ:Rg:=[iO 16 7 3,iM 17 1,iM 18 2,iA 19 (.call 266 [(Tm 16),(Tm 17),(Tm 18)]),iM 8 19]
def RG:Rg:=[iM 20 8,iC 21 .neq 20 0]
def auK:Rg:=[iM 22 8,iI 6 0,iM 7 22]
def auL:Rg:=[iF 23 4 3,iL 24 23,iN 25 24,iA 26 (.bIL false (Tm 25) (Ci 1)),iM 9 26]
def auM:Rg:=[iI 10 0]
def auN:Rg:=[iM 27 10,iM 28 1,iN 29 28,iB 30 .lss 27 29]
def auO:Rg:=[iZ 11]
def auP:Rg:=[iT 12 false]
def auQ:Rg:=[iI 13 0]
def ahG:Rg:=[iM 33 13,iM 34 1,iM 35 10,iX 36 1 34 35,iL 37 36,iN 38 37,iB 39 .lss 33 38]
def vH:Rg:=[iM 42 1,iM 43 10,iX 44 1 42 43,iL 45 44,iM 46 13,iX 47 1 45 46,iL 48 47,iC 49 .geq 48 0]
def JJ:Rg:=[iM 50 12,iM 51 50,gM 52 11 51 false,gM 53 1 51 false,gM 54 10 51 false,iG 55 (.bIF 1 (Tm 53) (Tm 54)) 51 false,gL 56 55 51 false,gM 57 13 51 false,iG 58 (.bIF 1 (Tm 56) (Tm 57)) 51 false,gL 59 58 51 false,gK2 60 254 52 59 51 false,iQ 61 51 60,iM 12 61]
def vI:Rg:=[iM 62 11,iM 63 1,iM 64 10,iX 65 1 63 64,iL 66 65,iM 67 13,iX 68 1 66 67,iL 69 68,iA 70 (.bHQ true 1 1 [(.int .i64 0)] [(0,(Tm 69))]),iA 71 (.append 1 8 (Tm 62) (Tm 70)),iM 11 71]
def rM:Rg:=[iM 40 13,iC 41 .add 40 1,iM 13 41]
def ahE:aC:=(.seq (sq ahG (.cond (Tm 39) .skip (.exit 2))) (.seq (.block 3 (sq vH (.cond (Tm 49) (sq JJ (.region vI)) .skip))) (.region rM)))
def ahH:Rg:=[iM 72 11,iN 73 72,iM 14 73]
def ahI:Rg:=[iM 74 12,iM 75 74,gM 76 14 75 false,gC 77 .eql 76 0 75 false,iQ 78 75 77]
def ahJ:Rg:=[iM 79 14,iO 80 7 3,iM 81 10,iK2 82 257 80 81,iB 83 .sub 79 82,iM 84 2,iB 85 .sub 83 84,iM 15 85]
def ahK:Rg:=[iM 86 9,iM 87 14,iM 88 15,iB 89 .add 87 88,iC 90 .sub 89 1,iM 91 15,iB 92 .quo 90 91,iA 93 (.bIL true (Tm 86) (Tm 92)),iM 9 93]
def vJ:Rg:=[iM 31 10,iC 32 .add 31 1,iM 10 32]
def ahF:aC:=(.seq (sq auN (.cond (Tm 30) .skip (.exit 0))) (.seq (.block 1 (sq auO (sq auP (.seq (sq auQ (.block 2 (.loop ahE))) (sq ahH (.seq (sq ahI (.cond (Tm 78) (.exit 1) .skip)) (sq ahJ (.region ahK)))))))) (.region vJ)))
def ahL:Rg:=[iM 94 9,iM 6 94,iI 7 0]
def BW:aC:=(sq auI (.seq (sq auJ (sq RG (.cond (Tm 21) (sq auK .ret) .skip))) (sq auL (.seq (sq auM (.block 0 (.loop ahF))) (sq ahL .ret)))))
def bcK:List Nat:=[3,70]
def RE:aW:=⟨3,95,BW,[.tmp 6,.tmp 7]⟩
def bcP:Rg:=[iA 4 (.box true (Tm 0)),iT 8 false]
def bcQ:Rg:=[iO 13 7 4,iM 14 1,iM 15 2,iA 16 (.call 253 [(Tm 13),(Tm 14),(Tm 15)]),iA 17 (.un .not (Tm 16))]
def bcR:Rg:=[iT 8 false]
def bcS:Rg:=[iZ 9]
def bcT:Rg:=[iI 10 0]
def bcU:Rg:=[iM 18 10,iM 19 3,iN 20 19,iB 21 .lss 18 20]
def bcV:Rg:=[iI 11 0]
def bcW:Rg:=[iM 24 11,iM 25 3,iM 26 10,iX 27 1 25 26,iL 28 27,iN 29 28,iB 30 .lss 24 29]
def bcX:Rg:=[iM 33 3,iM 34 10,iX 35 1 33 34,iL 36 35,iM 37 11,iX 38 1 36 37,iL 39 38,iM 12 39]
def bcY:Rg:=[iM 40 12,iC 41 .lss 40 0,iM 42 41,gM 43 12 42 false,gF 44 4 4 42 false,gL 45 44 42 false,gN 46 45 42 false,gB 47 .geq 43 46 42 false,iQ 48 42 47,iM 49 48,gM 50 9 49 false,gM 51 12 49 false,gK2 52 254 50 51 49 false,iQ 53 49 52]
def a6B:Rg:=[iT 8 false]
def a6C:Rg:=[iM 54 9,iM 55 12,iA 56 (.bHQ true 1 1 [(.int .i64 0)] [(0,(Tm 55))]),iA 57 (.append 1 8 (Tm 54) (Tm 56)),iM 9 57]
def a6D:Rg:=[iM 31 11,iC 32 .add 31 1,iM 11 32]
def a5Z:aC:=(.seq (sq bcW (.cond (Tm 30) .skip (.exit 2))) (.seq (.block 3 (sq bcX (.seq (sq bcY (.cond (Tm 53) (sq a6B .ret) .skip)) (.region a6C)))) (.region a6D)))
def a6E:Rd:=[(iM 58 3,false),(iM 59 10,false),(iX 60 1 58 59,false),(iL 61 60,false),(iN 62 61,false),(iC 63 .eql 62 0,false),(iM 64 63,false),(gO 65 7 4 64 false,false),(gM 66 1 64 false,false),(gM 67 2 64 false,false),(gM 68 3 64 false,false),(gM 69 10 64 false,false),(iG 70 (.bIF 1 (Tm 68) (Tm 69)) 64 false,false),(gL 71 70 64 false,false),(iG 72 (.call 255 [(Tm 65),(Tm 66),(Tm 67),(Tm 71)]) 64 false,true),(iG 73 (.un .not (Tm 72)) 64 false,false),(iQ 74 64 73,false)]
def a6F:Rg:=[iT 8 false]
def a6G:Rg:=[iM 22 10,iC 23 .add 22 1,iM 10 23]
def a6A:aC:=(.seq (sq bcU (.cond (Tm 21) .skip (.exit 0))) (.seq (.block 1 (.seq (sq bcV (.block 2 (.loop a5Z))) (dq a6E (.cond (Tm 74) (sq a6F .ret) .skip)))) (.region a6G)))
def a6H:Rg:=[iM 75 9,iN 76 75,iF 77 4 4,iL 78 77,iN 79 78,iB 80 .eql 76 79,iM 8 80]
def aQR:aC:=(sq bcP (.seq (sq bcQ (.cond (Tm 17) (sq bcR .ret) .skip)) (sq bcS (.seq (sq bcT (.block 0 (.loop a6A))) (sq a6H .ret)))))
def bcZ:List Nat:=[4,56]
def aOE:aW:=⟨4,81,aQR,[.tmp 8]⟩
def aJU:Rg:=[iT 4 false]
def aJV:Rg:=[iM 7 0,iN 8 7,iM 9 1,iN 10 9,iB 11 .neq 8 10]
def aJW:Rg:=[iT 4 false]
def aJX:Rg:=[iI 5 0]
def aJY:Rg:=[iM 12 5,iM 13 0,iN 14 13,iB 15 .lss 12 14]
def aJZ:Rd:=[(iM 18 0,false),(iM 19 5,false),(iX 20 1 18 19,false),(iL 21 20,false),(iN 22 21,false),(iM 23 1,false),(iM 24 5,false),(iX 25 1 23 24,false),(iL 26 25,false),(iN 27 26,false),(iB 28 .neq 22 27,false)]
def aKA:Rg:=[iT 4 false]
def aKB:Rg:=[iI 6 0]
def aKC:Rg:=[iM 29 6,iM 30 0,iM 31 5,iX 32 1 30 31,iL 33 32,iN 34 33,iB 35 .lss 29 34]
def aKD:Rd:=[(iM 38 0,false),(iM 39 5,false),(iX 40 1 38 39,false),(iL 41 40,false),(iM 42 6,false),(iX 43 1 41 42,false),(iL 44 43,false),(iM 45 1,false),(iM 46 5,false),(iX 47 1 45 46,false),(iL 48 47,false),(iM 49 6,false),(iX 50 1 48 49,false),(iL 51 50,false),(iB 52 .neq 44 51,false)]
def asV:Rg:=[iT 4 false]
def asW:Rg:=[iM 36 6,iC 37 .add 36 1,iM 6 37]
def asT:aC:=(.seq (sq aKC (.cond (Tm 35) .skip (.exit 2))) (.seq (.block 3 (dq aKD (.cond (Tm 52) (sq asV .ret) .skip))) (.region asW)))
def asX:Rg:=[iM 16 5,iC 17 .add 16 1,iM 5 17]
def asU:aC:=(.seq (sq aJY (.cond (Tm 15) .skip (.exit 0))) (.seq (.block 1 (.seq (dq aJZ (.cond (Tm 28) (sq aKA .ret) .skip)) (sq aKB (.block 2 (.loop asT))))) (.region asX)))
def asY:Rg:=[iT 4 true]
def IF:aC:=(sq aJU (.seq (sq aJV (.cond (Tm 11) (sq aJW .ret) .skip)) (.seq (sq aJX (.block 0 (.loop asU))) (sq asY .ret))))
def biH:List Nat:=[]
def afM:aW:=⟨2,53,IF,[.tmp 4]⟩
def arT:Rg:=[iZ 2]
def arU:Rg:=[iM 3 0,iA 4 (.isNil false (Tm 3))]
def baJ:Rg:=[iZ 2]
def arV:Rg:=[iA 5 (.bHQ false 1 0 [(.int .i64 0)] []),iM 6 0,iA 7 (.append 1 8 (Tm 5) (Tm 6)),iM 2 7]
def BA:aC:=(sq arT (.seq (sq arU (.cond (Tm 4) (sq baJ .ret) .skip)) (sq arV .ret)))
def baK:List Nat:=[]
def PA:aW:=⟨1,8,BA,[.tmp 2]⟩
def aPW:Rg:=[iZ 4]
def aPX:Rg:=[iZ 5]
def aPY:Rg:=[iI 6 0]
def aPZ:Rg:=[iM 7 6,iM 8 0,iN 9 8,iB 10 .lss 7 9]
def aQA:Rg:=[iM 13 0,iM 14 6,iX 15 1 13 14,iL 16 15,iM 17 1,iB 18 .neq 16 17]
def aQB:Rg:=[iM 19 5,iM 20 0,iM 21 6,iX 22 1 20 21,iL 23 22,iA 24 (.bHQ true 1 1 [(.int .i64 0)] [(0,(Tm 23))]),iA 25 (.append 1 8 (Tm 19) (Tm 24)),iM 5 25]
def aQC:Rg:=[iM 11 6,iC 12 .add 11 1,iM 6 12]
def aPV:aC:=(.seq (sq aPZ (.cond (Tm 10) .skip (.exit 0))) (.seq (.block 1 (sq aQA (.cond (Tm 18) (.region aQB) .skip))) (.region aQC)))
def aQD:Rg:=[iM 26 5,iM 4 26]
def axV:aC:=(sq aPW (sq aPX (.seq (sq aPY (.block 0 (.loop aPV))) (sq aQD .ret))))
def aQE:List Nat:=[24]
def YG:aW:=⟨2,27,axV,[.tmp 4]⟩
def aqP:Rg:=[iT 6 false]
def aqQ:Rg:=[iM 21 0,iK 22 249 21,iM 20 22,iE 23 20 0,iE 24 20 1,iA 7 (.alloc [(.int .i64 0),.aB,.aB,.aB,.aB,.aB,.aB,.aB,.aB]),iS 9 7 23,iM 8 24]
def NQ:Rg:=[iM 25 1,iM 9 25]
def NR:Rg:=[iM 26 2,iA 27 (.un .not (Tm 26))]
def aqR:Rg:=[iM 28 1,iA 29 (.call 24 [(Tm 28),(Ci 3)]),iM 9 29]
def NS:Rg:=[iF 31 0 7,iO 32 7 31,iF 33 7 7,iL 34 33,iM 35 9,iA 36 (.call 263 [(Tm 32),(Tm 34),(Tm 35)]),iM 30 36,iE 37 30 0,iE 38 30 1,iM 10 37,iM 11 38]
def NT:Rg:=[iF 40 0 7,iO 41 7 40,iF 42 7 7,iL 43 42,iM 44 9,iA 45 (.call 267 [(Tm 41),(Tm 43),(Tm 44)]),iM 39 45,iE 46 39 0,iE 47 39 1,iM 12 46,iM 13 47]
def NU:Rg:=[iF 49 0 7,iO 50 7 49,iF 51 7 7,iL 52 51,iM 53 9,iA 54 (.call 264 [(Tm 50),(Tm 52),(Tm 53)]),iM 48 54,iE 55 48 0,iE 56 48 1,iM 14 55,iM 15 56]
def NV:Rg:=[iF 58 0 7,iO 59 7 58,iF 60 7 7,iL 61 60,iM 62 9,iA 63 (.call 268 [(Tm 59),(Tm 61),(Tm 62)]),iM 57 63,iE 64 57 0,iE 65 57 1,iM 16 64,iM 17 65]
def NW:Rg:=[iA 67 (.build [(.int .i64 0),.aB,.aB,.aB,.aB,.aB,.aB] []),iF 68 7 7,iL 69 68,iM 70 9,iA 71 (.call 263 [(Tm 67),(Tm 69),(Tm 70)]),iM 66 71,iE 72 66 0,iE 73 66 1,iM 18 72,iM 19 73]
def HI:Rg:=[iA 74 (.call 26 []),iM 75 74,gM 76 10 75 true,gM 77 12 75 true,gK2 78 270 76 77 75 true,iP 79 75 78,iM 80 79,gM 81 11 80 true,gM 82 13 80 true,gB 83 .eql 81 82 80 true,iP 84 80 83,iM 85 84,gM 86 14 85 true,gM 87 16 85 true,gB 88 .eql 86 87 85 true,iP 89 85 88,iM 90 89,gM 91 15 90 true,gM 92 17 90 true,gB 93 .eql 91 92 90 true,iP 94 90 93,iM 95 94,gM 96 19 95 true,gC 97 .eql 96 1 95 true,iP 98 95 97,iM 6 98]
def AI:aC:=(sq aqP (sq aqQ (sq NQ (.seq (sq NR (.cond (Tm 27) (.region aqR) .skip)) (sq NS (sq NT (sq NU (sq NV (sq NW (sq HI .ret))))))))))
def a9E:List Nat:=[]
def NP:aW:=⟨3,99,AI,[.tmp 6]⟩
end Go.PM
