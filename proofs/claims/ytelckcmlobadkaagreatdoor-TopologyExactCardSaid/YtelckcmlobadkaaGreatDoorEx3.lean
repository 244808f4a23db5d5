/-
  Texts of ours, joined: FlCode Pm33 FlW1 FlPlain FlW2 FlW3 FlW4 FlW5 FlW6 FlW7 FlW8 FlW9 ToPlain ToCode ToW1 ToW2 Pm34 ToW3 ToW4 ToW5 ToW6 ToW7 ToW8 ToW9 ToW10 MkCode R1Code R1W1 R1W2 R1W3 R1W4. No condition.
-/
import Derived.Test.YtelckcmlobadkaaGreatDoorEx1
import Derived.Test.YtelckcmlobadkaaGreatDoorEx2

set_option linter.unusedSimpArgs false
set_option linter.unusedVariables false
open Nat renaming reduceEqDiff → γ, reduceAdd → δ, reduceSub → ε, reduceMul → ζ, reduceLT → η, reduceLeDiff → θ, reduceBEq → τ
open Int renaming reduceLT → ι, reduceLE → κ, reduceEq → μ, reduceToNat → ν, reduceAdd → ξ, reduceNeg → ο, reduceBEq → ρ, reduceBNe → σ
open List renaming reduceReplicate → υ
open List renaming length_map → bJT, range → bJU, length_append → bJX, replicate → bJY, getElem_mem → bJZ, length_singleton → bKD, getElem?_eq_getElem → bKG, mem_cons → bKI, getD_eq_getElem?_getD → bKK, take_of_length_le → bKL, length_take → bKN, all_eq_true → bKP, not_mem_nil → bKR, take_length → bKU, append_assoc → bKV, drop_zero → bKY, mem_map → bLA, getElem?_map → bLC, getElem?_eq_some_iff → bLD, map_cons → bLF, getElem?_eq_none → bLH, getElem_map → bLI, getElem_of_mem → bLJ, append_nil → bLK, mem_range → bLN, drop_eq_getElem_cons → bLO, mem_append → bLQ, Sublist → bLR, length_drop → bLS, map_append → bLT, take_succ_eq_append_getElem → bLY, length_nil → bMD, map_nil → bME, length_set → bMG, length_cons → bMH, mem_of_getElem? → bMI, getElem?_append_left → bMK, take_append_drop → bML, nodup_append → bMM, ext_getElem → bMR, getElem?_append_right → bMS, getElem?_take → bMU, set_append_right → bMV, drop_of_length_le → bNB
open Nat renaming gcd → bJV, zero_le → bKA, le_refl → bKB, mul_add → bKH, lt_or_ge → bKO, mul_assoc → bKQ, zero_add → bKS, mul_comm → bKT, add_mul → bKW, mul_le_mul_right → bKX, mod_eq_of_lt → bLB, mod_lt → bLG, pow_succ → bLL, add_zero → bLP, eq_zero_or_pos → bLU, le_trans → bLV, min_eq_left → bLW, add_assoc → bLZ, mul_le_mul_left → bMA, pos_of_ne_zero → bMB, pow_pos → bMJ, div_lt_iff_lt_mul → bMN, div_le_self → bMT, div_add_mod → bMW, div_eq_of_lt → bMX
open Bool renaming not_true → bJW, false_and → bKC, not_false → bKF, true_and → bKJ, and_eq_true → bKM, and_false → bLE, and_true → bMF, and_assoc → bMP, false_eq_true → bNA
open Option renaming map_eq_some_iff → bKE, map_some → bKZ, getD_some → bLX, some → bMC, bind_eq_some_iff → bMY, bind_some → bNC
open Array renaming replicate → bLM, length_toList → bMO, getElem?_eq_getElem → bMZ, getElem?_eq_some_iff → bND
open Int renaming toNat_natCast → bMQ
namespace Go.PM
open Go
def pD:Rg:=[iT 2 false]
def pE:Rg:=[iM 3 0,iA 4 (.bin .geq (Tm 3) (.const (.int .u8 97))),iM 5 4,gM 6 0 5 true,iG 7 (.bin .leq (Tm 6) (.const (.int .u8 122))) 5 true,iP 8 5 7,iM 9 8,gM 10 0 9 false,iG 11 (.bin .geq (Tm 10) (.const (.int .u8 65))) 9 false,gM 12 11 9 false,gM 13 0 12 true,iG 14 (.bin .leq (Tm 13) (.const (.int .u8 90))) 12 true,iG 15 (.pick (Tm 12) (Tm 14) (.const (.bool false))) 9 false,iQ 16 9 15,iM 2 16]
def kY:aB:=(sq pD (sq pE .ret))
def a6H:List Nat:=[]
def EB:aS:=⟨1,17,kY,[.tmp 2]⟩
def zM:Rg:=[iT 2 false]
def zN:Rg:=[iM 3 0,iA 4 (.bin .geq (Tm 3) (.const (.int .u8 48))),iM 5 4,gM 6 0 5 true,iG 7 (.bin .leq (Tm 6) (.const (.int .u8 57))) 5 true,iP 8 5 7,iM 2 8]
def pW:aB:=(sq zM (sq zN .ret))
def bcY:List Nat:=[]
def MW:aS:=⟨1,9,pW,[.tmp 2]⟩
def aoU:Rg:=[iT 2 false]
def aoV:Rg:=[iM 3 0,iK 4 126 3,iM 5 4,gM 6 0 5 false,gK 7 124 6 5 false,iQ 8 5 7,iM 9 8,gM 10 0 9 false,iG 11 (.bin .eql (Tm 10) (.const (.int .u8 45))) 9 false,iQ 12 9 11,iM 13 12,gM 14 0 13 false,iG 15 (.bin .eql (Tm 14) (.const (.int .u8 46))) 13 false,iQ 16 13 15,iM 2 16]
def BE:aB:=(sq aoU (sq aoV .ret))
def bdG:List Nat:=[]
def NA:aS:=⟨1,17,BE,[.tmp 2]⟩
def GH:Rg:=[iT 2 false]
def GI:Rg:=[iM 4 0,iA 5 (.bin .eql (Tm 4) (.const (.str []))),iM 6 5,gM 7 0 6 false,iG 8 (.bIX (Tm 7)) 6 false,gC 9 .gtr 8 16 6 false,iQ 10 6 9,iM 11 10,gM 12 0 11 false,iG 13 (.bIY (Tm 12) (Ci 0)) 11 false,gK 14 126 13 11 false,iG 15 (.un .not (Tm 14)) 11 false,iQ 16 11 15]
def GJ:Rg:=[iT 2 false]
def aFT:Rg:=[iI 3 0]
def aFU:Rg:=[iM 17 3,iM 18 0,iA 19 (.bIX (Tm 18)),iB 20 .lss 17 19]
def aFV:Rg:=[iM 23 0,iM 24 3,iA 25 (.bIY (Tm 23) (Tm 24)),iK 26 125 25,iA 27 (.un .not (Tm 26))]
def aFW:Rg:=[iT 2 false]
def aFX:Rg:=[iM 21 3,iC 22 .add 21 1,iM 3 22]
def aFS:aB:=(.seq (sq aFU (.cond (Tm 20) .skip (.exit 0))) (.seq (.block 1 (sq aFV (.cond (Tm 27) (sq aFW .ret) .skip))) (.region aFX)))
def aFY:Rg:=[iT 2 true]
def rZ:aB:=(sq GH (.seq (sq GI (.cond (Tm 16) (sq GJ .ret) .skip)) (.seq (sq aFT (.block 0 (.loop aFS))) (sq aFY .ret))))
def bmA:List Nat:=[]
def acI:aS:=⟨1,28,rZ,[.tmp 2]⟩
def abU:Rg:=[iT 6 false]
def abV:Rg:=[iM 7 0,iM 8 1,iB 9 .geq 7 8,iM 10 9,gM 11 0 10 true,gM 12 2 10 true,gB 13 .leq 11 12 10 true,iP 14 10 13,iM 6 14]
def xW:aB:=(sq abU (sq abV .ret))
def bwT:List Nat:=[]
def gin:aS:=⟨3,15,xW,[.tmp 6]⟩
def anQ:Rg:=[iA 1 (.box true (Tm 0)),iT 2 false]
def anR:Rg:=[iF 3 1 1,iL 4 3,iK 5 128 4,iC 6 .gtr 5 0,iM 2 6]
def AX:aB:=(sq anQ (sq anR .ret))
def bcG:List Nat:=[1]
def abS:aS:=⟨1,7,AX,[.tmp 2]⟩
def aVP:Rg:=[iA 1 (.box true (Tm 0)),iT 2 false]
def aVQ:Rg:=[iO 6 3 1,iK 7 116 6,iM 5 7,iE 8 5 0,iE 9 5 1,iA 3 (.alloc [(.bool false),.bHP,.bHP]),iS 3 3 8,iM 4 9]
def RL:Rg:=[iM 10 4,iC 11 .eql 10 0,iM 12 11,gF 13 0 3 12 true,gL 14 13 12 true,iG 15 (.un .not (Tm 14)) 12 true,iP 16 12 15,iM 17 16,gF 18 1 3 17 true,gL 19 18 17 true,gK 20 128 19 17 true,gC 21 .leq 20 32 17 true,iP 22 17 21,iM 23 22,gF 24 2 3 23 true,gL 25 24 23 true,gK 26 128 25 23 true,gC 27 .leq 26 32 23 true,iP 28 23 27,iM 2 28]
def MO:aB:=(sq aVP (sq aVQ (sq RL .ret)))
def bsB:List Nat:=[1]
def a5A:aS:=⟨1,29,MO,[.tmp 2]⟩
def aVU:Rg:=[iA 1 (.box true (Tm 0)),iT 2 false]
def aVV:Rg:=[iA 8 (.call 115 [(Ci 1),(Ci 1)]),iM 7 8,iE 9 7 0,iE 10 7 1,iA 3 (.alloc [(.bool false),.bHP,.bHP]),iS 3 3 9,iM 4 10]
def aVW:Rg:=[iO 12 3 1,iO 13 3 3,iK2 14 114 12 13,iM 11 14,iE 15 11 0,iE 16 11 1,iM 5 15,iM 6 16]
def akV:Rg:=[iM 17 6,iC 18 .eql 17 0,iM 19 18,gM 20 5 19 true,gC 21 .leq 20 0 19 true,iP 22 19 21,iM 2 22]
def MQ:aB:=(sq aVU (sq aVV (sq aVW (sq akV .ret))))
def bsF:List Nat:=[1]
def gone:aS:=⟨1,23,MQ,[.tmp 2]⟩
def aCN:Rg:=[iT 4 false]
def aCO:Rg:=[iM 7 0,iN 8 7,iI 9 0]
def aCP:Rg:=[iB 10 .lss 9 8]
def aCQ:Rg:=[iX 11 3 7 9,iO 12 3 11,iA 6 (.alloc [(.bool false),.bHP,.bHP]),iS 3 6 12]
def aCR:Rg:=[iM 13 1,iO 14 3 6,iA 15 (.bJA (Tm 13) [(Tm 14)]),iA 16 (.un .not (Tm 15))]
def aCS:Rg:=[iT 4 false]
def aCT:Rg:=[iC 17 .add 9 1,iM 9 17]
def aCM:aB:=(sq aCP (.seq (.cond (Tm 10) .skip (.exit 0)) (.seq (.block 1 (sq aCQ (sq aCR (.cond (Tm 16) (sq aCS .ret) .skip)))) (.region aCT))))
def aCU:Rg:=[iT 4 true]
def FM:aB:=(sq aCN (.seq (sq aCO (.block 0 (.loop aCM))) (sq aCU .ret)))
def bkQ:List Nat:=[]
def ayN:aS:=⟨2,18,FM,[.tmp 4]⟩
def aCW:Rg:=[iT 4 false]
def aCX:Rg:=[iM 7 0,iN 8 7,iI 9 0]
def aCY:Rg:=[iB 10 .lss 9 8]
def aCZ:Rg:=[iX 11 1 7 9,iL 12 11,iM 6 12]
def aDA:Rg:=[iM 13 1,iM 14 6,iA 15 (.bJA (Tm 13) [(Tm 14)]),iA 16 (.un .not (Tm 15))]
def aDB:Rg:=[iT 4 false]
def aDC:Rg:=[iC 17 .add 9 1,iM 9 17]
def aCV:aB:=(sq aCY (.seq (.cond (Tm 10) .skip (.exit 0)) (.seq (.block 1 (sq aCZ (sq aDA (.cond (Tm 16) (sq aDB .ret) .skip)))) (.region aDC))))
def aDD:Rg:=[iT 4 true]
def FN:aB:=(sq aCW (.seq (sq aCX (.block 0 (.loop aCV))) (sq aDD .ret)))
def bkS:List Nat:=[]
def ayO:aS:=⟨2,18,FN,[.tmp 4]⟩
def aCE:Rg:=[iT 4 false]
def aCF:Rg:=[iM 7 0,iN 8 7,iI 9 0]
def aCG:Rg:=[iB 10 .lss 9 8]
def aCH:Rg:=[iX 11 1 7 9,iL 12 11,iM 6 12]
def aCI:Rg:=[iM 13 1,iM 14 6,iA 15 (.bJA (Tm 13) [(Tm 14)]),iA 16 (.un .not (Tm 15))]
def aCJ:Rg:=[iT 4 false]
def aCK:Rg:=[iC 17 .add 9 1,iM 9 17]
def aCD:aB:=(sq aCG (.seq (.cond (Tm 10) .skip (.exit 0)) (.seq (.block 1 (sq aCH (sq aCI (.cond (Tm 16) (sq aCJ .ret) .skip)))) (.region aCK))))
def aCL:Rg:=[iT 4 true]
def FL:aB:=(sq aCE (.seq (sq aCF (.block 0 (.loop aCD))) (sq aCL .ret)))
def bkO:List Nat:=[]
def ayM:aS:=⟨2,18,FL,[.tmp 4]⟩
def anS:Rg:=[iT 2 false]
def anT:Rg:=[iM 3 0,iM 2 3]
def AY:aB:=(sq anS (sq anT .ret))
def bcI:List Nat:=[]
def abT:aS:=⟨1,4,AY,[.tmp 2]⟩
def aDI:Rg:=[iA 1 (.box true (Tm 0)),iT 2 false]
def aDJ:Rg:=[iF 8 3 1,iL 9 8,iN 10 9,iA 11 (.bHZ 1 1 [(.bool false)] (Tm 10) (Tm 10)),iM 3 11]
def aDK:Rg:=[iI 4 0]
def aDL:Rg:=[iM 12 4,iM 13 3,iN 14 13,iB 15 .leq 12 14]
def aDM:Rg:=[iM 18 3,iN 19 18,iI 20 0]
def WA:Rg:=[iB 21 .lss 20 19]
def aDN:Rg:=[iM 22 20,iM 5 22]
def WB:Rg:=[iM 23 3,iM 24 5,iM 25 3,iM 26 5,iX 27 1 25 26,iL 28 27,iM 29 28,gF 30 3 1 29 false,gL 31 30 29 false,gM 32 5 29 false,iG 33 (.bIK 3 (Tm 31) (Tm 32)) 29 false,gO 34 3 33 29 false,gK 35 97 34 29 false,iQ 36 29 35,iX 37 1 23 24,iS 1 37 36]
def WC:Rg:=[iF 38 2 1,iL 39 38,iM 40 5,iX 41 1 39 40,iL 42 41,iN 43 42,iI 44 0]
def aDO:Rg:=[iB 45 .lss 44 43]
def anV:Rg:=[iM 46 44,iX 47 3 42 44,iO 48 3 47,iA 7 (.alloc [(.bool false),.bHP,.bHP]),iM 6 46,iS 3 7 48]
def ML:Rg:=[iM 49 3,iM 50 5,iM 51 3,iM 52 5,iX 53 1 51 52,iL 54 53,iM 55 54,gO 56 3 7 55 false,gK 57 97 56 55 false,gM 58 57 55 false,gM 59 3 58 true,gM 60 6 58 true,iG 61 (.bIK 1 (Tm 59) (Tm 60)) 58 true,gL 62 61 58 true,iG 63 (.pick (Tm 58) (Tm 62) (.const (.bool false))) 55 false,iQ 64 55 63,iX 65 1 49 50,iS 1 65 64]
def zL:Rg:=[iC 66 .add 44 1,iM 44 66]
def zJ:aB:=(sq aDO (.seq (.cond (Tm 45) .skip (.exit 4)) (.seq (.block 5 (sq anV (.region ML))) (.region zL))))
def MM:Rg:=[iC 67 .add 20 1,iM 20 67]
def zK:aB:=(sq WA (.seq (.cond (Tm 21) .skip (.exit 2)) (.seq (.block 3 (sq aDN (sq WB (sq WC (.block 4 (.loop zJ)))))) (.region MM))))
def anW:Rg:=[iM 16 4,iC 17 .add 16 1,iM 4 17]
def anU:aB:=(.seq (sq aDL (.cond (Tm 15) .skip (.exit 0))) (.seq (.block 1 (sq aDM (.block 2 (.loop zK)))) (.region anW)))
def anX:Rg:=[iM 68 3,iA 69 (.call 98 [(Tm 68),(.const (.fn 103 []))]),iM 2 69]
def FO:aB:=(sq aDI (sq aDJ (.seq (sq aDK (.block 0 (.loop anU))) (sq anX .ret))))
def bkV:List Nat:=[1]
def ayP:aS:=⟨1,70,FO,[.tmp 2]⟩
def aVH:Rg:=[iA 1 (.box true (Tm 0)),iT 2 false]
def aVI:Rg:=[iF 12 1 1,iL 13 12,iN 14 13,iM 3 14]
def aVJ:Rg:=[iM 15 3,iA 16 (.call 104 [(Tm 15),(Ci 1),(Ci 4)]),iA 17 (.un .not (Tm 16)),iM 18 17,gF 19 3 1 18 false,gL 20 19 18 false,gN 21 20 18 false,gM 22 3 18 false,gB 23 .neq 21 22 18 false,iQ 24 18 23,iM 25 24,gF 26 2 1 25 false,gL 27 26 25 false,gN 28 27 25 false,gM 29 3 25 false,gB 30 .neq 28 29 25 false,iQ 31 25 30,iM 32 31,gF 33 1 1 32 false,gL 34 33 32 false,iG 35 (.call 99 [(Tm 34),(.const (.fn 105 []))]) 32 false,iG 36 (.un .not (Tm 35)) 32 false,iQ 37 32 36,iM 38 37,gF 39 3 1 38 false,gL 40 39 38 false,iG 41 (.call 99 [(Tm 40),(.const (.fn 105 []))]) 38 false,iG 42 (.un .not (Tm 41)) 38 false,iQ 43 38 42]
def xE:Rg:=[iT 2 false]
def aVK:Rg:=[iF 44 2 1,iL 45 44,iN 46 45,iI 47 0]
def aVL:Rg:=[iB 48 .lss 47 46]
def aVM:Rg:=[iM 49 47,iX 50 1 45 47,iL 51 50,iM 4 49,iM 5 51]
def aVN:Rg:=[iM 52 5,iN 53 52,iM 54 3,iB 55 .neq 53 54,iM 56 55,gM 57 5 56 false,iG 58 (.call 99 [(Tm 57),(.const (.fn 105 []))]) 56 false,iG 59 (.un .not (Tm 58)) 56 false,iQ 60 56 59,iM 61 60,gM 62 5 61 false,gM 63 4 61 false,iG 64 (.bIK 3 (Tm 62) (Tm 63)) 61 false,gO 65 3 64 61 false,gK 66 97 65 61 false,iQ 67 61 66]
def RK:Rg:=[iT 2 false]
def aVO:Rg:=[iC 68 .add 47 1,iM 47 68]
def aDP:aB:=(sq aVL (.seq (.cond (Tm 48) .skip (.exit 0)) (.seq (.block 1 (sq aVM (sq aVN (.cond (Tm 67) (sq RK .ret) .skip)))) (.region aVO))))
def WD:Rg:=[iF 70 1 1,iL 71 70,iK 72 117 71,iM 69 72,iE 73 69 0,iE 74 69 1,iA 6 (.alloc [(.bool false),.bHP,.bHP]),iS 3 6 73,iM 7 74]
def FP:Rg:=[iA 76 (.call 115 [(Ci 1),(Ci 1)]),iM 75 76,iE 77 75 0,iE 78 75 1,iA 8 (.alloc [(.bool false),.bHP,.bHP]),iS 3 8 77,iM 9 78]
def FQ:Rg:=[iO 80 3 6,iO 81 3 8,iK2 82 114 80 81,iM 79 82,iE 83 79 0,iE 84 79 1,iM 10 83,iM 11 84]
def tD:Rg:=[iM 85 7,iC 86 .eql 85 0,iM 87 86,gM 88 10 87 true,gC 89 .eql 88 0 87 true,iP 90 87 89,iM 91 90,gO 92 4 1 91 true,gK 93 102 92 91 true,iP 94 91 93,iM 2 94]
def MN:aB:=(sq aVH (sq aVI (.seq (sq aVJ (.cond (Tm 43) (sq xE .ret) .skip)) (.seq (sq aVK (.block 0 (.loop aDP))) (sq WD (sq FP (sq FQ (sq tD .ret))))))))
def brZ:List Nat:=[1]
def a4Z:aS:=⟨1,95,MN,[.tmp 2]⟩
def aEC:Rg:=[iT 2 false]
def aED:Rg:=[iA 6 (.bJL (false,[.str])),iM 3 6]
def aEE:Rg:=[iM 7 0,iN 8 7,iI 9 0]
def aEF:Rg:=[iB 10 .lss 9 8]
def aEG:Rg:=[iX 11 1 7 9,iL 12 11,iM 5 12]
def aEH:Rg:=[iM 13 5,iK 14 123 13,iA 15 (.un .not (Tm 14)),iM 16 15,gM 17 3 16 false,gM 18 5 16 false,iG 19 (.lookup (false,[.str]) (.bool false) (Tm 17) (Tm 18) false) 16 false,iQ 20 16 19]
def WH:Rg:=[iT 2 false]
def aEI:Rg:=[iM 21 3,iM 22 5,⟨none,.bIN (false,[.str]) (Tm 21) (Tm 22) (.const (.bool true)),none⟩]
def aEJ:Rg:=[iC 23 .add 9 1,iM 9 23]
def aEB:aB:=(sq aEF (.seq (.cond (Tm 10) .skip (.exit 0)) (.seq (.block 1 (sq aEG (.seq (sq aEH (.cond (Tm 20) (sq WH .ret) .skip)) (.region aEI)))) (.region aEJ))))
def aoA:Rg:=[iT 2 true]
def FU:aB:=(sq aEC (sq aED (.seq (sq aEE (.block 0 (.loop aEB))) (sq aoA .ret))))
def blC:List Nat:=[]
def ayS:aS:=⟨1,24,FU,[.tmp 2]⟩
def akT:Rg:=[iA 1 (.box true (Tm 0)),iT 2 false]
def akU:Rg:=[iF 6 3 1,iL 7 6,iN 8 7,iC 9 .eql 8 0]
def aVB:Rg:=[iT 2 false]
def aVC:Rg:=[iF 10 3 1,iL 11 10,iA 12 (.bIK 7 (Tm 11) (Ci 0)),iO 13 7 12,iA 3 (.alloc [(.str []),(.int .i64 0),(.int .i64 0),(.int .i64 0),(.bool false),.bHP,.bHP]),iS 7 3 13]
def xD:Rg:=[iF 14 0 3,iL 15 14,iA 16 (.bin .neq (Tm 15) (.const (.str []))),iM 17 16,gF 18 1 3 17 false,gL 19 18 17 false,gC 20 .neq 19 0 17 false,iQ 21 17 20,iM 22 21,gF 23 2 3 22 false,gL 24 23 22 false,gC 25 .neq 24 (-1) 22 false,iQ 26 22 25,iM 27 26,gF 28 3 3 27 false,gL 29 28 27 false,gC 30 .neq 29 0 27 false,iQ 31 27 30,iM 32 31,gF 33 4 3 32 false,gO 34 3 33 32 false,gK 35 105 34 32 false,iG 36 (.un .not (Tm 35)) 32 false,iQ 37 32 36,iM 38 37,gF 39 4 3 38 false,gO 40 3 39 38 false,gK 41 97 40 38 false,iQ 42 38 41]
def tC:Rg:=[iT 2 false]
def aVD:Rg:=[iF 43 3 1,iL 44 43,iA 45 (.slice 7 (Tm 44) (some (Ci 1)) none none),iN 46 45,iI 47 0]
def aVE:Rg:=[iB 48 .lss 47 46]
def aVF:Rg:=[iM 49 47,iX 50 7 45 47,iO 51 7 50,iA 5 (.alloc [(.str []),(.int .i64 0),(.int .i64 0),(.int .i64 0),(.bool false),.bHP,.bHP]),iM 4 49,iS 7 5 51]
def aVG:Rd:=[(iF 52 2 5,false),(iL 53 52,false),(iM 54 4,false),(iA 55 (.call 104 [(Tm 53),(Ci 0),(Tm 54)]),true),(iA 56 (.un .not (Tm 55)),false),(iM 57 56,false),(gF 58 3 1 57 false,false),(gL 59 58 57 false,false),(gF 60 2 5 57 false,false),(gL 61 60 57 false,false),(iG 62 (.bIK 7 (Tm 59) (Tm 61)) 57 false,false),(gF 63 1 62 57 false,false),(gL 64 63 57 false,false),(gF 65 1 5 57 false,false),(gL 66 65 57 false,false),(gC 67 .sub 66 1 57 false,false),(gB 68 .neq 64 67 57 false,false),(iQ 69 57 68,false),(iM 70 69,false),(gF 71 1 5 70 false,false),(gL 72 71 70 false,false),(iG 73 (.call 104 [(Tm 72),(Ci 1),(Ci 4)]) 70 false,true),(iG 74 (.un .not (Tm 73)) 70 false,false),(iQ 75 70 74,false),(iM 76 75,false),(gF 77 3 5 76 false,false),(gL 78 77 76 false,false),(iG 79 (.call 104 [(Tm 78),(Ci 1),(Ci 64)]) 76 false,true),(iG 80 (.un .not (Tm 79)) 76 false,false),(iQ 81 76 80,false),(iM 82 81,false),(gF 83 4 5 82 false,false),(gO 84 3 83 82 false,false),(gK 85 105 84 82 false,true),(iG 86 (.un .not (Tm 85)) 82 false,false),(iQ 87 82 86,false)]
def tB:Rg:=[iT 2 false]
def aDG:Rg:=[iC 88 .add 47 1,iM 47 88]
def aDF:aB:=(sq aVE (.seq (.cond (Tm 48) .skip (.exit 0)) (.seq (.block 1 (sq aVF (dq aVG (.cond (Tm 87) (sq tB .ret) .skip)))) (.region aDG))))
def aDH:Rg:=[iT 2 true]
def zI:aB:=(sq akT (.seq (sq akU (.cond (Tm 9) (sq aVB .ret) .skip)) (sq aVC (.seq (sq xD (.cond (Tm 42) (sq tC .ret) .skip)) (.seq (sq aVD (.block 0 (.loop aDF))) (sq aDH .ret))))))
def brX:List Nat:=[1]
def aDE:aS:=⟨1,89,zI,[.tmp 2]⟩
def aDQ:Rg:=[iT 2 false]
def aDR:Rg:=[iM 3 0,iA 4 (.call 104 [(Tm 3),(Ci 0),(Ci 8)]),iM 2 4]
def FS:aB:=(sq aDQ (sq aDR .ret))
def bkX:List Nat:=[]
def ayQ:aS:=⟨1,5,FS,[.tmp 2]⟩
def aVR:Rg:=[iA 7 (.box true (Tm 3)),iT 8 false]
def aVS:Rg:=[iM 9 0,iA 10 (.call 104 [(Tm 9),(Ci 1),(Ci 6)]),iA 11 (.un .not (Tm 10)),iM 12 11,gM 13 1 12 false,iG 14 (.call 104 [(Tm 13),(Ci 0),(Ci 4)]) 12 false,iG 15 (.un .not (Tm 14)) 12 false,iQ 16 12 15,iM 17 16,gM 18 0 17 false,gM 19 1 17 false,gB 20 .add 18 19 17 false,gC 21 .gtr 20 8 17 false,iQ 22 17 21,iM 23 22,gM 24 2 23 false,gM 25 0 23 false,gM 26 0 23 false,gM 27 1 23 false,gB 28 .add 26 27 23 false,iG 29 (.call 104 [(Tm 24),(Tm 25),(Tm 28)]) 23 false,iG 30 (.un .not (Tm 29)) 23 false,iQ 31 23 30,iM 32 31,iG 33 (.idxA 5 1 (Tm 7) (Ci 0)) 32 false,gL 34 33 32 false,gC 35 .neq 34 0 32 false,iQ 36 32 35]
def xF:Rg:=[iT 8 false]
def aVT:Rg:=[iA 37 (.sliceA 5 1 (Tm 7) none none none),iA 38 (.call 100 [(Tm 37),(.const (.fn 107 []))]),iM 8 38]
def MP:aB:=(sq aVR (.seq (sq aVS (.cond (Tm 36) (sq xF .ret) .skip)) (sq aVT .ret)))
def bsD:List Nat:=[7]
def a5B:aS:=⟨4,39,MP,[.tmp 8]⟩
def anY:Rg:=[iA 1 (.box true (Tm 0)),iT 2 false]
def anZ:Rg:=[iO 3 3 1,iK 4 105 3,iM 5 4,gO 6 3 1 5 true,gK 7 97 6 5 true,iP 8 5 7,iM 2 8]
def AZ:aB:=(sq anY (sq anZ .ret))
def bcL:List Nat:=[1]
def abW:aS:=⟨1,9,AZ,[.tmp 2]⟩
def aDV:Rg:=[iA 6 (.box true (Tm 2)),iA 7 (.box true (Tm 3)),iT 8 false]
def aDW:Rg:=[iM 9 1,iN 10 9,iM 11 0,iA 12 (.bIQ true (Tm 11) (Ci 1)),iB 13 .eql 10 12,iM 14 13,gM 15 1 14 true,iG 16 (.call 99 [(Tm 15),(.const (.fn 109 []))]) 14 true,iP 17 14 16,iM 18 17,gO 19 3 6 18 true,gK 20 105 19 18 true,iP 21 18 20,iM 22 21,gO 23 3 6 22 true,gK 24 101 23 22 true,iP 25 22 24,iM 26 25,gO 27 3 7 26 true,gK 28 105 27 26 true,iP 29 26 28,iM 8 29]
def FT:aB:=(sq aDV (sq aDW .ret))
def bkZ:List Nat:=[6,7]
def ayR:aS:=⟨4,30,FT,[.tmp 8]⟩
def aVX:Rg:=[iA 2 (.box true (Tm 0)),iT 4 false]
def aVY:Rg:=[iF 8 1 2,iL 9 8,iF 10 2 2,iL 11 10,iF 12 3 2,iL 13 12,iF 14 4 2,iO 15 5 14,iA 16 (.call 106 [(Tm 9),(Tm 11),(Tm 13),(Tm 15)]),iA 17 (.un .not (Tm 16)),iM 18 17,gF 19 9 2 18 false,gL 20 19 18 false,gN 21 20 18 false,gC 22 .eql 21 0 18 false,iQ 23 18 22,iM 24 23,gF 25 2 2 24 false,gL 26 25 24 false,gF 27 10 2 24 false,gL 28 27 24 false,gF 29 11 2 24 false,gO 30 3 29 24 false,gF 31 14 2 24 false,gO 32 3 31 24 false,iG 33 (.call 108 [(Tm 26),(Tm 28),(Tm 30),(Tm 32)]) 24 false,iG 34 (.un .not (Tm 33)) 24 false,iQ 35 24 34]
def RM:Rg:=[iT 4 false]
def aVZ:Rg:=[iM 36 1,iA 37 (.bHZ 1 1 [(.bool false)] (Tm 36) (Tm 36)),iM 5 37]
def aWA:Rg:=[iF 38 9 2,iL 39 38,iN 40 39,iI 41 0]
def aWB:Rg:=[iB 42 .lss 41 40]
def aWC:Rg:=[iX 43 1 39 41,iL 44 43,iM 7 44]
def aWD:Rg:=[iM 45 7,iM 46 1,iC 47 .sub 46 1,iA 48 (.call 104 [(Tm 45),(Ci 0),(Tm 47)]),iA 49 (.un .not (Tm 48)),iM 50 49,gM 51 5 50 false,gM 52 7 50 false,iG 53 (.bIK 1 (Tm 51) (Tm 52)) 50 false,gL 54 53 50 false,iQ 55 50 54]
def akW:Rg:=[iT 4 false]
def aWE:Rg:=[iM 56 5,iM 57 7,iX 58 1 56 57,⟨none,.store 1 (Tm 58) (.const (.bool true)),none⟩]
def aDT:Rg:=[iC 59 .add 41 1,iM 41 59]
def aDS:aB:=(sq aWB (.seq (.cond (Tm 42) .skip (.exit 0)) (.seq (.block 1 (sq aWC (.seq (sq aWD (.cond (Tm 55) (sq akW .ret) .skip)) (.region aWE)))) (.region aDT))))
def aDU:Rg:=[iT 4 true]
def MR:aB:=(sq aVX (.seq (sq aVY (.cond (Tm 35) (sq RM .ret) .skip)) (sq aVZ (.seq (sq aWA (.block 0 (.loop aDS))) (sq aDU .ret)))))
def bsH:List Nat:=[2]
def a5C:aS:=⟨2,60,MR,[.tmp 4]⟩
def aWF:Rg:=[iA 1 (.box true (Tm 0)),iI 2 0]
def aWG:Rg:=[iF 21 0 1,iL 22 21,iA 23 (.call 104 [(Tm 22),(Ci 1),(Ci 4)]),iA 24 (.un .not (Tm 23)),iM 25 24,gF 26 1 1 25 false,gL 27 26 25 false,gN 28 27 25 false,gC 29 .gtr 28 4 25 false,iQ 30 25 29,iM 31 30,gF 32 2 1 31 false,gL 33 32 31 false,gN 34 33 31 false,gC 35 .gtr 34 4 31 false,iQ 36 31 35,iM 37 36,gF 38 3 1 37 false,gL 39 38 37 false,gN 40 39 37 false,gC 41 .gtr 40 40 37 false,iQ 42 37 41,iM 43 42,gF 44 4 1 43 false,gL 45 44 43 false,gN 46 45 43 false,gC 47 .gtr 46 24 43 false,iQ 48 43 47,iM 49 48,gF 50 5 1 49 false,gL 51 50 49 false,gN 52 51 49 false,gC 53 .gtr 52 4 49 false,iQ 54 49 53,iM 55 54,gF 56 6 1 55 false,gL 57 56 55 false,gN 58 57 55 false,gC 59 .gtr 58 12 55 false,iQ 60 55 59,iM 61 60,gO 62 7 1 61 false,gK 63 111 62 61 false,iG 64 (.un .not (Tm 63)) 61 false,iQ 65 61 64]
def pB:Rg:=[iI 2 1]
def aWH:Rg:=[iZ 3,iZ 4,iZ 5,iZ 6,iZ 7]
def aWI:Rg:=[iT 8 true]
def akX:Rg:=[iF 66 1 1,iL 67 66,iN 68 67,iI 69 0]
def aWJ:Rg:=[iB 70 .lss 69 68]
def aWK:Rg:=[iX 71 4 67 69,iO 72 4 71,iA 10 (.alloc [(.str []),.bHP,.bHP,.bHP]),iS 4 10 72]
def aWL:Rg:=[iM 73 3,iF 74 0 10,iL 75 74,iA 76 (.bHU true 1 1 [(.str [])] [(0,(Tm 75))]),iA 77 (.append 1 16 (Tm 73) (Tm 76)),iM 3 77]
def akY:Rg:=[iM 78 8,iM 79 78,gO 80 4 10 79 true,gK 81 95 80 79 true,iP 82 79 81,iM 8 82]
def WI:Rg:=[iC 83 .add 69 1,iM 69 83]
def FW:aB:=(sq aWJ (.seq (.cond (Tm 70) .skip (.exit 0)) (.seq (.block 1 (sq aWK (sq aWL (.region akY)))) (.region WI))))
def WJ:Rg:=[iF 84 2 1,iL 85 84,iN 86 85,iI 87 0]
def aEK:Rg:=[iB 88 .lss 87 86]
def aEL:Rg:=[iX 89 4 85 87,iO 90 4 89,iA 12 (.alloc [(.str []),(.int .i64 0),(.int .i64 0),(.int .i64 0)]),iS 4 12 90]
def aEM:Rg:=[iM 91 4,iF 92 0 12,iL 93 92,iA 94 (.bHU true 1 1 [(.str [])] [(0,(Tm 93))]),iA 95 (.append 1 16 (Tm 91) (Tm 94)),iM 4 95]
def WK:Rg:=[iM 96 8,iM 97 96,gF 98 1 12 97 true,gL 99 98 97 true,iG 100 (.call 104 [(Tm 99),(Ci 1),(Ci 16)]) 97 true,iP 101 97 100,iM 102 101,gF 103 2 12 102 true,gL 104 103 102 true,iG 105 (.call 104 [(Tm 104),(Ci 1),(Ci 64)]) 102 true,iP 106 102 105,iM 107 106,gF 108 3 12 107 true,gL 109 108 107 true,gF 110 1 1 107 true,gL 111 110 107 true,gN 112 111 107 true,gC 113 .sub 112 1 107 true,iG 114 (.call 104 [(Tm 109),(Ci 0),(Tm 113)]) 107 true,iP 115 107 114,iM 8 115]
def xZ:Rg:=[iC 116 .add 87 1,iM 87 116]
def FX:aB:=(sq aEK (.seq (.cond (Tm 88) .skip (.exit 2)) (.seq (.block 3 (sq aEL (sq aEM (.region WK)))) (.region xZ))))
def WL:Rg:=[iF 117 3 1,iL 118 117,iA 119 (.slice 7 (Tm 118) (some (Ci 1)) none none),iN 120 119,iI 121 0]
def aEN:Rg:=[iB 122 .lss 121 120]
def aEO:Rg:=[iX 123 7 119 121,iO 124 7 123,iA 14 (.alloc [(.str []),(.int .i64 0),(.int .i64 0),(.int .i64 0),(.bool false),.bHP,.bHP]),iS 7 14 124]
def aEP:Rg:=[iM 125 5,iF 126 0 14,iL 127 126,iA 128 (.bHU true 1 1 [(.str [])] [(0,(Tm 127))]),iA 129 (.append 1 16 (Tm 125) (Tm 128)),iM 5 129]
def aEQ:Rg:=[iC 130 .add 121 1,iM 121 130]
def FY:aB:=(sq aEN (.seq (.cond (Tm 122) .skip (.exit 4)) (.seq (.block 5 (sq aEO (.region aEP))) (.region aEQ))))
def WM:Rg:=[iF 131 4 1,iL 132 131,iN 133 132,iI 134 0]
def aER:Rg:=[iB 135 .lss 134 133]
def aES:Rg:=[iX 136 3 132 134,iO 137 3 136,iA 16 (.alloc [(.str []),(.int .i64 0),(.int .i64 0)]),iS 3 16 137]
def aET:Rg:=[iM 138 5,iF 139 0 16,iL 140 139,iA 141 (.bHU true 1 1 [(.str [])] [(0,(Tm 140))]),iA 142 (.append 1 16 (Tm 138) (Tm 141)),iM 5 142]
def WN:Rg:=[iM 143 8,iM 144 143,gF 145 1 16 144 true,gL 146 145 144 true,gF 147 2 1 144 true,gL 148 147 144 true,gN 149 148 144 true,gC 150 .sub 149 1 144 true,iG 151 (.call 104 [(Tm 146),(Ci 0),(Tm 150)]) 144 true,iP 152 144 151,iM 153 152,gF 154 2 16 153 true,gL 155 154 153 true,gF 156 3 1 153 true,gL 157 156 153 true,gN 158 157 153 true,gC 159 .sub 158 1 153 true,iG 160 (.call 104 [(Tm 155),(Ci 0),(Tm 159)]) 153 true,iP 161 153 160,iM 162 161,gF 163 3 1 162 true,gL 164 163 162 true,gF 165 2 16 162 true,gL 166 165 162 true,iG 167 (.bIK 7 (Tm 164) (Tm 166)) 162 true,gF 168 1 167 162 true,gL 169 168 162 true,gC 170 .eql 169 4 162 true,iP 171 162 170,iM 8 171]
def tE:Rg:=[iC 172 .add 134 1,iM 134 172]
def FZ:aB:=(sq aER (.seq (.cond (Tm 135) .skip (.exit 6)) (.seq (.block 7 (sq aES (sq aET (.region WN)))) (.region tE))))
def WO:Rg:=[iF 173 5 1,iL 174 173,iN 175 174,iI 176 0]
def aEU:Rg:=[iB 177 .lss 176 175]
def aEV:Rg:=[iX 178 17 174 176,iO 179 17 178,iA 18 (.alloc [(.str []),(.int .i64 0),(.int .i64 0),(.int .i64 0),(.int .i64 0),(.int .i64 0),(.int .i64 0),(.int .i64 0),(.int .i64 0),.bHP,.bHP,(.bool false),.bHP,.bHP,(.bool false),.bHP,.bHP]),iS 17 18 179]
def aEW:Rg:=[iM 180 6,iF 181 0 18,iL 182 181,iA 183 (.bHU true 1 1 [(.str [])] [(0,(Tm 182))]),iA 184 (.append 1 16 (Tm 180) (Tm 183)),iM 6 184]
def WP:Rg:=[iM 185 8,iM 186 185,gO 187 17 18 186 true,gF 188 2 1 186 true,gL 189 188 186 true,gN 190 189 186 true,gK2 191 112 187 190 186 true,iP 192 186 191,iM 8 192]
def WQ:Rg:=[iC 193 .add 176 1,iM 176 193]
def GA:aB:=(sq aEU (.seq (.cond (Tm 177) .skip (.exit 8)) (.seq (.block 9 (sq aEV (sq aEW (.region WP)))) (.region WQ))))
def WR:Rg:=[iF 194 6 1,iL 195 194,iN 196 195,iI 197 0]
def aEX:Rg:=[iB 198 .lss 197 196]
def aEY:Rg:=[iX 199 2 195 197,iO 200 2 199,iA 20 (.alloc [(.str []),(.int .i64 0)]),iS 2 20 200]
def aEZ:Rg:=[iM 201 7,iF 202 0 20,iL 203 202,iA 204 (.bHU true 1 1 [(.str [])] [(0,(Tm 203))]),iA 205 (.append 1 16 (Tm 201) (Tm 204)),iM 7 205]
def WS:Rg:=[iM 206 8,iM 207 206,gF 208 1 20 207 true,gL 209 208 207 true,gF 210 5 1 207 true,gL 211 210 207 true,gN 212 211 207 true,gC 213 .sub 212 1 207 true,iG 214 (.call 104 [(Tm 209),(Ci 0),(Tm 213)]) 207 true,iP 215 207 214,iM 8 215]
def WT:Rg:=[iC 216 .add 197 1,iM 197 216]
def GB:aB:=(sq aEX (.seq (.cond (Tm 198) .skip (.exit 10)) (.seq (.block 11 (sq aEY (sq aEZ (.region WS)))) (.region WT))))
def yA:Rg:=[iM 217 8,iA 218 (.un .not (Tm 217)),iM 219 218,gM 220 3 219 false,gK 221 110 220 219 false,iG 222 (.un .not (Tm 221)) 219 false,iQ 223 219 222,iM 224 223,gM 225 4 224 false,gK 226 110 225 224 false,iG 227 (.un .not (Tm 226)) 224 false,iQ 228 224 227,iM 229 228,gM 230 5 229 false,gK 231 110 230 229 false,iG 232 (.un .not (Tm 231)) 229 false,iQ 233 229 232,iM 234 233,gM 235 6 234 false,gK 236 110 235 234 false,iG 237 (.un .not (Tm 236)) 234 false,iQ 238 234 237,iM 239 238,gM 240 7 239 false,gK 241 110 240 239 false,iG 242 (.un .not (Tm 241)) 239 false,iQ 243 239 242]
def nC:Rg:=[iI 2 1]
def GC:Rg:=[iI 2 0]
def MS:aB:=(sq aWF (.seq (sq aWG (.cond (Tm 65) (sq pB .ret) .skip)) (sq aWH (sq aWI (.seq (sq akX (.block 0 (.loop FW))) (.seq (sq WJ (.block 2 (.loop FX))) (.seq (sq WL (.block 4 (.loop FY))) (.seq (sq WM (.block 6 (.loop FZ))) (.seq (sq WO (.block 8 (.loop GA))) (.seq (sq WR (.block 10 (.loop GB))) (.seq (sq yA (.cond (Tm 243) (sq nC .ret) .skip)) (sq GC .ret))))))))))))
def bsK:List Nat:=[1,76,94,128,141,183,204]
def a5F:aS:=⟨1,244,MS,[.tmp 2]⟩
@[go_sem] theorem bzO (a b:List UInt8):LQ .eql a b=some (.bool (a==b)):=(rfl)
@[go_sem] theorem bzP (a b:List UInt8):LQ .neq a b=some (.bool !(a==b)):=(rfl)
@[go_sem] theorem a3Y (a b:List UInt8):LQ .add a b=if ((a.length+b.length:Nat):Int)>9223372036854775807 then none else some (.str (a++b)):=(rfl)
@[go_sem] theorem bwC:(([]:List UInt8)==[])=true:=(rfl)
@[go_sem] theorem bqZ (c:UInt8) (t:List UInt8):((c::t)==[])=false:=(rfl)
theorem oY {a b:List UInt8} (h:a=b):(a==b)=true:=by simp[h]
theorem aaP {a b:List UInt8} (h:a≠b):(a==b)=false:=by simp[h]
section
variable {C:Ctx} {F:PF} {H:PH}
theorem pY {name o s:Nat} {rs:List (List PV)} {vs:List PV} {v:PV} {args:List aP} {d:Option Nat} {K:PF→PH→Prop} (h:aI C name vs .nil (aD v)) (ho:H o=some (.rows s rs))
  (ha:aP.evs (F.frz o s rs) args=some vs) (hK:K ((F.frz o s rs).put d v) (H.frz o s rs)):iH C name args [] d K F H:=by
 refine .inr ⟨_,_,.step o ho (.refl _ _),vs,.nil,aD v,?_,PH.nil_le,h,?_⟩
 ·rw[ha]; simp
 ·rintro r H' ⟨rfl,rfl⟩ -
  rw[PH.yG]
  exact hK
theorem jQ.trans {F1 F2 F3:PF} {H1 H2 H3:PH} (h:jQ F1 H1 F2 H2) (k:jQ F2 H2 F3 H3):jQ F1 H1 F3 H3:=by
 induction h with
 | refl=>exact k
 | step o ho h ih=>exact .step o ho (ih k)
theorem pO {c:aB} {K:cA} {s:Nat} {v:PV} {rows:List (List PV)} (ho:aX H s v rows)
  (h:∀ v1,Seen s v1 rows→∀ F1 H1,(∀ t,F t=some v→F1 t=some v1)→(∀ i u,F i=some u→Pure u→F1 i=some u)→aB.wp C (.loop c) K F1 H1):aB.wp C (.loop c) K F H:=by
 obtain⟨v1,hs,hf⟩:=ho.frz
 obtain⟨F1,H1,hz,h1,h2⟩:=hf F
 obtain⟨α,Fs,Hs,Pr,m,a0,F2,H2,hz2,rest⟩:=h v1 hs F1 H1 h1 h2
 exact⟨α,Fs,Hs,Pr,m,a0,F2,H2,hz.trans hz2,rest⟩
theorem aI.a9F {name s:Nat} {v:PV} {rows:List (List PV)} {H0:PH} {R:PV→PH→Prop} (h:aI C name [.sl s rows] H0 R) (hs:Seen s v rows):aI C name [v] H0 R:=by
 rcases hs with ⟨rfl,rfl⟩ | rfl
 ·refine h.args ⟨rfl,fun j p q hp hq=>?_⟩
  cases j with
  | zero=>simp at hp hq; subst hp; subst hq; exact .nil s
  | succ j=>simp at hp
 ·exact h
theorem aX.fresh {s:Nat} {v:PV} {rows:List (List PV)} {o:Nat} (h:aX H s v rows) (ho:H o=none) (x:cI):aX (H.set o x) s v rows∧∀ l,v≠.osl o s 0 l:=by
 refine⟨h.ext fun q y hq=>?_,fun l e=>?_⟩
 ·have:q≠o:=by rintro rfl; rw[ho] at hq; cases hq
  simp only[bA,if_neg this,hq]
 ·rcases h with ⟨_,h2⟩ | ⟨q,rs,h1,h2,_⟩
  ·rw[h2] at e; cases e
  ·rw[h1] at e
   injection e with e1
   subst e1
   rw[ho] at h2; cases h2
theorem mL {s b:Nat} {v:PV} {rows:List (List PV)} {r:List PV} {o:Nat} {x:cI} {K:PV→PH→Prop} (h:aX H s v rows) (ho:H o=none) (hr:roomFor rows.length 1 b)
  (hk:∀ v' H',aX H' s v' (rows++[r])→H' o=some x→K v' H'):nG (H.set o x) s b v (.sl s [r]) K:=by
 obtain⟨h1,h2⟩:=h.fresh ho x
 refine dB (src:=[r]) h1 (by simp[dX]) hr fun v' H' hO hp=>hk v' H' hO (hp o x (by simp only[bA,if_true]) h2)
theorem xC {o s k:Nat} {rs:List (List PV)} (hk:k≤rs.length):PV.frz o s rs (.osl o s 0 k)=.sl s (rs.take k):=by
 have:0+k≤rs.length:=by omega
 simp only[PV.frz,PV.rV,PV.dT,if_true,true_and,if_pos this,bKY]
end
open Go Go.Na
def eN (n:Nat):Bool:=decide (97≤n)&&decide (n≤122)||decide (65≤n)&&decide (n≤90)
def lN (n:Nat):Bool:=decide (48≤n)&&decide (n≤57)
def fE (n:Nat):Bool:=eN n||lN n||decide (n=45)||decide (n=46)
theorem a6G {C:Ctx} (n:Nat):kY.wp C (aR EB.res (aD (.bool (eN n)))) (PF.args [.int .u8 n]) .nil:=by
 have fin:∀ (F:PF) (b:Bool),F 2=some (.bool b)→b=eN n→aR EB.res (aD (.bool (eN n))) .ret F .nil:=by
  intro F b h e
  subst e
  refine aM (.inr rfl) (vs:=[.bool (eN n)]) (by simp only[go_sem,EB,h]) rfl
 unfold eN at *
 by_cases a:97≤n
 ·have a':(n:Int)≥97:=by omega
  by_cases b:n≤122
  ·have b':(n:Int)≤122:=by omega
   simp only[go_sem,γ,reduceCtorEq,kY,pD,pE,a',b']
   exact fin _ _ rfl (by simp[a,b])
  ·have b':¬ (n:Int)≤122:=by omega
   by_cases c:65≤n
   ·have c':(n:Int)≥65:=by omega
    have d:¬ (n:Int)≤90:=by omega
    simp only[go_sem,γ,reduceCtorEq,kY,pD,pE,a',b',c',d]
    exact fin _ _ rfl (by simp[a,b,c]; omega)
   ·omega
 ·have a':¬ (n:Int)≥97:=by omega
  by_cases c:65≤n
  ·have c':(n:Int)≥65:=by omega
   by_cases d:n≤90
   ·have d':(n:Int)≤90:=by omega
    simp only[go_sem,γ,reduceCtorEq,kY,pD,pE,a',c',d']
    exact fin _ _ rfl (by simp[a,c,d])
   ·have d':¬ (n:Int)≤90:=by omega
    simp only[go_sem,γ,reduceCtorEq,kY,pD,pE,a',c',d']
    exact fin _ _ rfl (by simp[a,c,d])
  ·have c':¬ (n:Int)≥65:=by omega
   simp only[go_sem,γ,reduceCtorEq,kY,pD,pE,a',c']
   exact fin _ _ rfl (by simp[a,c])
theorem bcX {C:Ctx} (n:Nat):pW.wp C (aR MW.res (aD (.bool (lN n)))) (PF.args [.int .u8 n]) .nil:=by
 have fin:∀ (F:PF) (b:Bool),F 2=some (.bool b)→b=lN n→aR MW.res (aD (.bool (lN n))) .ret F .nil:=by
  intro F b h e
  subst e
  refine aM (.inr rfl) (vs:=[.bool (lN n)]) (by simp only[go_sem,MW,h]) rfl
 unfold lN at *
 by_cases a:48≤n
 ·have a':(n:Int)≥48:=by omega
  by_cases b:n≤57
  ·have b':(n:Int)≤57:=by omega
   simp only[go_sem,γ,reduceCtorEq,pW,zM,zN,a',b']
   exact fin _ _ rfl (by simp[a,b])
  ·have b':¬ (n:Int)≤57:=by omega
   simp only[go_sem,γ,reduceCtorEq,pW,zM,zN,a',b']
   exact fin _ _ rfl (by simp[a,b])
 ·have a':¬ (n:Int)≥48:=by omega
  simp only[go_sem,γ,reduceCtorEq,pW,zM,zN,a']
  exact fin _ _ rfl (by simp[a])
theorem bdF {C:Ctx} (h1:∀ n:Nat,aI C 126 [.int .u8 n] .nil (aD (.bool (eN n)))) (h2:∀ n:Nat,aI C 124 [.int .u8 n] .nil (aD (.bool (lN n)))) (n:Nat) :
  BE.wp C (aR NA.res (aD (.bool (fE n)))) (PF.args [.int .u8 n]) .nil:=by
 have fin:∀ (F:PF) (b:Bool),F 2=some (.bool b)→b=fE n→aR NA.res (aD (.bool (fE n))) .ret F .nil:=by
  intro F b h e
  subst e
  refine aM (.inr rfl) (vs:=[.bool (fE n)]) (by simp only[go_sem,NA,h]) rfl
 simp only[go_sem,reduceCtorEq,BE,aoU,aoV]
 refine aA (h1 n) rfl ?_
 cases hl:eN n with
 | true =>
  simp only[go_sem,γ]
  exact fin _ _ rfl (by simp[fE,hl])
 | false =>
  simp only[go_sem,γ,reduceCtorEq]
  refine aA (h2 n) rfl ?_
  cases hd:lN n with
  | true =>
   simp only[go_sem,γ,reduceCtorEq]
   exact fin _ _ rfl (by simp[fE,hd])
  | false =>
   by_cases c:n=45
   ·simp only[go_sem,γ,reduceCtorEq,bP (Om:(n:Int)=45)]
    exact fin _ _ rfl (by simp[fE,c])
   ·by_cases d:n=46
    ·simp only[go_sem,γ,reduceCtorEq,bF (Om:(n:Int)≠45),bP (Om:(n:Int)=46)]
     exact fin _ _ rfl (by simp[fE,d])
    ·simp only[go_sem,γ,reduceCtorEq,bF (Om:(n:Int)≠45),bF (Om:(n:Int)≠46)]
     exact fin _ _ rfl (by simp[fE,c,d,hl,hd])
def isName (s:List UInt8):Bool:=match s with
 | []=>false
 | c::_=>decide (s.length≤16)&&eN c.toNat&&s.all fun c=>fE c.toNat
theorem oH {α:Type} {p:α→Bool} {l:List α} {k:Nat} (hk:k<l.length) (h:(l.take k).all p=true) (hp:p l[k]=true):(l.take (k+1)).all p=true:=by
 rw[bLY hk,List.all_append,h]; simp[hp]
theorem oI {α:Type} {p:α→Bool} {l:List α} {k:Nat} (hk:k<l.length) (hp:p l[k]=false):l.all p=false:=by
 rw[List.all_eq_false]
 exact⟨l[k],bJZ hk,by simp[hp]⟩
def aFR (s:List UInt8) (k:Nat):PF:=((PF.nil.set 0 (.str s)).set 3 (.int .i64 k))
theorem blZ {C:Ctx} (h1:∀ n:Nat,aI C 126 [.int .u8 n] .nil (aD (.bool (eN n)))) (h2:∀ n:Nat,aI C 125 [.int .u8 n] .nil (aD (.bool (fE n)))) (s:List UInt8) :
  rZ.wp C (aR acI.res (aD (.bool (isName s)))) (PF.args [.str s]) .nil:=by
 have fin:∀ (F:PF) (b:Bool),F 2=some (.bool b)→b=isName s→aR acI.res (aD (.bool (isName s))) .ret F .nil:=by
  intro F b h e
  subst e
  refine aM (.inr rfl) (vs:=[.bool (isName s)]) (by simp only[go_sem,acI,h]) rfl
 cases s with
 | nil =>
  simp only[go_sem,γ,reduceCtorEq,rZ,GH,GI,GJ]
  exact fin _ _ rfl rfl
 | cons c t =>
  have hz:(c::t)[0]?=some c:=rfl
  have hne:(c::t==[])=false:=rfl
  have hN:isName (c::t)=(decide ((c::t).length≤16)&&eN c.toNat&&(c::t).all fun c=>fE c.toNat):=rfl
  generalize c::t=s at *
  by_cases hl:s.length≤16
  ·have hl':¬ ((s.length:Nat):Int)>16:=by omega
   rw[decide_eq_true hl,bKJ] at hN
   simp only[go_sem,ν,γ,reduceCtorEq,rZ,GH,GI,hne,hl',hz,bKZ]
   refine aA (h1 c.toNat) rfl ?_
   cases hc:eN c.toNat with
   | false =>
    simp only[go_sem,γ,reduceCtorEq,bKF,GJ]
    exact fin _ _ rfl (by rw[hN,hc]; rfl)
   | true =>
    rw[hc,bKJ] at hN
    simp only[go_sem,γ,reduceCtorEq,bJW,aFT]
    refine wp_loop (α:=Nat) (fun k=>aFR s k) (fun _=>.nil) (fun k=>k≤s.length∧(s.take k).all (fun c=>fE c.toNat)=true) (fun k=>s.length-k) 0 ⟨bKA _,rfl⟩ ?_ PH.nil_le ?_
    ·unfold aFR
     exact Lq
    rintro k ⟨hk,ha⟩
    simp only[go_sem,γ,reduceCtorEq,aFS,aFU,aFR]
    by_cases hlt:k<s.length
    ·have bHV:(k:Int)<(s.length:Nat):=by omega
     have hg:s[k]?=some s[k]:=bKG hlt
     simp only[go_sem,γ,reduceCtorEq,bHV,aFV,hg,bKZ]
     refine aA (h2 (s[k]).toNat) rfl ?_
     cases hi:fE (s[k]).toNat with
     | false =>
      simp only[go_sem,γ,reduceCtorEq,bKF,aFW]
      refine fin _ false rfl ?_
      rw[hN,oI hlt hi]
     | true =>
      simp only[go_sem,γ,reduceCtorEq,bJW,aFX,ws k]
      refine aC (k+1) ⟨hlt,bKP.1 (oH hlt ha hi)⟩ Om ?_ PH.nil_le
      exact Lq
    ·have bHV:¬ (k:Int)<(s.length:Nat):=by omega
     simp only[go_sem,bHV,aFY]
     have:k=s.length:=by omega
     subst this
     rw[bKL (bKB _)] at ha
     exact fin _ true rfl (by rw[hN,ha])
  ·have hl':((s.length:Nat):Int)>16:=by omega
   simp only[go_sem,γ,reduceCtorEq,rZ,GH,GI,GJ,hne,hl']
   exact fin _ _ rfl (by rw[hN,decide_eq_false hl]; rfl)
abbrev cX (x:Int):Prop:=-9223372036854775808≤x∧x≤9223372036854775807
structure bX where
 name:List UInt8
 start:List RF
 bHT:List (List RF)
 exit:List RF
structure cK where
 name:List UInt8
 bIJ:Int
 port:Int
 law:Int
structure cH where
 name:List UInt8
 level:Int
 parent:Int
 bIP:Int
 bIH:RF
structure cY where
 name:List UInt8
 model:Int
 machine:Int
structure cJ where
 name:List UInt8
 k:Int
 m:Int
 bIT:Int
 s0:Int
 s1:Int
 s2:Int
 s3:Int
 s4:Int
 bHO:List Int
 repair:List RF
 target:RF
 bIB:RF
structure eM where
 name:List UInt8
 bID:Int
structure aE where
 bJD:Int
 bHY:List bX
 bHO:List cK
 bHR:List cH
 bHN:List cY
 bHS:List cJ
 bHQ:List eM
abbrev a9B (l:List (List RF)):PV:=.sl 1 (l.map fun r=>[frs r])
abbrev bX.cells (x:bX):List PV:=[.str x.name,frs x.start,a9B x.bHT,frs x.exit]
abbrev cK.cells (x:cK):List PV:=[.str x.name,.int .i64 x.bIJ,.int .i64 x.port,.int .i64 x.law]
abbrev cH.cells (x:cH):List PV:=[.str x.name,.int .i64 x.level,.int .i64 x.parent,.int .i64 x.bIP,.bool x.bIH.neg,aJ x.bIH.num,aJ x.bIH.den]
abbrev cY.cells (x:cY):List PV:=[.str x.name,.int .i64 x.model,.int .i64 x.machine]
abbrev cJ.cells (x:cJ):List PV:=[.str x.name,.int .i64 x.k,.int .i64 x.m,.int .i64 x.bIT,.int .i64 x.s0,.int .i64 x.s1,.int .i64 x.s2,.int .i64 x.s3,.int .i64 x.s4,ints x.bHO,frs x.repair,
 .bool x.target.neg,aJ x.target.num,aJ x.target.den,.bool x.bIB.neg,aJ x.bIB.num,aJ x.bIB.den]
abbrev eM.cells (x:eM):List PV:=[.str x.name,.int .i64 x.bID]
abbrev aE.cells (f:aE):List PV:=[.int .i64 f.bJD,.sl 4 (f.bHY.map bX.cells),.sl 4 (f.bHO.map cK.cells),.sl 7 (f.bHR.map cH.cells),.sl 3 (f.bHN.map cY.cells),.sl 17 (f.bHS.map cJ.cells),.sl 2 (f.bHQ.map eM.cells)]
def cJ.spread (p:cJ) (level:Nat):Int:=match level with
 | 0=>p.s0
 | 1=>p.s1
 | 2=>p.s2
 | 3=>p.s3
 | _=>p.s4
abbrev Fits {α:Type} (l:List α):Prop:=l.length≤9223372036854775807
structure jP (l:List RF):Prop where
 fits:Fits l
 all:∀ x∈l,x.Ok
structure bX.Ok (x:bX):Prop where
 start:jP x.start
 exit:jP x.exit
 bHT:Fits x.bHT
 row:∀ r∈x.bHT,jP r
structure cJ.Ok (x:cJ):Prop where
 k:cX x.k
 m:cX x.m
 bIT:cX x.bIT
 bHO:Fits x.bHO
 each:∀ m∈x.bHO,cX m
 repair:jP x.repair
 target:x.target.Ok
 bIB:x.bIB.Ok
structure aE.Ok (f:aE):Prop where
 bHY:Fits f.bHY
 bHO:Fits f.bHO
 bHR:Fits f.bHR
 bHN:Fits f.bHN
 bHS:Fits f.bHS
 bHQ:Fits f.bHQ
 law:∀ x∈f.bHY,x.Ok
 dom:∀ x∈f.bHR,x.bIH.Ok∧cX x.level∧cX x.parent
 drive:∀ x∈f.bHN,cX x.model∧cX x.machine
 bID:∀ x∈f.bHS,x.Ok
 volume:∀ x∈f.bHQ,cX x.bID
def nT (x:RF):FR:=if cN (val x.num) (val x.den) then hC x.neg (val x.num) (val x.den) else .error 1
theorem a8U (x:RF):RX x.neg (val x.num) (val x.den)=frV (nT x):=by
 unfold RX nT
 split
 ·exact alD _ _ _
 ·rfl
def cL (x:RF):Bool:=match nT x with
 | .ok (n,a,b)=>!n&&(decide (cF a≤32)&&decide (cF b≤32))
 | .error _=>false
def bJ (x:RF):Bool:=decide (val x.num≠0)
def vJ (x:RF):Bool:=cN (val x.num) (val x.den)&&decide (oQ x.neg (val x.num) (val x.den) false 1 1≤0)
def within (n lo hi:Int):Bool:=decide (lo≤n)&&decide (n≤hi)
def cD (R:List Bool) (i:Nat) (row:List RF):Nat→List Bool
 | 0=>R
 | k+1=>let R':=cD R i row k
  R'.set i (R'.getD i false||(row.map bJ).getD k false&&R'.getD k false)
def kA (l:bX) (R:List Bool) (i:Nat):List Bool :=
 cD (R.set i (R.getD i false||(l.exit.map bJ).getD i false)) i (l.bHT.getD i []) (l.bHT.getD i []).length
def cP (l:bX) (R:List Bool):Nat→List Bool
 | 0=>R
 | i+1=>kA l (cP l R i) i
def cQ (l:bX):Nat→List Bool
 | 0=>bJY l.exit.length false
 | r+1=>cP l (cQ l r) l.exit.length
def nY (l:bX):Bool:=(cQ l (l.exit.length+1)).all id
def jU (l:bX):Bool :=
 within l.start.length 1 4&&decide (l.exit.length=l.start.length)&&decide (l.bHT.length=l.start.length)&&l.start.all cL&&l.exit.all cL
 && (bJU l.bHT.length).all (fun i=>decide ((l.bHT.getD i []).length=l.start.length)&&(l.bHT.getD i []).all cL&&!((l.bHT.getD i []).map bJ).getD i false)
 && (match mU (l.start.map RF.v) with
  | .ok (n,a,b)=>decide (oQ n a b false 1 1=0)
  | .error _=>false)&&nY l
def distinct (l:List (List UInt8)):Bool:=(bJU l.length).all fun i=>isName (l.getD i [])&&!(l.take i).contains (l.getD i [])
def EZ (f:aE) (i:Nat) (d:cH):Bool :=
 within d.parent 0 i&&decide ((f.bHR.map cH.level).getD d.parent.toNat 0=IntKind.i64.wrap (d.level-1))&&within d.level 1 4&&within d.bIP 1 64&&cL d.bIH
def zE (f:aE) (r:cH) (t:List cH):Bool :=
 decide (r.name=[])&&decide (r.level=0)&&decide (r.parent=-1)&&decide (r.bIP=0)&&cL r.bIH&&!bJ r.bIH
  && (bJU t.length).all fun i=>match t[i]? with
   | some d=>EZ f i d
   | none=>false
def nB (f:aE):Bool:=match f.bHR with
 | []=>false
 | r::t=>zE f r t
def HP (p:cJ):Bool :=
 within p.k 1 6&&within p.m 0 4&&decide (p.k+p.m≤8)&&within p.bIT p.k (p.k+p.m)&&decide (p.s0=0)&&([p.s0,p.s1,p.s2,p.s3,p.s4].all fun n=>within n 0 8)
def zR (p:cJ):Bool :=
 decide ((p.repair.length:Int)=max p.m 1)&&(p.repair.all fun x=>cL x&&bJ x)&&cL p.target&&vJ p.target&&cL p.bIB
def jD (bHO:Nat) (p:cJ):Bool :=
 HP p&&decide (p.bHO.length≠0)&&zR p&&(bJU p.bHO.length).all fun j=>within (p.bHO.getD j 0) 0 ((bHO:Int)-1)&&!(p.bHO.take j).contains (p.bHO.getD j 0)
def jV (f:aE) (m:cK):Bool:=within m.bIJ 1 16&&within m.port 1 64&&within m.law 0 ((f.bHY.length:Int)-1)
def hJ (f:aE) (d:cY):Bool:=within d.model 0 ((f.bHO.length:Int)-1)&&within d.machine 0 ((f.bHR.length:Int)-1)&&decide ((f.bHR.map cH.level).getD d.machine.toNat 0=4)
def nF (f:aE) (v:eM):Bool:=within v.bID 0 ((f.bHS.length:Int)-1)
def mS (f:aE):Bool:=within f.bJD 1 4&&decide (f.bHY.length≤4)&&decide (f.bHO.length≤4)&&decide (f.bHR.length≤40)&&decide (f.bHN.length≤24)&&decide (f.bHS.length≤4)&&decide (f.bHQ.length≤12)
def cV (f:aE):Bool :=
 mS f&&nB f&&(f.bHY.all jU&&f.bHO.all (jV f)&&f.bHN.all (hJ f)&&f.bHS.all (jD f.bHO.length)&&f.bHQ.all (nF f))
 && (distinct (f.bHY.map bX.name)&&distinct (f.bHO.map cK.name)&&distinct ((f.bHR.drop 1).map cH.name++f.bHN.map cY.name)&&distinct (f.bHS.map cJ.name)&&distinct (f.bHQ.map eM.name))
theorem aY {t:Nat} {b b':Bool} {F:PF} {H:PH} (h:F t=some (.bool b)) (e:b=b'):aR [.tmp t] (bQ (.bool b')) .ret F H:=by
 subst e
 exact aV (.inr rfl) .nil (vs:=[.bool b]) (by rw[lD,nP,h,pK]) PH.nil_le ⟨.refl _,rfl⟩
theorem bwS {C:Ctx} (n lo hi:Int):xW.wp C (aR gin.res (bQ (.bool (within n lo hi)))) (PF.args [.int .i64 n,.int .i64 lo,.int .i64 hi]) .nil:=by
 by_cases a:lo≤n
 ·by_cases b:n≤hi
  ·simp only[go_sem,γ,reduceCtorEq,xW,abU,abV,gin,show n≥lo from a,b]
   exact aY rfl (by simp[within,a,b])
  ·simp only[go_sem,γ,reduceCtorEq,xW,abU,abV,gin,show n≥lo from a,b]
   exact aY rfl (by simp[within,a,b])
 ·have a':¬ n≥lo:=a
  simp only[go_sem,γ,reduceCtorEq,xW,abU,abV,gin,a']
  exact aY rfl (by simp[within,a])
theorem bcF {C:Ctx} (L:rN C) (x:RF) (hx:x.Ok):AX.wp C (aR abS.res (bQ (.bool (bJ x)))) (PF.args [.agg x.cells]) .nil:=by
 simp only[go_sem,δ,γ,θ,AX,anQ,anR,abS]
 refine aA (L.bits x.num hx.1 hx.2.2.1) rfl ?_
 simp only[go_sem,γ]
 refine aY rfl ?_
 have:=@jS (val x.num)
 rw[bJ,decide_eq_decide]
 omega
structure ayH (C:Ctx):Prop extends ES C where
 frac:∀ n d:Int,cX n→cX d→aI C 115 [.int .i64 n,.int .i64 d] .nil (aD (acM n d))
 red:∀ x:RF,x.Ok→aI C 116 [.agg x.cells] .nil (aD (frV (nT x)))
 ord:∀ x y:RF,x.Ok→y.Ok→aI C 114 [.agg x.cells,.agg y.cells] .nil (aD (zF x.neg (val x.num) (val x.den) y.neg (val y.num) (val y.den)))
 plus:∀ x y:RF,x.Ok→y.Ok→aI C 113 [.agg x.cells,.agg y.cells] .nil (aD (frV (gJ x.v y.v)))
 tot:∀ l:List RF,jP l→aI C 117 [frs l] .nil (aD (frV (mU (l.map RF.v))))
theorem GK {neg:Bool} {a b:Nat} {e:Int} (h:hC neg a b=.error e):e=2:=by
 unfold hC at h
 split at h
 ·injection h with h; exact h.symm
 ·cases h
theorem aJU {x:RF} {e:Int} (h:nT x=.error e):e≠0:=by
 unfold nT at h
 split at h
 ·rw[GK h]; decide
 ·injection h with h; subst h; decide
theorem buH {x:RF} {r:FV} (h:nT x=.ok r):r.rf.Ok:=by
 unfold nT at h
 split at h
 ·exact (sA h).2
 ·cases h
theorem bsA {C:Ctx} (L:ayH C) (x:RF) (hx:x.Ok):MO.wp C (aR a5A.res (bQ (.bool (cL x)))) (PF.args [.agg x.cells]) .nil:=by
 simp only[go_sem,δ,γ,MO,aVP,aVQ,a5A]
 refine aA (L.red x hx) rfl ?_
 unfold cL
 cases hr:nT x with
 | error e =>
  have:=bF (aJU hr)
  simp only[go_sem,δ,γ,frV]
  refine aO fun o ho=>?_
  simp only[go_sem,δ,γ,reduceCtorEq,RL,this]
  exact aY rfl rfl
 | ok r =>
  obtain⟨n,a,b⟩:=r
  obtain⟨l1,l2,l3,l4⟩:=buH hr
  simp only[go_sem,δ,γ,frV]
  refine aO fun o ho=>?_
  cases n with
  | true =>
   simp only[go_sem,ρ,δ,γ,θ,reduceCtorEq,RL]
   exact aY rfl rfl
  | false =>
   simp only[go_sem,ρ,δ,γ,θ,RL]
   refine aA (L.bits _ l1 l3) rfl ?_
   rw[show val (FV.rf (false,a,b)).num=a from aQ a]
   by_cases c1:cF a≤32
   ·have c1':((cF a:Nat):Int)≤32:=by omega
    simp only[go_sem,δ,γ,c1']
    refine aA (L.bits _ l2 l4) rfl ?_
    rw[show val (FV.rf (false,a,b)).den=b from aQ b]
    simp only[go_sem,γ]
    refine aY rfl ?_
    rw[decide_eq_true c1]
    simp
    omega
   ·have c1':¬ ((cF a:Nat):Int)≤32:=by omega
    simp only[go_sem,γ,reduceCtorEq,c1']
    refine aY rfl ?_
    rw[decide_eq_false c1]
    rfl
theorem aGB:hC false 1 1=.ok (false,1,1):=by
 have:cF 1=1:=by rw[oJ (by decide),jI]
 simp[hC,this]
theorem aGD:acM 1 1=frV (.ok (false,1,1)):=by
 rw[acM,if_neg (by decide),alD]
 show frV (hC false 1 1)=_
 rw[aGB]
theorem bfE:(FV.rf (false,1,1)).Ok:=(sA aGB).2
theorem awD:cN 1 1=true:=by
 have:cF 1=1:=by rw[oJ (by decide),jI]
 simp[cN,this]
theorem bsE {C:Ctx} (L:ayH C) (x:RF) (hx:x.Ok):MQ.wp C (aR gone.res (bQ (.bool (vJ x)))) (PF.args [.agg x.cells]) .nil:=by
 simp only[go_sem,MQ,aVU,aVV,gone]
 refine aA (L.frac 1 1 (by decide) (by decide)) rfl ?_
 rw[aGD]
 simp only[go_sem,δ,γ,frV]
 refine aO fun o ho=>?_
 simp only[go_sem,δ,γ,aVW]
 refine aA (L.ord x (FV.rf (false,1,1)) hx bfE) rfl ?_
 rw[show val (FV.rf (false,1,1)).num=1 from aQ 1,show val (FV.rf (false,1,1)).den=1 from aQ 1,show (FV.rf (false,1,1)).neg=false from rfl]
 unfold zF vJ
 rw[awD,bMF]
 cases hv:cN (val x.num) (val x.den) with
 | false =>
  simp only[go_sem,ρ,γ,reduceCtorEq,akV]
  exact aY rfl rfl
 | true =>
  simp only[go_sem,ρ,γ,akV]
  exact aY rfl rfl
theorem bkP {C:Ctx} (p:RF→Bool) (fn:Nat) (l:List RF) (hf:Fits l) (h:∀ x∈l,aI C fn [.agg x.cells] .nil (aD (.bool (p x)))) :
  FM.wp C (aR ayN.res (bQ (.bool (l.all p)))) (PF.args [frs l,.fn fn []]) .nil:=by
 simp only[go_sem,γ,reduceCtorEq,FM,aCN,aCO,ayN]
 refine wp_loop (α:=Nat) (fun k=>((((PF.nil.set 1 (.fn fn [])).set 7 (frs l)).set 8 (.int .i64 (l.length:Nat))).set 9 (.int .i64 k))) (fun _=>.nil) (fun k=>k≤l.length∧(l.take k).all p=true) (fun k=>l.length-k) 0 ⟨bKA _,rfl⟩ ?_ PH.nil_le ?_
 ·(repeat' (first|exact PF.nil_le|refine PF.aG ?_ ?_))<;>first|(simp only[go_sem,γ,bJT]<;>rfl)|rfl
 rintro k ⟨hk,ha⟩
 simp only[go_sem,γ,aCM,aCP]
 by_cases hlt:k<l.length
 ·have bHV:(k:Int)<(l.length:Nat):=by omega
  have hr:(l.map RF.cells)[k]?=some (l[k]).cells:=by simp[hlt]
  simp only[go_sem,δ,γ,bHV,aCQ,hr]
  refine aO fun o ho=>?_
  simp only[go_sem,δ,γ,aCR]
  refine⟨fn,[],rfl,?_⟩
  refine aA (h _ (bJZ hlt)) rfl ?_
  cases hp:p l[k] with
  | false =>
   simp only[go_sem,γ,aCS]
   exact aY (b:=false) rfl (oI (p:=p) hlt hp).symm
  | true =>
   simp only[go_sem,γ,aCT,ws k]
   refine aC (k+1) ⟨hlt,bKP.1 (oH hlt ha hp)⟩ Om ?_ PH.nil_le
   exact Lq
 ·have bHV:¬ (k:Int)<(l.length:Nat):=by omega
  simp only[go_sem,bHV,aCU]
  have:k=l.length:=by omega
  subst this
  rw[bKL (bKB _)] at ha
  exact aY rfl ha.symm
theorem bkR {C:Ctx} (p:Int→Bool) (fn:Nat) (l:List Int) (hf:Fits l) (h:∀ x∈l,aI C fn [.int .i64 x] .nil (aD (.bool (p x)))) :
  FN.wp C (aR ayO.res (bQ (.bool (l.all p)))) (PF.args [ints l,.fn fn []]) .nil:=by
 simp only[go_sem,γ,reduceCtorEq,FN,aCW,aCX,ayO]
 refine wp_loop (α:=Nat) (fun k=>((((PF.nil.set 1 (.fn fn [])).set 7 (ints l)).set 8 (.int .i64 (l.length:Nat))).set 9 (.int .i64 k))) (fun _=>.nil) (fun k=>k≤l.length∧(l.take k).all p=true) (fun k=>l.length-k) 0 ⟨bKA _,rfl⟩ ?_ PH.nil_le ?_
 ·(repeat' (first|exact PF.nil_le|refine PF.aG ?_ ?_))<;>first|(simp only[go_sem,γ,bJT]<;>rfl)|rfl
 rintro k ⟨hk,ha⟩
 simp only[go_sem,γ,aCV,aCY]
 by_cases hlt:k<l.length
 ·have bHV:(k:Int)<(l.length:Nat):=by omega
  have hr:(l.map fun n=>[PV.int .i64 n])[k]?=some [.int .i64 l[k]]:=by simp[hlt]
  simp only[go_sem,γ,bHV,aCZ,hr,aDA]
  refine⟨fn,[],rfl,?_⟩
  refine aA (h _ (bJZ hlt)) rfl ?_
  cases hp:p l[k] with
  | false =>
   simp only[go_sem,γ,aDB]
   exact aY (b:=false) rfl (oI (p:=p) hlt hp).symm
  | true =>
   simp only[go_sem,γ,aDC,ws k]
   refine aC (k+1) ⟨hlt,bKP.1 (oH hlt ha hp)⟩ Om ?_ PH.nil_le
   exact Lq
 ·have bHV:¬ (k:Int)<(l.length:Nat):=by omega
  simp only[go_sem,bHV,aDD]
  have:k=l.length:=by omega
  subst this
  rw[bKL (bKB _)] at ha
  exact aY rfl ha.symm
abbrev a3Z (l:List Bool):PV:=.sl 1 (l.map fun b=>[PV.bool b])
theorem bkN {C:Ctx} (p:Bool→Bool) (fn:Nat) (l:List Bool) (hf:Fits l) (h:∀ x∈l,aI C fn [.bool x] .nil (aD (.bool (p x)))) :
  FL.wp C (aR ayM.res (bQ (.bool (l.all p)))) (PF.args [a3Z l,.fn fn []]) .nil:=by
 simp only[go_sem,γ,reduceCtorEq,FL,aCE,aCF,ayM]
 refine wp_loop (α:=Nat) (fun k=>((((PF.nil.set 1 (.fn fn [])).set 7 (a3Z l)).set 8 (.int .i64 (l.length:Nat))).set 9 (.int .i64 k))) (fun _=>.nil) (fun k=>k≤l.length∧(l.take k).all p=true) (fun k=>l.length-k) 0 ⟨bKA _,rfl⟩ ?_ PH.nil_le ?_
 ·(repeat' (first|exact PF.nil_le|refine PF.aG ?_ ?_))<;>first|(simp only[go_sem,γ,bJT]<;>rfl)|rfl
 rintro k ⟨hk,ha⟩
 simp only[go_sem,γ,aCD,aCG]
 by_cases hlt:k<l.length
 ·have bHV:(k:Int)<(l.length:Nat):=by omega
  have hr:(l.map fun b=>[PV.bool b])[k]?=some [.bool l[k]]:=by simp[hlt]
  simp only[go_sem,γ,bHV,aCH,hr,aCI]
  refine⟨fn,[],rfl,?_⟩
  refine aA (h _ (bJZ hlt)) rfl ?_
  cases hp:p l[k] with
  | false =>
   simp only[go_sem,γ,aCJ]
   exact aY (b:=false) rfl (oI (p:=p) hlt hp).symm
  | true =>
   simp only[go_sem,γ,aCK,ws k]
   refine aC (k+1) ⟨hlt,bKP.1 (oH hlt ha hp)⟩ Om ?_ PH.nil_le
   exact Lq
 ·have bHV:¬ (k:Int)<(l.length:Nat):=by omega
  simp only[go_sem,bHV,aCL]
  have:k=l.length:=by omega
  subst this
  rw[bKL (bKB _)] at ha
  exact aY rfl ha.symm
theorem bcH {C:Ctx} (b:Bool):AY.wp C (aR abT.res (bQ (.bool b))) (PF.args [.bool b]) .nil:=by
 simp only[go_sem,γ,reduceCtorEq,AY,anS,anT,abT]
 exact aY rfl rfl
theorem bkW {C:Ctx} (hin:∀ n lo hi:Int,aI C 104 [.int .i64 n,.int .i64 lo,.int .i64 hi] .nil (aD (.bool (within n lo hi)))) (n:Int):FS.wp C (aR ayQ.res (bQ (.bool (within n 0 8)))) (PF.args [.int .i64 n]) .nil:=by
 simp only[go_sem,reduceCtorEq,FS,aDQ,aDR,ayQ]
 refine aA (hin n 0 8) rfl ?_
 simp only[go_sem,γ]
 exact aY rfl rfl
theorem bcK {C:Ctx} (h1:∀ x:RF,x.Ok→aI C 105 [.agg x.cells] .nil (aD (.bool (cL x)))) (h2:∀ x:RF,x.Ok→aI C 97 [.agg x.cells] .nil (aD (.bool (bJ x)))) (x:RF) (hx:x.Ok) :
  AZ.wp C (aR abW.res (bQ (.bool (cL x&&bJ x)))) (PF.args [.agg x.cells]) .nil:=by
 simp only[go_sem,δ,γ,AZ,anY,anZ,abW]
 refine aA (h1 x hx) rfl ?_
 cases hl:cL x with
 | false =>
  simp only[go_sem,γ,reduceCtorEq]
  exact aY rfl rfl
 | true =>
  simp only[go_sem,δ,γ]
  refine aA (h2 x hx) rfl ?_
  simp only[go_sem,γ]
  exact aY rfl rfl
structure rK (C:Ctx):Prop extends ayH C where
 inn:∀ n lo hi:Int,aI C 104 [.int .i64 n,.int .i64 lo,.int .i64 hi] .nil (aD (.bool (within n lo hi)))
 kG:∀ x:RF,x.Ok→aI C 97 [.agg x.cells] .nil (aD (.bool (bJ x)))
 lim:∀ x:RF,x.Ok→aI C 105 [.agg x.cells] .nil (aD (.bool (cL x)))
 one:∀ x:RF,x.Ok→aI C 101 [.agg x.cells] .nil (aD (.bool (vJ x)))
 allf:∀ (p:RF→Bool) (fn:Nat) (l:List RF),Fits l→(∀ x∈l,aI C fn [.agg x.cells] .nil (aD (.bool (p x))))→aI C 99 [frs l,.fn fn []] .nil (aD (.bool (l.all p)))
 alli:∀ (p:Int→Bool) (fn:Nat) (l:List Int),Fits l→(∀ x∈l,aI C fn [.int .i64 x] .nil (aD (.bool (p x))))→aI C 100 [ints l,.fn fn []] .nil (aD (.bool (l.all p)))
 allb:∀ (p:Bool→Bool) (fn:Nat) (l:List Bool),Fits l→(∀ x∈l,aI C fn [.bool x] .nil (aD (.bool (p x))))→aI C 98 [a3Z l,.fn fn []] .nil (aD (.bool (l.all p)))
 ends1:∀ b:Bool,aI C 103 [.bool b] .nil (aD (.bool b))
 num1:∀ n:Int,aI C 107 [.int .i64 n] .nil (aD (.bool (within n 0 8)))
 rate1:∀ x:RF,x.Ok→aI C 109 [.agg x.cells] .nil (aD (.bool (cL x&&bJ x)))
 name:∀ s:List UInt8,aI C 123 [.str s] .nil (aD (.bool (isName s)))
theorem rK.blN {C:Ctx} (L:rK C) (l:List RF) (h:jP l):aI C 99 [frs l,.fn 105 []] .nil (aD (.bool (l.all cL))) :=
 L.allf cL 105 l h.fits fun x hx=>L.lim x (h.all x hx)
theorem within_iff {n lo hi:Int}:within n lo hi=true↔lo≤n∧n≤hi:=by simp[within]
theorem bsC {C:Ctx} (L:rK C) (p:cJ) (hp:p.Ok) :
  MP.wp C (aR a5B.res (bQ (.bool (HP p)))) (PF.args [.int .i64 p.k,.int .i64 p.m,.int .i64 p.bIT,.agg [.int .i64 p.s0,.int .i64 p.s1,.int .i64 p.s2,.int .i64 p.s3,.int .i64 p.s4]]) .nil:=by
 simp only[go_sem,reduceCtorEq,MP,aVR,aVS,a5B]
 refine aA (L.inn p.k 1 6) rfl ?_
 unfold HP
 cases h1:within p.k 1 6 with
 | false =>
  simp only[go_sem,γ,bKF,xF]
  exact aY rfl (by simp only[bKC])
 | true =>
  obtain⟨k1,k2⟩:=within_iff.1 h1
  simp only[go_sem,γ,bJW]
  refine aA (L.inn p.m 0 4) rfl ?_
  cases h2:within p.m 0 4 with
  | false =>
   simp only[go_sem,γ,reduceCtorEq,bKF,xF]
   exact aY rfl (by simp only[bKC,bLE])
  | true =>
   obtain⟨m1,m2⟩:=within_iff.1 h2
   have hw:IntKind.i64.wrap (p.k+p.m)=p.k+p.m:=wrap_i64 Om Om
   by_cases h3:p.k+p.m≤8
   ·have h3':¬ p.k+p.m>8:=by omega
    simp only[go_sem,γ,reduceCtorEq,bJW,hw,h3']
    refine aA (L.inn p.bIT p.k (p.k+p.m)) rfl ?_
    cases h4:within p.bIT p.k (p.k+p.m) with
    | false =>
     simp only[go_sem,γ,reduceCtorEq,bKF,xF]
     exact aY rfl (by simp only[bKC,bLE])
    | true =>
     have h50:(0:Int)<((5:Nat):Int):=by decide
     by_cases h5:p.s0=0
     ·have hch:chunks 1 5 [PV.int .i64 p.s0,.int .i64 p.s1,.int .i64 p.s2,.int .i64 p.s3,.int .i64 p.s4]=([p.s0,p.s1,p.s2,p.s3,p.s4].map fun n=>[PV.int .i64 n]):=rfl
      have hm:5≤maxLen:=by decide
      simp only[go_sem,ν,δ,γ,η,θ,ζ,reduceCtorEq,bJW,h50,bY h5,aVT,hch,hm]
      refine aA (L.alli (fun n=>within n 0 8) 107 [p.s0,p.s1,p.s2,p.s3,p.s4] (show 5≤9223372036854775807 by decide) fun x _=>L.num1 x) rfl ?_
      simp only[go_sem,γ]
      exact aY rfl (by rw[decide_eq_true h3,decide_eq_true h5]; simp only[bKJ])
     ·simp only[go_sem,ν,δ,γ,θ,ζ,reduceCtorEq,bJW,h50,cT h5,xF]
      exact aY rfl (by rw[decide_eq_false h5]; simp only[bKC,bLE])
   ·have h3':p.k+p.m>8:=by omega
    simp only[go_sem,γ,reduceCtorEq,bJW,hw,h3',xF]
    exact aY rfl (by rw[decide_eq_false h3]; simp only[bKC,bLE])
theorem max_eq (a b:Int):(if a<b then b else a)=max a b:=by
 rw[Int.max_def]
 by_cases h:a<b
 ·rw[if_pos h,if_pos Om]
 ·by_cases h':a≤b
  ·rw[if_neg h,if_pos h']; omega
  ·rw[if_neg h,if_neg h']
theorem bkY {C:Ctx} (L:rK C) (p:cJ) (hp:p.Ok) :
  FT.wp C (aR ayR.res (bQ (.bool (zR p)))) (PF.args [.int .i64 p.m,frs p.repair,.agg p.target.cells,.agg p.bIB.cells]) .nil:=by
 simp only[go_sem,γ,reduceCtorEq,FT,aDV,aDW,ayR,max_eq,bJT]
 unfold zR
 by_cases h1:(p.repair.length:Int)=max p.m 1
 ·simp only[go_sem,γ,bP h1]
  refine aA (L.allf (fun x=>cL x&&bJ x) 109 p.repair hp.repair.fits fun x hx=>L.rate1 x (hp.repair.all x hx)) rfl ?_
  rw[decide_eq_true h1,bKJ]
  cases h2:p.repair.all fun x=>cL x&&bJ x with
  | false =>
   simp only[go_sem,γ,reduceCtorEq]
   exact aY rfl rfl
  | true =>
   simp only[go_sem,δ,γ]
   refine aA (L.lim _ hp.target) rfl ?_
   cases h3:cL p.target with
   | false =>
    simp only[go_sem,γ,reduceCtorEq]
    exact aY rfl rfl
   | true =>
    simp only[go_sem,δ,γ]
    refine aA (L.one _ hp.target) rfl ?_
    cases h4:vJ p.target with
    | false =>
     simp only[go_sem,γ,reduceCtorEq]
     exact aY rfl rfl
    | true =>
     simp only[go_sem,δ,γ]
     refine aA (L.lim _ hp.bIB) rfl ?_
     simp only[go_sem,γ]
     exact aY rfl rfl
 ·simp only[go_sem,γ,reduceCtorEq,bF h1]
  exact aY rfl (by rw[decide_eq_false h1]; rfl)
def pM (l:List (List UInt8)) (k:List KS):Option PV:=match k with
 | [.str s]=>if l.contains s then some (.bool true) else none
 | _=>none
theorem bgG (l:List (List UInt8)) (s:List UInt8):(fun k=>if k=[KS.str s] then some (PV.bool true) else pM l k)=pM (l++[s]):=by
 funext k
 match k with
 | []=>rfl
 | [.int a b]=>simp[pM]
 | [.bool a]=>simp[pM]
 | [.str t] =>
  by_cases h:t=s
  ·subst h; simp[pM]
  ·simp[pM,h]
 | a::b::c=>simp[pM]
abbrev texts (l:List (List UInt8)):PV:=.sl 1 (l.map fun s=>[PV.str s])
theorem bgF:pM []=(fun _=>none:lH):=by
 funext k
 match k with
 | []=>rfl
 | [.int a b]=>rfl
 | [.bool a]=>rfl
 | [.str t]=>rfl
 | a::b::c=>cases a<;>rfl
theorem bgH (l:List (List UInt8)) (s:List UInt8):lH.upd (pM l) [KS.str s] (.bool true)=pM (l++[s]):=bgG l s
theorem aKE (l:List (List UInt8)) (s:List UInt8):(pM l [KS.str s]).getD (.bool false)=.bool (l.contains s):=by
 show (if l.contains s then some (PV.bool true) else none).getD (.bool false)=_
 cases l.contains s<;>rfl
theorem amH {p:Nat→Bool} {k:Nat} (h:(bJU k).all p=true) (hp:p k=true):(bJU (k+1)).all p=true:=by
 rw[List.range_succ,List.all_append,h]; simp[hp]
theorem dM {p:Nat→Bool} {n k:Nat} (hk:k<n) (hp:p k=false):(bJU n).all p=false:=by
 rw[List.all_eq_false]
 exact⟨k,bLN.2 hk,by simp[hp]⟩
def nU (p:Nat→Bool) (k:Nat):Prop:=(bJU k).all p=true
theorem nU.zero {p:Nat→Bool}:nU p 0:=rfl
theorem nU.step {p:Nat→Bool} {k:Nat} (h:nU p k) (hp:p k=true):nU p (k+1):=amH h hp
def baB (l:List (List UInt8)) (o k:Nat):PF:=((((PF.nil.set 3 (.map o)).set 7 (texts l)).set 8 (.int .i64 (l.length:Nat))).set 9 (.int .i64 k))
theorem blB {C:Ctx} (L:rK C) (l:List (List UInt8)) (hf:Fits l):FU.wp C (aR ayS.res (bQ (.bool (distinct l)))) (PF.args [texts l]) .nil:=by
 simp only[go_sem,FU,aEC,aED,ayS]
 refine aO fun o ho=>?_
 simp only[go_sem,γ,reduceCtorEq,aEE]
 have e0:(PH.nil.set o (.map (false,[.str]) (fun _=>none)))=PH.nil.set o (.map (false,[.str]) (pM (l.take 0))):=by rw[List.take_zero,bgF]
 unfold distinct
 generalize hp:(fun i=>isName (l.getD i [])&&!(l.take i).contains (l.getD i []))=p
 have hpk:∀ k (h:k<l.length),p k=(isName l[k]&&!(l.take k).contains l[k]):=by
  intro k h
  rw[← hp]
  simp only[bKK,bKG h,bLX]
 refine wp_loop (α:=Nat) (fun k=>baB l o k) (fun k=>PH.nil.set o (.map (false,[.str]) (pM (l.take k)))) (fun k=>k≤l.length∧nU p k) (fun k=>l.length-k) 0 ⟨bKA _,.zero⟩ ?_ ?_ ?_
 ·unfold baB
  (repeat' (first|exact PF.nil_le|refine PF.aG ?_ ?_))<;>first|(simp only[go_sem,γ,bJT]<;>rfl)|rfl
 ·rw[e0]; exact PH.le_refl
 rintro k ⟨hk,ha⟩
 simp only[go_sem,γ,aEB,aEF,baB]
 by_cases hlt:k<l.length
 ·have bHV:(k:Int)<(l.length:Nat):=by omega
  have hr:(l.map fun s=>[PV.str s])[k]?=some [.str l[k]]:=by simp[hlt]
  simp only[go_sem,γ,bHV,aEG,hr,aEH]
  refine aA (L.name l[k]) rfl ?_
  have hk2:=hpk k hlt
  cases h1:isName l[k] with
  | false =>
   rw[h1,bKC] at hk2
   simp only[go_sem,γ,bKF,WH]
   exact aY (b:=false) rfl (dM hlt hk2).symm
  | true =>
   rw[h1,bKJ] at hk2
   cases h2:(l.take k).contains l[k] with
   | true =>
    rw[h2] at hk2
    simp only[go_sem,γ,reduceCtorEq,bJW,aKE,h2,WH]
    exact aY (b:=false) rfl (dM hlt hk2).symm
   | false =>
    rw[h2] at hk2
    simp only[go_sem,γ,reduceCtorEq,bJW,aKE,h2,aEI,bgH,aEJ,ws k]
    refine aC (k+1) ⟨hlt,ha.step hk2⟩ Om ?_ ?_
    ·exact Lq
    ·rw[bLY hlt]
     exact PH.aG PH.nil_le Sq
 ·have bHV:¬ (k:Int)<(l.length:Nat):=by omega
  simp only[go_sem,bHV,aoA]
  have:k=l.length:=by omega
  subst this
  exact aY (b:=true) rfl (show nU p l.length from ha).symm
def marks (n:Nat) (l:List Int):List Bool:=(bJU n).map fun (i:Nat)=>l.contains (i:Int)
theorem bdY (n:Nat) (l:List Int):(marks n l).length=n:=by simp[marks]
theorem apF (n:Nat):marks n []=bJY n false:=by
 refine bMR (by simp[marks]) fun i h1 h2=>by simp[marks]
theorem XA {n:Nat} {l:List Int} {m:Int} (h0:0≤m) (h1:m<n):(marks n l)[m.toNat]?=some (l.contains m):=by
 have:m.toNat<n:=by omega
 simp only[marks,bLC,List.getElem?_range this,bKZ]
 rw[Int.toNat_of_nonneg h0]
theorem apH {n:Nat} {l:List Int} {m:Int} (h0:0≤m) (h1:m<n):(marks n l).set m.toNat true=marks n (l++[m]):=by
 refine bMR (by simp[marks]) fun i h2 h3=>?_
 simp only[marks,bLI,List.getElem_range,List.getElem_set,List.contains_append]
 by_cases h:m.toNat=i
 ·subst h
  rw[if_pos rfl,Int.toNat_of_nonneg h0]; simp
 ·have hne:((i:Nat):Int)≠m:=by omega
  rw[if_neg h]; simp[hne]
abbrev eP (l:List Bool):List (List PV):=l.map fun b=>[PV.bool b]
theorem kO (l:List Bool) (i:Nat) (b:Bool):(eP l).set i [.bool b]=eP (l.set i b):=by unfold eP; rw[List.map_set]
structure azY (C:Ctx):Prop extends rK C where
 num:∀ p:cJ,p.Ok→aI C 106 [.int .i64 p.k,.int .i64 p.m,.int .i64 p.bIT,.agg [.int .i64 p.s0,.int .i64 p.s1,.int .i64 p.s2,.int .i64 p.s3,.int .i64 p.s4]] .nil (aD (.bool (HP p)))
 rate:∀ p:cJ,p.Ok→aI C 108 [.int .i64 p.m,frs p.repair,.agg p.target.cells,.agg p.bIB.cells] .nil (aD (.bool (zR p)))
 uniq:∀ l:List (List UInt8),Fits l→aI C 110 [texts l] .nil (aD (.bool (distinct l)))
def bnM (p:cJ) (bHO:Nat) (o k:Nat):PF:=(((((PF.nil.set 1 (.int .i64 bHO)).set 5 (.osl o 1 0 bHO)).set 39 (ints p.bHO)).set 40 (.int .i64 (p.bHO.length:Nat))).set 41 (.int .i64 k))
theorem bsG {C:Ctx} (L:azY C) (p:cJ) (hp:p.Ok) (bHO:Nat) (hm:bHO≤4):MR.wp C (aR a5C.res (bQ (.bool (jD bHO p)))) (PF.args [.agg p.cells,.int .i64 bHO]) .nil:=by
 simp only[go_sem,δ,γ,θ,MR,aVX,aVY,a5C]
 refine aA (L.num p hp) rfl ?_
 unfold jD
 cases h1:HP p with
 | false =>
  simp only[go_sem,γ,bKF,RM]
  exact aY rfl (by simp only[bKC])
 | true =>
  by_cases h2:p.bHO.length=0
  ·simp only[go_sem,δ,γ,θ,reduceCtorEq,bJW,bJT,bP (Om:((p.bHO.length:Nat):Int)=0),RM]
   refine aY rfl ?_
   have:decide (p.bHO.length≠0)=false:=by simp[h2]
   rw[this]; simp only[bKC,bLE]
  ·have h2':decide (p.bHO.length≠0)=true:=by simp[h2]
   simp only[go_sem,δ,γ,θ,reduceCtorEq,bJW,bJT,bF (Om:((p.bHO.length:Nat):Int)≠0)]
   refine aA (L.rate p hp) rfl ?_
   rw[h2']
   cases h3:zR p with
   | false =>
    simp only[go_sem,γ,reduceCtorEq,bKF,RM]
    exact aY rfl (by simp only[bKC,bLE])
   | true =>
    have hb1:((bHO:Nat):Int)*((1:Nat):Int)≤140737488355328:=by omega
    have hb2:((bHO:Nat):Int)≤9223372036854775807:=by omega
    simp only[bKJ]
    simp only[go_sem,γ,reduceCtorEq,bJW,aVZ,hb1,hb2]
    refine aO fun o ho=>?_
    simp only[go_sem,δ,γ,θ,aWA]
    have e0:bJY bHO [PV.bool false]=eP (marks bHO (p.bHO.take 0)):=by
     rw[List.take_zero,apF]; simp[eP]
    rw[e0]
    generalize hq:(fun j=>within (p.bHO.getD j 0) 0 ((bHO:Int)-1)&&!(p.bHO.take j).contains (p.bHO.getD j 0))=q
    have hqk:∀ k (h:k<p.bHO.length),q k=(within p.bHO[k] 0 ((bHO:Int)-1)&&!(p.bHO.take k).contains p.bHO[k]):=by
     intro k h
     rw[← hq]
     simp only[bKK,bKG h,bLX]
    refine wp_loop (α:=Nat) (fun k=>bnM p bHO o k) (fun k=>PH.nil.set o (.rows 1 (eP (marks bHO (p.bHO.take k))))) (fun k=>k≤p.bHO.length∧nU q k) (fun k=>p.bHO.length-k) 0 ⟨bKA _,.zero⟩ ?_ (PH.le_refl) ?_
    ·unfold bnM
     (repeat' (first|exact PF.nil_le|refine PF.aG ?_ ?_))<;>first|(simp only[go_sem,γ,bJT]<;>rfl)|rfl
    rintro k ⟨hk,ha⟩
    simp only[go_sem,γ,aDS,aWB,bnM]
    have bJE:=hp.bHO
    by_cases hlt:k<p.bHO.length
    ·have bHV:(k:Int)<(p.bHO.length:Nat):=by omega
     have hr:(p.bHO.map fun n=>[PV.int .i64 n])[k]?=some [.int .i64 p.bHO[k]]:=by simp[hlt]
     have hw:IntKind.i64.wrap ((bHO:Int)-1)=(bHO:Int)-1:=wrap_i64 Om Om
     simp only[go_sem,γ,bHV,aWC,hr,aWD,hw]
     refine aA (L.inn p.bHO[k] 0 ((bHO:Int)-1)) rfl ?_
     have hk2:=hqk k hlt
     cases h1:within p.bHO[k] 0 ((bHO:Int)-1) with
     | false =>
      rw[h1,bKC] at hk2
      simp only[go_sem,γ,bKF,akW]
      exact aY (b:=false) rfl (dM hlt hk2).symm
     | true =>
      rw[h1,bKJ] at hk2
      obtain⟨i1,i2⟩:=within_iff.1 h1
      have i3:p.bHO[k]<(bHO:Nat):=by omega
      have hmk:(eP (marks bHO (p.bHO.take k)))[p.bHO[k].toNat]?=some [.bool ((p.bHO.take k).contains p.bHO[k])]:=by
       unfold eP
       rw[bLC,XA i1 i3]; rfl
      cases h2:(p.bHO.take k).contains p.bHO[k] with
      | true =>
       rw[h2] at hk2 hmk
       simp only[go_sem,γ,reduceCtorEq,bJW,i1,i3,bKS,hmk,akW]
       exact aY (b:=false) rfl (dM hlt hk2).symm
      | false =>
       rw[h2] at hk2 hmk
       simp only[go_sem,γ,reduceCtorEq,bJW,i1,i3,bKS,hmk,aWE,kO,apH i1 i3,aDT,ws k]
       refine aC (k+1) ⟨hlt,ha.step hk2⟩ Om ?_ ?_
       ·exact Lq
       ·rw[bLY hlt]
        exact PH.aG PH.nil_le Sq
    ·have bHV:¬ (k:Int)<(p.bHO.length:Nat):=by omega
     simp only[go_sem,bHV,aDU]
     have:k=p.bHO.length:=by omega
     subst this
     exact aY (b:=true) rfl (show nU q p.bHO.length from ha).symm
def bjW:PV→RF
 | .agg [.bool n,a,b]=>⟨n,iY a,iY b⟩
 | _=>⟨false,[],[]⟩
theorem a4F (x:RF):bjW (.agg x.cells)=x:=by
 show (⟨x.neg,iY (aJ x.num),iY (aJ x.den)⟩:RF)=x
 rw[dY,dY]
def flS:Spec:=fun name vs=>match name,vs with
 | 104,[.int _ n,.int _ lo,.int _ hi]=>some ([],fun _=>aD (.bool (within n lo hi)))
 | 105,[x]=>some ([],fun _=>aD (.bool (cL (bjW x))))
 | 97,[x]=>some ([],fun _=>aD (.bool (bJ (bjW x))))
 | _,_=>none
theorem aBS (n lo hi:Int):flS 104 [.int .i64 n,.int .i64 lo,.int .i64 hi]=some ([],fun _=>aD (.bool (within n lo hi))):=rfl
theorem brQ (x:RF):flS 105 [.agg x.cells]=some ([],fun _=>aD (.bool (cL x))):=by
 show some _=_; rw[a4F]
def a4Y (f:aE) (t:List cH) (k:Nat):PF:=((((PF.nil.set 1 (.bHX f.cells)).set 45 (.sl 7 (t.map cH.cells))).set 46 (.int .i64 (t.length:Nat))).set 47 (.int .i64 k))
theorem brW {C:Ctx} (L:rK C) (f:aE) (hf:f.Ok):zI.wp C (aR aDE.res (bQ (.bool (nB f)))) (PF.args [.agg f.cells]) .nil:=by
 obtain⟨bJD,bHY,bHO,bHR,bHN,bHS,bHQ⟩:=f
 cases bHR with
 | nil =>
  rw[show nB ⟨bJD,bHY,bHO,[],bHN,bHS,bHQ⟩=false from rfl]
  simp only[go_sem,δ,γ,θ,zI,akT,akU,aDE,bME,bMD]
  have:(((0:Nat):Int)==0)=true:=rfl
  simp only[go_sem,this,aVB]
  exact aY rfl rfl
 | cons r t =>
  generalize hF:(⟨bJD,bHY,bHO,r::t,bHN,bHS,bHQ⟩:aE)=f at *
  have hd:f.bHR=r::t:=by rw[← hF]
  have hP:nB f=zE f r t:=by unfold nB; rw[hd]
  rw[hP]
  unfold zE
  have hlen:f.bHR.length=t.length+1:=by rw[hd]; rfl
  have bJE:=hf.bHR
  have hr0:(f.bHR.map cH.cells)[0]?=some r.cells:=by rw[hd]; rfl
  have hr0':(f.bHR.map cH.cells)[Int.toNat 0]?=some r.cells:=hr0
  have hok:=hf.dom
  have hrok:=hok r (by rw[hd]; exact List.mem_cons_self ..)
  simp only[go_sem,ο,ν,δ,γ,θ,zI,akT,akU,aDE,bJT,hlen,bF (Om:((t.length+1:Nat):Int)≠0),aVC,hr0]
  refine aO fun o ho=>?_
  by_cases c1:r.name=[]
  ·rw[decide_eq_true c1]
   by_cases c2:r.level=0
   ·rw[decide_eq_true c2]
    by_cases c3:r.parent=-1
    ·rw[decide_eq_true c3]
     by_cases c4:r.bIP=0
     ·rw[decide_eq_true c4]
      simp only[go_sem,ο,δ,γ,θ,reduceCtorEq,xD,oY c1,bJW,bY c2,bY c3,bY c4]
      refine aA (L.lim r.bIH hrok.1) rfl ?_
      cases c5:cL r.bIH with
      | false =>
       simp only[go_sem,γ,reduceCtorEq,bKF,tC]
       exact aY rfl (by simp only[bLE,bKC])
      | true =>
       simp only[go_sem,δ,γ,reduceCtorEq,bJW]
       refine aA (L.kG r.bIH hrok.1) rfl ?_
       cases c6:bJ r.bIH with
       | true =>
        simp only[go_sem,γ,reduceCtorEq,tC]
        exact aY rfl (by simp only[bJW,bLE,bKC])
       | false =>
        have hsl:(0:Int)≤1∧(1:Int)≤((t.length+1:Nat):Int):=by omega
        have hdrop:((f.bHR.map cH.cells).take (t.length+1)).drop (Int.toNat 1)=t.map cH.cells:=by
         rw[bKL (by simp[hlen]),hd]; rfl
        have hdrop':((f.bHR.map cH.cells).take (t.length+1)).drop 1=t.map cH.cells:=hdrop
        simp only[go_sem,ν,δ,γ,θ,reduceCtorEq,aVD,bJT,hlen,hsl,hdrop',bMQ]
        generalize hq:(fun i=>match t[i]? with | some d=>EZ f i d | none=>false)=q
        have hqk:∀ k (h:k<t.length),q k=EZ f k t[k]:=by
         intro k h
         rw[← hq]
         simp only[bKG h]
        refine wp_loop (α:=Nat) (fun k=>a4Y f t k) (fun k=>.nil) (fun k=>k≤t.length∧nU q k) (fun k=>t.length-k) 0 ⟨bKA _,.zero⟩ ?_ PH.nil_le ?_
        ·unfold a4Y
         (repeat' (first|exact PF.nil_le|refine PF.aG ?_ ?_))<;>first|(simp only[go_sem,γ,bJT]<;>rfl)|rfl
        rintro k ⟨hk,ha⟩
        simp only[go_sem,γ,aDF,aVE,a4Y]
        by_cases hlt:k<t.length
        ·have bHV:(k:Int)<(t.length:Nat):=by omega
         have hrk:(t.map cH.cells)[k]?=some (t[k]).cells:=by simp[hlt]
         have hdk:=hok t[k] (by rw[hd]; exact List.mem_cons_of_mem _ (bJZ hlt))
         have hk2:=hqk k hlt
         unfold EZ at hk2
         simp only[go_sem,δ,γ,bHV,aVF,hrk]
         refine aO fun o2 ho2=>?_
         simp only[go_sem,δ,γ]
         refine bL .nil flS PH.nil_le ?_
         simp only[go_sem,δ,γ,θ,reduceCtorEq,aVG]
         refine bC (aBS _ 0 k) (L.inn (t[k]).parent 0 k) rfl PH.nil_le ?_
         cases e1:within (t[k]).parent 0 k with
         | false =>
          simp only[e1,bKC] at hk2
          simp only[go_sem,γ,bKF,tB]
          exact aY (b:=false) rfl (dM hlt hk2).symm
         | true =>
          obtain⟨i1,i2⟩:=within_iff.1 e1
          have i3:(t[k]).parent.toNat<f.bHR.length:=by omega
          have hpr:(f.bHR.map cH.cells)[(t[k]).parent.toNat]?=some (f.bHR[(t[k]).parent.toNat]).cells:=by simp[i3]
          have hlv:(f.bHR.map cH.level).getD (t[k]).parent.toNat 0=(f.bHR[(t[k]).parent.toNat]).level:=by simp[i3]
          rw[hlv,e1,bKJ] at hk2
          by_cases e2:(f.bHR[(t[k]).parent.toNat]).level=IntKind.i64.wrap ((t[k]).level-1)
          ·rw[decide_eq_true e2,bKJ] at hk2
           simp only[go_sem,δ,γ,θ,reduceCtorEq,bJW,i1,hpr,bY e2]
           refine bC (aBS _ 1 4) (L.inn (t[k]).level 1 4) rfl PH.nil_le ?_
           cases e3:within (t[k]).level 1 4 with
           | false =>
            simp only[e3,bKC] at hk2
            simp only[go_sem,γ,reduceCtorEq,bKF,tB]
            exact aY (b:=false) rfl (dM hlt hk2).symm
           | true =>
            rw[e3,bKJ] at hk2
            simp only[go_sem,δ,γ,θ,reduceCtorEq,bJW]
            refine bC (aBS _ 1 64) (L.inn (t[k]).bIP 1 64) rfl PH.nil_le ?_
            cases e4:within (t[k]).bIP 1 64 with
            | false =>
             simp only[e4,bKC] at hk2
             simp only[go_sem,γ,reduceCtorEq,bKF,tB]
             exact aY (b:=false) rfl (dM hlt hk2).symm
            | true =>
             rw[e4,bKJ] at hk2
             simp only[go_sem,δ,γ,reduceCtorEq,bJW]
             refine bC (brQ (t[k]).bIH) (L.lim _ hdk.1) rfl PH.nil_le ?_
             cases e5:cL (t[k]).bIH with
             | false =>
              rw[e5] at hk2
              simp only[go_sem,γ,reduceCtorEq,bKF,tB]
              exact aY (b:=false) rfl (dM hlt hk2).symm
             | true =>
              rw[e5] at hk2
              simp only[go_sem,γ,reduceCtorEq,bJW,aDG,ws k]
              refine aC (k+1) ⟨hlt,ha.step hk2⟩ Om ?_ PH.nil_le
              exact Lq
          ·simp only[decide_eq_false e2,bKC] at hk2
           simp only[go_sem,δ,γ,θ,reduceCtorEq,bJW,i1,hpr,cT e2,tB]
           exact aY (b:=false) rfl (dM hlt hk2).symm
        ·have bHV:¬ (k:Int)<(t.length:Nat):=by omega
         simp only[go_sem,bHV,aDH]
         have:k=t.length:=by omega
         subst this
         exact aY (b:=true) rfl (show nU q t.length from ha).symm
     ·simp only[go_sem,ο,δ,γ,θ,reduceCtorEq,xD,oY c1,bJW,bY c2,bY c3,cT c4,tC]
      exact aY rfl (by rw[decide_eq_false c4]; simp only[bLE,bKC])
    ·simp only[go_sem,ο,δ,γ,θ,reduceCtorEq,xD,oY c1,bJW,bY c2,cT c3,tC]
     exact aY rfl (by rw[decide_eq_false c3]; simp only[bLE,bKC])
   ·simp only[go_sem,ο,δ,γ,θ,reduceCtorEq,xD,oY c1,bJW,cT c2,tC]
    exact aY rfl (by rw[decide_eq_false c2]; simp only[bLE,bKC])
  ·simp only[go_sem,ο,δ,γ,θ,xD,aaP c1,bKF,tC]
   exact aY rfl (by rw[decide_eq_false c1]; simp only[bLE,bKC])
theorem sI (R:List Bool) (i:Nat) (row:List RF):∀ k,(cD R i row k).length=R.length
 | 0=>rfl
 | k+1=>by simp only[cD,bMG,sI R i row k]
theorem aJT (l:bX) (R:List Bool) (i:Nat):(kA l R i).length=R.length:=by
 unfold kA; rw[sI,bMG]
theorem pJ (l:bX) (R:List Bool):∀ i,(cP l R i).length=R.length
 | 0=>rfl
 | i+1=>by simp only[cP,aJT,pJ l R i]
theorem pI (l:bX):∀ r,(cQ l r).length=l.exit.length
 | 0=>by simp[cQ]
 | r+1=>by simp only[cQ,pJ,pI l r]
theorem qG {R:List Bool} {i:Nat} (h:i<R.length):(eP R)[i]?=some [.bool (R.getD i false)]:=by
 unfold eP
 rw[bLC,bKG h,bKK,bKG h]; rfl
theorem anD (R:List Bool):(eP R).length=R.length:=by simp[eP]
def RE (l:bX) (o r:Nat):PF:=(((PF.nil.set 1 (.bHX l.cells)).set 3 (.osl o 1 0 l.exit.length)).set 4 (.int .i64 r))
def FB (l:bX) (o r i:Nat):PF:=(((((PF.nil.set 1 (.bHX l.cells)).set 3 (.osl o 1 0 l.exit.length)).set 4 (.int .i64 r)).set 19 (.int .i64 (l.exit.length:Nat))).set 20 (.int .i64 i))
def rU (l:bX) (o r i:Nat) (row:List RF) (k:Nat):PF:=(((((((((PF.nil.set 1 (.bHX l.cells)).set 3 (.osl o 1 0 l.exit.length)).set 4 (.int .i64 r)).set 19 (.int .i64 (l.exit.length:Nat))).set 20 (.int .i64 i)).set 5 (.int .i64 i)).set 42 (frs row)).set 43 (.int .i64 (row.length:Nat))).set 44 (.int .i64 k))
def gU (o:Nat) (R:List Bool):PH:=PH.nil.set o (.rows 1 (eP R))
theorem aQN {C:Ctx} (L:rK C) (l:bX) (o r i:Nat) (row:List RF) (bIC:jP row) (hrl:row.length=l.exit.length) (hi:i<l.exit.length) (hn:l.exit.length≤4) (R1:List Bool) (hR:R1.length=l.exit.length) (K:cA) (F:PF) (H:PH)
  (hF:(rU l o r i row 0).le F) (hH:(gU o R1).le H)
  (hK:∀ F H,(rU l o r i row row.length).le F→(gU o (cD R1 i row row.length)).le H→K .normal F H) :
  aB.wp C (.block 4 (.loop zJ)) K F H:=by
 simp only[go_sem]
 refine wp_loop (α:=Nat) (fun k=>rU l o r i row k) (fun k=>gU o (cD R1 i row k)) (fun k=>k≤row.length) (fun k=>row.length-k) 0 (bKA _) hF hH ?_
 intro k hk
 simp only[go_sem,γ,zJ,aDO,rU,gU]
 have hlen:=sI R1 i row k
 by_cases hlt:k<row.length
 ·have bHV:(k:Int)<(row.length:Nat):=by omega
  have hr:(row.map RF.cells)[k]?=some (row[k]).cells:=by simp[hlt]
  simp only[go_sem,δ,γ,bHV,anV,hr]
  refine aO fun o7 ho7=>?_
  have n7:o≠o7:=by rintro rfl; simp only[bA,if_true] at ho7; cases ho7
  have hi':(i:Int)<(l.exit.length:Nat):=by omega
  have hk':(k:Int)<(l.exit.length:Nat):=by omega
  have hat:=qG (R:=cD R1 i row k) (i:=i) Om
  have hatk:=qG (R:=cD R1 i row k) (i:=k) Om
  have bHW:cD R1 i row (k+1)=(cD R1 i row k).set i ((cD R1 i row k).getD i false||bJ row[k]&&(cD R1 i row k).getD k false):=by
   simp only[cD,bKK,bLC,bKG hlt,bKZ,bLX]
  have fin:∀ (b:Bool) (F:PF) (H:PH),b=((cD R1 i row k).getD i false||bJ row[k]&&(cD R1 i row k).getD k false)→(rU l o r i row (k+1)).le F→H o=some (.rows 1 ((eP (cD R1 i row k)).set i [.bool b])) →
    dU (fun k=>rU l o r i row k) (fun k=>gU o (cD R1 i row k)) (fun k=>k≤row.length) (fun k=>row.length-k) (row.length-k) (dN 4 K) .normal F H:=by
   intro b F H hb hF hH
   refine aC (k+1) hlt Om hF ?_
   rw[kO,hb,← bHW] at hH
   exact PH.aG PH.nil_le hH
  unfold rU gU at fin
  generalize hb:(cD R1 i row k).getD i false=b at *
  generalize hc:(cD R1 i row k).getD k false=c at *
  generalize hA:bJ row[k]=A at *
  cases b with
  | true =>
   simp only[go_sem,δ,γ,ML,n7,hi',bKS,hat,zL,ws k]
   exact fin true _ _ (by simp) Lq Sq
  | false =>
   simp only[go_sem,δ,γ,ML,n7,hi',bKS,hat]
   refine aA (L.kG _ (bIC.all _ (bJZ hlt))) rfl ?_
   rw[hA]
   cases A with
   | false =>
    simp only[go_sem,γ,reduceCtorEq,hi',hk',n7,bKS,hat,hatk,zL,ws k]
    exact fin false _ _ (by simp) Lq Sq
   | true =>
    simp only[go_sem,γ,reduceCtorEq,hi',hk',n7,bKS,hat,hatk,zL,ws k]
    exact fin c _ _ (by simp) Lq Sq
 ·have bHV:¬ (k:Int)<(row.length:Nat):=by omega
  simp only[go_sem,bHV]
  have:k=row.length:=by omega
  subst this
  exact hK _ _ (by unfold rU; exact Lq) (PH.le_refl)
structure zC (l:bX):Prop where
 n:l.exit.length≤4
 bHT:l.bHT.length=l.exit.length
 row:∀ r∈l.bHT,r.length=l.exit.length
theorem aQO {C:Ctx} (L:rK C) (l:bX) (hl:l.Ok) (he:zC l) (o r:Nat) (R:List Bool) (hR:R.length=l.exit.length) (K:cA) (F:PF) (H:PH)
  (hF:(FB l o r 0).le F) (hH:(gU o R).le H)
  (hK:∀ F H,(RE l o r).le F→(gU o (cP l R l.exit.length)).le H→K .normal F H) :
  aB.wp C (.block 2 (.loop zK)) K F H:=by
 simp only[go_sem]
 refine wp_loop (α:=Nat) (fun i=>FB l o r i) (fun i=>gU o (cP l R i)) (fun i=>i≤l.exit.length) (fun i=>l.exit.length-i) 0 (bKA _) hF hH ?_
 intro i hi
 have hlen:=pJ l R i
 have hn:=he.n
 by_cases hlt:i<l.exit.length
 ·have bHV:(i:Int)<(l.exit.length:Nat):=by omega
  have hir:i<l.bHT.length:=by rw[he.bHT]; exact hlt
  have hat:=qG (R:=cP l R i) (i:=i) Om
  have hx:(l.exit.map RF.cells)[i]?=some (l.exit[i]).cells:=by simp[hlt]
  have bIC:(l.bHT.map fun r=>[frs r])[i]?=some [frs l.bHT[i]]:=by simp[hir]
  have hrl:(l.bHT[i]).length=l.exit.length:=he.row _ (bJZ hir)
  generalize hR1:(cP l R i).set i ((cP l R i).getD i false||bJ l.exit[i])=R1
  have hR1l:R1.length=l.exit.length:=by rw[← hR1,bMG]; omega
  have bHW:cP l R (i+1)=cD R1 i l.bHT[i] (l.bHT[i]).length:=by
   simp only[cP,kA]
   have e1:(l.exit.map bJ).getD i false=bJ l.exit[i]:=by simp[bKK,hlt]
   have e2:l.bHT.getD i []=l.bHT[i]:=by simp[bKK,hir]
   rw[e1,e2,hR1]
  have rest:∀ (F:PF) (H:PH),(((((((PF.nil.set 1 (.bHX l.cells)).set 3 (.osl o 1 0 l.exit.length)).set 4 (.int .i64 r)).set 19 (.int .i64 (l.exit.length:Nat))).set 20 (.int .i64 i)).set 5 (.int .i64 i)):PF).le F→H o=some (.rows 1 (eP R1)) →
    aB.wp C (.seq (.region WC) (.block 4 (.loop zJ))) (dN 3 (iV C (aB.wp C (.region MM)) (dU (fun i=>FB l o r i) (fun i=>gU o (cP l R i)) (fun i=>i≤l.exit.length) (fun i=>l.exit.length-i) (l.exit.length-i) (dN 2 K)))) F H:=by
   intro F H hF hH
   have f1:F 1=some (.bHX l.cells):=hF 1 _ rfl
   have f3:F 3=some (.osl o 1 0 l.exit.length):=hF 3 _ rfl
   have f4:F 4=some (.int .i64 r):=hF 4 _ rfl
   have f19:F 19=some (.int .i64 (l.exit.length:Nat)):=hF 19 _ rfl
   have f20:F 20=some (.int .i64 i):=hF 20 _ rfl
   have f5:F 5=some (.int .i64 i):=hF 5 _ rfl
   rw[anA]
   simp only[go_sem,δ,γ,θ,WC,f1,f5,bIC,bJT]
   have inner:=aQN L l o r i l.bHT[i] (hl.row _ (bJZ hir)) hrl hlt hn R1 hR1l
   simp only[aB.wp,go_sem] at inner
   refine inner _ _ _ ?_ (PH.aG PH.nil_le hH) ?_
   ·unfold rU
    exact Lq
   ·intro F' H' hF' hH'
    have g20:F' 20=some (.int .i64 i):=hF' 20 _ (by unfold rU; simp only[go_sem,γ])
    simp only[go_sem,MM,g20,ws i]
    refine aC (i+1) hlt Om ?_ (by rw[bHW]; exact hH')
    have g:=fun (q:Nat) v h=>hF' q v h
    unfold FB
    unfold rU at g
    refine PF.aG (PF.aG (PF.aG (PF.aG (PF.aG PF.nil_le ?_) ?_) ?_) ?_) ?_
    ·simp only[go_sem,γ]; exact g 1 _ rfl
    ·simp only[go_sem,γ]; exact g 3 _ rfl
    ·simp only[go_sem,γ]; exact g 4 _ rfl
    ·simp only[go_sem,γ]; exact g 19 _ rfl
    ·simp only[go_sem,γ]
  simp only[aB.wp,go_sem] at rest
  simp only[go_sem,γ,zK,WA,FB,gU,bHV,aDN]
  generalize hb:(cP l R i).getD i false=b at *
  cases b with
  | true =>
   simp only[go_sem,γ,WB,bHV,bKS,hat]
   refine rest _ _ Lq ?_
   rw[← hR1]
   simp only[go_sem,kO,Bool.true_or]
  | false =>
   simp only[go_sem,δ,γ,WB,bHV,bKS,hat,hx]
   refine aA (L.kG _ (hl.exit.all _ (bJZ hlt))) rfl ?_
   simp only[go_sem,γ,reduceCtorEq,bHV,bKS,hat]
   refine rest _ _ Lq ?_
   rw[← hR1]
   simp only[go_sem,kO,Bool.false_or]
 ·have bHV:¬ (i:Int)<(l.exit.length:Nat):=by omega
  simp only[go_sem,γ,zK,WA,FB,gU,bHV]
  have:i=l.exit.length:=by omega
  subst this
  exact hK _ _ (by unfold RE; exact Lq) PH.le_refl
theorem bkU {C:Ctx} (L:rK C) (l:bX) (hl:l.Ok) (he:zC l):FO.wp C (aR ayP.res (bQ (.bool (nY l)))) (PF.args [.agg l.cells]) .nil:=by
 have hn:=he.n
 have hb1:((l.exit.length:Nat):Int)*((1:Nat):Int)≤140737488355328:=by omega
 have hb2:((l.exit.length:Nat):Int)≤9223372036854775807:=by omega
 simp only[go_sem,γ,FO,aDI,aDJ,ayP,bJT,hb1,hb2]
 refine aO fun o ho=>?_
 simp only[go_sem,γ,aDK]
 refine wp_loop (α:=Nat) (fun r=>RE l o r) (fun r=>gU o (cQ l r)) (fun r=>r≤l.exit.length+1) (fun r=>l.exit.length+1-r) 0 (bKA _) ?_ ?_ ?_
 ·unfold RE
  exact Lq
 ·refine PH.aG PH.nil_le ?_
  simp only[go_sem,cQ]
  simp[eP]
 intro r hr
 have hlen:=pI l r
 simp only[go_sem,γ,anU,aDL,RE,gU]
 by_cases hlt:r≤l.exit.length
 ·have bHV:(r:Int)≤(l.exit.length:Nat):=by omega
  simp only[go_sem,γ,bHV,aDM]
  have inner:=aQO L l hl he o r (cQ l r) hlen
  simp only[aB.wp,go_sem] at inner
  refine inner _ _ _ ?_ PH.le_refl ?_
  ·unfold FB
   exact Lq
  ·intro F' H' hF' hH'
   have g:=fun (q:Nat) v h=>hF' q v h
   unfold RE at g
   have g4:F' 4=some (.int .i64 r):=g 4 _ rfl
   simp only[go_sem,γ,anW,g4,ws r]
   refine aC (r+1) Om Om ?_ hH'
   refine PF.aG (PF.aG (PF.aG PF.nil_le ?_) ?_) ?_
   ·simp only[go_sem,γ]; exact g 1 _ rfl
   ·simp only[go_sem,γ]; exact g 3 _ rfl
   ·simp only[go_sem,γ]
 ·have bHV:¬ (r:Int)≤(l.exit.length:Nat):=by omega
  have:r=l.exit.length+1:=by omega
  subst this
  simp only[go_sem,γ,bHV,anX]
  have bIW:=L.allb id 103 (cQ l (l.exit.length+1)) (Om:(cQ l (l.exit.length+1)).length≤_) fun x _=>L.ends1 x
  have hbl:(eP (cQ l (l.exit.length+1))).length=l.exit.length:=by rw[anD,hlen]
  refine pY bIW (rs:=eP (cQ l (l.exit.length+1))) (o:=o) (s:=1) Sq ?_ ?_
  ·simp only[go_sem,γ,xC (show l.exit.length≤(eP (cQ l (l.exit.length+1))).length by omega),bKL (show (eP (cQ l (l.exit.length+1))).length≤l.exit.length by omega)]
  ·simp only[go_sem,γ]
   exact aY rfl rfl
structure aaD (C:Ctx):Prop extends azY C where
 ends:∀ l:bX,l.Ok→zC l→aI C 102 [.agg l.cells] .nil (aD (.bool (nY l)))
def qN (l:bX) (i:Nat):Bool:=decide ((l.bHT.getD i []).length=l.start.length)&&(l.bHT.getD i []).all cL&&!((l.bHT.getD i []).map bJ).getD i false
def tO (l:bX):Bool:=match mU (l.start.map RF.v) with
 | .ok (n,a,b)=>decide (oQ n a b false 1 1=0)
 | .error _=>false
theorem aWM (l:bX):jU l=(within l.start.length 1 4&&decide (l.exit.length=l.start.length)&&decide (l.bHT.length=l.start.length)&&l.start.all cL&&l.exit.all cL&&(bJU l.bHT.length).all (qN l)&&tO l&&nY l):=rfl
theorem aLM {l:List FV} {e:Int} (h:mU l=.error e):e≠0:=by
 have:∀ (l:List FV) (b:FV) (e:Int),l.foldlM gJ b=.error e→e≠0:=by
  intro l
  induction l with
  | nil=>intro b e h; cases h
  | cons x t ih =>
   intro b e h
   rw[List.foldlM_cons] at h
   cases hx:gJ b x with
   | error e' =>
    rw[hx] at h
    have:e'=e:=by injection h
    subst this
    obtain⟨n1,a1,b1⟩:=b
    obtain⟨n2,a2,b2⟩:=x
    simp only[gJ] at hx
    split at hx
    ·split at hx
     ·rw[GK hx]; decide
     ·split at hx
      ·rw[GK hx]; decide
      ·rw[GK hx]; decide
    ·injection hx with hx; subst hx; decide
   | ok y=>rw[hx] at h; exact ih y e h
 exact this l _ e h
theorem a0C {l:List FV} {r:FV} (h:mU l=.ok r):r.rf.Ok:=by
 have:∀ (l:List FV) (b r:FV),b.rf.Ok→l.foldlM gJ b=.ok r→r.rf.Ok:=by
  intro l
  induction l with
  | nil=>intro b r hb h; injection h with h; subst h; exact hb
  | cons x t ih =>
   intro b r hb h
   rw[List.foldlM_cons] at h
   cases hx:gJ b x with
   | error e'=>rw[hx] at h; cases h
   | ok y=>rw[hx] at h; exact ih y r (akI hx) h
 refine this l _ r ⟨aU _,aU _,?_,?_⟩ h
 ·show (aH 0).length≤_
  rw[fJ]; simp
 ·show (aH 1).length≤_
  rw[nM (by decide) (by decide)]; simp
theorem GL {neg:Bool} {a b:Nat} {r:FV} (hb:b≠0) (h:hC neg a b=.ok r):cN r.2.1 r.2.2=true:=by
 unfold hC at h
 split at h
 ·cases h
 ·rename_i hc
  injection h with h
  subst h
  have hg:bJV a b ∣ b:=Nat.gcd_dvd_right _ _
  have h0:b/bJV a b≠0:=by
   have:=Nat.div_pos (Nat.le_of_dvd (bMB hb) hg) (bMB fun h=>hb (Nat.gcd_eq_zero_iff.1 h).2)
   omega
  have h1:=@jS (b/bJV a b)
  simp only[cN,bKM,decide_eq_true_eq]
  omega
theorem a3Q {x y r:FV} (h:gJ x y=.ok r):cN r.2.1 r.2.2=true:=by
 obtain⟨n1,a1,b1⟩:=x
 obtain⟨n2,a2,b2⟩:=y
 simp only[gJ] at h
 split at h
 ·rename_i hv
  rw[bKM] at hv
  have h0:b1*b2≠0:=Nat.mul_ne_zero (fL.1 hv.1).1 (fL.1 hv.2).1
  split at h
  ·exact GL h0 h
  ·split at h
   ·exact GL h0 h
   ·exact GL h0 h
 ·cases h
theorem baG:cN 0 1=true:=by
 have:cF 1=1:=by rw[oJ (by decide),jI]
 simp[cN,this,jI]
theorem afL {l:List FV} {r:FV} (h:mU l=.ok r):cN r.2.1 r.2.2=true:=by
 have:∀ (l:List FV) (b r:FV),cN b.2.1 b.2.2=true→l.foldlM gJ b=.ok r→cN r.2.1 r.2.2=true:=by
  intro l
  induction l with
  | nil=>intro b r hb h; injection h with h; subst h; exact hb
  | cons x t ih =>
   intro b r hb h
   rw[List.foldlM_cons] at h
   cases hx:gJ b x with
   | error e'=>rw[hx] at h; cases h
   | ok y=>rw[hx] at h; exact ih y r (a3Q hx) h
 exact this l _ r baG h
theorem bkE:(⟨false,[],[]⟩:RF).Ok:=⟨fun _ h=>absurd h (bKR),fun _ h=>absurd h (bKR),show 0≤35184372087808 by decide,show 0≤35184372087808 by decide⟩
def blK (l:bX) (k:Nat):PF:=(((((PF.nil.set 1 (.bHX l.cells)).set 3 (.int .i64 (l.start.length:Nat))).set 45 (a9B l.bHT)).set 46 (.int .i64 (l.bHT.length:Nat))).set 47 (.int .i64 k))
theorem bcJ {C:Ctx} (L:aaD C) (l:bX) (hl:l.Ok) (he:zC l) (F:PF) (hF:F 1=some (.bHX l.cells)) :
  aB.wp C (.seq (.region WD) (.seq (.region FP) (.seq (.region FQ) (.seq (.region tD) .ret)))) (aR [.tmp 2] (bQ (.bool (tO l&&nY l)))) F .nil:=by
 simp only[go_sem,δ,θ,WD,hF]
 refine aA (L.tot l.start hl.start) rfl ?_
 obtain⟨neg',x,y,e,hs⟩:=sZ (mU (l.start.map RF.v))
 have go:∀ (z:RF) (e:Int),z.Ok→(e=0→(zF z.neg (val z.num) (val z.den) false 1 1=.tup [.int .i64 (oQ z.neg (val z.num) (val z.den) false 1 1),.int .i64 0])∧tO l=decide (oQ z.neg (val z.num) (val z.den) false 1 1=0))→(e≠0→tO l=false) →
   frV (mU (l.start.map RF.v))=.tup [.agg z.cells,.int .i64 e] →
   wpOps C [⟨(some 69),.mv (.tmp 72),none⟩,⟨(some 73),.extract (.tmp 69) 0,none⟩,⟨(some 74),.extract (.tmp 69) 1,none⟩,⟨(some 6),.alloc [(.bool false),.bHP,.bHP],none⟩,⟨none,.store 3 (.tmp 6) (.tmp 73),none⟩,⟨(some 7),.mv (.tmp 74),none⟩]
    (aB.wp C (.seq (.region FP) (.seq (.region FQ) (.seq (.region tD) .ret))) (aR [.tmp 2] (bQ (.bool (tO l&&nY l))))) ((((F.set 70 (.bHX [frs l.start,a9B l.bHT,frs l.exit])).set 71 (frs l.start))).set 72 (.tup [.agg z.cells,.int .i64 e])) .nil:=by
  intro z e hz h0 h1 _
  simp only[go_sem,δ,γ]
  refine aO fun o6 ho6=>?_
  simp only[go_sem,δ,γ,FP]
  refine aA (L.frac 1 1 (by decide) (by decide)) rfl ?_
  rw[aGD]
  simp only[go_sem,δ,γ,frV]
  refine aO fun o8 ho8=>?_
  have n8:o6≠o8:=by rintro rfl; simp only[bA,if_true] at ho8; cases ho8
  simp only[go_sem,δ,γ,FQ,n8]
  refine aA (L.ord z (FV.rf (false,1,1)) hz bfE) rfl ?_
  rw[show val (FV.rf (false,1,1)).num=1 from aQ 1,show val (FV.rf (false,1,1)).den=1 from aQ 1,show (FV.rf (false,1,1)).neg=false from rfl]
  by_cases c:e=0
  ·obtain⟨g1,g2⟩:=h0 c
   rw[g1,g2]
   by_cases d:oQ z.neg (val z.num) (val z.den) false 1 1=0
   ·simp only[go_sem,δ,γ,tD,bP c,bP d,hF]
    refine aA (L.ends l hl he) rfl ?_
    simp only[go_sem,γ]
    exact aY rfl (by rw[decide_eq_true d,bKJ])
   ·simp only[go_sem,γ,reduceCtorEq,tD,bP c,bF d]
    exact aY rfl (by rw[decide_eq_false d,bKC])
  ·rw[h1 c]
   have:∃ v w,zF z.neg (val z.num) (val z.den) false 1 1=.tup [.int .i64 v,.int .i64 w]:=by
    unfold zF
    split
    ·exact⟨_,_,rfl⟩
    ·exact⟨_,_,rfl⟩
   obtain⟨v,w,hv⟩:=this
   rw[hv]
   simp only[go_sem,γ,reduceCtorEq,tD,bF c]
   exact aY rfl rfl
 cases hs':mU (l.start.map RF.v) with
 | error e =>
  rw[hs'] at go
  exact go ⟨false,[],[]⟩ e bkE (fun h=>absurd h (aLM hs')) (fun _=>by rw[tO,hs']) rfl
 | ok r =>
  obtain⟨n,a,b⟩:=r
  rw[hs'] at go
  have hr:=a0C hs'
  refine go (FV.rf (n,a,b)) 0 hr (fun _=>?_) (fun h=>absurd rfl h) rfl
  rw[show val (FV.rf (n,a,b)).num=a from aQ a,show val (FV.rf (n,a,b)).den=b from aQ b,show (FV.rf (n,a,b)).neg=n from rfl]
  refine⟨?_,by rw[tO,hs']⟩
  have hv:cN a b=true:=afL hs'
  rw[zF,hv,awD]
  rfl
theorem brY {C:Ctx} (L:aaD C) (l:bX) (hl:l.Ok):MN.wp C (aR a4Z.res (bQ (.bool (jU l)))) (PF.args [.agg l.cells]) .nil:=by
 rw[aWM]
 simp only[go_sem,δ,γ,θ,MN,aVH,aVI,a4Z,aVJ,bJT]
 refine aA (L.inn l.start.length 1 4) rfl ?_
 cases c1:within l.start.length 1 4 with
 | false =>
  simp only[go_sem,γ,bKF,xE]
  exact aY rfl (by simp only[bKC])
 | true =>
  obtain⟨n1,n2⟩:=within_iff.1 c1
  by_cases c2:l.exit.length=l.start.length
  ·rw[decide_eq_true c2]
   by_cases c3:l.bHT.length=l.start.length
   ·rw[decide_eq_true c3]
    simp only[go_sem,δ,γ,θ,reduceCtorEq,bJW,bJT,bY (Om:((l.exit.length:Nat):Int)=(l.start.length:Nat)),bY (Om:((l.bHT.length:Nat):Int)=(l.start.length:Nat))]
    refine aA (L.blN l.start hl.start) rfl ?_
    cases c4:l.start.all cL with
    | false =>
     simp only[go_sem,γ,reduceCtorEq,bKF,xE]
     exact aY rfl (by simp only[bKC])
    | true =>
     simp only[go_sem,γ,reduceCtorEq,bJW]
     refine aA (L.blN l.exit hl.exit) rfl ?_
     cases c5:l.exit.all cL with
     | false =>
      simp only[go_sem,γ,reduceCtorEq,bKF,xE]
      exact aY rfl (by simp only[bKC])
     | true =>
      simp only[go_sem,δ,γ,θ,reduceCtorEq,bJW,aVK,bJT]
      have hrk:∀ k (h:k<l.bHT.length),qN l k=(decide ((l.bHT[k]).length=l.start.length)&&(l.bHT[k]).all cL&&!((l.bHT[k]).map bJ).getD k false):=by
       intro k h
       have:l.bHT.getD k []=l.bHT[k]:=by simp[bKK,h]
       rw[qN,this]
      refine wp_loop (α:=Nat) (fun k=>blK l k) (fun _=>.nil) (fun k=>k≤l.bHT.length∧nU (qN l) k) (fun k=>l.bHT.length-k) 0 ⟨bKA _,.zero⟩ ?_ PH.nil_le ?_
      ·unfold blK
       (repeat' (first|exact PF.nil_le|refine PF.aG ?_ ?_))<;>first|(simp only[go_sem,γ,bJT]<;>rfl)|rfl
      rintro k ⟨hk,ha⟩
      simp only[go_sem,γ,aDP,aVL,blK]
      by_cases hlt:k<l.bHT.length
      ·have bHV:(k:Int)<(l.bHT.length:Nat):=by omega
       have hr:(l.bHT.map fun r=>[frs r])[k]?=some [frs l.bHT[k]]:=by simp[hlt]
       have hk2:=hrk k hlt
       have hrok:=hl.row l.bHT[k] (bJZ hlt)
       simp only[go_sem,γ,bHV,aVM,hr,aVN,bJT]
       by_cases d1:(l.bHT[k]).length=l.start.length
       ·rw[decide_eq_true d1,bKJ] at hk2
        simp only[go_sem,γ,bY (show (((l.bHT[k]).length:Nat):Int)=(l.start.length:Nat) by omega)]
        refine aA (L.blN _ hrok) rfl ?_
        cases d2:(l.bHT[k]).all cL with
        | false =>
         rw[d2,bKC] at hk2
         simp only[go_sem,γ,reduceCtorEq,bKF,RK]
         refine aY (b:=false) rfl ?_
         have:(bJU l.bHT.length).all (qN l)=false:=dM hlt hk2
         rw[this]; simp only[bKC,bLE]
        | true =>
         have hkr:k<(l.bHT[k]).length:=by omega
         have hx:((l.bHT[k]).map RF.cells)[k]?=some ((l.bHT[k])[k]).cells:=by simp[hkr]
         have hab:((l.bHT[k]).map bJ).getD k false=bJ (l.bHT[k])[k]:=by simp[bKK,hkr]
         rw[d2,bKJ,hab] at hk2
         simp only[go_sem,δ,γ,reduceCtorEq,bJW,hx]
         refine aA (L.kG _ (hrok.all _ (bJZ hkr))) rfl ?_
         cases d3:bJ (l.bHT[k])[k] with
         | true =>
          rw[d3] at hk2
          simp only[go_sem,γ,reduceCtorEq,RK]
          refine aY (b:=false) rfl ?_
          have:(bJU l.bHT.length).all (qN l)=false:=dM hlt hk2
          rw[this]; simp only[bKC,bLE]
         | false =>
          rw[d3] at hk2
          simp only[go_sem,γ,reduceCtorEq,aVO,ws k]
          refine aC (k+1) ⟨hlt,ha.step hk2⟩ Om ?_ PH.nil_le
          exact Lq
       ·simp only[decide_eq_false d1,bKC] at hk2
        simp only[go_sem,γ,cT (show (((l.bHT[k]).length:Nat):Int)≠(l.start.length:Nat) by omega),RK]
        refine aY (b:=false) rfl ?_
        have:(bJU l.bHT.length).all (qN l)=false:=dM hlt hk2
        rw[this]; simp only[bKC,bLE]
      ·have bHV:¬ (k:Int)<(l.bHT.length:Nat):=by omega
       have:k=l.bHT.length:=by omega
       subst this
       have bJG:(bJU l.bHT.length).all (qN l)=true:=ha
       have he:zC l:=⟨by omega,by omega,fun r hr=>by
        obtain⟨i,hi,rfl⟩:=bLJ hr
        have:=bKP.1 bJG i (bLN.2 hi)
        rw[hrk i hi] at this
        simp only[bKM,decide_eq_true_eq] at this
        omega⟩
       have tail:=bcJ L l hl he
       simp only[aB.wp,go_sem] at tail
       rw[bJG]
       simp only[go_sem,bHV,bKJ,bMF]
       exact tail _ rfl
   ·simp only[go_sem,δ,γ,θ,reduceCtorEq,bJW,bJT,bY (Om:((l.exit.length:Nat):Int)=(l.start.length:Nat)),cT (Om:((l.bHT.length:Nat):Int)≠(l.start.length:Nat)),xE]
    exact aY rfl (by rw[decide_eq_false c3]; simp only[bKC,bLE])
  ·simp only[go_sem,γ,reduceCtorEq,bJW,bJT,cT (Om:((l.exit.length:Nat):Int)≠(l.start.length:Nat)),xE]
   exact aY rfl (by rw[decide_eq_false c2]; simp only[bKC,bLE])
structure kC (C:Ctx):Prop extends aaD C where
 law:∀ l:bX,l.Ok→aI C 95 [.agg l.cells] .nil (aD (.bool (jU l)))
 pol:∀ (p:cJ) (n:Nat),p.Ok→n≤4→aI C 112 [.agg p.cells,.int .i64 n] .nil (aD (.bool (jD n p)))
 bIA:∀ f:aE,f.Ok→aI C 111 [.agg f.cells] .nil (aD (.bool (nB f)))
abbrev eT (l:List (List UInt8)):List (List PV):=l.map fun s=>[PV.str s]
theorem uW (l:List (List UInt8)) {k:Nat} (h:k<l.length):eT (l.take k)++[[.str l[k]]]=eT (l.take (k+1)):=by
 unfold eT
 rw[bLY h,bLT]; rfl
theorem rF {l:List (List UInt8)} (h:l.length≤1000):roomFor (eT l).length 1 16:=by
 unfold roomFor eT
 simp only[bJT,maxLen]; omega
def iJ {α:Type} (l:List α) (p:α→Bool) (k:Nat):Bool:=(l.take k).all p
theorem rQ {α:Type} (l:List α) (p:α→Bool):iJ l p 0=true:=rfl
theorem rP {α:Type} (l:List α) (p:α→Bool) {k:Nat} (h:k<l.length):iJ l p (k+1)=(iJ l p k&&p l[k]):=by
 unfold iJ
 rw[bLY h,List.all_append]; simp
theorem uH {α:Type} (l:List α) (p:α→Bool):iJ l p l.length=l.all p:=by unfold iJ; rw[bKU]
def iW (f:aE) (w3 w4 w5 w6 w7:PV) (ok:Bool):PF:=(((((((PF.nil.set 1 (.bHX f.cells)).set 3 (w3)).set 4 (w4)).set 5 (w5)).set 6 (w6)).set 7 (w7)).set 8 (.bool ok))
structure kF (F:PF) (f:aE) (w3 w4 w5 w6 w7:PV) (ok:Bool):Prop where
 a1:F 1=some (.bHX f.cells)
 a3:F 3=some w3
 a4:F 4=some w4
 a5:F 5=some w5
 a6:F 6=some w6
 a7:F 7=some w7
 a8:F 8=some (.bool ok)
theorem a5G {C:Ctx} (L:kC C) (f:aE) (hf:f.Ok) (hs:f.bHY.length≤4) (w4 w5 w6 w7:PV) (K:cA) (F:PF) (H:PH) (hv:kF F f .bHP w4 w5 w6 w7 true)
  (h67:F 67=some (.sl 4 (f.bHY.map bX.cells))) (h68:F 68=some (.int .i64 (f.bHY.length:Nat))) (h69:F 69=some (.int .i64 0))
  (hK:∀ v F' H',kF F' f v w4 w5 w6 w7 (f.bHY.all jU)→aX H' 1 v (eT (f.bHY.map bX.name))→K (.exit 0) F' H') :
  aB.wp C (.loop FW) K F H:=by
 refine wp_loop (α:=Nat × PV × PH) (fun t=>(((iW f t.2.1 w4 w5 w6 w7 (iJ f.bHY jU t.1)).set 67 (.sl 4 (f.bHY.map bX.cells))).set 68 (.int .i64 (f.bHY.length:Nat))).set 69 (.int .i64 t.1)) (fun t=>t.2.2)
  (fun t=>t.1≤f.bHY.length∧aX t.2.2 1 t.2.1 (eT ((f.bHY.map bX.name).take t.1))) (fun t=>f.bHY.length-t.1) (0,.bHP,.nil) ⟨bKA _,.nil⟩ ?_ PH.nil_le ?_
 ·unfold iW
  (repeat' (first|exact PF.nil_le|refine PF.aG ?_ ?_))<;>first|(simp only[go_sem,hv.a1,hv.a3,hv.a4,hv.a5,hv.a6,hv.a7,hv.a8,h67,h68,h69,rQ]<;>rfl)|rfl
 rintro⟨k,v,H0⟩ ⟨hk,hO⟩
 simp only at hk hO ⊢
 simp only[go_sem,γ,FW,aWJ,iW]
 by_cases hlt:k<f.bHY.length
 ·have bHV:(k:Int)<(f.bHY.length:Nat):=by omega
  have hr:(f.bHY.map bX.cells)[k]?=some (f.bHY[k]).cells:=by simp[hlt]
  have hsn:=uW (f.bHY.map bX.name) (k:=k) (by simpa using hlt)
  rw[bLI] at hsn
  simp only[go_sem,δ,γ,bHV,aWK,hr]
  refine aO fun o ho=>?_
  simp only[go_sem,υ,δ,γ,η,θ,ζ,aWL]
  refine mL hO ho (rF (by simp; omega)) fun v' H' hO' ho'=>?_
  rw[hsn] at hO'
  have bHW:=rP f.bHY jU hlt
  cases hb:iJ f.bHY jU k with
  | false =>
   rw[hb,bKC] at bHW
   simp only[go_sem,γ,reduceCtorEq,akY,ho',WI,ws k]
   refine aC (k+1,v',H') ⟨hlt,hO'⟩ (by simp only; omega) ?_ PH.le_refl
   simp only[bHW]
   exact Lq
  | true =>
   rw[hb,bKJ] at bHW
   simp only[go_sem,δ,γ,akY,ho']
   refine aA (L.law _ (hf.law _ (bJZ hlt))) Ev ?_
   simp only[go_sem,γ,WI,ws k]
   refine aC (k+1,v',H') ⟨hlt,hO'⟩ (by simp only; omega) ?_ PH.le_refl
   simp only[bHW]
   exact Lq
 ·have bHV:¬ (k:Int)<(f.bHY.length:Nat):=by omega
  have:k=f.bHY.length:=by omega
  subst this
  rw[bKL (by simp)] at hO
  rw[uH]
  simp only[go_sem,bHV]
  exact hK v _ _ ⟨by simp only[go_sem,γ],by simp only[go_sem,γ],by simp only[go_sem,γ],by simp only[go_sem,γ],by simp only[go_sem,γ],by simp only[go_sem,γ],by simp only[go_sem,γ]⟩ hO
theorem AO {n:Nat} (h:n≤1000):IntKind.i64.wrap ((n:Int)-1)=(n:Int)-1:=wrap_i64 Om Om
theorem a5H {C:Ctx} (L:kC C) (f:aE) (hs:f.bHO.length≤4) (hl:f.bHY.length≤4) (b0:Bool) (w3 w5 w6 w7:PV) (K:cA) (F:PF) (H:PH) (hv:kF F f w3 .bHP w5 w6 w7 b0)
  (h67:F 85=some (.sl 4 (f.bHO.map cK.cells))) (h68:F 86=some (.int .i64 (f.bHO.length:Nat))) (h69:F 87=some (.int .i64 0))
  (hK:∀ v F' H',kF F' f w3 v w5 w6 w7 (b0&&f.bHO.all (jV f))→aX H' 1 v (eT (f.bHO.map cK.name))→K (.exit 2) F' H') :
  aB.wp C (.loop FX) K F H:=by
 refine wp_loop (α:=Nat × PV × PH) (fun t=>(((iW f w3 t.2.1 w5 w6 w7 (b0&&iJ f.bHO (jV f) t.1)).set 85 (.sl 4 (f.bHO.map cK.cells))).set 86 (.int .i64 (f.bHO.length:Nat))).set 87 (.int .i64 t.1)) (fun t=>t.2.2)
  (fun t=>t.1≤f.bHO.length∧aX t.2.2 1 t.2.1 (eT ((f.bHO.map cK.name).take t.1))) (fun t=>f.bHO.length-t.1) (0,.bHP,.nil) ⟨bKA _,.nil⟩ ?_ PH.nil_le ?_
 ·unfold iW
  (repeat' (first|exact PF.nil_le|refine PF.aG ?_ ?_))<;>first|(simp only[go_sem,hv.a1,hv.a3,hv.a4,hv.a5,hv.a6,hv.a7,hv.a8,h67,h68,h69,rQ,bMF]<;>rfl)|rfl
 rintro⟨k,v,H0⟩ ⟨hk,hO⟩
 simp only at hk hO ⊢
 simp only[go_sem,γ,FX,aEK,iW]
 by_cases hlt:k<f.bHO.length
 ·have bHV:(k:Int)<(f.bHO.length:Nat):=by omega
  have hr:(f.bHO.map cK.cells)[k]?=some (f.bHO[k]).cells:=by simp[hlt]
  have hsn:=uW (f.bHO.map cK.name) (k:=k) (by simpa using hlt)
  rw[bLI] at hsn
  simp only[go_sem,δ,γ,bHV,aEL,hr]
  refine aO fun o ho=>?_
  simp only[go_sem,υ,δ,γ,η,θ,ζ,aEM]
  refine mL hO ho (rF (by simp; omega)) fun v' H' hO' ho'=>?_
  rw[hsn] at hO'
  have bHW:=rP f.bHO (jV f) hlt
  have fin:∀ (c:Bool) (F':PF),c=(b0&&iJ f.bHO (jV f) (k+1))→((((iW f w3 v' w5 w6 w7 c).set 85 (.sl 4 (f.bHO.map cK.cells))).set 86 (.int .i64 (f.bHO.length:Nat))).set 87 (.int .i64 (k+1:Nat))).le F' →
    dU (fun (t:Nat × PV × PH)=>(((iW f w3 t.2.1 w5 w6 w7 (b0&&iJ f.bHO (jV f) t.1)).set 85 (.sl 4 (f.bHO.map cK.cells))).set 86 (.int .i64 (f.bHO.length:Nat))).set 87 (.int .i64 t.1)) (fun (t:Nat × PV × PH)=>t.2.2)  (fun (t:Nat × PV × PH)=>t.1≤f.bHO.length∧aX t.2.2 1 t.2.1 (eT ((f.bHO.map cK.name).take t.1))) (fun (t:Nat × PV × PH)=>f.bHO.length-t.1) (f.bHO.length-k) K .normal F' H':=by
   intro c F' hc hle
   refine aC (α:=Nat × PV × PH) (k+1,v',H') ⟨hlt,hO'⟩ (by simp only; omega) ?_ PH.le_refl
   rw[hc] at hle
   exact hle
  unfold iW at fin
  rw[bHW,← bMP] at fin
  have hm:jV f f.bHO[k]=(within (f.bHO[k]).bIJ 1 16&&within (f.bHO[k]).port 1 64&&within (f.bHO[k]).law 0 ((f.bHY.length:Int)-1)):=rfl
  cases hb:(b0&&iJ f.bHO (jV f) k) with
  | false =>
   rw[hb,bKC] at fin
   simp only[go_sem,γ,reduceCtorEq,WK,ho',xZ,ws k]
   refine fin false _ rfl ?_
   exact Lq
  | true =>
   rw[hb,bKJ] at fin
   simp only[go_sem,δ,γ,θ,WK,ho']
   refine aA (L.inn _ 1 16) Ev ?_
   cases e1:within (f.bHO[k]).bIJ 1 16 with
   | false =>
    simp only[go_sem,γ,reduceCtorEq,xZ,ws k]
    refine fin false _ (by rw[hm,e1]; simp only[bKC]) ?_
    exact Lq
   | true =>
    simp only[go_sem,δ,γ,θ,ho']
    refine aA (L.inn _ 1 64) Ev ?_
    cases e2:within (f.bHO[k]).port 1 64 with
    | false =>
     simp only[go_sem,γ,reduceCtorEq,xZ,ws k]
     refine fin false _ (by rw[hm,e1,e2]; simp only[bKC,bLE]) ?_
     exact Lq
    | true =>
     simp only[go_sem,δ,γ,θ,ho',bJT,AO (Om:f.bHY.length≤1000)]
     refine aA (L.inn _ 0 _) Ev ?_
     simp only[go_sem,γ,xZ,ws k]
     refine fin (within (f.bHO[k]).law 0 ((f.bHY.length:Int)-1)) _ (by rw[hm,e1,e2]; simp only[bKJ]) ?_
     exact Lq
 ·have bHV:¬ (k:Int)<(f.bHO.length:Nat):=by omega
  have:k=f.bHO.length:=by omega
  subst this
  rw[bKL (by simp)] at hO
  rw[uH]
  simp only[go_sem,bHV]
  exact hK v _ _ ⟨by simp only[go_sem,γ],by simp only[go_sem,γ],by simp only[go_sem,γ],by simp only[go_sem,γ],by simp only[go_sem,γ],by simp only[go_sem,γ],by simp only[go_sem,γ]⟩ hO
theorem a5I {C:Ctx} (L:kC C) (f:aE) (t:List cH) (hs:t.length≤40) (b0:Bool) (w3 w4 w6 w7:PV) (K:cA) (F:PF) (H:PH) (hv:kF F f w3 w4 .bHP w6 w7 b0)
  (h67:F 119=some (.sl 7 (t.map cH.cells))) (h68:F 120=some (.int .i64 (t.length:Nat))) (h69:F 121=some (.int .i64 0))
  (hK:∀ v F' H',kF F' f w3 w4 v w6 w7 b0→aX H' 1 v (eT (t.map cH.name))→K (.exit 4) F' H') :
  aB.wp C (.loop FY) K F H:=by
 refine wp_loop (α:=Nat × PV × PH) (fun a=>(((iW f w3 w4 a.2.1 w6 w7 b0).set 119 (.sl 7 (t.map cH.cells))).set 120 (.int .i64 (t.length:Nat))).set 121 (.int .i64 a.1)) (fun a=>a.2.2)
  (fun a=>a.1≤t.length∧aX a.2.2 1 a.2.1 (eT ((t.map cH.name).take a.1))) (fun a=>t.length-a.1) (0,.bHP,.nil) ⟨bKA _,.nil⟩ ?_ PH.nil_le ?_
 ·unfold iW
  (repeat' (first|exact PF.nil_le|refine PF.aG ?_ ?_))<;>first|(simp only[go_sem,hv.a1,hv.a3,hv.a4,hv.a5,hv.a6,hv.a7,hv.a8,h67,h68,h69]<;>rfl)|rfl
 rintro⟨k,v,H0⟩ ⟨hk,hO⟩
 simp only at hk hO ⊢
 simp only[go_sem,γ,FY,aEN,iW]
 by_cases hlt:k<t.length
 ·have bHV:(k:Int)<(t.length:Nat):=by omega
  have hr:(t.map cH.cells)[k]?=some (t[k]).cells:=by simp[hlt]
  have hsn:=uW (t.map cH.name) (k:=k) (by simpa using hlt)
  rw[bLI] at hsn
  simp only[go_sem,δ,γ,bHV,aEO,hr]
  refine aO fun o ho=>?_
  simp only[go_sem,υ,δ,γ,η,θ,ζ,aEP]
  refine mL hO ho (rF (by simp; omega)) fun v' H' hO' ho'=>?_
  rw[hsn] at hO'
  simp only[go_sem,γ,aEQ,ws k]
  refine aC (k+1,v',H') ⟨hlt,hO'⟩ (by simp only; omega) ?_ PH.le_refl
  exact Lq
 ·have bHV:¬ (k:Int)<(t.length:Nat):=by omega
  have:k=t.length:=by omega
  subst this
  rw[bKL (by simp)] at hO
  simp only[go_sem,bHV]
  exact hK v _ _ ⟨by simp only[go_sem,γ],by simp only[go_sem,γ],by simp only[go_sem,γ],by simp only[go_sem,γ],by simp only[go_sem,γ],by simp only[go_sem,γ],by simp only[go_sem,γ]⟩ hO
theorem a5J {C:Ctx} (L:kC C) (f:aE) (names:List (List UInt8)) (hn:names.length≤40) (hs:f.bHN.length≤24) (hm:f.bHO.length≤4) (hd:f.bHR.length≤40) (b0:Bool) (w3 w4 v0 w6 w7:PV) (K:cA) (F:PF) (H:PH) (hv:kF F f w3 w4 v0 w6 w7 b0)
  (h0:aX H 1 v0 (eT names))
  (h67:F 132=some (.sl 3 (f.bHN.map cY.cells))) (h68:F 133=some (.int .i64 (f.bHN.length:Nat))) (h69:F 134=some (.int .i64 0))
  (hK:∀ v F' H',kF F' f w3 w4 v w6 w7 (b0&&f.bHN.all (hJ f))→aX H' 1 v (eT (names++f.bHN.map cY.name))→K (.exit 6) F' H') :
  aB.wp C (.loop FZ) K F H:=by
 refine wp_loop (α:=Nat × PV × PH) (fun t=>(((iW f w3 w4 t.2.1 w6 w7 (b0&&iJ f.bHN (hJ f) t.1)).set 132 (.sl 3 (f.bHN.map cY.cells))).set 133 (.int .i64 (f.bHN.length:Nat))).set 134 (.int .i64 t.1)) (fun t=>t.2.2)
  (fun t=>t.1≤f.bHN.length∧aX t.2.2 1 t.2.1 (eT (names++(f.bHN.map cY.name).take t.1))) (fun t=>f.bHN.length-t.1) (0,v0,H) ⟨bKA _,by rw[List.take_zero,bLK]; exact h0⟩ ?_ PH.le_refl ?_
 ·unfold iW
  (repeat' (first|exact PF.nil_le|refine PF.aG ?_ ?_))<;>first|(simp only[go_sem,hv.a1,hv.a3,hv.a4,hv.a5,hv.a6,hv.a7,hv.a8,h67,h68,h69,rQ,bMF]<;>rfl)|rfl
 rintro⟨k,v,H0⟩ ⟨hk,hO⟩
 simp only at hk hO ⊢
 simp only[go_sem,γ,FZ,aER,iW]
 by_cases hlt:k<f.bHN.length
 ·have bHV:(k:Int)<(f.bHN.length:Nat):=by omega
  have hr:(f.bHN.map cY.cells)[k]?=some (f.bHN[k]).cells:=by simp[hlt]
  have hsn:eT (names++(f.bHN.map cY.name).take k)++[[.str (f.bHN[k]).name]]=eT (names++(f.bHN.map cY.name).take (k+1)):=by
   rw[bLY (by simpa using hlt),← bKV,bLI]
   unfold eT
   simp only[bLT,bLF,bME]
  simp only[go_sem,δ,γ,bHV,aES,hr]
  refine aO fun o ho=>?_
  simp only[go_sem,υ,δ,γ,η,θ,ζ,aET]
  refine mL hO ho (rF (by simp; omega)) fun v' H' hO' ho'=>?_
  rw[hsn] at hO'
  have bHW:=rP f.bHN (hJ f) hlt
  have fin:∀ (c:Bool) (F':PF),c=(b0&&iJ f.bHN (hJ f) (k+1))→((((iW f w3 w4 v' w6 w7 c).set 132 (.sl 3 (f.bHN.map cY.cells))).set 133 (.int .i64 (f.bHN.length:Nat))).set 134 (.int .i64 (k+1:Nat))).le F' →
    dU (fun (t:Nat × PV × PH)=>(((iW f w3 w4 t.2.1 w6 w7 (b0&&iJ f.bHN (hJ f) t.1)).set 132 (.sl 3 (f.bHN.map cY.cells))).set 133 (.int .i64 (f.bHN.length:Nat))).set 134 (.int .i64 t.1)) (fun (t:Nat × PV × PH)=>t.2.2)  (fun (t:Nat × PV × PH)=>t.1≤f.bHN.length∧aX t.2.2 1 t.2.1 (eT (names++(f.bHN.map cY.name).take t.1))) (fun (t:Nat × PV × PH)=>f.bHN.length-t.1) (f.bHN.length-k) K .normal F' H':=by
   intro c F' hc hle
   refine aC (α:=Nat × PV × PH) (k+1,v',H') ⟨hlt,hO'⟩ (by simp only; omega) ?_ PH.le_refl
   rw[hc] at hle
   exact hle
  unfold iW at fin
  rw[bHW,← bMP] at fin
  have hmd:hJ f f.bHN[k]=(within (f.bHN[k]).model 0 ((f.bHO.length:Int)-1)&&within (f.bHN[k]).machine 0 ((f.bHR.length:Int)-1)&&decide ((f.bHR.map cH.level).getD (f.bHN[k]).machine.toNat 0=4)):=rfl
  cases hb:(b0&&iJ f.bHN (hJ f) k) with
  | false =>
   rw[hb,bKC] at fin
   simp only[go_sem,γ,reduceCtorEq,WN,ho',tE,ws k]
   refine fin false _ rfl ?_
   exact Lq
  | true =>
   rw[hb,bKJ] at fin
   simp only[go_sem,δ,γ,θ,WN,ho',bJT,AO (Om:f.bHO.length≤1000)]
   refine aA (L.inn _ 0 _) Ev ?_
   cases e1:within (f.bHN[k]).model 0 ((f.bHO.length:Int)-1) with
   | false =>
    simp only[go_sem,γ,reduceCtorEq,tE,ws k]
    refine fin false _ (by rw[hmd,e1]; simp only[bKC]) ?_
    exact Lq
   | true =>
    simp only[go_sem,δ,γ,θ,ho',bJT,AO (Om:f.bHR.length≤1000)]
    refine aA (L.inn _ 0 _) Ev ?_
    cases e2:within (f.bHN[k]).machine 0 ((f.bHR.length:Int)-1) with
    | false =>
     simp only[go_sem,γ,reduceCtorEq,tE,ws k]
     refine fin false _ (by rw[hmd,e1,e2]; simp only[bKC,bLE]) ?_
     exact Lq
    | true =>
     obtain⟨i1,i2⟩:=within_iff.1 e2
     have i3:(f.bHN[k]).machine.toNat<f.bHR.length:=by omega
     have hpr:(f.bHR.map cH.cells)[(f.bHN[k]).machine.toNat]?=some (f.bHR[(f.bHN[k]).machine.toNat]).cells:=by simp[i3]
     have hlv:(f.bHR.map cH.level).getD (f.bHN[k]).machine.toNat 0=(f.bHR[(f.bHN[k]).machine.toNat]).level:=by simp[i3]
     rw[hlv] at hmd
     by_cases e3:(f.bHR[(f.bHN[k]).machine.toNat]).level=4
     ·simp only[go_sem,δ,γ,θ,ho',i1,hpr,bP e3,tE,ws k]
      refine fin true _ (by rw[hmd,e1,e2,decide_eq_true e3]; rfl) ?_
      exact Lq
     ·simp only[go_sem,δ,γ,θ,ho',i1,hpr,bF e3,tE,ws k]
      refine fin false _ (by rw[hmd,e1,e2,decide_eq_false e3]; rfl) ?_
      exact Lq
 ·have bHV:¬ (k:Int)<(f.bHN.length:Nat):=by omega
  have:k=f.bHN.length:=by omega
  subst this
  rw[bKL (by simp)] at hO
  rw[uH]
  simp only[go_sem,bHV]
  exact hK v _ _ ⟨by simp only[go_sem,γ],by simp only[go_sem,γ],by simp only[go_sem,γ],by simp only[go_sem,γ],by simp only[go_sem,γ],by simp only[go_sem,γ],by simp only[go_sem,γ]⟩ hO
theorem a5K {C:Ctx} (L:kC C) (f:aE) (hf:f.Ok) (hs:f.bHS.length≤4) (hm:f.bHO.length≤4) (b0:Bool) (w3 w4 w5 w7:PV) (K:cA) (F:PF) (H:PH) (hv:kF F f w3 w4 w5 .bHP w7 b0)
  (h67:F 174=some (.sl 17 (f.bHS.map cJ.cells))) (h68:F 175=some (.int .i64 (f.bHS.length:Nat))) (h69:F 176=some (.int .i64 0))
  (hK:∀ v F' H',kF F' f w3 w4 w5 v w7 (b0&&f.bHS.all (jD f.bHO.length))→aX H' 1 v (eT (f.bHS.map cJ.name))→K (.exit 8) F' H') :
  aB.wp C (.loop GA) K F H:=by
 refine wp_loop (α:=Nat × PV × PH) (fun t=>(((iW f w3 w4 w5 t.2.1 w7 (b0&&iJ f.bHS (jD f.bHO.length) t.1)).set 174 (.sl 17 (f.bHS.map cJ.cells))).set 175 (.int .i64 (f.bHS.length:Nat))).set 176 (.int .i64 t.1)) (fun t=>t.2.2)
  (fun t=>t.1≤f.bHS.length∧aX t.2.2 1 t.2.1 (eT ((f.bHS.map cJ.name).take t.1))) (fun t=>f.bHS.length-t.1) (0,.bHP,.nil) ⟨bKA _,.nil⟩ ?_ PH.nil_le ?_
 ·unfold iW
  (repeat' (first|exact PF.nil_le|refine PF.aG ?_ ?_))<;>first|(simp only[go_sem,hv.a1,hv.a3,hv.a4,hv.a5,hv.a6,hv.a7,hv.a8,h67,h68,h69,rQ,bMF]<;>rfl)|rfl
 rintro⟨k,v,H0⟩ ⟨hk,hO⟩
 simp only at hk hO ⊢
 simp only[go_sem,γ,GA,aEU,iW]
 by_cases hlt:k<f.bHS.length
 ·have bHV:(k:Int)<(f.bHS.length:Nat):=by omega
  have hr:(f.bHS.map cJ.cells)[k]?=some (f.bHS[k]).cells:=by simp[hlt]
  have hsn:=uW (f.bHS.map cJ.name) (k:=k) (by simpa using hlt)
  rw[bLI] at hsn
  simp only[go_sem,δ,γ,bHV,aEV,hr]
  refine aO fun o ho=>?_
  simp only[go_sem,υ,δ,γ,η,θ,ζ,aEW]
  refine mL hO ho (rF (by simp; omega)) fun v' H' hO' ho'=>?_
  rw[hsn] at hO'
  have bHW:=rP f.bHS (jD f.bHO.length) hlt
  have fin:∀ (c:Bool) (F':PF),c=(b0&&iJ f.bHS (jD f.bHO.length) (k+1))→((((iW f w3 w4 w5 v' w7 c).set 174 (.sl 17 (f.bHS.map cJ.cells))).set 175 (.int .i64 (f.bHS.length:Nat))).set 176 (.int .i64 (k+1:Nat))).le F' →
    dU (fun (t:Nat × PV × PH)=>(((iW f w3 w4 w5 t.2.1 w7 (b0&&iJ f.bHS (jD f.bHO.length) t.1)).set 174 (.sl 17 (f.bHS.map cJ.cells))).set 175 (.int .i64 (f.bHS.length:Nat))).set 176 (.int .i64 t.1)) (fun (t:Nat × PV × PH)=>t.2.2)  (fun (t:Nat × PV × PH)=>t.1≤f.bHS.length∧aX t.2.2 1 t.2.1 (eT ((f.bHS.map cJ.name).take t.1))) (fun (t:Nat × PV × PH)=>f.bHS.length-t.1) (f.bHS.length-k) K .normal F' H':=by
   intro c F' hc hle
   refine aC (α:=Nat × PV × PH) (k+1,v',H') ⟨hlt,hO'⟩ (by simp only; omega) ?_ PH.le_refl
   rw[hc] at hle
   exact hle
  unfold iW at fin
  rw[bHW,← bMP] at fin
  cases hb:(b0&&iJ f.bHS (jD f.bHO.length) k) with
  | false =>
   rw[hb,bKC] at fin
   simp only[go_sem,γ,reduceCtorEq,WP,ho',WQ,ws k]
   refine fin false _ rfl ?_
   exact Lq
  | true =>
   rw[hb,bKJ] at fin
   simp only[go_sem,δ,γ,θ,WP,ho',bJT]
   refine aA (L.pol _ _ (hf.bID _ (bJZ hlt)) hm) Ev ?_
   simp only[go_sem,γ,WQ,ws k]
   refine fin _ _ rfl ?_
   exact Lq
 ·have bHV:¬ (k:Int)<(f.bHS.length:Nat):=by omega
  have:k=f.bHS.length:=by omega
  subst this
  rw[bKL (by simp)] at hO
  rw[uH]
  simp only[go_sem,bHV]
  exact hK v _ _ ⟨by simp only[go_sem,γ],by simp only[go_sem,γ],by simp only[go_sem,γ],by simp only[go_sem,γ],by simp only[go_sem,γ],by simp only[go_sem,γ],by simp only[go_sem,γ]⟩ hO
theorem a5L {C:Ctx} (L:kC C) (f:aE) (hs:f.bHQ.length≤12) (hl:f.bHS.length≤4) (b0:Bool) (w3 w4 w5 w6:PV) (K:cA) (F:PF) (H:PH) (hv:kF F f w3 w4 w5 w6 .bHP b0)
  (h67:F 195=some (.sl 2 (f.bHQ.map eM.cells))) (h68:F 196=some (.int .i64 (f.bHQ.length:Nat))) (h69:F 197=some (.int .i64 0))
  (hK:∀ v F' H',kF F' f w3 w4 w5 w6 v (b0&&f.bHQ.all (nF f))→aX H' 1 v (eT (f.bHQ.map eM.name))→K (.exit 10) F' H') :
  aB.wp C (.loop GB) K F H:=by
 refine wp_loop (α:=Nat × PV × PH) (fun t=>(((iW f w3 w4 w5 w6 t.2.1 (b0&&iJ f.bHQ (nF f) t.1)).set 195 (.sl 2 (f.bHQ.map eM.cells))).set 196 (.int .i64 (f.bHQ.length:Nat))).set 197 (.int .i64 t.1)) (fun t=>t.2.2)
  (fun t=>t.1≤f.bHQ.length∧aX t.2.2 1 t.2.1 (eT ((f.bHQ.map eM.name).take t.1))) (fun t=>f.bHQ.length-t.1) (0,.bHP,.nil) ⟨bKA _,.nil⟩ ?_ PH.nil_le ?_
 ·unfold iW
  (repeat' (first|exact PF.nil_le|refine PF.aG ?_ ?_))<;>first|(simp only[go_sem,hv.a1,hv.a3,hv.a4,hv.a5,hv.a6,hv.a7,hv.a8,h67,h68,h69,rQ,bMF]<;>rfl)|rfl
 rintro⟨k,v,H0⟩ ⟨hk,hO⟩
 simp only at hk hO ⊢
 simp only[go_sem,γ,GB,aEX,iW]
 by_cases hlt:k<f.bHQ.length
 ·have bHV:(k:Int)<(f.bHQ.length:Nat):=by omega
  have hr:(f.bHQ.map eM.cells)[k]?=some (f.bHQ[k]).cells:=by simp[hlt]
  have hsn:=uW (f.bHQ.map eM.name) (k:=k) (by simpa using hlt)
  rw[bLI] at hsn
  simp only[go_sem,δ,γ,bHV,aEY,hr]
  refine aO fun o ho=>?_
  simp only[go_sem,υ,δ,γ,η,θ,ζ,aEZ]
  refine mL hO ho (rF (by simp; omega)) fun v' H' hO' ho'=>?_
  rw[hsn] at hO'
  have bHW:=rP f.bHQ (nF f) hlt
  have fin:∀ (c:Bool) (F':PF),c=(b0&&iJ f.bHQ (nF f) (k+1))→((((iW f w3 w4 w5 w6 v' c).set 195 (.sl 2 (f.bHQ.map eM.cells))).set 196 (.int .i64 (f.bHQ.length:Nat))).set 197 (.int .i64 (k+1:Nat))).le F' →
    dU (fun (t:Nat × PV × PH)=>(((iW f w3 w4 w5 w6 t.2.1 (b0&&iJ f.bHQ (nF f) t.1)).set 195 (.sl 2 (f.bHQ.map eM.cells))).set 196 (.int .i64 (f.bHQ.length:Nat))).set 197 (.int .i64 t.1)) (fun (t:Nat × PV × PH)=>t.2.2)  (fun (t:Nat × PV × PH)=>t.1≤f.bHQ.length∧aX t.2.2 1 t.2.1 (eT ((f.bHQ.map eM.name).take t.1))) (fun (t:Nat × PV × PH)=>f.bHQ.length-t.1) (f.bHQ.length-k) K .normal F' H':=by
   intro c F' hc hle
   refine aC (α:=Nat × PV × PH) (k+1,v',H') ⟨hlt,hO'⟩ (by simp only; omega) ?_ PH.le_refl
   rw[hc] at hle
   exact hle
  unfold iW at fin
  rw[bHW,← bMP] at fin
  have hm:nF f f.bHQ[k]=within (f.bHQ[k]).bID 0 ((f.bHS.length:Int)-1):=rfl
  cases hb:(b0&&iJ f.bHQ (nF f) k) with
  | false =>
   rw[hb,bKC] at fin
   simp only[go_sem,γ,reduceCtorEq,WS,ho',WT,ws k]
   refine fin false _ rfl ?_
   exact Lq
  | true =>
   rw[hb,bKJ,hm] at fin
   simp only[go_sem,δ,γ,θ,WS,ho',bJT,AO (Om:f.bHS.length≤1000)]
   refine aA (L.inn _ 0 _) Ev ?_
   simp only[go_sem,γ,WT,ws k]
   refine fin _ _ rfl ?_
   exact Lq
 ·have bHV:¬ (k:Int)<(f.bHQ.length:Nat):=by omega
  have:k=f.bHQ.length:=by omega
  subst this
  rw[bKL (by simp)] at hO
  rw[uH]
  simp only[go_sem,bHV]
  exact hK v _ _ ⟨by simp only[go_sem,γ],by simp only[go_sem,γ],by simp only[go_sem,γ],by simp only[go_sem,γ],by simp only[go_sem,γ],by simp only[go_sem,γ],by simp only[go_sem,γ]⟩ hO
theorem mT {f:aE} (h:¬ (f.bHY.length≤4∧f.bHO.length≤4∧f.bHR.length≤40∧f.bHN.length≤24∧f.bHS.length≤4∧f.bHQ.length≤12)):mS f=false:=by
 rw[← Bool.not_eq_true]
 intro hs
 simp only[mS,bKM,decide_eq_true_eq] at hs
 omega
theorem aTG {f:aE} (h:f.bHY.length≤4∧f.bHO.length≤4∧f.bHR.length≤40∧f.bHN.length≤24∧f.bHS.length≤4∧f.bHQ.length≤12):mS f=within f.bJD 1 4:=by
 obtain⟨h1,h2,h3,h4,h5,h6⟩:=h
 simp[mS,h1,h2,h3,h4,h5,h6]
theorem fY {t:Nat} {n m:Int} {F:PF} {H:PH} (h:F t=some (.int .i64 n)) (e:n=m):aR [.tmp t] (bQ (.int .i64 m)) .ret F H:=by
 subst e
 exact aV (.inr rfl) .nil (vs:=[.int .i64 n]) (by rw[lD,nP,h,pK]) PH.nil_le ⟨.refl _,rfl⟩
def JP (f:aE):Int:=if cV f then 0 else 1
theorem baF {f:aE} (h:cV f=false):JP f=1:=by rw[JP,h]; rfl
theorem sQ {C:Ctx} {F:PF} {H:PH} {name t s:Nat} {v r:PV} {rows:List (List PV)} {d:Option Nat} {K:PF→PH→Prop} (h:aI C name [.sl s rows] .nil (aD r)) (hO:aX H s v rows) (ht:F t=some v)
  (hK:∀ (F1:PF) (H1:PH),(∀ i u,F i=some u→Pure u→F1 i=some u)→K (F1.put d r) H1):iH C name [.tmp t] [] d K F H:=by
 rcases hO with ⟨rfl,rfl⟩ | ⟨q,rs,rfl,h1,h2,h3⟩
 ·refine aA (h.a9F (.inl ⟨rfl,rfl⟩)) (by rw[xT,aaX,ht,RG]) ?_
  exact hK F H fun i u hi _=>hi
 ·rw[← h3] at h
  refine pN (k:=rows.length) h ht h1 h2 (hK _ _ fun i u hi hp=>?_)
  rw[rW,hi,bKZ,hp q s rs]
theorem Seen.pure {s:Nat} {v:PV} {rows:List (List PV)} (h:Seen s v rows):Pure v:=by
 rcases h with ⟨_,rfl⟩ | rfl
 ·exact fun _ _ _=>rfl
 ·exact fun _ _ _=>rfl
def bI (b:Bool):Int:=if b then 0 else 1
abbrev RU (f:aE):List (List UInt8):=(f.bHR.drop 1).map cH.name++f.bHN.map cY.name
def uE (f:aE):Bool:=distinct (f.bHY.map bX.name)&&distinct (f.bHO.map cK.name)&&distinct (RU f)&&distinct (f.bHS.map cJ.name)&&distinct (f.bHQ.map eM.name)
structure Small (f:aE):Prop where
 bHY:f.bHY.length≤4
 bHO:f.bHO.length≤4
 bHR:f.bHR.length≤40
 bHN:f.bHN.length≤24
 bHS:f.bHS.length≤4
 bHQ:f.bHQ.length≤12
theorem zV {C:Ctx} (L:kC C) {v:PV} {l:List (List UInt8)} (h:Seen 1 v (eT l)) (hl:l.length≤1000):aI C 110 [v] .nil (aD (.bool (distinct l))) :=
 (L.uniq l (Om:l.length≤9223372036854775807)).a9F h
theorem blD {C:Ctx} (L:kC C) (f:aE) (hs:Small f) (w3 w4 w5 w6 w7:PV) (ok:Bool) (F:PF) (H:PH) (hv:kF F f w3 w4 w5 w6 w7 ok)
  (h3:Seen 1 w3 (eT (f.bHY.map bX.name))) (h4:Seen 1 w4 (eT (f.bHO.map cK.name))) (h5:Seen 1 w5 (eT (RU f))) (h6:Seen 1 w6 (eT (f.bHS.map cJ.name))) (h7:aX H 1 w7 (eT (f.bHQ.map eM.name))) :
  aB.wp C (.seq (.seq (.region yA) (.cond (.tmp 243) (.seq (.region nC) .ret) .skip)) (.seq (.region GC) .ret)) (aR [.tmp 2] (bQ (.int .i64 (bI (ok&&uE f))))) F H:=by
 obtain⟨s1,s2,s3,s4,s5,s6⟩:=hs
 have l3:(f.bHY.map bX.name).length≤1000:=by simp; omega
 have l4:(f.bHO.map cK.name).length≤1000:=by simp; omega
 have l5:(RU f).length≤1000:=by simp; omega
 have l6:(f.bHS.map cJ.name).length≤1000:=by simp; omega
 have l7:(f.bHQ.map eM.name).length≤9223372036854775807:=by simp; omega
 cases ok with
 | false =>
  simp only[go_sem,γ,yA,hv.a8,nC]
  exact fY rfl rfl
 | true =>
  simp only[go_sem,γ,yA,hv.a8,hv.a3]
  refine aA (zV L h3 l3) rfl ?_
  unfold uE
  cases c1:distinct (f.bHY.map bX.name) with
  | false =>
   simp only[go_sem,γ,reduceCtorEq,nC,bKF]
   exact fY rfl rfl
  | true =>
   simp only[go_sem,γ,reduceCtorEq,hv.a4,bJW]
   refine aA (zV L h4 l4) rfl ?_
   cases c2:distinct (f.bHO.map cK.name) with
   | false =>
    simp only[go_sem,γ,reduceCtorEq,nC,bKF]
    exact fY rfl rfl
   | true =>
    simp only[go_sem,γ,reduceCtorEq,hv.a5,bJW]
    refine aA (zV L h5 l5) rfl ?_
    cases c3:distinct (RU f) with
    | false =>
     simp only[go_sem,γ,reduceCtorEq,nC,bKF]
     exact fY rfl rfl
    | true =>
     simp only[go_sem,γ,reduceCtorEq,hv.a6,bJW]
     refine aA (zV L h6 l6) rfl ?_
     cases c4:distinct (f.bHS.map cJ.name) with
     | false =>
      simp only[go_sem,γ,reduceCtorEq,nC,bKF]
      exact fY rfl rfl
     | true =>
      simp only[go_sem,γ,reduceCtorEq,hv.a7,bJW]
      refine sQ (L.uniq _ l7) h7 rfl fun F1 H1 hp=>?_
      have g:F1 239=some (.bool false):=hp 239 _ rfl fun _ _ _=>rfl
      cases c5:distinct (f.bHQ.map eM.name) with
      | false =>
       simp only[go_sem,γ,reduceCtorEq,nC,bKF,g]
       exact fY rfl rfl
      | true =>
       simp only[go_sem,γ,reduceCtorEq,GC,bJW,g]
       exact fY rfl rfl
abbrev amX (b:Bool):cA:=aR [.tmp 2] (bQ (.int .i64 (bI b)))
def azP:aB:=.seq (.seq (.region WR) (.block 10 (.loop GB))) (.seq (.seq (.region yA) (.cond (.tmp 243) (.seq (.region nC) .ret) .skip)) (.seq (.region GC) .ret))
def azO:aB:=.seq (.seq (.region WO) (.block 8 (.loop GA))) azP
def azN:aB:=.seq (.seq (.region WM) (.block 6 (.loop FZ))) azO
def azM:aB:=.seq (.seq (.region WL) (.block 4 (.loop FY))) azN
def azL:aB:=.seq (.seq (.region WJ) (.block 2 (.loop FX))) azM
def baE:aB:=.seq (.seq (.region akX) (.block 0 (.loop FW))) azL
theorem bsQ {C:Ctx} (L:kC C) (f:aE) (hs:Small f) (w3 w4 w5 w6:PV) (ok:Bool) (F:PF) (H:PH) (hv:kF F f w3 w4 w5 w6 .bHP ok)
  (h3:Seen 1 w3 (eT (f.bHY.map bX.name))) (h4:Seen 1 w4 (eT (f.bHO.map cK.name))) (h5:Seen 1 w5 (eT (RU f))) (h6:aX H 1 w6 (eT (f.bHS.map cJ.name))) :
  aB.wp C azP (amX (ok&&f.bHQ.all (nF f)&&uE f)) F H:=by
 unfold azP
 simp only[go_sem,γ,WR,hv.a1,bJT]
 refine pO h6 fun v1 hv1 F1 H1 ht hp=>?_
 refine a5L L f hs.bHQ hs.bHS ok w3 w4 w5 v1 _ F1 H1 ⟨hp 1 _ (by simp only[go_sem,γ,hv.a1]) fun _ _ _=>rfl,hp 3 _ (by simp only[go_sem,γ,hv.a3]) h3.pure,hp 4 _ (by simp only[go_sem,γ,hv.a4]) h4.pure,hp 5 _ (by simp only[go_sem,γ,hv.a5]) h5.pure,ht 6 (by simp only[go_sem,γ,hv.a6]),hp 7 _ (by simp only[go_sem,γ,hv.a7]) fun _ _ _=>rfl,hp 8 _ (by simp only[go_sem,γ,hv.a8]) fun _ _ _=>rfl⟩
  (hp 195 _ rfl fun _ _ _=>rfl) (hp 196 _ rfl fun _ _ _=>rfl) (hp 197 _ rfl fun _ _ _=>rfl) fun v F' H' hv' hO=>?_
 have e:=blD L f hs w3 w4 w5 v1 v _ F' H' hv' h3 h4 h5 hv1 hO
 simp only[aB.wp,go_sem] at e
 simp only[go_sem]
 exact e
theorem bsP {C:Ctx} (L:kC C) (f:aE) (hf:f.Ok) (hs:Small f) (w3 w4 w5:PV) (ok:Bool) (F:PF) (H:PH) (hv:kF F f w3 w4 w5 .bHP .bHP ok)
  (h3:Seen 1 w3 (eT (f.bHY.map bX.name))) (h4:Seen 1 w4 (eT (f.bHO.map cK.name))) (h5:aX H 1 w5 (eT (RU f))) :
  aB.wp C azO (amX (ok&&f.bHS.all (jD f.bHO.length)&&f.bHQ.all (nF f)&&uE f)) F H:=by
 unfold azO
 simp only[go_sem,δ,γ,θ,WO,hv.a1,bJT]
 refine pO h5 fun v1 hv1 F1 H1 ht hp=>?_
 refine a5K L f hf hs.bHS hs.bHO ok w3 w4 v1 .bHP _ F1 H1 ⟨hp 1 _ (by simp only[go_sem,γ,hv.a1]) fun _ _ _=>rfl,hp 3 _ (by simp only[go_sem,γ,hv.a3]) h3.pure,hp 4 _ (by simp only[go_sem,γ,hv.a4]) h4.pure,ht 5 (by simp only[go_sem,γ,hv.a5]),hp 6 _ (by simp only[go_sem,γ,hv.a6]) fun _ _ _=>rfl,hp 7 _ (by simp only[go_sem,γ,hv.a7]) fun _ _ _=>rfl,hp 8 _ (by simp only[go_sem,γ,hv.a8]) fun _ _ _=>rfl⟩
  (hp 174 _ rfl fun _ _ _=>rfl) (hp 175 _ rfl fun _ _ _=>rfl) (hp 176 _ rfl fun _ _ _=>rfl) fun v F' H' hv' hO=>?_
 simp only[go_sem]
 exact bsQ L f hs w3 w4 v1 v _ F' H' hv' h3 h4 hv1 hO
theorem bsO {C:Ctx} (L:kC C) (f:aE) (hf:f.Ok) (hs:Small f) (w3 w4 w5:PV) (ok:Bool) (F:PF) (H:PH) (hv:kF F f w3 w4 w5 .bHP .bHP ok)
  (h3:Seen 1 w3 (eT (f.bHY.map bX.name))) (h4:Seen 1 w4 (eT (f.bHO.map cK.name))) (h5:aX H 1 w5 (eT ((f.bHR.drop 1).map cH.name))) :
  aB.wp C azN (amX (ok&&f.bHN.all (hJ f)&&f.bHS.all (jD f.bHO.length)&&f.bHQ.all (nF f)&&uE f)) F H:=by
 unfold azN
 simp only[go_sem,δ,γ,θ,WM,hv.a1,bJT]
 refine a5J L f ((f.bHR.drop 1).map cH.name) (by have:=hs.bHR; simp; omega) hs.bHN hs.bHO hs.bHR ok w3 w4 w5 .bHP .bHP _ _ H ⟨by simp only[go_sem,γ,hv.a1],by simp only[go_sem,γ,hv.a3],by simp only[go_sem,γ,hv.a4],by simp only[go_sem,γ,hv.a5],by simp only[go_sem,γ,hv.a6],by simp only[go_sem,γ,hv.a7],by simp only[go_sem,γ,hv.a8]⟩ h5
  rfl rfl rfl fun v F' H' hv' hO=>?_
 simp only[go_sem]
 exact bsP L f hf hs w3 w4 v _ F' H' hv' h3 h4 hO
theorem bsN {C:Ctx} (L:kC C) (f:aE) (hf:f.Ok) (hs:Small f) (hd:0<f.bHR.length) (w3 w4:PV) (ok:Bool) (F:PF) (H:PH) (hv:kF F f w3 w4 .bHP .bHP .bHP ok)
  (h3:Seen 1 w3 (eT (f.bHY.map bX.name))) (h4:aX H 1 w4 (eT (f.bHO.map cK.name))) :
  aB.wp C azM (amX (ok&&f.bHN.all (hJ f)&&f.bHS.all (jD f.bHO.length)&&f.bHQ.all (nF f)&&uE f)) F H:=by
 unfold azM
 have hsl:(1:Int)≤(f.bHR.length:Nat):=by omega
 have hsd:=hs.bHR
 have hdrop:((f.bHR.map cH.cells).take f.bHR.length).drop 1=(f.bHR.drop 1).map cH.cells:=by
  rw[bKL (by simp),List.map_drop]
 simp only[go_sem,κ,ν,δ,γ,θ,reduceCtorEq,WL,hv.a1,bJT,hsl,bMQ,hdrop]
 refine pO h4 fun v1 hv1 F1 H1 ht hp=>?_
 refine a5I L f (f.bHR.drop 1) (by simp; omega) ok w3 v1 .bHP .bHP _ F1 H1 ⟨hp 1 _ (by simp only[go_sem,γ,hv.a1]) fun _ _ _=>rfl,hp 3 _ (by simp only[go_sem,γ,hv.a3]) h3.pure,ht 4 (by simp only[go_sem,γ,hv.a4]),hp 5 _ (by simp only[go_sem,γ,hv.a5]) fun _ _ _=>rfl,hp 6 _ (by simp only[go_sem,γ,hv.a6]) fun _ _ _=>rfl,hp 7 _ (by simp only[go_sem,γ,hv.a7]) fun _ _ _=>rfl,hp 8 _ (by simp only[go_sem,γ,hv.a8]) fun _ _ _=>rfl⟩
  (hp 119 _ rfl fun _ _ _=>rfl) (hp 120 _ rfl fun _ _ _=>rfl) (hp 121 _ rfl fun _ _ _=>rfl) fun v F' H' hv' hO=>?_
 simp only[go_sem]
 exact bsO L f hf hs w3 v1 v _ F' H' hv' h3 hv1 hO
theorem bsM {C:Ctx} (L:kC C) (f:aE) (hf:f.Ok) (hs:Small f) (hd:0<f.bHR.length) (w3:PV) (ok:Bool) (F:PF) (H:PH) (hv:kF F f w3 .bHP .bHP .bHP .bHP ok)
  (h3:aX H 1 w3 (eT (f.bHY.map bX.name))) :
  aB.wp C azL (amX (ok&&f.bHO.all (jV f)&&f.bHN.all (hJ f)&&f.bHS.all (jD f.bHO.length)&&f.bHQ.all (nF f)&&uE f)) F H:=by
 unfold azL
 simp only[go_sem,δ,γ,θ,WJ,hv.a1,bJT]
 refine pO h3 fun v1 hv1 F1 H1 ht hp=>?_
 refine a5H L f hs.bHO hs.bHY ok v1 .bHP .bHP .bHP _ F1 H1 ⟨hp 1 _ (by simp only[go_sem,γ,hv.a1]) fun _ _ _=>rfl,ht 3 (by simp only[go_sem,γ,hv.a3]),hp 4 _ (by simp only[go_sem,γ,hv.a4]) fun _ _ _=>rfl,hp 5 _ (by simp only[go_sem,γ,hv.a5]) fun _ _ _=>rfl,hp 6 _ (by simp only[go_sem,γ,hv.a6]) fun _ _ _=>rfl,hp 7 _ (by simp only[go_sem,γ,hv.a7]) fun _ _ _=>rfl,hp 8 _ (by simp only[go_sem,γ,hv.a8]) fun _ _ _=>rfl⟩
  (hp 85 _ rfl fun _ _ _=>rfl) (hp 86 _ rfl fun _ _ _=>rfl) (hp 87 _ rfl fun _ _ _=>rfl) fun v F' H' hv' hO=>?_
 simp only[go_sem]
 exact bsN L f hf hs hd v1 v _ F' H' hv' hv1 hO
theorem bsL {C:Ctx} (L:kC C) (f:aE) (hf:f.Ok) (hs:Small f) (hd:0<f.bHR.length) (F:PF) (H:PH) (hv:kF F f .bHP .bHP .bHP .bHP .bHP true) :
  aB.wp C baE (amX (f.bHY.all jU&&f.bHO.all (jV f)&&f.bHN.all (hJ f)&&f.bHS.all (jD f.bHO.length)&&f.bHQ.all (nF f)&&uE f)) F H:=by
 unfold baE
 simp only[go_sem,δ,γ,θ,akX,hv.a1,bJT]
 refine a5G L f hf hs.bHY .bHP .bHP .bHP .bHP _ _ H ⟨by simp only[go_sem,γ,hv.a1],by simp only[go_sem,γ,hv.a3],by simp only[go_sem,γ,hv.a4],by simp only[go_sem,γ,hv.a5],by simp only[go_sem,γ,hv.a6],by simp only[go_sem,γ,hv.a7],by simp only[go_sem,γ,hv.a8]⟩ rfl rfl rfl fun v F' H' hv' hO=>?_
 simp only[go_sem]
 exact bsM L f hf hs hd v _ F' H' hv' hO
theorem bsJ {C:Ctx} (L:kC C) (f:aE) (hf:f.Ok):MS.wp C (aR a5F.res (bQ (.int .i64 (JP f)))) (PF.args [.agg f.cells]) .nil:=by
 have he:cV f=(mS f&&nB f&&(f.bHY.all jU&&f.bHO.all (jV f)&&f.bHN.all (hJ f)&&f.bHS.all (jD f.bHO.length)&&f.bHQ.all (nF f))&&uE f):=rfl
 simp only[go_sem,δ,γ,θ,MS,aWF,aWG,a5F]
 refine aA (L.inn f.bJD 1 4) rfl ?_
 have bad:∀ (F:PF) (H:PH),cV f=false→F 2=some (.int .i64 1)→aR [.tmp 2] (bQ (.int .i64 (JP f))) .ret F H:=fun F H h1 h2=>fY h2 (baF h1).symm
 cases e0:within f.bJD 1 4 with
 | false =>
  have:mS f=false:=by simp[mS,e0]
  simp only[go_sem,γ,bKF,pB]
  exact bad _ _ (by rw[he,this]; simp only[bKC]) rfl
 | true =>
  by_cases s1:f.bHY.length≤4
  ·have s1':¬ ((f.bHY.length:Nat):Int)>4:=by omega
   by_cases s2:f.bHO.length≤4
   ·have s2':¬ ((f.bHO.length:Nat):Int)>4:=by omega
    by_cases s3:f.bHR.length≤40
    ·have s3':¬ ((f.bHR.length:Nat):Int)>40:=by omega
     by_cases s4:f.bHN.length≤24
     ·have s4':¬ ((f.bHN.length:Nat):Int)>24:=by omega
      by_cases s5:f.bHS.length≤4
      ·have s5':¬ ((f.bHS.length:Nat):Int)>4:=by omega
       by_cases s6:f.bHQ.length≤12
       ·have s6':¬ ((f.bHQ.length:Nat):Int)>12:=by omega
        have hsz:=aTG ⟨s1,s2,s3,s4,s5,s6⟩
        rw[e0] at hsz
        simp only[go_sem,δ,γ,θ,reduceCtorEq,bJW,bJT,s1',s2',s3',s4',s5',s6']
        refine aA (L.bIA f hf) rfl ?_
        cases e1:nB f with
        | false =>
         simp only[go_sem,γ,reduceCtorEq,bKF,pB]
         exact bad _ _ (by rw[he,e1]; simp only[bLE,bKC]) rfl
        | true =>
         have hd:0<f.bHR.length:=by
          rcases bLU f.bHR.length with h | h
          ·have:f.bHR=[]:=List.eq_nil_of_length_eq_zero h
           rw[nB,this] at e1
           cases e1
          ·exact h
         have hz:JP f=bI (f.bHY.all jU&&f.bHO.all (jV f)&&f.bHN.all (hJ f)&&f.bHS.all (jD f.bHO.length)&&f.bHQ.all (nF f)&&uE f):=by
          rw[JP,he,hsz,e1]; rfl
         rw[hz]
         simp only[go_sem,γ,reduceCtorEq,bJW,aWH,aWI]
         have e:=fun F H hv=>bsL L f hf ⟨s1,s2,s3,s4,s5,s6⟩ hd F H hv
         simp only[baE,azL,azM,azN,azO,azP,aB.wp,go_sem] at e
         exact e _ _ ⟨by simp only[go_sem,γ],by simp only[go_sem,γ],by simp only[go_sem,γ],by simp only[go_sem,γ],by simp only[go_sem,γ],by simp only[go_sem,γ],by simp only[go_sem,γ]⟩
       ·have s6':((f.bHQ.length:Nat):Int)>12:=by omega
        simp only[go_sem,δ,γ,θ,reduceCtorEq,bJW,bJT,s1',s2',s3',s4',s5',s6',pB]
        exact bad _ _ (by rw[he,mT Om]; simp only[bKC]) rfl
      ·have s5':((f.bHS.length:Nat):Int)>4:=by omega
       simp only[go_sem,δ,γ,θ,reduceCtorEq,bJW,bJT,s1',s2',s3',s4',s5',pB]
       exact bad _ _ (by rw[he,mT Om]; simp only[bKC]) rfl
     ·have s4':((f.bHN.length:Nat):Int)>24:=by omega
      simp only[go_sem,δ,γ,θ,reduceCtorEq,bJW,bJT,s1',s2',s3',s4',pB]
      exact bad _ _ (by rw[he,mT Om]; simp only[bKC]) rfl
    ·have s3':((f.bHR.length:Nat):Int)>40:=by omega
     simp only[go_sem,δ,γ,θ,reduceCtorEq,bJW,bJT,s1',s2',s3',pB]
     exact bad _ _ (by rw[he,mT Om]; simp only[bKC]) rfl
   ·have s2':((f.bHO.length:Nat):Int)>4:=by omega
    simp only[go_sem,δ,γ,θ,reduceCtorEq,bJW,bJT,s1',s2',pB]
    exact bad _ _ (by rw[he,mT Om]; simp only[bKC]) rfl
  ·have s1':((f.bHY.length:Nat):Int)>4:=by omega
   simp only[go_sem,δ,γ,θ,reduceCtorEq,bJW,bJT,s1',pB]
   exact bad _ _ (by rw[he,mT Om]; simp only[bKC]) rfl
def lvl (f:aE) (i:Nat):Int:=(f.bHR.map cH.level).getD i 0
def par (f:aE) (i:Nat):Int:=(f.bHR.map cH.parent).getD i 0
def YK (f:aE) (i:Nat):Nat:=(par f i).toNat
def fD (f:aE) (d:Nat):Nat:=((f.bHN.map cY.machine).getD d 0).toNat
def mdl (f:aE) (d:Nat):Nat:=((f.bHN.map cY.model).getD d 0).toNat
def ext (f:aE) (d:Nat):Int:=(f.bHO.map cK.bIJ).getD (mdl f d) 0
def OG (f:aE) (v:Nat):Nat:=((f.bHQ.map eM.bID).getD v 0).toNat
def bAM:cJ:=⟨[],0,0,0,0,0,0,0,0,[],[],⟨false,[],[]⟩,⟨false,[],[]⟩⟩
def fR (f:aE) (v:Nat):cJ:=f.bHS.getD (OG f v) bAM
def upN (f:aE):Nat→Nat→Nat
 | 0,i=>i
 | k+1,i=>YK f (upN f k i)
theorem getD_at {α β:Type} {l:List α} {g:α→β} {i:Nat} {b:β} (h:i<l.length):(l.map g).getD i b=g l[i]:=by
 simp[bKK,h]
structure VF (f:aE):Prop where
 small:Small f
 root:0<f.bHR.length∧lvl f 0=0∧par f 0=-1
 dom:∀ i,0<i→i<f.bHR.length→0≤par f i∧YK f i<i∧lvl f (YK f i)=lvl f i-1∧1≤lvl f i∧lvl f i≤4
 drive:∀ d (h:d<f.bHN.length),0≤(f.bHN[d]).model∧mdl f d<f.bHO.length∧0≤(f.bHN[d]).machine∧fD f d<f.bHR.length∧lvl f (fD f d)=4
 bID:∀ p∈f.bHS,1≤p.k∧p.k≤6∧0≤p.m∧p.m≤4∧p.k+p.m≤8∧p.s0=0∧(∀ l,0≤p.spread l∧p.spread l≤8)∧∀ m∈p.bHO,0≤m∧m<f.bHO.length
 volume:∀ v (h:v<f.bHQ.length),0≤(f.bHQ[v]).bID∧OG f v<f.bHS.length
 model:∀ m∈f.bHO,1≤m.bIJ∧m.bIJ≤16
theorem buC {p:cJ} {n:Nat} (h:jD n p=true):∀ m∈p.bHO,0≤m∧m<n:=by
 intro m hm
 simp only[jD,bKM] at h
 obtain⟨i,hi,rfl⟩:=bLJ hm
 have:=bKP.1 h.2 i (bLN.2 hi)
 rw[bKM] at this
 have h1:=within_iff.1 this.1
 simp only[bKK,bKG hi,bLX] at h1
 omega
theorem aiO {x:Int} (h1:1≤x) (h2:x≤4):IntKind.i64.wrap (x-1)=x-1:=wrap_i64 Om Om
theorem VF.of {f:aE} (h:cV f=true):VF f:=by
 simp only[cV,bKM] at h
 obtain⟨⟨⟨hs,hd⟩,⟨⟨⟨hlaw,hmod⟩,hdrv⟩,hpol⟩,hvol⟩,-⟩:=h
 simp only[mS,bKM,decide_eq_true_eq] at hs
 obtain⟨⟨⟨⟨⟨⟨s0,s1⟩,s2⟩,s3⟩,s4⟩,s5⟩,s6⟩:=hs
 cases hdm:f.bHR with
 | nil=>rw[nB,hdm] at hd; cases hd
 | cons r t =>
  rw[nB,hdm] at hd
  simp only[zE,bKM,decide_eq_true_eq] at hd
  obtain⟨⟨⟨⟨⟨⟨r1,r2⟩,r3⟩,r4⟩,r5⟩,r6⟩,bJG⟩:=hd
  have hlen:f.bHR.length=t.length+1:=by rw[hdm]; rfl
  refine⟨⟨s1,s2,s3,s4,s5,s6⟩,⟨by omega,by rw[lvl,hdm]; exact r2,by rw[par,hdm]; exact r3⟩,?_,?_,?_,?_,?_⟩
  ·intro i h0 hi
   obtain⟨k,rfl⟩:∃ k,i=k+1:=⟨i-1,by omega⟩
   have hk:k<t.length:=by omega
   have:=bKP.1 bJG k (bLN.2 hk)
   rw[bKG hk] at this
   simp only[EZ,bKM,decide_eq_true_eq] at this
   obtain⟨⟨⟨⟨d1,d2⟩,d3⟩,d4⟩,d5⟩:=this
   obtain⟨p0,p1⟩:=within_iff.1 d1
   obtain⟨l1,l4⟩:=within_iff.1 d3
   have e1:par f (k+1)=(t[k]).parent:=by rw[par,hdm]; simp[bKK,hk]
   have e2:lvl f (k+1)=(t[k]).level:=by rw[lvl,hdm]; simp[bKK,hk]
   rw[aiO l1 l4] at d2
   have e3:lvl f (t[k]).parent.toNat=(t[k]).level-1:=d2
   refine⟨by rw[e1]; exact p0,?_,?_,by rw[e2]; exact l1,by rw[e2]; exact l4⟩
   ·rw[YK,e1]; omega
   ·rw[YK,e1,e2]; exact e3
  ·intro d hd
   have:=bKP.1 hdrv _ (bJZ hd)
   simp only[hJ,bKM,decide_eq_true_eq] at this
   obtain⟨⟨d1,d2⟩,d3⟩:=this
   have a1:=within_iff.1 d1
   have a2:=within_iff.1 d2
   have e1:mdl f d=(f.bHN[d]).model.toNat:=by rw[mdl,getD_at hd]
   have e2:fD f d=(f.bHN[d]).machine.toNat:=by rw[fD,getD_at hd]
   refine⟨a1.1,by rw[e1]; omega,a2.1,by rw[e2]; omega,by rw[e2]; exact d3⟩
  ·intro p hp
   have h1:=bKP.1 hpol p hp
   have h2:=buC h1
   simp only[jD,HP,bKM,decide_eq_true_eq,List.all_cons,List.all_nil,bMF] at h1
   obtain⟨⟨⟨⟨⟨⟨⟨⟨k1,m1⟩,km⟩,q1⟩,z0⟩,sp⟩,-⟩,-⟩,-⟩:=h1
   obtain⟨g0,g1,g2,g3,g4⟩:=sp
   have b1:=within_iff.1 k1
   have b2:=within_iff.1 m1
   have b3:=within_iff.1 g0
   have b4:=within_iff.1 g1
   have b5:=within_iff.1 g2
   have b6:=within_iff.1 g3
   have b7:=within_iff.1 g4
   refine⟨b1.1,b1.2,b2.1,b2.2,km,z0,fun l=>?_,h2⟩
   unfold cJ.spread
   split<;>omega
  ·intro v hv
   have:=bKP.1 hvol _ (bJZ hv)
   have a1:=within_iff.1 this
   have e1:OG f v=(f.bHQ[v]).bID.toNat:=by rw[OG,getD_at hv]
   exact⟨a1.1,by rw[e1]; omega⟩
  ·intro m hm
   have:=bKP.1 hmod m hm
   simp only[jV,bKM] at this
   exact within_iff.1 this.1.1
theorem QI {f:aE} (h:VF f) {d:Nat} (hd:d<f.bHN.length):∀ {k:Nat},k≤4→upN f k (fD f d)<f.bHR.length∧lvl f (upN f k (fD f d))=4-(k:Int)
 | 0,_=>⟨(h.drive d hd).2.2.2.1,by rw[upN,(h.drive d hd).2.2.2.2]; rfl⟩
 | k+1,hk=>by
  obtain⟨h1,h2⟩:=QI h hd (k:=k) Om
  have hne:0<upN f k (fD f d):=by
   rcases bLU (upN f k (fD f d)) with e | e
   ·rw[e,h.root.2.1] at h2; omega
   ·exact e
  obtain⟨g1,g2,g3,g4,g5⟩:=h.dom _ hne h1
  refine⟨by rw[upN]; omega,?_⟩
  rw[upN,g3,h2]; omega
def eO (f:aE) (d:Nat) (level:Int):Nat:=upN f (4-level.toNat) (fD f d)
def lE (f:aE) (v:Nat):Int:=(fR f v).k+(fR f v).m
def atY:Rg:=[iA 1 (.box true (Tm 0)),iT 2 false]
def atZ:Rg:=[iO 3 7 1,iK 4 96 3,iC 5 .eql 4 0,iM 2 5]
def CM:aB:=(sq atY (sq atZ .ret))
def bhN:List Nat:=[1]
def agP:aS:=⟨1,6,CM,[.tmp 2]⟩
def aLY:Rg:=[iA 2 (.box true (Tm 0)),iI 4 0]
def aLZ:Rd:=[(iF 6 5 2,false),(iL 7 6,false),(iF 8 6 2,false),(iL 9 8,false),(iM 10 1,false),(iX 11 2 9 10,false),(iF 12 1 11,false),(iL 13 12,false),(iX 14 17 7 13,false),(iO 15 17 14,false),(iA 5 (.alloc [(.str []),(.int .i64 0),(.int .i64 0),(.int .i64 0),(.int .i64 0),(.int .i64 0),(.int .i64 0),(.int .i64 0),(.int .i64 0),.bHP,.bHP,(.bool false),.bHP,.bHP,(.bool false),.bHP,.bHP]),true),(iS 17 5 15,true)]
def aMA:Rg:=[iF 16 1 5,iL 17 16,iF 18 2 5,iL 19 18,iB 20 .add 17 19,iM 4 20]
def IU:aB:=(sq aLY (dq aLZ (sq aMA .ret)))
def boN:List Nat:=[2]
def azD:aS:=⟨2,21,IU,[.tmp 4]⟩
def asS:Rg:=[iA 3 (.box true (Tm 0)),iI 6 0]
def asT:Rg:=[iF 8 4 3,iL 9 8,iM 10 1,iX 11 3 9 10,iF 12 2 11,iL 13 12,iM 7 13]
def asU:Rg:=[iF 14 3 3,iL 15 14,iM 16 7,iX 17 7 15 16,iF 18 1 17,iL 19 18,iM 20 2,iB 21 .gtr 19 20]
def asV:Rg:=[iF 22 3 3,iL 23 22,iM 24 7,iX 25 7 23 24,iF 26 2 25,iL 27 26,iM 7 27]
def asR:aB:=(.seq (sq asU (.cond (Tm 21) .skip (.exit 0))) (.block 1 (.region asV)))
def asW:Rg:=[iM 28 7,iM 6 28]
def CH:aB:=(sq asS (sq asT (.seq (.block 0 (.loop asR)) (sq asW .ret))))
def bgU:List Nat:=[3]
def afV:aS:=⟨3,29,CH,[.tmp 6]⟩
def aMD:Rg:=[iA 2 (.box true (Tm 0)),iZ 4]
def aME:Rg:=[iO 7 7 2,iK 8 161 7,iA 9 (.un .not (Tm 8))]
def aMF:Rg:=[iZ 4]
def aMG:Rg:=[iF 10 4 2,iL 11 10,iN 12 11,iA 13 (.bHZ 1 8 [(.int .i64 0)] (Tm 12) (Tm 12)),iM 5 13]
def aMH:Rg:=[iM 14 5,iN 15 14,iI 16 0]
def aMI:Rg:=[iB 17 .lss 16 15]
def aMJ:Rg:=[iM 18 16,iM 6 18]
def aMK:Rd:=[(iM 19 5,false),(iM 20 6,false),(iF 21 2 2,false),(iL 22 21,false),(iF 23 4 2,false),(iL 24 23,false),(iM 25 6,false),(iX 26 3 24 25,false),(iF 27 1 26,false),(iL 28 27,false),(iX 29 4 22 28,false),(iF 30 1 29,false),(iL 31 30,false),(iX 32 1 19 20,false),(iS 1 32 31,true)]
def aML:Rg:=[iM 33 1,iN 34 33,iM 35 5,iN 36 35,iB 37 .eql 34 36]
def aMM:Rd:=[(iM 38 5,false),(iM 39 6,false),(iM 40 1,false),(iM 41 6,false),(iX 42 1 40 41,false),(iL 43 42,false),(iA 44 (.bIQ true (Tm 43) (Ci 0)),false),(iM 45 5,false),(iM 46 6,false),(iX 47 1 45 46,false),(iL 48 47,false),(iA 49 (.bIQ false (Tm 44) (Tm 48)),false),(iX 50 1 38 39,false),(iS 1 50 49,true)]
def PK:Rg:=[iC 51 .add 16 1,iM 16 51]
def atO:aB:=(sq aMI (.seq (.cond (Tm 17) .skip (.exit 0)) (.seq (.block 1 (sq aMJ (dq aMK (sq aML (.cond (Tm 37) (.draw aMM) .skip))))) (.region PK))))
def atQ:Rg:=[iM 52 5,iM 4 52]
def IX:aB:=(sq aMD (.seq (sq aME (.cond (Tm 9) (sq aMF .ret) .skip)) (sq aMG (.seq (sq aMH (.block 0 (.loop atO))) (sq atQ .ret)))))
def boQ:List Nat:=[2]
def azE:aS:=⟨2,53,IX,[.tmp 4]⟩
def bgV:Rg:=[iA 3 (.box true (Tm 0)),iI 6 0]
def bgW:Rg:=[iO 7 7 3,iK 8 161 7,iA 9 (.un .not (Tm 8)),iM 10 9,gM 11 1 10 false,gC 12 .lss 11 0 10 false,iQ 13 10 12,iM 14 13,gM 15 1 14 false,gF 16 4 3 14 false,gL 17 16 14 false,gN 18 17 14 false,gB 19 .geq 15 18 14 false,iQ 20 14 19,iM 21 20,gM 22 2 21 false,gC 23 .lss 22 0 21 false,iQ 24 21 23,iM 25 24,gM 26 2 25 false,gC 27 .geq 26 5 25 false,iQ 28 25 27]
def EN:Rg:=[iI 6 (-1)]
def bgX:Rg:=[iO 29 7 3,iM 30 1,iM 31 2,iA 32 (.call 155 [(Tm 29),(Tm 30),(Tm 31)]),iM 6 32]
def ZJ:aB:=(sq bgV (.seq (sq bgW (.cond (Tm 28) (sq EN .ret) .skip)) (sq bgX .ret)))
def byA:List Nat:=[3]
def tat:aS:=⟨3,33,ZJ,[.tmp 6]⟩
def agA:Rg:=[iA 2 (.box true (Tm 0)),iZ 4]
def agB:Rg:=[iZ 5]
def agC:Rg:=[iO 7 7 2,iK 8 161 7,iA 9 (.un .not (Tm 8)),iM 10 9,gM 11 1 10 false,gC 12 .lss 11 0 10 false,iQ 13 10 12,iM 14 13,gM 15 1 14 false,gF 16 3 2 14 false,gL 17 16 14 false,gN 18 17 14 false,gB 19 .geq 15 18 14 false,iQ 20 14 19]
def wL:Rg:=[iM 21 5,iM 4 21]
def agD:Rg:=[iF 22 4 2,iL 23 22,iN 24 23,iI 25 0]
def agE:Rg:=[iB 26 .lss 25 24]
def agF:Rg:=[iM 27 25,iM 6 27]
def agG:Rd:=[(iO 28 7 2,false),(iM 29 6,false),(iF 30 3 2,false),(iL 31 30,false),(iM 32 1,false),(iX 33 7 31 32,false),(iF 34 1 33,false),(iL 35 34,false),(iA 36 (.call 155 [(Tm 28),(Tm 29),(Tm 35)]),true),(iM 37 1,true),(iB 38 .eql 36 37,false)]
def agH:Rg:=[iM 39 5,iM 40 6,iA 41 (.bHU true 1 1 [(.int .i64 0)] [(0,(Tm 40))]),iA 42 (.append 1 8 (Tm 39) (Tm 41)),iM 5 42]
def IT:Rg:=[iC 43 .add 25 1,iM 25 43]
def UP:aB:=(sq agE (.seq (.cond (Tm 26) .skip (.exit 0)) (.seq (.block 1 (sq agF (dq agG (.cond (Tm 38) (.region agH) .skip)))) (.region IT))))
def UQ:Rg:=[iM 44 5,iM 4 44]
def yR:aB:=(sq agA (sq agB (.seq (sq agC (.cond (Tm 20) (sq wL .ret) .skip)) (.seq (sq agD (.block 0 (.loop UP))) (sq UQ .ret)))))
def a9Q:List Nat:=[2,41]
def SE:aS:=⟨2,45,yR,[.tmp 4]⟩
def asX:Rg:=[iA 2 (.box true (Tm 0)),iZ 4]
def asY:Rg:=[iZ 5]
def asZ:Rg:=[iO 8 7 2,iK 9 161 8,iA 10 (.un .not (Tm 9)),iM 11 10,gM 12 1 11 false,gC 13 .lss 12 0 11 false,iQ 14 11 13]
def PE:Rg:=[iM 15 5,iM 4 15]
def atA:Rg:=[iF 16 3 2,iL 17 16,iN 18 17,iI 19 0]
def atB:Rg:=[iB 20 .lss 19 18]
def atC:Rg:=[iM 21 19,iX 22 7 17 19,iO 23 7 22,iA 7 (.alloc [(.str []),(.int .i64 0),(.int .i64 0),(.int .i64 0),(.bool false),.bHP,.bHP]),iM 6 21,iS 7 7 23]
def PG:Rg:=[iF 24 2 7,iL 25 24,iM 26 1,iB 27 .eql 25 26]
def atD:Rg:=[iM 28 5,iM 29 6,iA 30 (.bHU true 1 1 [(.int .i64 0)] [(0,(Tm 29))]),iA 31 (.append 1 8 (Tm 28) (Tm 30)),iM 5 31]
def PI:Rg:=[iC 32 .add 19 1,iM 19 32]
def afY:aB:=(sq atB (.seq (.cond (Tm 20) .skip (.exit 0)) (.seq (.block 1 (sq atC (sq PG (.cond (Tm 27) (.region atD) .skip)))) (.region PI))))
def afZ:Rg:=[iM 33 5,iM 4 33]
def CI:aB:=(sq asX (sq asY (.seq (sq asZ (.cond (Tm 14) (sq PE .ret) .skip)) (.seq (sq atA (.block 0 (.loop afY))) (sq afZ .ret)))))
def bgZ:List Nat:=[2,30]
def afX:aS:=⟨2,34,CI,[.tmp 4]⟩
def atG:Rg:=[iA 2 (.box true (Tm 0)),iZ 4]
def atH:Rg:=[iF 10 4 2,iL 11 10,iN 12 11,iA 13 (.bHZ 1 8 [(.int .i64 0)] (Tm 12) (Tm 12)),iM 5 13]
def atI:Rg:=[iM 14 1,iN 15 14,iI 16 0]
def atJ:Rg:=[iB 17 .lss 16 15]
def atK:Rg:=[iX 18 1 14 16,iL 19 18,iM 7 19]
def atL:Rg:=[iM 20 7,iN 21 20,iI 22 0]
def atM:Rg:=[iB 23 .lss 22 21]
def zZ:Rg:=[iX 24 1 20 22,iL 25 24,iM 9 25]
def AA:Rg:=[iM 26 9,iC 27 .geq 26 0,iM 28 27,gM 29 9 28 true,gM 30 5 28 true,gN 31 30 28 true,gB 32 .lss 29 31 28 true,iP 33 28 32]
def atN:Rg:=[iM 34 5,iM 35 9,iX 36 1 34 35,iL 37 36,iC 38 .add 37 1,iX 39 1 34 35,iS 1 39 38]
def wM:Rg:=[iC 40 .add 22 1,iM 22 40]
def agK:aB:=(sq atM (.seq (.cond (Tm 23) .skip (.exit 2)) (.seq (.block 3 (sq zZ (sq AA (.cond (Tm 33) (.region atN) .skip)))) (.region wM))))
def IV:Rg:=[iC 41 .add 16 1,iM 16 41]
def agL:aB:=(sq atJ (.seq (.cond (Tm 17) .skip (.exit 0)) (.seq (.block 1 (sq atK (sq atL (.block 2 (.loop agK))))) (.region IV))))
def IW:Rg:=[iM 42 5,iM 4 42]
def CK:aB:=(sq atG (sq atH (.seq (sq atI (.block 0 (.loop agL))) (sq IW .ret))))
def bhE:List Nat:=[2]
def agJ:aS:=⟨2,43,CK,[.tmp 4]⟩
def asN:Rg:=[iA 2 (.box true (Tm 0)),iZ 4]
def asO:Rg:=[iO 5 7 2,iK 6 161 5,iA 7 (.un .not (Tm 6))]
def asP:Rg:=[iZ 4]
def asQ:Rg:=[iO 8 7 2,iM 9 1,iK2 10 157 8 9,iM 4 10]
def CG:aB:=(sq asN (.seq (sq asO (.cond (Tm 7) (sq asP .ret) .skip)) (sq asQ .ret)))
def bgS:List Nat:=[2]
def afM:aS:=⟨2,11,CG,[.tmp 4]⟩
def atS:Rg:=[iA 3 (.box true (Tm 0)),iA 6 (.alloc [(.int .i64 0),(.int .i64 0),(.int .i64 0)]),iT 7 false]
def atT:Rd:=[(iM 10 1,true),(iM 11 2,true),(iX 12 1 10 11,true),(iL 13 12,true),(iN 14 13,true),(iO 15 7 3,false),(iM 16 2,false),(iK2 17 156 15 16,true),(iB 18 .neq 14 17,false)]
def atU:Rg:=[iM 19 2,iM 20 1,iM 21 2,iX 22 1 20 21,iL 23 22,iN 24 23,iA 25 (.build [(.int .i64 0),(.int .i64 0),(.int .i64 0)] [(0,1,(Ci 1)),(1,1,(Tm 19)),(2,1,(Tm 24))]),iS 3 6 25,iT 7 true]
def atV:Rg:=[iM 26 1,iM 27 2,iX 28 1 26 27,iL 29 28,iN 30 29,iI 31 0]
def atW:Rg:=[iB 32 .lss 31 30]
def AB:Rg:=[iM 33 31,iX 34 1 29 31,iL 35 34,iM 8 33,iM 9 35]
def AC:Rg:=[iM 36 9,iC 37 .lss 36 (-1),iM 38 37,gM 39 9 38 false,gF 40 4 3 38 false,gL 41 40 38 false,gN 42 41 38 false,gB 43 .geq 39 42 38 false,iQ 44 38 43]
def PL:Rg:=[iM 45 2,iM 46 8,iA 47 (.build [(.int .i64 0),(.int .i64 0),(.int .i64 0)] [(0,1,(Ci 1)),(1,1,(Tm 45)),(2,1,(Tm 46))]),iS 3 6 47,iT 7 true]
def atX:Rg:=[iC 48 .add 31 1,iM 31 48]
def atR:aB:=(sq atW (.seq (.cond (Tm 32) .skip (.exit 0)) (.seq (.block 1 (sq AB (sq AC (.cond (Tm 44) (sq PL .ret) .skip)))) (.region atX))))
def agO:Rg:=[iA 49 (.build [(.int .i64 0),(.int .i64 0),(.int .i64 0)] []),iS 3 6 49,iT 7 false]
def CL:aB:=(sq atS (.seq (dq atT (.cond (Tm 18) (sq atU .ret) .skip)) (.seq (sq atV (.block 0 (.loop atR))) (sq agO .ret))))
def bhL:List Nat:=[3]
def EO:aS:=⟨3,50,CL,[.cell 6 (some 3),.tmp 7]⟩
def afN:Rg:=[iA 2 (.box true (Tm 0)),iT 4 false]
def afO:Rg:=[iO 8 7 2,iK 9 161 8,iA 10 (.un .not (Tm 9)),iM 11 10,gM 12 1 11 false,gN 13 12 11 false,gF 14 6 2 11 false,gL 15 14 11 false,gN 16 15 11 false,gB 17 .neq 13 16 11 false,iQ 18 11 17]
def IQ:Rg:=[iT 4 false]
def afP:Rg:=[iM 19 1,iN 20 19,iI 21 0]
def afQ:Rg:=[iB 22 .lss 21 20]
def afR:Rg:=[iM 23 21,iM 5 23]
def afS:Rg:=[iO 25 7 2,iM 26 1,iM 27 5,iA 28 (.call 160 [(Tm 25),(Tm 26),(Tm 27)]),iM 24 28,iE 29 24 0,iE 30 24 1,iA 6 (.alloc [(.int .i64 0),(.int .i64 0),(.int .i64 0)]),iS 3 6 29,iM 7 30]
def IR:Rg:=[iM 31 7]
def afT:Rg:=[iT 4 false]
def afU:Rg:=[iC 32 .add 21 1,iM 21 32]
def UN:aB:=(sq afQ (.seq (.cond (Tm 22) .skip (.exit 0)) (.seq (.block 1 (sq afR (sq afS (sq IR (.cond (Tm 31) (sq afT .ret) .skip))))) (.region afU))))
def UO:Rg:=[iT 4 true]
def yQ:aB:=(sq afN (.seq (sq afO (.cond (Tm 18) (sq IQ .ret) .skip)) (.seq (sq afP (.block 0 (.loop UN))) (sq UO .ret))))
def a9O:List Nat:=[2]
def SD:aS:=⟨2,33,yQ,[.tmp 4]⟩
def auK:Rg:=[iA 5 (.alloc [(.int .i64 0),(.int .i64 0),(.int .i64 0)])]
def auL:Rg:=[iM 6 0,iL 7 2,iM 8 1,iA 9 (.build [(.int .i64 0),(.int .i64 0),(.int .i64 0)] [(0,1,(Tm 6)),(1,1,(Tm 7)),(2,1,(Tm 8))]),iS 3 5 9]
def CN:aB:=(sq auK (sq auL .ret))
def bhP:List Nat:=[]
def agQ:aS:=⟨2,10,CN,[.cell 5 (some 3)]⟩
def aMX:Rg:=[iA 3 (.box true (Tm 0)),iA 5 (.box false (Tm 2)),iZ 6]
def aMY:Rd:=[(iF 25 5 3,false),(iL 26 25,false),(iF 27 6 3,false),(iL 28 27,false),(iL 29 5,false),(iX 30 2 28 29,false),(iF 31 1 30,false),(iL 32 31,false),(iX 33 17 26 32,false),(iO 34 17 33,false),(iA 7 (.alloc [(.str []),(.int .i64 0),(.int .i64 0),(.int .i64 0),(.int .i64 0),(.int .i64 0),(.int .i64 0),(.int .i64 0),(.int .i64 0),.bHP,.bHP,(.bool false),.bHP,.bHP,(.bool false),.bHP,.bHP]),true),(iS 17 7 34,true)]
def aMZ:Rg:=[iF 35 2 3,iL 36 35,iN 37 36,iA 38 (.bHZ 1 1 [(.bool false)] (Tm 37) (Tm 37)),iM 8 38]
def aNA:Rg:=[iF 39 9 7,iL 40 39,iN 41 40,iI 42 0]
def aNB:Rg:=[iB 43 .lss 42 41]
def aNC:Rg:=[iX 44 1 40 42,iL 45 44,iM 10 45]
def aND:Rg:=[iM 46 8,iM 47 10,iX 48 1 46 47,⟨none,.store 1 (Tm 48) (.const (.bool true)),none⟩]
def aNE:Rg:=[iC 49 .add 42 1,iM 42 49]
def aMW:aB:=(sq aNB (.seq (.cond (Tm 43) .skip (.exit 0)) (.seq (.block 1 (sq aNC (.region aND))) (.region aNE))))
def aNF:Rg:=[iA 50 (.mkfn 159 [(Tm 5)]),iM 11 50]
def auM:Rg:=[iZ 12,iZ 13]
def auN:Rd:=[(iF 51 4 3,false),(iL 52 51,false),(iN 53 52,false),(iA 54 (.bHZ 1 8 [(.int .i64 0)] (Tm 53) (Tm 53)),true),(iF 55 3 3,false),(iL 56 55,false),(iN 57 56,false),(iA 58 (.bHZ 1 8 [(.int .i64 0)] (Tm 57) (Tm 57)),true),(iM 14 54,false),(iM 15 58,false)]
def auO:Rg:=[iM 59 1,iL 60 5,iX 61 1 59 60,iL 62 61,iN 63 62,iI 64 0]
def uX:Rg:=[iB 65 .lss 64 63]
def AE:Rg:=[iM 66 64,iX 67 1 62 64,iL 68 67,iM 16 66,iM 17 68]
def AF:Rg:=[iM 69 17,iC 70 .lss 69 0]
def auP:Rg:=[iM 71 12,iM 72 11,iM 73 16,iA 74 (.bJA (Tm 72) [(Ci 2),(Tm 73)]),iA 75 (.bHU true 3 1 [(.int .i64 0),(.int .i64 0),(.int .i64 0)] [(0,(Tm 74))]),iA 76 (.append 3 24 (Tm 71) (Tm 75)),iM 12 76]
def PT:Rg:=[iM 77 8,iF 78 4 3,iL 79 78,iM 80 17,iX 81 3 79 80,iF 82 1 81,iL 83 82,iX 84 1 77 83,iL 85 84,iA 86 (.un .not (Tm 85))]
def auQ:Rg:=[iM 87 13,iM 88 11,iM 89 16,iA 90 (.bJA (Tm 88) [(Ci 4),(Tm 89)]),iA 91 (.bHU true 3 1 [(.int .i64 0),(.int .i64 0),(.int .i64 0)] [(0,(Tm 90))]),iA 92 (.append 3 24 (Tm 87) (Tm 91)),iM 13 92]
def PU:Rg:=[iM 93 14,iM 94 17,iX 95 1 93 94,iL 96 95,iC 97 .add 96 1,iX 98 1 93 94,iS 1 98 97]
def PW:Rg:=[iF 99 4 3,iL 100 99,iM 101 17,iX 102 3 100 101,iF 103 2 102,iL 104 103,iM 18 104]
def auR:Rg:=[iM 105 18,iC 106 .gtr 105 0]
def auS:Rg:=[iM 113 15,iM 114 18,iX 115 1 113 114,iL 116 115,iC 117 .add 116 1,iX 118 1 113 114,iS 1 118 117]
def auT:Rg:=[iF 107 3 3,iL 108 107,iM 109 18,iX 110 7 108 109,iF 111 2 110,iL 112 111,iM 18 112]
def AD:aB:=(.seq (sq auR (.cond (Tm 106) .skip (.exit 4))) (.seq (.block 5 (.region auS)) (.region auT)))
def AG:Rg:=[iC 119 .add 64 1,iM 64 119]
def rG:aB:=(sq uX (.seq (.cond (Tm 65) .skip (.exit 2)) (.seq (.block 3 (sq AE (.seq (sq AF (.cond (Tm 70) (sq auP (.exit 3)) .skip)) (.seq (sq PT (.cond (Tm 86) (.region auQ) .skip)) (sq PU (sq PW (.block 4 (.loop AD)))))))) (.region AG))))
def auU:Rg:=[iM 120 12,iM 19 120]
def auV:Rg:=[iM 121 14,iN 122 121,iI 123 0]
def auW:Rg:=[iB 124 .lss 123 122]
def auX:Rg:=[iM 125 123,iX 126 1 121 123,iL 127 126,iM 20 125,iM 21 127]
def auY:Rg:=[iM 128 21,iC 129 .gtr 128 1]
def auZ:Rg:=[iM 130 19,iM 131 11,iM 132 20,iA 133 (.bJA (Tm 131) [(Ci 3),(Tm 132)]),iA 134 (.bHU true 3 1 [(.int .i64 0),(.int .i64 0),(.int .i64 0)] [(0,(Tm 133))]),iA 135 (.append 3 24 (Tm 130) (Tm 134)),iM 19 135]
def PX:Rg:=[iC 136 .add 123 1,iM 123 136]
def PR:aB:=(sq auW (.seq (.cond (Tm 124) .skip (.exit 6)) (.seq (.block 7 (sq auX (sq auY (.cond (Tm 129) (.region auZ) .skip)))) (.region PX))))
def avA:Rg:=[iM 137 19,iM 138 13,iA 139 (.append 3 24 (Tm 137) (Tm 138)),iM 19 139]
def avB:Rg:=[iM 140 15,iN 141 140,iI 142 0]
def avC:Rg:=[iB 143 .lss 142 141]
def avD:Rg:=[iM 144 142,iX 145 1 140 142,iL 146 145,iM 22 144,iM 23 146]
def PY:Rg:=[iF 147 3 3,iL 148 147,iM 149 22,iX 150 7 148 149,iF 151 1 150,iL 152 151,iF 153 4 7,iA 154 (.idxA 5 1 (Tm 153) (Tm 152)),iL 155 154,iM 24 155]
def AH:Rg:=[iM 156 24,iC 157 .gtr 156 0,iM 158 157,gM 159 23 158 true,gM 160 24 158 true,gB 161 .gtr 159 160 158 true,iP 162 158 161]
def avE:Rg:=[iM 163 19,iM 164 11,iM 165 22,iA 166 (.bJA (Tm 164) [(Ci 5),(Tm 165)]),iA 167 (.bHU true 3 1 [(.int .i64 0),(.int .i64 0),(.int .i64 0)] [(0,(Tm 166))]),iA 168 (.append 3 24 (Tm 163) (Tm 167)),iM 19 168]
def AI:Rg:=[iC 169 .add 142 1,iM 142 169]
def PS:aB:=(sq avC (.seq (.cond (Tm 143) .skip (.exit 8)) (.seq (.block 9 (sq avD (sq PY (sq AH (.cond (Tm 162) (.region avE) .skip))))) (.region AI))))
def avF:Rg:=[iM 170 19,iM 6 170]
def IZ:aB:=(sq aMX (dq aMY (sq aMZ (.seq (sq aNA (.block 0 (.loop aMW))) (sq aNF (sq auM (dq auN (.seq (sq auO (.block 2 (.loop rG))) (sq auU (.seq (sq auV (.block 6 (.loop PR))) (sq avA (.seq (sq avB (.block 8 (.loop PS))) (sq avF .ret)))))))))))))
def boV:List Nat:=[3,75,91,134,167]
def a9R:aS:=⟨3,171,IZ,[.tmp 6]⟩
def aMN:Rg:=[iA 3 (.box true (Tm 0)),iZ 6]
def aMO:Rg:=[iO 15 7 3,iK 16 161 15,iA 17 (.un .not (Tm 16)),iM 14 17]
def aMP:Rg:=[iZ 6]
def ZK:Rg:=[iM 19 1,iN 20 19,iF 21 6 3,iL 22 21,iN 23 22,iB 24 .neq 20 23,iM 18 24]
def aMQ:Rg:=[iM 25 1,iN 26 25,iA 27 (.build [(.int .i64 0),(.int .i64 0),(.int .i64 0)] [(0,1,(Ci 1)),(1,1,(Ci (-1))),(2,1,(Tm 26))]),iA 28 (.bHU true 3 1 [(.int .i64 0),(.int .i64 0),(.int .i64 0)] [(0,(Tm 27))]),iM 6 28]
def aMR:Rg:=[iZ 7]
def aMS:Rg:=[iM 29 1,iN 30 29,iI 31 0]
def aMT:Rg:=[iB 32 .lss 31 30]
def aMU:Rg:=[iM 33 31,iM 8 33]
def aMV:Rg:=[iO 35 7 3,iM 36 1,iM 37 8,iA 38 (.call 160 [(Tm 35),(Tm 36),(Tm 37)]),iM 34 38,iE 39 34 0,iE 40 34 1,iA 9 (.alloc [(.int .i64 0),(.int .i64 0),(.int .i64 0)]),iS 3 9 39,iM 10 40]
def PO:Rg:=[iM 41 10]
def auB:Rg:=[iM 42 7,iO 43 3 9,iA 44 (.bHU true 3 1 [(.int .i64 0),(.int .i64 0),(.int .i64 0)] [(0,(Tm 43))]),iA 45 (.append 3 24 (Tm 42) (Tm 44)),iM 7 45]
def auC:Rg:=[iM 46 7,iO 47 7 3,iM 48 1,iM 49 8,iA 50 (.call 158 [(Tm 47),(Tm 48),(Tm 49)]),iA 51 (.append 3 24 (Tm 46) (Tm 50)),iM 7 51]
def PP:Rg:=[iC 52 .add 31 1,iM 31 52]
def auA:aB:=(sq aMT (.seq (.cond (Tm 32) .skip (.exit 1)) (.seq (.block 2 (sq aMU (.seq (sq aMV (sq PO (.cond (Tm 41) (sq auB (.exit 2)) .skip))) (.region auC)))) (.region PP))))
def auD:Rg:=[iO 53 7 3,iM 54 2,iK2 55 152 53 54,iM 11 55]
def auE:Rg:=[iO 56 7 3,iM 57 1,iK2 58 157 56 57,iN 59 58,iI 60 0]
def auF:Rg:=[iB 61 .lss 60 59]
def auG:Rg:=[iM 62 60,iX 63 1 58 60,iL 64 63,iM 12 62,iM 13 64]
def auH:Rg:=[iM 65 13,iM 66 11,iM 67 12,iX 68 1 66 67,iL 69 68,iB 70 .gtr 65 69]
def auI:Rg:=[iM 71 7,iM 72 12,iA 73 (.build [(.int .i64 0),(.int .i64 0),(.int .i64 0)] [(0,1,(Ci 6)),(1,1,(Ci (-1))),(2,1,(Tm 72))]),iA 74 (.bHU true 3 1 [(.int .i64 0),(.int .i64 0),(.int .i64 0)] [(0,(Tm 73))]),iA 75 (.append 3 24 (Tm 71) (Tm 74)),iM 7 75]
def PQ:Rg:=[iC 76 .add 60 1,iM 60 76]
def PN:aB:=(sq auF (.seq (.cond (Tm 61) .skip (.exit 3)) (.seq (.block 4 (sq auG (sq auH (.cond (Tm 70) (.region auI) .skip)))) (.region PQ))))
def auJ:Rg:=[iM 77 7,iM 6 77]
def IY:aB:=(sq aMN (.seq (.block 0 (sq aMO (.cond (Tm 14) (sq aMP .ret) (sq ZK (.cond (Tm 18) (sq aMQ .ret) .skip))))) (sq aMR (.seq (sq aMS (.block 1 (.loop auA))) (sq auD (.seq (sq auE (.block 3 (.loop PN))) (sq auJ .ret)))))))
def boT:List Nat:=[3,28,44,74]
def azF:aS:=⟨3,78,IY,[.tmp 6]⟩
def atE:Rg:=[iA 3 (.box true (Tm 0)),iT 6 false]
def atF:Rg:=[iO 7 7 3,iK 8 161 7,iM 9 8,gO 10 7 3 9 true,gM 11 1 9 true,gM 12 2 9 true,iG 13 (.call 154 [(Tm 10),(Tm 11),(Tm 12)]) 9 true,gN 14 13 9 true,gC 15 .eql 14 0 9 true,iP 16 9 15,iM 6 16]
def CJ:aB:=(sq atE (sq atF .ret))
def bhC:List Nat:=[3]
def agI:aS:=⟨3,17,CJ,[.tmp 6]⟩
theorem bhM {C:Ctx} (h:∀ f:aE,f.Ok→aI C 96 [.agg f.cells] .nil (aD (.int .i64 (JP f)))) (f:aE) (hf:f.Ok) :
  CM.wp C (aR agP.res (bQ (.bool (cV f)))) (PF.args [.agg f.cells]) .nil:=by
 simp only[go_sem,δ,γ,CM,atY,atZ,agP]
 refine aA (h f hf) rfl ?_
 simp only[go_sem,γ]
 refine aY rfl ?_
 unfold JP
 cases cV f<;>rfl
theorem kP {f:aE} {d:Nat} (h:d<f.bHN.length):(f.bHN.map cY.cells)[d]?=some (f.bHN[d]).cells:=by simp[h]
theorem eQ {f:aE} {d:Nat} (h:d<f.bHR.length):(f.bHR.map cH.cells)[d]?=some (f.bHR[d]).cells:=by simp[h]
theorem wQ {f:aE} {d:Nat} (h:d<f.bHQ.length):(f.bHQ.map eM.cells)[d]?=some (f.bHQ[d]).cells:=by simp[h]
theorem pX {f:aE} {d:Nat} (h:d<f.bHS.length):(f.bHS.map cJ.cells)[d]?=some (f.bHS[d]).cells:=by simp[h]
theorem apV {f:aE} {d:Nat} (h:d<f.bHO.length):(f.bHO.map cK.cells)[d]?=some (f.bHO[d]).cells:=by simp[h]
theorem yD {f:aE} {d:Nat} (h:d<f.bHR.length):(f.bHR[d]).level=lvl f d:=by rw[lvl,getD_at h]
theorem yH {f:aE} {d:Nat} (h:d<f.bHR.length):(f.bHR[d]).parent=par f d:=by rw[par,getD_at h]
theorem VF.alE {f:aE} (h:VF f) {d:Nat} (hd:d<f.bHN.length):(f.bHN[d]).machine=((fD f d:Nat):Int):=by
 have:=(h.drive d hd).2.2.1
 rw[fD,getD_at hd]; omega
theorem VF.EC {f:aE} (h:VF f) {d:Nat} (hd:d<f.bHN.length):(f.bHN[d]).model=((mdl f d:Nat):Int):=by
 have:=(h.drive d hd).1
 rw[mdl,getD_at hd]; omega
theorem VF.aeF {f:aE} (h:VF f) {v:Nat} (hv:v<f.bHQ.length):(f.bHQ[v]).bID=((OG f v:Nat):Int):=by
 have:=(h.volume v hv).1
 rw[OG,getD_at hv]; omega
theorem VF.amF {f:aE} (h:VF f) {i:Nat} (h0:0<i) (hi:i<f.bHR.length):par f i=((YK f i:Nat):Int):=by
 have:=(h.dom i h0 hi).1
 rw[YK]; omega
theorem yI {f:aE} (h:VF f) {v:Nat} (hv:v<f.bHQ.length):∃ hp:OG f v<f.bHS.length,f.bHS[OG f v]=fR f v:=by
 have hp:=(h.volume v hv).2
 exact⟨hp,by simp[fR,bKK,hp]⟩
theorem boM {C:Ctx} (f:aE) (hv:VF f) (v:Nat) (h:v<f.bHQ.length) :
  IU.wp C (aR azD.res (bQ (.int .i64 (lE f v)))) (PF.args [.agg f.cells,.int .i64 v]) .nil:=by
 obtain⟨hp,he⟩:=yI hv h
 have hpol:=hv.bID _ (bJZ hp)
 rw[he] at hpol
 have hw:IntKind.i64.wrap ((fR f v).k+(fR f v).m)=(fR f v).k+(fR f v).m:=wrap_i64 Om Om
 simp only[go_sem,IU,aLY,azD]
 refine bL .nil dJ PH.nil_le ?_
 simp only[go_sem,δ,γ,θ,aLZ,wQ h,hv.aeF h,pX hp,he]
 refine aO fun o ho=>?_
 simp only[go_sem,δ,γ,θ,aMA,hw]
 refine⟨PH.nil_le,?_⟩
 exact fY (n:=(fR f v).k+(fR f v).m) rfl rfl
def abF (f:aE) (level:Int) (i:Nat):PF:=(((PF.nil.set 3 (.bHX f.cells)).set 2 (.int .i64 level)).set 7 (.int .i64 i))
theorem bgT {C:Ctx} (f:aE) (hv:VF f) (d:Nat) (h:d<f.bHN.length) (level:Int) (h0:0≤level) (h4:level≤4) :
  CH.wp C (aR afV.res (bQ (.int .i64 (eO f d level:Nat)))) (PF.args [.agg f.cells,.int .i64 d,.int .i64 level]) .nil:=by
 simp only[go_sem,δ,γ,θ,CH,asS,asT,afV,kP h,hv.alE h]
 refine wp_loop (α:=Nat) (fun k=>abF f level (upN f k (fD f d))) (fun _=>.nil) (fun k=>k≤4-level.toNat) (fun k=>4-level.toNat-k) 0 (bKA _) ?_ PH.nil_le ?_
 ·unfold abF
  (repeat' (first|exact PF.nil_le|refine PF.aG ?_ ?_))<;>first|(simp only[go_sem,γ,upN]<;>rfl)|rfl
 intro k hk
 obtain⟨u1,u2⟩:=QI hv h (k:=k) Om
 simp only[go_sem,δ,γ,θ,asR,asU,abF,eQ u1,yD u1]
 by_cases hlt:k<4-level.toNat
 ·have hc:lvl f (upN f k (fD f d))>level:=by rw[u2]; omega
  have hne:0<upN f k (fD f d):=by
   rcases bLU (upN f k (fD f d)) with e | e
   ·rw[e,hv.root.2.1] at u2; omega
   ·exact e
  simp only[go_sem,δ,γ,θ,hc,asV,eQ u1,yH u1,hv.amF hne u1]
  refine aC (k+1) hlt Om ?_ PH.nil_le
  (repeat' (first|exact PF.nil_le|refine PF.aG ?_ ?_))<;>first|(simp only[go_sem,γ,upN]<;>rfl)|rfl
 ·have hc:¬ lvl f (upN f k (fD f d))>level:=by rw[u2]; omega
  have:k=4-level.toNat:=by omega
  subst this
  simp only[go_sem,γ,hc,asW]
  exact fY rfl rfl
structure RA (C:Ctx):Prop where
 valid:∀ f:aE,f.Ok→aI C 161 [.agg f.cells] .nil (aD (.bool (cV f)))
 kG:∀ (f:aE) (d:Nat) (level:Int),VF f→d<f.bHN.length→0≤level→level≤4→aI C 155 [.agg f.cells,.int .i64 d,.int .i64 level] .nil (aD (.int .i64 (eO f d level:Nat)))
 frag:∀ (f:aE) (v:Nat),VF f→v<f.bHQ.length→aI C 156 [.agg f.cells,.int .i64 v] .nil (aD (.int .i64 (lE f v)))
def atP (f:aE) (d level:Int):Int:=if cV f∧0≤d∧d<f.bHN.length∧0≤level∧level<5 then (eO f d.toNat level:Nat) else -1
theorem bxZ {C:Ctx} (L:RA C) (f:aE) (hf:f.Ok) (d level:Int) :
  ZJ.wp C (aR tat.res (bQ (.int .i64 (atP f d level)))) (PF.args [.agg f.cells,.int .i64 d,.int .i64 level]) .nil:=by
 simp only[go_sem,δ,γ,ZJ,bgV,bgW,tat]
 refine aA (L.valid f hf) rfl ?_
 unfold atP
 cases hv:cV f with
 | false =>
  simp only[go_sem,ο,γ,reduceCtorEq,bKF,EN]
  exact fY rfl (by simp)
 | true =>
  have hV:=VF.of hv
  by_cases c1:d<0
  ·simp only[go_sem,ο,γ,reduceCtorEq,bJW,c1,EN]
   exact fY rfl (by rw[if_neg Om])
  ·by_cases c2:d≥(f.bHN.length:Nat)
   ·simp only[go_sem,ο,δ,γ,θ,reduceCtorEq,bJW,c1,bJT,c2,EN]
    exact fY rfl (by rw[if_neg Om])
   ·by_cases c3:level<0
    ·simp only[go_sem,ο,δ,γ,θ,reduceCtorEq,bJW,c1,bJT,c2,c3,EN]
     exact fY rfl (by rw[if_neg Om])
    ·by_cases c4:level≥5
     ·simp only[go_sem,ο,δ,γ,θ,reduceCtorEq,bJW,c1,bJT,c2,c3,c4,EN]
      exact fY rfl (by rw[if_neg Om])
     ·simp only[go_sem,ο,δ,γ,θ,reduceCtorEq,bJW,c1,bJT,c2,c3,c4,bgX]
      have hc:=L.kG f d.toNat level hV Om Om Om
      rw[Int.toNat_of_nonneg Om] at hc
      refine aA hc rfl ?_
      simp only[go_sem,ο,γ]
      exact fY rfl (by rw[if_pos Om])
def pick (n:Nat) (p:Nat→Bool):List Int:=((bJU n).filter p).map fun (i:Nat)=>(i:Int)
theorem uT (n:Nat) (p:Nat→Bool):pick (n+1) p=if p n then pick n p++[(n:Int)] else pick n p:=by
 unfold pick
 rw[List.range_succ,List.filter_append,bLT]
 by_cases h:p n
 ·rw[if_pos h]; simp[h]
 ·rw[if_neg h]; simp[h]
theorem tI (n:Nat) (p:Nat→Bool):(pick n p).length≤n:=by
 unfold pick
 rw[bJT]
 exact bLV (List.length_filter_le _ _) (by simp)
theorem rX (l:List Int) (x:Int):cZ l++[[.int .i64 x]]=cZ (l++[x]):=by unfold cZ; rw[bLT]; rfl
theorem fW (l:List Int):(cZ l).length=l.length:=by unfold cZ; rw[bJT]
theorem mQ {t:Nat} {H:PH} {v:PV} {l:List Int} {F:PF} (h:aX H 1 v (cZ l)) (ht:F t=some v):aR [.tmp t] (bQ (ints l)) .ret F H:=kL (.inr rfl) h ht
theorem fA {t:Nat} {H:PH} {F:PF} (ht:F t=some .bHP):aR [.tmp t] (bQ (ints [])) .ret F H:=kL (rows:=[]) (.inr rfl) .nil ht
def mO (f:aE) (dom:Int):List Int :=
 if cV f∧0≤dom∧dom<f.bHR.length then pick f.bHN.length fun d=>decide ((eO f d (lvl f dom.toNat):Nat)=dom.toNat) else []
def tdF (f:aE) (dom:Nat) (v:PV) (k:Nat):PF:=(((((PF.nil.set 1 (.int .i64 dom)).set 2 (.bHX f.cells)).set 5 (v)).set 24 (.int .i64 (f.bHN.length:Nat))).set 25 (.int .i64 k))
def toS (f:aE):Spec:=fun name vs=>match name,vs with
 | 155,[_,.int _ d,.int _ l]=>some ([],fun _=>aD (.int .i64 (eO f d.toNat l:Nat)))
 | 156,[_,.int _ v]=>some ([],fun _=>aD (.int .i64 (lE f v.toNat)))
 | _,_=>none
theorem bhJ (f:aE) (d:Nat) (l:Int):toS f 155 [.agg f.cells,.int .i64 d,.int .i64 l]=some ([],fun _=>aD (.int .i64 (eO f d l:Nat))):=rfl
theorem boO (f:aE) (v:Nat):toS f 156 [.agg f.cells,.int .i64 v]=some ([],fun _=>aD (.int .i64 (lE f v))):=rfl
theorem a9P {C:Ctx} (L:RA C) (f:aE) (hf:f.Ok) (dom:Int) :
  yR.wp C (aR SE.res (bQ (ints (mO f dom)))) (PF.args [.agg f.cells,.int .i64 dom]) .nil:=by
 simp only[go_sem,δ,γ,yR,agA,agB,agC,SE]
 refine aA (L.valid f hf) rfl ?_
 unfold mO
 cases hv:cV f with
 | false =>
  simp only[go_sem,γ,reduceCtorEq,bKF,wL,]
  rw[if_neg (by simp)]
  exact fA rfl
 | true =>
  have hV:=VF.of hv
  by_cases c1:dom<0
  ·simp only[go_sem,γ,reduceCtorEq,bJW,c1,wL]
   rw[if_neg Om]
   exact fA rfl
  ·by_cases c2:dom≥(f.bHR.length:Nat)
   ·simp only[go_sem,δ,γ,θ,reduceCtorEq,bJW,c1,bJT,c2,wL]
    rw[if_neg Om]
    exact fA rfl
   ·obtain⟨n,rfl⟩:∃ n:Nat,dom=n:=⟨dom.toNat,by omega⟩
    have hn:n<f.bHR.length:=by omega
    have hd24:=hV.small.bHN
    simp only[go_sem,δ,γ,θ,reduceCtorEq,bJW,c1,bJT,c2,agD]
    rw[if_pos Om]
    generalize hp:(fun d=>decide ((eO f d (lvl f n):Nat)=n))=p
    refine wp_loop (α:=Nat × PV × PH) (fun t=>tdF f n t.2.1 t.1) (fun t=>t.2.2) (fun t=>t.1≤f.bHN.length∧aX t.2.2 1 t.2.1 (cZ (pick t.1 p))) (fun t=>f.bHN.length-t.1) (0,.bHP,.nil) ⟨bKA _,.nil⟩ ?_ PH.nil_le ?_
    ·unfold tdF
     (repeat' (first|exact PF.nil_le|refine PF.aG ?_ ?_))<;>first|(simp only[go_sem,γ,bJT]<;>rfl)|rfl
    rintro⟨k,v,H0⟩ ⟨hk,hO⟩
    simp only at hk hO ⊢
    simp only[go_sem,γ,UP,agE,tdF]
    by_cases hlt:k<f.bHN.length
    ·have bHV:(k:Int)<(f.bHN.length:Nat):=by omega
     have hl04:0≤lvl f n∧lvl f n≤4:=by
      rcases bLU n with e | e
      ·rw[e,hV.root.2.1]; decide
      ·have:=hV.dom n e hn; omega
     simp only[go_sem,γ,bHV,agF]
     refine bL .nil (toS f) PH.nil_le ?_
     simp only[go_sem,δ,γ,θ,agG,eQ hn,yD hn]
     refine bC (bhJ f k (lvl f n)) (L.kG f k (lvl f n) hV hlt hl04.1 hl04.2) rfl PH.nil_le ?_
     have hpk:p k=decide ((eO f k (lvl f n):Nat)=n):=by rw[← hp]
     have bIL:=uT k p
     by_cases c:eO f k (lvl f n)=n
     ·rw[if_pos (by rw[hpk]; simp[c])] at bIL
      have c':(((eO f k (lvl f n):Nat):Int)==(n:Int))=true:=bP Om
      simp only[go_sem,υ,γ,η,θ,ζ,c',agH]
      refine dB (src:=[[.int .i64 k]]) hO rfl (by unfold roomFor; have:=tI k p; rw[fW]; simp only[bKD,maxLen]; omega) fun v' H' hO' _=>?_
      rw[rX,← bIL] at hO'
      simp only[go_sem,γ,IT,ws k]
      refine aC (k+1,v',H') ⟨hlt,hO'⟩ (by simp only; omega) ?_ PH.le_refl
      exact Lq
     ·rw[if_neg (by rw[hpk]; simp[c])] at bIL
      have c':(((eO f k (lvl f n):Nat):Int)==(n:Int))=false:=bF Om
      simp only[go_sem,γ,c',IT,ws k]
      rw[← bIL] at hO
      refine aC (k+1,v,H0) ⟨hlt,hO⟩ (by simp only; omega) ?_ PH.le_refl
      exact Lq
    ·have bHV:¬ (k:Int)<(f.bHN.length:Nat):=by omega
     have:k=f.bHN.length:=by omega
     subst this
     simp only[go_sem,γ,bHV,UQ]
     exact mQ hO rfl
def rR (f:aE) (dom:Int):List Int :=
 if cV f∧0≤dom then pick f.bHR.length fun i=>decide (par f i=dom) else []
def tcF (f:aE) (dom:Int) (v:PV) (k:Nat):PF:=((((((PF.nil.set 1 (.int .i64 dom)).set 2 (.bHX f.cells)).set 5 (v)).set 17 (.sl 7 (f.bHR.map cH.cells))).set 18 (.int .i64 (f.bHR.length:Nat))).set 19 (.int .i64 k))
theorem bgY {C:Ctx} (L:RA C) (f:aE) (hf:f.Ok) (dom:Int) :
  CI.wp C (aR afX.res (bQ (ints (rR f dom)))) (PF.args [.agg f.cells,.int .i64 dom]) .nil:=by
 simp only[go_sem,δ,γ,CI,asX,asY,asZ,afX]
 refine aA (L.valid f hf) rfl ?_
 unfold rR
 cases hv:cV f with
 | false =>
  simp only[go_sem,γ,reduceCtorEq,bKF,PE]
  rw[if_neg (by simp)]
  exact fA rfl
 | true =>
  have hV:=VF.of hv
  by_cases c1:dom<0
  ·simp only[go_sem,γ,reduceCtorEq,bJW,c1,PE]
   rw[if_neg Om]
   exact fA rfl
  ·have hd40:=hV.small.bHR
   simp only[go_sem,δ,γ,θ,reduceCtorEq,bJW,c1,bJT,atA]
   rw[if_pos Om]
   generalize hp:(fun i=>decide (par f i=dom))=p
   refine wp_loop (α:=Nat × PV × PH) (fun t=>tcF f dom t.2.1 t.1) (fun t=>t.2.2) (fun t=>t.1≤f.bHR.length∧aX t.2.2 1 t.2.1 (cZ (pick t.1 p))) (fun t=>f.bHR.length-t.1) (0,.bHP,.nil) ⟨bKA _,.nil⟩ ?_ PH.nil_le ?_
   ·unfold tcF
    (repeat' (first|exact PF.nil_le|refine PF.aG ?_ ?_))<;>first|(simp only[go_sem,γ,bJT]<;>rfl)|rfl
   rintro⟨k,v,H0⟩ ⟨hk,hO⟩
   simp only at hk hO ⊢
   simp only[go_sem,γ,afY,atB,tcF]
   by_cases hlt:k<f.bHR.length
   ·have bHV:(k:Int)<(f.bHR.length:Nat):=by omega
    simp only[go_sem,δ,γ,bHV,atC,eQ hlt]
    refine aO fun o ho=>?_
    have hpk:p k=decide (par f k=dom):=by rw[← hp]
    have bIL:=uT k p
    by_cases c:par f k=dom
    ·rw[if_pos (by rw[hpk]; simp[c])] at bIL
     simp only[go_sem,υ,δ,γ,η,θ,ζ,PG,yH hlt,bP c,atD]
     refine dB (src:=[[.int .i64 k]]) (hO.fresh ho _).1 rfl (by unfold roomFor; have:=tI k p; rw[fW]; simp only[bKD,maxLen]; omega) fun v' H' hO' _=>?_
     rw[rX,← bIL] at hO'
     simp only[go_sem,γ,PI,ws k]
     refine aC (k+1,v',H') ⟨hlt,hO'⟩ (by simp only; omega) ?_ PH.le_refl
     exact Lq
    ·rw[if_neg (by rw[hpk]; simp[c])] at bIL
     simp only[go_sem,δ,γ,θ,PG,yH hlt,bF c,PI,ws k]
     rw[← bIL] at hO
     refine aC (k+1,v,H0) ⟨hlt,hO⟩ (by simp only; omega) ?_ (PH.MX _ ho)
     exact Lq
   ·have bHV:¬ (k:Int)<(f.bHR.length:Nat):=by omega
    have:k=f.bHR.length:=by omega
    subst this
    simp only[go_sem,γ,bHV,afZ]
    exact mQ hO rfl
section
variable (o s:Nat) (rs:List (List PV))
@[go_sem] theorem bCS (k:IntKind) (n:Int):PV.frz o s rs (.int k n)=.int k n:=(rfl)
@[go_sem] theorem bBF (b:Bool):PV.frz o s rs (.bool b)=.bool b:=(rfl)
@[go_sem] theorem bCW (l:List UInt8):PV.frz o s rs (.str l)=.str l:=(rfl)
@[go_sem] theorem bBG:PV.frz o s rs .bHP=.bHP:=(rfl)
@[go_sem] theorem bFZ (n:Nat) (r:List (List PV)):PV.frz o s rs (.sl n r)=.sl n r:=(rfl)
@[go_sem] theorem bBH (c:List PV):PV.frz o s rs (.bHX c)=.bHX c:=(rfl)
@[go_sem] theorem bCV (q z i c:Nat):PV.frz o s rs (.ptr q z i c)=.ptr q z i c:=(rfl)
@[go_sem] theorem bFY (n:Nat) (c:List PV):PV.frz o s rs (.fn n c)=.fn n c:=(rfl)
@[go_sem] theorem bCT (q:Nat):PV.frz o s rs (.map q)=.map q:=(rfl)
@[go_sem] theorem bCU (q z off len:Nat):PV.frz o s rs (.osl q z off len)=if q=o then (if z=s∧off+len≤rs.length then .sl s ((rs.drop off).take len) else .junk) else .osl q z off len:=(rfl)
end
def mX (s:Nat) (rows:List (List PV)) (r:PV) (H:PH):Prop :=
 (rows=[]∧r=.bHP∧H=PH.nil)∨∃ q rs,r=.osl q s 0 rows.length∧H=PH.nil.set q (.rows s rs)∧rows.length≤rs.length∧rs.take rows.length=rows
theorem aUR (q s:Nat) (rs:List (List PV)):(PH.nil.set q (.rows s rs)).frz q s rs=PH.nil:=PH.ext fun o=>by
 rw[RN]
 by_cases e:o=q
 ·rw[if_pos e]; rfl
 ·rw[if_neg e,bA,if_neg e]; rfl
section
variable {C:Ctx} {K:cA} {F:PF} {H:PH} {s:Nat} {v:PV} {rows:List (List PV)}
theorem mX.over {r:PV} {H':PH} (h:mX s rows r H') (ha:mW H .nil H'):aX (H.over .nil H') s r rows∧∀ o x,H o=some x→(H.over .nil H') o=some x:=by
 rcases h with ⟨h1,h2,rfl⟩ | ⟨q,rs,h1,rfl,h3,h4⟩
 ·rw[PH.yG]; exact⟨.inl ⟨h1,h2⟩,fun o x h=>h⟩
 ·rw[PH.oS]
  have hq:H q=none:=ha q (.rows s rs) (by simp only[bA,if_true]) rfl
  refine⟨.inr ⟨q,rs,h1,by simp only[bA,if_true],h3,h4⟩,fun o x ho=>?_⟩
  have:o≠q:=by rintro rfl; rw[hq] at ho; cases ho
  simp only[bA,if_neg this,ho]
theorem HX {t:Nat} {e:mD} (he:e=.normal∨e=.ret) (h:aX H s v rows) (ht:F t=some v):aR [.tmp t] (mX s rows) e F H:=by
 rcases h with ⟨rfl,rfl⟩ | ⟨q,rs,rfl,h1,h2,h3⟩
 ·exact aV (vs:=[.bHP]) he .nil (by rw[lD,nP,ht,pK]) PH.nil_le (.inl ⟨rfl,rfl,rfl⟩)
 ·exact aV (vs:=[.osl q s 0 rows.length]) he (PH.nil.set q (.rows s rs)) (by rw[lD,nP,ht,pK]) (PH.aG PH.nil_le h1) (.inr ⟨q,rs,rfl,rfl,h2,h3⟩)
theorem EI {t:Nat} {e:mD} (he:e=.normal∨e=.ret) (ht:F t=some .bHP):aR [.tmp t] (mX s []) e F H:=HX he .nil ht
theorem bfR {t:Nat} {e:mD} {r:PV} {H':PH} (he:e=.normal∨e=.ret) (h:mX s rows r H') (ht:F t=some r):aR [.tmp t] (mX s rows) e F (H.over .nil H'):=by
 refine aV (vs:=[r]) he H' (by rw[lD,nP,ht,pK]) (fun o x ho=>?_) h
 rw[nO,ho]
theorem aI.freeze {name:Nat} {args:List PV} (h:aI C name args H (mX s rows)):aI C name args H (aD (.sl s rows)) :=
 ⟨h.1,fun E w vs hN hW hvs=>(h.2 E w vs hN hW hvs).mono fun e w' he=>by
  obtain⟨u,pv,E',H',rfl,hW',hr,hE,hp⟩:=he
  rcases hp with ⟨rfl,rfl,rfl⟩ | ⟨q,rs,rfl,rfl,h3,h4⟩
  ·exact⟨u,_,E',_,rfl,hW',(Co.nil s).sound hr,hE,rfl,rfl⟩
  ·have hz:jQ (PF.nil.set 0 (.osl q s 0 rows.length)) (PH.nil.set q (.rows s rs)) _ _:=.step q (s:=s) (rs:=rs) (by simp only[bA,if_true]) (.refl _ _)
   obtain⟨E2,k1,k2,k3⟩:=hz.sound hW'
   have bJO:=k3 (fun _=>u) (fun i p hi=>by
    rw[mR] at hi
    split at hi
    ·cases hi; exact hr
    ·cases hi) 0 (.sl s rows) (by rw[rW,mR,if_pos rfl,bKZ,xC h3,h4])
   rw[aUR] at k1 k2
   exact⟨u,_,E2,_,rfl,k1,bJO,hE.trans k2,rfl,rfl⟩⟩
theorem eX.of:∀ {E:Env} (ps:List PV) (vs:List Value),vs.length=ps.length→(∀ (i:Nat) p v,ps[i]?=some p→vs[i]?=some v→aW E p v)→eX E ps vs
 | _,[],[],_,_=>.nil
 | _,[],_::_,h,_=>by simp at h
 | _,_::_,[],h,_=>by simp at h
 | _,p::ps,v::vs,h,k=>.cons (k 0 p v rfl rfl) (eX.of ps vs (by simpa using h) fun i q u a b=>k (i+1) q u (by simpa using a) (by simpa using b))
theorem bS.same {E:Env} {w w':World} (hW:bS E H w) (hs:w.heap.size≤w'.heap.size) (hb:∀ b,b<w.heap.size→H b=none→w'.heap[b]?=w.heap[b]?) (hH:∀ o x,H o=some x→w'.heap[o]?=w.heap[o]?):bS E H w':=by
 have key:∀ b,b<w.heap.size→w'.heap[b]?=w.heap[b]?:=fun b hlt=>by
  cases e:H b with
  | none=>exact hb b hlt e
  | some x=>exact hH b x e
 refine⟨fun b cs h=>?_,fun o x h=>?_,fun o n h=>?_⟩
 ·obtain⟨h1,ty,fr,h2⟩:=hW.g b cs h
  exact⟨h1,ty,fr,(key b (bND.1 h2).1).trans h2⟩
 ·obtain⟨h1,h2⟩:=hW.h o x h
  exact⟨Nat.lt_of_lt_of_le h1 hs,h2.mono (.refl E) (key o h1)⟩
 ·obtain⟨cur,ty,fr,h1,h2⟩:=hW.s o n h
  exact⟨cur,ty,fr,(key o (bND.1 h1).1).trans h1,h2⟩
inductive Plain:PV→Prop
 | int (k:IntKind) (n:Int):Plain (.int k n)
 | bool (b:Bool):Plain (.bool b)
 | str (l:List UInt8):Plain (.str l)
theorem Plain.rep {v:PV} (h:Plain v) {E E':Env} {u:Value} (r:aW E v u):aW E' v u:=by
 cases h<;>cases r
 ·exact .int _ _
 ·exact .bool _
 ·exact .str _
theorem aI.bwZ {name o:Nat} {rs:List (List PV)} {args:List PV} (hv:Plain v) (h:aI C name (args.map (PV.frz o s rs)) .nil (aD v)) :
  aI C name args (PH.nil.set o (.rows s rs)) (fun r H'=>r=v∧H'=PH.nil.set o (.rows s rs)):=by
 refine⟨h.1,fun E w vs hN hW hvs=>?_⟩
 have hz:jQ (PF.args args) (PH.nil.set o (.rows s rs)) _ _:=.step o (s:=s) (rs:=rs) (by simp only[bA,if_true]) (.refl _ _)
 obtain⟨E1,k1,k2,k3⟩:=hz.sound hW
 rw[aUR] at k1 k2
 have hlen:=hvs.len
 have hvs1:eX E1 (args.map (PV.frz o s rs)) vs.toList:=by
  refine eX.of _ _ (by rw[bJT]; exact hlen) fun i p u hp hu=>?_
  have:=k3 (fun i=>(vs.toList[i]?).getD undef) (fun j q hj=>by
   have hjl:=(bLD.1 hj).1
   have hjv:j<vs.toList.length:=by omega
   simp only[bKG hjv,bLX]
   exact hvs.at_ j q _ hj (bKG hjv)) i p (by rw[rW,args_at,← bLC]; exact hp)
  simp only[hu,bLX] at this
  exact this
 refine (h.2 E1 w vs (k2.env.num.trans hN) k1 hvs1).mono fun e w' he=>?_
 obtain⟨u,pv,E2,H2,rfl,hW2,hr,hE,rfl,rfl⟩:=he
 have hblk:∀ b,b<w.heap.size→w'.heap[b]?=w.heap[b]?:=fun b hb=>hE.block b hb rfl
 refine⟨u,pv,E,_,rfl,hW.same hE.size (fun b hb _=>hblk b hb) (fun q x hq=>hblk q (hW.h q x hq).1),hv.rep hr,⟨.refl E,hE.os,hE.tape,hE.output,hE.size,fun b hb _=>hblk b hb,fun q x hq=>.inl ⟨x,hq⟩,fun b cs hb=>.inl hb⟩,rfl,rfl⟩
theorem aTJ {name o:Nat} {rs:List (List PV)} {args:List aP} {vs:List PV} {d:Option Nat} {K:PF→PH→Prop} (hv:Plain v) (h:aI C name (vs.map (PV.frz o s rs)) .nil (aD v)) (ho:H o=some (.rows s rs)) (ha:aP.evs F args=some vs)
  (hk:K (F.put d v) H):iH C name args [] d K F H:=by
 refine nH (h.bwZ hv) ha (PH.aG PH.nil_le ho) ?_
 rintro r H' ⟨rfl,rfl⟩ -
 rw[PH.over_self _ (PH.aG PH.nil_le ho)]
 exact hk
theorem bjU {Hs:PH} {S:Spec} {name o:Nat} {rs:List (List PV)} {vs:List PV} {R:PH→PV→PH→Prop} {args:List aP} {st:Bool} {d:Option Nat} {K:PF→PH→Prop} (hS:S name vs=some ([o],R)) (hv:Plain v) (ho:H o=some (.rows s rs))
  (h:aI C name (vs.map (PV.frz o s rs)) .nil (aD v)) (hR1:R (PH.nil.set o (.rows s rs)) v (PH.nil.set o (.rows s rs))) (hR2:∀ r H',R (PH.nil.set o (.rows s rs)) r H'→r=v∧H'=PH.nil.set o (.rows s rs)) (ha:aP.evs F args=some vs) (hle:Hs.le H) (hk:K (F.put d v) H) :
  dOp C Hs S st (.call name args) d K F H:=VS hS ho (h.bwZ hv) hR1 hR2 ha hle hk
theorem ayG {name t:Nat} {R:PV→PH→Prop} {d:Option Nat} {K:PF→PH→Prop} (h:aI C name [.sl s rows] .nil R) (hO:aX H s v rows) (ht:F t=some v)
  (hK:∀ (F1:PF) (H1:PH),(∀ i u,F i=some u→Pure u→F1 i=some u)→∀ r H',R r H'→mW H1 .nil H'→K (F1.put d r) (H1.over .nil H')):iH C name [.tmp t] [] d K F H:=by
 rcases hO with ⟨rfl,rfl⟩ | ⟨q,rs,rfl,h1,h2,h3⟩
 ·exact .inl ⟨[.bHP],.nil,R,by rw[xT,aaX,ht,RG]; rfl,PH.nil_le,h.a9F (.inl ⟨rfl,rfl⟩),hK F H fun i u hi _=>hi⟩
 ·refine .inr ⟨_,_,.step q h1 (.refl _ _),[.sl s rows],.nil,R,?_,PH.nil_le,h,hK _ _ fun i u hi hp=>?_⟩
  ·simp only[xT,RG,aaX,rW,ht,bKZ,xC h2,h3,bLK]
  ·rw[rW,hi,bKZ,hp q s rs]
end
def mP (A:List Int) (k:Nat):List Int:=A.take k++bJY (A.length-k) 0
theorem aQL (A:List Int):mP A 0=bJY A.length 0:=by simp[mP]
theorem a4M (A:List Int):mP A A.length=A:=by simp[mP]
theorem axV (A:List Int) {k:Nat} (h:k≤A.length):(mP A k).length=A.length:=by simp[mP]; omega
theorem a4N (A:List Int) {k:Nat} (h:k<A.length):(mP A k).set k A[k]=mP A (k+1):=by
 unfold mP
 rw[bMV _ _ (by simp; omega),bKN,bLW Om,Nat.sub_self,show A.length-k=(A.length-(k+1))+1 by omega,List.replicate_succ,List.set_cons_zero,
  bLY h,bKV]
 rfl
theorem oN (l:List Int) (i:Nat) (x:Int):(cZ l).set i [.int .i64 x]=cZ (l.set i x):=by unfold cZ; rw[List.map_set]
theorem pV (n:Nat):bJY n [PV.int .i64 0]=cZ (bJY n 0):=by simp[cZ]
theorem tF {l:List Int} {i:Nat} (h:i<l.length):(cZ l)[i]?=some [.int .i64 l[i]]:=by simp[cZ,h]
theorem acA (l:List Int):ints l=.sl 1 (cZ l):=rfl
def uV (f:aE) (room:List Int) (d:Nat):Int:=if room.length=f.bHN.length then min (max (room.getD d 0) 0) (ext f d) else ext f d
def fV (f:aE) (room:List Int):List Int:=(bJU f.bHN.length).map (uV f room)
def mG (f:aE) (room:List Int):List Int:=if cV f then fV f room else []
theorem oT (f:aE) (room:List Int):(fV f room).length=f.bHN.length:=by simp[fV]
theorem aJX (f:aE) (room:List Int) {d:Nat} (h:d<(fV f room).length):(fV f room)[d]=uV f room d:=by simp[fV]
theorem VF.bbU {f:aE} (h:VF f) {d:Nat} (hd:d<f.bHN.length):∃ hm:mdl f d<f.bHO.length,(f.bHO[mdl f d]).bIJ=ext f d:=by
 have hm:=(h.drive d hd).2.1
 exact⟨hm,by rw[ext,getD_at hm]⟩
def trF (f:aE) (room:List Int) (o k:Nat):PF:=(((((PF.nil.set 1 (ints room)).set 2 (.bHX f.cells)).set 5 (.osl o 1 0 f.bHN.length)).set 15 (.int .i64 (f.bHN.length:Nat))).set 16 (.int .i64 k))
theorem aWR (a b:Int):(if b<a then b else a)=min a b:=by
 rw[Int.min_def]
 by_cases h:b<a
 ·rw[if_pos h,if_neg Om]
 ·rw[if_neg h,if_pos Om]
theorem boP {C:Ctx} (L:RA C) (f:aE) (hf:f.Ok) (room:List Int) :
  IX.wp C (aR azE.res (mX 1 (cZ (mG f room)))) (PF.args [.agg f.cells,ints room]) .nil:=by
 simp only[go_sem,δ,γ,IX,aMD,aME,azE]
 refine aA (L.valid f hf) rfl ?_
 unfold mG
 cases hv:cV f with
 | false =>
  simp only[go_sem,γ,reduceCtorEq,bKF,aMF]
  exact EI (.inr rfl) rfl
 | true =>
  have hV:=VF.of hv
  have hd24:=hV.small.bHN
  have hb1:((f.bHN.length:Nat):Int)*((8:Nat):Int)≤140737488355328:=by omega
  have hb2:((f.bHN.length:Nat):Int)≤9223372036854775807:=by omega
  simp only[go_sem,δ,γ,θ,bJW,aMG,bJT,hb1,hb2]
  refine aO fun o ho=>?_
  simp only[go_sem,γ,aMH]
  have hAl:=oT f room
  have hAt:=fun d h=>aJX f room (d:=d) h
  generalize hA:fV f room=A at *
  refine wp_loop (α:=Nat) (fun k=>trF f room o k) (fun k=>PH.nil.set o (.rows 1 (cZ (mP A k)))) (fun k=>k≤f.bHN.length) (fun k=>f.bHN.length-k) 0 (bKA _) ?_ ?_ ?_
  ·unfold trF
   exact Lq
  ·refine PH.aG PH.nil_le ?_
   simp only[go_sem]
   rw[aQL,hAl,pV]
  intro k hk
  simp only[go_sem,γ,atO,aMI,trF]
  by_cases hlt:k<f.bHN.length
  ·have bHV:(k:Int)<(f.bHN.length:Nat):=by omega
   obtain⟨hm,he⟩:=hV.bbU hlt
   have hfl:=axV A (k:=k) Om
   have hkA:k<A.length:=by omega
   have hx:=tF (l:=mP A k) (i:=k) Om
   have bHW:=a4N A hkA
   rw[hAt k hkA] at bHW
   simp only[go_sem,γ,bHV,aMJ]
   refine bL .nil dJ PH.nil_le ?_
   simp only[go_sem,δ,γ,θ,aMK,kP hlt,hV.EC hlt,apV hm,he,bHV,bKS,hx]
   refine⟨PH.nil_le,?_⟩
   simp only[go_sem,γ,aML,bJT]
   by_cases c:room.length=f.bHN.length
   ·have c':(((room.length:Nat):Int)==((f.bHN.length:Nat):Int))=true:=bP Om
    have hrk:k<room.length:=by omega
    have hrr:(room.map fun n=>[PV.int .i64 n])[k]?=some [.int .i64 room[k]]:=by simp[hrk]
    simp only[go_sem,c']
    refine bL .nil dJ PH.nil_le ?_
    have hx2:(cZ ((mP A k).set k (ext f k)))[k]?=some [.int .i64 (ext f k)]:=by
     rw[← oN,List.getElem?_set_self (by rw[fW]; omega)]
    simp only[go_sem,γ,reduceCtorEq,aMM,hrr,bHV,bKS,hx2,max_eq,aWR,List.set_set,oN]
    refine⟨PH.nil_le,?_⟩
    simp only[go_sem,γ,PK,ws k]
    refine aC (k+1) hlt Om ?_ ?_
    ·exact Lq
    ·refine PH.aG PH.nil_le ?_
     rw[← bHW,uV,if_pos c,bKK,bKG hrk,bLX]
     simp only[go_sem]
   ·have c':(((room.length:Nat):Int)==((f.bHN.length:Nat):Int))=false:=bF Om
    simp only[go_sem,γ,c',PK,ws k,oN]
    refine aC (k+1) hlt Om ?_ ?_
    ·exact Lq
    ·refine PH.aG PH.nil_le ?_
     rw[← bHW,uV,if_neg c]
     simp only[go_sem]
  ·have bHV:¬ (k:Int)<(f.bHN.length:Nat):=by omega
   have:k=f.bHN.length:=by omega
   subst this
   simp only[go_sem,γ,bHV,atQ]
   have hAA:mP A f.bHN.length=A:=by rw[← hAl,a4M]
   rw[hAA]
   exact HX (.inr rfl) (v:=.osl o 1 0 f.bHN.length) (.inr ⟨o,cZ A,by rw[fW,hAl],by simp only[go_sem],bKB _,bKL (bKB _)⟩) rfl
abbrev lay (l:List (List Int)):PV:=.sl 1 (l.map fun r=>[ints r])
def dS (n:Nat) (xs:List Int):List Int:=(bJU n).map fun (d:Nat)=>((xs.count (d:Int):Nat):Int)
theorem fP (n:Nat) (xs:List Int):(dS n xs).length=n:=by simp[dS]
theorem VR (n:Nat):dS n []=bJY n 0:=by
 refine bMR (by simp[dS]) fun i h1 h2=>by simp[dS]
theorem RC {n:Nat} (xs:List Int) {d:Nat} (h:d<n):(dS n xs)[d]'(by rw[fP]; exact h)=((xs.count (d:Int):Nat):Int):=by simp[dS]
theorem akM {n:Nat} (xs:List Int) {d:Nat} (h:d<n):(dS n xs).set d (((xs.count (d:Int):Nat):Int)+1)=dS n (xs++[(d:Int)]):=by
 refine bMR (by simp[dS]) fun i h1 h2=>?_
 simp only[dS,List.getElem_set,bLI,List.getElem_range,List.count_append]
 by_cases e:d=i
 ·subst e; simp
 ·have:((d:Nat):Int)≠(i:Int):=by omega
  rw[if_neg e]
  simp[List.count_cons,this]
theorem xS {n:Nat} (xs:List Int) {x:Int} (h:¬ (0≤x∧x<n)):dS n (xs++[x])=dS n xs:=by
 refine bMR (by simp[dS]) fun i h1 h2=>?_
 simp only[dS,bLI,List.getElem_range,List.count_append]
 have hi:i<n:=by simpa [dS] using h2
 have:x≠(i:Int):=by omega
 simp[List.count_cons,this]
def fF (f:aE) (l:List (List Int)):List Int:=dS f.bHN.length l.flatten
structure eY (l:List (List Int)):Prop where
 rows:l.length≤16777216
 all:l.flatten.length≤16777216
theorem mV (l:List (List Int)) {i:Nat} (h:i<l.length):(l.take (i+1)).flatten=(l.take i).flatten++l[i]:=by
 rw[bLY h,List.flatten_append]
 simp only[List.flatten_cons,List.flatten_nil,bLK]
theorem sY (l:List (List Int)) (i:Nat):(l.take i).flatten.length≤l.flatten.length:=by
 have:l.flatten=(l.take i).flatten++(l.drop i).flatten:=by rw[← List.flatten_append,bML]
 rw[this,bJX]; omega
def aFZ (l:List (List Int)) (n o i:Nat):PF:=((((PF.nil.set 5 (.osl o 1 0 n)).set 14 (lay l)).set 15 (.int .i64 (l.length:Nat))).set 16 (.int .i64 i))
def alC (l:List (List Int)) (n o i:Nat) (row:List Int) (k:Nat):PF:=(((((((PF.nil.set 5 (.osl o 1 0 n)).set 14 (lay l)).set 15 (.int .i64 (l.length:Nat))).set 16 (.int .i64 i)).set 20 (ints row)).set 21 (.int .i64 (row.length:Nat))).set 22 (.int .i64 k))
theorem bhD {C:Ctx} (f:aE) (hd:f.bHN.length≤24) (l:List (List Int)) (hl:eY l) :
  CK.wp C (aR agJ.res (bQ (ints (fF f l)))) (PF.args [.agg f.cells,lay l]) .nil:=by
 have hb1:((f.bHN.length:Nat):Int)*((8:Nat):Int)≤140737488355328:=by omega
 have hb2:((f.bHN.length:Nat):Int)≤9223372036854775807:=by omega
 obtain⟨hl1,hl2⟩:=hl
 simp only[go_sem,δ,γ,θ,CK,atG,atH,agJ,bJT,hb1,hb2]
 refine aO fun o ho=>?_
 simp only[go_sem,γ,atI]
 generalize hn:f.bHN.length=n at *
 refine wp_loop (α:=Nat) (fun i=>aFZ l n o i) (fun i=>PH.nil.set o (.rows 1 (cZ (dS n (l.take i).flatten)))) (fun i=>i≤l.length) (fun i=>l.length-i) 0 (bKA _) ?_ ?_ ?_
 ·unfold aFZ
  (repeat' (first|exact PF.nil_le|refine PF.aG ?_ ?_))<;>first|(simp only[go_sem,γ,bJT]<;>rfl)|rfl
 ·refine PH.aG PH.nil_le ?_
  simp only[go_sem,List.take_zero,List.flatten_nil]
  rw[VR,pV]
 intro i hi
 simp only[go_sem,γ,agL,atJ,aFZ]
 by_cases hlt:i<l.length
 ·have bHV:(i:Int)<(l.length:Nat):=by omega
  have hr:(l.map fun r=>[ints r])[i]?=some [ints l[i]]:=by simp[hlt]
  have hft:=mV l hlt
  have hfl:=sY l (i+1)
  rw[hft,bJX] at hfl
  generalize bIC:l[i]=row at *
  simp only[go_sem,γ,bHV,atK,hr,atL,bJT]
  refine wp_loop (α:=Nat) (fun k=>alC l n o i row k) (fun k=>PH.nil.set o (.rows 1 (cZ (dS n ((l.take i).flatten++row.take k))))) (fun k=>k≤row.length) (fun k=>row.length-k) 0 (bKA _) ?_ ?_ ?_
  ·unfold alC
   (repeat' (first|exact PF.nil_le|refine PF.aG ?_ ?_))<;>first|(simp only[go_sem,γ,bJT]<;>rfl)|rfl
  ·rw[List.take_zero,bLK]
   exact PH.le_refl
  intro k hk
  simp only[go_sem,γ,agK,atM,alC]
  by_cases hkt:k<row.length
  ·have hkt':(k:Int)<(row.length:Nat):=by omega
   have hrk:(row.map fun n=>[PV.int .i64 n])[k]?=some [.int .i64 row[k]]:=by simp[hkt]
   have htk:(l.take i).flatten++row.take (k+1)=((l.take i).flatten++row.take k)++[row[k]]:=by
    rw[bLY hkt,bKV]
   have fin:∀ (F:PF),(alC l n o i row (k+1)).le F→∀ H:PH,H o=some (.rows 1 (cZ (dS n ((l.take i).flatten++row.take (k+1))))) →
     dU (fun k=>alC l n o i row k) (fun k=>PH.nil.set o (.rows 1 (cZ (dS n ((l.take i).flatten++row.take k))))) (fun k=>k≤row.length) (fun k=>row.length-k) (row.length-k)
      (dN 2 (dN 1 (iV C (aB.wp C (.region IV)) (dU (fun i=>aFZ l n o i) (fun i=>PH.nil.set o (.rows 1 (cZ (dS n (l.take i).flatten)))) (fun i=>i≤l.length) (fun i=>l.length-i) (l.length-i) (dN 0 (iV C (aB.wp C (.seq (.region IW) .ret)) (aR [.tmp 4] (bQ (ints (fF f l)))))))))) .normal F H:=by
    intro F hF H hH
    exact aC (k+1) hkt Om hF (PH.aG PH.nil_le hH)
   unfold alC aFZ at fin
   generalize hx:row[k]=x at *
   by_cases c1:x≥0
   ·by_cases c2:x<(n:Nat)
    ·obtain⟨d,rfl⟩:∃ d:Nat,x=d:=⟨x.toNat,by omega⟩
     have hdn:d<n:=by omega
     have hat:=tF (l:=dS n ((l.take i).flatten++row.take k)) (i:=d) (by rw[fP]; exact hdn)
     rw[RC _ hdn] at hat
     have hcl:((l.take i).flatten++row.take k).count (d:Int)≤16777216:=by
      refine bLV (List.count_le_length ..) ?_
      rw[bJX,bKN]; omega
     have hin:=akM ((l.take i).flatten++row.take k) hdn
     rw[← htk] at hin
     have hw:IntKind.i64.wrap (((((l.take i).flatten++row.take k).count (d:Int):Nat):Int)+1)=((((l.take i).flatten++row.take k).count (d:Int):Nat):Int)+1:=wrap_i64 Om Om
     simp only[go_sem,γ,hkt',zZ,hrk,AA,c1,c2,atN,bKS,hat,hw,wM,oN,hin,ws k]
     exact fin _ Lq _ Sq
    ·have hout:=xS (n:=n) ((l.take i).flatten++row.take k) (x:=x) Om
     simp only[go_sem,γ,hkt',zZ,hrk,AA,c1,c2,wM,ws k]
     exact fin _ Lq _ (by rw[htk,hout]; simp only[go_sem])
   ·have hout:=xS (n:=n) ((l.take i).flatten++row.take k) (x:=x) Om
    simp only[go_sem,γ,reduceCtorEq,hkt',zZ,hrk,AA,c1,wM,ws k]
    exact fin _ Lq _ (by rw[htk,hout]; simp only[go_sem])
  ·have hkt':¬ (k:Int)<(row.length:Nat):=by omega
   have:k=row.length:=by omega
   subst this
   simp only[go_sem,γ,reduceCtorEq,hkt',IV,ws i,bKU]
   refine aC (i+1) hlt Om ?_ ?_
   ·exact Lq
   ·refine PH.aG PH.nil_le ?_
    rw[hft]
    simp only[go_sem]
 ·have bHV:¬ (i:Int)<(l.length:Nat):=by omega
  have:i=l.length:=by omega
  subst this
  simp only[go_sem,γ,bHV,IW,bKU]
  refine YO (.inr rfl) (o:=o) (s:=1) (k:=n) (rs:=cZ (dS n l.flatten)) rfl Sq (by rw[fW,fP]; omega) ⟨?_,rfl⟩
  rw[acA,bKL (by rw[fW,fP]; omega),fF,hn]
  exact .refl _
structure aaN (C:Ctx):Prop extends RA C where
 room:∀ (f:aE) (room:List Int),f.Ok→aI C 152 [.agg f.cells,ints room] .nil (aD (ints (mG f room)))
 loads:∀ (f:aE) (l:List (List Int)),f.bHN.length≤24→eY l→aI C 157 [.agg f.cells,lay l] .nil (aD (ints (fF f l)))
def lS (f:aE) (l:List (List Int)):List Int:=if cV f then fF f l else []
theorem bgR {C:Ctx} (L:aaN C) (f:aE) (hf:f.Ok) (l:List (List Int)) (hl:eY l) :
  CG.wp C (aR afM.res (bQ (ints (lS f l)))) (PF.args [.agg f.cells,lay l]) .nil:=by
 simp only[go_sem,δ,γ,CG,asN,asO,afM]
 refine aA (L.valid f hf) rfl ?_
 unfold lS
 cases hv:cV f with
 | false =>
  simp only[go_sem,γ,reduceCtorEq,bKF,asP]
  exact fA rfl
 | true =>
  have hV:=VF.of hv
  simp only[go_sem,δ,γ,bJW,asQ]
  refine aA (L.loads f l hV.small.bHN hl) rfl ?_
  simp only[go_sem,γ]
  exact aV (.inr rfl) .nil rfl PH.nil_le ⟨.refl _,rfl⟩
structure fC where
 kind:Int
 vol:Int
 wher:Int
abbrev fC.cells (x:fC):List PV:=[.int .i64 x.kind,.int .i64 x.vol,.int .i64 x.wher]
abbrev mB (l:List fC):PV:=.sl 3 (l.map fC.cells)
def eH (p:Int→Bool):List Int→Nat→Option Nat
 | [],_=>none
 | x::t,i=>if p x then some i else eH p t (i+1)
def iU (f:aE) (d:Int):Bool:=decide (d < -1)||decide (d≥(f.bHN.length:Nat))
def jX (f:aE) (l:List (List Int)) (v:Nat):Option fC :=
 if ((l.getD v []).length:Int)=lE f v then (eH (iU f) (l.getD v []) 0).map fun (i:Nat)=>⟨1,v,i⟩ else some ⟨1,v,((l.getD v []).length:Nat)⟩
def shV:Option fC→PV
 | some x=>.tup [.agg x.cells,.bool true]
 | none=>.tup [.agg [.int .i64 0,.int .i64 0,.int .i64 0],.bool false]
def boR (f:aE) (o:Nat) (v:Nat) (row:List Int) (k:Nat):PF:=((((((PF.nil.set 2 (.int .i64 v)).set 3 (.bHX f.cells)).set 6 (.ptr o 3 0 0)).set 29 (ints row)).set 30 (.int .i64 (row.length:Nat))).set 31 (.int .i64 k))
theorem bhK {C:Ctx} (L:aaN C) (f:aE) (hV:VF f) (l:List (List Int)) (hl:eY l) (v:Nat) (hv:v<l.length) (hvf:v<f.bHQ.length) :
  CL.wp C (aR EO.res (bQ (shV (jX f l v)))) (PF.args [.agg f.cells,lay l,.int .i64 v]) .nil:=by
 have hr:(l.map fun r=>[ints r])[v]?=some [ints l[v]]:=by simp[hv]
 have hg:l.getD v []=l[v]:=by simp[bKK,hv]
 have hrl:(l[v]).length≤16777216:=by
  have h1:=sY l (v+1)
  have:=hl.all
  rw[mV l hv,bJX] at h1
  omega
 unfold jX
 rw[hg]
 simp only[go_sem,δ,CL,atS]
 refine aO fun o ho=>?_
 simp only[go_sem]
 refine bL .nil (toS f) PH.nil_le ?_
 generalize l[v]=row at *
 have fin:∀ (x:fC) (F:PF) (H:PH),F 6=some (.ptr o 3 0 0)→F 7=some (.bool true)→H o=some (.rows 3 [x.cells])→aR EO.res (bQ (shV (some x))) .ret F H:=by
  intro x F H h6 h7 hH
  refine aV (.inr rfl) .nil (vs:=[.agg x.cells,.bool true]) ?_ PH.nil_le ⟨.refl _,rfl⟩
  simp only[go_sem,δ,EO,h6,h7,hH]
 simp only[go_sem,δ,γ,atT,hr,bJT]
 refine bC (boO f v) (L.frag f v hV hvf) rfl PH.nil_le ?_
 by_cases c:((row.length:Nat):Int)=lE f v
 ·rw[if_pos c]
  simp only[go_sem,γ,bY c,atV,hr,bJT]
  refine wp_loop (α:=Nat) (fun k=>boR f o v row k) (fun k=>PH.nil.set o (.rows 3 [[.int .i64 0,.int .i64 0,.int .i64 0]])) (fun k=>k≤row.length∧eH (iU f) row 0=eH (iU f) (row.drop k) k) (fun k=>row.length-k) 0 ⟨bKA _,rfl⟩ ?_ PH.le_refl ?_
  ·unfold boR
   (repeat' (first|exact PF.nil_le|refine PF.aG ?_ ?_))<;>first|(simp only[go_sem,γ,bJT]<;>rfl)|rfl
  rintro k ⟨hk,hb⟩
  simp only[go_sem,γ,atR,atW,boR]
  by_cases hlt:k<row.length
  ·have bHV:(k:Int)<(row.length:Nat):=by omega
   have hrk:(row.map fun n=>[PV.int .i64 n])[k]?=some [.int .i64 row[k]]:=by simp[hlt]
   have hdr:eH (iU f) (row.drop k) k=if iU f row[k] then some k else eH (iU f) (row.drop (k+1)) (k+1):=by
    rw[bLO hlt,eH]
   rw[hdr] at hb
   by_cases c1:row[k] < -1
   ·have hbd:iU f row[k]=true:=by simp[iU,c1]
    rw[hbd] at hb
    simp only[go_sem,ο,δ,γ,θ,bHV,AB,hrk,AC,c1,PL]
    rw[hb]
    exact fin ⟨1,v,k⟩ _ _ rfl rfl Sq
   ·by_cases c2:row[k]≥(f.bHN.length:Nat)
    ·have hbd:iU f row[k]=true:=by simp[iU,c2]
     rw[hbd] at hb
     simp only[go_sem,ο,δ,γ,θ,reduceCtorEq,bHV,AB,hrk,AC,c1,bJT,c2,PL]
     rw[hb]
     exact fin ⟨1,v,k⟩ _ _ rfl rfl Sq
    ·have hbd:iU f row[k]=false:=by simp[iU]; omega
     rw[hbd] at hb
     simp only[go_sem,ο,δ,γ,θ,reduceCtorEq,bHV,AB,hrk,AC,c1,bJT,c2,atX,ws k]
     refine aC (k+1) ⟨hlt,hb⟩ Om ?_ PH.le_refl
     exact Lq
  ·have bHV:¬ (k:Int)<(row.length:Nat):=by omega
   have:k=row.length:=by omega
   subst this
   rw[List.drop_length,eH] at hb
   simp only[go_sem,δ,γ,bHV,agO]
   rw[hb]
   refine aV (.inr rfl) .nil (vs:=[.agg [.int .i64 0,.int .i64 0,.int .i64 0],.bool false]) ?_ PH.nil_le ⟨.refl _,rfl⟩
   simp only[go_sem,δ,γ,EO]
 ·rw[if_neg c]
  simp only[go_sem,δ,γ,θ,cT c,atU,hr,bJT]
  exact fin ⟨1,v,(row.length:Nat)⟩ _ _ rfl rfl Sq
structure aAH (C:Ctx):Prop extends aaN C where
 shape:∀ (f:aE) (l:List (List Int)) (v:Nat),VF f→eY l→v<l.length→v<f.bHQ.length→aI C 160 [.agg f.cells,lay l,.int .i64 v] .nil (aD (shV (jX f l v)))
def rD (f:aE) (l:List (List Int)):Bool:=cV f&&decide (l.length=f.bHQ.length)&&(bJU l.length).all fun v=>(jX f l v).isNone
def tSF (f:aE) (l:List (List Int)) (k:Nat):PF:=((((PF.nil.set 1 (lay l)).set 2 (.bHX f.cells)).set 20 (.int .i64 (l.length:Nat))).set 21 (.int .i64 k))
theorem a9N {C:Ctx} (L:aAH C) (f:aE) (hf:f.Ok) (l:List (List Int)) (hl:eY l) :
  yQ.wp C (aR SD.res (bQ (.bool (rD f l)))) (PF.args [.agg f.cells,lay l]) .nil:=by
 simp only[go_sem,δ,γ,yQ,afN,afO,SD]
 refine aA (L.valid f hf) rfl ?_
 unfold rD
 have hlr:=hl.rows
 cases hv:cV f with
 | false =>
  simp only[go_sem,γ,bKF,IQ]
  exact aY rfl (by simp only[bKC])
 | true =>
  have hV:=VF.of hv
  by_cases c:l.length=f.bHQ.length
  ·have c':(((l.length:Nat):Int) != ((f.bHQ.length:Nat):Int))=false:=bY Om
   rw[decide_eq_true c]
   simp only[go_sem,γ,reduceCtorEq,bJW,bJT,c',afP]
   generalize hq:(fun v=>(jX f l v).isNone)=q
   refine wp_loop (α:=Nat) (fun k=>tSF f l k) (fun _=>.nil) (fun k=>k≤l.length∧nU q k) (fun k=>l.length-k) 0 ⟨bKA _,.zero⟩ ?_ PH.nil_le ?_
   ·unfold tSF
    (repeat' (first|exact PF.nil_le|refine PF.aG ?_ ?_))<;>first|(simp only[go_sem,γ,bJT]<;>rfl)|rfl
   rintro k ⟨hk,ha⟩
   simp only[go_sem,γ,UN,afQ,tSF]
   by_cases hlt:k<l.length
   ·have bHV:(k:Int)<(l.length:Nat):=by omega
    have hqk:q k=(jX f l k).isNone:=by rw[← hq]
    simp only[go_sem,δ,γ,bHV,afR,afS]
    refine aA (L.shape f l k hV hl hlt Om) rfl ?_
    cases hs:jX f l k with
    | some x =>
     rw[hs] at hqk
     simp only[go_sem,δ,γ,shV]
     refine aO fun o ho=>?_
     simp only[go_sem,δ,γ,IR,afT]
     exact aY (b:=false) rfl (by rw[show (bJU l.length).all q=false from dM hlt hqk])
    | none =>
     rw[hs] at hqk
     simp only[go_sem,δ,γ,shV]
     refine aO fun o ho=>?_
     simp only[go_sem,δ,γ,IR,afU,ws k]
     refine aC (k+1) ⟨hlt,ha.step hqk⟩ Om ?_ PH.nil_le
     exact Lq
   ·have bHV:¬ (k:Int)<(l.length:Nat):=by omega
    have:k=l.length:=by omega
    subst this
    simp only[go_sem,bHV,UO]
    exact aY (b:=true) rfl (by rw[show (bJU l.length).all q=true from ha])
  ·have c':(((l.length:Nat):Int) != ((f.bHQ.length:Nat):Int))=true:=cT Om
   simp only[go_sem,γ,reduceCtorEq,bJW,bJT,c',IQ]
   exact aY rfl (by rw[decide_eq_false c]; simp only[bKC])
section
variable {C:Ctx} {F:PF} {H:PH}
theorem wS {name:Nat} {vs cs:List PV} {r:PV} {H0:PH} {args:List aP} {d:Option Nat} {K:PF→PH→Prop} (h:aI C name (vs++cs) H0 (fun r' H'=>r'=r∧H'=H0)) (ha:aP.evs F args=some vs) (hle:H0.le H)
  (hk:K (F.put d r) H):iH C name args cs d K F H:=by
 refine .inl ⟨vs++cs,H0,_,by rw[ha]; rfl,hle,h,?_⟩
 rintro r' H' ⟨rfl,rfl⟩ -
 rw[PH.over_self _ hle]
 exact hk
theorem aX.ne {s s':Nat} {v:PV} {rows:List (List PV)} {o:Nat} {y:List (List PV)} (h:aX H s v rows) (ho:H o=some (.rows s' y)) (hs:s≠s'):∀ l,v≠.osl o s 0 l:=by
 intro l e
 rcases h with ⟨_,h2⟩ | ⟨q,rs,h1,h2,_⟩
 ·rw[h2] at e; cases e
 ·rw[h1] at e
  injection e with e1
  subst e1
  rw[ho] at h2
  injection h2 with h2
  injection h2 with h2
  exact hs h2.symm
theorem aX.set {s s':Nat} {v:PV} {rows:List (List PV)} {o:Nat} {y:List (List PV)} {x:cI} (h:aX H s v rows) (ho:H o=some (.rows s' y)) (hs:s≠s'):aX (H.set o x) s v rows:=by
 have hne:=h.ne ho hs
 rcases h with ⟨h1,h2⟩ | ⟨q,rs,h1,h2,h3,h4⟩
 ·exact .inl ⟨h1,h2⟩
 ·refine .inr ⟨q,rs,h1,?_,h3,h4⟩
  have:q≠o:=by rintro rfl; exact hne _ h1
  simp only[bA,if_neg this,h2]
def Dis (s:Nat) (v u:PV):Prop:=∀ q l q' l',v=.osl q s 0 l→u=.osl q' s 0 l'→q≠q'
theorem Dis.nil {s:Nat}:Dis s .bHP .bHP:=fun _ _ _ _ h=>by cases h
theorem Dis.symm {s:Nat} {v u:PV} (h:Dis s v u):Dis s u v:=fun q l q' l' h1 h2=>(h q' l' q l h2 h1).symm
theorem lM {s b:Nat} {v u y:PV} {rows rows' src:List (List PV)} {K:PV→PH→Prop} (h:aX H s v rows) (h':aX H s u rows') (hd:Dis s v u) (hy:dX H s y=some src) (hr:roomFor rows.length src.length b)
  (hk:∀ v' H',aX H' s v' (rows++src)→aX H' s u rows'→Dis s v' u→(∀ o s' z,s≠s'→H o=some (.rows s' z)→H' o=some (.rows s' z))→K v' H'):nG H s b v y K:=by
 have other:∀ {H':PH} {t:PV} {r:List (List PV)},aX H s t r→(∀ o x,H o=some x→(∀ l,t=.osl o s 0 l→False)∨H' o=some x)→aX H' s t r:=by
  intro H' t r ht hp
  rcases ht with ⟨a,b⟩ | ⟨q,rs,a,b,c,d⟩
  ·exact .inl ⟨a,b⟩
  ·refine .inr ⟨q,rs,a,?_,c,d⟩
   rcases hp q _ b with e | e
   ·exact (e _ a).elim
   ·exact e
 have gone:∀ {o:Nat} {x:cI},H o=none→H o=some x→False:=fun a b=>by rw[a] at b; cases b
 have hud:∀ {o:Nat} {l:Nat},u=.osl o s 0 l→∃ x,H o=some x:=by
  intro o l e
  rcases h' with ⟨a,b⟩ | ⟨q,rs,a,b,c,d⟩
  ·rw[b] at e; cases e
  ·rw[a] at e; injection e with e; subst e; exact⟨_,b⟩
 rcases h with ⟨rfl,rfl⟩ | ⟨q,rs,rfl,h1,h2,h3⟩
 ·refine⟨src,hy,hr,fun e=>?_,fun e o ho=>?_⟩
  ·subst e
   exact hk _ _ (.inl ⟨rfl,rfl⟩) h' hd fun o s' z _ hz=>hz
  ·refine hk _ _ (.inr ⟨o,src,rfl,by simp only[bA,if_true],bKB _,by simp⟩) (other h' fun o' x hx=>.inr ?_) ?_ fun o' s' z _ hz=>?_
   ·have:o'≠o:=by rintro rfl; exact gone ho hx
    simp only[bA,if_neg this,hx]
   ·intro q l q' l' e1 e2
    injection e1 with e1
    subst e1
    rintro rfl
    obtain⟨x,hx⟩:=hud e2
    exact gone ho hx
   ·have:o'≠o:=by rintro rfl; exact gone ho hz
    simp only[bA,if_neg this,hz]
 ·have hlen:(rows++src).length=rows.length+src.length:=bJX
  refine⟨src,hy,rfl,rfl,hr,rs,h1,h2,?_,fun o ho=>?_⟩
  ·rw[h3]
   refine hk _ _ (.inr ⟨q,rows++src,by rw[hlen],by simp only[bA,if_true],bKB _,bKU⟩) (other h' fun o' x hx=>?_) ?_ fun o' s' z hs hz=>?_
   ·by_cases e:o'=q
    ·exact .inl fun l el=>hd q _ o' l rfl el e.symm
    ·exact .inr (by simp only[bA,if_neg e,hx])
   ·intro q1 l q' l' e1 e2
    injection e1 with e1
    subst e1
    exact hd _ _ _ _ rfl e2
   ·have:o'≠q:=by
     rintro rfl
     rw[h1] at hz
     injection hz with hz
     injection hz with hz
     exact hs hz
    simp only[bA,if_neg this,hz]
  ·rw[h3]
   refine hk _ _ (.inr ⟨o,rows++src,by rw[hlen],by simp only[bA,if_true],bKB _,bKU⟩) (other h' fun o' x hx=>?_) ?_ fun o' s' z hs hz=>?_
   ·by_cases e:o'=q
    ·exact .inl fun l el=>hd q _ o' l rfl el e.symm
    ·have e2:o'≠o:=by rintro rfl; exact gone ho hx
     exact .inr (by simp only[bA,if_neg e,if_neg e2,hx])
   ·intro q1 l q' l' e1 e2
    injection e1 with e1
    subst e1
    rintro rfl
    obtain⟨x,hx⟩:=hud e2
    exact gone ho hx
   ·have e1:o'≠q:=by
     rintro rfl
     rw[h1] at hz
     injection hz with hz
     injection hz with hz
     exact hs hz
    have e2:o'≠o:=by rintro rfl; exact gone ho hz
    simp only[bA,if_neg e1,if_neg e2,hz]
end
abbrev cO (l:List fC):List (List PV):=l.map fC.cells
def bM (kind v:Int) (n:Nat) (p:Nat→Bool):List fC:=((bJU n).filter p).map fun (i:Nat)=>⟨kind,v,i⟩
theorem fZ (kind v:Int) (n:Nat) (p:Nat→Bool):bM kind v (n+1) p=if p n then bM kind v n p++[⟨kind,v,n⟩] else bM kind v n p:=by
 unfold bM
 rw[List.range_succ,List.filter_append,bLT]
 by_cases h:p n
 ·rw[if_pos h]; simp[h]
 ·rw[if_neg h]; simp[h]
theorem dD (kind v:Int) (n:Nat) (p:Nat→Bool):(bM kind v n p).length≤n:=by
 unfold bM
 rw[bJT]
 exact bLV (List.length_filter_le _ _) (by simp)
theorem fI (l:List fC):(cO l).length=l.length:=by simp[cO]
theorem jG (l:List fC) (x:fC):cO l++[x.cells]=cO (l++[x]):=by simp[cO]
def aJE (o5:Nat) (v:Nat):PH:=PH.nil.set o5 (.rows 1 [[.int .i64 v]])
theorem bhO {C:Ctx} (o5 v:Nat) (k w:Int):CN.wp C (aR agQ.res (fun r H'=>r=.agg [.int .i64 k,.int .i64 v,.int .i64 w]∧H'=aJE o5 v)) (PF.args [.int .i64 k,.int .i64 w,.ptr o5 1 0 0]) (aJE o5 v):=by
 simp only[go_sem,δ,CN,auK,aJE]
 refine aO fun o ho=>?_
 have hne:o5≠o:=by rintro rfl; simp only[bA,if_true] at ho; cases ho
 simp only[go_sem,δ,γ,θ,reduceCtorEq,auL,hne]
 refine aV (.inr rfl) (PH.nil.set o5 (.rows 1 [[.int .i64 v]])) (vs:=[.agg [.int .i64 k,.int .i64 v,.int .i64 w]]) ?_ (PH.aG PH.nil_le ?_) ⟨rfl,rfl⟩
 ·simp only[go_sem,δ,γ,agQ]
 ·simp only[go_sem,hne]
def jR (f:aE) (i:Nat) (d:Int):Bool:=decide (0≤d)&&decide (eO f d.toNat (lvl f i)=i)
def nA (f:aE) (xs:List Int) (i:Nat):Int:=if i=0 then 0 else ((xs.countP (jR f i):Nat):Int)
def dZ (f:aE) (xs:List Int):List Int:=(bJU f.bHR.length).map (nA f xs)
def qI (f:aE) (xs:List Int) (d:Nat) (k:Nat):List Int:=(bJU f.bHR.length).map fun i=>if 4-(k:Int)<lvl f i then nA f (xs++[(d:Int)]) i else nA f xs i
theorem uL (f:aE) (xs:List Int):(dZ f xs).length=f.bHR.length:=by simp[dZ]
theorem VF.oO {f:aE} (h:VF f) {i:Nat} (hi:i<f.bHR.length):0≤lvl f i∧lvl f i≤4∧(lvl f i=0↔i=0):=by
 rcases bLU i with e | e
 ·subst e; rw[h.root.2.1]; simp
 ·have:=h.dom i e hi
  omega
theorem bbN {f:aE} (h:VF f) (xs:List Int) (d:Nat):qI f xs d 0=dZ f xs:=by
 refine bMR (by simp[qI,dZ]) fun i h1 h2=>?_
 simp only[qI,dZ,bLI,List.getElem_range]
 have hi:i<f.bHR.length:=by simpa [dZ] using h2
 have:=h.oO hi
 rw[if_neg Om]
theorem bbM {f:aE} (h:VF f) (xs:List Int) (d:Nat):qI f xs d 4=dZ f (xs++[(d:Int)]):=by
 refine bMR (by simp[qI,dZ]) fun i h1 h2=>?_
 simp only[qI,dZ,bLI,List.getElem_range]
 have hi:i<f.bHR.length:=by simpa [dZ] using h2
 have:=h.oO hi
 by_cases e:i=0
 ·subst e
  rw[if_neg Om]
  simp[nA]
 ·rw[if_pos Om]
theorem anF (f:aE) (xs:List Int) (d:Nat) {i:Nat} (hi:i≠0):nA f (xs++[(d:Int)]) i=nA f xs i+if eO f d (lvl f i)=i then 1 else 0:=by
 unfold nA
 rw[if_neg hi,if_neg hi,List.countP_append]
 by_cases h:eO f d (lvl f i)=i
 ·rw[if_pos h]; simp[jR,h]
 ·rw[if_neg h]; simp[jR,h]
theorem brD {f:aE} (h:VF f) (xs:List Int) {d:Nat} (hd:d<f.bHN.length) {k:Nat} (hk:k<4) :
  (qI f xs d k)[upN f k (fD f d)]?=some (nA f xs (upN f k (fD f d))) ∧
  (qI f xs d k).set (upN f k (fD f d)) (nA f xs (upN f k (fD f d))+1)=qI f xs d (k+1):=by
 obtain⟨u1,u2⟩:=QI h hd (k:=k) Om
 constructor
 ·simp only[qI,bLC,List.getElem?_range u1,bKZ]
  rw[if_neg Om]
 ·refine bMR (by simp[qI]) fun i h1 h2=>?_
  have hi:i<f.bHR.length:=by simpa [qI] using h2
  simp only[qI,List.getElem_set,bLI,List.getElem_range]
  have hr:=h.oO hi
  by_cases e:upN f k (fD f d)=i
  ·rw[if_pos e]
   subst e
   rw[if_pos Om]
   have hne:upN f k (fD f d)≠0:=by intro e; rw[e,h.root.2.1] at u2; omega
   rw[anF f xs d hne,eO,u2]
   have:4-(4-(k:Int)).toNat=k:=by omega
   rw[this,if_pos rfl]
  ·rw[if_neg e]
   by_cases c:4-(k:Int)<lvl f i
   ·rw[if_pos c,if_pos Om]
   ·rw[if_neg c]
    by_cases c2:4-((k+1:Nat):Int)<lvl f i
    ·rw[if_pos c2]
     have hl:lvl f i=4-(k:Int):=by omega
     have hne:i≠0:=by intro e; subst e; rw[h.root.2.1] at hl; omega
     rw[anF f xs d hne,eO,hl]
     have:4-(4-(k:Int)).toNat=k:=by omega
     rw[this,if_neg e]; simp
    ·rw[if_neg c2]
theorem brC (f:aE) (xs:List Int) (i:Nat):0≤nA f xs i∧nA f xs i≤xs.length:=by
 unfold nA
 have:=List.countP_le_length (p:=jR f i) (l:=xs)
 split<;>omega
structure DS (C:Ctx):Prop extends aAH C where
 bad:∀ (o5 v:Nat) (k w:Int),aI C 159 [.int .i64 k,.int .i64 w,.ptr o5 1 0 0] (aJE o5 v) (fun r H'=>r=.agg [.int .i64 k,.int .i64 v,.int .i64 w]∧H'=aJE o5 v)
structure Obs where
 o5:Nat
 o7:Nat
 o8:Nat
 oD:Nat
 oB:Nat
structure Obs.Ne (o:Obs):Prop where
 a1:o.o5≠o.oD
 a2:o.o5≠o.oB
 a3:o.o7≠o.oD
 a4:o.o7≠o.oB
 a5:o.o8≠o.oD
 a6:o.o8≠o.oB
 a7:o.oD≠o.oB
structure jZ (H:PH) (o:Obs) (v:Nat) (p:cJ) (A:List Bool) (D B:List Int):Prop where
 h5:H o.o5=some (.rows 1 [[.int .i64 v]])
 h7:H o.o7=some (.rows 17 [p.cells])
 h8:H o.o8=some (.rows 1 (eP A))
 hD:H o.oD=some (.rows 1 (cZ D))
 hB:H o.oB=some (.rows 1 (cZ B))
theorem jZ.keep {H H':PH} {o:Obs} {v:Nat} {p:cJ} {A:List Bool} {D B:List Int} (h:jZ H o v p A D B) (hk:∀ q s' z,3≠s'→H q=some (.rows s' z)→H' q=some (.rows s' z)):jZ H' o v p A D B :=
 ⟨hk _ _ _ (by decide) h.h5,hk _ _ _ (by decide) h.h7,hk _ _ _ (by decide) h.h8,hk _ _ _ (by decide) h.hD,hk _ _ _ (by decide) h.hB⟩
theorem jZ.bFI {H:PH} {o:Obs} {v:Nat} {p:cJ} {A:List Bool} {D B:List Int} (h:jZ H o v p A D B) (hn:o.Ne) (B':List Int):jZ (H.set o.oB (.rows 1 (cZ B'))) o v p A D B' :=
 ⟨by simp only[bA,if_neg hn.a2,h.h5],by simp only[bA,if_neg hn.a4,h.h7],by simp only[bA,if_neg hn.a6,h.h8],by simp only[bA,if_neg hn.a7,h.hD],by simp only[bA,if_true]⟩
theorem jZ.bFJ {H:PH} {o:Obs} {v:Nat} {p:cJ} {A:List Bool} {D B:List Int} (h:jZ H o v p A D B) (hn:o.Ne) (D':List Int):jZ (H.set o.oD (.rows 1 (cZ D'))) o v p A D' B :=
 ⟨by simp only[bA,if_neg hn.a1,h.h5],by simp only[bA,if_neg hn.a3,h.h7],by simp only[bA,if_neg hn.a5,h.h8],by simp only[bA,if_true],by simp only[bA,if_neg (Ne.symm hn.a7),h.hB]⟩
def kM (f:aE) (o:Obs) (v12 v13:PV) (row:List Int) (k:Nat):PF :=
 ((((((((((((PF.nil.set 3 (.bHX f.cells)).set 5 (.ptr o.o5 1 0 0)).set 7 (.ptr o.o7 17 0 0)).set 8 (.osl o.o8 1 0 f.bHO.length)).set 11 (.fn 159 [.ptr o.o5 1 0 0])).set 12 (v12)).set 13 (v13)).set 14 (.osl o.oD 1 0 f.bHN.length)).set 15 (.osl o.oB 1 0 f.bHR.length)).set 62 (ints row)).set 63 (.int .i64 (row.length:Nat))).set 64 (.int .i64 k))
def a8Z (f:aE) (o:Obs) (v12 v13:PV) (row:List Int) (k:Nat) (at_:Nat):PF :=
 (((((((((((((PF.nil.set 3 (.bHX f.cells)).set 5 (.ptr o.o5 1 0 0)).set 7 (.ptr o.o7 17 0 0)).set 8 (.osl o.o8 1 0 f.bHO.length)).set 11 (.fn 159 [.ptr o.o5 1 0 0])).set 12 (v12)).set 13 (v13)).set 14 (.osl o.oD 1 0 f.bHN.length)).set 15 (.osl o.oB 1 0 f.bHR.length)).set 62 (ints row)).set 63 (.int .i64 (row.length:Nat))).set 64 (.int .i64 k)).set 18 (.int .i64 at_))
theorem bxR {C:Ctx} (f:aE) (hV:VF f) (o:Obs) (hn:o.Ne) (v:Nat) (p:cJ) (A:List Bool) (D:List Int) (v12 v13:PV) (R12 R13:List (List PV)) (row:List Int) (k:Nat) (xs:List Int) (hxs:xs.length≤16777216) (d:Nat) (hd:d<f.bHN.length) (K:cA) (F:PF) (H:PH)
  (hF:(a8Z f o v12 v13 row k (fD f d)).le F) (hH:jZ H o v p A D (dZ f xs)) (h12:aX H 3 v12 R12) (h13:aX H 3 v13 R13)
  (hK:∀ F' H',(kM f o v12 v13 row k).le F'→jZ H' o v p A D (dZ f (xs++[(d:Int)]))→aX H' 3 v12 R12→aX H' 3 v13 R13→K .normal F' H') :
  aB.wp C (.block 4 (.loop AD)) K F H:=by
 simp only[go_sem]
 refine wp_loop (α:=Nat × PH) (fun t=>a8Z f o v12 v13 row k (upN f t.1 (fD f d))) (fun t=>t.2) (fun t=>t.1≤4∧jZ t.2 o v p A D (qI f xs d t.1)∧aX t.2 3 v12 R12∧aX t.2 3 v13 R13) (fun t=>4-t.1) (0,H) ⟨bKA _,by rw[bbN hV]; exact hH,h12,h13⟩ (by rw[upN]; exact hF) PH.le_refl ?_
 rintro⟨j,H0⟩ ⟨hj,hR,g12,g13⟩
 simp only at hj hR g12 g13 ⊢
 obtain⟨u1,u2⟩:=QI hV hd (k:=j) hj
 simp only[go_sem,γ,AD,auR,a8Z]
 by_cases hlt:j<4
 ·have hne:0<upN f j (fD f d):=by
   rcases bLU (upN f j (fD f d)) with e | e
   ·rw[e,hV.root.2.1] at u2; omega
   ·exact e
  have hc:((upN f j (fD f d):Nat):Int)>0:=by omega
  obtain⟨b1,b2⟩:=brD hV xs hd hlt
  have hat:(cZ (qI f xs d j))[upN f j (fD f d)]?=some [.int .i64 (nA f xs (upN f j (fD f d)))]:=by
   unfold cZ; rw[bLC,b1]; rfl
  have hdl:=brC f xs (upN f j (fD f d))
  have hw:IntKind.i64.wrap (nA f xs (upN f j (fD f d))+1)=nA f xs (upN f j (fD f d))+1:=wrap_i64 Om Om
  have hlN:((upN f j (fD f d):Nat):Int)<(f.bHR.length:Nat):=by omega
  simp only[go_sem,δ,γ,θ,hc,auS,hlN,bKS,hR.hB,hat,hw,oN,b2,auT,eQ u1,yH u1,hV.amF hne u1]
  refine aC (j+1,_) ⟨hlt,hR.bFI hn _,g12.set hR.hB (by decide),g13.set hR.hB (by decide)⟩ (by simp only; omega) ?_ PH.le_refl
  (repeat' (first|exact PF.nil_le|refine PF.aG ?_ ?_))<;>first|(simp only[go_sem,γ,upN]<;>rfl)|rfl
 ·have:j=4:=by omega
  subst this
  have h0:upN f 4 (fD f d)=0:=by
   have:=hV.oO u1
   omega
  have hc:¬ ((upN f 4 (fD f d):Nat):Int)>0:=by omega
  simp only[go_sem,ε,hc]
  rw[bbM hV] at hR
  refine hK _ _ ?_ hR g12 g13
  unfold kM
  exact Lq
structure tR (f:aE) (row:List Int):Prop where
 len:row.length≤16777216
 at_:∀ x∈row,-1≤x∧x<(f.bHN.length:Nat)
def home (row:List Int) (i:Nat):Bool:=decide (row.getD i 0<0)
def cS (f:aE) (p:cJ) (row:List Int) (i:Nat):Bool:=decide (0≤row.getD i 0)&&!p.bHO.contains ((mdl f (row.getD i 0).toNat:Nat):Int)
theorem bbL (f:aE) (xs:List Int) {x:Int} (h:x<0):dZ f (xs++[x])=dZ f xs:=by
 refine bMR (by simp[dZ]) fun i h1 h2=>?_
 simp only[dZ,bLI,List.getElem_range,nA,List.countP_append]
 have:jR f i x=false:=by simp[jR]; omega
 simp[this]
theorem bnU {C:Ctx} (L:DS C) (f:aE) (hV:VF f) (o:Obs) (hn:o.Ne) (v:Nat) (p:cJ) (hp:∀ m∈p.bHO,0≤m∧m<f.bHO.length) (row:List Int) (hr:tR f row) (K:cA) (F:PF) (H:PH)
  (hF:(kM f o .bHP .bHP row 0).le F) (hH:jZ H o v p (marks f.bHO.length p.bHO) (dS f.bHN.length []) (dZ f []))
  (hK:∀ v12 v13 F' H',(kM f o v12 v13 row row.length).le F'→jZ H' o v p (marks f.bHO.length p.bHO) (dS f.bHN.length row) (dZ f row)→aX H' 3 v12 (cO (bM 2 v row.length (home row)))→aX H' 3 v13 (cO (bM 4 v row.length (cS f p row)))→Dis 3 v12 v13→K (.exit 2) F' H') :
  aB.wp C (.loop rG) K F H:=by
 obtain⟨hr1,hr2⟩:=hr
 refine wp_loop (α:=Nat × PV × PV × PH) (fun t=>kM f o t.2.1 t.2.2.1 row t.1) (fun t=>t.2.2.2)
  (fun t=>t.1≤row.length∧jZ t.2.2.2 o v p (marks f.bHO.length p.bHO) (dS f.bHN.length (row.take t.1)) (dZ f (row.take t.1))∧aX t.2.2.2 3 t.2.1 (cO (bM 2 v t.1 (home row)))∧aX t.2.2.2 3 t.2.2.1 (cO (bM 4 v t.1 (cS f p row)))∧Dis 3 t.2.1 t.2.2.1)
  (fun t=>row.length-t.1) (0,.bHP,.bHP,H) ⟨bKA _,by rw[List.take_zero]; exact hH,.nil,.nil,.nil⟩ hF PH.le_refl ?_
 rintro⟨k,v12,v13,H0⟩ ⟨hk,hR,h12,h13,hd⟩
 simp only at hk hR h12 h13 hd ⊢
 by_cases hlt:k<row.length
 ·have bHV:(k:Int)<(row.length:Nat):=by omega
  have hrk:(row.map fun n=>[PV.int .i64 n])[k]?=some [.int .i64 row[k]]:=by simp[hlt]
  have hg:row.getD k 0=row[k]:=by simp[bKK,hlt]
  have htk:row.take (k+1)=row.take k++[row[k]]:=bLY hlt
  have hx:=hr2 row[k] (bJZ hlt)
  have e2:=fZ 2 v k (home row)
  have e4:=fZ 4 v k (cS f p row)
  have hh:home row k=decide (row[k]<0):=by rw[home,hg]
  have ha:cS f p row k=(decide (0≤row[k])&&!p.bHO.contains ((mdl f (row[k]).toNat:Nat):Int)):=by rw[cS,hg]
  have l2:=dD 2 v k (home row)
  have l4:=dD 4 v k (cS f p row)
  have fin:∀ v12' v13' (F:PF) (H1:PH),(kM f o v12' v13' row (k+1)).le F→jZ H1 o v p (marks f.bHO.length p.bHO) (dS f.bHN.length (row.take (k+1))) (dZ f (row.take (k+1)))→aX H1 3 v12' (cO (bM 2 v (k+1) (home row)))→aX H1 3 v13' (cO (bM 4 v (k+1) (cS f p row)))→Dis 3 v12' v13' →
    dU (fun (t:Nat × PV × PV × PH)=>kM f o t.2.1 t.2.2.1 row t.1) (fun t=>t.2.2.2)
     (fun t=>t.1≤row.length∧jZ t.2.2.2 o v p (marks f.bHO.length p.bHO) (dS f.bHN.length (row.take t.1)) (dZ f (row.take t.1))∧aX t.2.2.2 3 t.2.1 (cO (bM 2 v t.1 (home row)))∧aX t.2.2.2 3 t.2.2.1 (cO (bM 4 v t.1 (cS f p row)))∧Dis 3 t.2.1 t.2.2.1)
     (fun t=>row.length-t.1) (row.length-k) K .normal F H1 :=
   fun v12' v13' F H1 hF hR h1 h2 h3=>aC (α:=Nat × PV × PV × PH) (k+1,v12',v13',H1) ⟨hlt,hR,h1,h2,h3⟩ (by simp only; omega) hF PH.le_refl
  generalize hxe:row[k]=x at *
  by_cases c:x<0
  ·have o1:=xS (n:=f.bHN.length) (row.take k) (x:=x) Om
   have o2:=bbL f (row.take k) c
   rw[htk,o1,o2] at fin
   rw[if_pos (by rw[hh]; simp[c])] at e2
   rw[if_neg (by rw[ha]; simp; omega)] at e4
   rw[e2,e4] at fin
   simp only[go_sem,γ,rG,uX,kM,bHV,AE,hrk,AF,c,auP]
   refine⟨159,[.ptr o.o5 1 0 0],rfl,?_⟩
   refine wS (vs:=[.int .i64 2,.int .i64 k]) (L.bad o.o5 v 2 k) rfl (PH.aG PH.nil_le hR.h5) ?_
   have bJH:(1:Nat)*3≤16777216:=by decide
   simp only[go_sem,υ,δ,γ,η,ζ,bJH]
   refine lM (src:=[(⟨2,v,k⟩:fC).cells]) h12 h13 hd rfl (by unfold roomFor; rw[fI]; simp only[bKD,maxLen]; omega) fun v' H' g1 g2 g3 g4=>?_
   rw[jG] at g1
   unfold kM at fin
   simp only[go_sem,γ,AG,ws k]
   exact fin v' v13 _ H' Lq (hR.keep g4) g1 g2 g3
  ·obtain⟨d,rfl⟩:∃ d:Nat,x=d:=⟨x.toNat,by omega⟩
   have hdl:d<f.bHN.length:=by omega
   have hdl':(d:Int)<(f.bHN.length:Nat):=by omega
   obtain⟨w1,w2,w3,w4,w5⟩:=hV.drive d hdl
   have c0:(0:Int)≤(d:Int):=by omega
   rw[if_neg (by rw[hh]; simp)] at e2
   rw[decide_eq_true c0,bKJ,bMQ] at ha
   have hcnt:(row.take k).count (d:Int)≤16777216:=bLV (List.count_le_length ..) (by rw[bKN]; omega)
   have hw:IntKind.i64.wrap ((((row.take k).count (d:Int):Nat):Int)+1)=(((row.take k).count (d:Int):Nat):Int)+1:=wrap_i64 Om Om
   have hcat:=tF (l:=dS f.bHN.length (row.take k)) (i:=d) (by rw[fP]; exact hdl)
   rw[RC _ hdl] at hcat
   have hcin:=akM (row.take k) hdl
   have hxl:(row.take k).length≤16777216:=by rw[bKN]; omega
   rw[e2,htk] at fin
   have tail:∀ v13' (F:PF) (H1:PH),(kM f o v12 v13' row k).le F→F 17=some (.int .i64 d)→jZ H1 o v p (marks f.bHO.length p.bHO) (dS f.bHN.length (row.take k)) (dZ f (row.take k))→aX H1 3 v12 (cO (bM 2 v k (home row)))→aX H1 3 v13' (cO (bM 4 v (k+1) (cS f p row)))→Dis 3 v12 v13' →
     aB.wp C (.seq (.region PU) (.seq (.region PW) (.block 4 (.loop AD)))) (dN 3 (iV C (aB.wp C (.region AG)) (dU (fun (t:Nat × PV × PV × PH)=>kM f o t.2.1 t.2.2.1 row t.1) (fun t=>t.2.2.2)
     (fun t=>t.1≤row.length∧jZ t.2.2.2 o v p (marks f.bHO.length p.bHO) (dS f.bHN.length (row.take t.1)) (dZ f (row.take t.1))∧aX t.2.2.2 3 t.2.1 (cO (bM 2 v t.1 (home row)))∧aX t.2.2.2 3 t.2.2.1 (cO (bM 4 v t.1 (cS f p row)))∧Dis 3 t.2.1 t.2.2.1)
     (fun t=>row.length-t.1) (row.length-k) K))) F H1:=by
    intro v13' F H1 hF f17 hR1 g12 g13 gd
    have f3:F 3=some (.bHX f.cells):=hF 3 _ (by unfold kM; simp only[go_sem,γ])
    have f14:F 14=some (.osl o.oD 1 0 f.bHN.length):=hF 14 _ (by unfold kM; simp only[go_sem,γ])
    simp only[go_sem,δ,γ,θ,PU,f14,f17,hdl',bKS,hR1.hD,hcat,hw,oN,hcin,PW,f3,kP hdl,hV.alE hdl]
    have up:=bxR (C:=C) f hV o hn v p (marks f.bHO.length p.bHO) (dS f.bHN.length (row.take k++[(d:Int)])) v12 v13' (cO (bM 2 v k (home row))) (cO (bM 4 v (k+1) (cS f p row))) row k (row.take k) hxl d hdl
    simp only[aB.wp,go_sem] at up
    refine up _ _ _ ?_ (hR1.bFJ hn _) (g12.set hR1.hD (by decide)) (g13.set hR1.hD (by decide)) ?_
    ·have g:=fun (q:Nat) u h=>hF q u h
     unfold kM at g
     unfold a8Z
     refine PF.aG (PF.aG (PF.aG (PF.aG (PF.aG (PF.aG (PF.aG (PF.aG (PF.aG (PF.aG (PF.aG (PF.aG (PF.aG PF.nil_le ?_) ?_) ?_) ?_) ?_) ?_) ?_) ?_) ?_) ?_) ?_) ?_) ?_
     ·simp only[go_sem,γ]; exact g 3 _ rfl
     ·simp only[go_sem,γ]; exact g 5 _ rfl
     ·simp only[go_sem,γ]; exact g 7 _ rfl
     ·simp only[go_sem,γ]; exact g 8 _ rfl
     ·simp only[go_sem,γ]; exact g 11 _ rfl
     ·simp only[go_sem,γ]; exact g 12 _ rfl
     ·simp only[go_sem,γ]; exact g 13 _ rfl
     ·simp only[go_sem,γ]; exact g 14 _ rfl
     ·simp only[go_sem,γ]; exact g 15 _ rfl
     ·simp only[go_sem,γ]; exact g 62 _ rfl
     ·simp only[go_sem,γ]; exact g 63 _ rfl
     ·simp only[go_sem,γ]; exact g 64 _ rfl
     ·simp only[go_sem,γ]
    ·intro F' H' hF' hR' g12' g13'
     have g:=fun (q:Nat) u h=>hF' q u h
     unfold kM at g
     have f64:F' 64=some (.int .i64 k):=g 64 _ rfl
     simp only[go_sem,AG,f64,ws k]
     refine fin v12 v13' _ H' ?_ hR' g12' g13' gd
     unfold kM
     refine PF.aG (PF.aG (PF.aG (PF.aG (PF.aG (PF.aG (PF.aG (PF.aG (PF.aG (PF.aG (PF.aG (PF.aG PF.nil_le ?_) ?_) ?_) ?_) ?_) ?_) ?_) ?_) ?_) ?_) ?_) ?_
     ·simp only[go_sem,γ]; exact g 3 _ rfl
     ·simp only[go_sem,γ]; exact g 5 _ rfl
     ·simp only[go_sem,γ]; exact g 7 _ rfl
     ·simp only[go_sem,γ]; exact g 8 _ rfl
     ·simp only[go_sem,γ]; exact g 11 _ rfl
     ·simp only[go_sem,γ]; exact g 12 _ rfl
     ·simp only[go_sem,γ]; exact g 13 _ rfl
     ·simp only[go_sem,γ]; exact g 14 _ rfl
     ·simp only[go_sem,γ]; exact g 15 _ rfl
     ·simp only[go_sem,γ]; exact g 62 _ rfl
     ·simp only[go_sem,γ]; exact g 63 _ rfl
     ·simp only[go_sem,γ]
   simp only[aB.wp,go_sem] at tail
   have hml:((mdl f d:Nat):Int)<(f.bHO.length:Nat):=by omega
   have hmk:(eP (marks f.bHO.length p.bHO))[mdl f d]?=some [.bool (p.bHO.contains ((mdl f d:Nat):Int))]:=by
    have:=XA (n:=f.bHO.length) (l:=p.bHO) (m:=((mdl f d:Nat):Int)) Om hml
    rw[bMQ] at this
    unfold eP
    rw[bLC,this]; rfl
   cases hb:p.bHO.contains ((mdl f d:Nat):Int) with
   | true =>
    rw[hb] at hmk ha
    rw[if_neg (by rw[ha]; simp)] at e4
    rw[e4] at tail
    simp only[go_sem,δ,γ,θ,rG,uX,kM,bHV,AE,hrk,AF,c,PT,kP hdl,hV.EC hdl,hml,bKS,hR.h8,hmk,bJW]
    exact tail v13 _ H0 (by unfold kM; exact Lq) rfl hR h12 h13 hd
   | false =>
    rw[hb] at hmk ha
    rw[if_pos (by rw[ha]; simp)] at e4
    rw[e4] at tail
    simp only[go_sem,δ,γ,θ,rG,uX,kM,bHV,AE,hrk,AF,c,PT,kP hdl,hV.EC hdl,hml,bKS,hR.h8,hmk,bKF,auQ]
    refine⟨159,[.ptr o.o5 1 0 0],rfl,?_⟩
    refine wS (vs:=[.int .i64 4,.int .i64 k]) (L.bad o.o5 v 4 k) rfl (PH.aG PH.nil_le hR.h5) ?_
    have bJH:(1:Nat)*3≤16777216:=by decide
    simp only[go_sem,υ,δ,γ,η,ζ,bJH]
    refine lM (src:=[(⟨4,v,k⟩:fC).cells]) h13 h12 hd.symm rfl (by unfold roomFor; rw[fI]; simp only[bKD,maxLen]; omega) fun v' H' g1 g2 g3 g4=>?_
    rw[jG] at g1
    exact tail v' _ H' (by unfold kM; exact Lq) rfl (hR.keep g4) g2 g1 g3.symm
 ·have bHV:¬ (k:Int)<(row.length:Nat):=by omega
  have:k=row.length:=by omega
  subst this
  rw[bKU] at hR
  simp only[go_sem,γ,rG,uX,kM,bHV]
  exact hK v12 v13 _ _ (by unfold kM; exact Lq) hR h12 h13 hd
def jM (f:aE) (row:List Int) (d:Nat):Bool:=decide ((dS f.bHN.length row).getD d 0>1)
def dW (f:aE) (p:cJ) (i:Nat):Int:=p.spread (lvl f i).toNat
def kI (f:aE) (p:cJ) (row:List Int) (i:Nat):Bool:=decide (dW f p i>0)&&decide ((dZ f row).getD i 0>dW f p i)
def sP (f:aE) (p:cJ) (v:Nat) (row:List Int):List fC :=
 bM 2 v row.length (home row)++bM 3 v f.bHN.length (jM f row)++bM 4 v row.length (cS f p row)++bM 5 v f.bHR.length (kI f p row)
def HZ (f:aE) (o:Obs) (v13 v19:PV) (k:Nat):PF :=
 ((((((((((PF.nil.set 3 (.bHX f.cells)).set 5 (.ptr o.o5 1 0 0)).set 7 (.ptr o.o7 17 0 0)).set 11 (.fn 159 [.ptr o.o5 1 0 0])).set 13 (v13)).set 15 (.osl o.oB 1 0 f.bHR.length)).set 19 (v19)).set 121 (.osl o.oD 1 0 f.bHN.length)).set 122 (.int .i64 (f.bHN.length:Nat))).set 123 (.int .i64 k))
def ayZ (f:aE) (o:Obs) (v19:PV) (k:Nat):PF :=
 ((((((((PF.nil.set 3 (.bHX f.cells)).set 5 (.ptr o.o5 1 0 0)).set 7 (.ptr o.o7 17 0 0)).set 11 (.fn 159 [.ptr o.o5 1 0 0])).set 19 (v19)).set 140 (.osl o.oB 1 0 f.bHR.length)).set 141 (.int .i64 (f.bHR.length:Nat))).set 142 (.int .i64 k))
theorem bfT {C:Ctx} (L:DS C) (f:aE) (hV:VF f) (o:Obs) (v:Nat) (p:cJ) (A:List Bool) (B:List Int) (row:List Int) (l0:List fC) (hl0:l0.length≤16777216) (v13 v19:PV) (R13:List (List PV)) (K:cA) (F:PF) (H:PH)
  (hF:(HZ f o v13 v19 0).le F) (hH:jZ H o v p A (dS f.bHN.length row) B) (h19:aX H 3 v19 (cO l0)) (h13:aX H 3 v13 R13) (hd:Dis 3 v19 v13)
  (hK:∀ v' F' H',(HZ f o v13 v' f.bHN.length).le F'→jZ H' o v p A (dS f.bHN.length row) B→aX H' 3 v' (cO (l0++bM 3 v f.bHN.length (jM f row)))→aX H' 3 v13 R13→Dis 3 v' v13→K (.exit 6) F' H') :
  aB.wp C (.loop PR) K F H:=by
 have hs:=hV.small.bHN
 refine wp_loop (α:=Nat × PV × PH) (fun t=>HZ f o v13 t.2.1 t.1) (fun t=>t.2.2) (fun t=>t.1≤f.bHN.length∧jZ t.2.2 o v p A (dS f.bHN.length row) B∧aX t.2.2 3 t.2.1 (cO (l0++bM 3 v t.1 (jM f row)))∧aX t.2.2 3 v13 R13∧Dis 3 t.2.1 v13) (fun t=>f.bHN.length-t.1) (0,v19,H)
  ⟨bKA _,hH,by rw[show bM 3 v 0 (jM f row)=[] from rfl,bLK]; exact h19,h13,hd⟩ hF PH.le_refl ?_
 rintro⟨k,v',H0⟩ ⟨hk,hR,g19,g13,gd⟩
 simp only at hk hR g19 g13 gd ⊢
 simp only[go_sem,γ,PR,auW,HZ]
 by_cases hlt:k<f.bHN.length
 ·have bHV:(k:Int)<(f.bHN.length:Nat):=by omega
  have hat:=tF (l:=dS f.bHN.length row) (i:=k) (by rw[fP]; exact hlt)
  have hgk:(dS f.bHN.length row).getD k 0=(dS f.bHN.length row)[k]'(by rw[fP]; exact hlt):=by
   rw[bKK,bKG (by rw[fP]; exact hlt)]; rfl
  have e3:=fZ 3 v k (jM f row)
  have ht:jM f row k=decide ((dS f.bHN.length row)[k]'(by rw[fP]; exact hlt)>1):=by rw[jM,hgk]
  have hl3:=dD 3 v k (jM f row)
  simp only[go_sem,γ,bHV,auX,bKS,hR.hD,hat,auY]
  by_cases c:(dS f.bHN.length row)[k]'(by rw[fP]; exact hlt)>1
  ·rw[if_pos (by rw[ht]; simp[c])] at e3
   simp only[go_sem,γ,c,auZ]
   refine⟨159,[.ptr o.o5 1 0 0],rfl,?_⟩
   refine wS (vs:=[.int .i64 3,.int .i64 k]) (L.bad o.o5 v 3 k) rfl (PH.aG PH.nil_le hR.h5) ?_
   have bJH:(1:Nat)*3≤16777216:=by decide
   simp only[go_sem,υ,δ,γ,η,ζ,bJH]
   refine lM (src:=[(⟨3,v,k⟩:fC).cells]) g19 g13 gd rfl (by unfold roomFor; rw[fI,bJX]; simp only[bKD,maxLen]; omega) fun v' H' k1 k2 k3 k4=>?_
   rw[jG,bKV,← e3] at k1
   simp only[go_sem,γ,PX,ws k]
   refine aC (k+1,v',H') ⟨hlt,hR.keep k4,k1,k2,k3⟩ (by simp only; omega) ?_ PH.le_refl
   exact Lq
  ·rw[if_neg (by rw[ht]; simp; omega)] at e3
   rw[← e3] at g19
   simp only[go_sem,γ,c,PX,ws k]
   refine aC (k+1,v',H0) ⟨hlt,hR,g19,g13,gd⟩ (by simp only; omega) ?_ PH.le_refl
   exact Lq
 ·have bHV:¬ (k:Int)<(f.bHN.length:Nat):=by omega
  have:k=f.bHN.length:=by omega
  subst this
  simp only[go_sem,bHV]
  exact hK v' _ _ (by unfold HZ; exact Lq) hR g19 g13 gd
theorem a9A {C:Ctx} (f:aE) (hV:VF f) (o:Obs) (v:Nat) (p:cJ) (A:List Bool) (D B:List Int) (i:Nat) (hi:i<f.bHR.length) (K:PF→PH→Prop) (F:PF) (H:PH)
  (hH:jZ H o v p A D B) (f3:F 3=some (.bHX f.cells)) (f7:F 7=some (.ptr o.o7 17 0 0)) (f22:F 22=some (.int .i64 i))
  (hK:∀ F':PF,F' 24=some (.int .i64 (dW f p i))→(∀ j,j<147→j≠24→F' j=F j)→K F' H):wpOps C PY K F H:=by
 obtain⟨l0,l4,-⟩:=hV.oO hi
 have h5:((lvl f i)<((5:Nat):Int)):=by omega
 unfold dW at hK
 simp only[go_sem,δ,γ,θ,PY,f3,f7,f22,eQ hi,yD hi,l0,h5,Nat.mul_one]
 have hc:lvl f i=0∨lvl f i=1∨lvl f i=2∨lvl f i=3∨lvl f i=4:=by omega
 have fin:∀ (F':PF),F' 24=some (.int .i64 (p.spread (lvl f i).toNat))→(∀ j,j<147→j≠24→F' j=F j)→K F' H:=hK
 have low:∀ (j:Nat),j<147→j≠147∧j≠148∧j≠149∧j≠150∧j≠151∧j≠152∧j≠153∧j≠154∧j≠155:=by omega
 rcases hc with h | h | h | h | h
 all_goals
  rw[h] at fin ⊢
  simp only[go_sem,ν,δ,γ,θ,hH.h7]
  refine fin _ rfl fun j hj hj2=>?_
  obtain⟨n1,n2,n3,n4,n5,n6,n7,n8,n9⟩:=low j hj
  simp only[go_sem,hj2,n1,n2,n3,n4,n5,n6,n7,n8,n9]
theorem bfS {C:Ctx} (L:DS C) (f:aE) (hV:VF f) (o:Obs) (v:Nat) (p:cJ) (A:List Bool) (D:List Int) (row:List Int) (l0:List fC) (hl0:l0.length≤100000000) (v19:PV) (K:cA) (F:PF) (H:PH)
  (hF:(ayZ f o v19 0).le F) (hH:jZ H o v p A D (dZ f row)) (h19:aX H 3 v19 (cO l0))
  (hK:∀ v' F' H',F' 19=some v'→aX H' 3 v' (cO (l0++bM 5 v f.bHR.length (kI f p row)))→K (.exit 8) F' H') :
  aB.wp C (.loop PS) K F H:=by
 have hs:=hV.small.bHR
 refine wp_loop (α:=Nat × PV × PH) (fun t=>ayZ f o t.2.1 t.1) (fun t=>t.2.2) (fun t=>t.1≤f.bHR.length∧jZ t.2.2 o v p A D (dZ f row)∧aX t.2.2 3 t.2.1 (cO (l0++bM 5 v t.1 (kI f p row)))) (fun t=>f.bHR.length-t.1) (0,v19,H)
  ⟨bKA _,hH,by rw[show bM 5 v 0 (kI f p row)=[] from rfl,bLK]; exact h19⟩ hF PH.le_refl ?_
 rintro⟨k,v',H0⟩ ⟨hk,hR,g19⟩
 simp only at hk hR g19 ⊢
 simp only[go_sem,γ,PS,avC,ayZ]
 by_cases hlt:k<f.bHR.length
 ·have bHV:(k:Int)<(f.bHR.length:Nat):=by omega
  have hat:=tF (l:=dZ f row) (i:=k) (by rw[uL]; exact hlt)
  have hgk:(dZ f row).getD k 0=(dZ f row)[k]'(by rw[uL]; exact hlt):=by
   rw[bKK,bKG (by rw[uL]; exact hlt)]; rfl
  have e5:=fZ 5 v k (kI f p row)
  have hl5:=dD 5 v k (kI f p row)
  have ht:kI f p row k=(decide (dW f p k>0)&&decide ((dZ f row)[k]'(by rw[uL]; exact hlt)>dW f p k)):=by rw[kI,hgk]
  generalize (dZ f row)[k]'(by rw[uL]; exact hlt)=cnt at *
  simp only[go_sem,γ,bHV,avD,bKS,hR.hB,hat]
  refine a9A f hV o v p A D (dZ f row) k hlt _ _ _ hR rfl rfl rfl fun F' h24 hlow=>?_
  have g:=fun (q:Nat) (h1:q<147) (h2:q≠24)=>hlow q h1 h2
  have q3:=g 3 (by decide) (by decide)
  have q5:=g 5 (by decide) (by decide)
  have q7:=g 7 (by decide) (by decide)
  have q11:=g 11 (by decide) (by decide)
  have q19:=g 19 (by decide) (by decide)
  have bnO:=g 140 (by decide) (by decide)
  have bnP:=g 141 (by decide) (by decide)
  have amG:=g 142 (by decide) (by decide)
  have q22:=g 22 (by decide) (by decide)
  have q23:=g 23 (by decide) (by decide)
  simp only[go_sem,Nat.reduceEqDiff,reduceIte] at q3 q5 q7 q11 q19 bnO bnP amG q22 q23
  by_cases c1:dW f p k>0
  ·by_cases c2:cnt>dW f p k
   ·rw[if_pos (by rw[ht]; simp[c1,c2])] at e5
    simp only[go_sem,γ,AH,h24,q23,c1,c2,avE,q19,q11,q22]
    refine⟨159,[.ptr o.o5 1 0 0],rfl,?_⟩
    refine wS (vs:=[.int .i64 5,.int .i64 k]) (L.bad o.o5 v 5 k) rfl (PH.aG PH.nil_le hR.h5) ?_
    have bJH:(1:Nat)*3≤16777216:=by decide
    simp only[go_sem,υ,δ,γ,η,ζ,bJH]
    refine lM (rows':=[]) (u:=.bHP) (src:=[(⟨5,v,k⟩:fC).cells]) g19 .nil (fun _ _ _ _ _ h=>by cases h) rfl (by unfold roomFor; rw[fI,bJX]; simp only[bKD,maxLen]; omega) fun v' H' k1 k2 k3 k4=>?_
    rw[jG,bKV,← e5] at k1
    simp only[go_sem,γ,AI,amG,ws k]
    refine aC (k+1,v',H') ⟨hlt,hR.keep k4,k1⟩ (by simp only; omega) ?_ PH.le_refl
    exact Lq
   ·rw[if_neg (by rw[ht]; simp; omega)] at e5
    rw[← e5] at g19
    simp only[go_sem,γ,AH,h24,q23,c1,c2,AI,amG,ws k]
    refine aC (k+1,v',H0) ⟨hlt,hR,g19⟩ (by simp only; omega) ?_ PH.le_refl
    exact Lq
  ·rw[if_neg (by rw[ht]; simp; omega)] at e5
   rw[← e5] at g19
   simp only[go_sem,γ,reduceCtorEq,AH,h24,q23,c1,AI,amG,ws k]
   refine aC (k+1,v',H0) ⟨hlt,hR,g19⟩ (by simp only; omega) ?_ PH.le_refl
   exact Lq
 ·have bHV:¬ (k:Int)<(f.bHR.length:Nat):=by omega
  have:k=f.bHR.length:=by omega
  subst this
  simp only[go_sem,bHV]
  exact hK v' _ _ rfl g19
theorem aAU (n:Nat):bJY n [PV.bool false]=eP (marks n []):=by rw[apF]; simp[eP]
theorem baW (n:Nat):bJY n [PV.int .i64 0]=cZ (dS n []):=by rw[VR,pV]
theorem biW (f:aE):bJY f.bHR.length [PV.int .i64 0]=cZ (dZ f []):=by
 have:dZ f []=bJY f.bHR.length 0:=by
  refine bMR (by simp[dZ]) fun i h1 h2=>?_
  simp[dZ,nA]
 rw[this,pV]
def a8Y (f:aE) (l:List (List Int)) (o5 o7 o8:Nat) (ms:List Int) (k:Nat):PF :=
 ((((((((PF.nil.set 1 (lay l)).set 3 (.bHX f.cells)).set 5 (.ptr o5 1 0 0)).set 7 (.ptr o7 17 0 0)).set 8 (.osl o8 1 0 f.bHO.length)).set 40 (ints ms)).set 41 (.int .i64 (ms.length:Nat))).set 42 (.int .i64 k))
theorem boU {C:Ctx} (L:DS C) (f:aE) (hV:VF f) (bJE:∀ p∈f.bHS,Fits p.bHO) (l:List (List Int)) (v:Nat) (hv:v<l.length) (hvf:v<f.bHQ.length) (hr:tR f l[v]) :
  IZ.wp C (aR a9R.res (bQ (mB (sP f (fR f v) v l[v])))) (PF.args [.agg f.cells,lay l,.int .i64 v]) .nil:=by
 obtain⟨hp,he⟩:=yI hV hvf
 have hpol:=hV.bID _ (bJZ hp)
 have hms:=bJE _ (bJZ hp)
 rw[he] at hpol hms
 generalize hpe:fR f v=p at *
 have hpm:=hpol.2.2.2.2.2.2.2
 have bIC:(l.map fun r=>[ints r])[v]?=some [ints l[v]]:=by simp[hv]
 generalize l[v]=row at *
 have hs:=hV.small
 have hb1:((f.bHO.length:Nat):Int)*((1:Nat):Int)≤140737488355328:=by have:=hs.bHO; omega
 have hb2:((f.bHO.length:Nat):Int)≤9223372036854775807:=by have:=hs.bHO; omega
 have hb3:((f.bHN.length:Nat):Int)*((8:Nat):Int)≤140737488355328:=by have:=hs.bHN; omega
 have hb4:((f.bHN.length:Nat):Int)≤9223372036854775807:=by have:=hs.bHN; omega
 have hb5:((f.bHR.length:Nat):Int)*((8:Nat):Int)≤140737488355328:=by have:=hs.bHR; omega
 have hb6:((f.bHR.length:Nat):Int)≤9223372036854775807:=by have:=hs.bHR; omega
 simp only[go_sem,γ,IZ,aMX]
 refine aO fun o5 h5=>?_
 simp only[go_sem]
 refine bL (PH.nil.set o5 (.rows 1 [[.int .i64 v]])) dJ (PH.aG PH.nil_le Sq) ?_
 simp only[go_sem,δ,γ,θ,reduceCtorEq,aMY,wQ hvf,hV.aeF hvf,pX hp,he]
 refine aO fun o7 h7=>?_
 have n57:o5≠o7:=by rintro rfl; simp only[bA,if_true] at h7; cases h7
 simp only[go_sem,δ,γ,n57]
 refine⟨PH.aG PH.nil_le (by simp only[go_sem,n57]),?_⟩
 simp only[go_sem,δ,γ,θ,aMZ,bJT,hb1,hb2]
 refine aO fun o8 h8=>?_
 have n58:o5≠o8:=by rintro rfl; simp only[bA,n57,if_true,if_false] at h8; cases h8
 have n78:o7≠o8:=by rintro rfl; simp only[bA,if_true] at h8; cases h8
 simp only[go_sem,δ,γ,θ,aNA,n78,bJT]
 rw[aAU]
 refine wp_loop (α:=Nat) (fun k=>a8Y f l o5 o7 o8 p.bHO k) (fun k=>((PH.nil.set o5 (.rows 1 [[.int .i64 v]])).set o7 (.rows 17 [p.cells])).set o8 (.rows 1 (eP (marks f.bHO.length (p.bHO.take k))))) (fun k=>k≤p.bHO.length) (fun k=>p.bHO.length-k) 0 (bKA _) ?_ ?_ ?_
 ·unfold a8Y
  (repeat' (first|exact PF.nil_le|refine PF.aG ?_ ?_))<;>first|(simp only[go_sem,γ,bJT]<;>rfl)|rfl
 ·refine PH.aG (PH.aG (PH.aG PH.nil_le ?_) ?_) ?_
  ·simp only[go_sem,n57,n58]
  ·simp only[go_sem,n78]
  ·simp only[go_sem,List.take_zero]
 intro k hk
 simp only[go_sem,γ,aMW,aNB,a8Y]
 by_cases hlt:k<p.bHO.length
 ·have bHV:(k:Int)<(p.bHO.length:Nat):=by omega
  have hmk:(p.bHO.map fun n=>[PV.int .i64 n])[k]?=some [.int .i64 p.bHO[k]]:=by simp[hlt]
  obtain⟨m1,m2⟩:=hpm _ (bJZ hlt)
  have hbl:(p.bHO[k]).toNat<(eP (marks f.bHO.length (p.bHO.take k))).length:=by rw[anD,bdY]; omega
  have hbs:(eP (marks f.bHO.length (p.bHO.take k)))[(p.bHO[k]).toNat]?=some [.bool ((p.bHO.take k).contains p.bHO[k])]:=by
   unfold eP
   rw[bLC,XA m1 m2]; rfl
  simp only[go_sem,γ,bHV,aNC,hmk,aND,m1,m2,bKS,hbs,kO,apH m1 m2,aNE,ws k]
  refine aC (k+1) hlt Om ?_ ?_
  ·exact Lq
  ·rw[bLY hlt]
   refine PH.aG (PH.aG (PH.aG PH.nil_le ?_) ?_) ?_
   ·simp only[go_sem,n57,n58]
   ·simp only[go_sem,n78]
   ·simp only[go_sem]
 ·have bHV:¬ (k:Int)<(p.bHO.length:Nat):=by omega
  have:k=p.bHO.length:=by omega
  subst this
  simp only[go_sem,γ,bHV,aNF,auM,bKU]
  refine bL .nil dJ PH.nil_le ?_
  simp only[go_sem,δ,γ,θ,auN,bJT,hb3,hb4,hb5,hb6]
  refine aO fun oD hD=>?_
  have n5D:o5≠oD:=by rintro rfl; simp only[bA,n57,n58,if_true,if_false] at hD; cases hD
  have n7D:o7≠oD:=by rintro rfl; simp only[bA,n78,if_true,if_false] at hD; cases hD
  have n8D:o8≠oD:=by rintro rfl; simp only[bA,if_true] at hD; cases hD
  simp only[go_sem,δ,γ,θ,bJT,hb3,hb4,hb5,hb6]
  refine aO fun oB hB=>?_
  have n5B:o5≠oB:=by rintro rfl; simp only[bA,n57,n58,n5D,if_true,if_false] at hB; cases hB
  have n7B:o7≠oB:=by rintro rfl; simp only[bA,n78,n7D,if_true,if_false] at hB; cases hB
  have n8B:o8≠oB:=by rintro rfl; simp only[bA,n8D,if_true,if_false] at hB; cases hB
  have nDB:oD≠oB:=by rintro rfl; simp only[bA,if_true] at hB; cases hB
  rw[baW,biW]
  simp only[go_sem,γ,auO,n57,n58,n5D,n5B,bIC,bJT]
  have hne:(⟨o5,o7,o8,oD,oB⟩:Obs).Ne:=⟨n5D,n5B,n7D,n7B,n8D,n8B,nDB⟩
  refine bnU L f hV ⟨o5,o7,o8,oD,oB⟩ hne v p hpm row hr _ _ _ ?_ ⟨?_,?_,?_,?_,?_⟩ ?_
  ·unfold kM
   exact Lq
  ·simp only[go_sem,n57,n58,n5D,n5B]
  ·simp only[go_sem,n78,n7D,n7B]
  ·simp only[go_sem,n8D,n8B]
  ·simp only[go_sem,nDB]
  ·simp only[go_sem]
  intro v12 v13 F1 H1 hF1 hR1 g12 g13 gd
  have g:=fun (q:Nat) u h=>hF1 q u h
  unfold kM at g
  have q3:=g 3 _ rfl
  have q5:=g 5 _ rfl
  have q7:=g 7 _ rfl
  have q11:=g 11 _ rfl
  have q12:=g 12 _ rfl
  have q13:=g 13 _ rfl
  have q14:=g 14 _ rfl
  have q15:=g 15 _ rfl
  simp only[go_sem,γ,auU,q12,auV,q14]
  have l2:=dD 2 v row.length (home row)
  have l3:=dD 3 v f.bHN.length (jM f row)
  have l4:=dD 4 v row.length (cS f p row)
  have hr1:=hr.len
  have hd24:=hs.bHN
  refine bfT L f hV ⟨o5,o7,o8,oD,oB⟩ v p _ _ row (bM 2 v row.length (home row)) Om v13 v12 _ _ _ H1 ?_ hR1 g12 g13 gd ?_
  ·unfold HZ
   exact Lq
  intro v19 F2 H2 hF2 hR2 g19 g13' gd2
  have g:=fun (q:Nat) u h=>hF2 q u h
  unfold HZ at g
  have q3:=g 3 _ rfl
  have q5:=g 5 _ rfl
  have q7:=g 7 _ rfl
  have q11:=g 11 _ rfl
  have q13:=g 13 _ rfl
  have q15:=g 15 _ rfl
  have q19:=g 19 _ rfl
  simp only[go_sem,γ,avA,q19,q13]
  refine lM g19 g13' gd2 g13'.view (by unfold roomFor; rw[fI,fI,bJX]; simp only[maxLen]; omega) fun v19' H3 k1 k2 k3 k4=>?_
  simp only[go_sem,γ,avB,q15]
  have hvr:cO (bM 2 v row.length (home row)++bM 3 v f.bHN.length (jM f row))++cO (bM 4 v row.length (cS f p row))=cO (bM 2 v row.length (home row)++bM 3 v f.bHN.length (jM f row)++bM 4 v row.length (cS f p row)):=by
   simp only[cO,bLT]
  rw[hvr] at k1
  refine bfS L f hV ⟨o5,o7,o8,oD,oB⟩ v p _ _ row _ (by simp only[bJX]; omega) v19' _ _ H3 ?_ (hR2.keep k4) k1 ?_
  ·unfold ayZ
   exact Lq
  intro v20 F4 H4 hF4 hO4
  simp only[go_sem,avF,hF4]
  exact kL (.inr rfl) hO4 rfl
structure aAI (C:Ctx):Prop extends DS C where
 row:∀ (f:aE) (l:List (List Int)) (v:Nat),VF f→(∀ p∈f.bHS,Fits p.bHO)→(h:v<l.length)→v<f.bHQ.length→tR f l[v]→aI C 158 [.agg f.cells,lay l,.int .i64 v] .nil (aD (mB (sP f (fR f v) v l[v])))
def sG (f:aE) (l:List (List Int)) (v:Nat):List fC:=match jX f l v with
 | some x=>[x]
 | none=>sP f (fR f v) v (l.getD v [])
def nZ (f:aE) (l:List (List Int)) (n:Nat):List fC:=(bJU n).flatMap (sG f l)
def over (f:aE) (l:List (List Int)) (room:List Int) (d:Nat):Bool:=decide ((fF f l).getD d 0>(fV f room).getD d 0)
def bqR (f:aE) (l:List (List Int)) (room:List Int):List fC:=nZ f l l.length++bM 6 (-1) f.bHN.length (over f l room)
def jN (f:aE) (l:List (List Int)) (room:List Int):List fC :=
 if cV f then (if l.length=f.bHQ.length then bqR f l room else [⟨1,-1,(l.length:Nat)⟩]) else []
theorem vG {p:Int→Bool}:∀ {l:List Int} {i:Nat},eH p l i=none→∀ x∈l,p x=false
 | [],_,_,x,hx=>absurd hx (bKR)
 | y::t,i,h,x,hx=>by
  rw[eH] at h
  split at h
  ·cases h
  ·rename_i hy
   rcases bKI.1 hx with rfl | hx
   ·simpa using hy
   ·exact vG h x hx
theorem arS {f:aE} {l:List (List Int)} (hl:eY l) {v:Nat} (hv:v<l.length) (h:jX f l v=none):tR f l[v]:=by
 have hg:l.getD v []=l[v]:=by simp[bKK,hv]
 unfold jX at h
 rw[hg] at h
 split at h
 ·rw[Option.map_eq_none_iff] at h
  refine⟨?_,fun x hx=>?_⟩
  ·have h1:=sY l (v+1)
   have:=hl.all
   rw[mV l hv,bJX] at h1
   omega
  ·have:=vG h x hx
   simp[iU] at this
   omega
 ·cases h
theorem baI (f:aE) (p:cJ) (v:Nat) (row:List Int):(sP f p v row).length≤2*row.length+f.bHN.length+f.bHR.length:=by
 unfold sP
 have l2:=dD 2 v row.length (home row)
 have l3:=dD 3 v f.bHN.length (jM f row)
 have l4:=dD 4 v row.length (cS f p row)
 have l5:=dD 5 v f.bHR.length (kI f p row)
 simp only[bJX]
 omega
theorem YI {f:aE} (hs:Small f) {l:List (List Int)} (hl:eY l) {v:Nat} (hv:v<l.length):(sG f l v).length≤100000000:=by
 unfold sG
 split
 ·simp
 ·rename_i h
  have hg:l.getD v []=l[v]:=by simp[bKK,hv]
  have:=baI f (fR f v) v (l.getD v [])
  have h1:=(arS hl hv h).len
  have:=hs.bHN
  have:=hs.bHR
  rw[hg] at *
  omega
theorem FF (f:aE) (l:List (List Int)) (n:Nat):nZ f l (n+1)=nZ f l n++sG f l n:=by
 unfold nZ
 rw[List.range_succ,List.flatMap_append]
 simp
theorem qV {f:aE} (hs:Small f) {l:List (List Int)} (hl:eY l):∀ {n:Nat},n≤l.length→(nZ f l n).length≤n*100000000
 | 0,_=>by simp[nZ]
 | n+1,h=>by
  rw[FF,bJX]
  have:=qV hs hl (n:=n) Om
  have:=YI hs hl (v:=n) Om
  omega
def viF (f:aE) (l:List (List Int)) (room:List Int) (v7:PV) (k:Nat):PF:=((((((PF.nil.set 1 (lay l)).set 2 (ints room)).set 3 (.bHX f.cells)).set 7 (v7)).set 30 (.int .i64 (l.length:Nat))).set 31 (.int .i64 k))
def viG (f:aE) (l:List (List Int)) (room:List Int) (v7:PV) (k:Nat):PF:=(((((PF.nil.set 7 (v7)).set 11 (ints (fV f room))).set 58 (ints (fF f l))).set 59 (.int .i64 (f.bHN.length:Nat))).set 60 (.int .i64 k))
theorem biK {C:Ctx} (f:aE) (hV:VF f) (l:List (List Int)) (room:List Int) (l0:List fC) (hl0:l0.length≤2000000000) (v7:PV) (K:cA) (F:PF) (H:PH)
  (hF:(viG f l room v7 0).le F) (hO:aX H 3 v7 (cO l0))
  (hK:∀ v' F' H',F' 7=some v'→aX H' 3 v' (cO (l0++bM 6 (-1) f.bHN.length (over f l room)))→K (.exit 3) F' H'):aB.wp C (.loop PN) K F H:=by
 have hs:=hV.small.bHN
 refine wp_loop (α:=Nat × PV × PH) (fun t=>viG f l room t.2.1 t.1) (fun t=>t.2.2) (fun t=>t.1≤f.bHN.length∧aX t.2.2 3 t.2.1 (cO (l0++bM 6 (-1) t.1 (over f l room)))) (fun t=>f.bHN.length-t.1) (0,v7,H)
  ⟨bKA _,by rw[show bM 6 (-1) 0 (over f l room)=[] from rfl,bLK]; exact hO⟩ hF PH.le_refl ?_
 rintro⟨k,v',H0⟩ ⟨hk,g7⟩
 simp only at hk g7 ⊢
 simp only[go_sem,ο,γ,PN,auF,viG]
 by_cases hlt:k<f.bHN.length
 ·have bHV:(k:Int)<(f.bHN.length:Nat):=by omega
  have hk1:k<(fF f l).length:=by rw[fF,fP]; exact hlt
  have hk2:k<(fV f room).length:=by rw[oT]; exact hlt
  have a1:((fF f l).map fun n=>[PV.int .i64 n])[k]?=some [.int .i64 (fF f l)[k]]:=by simp[hk1]
  have a2:((fV f room).map fun n=>[PV.int .i64 n])[k]?=some [.int .i64 (fV f room)[k]]:=by simp[hk2]
  have ho:over f l room k=decide ((fF f l)[k]>(fV f room)[k]):=by simp only[over,bKK,bKG hk1,bKG hk2,bLX]
  have e6:=fZ 6 (-1) k (over f l room)
  have l6:=dD 6 (-1) k (over f l room)
  simp only[go_sem,ο,γ,bHV,auG,a1,auH,a2]
  by_cases c:(fF f l)[k]>(fV f room)[k]
  ·rw[if_pos (by rw[ho]; simp[c])] at e6
   have bJH:(1:Nat)*3≤16777216:=by decide
   simp only[go_sem,ο,υ,δ,γ,η,θ,ζ,c,auI,bJH]
   refine lM (rows':=[]) (u:=.bHP) (src:=[(⟨6,-1,k⟩:fC).cells]) g7 .nil (fun _ _ _ _ _ h=>by cases h) rfl (by unfold roomFor; rw[fI,bJX]; simp only[bKD,maxLen]; omega) fun v' H' k1 k2 k3 k4=>?_
   rw[jG,bKV,← e6] at k1
   simp only[go_sem,ο,γ,PQ,ws k]
   refine aC (k+1,v',H') ⟨hlt,k1⟩ (by simp only; omega) ?_ PH.le_refl
   exact Lq
  ·rw[if_neg (by rw[ho]; simp; omega)] at e6
   rw[← e6] at g7
   simp only[go_sem,ο,γ,c,PQ,ws k]
   refine aC (k+1,v',H0) ⟨hlt,g7⟩ (by simp only; omega) ?_ PH.le_refl
   exact Lq
 ·have bHV:¬ (k:Int)<(f.bHN.length:Nat):=by omega
  have:k=f.bHN.length:=by omega
  subst this
  simp only[go_sem,ο,bHV]
  exact hK v' _ _ rfl g7
theorem boS {C:Ctx} (L:aAI C) (f:aE) (hf:f.Ok) (l:List (List Int)) (hl:eY l) (room:List Int) :
  IY.wp C (aR azF.res (bQ (mB (jN f l room)))) (PF.args [.agg f.cells,lay l,ints room]) .nil:=by
 simp only[go_sem,δ,γ,IY,aMN,aMO,azF]
 refine aA (L.valid f hf) rfl ?_
 unfold jN
 have hlr:=hl.rows
 have bJE:∀ p∈f.bHS,Fits p.bHO:=fun p hp=>(hf.bID p hp).bHO
 cases hv:cV f with
 | false =>
  simp only[go_sem,ο,γ,reduceCtorEq,bKF,aMP]
  exact kL (rows:=[]) (.inr rfl) .nil rfl
 | true =>
  have hV:=VF.of hv
  by_cases c:l.length=f.bHQ.length
  ·have c':(((l.length:Nat):Int) != ((f.bHQ.length:Nat):Int))=false:=bY Om
   rw[if_pos c]
   have hv12:=hV.small.bHQ
   simp only[go_sem,γ,bJW,ZK,bJT,c',aMR,aMS]
   refine wp_loop (α:=Nat × PV × PH) (fun t=>viF f l room t.2.1 t.1) (fun t=>t.2.2) (fun t=>t.1≤l.length∧aX t.2.2 3 t.2.1 (cO (nZ f l t.1))) (fun t=>l.length-t.1) (0,.bHP,.nil) ⟨bKA _,.nil⟩ ?_ PH.nil_le ?_
   ·unfold viF
    (repeat' (first|exact PF.nil_le|refine PF.aG ?_ ?_))<;>first|(simp only[go_sem,γ,bJT]<;>rfl)|rfl
   rintro⟨k,v7,H0⟩ ⟨hk,hO⟩
   simp only at hk hO ⊢
   simp only[go_sem,γ,auA,aMT,viF]
   by_cases hlt:k<l.length
   ·have bHV:(k:Int)<(l.length:Nat):=by omega
    have hfl:=qV hV.small hl (n:=k) Om
    have bIL:=FF f l k
    simp only[go_sem,δ,γ,bHV,aMU,aMV]
    refine aA (L.shape f l k hV hl hlt Om) rfl ?_
    cases hsh:jX f l k with
    | some x =>
     have bJH:sG f l k=[x]:=by rw[sG,hsh]
     rw[bJH] at bIL
     simp only[go_sem,δ,γ,shV]
     refine aO fun o ho=>?_
     have h13:(1:Nat)*3≤16777216:=by decide
     simp only[go_sem,υ,δ,γ,η,ζ,PO,auB,h13]
     refine lM (rows':=[]) (u:=.bHP) (src:=[x.cells]) (hO.fresh ho _).1 .nil (fun _ _ _ _ _ h=>by cases h) rfl (by unfold roomFor; rw[fI]; simp only[bKD,maxLen]; omega) fun v' H' k1 k2 k3 k4=>?_
     rw[jG,← bIL] at k1
     simp only[go_sem,γ,PP,ws k]
     refine aC (k+1,v',H') ⟨hlt,k1⟩ (by simp only; omega) ?_ PH.le_refl
     exact Lq
    | none =>
     have hg:l.getD k []=l[k]:=by simp[bKK,hlt]
     have bJH:sG f l k=sP f (fR f k) k l[k]:=by rw[sG,hsh,hg]
     have bIC:=arS hl hlt hsh
     have hlen:=YI hV.small hl hlt
     rw[bJH] at bIL hlen
     simp only[go_sem,δ,γ,shV]
     refine aO fun o ho=>?_
     simp only[go_sem,δ,γ,PO,auC]
     refine aA (L.row f l k hV bJE hlt Om bIC) rfl ?_
     simp only[go_sem,γ]
     refine lM (rows':=[]) (u:=.bHP) (src:=cO (sP f (fR f k) k l[k])) (hO.fresh ho _).1 .nil (fun _ _ _ _ _ h=>by cases h) rfl (by unfold roomFor; rw[fI,fI]; simp only[maxLen]; omega) fun v' H' k1 k2 k3 k4=>?_
     have hvr:cO (nZ f l k)++cO (sP f (fR f k) k l[k])=cO (nZ f l (k+1)):=by rw[bIL]; simp only[cO,bLT]
     rw[hvr] at k1
     simp only[go_sem,γ,PP,ws k]
     refine aC (k+1,v',H') ⟨hlt,k1⟩ (by simp only; omega) ?_ PH.le_refl
     exact Lq
   ·have bHV:¬ (k:Int)<(l.length:Nat):=by omega
    have:k=l.length:=by omega
    subst this
    have hfl:=qV hV.small hl (n:=l.length) (bKB _)
    have bIV:=L.room f room hf
    rw[mG,hv] at bIV
    have hloads:=L.loads f l hV.small.bHN hl
    simp only[go_sem,δ,γ,bHV,auD]
    refine aA bIV rfl ?_
    simp only[go_sem,δ,γ,auE]
    refine aA hloads rfl ?_
    have hll:(fF f l).length=f.bHN.length:=by rw[fF,fP]
    simp only[go_sem,γ,bJT,hll]
    refine biK f hV l room (nZ f l l.length) Om v7 _ _ H0 ?_ hO ?_
    ·unfold viG
     exact Lq
    intro v' F' H' h7 hO'
    simp only[go_sem,auJ,h7]
    exact kL (.inr rfl) hO' rfl
  ·have c':(((l.length:Nat):Int) != ((f.bHQ.length:Nat):Int))=true:=cT Om
   have h13:(1:Nat)*3≤16777216:=by decide
   rw[if_neg c]
   simp only[go_sem,ο,υ,δ,γ,η,θ,ζ,bJW,ZK,bJT,c',aMQ,h13]
   exact aV (.inr rfl) .nil rfl PH.nil_le ⟨.refl _,rfl⟩
structure bqJ (C:Ctx):Prop extends aAI C where
 viol:∀ (f:aE) (l:List (List Int)) (room:List Int),f.Ok→eY l→aI C 154 [.agg f.cells,lay l,ints room] .nil (aD (mB (jN f l room)))
def oM (f:aE) (l:List (List Int)) (room:List Int):Bool:=cV f&&decide ((jN f l room).length=0)
theorem bhB {C:Ctx} (L:bqJ C) (f:aE) (hf:f.Ok) (l:List (List Int)) (hl:eY l) (room:List Int) :
  CJ.wp C (aR agI.res (bQ (.bool (oM f l room)))) (PF.args [.agg f.cells,lay l,ints room]) .nil:=by
 simp only[go_sem,δ,γ,CJ,atE,atF,agI]
 refine aA (L.valid f hf) rfl ?_
 unfold oM
 cases hv:cV f with
 | false =>
  simp only[go_sem,γ,reduceCtorEq]
  exact aY rfl rfl
 | true =>
  simp only[go_sem,δ,γ]
  refine aA (L.viol f l room hf hl) rfl ?_
  by_cases c:(jN f l room).length=0
  ·simp only[go_sem,γ,bJT,bP (show (((jN f l room).length:Nat):Int)=0 by omega)]
   exact aY rfl (by simp[c])
  ·simp only[go_sem,γ,bJT,bF (show (((jN f l room).length:Nat):Int)≠0 by omega)]
   exact aY rfl (by rw[decide_eq_false c])
def aWZ:Rg:=[iA 2 (.mv (.const (.lit (.pointer none))))]
def aXA:Rg:=[iM 3 0,iN 4 3,iC 5 .gtr 4 400]
def aXB:Rg:=[iM 6 0,iA 7 (.slice 1 (Tm 6) none (some (Ci 400)) none),iM 0 7]
def alJ:Rg:=[iM 8 0,iA 9 (.append 1 1 (.const .bHP) (Tm 8)),iA 10 (.build [.bHP,(.int .i64 0)] [(0,1,(Tm 9))]),iA 11 (.box false (Tm 10)),iM 2 11]
def NG:aB:=(sq aWZ (.seq (sq aXA (.cond (Tm 5) (.region aXB) .skip)) (sq alJ .ret)))
def btJ:List Nat:=[]
def a7Q:aS:=⟨1,12,NG,[.tmp 2]⟩
def XP:Rg:=[iI 4 0]
def HE:Rd:=[(iM 5 0,false),(iA 6 (.bIE (Tm 5)),false),(iF 7 1 6,false),(iL 8 7,false),(iM 9 0,false),(iA 10 (.bIE (Tm 9)),false),(iF 11 0 10,false),(iL 12 11,false),(iN 13 12,false),(iB 14 .geq 8 13,false),(iM 15 14,false),(gM 16 1 15 false,false),(gC 17 .lss 16 2 15 false,false),(iQ 18 15 17,false)]
def XQ:Rg:=[iI 4 0]
def aHG:Rg:=[iM 19 0,iA 20 (.bIE (Tm 19)),iF 21 1 20,iL 22 21,iC 23 .add 22 1,iA 24 (.bIE (Tm 19)),iF 25 1 24,iS 1 25 23]
def aHH:Rd:=[(iM 26 0,false),(iA 27 (.bIE (Tm 26)),false),(iF 28 0 27,false),(iL 29 28,false),(iM 30 0,false),(iA 31 (.bIE (Tm 30)),false),(iF 32 1 31,false),(iL 33 32,false),(iC 34 .sub 33 1,false),(iX 35 1 29 34,false),(iL 36 35,false),(iA 37 (.conv .i64 (Tm 36)),false),(iM 38 1,false),(iB 39 .rem 37 38,false),(iM 4 39,false)]
def wE:aB:=(sq XP (.seq (dq HE (.cond (Tm 18) (sq XQ .ret) .skip)) (sq aHG (dq aHH .ret))))
def bmN:List Nat:=[]
def adM:aS:=⟨2,40,wE,[.tmp 4]⟩
def aGL:Rg:=[iA 2 (.alloc [(.bool false),.bHP,.bHP])]
def aGM:Rg:=[iM 6 0,iA 7 (.call 4 [(Tm 6),(Ci 6)]),iA 8 (.bin .add (Ci 1) (Tm 7)),iM 9 0,iA 10 (.call 4 [(Tm 9),(Ci 8)]),iA 11 (.bin .add (Ci 1) (Tm 10)),iK2 12 50 8 11,iM 5 12,iE 13 5 0,iE 14 5 1,iA 3 (.alloc [(.bool false),.bHP,.bHP]),iS 3 3 13,iM 4 14]
def aGN:Rg:=[iO 15 3 3,iS 3 2 15]
def GZ:aB:=(sq aGL (sq aGM (sq aGN .ret)))
def bmH:List Nat:=[]
def ayU:aS:=⟨1,16,GZ,[.cell 2 (some 3)]⟩
def aWS:Rg:=[iA 4 (.alloc [(.str []),.bHP,.bHP,.bHP])]
def aWT:Rg:=[iM 16 0,iM 17 1,iK2 18 4 16 17,iA 19 (.bin .add (Ci 1) (Tm 18)),iM 5 19]
def aWU:Rg:=[iA 6 (.alloc [(.str []),.bHP,.bHP,.bHP])]
def aWV:Rg:=[iI 7 8]
def aWW:Rg:=[iI 8 0]
def aWX:Rg:=[iM 20 8,iM 21 5,iB 22 .lss 20 21]
def alG:Rg:=[iM 25 7,iM 9 25]
def alH:Rg:=[iM 26 8,iC 27 .add 26 1,iM 28 5,iB 29 .lss 27 28]
def alI:Rg:=[iM 30 0,iM 31 7,iC 32 .add 31 1,iK2 33 4 30 32,iM 9 33]
def RT:Rg:=[iM 34 7,iM 35 9,iB 36 .sub 34 35,iM 7 36]
def XE:Rg:=[iM 38 9,iA 39 (.call 50 [(Tm 38),(Ci 8)]),iM 37 39,iE 40 37 0,iE 41 37 1,iA 10 (.alloc [(.bool false),.bHP,.bHP]),iS 3 10 40,iM 11 41]
def XF:Rg:=[iF 42 1 6,iL 43 42,iO 44 3 10,iA 45 (.bHU true 3 1 [(.bool false),.bHP,.bHP] [(0,(Tm 44))]),iA 46 (.append 3 56 (Tm 43) (Tm 45)),iF 47 1 6,iS 1 47 46]
def XG:Rg:=[iM 48 0,iK 49 1 48,iA 12 (.alloc [(.bool false),.bHP,.bHP]),iS 3 12 49]
def XH:Rg:=[iM 50 8,iC 51 .add 50 1,iM 52 5,iB 53 .lss 51 52,iM 54 53,gM 55 0 54 true,iG 56 (.call 4 [(Tm 55),(Ci 3)]) 54 true,gC 57 .eql 56 0 54 true,iP 58 54 57]
def XI:Rg:=[iA 59 (.call 47 [(Ci 0)]),iS 3 12 59]
def HC:Rg:=[iF 60 3 6,iL 61 60,iO 62 3 12,iA 63 (.bHU true 3 1 [(.bool false),.bHP,.bHP] [(0,(Tm 62))]),iA 64 (.append 3 56 (Tm 61) (Tm 63)),iF 65 3 6,iS 1 65 64]
def XJ:Rg:=[iZ 13]
def XK:Rg:=[iI 14 0]
def aGY:Rg:=[iM 66 14,iM 67 5,iB 68 .lss 66 67]
def aGZ:Rg:=[iA 71 (.call 47 [(Ci 0)]),iA 15 (.alloc [(.bool false),.bHP,.bHP]),iS 3 15 71]
def aHA:Rg:=[iM 72 14,iM 73 8,iC 74 .add 73 1,iB 75 .eql 72 74,iM 76 75,gM 77 14 76 false,gM 78 8 76 false,gB 79 .neq 77 78 76 false,gM 80 79 76 false,gM 81 0 80 true,iG 82 (.call 4 [(Tm 81),(Ci 3)]) 80 true,gC 83 .eql 82 0 80 true,iG 84 (.pick (Tm 80) (Tm 83) (.const (.bool false))) 76 false,iQ 85 76 84]
def XL:Rg:=[iM 86 0,iK 87 1 86,iS 3 15 87]
def XM:Rg:=[iM 88 13,iO 89 3 15,iA 90 (.bHU true 3 1 [(.bool false),.bHP,.bHP] [(0,(Tm 89))]),iA 91 (.append 3 56 (Tm 88) (Tm 90)),iM 13 91]
def XN:Rg:=[iM 69 14,iC 70 .add 69 1,iM 14 70]
def HB:aB:=(.seq (sq aGY (.cond (Tm 68) .skip (.exit 2))) (.seq (.block 3 (sq aGZ (.seq (sq aHA (.cond (Tm 85) (.region XL) .skip)) (.region XM)))) (.region XN)))
def XO:Rg:=[iF 92 2 6,iL 93 92,iM 94 13,iA 95 (.bHU true 1 1 [.bHP] [(0,(Tm 94))]),iA 96 (.append 1 24 (Tm 93) (Tm 95)),iF 97 2 6,iS 1 97 96]
def aHB:Rg:=[iM 23 8,iC 24 .add 23 1,iM 8 24]
def aGX:aB:=(.seq (sq aWX (.cond (Tm 22) .skip (.exit 0))) (.seq (.block 1 (sq alG (.seq (sq alH (.cond (Tm 29) (.region alI) .skip)) (sq RT (sq XE (sq XF (sq XG (.seq (sq XH (.cond (Tm 58) (.region XI) .skip)) (sq HC (sq XJ (.seq (sq XK (.block 2 (.loop HB))) (.region XO)))))))))))) (.region aHB)))
def aHC:Rg:=[iO 98 4 6,iS 4 4 98]
def NF:aB:=(sq aWS (sq aWT (sq aWU (sq aWV (.seq (sq aWW (.block 0 (.loop aGX))) (sq aHC .ret))))))
def btH:List Nat:=[45,63,90,95]
def a7C:aS:=⟨2,99,NF,[.cell 4 (some 4)]⟩
def aXD:Rg:=[iZ 4]
def aXE:Rg:=[iZ 5]
def aXF:Rg:=[iI 6 0]
def aXG:Rg:=[iM 7 6,iM 8 1,iA 9 (.bIQ true (Tm 8) (Ci 1)),iB 10 .lss 7 9]
def aXH:Rg:=[iM 13 5,iM 14 0,iK 15 1 14,iA 16 (.bHU true 3 1 [(.bool false),.bHP,.bHP] [(0,(Tm 15))]),iA 17 (.append 3 56 (Tm 13) (Tm 16)),iM 5 17]
def aXI:Rg:=[iM 11 6,iC 12 .add 11 1,iM 6 12]
def aXC:aB:=(.seq (sq aXG (.cond (Tm 10) .skip (.exit 0))) (.seq (.block 1 (.region aXH)) (.region aXI)))
def aXJ:Rg:=[iM 18 5,iM 4 18]
def NH:aB:=(sq aXD (sq aXE (.seq (sq aXF (.block 0 (.loop aXC))) (sq aXJ .ret))))
def btL:List Nat:=[16]
def a7R:aS:=⟨2,19,NH,[.tmp 4]⟩
def aHE:Rg:=[iA 4 (.mv (.const (.str [])))]
def aHF:Rg:=[iM 5 0,iM 6 1,iK 7 195 6,iB 8 .add 5 7,iM 4 8]
def HD:aB:=(sq aHE (sq aHF .ret))
def bmL:List Nat:=[]
def ayV:aS:=⟨2,9,HD,[.tmp 4]⟩
def aGQ:Rg:=[iM 12 1,iA 13 (.bIE (Tm 12)),iF 14 3 13,iL 15 14,iM 16 2,iX 17 7 15 16,iF 18 1 17,iL 19 18,iC 20 .add 19 1,iM 8 20]
def aGR:Rg:=[iM 21 0,iA 22 (.call 4 [(Tm 21),(Ci 2)]),iA 23 (.bin .add (Ci 1) (Tm 22)),iM 9 23]
def aGS:Rg:=[iM 24 8,iC 25 .eql 24 2]
def aGT:Rg:=[iI 9 1]
def HA:Rg:=[iI 10 0]
def XB:Rg:=[iM 26 10,iM 27 9,iB 28 .lss 26 27]
def XC:Rg:=[iM 31 8,iC 32 .eql 31 5]
def aGU:Rg:=[iM 33 1,iA 34 (.bIE (Tm 33)),iF 35 4 34,iL 36 35,iN 37 36,iM 38 3,iB 39 .lss 37 38]
def aGV:Rd:=[(iM 40 1,true),(iM 41 1,true),(iA 42 (.bIE (Tm 41)),true),(iF 43 4 42,true),(iL 44 43,true),(iM 45 1,false),(iA 46 (.bIE (Tm 45)),false),(iF 47 4 46,false),(iL 48 47,false),(iN 49 48,false),(iA 50 (.call 29 [(.const (.str [100])),(Tm 49)]),true),(iM 51 0,true),(iM 52 1,true),(iA 53 (.bIE (Tm 52)),true),(iF 54 2 53,true),(iL 55 54,true),(iN 56 55,true),(iK2 57 4 51 56,true),(iM 58 2,true),(iA 59 (.build [(.str []),(.int .i64 0),(.int .i64 0)] [(0,1,(Tm 50)),(1,1,(Tm 57)),(2,1,(Tm 58))]),false),(iA 60 (.bHU true 3 1 [(.str []),(.int .i64 0),(.int .i64 0)] [(0,(Tm 59))]),false),(iA 61 (.append 3 32 (Tm 44) (Tm 60)),true),(iA 62 (.bIE (Tm 40)),false),(iF 63 4 62,false)]
def aGW:Rd:=[(iS 1 63 61,true)]
def apR:Rg:=[iM 64 1,iA 65 (.bIE (Tm 64)),iF 66 4 65,iL 67 66,iN 68 67,iM 69 3,iB 70 .geq 68 69,iM 71 70,gM 72 1 71 false,iG 73 (.bIE (Tm 72)) 71 false,gF 74 3 73 71 false,gL 75 74 71 false,gN 76 75 71 false,gC 77 .geq 76 35 71 false,iQ 78 71 77]
def apS:Rd:=[(iM 79 8,false),(iA 80 (.bIY (.const (.str [45,115,114,107,109])) (Tm 79)),false),(iA 81 (.bHU true 1 1 [(.int .u8 0)] [(0,(Tm 80))]),false),(iA 82 (.bIF (Tm 81)),false),(iM 83 1,false),(iA 84 (.bIE (Tm 83)),false),(iF 85 3 84,false),(iL 86 85,false),(iN 87 86,false),(iK2 88 29 82 87,true),(iM 89 8,true),(iM 90 2,true),(iM 91 0,true),(iA 92 (.call 4 [(Tm 91),(Ci 16)]),true),(iA 93 (.bin .add (Ci 1) (Tm 92)),true),(iA 94 (.call 47 [(Ci 0)]),true),(iA 95 (.build [(.str []),(.int .i64 0),(.int .i64 0),(.int .i64 0),(.bool false),.bHP,.bHP] [(0,1,(Tm 88)),(1,1,(Tm 89)),(2,1,(Tm 90)),(3,1,(Tm 93)),(4,3,(Tm 94))]),false),(iA 11 (.alloc [(.str []),(.int .i64 0),(.int .i64 0),(.int .i64 0),(.bool false),.bHP,.bHP]),true),(iS 7 11 95,true)]
def apT:Rg:=[iM 96 0,iA 97 (.call 4 [(Tm 96),(Ci 3)]),iC 98 .eql 97 0]
def apU:Rg:=[iM 100 0,iA 101 (.call 4 [(Tm 100),(Ci 6)]),iA 102 (.bin .add (Ci 2) (Tm 101)),iA 103 (.call 50 [(Ci 1),(Tm 102)]),iM 99 103,iE 104 99 0,iE 105 99 1,iF 106 4 11,iS 3 106 104]
def ND:Rd:=[(iM 107 1,true),(iM 108 1,false),(iA 109 (.bIE (Tm 108)),false),(iF 110 3 109,false),(iL 111 110,false),(iO 112 7 11,false),(iA 113 (.bHU true 7 1 [(.str []),(.int .i64 0),(.int .i64 0),(.int .i64 0),(.bool false),.bHP,.bHP] [(0,(Tm 112))]),false),(iA 114 (.append 7 96 (Tm 111) (Tm 113)),true),(iA 115 (.bIE (Tm 107)),false),(iF 116 3 115,false),(iS 1 116 114,true)]
def NE:Rg:=[iM 117 0,iM 118 1,iM 119 1,iA 120 (.bIE (Tm 119)),iF 121 3 120,iL 122 121,iN 123 122,iC 124 .sub 123 1,iM 125 3,iA 126 (.call 7 [(Tm 117),(Tm 118),(Tm 124),(Tm 125)])]
def uR:Rg:=[iM 29 10,iC 30 .add 29 1,iM 10 30]
def uQ:aB:=(.seq (sq XB (.cond (Tm 28) .skip (.exit 0))) (.seq (.block 1 (.seq (sq XC (.cond (Tm 32) (.seq (sq aGU (.cond (Tm 39) (dq aGV (.draw aGW)) .skip)) (.exit 1)) .skip)) (.seq (sq apR (.cond (Tm 78) .ret .skip)) (dq apS (.seq (sq apT (.cond (Tm 98) (.region apU) .skip)) (dq ND (.region NE))))))) (.region uR)))
def wD:aB:=(sq aGQ (sq aGR (.seq (sq aGS (.cond (Tm 25) (.region aGT) .skip)) (sq HA (.block 0 (.loop uQ))))))
def bmI:List Nat:=[60,81,113]
def adL:aS:=⟨4,127,wD,[]⟩
def apI:Rg:=[iA 6 (.alloc [(.int .i64 0),.bHP,.bHP,.bHP,.bHP,.bHP,.bHP])]
def apJ:Rg:=[iM 20 0,iA 21 (.call 4 [(Tm 20),(Ci 2)]),iA 22 (.bin .add (Ci 1) (Tm 21)),iA 23 (.build [(.int .i64 0),.bHP,.bHP,.bHP,.bHP,.bHP,.bHP] [(0,1,(Tm 22))]),iA 7 (.alloc [(.int .i64 0),.bHP,.bHP,.bHP,.bHP,.bHP,.bHP]),iS 7 7 23]
def apK:Rg:=[iM 24 0,iA 25 (.call 4 [(Tm 24),(Ci 2)]),iA 26 (.bin .add (Ci 1) (Tm 25)),iM 8 26]
def apL:Rg:=[iI 9 0]
def apM:Rg:=[iM 27 9,iM 28 8,iB 29 .lss 27 28]
def apN:Rg:=[iM 32 0,iA 33 (.call 2 [(Tm 32),(Ci 2)]),iA 10 (.alloc [(.str []),.bHP,.bHP,.bHP]),iS 4 10 33]
def apO:Rg:=[iM 34 9,iA 35 (.call 29 [(.const (.str [108,97,119])),(Tm 34)]),iF 36 0 10,iS 1 36 35]
def apP:Rg:=[iF 37 1 7,iL 38 37,iO 39 4 10,iA 40 (.bHU true 4 1 [(.str []),.bHP,.bHP,.bHP] [(0,(Tm 39))]),iA 41 (.append 4 88 (Tm 38) (Tm 40)),iF 42 1 7,iS 1 42 41]
def apQ:Rg:=[iM 30 9,iC 31 .add 30 1,iM 9 31]
def NC:aB:=(.seq (sq apM (.cond (Tm 29) .skip (.exit 0))) (.seq (.block 1 (sq apN (sq apO (.region apP)))) (.region apQ)))
def acP:Rg:=[iM 43 0,iA 44 (.call 4 [(Tm 43),(Ci 2)]),iA 45 (.bin .add (Ci 1) (Tm 44)),iM 11 45]
def acQ:Rg:=[iI 12 0]
def acR:Rg:=[iM 46 12,iM 47 11,iB 48 .lss 46 47]
def acS:Rd:=[(iF 51 2 7,true),(iL 52 51,true),(iM 53 12,false),(iA 54 (.call 29 [(.const (.str [109])),(Tm 53)]),true),(iM 55 0,true),(iA 56 (.call 4 [(Tm 55),(Ci 4)]),true),(iA 57 (.bin .add (Ci 1) (Tm 56)),true),(iM 58 0,true),(iA 59 (.call 4 [(Tm 58),(Ci 8)]),true),(iA 60 (.bin .add (Ci 1) (Tm 59)),true),(iM 61 0,true),(iF 62 1 7,true),(iL 63 62,true),(iN 64 63,true),(iK2 65 4 61 64,true),(iA 66 (.build [(.str []),(.int .i64 0),(.int .i64 0),(.int .i64 0)] [(0,1,(Tm 54)),(1,1,(Tm 57)),(2,1,(Tm 60)),(3,1,(Tm 65))]),false),(iA 67 (.bHU true 4 1 [(.str []),(.int .i64 0),(.int .i64 0),(.int .i64 0)] [(0,(Tm 66))]),false),(iA 68 (.append 4 40 (Tm 52) (Tm 67)),true),(iF 69 2 7,false)]
def acT:Rd:=[(iS 1 69 68,true)]
def acU:Rg:=[iM 49 12,iC 50 .add 49 1,iM 12 50]
def GN:aB:=(.seq (sq acR (.cond (Tm 48) .skip (.exit 2))) (.seq (.block 3 (dq acS (.draw acT))) (.region acU)))
def acV:Rg:=[iA 70 (.call 47 [(Ci 0)]),iA 71 (.build [(.str []),(.int .i64 0),(.int .i64 0),(.int .i64 0),(.bool false),.bHP,.bHP] [(2,1,(Ci (-1))),(4,3,(Tm 70))]),iA 72 (.bHU false 7 1 [(.str []),(.int .i64 0),(.int .i64 0),(.int .i64 0),(.bool false),.bHP,.bHP] [(0,(Tm 71))]),iF 73 3 7,iS 1 73 72]
def acW:Rg:=[iM 74 0,iM 75 1,iA 76 (.call 7 [(Tm 74),(Tm 7),(Ci 0),(Tm 75)])]
def acX:Rg:=[iM 77 0,iA 78 (.call 4 [(Tm 77),(Ci 2)]),iA 79 (.bin .add (Ci 1) (Tm 78)),iM 13 79]
def acY:Rg:=[iI 14 0]
def acZ:Rg:=[iM 80 14,iM 81 13,iB 82 .lss 80 81]
def GQ:Rg:=[iM 85 14,iA 86 (.call 29 [(.const (.str [112])),(Tm 85)]),iM 87 0,iA 88 (.call 4 [(Tm 87),(Ci 2)]),iA 89 (.bin .add (Ci 1) (Tm 88)),iM 90 0,iA 91 (.call 4 [(Tm 90),(Ci 3)]),iM 92 0,iA 93 (.call 4 [(Tm 92),(Ci 4)]),iA 94 (.bin .add (Ci 1) (Tm 93)),iK 95 47 94,iA 96 (.build [(.str []),(.int .i64 0),(.int .i64 0),(.int .i64 0),(.int .i64 0),(.int .i64 0),(.int .i64 0),(.int .i64 0),(.int .i64 0),.bHP,.bHP,(.bool false),.bHP,.bHP,(.bool false),.bHP,.bHP] [(0,1,(Tm 86)),(1,1,(Tm 89)),(2,1,(Tm 91)),(14,3,(Tm 95))]),iA 15 (.alloc [(.str []),(.int .i64 0),(.int .i64 0),(.int .i64 0),(.int .i64 0),(.int .i64 0),(.int .i64 0),(.int .i64 0),(.int .i64 0),.bHP,.bHP,(.bool false),.bHP,.bHP,(.bool false),.bHP,.bHP]),iS 17 15 96]
def vY:Rd:=[(iF 97 1 15,true),(iL 98 97,true),(iM 99 0,false),(iF 100 2 15,false),(iL 101 100,false),(iC 102 .add 101 1,false),(iK2 103 4 99 102,true),(iB 104 .add 98 103,false),(iF 105 3 15,false)]
def vZ:Rd:=[(iS 1 105 104,true)]
def wA:Rg:=[iM 106 0,iF 107 2 15,iL 108 107,iK2 109 5 106 108,iF 110 10 15,iS 1 110 109]
def wB:Rg:=[iM 112 0,iA 113 (.call 4 [(Tm 112),(Ci 9)]),iA 114 (.call 50 [(Tm 113),(Ci 8)]),iM 111 114,iE 115 111 0,iE 116 111 1,iF 117 11 15,iS 3 117 115]
def GR:Rg:=[iI 16 1]
def adA:Rg:=[iM 118 16,iC 119 .lss 118 5]
def adB:Rg:=[iM 122 0,iA 123 (.call 4 [(Tm 122),(Ci 3)]),iC 124 .eql 123 0]
def adC:Rg:=[iM 125 16,iM 126 0,iA 127 (.call 4 [(Tm 126),(Ci 3)]),iA 128 (.bin .add (Ci 1) (Tm 127)),iF 129 4 15,iA 130 (.idxA 5 1 (Tm 129) (Tm 125)),iS 1 130 128]
def GT:Rg:=[iM 120 16,iC 121 .add 120 1,iM 16 121]
def vX:aB:=(.seq (sq adA (.cond (Tm 119) .skip (.exit 6))) (.seq (.block 7 (sq adB (.cond (Tm 124) (.region adC) .skip))) (.region GT)))
def GU:Rg:=[iM 131 0,iM 132 11,iK2 133 4 131 132,iM 17 133]
def GW:Rg:=[iM 134 17,iA 135 (.bHU false 1 1 [(.int .i64 0)] [(0,(Tm 134))]),iF 136 9 15,iS 1 136 135]
def GX:Rg:=[iM 137 11,iC 138 .gtr 137 1,iM 139 138,gM 140 0 139 true,iG 141 (.call 4 [(Tm 140),(Ci 2)]) 139 true,gC 142 .eql 141 0 139 true,iP 143 139 142]
def GY:Rg:=[iF 144 9 15,iL 145 144,iM 146 17,iA 147 (.bin .sub (Ci 1) (Tm 146)),iA 148 (.bHU true 1 1 [(.int .i64 0)] [(0,(Tm 147))]),iA 149 (.append 1 8 (Tm 145) (Tm 148)),iF 150 9 15,iS 1 150 149]
def wC:Rg:=[iF 151 5 7,iL 152 151,iO 153 17 15,iA 154 (.bHU true 17 1 [(.str []),(.int .i64 0),(.int .i64 0),(.int .i64 0),(.int .i64 0),(.int .i64 0),(.int .i64 0),(.int .i64 0),(.int .i64 0),.bHP,.bHP,(.bool false),.bHP,.bHP,(.bool false),.bHP,.bHP] [(0,(Tm 153))]),iA 155 (.append 17 240 (Tm 152) (Tm 154)),iF 156 5 7,iS 1 156 155]
def adD:Rg:=[iM 83 14,iC 84 .add 83 1,iM 14 84]
def GO:aB:=(.seq (sq acZ (.cond (Tm 82) .skip (.exit 4))) (.seq (.block 5 (sq GQ (.seq (dq vY (.draw vZ)) (sq wA (sq wB (.seq (sq GR (.block 6 (.loop vX))) (sq GU (sq GW (.seq (sq GX (.cond (Tm 143) (.region GY) .skip)) (.region wC)))))))))) (.region adD)))
def adE:Rg:=[iM 157 0,iM 158 2,iC 159 .add 158 1,iK2 160 4 157 159,iM 18 160]
def adF:Rg:=[iI 19 0]
def adG:Rg:=[iM 161 19,iM 162 18,iB 163 .lss 161 162]
def adH:Rd:=[(iF 166 6 7,true),(iL 167 166,true),(iM 168 19,false),(iA 169 (.call 29 [(.const (.str [118])),(Tm 168)]),true),(iM 170 0,true),(iF 171 5 7,true),(iL 172 171,true),(iN 173 172,true),(iK2 174 4 170 173,true),(iA 175 (.build [(.str []),(.int .i64 0)] [(0,1,(Tm 169)),(1,1,(Tm 174))]),false),(iA 176 (.bHU true 2 1 [(.str []),(.int .i64 0)] [(0,(Tm 175))]),false),(iA 177 (.append 2 24 (Tm 167) (Tm 176)),true),(iF 178 6 7,false)]
def adI:Rd:=[(iS 1 178 177,true)]
def adJ:Rg:=[iM 164 19,iC 165 .add 164 1,iM 19 165]
def GP:aB:=(.seq (sq adG (.cond (Tm 163) .skip (.exit 8))) (.seq (.block 9 (dq adH (.draw adI))) (.region adJ)))
def adK:Rg:=[iO 179 7 7,iS 7 6 179]
def BI:aB:=(sq apI (sq apJ (sq apK (.seq (sq apL (.block 0 (.loop NC))) (sq acP (.seq (sq acQ (.block 2 (.loop GN))) (sq acV (sq acW (sq acX (.seq (sq acY (.block 4 (.loop GO))) (sq adE (.seq (sq adF (.block 8 (.loop GP))) (sq adK .ret)))))))))))))
def beA:List Nat:=[40,67,148,154,176]
def acO:aS:=⟨3,180,BI,[.cell 6 (some 7)]⟩
def apC:Rg:=[iA 6 (.alloc [(.int .i64 0),.bHP,.bHP,.bHP,.bHP,.bHP,.bHP])]
def apD:Rg:=[iM 7 0,iK 8 28 7,iM 9 1,iM 10 2,iA 11 (.call 0 [(Tm 8),(Tm 9),(Tm 10)]),iS 7 6 11]
def BG:aB:=(sq apC (sq apD .ret))
def bdX:List Nat:=[]
def acL:aS:=⟨3,12,BG,[.cell 6 (some 7)]⟩
def bmP:Rg:=[iA 3 (.box true (Tm 1)),iZ 4]
def bmQ:Rg:=[iM 7 0,iA 8 (.call 4 [(Tm 7),(Ci 4)]),iC 9 .eql 8 0]
def bmR:Rg:=[iZ 4]
def bmS:Rg:=[iZ 5]
def bmT:Rg:=[iI 6 0]
def bmU:Rg:=[iM 10 6,iF 11 4 3,iL 12 11,iN 13 12,iB 14 .lss 10 13]
def bmV:Rg:=[iM 17 5,iM 18 0,iA 19 (.call 4 [(Tm 18),(Ci 7)]),iC 20 .sub 19 1,iA 21 (.bHU true 1 1 [(.int .i64 0)] [(0,(Tm 20))]),iA 22 (.append 1 8 (Tm 17) (Tm 21)),iM 5 22]
def bmW:Rg:=[iM 15 6,iC 16 .add 15 1,iM 6 16]
def bmO:aB:=(.seq (sq bmU (.cond (Tm 14) .skip (.exit 0))) (.seq (.block 1 (.region bmV)) (.region bmW)))
def bmX:Rg:=[iM 23 5,iM 4 23]
def a7T:aB:=(sq bmP (.seq (sq bmQ (.cond (Tm 9) (sq bmR .ret) .skip)) (sq bmS (.seq (sq bmT (.block 0 (.loop bmO))) (sq bmX .ret)))))
def bmY:List Nat:=[3,21]
def bqM:aS:=⟨2,24,a7T,[.tmp 4]⟩
def a7F:Rg:=[iA 3 (.box true (Tm 1)),iZ 4]
def a7G:Rg:=[iZ 5]
def a7H:Rg:=[iI 6 0]
def a7I:Rg:=[iM 11 6,iF 12 6 3,iL 13 12,iN 14 13,iB 15 .lss 11 14]
def a7J:Rg:=[iZ 7]
def a7K:Rg:=[iM 18 0,iF 19 4 3,iL 20 19,iN 21 20,iC 22 .add 21 1,iK2 23 4 18 22,iM 8 23]
def a7L:Rg:=[iI 9 0]
def a7M:Rg:=[iM 24 9,iO 25 7 3,iM 26 6,iK2 27 82 25 26,iB 28 .lss 24 27]
def a7N:Rg:=[iI 10 (-1)]
def a7O:Rg:=[iF 31 4 3,iL 32 31,iN 33 32,iC 34 .gtr 33 0]
def aSN:Rg:=[iM 35 8,iM 36 9,iB 37 .add 35 36,iF 38 4 3,iL 39 38,iN 40 39,iB 41 .rem 37 40,iM 10 41]
def aSO:Rg:=[iM 42 0,iA 43 (.call 4 [(Tm 42),(Ci 6)])]
def aSP:Rg:=[iC 45 .eql 43 0,iM 44 45]
def aSQ:Rg:=[iM 46 0,iF 47 4 3,iL 48 47,iN 49 48,iK2 50 4 46 49,iM 10 50]
def aSR:Rg:=[iC 52 .eql 43 1,iM 51 52]
def aSS:Rg:=[iM 53 0,iF 54 4 3,iL 55 54,iN 56 55,iC 57 .add 56 1,iK2 58 4 53 57,iC 59 .sub 58 1,iM 10 59]
def aST:Rg:=[iM 60 7,iM 61 10,iA 62 (.bHU true 1 1 [(.int .i64 0)] [(0,(Tm 61))]),iA 63 (.append 1 8 (Tm 60) (Tm 62)),iM 7 63]
def aSU:Rg:=[iM 29 9,iC 30 .add 29 1,iM 9 30]
def aSL:aB:=(.seq (sq a7M (.cond (Tm 28) .skip (.exit 2))) (.seq (.block 3 (sq a7N (.seq (sq a7O (.cond (Tm 34) (sq aSN (sq aSO (.block 4 (sq aSP (.cond (Tm 44) (.region aSQ) (sq aSR (.cond (Tm 51) (.region aSS) .skip))))))) .skip)) (.region aST)))) (.region aSU)))
def aSV:Rg:=[iM 64 5,iM 65 7,iA 66 (.bHU true 1 1 [.bHP] [(0,(Tm 65))]),iA 67 (.append 1 24 (Tm 64) (Tm 66)),iM 5 67]
def aSW:Rg:=[iM 16 6,iC 17 .add 16 1,iM 6 17]
def aSM:aB:=(.seq (sq a7I (.cond (Tm 15) .skip (.exit 0))) (.seq (.block 1 (sq a7J (sq a7K (.seq (sq a7L (.block 2 (.loop aSL))) (.region aSV))))) (.region aSW)))
def aSX:Rg:=[iM 68 5,iM 4 68]
def aHD:aB:=(sq a7F (sq a7G (.seq (sq a7H (.block 0 (.loop aSM))) (sq aSX .ret))))
def a7P:List Nat:=[3,62,66]
def aWY:aS:=⟨2,69,aHD,[.tmp 4]⟩
def aKG:Rg:=[iA 2 (.box true (Tm 0)),iI 4 0]
def aKH:Rd:=[(iF 6 5 2,false),(iL 7 6,false),(iF 8 6 2,false),(iL 9 8,false),(iM 10 1,false),(iX 11 2 9 10,false),(iF 12 1 11,false),(iL 13 12,false),(iX 14 17 7 13,false),(iO 15 17 14,false),(iA 5 (.alloc [(.str []),(.int .i64 0),(.int .i64 0),(.int .i64 0),(.int .i64 0),(.int .i64 0),(.int .i64 0),(.int .i64 0),(.int .i64 0),.bHP,.bHP,(.bool false),.bHP,.bHP,(.bool false),.bHP,.bHP]),true),(iS 17 5 15,true)]
def aKI:Rg:=[iF 16 1 5,iL 17 16,iF 18 2 5,iL 19 18,iB 20 .add 17 19,iM 4 20]
def IE:aB:=(sq aKG (dq aKH (sq aKI .ret)))
def boC:List Nat:=[2]
def azA:aS:=⟨2,21,IE,[.tmp 4]⟩
def aOO:Rg:=[iZ 2]
def aOP:Rg:=[iM 4 0,iN 5 4,iM 3 5]
def aOQ:Rg:=[iM 6 3,iC 7 .gtr 6 0,iM 8 7,gM 9 0 8 true,gM 10 3 8 true,gC 11 .sub 10 1 8 true,iG 12 (.bIK 1 (Tm 9) (Tm 11)) 8 true,gL 13 12 8 true,iG 14 (.bin .eql (Tm 13) (.const (.int .u32 0))) 8 true,iP 15 8 14]
def aOR:Rg:=[iM 16 3,iC 17 .sub 16 1,iM 3 17]
def aON:aB:=(.seq (sq aOQ (.cond (Tm 15) .skip (.exit 0))) (.block 1 (.region aOR)))
def ZP:Rg:=[iM 18 0,iM 19 3,iA 20 (.slice 1 (Tm 18) none (some (Tm 19)) none),iA 21 (.append 1 4 (.const .bHP) (Tm 20)),iM 2 21]
def JO:aB:=(sq aOO (sq aOP (.seq (.block 0 (.loop aON)) (sq ZP .ret))))
def bpN:List Nat:=[]
def azK:aS:=⟨1,22,JO,[.tmp 2]⟩
def aOF:Rg:=[iZ 2]
def aOG:Rg:=[iM 3 0,iA 4 (.conv .u32 (Tm 3)),iM 5 0,iA 6 (.bin .shr (Tm 5) (.const (.int .u64 32))),iA 7 (.conv .u32 (Tm 6)),iA 8 (.bHU true 1 2 [(.int .u32 0)] [(0,(Tm 4)),(1,(Tm 7))]),iK 9 38 8,iM 2 9]
def JF:aB:=(sq aOF (sq aOG .ret))
def bpE:List Nat:=[8]
def azI:aS:=⟨1,10,JF,[.tmp 2]⟩
def avJ:Rg:=[iT 2 false]
def avK:Rg:=[iM 3 0,iK 4 38 3,iN 5 4,iC 6 .gtr 5 512,iM 2 6]
def DB:aB:=(sq avJ (sq avK .ret))
def bhT:List Nat:=[]
def agZ:aS:=⟨1,7,DB,[.tmp 2]⟩
def a0K:Rg:=[iI 4 0]
def a0L:Rg:=[iM 6 0,iK 7 38 6,iM 8 1,iK 9 38 8,iM 0 7,iM 1 9]
def a0M:Rg:=[iM 10 0,iN 11 10,iM 12 1,iN 13 12,iB 14 .neq 11 13]
def a0N:Rg:=[iM 15 0,iN 16 15,iM 17 1,iN 18 17,iB 19 .lss 16 18]
def a0O:Rg:=[iI 4 (-1)]
def a0P:Rg:=[iI 4 1]
def a0Q:Rg:=[iM 20 0,iN 21 20,iC 22 .sub 21 1,iM 5 22]
def a0R:Rg:=[iM 23 5,iC 24 .geq 23 0]
def a0S:Rd:=[(iM 27 0,false),(iM 28 5,false),(iX 29 1 27 28,false),(iL 30 29,false),(iM 31 1,false),(iM 32 5,false),(iX 33 1 31 32,false),(iL 34 33,false),(iB 35 .lss 30 34,false)]
def a0T:Rg:=[iI 4 (-1)]
def aNS:Rd:=[(iM 36 0,false),(iM 37 5,false),(iX 38 1 36 37,false),(iL 39 38,false),(iM 40 1,false),(iM 41 5,false),(iX 42 1 40 41,false),(iL 43 42,false),(iB 44 .gtr 39 43,false)]
def aNT:Rg:=[iI 4 1]
def aNU:Rg:=[iM 25 5,iC 26 .sub 25 1,iM 5 26]
def aNR:aB:=(.seq (sq a0R (.cond (Tm 24) .skip (.exit 0))) (.seq (.block 1 (.seq (dq a0S (.cond (Tm 35) (sq a0T .ret) .skip)) (dq aNS (.cond (Tm 44) (sq aNT .ret) .skip)))) (.region aNU)))
def aNV:Rg:=[iI 4 0]
def QA:aB:=(sq a0K (sq a0L (.seq (sq a0M (.cond (Tm 14) (.seq (sq a0N (.cond (Tm 19) (sq a0O .ret) .skip)) (sq a0P .ret)) .skip)) (.seq (sq a0Q (.block 0 (.loop aNR))) (sq aNV .ret)))))
def buY:List Nat:=[]
def a9T:aS:=⟨2,45,QA,[.tmp 4]⟩
def agR:Rg:=[iZ 4,iZ 5]
def agT:Rg:=[iM 20 0,iM 21 1,iK2 22 32 20 21,iC 23 .lss 22 0]
def agU:Rg:=[iM 24 0,iK 25 38 24,iZ 4,iM 5 25]
def agV:Rg:=[iM 26 1,iN 27 26,iC 28 .eql 27 1]
def JB:Rg:=[iM 29 0,iN 30 29,iA 31 (.bHZ 1 4 [(.int .u32 0)] (Tm 30) (Tm 30)),iM 6 31]
def JC:Rg:=[iA 7 (.mv (.const (.int .u64 0)))]
def JD:Rg:=[iM 32 0,iN 33 32,iC 34 .sub 33 1,iM 8 34]
def agW:Rg:=[iM 35 8,iC 36 .geq 35 0]
def agX:Rg:=[iM 39 7,iA 40 (.bin .shl (Tm 39) (.const (.int .u64 32))),iM 41 0,iM 42 8,iX 43 1 41 42,iL 44 43,iA 45 (.conv .u64 (Tm 44)),iB 46 .or 40 45,iM 9 46]
def agY:Rg:=[iM 47 6,iM 48 8,iM 49 9,iM 50 1,iA 51 (.bIK 1 (Tm 50) (Ci 0)),iL 52 51,iA 53 (.conv .u64 (Tm 52)),iB 54 .quo 49 53,iA 55 (.conv .u32 (Tm 54)),iX 56 1 47 48,iS 1 56 55]
def UR:Rg:=[iM 57 9,iM 58 1,iA 59 (.bIK 1 (Tm 58) (Ci 0)),iL 60 59,iA 61 (.conv .u64 (Tm 60)),iB 62 .rem 57 61,iM 7 62]
def US:Rg:=[iM 37 8,iC 38 .sub 37 1,iM 8 38]
def CO:aB:=(.seq (sq agW (.cond (Tm 36) .skip (.exit 0))) (.seq (.block 1 (sq agX (sq agY (.region UR)))) (.region US)))
def CP:Rg:=[iM 63 6,iK 64 38 63,iM 65 7,iK 66 35 65,iM 4 64,iM 5 66]
def UT:Rg:=[iM 67 1,iN 68 67,iA 69 (.bin .mul (Ci 32) (Tm 68)),iM 70 1,iK 71 31 70,iB 72 .sub 69 71,iM 10 72]
def UU:Rg:=[iM 73 0,iM 74 10,iK2 75 45 73 74,iA 76 (.bHU true 1 2 [(.int .u32 0)] [(0,(.const (.int .u32 0))),(1,(.const (.int .u32 0)))]),iA 77 (.append 1 4 (Tm 75) (Tm 76)),iM 78 1,iM 79 10,iK2 80 45 78 79,iM 11 77,iM 12 80]
def CQ:Rg:=[iM 81 11,iM 82 0,iM 83 10,iK2 84 45 82 83,iN 85 84,iC 86 .add 85 1,iA 87 (.slice 1 (Tm 81) none (some (Tm 86)) none),iM 11 87]
def CR:Rg:=[iM 88 12,iM 89 12,iN 90 89,iC 91 .sub 90 1,iX 92 1 88 91,iL 93 92,iA 94 (.conv .u64 (Tm 93)),iM 13 94]
def CS:Rg:=[iM 95 11,iN 96 95,iM 97 12,iN 98 97,iB 99 .sub 96 98,iA 100 (.bHZ 1 4 [(.int .u32 0)] (Tm 99) (Tm 99)),iM 14 100]
def CU:Rg:=[iM 101 14,iN 102 101,iC 103 .sub 102 1,iM 15 103]
def UV:Rg:=[iM 104 15,iC 105 .geq 104 0]
def UW:Rd:=[(iM 108 11,false),(iM 109 15,false),(iM 110 12,false),(iN 111 110,false),(iB 112 .add 109 111,false),(iX 113 1 108 112,false),(iL 114 113,false),(iA 115 (.conv .u64 (Tm 114)),false),(iA 116 (.bin .shl (Tm 115) (.const (.int .u64 32))),false),(iM 117 11,false),(iM 118 15,false),(iM 119 12,false),(iN 120 119,false),(iB 121 .add 118 120,false),(iC 122 .sub 121 1,false),(iX 123 1 117 122,false),(iL 124 123,false),(iA 125 (.conv .u64 (Tm 124)),false),(iB 126 .or 116 125,false),(iM 16 126,false)]
def UX:Rg:=[iM 127 16,iM 128 13,iB 129 .quo 127 128,iM 17 129]
def UY:Rg:=[iM 130 17,iA 131 (.bin .gtr (Tm 130) (.const (.int .u64 4294967295)))]
def UZ:Rg:=[iA 17 (.mv (.const (.int .u64 4294967295)))]
def VA:Rd:=[(iM 132 12,true),(iM 133 17,false),(iK 134 35 133,true),(iK2 135 44 132 134,true),(iM 136 11,true),(iM 137 15,true),(iM 138 15,true),(iM 139 12,true),(iN 140 139,true),(iB 141 .add 138 140,true),(iC 142 .add 141 1,true),(iA 143 (.slice 1 (Tm 136) (some (Tm 137)) (some (Tm 142)) none),true),(iA 144 (.append 1 4 (.const .bHP) (Tm 143)),true),(iK2 145 32 135 144,true),(iC 146 .gtr 145 0,false)]
def VB:Rg:=[iM 147 17,iA 148 (.bin .sub (Tm 147) (.const (.int .u64 1))),iM 17 148]
def uB:aB:=(.seq (dq VA (.cond (Tm 146) .skip (.exit 4))) (.block 5 (.region VB)))
def CV:Rg:=[iM 149 11,iM 150 15,iM 151 15,iM 152 12,iN 153 152,iB 154 .add 151 153,iC 155 .add 154 1,iA 156 (.slice 1 (Tm 149) (some (Tm 150)) (some (Tm 155)) none),iA 157 (.append 1 4 (.const .bHP) (Tm 156)),iM 158 12,iM 159 17,iK 160 35 159,iK2 161 44 158 160,iK2 162 42 157 161,iM 18 162]
def CW:Rg:=[iI 19 0]
def VC:Rg:=[iM 163 19,iM 164 12,iN 165 164,iB 166 .leq 163 165]
def VD:Rg:=[iM 169 11,iM 170 15,iM 171 19,iB 172 .add 170 171,iX 173 1 169 172,⟨none,.store 1 (Tm 173) (.const (.int .u32 0)),none⟩]
def VE:Rg:=[iM 174 19,iM 175 18,iN 176 175,iB 177 .lss 174 176]
def VG:Rg:=[iM 178 11,iM 179 15,iM 180 19,iB 181 .add 179 180,iM 182 18,iM 183 19,iX 184 1 182 183,iL 185 184,iX 186 1 178 181,iS 1 186 185]
def CX:Rg:=[iM 167 19,iC 168 .add 167 1,iM 19 168]
def uC:aB:=(.seq (sq VC (.cond (Tm 166) .skip (.exit 6))) (.seq (.block 7 (sq VD (sq VE (.cond (Tm 177) (.region VG) .skip)))) (.region CX)))
def CY:Rg:=[iM 187 14,iM 188 15,iM 189 17,iA 190 (.conv .u32 (Tm 189)),iX 191 1 187 188,iS 1 191 190]
def CZ:Rg:=[iM 106 15,iC 107 .sub 106 1,iM 15 107]
def uD:aB:=(.seq (sq UV (.cond (Tm 105) .skip (.exit 2))) (.seq (.block 3 (dq UW (sq UX (.seq (sq UY (.cond (Tm 131) (.region UZ) .skip)) (.seq (.block 4 (.loop uB)) (sq CV (.seq (sq CW (.block 6 (.loop uC))) (.region CY)))))))) (.region CZ)))
def DA:Rg:=[iM 192 14,iK 193 38 192,iM 194 11,iK 195 38 194,iM 196 10,iK2 197 40 195 196,iM 4 193,iM 5 197]
def yS:aB:=(sq agR (.seq (sq agT (.cond (Tm 23) (sq agU .ret) .skip)) (.seq (sq agV (.cond (Tm 28) (sq JB (sq JC (.seq (sq JD (.block 0 (.loop CO))) (sq CP .ret)))) .skip)) (sq UT (sq UU (sq CQ (sq CR (sq CS (.seq (sq CU (.block 2 (.loop uD))) (sq DA .ret))))))))))
def a9X:List Nat:=[76]
def SG:aS:=⟨2,198,yS,[.tmp 4,.tmp 5]⟩
def a0U:Rg:=[iZ 4,iZ 5,iI 6 0]
def a0V:Rg:=[iM 9 0,iK 10 41 9,iM 11 10,gM 12 1 11 false,gK 13 41 12 11 false,iQ 14 11 13]
def amS:Rg:=[iZ 4,iZ 5,iI 6 2]
def a0W:Rg:=[iM 15 1,iK 16 38 15,iN 17 16,iC 18 .eql 17 0]
def a0X:Rg:=[iZ 4,iZ 5,iI 6 3]
def a0Y:Rg:=[iM 20 0,iK 21 38 20,iM 22 1,iK 23 38 22,iK2 24 39 21 23,iM 19 24,iE 25 19 0,iE 26 19 1,iM 7 25,iM 8 26]
def a0Z:Rg:=[iM 27 7,iM 28 8,iM 4 27,iM 5 28,iI 6 0]
def QB:aB:=(sq a0U (.seq (sq a0V (.cond (Tm 14) (sq amS .ret) .skip)) (.seq (sq a0W (.cond (Tm 18) (sq a0X .ret) .skip)) (sq a0Y (sq a0Z .ret)))))
def bvA:List Nat:=[]
def udiv:aS:=⟨2,29,QB,[.tmp 4,.tmp 5,.tmp 6]⟩
def a1B:Rg:=[iZ 4,iI 5 0]
def a1C:Rg:=[iM 10 0,iK 11 41 10,iM 12 11,gM 13 1 12 false,gK 14 41 13 12 false,iQ 15 12 14]
def amT:Rg:=[iZ 4,iI 5 2]
def a1D:Rg:=[iM 16 0,iK 17 38 16,iM 18 1,iK 19 38 18,iM 6 17,iM 7 19]
def a1E:Rg:=[iM 20 7,iN 21 20,iC 22 .gtr 21 0]
def a1F:Rg:=[iM 24 6,iM 25 7,iK2 26 39 24 25,iM 23 26,iE 27 23 0,iE 28 23 1,iM 8 27,iM 9 28]
def a1G:Rg:=[iM 29 7,iM 30 9,iM 6 29,iM 7 30]
def a1A:aB:=(.seq (sq a1E (.cond (Tm 22) .skip (.exit 0))) (.block 1 (sq a1F (.region a1G))))
def a1H:Rg:=[iM 31 6,iM 4 31,iI 5 0]
def QE:aB:=(sq a1B (.seq (sq a1C (.cond (Tm 15) (sq amT .ret) .skip)) (sq a1D (.seq (.block 0 (.loop a1A)) (sq a1H .ret)))))
def bvC:List Nat:=[]
def a9Y:aS:=⟨2,32,QE,[.tmp 4,.tmp 5]⟩
def ahL:Rg:=[iA 6 (.alloc [(.bool false),.bHP,.bHP])]
def ahM:Rg:=[iM 9 1,iK 10 38 9,iM 11 2,iK 12 38 11,iM 1 10,iM 2 12]
def ahN:Rg:=[iM 13 1,iN 14 13,iC 15 .eql 14 0]
def ahO:Rg:=[iA 16 (.bHU true 1 1 [(.int .u32 0)] [(0,(.const (.int .u32 1)))]),iA 17 (.build [(.bool false),.bHP,.bHP] [(2,1,(Tm 16))]),iS 3 6 17]
def ahP:Rg:=[iM 19 1,iM 20 2,iK2 21 34 19 20,iM 18 21,iE 22 18 0,iE 23 18 1,iM 7 22,iM 8 23]
def ahQ:Rg:=[iM 24 7,iN 25 24,iC 26 .gtr 25 1,iM 27 26,gM 28 7 27 false,iG 29 (.bIK 1 (Tm 28) (Ci 0)) 27 false,gL 30 29 27 false,iG 31 (.bin .gtr (Tm 30) (.const (.int .u32 1))) 27 false,iQ 32 27 31]
def JS:Rg:=[iM 34 1,iM 35 7,iK2 36 33 34 35,iM 33 36,iE 37 33 0,iE 38 33 1,iE 39 33 2,iM 1 37]
def JT:Rg:=[iM 41 2,iM 42 7,iK2 43 33 41 42,iM 40 43,iE 44 40 0,iE 45 40 1,iE 46 40 2,iM 2 44]
def wP:Rg:=[iM 47 0,iM 48 1,iM 49 2,iA 50 (.build [(.bool false),.bHP,.bHP] [(0,1,(Tm 47)),(1,1,(Tm 48)),(2,1,(Tm 49))]),iS 3 6 50]
def yU:aB:=(sq ahL (sq ahM (.seq (sq ahN (.cond (Tm 15) (sq ahO .ret) .skip)) (.seq (sq ahP (sq ahQ (.cond (Tm 32) (sq JS (.region JT)) .skip))) (sq wP .ret)))))
def baK:List Nat:=[16]
def SJ:aS:=⟨3,51,yU,[.cell 6 (some 3)]⟩
def aPL:Rg:=[iA 2 (.mv (.const (.int .u64 0)))]
def aPM:Rg:=[iM 3 0,iC 4 .lss 3 0]
def aPN:Rg:=[iM 5 0,iC 6 .add 5 1,iA 7 (.un .neg (Tm 6)),iA 8 (.conv .u64 (Tm 7)),iA 9 (.bin .add (Tm 8) (.const (.int .u64 1))),iM 2 9]
def aPO:Rg:=[iM 10 0,iA 11 (.conv .u64 (Tm 10)),iM 2 11]
def JX:aB:=(sq aPL (.seq (sq aPM (.cond (Tm 4) (sq aPN .ret) .skip)) (sq aPO .ret)))
def bqB:List Nat:=[]
def azV:aS:=⟨1,12,JX,[.tmp 2]⟩
def aPC:Rg:=[iA 4 (.alloc [(.bool false),.bHP,.bHP]),iI 5 0]
def aPD:Rg:=[iM 6 1,iC 7 .eql 6 0]
def aPE:Rg:=[iA 8 (.build [(.bool false),.bHP,.bHP] []),iS 3 4 8,iI 5 3]
def aPF:Rg:=[iM 9 0,iC 10 .lss 9 0,iM 11 1,iC 12 .lss 11 0,iA 13 (.eqb true (Tm 10) (Tm 12)),iM 14 0,iK 15 59 14,iK 16 35 15,iM 17 1,iK 18 59 17,iK 19 35 18,iA 20 (.call 58 [(Tm 13),(Tm 16),(Tm 19)]),iS 3 4 20,iI 5 0]
def JU:aB:=(sq aPC (.seq (sq aPD (.cond (Tm 7) (sq aPE .ret) .skip)) (sq aPF .ret)))
def bpV:List Nat:=[]
def ahR:aS:=⟨2,21,JU,[.cell 4 (some 3),.tmp 5]⟩
def a2G:Rg:=[iA 2 (.alloc [(.bool false),.bHP,.bHP])]
def a2H:Rg:=[iM 6 0,iA 7 (.call 50 [(Tm 6),(Ci 1)]),iM 5 7,iE 8 5 0,iE 9 5 1,iA 3 (.alloc [(.bool false),.bHP,.bHP]),iS 3 3 8,iM 4 9]
def a2I:Rg:=[iO 10 3 3,iS 3 2 10]
def QQ:aB:=(sq a2G (sq a2H (sq a2I .ret)))
def bvL:List Nat:=[]
def baH:aS:=⟨1,11,QQ,[.cell 2 (some 3)]⟩
def utF (xs:List Nat) (n:Nat):PF:=((PF.nil.set 0 (aJ xs)).set 3 (.int .i64 n))
theorem bpM {C:Ctx} (xs:List Nat) (hx:Lim xs) (hl:xs.length≤35184372087808):JO.wp C (aR azK.res (mX 1 (aK (aH (val xs))))) (PF.args [aJ xs]) .nil:=by
 simp only[go_sem,γ,reduceCtorEq,JO,aOO,aOP,azK,bJT]
 refine wp_loop (α:=Nat) (fun n=>utF xs n) (fun _=>.nil) (fun n=>n≤xs.length∧∀ j x,n≤j→xs[j]?=some x→x=0) (fun n=>n) xs.length ⟨bKB _,fun j x hj hxj=>?_⟩ ?_ PH.nil_le ?_
 ·rw[bLH hj] at hxj; cases hxj
 ·unfold utF
  exact Lq
 rintro n ⟨hn,hz⟩
 have done:(0<n→∀ h:n-1<xs.length,xs[n-1]≠0)→∀ F:PF,(utF xs n).le F→aB.wp C (.seq (.region ZP) .ret) (aR [.tmp 2] (mX 1 (aK (aH (val xs))))) F .nil:=by
  intro h F hF
  have f0:F 0=some (aJ xs):=hF 0 _ (by unfold utF; simp only[go_sem,reduceCtorEq])
  have f3:F 3=some (.int .i64 n):=hF 3 _ (by unfold utF; simp only[go_sem,reduceCtorEq])
  have ht:xs.take n=aH (val xs):=IS hx hn hz fun x h0 hxj=>by
   rw[bKG Om] at hxj
   injection hxj with hxj
   subst hxj
   exact h h0 Om
  have hc:((n:Nat):Int)≤(xs.length:Nat):=by omega
  simp only[go_sem,ν,γ,reduceCtorEq,ZP,f0,f3,bJT,hc,or_true,bKY]
  refine dB (rows:=[]) (src:=aK (aH (val xs))) .nil ?_ ?_ fun v H' ho _=>?_
  ·simp only[go_sem]
   rw[← ht,← List.map_take]
  ·unfold roomFor
   rw[bV,← ht,bKN]
   simp only[bMD,maxLen]
   omega
  ·exact HX (.inr rfl) (by simpa using ho) rfl
 simp only[aB.wp,go_sem] at done
 simp only[go_sem,γ,reduceCtorEq,aON,aOQ,utF]
 by_cases h0:0<n
 ·have h0':((n:Nat):Int)>0:=by omega
  have hlt:n-1<xs.length:=by omega
  have hat:=bO xs hlt
  have hw:IntKind.i64.wrap ((n:Int)-1)=((n-1:Nat):Int):=vD Om h0
  simp only[go_sem,γ,reduceCtorEq,h0',hw,hat]
  by_cases c:xs[n-1]=0
  ·simp only[go_sem,γ,reduceCtorEq,bP (Om:((xs[n-1]:Nat):Int)=0),aOR,hw]
   refine aC (n-1) ⟨by omega,fun j x hj hxj=>?_⟩ Om ?_ PH.nil_le
   ·by_cases e:j=n-1
    ·subst e
     rw[bKG hlt] at hxj
     injection hxj with hxj
     omega
    ·exact hz j x Om hxj
   ·exact Lq
  ·simp only[go_sem,bF (Om:((xs[n-1]:Nat):Int)≠0)]
   exact done (fun _ _=>c) _ (by unfold utF; exact Lq)
 ·have h0':¬ ((n:Nat):Int)>0:=by omega
  simp only[go_sem,γ,reduceCtorEq,h0']
  exact done (fun h=>absurd h h0) _ (by unfold utF; exact Lq)
structure oX (C:Ctx):Prop where
 trimM:∀ xs,Lim xs→xs.length≤35184372087808→aI C 38 [aJ xs] .nil (mX 1 (aK (aH (val xs))))
theorem oX.trim {C:Ctx} (L:oX C) (xs:List Nat) (hx:Lim xs) (hl:xs.length≤35184372087808):aI C 38 [aJ xs] .nil (aD (aJ (aH (val xs)))):=(L.trimM xs hx hl).freeze
theorem bpD {C:Ctx} (L:oX C) (v:Nat) (hv:v<18446744073709551616):JF.wp C (aR azI.res (bQ (aJ (aH v)))) (PF.args [.int .u64 v]) .nil:=by
 have e1:IntKind.u32.wrap ((v:Nat):Int)=((v%4294967296:Nat):Int):=cE v
 have hd:v/4294967296<4294967296:=by omega
 have e3:IntKind.u32.wrap ((v/4294967296:Nat):Int)=((v/4294967296:Nat):Int):=by rw[cE,bLB hd]
 have hL:Lim [v%4294967296,v/4294967296]:=by
  intro x hx
  simp only[bKI,List.mem_nil_iff,or_false] at hx
  rcases hx with rfl | rfl
  ·exact bLG _ (by decide)
  ·exact hd
 have bII:val [v%4294967296,v/4294967296]=v:=by simp only[val,Nat.mul_zero,bLP]; exact Nat.mod_add_div v 4294967296
 have hsh:shift .shr .u64 (v:Int) 32=some (.int .u64 ((v/4294967296:Nat):Int)):=wI
 have hb:(2:Nat)*1≤16777216:=by decide
 simp only[go_sem,υ,δ,γ,η,ζ,reduceCtorEq,JF,aOF,aOG,azI,e1,hsh,e3,hb]
 have ht:=L.trim [v%4294967296,v/4294967296] hL (by simp)
 rw[bII] at ht
 refine aA ht rfl ?_
 simp only[go_sem,γ]
 exact aV (.inr rfl) .nil rfl PH.nil_le ⟨.refl _,rfl⟩
theorem bhS {C:Ctx} (L:oX C) (xs:List Nat) (hx:Lim xs) (hl:xs.length≤35184372087808):DB.wp C (aR agZ.res (bQ (.bool (decide (nl (val xs)>512))))) (PF.args [aJ xs]) .nil:=by
 simp only[go_sem,reduceCtorEq,DB,avJ,avK,agZ]
 refine aA (L.trim xs hx hl) rfl ?_
 simp only[go_sem,γ,bJT,aZ]
 refine aY rfl ?_
 rw[decide_eq_decide]
 omega
theorem a4D {a b:Nat} (h:nl a<nl b):dC a b=-1:=by
 have:a<b:=by
  rcases bKO a b with h' | h'
  ·exact h'
  ·have:=fN h'; omega
 simp[dC,this]
theorem a4C {a b:Nat} (h:nl b<nl a):dC a b=1:=by
 have:b<a:=by
  rcases bKO b a with h' | h'
  ·exact h'
  ·have:=fN h'; omega
 have h2:¬ a<b:=by omega
 simp[dC,this,h2]
def a9U (X Y:List Nat) (i:Int):PF:=(((PF.nil.set 0 (aJ X)).set 1 (aJ Y)).set 5 (.int .i64 i))
theorem buX {C:Ctx} (L:oX C) (xs ys:List Nat) (hx:Lim xs) (hy:Lim ys) (lx:xs.length≤35184372087808) (ly:ys.length≤35184372087808) :
  QA.wp C (aR a9T.res (aD (.int .i64 (dC (val xs) (val ys))))) (PF.args [aJ xs,aJ ys]) .nil:=by
 simp only[go_sem,reduceCtorEq,QA,a0K,a0L,a9T]
 refine aA (L.trim xs hx lx) Ev ?_
 simp only[go_sem,γ]
 refine aA (L.trim ys hy ly) Ev ?_
 have bx:=fG hx
 have by':=fG hy
 simp only[go_sem,γ,reduceCtorEq,a0M,bJT,aZ]
 by_cases c0:nl (val xs)≠nl (val ys)
 ·simp only[go_sem,γ,reduceCtorEq,cT (show ((nl (val xs):Nat):Int)≠(nl (val ys):Nat) by omega),a0N]
  by_cases c1:nl (val xs)<nl (val ys)
  ·simp only[go_sem,ο,bJT,aZ,show ((nl (val xs):Nat):Int)<(nl (val ys):Nat) by omega,a0O]
   refine aM (.inr rfl) Ev ?_
   rw[a4D c1]; rfl
  ·simp only[go_sem,bJT,aZ,show ¬ ((nl (val xs):Nat):Int)<(nl (val ys):Nat) by omega,a0P]
   refine aM (.inr rfl) Ev ?_
   rw[a4C Om]; rfl
 replace c0:=Decidable.of_not_not c0
 simp only[go_sem,γ,reduceCtorEq,bY (show ((nl (val xs):Nat):Int)=(nl (val ys):Nat) by omega),a0Q,bJT,aZ]
 have ex:=aQ (val xs)
 have ey:=aQ (val ys)
 have LX:=aU (val xs)
 have LY:=aU (val ys)
 generalize hX:aH (val xs)=X at *
 generalize hY:aH (val ys)=Y at *
 have hlX:X.length=nl (val xs):=by rw[← hX]; rfl
 have hlY:Y.length=nl (val xs):=by rw[c0,← hY]; rfl
 refine wp_loop (α:=Nat) (fun k=>a9U X Y ((k:Int)-1)) (fun _=>.nil) (fun k=>k≤nl (val xs)∧X.drop k=Y.drop k) (fun k=>k) (nl (val xs)) ⟨bKB _,?_⟩ ?_ PH.nil_le ?_
 ·rw[bNB Om,bNB Om]
 ·unfold a9U
  (repeat' (first|exact PF.nil_le|refine PF.aG ?_ ?_))<;>first|(simp only[go_sem,γ,reduceCtorEq,wrap_i64 (show -9223372036854775808≤((nl (val xs):Nat):Int)-1 by omega) (show ((nl (val xs):Nat):Int)-1≤9223372036854775807 by omega)]<;>rfl)|rfl
 rintro k ⟨hk,hd⟩
 simp only[go_sem,γ,reduceCtorEq,aNR,a0R,a9U]
 by_cases h0:0<k
 ·obtain⟨m,rfl⟩:∃ m,k=m+1:=⟨k-1,by omega⟩
  have hz:((m+1:Nat):Int)-1=(m:Int):=by omega
  have hge:(m:Int)≥0:=by omega
  have x1:m<X.length:=by omega
  have y1:m<Y.length:=by omega
  simp only[go_sem,hz,hge]
  refine bL .nil dJ PH.nil_le ?_
  simp only[go_sem,γ,reduceCtorEq,a0S,bO X x1,bO Y y1]
  by_cases c3:X[m]<Y[m]
  ·simp only[go_sem,ο,show ((X[m]:Nat):Int)<(Y[m]:Nat) by omega,a0T]
   refine aM (.inr rfl) Ev ?_
   have:=aaU LX x1 y1 hd c3
   rw[ex,ey] at this
   simp[bH,dC,this]
  ·simp only[go_sem,show ¬ ((X[m]:Nat):Int)<(Y[m]:Nat) by omega]
   refine bL .nil dJ PH.nil_le ?_
   simp only[go_sem,γ,reduceCtorEq,aNS,bO X x1,bO Y y1]
   by_cases c4:X[m]>Y[m]
   ·simp only[go_sem,show ((X[m]:Nat):Int)>(Y[m]:Nat) by omega,aNT]
    refine aM (.inr rfl) Ev ?_
    have:=aaU LY y1 x1 hd.symm c4
    rw[ex,ey] at this
    have h2:¬ val xs<val ys:=by omega
    simp[bH,dC,this,h2]
   ·simp only[go_sem,γ,reduceCtorEq,show ¬ ((X[m]:Nat):Int)>(Y[m]:Nat) by omega,aNU]
    refine aC m ⟨by omega,anG x1 y1 hd Om⟩ Om ?_ PH.nil_le
    (repeat' (first|exact PF.nil_le|refine PF.aG ?_ ?_))<;>first|(simp only[go_sem,γ,reduceCtorEq,wrap_i64 (Om:-9223372036854775808≤(m:Int)-1) (Om:(m:Int)-1≤9223372036854775807)]<;>rfl)|rfl
 ·have:k=0:=by omega
  subst this
  have hz:¬ ((0:Nat):Int)-1≥0:=by decide
  simp only[go_sem,hz,aNV]
  refine aM (.inr rfl) Ev ?_
  rw[bKY,bKY] at hd
  have:val xs=val ys:=by rw[← ex,← ey,hd]
  simp[bH,dC,this]
theorem AJ (n:Nat):(((n:Nat):Int)==0)=decide (n=0):=by
 by_cases h:n=0
 ·subst h; rfl
 ·rw[bF Om,decide_eq_false h]
structure aAD (C:Ctx):Prop extends oX C where
 make:∀ v:Nat,v<18446744073709551616→aI C 35 [.int .u64 v] .nil (aD (aJ (aH v)))
 large:∀ xs,Lim xs→xs.length≤35184372087808→aI C 41 [aJ xs] .nil (aD (.bool (decide (nl (val xs)>512))))
 cmp:∀ xs ys,Lim xs→Lim ys→xs.length≤35184372087808→ys.length≤35184372087808→aI C 32 [aJ xs,aJ ys] .nil (aD (.int .i64 (dC (val xs) (val ys))))
def a9Z (a b:Nat):PF:=((PF.nil.set 6 (aJ (aH a))).set 7 (aJ (aH b)))
structure aaI (C:Ctx):Prop extends aAD C where
 divide:∀ A B:Nat,B≠0→nl A≤512→nl B≤512→aI C 39 [aJ (aH A),aJ (aH B)] .nil (aD (pP A B))
def a4X (a b:Nat):PV:=if dO a b then .tup [aJ [],.int .i64 2] else .tup [aJ (aH (bJV a b)),.int .i64 0]
theorem bvB {C:Ctx} (L:aaI C) (a b:List Nat) (ha:Lim a) (hb:Lim b) (la:a.length≤35184372087808) (lb:b.length≤35184372087808) :
  QE.wp C (aR a9Y.res (bQ (a4X (val a) (val b)))) (PF.args [aJ a,aJ b]) .nil:=by
 unfold a4X
 simp only[go_sem,reduceCtorEq,QE,a1B,a1C,a9Y]
 refine aA (L.large a ha la) rfl ?_
 by_cases c1:nl (val a)>512
 ·simp only[go_sem,γ,c1,amT]
  rw[if_pos (by simp[dO,c1])]
  exact eJ rfl
 simp only[go_sem,γ,c1]
 refine aA (L.large b hb lb) rfl ?_
 by_cases c2:nl (val b)>512
 ·simp only[go_sem,γ,reduceCtorEq,c2,amT]
  rw[if_pos (by simp[dO,c2])]
  exact eJ rfl
 rw[if_neg (by simp[dO,c1,c2])]
 simp only[go_sem,γ,reduceCtorEq,c2,a1D]
 refine aA (L.trim a ha la) rfl ?_
 simp only[go_sem,γ]
 refine aA (L.trim b hb lb) rfl ?_
 simp only[go_sem,γ]
 refine wp_loop (α:=Nat × Nat) (fun t=>a9Z t.1 t.2) (fun _=>.nil) (fun t=>bJV t.1 t.2=bJV (val a) (val b)∧nl t.1≤512∧nl t.2≤512) (fun t=>t.2) (val a,val b) ⟨rfl,by simp only; omega,by simp only; omega⟩ ?_ PH.nil_le ?_
 ·unfold a9Z
  exact Lq
 rintro⟨x,y⟩ ⟨hg,hx,hy⟩
 simp only at hg hx hy
 simp only[go_sem,γ,a1A,a1E,a9Z,aZ]
 by_cases c3:y=0
 ·subst c3
  have:¬ ((nl 0:Nat):Int)>0:=by rw[xI]; decide
  simp only[go_sem,γ,this,a1H]
  refine aV (vs:=[aJ (aH x),.int .i64 0]) (.inr rfl) .nil rfl PH.nil_le ⟨?_,rfl⟩
  rw[← hg,Nat.gcd_zero_right]
  exact .refl _
 ·have h0:nl y≠0:=fun h=>c3 (gZ.1 h)
  have:((nl y:Nat):Int)>0:=by omega
  simp only[go_sem,γ,this,a1F]
  refine aA (L.divide x y c3 Om Om) rfl ?_
  simp only[go_sem,γ,pP,a1G]
  have hlt:x%y<y:=bLG _ (bMB c3)
  refine aC (y,x%y) ⟨?_,hy,?_⟩ hlt ?_ PH.nil_le
  ·simp only
   rw[← hg,Nat.gcd_comm y,← Nat.gcd_rec y x,Nat.gcd_comm]
  ·have:=fN (Nat.le_of_lt hlt)
   simp only; omega
  ·exact Lq
theorem buZ {C:Ctx} (L:aaI C) (a b:List Nat) (ha:Lim a) (hb:Lim b) (la:a.length≤35184372087808) (lb:b.length≤35184372087808) :
  QB.wp C (aR udiv.res (bQ (mF (val a) (val b)))) (PF.args [aJ a,aJ b]) .nil:=by
 unfold mF
 simp only[go_sem,reduceCtorEq,QB,a0U,a0V,udiv]
 refine aA (L.large a ha la) rfl ?_
 by_cases c1:nl (val a)>512
 ·simp only[go_sem,γ,c1,amS]
  rw[if_pos (by simp[dO,c1])]
  exact qZ rfl
 simp only[go_sem,γ,c1]
 refine aA (L.large b hb lb) rfl ?_
 by_cases c2:nl (val b)>512
 ·simp only[go_sem,γ,reduceCtorEq,c2,amS]
  rw[if_pos (by simp[dO,c2])]
  exact qZ rfl
 rw[if_neg (by simp[dO,c1,c2])]
 simp only[go_sem,γ,reduceCtorEq,c2,a0W]
 refine aA (L.trim b hb lb) rfl ?_
 simp only[go_sem,γ,bJT,aZ,AJ,gZ]
 by_cases c3:val b=0
 ·rw[if_pos c3]
  simp only[go_sem,decide_eq_true c3,a0X]
  exact qZ rfl
 rw[if_neg c3]
 simp only[go_sem,reduceCtorEq,decide_eq_false c3,a0Y]
 refine aA (L.trim a ha la) rfl ?_
 simp only[go_sem,γ]
 refine aA (L.trim b hb lb) rfl ?_
 simp only[go_sem]
 refine aA (L.divide (val a) (val b) c3 Om Om) rfl ?_
 simp only[go_sem,γ,pP,a0Z]
 exact aV (.inr rfl) .nil rfl PH.nil_le ⟨.refl _,rfl⟩
def mA (neg:Bool) (a b:Nat):FV:=(neg&&decide (a/bJV a b≠0),a/bJV a b,b/bJV a b)
structure aAE (C:Ctx):Prop extends aaI C where
 gcd:∀ a b,Lim a→Lim b→a.length≤35184372087808→b.length≤35184372087808→aI C 34 [aJ a,aJ b] .nil (aD (a4X (val a) (val b)))
 div:∀ a b,Lim a→Lim b→a.length≤35184372087808→b.length≤35184372087808→aI C 33 [aJ a,aJ b] .nil (aD (mF (val a) (val b)))
theorem sD {n:Nat} (h:nl n≤512):(aH n).length≤35184372087808:=by rw[aZ]; omega
theorem uP:aH 1=[1]:=nM (by decide) (by decide)
theorem abX {n:Nat} (h:n≠0):aH n=n%4294967296::aH (n/4294967296):=qY h
theorem xX {n:Nat} (h:n≠0):(nl n>1∨n%4294967296>1)↔n≠1:=by
 constructor
 ·rintro h1 rfl
  rcases h1 with h1 | h1
  ·rw[nl,uP] at h1; simp at h1
  ·omega
 ·intro h1
  by_cases c:nl n>1
  ·exact .inl c
  ·have:n<4294967296 ^ 1:=(jL n 1).1 Om
   rw[Nat.pow_one] at this
   rw[bLB this]
   exact .inr Om
theorem baJ {C:Ctx} (L:aAE C) (neg:Bool) (a b:List Nat) (ha:Lim a) (hb:Lim b) (la:a.length≤35184372087808) (lb:b.length≤35184372087808) (na:nl (val a)≤512) (nb:nl (val b)≤512) (h0:val b≠0) :
  yU.wp C (aR SJ.res (bQ (.agg (mA neg (val a) (val b)).rf.cells))) (PF.args [.bool neg,aJ a,aJ b]) .nil:=by
 have hg0:bJV (val a) (val b)≠0:=fun h=>h0 (Nat.eq_zero_of_gcd_eq_zero_right h)
 have hgb:bJV (val a) (val b)≤val b:=Nat.gcd_le_right _ (bMB h0)
 have ng:nl (bJV (val a) (val b))≤512:=bLV (fN hgb) nb
 have hnb:dO (val a) (val b)=false:=gW na nb
 simp only[go_sem,δ,yU,ahL,ahM,SJ]
 refine aO fun o ho=>?_
 simp only[go_sem,γ]
 refine aA (L.trim a ha la) rfl ?_
 simp only[go_sem,γ]
 refine aA (L.trim b hb lb) rfl ?_
 simp only[go_sem,γ,ahN,bJT,aZ,AJ,gZ]
 by_cases c1:val a=0
 ·simp only[go_sem,υ,δ,γ,η,θ,ζ,decide_eq_true c1,ahO]
  have e:(mA neg (val a) (val b)).rf=⟨false,[],[1]⟩:=by
   rw[c1]
   unfold mA FV.rf
   simp[fJ,Nat.div_self (bMB h0),uP]
  rw[e]
  refine aV (vs:=[.agg [.bool false,.bHP,aJ [1]]]) (.inr rfl) .nil ?_ PH.nil_le ⟨show Co (.agg _) (.agg _) from CoL.agg (CoL.cons (.refl _) (CoL.cons (.nil 1) (CoL.cons (.refl _) .nil))),rfl⟩
  simp only[go_sem,δ,γ]
  rfl
 have hgcd:=L.gcd (aH (val a)) (aH (val b)) (aU _) (aU _) (sD na) (sD nb)
 rw[aQ,aQ,a4X,hnb] at hgcd
 simp only[go_sem,γ,decide_eq_false c1,ahP]
 refine aA hgcd rfl ?_
 have fin:∀ x y:Nat,x=val a/bJV (val a) (val b)→y=val b/bJV (val a) (val b)→∀ (F:PF) (H:PH),F 0=some (.bool neg)→F 1=some (aJ (aH x))→F 2=some (aJ (aH y))→F 6=some (.ptr o 3 0 0)→H o=some (.rows 3 [[.bool false,.bHP,.bHP]]) →
   aB.wp C (.seq (.region wP) .ret) (aR [.cell 6 (some 3)] (bQ (.agg (mA neg (val a) (val b)).rf.cells))) F H:=by
  intro x y hx hy F H f0 f1 f2 f6 hH
  subst hx; subst hy
  simp only[go_sem,δ,γ,θ,wP,f0,f1,f2,f6,hH]
  have hq:val a/bJV (val a) (val b)≠0:=by
   have:=Nat.div_pos (Nat.gcd_le_left (val b) (bMB c1)) (bMB hg0)
   omega
  have e:(mA neg (val a) (val b)).rf=⟨neg,aH (val a/bJV (val a) (val b)),aH (val b/bJV (val a) (val b))⟩:=by
   unfold mA FV.rf
   simp only[hq,ne_eq,not_false_eq_true,decide_true,bMF]
  rw[e]
  refine aV (vs:=[.agg (eC neg (aH (val a/bJV (val a) (val b))) (aH (val b/bJV (val a) (val b))))]) (.inr rfl) .nil ?_ PH.nil_le ⟨.refl _,rfl⟩
  simp only[go_sem,δ,γ,f6]
 simp only[aB.wp,go_sem] at fin
 have hd:=fun x (hx:nl x≤512)=>L.div (aH x) (aH (bJV (val a) (val b))) (aU _) (aU _) (sD hx) (sD ng)
 simp only[aQ,mF] at hd
 have tail:bJV (val a) (val b)≠1→∀ (F:PF) (H:PH),F 0=some (.bool neg)→F 1=some (aJ (aH (val a)))→F 2=some (aJ (aH (val b)))→F 6=some (.ptr o 3 0 0)→F 7=some (aJ (aH (bJV (val a) (val b))))→H o=some (.rows 3 [[.bool false,.bHP,.bHP]]) →
   aB.wp C (.seq (.seq (.region JS) (.region JT)) (.seq (.region wP) .ret)) (aR [.cell 6 (some 3)] (bQ (.agg (mA neg (val a) (val b)).rf.cells))) F H:=by
  intro _ F H f0 f1 f2 f6 f7 hH
  have d1:=hd (val a) na
  have d2:=hd (val b) nb
  rw[gW na ng,if_neg hg0] at d1
  rw[gW nb ng,if_neg hg0] at d2
  simp only[go_sem,γ,JS,f1,f7]
  refine aA d1 rfl ?_
  simp only[go_sem,γ,bNA,JT,f2,f7]
  refine aA d2 rfl ?_
  simp only[go_sem,γ,bNA]
  exact fin _ _ rfl rfl _ _ (by simp only[go_sem,reduceCtorEq,f0]) rfl rfl (by simp only[go_sem,γ,f6]) hH
 simp only[aB.wp,go_sem] at tail
 simp only[go_sem,γ,bNA,ahQ,bJT,aZ]
 by_cases c2:nl (bJV (val a) (val b))>1
 ·have c2':((nl (bJV (val a) (val b)):Nat):Int)>1:=by omega
  simp only[go_sem,γ,c2']
  exact tail ((xX hg0).1 (.inl c2)) _ _ rfl rfl rfl rfl rfl Sq
 ·have c2':¬ ((nl (bJV (val a) (val b)):Nat):Int)>1:=by omega
  simp only[go_sem,ν,γ,reduceCtorEq,c2',abX hg0]
  by_cases c3:bJV (val a) (val b)%4294967296>1
  ·have c3':((bJV (val a) (val b)%4294967296:Nat):Int)>1:=by omega
   simp only[go_sem,c3']
   exact tail ((xX hg0).1 (.inr c3)) _ _ rfl rfl rfl rfl (by simp only[go_sem,γ,abX hg0]) Sq
  ·have c3':¬ ((bJV (val a) (val b)%4294967296:Nat):Int)>1:=by omega
   have h1:bJV (val a) (val b)=1:=by
    rcases Decidable.em (bJV (val a) (val b)=1) with h | h
    ·exact h
    ·rcases (xX hg0).2 h with h | h
     ·exact absurd h c2
     ·exact absurd h c3
   simp only[go_sem,c3']
   exact fin (val a) (val b) (by rw[h1,Nat.div_one]) (by rw[h1,Nat.div_one]) _ _ rfl rfl rfl rfl Sq
theorem bqA {C:Ctx} (v:Int) (h1:-9223372036854775808≤v) (h2:v≤9223372036854775807) :
  JX.wp C (aR azV.res (aD (.int .u64 (v.natAbs:Nat)))) (PF.args [.int .i64 v]) .nil:=by
 simp only[go_sem,γ,reduceCtorEq,JX,aPL,aPM,azV]
 by_cases c:v<0
 ·have e1:IntKind.i64.wrap (v+1)=v+1:=wrap_i64 Om Om
  have e2:IntKind.i64.wrap (0-(v+1))=-(v+1):=by rw[wrap_i64 Om Om]; omega
  have e3:IntKind.u64.wrap (IntKind.u64.wrap (-(v+1))+1)=((v.natAbs:Nat):Int):=by
   rw[fO,fO]; omega
  simp only[go_sem,γ,reduceCtorEq,c,aPN,e1,e2,e3]
  refine aM (.inr rfl) rfl ?_
  rfl
 ·have e:IntKind.u64.wrap v=((v.natAbs:Nat):Int):=by
   rw[fO]; omega
  simp only[go_sem,γ,reduceCtorEq,c,aPO,e]
  refine aM (.inr rfl) rfl ?_
  rfl
structure a3O (C:Ctx):Prop extends aAE C where
 lowest:∀ neg a b,Lim a→Lim b→a.length≤35184372087808→b.length≤35184372087808→nl (val a)≤512→nl (val b)≤512→val b≠0→aI C 58 [.bool neg,aJ a,aJ b] .nil (aD (.agg (mA neg (val a) (val b)).rf.cells))
 size:∀ v:Int,cX v→aI C 59 [.int .i64 v] .nil (aD (.int .u64 (v.natAbs:Nat)))
def mkT (n d:Int):RF:=(mA (decide (n<0) != decide (d<0)) n.natAbs d.natAbs).rf
def uY (n d:Int):PV:=if d=0 then zG 3 else .tup [.agg (mkT n d).cells,.int .i64 0]
theorem bpU {C:Ctx} (L:a3O C) (n d:Int) (h1:cX n) (h2:cX d) :
  JU.wp C (aR ahR.res (bQ (uY n d))) (PF.args [.int .i64 n,.int .i64 d]) .nil:=by
 simp only[go_sem,δ,JU,aPC,aPD]
 refine aO fun o ho=>?_
 unfold uY
 by_cases c:d=0
 ·subst c
  simp only[go_sem,ρ,δ,γ,aPE]
  refine gX ?_
  simp only[go_sem,δ,γ,ahR]
 ·rw[if_neg c]
  simp only[go_sem,γ,reduceCtorEq,bF c,aPF]
  refine aA (L.size n h1) rfl ?_
  simp only[go_sem]
  refine aA (L.make n.natAbs Om) rfl ?_
  simp only[go_sem,γ]
  refine aA (L.size d h2) rfl ?_
  simp only[go_sem]
  refine aA (L.make d.natAbs Om) rfl ?_
  simp only[go_sem]
  have n1:nl n.natAbs≤2:=nD Om
  have n2:nl d.natAbs≤2:=nD Om
  have low:=L.lowest (decide (n<0) != decide (d<0)) (aH n.natAbs) (aH d.natAbs) (aU _) (aU _) (by rw[aZ]; omega) (by rw[aZ]; omega)
  rw[aQ,aQ] at low
  have low:=low Om Om Om
  refine aA low rfl ?_
  simp only[go_sem,δ,γ]
  exact aV (.inr rfl) .nil (vs:=[.agg (mkT n d).cells,.int .i64 0]) (by simp only[go_sem,δ,γ,ahR]; rfl) PH.nil_le ⟨.refl _,rfl⟩
structure aaJ (C:Ctx):Prop extends a3O C where
 fmk:∀ n d:Int,cX n→cX d→aI C 50 [.int .i64 n,.int .i64 d] .nil (aD (uY n d))
theorem a2F {C:Ctx} (L:aaJ C) (n:Int) (h1:cX n) :
  QQ.wp C (aR baH.res (bQ (.agg (mkT n 1).cells))) (PF.args [.int .i64 n]) .nil:=by
 simp only[go_sem,δ,QQ,a2G,a2H,baH]
 refine aO fun o ho=>?_
 simp only[go_sem,reduceCtorEq]
 refine aA (L.fmk n 1 h1 (by unfold cX; omega)) rfl ?_
 unfold uY
 rw[if_neg (by decide)]
 simp only[go_sem,δ,γ]
 refine aO fun p hp=>?_
 have hne:o≠p:=by
  rintro rfl
  simp only[bA,if_true] at hp
  cases hp
 have bIU:p≠o:=fun h=>hne h.symm
 simp only[go_sem,δ,γ,hne,a2I]
 refine aV (vs:=[.agg (mkT n 1).cells]) (.inr rfl) .nil ?_ PH.nil_le ⟨.refl _,rfl⟩
 simp only[go_sem,δ,γ,bIU]
end Go.PM
