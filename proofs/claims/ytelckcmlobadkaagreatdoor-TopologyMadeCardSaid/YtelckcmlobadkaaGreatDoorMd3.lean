/-
  Texts of ours, joined: FlCode Pm33 FlW1 FlPlain FlW2 FlW3 FlW4 FlW5 FlW6 FlW7 FlW8 FlW9 ToPlain ToCode ToW1 ToW2 Pm34 ToW3 ToW4 ToW5 ToW6 ToW7 ToW8 ToW9 ToW10 MkCode R1Code R1W1 R1W2 R1W3 R1W4. No condition.
-/
import Derived.Test.YtelckcmlobadkaaGreatDoorMd1
import Derived.Test.YtelckcmlobadkaaGreatDoorMd2

set_option linter.unusedSimpArgs false
set_option linter.unusedVariables false
open Nat renaming reduceEqDiff → γ, reduceAdd → δ, reduceSub → ε, reduceMul → ζ, reduceLT → η, reduceLeDiff → θ, reduceBEq → τ
open Int renaming reduceLT → ι, reduceLE → κ, reduceEq → μ, reduceToNat → ν, reduceAdd → ξ, reduceNeg → ο, reduceBEq → ρ, reduceBNe → σ
open List renaming reduceReplicate → υ
open List renaming length_map → bKY, range → bKZ, length_append → bLC, replicate → bLD, getElem_mem → bLF, length_singleton → bLH, getElem?_eq_getElem → bLL, mem_cons → bLO, getD_eq_getElem?_getD → bLP, take_of_length_le → bLQ, length_take → bLR, all_eq_true → bLU, not_mem_nil → bLW, take_length → bLZ, append_assoc → bMA, drop_zero → bMD, mem_map → bMF, getElem?_map → bMH, map_cons → bMI, getElem?_eq_none → bML, getElem?_eq_some_iff → bMM, getElem_map → bMN, getElem_of_mem → bMO, append_nil → bMP, mem_range → bMQ, mem_append → bMT, drop_eq_getElem_cons → bMU, map_append → bMW, Sublist → bMX, length_drop → bMY, map_nil → bMZ, take_succ_eq_append_getElem → bNC, length_nil → bNJ, length_set → bNL, length_cons → bNM, mem_of_getElem? → bNO, take_append_drop → bNP, nodup_append → bNQ, getElem?_append_left → bNV, ext_getElem → bNW, getElem?_append_right → bNX, getElem?_take → bNZ, set_append_right → bOA, drop_of_length_le → bOG
open Nat renaming gcd → bLA, zero_le → bLE, le_refl → bLG, mul_add → bLM, lt_or_ge → bLS, mul_assoc → bLV, zero_add → bLX, mul_comm → bLY, add_mul → bMB, mul_le_mul_right → bMC, mod_eq_of_lt → bMG, mod_lt → bMJ, pow_succ → bMR, add_zero → bMV, eq_zero_or_pos → bNA, min_eq_left → bNB, add_assoc → bND, le_trans → bNE, mul_le_mul_left → bNF, pos_of_ne_zero → bNG, pow_pos → bNN, div_lt_iff_lt_mul → bNR, div_le_self → bNY, div_add_mod → bOB, div_eq_of_lt → bOC
open Bool renaming not_true → bLB, false_and → bLI, not_false → bLK, true_and → bLN, and_eq_true → bLT, and_false → bMK, and_true → bNK, and_assoc → bNT, false_eq_true → bOF
open Option renaming map_eq_some_iff → bLJ, map_some → bME, getD_some → bNH, some → bNI, bind_eq_some_iff → bOD, bind_some → bOH
open Array renaming replicate → bMS, length_toList → bNS, getElem?_eq_getElem → bOE, getElem?_eq_some_iff → bOI
open Int renaming toNat_natCast → bNU
namespace Go.PM
open Go
def pO:Rg:=[iT 2 false]
def pP:Rg:=[iM 3 0,iA 4 (.bin .geq (Tm 3) (.const (.int .u8 97))),iM 5 4,gM 6 0 5 true,iG 7 (.bin .leq (Tm 6) (.const (.int .u8 122))) 5 true,iP 8 5 7,iM 9 8,gM 10 0 9 false,iG 11 (.bin .geq (Tm 10) (.const (.int .u8 65))) 9 false,gM 12 11 9 false,gM 13 0 12 true,iG 14 (.bin .leq (Tm 13) (.const (.int .u8 90))) 12 true,iG 15 (.pick (Tm 12) (Tm 14) (.const (.bool false))) 9 false,iQ 16 9 15,iM 2 16]
def lF:aB:=(sq pO (sq pP .ret))
def a8G:List Nat:=[]
def EX:aT:=⟨1,17,lF,[.tmp 2]⟩
def AA:Rg:=[iT 2 false]
def AB:Rg:=[iM 3 0,iA 4 (.bin .geq (Tm 3) (.const (.int .u8 48))),iM 5 4,gM 6 0 5 true,iG 7 (.bin .leq (Tm 6) (.const (.int .u8 57))) 5 true,iP 8 5 7,iM 2 8]
def qG:aB:=(sq AA (sq AB .ret))
def beE:List Nat:=[]
def NX:aT:=⟨1,9,qG,[.tmp 2]⟩
def aqI:Rg:=[iT 2 false]
def aqJ:Rg:=[iM 3 0,iK 4 126 3,iM 5 4,gM 6 0 5 false,gK 7 124 6 5 false,iQ 8 5 7,iM 9 8,gM 10 0 9 false,iG 11 (.bin .eql (Tm 10) (.const (.int .u8 45))) 9 false,iQ 12 9 11,iM 13 12,gM 14 0 13 false,iG 15 (.bin .eql (Tm 14) (.const (.int .u8 46))) 13 false,iQ 16 13 15,iM 2 16]
def BT:aB:=(sq aqI (sq aqJ .ret))
def beP:List Nat:=[]
def OA:aT:=⟨1,17,BT,[.tmp 2]⟩
def HH:Rg:=[iT 2 false]
def HI:Rg:=[iM 4 0,iA 5 (.bin .eql (Tm 4) (.const (.str []))),iM 6 5,gM 7 0 6 false,iG 8 (.bKC (Tm 7)) 6 false,gC 9 .gtr 8 16 6 false,iQ 10 6 9,iM 11 10,gM 12 0 11 false,iG 13 (.bKD (Tm 12) (Ci 0)) 11 false,gK 14 126 13 11 false,iG 15 (.un .not (Tm 14)) 11 false,iQ 16 11 15]
def HJ:Rg:=[iT 2 false]
def aHP:Rg:=[iI 3 0]
def aHQ:Rg:=[iM 17 3,iM 18 0,iA 19 (.bKC (Tm 18)),iB 20 .lss 17 19]
def aHR:Rg:=[iM 23 0,iM 24 3,iA 25 (.bKD (Tm 23) (Tm 24)),iK 26 125 25,iA 27 (.un .not (Tm 26))]
def aHS:Rg:=[iT 2 false]
def aHT:Rg:=[iM 21 3,iC 22 .add 21 1,iM 3 22]
def aHO:aB:=(.seq (sq aHQ (.cond (Tm 20) .skip (.exit 0))) (.seq (.block 1 (sq aHR (.cond (Tm 27) (sq aHS .ret) .skip))) (.region aHT)))
def aHU:Rg:=[iT 2 true]
def sL:aB:=(sq HH (.seq (sq HI (.cond (Tm 16) (sq HJ .ret) .skip)) (.seq (sq aHP (.block 0 (.loop aHO))) (sq aHU .ret))))
def bnF:List Nat:=[]
def adN:aT:=⟨1,28,sL,[.tmp 2]⟩
def acZ:Rg:=[iT 6 false]
def adA:Rg:=[iM 7 0,iM 8 1,iB 9 .geq 7 8,iM 10 9,gM 11 0 10 true,gM 12 2 10 true,gB 13 .leq 11 12 10 true,iP 14 10 13,iM 6 14]
def yK:aB:=(sq acZ (sq adA .ret))
def bxX:List Nat:=[]
def gin:aT:=⟨3,15,yK,[.tmp 6]⟩
def apC:Rg:=[iA 1 (.box true (Tm 0)),iT 2 false]
def apD:Rg:=[iF 3 1 1,iL 4 3,iK 5 128 4,iC 6 .gtr 5 0,iM 2 6]
def BM:aB:=(sq apC (sq apD .ret))
def bdR:List Nat:=[1]
def acX:aT:=⟨1,7,BM,[.tmp 2]⟩
def aXN:Rg:=[iA 1 (.box true (Tm 0)),iT 2 false]
def aXO:Rg:=[iO 6 3 1,iK 7 116 6,iM 5 7,iE 8 5 0,iE 9 5 1,iA 3 (.alloc [(.bool false),.bIU,.bIU]),iS 3 3 8,iM 4 9]
def SM:Rg:=[iM 10 4,iC 11 .eql 10 0,iM 12 11,gF 13 0 3 12 true,gL 14 13 12 true,iG 15 (.un .not (Tm 14)) 12 true,iP 16 12 15,iM 17 16,gF 18 1 3 17 true,gL 19 18 17 true,gK 20 128 19 17 true,gC 21 .leq 20 32 17 true,iP 22 17 21,iM 23 22,gF 24 2 3 23 true,gL 25 24 23 true,gK 26 128 25 23 true,gC 27 .leq 26 32 23 true,iP 28 23 27,iM 2 28]
def NQ:aB:=(sq aXN (sq aXO (sq SM .ret)))
def btA:List Nat:=[1]
def a6X:aT:=⟨1,29,NQ,[.tmp 2]⟩
def aXS:Rg:=[iA 1 (.box true (Tm 0)),iT 2 false]
def aXT:Rg:=[iA 8 (.call 115 [(Ci 1),(Ci 1)]),iM 7 8,iE 9 7 0,iE 10 7 1,iA 3 (.alloc [(.bool false),.bIU,.bIU]),iS 3 3 9,iM 4 10]
def aXU:Rg:=[iO 12 3 1,iO 13 3 3,iK2 14 114 12 13,iM 11 14,iE 15 11 0,iE 16 11 1,iM 5 15,iM 6 16]
def amI:Rg:=[iM 17 6,iC 18 .eql 17 0,iM 19 18,gM 20 5 19 true,gC 21 .leq 20 0 19 true,iP 22 19 21,iM 2 22]
def NS:aB:=(sq aXS (sq aXT (sq aXU (sq amI .ret))))
def btE:List Nat:=[1]
def gone:aT:=⟨1,23,NS,[.tmp 2]⟩
def aEC:Rg:=[iT 4 false]
def aED:Rg:=[iM 7 0,iN 8 7,iI 9 0]
def aEE:Rg:=[iB 10 .lss 9 8]
def aEF:Rg:=[iX 11 3 7 9,iO 12 3 11,iA 6 (.alloc [(.bool false),.bIU,.bIU]),iS 3 6 12]
def aEG:Rg:=[iM 13 1,iO 14 3 6,iA 15 (.bKF (Tm 13) [(Tm 14)]),iA 16 (.un .not (Tm 15))]
def aEH:Rg:=[iT 4 false]
def aEI:Rg:=[iC 17 .add 9 1,iM 9 17]
def aEB:aB:=(sq aEE (.seq (.cond (Tm 10) .skip (.exit 0)) (.seq (.block 1 (sq aEF (sq aEG (.cond (Tm 16) (sq aEH .ret) .skip)))) (.region aEI))))
def aEJ:Rg:=[iT 4 true]
def GK:aB:=(sq aEC (.seq (sq aED (.block 0 (.loop aEB))) (sq aEJ .ret)))
def blZ:List Nat:=[]
def aAA:aT:=⟨2,18,GK,[.tmp 4]⟩
def aEL:Rg:=[iT 4 false]
def aEM:Rg:=[iM 7 0,iN 8 7,iI 9 0]
def aEN:Rg:=[iB 10 .lss 9 8]
def aEO:Rg:=[iX 11 1 7 9,iL 12 11,iM 6 12]
def aEP:Rg:=[iM 13 1,iM 14 6,iA 15 (.bKF (Tm 13) [(Tm 14)]),iA 16 (.un .not (Tm 15))]
def aEQ:Rg:=[iT 4 false]
def aER:Rg:=[iC 17 .add 9 1,iM 9 17]
def aEK:aB:=(sq aEN (.seq (.cond (Tm 10) .skip (.exit 0)) (.seq (.block 1 (sq aEO (sq aEP (.cond (Tm 16) (sq aEQ .ret) .skip)))) (.region aER))))
def aES:Rg:=[iT 4 true]
def GL:aB:=(sq aEL (.seq (sq aEM (.block 0 (.loop aEK))) (sq aES .ret)))
def bmB:List Nat:=[]
def aAB:aT:=⟨2,18,GL,[.tmp 4]⟩
def aDT:Rg:=[iT 4 false]
def aDU:Rg:=[iM 7 0,iN 8 7,iI 9 0]
def aDV:Rg:=[iB 10 .lss 9 8]
def aDW:Rg:=[iX 11 1 7 9,iL 12 11,iM 6 12]
def aDX:Rg:=[iM 13 1,iM 14 6,iA 15 (.bKF (Tm 13) [(Tm 14)]),iA 16 (.un .not (Tm 15))]
def aDY:Rg:=[iT 4 false]
def aDZ:Rg:=[iC 17 .add 9 1,iM 9 17]
def aDS:aB:=(sq aDV (.seq (.cond (Tm 10) .skip (.exit 0)) (.seq (.block 1 (sq aDW (sq aDX (.cond (Tm 16) (sq aDY .ret) .skip)))) (.region aDZ))))
def aEA:Rg:=[iT 4 true]
def GJ:aB:=(sq aDT (.seq (sq aDU (.block 0 (.loop aDS))) (sq aEA .ret)))
def blX:List Nat:=[]
def azZ:aT:=⟨2,18,GJ,[.tmp 4]⟩
def apE:Rg:=[iT 2 false]
def apF:Rg:=[iM 3 0,iM 2 3]
def BN:aB:=(sq apE (sq apF .ret))
def bdT:List Nat:=[]
def acY:aT:=⟨1,4,BN,[.tmp 2]⟩
def aEX:Rg:=[iA 1 (.box true (Tm 0)),iT 2 false]
def aEY:Rg:=[iF 8 3 1,iL 9 8,iN 10 9,iA 11 (.bJE 1 1 [(.bool false)] (Tm 10) (Tm 10)),iM 3 11]
def aEZ:Rg:=[iI 4 0]
def aFA:Rg:=[iM 12 4,iM 13 3,iN 14 13,iB 15 .leq 12 14]
def aFB:Rg:=[iM 18 3,iN 19 18,iI 20 0]
def XH:Rg:=[iB 21 .lss 20 19]
def aFC:Rg:=[iM 22 20,iM 5 22]
def XI:Rg:=[iM 23 3,iM 24 5,iM 25 3,iM 26 5,iX 27 1 25 26,iL 28 27,iM 29 28,gF 30 3 1 29 false,gL 31 30 29 false,gM 32 5 29 false,iG 33 (.bJP 3 (Tm 31) (Tm 32)) 29 false,gO 34 3 33 29 false,gK 35 97 34 29 false,iQ 36 29 35,iX 37 1 23 24,iS 1 37 36]
def XJ:Rg:=[iF 38 2 1,iL 39 38,iM 40 5,iX 41 1 39 40,iL 42 41,iN 43 42,iI 44 0]
def aFD:Rg:=[iB 45 .lss 44 43]
def apH:Rg:=[iM 46 44,iX 47 3 42 44,iO 48 3 47,iA 7 (.alloc [(.bool false),.bIU,.bIU]),iM 6 46,iS 3 7 48]
def NN:Rg:=[iM 49 3,iM 50 5,iM 51 3,iM 52 5,iX 53 1 51 52,iL 54 53,iM 55 54,gO 56 3 7 55 false,gK 57 97 56 55 false,gM 58 57 55 false,gM 59 3 58 true,gM 60 6 58 true,iG 61 (.bJP 1 (Tm 59) (Tm 60)) 58 true,gL 62 61 58 true,iG 63 (.pick (Tm 58) (Tm 62) (.const (.bool false))) 55 false,iQ 64 55 63,iX 65 1 49 50,iS 1 65 64]
def zZ:Rg:=[iC 66 .add 44 1,iM 44 66]
def zX:aB:=(sq aFD (.seq (.cond (Tm 45) .skip (.exit 4)) (.seq (.block 5 (sq apH (.region NN))) (.region zZ))))
def NO:Rg:=[iC 67 .add 20 1,iM 20 67]
def zY:aB:=(sq XH (.seq (.cond (Tm 21) .skip (.exit 2)) (.seq (.block 3 (sq aFC (sq XI (sq XJ (.block 4 (.loop zX)))))) (.region NO))))
def apI:Rg:=[iM 16 4,iC 17 .add 16 1,iM 4 17]
def apG:aB:=(.seq (sq aFA (.cond (Tm 15) .skip (.exit 0))) (.seq (.block 1 (sq aFB (.block 2 (.loop zY)))) (.region apI)))
def apJ:Rg:=[iM 68 3,iA 69 (.call 98 [(Tm 68),(.const (.fn 103 []))]),iM 2 69]
def GM:aB:=(sq aEX (sq aEY (.seq (sq aEZ (.block 0 (.loop apG))) (sq apJ .ret))))
def bmE:List Nat:=[1]
def aAC:aT:=⟨1,70,GM,[.tmp 2]⟩
def aXF:Rg:=[iA 1 (.box true (Tm 0)),iT 2 false]
def aXG:Rg:=[iF 12 1 1,iL 13 12,iN 14 13,iM 3 14]
def aXH:Rg:=[iM 15 3,iA 16 (.call 104 [(Tm 15),(Ci 1),(Ci 4)]),iA 17 (.un .not (Tm 16)),iM 18 17,gF 19 3 1 18 false,gL 20 19 18 false,gN 21 20 18 false,gM 22 3 18 false,gB 23 .neq 21 22 18 false,iQ 24 18 23,iM 25 24,gF 26 2 1 25 false,gL 27 26 25 false,gN 28 27 25 false,gM 29 3 25 false,gB 30 .neq 28 29 25 false,iQ 31 25 30,iM 32 31,gF 33 1 1 32 false,gL 34 33 32 false,iG 35 (.call 99 [(Tm 34),(.const (.fn 105 []))]) 32 false,iG 36 (.un .not (Tm 35)) 32 false,iQ 37 32 36,iM 38 37,gF 39 3 1 38 false,gL 40 39 38 false,iG 41 (.call 99 [(Tm 40),(.const (.fn 105 []))]) 38 false,iG 42 (.un .not (Tm 41)) 38 false,iQ 43 38 42]
def xQ:Rg:=[iT 2 false]
def aXI:Rg:=[iF 44 2 1,iL 45 44,iN 46 45,iI 47 0]
def aXJ:Rg:=[iB 48 .lss 47 46]
def aXK:Rg:=[iM 49 47,iX 50 1 45 47,iL 51 50,iM 4 49,iM 5 51]
def aXL:Rg:=[iM 52 5,iN 53 52,iM 54 3,iB 55 .neq 53 54,iM 56 55,gM 57 5 56 false,iG 58 (.call 99 [(Tm 57),(.const (.fn 105 []))]) 56 false,iG 59 (.un .not (Tm 58)) 56 false,iQ 60 56 59,iM 61 60,gM 62 5 61 false,gM 63 4 61 false,iG 64 (.bJP 3 (Tm 62) (Tm 63)) 61 false,gO 65 3 64 61 false,gK 66 97 65 61 false,iQ 67 61 66]
def SL:Rg:=[iT 2 false]
def aXM:Rg:=[iC 68 .add 47 1,iM 47 68]
def aFE:aB:=(sq aXJ (.seq (.cond (Tm 48) .skip (.exit 0)) (.seq (.block 1 (sq aXK (sq aXL (.cond (Tm 67) (sq SL .ret) .skip)))) (.region aXM))))
def XK:Rg:=[iF 70 1 1,iL 71 70,iK 72 117 71,iM 69 72,iE 73 69 0,iE 74 69 1,iA 6 (.alloc [(.bool false),.bIU,.bIU]),iS 3 6 73,iM 7 74]
def GN:Rg:=[iA 76 (.call 115 [(Ci 1),(Ci 1)]),iM 75 76,iE 77 75 0,iE 78 75 1,iA 8 (.alloc [(.bool false),.bIU,.bIU]),iS 3 8 77,iM 9 78]
def GO:Rg:=[iO 80 3 6,iO 81 3 8,iK2 82 114 80 81,iM 79 82,iE 83 79 0,iE 84 79 1,iM 10 83,iM 11 84]
def tQ:Rg:=[iM 85 7,iC 86 .eql 85 0,iM 87 86,gM 88 10 87 true,gC 89 .eql 88 0 87 true,iP 90 87 89,iM 91 90,gO 92 4 1 91 true,gK 93 102 92 91 true,iP 94 91 93,iM 2 94]
def NP:aB:=(sq aXF (sq aXG (.seq (sq aXH (.cond (Tm 43) (sq xQ .ret) .skip)) (.seq (sq aXI (.block 0 (.loop aFE))) (sq XK (sq GN (sq GO (sq tQ .ret))))))))
def bsY:List Nat:=[1]
def a6W:aT:=⟨1,95,NP,[.tmp 2]⟩
def aFR:Rg:=[iT 2 false]
def aFS:Rg:=[iA 6 (.bKQ (false,[.str])),iM 3 6]
def aFT:Rg:=[iM 7 0,iN 8 7,iI 9 0]
def aFU:Rg:=[iB 10 .lss 9 8]
def aFV:Rg:=[iX 11 1 7 9,iL 12 11,iM 5 12]
def aFW:Rg:=[iM 13 5,iK 14 123 13,iA 15 (.un .not (Tm 14)),iM 16 15,gM 17 3 16 false,gM 18 5 16 false,iG 19 (.lookup (false,[.str]) (.bool false) (Tm 17) (Tm 18) false) 16 false,iQ 20 16 19]
def XN:Rg:=[iT 2 false]
def aFX:Rg:=[iM 21 3,iM 22 5,⟨none,.bJS (false,[.str]) (Tm 21) (Tm 22) (.const (.bool true)),none⟩]
def aFY:Rg:=[iC 23 .add 9 1,iM 9 23]
def aFQ:aB:=(sq aFU (.seq (.cond (Tm 10) .skip (.exit 0)) (.seq (.block 1 (sq aFV (.seq (sq aFW (.cond (Tm 20) (sq XN .ret) .skip)) (.region aFX)))) (.region aFY))))
def apM:Rg:=[iT 2 true]
def GT:aB:=(sq aFR (sq aFS (.seq (sq aFT (.block 0 (.loop aFQ))) (sq apM .ret))))
def bmL:List Nat:=[]
def aAF:aT:=⟨1,24,GT,[.tmp 2]⟩
def amG:Rg:=[iA 1 (.box true (Tm 0)),iT 2 false]
def amH:Rg:=[iF 6 3 1,iL 7 6,iN 8 7,iC 9 .eql 8 0]
def aWZ:Rg:=[iT 2 false]
def aXA:Rg:=[iF 10 3 1,iL 11 10,iA 12 (.bJP 7 (Tm 11) (Ci 0)),iO 13 7 12,iA 3 (.alloc [(.str []),(.int .i64 0),(.int .i64 0),(.int .i64 0),(.bool false),.bIU,.bIU]),iS 7 3 13]
def xP:Rg:=[iF 14 0 3,iL 15 14,iA 16 (.bin .neq (Tm 15) (.const (.str []))),iM 17 16,gF 18 1 3 17 false,gL 19 18 17 false,gC 20 .neq 19 0 17 false,iQ 21 17 20,iM 22 21,gF 23 2 3 22 false,gL 24 23 22 false,gC 25 .neq 24 (-1) 22 false,iQ 26 22 25,iM 27 26,gF 28 3 3 27 false,gL 29 28 27 false,gC 30 .neq 29 0 27 false,iQ 31 27 30,iM 32 31,gF 33 4 3 32 false,gO 34 3 33 32 false,gK 35 105 34 32 false,iG 36 (.un .not (Tm 35)) 32 false,iQ 37 32 36,iM 38 37,gF 39 4 3 38 false,gO 40 3 39 38 false,gK 41 97 40 38 false,iQ 42 38 41]
def tP:Rg:=[iT 2 false]
def aXB:Rg:=[iF 43 3 1,iL 44 43,iA 45 (.slice 7 (Tm 44) (some (Ci 1)) none none),iN 46 45,iI 47 0]
def aXC:Rg:=[iB 48 .lss 47 46]
def aXD:Rg:=[iM 49 47,iX 50 7 45 47,iO 51 7 50,iA 5 (.alloc [(.str []),(.int .i64 0),(.int .i64 0),(.int .i64 0),(.bool false),.bIU,.bIU]),iM 4 49,iS 7 5 51]
def aXE:Rd:=[(iF 52 2 5,false),(iL 53 52,false),(iM 54 4,false),(iA 55 (.call 104 [(Tm 53),(Ci 0),(Tm 54)]),true),(iA 56 (.un .not (Tm 55)),false),(iM 57 56,false),(gF 58 3 1 57 false,false),(gL 59 58 57 false,false),(gF 60 2 5 57 false,false),(gL 61 60 57 false,false),(iG 62 (.bJP 7 (Tm 59) (Tm 61)) 57 false,false),(gF 63 1 62 57 false,false),(gL 64 63 57 false,false),(gF 65 1 5 57 false,false),(gL 66 65 57 false,false),(gC 67 .sub 66 1 57 false,false),(gB 68 .neq 64 67 57 false,false),(iQ 69 57 68,false),(iM 70 69,false),(gF 71 1 5 70 false,false),(gL 72 71 70 false,false),(iG 73 (.call 104 [(Tm 72),(Ci 1),(Ci 4)]) 70 false,true),(iG 74 (.un .not (Tm 73)) 70 false,false),(iQ 75 70 74,false),(iM 76 75,false),(gF 77 3 5 76 false,false),(gL 78 77 76 false,false),(iG 79 (.call 104 [(Tm 78),(Ci 1),(Ci 64)]) 76 false,true),(iG 80 (.un .not (Tm 79)) 76 false,false),(iQ 81 76 80,false),(iM 82 81,false),(gF 83 4 5 82 false,false),(gO 84 3 83 82 false,false),(gK 85 105 84 82 false,true),(iG 86 (.un .not (Tm 85)) 82 false,false),(iQ 87 82 86,false)]
def tO:Rg:=[iT 2 false]
def aEV:Rg:=[iC 88 .add 47 1,iM 47 88]
def aEU:aB:=(sq aXC (.seq (.cond (Tm 48) .skip (.exit 0)) (.seq (.block 1 (sq aXD (dq aXE (.cond (Tm 87) (sq tO .ret) .skip)))) (.region aEV))))
def aEW:Rg:=[iT 2 true]
def zW:aB:=(sq amG (.seq (sq amH (.cond (Tm 9) (sq aWZ .ret) .skip)) (sq aXA (.seq (sq xP (.cond (Tm 42) (sq tP .ret) .skip)) (.seq (sq aXB (.block 0 (.loop aEU))) (sq aEW .ret))))))
def bsW:List Nat:=[1]
def aET:aT:=⟨1,89,zW,[.tmp 2]⟩
def aFF:Rg:=[iT 2 false]
def aFG:Rg:=[iM 3 0,iA 4 (.call 104 [(Tm 3),(Ci 0),(Ci 8)]),iM 2 4]
def GP:aB:=(sq aFF (sq aFG .ret))
def bmG:List Nat:=[]
def aAD:aT:=⟨1,5,GP,[.tmp 2]⟩
def aXP:Rg:=[iA 7 (.box true (Tm 3)),iT 8 false]
def aXQ:Rg:=[iM 9 0,iA 10 (.call 104 [(Tm 9),(Ci 1),(Ci 6)]),iA 11 (.un .not (Tm 10)),iM 12 11,gM 13 1 12 false,iG 14 (.call 104 [(Tm 13),(Ci 0),(Ci 4)]) 12 false,iG 15 (.un .not (Tm 14)) 12 false,iQ 16 12 15,iM 17 16,gM 18 0 17 false,gM 19 1 17 false,gB 20 .add 18 19 17 false,gC 21 .gtr 20 8 17 false,iQ 22 17 21,iM 23 22,gM 24 2 23 false,gM 25 0 23 false,gM 26 0 23 false,gM 27 1 23 false,gB 28 .add 26 27 23 false,iG 29 (.call 104 [(Tm 24),(Tm 25),(Tm 28)]) 23 false,iG 30 (.un .not (Tm 29)) 23 false,iQ 31 23 30,iM 32 31,iG 33 (.idxA 5 1 (Tm 7) (Ci 0)) 32 false,gL 34 33 32 false,gC 35 .neq 34 0 32 false,iQ 36 32 35]
def xR:Rg:=[iT 8 false]
def aXR:Rg:=[iA 37 (.sliceA 5 1 (Tm 7) none none none),iA 38 (.call 100 [(Tm 37),(.const (.fn 107 []))]),iM 8 38]
def NR:aB:=(sq aXP (.seq (sq aXQ (.cond (Tm 36) (sq xR .ret) .skip)) (sq aXR .ret)))
def btC:List Nat:=[7]
def a6Y:aT:=⟨4,39,NR,[.tmp 8]⟩
def apK:Rg:=[iA 1 (.box true (Tm 0)),iT 2 false]
def apL:Rg:=[iO 3 3 1,iK 4 105 3,iM 5 4,gO 6 3 1 5 true,gK 7 97 6 5 true,iP 8 5 7,iM 2 8]
def BO:aB:=(sq apK (sq apL .ret))
def bdW:List Nat:=[1]
def adB:aT:=⟨1,9,BO,[.tmp 2]⟩
def aFK:Rg:=[iA 6 (.box true (Tm 2)),iA 7 (.box true (Tm 3)),iT 8 false]
def aFL:Rg:=[iM 9 1,iN 10 9,iM 11 0,iA 12 (.bJV true (Tm 11) (Ci 1)),iB 13 .eql 10 12,iM 14 13,gM 15 1 14 true,iG 16 (.call 99 [(Tm 15),(.const (.fn 109 []))]) 14 true,iP 17 14 16,iM 18 17,gO 19 3 6 18 true,gK 20 105 19 18 true,iP 21 18 20,iM 22 21,gO 23 3 6 22 true,gK 24 101 23 22 true,iP 25 22 24,iM 26 25,gO 27 3 7 26 true,gK 28 105 27 26 true,iP 29 26 28,iM 8 29]
def GQ:aB:=(sq aFK (sq aFL .ret))
def bmI:List Nat:=[6,7]
def aAE:aT:=⟨4,30,GQ,[.tmp 8]⟩
def aXV:Rg:=[iA 2 (.box true (Tm 0)),iT 4 false]
def aXW:Rg:=[iF 8 1 2,iL 9 8,iF 10 2 2,iL 11 10,iF 12 3 2,iL 13 12,iF 14 4 2,iO 15 5 14,iA 16 (.call 106 [(Tm 9),(Tm 11),(Tm 13),(Tm 15)]),iA 17 (.un .not (Tm 16)),iM 18 17,gF 19 9 2 18 false,gL 20 19 18 false,gN 21 20 18 false,gC 22 .eql 21 0 18 false,iQ 23 18 22,iM 24 23,gF 25 2 2 24 false,gL 26 25 24 false,gF 27 10 2 24 false,gL 28 27 24 false,gF 29 11 2 24 false,gO 30 3 29 24 false,gF 31 14 2 24 false,gO 32 3 31 24 false,iG 33 (.call 108 [(Tm 26),(Tm 28),(Tm 30),(Tm 32)]) 24 false,iG 34 (.un .not (Tm 33)) 24 false,iQ 35 24 34]
def SN:Rg:=[iT 4 false]
def aXX:Rg:=[iM 36 1,iA 37 (.bJE 1 1 [(.bool false)] (Tm 36) (Tm 36)),iM 5 37]
def aXY:Rg:=[iF 38 9 2,iL 39 38,iN 40 39,iI 41 0]
def aXZ:Rg:=[iB 42 .lss 41 40]
def aYA:Rg:=[iX 43 1 39 41,iL 44 43,iM 7 44]
def aYB:Rg:=[iM 45 7,iM 46 1,iC 47 .sub 46 1,iA 48 (.call 104 [(Tm 45),(Ci 0),(Tm 47)]),iA 49 (.un .not (Tm 48)),iM 50 49,gM 51 5 50 false,gM 52 7 50 false,iG 53 (.bJP 1 (Tm 51) (Tm 52)) 50 false,gL 54 53 50 false,iQ 55 50 54]
def amJ:Rg:=[iT 4 false]
def aYC:Rg:=[iM 56 5,iM 57 7,iX 58 1 56 57,⟨none,.store 1 (Tm 58) (.const (.bool true)),none⟩]
def aFI:Rg:=[iC 59 .add 41 1,iM 41 59]
def aFH:aB:=(sq aXZ (.seq (.cond (Tm 42) .skip (.exit 0)) (.seq (.block 1 (sq aYA (.seq (sq aYB (.cond (Tm 55) (sq amJ .ret) .skip)) (.region aYC)))) (.region aFI))))
def aFJ:Rg:=[iT 4 true]
def NT:aB:=(sq aXV (.seq (sq aXW (.cond (Tm 35) (sq SN .ret) .skip)) (sq aXX (.seq (sq aXY (.block 0 (.loop aFH))) (sq aFJ .ret)))))
def btG:List Nat:=[2]
def a6Z:aT:=⟨2,60,NT,[.tmp 4]⟩
def aYD:Rg:=[iA 1 (.box true (Tm 0)),iI 2 0]
def aYE:Rg:=[iF 21 0 1,iL 22 21,iA 23 (.call 104 [(Tm 22),(Ci 1),(Ci 4)]),iA 24 (.un .not (Tm 23)),iM 25 24,gF 26 1 1 25 false,gL 27 26 25 false,gN 28 27 25 false,gC 29 .gtr 28 4 25 false,iQ 30 25 29,iM 31 30,gF 32 2 1 31 false,gL 33 32 31 false,gN 34 33 31 false,gC 35 .gtr 34 4 31 false,iQ 36 31 35,iM 37 36,gF 38 3 1 37 false,gL 39 38 37 false,gN 40 39 37 false,gC 41 .gtr 40 40 37 false,iQ 42 37 41,iM 43 42,gF 44 4 1 43 false,gL 45 44 43 false,gN 46 45 43 false,gC 47 .gtr 46 24 43 false,iQ 48 43 47,iM 49 48,gF 50 5 1 49 false,gL 51 50 49 false,gN 52 51 49 false,gC 53 .gtr 52 4 49 false,iQ 54 49 53,iM 55 54,gF 56 6 1 55 false,gL 57 56 55 false,gN 58 57 55 false,gC 59 .gtr 58 12 55 false,iQ 60 55 59,iM 61 60,gO 62 7 1 61 false,gK 63 111 62 61 false,iG 64 (.un .not (Tm 63)) 61 false,iQ 65 61 64]
def pM:Rg:=[iI 2 1]
def aYF:Rg:=[iZ 3,iZ 4,iZ 5,iZ 6,iZ 7]
def aYG:Rg:=[iT 8 true]
def amK:Rg:=[iF 66 1 1,iL 67 66,iN 68 67,iI 69 0]
def aYH:Rg:=[iB 70 .lss 69 68]
def aYI:Rg:=[iX 71 4 67 69,iO 72 4 71,iA 10 (.alloc [(.str []),.bIU,.bIU,.bIU]),iS 4 10 72]
def aYJ:Rg:=[iM 73 3,iF 74 0 10,iL 75 74,iA 76 (.bIZ true 1 1 [(.str [])] [(0,(Tm 75))]),iA 77 (.append 1 16 (Tm 73) (Tm 76)),iM 3 77]
def amL:Rg:=[iM 78 8,iM 79 78,gO 80 4 10 79 true,gK 81 95 80 79 true,iP 82 79 81,iM 8 82]
def XO:Rg:=[iC 83 .add 69 1,iM 69 83]
def GU:aB:=(sq aYH (.seq (.cond (Tm 70) .skip (.exit 0)) (.seq (.block 1 (sq aYI (sq aYJ (.region amL)))) (.region XO))))
def XP:Rg:=[iF 84 2 1,iL 85 84,iN 86 85,iI 87 0]
def aFZ:Rg:=[iB 88 .lss 87 86]
def aGA:Rg:=[iX 89 4 85 87,iO 90 4 89,iA 12 (.alloc [(.str []),(.int .i64 0),(.int .i64 0),(.int .i64 0)]),iS 4 12 90]
def aGB:Rg:=[iM 91 4,iF 92 0 12,iL 93 92,iA 94 (.bIZ true 1 1 [(.str [])] [(0,(Tm 93))]),iA 95 (.append 1 16 (Tm 91) (Tm 94)),iM 4 95]
def XQ:Rg:=[iM 96 8,iM 97 96,gF 98 1 12 97 true,gL 99 98 97 true,iG 100 (.call 104 [(Tm 99),(Ci 1),(Ci 16)]) 97 true,iP 101 97 100,iM 102 101,gF 103 2 12 102 true,gL 104 103 102 true,iG 105 (.call 104 [(Tm 104),(Ci 1),(Ci 64)]) 102 true,iP 106 102 105,iM 107 106,gF 108 3 12 107 true,gL 109 108 107 true,gF 110 1 1 107 true,gL 111 110 107 true,gN 112 111 107 true,gC 113 .sub 112 1 107 true,iG 114 (.call 104 [(Tm 109),(Ci 0),(Tm 113)]) 107 true,iP 115 107 114,iM 8 115]
def yN:Rg:=[iC 116 .add 87 1,iM 87 116]
def GW:aB:=(sq aFZ (.seq (.cond (Tm 88) .skip (.exit 2)) (.seq (.block 3 (sq aGA (sq aGB (.region XQ)))) (.region yN))))
def XR:Rg:=[iF 117 3 1,iL 118 117,iA 119 (.slice 7 (Tm 118) (some (Ci 1)) none none),iN 120 119,iI 121 0]
def aGC:Rg:=[iB 122 .lss 121 120]
def aGD:Rg:=[iX 123 7 119 121,iO 124 7 123,iA 14 (.alloc [(.str []),(.int .i64 0),(.int .i64 0),(.int .i64 0),(.bool false),.bIU,.bIU]),iS 7 14 124]
def aGE:Rg:=[iM 125 5,iF 126 0 14,iL 127 126,iA 128 (.bIZ true 1 1 [(.str [])] [(0,(Tm 127))]),iA 129 (.append 1 16 (Tm 125) (Tm 128)),iM 5 129]
def aGF:Rg:=[iC 130 .add 121 1,iM 121 130]
def GX:aB:=(sq aGC (.seq (.cond (Tm 122) .skip (.exit 4)) (.seq (.block 5 (sq aGD (.region aGE))) (.region aGF))))
def XS:Rg:=[iF 131 4 1,iL 132 131,iN 133 132,iI 134 0]
def aGG:Rg:=[iB 135 .lss 134 133]
def aGH:Rg:=[iX 136 3 132 134,iO 137 3 136,iA 16 (.alloc [(.str []),(.int .i64 0),(.int .i64 0)]),iS 3 16 137]
def aGI:Rg:=[iM 138 5,iF 139 0 16,iL 140 139,iA 141 (.bIZ true 1 1 [(.str [])] [(0,(Tm 140))]),iA 142 (.append 1 16 (Tm 138) (Tm 141)),iM 5 142]
def XT:Rg:=[iM 143 8,iM 144 143,gF 145 1 16 144 true,gL 146 145 144 true,gF 147 2 1 144 true,gL 148 147 144 true,gN 149 148 144 true,gC 150 .sub 149 1 144 true,iG 151 (.call 104 [(Tm 146),(Ci 0),(Tm 150)]) 144 true,iP 152 144 151,iM 153 152,gF 154 2 16 153 true,gL 155 154 153 true,gF 156 3 1 153 true,gL 157 156 153 true,gN 158 157 153 true,gC 159 .sub 158 1 153 true,iG 160 (.call 104 [(Tm 155),(Ci 0),(Tm 159)]) 153 true,iP 161 153 160,iM 162 161,gF 163 3 1 162 true,gL 164 163 162 true,gF 165 2 16 162 true,gL 166 165 162 true,iG 167 (.bJP 7 (Tm 164) (Tm 166)) 162 true,gF 168 1 167 162 true,gL 169 168 162 true,gC 170 .eql 169 4 162 true,iP 171 162 170,iM 8 171]
def tR:Rg:=[iC 172 .add 134 1,iM 134 172]
def GY:aB:=(sq aGG (.seq (.cond (Tm 135) .skip (.exit 6)) (.seq (.block 7 (sq aGH (sq aGI (.region XT)))) (.region tR))))
def XU:Rg:=[iF 173 5 1,iL 174 173,iN 175 174,iI 176 0]
def aGJ:Rg:=[iB 177 .lss 176 175]
def aGK:Rg:=[iX 178 17 174 176,iO 179 17 178,iA 18 (.alloc [(.str []),(.int .i64 0),(.int .i64 0),(.int .i64 0),(.int .i64 0),(.int .i64 0),(.int .i64 0),(.int .i64 0),(.int .i64 0),.bIU,.bIU,(.bool false),.bIU,.bIU,(.bool false),.bIU,.bIU]),iS 17 18 179]
def aGL:Rg:=[iM 180 6,iF 181 0 18,iL 182 181,iA 183 (.bIZ true 1 1 [(.str [])] [(0,(Tm 182))]),iA 184 (.append 1 16 (Tm 180) (Tm 183)),iM 6 184]
def XV:Rg:=[iM 185 8,iM 186 185,gO 187 17 18 186 true,gF 188 2 1 186 true,gL 189 188 186 true,gN 190 189 186 true,gK2 191 112 187 190 186 true,iP 192 186 191,iM 8 192]
def XW:Rg:=[iC 193 .add 176 1,iM 176 193]
def GZ:aB:=(sq aGJ (.seq (.cond (Tm 177) .skip (.exit 8)) (.seq (.block 9 (sq aGK (sq aGL (.region XV)))) (.region XW))))
def XY:Rg:=[iF 194 6 1,iL 195 194,iN 196 195,iI 197 0]
def aGM:Rg:=[iB 198 .lss 197 196]
def aGN:Rg:=[iX 199 2 195 197,iO 200 2 199,iA 20 (.alloc [(.str []),(.int .i64 0)]),iS 2 20 200]
def aGO:Rg:=[iM 201 7,iF 202 0 20,iL 203 202,iA 204 (.bIZ true 1 1 [(.str [])] [(0,(Tm 203))]),iA 205 (.append 1 16 (Tm 201) (Tm 204)),iM 7 205]
def XZ:Rg:=[iM 206 8,iM 207 206,gF 208 1 20 207 true,gL 209 208 207 true,gF 210 5 1 207 true,gL 211 210 207 true,gN 212 211 207 true,gC 213 .sub 212 1 207 true,iG 214 (.call 104 [(Tm 209),(Ci 0),(Tm 213)]) 207 true,iP 215 207 214,iM 8 215]
def YA:Rg:=[iC 216 .add 197 1,iM 197 216]
def HA:aB:=(sq aGM (.seq (.cond (Tm 198) .skip (.exit 10)) (.seq (.block 11 (sq aGN (sq aGO (.region XZ)))) (.region YA))))
def yO:Rg:=[iM 217 8,iA 218 (.un .not (Tm 217)),iM 219 218,gM 220 3 219 false,gK 221 110 220 219 false,iG 222 (.un .not (Tm 221)) 219 false,iQ 223 219 222,iM 224 223,gM 225 4 224 false,gK 226 110 225 224 false,iG 227 (.un .not (Tm 226)) 224 false,iQ 228 224 227,iM 229 228,gM 230 5 229 false,gK 231 110 230 229 false,iG 232 (.un .not (Tm 231)) 229 false,iQ 233 229 232,iM 234 233,gM 235 6 234 false,gK 236 110 235 234 false,iG 237 (.un .not (Tm 236)) 234 false,iQ 238 234 237,iM 239 238,gM 240 7 239 false,gK 241 110 240 239 false,iG 242 (.un .not (Tm 241)) 239 false,iQ 243 239 242]
def nK:Rg:=[iI 2 1]
def HB:Rg:=[iI 2 0]
def NU:aB:=(sq aYD (.seq (sq aYE (.cond (Tm 65) (sq pM .ret) .skip)) (sq aYF (sq aYG (.seq (sq amK (.block 0 (.loop GU))) (.seq (sq XP (.block 2 (.loop GW))) (.seq (sq XR (.block 4 (.loop GX))) (.seq (sq XS (.block 6 (.loop GY))) (.seq (sq XU (.block 8 (.loop GZ))) (.seq (sq XY (.block 10 (.loop HA))) (.seq (sq yO (.cond (Tm 243) (sq nK .ret) .skip)) (sq HB .ret))))))))))))
def btJ:List Nat:=[1,76,94,128,141,183,204]
def a7C:aT:=⟨1,244,NU,[.tmp 2]⟩
@[go_sem] theorem bAR (a b:List UInt8):MW .eql a b=some (.bool (a==b)):=(rfl)
@[go_sem] theorem bAS (a b:List UInt8):MW .neq a b=some (.bool !(a==b)):=(rfl)
@[go_sem] theorem a5V (a b:List UInt8):MW .add a b=if ((a.length+b.length:Nat):Int)>9223372036854775807 then none else some (.str (a++b)):=(rfl)
@[go_sem] theorem bxF:(([]:List UInt8)==[])=true:=(rfl)
@[go_sem] theorem brY (c:UInt8) (t:List UInt8):((c::t)==[])=false:=(rfl)
theorem pJ {a b:List UInt8} (h:a=b):(a==b)=true:=by simp[h]
theorem abV {a b:List UInt8} (h:a≠b):(a==b)=false:=by simp[h]
section
variable {C:Ctx} {F:PF} {H:PH}
theorem qI {name o s:Nat} {rs:List (List PV)} {vs:List PV} {v:PV} {args:List aP} {d:Option Nat} {K:PF→PH→Prop} (h:aH C name vs .nil (aF v)) (ho:H o=some (.rows s rs))
  (ha:aP.evs (F.frz o s rs) args=some vs) (hK:K ((F.frz o s rs).put d v) (H.frz o s rs)):gS C name args [] d K F H:=by
 refine .inr ⟨_,_,.step o ho (.refl _ _),vs,.nil,aF v,?_,PH.nil_le,h,?_⟩
 ·rw[ha]; simp
 ·rintro r H' ⟨rfl,rfl⟩ -
  rw[PH.yW]
  exact hK
theorem jU.trans {F1 F2 F3:PF} {H1 H2 H3:PH} (h:jU F1 H1 F2 H2) (k:jU F2 H2 F3 H3):jU F1 H1 F3 H3:=by
 induction h with
 | refl=>exact k
 | step o ho h ih=>exact .step o ho (ih k)
theorem pY {c:aB} {K:bY} {s:Nat} {v:PV} {rows:List (List PV)} (ho:aY H s v rows)
  (h:∀ v1,Seen s v1 rows→∀ F1 H1,(∀ t,F t=some v→F1 t=some v1)→(∀ i u,F i=some u→Pure u→F1 i=some u)→aB.wp C (.loop c) K F1 H1):aB.wp C (.loop c) K F H:=by
 obtain⟨v1,hs,hf⟩:=ho.frz
 obtain⟨F1,H1,hz,h1,h2⟩:=hf F
 obtain⟨α,Fs,Hs,Pr,m,a0,F2,H2,hz2,rest⟩:=h v1 hs F1 H1 h1 h2
 exact⟨α,Fs,Hs,Pr,m,a0,F2,H2,hz.trans hz2,rest⟩
theorem aH.baS {name s:Nat} {v:PV} {rows:List (List PV)} {H0:PH} {R:PV→PH→Prop} (h:aH C name [.sl s rows] H0 R) (hs:Seen s v rows):aH C name [v] H0 R:=by
 rcases hs with ⟨rfl,rfl⟩ | rfl
 ·refine h.args ⟨rfl,fun j p q hp hq=>?_⟩
  cases j with
  | zero=>simp at hp hq; subst hp; subst hq; exact .nil s
  | succ j=>simp at hp
 ·exact h
theorem aY.fresh {s:Nat} {v:PV} {rows:List (List PV)} {o:Nat} (h:aY H s v rows) (ho:H o=none) (x:cD):aY (H.set o x) s v rows∧∀ l,v≠.osl o s 0 l:=by
 refine⟨h.ext fun q y hq=>?_,fun l e=>?_⟩
 ·have:q≠o:=by rintro rfl; rw[ho] at hq; cases hq
  simp only[bB,if_neg this,hq]
 ·rcases h with ⟨_,h2⟩ | ⟨q,rs,h1,h2,_⟩
  ·rw[h2] at e; cases e
  ·rw[h1] at e
   injection e with e1
   subst e1
   rw[ho] at h2; cases h2
theorem mU {s b:Nat} {v:PV} {rows:List (List PV)} {r:List PV} {o:Nat} {x:cD} {K:PV→PH→Prop} (h:aY H s v rows) (ho:H o=none) (hr:roomFor rows.length 1 b)
  (hk:∀ v' H',aY H' s v' (rows++[r])→H' o=some x→K v' H'):nP (H.set o x) s b v (.sl s [r]) K:=by
 obtain⟨h1,h2⟩:=h.fresh ho x
 refine dC (src:=[r]) h1 (by simp[dY]) hr fun v' H' hO hp=>hk v' H' hO (hp o x (by simp only[bB,if_true]) h2)
theorem xO {o s k:Nat} {rs:List (List PV)} (hk:k≤rs.length):PV.frz o s rs (.osl o s 0 k)=.sl s (rs.take k):=by
 have:0+k≤rs.length:=by omega
 simp only[PV.frz,PV.sG,PV.dN,if_true,true_and,if_pos this,bMD]
end
open Go Go.Na
def eO (n:Nat):Bool:=decide (97≤n)&&decide (n≤122)||decide (65≤n)&&decide (n≤90)
def lW (n:Nat):Bool:=decide (48≤n)&&decide (n≤57)
def fG (n:Nat):Bool:=eO n||lW n||decide (n=45)||decide (n=46)
theorem a8F {C:Ctx} (n:Nat):lF.wp C (aS EX.res (aF (.bool (eO n)))) (PF.args [.int .u8 n]) .nil:=by
 have fin:∀ (F:PF) (b:Bool),F 2=some (.bool b)→b=eO n→aS EX.res (aF (.bool (eO n))) .ret F .nil:=by
  intro F b h e
  subst e
  refine aM (.inr rfl) (vs:=[.bool (eO n)]) (by simp only[go_sem,EX,h]) rfl
 unfold eO at *
 by_cases a:97≤n
 ·have a':(n:Int)≥97:=by omega
  by_cases b:n≤122
  ·have b':(n:Int)≤122:=by omega
   simp only[go_sem,γ,reduceCtorEq,lF,pO,pP,a',b']
   exact fin _ _ rfl (by simp[a,b])
  ·have b':¬ (n:Int)≤122:=by omega
   by_cases c:65≤n
   ·have c':(n:Int)≥65:=by omega
    have d:¬ (n:Int)≤90:=by omega
    simp only[go_sem,γ,reduceCtorEq,lF,pO,pP,a',b',c',d]
    exact fin _ _ rfl (by simp[a,b,c]; omega)
   ·omega
 ·have a':¬ (n:Int)≥97:=by omega
  by_cases c:65≤n
  ·have c':(n:Int)≥65:=by omega
   by_cases d:n≤90
   ·have d':(n:Int)≤90:=by omega
    simp only[go_sem,γ,reduceCtorEq,lF,pO,pP,a',c',d']
    exact fin _ _ rfl (by simp[a,c,d])
   ·have d':¬ (n:Int)≤90:=by omega
    simp only[go_sem,γ,reduceCtorEq,lF,pO,pP,a',c',d']
    exact fin _ _ rfl (by simp[a,c,d])
  ·have c':¬ (n:Int)≥65:=by omega
   simp only[go_sem,γ,reduceCtorEq,lF,pO,pP,a',c']
   exact fin _ _ rfl (by simp[a,c])
theorem beD {C:Ctx} (n:Nat):qG.wp C (aS NX.res (aF (.bool (lW n)))) (PF.args [.int .u8 n]) .nil:=by
 have fin:∀ (F:PF) (b:Bool),F 2=some (.bool b)→b=lW n→aS NX.res (aF (.bool (lW n))) .ret F .nil:=by
  intro F b h e
  subst e
  refine aM (.inr rfl) (vs:=[.bool (lW n)]) (by simp only[go_sem,NX,h]) rfl
 unfold lW at *
 by_cases a:48≤n
 ·have a':(n:Int)≥48:=by omega
  by_cases b:n≤57
  ·have b':(n:Int)≤57:=by omega
   simp only[go_sem,γ,reduceCtorEq,qG,AA,AB,a',b']
   exact fin _ _ rfl (by simp[a,b])
  ·have b':¬ (n:Int)≤57:=by omega
   simp only[go_sem,γ,reduceCtorEq,qG,AA,AB,a',b']
   exact fin _ _ rfl (by simp[a,b])
 ·have a':¬ (n:Int)≥48:=by omega
  simp only[go_sem,γ,reduceCtorEq,qG,AA,AB,a']
  exact fin _ _ rfl (by simp[a])
theorem beO {C:Ctx} (h1:∀ n:Nat,aH C 126 [.int .u8 n] .nil (aF (.bool (eO n)))) (h2:∀ n:Nat,aH C 124 [.int .u8 n] .nil (aF (.bool (lW n)))) (n:Nat) :
  BT.wp C (aS OA.res (aF (.bool (fG n)))) (PF.args [.int .u8 n]) .nil:=by
 have fin:∀ (F:PF) (b:Bool),F 2=some (.bool b)→b=fG n→aS OA.res (aF (.bool (fG n))) .ret F .nil:=by
  intro F b h e
  subst e
  refine aM (.inr rfl) (vs:=[.bool (fG n)]) (by simp only[go_sem,OA,h]) rfl
 simp only[go_sem,reduceCtorEq,BT,aqI,aqJ]
 refine aA (h1 n) rfl ?_
 cases hl:eO n with
 | true =>
  simp only[go_sem,γ]
  exact fin _ _ rfl (by simp[fG,hl])
 | false =>
  simp only[go_sem,γ,reduceCtorEq]
  refine aA (h2 n) rfl ?_
  cases hd:lW n with
  | true =>
   simp only[go_sem,γ,reduceCtorEq]
   exact fin _ _ rfl (by simp[fG,hd])
  | false =>
   by_cases c:n=45
   ·simp only[go_sem,γ,reduceCtorEq,bN (Om:(n:Int)=45)]
    exact fin _ _ rfl (by simp[fG,c])
   ·by_cases d:n=46
    ·simp only[go_sem,γ,reduceCtorEq,bC (Om:(n:Int)≠45),bN (Om:(n:Int)=46)]
     exact fin _ _ rfl (by simp[fG,d])
    ·simp only[go_sem,γ,reduceCtorEq,bC (Om:(n:Int)≠45),bC (Om:(n:Int)≠46)]
     exact fin _ _ rfl (by simp[fG,c,d,hl,hd])
def isName (s:List UInt8):Bool:=match s with
 | []=>false
 | c::_=>decide (s.length≤16)&&eO c.toNat&&s.all fun c=>fG c.toNat
theorem oS {α:Type} {p:α→Bool} {l:List α} {k:Nat} (hk:k<l.length) (h:(l.take k).all p=true) (hp:p l[k]=true):(l.take (k+1)).all p=true:=by
 rw[bNC hk,List.all_append,h]; simp[hp]
theorem oT {α:Type} {p:α→Bool} {l:List α} {k:Nat} (hk:k<l.length) (hp:p l[k]=false):l.all p=false:=by
 rw[List.all_eq_false]
 exact⟨l[k],bLF hk,by simp[hp]⟩
def aHN (s:List UInt8) (k:Nat):PF:=((PF.nil.set 0 (.str s)).set 3 (.int .i64 k))
theorem bnE {C:Ctx} (h1:∀ n:Nat,aH C 126 [.int .u8 n] .nil (aF (.bool (eO n)))) (h2:∀ n:Nat,aH C 125 [.int .u8 n] .nil (aF (.bool (fG n)))) (s:List UInt8) :
  sL.wp C (aS adN.res (aF (.bool (isName s)))) (PF.args [.str s]) .nil:=by
 have fin:∀ (F:PF) (b:Bool),F 2=some (.bool b)→b=isName s→aS adN.res (aF (.bool (isName s))) .ret F .nil:=by
  intro F b h e
  subst e
  refine aM (.inr rfl) (vs:=[.bool (isName s)]) (by simp only[go_sem,adN,h]) rfl
 cases s with
 | nil =>
  simp only[go_sem,γ,reduceCtorEq,sL,HH,HI,HJ]
  exact fin _ _ rfl rfl
 | cons c t =>
  have hz:(c::t)[0]?=some c:=rfl
  have hne:(c::t==[])=false:=rfl
  have hN:isName (c::t)=(decide ((c::t).length≤16)&&eO c.toNat&&(c::t).all fun c=>fG c.toNat):=rfl
  generalize c::t=s at *
  by_cases hl:s.length≤16
  ·have hl':¬ ((s.length:Nat):Int)>16:=by omega
   rw[decide_eq_true hl,bLN] at hN
   simp only[go_sem,ν,γ,reduceCtorEq,sL,HH,HI,hne,hl',hz,bME]
   refine aA (h1 c.toNat) rfl ?_
   cases hc:eO c.toNat with
   | false =>
    simp only[go_sem,γ,reduceCtorEq,bLK,HJ]
    exact fin _ _ rfl (by rw[hN,hc]; rfl)
   | true =>
    rw[hc,bLN] at hN
    simp only[go_sem,γ,reduceCtorEq,bLB,aHP]
    refine wp_loop (α:=Nat) (fun k=>aHN s k) (fun _=>.nil) (fun k=>k≤s.length∧(s.take k).all (fun c=>fG c.toNat)=true) (fun k=>s.length-k) 0 ⟨bLE _,rfl⟩ ?_ PH.nil_le ?_
    ·unfold aHN
     exact Lq
    rintro k ⟨hk,ha⟩
    simp only[go_sem,γ,reduceCtorEq,aHO,aHQ,aHN]
    by_cases hlt:k<s.length
    ·have bJA:(k:Int)<(s.length:Nat):=by omega
     have hg:s[k]?=some s[k]:=bLL hlt
     simp only[go_sem,γ,reduceCtorEq,bJA,aHR,hg,bME]
     refine aA (h2 (s[k]).toNat) rfl ?_
     cases hi:fG (s[k]).toNat with
     | false =>
      simp only[go_sem,γ,reduceCtorEq,bLK,aHS]
      refine fin _ false rfl ?_
      rw[hN,oT hlt hi]
     | true =>
      simp only[go_sem,γ,reduceCtorEq,bLB,aHT,ws k]
      refine aE (k+1) ⟨hlt,bLU.1 (oS hlt ha hi)⟩ Om ?_ PH.nil_le
      exact Lq
    ·have bJA:¬ (k:Int)<(s.length:Nat):=by omega
     simp only[go_sem,bJA,aHU]
     have:k=s.length:=by omega
     subst this
     rw[bLQ (bLG _)] at ha
     exact fin _ true rfl (by rw[hN,ha])
  ·have hl':((s.length:Nat):Int)>16:=by omega
   simp only[go_sem,γ,reduceCtorEq,sL,HH,HI,HJ,hne,hl']
   exact fin _ _ rfl (by rw[hN,decide_eq_false hl]; rfl)
abbrev cZ (x:Int):Prop:=-9223372036854775808≤x∧x≤9223372036854775807
structure bZ where
 name:List UInt8
 start:List RF
 bIY:List (List RF)
 exit:List RF
structure cL where
 name:List UInt8
 bJO:Int
 port:Int
 law:Int
structure cI where
 name:List UInt8
 level:Int
 parent:Int
 bJU:Int
 bJM:RF
structure dB where
 name:List UInt8
 model:Int
 machine:Int
structure cJ where
 name:List UInt8
 k:Int
 m:Int
 bJY:Int
 s0:Int
 s1:Int
 s2:Int
 s3:Int
 s4:Int
 bIT:List Int
 repair:List RF
 target:RF
 bJG:RF
structure eN where
 name:List UInt8
 bJI:Int
structure aD where
 bKI:Int
 bJD:List bZ
 bIT:List cL
 bIW:List cI
 bIS:List dB
 bIX:List cJ
 bIV:List eN
abbrev baO (l:List (List RF)):PV:=.sl 1 (l.map fun r=>[frs r])
abbrev bZ.cells (x:bZ):List PV:=[.str x.name,frs x.start,baO x.bIY,frs x.exit]
abbrev cL.cells (x:cL):List PV:=[.str x.name,.int .i64 x.bJO,.int .i64 x.port,.int .i64 x.law]
abbrev cI.cells (x:cI):List PV:=[.str x.name,.int .i64 x.level,.int .i64 x.parent,.int .i64 x.bJU,.bool x.bJM.neg,aJ x.bJM.num,aJ x.bJM.den]
abbrev dB.cells (x:dB):List PV:=[.str x.name,.int .i64 x.model,.int .i64 x.machine]
abbrev cJ.cells (x:cJ):List PV:=[.str x.name,.int .i64 x.k,.int .i64 x.m,.int .i64 x.bJY,.int .i64 x.s0,.int .i64 x.s1,.int .i64 x.s2,.int .i64 x.s3,.int .i64 x.s4,ints x.bIT,frs x.repair,
 .bool x.target.neg,aJ x.target.num,aJ x.target.den,.bool x.bJG.neg,aJ x.bJG.num,aJ x.bJG.den]
abbrev eN.cells (x:eN):List PV:=[.str x.name,.int .i64 x.bJI]
abbrev aD.cells (f:aD):List PV:=[.int .i64 f.bKI,.sl 4 (f.bJD.map bZ.cells),.sl 4 (f.bIT.map cL.cells),.sl 7 (f.bIW.map cI.cells),.sl 3 (f.bIS.map dB.cells),.sl 17 (f.bIX.map cJ.cells),.sl 2 (f.bIV.map eN.cells)]
def cJ.spread (p:cJ) (level:Nat):Int:=match level with
 | 0=>p.s0
 | 1=>p.s1
 | 2=>p.s2
 | 3=>p.s3
 | _=>p.s4
abbrev Fits {α:Type} (l:List α):Prop:=l.length≤9223372036854775807
structure jT (l:List RF):Prop where
 fits:Fits l
 all:∀ x∈l,x.Ok
structure bZ.Ok (x:bZ):Prop where
 start:jT x.start
 exit:jT x.exit
 bIY:Fits x.bIY
 row:∀ r∈x.bIY,jT r
structure cJ.Ok (x:cJ):Prop where
 k:cZ x.k
 m:cZ x.m
 bJY:cZ x.bJY
 bIT:Fits x.bIT
 each:∀ m∈x.bIT,cZ m
 repair:jT x.repair
 target:x.target.Ok
 bJG:x.bJG.Ok
structure aD.Ok (f:aD):Prop where
 bJD:Fits f.bJD
 bIT:Fits f.bIT
 bIW:Fits f.bIW
 bIS:Fits f.bIS
 bIX:Fits f.bIX
 bIV:Fits f.bIV
 law:∀ x∈f.bJD,x.Ok
 dom:∀ x∈f.bIW,x.bJM.Ok∧cZ x.level∧cZ x.parent
 drive:∀ x∈f.bIS,cZ x.model∧cZ x.machine
 bJI:∀ x∈f.bIX,x.Ok
 volume:∀ x∈f.bIV,cZ x.bJI
def oI (x:RF):FR:=if cO (val x.num) (val x.den) then iJ x.neg (val x.num) (val x.den) else .error 1
theorem baH (x:RF):SZ x.neg (val x.num) (val x.den)=frV (oI x):=by
 unfold SZ oI
 split
 ·exact amQ _ _ _
 ·rfl
def cM (x:RF):Bool:=match oI x with
 | .ok (n,a,b)=>!n&&(decide (cG a≤32)&&decide (cG b≤32))
 | .error _=>false
def bL (x:RF):Bool:=decide (val x.num≠0)
def vY (x:RF):Bool:=cO (val x.num) (val x.den)&&decide (pC x.neg (val x.num) (val x.den) false 1 1≤0)
def within (n lo hi:Int):Bool:=decide (lo≤n)&&decide (n≤hi)
def cE (R:List Bool) (i:Nat) (row:List RF):Nat→List Bool
 | 0=>R
 | k+1=>let R':=cE R i row k
  R'.set i (R'.getD i false||(row.map bL).getD k false&&R'.getD k false)
def kG (l:bZ) (R:List Bool) (i:Nat):List Bool :=
 cE (R.set i (R.getD i false||(l.exit.map bL).getD i false)) i (l.bIY.getD i []) (l.bIY.getD i []).length
def cQ (l:bZ) (R:List Bool):Nat→List Bool
 | 0=>R
 | i+1=>kG l (cQ l R i) i
def cS (l:bZ):Nat→List Bool
 | 0=>bLD l.exit.length false
 | r+1=>cQ l (cS l r) l.exit.length
def oK (l:bZ):Bool:=(cS l (l.exit.length+1)).all id
def jZ (l:bZ):Bool :=
 within l.start.length 1 4&&decide (l.exit.length=l.start.length)&&decide (l.bIY.length=l.start.length)&&l.start.all cM&&l.exit.all cM
 && (bKZ l.bIY.length).all (fun i=>decide ((l.bIY.getD i []).length=l.start.length)&&(l.bIY.getD i []).all cM&&!((l.bIY.getD i []).map bL).getD i false)
 && (match nE (l.start.map RF.v) with
  | .ok (n,a,b)=>decide (pC n a b false 1 1=0)
  | .error _=>false)&&oK l
def distinct (l:List (List UInt8)):Bool:=(bKZ l.length).all fun i=>isName (l.getD i [])&&!(l.take i).contains (l.getD i [])
def FX (f:aD) (i:Nat) (d:cI):Bool :=
 within d.parent 0 i&&decide ((f.bIW.map cI.level).getD d.parent.toNat 0=IntKind.i64.wrap (d.level-1))&&within d.level 1 4&&within d.bJU 1 64&&cM d.bJM
def zS (f:aD) (r:cI) (t:List cI):Bool :=
 decide (r.name=[])&&decide (r.level=0)&&decide (r.parent=-1)&&decide (r.bJU=0)&&cM r.bJM&&!bL r.bJM
  && (bKZ t.length).all fun i=>match t[i]? with
   | some d=>FX f i d
   | none=>false
def nJ (f:aD):Bool:=match f.bIW with
 | []=>false
 | r::t=>zS f r t
def IR (p:cJ):Bool :=
 within p.k 1 6&&within p.m 0 4&&decide (p.k+p.m≤8)&&within p.bJY p.k (p.k+p.m)&&decide (p.s0=0)&&([p.s0,p.s1,p.s2,p.s3,p.s4].all fun n=>within n 0 8)
def AF (p:cJ):Bool :=
 decide ((p.repair.length:Int)=max p.m 1)&&(p.repair.all fun x=>cM x&&bL x)&&cM p.target&&vY p.target&&cM p.bJG
def jI (bIT:Nat) (p:cJ):Bool :=
 IR p&&decide (p.bIT.length≠0)&&AF p&&(bKZ p.bIT.length).all fun j=>within (p.bIT.getD j 0) 0 ((bIT:Int)-1)&&!(p.bIT.take j).contains (p.bIT.getD j 0)
def kA (f:aD) (m:cL):Bool:=within m.bJO 1 16&&within m.port 1 64&&within m.law 0 ((f.bJD.length:Int)-1)
def iR (f:aD) (d:dB):Bool:=within d.model 0 ((f.bIT.length:Int)-1)&&within d.machine 0 ((f.bIW.length:Int)-1)&&decide ((f.bIW.map cI.level).getD d.machine.toNat 0=4)
def nO (f:aD) (v:eN):Bool:=within v.bJI 0 ((f.bIX.length:Int)-1)
def nC (f:aD):Bool:=within f.bKI 1 4&&decide (f.bJD.length≤4)&&decide (f.bIT.length≤4)&&decide (f.bIW.length≤40)&&decide (f.bIS.length≤24)&&decide (f.bIX.length≤4)&&decide (f.bIV.length≤12)
def cX (f:aD):Bool :=
 nC f&&nJ f&&(f.bJD.all jZ&&f.bIT.all (kA f)&&f.bIS.all (iR f)&&f.bIX.all (jI f.bIT.length)&&f.bIV.all (nO f))
 && (distinct (f.bJD.map bZ.name)&&distinct (f.bIT.map cL.name)&&distinct ((f.bIW.drop 1).map cI.name++f.bIS.map dB.name)&&distinct (f.bIX.map cJ.name)&&distinct (f.bIV.map eN.name))
theorem aZ {t:Nat} {b b':Bool} {F:PF} {H:PH} (h:F t=some (.bool b)) (e:b=b'):aS [.tmp t] (bQ (.bool b')) .ret F H:=by
 subst e
 exact aV (.inr rfl) .nil (vs:=[.bool b]) (by rw[lI,oE,h,pU]) PH.nil_le ⟨.refl _,rfl⟩
theorem bxW {C:Ctx} (n lo hi:Int):yK.wp C (aS gin.res (bQ (.bool (within n lo hi)))) (PF.args [.int .i64 n,.int .i64 lo,.int .i64 hi]) .nil:=by
 by_cases a:lo≤n
 ·by_cases b:n≤hi
  ·simp only[go_sem,γ,reduceCtorEq,yK,acZ,adA,gin,show n≥lo from a,b]
   exact aZ rfl (by simp[within,a,b])
  ·simp only[go_sem,γ,reduceCtorEq,yK,acZ,adA,gin,show n≥lo from a,b]
   exact aZ rfl (by simp[within,a,b])
 ·have a':¬ n≥lo:=a
  simp only[go_sem,γ,reduceCtorEq,yK,acZ,adA,gin,a']
  exact aZ rfl (by simp[within,a])
theorem bdQ {C:Ctx} (L:rY C) (x:RF) (hx:x.Ok):BM.wp C (aS acX.res (bQ (.bool (bL x)))) (PF.args [.agg x.cells]) .nil:=by
 simp only[go_sem,δ,γ,θ,BM,apC,apD,acX]
 refine aA (L.bits x.num hx.1 hx.2.2.1) rfl ?_
 simp only[go_sem,γ]
 refine aZ rfl ?_
 have:=@jX (val x.num)
 rw[bL,decide_eq_decide]
 omega
structure azU (C:Ctx):Prop extends FQ C where
 frac:∀ n d:Int,cZ n→cZ d→aH C 115 [.int .i64 n,.int .i64 d] .nil (aF (adR n d))
 red:∀ x:RF,x.Ok→aH C 116 [.agg x.cells] .nil (aF (frV (oI x)))
 ord:∀ x y:RF,x.Ok→y.Ok→aH C 114 [.agg x.cells,.agg y.cells] .nil (aF (zT x.neg (val x.num) (val x.den) y.neg (val y.num) (val y.den)))
 plus:∀ x y:RF,x.Ok→y.Ok→aH C 113 [.agg x.cells,.agg y.cells] .nil (aF (frV (gT x.v y.v)))
 tot:∀ l:List RF,jT l→aH C 117 [frs l] .nil (aF (frV (nE (l.map RF.v))))
theorem HK {neg:Bool} {a b:Nat} {e:Int} (h:iJ neg a b=.error e):e=2:=by
 unfold iJ at h
 split at h
 ·injection h with h; exact h.symm
 ·cases h
theorem aMC {x:RF} {e:Int} (h:oI x=.error e):e≠0:=by
 unfold oI at h
 split at h
 ·rw[HK h]; decide
 ·injection h with h; subst h; decide
theorem bvK {x:RF} {r:FV} (h:oI x=.ok r):r.rf.Ok:=by
 unfold oI at h
 split at h
 ·exact (sM h).2
 ·cases h
theorem bsZ {C:Ctx} (L:azU C) (x:RF) (hx:x.Ok):NQ.wp C (aS a6X.res (bQ (.bool (cM x)))) (PF.args [.agg x.cells]) .nil:=by
 simp only[go_sem,δ,γ,NQ,aXN,aXO,a6X]
 refine aA (L.red x hx) rfl ?_
 unfold cM
 cases hr:oI x with
 | error e =>
  have:=bC (aMC hr)
  simp only[go_sem,δ,γ,frV]
  refine aN fun o ho=>?_
  simp only[go_sem,δ,γ,reduceCtorEq,SM,this]
  exact aZ rfl rfl
 | ok r =>
  obtain⟨n,a,b⟩:=r
  obtain⟨l1,l2,l3,l4⟩:=bvK hr
  simp only[go_sem,δ,γ,frV]
  refine aN fun o ho=>?_
  cases n with
  | true =>
   simp only[go_sem,ρ,δ,γ,θ,reduceCtorEq,SM]
   exact aZ rfl rfl
  | false =>
   simp only[go_sem,ρ,δ,γ,θ,SM]
   refine aA (L.bits _ l1 l3) rfl ?_
   rw[show val (FV.rf (false,a,b)).num=a from aR a]
   by_cases c1:cG a≤32
   ·have c1':((cG a:Nat):Int)≤32:=by omega
    simp only[go_sem,δ,γ,c1']
    refine aA (L.bits _ l2 l4) rfl ?_
    rw[show val (FV.rf (false,a,b)).den=b from aR b]
    simp only[go_sem,γ]
    refine aZ rfl ?_
    rw[decide_eq_true c1]
    simp
    omega
   ·have c1':¬ ((cG a:Nat):Int)≤32:=by omega
    simp only[go_sem,γ,reduceCtorEq,c1']
    refine aZ rfl ?_
    rw[decide_eq_false c1]
    rfl
theorem aHX:iJ false 1 1=.ok (false,1,1):=by
 have:cG 1=1:=by rw[oU (by decide),jN]
 simp[iJ,this]
theorem aIA:adR 1 1=frV (.ok (false,1,1)):=by
 rw[adR,if_neg (by decide),amQ]
 show frV (iJ false 1 1)=_
 rw[aHX]
theorem bgN:(FV.rf (false,1,1)).Ok:=(sM aHX).2
theorem axR:cO 1 1=true:=by
 have:cG 1=1:=by rw[oU (by decide),jN]
 simp[cO,this]
theorem btD {C:Ctx} (L:azU C) (x:RF) (hx:x.Ok):NS.wp C (aS gone.res (bQ (.bool (vY x)))) (PF.args [.agg x.cells]) .nil:=by
 simp only[go_sem,NS,aXS,aXT,gone]
 refine aA (L.frac 1 1 (by decide) (by decide)) rfl ?_
 rw[aIA]
 simp only[go_sem,δ,γ,frV]
 refine aN fun o ho=>?_
 simp only[go_sem,δ,γ,aXU]
 refine aA (L.ord x (FV.rf (false,1,1)) hx bgN) rfl ?_
 rw[show val (FV.rf (false,1,1)).num=1 from aR 1,show val (FV.rf (false,1,1)).den=1 from aR 1,show (FV.rf (false,1,1)).neg=false from rfl]
 unfold zT vY
 rw[axR,bNK]
 cases hv:cO (val x.num) (val x.den) with
 | false =>
  simp only[go_sem,ρ,γ,reduceCtorEq,amI]
  exact aZ rfl rfl
 | true =>
  simp only[go_sem,ρ,γ,amI]
  exact aZ rfl rfl
theorem blY {C:Ctx} (p:RF→Bool) (fn:Nat) (l:List RF) (hf:Fits l) (h:∀ x∈l,aH C fn [.agg x.cells] .nil (aF (.bool (p x)))) :
  GK.wp C (aS aAA.res (bQ (.bool (l.all p)))) (PF.args [frs l,.fn fn []]) .nil:=by
 simp only[go_sem,γ,reduceCtorEq,GK,aEC,aED,aAA]
 refine wp_loop (α:=Nat) (fun k=>((((PF.nil.set 1 (.fn fn [])).set 7 (frs l)).set 8 (.int .i64 (l.length:Nat))).set 9 (.int .i64 k))) (fun _=>.nil) (fun k=>k≤l.length∧(l.take k).all p=true) (fun k=>l.length-k) 0 ⟨bLE _,rfl⟩ ?_ PH.nil_le ?_
 ·(repeat' (first|exact PF.nil_le|refine PF.aG ?_ ?_))<;>first|(simp only[go_sem,γ,bKY]<;>rfl)|rfl
 rintro k ⟨hk,ha⟩
 simp only[go_sem,γ,aEB,aEE]
 by_cases hlt:k<l.length
 ·have bJA:(k:Int)<(l.length:Nat):=by omega
  have hr:(l.map RF.cells)[k]?=some (l[k]).cells:=by simp[hlt]
  simp only[go_sem,δ,γ,bJA,aEF,hr]
  refine aN fun o ho=>?_
  simp only[go_sem,δ,γ,aEG]
  refine⟨fn,[],rfl,?_⟩
  refine aA (h _ (bLF hlt)) rfl ?_
  cases hp:p l[k] with
  | false =>
   simp only[go_sem,γ,aEH]
   exact aZ (b:=false) rfl (oT (p:=p) hlt hp).symm
  | true =>
   simp only[go_sem,γ,aEI,ws k]
   refine aE (k+1) ⟨hlt,bLU.1 (oS hlt ha hp)⟩ Om ?_ PH.nil_le
   exact Lq
 ·have bJA:¬ (k:Int)<(l.length:Nat):=by omega
  simp only[go_sem,bJA,aEJ]
  have:k=l.length:=by omega
  subst this
  rw[bLQ (bLG _)] at ha
  exact aZ rfl ha.symm
theorem bmA {C:Ctx} (p:Int→Bool) (fn:Nat) (l:List Int) (hf:Fits l) (h:∀ x∈l,aH C fn [.int .i64 x] .nil (aF (.bool (p x)))) :
  GL.wp C (aS aAB.res (bQ (.bool (l.all p)))) (PF.args [ints l,.fn fn []]) .nil:=by
 simp only[go_sem,γ,reduceCtorEq,GL,aEL,aEM,aAB]
 refine wp_loop (α:=Nat) (fun k=>((((PF.nil.set 1 (.fn fn [])).set 7 (ints l)).set 8 (.int .i64 (l.length:Nat))).set 9 (.int .i64 k))) (fun _=>.nil) (fun k=>k≤l.length∧(l.take k).all p=true) (fun k=>l.length-k) 0 ⟨bLE _,rfl⟩ ?_ PH.nil_le ?_
 ·(repeat' (first|exact PF.nil_le|refine PF.aG ?_ ?_))<;>first|(simp only[go_sem,γ,bKY]<;>rfl)|rfl
 rintro k ⟨hk,ha⟩
 simp only[go_sem,γ,aEK,aEN]
 by_cases hlt:k<l.length
 ·have bJA:(k:Int)<(l.length:Nat):=by omega
  have hr:(l.map fun n=>[PV.int .i64 n])[k]?=some [.int .i64 l[k]]:=by simp[hlt]
  simp only[go_sem,γ,bJA,aEO,hr,aEP]
  refine⟨fn,[],rfl,?_⟩
  refine aA (h _ (bLF hlt)) rfl ?_
  cases hp:p l[k] with
  | false =>
   simp only[go_sem,γ,aEQ]
   exact aZ (b:=false) rfl (oT (p:=p) hlt hp).symm
  | true =>
   simp only[go_sem,γ,aER,ws k]
   refine aE (k+1) ⟨hlt,bLU.1 (oS hlt ha hp)⟩ Om ?_ PH.nil_le
   exact Lq
 ·have bJA:¬ (k:Int)<(l.length:Nat):=by omega
  simp only[go_sem,bJA,aES]
  have:k=l.length:=by omega
  subst this
  rw[bLQ (bLG _)] at ha
  exact aZ rfl ha.symm
abbrev a5W (l:List Bool):PV:=.sl 1 (l.map fun b=>[PV.bool b])
theorem blW {C:Ctx} (p:Bool→Bool) (fn:Nat) (l:List Bool) (hf:Fits l) (h:∀ x∈l,aH C fn [.bool x] .nil (aF (.bool (p x)))) :
  GJ.wp C (aS azZ.res (bQ (.bool (l.all p)))) (PF.args [a5W l,.fn fn []]) .nil:=by
 simp only[go_sem,γ,reduceCtorEq,GJ,aDT,aDU,azZ]
 refine wp_loop (α:=Nat) (fun k=>((((PF.nil.set 1 (.fn fn [])).set 7 (a5W l)).set 8 (.int .i64 (l.length:Nat))).set 9 (.int .i64 k))) (fun _=>.nil) (fun k=>k≤l.length∧(l.take k).all p=true) (fun k=>l.length-k) 0 ⟨bLE _,rfl⟩ ?_ PH.nil_le ?_
 ·(repeat' (first|exact PF.nil_le|refine PF.aG ?_ ?_))<;>first|(simp only[go_sem,γ,bKY]<;>rfl)|rfl
 rintro k ⟨hk,ha⟩
 simp only[go_sem,γ,aDS,aDV]
 by_cases hlt:k<l.length
 ·have bJA:(k:Int)<(l.length:Nat):=by omega
  have hr:(l.map fun b=>[PV.bool b])[k]?=some [.bool l[k]]:=by simp[hlt]
  simp only[go_sem,γ,bJA,aDW,hr,aDX]
  refine⟨fn,[],rfl,?_⟩
  refine aA (h _ (bLF hlt)) rfl ?_
  cases hp:p l[k] with
  | false =>
   simp only[go_sem,γ,aDY]
   exact aZ (b:=false) rfl (oT (p:=p) hlt hp).symm
  | true =>
   simp only[go_sem,γ,aDZ,ws k]
   refine aE (k+1) ⟨hlt,bLU.1 (oS hlt ha hp)⟩ Om ?_ PH.nil_le
   exact Lq
 ·have bJA:¬ (k:Int)<(l.length:Nat):=by omega
  simp only[go_sem,bJA,aEA]
  have:k=l.length:=by omega
  subst this
  rw[bLQ (bLG _)] at ha
  exact aZ rfl ha.symm
theorem bdS {C:Ctx} (b:Bool):BN.wp C (aS acY.res (bQ (.bool b))) (PF.args [.bool b]) .nil:=by
 simp only[go_sem,γ,reduceCtorEq,BN,apE,apF,acY]
 exact aZ rfl rfl
theorem bmF {C:Ctx} (hin:∀ n lo hi:Int,aH C 104 [.int .i64 n,.int .i64 lo,.int .i64 hi] .nil (aF (.bool (within n lo hi)))) (n:Int):GP.wp C (aS aAD.res (bQ (.bool (within n 0 8)))) (PF.args [.int .i64 n]) .nil:=by
 simp only[go_sem,reduceCtorEq,GP,aFF,aFG,aAD]
 refine aA (hin n 0 8) rfl ?_
 simp only[go_sem,γ]
 exact aZ rfl rfl
theorem bdV {C:Ctx} (h1:∀ x:RF,x.Ok→aH C 105 [.agg x.cells] .nil (aF (.bool (cM x)))) (h2:∀ x:RF,x.Ok→aH C 97 [.agg x.cells] .nil (aF (.bool (bL x)))) (x:RF) (hx:x.Ok) :
  BO.wp C (aS adB.res (bQ (.bool (cM x&&bL x)))) (PF.args [.agg x.cells]) .nil:=by
 simp only[go_sem,δ,γ,BO,apK,apL,adB]
 refine aA (h1 x hx) rfl ?_
 cases hl:cM x with
 | false =>
  simp only[go_sem,γ,reduceCtorEq]
  exact aZ rfl rfl
 | true =>
  simp only[go_sem,δ,γ]
  refine aA (h2 x hx) rfl ?_
  simp only[go_sem,γ]
  exact aZ rfl rfl
structure rS (C:Ctx):Prop extends azU C where
 inn:∀ n lo hi:Int,aH C 104 [.int .i64 n,.int .i64 lo,.int .i64 hi] .nil (aF (.bool (within n lo hi)))
 kN:∀ x:RF,x.Ok→aH C 97 [.agg x.cells] .nil (aF (.bool (bL x)))
 lim:∀ x:RF,x.Ok→aH C 105 [.agg x.cells] .nil (aF (.bool (cM x)))
 one:∀ x:RF,x.Ok→aH C 101 [.agg x.cells] .nil (aF (.bool (vY x)))
 allf:∀ (p:RF→Bool) (fn:Nat) (l:List RF),Fits l→(∀ x∈l,aH C fn [.agg x.cells] .nil (aF (.bool (p x))))→aH C 99 [frs l,.fn fn []] .nil (aF (.bool (l.all p)))
 alli:∀ (p:Int→Bool) (fn:Nat) (l:List Int),Fits l→(∀ x∈l,aH C fn [.int .i64 x] .nil (aF (.bool (p x))))→aH C 100 [ints l,.fn fn []] .nil (aF (.bool (l.all p)))
 allb:∀ (p:Bool→Bool) (fn:Nat) (l:List Bool),Fits l→(∀ x∈l,aH C fn [.bool x] .nil (aF (.bool (p x))))→aH C 98 [a5W l,.fn fn []] .nil (aF (.bool (l.all p)))
 ends1:∀ b:Bool,aH C 103 [.bool b] .nil (aF (.bool b))
 num1:∀ n:Int,aH C 107 [.int .i64 n] .nil (aF (.bool (within n 0 8)))
 rate1:∀ x:RF,x.Ok→aH C 109 [.agg x.cells] .nil (aF (.bool (cM x&&bL x)))
 name:∀ s:List UInt8,aH C 123 [.str s] .nil (aF (.bool (isName s)))
theorem rS.bmX {C:Ctx} (L:rS C) (l:List RF) (h:jT l):aH C 99 [frs l,.fn 105 []] .nil (aF (.bool (l.all cM))) :=
 L.allf cM 105 l h.fits fun x hx=>L.lim x (h.all x hx)
theorem within_iff {n lo hi:Int}:within n lo hi=true↔lo≤n∧n≤hi:=by simp[within]
theorem btB {C:Ctx} (L:rS C) (p:cJ) (hp:p.Ok) :
  NR.wp C (aS a6Y.res (bQ (.bool (IR p)))) (PF.args [.int .i64 p.k,.int .i64 p.m,.int .i64 p.bJY,.agg [.int .i64 p.s0,.int .i64 p.s1,.int .i64 p.s2,.int .i64 p.s3,.int .i64 p.s4]]) .nil:=by
 simp only[go_sem,reduceCtorEq,NR,aXP,aXQ,a6Y]
 refine aA (L.inn p.k 1 6) rfl ?_
 unfold IR
 cases h1:within p.k 1 6 with
 | false =>
  simp only[go_sem,γ,bLK,xR]
  exact aZ rfl (by simp only[bLI])
 | true =>
  obtain⟨k1,k2⟩:=within_iff.1 h1
  simp only[go_sem,γ,bLB]
  refine aA (L.inn p.m 0 4) rfl ?_
  cases h2:within p.m 0 4 with
  | false =>
   simp only[go_sem,γ,reduceCtorEq,bLK,xR]
   exact aZ rfl (by simp only[bLI,bMK])
  | true =>
   obtain⟨m1,m2⟩:=within_iff.1 h2
   have hw:IntKind.i64.wrap (p.k+p.m)=p.k+p.m:=wrap_i64 Om Om
   by_cases h3:p.k+p.m≤8
   ·have h3':¬ p.k+p.m>8:=by omega
    simp only[go_sem,γ,reduceCtorEq,bLB,hw,h3']
    refine aA (L.inn p.bJY p.k (p.k+p.m)) rfl ?_
    cases h4:within p.bJY p.k (p.k+p.m) with
    | false =>
     simp only[go_sem,γ,reduceCtorEq,bLK,xR]
     exact aZ rfl (by simp only[bLI,bMK])
    | true =>
     have h50:(0:Int)<((5:Nat):Int):=by decide
     by_cases h5:p.s0=0
     ·have hch:chunks 1 5 [PV.int .i64 p.s0,.int .i64 p.s1,.int .i64 p.s2,.int .i64 p.s3,.int .i64 p.s4]=([p.s0,p.s1,p.s2,p.s3,p.s4].map fun n=>[PV.int .i64 n]):=rfl
      have hm:5≤maxLen:=by decide
      simp only[go_sem,ν,δ,γ,η,θ,ζ,reduceCtorEq,bLB,h50,cA h5,aXR,hch,hm]
      refine aA (L.alli (fun n=>within n 0 8) 107 [p.s0,p.s1,p.s2,p.s3,p.s4] (show 5≤9223372036854775807 by decide) fun x _=>L.num1 x) rfl ?_
      simp only[go_sem,γ]
      exact aZ rfl (by rw[decide_eq_true h3,decide_eq_true h5]; simp only[bLN])
     ·simp only[go_sem,ν,δ,γ,θ,ζ,reduceCtorEq,bLB,h50,cV h5,xR]
      exact aZ rfl (by rw[decide_eq_false h5]; simp only[bLI,bMK])
   ·have h3':p.k+p.m>8:=by omega
    simp only[go_sem,γ,reduceCtorEq,bLB,hw,h3',xR]
    exact aZ rfl (by rw[decide_eq_false h3]; simp only[bLI,bMK])
theorem max_eq (a b:Int):(if a<b then b else a)=max a b:=by
 rw[Int.max_def]
 by_cases h:a<b
 ·rw[if_pos h,if_pos Om]
 ·by_cases h':a≤b
  ·rw[if_neg h,if_pos h']; omega
  ·rw[if_neg h,if_neg h']
theorem bmH {C:Ctx} (L:rS C) (p:cJ) (hp:p.Ok) :
  GQ.wp C (aS aAE.res (bQ (.bool (AF p)))) (PF.args [.int .i64 p.m,frs p.repair,.agg p.target.cells,.agg p.bJG.cells]) .nil:=by
 simp only[go_sem,γ,reduceCtorEq,GQ,aFK,aFL,aAE,max_eq,bKY]
 unfold AF
 by_cases h1:(p.repair.length:Int)=max p.m 1
 ·simp only[go_sem,γ,bN h1]
  refine aA (L.allf (fun x=>cM x&&bL x) 109 p.repair hp.repair.fits fun x hx=>L.rate1 x (hp.repair.all x hx)) rfl ?_
  rw[decide_eq_true h1,bLN]
  cases h2:p.repair.all fun x=>cM x&&bL x with
  | false =>
   simp only[go_sem,γ,reduceCtorEq]
   exact aZ rfl rfl
  | true =>
   simp only[go_sem,δ,γ]
   refine aA (L.lim _ hp.target) rfl ?_
   cases h3:cM p.target with
   | false =>
    simp only[go_sem,γ,reduceCtorEq]
    exact aZ rfl rfl
   | true =>
    simp only[go_sem,δ,γ]
    refine aA (L.one _ hp.target) rfl ?_
    cases h4:vY p.target with
    | false =>
     simp only[go_sem,γ,reduceCtorEq]
     exact aZ rfl rfl
    | true =>
     simp only[go_sem,δ,γ]
     refine aA (L.lim _ hp.bJG) rfl ?_
     simp only[go_sem,γ]
     exact aZ rfl rfl
 ·simp only[go_sem,γ,reduceCtorEq,bC h1]
  exact aZ rfl (by rw[decide_eq_false h1]; rfl)
def pW (l:List (List UInt8)) (k:List KS):Option PV:=match k with
 | [.str s]=>if l.contains s then some (.bool true) else none
 | _=>none
theorem bhP (l:List (List UInt8)) (s:List UInt8):(fun k=>if k=[KS.str s] then some (PV.bool true) else pW l k)=pW (l++[s]):=by
 funext k
 match k with
 | []=>rfl
 | [.int a b]=>simp[pW]
 | [.bool a]=>simp[pW]
 | [.str t] =>
  by_cases h:t=s
  ·subst h; simp[pW]
  ·simp[pW,h]
 | a::b::c=>simp[pW]
abbrev texts (l:List (List UInt8)):PV:=.sl 1 (l.map fun s=>[PV.str s])
theorem bhO:pW []=(fun _=>none:lL):=by
 funext k
 match k with
 | []=>rfl
 | [.int a b]=>rfl
 | [.bool a]=>rfl
 | [.str t]=>rfl
 | a::b::c=>cases a<;>rfl
theorem bhQ (l:List (List UInt8)) (s:List UInt8):lL.upd (pW l) [KS.str s] (.bool true)=pW (l++[s]):=bhP l s
theorem aMM (l:List (List UInt8)) (s:List UInt8):(pW l [KS.str s]).getD (.bool false)=.bool (l.contains s):=by
 show (if l.contains s then some (PV.bool true) else none).getD (.bool false)=_
 cases l.contains s<;>rfl
theorem anU {p:Nat→Bool} {k:Nat} (h:(bKZ k).all p=true) (hp:p k=true):(bKZ (k+1)).all p=true:=by
 rw[List.range_succ,List.all_append,h]; simp[hp]
theorem dO {p:Nat→Bool} {n k:Nat} (hk:k<n) (hp:p k=false):(bKZ n).all p=false:=by
 rw[List.all_eq_false]
 exact⟨k,bMQ.2 hk,by simp[hp]⟩
def oJ (p:Nat→Bool) (k:Nat):Prop:=(bKZ k).all p=true
theorem oJ.zero {p:Nat→Bool}:oJ p 0:=rfl
theorem oJ.step {p:Nat→Bool} {k:Nat} (h:oJ p k) (hp:p k=true):oJ p (k+1):=anU h hp
def bbO (l:List (List UInt8)) (o k:Nat):PF:=((((PF.nil.set 3 (.map o)).set 7 (texts l)).set 8 (.int .i64 (l.length:Nat))).set 9 (.int .i64 k))
theorem bmK {C:Ctx} (L:rS C) (l:List (List UInt8)) (hf:Fits l):GT.wp C (aS aAF.res (bQ (.bool (distinct l)))) (PF.args [texts l]) .nil:=by
 simp only[go_sem,GT,aFR,aFS,aAF]
 refine aN fun o ho=>?_
 simp only[go_sem,γ,reduceCtorEq,aFT]
 have e0:(PH.nil.set o (.map (false,[.str]) (fun _=>none)))=PH.nil.set o (.map (false,[.str]) (pW (l.take 0))):=by rw[List.take_zero,bhO]
 unfold distinct
 generalize hp:(fun i=>isName (l.getD i [])&&!(l.take i).contains (l.getD i []))=p
 have hpk:∀ k (h:k<l.length),p k=(isName l[k]&&!(l.take k).contains l[k]):=by
  intro k h
  rw[← hp]
  simp only[bLP,bLL h,bNH]
 refine wp_loop (α:=Nat) (fun k=>bbO l o k) (fun k=>PH.nil.set o (.map (false,[.str]) (pW (l.take k)))) (fun k=>k≤l.length∧oJ p k) (fun k=>l.length-k) 0 ⟨bLE _,.zero⟩ ?_ ?_ ?_
 ·unfold bbO
  (repeat' (first|exact PF.nil_le|refine PF.aG ?_ ?_))<;>first|(simp only[go_sem,γ,bKY]<;>rfl)|rfl
 ·rw[e0]; exact PH.le_refl
 rintro k ⟨hk,ha⟩
 simp only[go_sem,γ,aFQ,aFU,bbO]
 by_cases hlt:k<l.length
 ·have bJA:(k:Int)<(l.length:Nat):=by omega
  have hr:(l.map fun s=>[PV.str s])[k]?=some [.str l[k]]:=by simp[hlt]
  simp only[go_sem,γ,bJA,aFV,hr,aFW]
  refine aA (L.name l[k]) rfl ?_
  have hk2:=hpk k hlt
  cases h1:isName l[k] with
  | false =>
   rw[h1,bLI] at hk2
   simp only[go_sem,γ,bLK,XN]
   exact aZ (b:=false) rfl (dO hlt hk2).symm
  | true =>
   rw[h1,bLN] at hk2
   cases h2:(l.take k).contains l[k] with
   | true =>
    rw[h2] at hk2
    simp only[go_sem,γ,reduceCtorEq,bLB,aMM,h2,XN]
    exact aZ (b:=false) rfl (dO hlt hk2).symm
   | false =>
    rw[h2] at hk2
    simp only[go_sem,γ,reduceCtorEq,bLB,aMM,h2,aFX,bhQ,aFY,ws k]
    refine aE (k+1) ⟨hlt,ha.step hk2⟩ Om ?_ ?_
    ·exact Lq
    ·rw[bNC hlt]
     exact PH.aG PH.nil_le Sq
 ·have bJA:¬ (k:Int)<(l.length:Nat):=by omega
  simp only[go_sem,bJA,apM]
  have:k=l.length:=by omega
  subst this
  exact aZ (b:=true) rfl (show oJ p l.length from ha).symm
def marks (n:Nat) (l:List Int):List Bool:=(bKZ n).map fun (i:Nat)=>l.contains (i:Int)
theorem bfH (n:Nat) (l:List Int):(marks n l).length=n:=by simp[marks]
theorem aqS (n:Nat):marks n []=bLD n false:=by
 refine bNW (by simp[marks]) fun i h1 h2=>by simp[marks]
theorem YF {n:Nat} {l:List Int} {m:Int} (h0:0≤m) (h1:m<n):(marks n l)[m.toNat]?=some (l.contains m):=by
 have:m.toNat<n:=by omega
 simp only[marks,bMH,List.getElem?_range this,bME]
 rw[Int.toNat_of_nonneg h0]
theorem aqU {n:Nat} {l:List Int} {m:Int} (h0:0≤m) (h1:m<n):(marks n l).set m.toNat true=marks n (l++[m]):=by
 refine bNW (by simp[marks]) fun i h2 h3=>?_
 simp only[marks,bMN,List.getElem_range,List.getElem_set,List.contains_append]
 by_cases h:m.toNat=i
 ·subst h
  rw[if_pos rfl,Int.toNat_of_nonneg h0]; simp
 ·have hne:((i:Nat):Int)≠m:=by omega
  rw[if_neg h]; simp[hne]
abbrev eQ (l:List Bool):List (List PV):=l.map fun b=>[PV.bool b]
theorem kU (l:List Bool) (i:Nat) (b:Bool):(eQ l).set i [.bool b]=eQ (l.set i b):=by unfold eQ; rw[List.map_set]
structure aBM (C:Ctx):Prop extends rS C where
 num:∀ p:cJ,p.Ok→aH C 106 [.int .i64 p.k,.int .i64 p.m,.int .i64 p.bJY,.agg [.int .i64 p.s0,.int .i64 p.s1,.int .i64 p.s2,.int .i64 p.s3,.int .i64 p.s4]] .nil (aF (.bool (IR p)))
 rate:∀ p:cJ,p.Ok→aH C 108 [.int .i64 p.m,frs p.repair,.agg p.target.cells,.agg p.bJG.cells] .nil (aF (.bool (AF p)))
 uniq:∀ l:List (List UInt8),Fits l→aH C 110 [texts l] .nil (aF (.bool (distinct l)))
def boL (p:cJ) (bIT:Nat) (o k:Nat):PF:=(((((PF.nil.set 1 (.int .i64 bIT)).set 5 (.osl o 1 0 bIT)).set 39 (ints p.bIT)).set 40 (.int .i64 (p.bIT.length:Nat))).set 41 (.int .i64 k))
theorem btF {C:Ctx} (L:aBM C) (p:cJ) (hp:p.Ok) (bIT:Nat) (hm:bIT≤4):NT.wp C (aS a6Z.res (bQ (.bool (jI bIT p)))) (PF.args [.agg p.cells,.int .i64 bIT]) .nil:=by
 simp only[go_sem,δ,γ,θ,NT,aXV,aXW,a6Z]
 refine aA (L.num p hp) rfl ?_
 unfold jI
 cases h1:IR p with
 | false =>
  simp only[go_sem,γ,bLK,SN]
  exact aZ rfl (by simp only[bLI])
 | true =>
  by_cases h2:p.bIT.length=0
  ·simp only[go_sem,δ,γ,θ,reduceCtorEq,bLB,bKY,bN (Om:((p.bIT.length:Nat):Int)=0),SN]
   refine aZ rfl ?_
   have:decide (p.bIT.length≠0)=false:=by simp[h2]
   rw[this]; simp only[bLI,bMK]
  ·have h2':decide (p.bIT.length≠0)=true:=by simp[h2]
   simp only[go_sem,δ,γ,θ,reduceCtorEq,bLB,bKY,bC (Om:((p.bIT.length:Nat):Int)≠0)]
   refine aA (L.rate p hp) rfl ?_
   rw[h2']
   cases h3:AF p with
   | false =>
    simp only[go_sem,γ,reduceCtorEq,bLK,SN]
    exact aZ rfl (by simp only[bLI,bMK])
   | true =>
    have hb1:((bIT:Nat):Int)*((1:Nat):Int)≤140737488355328:=by omega
    have hb2:((bIT:Nat):Int)≤9223372036854775807:=by omega
    simp only[bLN]
    simp only[go_sem,γ,reduceCtorEq,bLB,aXX,hb1,hb2]
    refine aN fun o ho=>?_
    simp only[go_sem,δ,γ,θ,aXY]
    have e0:bLD bIT [PV.bool false]=eQ (marks bIT (p.bIT.take 0)):=by
     rw[List.take_zero,aqS]; simp[eQ]
    rw[e0]
    generalize hq:(fun j=>within (p.bIT.getD j 0) 0 ((bIT:Int)-1)&&!(p.bIT.take j).contains (p.bIT.getD j 0))=q
    have hqk:∀ k (h:k<p.bIT.length),q k=(within p.bIT[k] 0 ((bIT:Int)-1)&&!(p.bIT.take k).contains p.bIT[k]):=by
     intro k h
     rw[← hq]
     simp only[bLP,bLL h,bNH]
    refine wp_loop (α:=Nat) (fun k=>boL p bIT o k) (fun k=>PH.nil.set o (.rows 1 (eQ (marks bIT (p.bIT.take k))))) (fun k=>k≤p.bIT.length∧oJ q k) (fun k=>p.bIT.length-k) 0 ⟨bLE _,.zero⟩ ?_ (PH.le_refl) ?_
    ·unfold boL
     (repeat' (first|exact PF.nil_le|refine PF.aG ?_ ?_))<;>first|(simp only[go_sem,γ,bKY]<;>rfl)|rfl
    rintro k ⟨hk,ha⟩
    simp only[go_sem,γ,aFH,aXZ,boL]
    have bKJ:=hp.bIT
    by_cases hlt:k<p.bIT.length
    ·have bJA:(k:Int)<(p.bIT.length:Nat):=by omega
     have hr:(p.bIT.map fun n=>[PV.int .i64 n])[k]?=some [.int .i64 p.bIT[k]]:=by simp[hlt]
     have hw:IntKind.i64.wrap ((bIT:Int)-1)=(bIT:Int)-1:=wrap_i64 Om Om
     simp only[go_sem,γ,bJA,aYA,hr,aYB,hw]
     refine aA (L.inn p.bIT[k] 0 ((bIT:Int)-1)) rfl ?_
     have hk2:=hqk k hlt
     cases h1:within p.bIT[k] 0 ((bIT:Int)-1) with
     | false =>
      rw[h1,bLI] at hk2
      simp only[go_sem,γ,bLK,amJ]
      exact aZ (b:=false) rfl (dO hlt hk2).symm
     | true =>
      rw[h1,bLN] at hk2
      obtain⟨i1,i2⟩:=within_iff.1 h1
      have i3:p.bIT[k]<(bIT:Nat):=by omega
      have hmk:(eQ (marks bIT (p.bIT.take k)))[p.bIT[k].toNat]?=some [.bool ((p.bIT.take k).contains p.bIT[k])]:=by
       unfold eQ
       rw[bMH,YF i1 i3]; rfl
      cases h2:(p.bIT.take k).contains p.bIT[k] with
      | true =>
       rw[h2] at hk2 hmk
       simp only[go_sem,γ,reduceCtorEq,bLB,i1,i3,bLX,hmk,amJ]
       exact aZ (b:=false) rfl (dO hlt hk2).symm
      | false =>
       rw[h2] at hk2 hmk
       simp only[go_sem,γ,reduceCtorEq,bLB,i1,i3,bLX,hmk,aYC,kU,aqU i1 i3,aFI,ws k]
       refine aE (k+1) ⟨hlt,ha.step hk2⟩ Om ?_ ?_
       ·exact Lq
       ·rw[bNC hlt]
        exact PH.aG PH.nil_le Sq
    ·have bJA:¬ (k:Int)<(p.bIT.length:Nat):=by omega
     simp only[go_sem,bJA,aFJ]
     have:k=p.bIT.length:=by omega
     subst this
     exact aZ (b:=true) rfl (show oJ q p.bIT.length from ha).symm
def blF:PV→RF
 | .agg [.bool n,a,b]=>⟨n,jE a,jE b⟩
 | _=>⟨false,[],[]⟩
theorem a6C (x:RF):blF (.agg x.cells)=x:=by
 show (⟨x.neg,jE (aJ x.num),jE (aJ x.den)⟩:RF)=x
 rw[dZ,dZ]
def flS:Spec:=fun name vs=>match name,vs with
 | 104,[.int _ n,.int _ lo,.int _ hi]=>some ([],fun _=>aF (.bool (within n lo hi)))
 | 105,[x]=>some ([],fun _=>aF (.bool (cM (blF x))))
 | 97,[x]=>some ([],fun _=>aF (.bool (bL (blF x))))
 | _,_=>none
theorem aDI (n lo hi:Int):flS 104 [.int .i64 n,.int .i64 lo,.int .i64 hi]=some ([],fun _=>aF (.bool (within n lo hi))):=rfl
theorem bsP (x:RF):flS 105 [.agg x.cells]=some ([],fun _=>aF (.bool (cM x))):=by
 show some _=_; rw[a6C]
def a6V (f:aD) (t:List cI) (k:Nat):PF:=((((PF.nil.set 1 (.bJC f.cells)).set 45 (.sl 7 (t.map cI.cells))).set 46 (.int .i64 (t.length:Nat))).set 47 (.int .i64 k))
theorem bsV {C:Ctx} (L:rS C) (f:aD) (hf:f.Ok):zW.wp C (aS aET.res (bQ (.bool (nJ f)))) (PF.args [.agg f.cells]) .nil:=by
 obtain⟨bKI,bJD,bIT,bIW,bIS,bIX,bIV⟩:=f
 cases bIW with
 | nil =>
  rw[show nJ ⟨bKI,bJD,bIT,[],bIS,bIX,bIV⟩=false from rfl]
  simp only[go_sem,δ,γ,θ,zW,amG,amH,aET,bMZ,bNJ]
  have:(((0:Nat):Int)==0)=true:=rfl
  simp only[go_sem,this,aWZ]
  exact aZ rfl rfl
 | cons r t =>
  generalize hF:(⟨bKI,bJD,bIT,r::t,bIS,bIX,bIV⟩:aD)=f at *
  have hd:f.bIW=r::t:=by rw[← hF]
  have hP:nJ f=zS f r t:=by unfold nJ; rw[hd]
  rw[hP]
  unfold zS
  have hlen:f.bIW.length=t.length+1:=by rw[hd]; rfl
  have bKJ:=hf.bIW
  have hr0:(f.bIW.map cI.cells)[0]?=some r.cells:=by rw[hd]; rfl
  have hr0':(f.bIW.map cI.cells)[Int.toNat 0]?=some r.cells:=hr0
  have hok:=hf.dom
  have hrok:=hok r (by rw[hd]; exact List.mem_cons_self ..)
  simp only[go_sem,ο,ν,δ,γ,θ,zW,amG,amH,aET,bKY,hlen,bC (Om:((t.length+1:Nat):Int)≠0),aXA,hr0]
  refine aN fun o ho=>?_
  by_cases c1:r.name=[]
  ·rw[decide_eq_true c1]
   by_cases c2:r.level=0
   ·rw[decide_eq_true c2]
    by_cases c3:r.parent=-1
    ·rw[decide_eq_true c3]
     by_cases c4:r.bJU=0
     ·rw[decide_eq_true c4]
      simp only[go_sem,ο,δ,γ,θ,reduceCtorEq,xP,pJ c1,bLB,cA c2,cA c3,cA c4]
      refine aA (L.lim r.bJM hrok.1) rfl ?_
      cases c5:cM r.bJM with
      | false =>
       simp only[go_sem,γ,reduceCtorEq,bLK,tP]
       exact aZ rfl (by simp only[bMK,bLI])
      | true =>
       simp only[go_sem,δ,γ,reduceCtorEq,bLB]
       refine aA (L.kN r.bJM hrok.1) rfl ?_
       cases c6:bL r.bJM with
       | true =>
        simp only[go_sem,γ,reduceCtorEq,tP]
        exact aZ rfl (by simp only[bLB,bMK,bLI])
       | false =>
        have hsl:(0:Int)≤1∧(1:Int)≤((t.length+1:Nat):Int):=by omega
        have hdrop:((f.bIW.map cI.cells).take (t.length+1)).drop (Int.toNat 1)=t.map cI.cells:=by
         rw[bLQ (by simp[hlen]),hd]; rfl
        have hdrop':((f.bIW.map cI.cells).take (t.length+1)).drop 1=t.map cI.cells:=hdrop
        simp only[go_sem,ν,δ,γ,θ,reduceCtorEq,aXB,bKY,hlen,hsl,hdrop',bNU]
        generalize hq:(fun i=>match t[i]? with | some d=>FX f i d | none=>false)=q
        have hqk:∀ k (h:k<t.length),q k=FX f k t[k]:=by
         intro k h
         rw[← hq]
         simp only[bLL h]
        refine wp_loop (α:=Nat) (fun k=>a6V f t k) (fun k=>.nil) (fun k=>k≤t.length∧oJ q k) (fun k=>t.length-k) 0 ⟨bLE _,.zero⟩ ?_ PH.nil_le ?_
        ·unfold a6V
         (repeat' (first|exact PF.nil_le|refine PF.aG ?_ ?_))<;>first|(simp only[go_sem,γ,bKY]<;>rfl)|rfl
        rintro k ⟨hk,ha⟩
        simp only[go_sem,γ,aEU,aXC,a6V]
        by_cases hlt:k<t.length
        ·have bJA:(k:Int)<(t.length:Nat):=by omega
         have hrk:(t.map cI.cells)[k]?=some (t[k]).cells:=by simp[hlt]
         have hdk:=hok t[k] (by rw[hd]; exact List.mem_cons_of_mem _ (bLF hlt))
         have hk2:=hqk k hlt
         unfold FX at hk2
         simp only[go_sem,δ,γ,bJA,aXD,hrk]
         refine aN fun o2 ho2=>?_
         simp only[go_sem,δ,γ]
         refine bM .nil flS PH.nil_le ?_
         simp only[go_sem,δ,γ,θ,reduceCtorEq,aXE]
         refine bE (aDI _ 0 k) (L.inn (t[k]).parent 0 k) rfl PH.nil_le ?_
         cases e1:within (t[k]).parent 0 k with
         | false =>
          simp only[e1,bLI] at hk2
          simp only[go_sem,γ,bLK,tO]
          exact aZ (b:=false) rfl (dO hlt hk2).symm
         | true =>
          obtain⟨i1,i2⟩:=within_iff.1 e1
          have i3:(t[k]).parent.toNat<f.bIW.length:=by omega
          have hpr:(f.bIW.map cI.cells)[(t[k]).parent.toNat]?=some (f.bIW[(t[k]).parent.toNat]).cells:=by simp[i3]
          have hlv:(f.bIW.map cI.level).getD (t[k]).parent.toNat 0=(f.bIW[(t[k]).parent.toNat]).level:=by simp[i3]
          rw[hlv,e1,bLN] at hk2
          by_cases e2:(f.bIW[(t[k]).parent.toNat]).level=IntKind.i64.wrap ((t[k]).level-1)
          ·rw[decide_eq_true e2,bLN] at hk2
           simp only[go_sem,δ,γ,θ,reduceCtorEq,bLB,i1,hpr,cA e2]
           refine bE (aDI _ 1 4) (L.inn (t[k]).level 1 4) rfl PH.nil_le ?_
           cases e3:within (t[k]).level 1 4 with
           | false =>
            simp only[e3,bLI] at hk2
            simp only[go_sem,γ,reduceCtorEq,bLK,tO]
            exact aZ (b:=false) rfl (dO hlt hk2).symm
           | true =>
            rw[e3,bLN] at hk2
            simp only[go_sem,δ,γ,θ,reduceCtorEq,bLB]
            refine bE (aDI _ 1 64) (L.inn (t[k]).bJU 1 64) rfl PH.nil_le ?_
            cases e4:within (t[k]).bJU 1 64 with
            | false =>
             simp only[e4,bLI] at hk2
             simp only[go_sem,γ,reduceCtorEq,bLK,tO]
             exact aZ (b:=false) rfl (dO hlt hk2).symm
            | true =>
             rw[e4,bLN] at hk2
             simp only[go_sem,δ,γ,reduceCtorEq,bLB]
             refine bE (bsP (t[k]).bJM) (L.lim _ hdk.1) rfl PH.nil_le ?_
             cases e5:cM (t[k]).bJM with
             | false =>
              rw[e5] at hk2
              simp only[go_sem,γ,reduceCtorEq,bLK,tO]
              exact aZ (b:=false) rfl (dO hlt hk2).symm
             | true =>
              rw[e5] at hk2
              simp only[go_sem,γ,reduceCtorEq,bLB,aEV,ws k]
              refine aE (k+1) ⟨hlt,ha.step hk2⟩ Om ?_ PH.nil_le
              exact Lq
          ·simp only[decide_eq_false e2,bLI] at hk2
           simp only[go_sem,δ,γ,θ,reduceCtorEq,bLB,i1,hpr,cV e2,tO]
           exact aZ (b:=false) rfl (dO hlt hk2).symm
        ·have bJA:¬ (k:Int)<(t.length:Nat):=by omega
         simp only[go_sem,bJA,aEW]
         have:k=t.length:=by omega
         subst this
         exact aZ (b:=true) rfl (show oJ q t.length from ha).symm
     ·simp only[go_sem,ο,δ,γ,θ,reduceCtorEq,xP,pJ c1,bLB,cA c2,cA c3,cV c4,tP]
      exact aZ rfl (by rw[decide_eq_false c4]; simp only[bMK,bLI])
    ·simp only[go_sem,ο,δ,γ,θ,reduceCtorEq,xP,pJ c1,bLB,cA c2,cV c3,tP]
     exact aZ rfl (by rw[decide_eq_false c3]; simp only[bMK,bLI])
   ·simp only[go_sem,ο,δ,γ,θ,reduceCtorEq,xP,pJ c1,bLB,cV c2,tP]
    exact aZ rfl (by rw[decide_eq_false c2]; simp only[bMK,bLI])
  ·simp only[go_sem,ο,δ,γ,θ,xP,abV c1,bLK,tP]
   exact aZ rfl (by rw[decide_eq_false c1]; simp only[bMK,bLI])
theorem sV (R:List Bool) (i:Nat) (row:List RF):∀ k,(cE R i row k).length=R.length
 | 0=>rfl
 | k+1=>by simp only[cE,bNL,sV R i row k]
theorem aMB (l:bZ) (R:List Bool) (i:Nat):(kG l R i).length=R.length:=by
 unfold kG; rw[sV,bNL]
theorem pT (l:bZ) (R:List Bool):∀ i,(cQ l R i).length=R.length
 | 0=>rfl
 | i+1=>by simp only[cQ,aMB,pT l R i]
theorem pS (l:bZ):∀ r,(cS l r).length=l.exit.length
 | 0=>by simp[cS]
 | r+1=>by simp only[cS,pT,pS l r]
theorem qP {R:List Bool} {i:Nat} (h:i<R.length):(eQ R)[i]?=some [.bool (R.getD i false)]:=by
 unfold eQ
 rw[bMH,bLL h,bLP,bLL h]; rfl
theorem aoP (R:List Bool):(eQ R).length=R.length:=by simp[eQ]
def SG (l:bZ) (o r:Nat):PF:=(((PF.nil.set 1 (.bJC l.cells)).set 3 (.osl o 1 0 l.exit.length)).set 4 (.int .i64 r))
def FZ (l:bZ) (o r i:Nat):PF:=(((((PF.nil.set 1 (.bJC l.cells)).set 3 (.osl o 1 0 l.exit.length)).set 4 (.int .i64 r)).set 19 (.int .i64 (l.exit.length:Nat))).set 20 (.int .i64 i))
def sF (l:bZ) (o r i:Nat) (row:List RF) (k:Nat):PF:=(((((((((PF.nil.set 1 (.bJC l.cells)).set 3 (.osl o 1 0 l.exit.length)).set 4 (.int .i64 r)).set 19 (.int .i64 (l.exit.length:Nat))).set 20 (.int .i64 i)).set 5 (.int .i64 i)).set 42 (frs row)).set 43 (.int .i64 (row.length:Nat))).set 44 (.int .i64 k))
def gY (o:Nat) (R:List Bool):PH:=PH.nil.set o (.rows 1 (eQ R))
theorem aSV {C:Ctx} (L:rS C) (l:bZ) (o r i:Nat) (row:List RF) (bJH:jT row) (hrl:row.length=l.exit.length) (hi:i<l.exit.length) (hn:l.exit.length≤4) (R1:List Bool) (hR:R1.length=l.exit.length) (K:bY) (F:PF) (H:PH)
  (hF:(sF l o r i row 0).le F) (hH:(gY o R1).le H)
  (hK:∀ F H,(sF l o r i row row.length).le F→(gY o (cE R1 i row row.length)).le H→K .normal F H) :
  aB.wp C (.block 4 (.loop zX)) K F H:=by
 simp only[go_sem]
 refine wp_loop (α:=Nat) (fun k=>sF l o r i row k) (fun k=>gY o (cE R1 i row k)) (fun k=>k≤row.length) (fun k=>row.length-k) 0 (bLE _) hF hH ?_
 intro k hk
 simp only[go_sem,γ,zX,aFD,sF,gY]
 have hlen:=sV R1 i row k
 by_cases hlt:k<row.length
 ·have bJA:(k:Int)<(row.length:Nat):=by omega
  have hr:(row.map RF.cells)[k]?=some (row[k]).cells:=by simp[hlt]
  simp only[go_sem,δ,γ,bJA,apH,hr]
  refine aN fun o7 ho7=>?_
  have n7:o≠o7:=by rintro rfl; simp only[bB,if_true] at ho7; cases ho7
  have hi':(i:Int)<(l.exit.length:Nat):=by omega
  have hk':(k:Int)<(l.exit.length:Nat):=by omega
  have hat:=qP (R:=cE R1 i row k) (i:=i) Om
  have hatk:=qP (R:=cE R1 i row k) (i:=k) Om
  have bJB:cE R1 i row (k+1)=(cE R1 i row k).set i ((cE R1 i row k).getD i false||bL row[k]&&(cE R1 i row k).getD k false):=by
   simp only[cE,bLP,bMH,bLL hlt,bME,bNH]
  have fin:∀ (b:Bool) (F:PF) (H:PH),b=((cE R1 i row k).getD i false||bL row[k]&&(cE R1 i row k).getD k false)→(sF l o r i row (k+1)).le F→H o=some (.rows 1 ((eQ (cE R1 i row k)).set i [.bool b])) →
    dV (fun k=>sF l o r i row k) (fun k=>gY o (cE R1 i row k)) (fun k=>k≤row.length) (fun k=>row.length-k) (row.length-k) (dP 4 K) .normal F H:=by
   intro b F H hb hF hH
   refine aE (k+1) hlt Om hF ?_
   rw[kU,hb,← bJB] at hH
   exact PH.aG PH.nil_le hH
  unfold sF gY at fin
  generalize hb:(cE R1 i row k).getD i false=b at *
  generalize hc:(cE R1 i row k).getD k false=c at *
  generalize hA:bL row[k]=A at *
  cases b with
  | true =>
   simp only[go_sem,δ,γ,NN,n7,hi',bLX,hat,zZ,ws k]
   exact fin true _ _ (by simp) Lq Sq
  | false =>
   simp only[go_sem,δ,γ,NN,n7,hi',bLX,hat]
   refine aA (L.kN _ (bJH.all _ (bLF hlt))) rfl ?_
   rw[hA]
   cases A with
   | false =>
    simp only[go_sem,γ,reduceCtorEq,hi',hk',n7,bLX,hat,hatk,zZ,ws k]
    exact fin false _ _ (by simp) Lq Sq
   | true =>
    simp only[go_sem,γ,reduceCtorEq,hi',hk',n7,bLX,hat,hatk,zZ,ws k]
    exact fin c _ _ (by simp) Lq Sq
 ·have bJA:¬ (k:Int)<(row.length:Nat):=by omega
  simp only[go_sem,bJA]
  have:k=row.length:=by omega
  subst this
  exact hK _ _ (by unfold sF; exact Lq) (PH.le_refl)
structure zQ (l:bZ):Prop where
 n:l.exit.length≤4
 bIY:l.bIY.length=l.exit.length
 row:∀ r∈l.bIY,r.length=l.exit.length
theorem aSW {C:Ctx} (L:rS C) (l:bZ) (hl:l.Ok) (he:zQ l) (o r:Nat) (R:List Bool) (hR:R.length=l.exit.length) (K:bY) (F:PF) (H:PH)
  (hF:(FZ l o r 0).le F) (hH:(gY o R).le H)
  (hK:∀ F H,(SG l o r).le F→(gY o (cQ l R l.exit.length)).le H→K .normal F H) :
  aB.wp C (.block 2 (.loop zY)) K F H:=by
 simp only[go_sem]
 refine wp_loop (α:=Nat) (fun i=>FZ l o r i) (fun i=>gY o (cQ l R i)) (fun i=>i≤l.exit.length) (fun i=>l.exit.length-i) 0 (bLE _) hF hH ?_
 intro i hi
 have hlen:=pT l R i
 have hn:=he.n
 by_cases hlt:i<l.exit.length
 ·have bJA:(i:Int)<(l.exit.length:Nat):=by omega
  have hir:i<l.bIY.length:=by rw[he.bIY]; exact hlt
  have hat:=qP (R:=cQ l R i) (i:=i) Om
  have hx:(l.exit.map RF.cells)[i]?=some (l.exit[i]).cells:=by simp[hlt]
  have bJH:(l.bIY.map fun r=>[frs r])[i]?=some [frs l.bIY[i]]:=by simp[hir]
  have hrl:(l.bIY[i]).length=l.exit.length:=he.row _ (bLF hir)
  generalize hR1:(cQ l R i).set i ((cQ l R i).getD i false||bL l.exit[i])=R1
  have hR1l:R1.length=l.exit.length:=by rw[← hR1,bNL]; omega
  have bJB:cQ l R (i+1)=cE R1 i l.bIY[i] (l.bIY[i]).length:=by
   simp only[cQ,kG]
   have e1:(l.exit.map bL).getD i false=bL l.exit[i]:=by simp[bLP,hlt]
   have e2:l.bIY.getD i []=l.bIY[i]:=by simp[bLP,hir]
   rw[e1,e2,hR1]
  have rest:∀ (F:PF) (H:PH),(((((((PF.nil.set 1 (.bJC l.cells)).set 3 (.osl o 1 0 l.exit.length)).set 4 (.int .i64 r)).set 19 (.int .i64 (l.exit.length:Nat))).set 20 (.int .i64 i)).set 5 (.int .i64 i)):PF).le F→H o=some (.rows 1 (eQ R1)) →
    aB.wp C (.seq (.region XJ) (.block 4 (.loop zX))) (dP 3 (jC C (aB.wp C (.region NO)) (dV (fun i=>FZ l o r i) (fun i=>gY o (cQ l R i)) (fun i=>i≤l.exit.length) (fun i=>l.exit.length-i) (l.exit.length-i) (dP 2 K)))) F H:=by
   intro F H hF hH
   have f1:F 1=some (.bJC l.cells):=hF 1 _ rfl
   have f3:F 3=some (.osl o 1 0 l.exit.length):=hF 3 _ rfl
   have f4:F 4=some (.int .i64 r):=hF 4 _ rfl
   have f19:F 19=some (.int .i64 (l.exit.length:Nat)):=hF 19 _ rfl
   have f20:F 20=some (.int .i64 i):=hF 20 _ rfl
   have f5:F 5=some (.int .i64 i):=hF 5 _ rfl
   rw[aoM]
   simp only[go_sem,δ,γ,θ,XJ,f1,f5,bJH,bKY]
   have inner:=aSV L l o r i l.bIY[i] (hl.row _ (bLF hir)) hrl hlt hn R1 hR1l
   simp only[aB.wp,go_sem] at inner
   refine inner _ _ _ ?_ (PH.aG PH.nil_le hH) ?_
   ·unfold sF
    exact Lq
   ·intro F' H' hF' hH'
    have g20:F' 20=some (.int .i64 i):=hF' 20 _ (by unfold sF; simp only[go_sem,γ])
    simp only[go_sem,NO,g20,ws i]
    refine aE (i+1) hlt Om ?_ (by rw[bJB]; exact hH')
    have g:=fun (q:Nat) v h=>hF' q v h
    unfold FZ
    unfold sF at g
    refine PF.aG (PF.aG (PF.aG (PF.aG (PF.aG PF.nil_le ?_) ?_) ?_) ?_) ?_
    ·simp only[go_sem,γ]; exact g 1 _ rfl
    ·simp only[go_sem,γ]; exact g 3 _ rfl
    ·simp only[go_sem,γ]; exact g 4 _ rfl
    ·simp only[go_sem,γ]; exact g 19 _ rfl
    ·simp only[go_sem,γ]
  simp only[aB.wp,go_sem] at rest
  simp only[go_sem,γ,zY,XH,FZ,gY,bJA,aFC]
  generalize hb:(cQ l R i).getD i false=b at *
  cases b with
  | true =>
   simp only[go_sem,γ,XI,bJA,bLX,hat]
   refine rest _ _ Lq ?_
   rw[← hR1]
   simp only[go_sem,kU,Bool.true_or]
  | false =>
   simp only[go_sem,δ,γ,XI,bJA,bLX,hat,hx]
   refine aA (L.kN _ (hl.exit.all _ (bLF hlt))) rfl ?_
   simp only[go_sem,γ,reduceCtorEq,bJA,bLX,hat]
   refine rest _ _ Lq ?_
   rw[← hR1]
   simp only[go_sem,kU,Bool.false_or]
 ·have bJA:¬ (i:Int)<(l.exit.length:Nat):=by omega
  simp only[go_sem,γ,zY,XH,FZ,gY,bJA]
  have:i=l.exit.length:=by omega
  subst this
  exact hK _ _ (by unfold SG; exact Lq) PH.le_refl
theorem bmD {C:Ctx} (L:rS C) (l:bZ) (hl:l.Ok) (he:zQ l):GM.wp C (aS aAC.res (bQ (.bool (oK l)))) (PF.args [.agg l.cells]) .nil:=by
 have hn:=he.n
 have hb1:((l.exit.length:Nat):Int)*((1:Nat):Int)≤140737488355328:=by omega
 have hb2:((l.exit.length:Nat):Int)≤9223372036854775807:=by omega
 simp only[go_sem,γ,GM,aEX,aEY,aAC,bKY,hb1,hb2]
 refine aN fun o ho=>?_
 simp only[go_sem,γ,aEZ]
 refine wp_loop (α:=Nat) (fun r=>SG l o r) (fun r=>gY o (cS l r)) (fun r=>r≤l.exit.length+1) (fun r=>l.exit.length+1-r) 0 (bLE _) ?_ ?_ ?_
 ·unfold SG
  exact Lq
 ·refine PH.aG PH.nil_le ?_
  simp only[go_sem,cS]
  simp[eQ]
 intro r hr
 have hlen:=pS l r
 simp only[go_sem,γ,apG,aFA,SG,gY]
 by_cases hlt:r≤l.exit.length
 ·have bJA:(r:Int)≤(l.exit.length:Nat):=by omega
  simp only[go_sem,γ,bJA,aFB]
  have inner:=aSW L l hl he o r (cS l r) hlen
  simp only[aB.wp,go_sem] at inner
  refine inner _ _ _ ?_ PH.le_refl ?_
  ·unfold FZ
   exact Lq
  ·intro F' H' hF' hH'
   have g:=fun (q:Nat) v h=>hF' q v h
   unfold SG at g
   have g4:F' 4=some (.int .i64 r):=g 4 _ rfl
   simp only[go_sem,γ,apI,g4,ws r]
   refine aE (r+1) Om Om ?_ hH'
   refine PF.aG (PF.aG (PF.aG PF.nil_le ?_) ?_) ?_
   ·simp only[go_sem,γ]; exact g 1 _ rfl
   ·simp only[go_sem,γ]; exact g 3 _ rfl
   ·simp only[go_sem,γ]
 ·have bJA:¬ (r:Int)≤(l.exit.length:Nat):=by omega
  have:r=l.exit.length+1:=by omega
  subst this
  simp only[go_sem,γ,bJA,apJ]
  have bKB:=L.allb id 103 (cS l (l.exit.length+1)) (Om:(cS l (l.exit.length+1)).length≤_) fun x _=>L.ends1 x
  have hbl:(eQ (cS l (l.exit.length+1))).length=l.exit.length:=by rw[aoP,hlen]
  refine qI bKB (rs:=eQ (cS l (l.exit.length+1))) (o:=o) (s:=1) Sq ?_ ?_
  ·simp only[go_sem,γ,xO (show l.exit.length≤(eQ (cS l (l.exit.length+1))).length by omega),bLQ (show (eQ (cS l (l.exit.length+1))).length≤l.exit.length by omega)]
  ·simp only[go_sem,γ]
   exact aZ rfl rfl
structure abJ (C:Ctx):Prop extends aBM C where
 ends:∀ l:bZ,l.Ok→zQ l→aH C 102 [.agg l.cells] .nil (aF (.bool (oK l)))
def qW (l:bZ) (i:Nat):Bool:=decide ((l.bIY.getD i []).length=l.start.length)&&(l.bIY.getD i []).all cM&&!((l.bIY.getD i []).map bL).getD i false
def uC (l:bZ):Bool:=match nE (l.start.map RF.v) with
 | .ok (n,a,b)=>decide (pC n a b false 1 1=0)
 | .error _=>false
theorem aYL (l:bZ):jZ l=(within l.start.length 1 4&&decide (l.exit.length=l.start.length)&&decide (l.bIY.length=l.start.length)&&l.start.all cM&&l.exit.all cM&&(bKZ l.bIY.length).all (qW l)&&uC l&&oK l):=rfl
theorem aNV {l:List FV} {e:Int} (h:nE l=.error e):e≠0:=by
 have:∀ (l:List FV) (b:FV) (e:Int),l.foldlM gT b=.error e→e≠0:=by
  intro l
  induction l with
  | nil=>intro b e h; cases h
  | cons x t ih =>
   intro b e h
   rw[List.foldlM_cons] at h
   cases hx:gT b x with
   | error e' =>
    rw[hx] at h
    have:e'=e:=by injection h
    subst this
    obtain⟨n1,a1,b1⟩:=b
    obtain⟨n2,a2,b2⟩:=x
    simp only[gT] at hx
    split at hx
    ·split at hx
     ·rw[HK hx]; decide
     ·split at hx
      ·rw[HK hx]; decide
      ·rw[HK hx]; decide
    ·injection hx with hx; subst hx; decide
   | ok y=>rw[hx] at h; exact ih y e h
 exact this l _ e h
theorem a1Z {l:List FV} {r:FV} (h:nE l=.ok r):r.rf.Ok:=by
 have:∀ (l:List FV) (b r:FV),b.rf.Ok→l.foldlM gT b=.ok r→r.rf.Ok:=by
  intro l
  induction l with
  | nil=>intro b r hb h; injection h with h; subst h; exact hb
  | cons x t ih =>
   intro b r hb h
   rw[List.foldlM_cons] at h
   cases hx:gT b x with
   | error e'=>rw[hx] at h; cases h
   | ok y=>rw[hx] at h; exact ih y r (alV hx) h
 refine this l _ r ⟨aU _,aU _,?_,?_⟩ h
 ·show (aI 0).length≤_
  rw[fL]; simp
 ·show (aI 1).length≤_
  rw[nZ (by decide) (by decide)]; simp
theorem HL {neg:Bool} {a b:Nat} {r:FV} (hb:b≠0) (h:iJ neg a b=.ok r):cO r.2.1 r.2.2=true:=by
 unfold iJ at h
 split at h
 ·cases h
 ·rename_i hc
  injection h with h
  subst h
  have hg:bLA a b ∣ b:=Nat.gcd_dvd_right _ _
  have h0:b/bLA a b≠0:=by
   have:=Nat.div_pos (Nat.le_of_dvd (bNG hb) hg) (bNG fun h=>hb (Nat.gcd_eq_zero_iff.1 h).2)
   omega
  have h1:=@jX (b/bLA a b)
  simp only[cO,bLT,decide_eq_true_eq]
  omega
theorem a5M {x y r:FV} (h:gT x y=.ok r):cO r.2.1 r.2.2=true:=by
 obtain⟨n1,a1,b1⟩:=x
 obtain⟨n2,a2,b2⟩:=y
 simp only[gT] at h
 split at h
 ·rename_i hv
  rw[bLT] at hv
  have h0:b1*b2≠0:=Nat.mul_ne_zero (fN.1 hv.1).1 (fN.1 hv.2).1
  split at h
  ·exact HL h0 h
  ·split at h
   ·exact HL h0 h
   ·exact HL h0 h
 ·cases h
theorem bbT:cO 0 1=true:=by
 have:cG 1=1:=by rw[oU (by decide),jN]
 simp[cO,this,jN]
theorem agZ {l:List FV} {r:FV} (h:nE l=.ok r):cO r.2.1 r.2.2=true:=by
 have:∀ (l:List FV) (b r:FV),cO b.2.1 b.2.2=true→l.foldlM gT b=.ok r→cO r.2.1 r.2.2=true:=by
  intro l
  induction l with
  | nil=>intro b r hb h; injection h with h; subst h; exact hb
  | cons x t ih =>
   intro b r hb h
   rw[List.foldlM_cons] at h
   cases hx:gT b x with
   | error e'=>rw[hx] at h; cases h
   | ok y=>rw[hx] at h; exact ih y r (a5M hx) h
 exact this l _ r bbT h
theorem blN:(⟨false,[],[]⟩:RF).Ok:=⟨fun _ h=>absurd h (bLW),fun _ h=>absurd h (bLW),show 0≤35184372087808 by decide,show 0≤35184372087808 by decide⟩
def bmU (l:bZ) (k:Nat):PF:=(((((PF.nil.set 1 (.bJC l.cells)).set 3 (.int .i64 (l.start.length:Nat))).set 45 (baO l.bIY)).set 46 (.int .i64 (l.bIY.length:Nat))).set 47 (.int .i64 k))
theorem bdU {C:Ctx} (L:abJ C) (l:bZ) (hl:l.Ok) (he:zQ l) (F:PF) (hF:F 1=some (.bJC l.cells)) :
  aB.wp C (.seq (.region XK) (.seq (.region GN) (.seq (.region GO) (.seq (.region tQ) .ret)))) (aS [.tmp 2] (bQ (.bool (uC l&&oK l)))) F .nil:=by
 simp only[go_sem,δ,θ,XK,hF]
 refine aA (L.tot l.start hl.start) rfl ?_
 obtain⟨neg',x,y,e,hs⟩:=tM (nE (l.start.map RF.v))
 have go:∀ (z:RF) (e:Int),z.Ok→(e=0→(zT z.neg (val z.num) (val z.den) false 1 1=.tup [.int .i64 (pC z.neg (val z.num) (val z.den) false 1 1),.int .i64 0])∧uC l=decide (pC z.neg (val z.num) (val z.den) false 1 1=0))→(e≠0→uC l=false) →
   frV (nE (l.start.map RF.v))=.tup [.agg z.cells,.int .i64 e] →
   wpOps C [⟨(some 69),.mv (.tmp 72),none⟩,⟨(some 73),.extract (.tmp 69) 0,none⟩,⟨(some 74),.extract (.tmp 69) 1,none⟩,⟨(some 6),.alloc [(.bool false),.bIU,.bIU],none⟩,⟨none,.store 3 (.tmp 6) (.tmp 73),none⟩,⟨(some 7),.mv (.tmp 74),none⟩]
    (aB.wp C (.seq (.region GN) (.seq (.region GO) (.seq (.region tQ) .ret))) (aS [.tmp 2] (bQ (.bool (uC l&&oK l))))) ((((F.set 70 (.bJC [frs l.start,baO l.bIY,frs l.exit])).set 71 (frs l.start))).set 72 (.tup [.agg z.cells,.int .i64 e])) .nil:=by
  intro z e hz h0 h1 _
  simp only[go_sem,δ,γ]
  refine aN fun o6 ho6=>?_
  simp only[go_sem,δ,γ,GN]
  refine aA (L.frac 1 1 (by decide) (by decide)) rfl ?_
  rw[aIA]
  simp only[go_sem,δ,γ,frV]
  refine aN fun o8 ho8=>?_
  have n8:o6≠o8:=by rintro rfl; simp only[bB,if_true] at ho8; cases ho8
  simp only[go_sem,δ,γ,GO,n8]
  refine aA (L.ord z (FV.rf (false,1,1)) hz bgN) rfl ?_
  rw[show val (FV.rf (false,1,1)).num=1 from aR 1,show val (FV.rf (false,1,1)).den=1 from aR 1,show (FV.rf (false,1,1)).neg=false from rfl]
  by_cases c:e=0
  ·obtain⟨g1,g2⟩:=h0 c
   rw[g1,g2]
   by_cases d:pC z.neg (val z.num) (val z.den) false 1 1=0
   ·simp only[go_sem,δ,γ,tQ,bN c,bN d,hF]
    refine aA (L.ends l hl he) rfl ?_
    simp only[go_sem,γ]
    exact aZ rfl (by rw[decide_eq_true d,bLN])
   ·simp only[go_sem,γ,reduceCtorEq,tQ,bN c,bC d]
    exact aZ rfl (by rw[decide_eq_false d,bLI])
  ·rw[h1 c]
   have:∃ v w,zT z.neg (val z.num) (val z.den) false 1 1=.tup [.int .i64 v,.int .i64 w]:=by
    unfold zT
    split
    ·exact⟨_,_,rfl⟩
    ·exact⟨_,_,rfl⟩
   obtain⟨v,w,hv⟩:=this
   rw[hv]
   simp only[go_sem,γ,reduceCtorEq,tQ,bC c]
   exact aZ rfl rfl
 cases hs':nE (l.start.map RF.v) with
 | error e =>
  rw[hs'] at go
  exact go ⟨false,[],[]⟩ e blN (fun h=>absurd h (aNV hs')) (fun _=>by rw[uC,hs']) rfl
 | ok r =>
  obtain⟨n,a,b⟩:=r
  rw[hs'] at go
  have hr:=a1Z hs'
  refine go (FV.rf (n,a,b)) 0 hr (fun _=>?_) (fun h=>absurd rfl h) rfl
  rw[show val (FV.rf (n,a,b)).num=a from aR a,show val (FV.rf (n,a,b)).den=b from aR b,show (FV.rf (n,a,b)).neg=n from rfl]
  refine⟨?_,by rw[uC,hs']⟩
  have hv:cO a b=true:=agZ hs'
  rw[zT,hv,axR]
  rfl
theorem bsX {C:Ctx} (L:abJ C) (l:bZ) (hl:l.Ok):NP.wp C (aS a6W.res (bQ (.bool (jZ l)))) (PF.args [.agg l.cells]) .nil:=by
 rw[aYL]
 simp only[go_sem,δ,γ,θ,NP,aXF,aXG,a6W,aXH,bKY]
 refine aA (L.inn l.start.length 1 4) rfl ?_
 cases c1:within l.start.length 1 4 with
 | false =>
  simp only[go_sem,γ,bLK,xQ]
  exact aZ rfl (by simp only[bLI])
 | true =>
  obtain⟨n1,n2⟩:=within_iff.1 c1
  by_cases c2:l.exit.length=l.start.length
  ·rw[decide_eq_true c2]
   by_cases c3:l.bIY.length=l.start.length
   ·rw[decide_eq_true c3]
    simp only[go_sem,δ,γ,θ,reduceCtorEq,bLB,bKY,cA (Om:((l.exit.length:Nat):Int)=(l.start.length:Nat)),cA (Om:((l.bIY.length:Nat):Int)=(l.start.length:Nat))]
    refine aA (L.bmX l.start hl.start) rfl ?_
    cases c4:l.start.all cM with
    | false =>
     simp only[go_sem,γ,reduceCtorEq,bLK,xQ]
     exact aZ rfl (by simp only[bLI])
    | true =>
     simp only[go_sem,γ,reduceCtorEq,bLB]
     refine aA (L.bmX l.exit hl.exit) rfl ?_
     cases c5:l.exit.all cM with
     | false =>
      simp only[go_sem,γ,reduceCtorEq,bLK,xQ]
      exact aZ rfl (by simp only[bLI])
     | true =>
      simp only[go_sem,δ,γ,θ,reduceCtorEq,bLB,aXI,bKY]
      have hrk:∀ k (h:k<l.bIY.length),qW l k=(decide ((l.bIY[k]).length=l.start.length)&&(l.bIY[k]).all cM&&!((l.bIY[k]).map bL).getD k false):=by
       intro k h
       have:l.bIY.getD k []=l.bIY[k]:=by simp[bLP,h]
       rw[qW,this]
      refine wp_loop (α:=Nat) (fun k=>bmU l k) (fun _=>.nil) (fun k=>k≤l.bIY.length∧oJ (qW l) k) (fun k=>l.bIY.length-k) 0 ⟨bLE _,.zero⟩ ?_ PH.nil_le ?_
      ·unfold bmU
       (repeat' (first|exact PF.nil_le|refine PF.aG ?_ ?_))<;>first|(simp only[go_sem,γ,bKY]<;>rfl)|rfl
      rintro k ⟨hk,ha⟩
      simp only[go_sem,γ,aFE,aXJ,bmU]
      by_cases hlt:k<l.bIY.length
      ·have bJA:(k:Int)<(l.bIY.length:Nat):=by omega
       have hr:(l.bIY.map fun r=>[frs r])[k]?=some [frs l.bIY[k]]:=by simp[hlt]
       have hk2:=hrk k hlt
       have hrok:=hl.row l.bIY[k] (bLF hlt)
       simp only[go_sem,γ,bJA,aXK,hr,aXL,bKY]
       by_cases d1:(l.bIY[k]).length=l.start.length
       ·rw[decide_eq_true d1,bLN] at hk2
        simp only[go_sem,γ,cA (show (((l.bIY[k]).length:Nat):Int)=(l.start.length:Nat) by omega)]
        refine aA (L.bmX _ hrok) rfl ?_
        cases d2:(l.bIY[k]).all cM with
        | false =>
         rw[d2,bLI] at hk2
         simp only[go_sem,γ,reduceCtorEq,bLK,SL]
         refine aZ (b:=false) rfl ?_
         have:(bKZ l.bIY.length).all (qW l)=false:=dO hlt hk2
         rw[this]; simp only[bLI,bMK]
        | true =>
         have hkr:k<(l.bIY[k]).length:=by omega
         have hx:((l.bIY[k]).map RF.cells)[k]?=some ((l.bIY[k])[k]).cells:=by simp[hkr]
         have hab:((l.bIY[k]).map bL).getD k false=bL (l.bIY[k])[k]:=by simp[bLP,hkr]
         rw[d2,bLN,hab] at hk2
         simp only[go_sem,δ,γ,reduceCtorEq,bLB,hx]
         refine aA (L.kN _ (hrok.all _ (bLF hkr))) rfl ?_
         cases d3:bL (l.bIY[k])[k] with
         | true =>
          rw[d3] at hk2
          simp only[go_sem,γ,reduceCtorEq,SL]
          refine aZ (b:=false) rfl ?_
          have:(bKZ l.bIY.length).all (qW l)=false:=dO hlt hk2
          rw[this]; simp only[bLI,bMK]
         | false =>
          rw[d3] at hk2
          simp only[go_sem,γ,reduceCtorEq,aXM,ws k]
          refine aE (k+1) ⟨hlt,ha.step hk2⟩ Om ?_ PH.nil_le
          exact Lq
       ·simp only[decide_eq_false d1,bLI] at hk2
        simp only[go_sem,γ,cV (show (((l.bIY[k]).length:Nat):Int)≠(l.start.length:Nat) by omega),SL]
        refine aZ (b:=false) rfl ?_
        have:(bKZ l.bIY.length).all (qW l)=false:=dO hlt hk2
        rw[this]; simp only[bLI,bMK]
      ·have bJA:¬ (k:Int)<(l.bIY.length:Nat):=by omega
       have:k=l.bIY.length:=by omega
       subst this
       have bKL:(bKZ l.bIY.length).all (qW l)=true:=ha
       have he:zQ l:=⟨by omega,by omega,fun r hr=>by
        obtain⟨i,hi,rfl⟩:=bMO hr
        have:=bLU.1 bKL i (bMQ.2 hi)
        rw[hrk i hi] at this
        simp only[bLT,decide_eq_true_eq] at this
        omega⟩
       have tail:=bdU L l hl he
       simp only[aB.wp,go_sem] at tail
       rw[bKL]
       simp only[go_sem,bJA,bLN,bNK]
       exact tail _ rfl
   ·simp only[go_sem,δ,γ,θ,reduceCtorEq,bLB,bKY,cA (Om:((l.exit.length:Nat):Int)=(l.start.length:Nat)),cV (Om:((l.bIY.length:Nat):Int)≠(l.start.length:Nat)),xQ]
    exact aZ rfl (by rw[decide_eq_false c3]; simp only[bLI,bMK])
  ·simp only[go_sem,γ,reduceCtorEq,bLB,bKY,cV (Om:((l.exit.length:Nat):Int)≠(l.start.length:Nat)),xQ]
   exact aZ rfl (by rw[decide_eq_false c2]; simp only[bLI,bMK])
structure kJ (C:Ctx):Prop extends abJ C where
 law:∀ l:bZ,l.Ok→aH C 95 [.agg l.cells] .nil (aF (.bool (jZ l)))
 pol:∀ (p:cJ) (n:Nat),p.Ok→n≤4→aH C 112 [.agg p.cells,.int .i64 n] .nil (aF (.bool (jI n p)))
 bJF:∀ f:aD,f.Ok→aH C 111 [.agg f.cells] .nil (aF (.bool (nJ f)))
abbrev eU (l:List (List UInt8)):List (List PV):=l.map fun s=>[PV.str s]
theorem vL (l:List (List UInt8)) {k:Nat} (h:k<l.length):eU (l.take k)++[[.str l[k]]]=eU (l.take (k+1)):=by
 unfold eU
 rw[bNC h,bMW]; rfl
theorem rN {l:List (List UInt8)} (h:l.length≤1000):roomFor (eU l).length 1 16:=by
 unfold roomFor eU
 simp only[bKY,maxLen]; omega
def iW {α:Type} (l:List α) (p:α→Bool) (k:Nat):Bool:=(l.take k).all p
theorem sB {α:Type} (l:List α) (p:α→Bool):iW l p 0=true:=rfl
theorem sA {α:Type} (l:List α) (p:α→Bool) {k:Nat} (h:k<l.length):iW l p (k+1)=(iW l p k&&p l[k]):=by
 unfold iW
 rw[bNC h,List.all_append]; simp
theorem uV {α:Type} (l:List α) (p:α→Bool):iW l p l.length=l.all p:=by unfold iW; rw[bLZ]
def jD (f:aD) (w3 w4 w5 w6 w7:PV) (ok:Bool):PF:=(((((((PF.nil.set 1 (.bJC f.cells)).set 3 (w3)).set 4 (w4)).set 5 (w5)).set 6 (w6)).set 7 (w7)).set 8 (.bool ok))
structure kM (F:PF) (f:aD) (w3 w4 w5 w6 w7:PV) (ok:Bool):Prop where
 a1:F 1=some (.bJC f.cells)
 a3:F 3=some w3
 a4:F 4=some w4
 a5:F 5=some w5
 a6:F 6=some w6
 a7:F 7=some w7
 a8:F 8=some (.bool ok)
theorem a7D {C:Ctx} (L:kJ C) (f:aD) (hf:f.Ok) (hs:f.bJD.length≤4) (w4 w5 w6 w7:PV) (K:bY) (F:PF) (H:PH) (hv:kM F f .bIU w4 w5 w6 w7 true)
  (h67:F 67=some (.sl 4 (f.bJD.map bZ.cells))) (h68:F 68=some (.int .i64 (f.bJD.length:Nat))) (h69:F 69=some (.int .i64 0))
  (hK:∀ v F' H',kM F' f v w4 w5 w6 w7 (f.bJD.all jZ)→aY H' 1 v (eU (f.bJD.map bZ.name))→K (.exit 0) F' H') :
  aB.wp C (.loop GU) K F H:=by
 refine wp_loop (α:=Nat × PV × PH) (fun t=>(((jD f t.2.1 w4 w5 w6 w7 (iW f.bJD jZ t.1)).set 67 (.sl 4 (f.bJD.map bZ.cells))).set 68 (.int .i64 (f.bJD.length:Nat))).set 69 (.int .i64 t.1)) (fun t=>t.2.2)
  (fun t=>t.1≤f.bJD.length∧aY t.2.2 1 t.2.1 (eU ((f.bJD.map bZ.name).take t.1))) (fun t=>f.bJD.length-t.1) (0,.bIU,.nil) ⟨bLE _,.nil⟩ ?_ PH.nil_le ?_
 ·unfold jD
  (repeat' (first|exact PF.nil_le|refine PF.aG ?_ ?_))<;>first|(simp only[go_sem,hv.a1,hv.a3,hv.a4,hv.a5,hv.a6,hv.a7,hv.a8,h67,h68,h69,sB]<;>rfl)|rfl
 rintro⟨k,v,H0⟩ ⟨hk,hO⟩
 simp only at hk hO ⊢
 simp only[go_sem,γ,GU,aYH,jD]
 by_cases hlt:k<f.bJD.length
 ·have bJA:(k:Int)<(f.bJD.length:Nat):=by omega
  have hr:(f.bJD.map bZ.cells)[k]?=some (f.bJD[k]).cells:=by simp[hlt]
  have hsn:=vL (f.bJD.map bZ.name) (k:=k) (by simpa using hlt)
  rw[bMN] at hsn
  simp only[go_sem,δ,γ,bJA,aYI,hr]
  refine aN fun o ho=>?_
  simp only[go_sem,υ,δ,γ,η,θ,ζ,aYJ]
  refine mU hO ho (rN (by simp; omega)) fun v' H' hO' ho'=>?_
  rw[hsn] at hO'
  have bJB:=sA f.bJD jZ hlt
  cases hb:iW f.bJD jZ k with
  | false =>
   rw[hb,bLI] at bJB
   simp only[go_sem,γ,reduceCtorEq,amL,ho',XO,ws k]
   refine aE (k+1,v',H') ⟨hlt,hO'⟩ (by simp only; omega) ?_ PH.le_refl
   simp only[bJB]
   exact Lq
  | true =>
   rw[hb,bLN] at bJB
   simp only[go_sem,δ,γ,amL,ho']
   refine aA (L.law _ (hf.law _ (bLF hlt))) Ev ?_
   simp only[go_sem,γ,XO,ws k]
   refine aE (k+1,v',H') ⟨hlt,hO'⟩ (by simp only; omega) ?_ PH.le_refl
   simp only[bJB]
   exact Lq
 ·have bJA:¬ (k:Int)<(f.bJD.length:Nat):=by omega
  have:k=f.bJD.length:=by omega
  subst this
  rw[bLQ (by simp)] at hO
  rw[uV]
  simp only[go_sem,bJA]
  exact hK v _ _ ⟨by simp only[go_sem,γ],by simp only[go_sem,γ],by simp only[go_sem,γ],by simp only[go_sem,γ],by simp only[go_sem,γ],by simp only[go_sem,γ],by simp only[go_sem,γ]⟩ hO
theorem BE {n:Nat} (h:n≤1000):IntKind.i64.wrap ((n:Int)-1)=(n:Int)-1:=wrap_i64 Om Om
theorem a7E {C:Ctx} (L:kJ C) (f:aD) (hs:f.bIT.length≤4) (hl:f.bJD.length≤4) (b0:Bool) (w3 w5 w6 w7:PV) (K:bY) (F:PF) (H:PH) (hv:kM F f w3 .bIU w5 w6 w7 b0)
  (h67:F 85=some (.sl 4 (f.bIT.map cL.cells))) (h68:F 86=some (.int .i64 (f.bIT.length:Nat))) (h69:F 87=some (.int .i64 0))
  (hK:∀ v F' H',kM F' f w3 v w5 w6 w7 (b0&&f.bIT.all (kA f))→aY H' 1 v (eU (f.bIT.map cL.name))→K (.exit 2) F' H') :
  aB.wp C (.loop GW) K F H:=by
 refine wp_loop (α:=Nat × PV × PH) (fun t=>(((jD f w3 t.2.1 w5 w6 w7 (b0&&iW f.bIT (kA f) t.1)).set 85 (.sl 4 (f.bIT.map cL.cells))).set 86 (.int .i64 (f.bIT.length:Nat))).set 87 (.int .i64 t.1)) (fun t=>t.2.2)
  (fun t=>t.1≤f.bIT.length∧aY t.2.2 1 t.2.1 (eU ((f.bIT.map cL.name).take t.1))) (fun t=>f.bIT.length-t.1) (0,.bIU,.nil) ⟨bLE _,.nil⟩ ?_ PH.nil_le ?_
 ·unfold jD
  (repeat' (first|exact PF.nil_le|refine PF.aG ?_ ?_))<;>first|(simp only[go_sem,hv.a1,hv.a3,hv.a4,hv.a5,hv.a6,hv.a7,hv.a8,h67,h68,h69,sB,bNK]<;>rfl)|rfl
 rintro⟨k,v,H0⟩ ⟨hk,hO⟩
 simp only at hk hO ⊢
 simp only[go_sem,γ,GW,aFZ,jD]
 by_cases hlt:k<f.bIT.length
 ·have bJA:(k:Int)<(f.bIT.length:Nat):=by omega
  have hr:(f.bIT.map cL.cells)[k]?=some (f.bIT[k]).cells:=by simp[hlt]
  have hsn:=vL (f.bIT.map cL.name) (k:=k) (by simpa using hlt)
  rw[bMN] at hsn
  simp only[go_sem,δ,γ,bJA,aGA,hr]
  refine aN fun o ho=>?_
  simp only[go_sem,υ,δ,γ,η,θ,ζ,aGB]
  refine mU hO ho (rN (by simp; omega)) fun v' H' hO' ho'=>?_
  rw[hsn] at hO'
  have bJB:=sA f.bIT (kA f) hlt
  have fin:∀ (c:Bool) (F':PF),c=(b0&&iW f.bIT (kA f) (k+1))→((((jD f w3 v' w5 w6 w7 c).set 85 (.sl 4 (f.bIT.map cL.cells))).set 86 (.int .i64 (f.bIT.length:Nat))).set 87 (.int .i64 (k+1:Nat))).le F' →
    dV (fun (t:Nat × PV × PH)=>(((jD f w3 t.2.1 w5 w6 w7 (b0&&iW f.bIT (kA f) t.1)).set 85 (.sl 4 (f.bIT.map cL.cells))).set 86 (.int .i64 (f.bIT.length:Nat))).set 87 (.int .i64 t.1)) (fun (t:Nat × PV × PH)=>t.2.2)  (fun (t:Nat × PV × PH)=>t.1≤f.bIT.length∧aY t.2.2 1 t.2.1 (eU ((f.bIT.map cL.name).take t.1))) (fun (t:Nat × PV × PH)=>f.bIT.length-t.1) (f.bIT.length-k) K .normal F' H':=by
   intro c F' hc hle
   refine aE (α:=Nat × PV × PH) (k+1,v',H') ⟨hlt,hO'⟩ (by simp only; omega) ?_ PH.le_refl
   rw[hc] at hle
   exact hle
  unfold jD at fin
  rw[bJB,← bNT] at fin
  have hm:kA f f.bIT[k]=(within (f.bIT[k]).bJO 1 16&&within (f.bIT[k]).port 1 64&&within (f.bIT[k]).law 0 ((f.bJD.length:Int)-1)):=rfl
  cases hb:(b0&&iW f.bIT (kA f) k) with
  | false =>
   rw[hb,bLI] at fin
   simp only[go_sem,γ,reduceCtorEq,XQ,ho',yN,ws k]
   refine fin false _ rfl ?_
   exact Lq
  | true =>
   rw[hb,bLN] at fin
   simp only[go_sem,δ,γ,θ,XQ,ho']
   refine aA (L.inn _ 1 16) Ev ?_
   cases e1:within (f.bIT[k]).bJO 1 16 with
   | false =>
    simp only[go_sem,γ,reduceCtorEq,yN,ws k]
    refine fin false _ (by rw[hm,e1]; simp only[bLI]) ?_
    exact Lq
   | true =>
    simp only[go_sem,δ,γ,θ,ho']
    refine aA (L.inn _ 1 64) Ev ?_
    cases e2:within (f.bIT[k]).port 1 64 with
    | false =>
     simp only[go_sem,γ,reduceCtorEq,yN,ws k]
     refine fin false _ (by rw[hm,e1,e2]; simp only[bLI,bMK]) ?_
     exact Lq
    | true =>
     simp only[go_sem,δ,γ,θ,ho',bKY,BE (Om:f.bJD.length≤1000)]
     refine aA (L.inn _ 0 _) Ev ?_
     simp only[go_sem,γ,yN,ws k]
     refine fin (within (f.bIT[k]).law 0 ((f.bJD.length:Int)-1)) _ (by rw[hm,e1,e2]; simp only[bLN]) ?_
     exact Lq
 ·have bJA:¬ (k:Int)<(f.bIT.length:Nat):=by omega
  have:k=f.bIT.length:=by omega
  subst this
  rw[bLQ (by simp)] at hO
  rw[uV]
  simp only[go_sem,bJA]
  exact hK v _ _ ⟨by simp only[go_sem,γ],by simp only[go_sem,γ],by simp only[go_sem,γ],by simp only[go_sem,γ],by simp only[go_sem,γ],by simp only[go_sem,γ],by simp only[go_sem,γ]⟩ hO
theorem a7F {C:Ctx} (L:kJ C) (f:aD) (t:List cI) (hs:t.length≤40) (b0:Bool) (w3 w4 w6 w7:PV) (K:bY) (F:PF) (H:PH) (hv:kM F f w3 w4 .bIU w6 w7 b0)
  (h67:F 119=some (.sl 7 (t.map cI.cells))) (h68:F 120=some (.int .i64 (t.length:Nat))) (h69:F 121=some (.int .i64 0))
  (hK:∀ v F' H',kM F' f w3 w4 v w6 w7 b0→aY H' 1 v (eU (t.map cI.name))→K (.exit 4) F' H') :
  aB.wp C (.loop GX) K F H:=by
 refine wp_loop (α:=Nat × PV × PH) (fun a=>(((jD f w3 w4 a.2.1 w6 w7 b0).set 119 (.sl 7 (t.map cI.cells))).set 120 (.int .i64 (t.length:Nat))).set 121 (.int .i64 a.1)) (fun a=>a.2.2)
  (fun a=>a.1≤t.length∧aY a.2.2 1 a.2.1 (eU ((t.map cI.name).take a.1))) (fun a=>t.length-a.1) (0,.bIU,.nil) ⟨bLE _,.nil⟩ ?_ PH.nil_le ?_
 ·unfold jD
  (repeat' (first|exact PF.nil_le|refine PF.aG ?_ ?_))<;>first|(simp only[go_sem,hv.a1,hv.a3,hv.a4,hv.a5,hv.a6,hv.a7,hv.a8,h67,h68,h69]<;>rfl)|rfl
 rintro⟨k,v,H0⟩ ⟨hk,hO⟩
 simp only at hk hO ⊢
 simp only[go_sem,γ,GX,aGC,jD]
 by_cases hlt:k<t.length
 ·have bJA:(k:Int)<(t.length:Nat):=by omega
  have hr:(t.map cI.cells)[k]?=some (t[k]).cells:=by simp[hlt]
  have hsn:=vL (t.map cI.name) (k:=k) (by simpa using hlt)
  rw[bMN] at hsn
  simp only[go_sem,δ,γ,bJA,aGD,hr]
  refine aN fun o ho=>?_
  simp only[go_sem,υ,δ,γ,η,θ,ζ,aGE]
  refine mU hO ho (rN (by simp; omega)) fun v' H' hO' ho'=>?_
  rw[hsn] at hO'
  simp only[go_sem,γ,aGF,ws k]
  refine aE (k+1,v',H') ⟨hlt,hO'⟩ (by simp only; omega) ?_ PH.le_refl
  exact Lq
 ·have bJA:¬ (k:Int)<(t.length:Nat):=by omega
  have:k=t.length:=by omega
  subst this
  rw[bLQ (by simp)] at hO
  simp only[go_sem,bJA]
  exact hK v _ _ ⟨by simp only[go_sem,γ],by simp only[go_sem,γ],by simp only[go_sem,γ],by simp only[go_sem,γ],by simp only[go_sem,γ],by simp only[go_sem,γ],by simp only[go_sem,γ]⟩ hO
theorem a7G {C:Ctx} (L:kJ C) (f:aD) (names:List (List UInt8)) (hn:names.length≤40) (hs:f.bIS.length≤24) (hm:f.bIT.length≤4) (hd:f.bIW.length≤40) (b0:Bool) (w3 w4 v0 w6 w7:PV) (K:bY) (F:PF) (H:PH) (hv:kM F f w3 w4 v0 w6 w7 b0)
  (h0:aY H 1 v0 (eU names))
  (h67:F 132=some (.sl 3 (f.bIS.map dB.cells))) (h68:F 133=some (.int .i64 (f.bIS.length:Nat))) (h69:F 134=some (.int .i64 0))
  (hK:∀ v F' H',kM F' f w3 w4 v w6 w7 (b0&&f.bIS.all (iR f))→aY H' 1 v (eU (names++f.bIS.map dB.name))→K (.exit 6) F' H') :
  aB.wp C (.loop GY) K F H:=by
 refine wp_loop (α:=Nat × PV × PH) (fun t=>(((jD f w3 w4 t.2.1 w6 w7 (b0&&iW f.bIS (iR f) t.1)).set 132 (.sl 3 (f.bIS.map dB.cells))).set 133 (.int .i64 (f.bIS.length:Nat))).set 134 (.int .i64 t.1)) (fun t=>t.2.2)
  (fun t=>t.1≤f.bIS.length∧aY t.2.2 1 t.2.1 (eU (names++(f.bIS.map dB.name).take t.1))) (fun t=>f.bIS.length-t.1) (0,v0,H) ⟨bLE _,by rw[List.take_zero,bMP]; exact h0⟩ ?_ PH.le_refl ?_
 ·unfold jD
  (repeat' (first|exact PF.nil_le|refine PF.aG ?_ ?_))<;>first|(simp only[go_sem,hv.a1,hv.a3,hv.a4,hv.a5,hv.a6,hv.a7,hv.a8,h67,h68,h69,sB,bNK]<;>rfl)|rfl
 rintro⟨k,v,H0⟩ ⟨hk,hO⟩
 simp only at hk hO ⊢
 simp only[go_sem,γ,GY,aGG,jD]
 by_cases hlt:k<f.bIS.length
 ·have bJA:(k:Int)<(f.bIS.length:Nat):=by omega
  have hr:(f.bIS.map dB.cells)[k]?=some (f.bIS[k]).cells:=by simp[hlt]
  have hsn:eU (names++(f.bIS.map dB.name).take k)++[[.str (f.bIS[k]).name]]=eU (names++(f.bIS.map dB.name).take (k+1)):=by
   rw[bNC (by simpa using hlt),← bMA,bMN]
   unfold eU
   simp only[bMW,bMI,bMZ]
  simp only[go_sem,δ,γ,bJA,aGH,hr]
  refine aN fun o ho=>?_
  simp only[go_sem,υ,δ,γ,η,θ,ζ,aGI]
  refine mU hO ho (rN (by simp; omega)) fun v' H' hO' ho'=>?_
  rw[hsn] at hO'
  have bJB:=sA f.bIS (iR f) hlt
  have fin:∀ (c:Bool) (F':PF),c=(b0&&iW f.bIS (iR f) (k+1))→((((jD f w3 w4 v' w6 w7 c).set 132 (.sl 3 (f.bIS.map dB.cells))).set 133 (.int .i64 (f.bIS.length:Nat))).set 134 (.int .i64 (k+1:Nat))).le F' →
    dV (fun (t:Nat × PV × PH)=>(((jD f w3 w4 t.2.1 w6 w7 (b0&&iW f.bIS (iR f) t.1)).set 132 (.sl 3 (f.bIS.map dB.cells))).set 133 (.int .i64 (f.bIS.length:Nat))).set 134 (.int .i64 t.1)) (fun (t:Nat × PV × PH)=>t.2.2)  (fun (t:Nat × PV × PH)=>t.1≤f.bIS.length∧aY t.2.2 1 t.2.1 (eU (names++(f.bIS.map dB.name).take t.1))) (fun (t:Nat × PV × PH)=>f.bIS.length-t.1) (f.bIS.length-k) K .normal F' H':=by
   intro c F' hc hle
   refine aE (α:=Nat × PV × PH) (k+1,v',H') ⟨hlt,hO'⟩ (by simp only; omega) ?_ PH.le_refl
   rw[hc] at hle
   exact hle
  unfold jD at fin
  rw[bJB,← bNT] at fin
  have hmd:iR f f.bIS[k]=(within (f.bIS[k]).model 0 ((f.bIT.length:Int)-1)&&within (f.bIS[k]).machine 0 ((f.bIW.length:Int)-1)&&decide ((f.bIW.map cI.level).getD (f.bIS[k]).machine.toNat 0=4)):=rfl
  cases hb:(b0&&iW f.bIS (iR f) k) with
  | false =>
   rw[hb,bLI] at fin
   simp only[go_sem,γ,reduceCtorEq,XT,ho',tR,ws k]
   refine fin false _ rfl ?_
   exact Lq
  | true =>
   rw[hb,bLN] at fin
   simp only[go_sem,δ,γ,θ,XT,ho',bKY,BE (Om:f.bIT.length≤1000)]
   refine aA (L.inn _ 0 _) Ev ?_
   cases e1:within (f.bIS[k]).model 0 ((f.bIT.length:Int)-1) with
   | false =>
    simp only[go_sem,γ,reduceCtorEq,tR,ws k]
    refine fin false _ (by rw[hmd,e1]; simp only[bLI]) ?_
    exact Lq
   | true =>
    simp only[go_sem,δ,γ,θ,ho',bKY,BE (Om:f.bIW.length≤1000)]
    refine aA (L.inn _ 0 _) Ev ?_
    cases e2:within (f.bIS[k]).machine 0 ((f.bIW.length:Int)-1) with
    | false =>
     simp only[go_sem,γ,reduceCtorEq,tR,ws k]
     refine fin false _ (by rw[hmd,e1,e2]; simp only[bLI,bMK]) ?_
     exact Lq
    | true =>
     obtain⟨i1,i2⟩:=within_iff.1 e2
     have i3:(f.bIS[k]).machine.toNat<f.bIW.length:=by omega
     have hpr:(f.bIW.map cI.cells)[(f.bIS[k]).machine.toNat]?=some (f.bIW[(f.bIS[k]).machine.toNat]).cells:=by simp[i3]
     have hlv:(f.bIW.map cI.level).getD (f.bIS[k]).machine.toNat 0=(f.bIW[(f.bIS[k]).machine.toNat]).level:=by simp[i3]
     rw[hlv] at hmd
     by_cases e3:(f.bIW[(f.bIS[k]).machine.toNat]).level=4
     ·simp only[go_sem,δ,γ,θ,ho',i1,hpr,bN e3,tR,ws k]
      refine fin true _ (by rw[hmd,e1,e2,decide_eq_true e3]; rfl) ?_
      exact Lq
     ·simp only[go_sem,δ,γ,θ,ho',i1,hpr,bC e3,tR,ws k]
      refine fin false _ (by rw[hmd,e1,e2,decide_eq_false e3]; rfl) ?_
      exact Lq
 ·have bJA:¬ (k:Int)<(f.bIS.length:Nat):=by omega
  have:k=f.bIS.length:=by omega
  subst this
  rw[bLQ (by simp)] at hO
  rw[uV]
  simp only[go_sem,bJA]
  exact hK v _ _ ⟨by simp only[go_sem,γ],by simp only[go_sem,γ],by simp only[go_sem,γ],by simp only[go_sem,γ],by simp only[go_sem,γ],by simp only[go_sem,γ],by simp only[go_sem,γ]⟩ hO
theorem a7H {C:Ctx} (L:kJ C) (f:aD) (hf:f.Ok) (hs:f.bIX.length≤4) (hm:f.bIT.length≤4) (b0:Bool) (w3 w4 w5 w7:PV) (K:bY) (F:PF) (H:PH) (hv:kM F f w3 w4 w5 .bIU w7 b0)
  (h67:F 174=some (.sl 17 (f.bIX.map cJ.cells))) (h68:F 175=some (.int .i64 (f.bIX.length:Nat))) (h69:F 176=some (.int .i64 0))
  (hK:∀ v F' H',kM F' f w3 w4 w5 v w7 (b0&&f.bIX.all (jI f.bIT.length))→aY H' 1 v (eU (f.bIX.map cJ.name))→K (.exit 8) F' H') :
  aB.wp C (.loop GZ) K F H:=by
 refine wp_loop (α:=Nat × PV × PH) (fun t=>(((jD f w3 w4 w5 t.2.1 w7 (b0&&iW f.bIX (jI f.bIT.length) t.1)).set 174 (.sl 17 (f.bIX.map cJ.cells))).set 175 (.int .i64 (f.bIX.length:Nat))).set 176 (.int .i64 t.1)) (fun t=>t.2.2)
  (fun t=>t.1≤f.bIX.length∧aY t.2.2 1 t.2.1 (eU ((f.bIX.map cJ.name).take t.1))) (fun t=>f.bIX.length-t.1) (0,.bIU,.nil) ⟨bLE _,.nil⟩ ?_ PH.nil_le ?_
 ·unfold jD
  (repeat' (first|exact PF.nil_le|refine PF.aG ?_ ?_))<;>first|(simp only[go_sem,hv.a1,hv.a3,hv.a4,hv.a5,hv.a6,hv.a7,hv.a8,h67,h68,h69,sB,bNK]<;>rfl)|rfl
 rintro⟨k,v,H0⟩ ⟨hk,hO⟩
 simp only at hk hO ⊢
 simp only[go_sem,γ,GZ,aGJ,jD]
 by_cases hlt:k<f.bIX.length
 ·have bJA:(k:Int)<(f.bIX.length:Nat):=by omega
  have hr:(f.bIX.map cJ.cells)[k]?=some (f.bIX[k]).cells:=by simp[hlt]
  have hsn:=vL (f.bIX.map cJ.name) (k:=k) (by simpa using hlt)
  rw[bMN] at hsn
  simp only[go_sem,δ,γ,bJA,aGK,hr]
  refine aN fun o ho=>?_
  simp only[go_sem,υ,δ,γ,η,θ,ζ,aGL]
  refine mU hO ho (rN (by simp; omega)) fun v' H' hO' ho'=>?_
  rw[hsn] at hO'
  have bJB:=sA f.bIX (jI f.bIT.length) hlt
  have fin:∀ (c:Bool) (F':PF),c=(b0&&iW f.bIX (jI f.bIT.length) (k+1))→((((jD f w3 w4 w5 v' w7 c).set 174 (.sl 17 (f.bIX.map cJ.cells))).set 175 (.int .i64 (f.bIX.length:Nat))).set 176 (.int .i64 (k+1:Nat))).le F' →
    dV (fun (t:Nat × PV × PH)=>(((jD f w3 w4 w5 t.2.1 w7 (b0&&iW f.bIX (jI f.bIT.length) t.1)).set 174 (.sl 17 (f.bIX.map cJ.cells))).set 175 (.int .i64 (f.bIX.length:Nat))).set 176 (.int .i64 t.1)) (fun (t:Nat × PV × PH)=>t.2.2)  (fun (t:Nat × PV × PH)=>t.1≤f.bIX.length∧aY t.2.2 1 t.2.1 (eU ((f.bIX.map cJ.name).take t.1))) (fun (t:Nat × PV × PH)=>f.bIX.length-t.1) (f.bIX.length-k) K .normal F' H':=by
   intro c F' hc hle
   refine aE (α:=Nat × PV × PH) (k+1,v',H') ⟨hlt,hO'⟩ (by simp only; omega) ?_ PH.le_refl
   rw[hc] at hle
   exact hle
  unfold jD at fin
  rw[bJB,← bNT] at fin
  cases hb:(b0&&iW f.bIX (jI f.bIT.length) k) with
  | false =>
   rw[hb,bLI] at fin
   simp only[go_sem,γ,reduceCtorEq,XV,ho',XW,ws k]
   refine fin false _ rfl ?_
   exact Lq
  | true =>
   rw[hb,bLN] at fin
   simp only[go_sem,δ,γ,θ,XV,ho',bKY]
   refine aA (L.pol _ _ (hf.bJI _ (bLF hlt)) hm) Ev ?_
   simp only[go_sem,γ,XW,ws k]
   refine fin _ _ rfl ?_
   exact Lq
 ·have bJA:¬ (k:Int)<(f.bIX.length:Nat):=by omega
  have:k=f.bIX.length:=by omega
  subst this
  rw[bLQ (by simp)] at hO
  rw[uV]
  simp only[go_sem,bJA]
  exact hK v _ _ ⟨by simp only[go_sem,γ],by simp only[go_sem,γ],by simp only[go_sem,γ],by simp only[go_sem,γ],by simp only[go_sem,γ],by simp only[go_sem,γ],by simp only[go_sem,γ]⟩ hO
theorem a7I {C:Ctx} (L:kJ C) (f:aD) (hs:f.bIV.length≤12) (hl:f.bIX.length≤4) (b0:Bool) (w3 w4 w5 w6:PV) (K:bY) (F:PF) (H:PH) (hv:kM F f w3 w4 w5 w6 .bIU b0)
  (h67:F 195=some (.sl 2 (f.bIV.map eN.cells))) (h68:F 196=some (.int .i64 (f.bIV.length:Nat))) (h69:F 197=some (.int .i64 0))
  (hK:∀ v F' H',kM F' f w3 w4 w5 w6 v (b0&&f.bIV.all (nO f))→aY H' 1 v (eU (f.bIV.map eN.name))→K (.exit 10) F' H') :
  aB.wp C (.loop HA) K F H:=by
 refine wp_loop (α:=Nat × PV × PH) (fun t=>(((jD f w3 w4 w5 w6 t.2.1 (b0&&iW f.bIV (nO f) t.1)).set 195 (.sl 2 (f.bIV.map eN.cells))).set 196 (.int .i64 (f.bIV.length:Nat))).set 197 (.int .i64 t.1)) (fun t=>t.2.2)
  (fun t=>t.1≤f.bIV.length∧aY t.2.2 1 t.2.1 (eU ((f.bIV.map eN.name).take t.1))) (fun t=>f.bIV.length-t.1) (0,.bIU,.nil) ⟨bLE _,.nil⟩ ?_ PH.nil_le ?_
 ·unfold jD
  (repeat' (first|exact PF.nil_le|refine PF.aG ?_ ?_))<;>first|(simp only[go_sem,hv.a1,hv.a3,hv.a4,hv.a5,hv.a6,hv.a7,hv.a8,h67,h68,h69,sB,bNK]<;>rfl)|rfl
 rintro⟨k,v,H0⟩ ⟨hk,hO⟩
 simp only at hk hO ⊢
 simp only[go_sem,γ,HA,aGM,jD]
 by_cases hlt:k<f.bIV.length
 ·have bJA:(k:Int)<(f.bIV.length:Nat):=by omega
  have hr:(f.bIV.map eN.cells)[k]?=some (f.bIV[k]).cells:=by simp[hlt]
  have hsn:=vL (f.bIV.map eN.name) (k:=k) (by simpa using hlt)
  rw[bMN] at hsn
  simp only[go_sem,δ,γ,bJA,aGN,hr]
  refine aN fun o ho=>?_
  simp only[go_sem,υ,δ,γ,η,θ,ζ,aGO]
  refine mU hO ho (rN (by simp; omega)) fun v' H' hO' ho'=>?_
  rw[hsn] at hO'
  have bJB:=sA f.bIV (nO f) hlt
  have fin:∀ (c:Bool) (F':PF),c=(b0&&iW f.bIV (nO f) (k+1))→((((jD f w3 w4 w5 w6 v' c).set 195 (.sl 2 (f.bIV.map eN.cells))).set 196 (.int .i64 (f.bIV.length:Nat))).set 197 (.int .i64 (k+1:Nat))).le F' →
    dV (fun (t:Nat × PV × PH)=>(((jD f w3 w4 w5 w6 t.2.1 (b0&&iW f.bIV (nO f) t.1)).set 195 (.sl 2 (f.bIV.map eN.cells))).set 196 (.int .i64 (f.bIV.length:Nat))).set 197 (.int .i64 t.1)) (fun (t:Nat × PV × PH)=>t.2.2)  (fun (t:Nat × PV × PH)=>t.1≤f.bIV.length∧aY t.2.2 1 t.2.1 (eU ((f.bIV.map eN.name).take t.1))) (fun (t:Nat × PV × PH)=>f.bIV.length-t.1) (f.bIV.length-k) K .normal F' H':=by
   intro c F' hc hle
   refine aE (α:=Nat × PV × PH) (k+1,v',H') ⟨hlt,hO'⟩ (by simp only; omega) ?_ PH.le_refl
   rw[hc] at hle
   exact hle
  unfold jD at fin
  rw[bJB,← bNT] at fin
  have hm:nO f f.bIV[k]=within (f.bIV[k]).bJI 0 ((f.bIX.length:Int)-1):=rfl
  cases hb:(b0&&iW f.bIV (nO f) k) with
  | false =>
   rw[hb,bLI] at fin
   simp only[go_sem,γ,reduceCtorEq,XZ,ho',YA,ws k]
   refine fin false _ rfl ?_
   exact Lq
  | true =>
   rw[hb,bLN,hm] at fin
   simp only[go_sem,δ,γ,θ,XZ,ho',bKY,BE (Om:f.bIX.length≤1000)]
   refine aA (L.inn _ 0 _) Ev ?_
   simp only[go_sem,γ,YA,ws k]
   refine fin _ _ rfl ?_
   exact Lq
 ·have bJA:¬ (k:Int)<(f.bIV.length:Nat):=by omega
  have:k=f.bIV.length:=by omega
  subst this
  rw[bLQ (by simp)] at hO
  rw[uV]
  simp only[go_sem,bJA]
  exact hK v _ _ ⟨by simp only[go_sem,γ],by simp only[go_sem,γ],by simp only[go_sem,γ],by simp only[go_sem,γ],by simp only[go_sem,γ],by simp only[go_sem,γ],by simp only[go_sem,γ]⟩ hO
theorem nD {f:aD} (h:¬ (f.bJD.length≤4∧f.bIT.length≤4∧f.bIW.length≤40∧f.bIS.length≤24∧f.bIX.length≤4∧f.bIV.length≤12)):nC f=false:=by
 rw[← Bool.not_eq_true]
 intro hs
 simp only[nC,bLT,decide_eq_true_eq] at hs
 omega
theorem aVB {f:aD} (h:f.bJD.length≤4∧f.bIT.length≤4∧f.bIW.length≤40∧f.bIS.length≤24∧f.bIX.length≤4∧f.bIV.length≤12):nC f=within f.bKI 1 4:=by
 obtain⟨h1,h2,h3,h4,h5,h6⟩:=h
 simp[nC,h1,h2,h3,h4,h5,h6]
theorem gE {t:Nat} {n m:Int} {F:PF} {H:PH} (h:F t=some (.int .i64 n)) (e:n=m):aS [.tmp t] (bQ (.int .i64 m)) .ret F H:=by
 subst e
 exact aV (.inr rfl) .nil (vs:=[.int .i64 n]) (by rw[lI,oE,h,pU]) PH.nil_le ⟨.refl _,rfl⟩
def KR (f:aD):Int:=if cX f then 0 else 1
theorem bbS {f:aD} (h:cX f=false):KR f=1:=by rw[KR,h]; rfl
theorem tD {C:Ctx} {F:PF} {H:PH} {name t s:Nat} {v r:PV} {rows:List (List PV)} {d:Option Nat} {K:PF→PH→Prop} (h:aH C name [.sl s rows] .nil (aF r)) (hO:aY H s v rows) (ht:F t=some v)
  (hK:∀ (F1:PF) (H1:PH),(∀ i u,F i=some u→Pure u→F1 i=some u)→K (F1.put d r) H1):gS C name [.tmp t] [] d K F H:=by
 rcases hO with ⟨rfl,rfl⟩ | ⟨q,rs,rfl,h1,h2,h3⟩
 ·refine aA (h.baS (.inl ⟨rfl,rfl⟩)) (by rw[yG,acD,ht,SH]) ?_
  exact hK F H fun i u hi _=>hi
 ·rw[← h3] at h
  refine pX (k:=rows.length) h ht h1 h2 (hK _ _ fun i u hi hp=>?_)
  rw[sH,hi,bME,hp q s rs]
theorem Seen.pure {s:Nat} {v:PV} {rows:List (List PV)} (h:Seen s v rows):Pure v:=by
 rcases h with ⟨_,rfl⟩ | rfl
 ·exact fun _ _ _=>rfl
 ·exact fun _ _ _=>rfl
def bI (b:Bool):Int:=if b then 0 else 1
abbrev SW (f:aD):List (List UInt8):=(f.bIW.drop 1).map cI.name++f.bIS.map dB.name
def uS (f:aD):Bool:=distinct (f.bJD.map bZ.name)&&distinct (f.bIT.map cL.name)&&distinct (SW f)&&distinct (f.bIX.map cJ.name)&&distinct (f.bIV.map eN.name)
structure Small (f:aD):Prop where
 bJD:f.bJD.length≤4
 bIT:f.bIT.length≤4
 bIW:f.bIW.length≤40
 bIS:f.bIS.length≤24
 bIX:f.bIX.length≤4
 bIV:f.bIV.length≤12
theorem AJ {C:Ctx} (L:kJ C) {v:PV} {l:List (List UInt8)} (h:Seen 1 v (eU l)) (hl:l.length≤1000):aH C 110 [v] .nil (aF (.bool (distinct l))) :=
 (L.uniq l (Om:l.length≤9223372036854775807)).baS h
theorem bmM {C:Ctx} (L:kJ C) (f:aD) (hs:Small f) (w3 w4 w5 w6 w7:PV) (ok:Bool) (F:PF) (H:PH) (hv:kM F f w3 w4 w5 w6 w7 ok)
  (h3:Seen 1 w3 (eU (f.bJD.map bZ.name))) (h4:Seen 1 w4 (eU (f.bIT.map cL.name))) (h5:Seen 1 w5 (eU (SW f))) (h6:Seen 1 w6 (eU (f.bIX.map cJ.name))) (h7:aY H 1 w7 (eU (f.bIV.map eN.name))) :
  aB.wp C (.seq (.seq (.region yO) (.cond (.tmp 243) (.seq (.region nK) .ret) .skip)) (.seq (.region HB) .ret)) (aS [.tmp 2] (bQ (.int .i64 (bI (ok&&uS f))))) F H:=by
 obtain⟨s1,s2,s3,s4,s5,s6⟩:=hs
 have l3:(f.bJD.map bZ.name).length≤1000:=by simp; omega
 have l4:(f.bIT.map cL.name).length≤1000:=by simp; omega
 have l5:(SW f).length≤1000:=by simp; omega
 have l6:(f.bIX.map cJ.name).length≤1000:=by simp; omega
 have l7:(f.bIV.map eN.name).length≤9223372036854775807:=by simp; omega
 cases ok with
 | false =>
  simp only[go_sem,γ,yO,hv.a8,nK]
  exact gE rfl rfl
 | true =>
  simp only[go_sem,γ,yO,hv.a8,hv.a3]
  refine aA (AJ L h3 l3) rfl ?_
  unfold uS
  cases c1:distinct (f.bJD.map bZ.name) with
  | false =>
   simp only[go_sem,γ,reduceCtorEq,nK,bLK]
   exact gE rfl rfl
  | true =>
   simp only[go_sem,γ,reduceCtorEq,hv.a4,bLB]
   refine aA (AJ L h4 l4) rfl ?_
   cases c2:distinct (f.bIT.map cL.name) with
   | false =>
    simp only[go_sem,γ,reduceCtorEq,nK,bLK]
    exact gE rfl rfl
   | true =>
    simp only[go_sem,γ,reduceCtorEq,hv.a5,bLB]
    refine aA (AJ L h5 l5) rfl ?_
    cases c3:distinct (SW f) with
    | false =>
     simp only[go_sem,γ,reduceCtorEq,nK,bLK]
     exact gE rfl rfl
    | true =>
     simp only[go_sem,γ,reduceCtorEq,hv.a6,bLB]
     refine aA (AJ L h6 l6) rfl ?_
     cases c4:distinct (f.bIX.map cJ.name) with
     | false =>
      simp only[go_sem,γ,reduceCtorEq,nK,bLK]
      exact gE rfl rfl
     | true =>
      simp only[go_sem,γ,reduceCtorEq,hv.a7,bLB]
      refine tD (L.uniq _ l7) h7 rfl fun F1 H1 hp=>?_
      have g:F1 239=some (.bool false):=hp 239 _ rfl fun _ _ _=>rfl
      cases c5:distinct (f.bIV.map eN.name) with
      | false =>
       simp only[go_sem,γ,reduceCtorEq,nK,bLK,g]
       exact gE rfl rfl
      | true =>
       simp only[go_sem,γ,reduceCtorEq,HB,bLB,g]
       exact gE rfl rfl
abbrev aoJ (b:Bool):bY:=aS [.tmp 2] (bQ (.int .i64 (bI b)))
def aBD:aB:=.seq (.seq (.region XY) (.block 10 (.loop HA))) (.seq (.seq (.region yO) (.cond (.tmp 243) (.seq (.region nK) .ret) .skip)) (.seq (.region HB) .ret))
def aBC:aB:=.seq (.seq (.region XU) (.block 8 (.loop GZ))) aBD
def aBB:aB:=.seq (.seq (.region XS) (.block 6 (.loop GY))) aBC
def aBA:aB:=.seq (.seq (.region XR) (.block 4 (.loop GX))) aBB
def aAZ:aB:=.seq (.seq (.region XP) (.block 2 (.loop GW))) aBA
def bbR:aB:=.seq (.seq (.region amK) (.block 0 (.loop GU))) aAZ
theorem btP {C:Ctx} (L:kJ C) (f:aD) (hs:Small f) (w3 w4 w5 w6:PV) (ok:Bool) (F:PF) (H:PH) (hv:kM F f w3 w4 w5 w6 .bIU ok)
  (h3:Seen 1 w3 (eU (f.bJD.map bZ.name))) (h4:Seen 1 w4 (eU (f.bIT.map cL.name))) (h5:Seen 1 w5 (eU (SW f))) (h6:aY H 1 w6 (eU (f.bIX.map cJ.name))) :
  aB.wp C aBD (aoJ (ok&&f.bIV.all (nO f)&&uS f)) F H:=by
 unfold aBD
 simp only[go_sem,γ,XY,hv.a1,bKY]
 refine pY h6 fun v1 hv1 F1 H1 ht hp=>?_
 refine a7I L f hs.bIV hs.bIX ok w3 w4 w5 v1 _ F1 H1 ⟨hp 1 _ (by simp only[go_sem,γ,hv.a1]) fun _ _ _=>rfl,hp 3 _ (by simp only[go_sem,γ,hv.a3]) h3.pure,hp 4 _ (by simp only[go_sem,γ,hv.a4]) h4.pure,hp 5 _ (by simp only[go_sem,γ,hv.a5]) h5.pure,ht 6 (by simp only[go_sem,γ,hv.a6]),hp 7 _ (by simp only[go_sem,γ,hv.a7]) fun _ _ _=>rfl,hp 8 _ (by simp only[go_sem,γ,hv.a8]) fun _ _ _=>rfl⟩
  (hp 195 _ rfl fun _ _ _=>rfl) (hp 196 _ rfl fun _ _ _=>rfl) (hp 197 _ rfl fun _ _ _=>rfl) fun v F' H' hv' hO=>?_
 have e:=bmM L f hs w3 w4 w5 v1 v _ F' H' hv' h3 h4 h5 hv1 hO
 simp only[aB.wp,go_sem] at e
 simp only[go_sem]
 exact e
theorem btO {C:Ctx} (L:kJ C) (f:aD) (hf:f.Ok) (hs:Small f) (w3 w4 w5:PV) (ok:Bool) (F:PF) (H:PH) (hv:kM F f w3 w4 w5 .bIU .bIU ok)
  (h3:Seen 1 w3 (eU (f.bJD.map bZ.name))) (h4:Seen 1 w4 (eU (f.bIT.map cL.name))) (h5:aY H 1 w5 (eU (SW f))) :
  aB.wp C aBC (aoJ (ok&&f.bIX.all (jI f.bIT.length)&&f.bIV.all (nO f)&&uS f)) F H:=by
 unfold aBC
 simp only[go_sem,δ,γ,θ,XU,hv.a1,bKY]
 refine pY h5 fun v1 hv1 F1 H1 ht hp=>?_
 refine a7H L f hf hs.bIX hs.bIT ok w3 w4 v1 .bIU _ F1 H1 ⟨hp 1 _ (by simp only[go_sem,γ,hv.a1]) fun _ _ _=>rfl,hp 3 _ (by simp only[go_sem,γ,hv.a3]) h3.pure,hp 4 _ (by simp only[go_sem,γ,hv.a4]) h4.pure,ht 5 (by simp only[go_sem,γ,hv.a5]),hp 6 _ (by simp only[go_sem,γ,hv.a6]) fun _ _ _=>rfl,hp 7 _ (by simp only[go_sem,γ,hv.a7]) fun _ _ _=>rfl,hp 8 _ (by simp only[go_sem,γ,hv.a8]) fun _ _ _=>rfl⟩
  (hp 174 _ rfl fun _ _ _=>rfl) (hp 175 _ rfl fun _ _ _=>rfl) (hp 176 _ rfl fun _ _ _=>rfl) fun v F' H' hv' hO=>?_
 simp only[go_sem]
 exact btP L f hs w3 w4 v1 v _ F' H' hv' h3 h4 hv1 hO
theorem btN {C:Ctx} (L:kJ C) (f:aD) (hf:f.Ok) (hs:Small f) (w3 w4 w5:PV) (ok:Bool) (F:PF) (H:PH) (hv:kM F f w3 w4 w5 .bIU .bIU ok)
  (h3:Seen 1 w3 (eU (f.bJD.map bZ.name))) (h4:Seen 1 w4 (eU (f.bIT.map cL.name))) (h5:aY H 1 w5 (eU ((f.bIW.drop 1).map cI.name))) :
  aB.wp C aBB (aoJ (ok&&f.bIS.all (iR f)&&f.bIX.all (jI f.bIT.length)&&f.bIV.all (nO f)&&uS f)) F H:=by
 unfold aBB
 simp only[go_sem,δ,γ,θ,XS,hv.a1,bKY]
 refine a7G L f ((f.bIW.drop 1).map cI.name) (by have:=hs.bIW; simp; omega) hs.bIS hs.bIT hs.bIW ok w3 w4 w5 .bIU .bIU _ _ H ⟨by simp only[go_sem,γ,hv.a1],by simp only[go_sem,γ,hv.a3],by simp only[go_sem,γ,hv.a4],by simp only[go_sem,γ,hv.a5],by simp only[go_sem,γ,hv.a6],by simp only[go_sem,γ,hv.a7],by simp only[go_sem,γ,hv.a8]⟩ h5
  rfl rfl rfl fun v F' H' hv' hO=>?_
 simp only[go_sem]
 exact btO L f hf hs w3 w4 v _ F' H' hv' h3 h4 hO
theorem btM {C:Ctx} (L:kJ C) (f:aD) (hf:f.Ok) (hs:Small f) (hd:0<f.bIW.length) (w3 w4:PV) (ok:Bool) (F:PF) (H:PH) (hv:kM F f w3 w4 .bIU .bIU .bIU ok)
  (h3:Seen 1 w3 (eU (f.bJD.map bZ.name))) (h4:aY H 1 w4 (eU (f.bIT.map cL.name))) :
  aB.wp C aBA (aoJ (ok&&f.bIS.all (iR f)&&f.bIX.all (jI f.bIT.length)&&f.bIV.all (nO f)&&uS f)) F H:=by
 unfold aBA
 have hsl:(1:Int)≤(f.bIW.length:Nat):=by omega
 have hsd:=hs.bIW
 have hdrop:((f.bIW.map cI.cells).take f.bIW.length).drop 1=(f.bIW.drop 1).map cI.cells:=by
  rw[bLQ (by simp),List.map_drop]
 simp only[go_sem,κ,ν,δ,γ,θ,reduceCtorEq,XR,hv.a1,bKY,hsl,bNU,hdrop]
 refine pY h4 fun v1 hv1 F1 H1 ht hp=>?_
 refine a7F L f (f.bIW.drop 1) (by simp; omega) ok w3 v1 .bIU .bIU _ F1 H1 ⟨hp 1 _ (by simp only[go_sem,γ,hv.a1]) fun _ _ _=>rfl,hp 3 _ (by simp only[go_sem,γ,hv.a3]) h3.pure,ht 4 (by simp only[go_sem,γ,hv.a4]),hp 5 _ (by simp only[go_sem,γ,hv.a5]) fun _ _ _=>rfl,hp 6 _ (by simp only[go_sem,γ,hv.a6]) fun _ _ _=>rfl,hp 7 _ (by simp only[go_sem,γ,hv.a7]) fun _ _ _=>rfl,hp 8 _ (by simp only[go_sem,γ,hv.a8]) fun _ _ _=>rfl⟩
  (hp 119 _ rfl fun _ _ _=>rfl) (hp 120 _ rfl fun _ _ _=>rfl) (hp 121 _ rfl fun _ _ _=>rfl) fun v F' H' hv' hO=>?_
 simp only[go_sem]
 exact btN L f hf hs w3 v1 v _ F' H' hv' h3 hv1 hO
theorem btL {C:Ctx} (L:kJ C) (f:aD) (hf:f.Ok) (hs:Small f) (hd:0<f.bIW.length) (w3:PV) (ok:Bool) (F:PF) (H:PH) (hv:kM F f w3 .bIU .bIU .bIU .bIU ok)
  (h3:aY H 1 w3 (eU (f.bJD.map bZ.name))) :
  aB.wp C aAZ (aoJ (ok&&f.bIT.all (kA f)&&f.bIS.all (iR f)&&f.bIX.all (jI f.bIT.length)&&f.bIV.all (nO f)&&uS f)) F H:=by
 unfold aAZ
 simp only[go_sem,δ,γ,θ,XP,hv.a1,bKY]
 refine pY h3 fun v1 hv1 F1 H1 ht hp=>?_
 refine a7E L f hs.bIT hs.bJD ok v1 .bIU .bIU .bIU _ F1 H1 ⟨hp 1 _ (by simp only[go_sem,γ,hv.a1]) fun _ _ _=>rfl,ht 3 (by simp only[go_sem,γ,hv.a3]),hp 4 _ (by simp only[go_sem,γ,hv.a4]) fun _ _ _=>rfl,hp 5 _ (by simp only[go_sem,γ,hv.a5]) fun _ _ _=>rfl,hp 6 _ (by simp only[go_sem,γ,hv.a6]) fun _ _ _=>rfl,hp 7 _ (by simp only[go_sem,γ,hv.a7]) fun _ _ _=>rfl,hp 8 _ (by simp only[go_sem,γ,hv.a8]) fun _ _ _=>rfl⟩
  (hp 85 _ rfl fun _ _ _=>rfl) (hp 86 _ rfl fun _ _ _=>rfl) (hp 87 _ rfl fun _ _ _=>rfl) fun v F' H' hv' hO=>?_
 simp only[go_sem]
 exact btM L f hf hs hd v1 v _ F' H' hv' hv1 hO
theorem btK {C:Ctx} (L:kJ C) (f:aD) (hf:f.Ok) (hs:Small f) (hd:0<f.bIW.length) (F:PF) (H:PH) (hv:kM F f .bIU .bIU .bIU .bIU .bIU true) :
  aB.wp C bbR (aoJ (f.bJD.all jZ&&f.bIT.all (kA f)&&f.bIS.all (iR f)&&f.bIX.all (jI f.bIT.length)&&f.bIV.all (nO f)&&uS f)) F H:=by
 unfold bbR
 simp only[go_sem,δ,γ,θ,amK,hv.a1,bKY]
 refine a7D L f hf hs.bJD .bIU .bIU .bIU .bIU _ _ H ⟨by simp only[go_sem,γ,hv.a1],by simp only[go_sem,γ,hv.a3],by simp only[go_sem,γ,hv.a4],by simp only[go_sem,γ,hv.a5],by simp only[go_sem,γ,hv.a6],by simp only[go_sem,γ,hv.a7],by simp only[go_sem,γ,hv.a8]⟩ rfl rfl rfl fun v F' H' hv' hO=>?_
 simp only[go_sem]
 exact btL L f hf hs hd v _ F' H' hv' hO
theorem btI {C:Ctx} (L:kJ C) (f:aD) (hf:f.Ok):NU.wp C (aS a7C.res (bQ (.int .i64 (KR f)))) (PF.args [.agg f.cells]) .nil:=by
 have he:cX f=(nC f&&nJ f&&(f.bJD.all jZ&&f.bIT.all (kA f)&&f.bIS.all (iR f)&&f.bIX.all (jI f.bIT.length)&&f.bIV.all (nO f))&&uS f):=rfl
 simp only[go_sem,δ,γ,θ,NU,aYD,aYE,a7C]
 refine aA (L.inn f.bKI 1 4) rfl ?_
 have bad:∀ (F:PF) (H:PH),cX f=false→F 2=some (.int .i64 1)→aS [.tmp 2] (bQ (.int .i64 (KR f))) .ret F H:=fun F H h1 h2=>gE h2 (bbS h1).symm
 cases e0:within f.bKI 1 4 with
 | false =>
  have:nC f=false:=by simp[nC,e0]
  simp only[go_sem,γ,bLK,pM]
  exact bad _ _ (by rw[he,this]; simp only[bLI]) rfl
 | true =>
  by_cases s1:f.bJD.length≤4
  ·have s1':¬ ((f.bJD.length:Nat):Int)>4:=by omega
   by_cases s2:f.bIT.length≤4
   ·have s2':¬ ((f.bIT.length:Nat):Int)>4:=by omega
    by_cases s3:f.bIW.length≤40
    ·have s3':¬ ((f.bIW.length:Nat):Int)>40:=by omega
     by_cases s4:f.bIS.length≤24
     ·have s4':¬ ((f.bIS.length:Nat):Int)>24:=by omega
      by_cases s5:f.bIX.length≤4
      ·have s5':¬ ((f.bIX.length:Nat):Int)>4:=by omega
       by_cases s6:f.bIV.length≤12
       ·have s6':¬ ((f.bIV.length:Nat):Int)>12:=by omega
        have hsz:=aVB ⟨s1,s2,s3,s4,s5,s6⟩
        rw[e0] at hsz
        simp only[go_sem,δ,γ,θ,reduceCtorEq,bLB,bKY,s1',s2',s3',s4',s5',s6']
        refine aA (L.bJF f hf) rfl ?_
        cases e1:nJ f with
        | false =>
         simp only[go_sem,γ,reduceCtorEq,bLK,pM]
         exact bad _ _ (by rw[he,e1]; simp only[bMK,bLI]) rfl
        | true =>
         have hd:0<f.bIW.length:=by
          rcases bNA f.bIW.length with h | h
          ·have:f.bIW=[]:=List.eq_nil_of_length_eq_zero h
           rw[nJ,this] at e1
           cases e1
          ·exact h
         have hz:KR f=bI (f.bJD.all jZ&&f.bIT.all (kA f)&&f.bIS.all (iR f)&&f.bIX.all (jI f.bIT.length)&&f.bIV.all (nO f)&&uS f):=by
          rw[KR,he,hsz,e1]; rfl
         rw[hz]
         simp only[go_sem,γ,reduceCtorEq,bLB,aYF,aYG]
         have e:=fun F H hv=>btK L f hf ⟨s1,s2,s3,s4,s5,s6⟩ hd F H hv
         simp only[bbR,aAZ,aBA,aBB,aBC,aBD,aB.wp,go_sem] at e
         exact e _ _ ⟨by simp only[go_sem,γ],by simp only[go_sem,γ],by simp only[go_sem,γ],by simp only[go_sem,γ],by simp only[go_sem,γ],by simp only[go_sem,γ],by simp only[go_sem,γ]⟩
       ·have s6':((f.bIV.length:Nat):Int)>12:=by omega
        simp only[go_sem,δ,γ,θ,reduceCtorEq,bLB,bKY,s1',s2',s3',s4',s5',s6',pM]
        exact bad _ _ (by rw[he,nD Om]; simp only[bLI]) rfl
      ·have s5':((f.bIX.length:Nat):Int)>4:=by omega
       simp only[go_sem,δ,γ,θ,reduceCtorEq,bLB,bKY,s1',s2',s3',s4',s5',pM]
       exact bad _ _ (by rw[he,nD Om]; simp only[bLI]) rfl
     ·have s4':((f.bIS.length:Nat):Int)>24:=by omega
      simp only[go_sem,δ,γ,θ,reduceCtorEq,bLB,bKY,s1',s2',s3',s4',pM]
      exact bad _ _ (by rw[he,nD Om]; simp only[bLI]) rfl
    ·have s3':((f.bIW.length:Nat):Int)>40:=by omega
     simp only[go_sem,δ,γ,θ,reduceCtorEq,bLB,bKY,s1',s2',s3',pM]
     exact bad _ _ (by rw[he,nD Om]; simp only[bLI]) rfl
   ·have s2':((f.bIT.length:Nat):Int)>4:=by omega
    simp only[go_sem,δ,γ,θ,reduceCtorEq,bLB,bKY,s1',s2',pM]
    exact bad _ _ (by rw[he,nD Om]; simp only[bLI]) rfl
  ·have s1':((f.bJD.length:Nat):Int)>4:=by omega
   simp only[go_sem,δ,γ,θ,reduceCtorEq,bLB,bKY,s1',pM]
   exact bad _ _ (by rw[he,nD Om]; simp only[bLI]) rfl
def lvl (f:aD) (i:Nat):Int:=(f.bIW.map cI.level).getD i 0
def par (f:aD) (i:Nat):Int:=(f.bIW.map cI.parent).getD i 0
def ZO (f:aD) (i:Nat):Nat:=(par f i).toNat
def fF (f:aD) (d:Nat):Nat:=((f.bIS.map dB.machine).getD d 0).toNat
def mdl (f:aD) (d:Nat):Nat:=((f.bIS.map dB.model).getD d 0).toNat
def ext (f:aD) (d:Nat):Int:=(f.bIT.map cL.bJO).getD (mdl f d) 0
def PJ (f:aD) (v:Nat):Nat:=((f.bIV.map eN.bJI).getD v 0).toNat
def bBP:cJ:=⟨[],0,0,0,0,0,0,0,0,[],[],⟨false,[],[]⟩,⟨false,[],[]⟩⟩
def fU (f:aD) (v:Nat):cJ:=f.bIX.getD (PJ f v) bBP
def upN (f:aD):Nat→Nat→Nat
 | 0,i=>i
 | k+1,i=>ZO f (upN f k i)
theorem getD_at {α β:Type} {l:List α} {g:α→β} {i:Nat} {b:β} (h:i<l.length):(l.map g).getD i b=g l[i]:=by
 simp[bLP,h]
structure VF (f:aD):Prop where
 small:Small f
 root:0<f.bIW.length∧lvl f 0=0∧par f 0=-1
 dom:∀ i,0<i→i<f.bIW.length→0≤par f i∧ZO f i<i∧lvl f (ZO f i)=lvl f i-1∧1≤lvl f i∧lvl f i≤4
 drive:∀ d (h:d<f.bIS.length),0≤(f.bIS[d]).model∧mdl f d<f.bIT.length∧0≤(f.bIS[d]).machine∧fF f d<f.bIW.length∧lvl f (fF f d)=4
 bJI:∀ p∈f.bIX,1≤p.k∧p.k≤6∧0≤p.m∧p.m≤4∧p.k+p.m≤8∧p.s0=0∧(∀ l,0≤p.spread l∧p.spread l≤8)∧∀ m∈p.bIT,0≤m∧m<f.bIT.length
 volume:∀ v (h:v<f.bIV.length),0≤(f.bIV[v]).bJI∧PJ f v<f.bIX.length
 model:∀ m∈f.bIT,1≤m.bJO∧m.bJO≤16
theorem bvF {p:cJ} {n:Nat} (h:jI n p=true):∀ m∈p.bIT,0≤m∧m<n:=by
 intro m hm
 simp only[jI,bLT] at h
 obtain⟨i,hi,rfl⟩:=bMO hm
 have:=bLU.1 h.2 i (bMQ.2 hi)
 rw[bLT] at this
 have h1:=within_iff.1 this.1
 simp only[bLP,bLL hi,bNH] at h1
 omega
theorem akB {x:Int} (h1:1≤x) (h2:x≤4):IntKind.i64.wrap (x-1)=x-1:=wrap_i64 Om Om
theorem VF.of {f:aD} (h:cX f=true):VF f:=by
 simp only[cX,bLT] at h
 obtain⟨⟨⟨hs,hd⟩,⟨⟨⟨hlaw,hmod⟩,hdrv⟩,hpol⟩,hvol⟩,-⟩:=h
 simp only[nC,bLT,decide_eq_true_eq] at hs
 obtain⟨⟨⟨⟨⟨⟨s0,s1⟩,s2⟩,s3⟩,s4⟩,s5⟩,s6⟩:=hs
 cases hdm:f.bIW with
 | nil=>rw[nJ,hdm] at hd; cases hd
 | cons r t =>
  rw[nJ,hdm] at hd
  simp only[zS,bLT,decide_eq_true_eq] at hd
  obtain⟨⟨⟨⟨⟨⟨r1,r2⟩,r3⟩,r4⟩,r5⟩,r6⟩,bKL⟩:=hd
  have hlen:f.bIW.length=t.length+1:=by rw[hdm]; rfl
  refine⟨⟨s1,s2,s3,s4,s5,s6⟩,⟨by omega,by rw[lvl,hdm]; exact r2,by rw[par,hdm]; exact r3⟩,?_,?_,?_,?_,?_⟩
  ·intro i h0 hi
   obtain⟨k,rfl⟩:∃ k,i=k+1:=⟨i-1,by omega⟩
   have hk:k<t.length:=by omega
   have:=bLU.1 bKL k (bMQ.2 hk)
   rw[bLL hk] at this
   simp only[FX,bLT,decide_eq_true_eq] at this
   obtain⟨⟨⟨⟨d1,d2⟩,d3⟩,d4⟩,d5⟩:=this
   obtain⟨p0,p1⟩:=within_iff.1 d1
   obtain⟨l1,l4⟩:=within_iff.1 d3
   have e1:par f (k+1)=(t[k]).parent:=by rw[par,hdm]; simp[bLP,hk]
   have e2:lvl f (k+1)=(t[k]).level:=by rw[lvl,hdm]; simp[bLP,hk]
   rw[akB l1 l4] at d2
   have e3:lvl f (t[k]).parent.toNat=(t[k]).level-1:=d2
   refine⟨by rw[e1]; exact p0,?_,?_,by rw[e2]; exact l1,by rw[e2]; exact l4⟩
   ·rw[ZO,e1]; omega
   ·rw[ZO,e1,e2]; exact e3
  ·intro d hd
   have:=bLU.1 hdrv _ (bLF hd)
   simp only[iR,bLT,decide_eq_true_eq] at this
   obtain⟨⟨d1,d2⟩,d3⟩:=this
   have a1:=within_iff.1 d1
   have a2:=within_iff.1 d2
   have e1:mdl f d=(f.bIS[d]).model.toNat:=by rw[mdl,getD_at hd]
   have e2:fF f d=(f.bIS[d]).machine.toNat:=by rw[fF,getD_at hd]
   refine⟨a1.1,by rw[e1]; omega,a2.1,by rw[e2]; omega,by rw[e2]; exact d3⟩
  ·intro p hp
   have h1:=bLU.1 hpol p hp
   have h2:=bvF h1
   simp only[jI,IR,bLT,decide_eq_true_eq,List.all_cons,List.all_nil,bNK] at h1
   obtain⟨⟨⟨⟨⟨⟨⟨⟨k1,m1⟩,km⟩,q1⟩,z0⟩,sp⟩,-⟩,-⟩,-⟩:=h1
   obtain⟨g0,g1,g2,g3,g4⟩:=sp
   have b1:=within_iff.1 k1
   have b2:=within_iff.1 m1
   have b3:=within_iff.1 g0
   have b4:=within_iff.1 g1
   have b5:=within_iff.1 g2
   have b6:=within_iff.1 g3
   have b7:=within_iff.1 g4
   refine⟨b1.1,b1.2,b2.1,b2.2,km,z0,fun l=>?_,h2⟩
   unfold cJ.spread
   split<;>omega
  ·intro v hv
   have:=bLU.1 hvol _ (bLF hv)
   have a1:=within_iff.1 this
   have e1:PJ f v=(f.bIV[v]).bJI.toNat:=by rw[PJ,getD_at hv]
   exact⟨a1.1,by rw[e1]; omega⟩
  ·intro m hm
   have:=bLU.1 hmod m hm
   simp only[kA,bLT] at this
   exact within_iff.1 this.1.1
theorem RJ {f:aD} (h:VF f) {d:Nat} (hd:d<f.bIS.length):∀ {k:Nat},k≤4→upN f k (fF f d)<f.bIW.length∧lvl f (upN f k (fF f d))=4-(k:Int)
 | 0,_=>⟨(h.drive d hd).2.2.2.1,by rw[upN,(h.drive d hd).2.2.2.2]; rfl⟩
 | k+1,hk=>by
  obtain⟨h1,h2⟩:=RJ h hd (k:=k) Om
  have hne:0<upN f k (fF f d):=by
   rcases bNA (upN f k (fF f d)) with e | e
   ·rw[e,h.root.2.1] at h2; omega
   ·exact e
  obtain⟨g1,g2,g3,g4,g5⟩:=h.dom _ hne h1
  refine⟨by rw[upN]; omega,?_⟩
  rw[upN,g3,h2]; omega
def eP (f:aD) (d:Nat) (level:Int):Nat:=upN f (4-level.toNat) (fF f d)
def eZ (f:aD) (v:Nat):Int:=(fU f v).k+(fU f v).m
def avM:Rg:=[iA 1 (.box true (Tm 0)),iT 2 false]
def avN:Rg:=[iO 3 7 1,iK 4 96 3,iC 5 .eql 4 0,iM 2 5]
def DJ:aB:=(sq avM (sq avN .ret))
def biW:List Nat:=[1]
def aiD:aT:=⟨1,6,DJ,[.tmp 2]⟩
def aOH:Rg:=[iA 2 (.box true (Tm 0)),iI 4 0]
def aOI:Rd:=[(iF 6 5 2,false),(iL 7 6,false),(iF 8 6 2,false),(iL 9 8,false),(iM 10 1,false),(iX 11 2 9 10,false),(iF 12 1 11,false),(iL 13 12,false),(iX 14 17 7 13,false),(iO 15 17 14,false),(iA 5 (.alloc [(.str []),(.int .i64 0),(.int .i64 0),(.int .i64 0),(.int .i64 0),(.int .i64 0),(.int .i64 0),(.int .i64 0),(.int .i64 0),.bIU,.bIU,(.bool false),.bIU,.bIU,(.bool false),.bIU,.bIU]),true),(iS 17 5 15,true)]
def aOJ:Rg:=[iF 16 1 5,iL 17 16,iF 18 2 5,iL 19 18,iB 20 .add 17 19,iM 4 20]
def JV:aB:=(sq aOH (dq aOI (sq aOJ .ret)))
def bpL:List Nat:=[2]
def aAS:aT:=⟨2,21,JV,[.tmp 4]⟩
def auH:Rg:=[iA 3 (.box true (Tm 0)),iI 6 0]
def auI:Rg:=[iF 8 4 3,iL 9 8,iM 10 1,iX 11 3 9 10,iF 12 2 11,iL 13 12,iM 7 13]
def auJ:Rg:=[iF 14 3 3,iL 15 14,iM 16 7,iX 17 7 15 16,iF 18 1 17,iL 19 18,iM 20 2,iB 21 .gtr 19 20]
def auK:Rg:=[iF 22 3 3,iL 23 22,iM 24 7,iX 25 7 23 24,iF 26 2 25,iL 27 26,iM 7 27]
def auG:aB:=(.seq (sq auJ (.cond (Tm 21) .skip (.exit 0))) (.block 1 (.region auK)))
def auL:Rg:=[iM 28 7,iM 6 28]
def DE:aB:=(sq auH (sq auI (.seq (.block 0 (.loop auG)) (sq auL .ret))))
def biD:List Nat:=[3]
def ahJ:aT:=⟨3,29,DE,[.tmp 6]⟩
def aOM:Rg:=[iA 2 (.box true (Tm 0)),iZ 4]
def aON:Rg:=[iO 7 7 2,iK 8 161 7,iA 9 (.un .not (Tm 8))]
def aOO:Rg:=[iZ 4]
def aOP:Rg:=[iF 10 4 2,iL 11 10,iN 12 11,iA 13 (.bJE 1 8 [(.int .i64 0)] (Tm 12) (Tm 12)),iM 5 13]
def aOQ:Rg:=[iM 14 5,iN 15 14,iI 16 0]
def aOR:Rg:=[iB 17 .lss 16 15]
def aOS:Rg:=[iM 18 16,iM 6 18]
def aOT:Rd:=[(iM 19 5,false),(iM 20 6,false),(iF 21 2 2,false),(iL 22 21,false),(iF 23 4 2,false),(iL 24 23,false),(iM 25 6,false),(iX 26 3 24 25,false),(iF 27 1 26,false),(iL 28 27,false),(iX 29 4 22 28,false),(iF 30 1 29,false),(iL 31 30,false),(iX 32 1 19 20,false),(iS 1 32 31,true)]
def aOU:Rg:=[iM 33 1,iN 34 33,iM 35 5,iN 36 35,iB 37 .eql 34 36]
def aOV:Rd:=[(iM 38 5,false),(iM 39 6,false),(iM 40 1,false),(iM 41 6,false),(iX 42 1 40 41,false),(iL 43 42,false),(iA 44 (.bJV true (Tm 43) (Ci 0)),false),(iM 45 5,false),(iM 46 6,false),(iX 47 1 45 46,false),(iL 48 47,false),(iA 49 (.bJV false (Tm 44) (Tm 48)),false),(iX 50 1 38 39,false),(iS 1 50 49,true)]
def QM:Rg:=[iC 51 .add 16 1,iM 16 51]
def avD:aB:=(sq aOR (.seq (.cond (Tm 17) .skip (.exit 0)) (.seq (.block 1 (sq aOS (dq aOT (sq aOU (.cond (Tm 37) (.draw aOV) .skip))))) (.region QM))))
def avE:Rg:=[iM 52 5,iM 4 52]
def JY:aB:=(sq aOM (.seq (sq aON (.cond (Tm 9) (sq aOO .ret) .skip)) (sq aOP (.seq (sq aOQ (.block 0 (.loop avD))) (sq avE .ret)))))
def bpO:List Nat:=[2]
def AP:aT:=⟨2,53,JY,[.tmp 4]⟩
def biE:Rg:=[iA 3 (.box true (Tm 0)),iI 6 0]
def biF:Rg:=[iO 7 7 3,iK 8 161 7,iA 9 (.un .not (Tm 8)),iM 10 9,gM 11 1 10 false,gC 12 .lss 11 0 10 false,iQ 13 10 12,iM 14 13,gM 15 1 14 false,gF 16 4 3 14 false,gL 17 16 14 false,gN 18 17 14 false,gB 19 .geq 15 18 14 false,iQ 20 14 19,iM 21 20,gM 22 2 21 false,gC 23 .lss 22 0 21 false,iQ 24 21 23,iM 25 24,gM 26 2 25 false,gC 27 .geq 26 5 25 false,iQ 28 25 27]
def FL:Rg:=[iI 6 (-1)]
def biG:Rg:=[iO 29 7 3,iM 30 1,iM 31 2,iA 32 (.call 155 [(Tm 29),(Tm 30),(Tm 31)]),iM 6 32]
def aaN:aB:=(sq biE (.seq (sq biF (.cond (Tm 28) (sq FL .ret) .skip)) (sq biG .ret)))
def bzD:List Nat:=[3]
def tat:aT:=⟨3,33,aaN,[.tmp 6]⟩
def ahO:Rg:=[iA 2 (.box true (Tm 0)),iZ 4]
def ahP:Rg:=[iZ 5]
def ahQ:Rg:=[iO 7 7 2,iK 8 161 7,iA 9 (.un .not (Tm 8)),iM 10 9,gM 11 1 10 false,gC 12 .lss 11 0 10 false,iQ 13 10 12,iM 14 13,gM 15 1 14 false,gF 16 3 2 14 false,gL 17 16 14 false,gN 18 17 14 false,gB 19 .geq 15 18 14 false,iQ 20 14 19]
def wX:Rg:=[iM 21 5,iM 4 21]
def ahR:Rg:=[iF 22 4 2,iL 23 22,iN 24 23,iI 25 0]
def ahS:Rg:=[iB 26 .lss 25 24]
def ahT:Rg:=[iM 27 25,iM 6 27]
def ahU:Rd:=[(iO 28 7 2,false),(iM 29 6,false),(iF 30 3 2,false),(iL 31 30,false),(iM 32 1,false),(iX 33 7 31 32,false),(iF 34 1 33,false),(iL 35 34,false),(iA 36 (.call 155 [(Tm 28),(Tm 29),(Tm 35)]),true),(iM 37 1,true),(iB 38 .eql 36 37,false)]
def ahV:Rg:=[iM 39 5,iM 40 6,iA 41 (.bIZ true 1 1 [(.int .i64 0)] [(0,(Tm 40))]),iA 42 (.append 1 8 (Tm 39) (Tm 41)),iM 5 42]
def JU:Rg:=[iC 43 .add 25 1,iM 25 43]
def VX:aB:=(sq ahS (.seq (.cond (Tm 26) .skip (.exit 0)) (.seq (.block 1 (sq ahT (dq ahU (.cond (Tm 38) (.region ahV) .skip)))) (.region JU))))
def VY:Rg:=[iM 44 5,iM 4 44]
def zF:aB:=(sq ahO (sq ahP (.seq (sq ahQ (.cond (Tm 20) (sq wX .ret) .skip)) (.seq (sq ahR (.block 0 (.loop VX))) (sq VY .ret)))))
def bbD:List Nat:=[2,41]
def TG:aT:=⟨2,45,zF,[.tmp 4]⟩
def auM:Rg:=[iA 2 (.box true (Tm 0)),iZ 4]
def auN:Rg:=[iZ 5]
def auO:Rg:=[iO 8 7 2,iK 9 161 8,iA 10 (.un .not (Tm 9)),iM 11 10,gM 12 1 11 false,gC 13 .lss 12 0 11 false,iQ 14 11 13]
def QJ:Rg:=[iM 15 5,iM 4 15]
def auP:Rg:=[iF 16 3 2,iL 17 16,iN 18 17,iI 19 0]
def auQ:Rg:=[iB 20 .lss 19 18]
def auR:Rg:=[iM 21 19,iX 22 7 17 19,iO 23 7 22,iA 7 (.alloc [(.str []),(.int .i64 0),(.int .i64 0),(.int .i64 0),(.bool false),.bIU,.bIU]),iM 6 21,iS 7 7 23]
def QK:Rg:=[iF 24 2 7,iL 25 24,iM 26 1,iB 27 .eql 25 26]
def auS:Rg:=[iM 28 5,iM 29 6,iA 30 (.bIZ true 1 1 [(.int .i64 0)] [(0,(Tm 29))]),iA 31 (.append 1 8 (Tm 28) (Tm 30)),iM 5 31]
def QL:Rg:=[iC 32 .add 19 1,iM 19 32]
def ahM:aB:=(sq auQ (.seq (.cond (Tm 20) .skip (.exit 0)) (.seq (.block 1 (sq auR (sq QK (.cond (Tm 27) (.region auS) .skip)))) (.region QL))))
def ahN:Rg:=[iM 33 5,iM 4 33]
def DF:aB:=(sq auM (sq auN (.seq (sq auO (.cond (Tm 14) (sq QJ .ret) .skip)) (.seq (sq auP (.block 0 (.loop ahM))) (sq ahN .ret)))))
def biI:List Nat:=[2,30]
def ahL:aT:=⟨2,34,DF,[.tmp 4]⟩
def auV:Rg:=[iA 2 (.box true (Tm 0)),iZ 4]
def auW:Rg:=[iF 10 4 2,iL 11 10,iN 12 11,iA 13 (.bJE 1 8 [(.int .i64 0)] (Tm 12) (Tm 12)),iM 5 13]
def auX:Rg:=[iM 14 1,iN 15 14,iI 16 0]
def auY:Rg:=[iB 17 .lss 16 15]
def auZ:Rg:=[iX 18 1 14 16,iL 19 18,iM 7 19]
def avA:Rg:=[iM 20 7,iN 21 20,iI 22 0]
def avB:Rg:=[iB 23 .lss 22 21]
def AN:Rg:=[iX 24 1 20 22,iL 25 24,iM 9 25]
def AO:Rg:=[iM 26 9,iC 27 .geq 26 0,iM 28 27,gM 29 9 28 true,gM 30 5 28 true,gN 31 30 28 true,gB 32 .lss 29 31 28 true,iP 33 28 32]
def avC:Rg:=[iM 34 5,iM 35 9,iX 36 1 34 35,iL 37 36,iC 38 .add 37 1,iX 39 1 34 35,iS 1 39 38]
def wY:Rg:=[iC 40 .add 22 1,iM 22 40]
def ahY:aB:=(sq avB (.seq (.cond (Tm 23) .skip (.exit 2)) (.seq (.block 3 (sq AN (sq AO (.cond (Tm 33) (.region avC) .skip)))) (.region wY))))
def JW:Rg:=[iC 41 .add 16 1,iM 16 41]
def ahZ:aB:=(sq auY (.seq (.cond (Tm 17) .skip (.exit 0)) (.seq (.block 1 (sq auZ (sq avA (.block 2 (.loop ahY))))) (.region JW))))
def JX:Rg:=[iM 42 5,iM 4 42]
def DH:aB:=(sq auV (sq auW (.seq (sq auX (.block 0 (.loop ahZ))) (sq JX .ret))))
def biN:List Nat:=[2]
def ahX:aT:=⟨2,43,DH,[.tmp 4]⟩
def auC:Rg:=[iA 2 (.box true (Tm 0)),iZ 4]
def auD:Rg:=[iO 5 7 2,iK 6 161 5,iA 7 (.un .not (Tm 6))]
def auE:Rg:=[iZ 4]
def auF:Rg:=[iO 8 7 2,iM 9 1,iK2 10 157 8 9,iM 4 10]
def DD:aB:=(sq auC (.seq (sq auD (.cond (Tm 7) (sq auE .ret) .skip)) (sq auF .ret)))
def biB:List Nat:=[2]
def ahA:aT:=⟨2,11,DD,[.tmp 4]⟩
def avG:Rg:=[iA 3 (.box true (Tm 0)),iA 6 (.alloc [(.int .i64 0),(.int .i64 0),(.int .i64 0)]),iT 7 false]
def avH:Rd:=[(iM 10 1,true),(iM 11 2,true),(iX 12 1 10 11,true),(iL 13 12,true),(iN 14 13,true),(iO 15 7 3,false),(iM 16 2,false),(iK2 17 156 15 16,true),(iB 18 .neq 14 17,false)]
def avI:Rg:=[iM 19 2,iM 20 1,iM 21 2,iX 22 1 20 21,iL 23 22,iN 24 23,iA 25 (.build [(.int .i64 0),(.int .i64 0),(.int .i64 0)] [(0,1,(Ci 1)),(1,1,(Tm 19)),(2,1,(Tm 24))]),iS 3 6 25,iT 7 true]
def avJ:Rg:=[iM 26 1,iM 27 2,iX 28 1 26 27,iL 29 28,iN 30 29,iI 31 0]
def avK:Rg:=[iB 32 .lss 31 30]
def AQ:Rg:=[iM 33 31,iX 34 1 29 31,iL 35 34,iM 8 33,iM 9 35]
def AR:Rg:=[iM 36 9,iC 37 .lss 36 (-1),iM 38 37,gM 39 9 38 false,gF 40 4 3 38 false,gL 41 40 38 false,gN 42 41 38 false,gB 43 .geq 39 42 38 false,iQ 44 38 43]
def QN:Rg:=[iM 45 2,iM 46 8,iA 47 (.build [(.int .i64 0),(.int .i64 0),(.int .i64 0)] [(0,1,(Ci 1)),(1,1,(Tm 45)),(2,1,(Tm 46))]),iS 3 6 47,iT 7 true]
def avL:Rg:=[iC 48 .add 31 1,iM 31 48]
def avF:aB:=(sq avK (.seq (.cond (Tm 32) .skip (.exit 0)) (.seq (.block 1 (sq AQ (sq AR (.cond (Tm 44) (sq QN .ret) .skip)))) (.region avL))))
def aiC:Rg:=[iA 49 (.build [(.int .i64 0),(.int .i64 0),(.int .i64 0)] []),iS 3 6 49,iT 7 false]
def DI:aB:=(sq avG (.seq (dq avH (.cond (Tm 18) (sq avI .ret) .skip)) (.seq (sq avJ (.block 0 (.loop avF))) (sq aiC .ret))))
def biU:List Nat:=[3]
def FM:aT:=⟨3,50,DI,[.cell 6 (some 3),.tmp 7]⟩
def ahB:Rg:=[iA 2 (.box true (Tm 0)),iT 4 false]
def ahC:Rg:=[iO 8 7 2,iK 9 161 8,iA 10 (.un .not (Tm 9)),iM 11 10,gM 12 1 11 false,gN 13 12 11 false,gF 14 6 2 11 false,gL 15 14 11 false,gN 16 15 11 false,gB 17 .neq 13 16 11 false,iQ 18 11 17]
def JR:Rg:=[iT 4 false]
def ahD:Rg:=[iM 19 1,iN 20 19,iI 21 0]
def ahE:Rg:=[iB 22 .lss 21 20]
def ahF:Rg:=[iM 23 21,iM 5 23]
def ahG:Rg:=[iO 25 7 2,iM 26 1,iM 27 5,iA 28 (.call 160 [(Tm 25),(Tm 26),(Tm 27)]),iM 24 28,iE 29 24 0,iE 30 24 1,iA 6 (.alloc [(.int .i64 0),(.int .i64 0),(.int .i64 0)]),iS 3 6 29,iM 7 30]
def JS:Rg:=[iM 31 7]
def ahH:Rg:=[iT 4 false]
def ahI:Rg:=[iC 32 .add 21 1,iM 21 32]
def VV:aB:=(sq ahE (.seq (.cond (Tm 22) .skip (.exit 0)) (.seq (.block 1 (sq ahF (sq ahG (sq JS (.cond (Tm 31) (sq ahH .ret) .skip))))) (.region ahI))))
def VW:Rg:=[iT 4 true]
def zE:aB:=(sq ahB (.seq (sq ahC (.cond (Tm 18) (sq JR .ret) .skip)) (.seq (sq ahD (.block 0 (.loop VV))) (sq VW .ret))))
def bbB:List Nat:=[2]
def TF:aT:=⟨2,33,zE,[.tmp 4]⟩
def avY:Rg:=[iA 5 (.alloc [(.int .i64 0),(.int .i64 0),(.int .i64 0)])]
def avZ:Rg:=[iM 6 0,iL 7 2,iM 8 1,iA 9 (.build [(.int .i64 0),(.int .i64 0),(.int .i64 0)] [(0,1,(Tm 6)),(1,1,(Tm 7)),(2,1,(Tm 8))]),iS 3 5 9]
def DK:aB:=(sq avY (sq avZ .ret))
def biY:List Nat:=[]
def aiE:aT:=⟨2,10,DK,[.cell 5 (some 3)]⟩
def aPG:Rg:=[iA 3 (.box true (Tm 0)),iA 5 (.box false (Tm 2)),iZ 6]
def aPH:Rd:=[(iF 25 5 3,false),(iL 26 25,false),(iF 27 6 3,false),(iL 28 27,false),(iL 29 5,false),(iX 30 2 28 29,false),(iF 31 1 30,false),(iL 32 31,false),(iX 33 17 26 32,false),(iO 34 17 33,false),(iA 7 (.alloc [(.str []),(.int .i64 0),(.int .i64 0),(.int .i64 0),(.int .i64 0),(.int .i64 0),(.int .i64 0),(.int .i64 0),(.int .i64 0),.bIU,.bIU,(.bool false),.bIU,.bIU,(.bool false),.bIU,.bIU]),true),(iS 17 7 34,true)]
def aPI:Rg:=[iF 35 2 3,iL 36 35,iN 37 36,iA 38 (.bJE 1 1 [(.bool false)] (Tm 37) (Tm 37)),iM 8 38]
def aPJ:Rg:=[iF 39 9 7,iL 40 39,iN 41 40,iI 42 0]
def aPK:Rg:=[iB 43 .lss 42 41]
def aPL:Rg:=[iX 44 1 40 42,iL 45 44,iM 10 45]
def aPM:Rg:=[iM 46 8,iM 47 10,iX 48 1 46 47,⟨none,.store 1 (Tm 48) (.const (.bool true)),none⟩]
def aPN:Rg:=[iC 49 .add 42 1,iM 42 49]
def aPF:aB:=(sq aPK (.seq (.cond (Tm 43) .skip (.exit 0)) (.seq (.block 1 (sq aPL (.region aPM))) (.region aPN))))
def aPO:Rg:=[iA 50 (.mkfn 159 [(Tm 5)]),iM 11 50]
def awA:Rg:=[iZ 12,iZ 13]
def awB:Rd:=[(iF 51 4 3,false),(iL 52 51,false),(iN 53 52,false),(iA 54 (.bJE 1 8 [(.int .i64 0)] (Tm 53) (Tm 53)),true),(iF 55 3 3,false),(iL 56 55,false),(iN 57 56,false),(iA 58 (.bJE 1 8 [(.int .i64 0)] (Tm 57) (Tm 57)),true),(iM 14 54,false),(iM 15 58,false)]
def awC:Rg:=[iM 59 1,iL 60 5,iX 61 1 59 60,iL 62 61,iN 63 62,iI 64 0]
def vM:Rg:=[iB 65 .lss 64 63]
def AU:Rg:=[iM 66 64,iX 67 1 62 64,iL 68 67,iM 16 66,iM 17 68]
def AV:Rg:=[iM 69 17,iC 70 .lss 69 0]
def awD:Rg:=[iM 71 12,iM 72 11,iM 73 16,iA 74 (.bKF (Tm 72) [(Ci 2),(Tm 73)]),iA 75 (.bIZ true 3 1 [(.int .i64 0),(.int .i64 0),(.int .i64 0)] [(0,(Tm 74))]),iA 76 (.append 3 24 (Tm 71) (Tm 75)),iM 12 76]
def QU:Rg:=[iM 77 8,iF 78 4 3,iL 79 78,iM 80 17,iX 81 3 79 80,iF 82 1 81,iL 83 82,iX 84 1 77 83,iL 85 84,iA 86 (.un .not (Tm 85))]
def awE:Rg:=[iM 87 13,iM 88 11,iM 89 16,iA 90 (.bKF (Tm 88) [(Ci 4),(Tm 89)]),iA 91 (.bIZ true 3 1 [(.int .i64 0),(.int .i64 0),(.int .i64 0)] [(0,(Tm 90))]),iA 92 (.append 3 24 (Tm 87) (Tm 91)),iM 13 92]
def QV:Rg:=[iM 93 14,iM 94 17,iX 95 1 93 94,iL 96 95,iC 97 .add 96 1,iX 98 1 93 94,iS 1 98 97]
def QW:Rg:=[iF 99 4 3,iL 100 99,iM 101 17,iX 102 3 100 101,iF 103 2 102,iL 104 103,iM 18 104]
def awF:Rg:=[iM 105 18,iC 106 .gtr 105 0]
def awG:Rg:=[iM 113 15,iM 114 18,iX 115 1 113 114,iL 116 115,iC 117 .add 116 1,iX 118 1 113 114,iS 1 118 117]
def awH:Rg:=[iF 107 3 3,iL 108 107,iM 109 18,iX 110 7 108 109,iF 111 2 110,iL 112 111,iM 18 112]
def AS:aB:=(.seq (sq awF (.cond (Tm 106) .skip (.exit 4))) (.seq (.block 5 (.region awG)) (.region awH)))
def AW:Rg:=[iC 119 .add 64 1,iM 64 119]
def rO:aB:=(sq vM (.seq (.cond (Tm 65) .skip (.exit 2)) (.seq (.block 3 (sq AU (.seq (sq AV (.cond (Tm 70) (sq awD (.exit 3)) .skip)) (.seq (sq QU (.cond (Tm 86) (.region awE) .skip)) (sq QV (sq QW (.block 4 (.loop AS)))))))) (.region AW))))
def awI:Rg:=[iM 120 12,iM 19 120]
def awJ:Rg:=[iM 121 14,iN 122 121,iI 123 0]
def awK:Rg:=[iB 124 .lss 123 122]
def awL:Rg:=[iM 125 123,iX 126 1 121 123,iL 127 126,iM 20 125,iM 21 127]
def awM:Rg:=[iM 128 21,iC 129 .gtr 128 1]
def awN:Rg:=[iM 130 19,iM 131 11,iM 132 20,iA 133 (.bKF (Tm 131) [(Ci 3),(Tm 132)]),iA 134 (.bIZ true 3 1 [(.int .i64 0),(.int .i64 0),(.int .i64 0)] [(0,(Tm 133))]),iA 135 (.append 3 24 (Tm 130) (Tm 134)),iM 19 135]
def QX:Rg:=[iC 136 .add 123 1,iM 123 136]
def QS:aB:=(sq awK (.seq (.cond (Tm 124) .skip (.exit 6)) (.seq (.block 7 (sq awL (sq awM (.cond (Tm 129) (.region awN) .skip)))) (.region QX))))
def awO:Rg:=[iM 137 19,iM 138 13,iA 139 (.append 3 24 (Tm 137) (Tm 138)),iM 19 139]
def awP:Rg:=[iM 140 15,iN 141 140,iI 142 0]
def awQ:Rg:=[iB 143 .lss 142 141]
def awR:Rg:=[iM 144 142,iX 145 1 140 142,iL 146 145,iM 22 144,iM 23 146]
def QY:Rg:=[iF 147 3 3,iL 148 147,iM 149 22,iX 150 7 148 149,iF 151 1 150,iL 152 151,iF 153 4 7,iA 154 (.idxA 5 1 (Tm 153) (Tm 152)),iL 155 154,iM 24 155]
def AX:Rg:=[iM 156 24,iC 157 .gtr 156 0,iM 158 157,gM 159 23 158 true,gM 160 24 158 true,gB 161 .gtr 159 160 158 true,iP 162 158 161]
def awS:Rg:=[iM 163 19,iM 164 11,iM 165 22,iA 166 (.bKF (Tm 164) [(Ci 5),(Tm 165)]),iA 167 (.bIZ true 3 1 [(.int .i64 0),(.int .i64 0),(.int .i64 0)] [(0,(Tm 166))]),iA 168 (.append 3 24 (Tm 163) (Tm 167)),iM 19 168]
def AY:Rg:=[iC 169 .add 142 1,iM 142 169]
def QT:aB:=(sq awQ (.seq (.cond (Tm 143) .skip (.exit 8)) (.seq (.block 9 (sq awR (sq QY (sq AX (.cond (Tm 162) (.region awS) .skip))))) (.region AY))))
def awT:Rg:=[iM 170 19,iM 6 170]
def KB:aB:=(sq aPG (dq aPH (sq aPI (.seq (sq aPJ (.block 0 (.loop aPF))) (sq aPO (sq awA (dq awB (.seq (sq awC (.block 2 (.loop rO))) (sq awI (.seq (sq awJ (.block 6 (.loop QS))) (sq awO (.seq (sq awP (.block 8 (.loop QT))) (sq awT .ret)))))))))))))
def bpU:List Nat:=[3,75,91,134,167]
def bbE:aT:=⟨3,171,KB,[.tmp 6]⟩
def aOW:Rg:=[iA 3 (.box true (Tm 0)),iZ 6]
def aOX:Rg:=[iO 15 7 3,iK 16 161 15,iA 17 (.un .not (Tm 16)),iM 14 17]
def aOY:Rg:=[iZ 6]
def aaO:Rg:=[iM 19 1,iN 20 19,iF 21 6 3,iL 22 21,iN 23 22,iB 24 .neq 20 23,iM 18 24]
def aOZ:Rg:=[iM 25 1,iN 26 25,iA 27 (.build [(.int .i64 0),(.int .i64 0),(.int .i64 0)] [(0,1,(Ci 1)),(1,1,(Ci (-1))),(2,1,(Tm 26))]),iA 28 (.bIZ true 3 1 [(.int .i64 0),(.int .i64 0),(.int .i64 0)] [(0,(Tm 27))]),iM 6 28]
def aPA:Rg:=[iZ 7]
def aPB:Rg:=[iM 29 1,iN 30 29,iI 31 0]
def aPC:Rg:=[iB 32 .lss 31 30]
def aPD:Rg:=[iM 33 31,iM 8 33]
def aPE:Rg:=[iO 35 7 3,iM 36 1,iM 37 8,iA 38 (.call 160 [(Tm 35),(Tm 36),(Tm 37)]),iM 34 38,iE 39 34 0,iE 40 34 1,iA 9 (.alloc [(.int .i64 0),(.int .i64 0),(.int .i64 0)]),iS 3 9 39,iM 10 40]
def QP:Rg:=[iM 41 10]
def avP:Rg:=[iM 42 7,iO 43 3 9,iA 44 (.bIZ true 3 1 [(.int .i64 0),(.int .i64 0),(.int .i64 0)] [(0,(Tm 43))]),iA 45 (.append 3 24 (Tm 42) (Tm 44)),iM 7 45]
def avQ:Rg:=[iM 46 7,iO 47 7 3,iM 48 1,iM 49 8,iA 50 (.call 158 [(Tm 47),(Tm 48),(Tm 49)]),iA 51 (.append 3 24 (Tm 46) (Tm 50)),iM 7 51]
def QQ:Rg:=[iC 52 .add 31 1,iM 31 52]
def avO:aB:=(sq aPC (.seq (.cond (Tm 32) .skip (.exit 1)) (.seq (.block 2 (sq aPD (.seq (sq aPE (sq QP (.cond (Tm 41) (sq avP (.exit 2)) .skip))) (.region avQ)))) (.region QQ))))
def avR:Rg:=[iO 53 7 3,iM 54 2,iK2 55 152 53 54,iM 11 55]
def avS:Rg:=[iO 56 7 3,iM 57 1,iK2 58 157 56 57,iN 59 58,iI 60 0]
def avT:Rg:=[iB 61 .lss 60 59]
def avU:Rg:=[iM 62 60,iX 63 1 58 60,iL 64 63,iM 12 62,iM 13 64]
def avV:Rg:=[iM 65 13,iM 66 11,iM 67 12,iX 68 1 66 67,iL 69 68,iB 70 .gtr 65 69]
def avW:Rg:=[iM 71 7,iM 72 12,iA 73 (.build [(.int .i64 0),(.int .i64 0),(.int .i64 0)] [(0,1,(Ci 6)),(1,1,(Ci (-1))),(2,1,(Tm 72))]),iA 74 (.bIZ true 3 1 [(.int .i64 0),(.int .i64 0),(.int .i64 0)] [(0,(Tm 73))]),iA 75 (.append 3 24 (Tm 71) (Tm 74)),iM 7 75]
def QR:Rg:=[iC 76 .add 60 1,iM 60 76]
def QO:aB:=(sq avT (.seq (.cond (Tm 61) .skip (.exit 3)) (.seq (.block 4 (sq avU (sq avV (.cond (Tm 70) (.region avW) .skip)))) (.region QR))))
def avX:Rg:=[iM 77 7,iM 6 77]
def JZ:aB:=(sq aOW (.seq (.block 0 (sq aOX (.cond (Tm 14) (sq aOY .ret) (sq aaO (.cond (Tm 18) (sq aOZ .ret) .skip))))) (sq aPA (.seq (sq aPB (.block 1 (.loop avO))) (sq avR (.seq (sq avS (.block 3 (.loop QO))) (sq avX .ret)))))))
def bpS:List Nat:=[3,28,44,74]
def aAT:aT:=⟨3,78,JZ,[.tmp 6]⟩
def auT:Rg:=[iA 3 (.box true (Tm 0)),iT 6 false]
def auU:Rg:=[iO 7 7 3,iK 8 161 7,iM 9 8,gO 10 7 3 9 true,gM 11 1 9 true,gM 12 2 9 true,iG 13 (.call 154 [(Tm 10),(Tm 11),(Tm 12)]) 9 true,gN 14 13 9 true,gC 15 .eql 14 0 9 true,iP 16 9 15,iM 6 16]
def DG:aB:=(sq auT (sq auU .ret))
def biL:List Nat:=[3]
def ahW:aT:=⟨3,17,DG,[.tmp 6]⟩
theorem biV {C:Ctx} (h:∀ f:aD,f.Ok→aH C 96 [.agg f.cells] .nil (aF (.int .i64 (KR f)))) (f:aD) (hf:f.Ok) :
  DJ.wp C (aS aiD.res (bQ (.bool (cX f)))) (PF.args [.agg f.cells]) .nil:=by
 simp only[go_sem,δ,γ,DJ,avM,avN,aiD]
 refine aA (h f hf) rfl ?_
 simp only[go_sem,γ]
 refine aZ rfl ?_
 unfold KR
 cases cX f<;>rfl
theorem kV {f:aD} {d:Nat} (h:d<f.bIS.length):(f.bIS.map dB.cells)[d]?=some (f.bIS[d]).cells:=by simp[h]
theorem eR {f:aD} {d:Nat} (h:d<f.bIW.length):(f.bIW.map cI.cells)[d]?=some (f.bIW[d]).cells:=by simp[h]
theorem xC {f:aD} {d:Nat} (h:d<f.bIV.length):(f.bIV.map eN.cells)[d]?=some (f.bIV[d]).cells:=by simp[h]
theorem qH {f:aD} {d:Nat} (h:d<f.bIX.length):(f.bIX.map cJ.cells)[d]?=some (f.bIX[d]).cells:=by simp[h]
theorem arI {f:aD} {d:Nat} (h:d<f.bIT.length):(f.bIT.map cL.cells)[d]?=some (f.bIT[d]).cells:=by simp[h]
theorem yS {f:aD} {d:Nat} (h:d<f.bIW.length):(f.bIW[d]).level=lvl f d:=by rw[lvl,getD_at h]
theorem yX {f:aD} {d:Nat} (h:d<f.bIW.length):(f.bIW[d]).parent=par f d:=by rw[par,getD_at h]
theorem VF.amR {f:aD} (h:VF f) {d:Nat} (hd:d<f.bIS.length):(f.bIS[d]).machine=((fF f d:Nat):Int):=by
 have:=(h.drive d hd).2.2.1
 rw[fF,getD_at hd]; omega
theorem VF.EY {f:aD} (h:VF f) {d:Nat} (hd:d<f.bIS.length):(f.bIS[d]).model=((mdl f d:Nat):Int):=by
 have:=(h.drive d hd).1
 rw[mdl,getD_at hd]; omega
theorem VF.afS {f:aD} (h:VF f) {v:Nat} (hv:v<f.bIV.length):(f.bIV[v]).bJI=((PJ f v:Nat):Int):=by
 have:=(h.volume v hv).1
 rw[PJ,getD_at hv]; omega
theorem VF.anS {f:aD} (h:VF f) {i:Nat} (h0:0<i) (hi:i<f.bIW.length):par f i=((ZO f i:Nat):Int):=by
 have:=(h.dom i h0 hi).1
 rw[ZO]; omega
theorem qV {f:aD} (h:VF f) {v:Nat} (hv:v<f.bIV.length):∃ hp:PJ f v<f.bIX.length,f.bIX[PJ f v]=fU f v:=by
 have hp:=(h.volume v hv).2
 exact⟨hp,by simp[fU,bLP,hp]⟩
theorem bpK {C:Ctx} (f:aD) (hv:VF f) (v:Nat) (h:v<f.bIV.length) :
  JV.wp C (aS aAS.res (bQ (.int .i64 (eZ f v)))) (PF.args [.agg f.cells,.int .i64 v]) .nil:=by
 obtain⟨hp,he⟩:=qV hv h
 have hpol:=hv.bJI _ (bLF hp)
 rw[he] at hpol
 have hw:IntKind.i64.wrap ((fU f v).k+(fU f v).m)=(fU f v).k+(fU f v).m:=wrap_i64 Om Om
 simp only[go_sem,JV,aOH,aAS]
 refine bM .nil dK PH.nil_le ?_
 simp only[go_sem,δ,γ,θ,aOI,xC h,hv.afS h,qH hp,he]
 refine aN fun o ho=>?_
 simp only[go_sem,δ,γ,θ,aOJ,hw]
 refine⟨PH.nil_le,?_⟩
 exact gE (n:=(fU f v).k+(fU f v).m) rfl rfl
def abF (f:aD) (level:Int) (i:Nat):PF:=(((PF.nil.set 3 (.bJC f.cells)).set 2 (.int .i64 level)).set 7 (.int .i64 i))
theorem biC {C:Ctx} (f:aD) (hv:VF f) (d:Nat) (h:d<f.bIS.length) (level:Int) (h0:0≤level) (h4:level≤4) :
  DE.wp C (aS ahJ.res (bQ (.int .i64 (eP f d level:Nat)))) (PF.args [.agg f.cells,.int .i64 d,.int .i64 level]) .nil:=by
 simp only[go_sem,δ,γ,θ,DE,auH,auI,ahJ,kV h,hv.amR h]
 refine wp_loop (α:=Nat) (fun k=>abF f level (upN f k (fF f d))) (fun _=>.nil) (fun k=>k≤4-level.toNat) (fun k=>4-level.toNat-k) 0 (bLE _) ?_ PH.nil_le ?_
 ·unfold abF
  (repeat' (first|exact PF.nil_le|refine PF.aG ?_ ?_))<;>first|(simp only[go_sem,γ,upN]<;>rfl)|rfl
 intro k hk
 obtain⟨u1,u2⟩:=RJ hv h (k:=k) Om
 simp only[go_sem,δ,γ,θ,auG,auJ,abF,eR u1,yS u1]
 by_cases hlt:k<4-level.toNat
 ·have hc:lvl f (upN f k (fF f d))>level:=by rw[u2]; omega
  have hne:0<upN f k (fF f d):=by
   rcases bNA (upN f k (fF f d)) with e | e
   ·rw[e,hv.root.2.1] at u2; omega
   ·exact e
  simp only[go_sem,δ,γ,θ,hc,auK,eR u1,yX u1,hv.anS hne u1]
  refine aE (k+1) hlt Om ?_ PH.nil_le
  (repeat' (first|exact PF.nil_le|refine PF.aG ?_ ?_))<;>first|(simp only[go_sem,γ,upN]<;>rfl)|rfl
 ·have hc:¬ lvl f (upN f k (fF f d))>level:=by rw[u2]; omega
  have:k=4-level.toNat:=by omega
  subst this
  simp only[go_sem,γ,hc,auL]
  exact gE rfl rfl
structure SC (C:Ctx):Prop where
 valid:∀ f:aD,f.Ok→aH C 161 [.agg f.cells] .nil (aF (.bool (cX f)))
 kN:∀ (f:aD) (d:Nat) (level:Int),VF f→d<f.bIS.length→0≤level→level≤4→aH C 155 [.agg f.cells,.int .i64 d,.int .i64 level] .nil (aF (.int .i64 (eP f d level:Nat)))
 frag:∀ (f:aD) (v:Nat),VF f→v<f.bIV.length→aH C 156 [.agg f.cells,.int .i64 v] .nil (aF (.int .i64 (eZ f v)))
def atP (f:aD) (d level:Int):Int:=if cX f∧0≤d∧d<f.bIS.length∧0≤level∧level<5 then (eP f d.toNat level:Nat) else -1
theorem bzC {C:Ctx} (L:SC C) (f:aD) (hf:f.Ok) (d level:Int) :
  aaN.wp C (aS tat.res (bQ (.int .i64 (atP f d level)))) (PF.args [.agg f.cells,.int .i64 d,.int .i64 level]) .nil:=by
 simp only[go_sem,δ,γ,aaN,biE,biF,tat]
 refine aA (L.valid f hf) rfl ?_
 unfold atP
 cases hv:cX f with
 | false =>
  simp only[go_sem,ο,γ,reduceCtorEq,bLK,FL]
  exact gE rfl (by simp)
 | true =>
  have hV:=VF.of hv
  by_cases c1:d<0
  ·simp only[go_sem,ο,γ,reduceCtorEq,bLB,c1,FL]
   exact gE rfl (by rw[if_neg Om])
  ·by_cases c2:d≥(f.bIS.length:Nat)
   ·simp only[go_sem,ο,δ,γ,θ,reduceCtorEq,bLB,c1,bKY,c2,FL]
    exact gE rfl (by rw[if_neg Om])
   ·by_cases c3:level<0
    ·simp only[go_sem,ο,δ,γ,θ,reduceCtorEq,bLB,c1,bKY,c2,c3,FL]
     exact gE rfl (by rw[if_neg Om])
    ·by_cases c4:level≥5
     ·simp only[go_sem,ο,δ,γ,θ,reduceCtorEq,bLB,c1,bKY,c2,c3,c4,FL]
      exact gE rfl (by rw[if_neg Om])
     ·simp only[go_sem,ο,δ,γ,θ,reduceCtorEq,bLB,c1,bKY,c2,c3,c4,biG]
      have hc:=L.kN f d.toNat level hV Om Om Om
      rw[Int.toNat_of_nonneg Om] at hc
      refine aA hc rfl ?_
      simp only[go_sem,ο,γ]
      exact gE rfl (by rw[if_pos Om])
def pick (n:Nat) (p:Nat→Bool):List Int:=((bKZ n).filter p).map fun (i:Nat)=>(i:Int)
theorem vI (n:Nat) (p:Nat→Bool):pick (n+1) p=if p n then pick n p++[(n:Int)] else pick n p:=by
 unfold pick
 rw[List.range_succ,List.filter_append,bMW]
 by_cases h:p n
 ·rw[if_pos h]; simp[h]
 ·rw[if_neg h]; simp[h]
theorem tW (n:Nat) (p:Nat→Bool):(pick n p).length≤n:=by
 unfold pick
 rw[bKY]
 exact bNE (List.length_filter_le _ _) (by simp)
theorem sI (l:List Int) (x:Int):dA l++[[.int .i64 x]]=dA (l++[x]):=by unfold dA; rw[bMW]; rfl
theorem fZ (l:List Int):(dA l).length=l.length:=by unfold dA; rw[bKY]
theorem nA {t:Nat} {H:PH} {v:PV} {l:List Int} {F:PF} (h:aY H 1 v (dA l)) (ht:F t=some v):aS [.tmp t] (bQ (ints l)) .ret F H:=kS (.inr rfl) h ht
theorem fB {t:Nat} {H:PH} {F:PF} (ht:F t=some .bIU):aS [.tmp t] (bQ (ints [])) .ret F H:=kS (rows:=[]) (.inr rfl) .nil ht
def mX (f:aD) (dom:Int):List Int :=
 if cX f∧0≤dom∧dom<f.bIW.length then pick f.bIS.length fun d=>decide ((eP f d (lvl f dom.toNat):Nat)=dom.toNat) else []
def tdF (f:aD) (dom:Nat) (v:PV) (k:Nat):PF:=(((((PF.nil.set 1 (.int .i64 dom)).set 2 (.bJC f.cells)).set 5 (v)).set 24 (.int .i64 (f.bIS.length:Nat))).set 25 (.int .i64 k))
def toS (f:aD):Spec:=fun name vs=>match name,vs with
 | 155,[_,.int _ d,.int _ l]=>some ([],fun _=>aF (.int .i64 (eP f d.toNat l:Nat)))
 | 156,[_,.int _ v]=>some ([],fun _=>aF (.int .i64 (eZ f v.toNat)))
 | _,_=>none
theorem biS (f:aD) (d:Nat) (l:Int):toS f 155 [.agg f.cells,.int .i64 d,.int .i64 l]=some ([],fun _=>aF (.int .i64 (eP f d l:Nat))):=rfl
theorem bpM (f:aD) (v:Nat):toS f 156 [.agg f.cells,.int .i64 v]=some ([],fun _=>aF (.int .i64 (eZ f v))):=rfl
theorem bbC {C:Ctx} (L:SC C) (f:aD) (hf:f.Ok) (dom:Int) :
  zF.wp C (aS TG.res (bQ (ints (mX f dom)))) (PF.args [.agg f.cells,.int .i64 dom]) .nil:=by
 simp only[go_sem,δ,γ,zF,ahO,ahP,ahQ,TG]
 refine aA (L.valid f hf) rfl ?_
 unfold mX
 cases hv:cX f with
 | false =>
  simp only[go_sem,γ,reduceCtorEq,bLK,wX,]
  rw[if_neg (by simp)]
  exact fB rfl
 | true =>
  have hV:=VF.of hv
  by_cases c1:dom<0
  ·simp only[go_sem,γ,reduceCtorEq,bLB,c1,wX]
   rw[if_neg Om]
   exact fB rfl
  ·by_cases c2:dom≥(f.bIW.length:Nat)
   ·simp only[go_sem,δ,γ,θ,reduceCtorEq,bLB,c1,bKY,c2,wX]
    rw[if_neg Om]
    exact fB rfl
   ·obtain⟨n,rfl⟩:∃ n:Nat,dom=n:=⟨dom.toNat,by omega⟩
    have hn:n<f.bIW.length:=by omega
    have hd24:=hV.small.bIS
    simp only[go_sem,δ,γ,θ,reduceCtorEq,bLB,c1,bKY,c2,ahR]
    rw[if_pos Om]
    generalize hp:(fun d=>decide ((eP f d (lvl f n):Nat)=n))=p
    refine wp_loop (α:=Nat × PV × PH) (fun t=>tdF f n t.2.1 t.1) (fun t=>t.2.2) (fun t=>t.1≤f.bIS.length∧aY t.2.2 1 t.2.1 (dA (pick t.1 p))) (fun t=>f.bIS.length-t.1) (0,.bIU,.nil) ⟨bLE _,.nil⟩ ?_ PH.nil_le ?_
    ·unfold tdF
     (repeat' (first|exact PF.nil_le|refine PF.aG ?_ ?_))<;>first|(simp only[go_sem,γ,bKY]<;>rfl)|rfl
    rintro⟨k,v,H0⟩ ⟨hk,hO⟩
    simp only at hk hO ⊢
    simp only[go_sem,γ,VX,ahS,tdF]
    by_cases hlt:k<f.bIS.length
    ·have bJA:(k:Int)<(f.bIS.length:Nat):=by omega
     have hl04:0≤lvl f n∧lvl f n≤4:=by
      rcases bNA n with e | e
      ·rw[e,hV.root.2.1]; decide
      ·have:=hV.dom n e hn; omega
     simp only[go_sem,γ,bJA,ahT]
     refine bM .nil (toS f) PH.nil_le ?_
     simp only[go_sem,δ,γ,θ,ahU,eR hn,yS hn]
     refine bE (biS f k (lvl f n)) (L.kN f k (lvl f n) hV hlt hl04.1 hl04.2) rfl PH.nil_le ?_
     have hpk:p k=decide ((eP f k (lvl f n):Nat)=n):=by rw[← hp]
     have bJQ:=vI k p
     by_cases c:eP f k (lvl f n)=n
     ·rw[if_pos (by rw[hpk]; simp[c])] at bJQ
      have c':(((eP f k (lvl f n):Nat):Int)==(n:Int))=true:=bN Om
      simp only[go_sem,υ,γ,η,θ,ζ,c',ahV]
      refine dC (src:=[[.int .i64 k]]) hO rfl (by unfold roomFor; have:=tW k p; rw[fZ]; simp only[bLH,maxLen]; omega) fun v' H' hO' _=>?_
      rw[sI,← bJQ] at hO'
      simp only[go_sem,γ,JU,ws k]
      refine aE (k+1,v',H') ⟨hlt,hO'⟩ (by simp only; omega) ?_ PH.le_refl
      exact Lq
     ·rw[if_neg (by rw[hpk]; simp[c])] at bJQ
      have c':(((eP f k (lvl f n):Nat):Int)==(n:Int))=false:=bC Om
      simp only[go_sem,γ,c',JU,ws k]
      rw[← bJQ] at hO
      refine aE (k+1,v,H0) ⟨hlt,hO⟩ (by simp only; omega) ?_ PH.le_refl
      exact Lq
    ·have bJA:¬ (k:Int)<(f.bIS.length:Nat):=by omega
     have:k=f.bIS.length:=by omega
     subst this
     simp only[go_sem,γ,bJA,VY]
     exact nA hO rfl
def sC (f:aD) (dom:Int):List Int :=
 if cX f∧0≤dom then pick f.bIW.length fun i=>decide (par f i=dom) else []
def tcF (f:aD) (dom:Int) (v:PV) (k:Nat):PF:=((((((PF.nil.set 1 (.int .i64 dom)).set 2 (.bJC f.cells)).set 5 (v)).set 17 (.sl 7 (f.bIW.map cI.cells))).set 18 (.int .i64 (f.bIW.length:Nat))).set 19 (.int .i64 k))
theorem biH {C:Ctx} (L:SC C) (f:aD) (hf:f.Ok) (dom:Int) :
  DF.wp C (aS ahL.res (bQ (ints (sC f dom)))) (PF.args [.agg f.cells,.int .i64 dom]) .nil:=by
 simp only[go_sem,δ,γ,DF,auM,auN,auO,ahL]
 refine aA (L.valid f hf) rfl ?_
 unfold sC
 cases hv:cX f with
 | false =>
  simp only[go_sem,γ,reduceCtorEq,bLK,QJ]
  rw[if_neg (by simp)]
  exact fB rfl
 | true =>
  have hV:=VF.of hv
  by_cases c1:dom<0
  ·simp only[go_sem,γ,reduceCtorEq,bLB,c1,QJ]
   rw[if_neg Om]
   exact fB rfl
  ·have hd40:=hV.small.bIW
   simp only[go_sem,δ,γ,θ,reduceCtorEq,bLB,c1,bKY,auP]
   rw[if_pos Om]
   generalize hp:(fun i=>decide (par f i=dom))=p
   refine wp_loop (α:=Nat × PV × PH) (fun t=>tcF f dom t.2.1 t.1) (fun t=>t.2.2) (fun t=>t.1≤f.bIW.length∧aY t.2.2 1 t.2.1 (dA (pick t.1 p))) (fun t=>f.bIW.length-t.1) (0,.bIU,.nil) ⟨bLE _,.nil⟩ ?_ PH.nil_le ?_
   ·unfold tcF
    (repeat' (first|exact PF.nil_le|refine PF.aG ?_ ?_))<;>first|(simp only[go_sem,γ,bKY]<;>rfl)|rfl
   rintro⟨k,v,H0⟩ ⟨hk,hO⟩
   simp only at hk hO ⊢
   simp only[go_sem,γ,ahM,auQ,tcF]
   by_cases hlt:k<f.bIW.length
   ·have bJA:(k:Int)<(f.bIW.length:Nat):=by omega
    simp only[go_sem,δ,γ,bJA,auR,eR hlt]
    refine aN fun o ho=>?_
    have hpk:p k=decide (par f k=dom):=by rw[← hp]
    have bJQ:=vI k p
    by_cases c:par f k=dom
    ·rw[if_pos (by rw[hpk]; simp[c])] at bJQ
     simp only[go_sem,υ,δ,γ,η,θ,ζ,QK,yX hlt,bN c,auS]
     refine dC (src:=[[.int .i64 k]]) (hO.fresh ho _).1 rfl (by unfold roomFor; have:=tW k p; rw[fZ]; simp only[bLH,maxLen]; omega) fun v' H' hO' _=>?_
     rw[sI,← bJQ] at hO'
     simp only[go_sem,γ,QL,ws k]
     refine aE (k+1,v',H') ⟨hlt,hO'⟩ (by simp only; omega) ?_ PH.le_refl
     exact Lq
    ·rw[if_neg (by rw[hpk]; simp[c])] at bJQ
     simp only[go_sem,δ,γ,θ,QK,yX hlt,bC c,QL,ws k]
     rw[← bJQ] at hO
     refine aE (k+1,v,H0) ⟨hlt,hO⟩ (by simp only; omega) ?_ (PH.NY _ ho)
     exact Lq
   ·have bJA:¬ (k:Int)<(f.bIW.length:Nat):=by omega
    have:k=f.bIW.length:=by omega
    subst this
    simp only[go_sem,γ,bJA,ahN]
    exact nA hO rfl
section
variable (o s:Nat) (rs:List (List PV))
@[go_sem] theorem bDW (k:IntKind) (n:Int):PV.frz o s rs (.int k n)=.int k n:=(rfl)
@[go_sem] theorem bCI (b:Bool):PV.frz o s rs (.bool b)=.bool b:=(rfl)
@[go_sem] theorem bEA (l:List UInt8):PV.frz o s rs (.str l)=.str l:=(rfl)
@[go_sem] theorem bCJ:PV.frz o s rs .bIU=.bIU:=(rfl)
@[go_sem] theorem bHE (n:Nat) (r:List (List PV)):PV.frz o s rs (.sl n r)=.sl n r:=(rfl)
@[go_sem] theorem bCK (c:List PV):PV.frz o s rs (.bJC c)=.bJC c:=(rfl)
@[go_sem] theorem bDZ (q z i c:Nat):PV.frz o s rs (.ptr q z i c)=.ptr q z i c:=(rfl)
@[go_sem] theorem bHD (n:Nat) (c:List PV):PV.frz o s rs (.fn n c)=.fn n c:=(rfl)
@[go_sem] theorem bDX (q:Nat):PV.frz o s rs (.map q)=.map q:=(rfl)
@[go_sem] theorem bDY (q z off len:Nat):PV.frz o s rs (.osl q z off len)=if q=o then (if z=s∧off+len≤rs.length then .sl s ((rs.drop off).take len) else .junk) else .osl q z off len:=(rfl)
end
def mN (s:Nat) (rows:List (List PV)) (r:PV) (H:PH):Prop :=
 (rows=[]∧r=.bIU∧H=PH.nil)∨∃ q rs,r=.osl q s 0 rows.length∧H=PH.nil.set q (.rows s rs)∧rows.length≤rs.length∧rs.take rows.length=rows
theorem aWP (q s:Nat) (rs:List (List PV)):(PH.nil.set q (.rows s rs)).frz q s rs=PH.nil:=PH.ext fun o=>by
 rw[SO]
 by_cases e:o=q
 ·rw[if_pos e]; rfl
 ·rw[if_neg e,bB,if_neg e]; rfl
section
variable {C:Ctx} {K:bY} {F:PF} {H:PH} {s:Nat} {v:PV} {rows:List (List PV)}
theorem mN.over {r:PV} {H':PH} (h:mN s rows r H') (ha:nF H .nil H'):aY (H.over .nil H') s r rows∧∀ o x,H o=some x→(H.over .nil H') o=some x:=by
 rcases h with ⟨h1,h2,rfl⟩ | ⟨q,rs,h1,rfl,h3,h4⟩
 ·rw[PH.yW]; exact⟨.inl ⟨h1,h2⟩,fun o x h=>h⟩
 ·rw[PH.mZ]
  have hq:H q=none:=ha q (.rows s rs) (by simp only[bB,if_true]) rfl
  refine⟨.inr ⟨q,rs,h1,by simp only[bB,if_true],h3,h4⟩,fun o x ho=>?_⟩
  have:o≠q:=by rintro rfl; rw[hq] at ho; cases ho
  simp only[bB,if_neg this,ho]
theorem IZ {t:Nat} {e:mO} (he:e=.normal∨e=.ret) (h:aY H s v rows) (ht:F t=some v):aS [.tmp t] (mN s rows) e F H:=by
 rcases h with ⟨rfl,rfl⟩ | ⟨q,rs,rfl,h1,h2,h3⟩
 ·exact aV (vs:=[.bIU]) he .nil (by rw[lI,oE,ht,pU]) PH.nil_le (.inl ⟨rfl,rfl,rfl⟩)
 ·exact aV (vs:=[.osl q s 0 rows.length]) he (PH.nil.set q (.rows s rs)) (by rw[lI,oE,ht,pU]) (PH.aG PH.nil_le h1) (.inr ⟨q,rs,rfl,rfl,h2,h3⟩)
theorem FF {t:Nat} {e:mO} (he:e=.normal∨e=.ret) (ht:F t=some .bIU):aS [.tmp t] (mN s []) e F H:=IZ he .nil ht
theorem bhA {t:Nat} {e:mO} {r:PV} {H':PH} (he:e=.normal∨e=.ret) (h:mN s rows r H') (ht:F t=some r):aS [.tmp t] (mN s rows) e F (H.over .nil H'):=by
 refine aV (vs:=[r]) he H' (by rw[lI,oE,ht,pU]) (fun o x ho=>?_) h
 rw[oC,ho]
theorem aH.freeze {name:Nat} {args:List PV} (h:aH C name args H (mN s rows)):aH C name args H (aF (.sl s rows)) :=
 ⟨h.1,fun E w vs hN hW hvs=>(h.2 E w vs hN hW hvs).mono fun e w' he=>by
  obtain⟨u,pv,E',H',rfl,hW',hr,hE,hp⟩:=he
  rcases hp with ⟨rfl,rfl,rfl⟩ | ⟨q,rs,rfl,rfl,h3,h4⟩
  ·exact⟨u,_,E',_,rfl,hW',(Co.nil s).sound hr,hE,rfl,rfl⟩
  ·have hz:jU (PF.nil.set 0 (.osl q s 0 rows.length)) (PH.nil.set q (.rows s rs)) _ _:=.step q (s:=s) (rs:=rs) (by simp only[bB,if_true]) (.refl _ _)
   obtain⟨E2,k1,k2,k3⟩:=hz.sound hW'
   have bKT:=k3 (fun _=>u) (fun i p hi=>by
    rw[nB] at hi
    split at hi
    ·cases hi; exact hr
    ·cases hi) 0 (.sl s rows) (by rw[sH,nB,if_pos rfl,bME,xO h3,h4])
   rw[aWP] at k1 k2
   exact⟨u,_,E2,_,rfl,k1,bKT,hE.trans k2,rfl,rfl⟩⟩
theorem eY.of:∀ {E:Env} (ps:List PV) (vs:List Value),vs.length=ps.length→(∀ (i:Nat) p v,ps[i]?=some p→vs[i]?=some v→aX E p v)→eY E ps vs
 | _,[],[],_,_=>.nil
 | _,[],_::_,h,_=>by simp at h
 | _,_::_,[],h,_=>by simp at h
 | _,p::ps,v::vs,h,k=>.cons (k 0 p v rfl rfl) (eY.of ps vs (by simpa using h) fun i q u a b=>k (i+1) q u (by simpa using a) (by simpa using b))
theorem bS.same {E:Env} {w w':World} (hW:bS E H w) (hs:w.heap.size≤w'.heap.size) (hb:∀ b,b<w.heap.size→H b=none→w'.heap[b]?=w.heap[b]?) (hH:∀ o x,H o=some x→w'.heap[o]?=w.heap[o]?):bS E H w':=by
 have key:∀ b,b<w.heap.size→w'.heap[b]?=w.heap[b]?:=fun b hlt=>by
  cases e:H b with
  | none=>exact hb b hlt e
  | some x=>exact hH b x e
 refine⟨fun b cs h=>?_,fun o x h=>?_,fun o n h=>?_⟩
 ·obtain⟨h1,ty,fr,h2⟩:=hW.g b cs h
  exact⟨h1,ty,fr,(key b (bOI.1 h2).1).trans h2⟩
 ·obtain⟨h1,h2⟩:=hW.h o x h
  exact⟨Nat.lt_of_lt_of_le h1 hs,h2.mono (.refl E) (key o h1)⟩
 ·obtain⟨cur,ty,fr,h1,h2⟩:=hW.s o n h
  exact⟨cur,ty,fr,(key o (bOI.1 h1).1).trans h1,h2⟩
inductive Plain:PV→Prop
 | int (k:IntKind) (n:Int):Plain (.int k n)
 | bool (b:Bool):Plain (.bool b)
 | str (l:List UInt8):Plain (.str l)
theorem Plain.rep {v:PV} (h:Plain v) {E E':Env} {u:Value} (r:aX E v u):aX E' v u:=by
 cases h<;>cases r
 ·exact .int _ _
 ·exact .bool _
 ·exact .str _
theorem aH.byC {name o:Nat} {rs:List (List PV)} {args:List PV} (hv:Plain v) (h:aH C name (args.map (PV.frz o s rs)) .nil (aF v)) :
  aH C name args (PH.nil.set o (.rows s rs)) (fun r H'=>r=v∧H'=PH.nil.set o (.rows s rs)):=by
 refine⟨h.1,fun E w vs hN hW hvs=>?_⟩
 have hz:jU (PF.args args) (PH.nil.set o (.rows s rs)) _ _:=.step o (s:=s) (rs:=rs) (by simp only[bB,if_true]) (.refl _ _)
 obtain⟨E1,k1,k2,k3⟩:=hz.sound hW
 rw[aWP] at k1 k2
 have hlen:=hvs.len
 have hvs1:eY E1 (args.map (PV.frz o s rs)) vs.toList:=by
  refine eY.of _ _ (by rw[bKY]; exact hlen) fun i p u hp hu=>?_
  have:=k3 (fun i=>(vs.toList[i]?).getD undef) (fun j q hj=>by
   have hjl:=(bMM.1 hj).1
   have hjv:j<vs.toList.length:=by omega
   simp only[bLL hjv,bNH]
   exact hvs.at_ j q _ hj (bLL hjv)) i p (by rw[sH,args_at,← bMH]; exact hp)
  simp only[hu,bNH] at this
  exact this
 refine (h.2 E1 w vs (k2.env.num.trans hN) k1 hvs1).mono fun e w' he=>?_
 obtain⟨u,pv,E2,H2,rfl,hW2,hr,hE,rfl,rfl⟩:=he
 have hblk:∀ b,b<w.heap.size→w'.heap[b]?=w.heap[b]?:=fun b hb=>hE.block b hb rfl
 refine⟨u,pv,E,_,rfl,hW.same hE.size (fun b hb _=>hblk b hb) (fun q x hq=>hblk q (hW.h q x hq).1),hv.rep hr,⟨.refl E,hE.os,hE.tape,hE.output,hE.size,fun b hb _=>hblk b hb,fun q x hq=>.inl ⟨x,hq⟩,fun b cs hb=>.inl hb⟩,rfl,rfl⟩
theorem aVE {name o:Nat} {rs:List (List PV)} {args:List aP} {vs:List PV} {d:Option Nat} {K:PF→PH→Prop} (hv:Plain v) (h:aH C name (vs.map (PV.frz o s rs)) .nil (aF v)) (ho:H o=some (.rows s rs)) (ha:aP.evs F args=some vs)
  (hk:K (F.put d v) H):gS C name args [] d K F H:=by
 refine mI (h.byC hv) ha (PH.aG PH.nil_le ho) ?_
 rintro r H' ⟨rfl,rfl⟩ -
 rw[PH.over_self _ (PH.aG PH.nil_le ho)]
 exact hk
theorem blD {Hs:PH} {S:Spec} {name o:Nat} {rs:List (List PV)} {vs:List PV} {R:PH→PV→PH→Prop} {args:List aP} {st:Bool} {d:Option Nat} {K:PF→PH→Prop} (hS:S name vs=some ([o],R)) (hv:Plain v) (ho:H o=some (.rows s rs))
  (h:aH C name (vs.map (PV.frz o s rs)) .nil (aF v)) (hR1:R (PH.nil.set o (.rows s rs)) v (PH.nil.set o (.rows s rs))) (hR2:∀ r H',R (PH.nil.set o (.rows s rs)) r H'→r=v∧H'=PH.nil.set o (.rows s rs)) (ha:aP.evs F args=some vs) (hle:Hs.le H) (hk:K (F.put d v) H) :
  dOp C Hs S st (.call name args) d K F H:=WZ hS ho (h.byC hv) hR1 hR2 ha hle hk
theorem azT {name t:Nat} {R:PV→PH→Prop} {d:Option Nat} {K:PF→PH→Prop} (h:aH C name [.sl s rows] .nil R) (hO:aY H s v rows) (ht:F t=some v)
  (hK:∀ (F1:PF) (H1:PH),(∀ i u,F i=some u→Pure u→F1 i=some u)→∀ r H',R r H'→nF H1 .nil H'→K (F1.put d r) (H1.over .nil H')):gS C name [.tmp t] [] d K F H:=by
 rcases hO with ⟨rfl,rfl⟩ | ⟨q,rs,rfl,h1,h2,h3⟩
 ·exact .inl ⟨[.bIU],.nil,R,by rw[yG,acD,ht,SH]; rfl,PH.nil_le,h.baS (.inl ⟨rfl,rfl⟩),hK F H fun i u hi _=>hi⟩
 ·refine .inr ⟨_,_,.step q h1 (.refl _ _),[.sl s rows],.nil,R,?_,PH.nil_le,h,hK _ _ fun i u hi hp=>?_⟩
  ·simp only[yG,SH,acD,sH,ht,bME,xO h2,h3,bMP]
  ·rw[sH,hi,bME,hp q s rs]
end
def mY (A:List Int) (k:Nat):List Int:=A.take k++bLD (A.length-k) 0
theorem aST (A:List Int):mY A 0=bLD A.length 0:=by simp[mY]
theorem a6J (A:List Int):mY A A.length=A:=by simp[mY]
theorem azI (A:List Int) {k:Nat} (h:k≤A.length):(mY A k).length=A.length:=by simp[mY]; omega
theorem a6K (A:List Int) {k:Nat} (h:k<A.length):(mY A k).set k A[k]=mY A (k+1):=by
 unfold mY
 rw[bOA _ _ (by simp; omega),bLR,bNB Om,Nat.sub_self,show A.length-k=(A.length-(k+1))+1 by omega,List.replicate_succ,List.set_cons_zero,
  bNC h,bMA]
 rfl
theorem oZ (l:List Int) (i:Nat) (x:Int):(dA l).set i [.int .i64 x]=dA (l.set i x):=by unfold dA; rw[List.map_set]
theorem qF (n:Nat):bLD n [PV.int .i64 0]=dA (bLD n 0):=by simp[dA]
theorem tT {l:List Int} {i:Nat} (h:i<l.length):(dA l)[i]?=some [.int .i64 l[i]]:=by simp[dA,h]
theorem adF (l:List Int):ints l=.sl 1 (dA l):=rfl
def vK (f:aD) (room:List Int) (d:Nat):Int:=if room.length=f.bIS.length then min (max (room.getD d 0) 0) (ext f d) else ext f d
def fX (f:aD) (room:List Int):List Int:=(bKZ f.bIS.length).map (vK f room)
def mD (f:aD) (room:List Int):List Int:=if cX f then fX f room else []
theorem pE (f:aD) (room:List Int):(fX f room).length=f.bIS.length:=by simp[fX]
theorem aMF (f:aD) (room:List Int) {d:Nat} (h:d<(fX f room).length):(fX f room)[d]=vK f room d:=by simp[fX]
theorem VF.bdF {f:aD} (h:VF f) {d:Nat} (hd:d<f.bIS.length):∃ hm:mdl f d<f.bIT.length,(f.bIT[mdl f d]).bJO=ext f d:=by
 have hm:=(h.drive d hd).2.1
 exact⟨hm,by rw[ext,getD_at hm]⟩
def trF (f:aD) (room:List Int) (o k:Nat):PF:=(((((PF.nil.set 1 (ints room)).set 2 (.bJC f.cells)).set 5 (.osl o 1 0 f.bIS.length)).set 15 (.int .i64 (f.bIS.length:Nat))).set 16 (.int .i64 k))
theorem aYQ (a b:Int):(if b<a then b else a)=min a b:=by
 rw[Int.min_def]
 by_cases h:b<a
 ·rw[if_pos h,if_neg Om]
 ·rw[if_neg h,if_pos Om]
theorem aOL {C:Ctx} (L:SC C) (f:aD) (hf:f.Ok) (room:List Int) :
  JY.wp C (aS AP.res (mN 1 (dA (mD f room)))) (PF.args [.agg f.cells,ints room]) .nil:=by
 simp only[go_sem,δ,γ,JY,aOM,aON,AP]
 refine aA (L.valid f hf) rfl ?_
 unfold mD
 cases hv:cX f with
 | false =>
  simp only[go_sem,γ,reduceCtorEq,bLK,aOO]
  exact FF (.inr rfl) rfl
 | true =>
  have hV:=VF.of hv
  have hd24:=hV.small.bIS
  have hb1:((f.bIS.length:Nat):Int)*((8:Nat):Int)≤140737488355328:=by omega
  have hb2:((f.bIS.length:Nat):Int)≤9223372036854775807:=by omega
  simp only[go_sem,δ,γ,θ,bLB,aOP,bKY,hb1,hb2]
  refine aN fun o ho=>?_
  simp only[go_sem,γ,aOQ]
  have hAl:=pE f room
  have hAt:=fun d h=>aMF f room (d:=d) h
  generalize hA:fX f room=A at *
  refine wp_loop (α:=Nat) (fun k=>trF f room o k) (fun k=>PH.nil.set o (.rows 1 (dA (mY A k)))) (fun k=>k≤f.bIS.length) (fun k=>f.bIS.length-k) 0 (bLE _) ?_ ?_ ?_
  ·unfold trF
   exact Lq
  ·refine PH.aG PH.nil_le ?_
   simp only[go_sem]
   rw[aST,hAl,qF]
  intro k hk
  simp only[go_sem,γ,avD,aOR,trF]
  by_cases hlt:k<f.bIS.length
  ·have bJA:(k:Int)<(f.bIS.length:Nat):=by omega
   obtain⟨hm,he⟩:=hV.bdF hlt
   have hfl:=azI A (k:=k) Om
   have hkA:k<A.length:=by omega
   have hx:=tT (l:=mY A k) (i:=k) Om
   have bJB:=a6K A hkA
   rw[hAt k hkA] at bJB
   simp only[go_sem,γ,bJA,aOS]
   refine bM .nil dK PH.nil_le ?_
   simp only[go_sem,δ,γ,θ,aOT,kV hlt,hV.EY hlt,arI hm,he,bJA,bLX,hx]
   refine⟨PH.nil_le,?_⟩
   simp only[go_sem,γ,aOU,bKY]
   by_cases c:room.length=f.bIS.length
   ·have c':(((room.length:Nat):Int)==((f.bIS.length:Nat):Int))=true:=bN Om
    have hrk:k<room.length:=by omega
    have hrr:(room.map fun n=>[PV.int .i64 n])[k]?=some [.int .i64 room[k]]:=by simp[hrk]
    simp only[go_sem,c']
    refine bM .nil dK PH.nil_le ?_
    have hx2:(dA ((mY A k).set k (ext f k)))[k]?=some [.int .i64 (ext f k)]:=by
     rw[← oZ,List.getElem?_set_self (by rw[fZ]; omega)]
    simp only[go_sem,γ,reduceCtorEq,aOV,hrr,bJA,bLX,hx2,max_eq,aYQ,List.set_set,oZ]
    refine⟨PH.nil_le,?_⟩
    simp only[go_sem,γ,QM,ws k]
    refine aE (k+1) hlt Om ?_ ?_
    ·exact Lq
    ·refine PH.aG PH.nil_le ?_
     rw[← bJB,vK,if_pos c,bLP,bLL hrk,bNH]
     simp only[go_sem]
   ·have c':(((room.length:Nat):Int)==((f.bIS.length:Nat):Int))=false:=bC Om
    simp only[go_sem,γ,c',QM,ws k,oZ]
    refine aE (k+1) hlt Om ?_ ?_
    ·exact Lq
    ·refine PH.aG PH.nil_le ?_
     rw[← bJB,vK,if_neg c]
     simp only[go_sem]
  ·have bJA:¬ (k:Int)<(f.bIS.length:Nat):=by omega
   have:k=f.bIS.length:=by omega
   subst this
   simp only[go_sem,γ,bJA,avE]
   have hAA:mY A f.bIS.length=A:=by rw[← hAl,a6J]
   rw[hAA]
   exact IZ (.inr rfl) (v:=.osl o 1 0 f.bIS.length) (.inr ⟨o,dA A,by rw[fZ,hAl],by simp only[go_sem],bLG _,bLQ (bLG _)⟩) rfl
abbrev lay (l:List (List Int)):PV:=.sl 1 (l.map fun r=>[ints r])
def dU (n:Nat) (xs:List Int):List Int:=(bKZ n).map fun (d:Nat)=>((xs.count (d:Int):Nat):Int)
theorem fR (n:Nat) (xs:List Int):(dU n xs).length=n:=by simp[dU]
theorem WY (n:Nat):dU n []=bLD n 0:=by
 refine bNW (by simp[dU]) fun i h1 h2=>by simp[dU]
theorem SE {n:Nat} (xs:List Int) {d:Nat} (h:d<n):(dU n xs)[d]'(by rw[fR]; exact h)=((xs.count (d:Int):Nat):Int):=by simp[dU]
theorem alZ {n:Nat} (xs:List Int) {d:Nat} (h:d<n):(dU n xs).set d (((xs.count (d:Int):Nat):Int)+1)=dU n (xs++[(d:Int)]):=by
 refine bNW (by simp[dU]) fun i h1 h2=>?_
 simp only[dU,List.getElem_set,bMN,List.getElem_range,List.count_append]
 by_cases e:d=i
 ·subst e; simp
 ·have:((d:Nat):Int)≠(i:Int):=by omega
  rw[if_neg e]
  simp[List.count_cons,this]
theorem yF {n:Nat} (xs:List Int) {x:Int} (h:¬ (0≤x∧x<n)):dU n (xs++[x])=dU n xs:=by
 refine bNW (by simp[dU]) fun i h1 h2=>?_
 simp only[dU,bMN,List.getElem_range,List.count_append]
 have hi:i<n:=by simpa [dU] using h2
 have:x≠(i:Int):=by omega
 simp[List.count_cons,this]
def fH (f:aD) (l:List (List Int)):List Int:=dU f.bIS.length l.flatten
structure fC (l:List (List Int)):Prop where
 rows:l.length≤16777216
 all:l.flatten.length≤16777216
theorem oX (l:List (List Int)) {i:Nat} (h:i<l.length):(l.take (i+1)).flatten=(l.take i).flatten++l[i]:=by
 rw[bNC h,List.flatten_append]
 simp only[List.flatten_cons,List.flatten_nil,bMP]
theorem tL (l:List (List Int)) (i:Nat):(l.take i).flatten.length≤l.flatten.length:=by
 have:l.flatten=(l.take i).flatten++(l.drop i).flatten:=by rw[← List.flatten_append,bNP]
 rw[this,bLC]; omega
def aHV (l:List (List Int)) (n o i:Nat):PF:=((((PF.nil.set 5 (.osl o 1 0 n)).set 14 (lay l)).set 15 (.int .i64 (l.length:Nat))).set 16 (.int .i64 i))
def amP (l:List (List Int)) (n o i:Nat) (row:List Int) (k:Nat):PF:=(((((((PF.nil.set 5 (.osl o 1 0 n)).set 14 (lay l)).set 15 (.int .i64 (l.length:Nat))).set 16 (.int .i64 i)).set 20 (ints row)).set 21 (.int .i64 (row.length:Nat))).set 22 (.int .i64 k))
theorem biM {C:Ctx} (f:aD) (hd:f.bIS.length≤24) (l:List (List Int)) (hl:fC l) :
  DH.wp C (aS ahX.res (bQ (ints (fH f l)))) (PF.args [.agg f.cells,lay l]) .nil:=by
 have hb1:((f.bIS.length:Nat):Int)*((8:Nat):Int)≤140737488355328:=by omega
 have hb2:((f.bIS.length:Nat):Int)≤9223372036854775807:=by omega
 obtain⟨hl1,hl2⟩:=hl
 simp only[go_sem,δ,γ,θ,DH,auV,auW,ahX,bKY,hb1,hb2]
 refine aN fun o ho=>?_
 simp only[go_sem,γ,auX]
 generalize hn:f.bIS.length=n at *
 refine wp_loop (α:=Nat) (fun i=>aHV l n o i) (fun i=>PH.nil.set o (.rows 1 (dA (dU n (l.take i).flatten)))) (fun i=>i≤l.length) (fun i=>l.length-i) 0 (bLE _) ?_ ?_ ?_
 ·unfold aHV
  (repeat' (first|exact PF.nil_le|refine PF.aG ?_ ?_))<;>first|(simp only[go_sem,γ,bKY]<;>rfl)|rfl
 ·refine PH.aG PH.nil_le ?_
  simp only[go_sem,List.take_zero,List.flatten_nil]
  rw[WY,qF]
 intro i hi
 simp only[go_sem,γ,ahZ,auY,aHV]
 by_cases hlt:i<l.length
 ·have bJA:(i:Int)<(l.length:Nat):=by omega
  have hr:(l.map fun r=>[ints r])[i]?=some [ints l[i]]:=by simp[hlt]
  have hft:=oX l hlt
  have hfl:=tL l (i+1)
  rw[hft,bLC] at hfl
  generalize bJH:l[i]=row at *
  simp only[go_sem,γ,bJA,auZ,hr,avA,bKY]
  refine wp_loop (α:=Nat) (fun k=>amP l n o i row k) (fun k=>PH.nil.set o (.rows 1 (dA (dU n ((l.take i).flatten++row.take k))))) (fun k=>k≤row.length) (fun k=>row.length-k) 0 (bLE _) ?_ ?_ ?_
  ·unfold amP
   (repeat' (first|exact PF.nil_le|refine PF.aG ?_ ?_))<;>first|(simp only[go_sem,γ,bKY]<;>rfl)|rfl
  ·rw[List.take_zero,bMP]
   exact PH.le_refl
  intro k hk
  simp only[go_sem,γ,ahY,avB,amP]
  by_cases hkt:k<row.length
  ·have hkt':(k:Int)<(row.length:Nat):=by omega
   have hrk:(row.map fun n=>[PV.int .i64 n])[k]?=some [.int .i64 row[k]]:=by simp[hkt]
   have htk:(l.take i).flatten++row.take (k+1)=((l.take i).flatten++row.take k)++[row[k]]:=by
    rw[bNC hkt,bMA]
   have fin:∀ (F:PF),(amP l n o i row (k+1)).le F→∀ H:PH,H o=some (.rows 1 (dA (dU n ((l.take i).flatten++row.take (k+1))))) →
     dV (fun k=>amP l n o i row k) (fun k=>PH.nil.set o (.rows 1 (dA (dU n ((l.take i).flatten++row.take k))))) (fun k=>k≤row.length) (fun k=>row.length-k) (row.length-k)
      (dP 2 (dP 1 (jC C (aB.wp C (.region JW)) (dV (fun i=>aHV l n o i) (fun i=>PH.nil.set o (.rows 1 (dA (dU n (l.take i).flatten)))) (fun i=>i≤l.length) (fun i=>l.length-i) (l.length-i) (dP 0 (jC C (aB.wp C (.seq (.region JX) .ret)) (aS [.tmp 4] (bQ (ints (fH f l)))))))))) .normal F H:=by
    intro F hF H hH
    exact aE (k+1) hkt Om hF (PH.aG PH.nil_le hH)
   unfold amP aHV at fin
   generalize hx:row[k]=x at *
   by_cases c1:x≥0
   ·by_cases c2:x<(n:Nat)
    ·obtain⟨d,rfl⟩:∃ d:Nat,x=d:=⟨x.toNat,by omega⟩
     have hdn:d<n:=by omega
     have hat:=tT (l:=dU n ((l.take i).flatten++row.take k)) (i:=d) (by rw[fR]; exact hdn)
     rw[SE _ hdn] at hat
     have hcl:((l.take i).flatten++row.take k).count (d:Int)≤16777216:=by
      refine bNE (List.count_le_length ..) ?_
      rw[bLC,bLR]; omega
     have hin:=alZ ((l.take i).flatten++row.take k) hdn
     rw[← htk] at hin
     have hw:IntKind.i64.wrap (((((l.take i).flatten++row.take k).count (d:Int):Nat):Int)+1)=((((l.take i).flatten++row.take k).count (d:Int):Nat):Int)+1:=wrap_i64 Om Om
     simp only[go_sem,γ,hkt',AN,hrk,AO,c1,c2,avC,bLX,hat,hw,wY,oZ,hin,ws k]
     exact fin _ Lq _ Sq
    ·have hout:=yF (n:=n) ((l.take i).flatten++row.take k) (x:=x) Om
     simp only[go_sem,γ,hkt',AN,hrk,AO,c1,c2,wY,ws k]
     exact fin _ Lq _ (by rw[htk,hout]; simp only[go_sem])
   ·have hout:=yF (n:=n) ((l.take i).flatten++row.take k) (x:=x) Om
    simp only[go_sem,γ,reduceCtorEq,hkt',AN,hrk,AO,c1,wY,ws k]
    exact fin _ Lq _ (by rw[htk,hout]; simp only[go_sem])
  ·have hkt':¬ (k:Int)<(row.length:Nat):=by omega
   have:k=row.length:=by omega
   subst this
   simp only[go_sem,γ,reduceCtorEq,hkt',JW,ws i,bLZ]
   refine aE (i+1) hlt Om ?_ ?_
   ·exact Lq
   ·refine PH.aG PH.nil_le ?_
    rw[hft]
    simp only[go_sem]
 ·have bJA:¬ (i:Int)<(l.length:Nat):=by omega
  have:i=l.length:=by omega
  subst this
  simp only[go_sem,γ,bJA,JX,bLZ]
  refine ZS (.inr rfl) (o:=o) (s:=1) (k:=n) (rs:=dA (dU n l.flatten)) rfl Sq (by rw[fZ,fR]; omega) ⟨?_,rfl⟩
  rw[adF,bLQ (by rw[fZ,fR]; omega),fH,hn]
  exact .refl _
structure abT (C:Ctx):Prop extends SC C where
 room:∀ (f:aD) (room:List Int),f.Ok→aH C 152 [.agg f.cells,ints room] .nil (aF (ints (mD f room)))
 loads:∀ (f:aD) (l:List (List Int)),f.bIS.length≤24→fC l→aH C 157 [.agg f.cells,lay l] .nil (aF (ints (fH f l)))
def mA (f:aD) (l:List (List Int)):List Int:=if cX f then fH f l else []
theorem biA {C:Ctx} (L:abT C) (f:aD) (hf:f.Ok) (l:List (List Int)) (hl:fC l) :
  DD.wp C (aS ahA.res (bQ (ints (mA f l)))) (PF.args [.agg f.cells,lay l]) .nil:=by
 simp only[go_sem,δ,γ,DD,auC,auD,ahA]
 refine aA (L.valid f hf) rfl ?_
 unfold mA
 cases hv:cX f with
 | false =>
  simp only[go_sem,γ,reduceCtorEq,bLK,auE]
  exact fB rfl
 | true =>
  have hV:=VF.of hv
  simp only[go_sem,δ,γ,bLB,auF]
  refine aA (L.loads f l hV.small.bIS hl) rfl ?_
  simp only[go_sem,γ]
  exact aV (.inr rfl) .nil rfl PH.nil_le ⟨.refl _,rfl⟩
structure fE where
 kind:Int
 vol:Int
 wher:Int
abbrev fE.cells (x:fE):List PV:=[.int .i64 x.kind,.int .i64 x.vol,.int .i64 x.wher]
abbrev mM (l:List fE):PV:=.sl 3 (l.map fE.cells)
def eI (p:Int→Bool):List Int→Nat→Option Nat
 | [],_=>none
 | x::t,i=>if p x then some i else eI p t (i+1)
def jA (f:aD) (d:Int):Bool:=decide (d < -1)||decide (d≥(f.bIS.length:Nat))
def kC (f:aD) (l:List (List Int)) (v:Nat):Option fE :=
 if ((l.getD v []).length:Int)=eZ f v then (eI (jA f) (l.getD v []) 0).map fun (i:Nat)=>⟨1,v,i⟩ else some ⟨1,v,((l.getD v []).length:Nat)⟩
def shV:Option fE→PV
 | some x=>.tup [.agg x.cells,.bool true]
 | none=>.tup [.agg [.int .i64 0,.int .i64 0,.int .i64 0],.bool false]
def bpP (f:aD) (o:Nat) (v:Nat) (row:List Int) (k:Nat):PF:=((((((PF.nil.set 2 (.int .i64 v)).set 3 (.bJC f.cells)).set 6 (.ptr o 3 0 0)).set 29 (ints row)).set 30 (.int .i64 (row.length:Nat))).set 31 (.int .i64 k))
theorem biT {C:Ctx} (L:abT C) (f:aD) (hV:VF f) (l:List (List Int)) (hl:fC l) (v:Nat) (hv:v<l.length) (hvf:v<f.bIV.length) :
  DI.wp C (aS FM.res (bQ (shV (kC f l v)))) (PF.args [.agg f.cells,lay l,.int .i64 v]) .nil:=by
 have hr:(l.map fun r=>[ints r])[v]?=some [ints l[v]]:=by simp[hv]
 have hg:l.getD v []=l[v]:=by simp[bLP,hv]
 have hrl:(l[v]).length≤16777216:=by
  have h1:=tL l (v+1)
  have:=hl.all
  rw[oX l hv,bLC] at h1
  omega
 unfold kC
 rw[hg]
 simp only[go_sem,δ,DI,avG]
 refine aN fun o ho=>?_
 simp only[go_sem]
 refine bM .nil (toS f) PH.nil_le ?_
 generalize l[v]=row at *
 have fin:∀ (x:fE) (F:PF) (H:PH),F 6=some (.ptr o 3 0 0)→F 7=some (.bool true)→H o=some (.rows 3 [x.cells])→aS FM.res (bQ (shV (some x))) .ret F H:=by
  intro x F H h6 h7 hH
  refine aV (.inr rfl) .nil (vs:=[.agg x.cells,.bool true]) ?_ PH.nil_le ⟨.refl _,rfl⟩
  simp only[go_sem,δ,FM,h6,h7,hH]
 simp only[go_sem,δ,γ,avH,hr,bKY]
 refine bE (bpM f v) (L.frag f v hV hvf) rfl PH.nil_le ?_
 by_cases c:((row.length:Nat):Int)=eZ f v
 ·rw[if_pos c]
  simp only[go_sem,γ,cA c,avJ,hr,bKY]
  refine wp_loop (α:=Nat) (fun k=>bpP f o v row k) (fun k=>PH.nil.set o (.rows 3 [[.int .i64 0,.int .i64 0,.int .i64 0]])) (fun k=>k≤row.length∧eI (jA f) row 0=eI (jA f) (row.drop k) k) (fun k=>row.length-k) 0 ⟨bLE _,rfl⟩ ?_ PH.le_refl ?_
  ·unfold bpP
   (repeat' (first|exact PF.nil_le|refine PF.aG ?_ ?_))<;>first|(simp only[go_sem,γ,bKY]<;>rfl)|rfl
  rintro k ⟨hk,hb⟩
  simp only[go_sem,γ,avF,avK,bpP]
  by_cases hlt:k<row.length
  ·have bJA:(k:Int)<(row.length:Nat):=by omega
   have hrk:(row.map fun n=>[PV.int .i64 n])[k]?=some [.int .i64 row[k]]:=by simp[hlt]
   have hdr:eI (jA f) (row.drop k) k=if jA f row[k] then some k else eI (jA f) (row.drop (k+1)) (k+1):=by
    rw[bMU hlt,eI]
   rw[hdr] at hb
   by_cases c1:row[k] < -1
   ·have hbd:jA f row[k]=true:=by simp[jA,c1]
    rw[hbd] at hb
    simp only[go_sem,ο,δ,γ,θ,bJA,AQ,hrk,AR,c1,QN]
    rw[hb]
    exact fin ⟨1,v,k⟩ _ _ rfl rfl Sq
   ·by_cases c2:row[k]≥(f.bIS.length:Nat)
    ·have hbd:jA f row[k]=true:=by simp[jA,c2]
     rw[hbd] at hb
     simp only[go_sem,ο,δ,γ,θ,reduceCtorEq,bJA,AQ,hrk,AR,c1,bKY,c2,QN]
     rw[hb]
     exact fin ⟨1,v,k⟩ _ _ rfl rfl Sq
    ·have hbd:jA f row[k]=false:=by simp[jA]; omega
     rw[hbd] at hb
     simp only[go_sem,ο,δ,γ,θ,reduceCtorEq,bJA,AQ,hrk,AR,c1,bKY,c2,avL,ws k]
     refine aE (k+1) ⟨hlt,hb⟩ Om ?_ PH.le_refl
     exact Lq
  ·have bJA:¬ (k:Int)<(row.length:Nat):=by omega
   have:k=row.length:=by omega
   subst this
   rw[List.drop_length,eI] at hb
   simp only[go_sem,δ,γ,bJA,aiC]
   rw[hb]
   refine aV (.inr rfl) .nil (vs:=[.agg [.int .i64 0,.int .i64 0,.int .i64 0],.bool false]) ?_ PH.nil_le ⟨.refl _,rfl⟩
   simp only[go_sem,δ,γ,FM]
 ·rw[if_neg c]
  simp only[go_sem,δ,γ,θ,cV c,avI,hr,bKY]
  exact fin ⟨1,v,(row.length:Nat)⟩ _ _ rfl rfl Sq
structure aBX (C:Ctx):Prop extends abT C where
 shape:∀ (f:aD) (l:List (List Int)) (v:Nat),VF f→fC l→v<l.length→v<f.bIV.length→aH C 160 [.agg f.cells,lay l,.int .i64 v] .nil (aF (shV (kC f l v)))
def oF (f:aD) (l:List (List Int)):Bool:=cX f&&decide (l.length=f.bIV.length)&&(bKZ l.length).all fun v=>(kC f l v).isNone
def tSF (f:aD) (l:List (List Int)) (k:Nat):PF:=((((PF.nil.set 1 (lay l)).set 2 (.bJC f.cells)).set 20 (.int .i64 (l.length:Nat))).set 21 (.int .i64 k))
theorem bbA {C:Ctx} (L:aBX C) (f:aD) (hf:f.Ok) (l:List (List Int)) (hl:fC l) :
  zE.wp C (aS TF.res (bQ (.bool (oF f l)))) (PF.args [.agg f.cells,lay l]) .nil:=by
 simp only[go_sem,δ,γ,zE,ahB,ahC,TF]
 refine aA (L.valid f hf) rfl ?_
 unfold oF
 have hlr:=hl.rows
 cases hv:cX f with
 | false =>
  simp only[go_sem,γ,bLK,JR]
  exact aZ rfl (by simp only[bLI])
 | true =>
  have hV:=VF.of hv
  by_cases c:l.length=f.bIV.length
  ·have c':(((l.length:Nat):Int) != ((f.bIV.length:Nat):Int))=false:=cA Om
   rw[decide_eq_true c]
   simp only[go_sem,γ,reduceCtorEq,bLB,bKY,c',ahD]
   generalize hq:(fun v=>(kC f l v).isNone)=q
   refine wp_loop (α:=Nat) (fun k=>tSF f l k) (fun _=>.nil) (fun k=>k≤l.length∧oJ q k) (fun k=>l.length-k) 0 ⟨bLE _,.zero⟩ ?_ PH.nil_le ?_
   ·unfold tSF
    (repeat' (first|exact PF.nil_le|refine PF.aG ?_ ?_))<;>first|(simp only[go_sem,γ,bKY]<;>rfl)|rfl
   rintro k ⟨hk,ha⟩
   simp only[go_sem,γ,VV,ahE,tSF]
   by_cases hlt:k<l.length
   ·have bJA:(k:Int)<(l.length:Nat):=by omega
    have hqk:q k=(kC f l k).isNone:=by rw[← hq]
    simp only[go_sem,δ,γ,bJA,ahF,ahG]
    refine aA (L.shape f l k hV hl hlt Om) rfl ?_
    cases hs:kC f l k with
    | some x =>
     rw[hs] at hqk
     simp only[go_sem,δ,γ,shV]
     refine aN fun o ho=>?_
     simp only[go_sem,δ,γ,JS,ahH]
     exact aZ (b:=false) rfl (by rw[show (bKZ l.length).all q=false from dO hlt hqk])
    | none =>
     rw[hs] at hqk
     simp only[go_sem,δ,γ,shV]
     refine aN fun o ho=>?_
     simp only[go_sem,δ,γ,JS,ahI,ws k]
     refine aE (k+1) ⟨hlt,ha.step hqk⟩ Om ?_ PH.nil_le
     exact Lq
   ·have bJA:¬ (k:Int)<(l.length:Nat):=by omega
    have:k=l.length:=by omega
    subst this
    simp only[go_sem,bJA,VW]
    exact aZ (b:=true) rfl (by rw[show (bKZ l.length).all q=true from ha])
  ·have c':(((l.length:Nat):Int) != ((f.bIV.length:Nat):Int))=true:=cV Om
   simp only[go_sem,γ,reduceCtorEq,bLB,bKY,c',JR]
   exact aZ rfl (by rw[decide_eq_false c]; simp only[bLI])
section
variable {C:Ctx} {F:PF} {H:PH}
theorem xE {name:Nat} {vs cs:List PV} {r:PV} {H0:PH} {args:List aP} {d:Option Nat} {K:PF→PH→Prop} (h:aH C name (vs++cs) H0 (fun r' H'=>r'=r∧H'=H0)) (ha:aP.evs F args=some vs) (hle:H0.le H)
  (hk:K (F.put d r) H):gS C name args cs d K F H:=by
 refine .inl ⟨vs++cs,H0,_,by rw[ha]; rfl,hle,h,?_⟩
 rintro r' H' ⟨rfl,rfl⟩ -
 rw[PH.over_self _ hle]
 exact hk
theorem aY.ne {s s':Nat} {v:PV} {rows:List (List PV)} {o:Nat} {y:List (List PV)} (h:aY H s v rows) (ho:H o=some (.rows s' y)) (hs:s≠s'):∀ l,v≠.osl o s 0 l:=by
 intro l e
 rcases h with ⟨_,h2⟩ | ⟨q,rs,h1,h2,_⟩
 ·rw[h2] at e; cases e
 ·rw[h1] at e
  injection e with e1
  subst e1
  rw[ho] at h2
  injection h2 with h2
  injection h2 with h2
  exact hs h2.symm
theorem aY.set {s s':Nat} {v:PV} {rows:List (List PV)} {o:Nat} {y:List (List PV)} {x:cD} (h:aY H s v rows) (ho:H o=some (.rows s' y)) (hs:s≠s'):aY (H.set o x) s v rows:=by
 have hne:=h.ne ho hs
 rcases h with ⟨h1,h2⟩ | ⟨q,rs,h1,h2,h3,h4⟩
 ·exact .inl ⟨h1,h2⟩
 ·refine .inr ⟨q,rs,h1,?_,h3,h4⟩
  have:q≠o:=by rintro rfl; exact hne _ h1
  simp only[bB,if_neg this,h2]
def Dis (s:Nat) (v u:PV):Prop:=∀ q l q' l',v=.osl q s 0 l→u=.osl q' s 0 l'→q≠q'
theorem Dis.nil {s:Nat}:Dis s .bIU .bIU:=fun _ _ _ _ h=>by cases h
theorem Dis.symm {s:Nat} {v u:PV} (h:Dis s v u):Dis s u v:=fun q l q' l' h1 h2=>(h q' l' q l h2 h1).symm
theorem lS {s b:Nat} {v u y:PV} {rows rows' src:List (List PV)} {K:PV→PH→Prop} (h:aY H s v rows) (h':aY H s u rows') (hd:Dis s v u) (hy:dY H s y=some src) (hr:roomFor rows.length src.length b)
  (hk:∀ v' H',aY H' s v' (rows++src)→aY H' s u rows'→Dis s v' u→(∀ o s' z,s≠s'→H o=some (.rows s' z)→H' o=some (.rows s' z))→K v' H'):nP H s b v y K:=by
 have other:∀ {H':PH} {t:PV} {r:List (List PV)},aY H s t r→(∀ o x,H o=some x→(∀ l,t=.osl o s 0 l→False)∨H' o=some x)→aY H' s t r:=by
  intro H' t r ht hp
  rcases ht with ⟨a,b⟩ | ⟨q,rs,a,b,c,d⟩
  ·exact .inl ⟨a,b⟩
  ·refine .inr ⟨q,rs,a,?_,c,d⟩
   rcases hp q _ b with e | e
   ·exact (e _ a).elim
   ·exact e
 have gone:∀ {o:Nat} {x:cD},H o=none→H o=some x→False:=fun a b=>by rw[a] at b; cases b
 have hud:∀ {o:Nat} {l:Nat},u=.osl o s 0 l→∃ x,H o=some x:=by
  intro o l e
  rcases h' with ⟨a,b⟩ | ⟨q,rs,a,b,c,d⟩
  ·rw[b] at e; cases e
  ·rw[a] at e; injection e with e; subst e; exact⟨_,b⟩
 rcases h with ⟨rfl,rfl⟩ | ⟨q,rs,rfl,h1,h2,h3⟩
 ·refine⟨src,hy,hr,fun e=>?_,fun e o ho=>?_⟩
  ·subst e
   exact hk _ _ (.inl ⟨rfl,rfl⟩) h' hd fun o s' z _ hz=>hz
  ·refine hk _ _ (.inr ⟨o,src,rfl,by simp only[bB,if_true],bLG _,by simp⟩) (other h' fun o' x hx=>.inr ?_) ?_ fun o' s' z _ hz=>?_
   ·have:o'≠o:=by rintro rfl; exact gone ho hx
    simp only[bB,if_neg this,hx]
   ·intro q l q' l' e1 e2
    injection e1 with e1
    subst e1
    rintro rfl
    obtain⟨x,hx⟩:=hud e2
    exact gone ho hx
   ·have:o'≠o:=by rintro rfl; exact gone ho hz
    simp only[bB,if_neg this,hz]
 ·have hlen:(rows++src).length=rows.length+src.length:=bLC
  refine⟨src,hy,rfl,rfl,hr,rs,h1,h2,?_,fun o ho=>?_⟩
  ·rw[h3]
   refine hk _ _ (.inr ⟨q,rows++src,by rw[hlen],by simp only[bB,if_true],bLG _,bLZ⟩) (other h' fun o' x hx=>?_) ?_ fun o' s' z hs hz=>?_
   ·by_cases e:o'=q
    ·exact .inl fun l el=>hd q _ o' l rfl el e.symm
    ·exact .inr (by simp only[bB,if_neg e,hx])
   ·intro q1 l q' l' e1 e2
    injection e1 with e1
    subst e1
    exact hd _ _ _ _ rfl e2
   ·have:o'≠q:=by
     rintro rfl
     rw[h1] at hz
     injection hz with hz
     injection hz with hz
     exact hs hz
    simp only[bB,if_neg this,hz]
  ·rw[h3]
   refine hk _ _ (.inr ⟨o,rows++src,by rw[hlen],by simp only[bB,if_true],bLG _,bLZ⟩) (other h' fun o' x hx=>?_) ?_ fun o' s' z hs hz=>?_
   ·by_cases e:o'=q
    ·exact .inl fun l el=>hd q _ o' l rfl el e.symm
    ·have e2:o'≠o:=by rintro rfl; exact gone ho hx
     exact .inr (by simp only[bB,if_neg e,if_neg e2,hx])
   ·intro q1 l q' l' e1 e2
    injection e1 with e1
    subst e1
    rintro rfl
    obtain⟨x,hx⟩:=hud e2
    exact gone ho hx
   ·have e1:o'≠q:=by
     rintro rfl
     rw[h1] at hz
     injection hz with hz
     injection hz with hz
     exact hs hz
    have e2:o'≠o:=by rintro rfl; exact gone ho hz
    simp only[bB,if_neg e1,if_neg e2,hz]
end
abbrev cP (l:List fE):List (List PV):=l.map fE.cells
def bO (kind v:Int) (n:Nat) (p:Nat→Bool):List fE:=((bKZ n).filter p).map fun (i:Nat)=>⟨kind,v,i⟩
theorem gG (kind v:Int) (n:Nat) (p:Nat→Bool):bO kind v (n+1) p=if p n then bO kind v n p++[⟨kind,v,n⟩] else bO kind v n p:=by
 unfold bO
 rw[List.range_succ,List.filter_append,bMW]
 by_cases h:p n
 ·rw[if_pos h]; simp[h]
 ·rw[if_neg h]; simp[h]
theorem dE (kind v:Int) (n:Nat) (p:Nat→Bool):(bO kind v n p).length≤n:=by
 unfold bO
 rw[bKY]
 exact bNE (List.length_filter_le _ _) (by simp)
theorem fK (l:List fE):(cP l).length=l.length:=by simp[cP]
theorem jL (l:List fE) (x:fE):cP l++[x.cells]=cP (l++[x]):=by simp[cP]
def aLM (o5:Nat) (v:Nat):PH:=PH.nil.set o5 (.rows 1 [[.int .i64 v]])
theorem biX {C:Ctx} (o5 v:Nat) (k w:Int):DK.wp C (aS aiE.res (fun r H'=>r=.agg [.int .i64 k,.int .i64 v,.int .i64 w]∧H'=aLM o5 v)) (PF.args [.int .i64 k,.int .i64 w,.ptr o5 1 0 0]) (aLM o5 v):=by
 simp only[go_sem,δ,DK,avY,aLM]
 refine aN fun o ho=>?_
 have hne:o5≠o:=by rintro rfl; simp only[bB,if_true] at ho; cases ho
 simp only[go_sem,δ,γ,θ,reduceCtorEq,avZ,hne]
 refine aV (.inr rfl) (PH.nil.set o5 (.rows 1 [[.int .i64 v]])) (vs:=[.agg [.int .i64 k,.int .i64 v,.int .i64 w]]) ?_ (PH.aG PH.nil_le ?_) ⟨rfl,rfl⟩
 ·simp only[go_sem,δ,γ,aiE]
 ·simp only[go_sem,hne]
def jV (f:aD) (i:Nat) (d:Int):Bool:=decide (0≤d)&&decide (eP f d.toNat (lvl f i)=i)
def nI (f:aD) (xs:List Int) (i:Nat):Int:=if i=0 then 0 else ((xs.countP (jV f i):Nat):Int)
def eA (f:aD) (xs:List Int):List Int:=(bKZ f.bIW.length).map (nI f xs)
def qR (f:aD) (xs:List Int) (d:Nat) (k:Nat):List Int:=(bKZ f.bIW.length).map fun i=>if 4-(k:Int)<lvl f i then nI f (xs++[(d:Int)]) i else nI f xs i
theorem uY (f:aD) (xs:List Int):(eA f xs).length=f.bIW.length:=by simp[eA]
theorem VF.pA {f:aD} (h:VF f) {i:Nat} (hi:i<f.bIW.length):0≤lvl f i∧lvl f i≤4∧(lvl f i=0↔i=0):=by
 rcases bNA i with e | e
 ·subst e; rw[h.root.2.1]; simp
 ·have:=h.dom i e hi
  omega
theorem bcY {f:aD} (h:VF f) (xs:List Int) (d:Nat):qR f xs d 0=eA f xs:=by
 refine bNW (by simp[qR,eA]) fun i h1 h2=>?_
 simp only[qR,eA,bMN,List.getElem_range]
 have hi:i<f.bIW.length:=by simpa [eA] using h2
 have:=h.pA hi
 rw[if_neg Om]
theorem bcX {f:aD} (h:VF f) (xs:List Int) (d:Nat):qR f xs d 4=eA f (xs++[(d:Int)]):=by
 refine bNW (by simp[qR,eA]) fun i h1 h2=>?_
 simp only[qR,eA,bMN,List.getElem_range]
 have hi:i<f.bIW.length:=by simpa [eA] using h2
 have:=h.pA hi
 by_cases e:i=0
 ·subst e
  rw[if_neg Om]
  simp[nI]
 ·rw[if_pos Om]
theorem aoR (f:aD) (xs:List Int) (d:Nat) {i:Nat} (hi:i≠0):nI f (xs++[(d:Int)]) i=nI f xs i+if eP f d (lvl f i)=i then 1 else 0:=by
 unfold nI
 rw[if_neg hi,if_neg hi,List.countP_append]
 by_cases h:eP f d (lvl f i)=i
 ·rw[if_pos h]; simp[jV,h]
 ·rw[if_neg h]; simp[jV,h]
theorem bsC {f:aD} (h:VF f) (xs:List Int) {d:Nat} (hd:d<f.bIS.length) {k:Nat} (hk:k<4) :
  (qR f xs d k)[upN f k (fF f d)]?=some (nI f xs (upN f k (fF f d))) ∧
  (qR f xs d k).set (upN f k (fF f d)) (nI f xs (upN f k (fF f d))+1)=qR f xs d (k+1):=by
 obtain⟨u1,u2⟩:=RJ h hd (k:=k) Om
 constructor
 ·simp only[qR,bMH,List.getElem?_range u1,bME]
  rw[if_neg Om]
 ·refine bNW (by simp[qR]) fun i h1 h2=>?_
  have hi:i<f.bIW.length:=by simpa [qR] using h2
  simp only[qR,List.getElem_set,bMN,List.getElem_range]
  have hr:=h.pA hi
  by_cases e:upN f k (fF f d)=i
  ·rw[if_pos e]
   subst e
   rw[if_pos Om]
   have hne:upN f k (fF f d)≠0:=by intro e; rw[e,h.root.2.1] at u2; omega
   rw[aoR f xs d hne,eP,u2]
   have:4-(4-(k:Int)).toNat=k:=by omega
   rw[this,if_pos rfl]
  ·rw[if_neg e]
   by_cases c:4-(k:Int)<lvl f i
   ·rw[if_pos c,if_pos Om]
   ·rw[if_neg c]
    by_cases c2:4-((k+1:Nat):Int)<lvl f i
    ·rw[if_pos c2]
     have hl:lvl f i=4-(k:Int):=by omega
     have hne:i≠0:=by intro e; subst e; rw[h.root.2.1] at hl; omega
     rw[aoR f xs d hne,eP,hl]
     have:4-(4-(k:Int)).toNat=k:=by omega
     rw[this,if_neg e]; simp
    ·rw[if_neg c2]
theorem bsB (f:aD) (xs:List Int) (i:Nat):0≤nI f xs i∧nI f xs i≤xs.length:=by
 unfold nI
 have:=List.countP_le_length (p:=jV f i) (l:=xs)
 split<;>omega
structure EP (C:Ctx):Prop extends aBX C where
 bad:∀ (o5 v:Nat) (k w:Int),aH C 159 [.int .i64 k,.int .i64 w,.ptr o5 1 0 0] (aLM o5 v) (fun r H'=>r=.agg [.int .i64 k,.int .i64 v,.int .i64 w]∧H'=aLM o5 v)
structure Obs where
 o5:Nat
 o7:Nat
 o8:Nat
 oD:Nat
 oB:Nat
structure Obs.Ne (o:Obs):Prop where
 a1:o.o5≠o.oD
 a2:o.o5≠o.oB
 a3:o.o7≠o.oD
 a4:o.o7≠o.oB
 a5:o.o8≠o.oD
 a6:o.o8≠o.oB
 a7:o.oD≠o.oB
structure kF (H:PH) (o:Obs) (v:Nat) (p:cJ) (A:List Bool) (D B:List Int):Prop where
 h5:H o.o5=some (.rows 1 [[.int .i64 v]])
 h7:H o.o7=some (.rows 17 [p.cells])
 h8:H o.o8=some (.rows 1 (eQ A))
 hD:H o.oD=some (.rows 1 (dA D))
 hB:H o.oB=some (.rows 1 (dA B))
theorem kF.keep {H H':PH} {o:Obs} {v:Nat} {p:cJ} {A:List Bool} {D B:List Int} (h:kF H o v p A D B) (hk:∀ q s' z,3≠s'→H q=some (.rows s' z)→H' q=some (.rows s' z)):kF H' o v p A D B :=
 ⟨hk _ _ _ (by decide) h.h5,hk _ _ _ (by decide) h.h7,hk _ _ _ (by decide) h.h8,hk _ _ _ (by decide) h.hD,hk _ _ _ (by decide) h.hB⟩
theorem kF.bGN {H:PH} {o:Obs} {v:Nat} {p:cJ} {A:List Bool} {D B:List Int} (h:kF H o v p A D B) (hn:o.Ne) (B':List Int):kF (H.set o.oB (.rows 1 (dA B'))) o v p A D B' :=
 ⟨by simp only[bB,if_neg hn.a2,h.h5],by simp only[bB,if_neg hn.a4,h.h7],by simp only[bB,if_neg hn.a6,h.h8],by simp only[bB,if_neg hn.a7,h.hD],by simp only[bB,if_true]⟩
theorem kF.bGO {H:PH} {o:Obs} {v:Nat} {p:cJ} {A:List Bool} {D B:List Int} (h:kF H o v p A D B) (hn:o.Ne) (D':List Int):kF (H.set o.oD (.rows 1 (dA D'))) o v p A D' B :=
 ⟨by simp only[bB,if_neg hn.a1,h.h5],by simp only[bB,if_neg hn.a3,h.h7],by simp only[bB,if_neg hn.a5,h.h8],by simp only[bB,if_true],by simp only[bB,if_neg (Ne.symm hn.a7),h.hB]⟩
def kT (f:aD) (o:Obs) (v12 v13:PV) (row:List Int) (k:Nat):PF :=
 ((((((((((((PF.nil.set 3 (.bJC f.cells)).set 5 (.ptr o.o5 1 0 0)).set 7 (.ptr o.o7 17 0 0)).set 8 (.osl o.o8 1 0 f.bIT.length)).set 11 (.fn 159 [.ptr o.o5 1 0 0])).set 12 (v12)).set 13 (v13)).set 14 (.osl o.oD 1 0 f.bIS.length)).set 15 (.osl o.oB 1 0 f.bIW.length)).set 62 (ints row)).set 63 (.int .i64 (row.length:Nat))).set 64 (.int .i64 k))
def baM (f:aD) (o:Obs) (v12 v13:PV) (row:List Int) (k:Nat) (at_:Nat):PF :=
 (((((((((((((PF.nil.set 3 (.bJC f.cells)).set 5 (.ptr o.o5 1 0 0)).set 7 (.ptr o.o7 17 0 0)).set 8 (.osl o.o8 1 0 f.bIT.length)).set 11 (.fn 159 [.ptr o.o5 1 0 0])).set 12 (v12)).set 13 (v13)).set 14 (.osl o.oD 1 0 f.bIS.length)).set 15 (.osl o.oB 1 0 f.bIW.length)).set 62 (ints row)).set 63 (.int .i64 (row.length:Nat))).set 64 (.int .i64 k)).set 18 (.int .i64 at_))
theorem byU {C:Ctx} (f:aD) (hV:VF f) (o:Obs) (hn:o.Ne) (v:Nat) (p:cJ) (A:List Bool) (D:List Int) (v12 v13:PV) (R12 R13:List (List PV)) (row:List Int) (k:Nat) (xs:List Int) (hxs:xs.length≤16777216) (d:Nat) (hd:d<f.bIS.length) (K:bY) (F:PF) (H:PH)
  (hF:(baM f o v12 v13 row k (fF f d)).le F) (hH:kF H o v p A D (eA f xs)) (h12:aY H 3 v12 R12) (h13:aY H 3 v13 R13)
  (hK:∀ F' H',(kT f o v12 v13 row k).le F'→kF H' o v p A D (eA f (xs++[(d:Int)]))→aY H' 3 v12 R12→aY H' 3 v13 R13→K .normal F' H') :
  aB.wp C (.block 4 (.loop AS)) K F H:=by
 simp only[go_sem]
 refine wp_loop (α:=Nat × PH) (fun t=>baM f o v12 v13 row k (upN f t.1 (fF f d))) (fun t=>t.2) (fun t=>t.1≤4∧kF t.2 o v p A D (qR f xs d t.1)∧aY t.2 3 v12 R12∧aY t.2 3 v13 R13) (fun t=>4-t.1) (0,H) ⟨bLE _,by rw[bcY hV]; exact hH,h12,h13⟩ (by rw[upN]; exact hF) PH.le_refl ?_
 rintro⟨j,H0⟩ ⟨hj,hR,g12,g13⟩
 simp only at hj hR g12 g13 ⊢
 obtain⟨u1,u2⟩:=RJ hV hd (k:=j) hj
 simp only[go_sem,γ,AS,awF,baM]
 by_cases hlt:j<4
 ·have hne:0<upN f j (fF f d):=by
   rcases bNA (upN f j (fF f d)) with e | e
   ·rw[e,hV.root.2.1] at u2; omega
   ·exact e
  have hc:((upN f j (fF f d):Nat):Int)>0:=by omega
  obtain⟨b1,b2⟩:=bsC hV xs hd hlt
  have hat:(dA (qR f xs d j))[upN f j (fF f d)]?=some [.int .i64 (nI f xs (upN f j (fF f d)))]:=by
   unfold dA; rw[bMH,b1]; rfl
  have hdl:=bsB f xs (upN f j (fF f d))
  have hw:IntKind.i64.wrap (nI f xs (upN f j (fF f d))+1)=nI f xs (upN f j (fF f d))+1:=wrap_i64 Om Om
  have hlN:((upN f j (fF f d):Nat):Int)<(f.bIW.length:Nat):=by omega
  simp only[go_sem,δ,γ,θ,hc,awG,hlN,bLX,hR.hB,hat,hw,oZ,b2,awH,eR u1,yX u1,hV.anS hne u1]
  refine aE (j+1,_) ⟨hlt,hR.bGN hn _,g12.set hR.hB (by decide),g13.set hR.hB (by decide)⟩ (by simp only; omega) ?_ PH.le_refl
  (repeat' (first|exact PF.nil_le|refine PF.aG ?_ ?_))<;>first|(simp only[go_sem,γ,upN]<;>rfl)|rfl
 ·have:j=4:=by omega
  subst this
  have h0:upN f 4 (fF f d)=0:=by
   have:=hV.pA u1
   omega
  have hc:¬ ((upN f 4 (fF f d):Nat):Int)>0:=by omega
  simp only[go_sem,ε,hc]
  rw[bcX hV] at hR
  refine hK _ _ ?_ hR g12 g13
  unfold kT
  exact Lq
structure uE (f:aD) (row:List Int):Prop where
 len:row.length≤16777216
 at_:∀ x∈row,-1≤x∧x<(f.bIS.length:Nat)
def home (row:List Int) (i:Nat):Bool:=decide (row.getD i 0<0)
def cU (f:aD) (p:cJ) (row:List Int) (i:Nat):Bool:=decide (0≤row.getD i 0)&&!p.bIT.contains ((mdl f (row.getD i 0).toNat:Nat):Int)
theorem bcW (f:aD) (xs:List Int) {x:Int} (h:x<0):eA f (xs++[x])=eA f xs:=by
 refine bNW (by simp[eA]) fun i h1 h2=>?_
 simp only[eA,bMN,List.getElem_range,nI,List.countP_append]
 have:jV f i x=false:=by simp[jV]; omega
 simp[this]
theorem boT {C:Ctx} (L:EP C) (f:aD) (hV:VF f) (o:Obs) (hn:o.Ne) (v:Nat) (p:cJ) (hp:∀ m∈p.bIT,0≤m∧m<f.bIT.length) (row:List Int) (hr:uE f row) (K:bY) (F:PF) (H:PH)
  (hF:(kT f o .bIU .bIU row 0).le F) (hH:kF H o v p (marks f.bIT.length p.bIT) (dU f.bIS.length []) (eA f []))
  (hK:∀ v12 v13 F' H',(kT f o v12 v13 row row.length).le F'→kF H' o v p (marks f.bIT.length p.bIT) (dU f.bIS.length row) (eA f row)→aY H' 3 v12 (cP (bO 2 v row.length (home row)))→aY H' 3 v13 (cP (bO 4 v row.length (cU f p row)))→Dis 3 v12 v13→K (.exit 2) F' H') :
  aB.wp C (.loop rO) K F H:=by
 obtain⟨hr1,hr2⟩:=hr
 refine wp_loop (α:=Nat × PV × PV × PH) (fun t=>kT f o t.2.1 t.2.2.1 row t.1) (fun t=>t.2.2.2)
  (fun t=>t.1≤row.length∧kF t.2.2.2 o v p (marks f.bIT.length p.bIT) (dU f.bIS.length (row.take t.1)) (eA f (row.take t.1))∧aY t.2.2.2 3 t.2.1 (cP (bO 2 v t.1 (home row)))∧aY t.2.2.2 3 t.2.2.1 (cP (bO 4 v t.1 (cU f p row)))∧Dis 3 t.2.1 t.2.2.1)
  (fun t=>row.length-t.1) (0,.bIU,.bIU,H) ⟨bLE _,by rw[List.take_zero]; exact hH,.nil,.nil,.nil⟩ hF PH.le_refl ?_
 rintro⟨k,v12,v13,H0⟩ ⟨hk,hR,h12,h13,hd⟩
 simp only at hk hR h12 h13 hd ⊢
 by_cases hlt:k<row.length
 ·have bJA:(k:Int)<(row.length:Nat):=by omega
  have hrk:(row.map fun n=>[PV.int .i64 n])[k]?=some [.int .i64 row[k]]:=by simp[hlt]
  have hg:row.getD k 0=row[k]:=by simp[bLP,hlt]
  have htk:row.take (k+1)=row.take k++[row[k]]:=bNC hlt
  have hx:=hr2 row[k] (bLF hlt)
  have e2:=gG 2 v k (home row)
  have e4:=gG 4 v k (cU f p row)
  have hh:home row k=decide (row[k]<0):=by rw[home,hg]
  have ha:cU f p row k=(decide (0≤row[k])&&!p.bIT.contains ((mdl f (row[k]).toNat:Nat):Int)):=by rw[cU,hg]
  have l2:=dE 2 v k (home row)
  have l4:=dE 4 v k (cU f p row)
  have fin:∀ v12' v13' (F:PF) (H1:PH),(kT f o v12' v13' row (k+1)).le F→kF H1 o v p (marks f.bIT.length p.bIT) (dU f.bIS.length (row.take (k+1))) (eA f (row.take (k+1)))→aY H1 3 v12' (cP (bO 2 v (k+1) (home row)))→aY H1 3 v13' (cP (bO 4 v (k+1) (cU f p row)))→Dis 3 v12' v13' →
    dV (fun (t:Nat × PV × PV × PH)=>kT f o t.2.1 t.2.2.1 row t.1) (fun t=>t.2.2.2)
     (fun t=>t.1≤row.length∧kF t.2.2.2 o v p (marks f.bIT.length p.bIT) (dU f.bIS.length (row.take t.1)) (eA f (row.take t.1))∧aY t.2.2.2 3 t.2.1 (cP (bO 2 v t.1 (home row)))∧aY t.2.2.2 3 t.2.2.1 (cP (bO 4 v t.1 (cU f p row)))∧Dis 3 t.2.1 t.2.2.1)
     (fun t=>row.length-t.1) (row.length-k) K .normal F H1 :=
   fun v12' v13' F H1 hF hR h1 h2 h3=>aE (α:=Nat × PV × PV × PH) (k+1,v12',v13',H1) ⟨hlt,hR,h1,h2,h3⟩ (by simp only; omega) hF PH.le_refl
  generalize hxe:row[k]=x at *
  by_cases c:x<0
  ·have o1:=yF (n:=f.bIS.length) (row.take k) (x:=x) Om
   have o2:=bcW f (row.take k) c
   rw[htk,o1,o2] at fin
   rw[if_pos (by rw[hh]; simp[c])] at e2
   rw[if_neg (by rw[ha]; simp; omega)] at e4
   rw[e2,e4] at fin
   simp only[go_sem,γ,rO,vM,kT,bJA,AU,hrk,AV,c,awD]
   refine⟨159,[.ptr o.o5 1 0 0],rfl,?_⟩
   refine xE (vs:=[.int .i64 2,.int .i64 k]) (L.bad o.o5 v 2 k) rfl (PH.aG PH.nil_le hR.h5) ?_
   have bKM:(1:Nat)*3≤16777216:=by decide
   simp only[go_sem,υ,δ,γ,η,ζ,bKM]
   refine lS (src:=[(⟨2,v,k⟩:fE).cells]) h12 h13 hd rfl (by unfold roomFor; rw[fK]; simp only[bLH,maxLen]; omega) fun v' H' g1 g2 g3 g4=>?_
   rw[jL] at g1
   unfold kT at fin
   simp only[go_sem,γ,AW,ws k]
   exact fin v' v13 _ H' Lq (hR.keep g4) g1 g2 g3
  ·obtain⟨d,rfl⟩:∃ d:Nat,x=d:=⟨x.toNat,by omega⟩
   have hdl:d<f.bIS.length:=by omega
   have hdl':(d:Int)<(f.bIS.length:Nat):=by omega
   obtain⟨w1,w2,w3,w4,w5⟩:=hV.drive d hdl
   have c0:(0:Int)≤(d:Int):=by omega
   rw[if_neg (by rw[hh]; simp)] at e2
   rw[decide_eq_true c0,bLN,bNU] at ha
   have hcnt:(row.take k).count (d:Int)≤16777216:=bNE (List.count_le_length ..) (by rw[bLR]; omega)
   have hw:IntKind.i64.wrap ((((row.take k).count (d:Int):Nat):Int)+1)=(((row.take k).count (d:Int):Nat):Int)+1:=wrap_i64 Om Om
   have hcat:=tT (l:=dU f.bIS.length (row.take k)) (i:=d) (by rw[fR]; exact hdl)
   rw[SE _ hdl] at hcat
   have hcin:=alZ (row.take k) hdl
   have hxl:(row.take k).length≤16777216:=by rw[bLR]; omega
   rw[e2,htk] at fin
   have tail:∀ v13' (F:PF) (H1:PH),(kT f o v12 v13' row k).le F→F 17=some (.int .i64 d)→kF H1 o v p (marks f.bIT.length p.bIT) (dU f.bIS.length (row.take k)) (eA f (row.take k))→aY H1 3 v12 (cP (bO 2 v k (home row)))→aY H1 3 v13' (cP (bO 4 v (k+1) (cU f p row)))→Dis 3 v12 v13' →
     aB.wp C (.seq (.region QV) (.seq (.region QW) (.block 4 (.loop AS)))) (dP 3 (jC C (aB.wp C (.region AW)) (dV (fun (t:Nat × PV × PV × PH)=>kT f o t.2.1 t.2.2.1 row t.1) (fun t=>t.2.2.2)
     (fun t=>t.1≤row.length∧kF t.2.2.2 o v p (marks f.bIT.length p.bIT) (dU f.bIS.length (row.take t.1)) (eA f (row.take t.1))∧aY t.2.2.2 3 t.2.1 (cP (bO 2 v t.1 (home row)))∧aY t.2.2.2 3 t.2.2.1 (cP (bO 4 v t.1 (cU f p row)))∧Dis 3 t.2.1 t.2.2.1)
     (fun t=>row.length-t.1) (row.length-k) K))) F H1:=by
    intro v13' F H1 hF f17 hR1 g12 g13 gd
    have f3:F 3=some (.bJC f.cells):=hF 3 _ (by unfold kT; simp only[go_sem,γ])
    have f14:F 14=some (.osl o.oD 1 0 f.bIS.length):=hF 14 _ (by unfold kT; simp only[go_sem,γ])
    simp only[go_sem,δ,γ,θ,QV,f14,f17,hdl',bLX,hR1.hD,hcat,hw,oZ,hcin,QW,f3,kV hdl,hV.amR hdl]
    have up:=byU (C:=C) f hV o hn v p (marks f.bIT.length p.bIT) (dU f.bIS.length (row.take k++[(d:Int)])) v12 v13' (cP (bO 2 v k (home row))) (cP (bO 4 v (k+1) (cU f p row))) row k (row.take k) hxl d hdl
    simp only[aB.wp,go_sem] at up
    refine up _ _ _ ?_ (hR1.bGO hn _) (g12.set hR1.hD (by decide)) (g13.set hR1.hD (by decide)) ?_
    ·have g:=fun (q:Nat) u h=>hF q u h
     unfold kT at g
     unfold baM
     refine PF.aG (PF.aG (PF.aG (PF.aG (PF.aG (PF.aG (PF.aG (PF.aG (PF.aG (PF.aG (PF.aG (PF.aG (PF.aG PF.nil_le ?_) ?_) ?_) ?_) ?_) ?_) ?_) ?_) ?_) ?_) ?_) ?_) ?_
     ·simp only[go_sem,γ]; exact g 3 _ rfl
     ·simp only[go_sem,γ]; exact g 5 _ rfl
     ·simp only[go_sem,γ]; exact g 7 _ rfl
     ·simp only[go_sem,γ]; exact g 8 _ rfl
     ·simp only[go_sem,γ]; exact g 11 _ rfl
     ·simp only[go_sem,γ]; exact g 12 _ rfl
     ·simp only[go_sem,γ]; exact g 13 _ rfl
     ·simp only[go_sem,γ]; exact g 14 _ rfl
     ·simp only[go_sem,γ]; exact g 15 _ rfl
     ·simp only[go_sem,γ]; exact g 62 _ rfl
     ·simp only[go_sem,γ]; exact g 63 _ rfl
     ·simp only[go_sem,γ]; exact g 64 _ rfl
     ·simp only[go_sem,γ]
    ·intro F' H' hF' hR' g12' g13'
     have g:=fun (q:Nat) u h=>hF' q u h
     unfold kT at g
     have f64:F' 64=some (.int .i64 k):=g 64 _ rfl
     simp only[go_sem,AW,f64,ws k]
     refine fin v12 v13' _ H' ?_ hR' g12' g13' gd
     unfold kT
     refine PF.aG (PF.aG (PF.aG (PF.aG (PF.aG (PF.aG (PF.aG (PF.aG (PF.aG (PF.aG (PF.aG (PF.aG PF.nil_le ?_) ?_) ?_) ?_) ?_) ?_) ?_) ?_) ?_) ?_) ?_) ?_
     ·simp only[go_sem,γ]; exact g 3 _ rfl
     ·simp only[go_sem,γ]; exact g 5 _ rfl
     ·simp only[go_sem,γ]; exact g 7 _ rfl
     ·simp only[go_sem,γ]; exact g 8 _ rfl
     ·simp only[go_sem,γ]; exact g 11 _ rfl
     ·simp only[go_sem,γ]; exact g 12 _ rfl
     ·simp only[go_sem,γ]; exact g 13 _ rfl
     ·simp only[go_sem,γ]; exact g 14 _ rfl
     ·simp only[go_sem,γ]; exact g 15 _ rfl
     ·simp only[go_sem,γ]; exact g 62 _ rfl
     ·simp only[go_sem,γ]; exact g 63 _ rfl
     ·simp only[go_sem,γ]
   simp only[aB.wp,go_sem] at tail
   have hml:((mdl f d:Nat):Int)<(f.bIT.length:Nat):=by omega
   have hmk:(eQ (marks f.bIT.length p.bIT))[mdl f d]?=some [.bool (p.bIT.contains ((mdl f d:Nat):Int))]:=by
    have:=YF (n:=f.bIT.length) (l:=p.bIT) (m:=((mdl f d:Nat):Int)) Om hml
    rw[bNU] at this
    unfold eQ
    rw[bMH,this]; rfl
   cases hb:p.bIT.contains ((mdl f d:Nat):Int) with
   | true =>
    rw[hb] at hmk ha
    rw[if_neg (by rw[ha]; simp)] at e4
    rw[e4] at tail
    simp only[go_sem,δ,γ,θ,rO,vM,kT,bJA,AU,hrk,AV,c,QU,kV hdl,hV.EY hdl,hml,bLX,hR.h8,hmk,bLB]
    exact tail v13 _ H0 (by unfold kT; exact Lq) rfl hR h12 h13 hd
   | false =>
    rw[hb] at hmk ha
    rw[if_pos (by rw[ha]; simp)] at e4
    rw[e4] at tail
    simp only[go_sem,δ,γ,θ,rO,vM,kT,bJA,AU,hrk,AV,c,QU,kV hdl,hV.EY hdl,hml,bLX,hR.h8,hmk,bLK,awE]
    refine⟨159,[.ptr o.o5 1 0 0],rfl,?_⟩
    refine xE (vs:=[.int .i64 4,.int .i64 k]) (L.bad o.o5 v 4 k) rfl (PH.aG PH.nil_le hR.h5) ?_
    have bKM:(1:Nat)*3≤16777216:=by decide
    simp only[go_sem,υ,δ,γ,η,ζ,bKM]
    refine lS (src:=[(⟨4,v,k⟩:fE).cells]) h13 h12 hd.symm rfl (by unfold roomFor; rw[fK]; simp only[bLH,maxLen]; omega) fun v' H' g1 g2 g3 g4=>?_
    rw[jL] at g1
    exact tail v' _ H' (by unfold kT; exact Lq) rfl (hR.keep g4) g2 g1 g3.symm
 ·have bJA:¬ (k:Int)<(row.length:Nat):=by omega
  have:k=row.length:=by omega
  subst this
  rw[bLZ] at hR
  simp only[go_sem,γ,rO,vM,kT,bJA]
  exact hK v12 v13 _ _ (by unfold kT; exact Lq) hR h12 h13 hd
def jQ (f:aD) (row:List Int) (d:Nat):Bool:=decide ((dU f.bIS.length row).getD d 0>1)
def dX (f:aD) (p:cJ) (i:Nat):Int:=p.spread (lvl f i).toNat
def kO (f:aD) (p:cJ) (row:List Int) (i:Nat):Bool:=decide (dX f p i>0)&&decide ((eA f row).getD i 0>dX f p i)
def tC (f:aD) (p:cJ) (v:Nat) (row:List Int):List fE :=
 bO 2 v row.length (home row)++bO 3 v f.bIS.length (jQ f row)++bO 4 v row.length (cU f p row)++bO 5 v f.bIW.length (kO f p row)
def JB (f:aD) (o:Obs) (v13 v19:PV) (k:Nat):PF :=
 ((((((((((PF.nil.set 3 (.bJC f.cells)).set 5 (.ptr o.o5 1 0 0)).set 7 (.ptr o.o7 17 0 0)).set 11 (.fn 159 [.ptr o.o5 1 0 0])).set 13 (v13)).set 15 (.osl o.oB 1 0 f.bIW.length)).set 19 (v19)).set 121 (.osl o.oD 1 0 f.bIS.length)).set 122 (.int .i64 (f.bIS.length:Nat))).set 123 (.int .i64 k))
def aAO (f:aD) (o:Obs) (v19:PV) (k:Nat):PF :=
 ((((((((PF.nil.set 3 (.bJC f.cells)).set 5 (.ptr o.o5 1 0 0)).set 7 (.ptr o.o7 17 0 0)).set 11 (.fn 159 [.ptr o.o5 1 0 0])).set 19 (v19)).set 140 (.osl o.oB 1 0 f.bIW.length)).set 141 (.int .i64 (f.bIW.length:Nat))).set 142 (.int .i64 k))
theorem bhC {C:Ctx} (L:EP C) (f:aD) (hV:VF f) (o:Obs) (v:Nat) (p:cJ) (A:List Bool) (B:List Int) (row:List Int) (l0:List fE) (hl0:l0.length≤16777216) (v13 v19:PV) (R13:List (List PV)) (K:bY) (F:PF) (H:PH)
  (hF:(JB f o v13 v19 0).le F) (hH:kF H o v p A (dU f.bIS.length row) B) (h19:aY H 3 v19 (cP l0)) (h13:aY H 3 v13 R13) (hd:Dis 3 v19 v13)
  (hK:∀ v' F' H',(JB f o v13 v' f.bIS.length).le F'→kF H' o v p A (dU f.bIS.length row) B→aY H' 3 v' (cP (l0++bO 3 v f.bIS.length (jQ f row)))→aY H' 3 v13 R13→Dis 3 v' v13→K (.exit 6) F' H') :
  aB.wp C (.loop QS) K F H:=by
 have hs:=hV.small.bIS
 refine wp_loop (α:=Nat × PV × PH) (fun t=>JB f o v13 t.2.1 t.1) (fun t=>t.2.2) (fun t=>t.1≤f.bIS.length∧kF t.2.2 o v p A (dU f.bIS.length row) B∧aY t.2.2 3 t.2.1 (cP (l0++bO 3 v t.1 (jQ f row)))∧aY t.2.2 3 v13 R13∧Dis 3 t.2.1 v13) (fun t=>f.bIS.length-t.1) (0,v19,H)
  ⟨bLE _,hH,by rw[show bO 3 v 0 (jQ f row)=[] from rfl,bMP]; exact h19,h13,hd⟩ hF PH.le_refl ?_
 rintro⟨k,v',H0⟩ ⟨hk,hR,g19,g13,gd⟩
 simp only at hk hR g19 g13 gd ⊢
 simp only[go_sem,γ,QS,awK,JB]
 by_cases hlt:k<f.bIS.length
 ·have bJA:(k:Int)<(f.bIS.length:Nat):=by omega
  have hat:=tT (l:=dU f.bIS.length row) (i:=k) (by rw[fR]; exact hlt)
  have hgk:(dU f.bIS.length row).getD k 0=(dU f.bIS.length row)[k]'(by rw[fR]; exact hlt):=by
   rw[bLP,bLL (by rw[fR]; exact hlt)]; rfl
  have e3:=gG 3 v k (jQ f row)
  have ht:jQ f row k=decide ((dU f.bIS.length row)[k]'(by rw[fR]; exact hlt)>1):=by rw[jQ,hgk]
  have hl3:=dE 3 v k (jQ f row)
  simp only[go_sem,γ,bJA,awL,bLX,hR.hD,hat,awM]
  by_cases c:(dU f.bIS.length row)[k]'(by rw[fR]; exact hlt)>1
  ·rw[if_pos (by rw[ht]; simp[c])] at e3
   simp only[go_sem,γ,c,awN]
   refine⟨159,[.ptr o.o5 1 0 0],rfl,?_⟩
   refine xE (vs:=[.int .i64 3,.int .i64 k]) (L.bad o.o5 v 3 k) rfl (PH.aG PH.nil_le hR.h5) ?_
   have bKM:(1:Nat)*3≤16777216:=by decide
   simp only[go_sem,υ,δ,γ,η,ζ,bKM]
   refine lS (src:=[(⟨3,v,k⟩:fE).cells]) g19 g13 gd rfl (by unfold roomFor; rw[fK,bLC]; simp only[bLH,maxLen]; omega) fun v' H' k1 k2 k3 k4=>?_
   rw[jL,bMA,← e3] at k1
   simp only[go_sem,γ,QX,ws k]
   refine aE (k+1,v',H') ⟨hlt,hR.keep k4,k1,k2,k3⟩ (by simp only; omega) ?_ PH.le_refl
   exact Lq
  ·rw[if_neg (by rw[ht]; simp; omega)] at e3
   rw[← e3] at g19
   simp only[go_sem,γ,c,QX,ws k]
   refine aE (k+1,v',H0) ⟨hlt,hR,g19,g13,gd⟩ (by simp only; omega) ?_ PH.le_refl
   exact Lq
 ·have bJA:¬ (k:Int)<(f.bIS.length:Nat):=by omega
  have:k=f.bIS.length:=by omega
  subst this
  simp only[go_sem,bJA]
  exact hK v' _ _ (by unfold JB; exact Lq) hR g19 g13 gd
theorem baN {C:Ctx} (f:aD) (hV:VF f) (o:Obs) (v:Nat) (p:cJ) (A:List Bool) (D B:List Int) (i:Nat) (hi:i<f.bIW.length) (K:PF→PH→Prop) (F:PF) (H:PH)
  (hH:kF H o v p A D B) (f3:F 3=some (.bJC f.cells)) (f7:F 7=some (.ptr o.o7 17 0 0)) (f22:F 22=some (.int .i64 i))
  (hK:∀ F':PF,F' 24=some (.int .i64 (dX f p i))→(∀ j,j<147→j≠24→F' j=F j)→K F' H):wpOps C QY K F H:=by
 obtain⟨l0,l4,-⟩:=hV.pA hi
 have h5:((lvl f i)<((5:Nat):Int)):=by omega
 unfold dX at hK
 simp only[go_sem,δ,γ,θ,QY,f3,f7,f22,eR hi,yS hi,l0,h5,Nat.mul_one]
 have hc:lvl f i=0∨lvl f i=1∨lvl f i=2∨lvl f i=3∨lvl f i=4:=by omega
 have fin:∀ (F':PF),F' 24=some (.int .i64 (p.spread (lvl f i).toNat))→(∀ j,j<147→j≠24→F' j=F j)→K F' H:=hK
 have low:∀ (j:Nat),j<147→j≠147∧j≠148∧j≠149∧j≠150∧j≠151∧j≠152∧j≠153∧j≠154∧j≠155:=by omega
 rcases hc with h | h | h | h | h
 all_goals
  rw[h] at fin ⊢
  simp only[go_sem,ν,δ,γ,θ,hH.h7]
  refine fin _ rfl fun j hj hj2=>?_
  obtain⟨n1,n2,n3,n4,n5,n6,n7,n8,n9⟩:=low j hj
  simp only[go_sem,hj2,n1,n2,n3,n4,n5,n6,n7,n8,n9]
theorem bhB {C:Ctx} (L:EP C) (f:aD) (hV:VF f) (o:Obs) (v:Nat) (p:cJ) (A:List Bool) (D:List Int) (row:List Int) (l0:List fE) (hl0:l0.length≤100000000) (v19:PV) (K:bY) (F:PF) (H:PH)
  (hF:(aAO f o v19 0).le F) (hH:kF H o v p A D (eA f row)) (h19:aY H 3 v19 (cP l0))
  (hK:∀ v' F' H',F' 19=some v'→aY H' 3 v' (cP (l0++bO 5 v f.bIW.length (kO f p row)))→K (.exit 8) F' H') :
  aB.wp C (.loop QT) K F H:=by
 have hs:=hV.small.bIW
 refine wp_loop (α:=Nat × PV × PH) (fun t=>aAO f o t.2.1 t.1) (fun t=>t.2.2) (fun t=>t.1≤f.bIW.length∧kF t.2.2 o v p A D (eA f row)∧aY t.2.2 3 t.2.1 (cP (l0++bO 5 v t.1 (kO f p row)))) (fun t=>f.bIW.length-t.1) (0,v19,H)
  ⟨bLE _,hH,by rw[show bO 5 v 0 (kO f p row)=[] from rfl,bMP]; exact h19⟩ hF PH.le_refl ?_
 rintro⟨k,v',H0⟩ ⟨hk,hR,g19⟩
 simp only at hk hR g19 ⊢
 simp only[go_sem,γ,QT,awQ,aAO]
 by_cases hlt:k<f.bIW.length
 ·have bJA:(k:Int)<(f.bIW.length:Nat):=by omega
  have hat:=tT (l:=eA f row) (i:=k) (by rw[uY]; exact hlt)
  have hgk:(eA f row).getD k 0=(eA f row)[k]'(by rw[uY]; exact hlt):=by
   rw[bLP,bLL (by rw[uY]; exact hlt)]; rfl
  have e5:=gG 5 v k (kO f p row)
  have hl5:=dE 5 v k (kO f p row)
  have ht:kO f p row k=(decide (dX f p k>0)&&decide ((eA f row)[k]'(by rw[uY]; exact hlt)>dX f p k)):=by rw[kO,hgk]
  generalize (eA f row)[k]'(by rw[uY]; exact hlt)=cnt at *
  simp only[go_sem,γ,bJA,awR,bLX,hR.hB,hat]
  refine baN f hV o v p A D (eA f row) k hlt _ _ _ hR rfl rfl rfl fun F' h24 hlow=>?_
  have g:=fun (q:Nat) (h1:q<147) (h2:q≠24)=>hlow q h1 h2
  have q3:=g 3 (by decide) (by decide)
  have q5:=g 5 (by decide) (by decide)
  have q7:=g 7 (by decide) (by decide)
  have q11:=g 11 (by decide) (by decide)
  have q19:=g 19 (by decide) (by decide)
  have boN:=g 140 (by decide) (by decide)
  have boO:=g 141 (by decide) (by decide)
  have anT:=g 142 (by decide) (by decide)
  have q22:=g 22 (by decide) (by decide)
  have q23:=g 23 (by decide) (by decide)
  simp only[go_sem,Nat.reduceEqDiff,reduceIte] at q3 q5 q7 q11 q19 boN boO anT q22 q23
  by_cases c1:dX f p k>0
  ·by_cases c2:cnt>dX f p k
   ·rw[if_pos (by rw[ht]; simp[c1,c2])] at e5
    simp only[go_sem,γ,AX,h24,q23,c1,c2,awS,q19,q11,q22]
    refine⟨159,[.ptr o.o5 1 0 0],rfl,?_⟩
    refine xE (vs:=[.int .i64 5,.int .i64 k]) (L.bad o.o5 v 5 k) rfl (PH.aG PH.nil_le hR.h5) ?_
    have bKM:(1:Nat)*3≤16777216:=by decide
    simp only[go_sem,υ,δ,γ,η,ζ,bKM]
    refine lS (rows':=[]) (u:=.bIU) (src:=[(⟨5,v,k⟩:fE).cells]) g19 .nil (fun _ _ _ _ _ h=>by cases h) rfl (by unfold roomFor; rw[fK,bLC]; simp only[bLH,maxLen]; omega) fun v' H' k1 k2 k3 k4=>?_
    rw[jL,bMA,← e5] at k1
    simp only[go_sem,γ,AY,anT,ws k]
    refine aE (k+1,v',H') ⟨hlt,hR.keep k4,k1⟩ (by simp only; omega) ?_ PH.le_refl
    exact Lq
   ·rw[if_neg (by rw[ht]; simp; omega)] at e5
    rw[← e5] at g19
    simp only[go_sem,γ,AX,h24,q23,c1,c2,AY,anT,ws k]
    refine aE (k+1,v',H0) ⟨hlt,hR,g19⟩ (by simp only; omega) ?_ PH.le_refl
    exact Lq
  ·rw[if_neg (by rw[ht]; simp; omega)] at e5
   rw[← e5] at g19
   simp only[go_sem,γ,reduceCtorEq,AX,h24,q23,c1,AY,anT,ws k]
   refine aE (k+1,v',H0) ⟨hlt,hR,g19⟩ (by simp only; omega) ?_ PH.le_refl
   exact Lq
 ·have bJA:¬ (k:Int)<(f.bIW.length:Nat):=by omega
  have:k=f.bIW.length:=by omega
  subst this
  simp only[go_sem,bJA]
  exact hK v' _ _ rfl g19
theorem aCJ (n:Nat):bLD n [PV.bool false]=eQ (marks n []):=by rw[aqS]; simp[eQ]
theorem bcJ (n:Nat):bLD n [PV.int .i64 0]=dA (dU n []):=by rw[WY,qF]
theorem bkF (f:aD):bLD f.bIW.length [PV.int .i64 0]=dA (eA f []):=by
 have:eA f []=bLD f.bIW.length 0:=by
  refine bNW (by simp[eA]) fun i h1 h2=>?_
  simp[eA,nI]
 rw[this,qF]
def baL (f:aD) (l:List (List Int)) (o5 o7 o8:Nat) (ms:List Int) (k:Nat):PF :=
 ((((((((PF.nil.set 1 (lay l)).set 3 (.bJC f.cells)).set 5 (.ptr o5 1 0 0)).set 7 (.ptr o7 17 0 0)).set 8 (.osl o8 1 0 f.bIT.length)).set 40 (ints ms)).set 41 (.int .i64 (ms.length:Nat))).set 42 (.int .i64 k))
theorem bpT {C:Ctx} (L:EP C) (f:aD) (hV:VF f) (bKJ:∀ p∈f.bIX,Fits p.bIT) (l:List (List Int)) (v:Nat) (hv:v<l.length) (hvf:v<f.bIV.length) (hr:uE f l[v]) :
  KB.wp C (aS bbE.res (bQ (mM (tC f (fU f v) v l[v])))) (PF.args [.agg f.cells,lay l,.int .i64 v]) .nil:=by
 obtain⟨hp,he⟩:=qV hV hvf
 have hpol:=hV.bJI _ (bLF hp)
 have hms:=bKJ _ (bLF hp)
 rw[he] at hpol hms
 generalize hpe:fU f v=p at *
 have hpm:=hpol.2.2.2.2.2.2.2
 have bJH:(l.map fun r=>[ints r])[v]?=some [ints l[v]]:=by simp[hv]
 generalize l[v]=row at *
 have hs:=hV.small
 have hb1:((f.bIT.length:Nat):Int)*((1:Nat):Int)≤140737488355328:=by have:=hs.bIT; omega
 have hb2:((f.bIT.length:Nat):Int)≤9223372036854775807:=by have:=hs.bIT; omega
 have hb3:((f.bIS.length:Nat):Int)*((8:Nat):Int)≤140737488355328:=by have:=hs.bIS; omega
 have hb4:((f.bIS.length:Nat):Int)≤9223372036854775807:=by have:=hs.bIS; omega
 have hb5:((f.bIW.length:Nat):Int)*((8:Nat):Int)≤140737488355328:=by have:=hs.bIW; omega
 have hb6:((f.bIW.length:Nat):Int)≤9223372036854775807:=by have:=hs.bIW; omega
 simp only[go_sem,γ,KB,aPG]
 refine aN fun o5 h5=>?_
 simp only[go_sem]
 refine bM (PH.nil.set o5 (.rows 1 [[.int .i64 v]])) dK (PH.aG PH.nil_le Sq) ?_
 simp only[go_sem,δ,γ,θ,reduceCtorEq,aPH,xC hvf,hV.afS hvf,qH hp,he]
 refine aN fun o7 h7=>?_
 have n57:o5≠o7:=by rintro rfl; simp only[bB,if_true] at h7; cases h7
 simp only[go_sem,δ,γ,n57]
 refine⟨PH.aG PH.nil_le (by simp only[go_sem,n57]),?_⟩
 simp only[go_sem,δ,γ,θ,aPI,bKY,hb1,hb2]
 refine aN fun o8 h8=>?_
 have n58:o5≠o8:=by rintro rfl; simp only[bB,n57,if_true,if_false] at h8; cases h8
 have n78:o7≠o8:=by rintro rfl; simp only[bB,if_true] at h8; cases h8
 simp only[go_sem,δ,γ,θ,aPJ,n78,bKY]
 rw[aCJ]
 refine wp_loop (α:=Nat) (fun k=>baL f l o5 o7 o8 p.bIT k) (fun k=>((PH.nil.set o5 (.rows 1 [[.int .i64 v]])).set o7 (.rows 17 [p.cells])).set o8 (.rows 1 (eQ (marks f.bIT.length (p.bIT.take k))))) (fun k=>k≤p.bIT.length) (fun k=>p.bIT.length-k) 0 (bLE _) ?_ ?_ ?_
 ·unfold baL
  (repeat' (first|exact PF.nil_le|refine PF.aG ?_ ?_))<;>first|(simp only[go_sem,γ,bKY]<;>rfl)|rfl
 ·refine PH.aG (PH.aG (PH.aG PH.nil_le ?_) ?_) ?_
  ·simp only[go_sem,n57,n58]
  ·simp only[go_sem,n78]
  ·simp only[go_sem,List.take_zero]
 intro k hk
 simp only[go_sem,γ,aPF,aPK,baL]
 by_cases hlt:k<p.bIT.length
 ·have bJA:(k:Int)<(p.bIT.length:Nat):=by omega
  have hmk:(p.bIT.map fun n=>[PV.int .i64 n])[k]?=some [.int .i64 p.bIT[k]]:=by simp[hlt]
  obtain⟨m1,m2⟩:=hpm _ (bLF hlt)
  have hbl:(p.bIT[k]).toNat<(eQ (marks f.bIT.length (p.bIT.take k))).length:=by rw[aoP,bfH]; omega
  have hbs:(eQ (marks f.bIT.length (p.bIT.take k)))[(p.bIT[k]).toNat]?=some [.bool ((p.bIT.take k).contains p.bIT[k])]:=by
   unfold eQ
   rw[bMH,YF m1 m2]; rfl
  simp only[go_sem,γ,bJA,aPL,hmk,aPM,m1,m2,bLX,hbs,kU,aqU m1 m2,aPN,ws k]
  refine aE (k+1) hlt Om ?_ ?_
  ·exact Lq
  ·rw[bNC hlt]
   refine PH.aG (PH.aG (PH.aG PH.nil_le ?_) ?_) ?_
   ·simp only[go_sem,n57,n58]
   ·simp only[go_sem,n78]
   ·simp only[go_sem]
 ·have bJA:¬ (k:Int)<(p.bIT.length:Nat):=by omega
  have:k=p.bIT.length:=by omega
  subst this
  simp only[go_sem,γ,bJA,aPO,awA,bLZ]
  refine bM .nil dK PH.nil_le ?_
  simp only[go_sem,δ,γ,θ,awB,bKY,hb3,hb4,hb5,hb6]
  refine aN fun oD hD=>?_
  have n5D:o5≠oD:=by rintro rfl; simp only[bB,n57,n58,if_true,if_false] at hD; cases hD
  have n7D:o7≠oD:=by rintro rfl; simp only[bB,n78,if_true,if_false] at hD; cases hD
  have n8D:o8≠oD:=by rintro rfl; simp only[bB,if_true] at hD; cases hD
  simp only[go_sem,δ,γ,θ,bKY,hb3,hb4,hb5,hb6]
  refine aN fun oB hB=>?_
  have n5B:o5≠oB:=by rintro rfl; simp only[bB,n57,n58,n5D,if_true,if_false] at hB; cases hB
  have n7B:o7≠oB:=by rintro rfl; simp only[bB,n78,n7D,if_true,if_false] at hB; cases hB
  have n8B:o8≠oB:=by rintro rfl; simp only[bB,n8D,if_true,if_false] at hB; cases hB
  have nDB:oD≠oB:=by rintro rfl; simp only[bB,if_true] at hB; cases hB
  rw[bcJ,bkF]
  simp only[go_sem,γ,awC,n57,n58,n5D,n5B,bJH,bKY]
  have hne:(⟨o5,o7,o8,oD,oB⟩:Obs).Ne:=⟨n5D,n5B,n7D,n7B,n8D,n8B,nDB⟩
  refine boT L f hV ⟨o5,o7,o8,oD,oB⟩ hne v p hpm row hr _ _ _ ?_ ⟨?_,?_,?_,?_,?_⟩ ?_
  ·unfold kT
   exact Lq
  ·simp only[go_sem,n57,n58,n5D,n5B]
  ·simp only[go_sem,n78,n7D,n7B]
  ·simp only[go_sem,n8D,n8B]
  ·simp only[go_sem,nDB]
  ·simp only[go_sem]
  intro v12 v13 F1 H1 hF1 hR1 g12 g13 gd
  have g:=fun (q:Nat) u h=>hF1 q u h
  unfold kT at g
  have q3:=g 3 _ rfl
  have q5:=g 5 _ rfl
  have q7:=g 7 _ rfl
  have q11:=g 11 _ rfl
  have q12:=g 12 _ rfl
  have q13:=g 13 _ rfl
  have q14:=g 14 _ rfl
  have q15:=g 15 _ rfl
  simp only[go_sem,γ,awI,q12,awJ,q14]
  have l2:=dE 2 v row.length (home row)
  have l3:=dE 3 v f.bIS.length (jQ f row)
  have l4:=dE 4 v row.length (cU f p row)
  have hr1:=hr.len
  have hd24:=hs.bIS
  refine bhC L f hV ⟨o5,o7,o8,oD,oB⟩ v p _ _ row (bO 2 v row.length (home row)) Om v13 v12 _ _ _ H1 ?_ hR1 g12 g13 gd ?_
  ·unfold JB
   exact Lq
  intro v19 F2 H2 hF2 hR2 g19 g13' gd2
  have g:=fun (q:Nat) u h=>hF2 q u h
  unfold JB at g
  have q3:=g 3 _ rfl
  have q5:=g 5 _ rfl
  have q7:=g 7 _ rfl
  have q11:=g 11 _ rfl
  have q13:=g 13 _ rfl
  have q15:=g 15 _ rfl
  have q19:=g 19 _ rfl
  simp only[go_sem,γ,awO,q19,q13]
  refine lS g19 g13' gd2 g13'.view (by unfold roomFor; rw[fK,fK,bLC]; simp only[maxLen]; omega) fun v19' H3 k1 k2 k3 k4=>?_
  simp only[go_sem,γ,awP,q15]
  have hvr:cP (bO 2 v row.length (home row)++bO 3 v f.bIS.length (jQ f row))++cP (bO 4 v row.length (cU f p row))=cP (bO 2 v row.length (home row)++bO 3 v f.bIS.length (jQ f row)++bO 4 v row.length (cU f p row)):=by
   simp only[cP,bMW]
  rw[hvr] at k1
  refine bhB L f hV ⟨o5,o7,o8,oD,oB⟩ v p _ _ row _ (by simp only[bLC]; omega) v19' _ _ H3 ?_ (hR2.keep k4) k1 ?_
  ·unfold aAO
   exact Lq
  intro v20 F4 H4 hF4 hO4
  simp only[go_sem,awT,hF4]
  exact kS (.inr rfl) hO4 rfl
structure aBY (C:Ctx):Prop extends EP C where
 row:∀ (f:aD) (l:List (List Int)) (v:Nat),VF f→(∀ p∈f.bIX,Fits p.bIT)→(h:v<l.length)→v<f.bIV.length→uE f l[v]→aH C 158 [.agg f.cells,lay l,.int .i64 v] .nil (aF (mM (tC f (fU f v) v l[v])))
def sS (f:aD) (l:List (List Int)) (v:Nat):List fE:=match kC f l v with
 | some x=>[x]
 | none=>tC f (fU f v) v (l.getD v [])
def oL (f:aD) (l:List (List Int)) (n:Nat):List fE:=(bKZ n).flatMap (sS f l)
def over (f:aD) (l:List (List Int)) (room:List Int) (d:Nat):Bool:=decide ((fH f l).getD d 0>(fX f room).getD d 0)
def brR (f:aD) (l:List (List Int)) (room:List Int):List fE:=oL f l l.length++bO 6 (-1) f.bIS.length (over f l room)
def jR (f:aD) (l:List (List Int)) (room:List Int):List fE :=
 if cX f then (if l.length=f.bIV.length then brR f l room else [⟨1,-1,(l.length:Nat)⟩]) else []
theorem vT {p:Int→Bool}:∀ {l:List Int} {i:Nat},eI p l i=none→∀ x∈l,p x=false
 | [],_,_,x,hx=>absurd hx (bLW)
 | y::t,i,h,x,hx=>by
  rw[eI] at h
  split at h
  ·cases h
  ·rename_i hy
   rcases bLO.1 hx with rfl | hx
   ·simpa using hy
   ·exact vT h x hx
theorem atG {f:aD} {l:List (List Int)} (hl:fC l) {v:Nat} (hv:v<l.length) (h:kC f l v=none):uE f l[v]:=by
 have hg:l.getD v []=l[v]:=by simp[bLP,hv]
 unfold kC at h
 rw[hg] at h
 split at h
 ·rw[Option.map_eq_none_iff] at h
  refine⟨?_,fun x hx=>?_⟩
  ·have h1:=tL l (v+1)
   have:=hl.all
   rw[oX l hv,bLC] at h1
   omega
  ·have:=vT h x hx
   simp[jA] at this
   omega
 ·cases h
theorem bbV (f:aD) (p:cJ) (v:Nat) (row:List Int):(tC f p v row).length≤2*row.length+f.bIS.length+f.bIW.length:=by
 unfold tC
 have l2:=dE 2 v row.length (home row)
 have l3:=dE 3 v f.bIS.length (jQ f row)
 have l4:=dE 4 v row.length (cU f p row)
 have l5:=dE 5 v f.bIW.length (kO f p row)
 simp only[bLC]
 omega
theorem ZM {f:aD} (hs:Small f) {l:List (List Int)} (hl:fC l) {v:Nat} (hv:v<l.length):(sS f l v).length≤100000000:=by
 unfold sS
 split
 ·simp
 ·rename_i h
  have hg:l.getD v []=l[v]:=by simp[bLP,hv]
  have:=bbV f (fU f v) v (l.getD v [])
  have h1:=(atG hl hv h).len
  have:=hs.bIS
  have:=hs.bIW
  rw[hg] at *
  omega
theorem GC (f:aD) (l:List (List Int)) (n:Nat):oL f l (n+1)=oL f l n++sS f l n:=by
 unfold oL
 rw[List.range_succ,List.flatMap_append]
 simp
theorem rE {f:aD} (hs:Small f) {l:List (List Int)} (hl:fC l):∀ {n:Nat},n≤l.length→(oL f l n).length≤n*100000000
 | 0,_=>by simp[oL]
 | n+1,h=>by
  rw[GC,bLC]
  have:=rE hs hl (n:=n) Om
  have:=ZM hs hl (v:=n) Om
  omega
def viF (f:aD) (l:List (List Int)) (room:List Int) (v7:PV) (k:Nat):PF:=((((((PF.nil.set 1 (lay l)).set 2 (ints room)).set 3 (.bJC f.cells)).set 7 (v7)).set 30 (.int .i64 (l.length:Nat))).set 31 (.int .i64 k))
def viG (f:aD) (l:List (List Int)) (room:List Int) (v7:PV) (k:Nat):PF:=(((((PF.nil.set 7 (v7)).set 11 (ints (fX f room))).set 58 (ints (fH f l))).set 59 (.int .i64 (f.bIS.length:Nat))).set 60 (.int .i64 k))
theorem bjT {C:Ctx} (f:aD) (hV:VF f) (l:List (List Int)) (room:List Int) (l0:List fE) (hl0:l0.length≤2000000000) (v7:PV) (K:bY) (F:PF) (H:PH)
  (hF:(viG f l room v7 0).le F) (hO:aY H 3 v7 (cP l0))
  (hK:∀ v' F' H',F' 7=some v'→aY H' 3 v' (cP (l0++bO 6 (-1) f.bIS.length (over f l room)))→K (.exit 3) F' H'):aB.wp C (.loop QO) K F H:=by
 have hs:=hV.small.bIS
 refine wp_loop (α:=Nat × PV × PH) (fun t=>viG f l room t.2.1 t.1) (fun t=>t.2.2) (fun t=>t.1≤f.bIS.length∧aY t.2.2 3 t.2.1 (cP (l0++bO 6 (-1) t.1 (over f l room)))) (fun t=>f.bIS.length-t.1) (0,v7,H)
  ⟨bLE _,by rw[show bO 6 (-1) 0 (over f l room)=[] from rfl,bMP]; exact hO⟩ hF PH.le_refl ?_
 rintro⟨k,v',H0⟩ ⟨hk,g7⟩
 simp only at hk g7 ⊢
 simp only[go_sem,ο,γ,QO,avT,viG]
 by_cases hlt:k<f.bIS.length
 ·have bJA:(k:Int)<(f.bIS.length:Nat):=by omega
  have hk1:k<(fH f l).length:=by rw[fH,fR]; exact hlt
  have hk2:k<(fX f room).length:=by rw[pE]; exact hlt
  have a1:((fH f l).map fun n=>[PV.int .i64 n])[k]?=some [.int .i64 (fH f l)[k]]:=by simp[hk1]
  have a2:((fX f room).map fun n=>[PV.int .i64 n])[k]?=some [.int .i64 (fX f room)[k]]:=by simp[hk2]
  have ho:over f l room k=decide ((fH f l)[k]>(fX f room)[k]):=by simp only[over,bLP,bLL hk1,bLL hk2,bNH]
  have e6:=gG 6 (-1) k (over f l room)
  have l6:=dE 6 (-1) k (over f l room)
  simp only[go_sem,ο,γ,bJA,avU,a1,avV,a2]
  by_cases c:(fH f l)[k]>(fX f room)[k]
  ·rw[if_pos (by rw[ho]; simp[c])] at e6
   have bKM:(1:Nat)*3≤16777216:=by decide
   simp only[go_sem,ο,υ,δ,γ,η,θ,ζ,c,avW,bKM]
   refine lS (rows':=[]) (u:=.bIU) (src:=[(⟨6,-1,k⟩:fE).cells]) g7 .nil (fun _ _ _ _ _ h=>by cases h) rfl (by unfold roomFor; rw[fK,bLC]; simp only[bLH,maxLen]; omega) fun v' H' k1 k2 k3 k4=>?_
   rw[jL,bMA,← e6] at k1
   simp only[go_sem,ο,γ,QR,ws k]
   refine aE (k+1,v',H') ⟨hlt,k1⟩ (by simp only; omega) ?_ PH.le_refl
   exact Lq
  ·rw[if_neg (by rw[ho]; simp; omega)] at e6
   rw[← e6] at g7
   simp only[go_sem,ο,γ,c,QR,ws k]
   refine aE (k+1,v',H0) ⟨hlt,g7⟩ (by simp only; omega) ?_ PH.le_refl
   exact Lq
 ·have bJA:¬ (k:Int)<(f.bIS.length:Nat):=by omega
  have:k=f.bIS.length:=by omega
  subst this
  simp only[go_sem,ο,bJA]
  exact hK v' _ _ rfl g7
theorem bpR {C:Ctx} (L:aBY C) (f:aD) (hf:f.Ok) (l:List (List Int)) (hl:fC l) (room:List Int) :
  JZ.wp C (aS aAT.res (bQ (mM (jR f l room)))) (PF.args [.agg f.cells,lay l,ints room]) .nil:=by
 simp only[go_sem,δ,γ,JZ,aOW,aOX,aAT]
 refine aA (L.valid f hf) rfl ?_
 unfold jR
 have hlr:=hl.rows
 have bKJ:∀ p∈f.bIX,Fits p.bIT:=fun p hp=>(hf.bJI p hp).bIT
 cases hv:cX f with
 | false =>
  simp only[go_sem,ο,γ,reduceCtorEq,bLK,aOY]
  exact kS (rows:=[]) (.inr rfl) .nil rfl
 | true =>
  have hV:=VF.of hv
  by_cases c:l.length=f.bIV.length
  ·have c':(((l.length:Nat):Int) != ((f.bIV.length:Nat):Int))=false:=cA Om
   rw[if_pos c]
   have hv12:=hV.small.bIV
   simp only[go_sem,γ,bLB,aaO,bKY,c',aPA,aPB]
   refine wp_loop (α:=Nat × PV × PH) (fun t=>viF f l room t.2.1 t.1) (fun t=>t.2.2) (fun t=>t.1≤l.length∧aY t.2.2 3 t.2.1 (cP (oL f l t.1))) (fun t=>l.length-t.1) (0,.bIU,.nil) ⟨bLE _,.nil⟩ ?_ PH.nil_le ?_
   ·unfold viF
    (repeat' (first|exact PF.nil_le|refine PF.aG ?_ ?_))<;>first|(simp only[go_sem,γ,bKY]<;>rfl)|rfl
   rintro⟨k,v7,H0⟩ ⟨hk,hO⟩
   simp only at hk hO ⊢
   simp only[go_sem,γ,avO,aPC,viF]
   by_cases hlt:k<l.length
   ·have bJA:(k:Int)<(l.length:Nat):=by omega
    have hfl:=rE hV.small hl (n:=k) Om
    have bJQ:=GC f l k
    simp only[go_sem,δ,γ,bJA,aPD,aPE]
    refine aA (L.shape f l k hV hl hlt Om) rfl ?_
    cases hsh:kC f l k with
    | some x =>
     have bKM:sS f l k=[x]:=by rw[sS,hsh]
     rw[bKM] at bJQ
     simp only[go_sem,δ,γ,shV]
     refine aN fun o ho=>?_
     have h13:(1:Nat)*3≤16777216:=by decide
     simp only[go_sem,υ,δ,γ,η,ζ,QP,avP,h13]
     refine lS (rows':=[]) (u:=.bIU) (src:=[x.cells]) (hO.fresh ho _).1 .nil (fun _ _ _ _ _ h=>by cases h) rfl (by unfold roomFor; rw[fK]; simp only[bLH,maxLen]; omega) fun v' H' k1 k2 k3 k4=>?_
     rw[jL,← bJQ] at k1
     simp only[go_sem,γ,QQ,ws k]
     refine aE (k+1,v',H') ⟨hlt,k1⟩ (by simp only; omega) ?_ PH.le_refl
     exact Lq
    | none =>
     have hg:l.getD k []=l[k]:=by simp[bLP,hlt]
     have bKM:sS f l k=tC f (fU f k) k l[k]:=by rw[sS,hsh,hg]
     have bJH:=atG hl hlt hsh
     have hlen:=ZM hV.small hl hlt
     rw[bKM] at bJQ hlen
     simp only[go_sem,δ,γ,shV]
     refine aN fun o ho=>?_
     simp only[go_sem,δ,γ,QP,avQ]
     refine aA (L.row f l k hV bKJ hlt Om bJH) rfl ?_
     simp only[go_sem,γ]
     refine lS (rows':=[]) (u:=.bIU) (src:=cP (tC f (fU f k) k l[k])) (hO.fresh ho _).1 .nil (fun _ _ _ _ _ h=>by cases h) rfl (by unfold roomFor; rw[fK,fK]; simp only[maxLen]; omega) fun v' H' k1 k2 k3 k4=>?_
     have hvr:cP (oL f l k)++cP (tC f (fU f k) k l[k])=cP (oL f l (k+1)):=by rw[bJQ]; simp only[cP,bMW]
     rw[hvr] at k1
     simp only[go_sem,γ,QQ,ws k]
     refine aE (k+1,v',H') ⟨hlt,k1⟩ (by simp only; omega) ?_ PH.le_refl
     exact Lq
   ·have bJA:¬ (k:Int)<(l.length:Nat):=by omega
    have:k=l.length:=by omega
    subst this
    have hfl:=rE hV.small hl (n:=l.length) (bLG _)
    have bKA:=L.room f room hf
    rw[mD,hv] at bKA
    have hloads:=L.loads f l hV.small.bIS hl
    simp only[go_sem,δ,γ,bJA,avR]
    refine aA bKA rfl ?_
    simp only[go_sem,δ,γ,avS]
    refine aA hloads rfl ?_
    have hll:(fH f l).length=f.bIS.length:=by rw[fH,fR]
    simp only[go_sem,γ,bKY,hll]
    refine bjT f hV l room (oL f l l.length) Om v7 _ _ H0 ?_ hO ?_
    ·unfold viG
     exact Lq
    intro v' F' H' h7 hO'
    simp only[go_sem,avX,h7]
    exact kS (.inr rfl) hO' rfl
  ·have c':(((l.length:Nat):Int) != ((f.bIV.length:Nat):Int))=true:=cV Om
   have h13:(1:Nat)*3≤16777216:=by decide
   rw[if_neg c]
   simp only[go_sem,ο,υ,δ,γ,η,θ,ζ,bLB,aaO,bKY,c',aOZ,h13]
   exact aV (.inr rfl) .nil rfl PH.nil_le ⟨.refl _,rfl⟩
structure brJ (C:Ctx):Prop extends aBY C where
 viol:∀ (f:aD) (l:List (List Int)) (room:List Int),f.Ok→fC l→aH C 154 [.agg f.cells,lay l,ints room] .nil (aF (mM (jR f l room)))
def oY (f:aD) (l:List (List Int)) (room:List Int):Bool:=cX f&&decide ((jR f l room).length=0)
theorem biK {C:Ctx} (L:brJ C) (f:aD) (hf:f.Ok) (l:List (List Int)) (hl:fC l) (room:List Int) :
  DG.wp C (aS ahW.res (bQ (.bool (oY f l room)))) (PF.args [.agg f.cells,lay l,ints room]) .nil:=by
 simp only[go_sem,δ,γ,DG,auT,auU,ahW]
 refine aA (L.valid f hf) rfl ?_
 unfold oY
 cases hv:cX f with
 | false =>
  simp only[go_sem,γ,reduceCtorEq]
  exact aZ rfl rfl
 | true =>
  simp only[go_sem,δ,γ]
  refine aA (L.viol f l room hf hl) rfl ?_
  by_cases c:(jR f l room).length=0
  ·simp only[go_sem,γ,bKY,bN (show (((jR f l room).length:Nat):Int)=0 by omega)]
   exact aZ rfl (by simp[c])
  ·simp only[go_sem,γ,bKY,bC (show (((jR f l room).length:Nat):Int)≠0 by omega)]
   exact aZ rfl (by rw[decide_eq_false c])
def aYX:Rg:=[iA 2 (.mv (.const (.lit (.pointer none))))]
def aYY:Rg:=[iM 3 0,iN 4 3,iC 5 .gtr 4 400]
def aYZ:Rg:=[iM 6 0,iA 7 (.slice 1 (Tm 6) none (some (Ci 400)) none),iM 0 7]
def amW:Rg:=[iM 8 0,iA 9 (.append 1 1 (.const .bIU) (Tm 8)),iA 10 (.build [.bIU,(.int .i64 0)] [(0,1,(Tm 9))]),iA 11 (.box false (Tm 10)),iM 2 11]
def OH:aB:=(sq aYX (.seq (sq aYY (.cond (Tm 5) (.region aYZ) .skip)) (sq amW .ret)))
def buL:List Nat:=[]
def a9E:aT:=⟨1,12,OH,[.tmp 2]⟩
def YU:Rg:=[iI 4 0]
def IF:Rd:=[(iM 5 0,false),(iA 6 (.bJJ (Tm 5)),false),(iF 7 1 6,false),(iL 8 7,false),(iM 9 0,false),(iA 10 (.bJJ (Tm 9)),false),(iF 11 0 10,false),(iL 12 11,false),(iN 13 12,false),(iB 14 .geq 8 13,false),(iM 15 14,false),(gM 16 1 15 false,false),(gC 17 .lss 16 2 15 false,false),(iQ 18 15 17,false)]
def YV:Rg:=[iI 4 0]
def aJD:Rg:=[iM 19 0,iA 20 (.bJJ (Tm 19)),iF 21 1 20,iL 22 21,iC 23 .add 22 1,iA 24 (.bJJ (Tm 19)),iF 25 1 24,iS 1 25 23]
def aJE:Rd:=[(iM 26 0,false),(iA 27 (.bJJ (Tm 26)),false),(iF 28 0 27,false),(iL 29 28,false),(iM 30 0,false),(iA 31 (.bJJ (Tm 30)),false),(iF 32 1 31,false),(iL 33 32,false),(iC 34 .sub 33 1,false),(iX 35 1 29 34,false),(iL 36 35,false),(iA 37 (.conv .i64 (Tm 36)),false),(iM 38 1,false),(iB 39 .rem 37 38,false),(iM 4 39,false)]
def wP:aB:=(sq YU (.seq (dq IF (.cond (Tm 18) (sq YV .ret) .skip)) (sq aJD (dq aJE .ret))))
def bnV:List Nat:=[]
def aeZ:aT:=⟨2,40,wP,[.tmp 4]⟩
def aII:Rg:=[iA 2 (.alloc [(.bool false),.bIU,.bIU])]
def aIJ:Rg:=[iM 6 0,iA 7 (.call 4 [(Tm 6),(Ci 6)]),iA 8 (.bin .add (Ci 1) (Tm 7)),iM 9 0,iA 10 (.call 4 [(Tm 9),(Ci 8)]),iA 11 (.bin .add (Ci 1) (Tm 10)),iK2 12 50 8 11,iM 5 12,iE 13 5 0,iE 14 5 1,iA 3 (.alloc [(.bool false),.bIU,.bIU]),iS 3 3 13,iM 4 14]
def aIK:Rg:=[iO 15 3 3,iS 3 2 15]
def HX:aB:=(sq aII (sq aIJ (sq aIK .ret)))
def bnM:List Nat:=[]
def aAI:aT:=⟨1,16,HX,[.cell 2 (some 3)]⟩
def aYR:Rg:=[iA 4 (.alloc [(.str []),.bIU,.bIU,.bIU])]
def aYS:Rg:=[iM 16 0,iM 17 1,iK2 18 4 16 17,iA 19 (.bin .add (Ci 1) (Tm 18)),iM 5 19]
def aYT:Rg:=[iA 6 (.alloc [(.str []),.bIU,.bIU,.bIU])]
def aYU:Rg:=[iI 7 8]
def aYV:Rg:=[iI 8 0]
def aYW:Rg:=[iM 20 8,iM 21 5,iB 22 .lss 20 21]
def amT:Rg:=[iM 25 7,iM 9 25]
def amU:Rg:=[iM 26 8,iC 27 .add 26 1,iM 28 5,iB 29 .lss 27 28]
def amV:Rg:=[iM 30 0,iM 31 7,iC 32 .add 31 1,iK2 33 4 30 32,iM 9 33]
def SU:Rg:=[iM 34 7,iM 35 9,iB 36 .sub 34 35,iM 7 36]
def YJ:Rg:=[iM 38 9,iA 39 (.call 50 [(Tm 38),(Ci 8)]),iM 37 39,iE 40 37 0,iE 41 37 1,iA 10 (.alloc [(.bool false),.bIU,.bIU]),iS 3 10 40,iM 11 41]
def YK:Rg:=[iF 42 1 6,iL 43 42,iO 44 3 10,iA 45 (.bIZ true 3 1 [(.bool false),.bIU,.bIU] [(0,(Tm 44))]),iA 46 (.append 3 56 (Tm 43) (Tm 45)),iF 47 1 6,iS 1 47 46]
def YL:Rg:=[iM 48 0,iK 49 1 48,iA 12 (.alloc [(.bool false),.bIU,.bIU]),iS 3 12 49]
def YM:Rg:=[iM 50 8,iC 51 .add 50 1,iM 52 5,iB 53 .lss 51 52,iM 54 53,gM 55 0 54 true,iG 56 (.call 4 [(Tm 55),(Ci 3)]) 54 true,gC 57 .eql 56 0 54 true,iP 58 54 57]
def YN:Rg:=[iA 59 (.call 47 [(Ci 0)]),iS 3 12 59]
def IA:Rg:=[iF 60 3 6,iL 61 60,iO 62 3 12,iA 63 (.bIZ true 3 1 [(.bool false),.bIU,.bIU] [(0,(Tm 62))]),iA 64 (.append 3 56 (Tm 61) (Tm 63)),iF 65 3 6,iS 1 65 64]
def YO:Rg:=[iZ 13]
def YP:Rg:=[iI 14 0]
def aIW:Rg:=[iM 66 14,iM 67 5,iB 68 .lss 66 67]
def aIX:Rg:=[iA 71 (.call 47 [(Ci 0)]),iA 15 (.alloc [(.bool false),.bIU,.bIU]),iS 3 15 71]
def aIY:Rg:=[iM 72 14,iM 73 8,iC 74 .add 73 1,iB 75 .eql 72 74,iM 76 75,gM 77 14 76 false,gM 78 8 76 false,gB 79 .neq 77 78 76 false,gM 80 79 76 false,gM 81 0 80 true,iG 82 (.call 4 [(Tm 81),(Ci 3)]) 80 true,gC 83 .eql 82 0 80 true,iG 84 (.pick (Tm 80) (Tm 83) (.const (.bool false))) 76 false,iQ 85 76 84]
def YQ:Rg:=[iM 86 0,iK 87 1 86,iS 3 15 87]
def YR:Rg:=[iM 88 13,iO 89 3 15,iA 90 (.bIZ true 3 1 [(.bool false),.bIU,.bIU] [(0,(Tm 89))]),iA 91 (.append 3 56 (Tm 88) (Tm 90)),iM 13 91]
def YS:Rg:=[iM 69 14,iC 70 .add 69 1,iM 14 70]
def HZ:aB:=(.seq (sq aIW (.cond (Tm 68) .skip (.exit 2))) (.seq (.block 3 (sq aIX (.seq (sq aIY (.cond (Tm 85) (.region YQ) .skip)) (.region YR)))) (.region YS)))
def YT:Rg:=[iF 92 2 6,iL 93 92,iM 94 13,iA 95 (.bIZ true 1 1 [.bIU] [(0,(Tm 94))]),iA 96 (.append 1 24 (Tm 93) (Tm 95)),iF 97 2 6,iS 1 97 96]
def aIZ:Rg:=[iM 23 8,iC 24 .add 23 1,iM 8 24]
def aIV:aB:=(.seq (sq aYW (.cond (Tm 22) .skip (.exit 0))) (.seq (.block 1 (sq amT (.seq (sq amU (.cond (Tm 29) (.region amV) .skip)) (sq SU (sq YJ (sq YK (sq YL (.seq (sq YM (.cond (Tm 58) (.region YN) .skip)) (sq IA (sq YO (.seq (sq YP (.block 2 (.loop HZ))) (.region YT)))))))))))) (.region aIZ)))
def aJA:Rg:=[iO 98 4 6,iS 4 4 98]
def OG:aB:=(sq aYR (sq aYS (sq aYT (sq aYU (.seq (sq aYV (.block 0 (.loop aIV))) (sq aJA .ret))))))
def buH:List Nat:=[45,63,90,95]
def a8Z:aT:=⟨2,99,OG,[.cell 4 (some 4)]⟩
def aZB:Rg:=[iZ 4]
def aZC:Rg:=[iZ 5]
def aZD:Rg:=[iI 6 0]
def aZE:Rg:=[iM 7 6,iM 8 1,iA 9 (.bJV true (Tm 8) (Ci 1)),iB 10 .lss 7 9]
def aZF:Rg:=[iM 13 5,iM 14 0,iK 15 1 14,iA 16 (.bIZ true 3 1 [(.bool false),.bIU,.bIU] [(0,(Tm 15))]),iA 17 (.append 3 56 (Tm 13) (Tm 16)),iM 5 17]
def aZG:Rg:=[iM 11 6,iC 12 .add 11 1,iM 6 12]
def aZA:aB:=(.seq (sq aZE (.cond (Tm 10) .skip (.exit 0))) (.seq (.block 1 (.region aZF)) (.region aZG)))
def aZH:Rg:=[iM 18 5,iM 4 18]
def OI:aB:=(sq aZB (sq aZC (.seq (sq aZD (.block 0 (.loop aZA))) (sq aZH .ret))))
def buN:List Nat:=[16]
def a9F:aT:=⟨2,19,OI,[.tmp 4]⟩
def aJB:Rg:=[iA 4 (.mv (.const (.str [])))]
def aJC:Rg:=[iM 5 0,iM 6 1,iK 7 195 6,iB 8 .add 5 7,iM 4 8]
def IE:aB:=(sq aJB (sq aJC .ret))
def bnT:List Nat:=[]
def aAJ:aT:=⟨2,9,IE,[.tmp 4]⟩
def aIN:Rg:=[iM 12 1,iA 13 (.bJJ (Tm 12)),iF 14 3 13,iL 15 14,iM 16 2,iX 17 7 15 16,iF 18 1 17,iL 19 18,iC 20 .add 19 1,iM 8 20]
def aIO:Rg:=[iM 21 0,iA 22 (.call 4 [(Tm 21),(Ci 2)]),iA 23 (.bin .add (Ci 1) (Tm 22)),iM 9 23]
def aIP:Rg:=[iM 24 8,iC 25 .eql 24 2]
def aIQ:Rg:=[iI 9 1]
def HY:Rg:=[iI 10 0]
def YG:Rg:=[iM 26 10,iM 27 9,iB 28 .lss 26 27]
def YH:Rg:=[iM 31 8,iC 32 .eql 31 5]
def aIR:Rg:=[iM 33 1,iA 34 (.bJJ (Tm 33)),iF 35 4 34,iL 36 35,iN 37 36,iM 38 3,iB 39 .lss 37 38]
def aIS:Rd:=[(iM 40 1,true),(iM 41 1,true),(iA 42 (.bJJ (Tm 41)),true),(iF 43 4 42,true),(iL 44 43,true),(iM 45 1,false),(iA 46 (.bJJ (Tm 45)),false),(iF 47 4 46,false),(iL 48 47,false),(iN 49 48,false),(iA 50 (.call 29 [(.const (.str [100])),(Tm 49)]),true),(iM 51 0,true),(iM 52 1,true),(iA 53 (.bJJ (Tm 52)),true),(iF 54 2 53,true),(iL 55 54,true),(iN 56 55,true),(iK2 57 4 51 56,true),(iM 58 2,true),(iA 59 (.build [(.str []),(.int .i64 0),(.int .i64 0)] [(0,1,(Tm 50)),(1,1,(Tm 57)),(2,1,(Tm 58))]),false),(iA 60 (.bIZ true 3 1 [(.str []),(.int .i64 0),(.int .i64 0)] [(0,(Tm 59))]),false),(iA 61 (.append 3 32 (Tm 44) (Tm 60)),true),(iA 62 (.bJJ (Tm 40)),false),(iF 63 4 62,false)]
def aIT:Rd:=[(iS 1 63 61,true)]
def arE:Rg:=[iM 64 1,iA 65 (.bJJ (Tm 64)),iF 66 4 65,iL 67 66,iN 68 67,iM 69 3,iB 70 .geq 68 69,iM 71 70,gM 72 1 71 false,iG 73 (.bJJ (Tm 72)) 71 false,gF 74 3 73 71 false,gL 75 74 71 false,gN 76 75 71 false,gC 77 .geq 76 35 71 false,iQ 78 71 77]
def arF:Rd:=[(iM 79 8,false),(iA 80 (.bKD (.const (.str [45,115,114,107,109])) (Tm 79)),false),(iA 81 (.bIZ true 1 1 [(.int .u8 0)] [(0,(Tm 80))]),false),(iA 82 (.bJK (Tm 81)),false),(iM 83 1,false),(iA 84 (.bJJ (Tm 83)),false),(iF 85 3 84,false),(iL 86 85,false),(iN 87 86,false),(iK2 88 29 82 87,true),(iM 89 8,true),(iM 90 2,true),(iM 91 0,true),(iA 92 (.call 4 [(Tm 91),(Ci 16)]),true),(iA 93 (.bin .add (Ci 1) (Tm 92)),true),(iA 94 (.call 47 [(Ci 0)]),true),(iA 95 (.build [(.str []),(.int .i64 0),(.int .i64 0),(.int .i64 0),(.bool false),.bIU,.bIU] [(0,1,(Tm 88)),(1,1,(Tm 89)),(2,1,(Tm 90)),(3,1,(Tm 93)),(4,3,(Tm 94))]),false),(iA 11 (.alloc [(.str []),(.int .i64 0),(.int .i64 0),(.int .i64 0),(.bool false),.bIU,.bIU]),true),(iS 7 11 95,true)]
def arG:Rg:=[iM 96 0,iA 97 (.call 4 [(Tm 96),(Ci 3)]),iC 98 .eql 97 0]
def arH:Rg:=[iM 100 0,iA 101 (.call 4 [(Tm 100),(Ci 6)]),iA 102 (.bin .add (Ci 2) (Tm 101)),iA 103 (.call 50 [(Ci 1),(Tm 102)]),iM 99 103,iE 104 99 0,iE 105 99 1,iF 106 4 11,iS 3 106 104]
def OE:Rd:=[(iM 107 1,true),(iM 108 1,false),(iA 109 (.bJJ (Tm 108)),false),(iF 110 3 109,false),(iL 111 110,false),(iO 112 7 11,false),(iA 113 (.bIZ true 7 1 [(.str []),(.int .i64 0),(.int .i64 0),(.int .i64 0),(.bool false),.bIU,.bIU] [(0,(Tm 112))]),false),(iA 114 (.append 7 96 (Tm 111) (Tm 113)),true),(iA 115 (.bJJ (Tm 107)),false),(iF 116 3 115,false),(iS 1 116 114,true)]
def OF:Rg:=[iM 117 0,iM 118 1,iM 119 1,iA 120 (.bJJ (Tm 119)),iF 121 3 120,iL 122 121,iN 123 122,iC 124 .sub 123 1,iM 125 3,iA 126 (.call 7 [(Tm 117),(Tm 118),(Tm 124),(Tm 125)])]
def vG:Rg:=[iM 29 10,iC 30 .add 29 1,iM 10 30]
def vF:aB:=(.seq (sq YG (.cond (Tm 28) .skip (.exit 0))) (.seq (.block 1 (.seq (sq YH (.cond (Tm 32) (.seq (sq aIR (.cond (Tm 39) (dq aIS (.draw aIT)) .skip)) (.exit 1)) .skip)) (.seq (sq arE (.cond (Tm 78) .ret .skip)) (dq arF (.seq (sq arG (.cond (Tm 98) (.region arH) .skip)) (dq OE (.region OF))))))) (.region vG)))
def wO:aB:=(sq aIN (sq aIO (.seq (sq aIP (.cond (Tm 25) (.region aIQ) .skip)) (sq HY (.block 0 (.loop vF))))))
def bnN:List Nat:=[60,81,113]
def aeQ:aT:=⟨4,127,wO,[]⟩
def aqV:Rg:=[iA 6 (.alloc [(.int .i64 0),.bIU,.bIU,.bIU,.bIU,.bIU,.bIU])]
def aqW:Rg:=[iM 20 0,iA 21 (.call 4 [(Tm 20),(Ci 2)]),iA 22 (.bin .add (Ci 1) (Tm 21)),iA 23 (.build [(.int .i64 0),.bIU,.bIU,.bIU,.bIU,.bIU,.bIU] [(0,1,(Tm 22))]),iA 7 (.alloc [(.int .i64 0),.bIU,.bIU,.bIU,.bIU,.bIU,.bIU]),iS 7 7 23]
def aqX:Rg:=[iM 24 0,iA 25 (.call 4 [(Tm 24),(Ci 2)]),iA 26 (.bin .add (Ci 1) (Tm 25)),iM 8 26]
def aqY:Rg:=[iI 9 0]
def aqZ:Rg:=[iM 27 9,iM 28 8,iB 29 .lss 27 28]
def arA:Rg:=[iM 32 0,iA 33 (.call 2 [(Tm 32),(Ci 2)]),iA 10 (.alloc [(.str []),.bIU,.bIU,.bIU]),iS 4 10 33]
def arB:Rg:=[iM 34 9,iA 35 (.call 29 [(.const (.str [108,97,119])),(Tm 34)]),iF 36 0 10,iS 1 36 35]
def arC:Rg:=[iF 37 1 7,iL 38 37,iO 39 4 10,iA 40 (.bIZ true 4 1 [(.str []),.bIU,.bIU,.bIU] [(0,(Tm 39))]),iA 41 (.append 4 88 (Tm 38) (Tm 40)),iF 42 1 7,iS 1 42 41]
def arD:Rg:=[iM 30 9,iC 31 .add 30 1,iM 9 31]
def OD:aB:=(.seq (sq aqZ (.cond (Tm 29) .skip (.exit 0))) (.seq (.block 1 (sq arA (sq arB (.region arC)))) (.region arD)))
def adU:Rg:=[iM 43 0,iA 44 (.call 4 [(Tm 43),(Ci 2)]),iA 45 (.bin .add (Ci 1) (Tm 44)),iM 11 45]
def adV:Rg:=[iI 12 0]
def adW:Rg:=[iM 46 12,iM 47 11,iB 48 .lss 46 47]
def adX:Rd:=[(iF 51 2 7,true),(iL 52 51,true),(iM 53 12,false),(iA 54 (.call 29 [(.const (.str [109])),(Tm 53)]),true),(iM 55 0,true),(iA 56 (.call 4 [(Tm 55),(Ci 4)]),true),(iA 57 (.bin .add (Ci 1) (Tm 56)),true),(iM 58 0,true),(iA 59 (.call 4 [(Tm 58),(Ci 8)]),true),(iA 60 (.bin .add (Ci 1) (Tm 59)),true),(iM 61 0,true),(iF 62 1 7,true),(iL 63 62,true),(iN 64 63,true),(iK2 65 4 61 64,true),(iA 66 (.build [(.str []),(.int .i64 0),(.int .i64 0),(.int .i64 0)] [(0,1,(Tm 54)),(1,1,(Tm 57)),(2,1,(Tm 60)),(3,1,(Tm 65))]),false),(iA 67 (.bIZ true 4 1 [(.str []),(.int .i64 0),(.int .i64 0),(.int .i64 0)] [(0,(Tm 66))]),false),(iA 68 (.append 4 40 (Tm 52) (Tm 67)),true),(iF 69 2 7,false)]
def adY:Rd:=[(iS 1 69 68,true)]
def adZ:Rg:=[iM 49 12,iC 50 .add 49 1,iM 12 50]
def HN:aB:=(.seq (sq adW (.cond (Tm 48) .skip (.exit 2))) (.seq (.block 3 (dq adX (.draw adY))) (.region adZ)))
def aeA:Rg:=[iA 70 (.call 47 [(Ci 0)]),iA 71 (.build [(.str []),(.int .i64 0),(.int .i64 0),(.int .i64 0),(.bool false),.bIU,.bIU] [(2,1,(Ci (-1))),(4,3,(Tm 70))]),iA 72 (.bIZ false 7 1 [(.str []),(.int .i64 0),(.int .i64 0),(.int .i64 0),(.bool false),.bIU,.bIU] [(0,(Tm 71))]),iF 73 3 7,iS 1 73 72]
def aeB:Rg:=[iM 74 0,iM 75 1,iA 76 (.call 7 [(Tm 74),(Tm 7),(Ci 0),(Tm 75)])]
def aeC:Rg:=[iM 77 0,iA 78 (.call 4 [(Tm 77),(Ci 2)]),iA 79 (.bin .add (Ci 1) (Tm 78)),iM 13 79]
def aeD:Rg:=[iI 14 0]
def aeE:Rg:=[iM 80 14,iM 81 13,iB 82 .lss 80 81]
def HQ:Rg:=[iM 85 14,iA 86 (.call 29 [(.const (.str [112])),(Tm 85)]),iM 87 0,iA 88 (.call 4 [(Tm 87),(Ci 2)]),iA 89 (.bin .add (Ci 1) (Tm 88)),iM 90 0,iA 91 (.call 4 [(Tm 90),(Ci 3)]),iM 92 0,iA 93 (.call 4 [(Tm 92),(Ci 4)]),iA 94 (.bin .add (Ci 1) (Tm 93)),iK 95 47 94,iA 96 (.build [(.str []),(.int .i64 0),(.int .i64 0),(.int .i64 0),(.int .i64 0),(.int .i64 0),(.int .i64 0),(.int .i64 0),(.int .i64 0),.bIU,.bIU,(.bool false),.bIU,.bIU,(.bool false),.bIU,.bIU] [(0,1,(Tm 86)),(1,1,(Tm 89)),(2,1,(Tm 91)),(14,3,(Tm 95))]),iA 15 (.alloc [(.str []),(.int .i64 0),(.int .i64 0),(.int .i64 0),(.int .i64 0),(.int .i64 0),(.int .i64 0),(.int .i64 0),(.int .i64 0),.bIU,.bIU,(.bool false),.bIU,.bIU,(.bool false),.bIU,.bIU]),iS 17 15 96]
def wJ:Rd:=[(iF 97 1 15,true),(iL 98 97,true),(iM 99 0,false),(iF 100 2 15,false),(iL 101 100,false),(iC 102 .add 101 1,false),(iK2 103 4 99 102,true),(iB 104 .add 98 103,false),(iF 105 3 15,false)]
def wK:Rd:=[(iS 1 105 104,true)]
def wL:Rg:=[iM 106 0,iF 107 2 15,iL 108 107,iK2 109 5 106 108,iF 110 10 15,iS 1 110 109]
def wM:Rg:=[iM 112 0,iA 113 (.call 4 [(Tm 112),(Ci 9)]),iA 114 (.call 50 [(Tm 113),(Ci 8)]),iM 111 114,iE 115 111 0,iE 116 111 1,iF 117 11 15,iS 3 117 115]
def HR:Rg:=[iI 16 1]
def aeF:Rg:=[iM 118 16,iC 119 .lss 118 5]
def aeG:Rg:=[iM 122 0,iA 123 (.call 4 [(Tm 122),(Ci 3)]),iC 124 .eql 123 0]
def aeH:Rg:=[iM 125 16,iM 126 0,iA 127 (.call 4 [(Tm 126),(Ci 3)]),iA 128 (.bin .add (Ci 1) (Tm 127)),iF 129 4 15,iA 130 (.idxA 5 1 (Tm 129) (Tm 125)),iS 1 130 128]
def HS:Rg:=[iM 120 16,iC 121 .add 120 1,iM 16 121]
def wI:aB:=(.seq (sq aeF (.cond (Tm 119) .skip (.exit 6))) (.seq (.block 7 (sq aeG (.cond (Tm 124) (.region aeH) .skip))) (.region HS)))
def HT:Rg:=[iM 131 0,iM 132 11,iK2 133 4 131 132,iM 17 133]
def HU:Rg:=[iM 134 17,iA 135 (.bIZ false 1 1 [(.int .i64 0)] [(0,(Tm 134))]),iF 136 9 15,iS 1 136 135]
def HV:Rg:=[iM 137 11,iC 138 .gtr 137 1,iM 139 138,gM 140 0 139 true,iG 141 (.call 4 [(Tm 140),(Ci 2)]) 139 true,gC 142 .eql 141 0 139 true,iP 143 139 142]
def HW:Rg:=[iF 144 9 15,iL 145 144,iM 146 17,iA 147 (.bin .sub (Ci 1) (Tm 146)),iA 148 (.bIZ true 1 1 [(.int .i64 0)] [(0,(Tm 147))]),iA 149 (.append 1 8 (Tm 145) (Tm 148)),iF 150 9 15,iS 1 150 149]
def wN:Rg:=[iF 151 5 7,iL 152 151,iO 153 17 15,iA 154 (.bIZ true 17 1 [(.str []),(.int .i64 0),(.int .i64 0),(.int .i64 0),(.int .i64 0),(.int .i64 0),(.int .i64 0),(.int .i64 0),(.int .i64 0),.bIU,.bIU,(.bool false),.bIU,.bIU,(.bool false),.bIU,.bIU] [(0,(Tm 153))]),iA 155 (.append 17 240 (Tm 152) (Tm 154)),iF 156 5 7,iS 1 156 155]
def aeI:Rg:=[iM 83 14,iC 84 .add 83 1,iM 14 84]
def HO:aB:=(.seq (sq aeE (.cond (Tm 82) .skip (.exit 4))) (.seq (.block 5 (sq HQ (.seq (dq wJ (.draw wK)) (sq wL (sq wM (.seq (sq HR (.block 6 (.loop wI))) (sq HT (sq HU (.seq (sq HV (.cond (Tm 143) (.region HW) .skip)) (.region wN)))))))))) (.region aeI)))
def aeJ:Rg:=[iM 157 0,iM 158 2,iC 159 .add 158 1,iK2 160 4 157 159,iM 18 160]
def aeK:Rg:=[iI 19 0]
def aeL:Rg:=[iM 161 19,iM 162 18,iB 163 .lss 161 162]
def aeM:Rd:=[(iF 166 6 7,true),(iL 167 166,true),(iM 168 19,false),(iA 169 (.call 29 [(.const (.str [118])),(Tm 168)]),true),(iM 170 0,true),(iF 171 5 7,true),(iL 172 171,true),(iN 173 172,true),(iK2 174 4 170 173,true),(iA 175 (.build [(.str []),(.int .i64 0)] [(0,1,(Tm 169)),(1,1,(Tm 174))]),false),(iA 176 (.bIZ true 2 1 [(.str []),(.int .i64 0)] [(0,(Tm 175))]),false),(iA 177 (.append 2 24 (Tm 167) (Tm 176)),true),(iF 178 6 7,false)]
def aeN:Rd:=[(iS 1 178 177,true)]
def aeO:Rg:=[iM 164 19,iC 165 .add 164 1,iM 19 165]
def HP:aB:=(.seq (sq aeL (.cond (Tm 163) .skip (.exit 8))) (.seq (.block 9 (dq aeM (.draw aeN))) (.region aeO)))
def aeP:Rg:=[iO 179 7 7,iS 7 6 179]
def BY:aB:=(sq aqV (sq aqW (sq aqX (.seq (sq aqY (.block 0 (.loop OD))) (sq adU (.seq (sq adV (.block 2 (.loop HN))) (sq aeA (sq aeB (sq aeC (.seq (sq aeD (.block 4 (.loop HO))) (sq aeJ (.seq (sq aeK (.block 8 (.loop HP))) (sq aeP .ret)))))))))))))
def bfJ:List Nat:=[40,67,148,154,176]
def adT:aT:=⟨3,180,BY,[.cell 6 (some 7)]⟩
def aqP:Rg:=[iA 6 (.alloc [(.int .i64 0),.bIU,.bIU,.bIU,.bIU,.bIU,.bIU])]
def aqQ:Rg:=[iM 7 0,iK 8 28 7,iM 9 1,iM 10 2,iA 11 (.call 0 [(Tm 8),(Tm 9),(Tm 10)]),iS 7 6 11]
def BV:aB:=(sq aqP (sq aqQ .ret))
def bfG:List Nat:=[]
def adQ:aT:=⟨3,12,BV,[.cell 6 (some 7)]⟩
def aJH:Rg:=[iA 3 (.box true (Tm 1)),iZ 4]
def aJI:Rg:=[iM 7 0,iA 8 (.call 4 [(Tm 7),(Ci 4)]),iC 9 .eql 8 0]
def aJJ:Rg:=[iZ 4]
def aJK:Rg:=[iZ 5]
def aJL:Rg:=[iI 6 0]
def aJM:Rg:=[iM 10 6,iF 11 4 3,iL 12 11,iN 13 12,iB 14 .lss 10 13]
def aJN:Rg:=[iM 17 5,iM 18 0,iA 19 (.call 4 [(Tm 18),(Ci 7)]),iC 20 .sub 19 1,iA 21 (.bIZ true 1 1 [(.int .i64 0)] [(0,(Tm 20))]),iA 22 (.append 1 8 (Tm 17) (Tm 21)),iM 5 22]
def aJO:Rg:=[iM 15 6,iC 16 .add 15 1,iM 6 16]
def aJG:aB:=(.seq (sq aJM (.cond (Tm 14) .skip (.exit 0))) (.seq (.block 1 (.region aJN)) (.region aJO)))
def aJP:Rg:=[iM 23 5,iM 4 23]
def IG:aB:=(sq aJH (.seq (sq aJI (.cond (Tm 9) (sq aJJ .ret) .skip)) (sq aJK (.seq (sq aJL (.block 0 (.loop aJG))) (sq aJP .ret)))))
def bnX:List Nat:=[3,21]
def aAK:aT:=⟨2,24,IG,[.tmp 4]⟩
def aeS:Rg:=[iA 3 (.box true (Tm 1)),iZ 4]
def aeT:Rg:=[iZ 5]
def aeU:Rg:=[iI 6 0]
def aeV:Rg:=[iM 11 6,iF 12 6 3,iL 13 12,iN 14 13,iB 15 .lss 11 14]
def aeW:Rg:=[iZ 7]
def aeX:Rg:=[iM 18 0,iF 19 4 3,iL 20 19,iN 21 20,iC 22 .add 21 1,iK2 23 4 18 22,iM 8 23]
def aeY:Rg:=[iI 9 0]
def IB:Rg:=[iM 24 9,iO 25 7 3,iM 26 6,iK2 27 82 25 26,iB 28 .lss 24 27]
def IC:Rg:=[iI 10 (-1)]
def ID:Rg:=[iF 31 4 3,iL 32 31,iN 33 32,iC 34 .gtr 33 0]
def CA:Rg:=[iM 35 8,iM 36 9,iB 37 .add 35 36,iF 38 4 3,iL 39 38,iN 40 39,iB 41 .rem 37 40,iM 10 41]
def CB:Rg:=[iM 42 0,iA 43 (.call 4 [(Tm 42),(Ci 6)])]
def CC:Rg:=[iC 45 .eql 43 0,iM 44 45]
def CD:Rg:=[iM 46 0,iF 47 4 3,iL 48 47,iN 49 48,iK2 50 4 46 49,iM 10 50]
def uJ:Rg:=[iC 52 .eql 43 1,iM 51 52]
def CE:Rg:=[iM 53 0,iF 54 4 3,iL 55 54,iN 56 55,iC 57 .add 56 1,iK2 58 4 53 57,iC 59 .sub 58 1,iM 10 59]
def uK:Rg:=[iM 60 7,iM 61 10,iA 62 (.bIZ true 1 1 [(.int .i64 0)] [(0,(Tm 61))]),iA 63 (.append 1 8 (Tm 60) (Tm 62)),iM 7 63]
def CF:Rg:=[iM 29 9,iC 30 .add 29 1,iM 9 30]
def BZ:aB:=(.seq (sq IB (.cond (Tm 28) .skip (.exit 2))) (.seq (.block 3 (sq IC (.seq (sq ID (.cond (Tm 34) (sq CA (sq CB (.block 4 (sq CC (.cond (Tm 44) (.region CD) (sq uJ (.cond (Tm 51) (.region CE) .skip))))))) .skip)) (.region uK)))) (.region CF)))
def UK:Rg:=[iM 64 5,iM 65 7,iA 66 (.bIZ true 1 1 [.bIU] [(0,(Tm 65))]),iA 67 (.append 1 24 (Tm 64) (Tm 66)),iM 5 67]
def UL:Rg:=[iM 16 6,iC 17 .add 16 1,iM 6 17]
def UJ:aB:=(.seq (sq aeV (.cond (Tm 15) .skip (.exit 0))) (.seq (.block 1 (sq aeW (sq aeX (.seq (sq aeY (.block 2 (.loop BZ))) (.region UK))))) (.region UL)))
def UM:Rg:=[iM 68 5,iM 4 68]
def yT:aB:=(sq aeS (sq aeT (.seq (sq aeU (.block 0 (.loop UJ))) (sq UM .ret))))
def a9D:List Nat:=[3,62,66]
def SV:aT:=⟨2,69,yT,[.tmp 4]⟩
def aMP:Rg:=[iA 2 (.box true (Tm 0)),iI 4 0]
def aMQ:Rd:=[(iF 6 5 2,false),(iL 7 6,false),(iF 8 6 2,false),(iL 9 8,false),(iM 10 1,false),(iX 11 2 9 10,false),(iF 12 1 11,false),(iL 13 12,false),(iX 14 17 7 13,false),(iO 15 17 14,false),(iA 5 (.alloc [(.str []),(.int .i64 0),(.int .i64 0),(.int .i64 0),(.int .i64 0),(.int .i64 0),(.int .i64 0),(.int .i64 0),(.int .i64 0),.bIU,.bIU,(.bool false),.bIU,.bIU,(.bool false),.bIU,.bIU]),true),(iS 17 5 15,true)]
def aMR:Rg:=[iF 16 1 5,iL 17 16,iF 18 2 5,iL 19 18,iB 20 .add 17 19,iM 4 20]
def JG:aB:=(sq aMP (dq aMQ (sq aMR .ret)))
def bpA:List Nat:=[2]
def aAP:aT:=⟨2,21,JG,[.tmp 4]⟩
def aQX:Rg:=[iZ 2]
def aQY:Rg:=[iM 4 0,iN 5 4,iM 3 5]
def aQZ:Rg:=[iM 6 3,iC 7 .gtr 6 0,iM 8 7,gM 9 0 8 true,gM 10 3 8 true,gC 11 .sub 10 1 8 true,iG 12 (.bJP 1 (Tm 9) (Tm 11)) 8 true,gL 13 12 8 true,iG 14 (.bin .eql (Tm 13) (.const (.int .u32 0))) 8 true,iP 15 8 14]
def aRA:Rg:=[iM 16 3,iC 17 .sub 16 1,iM 3 17]
def aQW:aB:=(.seq (sq aQZ (.cond (Tm 15) .skip (.exit 0))) (.block 1 (.region aRA)))
def aaT:Rg:=[iM 18 0,iM 19 3,iA 20 (.slice 1 (Tm 18) none (some (Tm 19)) none),iA 21 (.append 1 4 (.const .bIU) (Tm 20)),iM 2 21]
def KQ:aB:=(sq aQX (sq aQY (.seq (.block 0 (.loop aQW)) (sq aaT .ret))))
def bqM:List Nat:=[]
def aAY:aT:=⟨1,22,KQ,[.tmp 2]⟩
def aQO:Rg:=[iZ 2]
def aQP:Rg:=[iM 3 0,iA 4 (.conv .u32 (Tm 3)),iM 5 0,iA 6 (.bin .shr (Tm 5) (.const (.int .u64 32))),iA 7 (.conv .u32 (Tm 6)),iA 8 (.bIZ true 1 2 [(.int .u32 0)] [(0,(Tm 4)),(1,(Tm 7))]),iK 9 38 8,iM 2 9]
def KH:aB:=(sq aQO (sq aQP .ret))
def bqD:List Nat:=[8]
def aAW:aT:=⟨1,10,KH,[.tmp 2]⟩
def awX:Rg:=[iT 2 false]
def awY:Rg:=[iM 3 0,iK 4 38 3,iN 5 4,iC 6 .gtr 5 512,iM 2 6]
def DX:aB:=(sq awX (sq awY .ret))
def bjC:List Nat:=[]
def aiM:aT:=⟨1,7,DX,[.tmp 2]⟩
def a2H:Rg:=[iI 4 0]
def a2I:Rg:=[iM 6 0,iK 7 38 6,iM 8 1,iK 9 38 8,iM 0 7,iM 1 9]
def a2J:Rg:=[iM 10 0,iN 11 10,iM 12 1,iN 13 12,iB 14 .neq 11 13]
def a2K:Rg:=[iM 15 0,iN 16 15,iM 17 1,iN 18 17,iB 19 .lss 16 18]
def a2L:Rg:=[iI 4 (-1)]
def a2M:Rg:=[iI 4 1]
def a2N:Rg:=[iM 20 0,iN 21 20,iC 22 .sub 21 1,iM 5 22]
def a2O:Rg:=[iM 23 5,iC 24 .geq 23 0]
def a2P:Rd:=[(iM 27 0,false),(iM 28 5,false),(iX 29 1 27 28,false),(iL 30 29,false),(iM 31 1,false),(iM 32 5,false),(iX 33 1 31 32,false),(iL 34 33,false),(iB 35 .lss 30 34,false)]
def a2Q:Rg:=[iI 4 (-1)]
def aQB:Rd:=[(iM 36 0,false),(iM 37 5,false),(iX 38 1 36 37,false),(iL 39 38,false),(iM 40 1,false),(iM 41 5,false),(iX 42 1 40 41,false),(iL 43 42,false),(iB 44 .gtr 39 43,false)]
def aQC:Rg:=[iI 4 1]
def aQD:Rg:=[iM 25 5,iC 26 .sub 25 1,iM 5 26]
def aQA:aB:=(.seq (sq a2O (.cond (Tm 24) .skip (.exit 0))) (.seq (.block 1 (.seq (dq a2P (.cond (Tm 35) (sq a2Q .ret) .skip)) (dq aQB (.cond (Tm 44) (sq aQC .ret) .skip)))) (.region aQD)))
def aQE:Rg:=[iI 4 0]
def RA:aB:=(sq a2H (sq a2I (.seq (sq a2J (.cond (Tm 14) (.seq (sq a2K (.cond (Tm 19) (sq a2L .ret) .skip)) (sq a2M .ret)) .skip)) (.seq (sq a2N (.block 0 (.loop aQA))) (sq aQE .ret)))))
def bwC:List Nat:=[]
def bbG:aT:=⟨2,45,RA,[.tmp 4]⟩
def aiF:Rg:=[iZ 4,iZ 5]
def aiG:Rg:=[iM 20 0,iM 21 1,iK2 22 32 20 21,iC 23 .lss 22 0]
def aiH:Rg:=[iM 24 0,iK 25 38 24,iZ 4,iM 5 25]
def aiI:Rg:=[iM 26 1,iN 27 26,iC 28 .eql 27 1]
def KD:Rg:=[iM 29 0,iN 30 29,iA 31 (.bJE 1 4 [(.int .u32 0)] (Tm 30) (Tm 30)),iM 6 31]
def KE:Rg:=[iA 7 (.mv (.const (.int .u64 0)))]
def KF:Rg:=[iM 32 0,iN 33 32,iC 34 .sub 33 1,iM 8 34]
def aiJ:Rg:=[iM 35 8,iC 36 .geq 35 0]
def aiK:Rg:=[iM 39 7,iA 40 (.bin .shl (Tm 39) (.const (.int .u64 32))),iM 41 0,iM 42 8,iX 43 1 41 42,iL 44 43,iA 45 (.conv .u64 (Tm 44)),iB 46 .or 40 45,iM 9 46]
def aiL:Rg:=[iM 47 6,iM 48 8,iM 49 9,iM 50 1,iA 51 (.bJP 1 (Tm 50) (Ci 0)),iL 52 51,iA 53 (.conv .u64 (Tm 52)),iB 54 .quo 49 53,iA 55 (.conv .u32 (Tm 54)),iX 56 1 47 48,iS 1 56 55]
def VZ:Rg:=[iM 57 9,iM 58 1,iA 59 (.bJP 1 (Tm 58) (Ci 0)),iL 60 59,iA 61 (.conv .u64 (Tm 60)),iB 62 .rem 57 61,iM 7 62]
def WA:Rg:=[iM 37 8,iC 38 .sub 37 1,iM 8 38]
def DL:aB:=(.seq (sq aiJ (.cond (Tm 36) .skip (.exit 0))) (.seq (.block 1 (sq aiK (sq aiL (.region VZ)))) (.region WA)))
def DM:Rg:=[iM 63 6,iK 64 38 63,iM 65 7,iK 66 35 65,iM 4 64,iM 5 66]
def WB:Rg:=[iM 67 1,iN 68 67,iA 69 (.bin .mul (Ci 32) (Tm 68)),iM 70 1,iK 71 31 70,iB 72 .sub 69 71,iM 10 72]
def WC:Rg:=[iM 73 0,iM 74 10,iK2 75 45 73 74,iA 76 (.bIZ true 1 2 [(.int .u32 0)] [(0,(.const (.int .u32 0))),(1,(.const (.int .u32 0)))]),iA 77 (.append 1 4 (Tm 75) (Tm 76)),iM 78 1,iM 79 10,iK2 80 45 78 79,iM 11 77,iM 12 80]
def DN:Rg:=[iM 81 11,iM 82 0,iM 83 10,iK2 84 45 82 83,iN 85 84,iC 86 .add 85 1,iA 87 (.slice 1 (Tm 81) none (some (Tm 86)) none),iM 11 87]
def DO:Rg:=[iM 88 12,iM 89 12,iN 90 89,iC 91 .sub 90 1,iX 92 1 88 91,iL 93 92,iA 94 (.conv .u64 (Tm 93)),iM 13 94]
def DP:Rg:=[iM 95 11,iN 96 95,iM 97 12,iN 98 97,iB 99 .sub 96 98,iA 100 (.bJE 1 4 [(.int .u32 0)] (Tm 99) (Tm 99)),iM 14 100]
def DQ:Rg:=[iM 101 14,iN 102 101,iC 103 .sub 102 1,iM 15 103]
def WD:Rg:=[iM 104 15,iC 105 .geq 104 0]
def WE:Rd:=[(iM 108 11,false),(iM 109 15,false),(iM 110 12,false),(iN 111 110,false),(iB 112 .add 109 111,false),(iX 113 1 108 112,false),(iL 114 113,false),(iA 115 (.conv .u64 (Tm 114)),false),(iA 116 (.bin .shl (Tm 115) (.const (.int .u64 32))),false),(iM 117 11,false),(iM 118 15,false),(iM 119 12,false),(iN 120 119,false),(iB 121 .add 118 120,false),(iC 122 .sub 121 1,false),(iX 123 1 117 122,false),(iL 124 123,false),(iA 125 (.conv .u64 (Tm 124)),false),(iB 126 .or 116 125,false),(iM 16 126,false)]
def WF:Rg:=[iM 127 16,iM 128 13,iB 129 .quo 127 128,iM 17 129]
def WG:Rg:=[iM 130 17,iA 131 (.bin .gtr (Tm 130) (.const (.int .u64 4294967295)))]
def WH:Rg:=[iA 17 (.mv (.const (.int .u64 4294967295)))]
def WI:Rd:=[(iM 132 12,true),(iM 133 17,false),(iK 134 35 133,true),(iK2 135 44 132 134,true),(iM 136 11,true),(iM 137 15,true),(iM 138 15,true),(iM 139 12,true),(iN 140 139,true),(iB 141 .add 138 140,true),(iC 142 .add 141 1,true),(iA 143 (.slice 1 (Tm 136) (some (Tm 137)) (some (Tm 142)) none),true),(iA 144 (.append 1 4 (.const .bIU) (Tm 143)),true),(iK2 145 32 135 144,true),(iC 146 .gtr 145 0,false)]
def WJ:Rg:=[iM 147 17,iA 148 (.bin .sub (Tm 147) (.const (.int .u64 1))),iM 17 148]
def uP:aB:=(.seq (dq WI (.cond (Tm 146) .skip (.exit 4))) (.block 5 (.region WJ)))
def DR:Rg:=[iM 149 11,iM 150 15,iM 151 15,iM 152 12,iN 153 152,iB 154 .add 151 153,iC 155 .add 154 1,iA 156 (.slice 1 (Tm 149) (some (Tm 150)) (some (Tm 155)) none),iA 157 (.append 1 4 (.const .bIU) (Tm 156)),iM 158 12,iM 159 17,iK 160 35 159,iK2 161 44 158 160,iK2 162 42 157 161,iM 18 162]
def DS:Rg:=[iI 19 0]
def WK:Rg:=[iM 163 19,iM 164 12,iN 165 164,iB 166 .leq 163 165]
def WL:Rg:=[iM 169 11,iM 170 15,iM 171 19,iB 172 .add 170 171,iX 173 1 169 172,⟨none,.store 1 (Tm 173) (.const (.int .u32 0)),none⟩]
def WM:Rg:=[iM 174 19,iM 175 18,iN 176 175,iB 177 .lss 174 176]
def WN:Rg:=[iM 178 11,iM 179 15,iM 180 19,iB 181 .add 179 180,iM 182 18,iM 183 19,iX 184 1 182 183,iL 185 184,iX 186 1 178 181,iS 1 186 185]
def DT:Rg:=[iM 167 19,iC 168 .add 167 1,iM 19 168]
def uQ:aB:=(.seq (sq WK (.cond (Tm 166) .skip (.exit 6))) (.seq (.block 7 (sq WL (sq WM (.cond (Tm 177) (.region WN) .skip)))) (.region DT)))
def DU:Rg:=[iM 187 14,iM 188 15,iM 189 17,iA 190 (.conv .u32 (Tm 189)),iX 191 1 187 188,iS 1 191 190]
def DV:Rg:=[iM 106 15,iC 107 .sub 106 1,iM 15 107]
def uR:aB:=(.seq (sq WD (.cond (Tm 105) .skip (.exit 2))) (.seq (.block 3 (dq WE (sq WF (.seq (sq WG (.cond (Tm 131) (.region WH) .skip)) (.seq (.block 4 (.loop uP)) (sq DR (.seq (sq DS (.block 6 (.loop uQ))) (.region DU)))))))) (.region DV)))
def DW:Rg:=[iM 192 14,iK 193 38 192,iM 194 11,iK 195 38 194,iM 196 10,iK2 197 40 195 196,iM 4 193,iM 5 197]
def zG:aB:=(sq aiF (.seq (sq aiG (.cond (Tm 23) (sq aiH .ret) .skip)) (.seq (sq aiI (.cond (Tm 28) (sq KD (sq KE (.seq (sq KF (.block 0 (.loop DL))) (sq DM .ret)))) .skip)) (sq WB (sq WC (sq DN (sq DO (sq DP (.seq (sq DQ (.block 2 (.loop uR))) (sq DW .ret))))))))))
def bbK:List Nat:=[76]
def TJ:aT:=⟨2,198,zG,[.tmp 4,.tmp 5]⟩
def a2R:Rg:=[iZ 4,iZ 5,iI 6 0]
def a2S:Rg:=[iM 9 0,iK 10 41 9,iM 11 10,gM 12 1 11 false,gK 13 41 12 11 false,iQ 14 11 13]
def aoE:Rg:=[iZ 4,iZ 5,iI 6 2]
def a2T:Rg:=[iM 15 1,iK 16 38 15,iN 17 16,iC 18 .eql 17 0]
def a2U:Rg:=[iZ 4,iZ 5,iI 6 3]
def a2V:Rg:=[iM 20 0,iK 21 38 20,iM 22 1,iK 23 38 22,iK2 24 39 21 23,iM 19 24,iE 25 19 0,iE 26 19 1,iM 7 25,iM 8 26]
def a2W:Rg:=[iM 27 7,iM 28 8,iM 4 27,iM 5 28,iI 6 0]
def RB:aB:=(sq a2R (.seq (sq a2S (.cond (Tm 14) (sq aoE .ret) .skip)) (.seq (sq a2T (.cond (Tm 18) (sq a2U .ret) .skip)) (sq a2V (sq a2W .ret)))))
def bwE:List Nat:=[]
def udiv:aT:=⟨2,29,RB,[.tmp 4,.tmp 5,.tmp 6]⟩
def a2Y:Rg:=[iZ 4,iI 5 0]
def a2Z:Rg:=[iM 10 0,iK 11 41 10,iM 12 11,gM 13 1 12 false,gK 14 41 13 12 false,iQ 15 12 14]
def aoF:Rg:=[iZ 4,iI 5 2]
def a3A:Rg:=[iM 16 0,iK 17 38 16,iM 18 1,iK 19 38 18,iM 6 17,iM 7 19]
def a3B:Rg:=[iM 20 7,iN 21 20,iC 22 .gtr 21 0]
def a3C:Rg:=[iM 24 6,iM 25 7,iK2 26 39 24 25,iM 23 26,iE 27 23 0,iE 28 23 1,iM 8 27,iM 9 28]
def a3D:Rg:=[iM 29 7,iM 30 9,iM 6 29,iM 7 30]
def a2X:aB:=(.seq (sq a3B (.cond (Tm 22) .skip (.exit 0))) (.block 1 (sq a3C (.region a3D))))
def a3E:Rg:=[iM 31 6,iM 4 31,iI 5 0]
def RE:aB:=(sq a2Y (.seq (sq a2Z (.cond (Tm 15) (sq aoF .ret) .skip)) (sq a3A (.seq (.block 0 (.loop a2X)) (sq a3E .ret)))))
def bwG:List Nat:=[]
def bbL:aT:=⟨2,32,RE,[.tmp 4,.tmp 5]⟩
def aiY:Rg:=[iA 6 (.alloc [(.bool false),.bIU,.bIU])]
def aiZ:Rg:=[iM 9 1,iK 10 38 9,iM 11 2,iK 12 38 11,iM 1 10,iM 2 12]
def ajA:Rg:=[iM 13 1,iN 14 13,iC 15 .eql 14 0]
def ajB:Rg:=[iA 16 (.bIZ true 1 1 [(.int .u32 0)] [(0,(.const (.int .u32 1)))]),iA 17 (.build [(.bool false),.bIU,.bIU] [(2,1,(Tm 16))]),iS 3 6 17]
def ajC:Rg:=[iM 19 1,iM 20 2,iK2 21 34 19 20,iM 18 21,iE 22 18 0,iE 23 18 1,iM 7 22,iM 8 23]
def ajD:Rg:=[iM 24 7,iN 25 24,iC 26 .gtr 25 1,iM 27 26,gM 28 7 27 false,iG 29 (.bJP 1 (Tm 28) (Ci 0)) 27 false,gL 30 29 27 false,iG 31 (.bin .gtr (Tm 30) (.const (.int .u32 1))) 27 false,iQ 32 27 31]
def KV:Rg:=[iM 34 1,iM 35 7,iK2 36 33 34 35,iM 33 36,iE 37 33 0,iE 38 33 1,iE 39 33 2,iM 1 37]
def KW:Rg:=[iM 41 2,iM 42 7,iK2 43 33 41 42,iM 40 43,iE 44 40 0,iE 45 40 1,iE 46 40 2,iM 2 44]
def xB:Rg:=[iM 47 0,iM 48 1,iM 49 2,iA 50 (.build [(.bool false),.bIU,.bIU] [(0,1,(Tm 47)),(1,1,(Tm 48)),(2,1,(Tm 49))]),iS 3 6 50]
def zI:aB:=(sq aiY (sq aiZ (.seq (sq ajA (.cond (Tm 15) (sq ajB .ret) .skip)) (.seq (sq ajC (sq ajD (.cond (Tm 32) (sq KV (.region KW)) .skip))) (sq xB .ret)))))
def bbX:List Nat:=[16]
def TM:aT:=⟨3,51,zI,[.cell 6 (some 3)]⟩
def aRU:Rg:=[iA 2 (.mv (.const (.int .u64 0)))]
def aRV:Rg:=[iM 3 0,iC 4 .lss 3 0]
def aRW:Rg:=[iM 5 0,iC 6 .add 5 1,iA 7 (.un .neg (Tm 6)),iA 8 (.conv .u64 (Tm 7)),iA 9 (.bin .add (Tm 8) (.const (.int .u64 1))),iM 2 9]
def aRX:Rg:=[iM 10 0,iA 11 (.conv .u64 (Tm 10)),iM 2 11]
def LC:aB:=(sq aRU (.seq (sq aRV (.cond (Tm 4) (sq aRW .ret) .skip)) (sq aRX .ret)))
def brA:List Nat:=[]
def aBJ:aT:=⟨1,12,LC,[.tmp 2]⟩
def aRL:Rg:=[iA 4 (.alloc [(.bool false),.bIU,.bIU]),iI 5 0]
def aRM:Rg:=[iM 6 1,iC 7 .eql 6 0]
def aRN:Rg:=[iA 8 (.build [(.bool false),.bIU,.bIU] []),iS 3 4 8,iI 5 3]
def aRO:Rg:=[iM 9 0,iC 10 .lss 9 0,iM 11 1,iC 12 .lss 11 0,iA 13 (.eqb true (Tm 10) (Tm 12)),iM 14 0,iK 15 59 14,iK 16 35 15,iM 17 1,iK 18 59 17,iK 19 35 18,iA 20 (.call 58 [(Tm 13),(Tm 16),(Tm 19)]),iS 3 4 20,iI 5 0]
def KX:aB:=(sq aRL (.seq (sq aRM (.cond (Tm 7) (sq aRN .ret) .skip)) (sq aRO .ret)))
def bqU:List Nat:=[]
def ajE:aT:=⟨2,21,KX,[.cell 4 (some 3),.tmp 5]⟩
def a4D:Rg:=[iA 2 (.alloc [(.bool false),.bIU,.bIU])]
def a4E:Rg:=[iM 6 0,iA 7 (.call 50 [(Tm 6),(Ci 1)]),iM 5 7,iE 8 5 0,iE 9 5 1,iA 3 (.alloc [(.bool false),.bIU,.bIU]),iS 3 3 8,iM 4 9]
def a4F:Rg:=[iO 10 3 3,iS 3 2 10]
def RR:aB:=(sq a4D (sq a4E (sq a4F .ret)))
def bwP:List Nat:=[]
def bbU:aT:=⟨1,11,RR,[.cell 2 (some 3)]⟩
def utF (xs:List Nat) (n:Nat):PF:=((PF.nil.set 0 (aJ xs)).set 3 (.int .i64 n))
theorem bqL {C:Ctx} (xs:List Nat) (hx:Lim xs) (hl:xs.length≤35184372087808):KQ.wp C (aS aAY.res (mN 1 (aK (aI (val xs))))) (PF.args [aJ xs]) .nil:=by
 simp only[go_sem,γ,reduceCtorEq,KQ,aQX,aQY,aAY,bKY]
 refine wp_loop (α:=Nat) (fun n=>utF xs n) (fun _=>.nil) (fun n=>n≤xs.length∧∀ j x,n≤j→xs[j]?=some x→x=0) (fun n=>n) xs.length ⟨bLG _,fun j x hj hxj=>?_⟩ ?_ PH.nil_le ?_
 ·rw[bML hj] at hxj; cases hxj
 ·unfold utF
  exact Lq
 rintro n ⟨hn,hz⟩
 have done:(0<n→∀ h:n-1<xs.length,xs[n-1]≠0)→∀ F:PF,(utF xs n).le F→aB.wp C (.seq (.region aaT) .ret) (aS [.tmp 2] (mN 1 (aK (aI (val xs))))) F .nil:=by
  intro h F hF
  have f0:F 0=some (aJ xs):=hF 0 _ (by unfold utF; simp only[go_sem,reduceCtorEq])
  have f3:F 3=some (.int .i64 n):=hF 3 _ (by unfold utF; simp only[go_sem,reduceCtorEq])
  have ht:xs.take n=aI (val xs):=JT hx hn hz fun x h0 hxj=>by
   rw[bLL Om] at hxj
   injection hxj with hxj
   subst hxj
   exact h h0 Om
  have hc:((n:Nat):Int)≤(xs.length:Nat):=by omega
  simp only[go_sem,ν,γ,reduceCtorEq,aaT,f0,f3,bKY,hc,or_true,bMD]
  refine dC (rows:=[]) (src:=aK (aI (val xs))) .nil ?_ ?_ fun v H' ho _=>?_
  ·simp only[go_sem]
   rw[← ht,← List.map_take]
  ·unfold roomFor
   rw[bW,← ht,bLR]
   simp only[bNJ,maxLen]
   omega
  ·exact IZ (.inr rfl) (by simpa using ho) rfl
 simp only[aB.wp,go_sem] at done
 simp only[go_sem,γ,reduceCtorEq,aQW,aQZ,utF]
 by_cases h0:0<n
 ·have h0':((n:Nat):Int)>0:=by omega
  have hlt:n-1<xs.length:=by omega
  have hat:=bP xs hlt
  have hw:IntKind.i64.wrap ((n:Int)-1)=((n-1:Nat):Int):=vQ Om h0
  simp only[go_sem,γ,reduceCtorEq,h0',hw,hat]
  by_cases c:xs[n-1]=0
  ·simp only[go_sem,γ,reduceCtorEq,bN (Om:((xs[n-1]:Nat):Int)=0),aRA,hw]
   refine aE (n-1) ⟨by omega,fun j x hj hxj=>?_⟩ Om ?_ PH.nil_le
   ·by_cases e:j=n-1
    ·subst e
     rw[bLL hlt] at hxj
     injection hxj with hxj
     omega
    ·exact hz j x Om hxj
   ·exact Lq
  ·simp only[go_sem,bC (Om:((xs[n-1]:Nat):Int)≠0)]
   exact done (fun _ _=>c) _ (by unfold utF; exact Lq)
 ·have h0':¬ ((n:Nat):Int)>0:=by omega
  simp only[go_sem,γ,reduceCtorEq,h0']
  exact done (fun h=>absurd h h0) _ (by unfold utF; exact Lq)
structure pI (C:Ctx):Prop where
 trimM:∀ xs,Lim xs→xs.length≤35184372087808→aH C 38 [aJ xs] .nil (mN 1 (aK (aI (val xs))))
theorem pI.trim {C:Ctx} (L:pI C) (xs:List Nat) (hx:Lim xs) (hl:xs.length≤35184372087808):aH C 38 [aJ xs] .nil (aF (aJ (aI (val xs)))):=(L.trimM xs hx hl).freeze
theorem bqC {C:Ctx} (L:pI C) (v:Nat) (hv:v<18446744073709551616):KH.wp C (aS aAW.res (bQ (aJ (aI v)))) (PF.args [.int .u64 v]) .nil:=by
 have e1:IntKind.u32.wrap ((v:Nat):Int)=((v%4294967296:Nat):Int):=cF v
 have hd:v/4294967296<4294967296:=by omega
 have e3:IntKind.u32.wrap ((v/4294967296:Nat):Int)=((v/4294967296:Nat):Int):=by rw[cF,bMG hd]
 have hL:Lim [v%4294967296,v/4294967296]:=by
  intro x hx
  simp only[bLO,List.mem_nil_iff,or_false] at hx
  rcases hx with rfl | rfl
  ·exact bMJ _ (by decide)
  ·exact hd
 have bJN:val [v%4294967296,v/4294967296]=v:=by simp only[val,Nat.mul_zero,bMV]; exact Nat.mod_add_div v 4294967296
 have hsh:shift .shr .u64 (v:Int) 32=some (.int .u64 ((v/4294967296:Nat):Int)):=wU
 have hb:(2:Nat)*1≤16777216:=by decide
 simp only[go_sem,υ,δ,γ,η,ζ,reduceCtorEq,KH,aQO,aQP,aAW,e1,hsh,e3,hb]
 have ht:=L.trim [v%4294967296,v/4294967296] hL (by simp)
 rw[bJN] at ht
 refine aA ht rfl ?_
 simp only[go_sem,γ]
 exact aV (.inr rfl) .nil rfl PH.nil_le ⟨.refl _,rfl⟩
theorem bjB {C:Ctx} (L:pI C) (xs:List Nat) (hx:Lim xs) (hl:xs.length≤35184372087808):DX.wp C (aS aiM.res (bQ (.bool (decide (nl (val xs)>512))))) (PF.args [aJ xs]) .nil:=by
 simp only[go_sem,reduceCtorEq,DX,awX,awY,aiM]
 refine aA (L.trim xs hx hl) rfl ?_
 simp only[go_sem,γ,bKY,bA]
 refine aZ rfl ?_
 rw[decide_eq_decide]
 omega
theorem a6A {a b:Nat} (h:nl a<nl b):dD a b=-1:=by
 have:a<b:=by
  rcases bLS a b with h' | h'
  ·exact h'
  ·have:=fP h'; omega
 simp[dD,this]
theorem a5Z {a b:Nat} (h:nl b<nl a):dD a b=1:=by
 have:b<a:=by
  rcases bLS b a with h' | h'
  ·exact h'
  ·have:=fP h'; omega
 have h2:¬ a<b:=by omega
 simp[dD,this,h2]
def bbH (X Y:List Nat) (i:Int):PF:=(((PF.nil.set 0 (aJ X)).set 1 (aJ Y)).set 5 (.int .i64 i))
theorem bwB {C:Ctx} (L:pI C) (xs ys:List Nat) (hx:Lim xs) (hy:Lim ys) (lx:xs.length≤35184372087808) (ly:ys.length≤35184372087808) :
  RA.wp C (aS bbG.res (aF (.int .i64 (dD (val xs) (val ys))))) (PF.args [aJ xs,aJ ys]) .nil:=by
 simp only[go_sem,reduceCtorEq,RA,a2H,a2I,bbG]
 refine aA (L.trim xs hx lx) Ev ?_
 simp only[go_sem,γ]
 refine aA (L.trim ys hy ly) Ev ?_
 have bx:=fI hx
 have by':=fI hy
 simp only[go_sem,γ,reduceCtorEq,a2J,bKY,bA]
 by_cases c0:nl (val xs)≠nl (val ys)
 ·simp only[go_sem,γ,reduceCtorEq,cV (show ((nl (val xs):Nat):Int)≠(nl (val ys):Nat) by omega),a2K]
  by_cases c1:nl (val xs)<nl (val ys)
  ·simp only[go_sem,ο,bKY,bA,show ((nl (val xs):Nat):Int)<(nl (val ys):Nat) by omega,a2L]
   refine aM (.inr rfl) Ev ?_
   rw[a6A c1]; rfl
  ·simp only[go_sem,bKY,bA,show ¬ ((nl (val xs):Nat):Int)<(nl (val ys):Nat) by omega,a2M]
   refine aM (.inr rfl) Ev ?_
   rw[a5Z Om]; rfl
 replace c0:=Decidable.of_not_not c0
 simp only[go_sem,γ,reduceCtorEq,cA (show ((nl (val xs):Nat):Int)=(nl (val ys):Nat) by omega),a2N,bKY,bA]
 have ex:=aR (val xs)
 have ey:=aR (val ys)
 have LX:=aU (val xs)
 have LY:=aU (val ys)
 generalize hX:aI (val xs)=X at *
 generalize hY:aI (val ys)=Y at *
 have hlX:X.length=nl (val xs):=by rw[← hX]; rfl
 have hlY:Y.length=nl (val xs):=by rw[c0,← hY]; rfl
 refine wp_loop (α:=Nat) (fun k=>bbH X Y ((k:Int)-1)) (fun _=>.nil) (fun k=>k≤nl (val xs)∧X.drop k=Y.drop k) (fun k=>k) (nl (val xs)) ⟨bLG _,?_⟩ ?_ PH.nil_le ?_
 ·rw[bOG Om,bOG Om]
 ·unfold bbH
  (repeat' (first|exact PF.nil_le|refine PF.aG ?_ ?_))<;>first|(simp only[go_sem,γ,reduceCtorEq,wrap_i64 (show -9223372036854775808≤((nl (val xs):Nat):Int)-1 by omega) (show ((nl (val xs):Nat):Int)-1≤9223372036854775807 by omega)]<;>rfl)|rfl
 rintro k ⟨hk,hd⟩
 simp only[go_sem,γ,reduceCtorEq,aQA,a2O,bbH]
 by_cases h0:0<k
 ·obtain⟨m,rfl⟩:∃ m,k=m+1:=⟨k-1,by omega⟩
  have hz:((m+1:Nat):Int)-1=(m:Int):=by omega
  have hge:(m:Int)≥0:=by omega
  have x1:m<X.length:=by omega
  have y1:m<Y.length:=by omega
  simp only[go_sem,hz,hge]
  refine bM .nil dK PH.nil_le ?_
  simp only[go_sem,γ,reduceCtorEq,a2P,bP X x1,bP Y y1]
  by_cases c3:X[m]<Y[m]
  ·simp only[go_sem,ο,show ((X[m]:Nat):Int)<(Y[m]:Nat) by omega,a2Q]
   refine aM (.inr rfl) Ev ?_
   have:=acA LX x1 y1 hd c3
   rw[ex,ey] at this
   simp[bF,dD,this]
  ·simp only[go_sem,show ¬ ((X[m]:Nat):Int)<(Y[m]:Nat) by omega]
   refine bM .nil dK PH.nil_le ?_
   simp only[go_sem,γ,reduceCtorEq,aQB,bP X x1,bP Y y1]
   by_cases c4:X[m]>Y[m]
   ·simp only[go_sem,show ((X[m]:Nat):Int)>(Y[m]:Nat) by omega,aQC]
    refine aM (.inr rfl) Ev ?_
    have:=acA LY y1 x1 hd.symm c4
    rw[ex,ey] at this
    have h2:¬ val xs<val ys:=by omega
    simp[bF,dD,this,h2]
   ·simp only[go_sem,γ,reduceCtorEq,show ¬ ((X[m]:Nat):Int)>(Y[m]:Nat) by omega,aQD]
    refine aE m ⟨by omega,aoS x1 y1 hd Om⟩ Om ?_ PH.nil_le
    (repeat' (first|exact PF.nil_le|refine PF.aG ?_ ?_))<;>first|(simp only[go_sem,γ,reduceCtorEq,wrap_i64 (Om:-9223372036854775808≤(m:Int)-1) (Om:(m:Int)-1≤9223372036854775807)]<;>rfl)|rfl
 ·have:k=0:=by omega
  subst this
  have hz:¬ ((0:Nat):Int)-1≥0:=by decide
  simp only[go_sem,hz,aQE]
  refine aM (.inr rfl) Ev ?_
  rw[bMD,bMD] at hd
  have:val xs=val ys:=by rw[← ex,← ey,hd]
  simp[bF,dD,this]
theorem AZ (n:Nat):(((n:Nat):Int)==0)=decide (n=0):=by
 by_cases h:n=0
 ·subst h; rfl
 ·rw[bC Om,decide_eq_false h]
structure aBT (C:Ctx):Prop extends pI C where
 make:∀ v:Nat,v<18446744073709551616→aH C 35 [.int .u64 v] .nil (aF (aJ (aI v)))
 large:∀ xs,Lim xs→xs.length≤35184372087808→aH C 41 [aJ xs] .nil (aF (.bool (decide (nl (val xs)>512))))
 cmp:∀ xs ys,Lim xs→Lim ys→xs.length≤35184372087808→ys.length≤35184372087808→aH C 32 [aJ xs,aJ ys] .nil (aF (.int .i64 (dD (val xs) (val ys))))
def bbM (a b:Nat):PF:=((PF.nil.set 6 (aJ (aI a))).set 7 (aJ (aI b)))
structure abO (C:Ctx):Prop extends aBT C where
 divide:∀ A B:Nat,B≠0→nl A≤512→nl B≤512→aH C 39 [aJ (aI A),aJ (aI B)] .nil (aF (pZ A B))
def a6U (a b:Nat):PV:=if dQ a b then .tup [aJ [],.int .i64 2] else .tup [aJ (aI (bLA a b)),.int .i64 0]
theorem bwF {C:Ctx} (L:abO C) (a b:List Nat) (ha:Lim a) (hb:Lim b) (la:a.length≤35184372087808) (lb:b.length≤35184372087808) :
  RE.wp C (aS bbL.res (bQ (a6U (val a) (val b)))) (PF.args [aJ a,aJ b]) .nil:=by
 unfold a6U
 simp only[go_sem,reduceCtorEq,RE,a2Y,a2Z,bbL]
 refine aA (L.large a ha la) rfl ?_
 by_cases c1:nl (val a)>512
 ·simp only[go_sem,γ,c1,aoF]
  rw[if_pos (by simp[dQ,c1])]
  exact eK rfl
 simp only[go_sem,γ,c1]
 refine aA (L.large b hb lb) rfl ?_
 by_cases c2:nl (val b)>512
 ·simp only[go_sem,γ,reduceCtorEq,c2,aoF]
  rw[if_pos (by simp[dQ,c2])]
  exact eK rfl
 rw[if_neg (by simp[dQ,c1,c2])]
 simp only[go_sem,γ,reduceCtorEq,c2,a3A]
 refine aA (L.trim a ha la) rfl ?_
 simp only[go_sem,γ]
 refine aA (L.trim b hb lb) rfl ?_
 simp only[go_sem,γ]
 refine wp_loop (α:=Nat × Nat) (fun t=>bbM t.1 t.2) (fun _=>.nil) (fun t=>bLA t.1 t.2=bLA (val a) (val b)∧nl t.1≤512∧nl t.2≤512) (fun t=>t.2) (val a,val b) ⟨rfl,by simp only; omega,by simp only; omega⟩ ?_ PH.nil_le ?_
 ·unfold bbM
  exact Lq
 rintro⟨x,y⟩ ⟨hg,hx,hy⟩
 simp only at hg hx hy
 simp only[go_sem,γ,a2X,a3B,bbM,bA]
 by_cases c3:y=0
 ·subst c3
  have:¬ ((nl 0:Nat):Int)>0:=by rw[xU]; decide
  simp only[go_sem,γ,this,a3E]
  refine aV (vs:=[aJ (aI x),.int .i64 0]) (.inr rfl) .nil rfl PH.nil_le ⟨?_,rfl⟩
  rw[← hg,Nat.gcd_zero_right]
  exact .refl _
 ·have h0:nl y≠0:=fun h=>c3 (iH.1 h)
  have:((nl y:Nat):Int)>0:=by omega
  simp only[go_sem,γ,this,a3C]
  refine aA (L.divide x y c3 Om Om) rfl ?_
  simp only[go_sem,γ,pZ,a3D]
  have hlt:x%y<y:=bMJ _ (bNG c3)
  refine aE (y,x%y) ⟨?_,hy,?_⟩ hlt ?_ PH.nil_le
  ·simp only
   rw[← hg,Nat.gcd_comm y,← Nat.gcd_rec y x,Nat.gcd_comm]
  ·have:=fP (Nat.le_of_lt hlt)
   simp only; omega
  ·exact Lq
theorem bwD {C:Ctx} (L:abO C) (a b:List Nat) (ha:Lim a) (hb:Lim b) (la:a.length≤35184372087808) (lb:b.length≤35184372087808) :
  RB.wp C (aS udiv.res (bQ (mQ (val a) (val b)))) (PF.args [aJ a,aJ b]) .nil:=by
 unfold mQ
 simp only[go_sem,reduceCtorEq,RB,a2R,a2S,udiv]
 refine aA (L.large a ha la) rfl ?_
 by_cases c1:nl (val a)>512
 ·simp only[go_sem,γ,c1,aoE]
  rw[if_pos (by simp[dQ,c1])]
  exact rI rfl
 simp only[go_sem,γ,c1]
 refine aA (L.large b hb lb) rfl ?_
 by_cases c2:nl (val b)>512
 ·simp only[go_sem,γ,reduceCtorEq,c2,aoE]
  rw[if_pos (by simp[dQ,c2])]
  exact rI rfl
 rw[if_neg (by simp[dQ,c1,c2])]
 simp only[go_sem,γ,reduceCtorEq,c2,a2T]
 refine aA (L.trim b hb lb) rfl ?_
 simp only[go_sem,γ,bKY,bA,AZ,iH]
 by_cases c3:val b=0
 ·rw[if_pos c3]
  simp only[go_sem,decide_eq_true c3,a2U]
  exact rI rfl
 rw[if_neg c3]
 simp only[go_sem,reduceCtorEq,decide_eq_false c3,a2V]
 refine aA (L.trim a ha la) rfl ?_
 simp only[go_sem,γ]
 refine aA (L.trim b hb lb) rfl ?_
 simp only[go_sem]
 refine aA (L.divide (val a) (val b) c3 Om Om) rfl ?_
 simp only[go_sem,γ,pZ,a2W]
 exact aV (.inr rfl) .nil rfl PH.nil_le ⟨.refl _,rfl⟩
def mL (neg:Bool) (a b:Nat):FV:=(neg&&decide (a/bLA a b≠0),a/bLA a b,b/bLA a b)
structure aBU (C:Ctx):Prop extends abO C where
 gcd:∀ a b,Lim a→Lim b→a.length≤35184372087808→b.length≤35184372087808→aH C 34 [aJ a,aJ b] .nil (aF (a6U (val a) (val b)))
 div:∀ a b,Lim a→Lim b→a.length≤35184372087808→b.length≤35184372087808→aH C 33 [aJ a,aJ b] .nil (aF (mQ (val a) (val b)))
theorem sP {n:Nat} (h:nl n≤512):(aI n).length≤35184372087808:=by rw[bA]; omega
theorem vE:aI 1=[1]:=nZ (by decide) (by decide)
theorem adC {n:Nat} (h:n≠0):aI n=n%4294967296::aI (n/4294967296):=rH h
theorem yL {n:Nat} (h:n≠0):(nl n>1∨n%4294967296>1)↔n≠1:=by
 constructor
 ·rintro h1 rfl
  rcases h1 with h1 | h1
  ·rw[nl,vE] at h1; simp at h1
  ·omega
 ·intro h1
  by_cases c:nl n>1
  ·exact .inl c
  ·have:n<4294967296 ^ 1:=(jP n 1).1 Om
   rw[Nat.pow_one] at this
   rw[bMG this]
   exact .inr Om
theorem bbW {C:Ctx} (L:aBU C) (neg:Bool) (a b:List Nat) (ha:Lim a) (hb:Lim b) (la:a.length≤35184372087808) (lb:b.length≤35184372087808) (na:nl (val a)≤512) (nb:nl (val b)≤512) (h0:val b≠0) :
  zI.wp C (aS TM.res (bQ (.agg (mL neg (val a) (val b)).rf.cells))) (PF.args [.bool neg,aJ a,aJ b]) .nil:=by
 have hg0:bLA (val a) (val b)≠0:=fun h=>h0 (Nat.eq_zero_of_gcd_eq_zero_right h)
 have hgb:bLA (val a) (val b)≤val b:=Nat.gcd_le_right _ (bNG h0)
 have ng:nl (bLA (val a) (val b))≤512:=bNE (fP hgb) nb
 have hnb:dQ (val a) (val b)=false:=hJ na nb
 simp only[go_sem,δ,zI,aiY,aiZ,TM]
 refine aN fun o ho=>?_
 simp only[go_sem,γ]
 refine aA (L.trim a ha la) rfl ?_
 simp only[go_sem,γ]
 refine aA (L.trim b hb lb) rfl ?_
 simp only[go_sem,γ,ajA,bKY,bA,AZ,iH]
 by_cases c1:val a=0
 ·simp only[go_sem,υ,δ,γ,η,θ,ζ,decide_eq_true c1,ajB]
  have e:(mL neg (val a) (val b)).rf=⟨false,[],[1]⟩:=by
   rw[c1]
   unfold mL FV.rf
   simp[fL,Nat.div_self (bNG h0),vE]
  rw[e]
  refine aV (vs:=[.agg [.bool false,.bIU,aJ [1]]]) (.inr rfl) .nil ?_ PH.nil_le ⟨show Co (.agg _) (.agg _) from CoL.agg (CoL.cons (.refl _) (CoL.cons (.nil 1) (CoL.cons (.refl _) .nil))),rfl⟩
  simp only[go_sem,δ,γ]
  rfl
 have hgcd:=L.gcd (aI (val a)) (aI (val b)) (aU _) (aU _) (sP na) (sP nb)
 rw[aR,aR,a6U,hnb] at hgcd
 simp only[go_sem,γ,decide_eq_false c1,ajC]
 refine aA hgcd rfl ?_
 have fin:∀ x y:Nat,x=val a/bLA (val a) (val b)→y=val b/bLA (val a) (val b)→∀ (F:PF) (H:PH),F 0=some (.bool neg)→F 1=some (aJ (aI x))→F 2=some (aJ (aI y))→F 6=some (.ptr o 3 0 0)→H o=some (.rows 3 [[.bool false,.bIU,.bIU]]) →
   aB.wp C (.seq (.region xB) .ret) (aS [.cell 6 (some 3)] (bQ (.agg (mL neg (val a) (val b)).rf.cells))) F H:=by
  intro x y hx hy F H f0 f1 f2 f6 hH
  subst hx; subst hy
  simp only[go_sem,δ,γ,θ,xB,f0,f1,f2,f6,hH]
  have hq:val a/bLA (val a) (val b)≠0:=by
   have:=Nat.div_pos (Nat.gcd_le_left (val b) (bNG c1)) (bNG hg0)
   omega
  have e:(mL neg (val a) (val b)).rf=⟨neg,aI (val a/bLA (val a) (val b)),aI (val b/bLA (val a) (val b))⟩:=by
   unfold mL FV.rf
   simp only[hq,ne_eq,not_false_eq_true,decide_true,bNK]
  rw[e]
  refine aV (vs:=[.agg (eD neg (aI (val a/bLA (val a) (val b))) (aI (val b/bLA (val a) (val b))))]) (.inr rfl) .nil ?_ PH.nil_le ⟨.refl _,rfl⟩
  simp only[go_sem,δ,γ,f6]
 simp only[aB.wp,go_sem] at fin
 have hd:=fun x (hx:nl x≤512)=>L.div (aI x) (aI (bLA (val a) (val b))) (aU _) (aU _) (sP hx) (sP ng)
 simp only[aR,mQ] at hd
 have tail:bLA (val a) (val b)≠1→∀ (F:PF) (H:PH),F 0=some (.bool neg)→F 1=some (aJ (aI (val a)))→F 2=some (aJ (aI (val b)))→F 6=some (.ptr o 3 0 0)→F 7=some (aJ (aI (bLA (val a) (val b))))→H o=some (.rows 3 [[.bool false,.bIU,.bIU]]) →
   aB.wp C (.seq (.seq (.region KV) (.region KW)) (.seq (.region xB) .ret)) (aS [.cell 6 (some 3)] (bQ (.agg (mL neg (val a) (val b)).rf.cells))) F H:=by
  intro _ F H f0 f1 f2 f6 f7 hH
  have d1:=hd (val a) na
  have d2:=hd (val b) nb
  rw[hJ na ng,if_neg hg0] at d1
  rw[hJ nb ng,if_neg hg0] at d2
  simp only[go_sem,γ,KV,f1,f7]
  refine aA d1 rfl ?_
  simp only[go_sem,γ,bOF,KW,f2,f7]
  refine aA d2 rfl ?_
  simp only[go_sem,γ,bOF]
  exact fin _ _ rfl rfl _ _ (by simp only[go_sem,reduceCtorEq,f0]) rfl rfl (by simp only[go_sem,γ,f6]) hH
 simp only[aB.wp,go_sem] at tail
 simp only[go_sem,γ,bOF,ajD,bKY,bA]
 by_cases c2:nl (bLA (val a) (val b))>1
 ·have c2':((nl (bLA (val a) (val b)):Nat):Int)>1:=by omega
  simp only[go_sem,γ,c2']
  exact tail ((yL hg0).1 (.inl c2)) _ _ rfl rfl rfl rfl rfl Sq
 ·have c2':¬ ((nl (bLA (val a) (val b)):Nat):Int)>1:=by omega
  simp only[go_sem,ν,γ,reduceCtorEq,c2',adC hg0]
  by_cases c3:bLA (val a) (val b)%4294967296>1
  ·have c3':((bLA (val a) (val b)%4294967296:Nat):Int)>1:=by omega
   simp only[go_sem,c3']
   exact tail ((yL hg0).1 (.inr c3)) _ _ rfl rfl rfl rfl (by simp only[go_sem,γ,adC hg0]) Sq
  ·have c3':¬ ((bLA (val a) (val b)%4294967296:Nat):Int)>1:=by omega
   have h1:bLA (val a) (val b)=1:=by
    rcases Decidable.em (bLA (val a) (val b)=1) with h | h
    ·exact h
    ·rcases (yL hg0).2 h with h | h
     ·exact absurd h c2
     ·exact absurd h c3
   simp only[go_sem,c3']
   exact fin (val a) (val b) (by rw[h1,Nat.div_one]) (by rw[h1,Nat.div_one]) _ _ rfl rfl rfl rfl Sq
theorem bqZ {C:Ctx} (v:Int) (h1:-9223372036854775808≤v) (h2:v≤9223372036854775807) :
  LC.wp C (aS aBJ.res (aF (.int .u64 (v.natAbs:Nat)))) (PF.args [.int .i64 v]) .nil:=by
 simp only[go_sem,γ,reduceCtorEq,LC,aRU,aRV,aBJ]
 by_cases c:v<0
 ·have e1:IntKind.i64.wrap (v+1)=v+1:=wrap_i64 Om Om
  have e2:IntKind.i64.wrap (0-(v+1))=-(v+1):=by rw[wrap_i64 Om Om]; omega
  have e3:IntKind.u64.wrap (IntKind.u64.wrap (-(v+1))+1)=((v.natAbs:Nat):Int):=by
   rw[fQ,fQ]; omega
  simp only[go_sem,γ,reduceCtorEq,c,aRW,e1,e2,e3]
  refine aM (.inr rfl) rfl ?_
  rfl
 ·have e:IntKind.u64.wrap v=((v.natAbs:Nat):Int):=by
   rw[fQ]; omega
  simp only[go_sem,γ,reduceCtorEq,c,aRX,e]
  refine aM (.inr rfl) rfl ?_
  rfl
structure a5K (C:Ctx):Prop extends aBU C where
 lowest:∀ neg a b,Lim a→Lim b→a.length≤35184372087808→b.length≤35184372087808→nl (val a)≤512→nl (val b)≤512→val b≠0→aH C 58 [.bool neg,aJ a,aJ b] .nil (aF (.agg (mL neg (val a) (val b)).rf.cells))
 size:∀ v:Int,cZ v→aH C 59 [.int .i64 v] .nil (aF (.int .u64 (v.natAbs:Nat)))
def mkT (n d:Int):RF:=(mL (decide (n<0) != decide (d<0)) n.natAbs d.natAbs).rf
def vN (n d:Int):PV:=if d=0 then zU 3 else .tup [.agg (mkT n d).cells,.int .i64 0]
theorem bqT {C:Ctx} (L:a5K C) (n d:Int) (h1:cZ n) (h2:cZ d) :
  KX.wp C (aS ajE.res (bQ (vN n d))) (PF.args [.int .i64 n,.int .i64 d]) .nil:=by
 simp only[go_sem,δ,KX,aRL,aRM]
 refine aN fun o ho=>?_
 unfold vN
 by_cases c:d=0
 ·subst c
  simp only[go_sem,ρ,δ,γ,aRN]
  refine iD ?_
  simp only[go_sem,δ,γ,ajE]
 ·rw[if_neg c]
  simp only[go_sem,γ,reduceCtorEq,bC c,aRO]
  refine aA (L.size n h1) rfl ?_
  simp only[go_sem]
  refine aA (L.make n.natAbs Om) rfl ?_
  simp only[go_sem,γ]
  refine aA (L.size d h2) rfl ?_
  simp only[go_sem]
  refine aA (L.make d.natAbs Om) rfl ?_
  simp only[go_sem]
  have n1:nl n.natAbs≤2:=nL Om
  have n2:nl d.natAbs≤2:=nL Om
  have low:=L.lowest (decide (n<0) != decide (d<0)) (aI n.natAbs) (aI d.natAbs) (aU _) (aU _) (by rw[bA]; omega) (by rw[bA]; omega)
  rw[aR,aR] at low
  have low:=low Om Om Om
  refine aA low rfl ?_
  simp only[go_sem,δ,γ]
  exact aV (.inr rfl) .nil (vs:=[.agg (mkT n d).cells,.int .i64 0]) (by simp only[go_sem,δ,γ,ajE]; rfl) PH.nil_le ⟨.refl _,rfl⟩
structure abP (C:Ctx):Prop extends a5K C where
 fmk:∀ n d:Int,cZ n→cZ d→aH C 50 [.int .i64 n,.int .i64 d] .nil (aF (vN n d))
theorem a4C {C:Ctx} (L:abP C) (n:Int) (h1:cZ n) :
  RR.wp C (aS bbU.res (bQ (.agg (mkT n 1).cells))) (PF.args [.int .i64 n]) .nil:=by
 simp only[go_sem,δ,RR,a4D,a4E,bbU]
 refine aN fun o ho=>?_
 simp only[go_sem,reduceCtorEq]
 refine aA (L.fmk n 1 h1 (by unfold cZ; omega)) rfl ?_
 unfold vN
 rw[if_neg (by decide)]
 simp only[go_sem,δ,γ]
 refine aN fun p hp=>?_
 have hne:o≠p:=by
  rintro rfl
  simp only[bB,if_true] at hp
  cases hp
 have bJZ:p≠o:=fun h=>hne h.symm
 simp only[go_sem,δ,γ,hne,a4F]
 refine aV (vs:=[.agg (mkT n 1).cells]) (.inr rfl) .nil ?_ PH.nil_le ⟨.refl _,rfl⟩
 simp only[go_sem,δ,γ,bJZ]
end Go.PM
