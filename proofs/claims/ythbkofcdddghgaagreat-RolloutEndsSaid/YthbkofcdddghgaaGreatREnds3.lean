/-
  Texts of ours, joined: FlCode Pm33 FlW1 FlPlain FlW2 FlW3 FlW4 FlW5 FlW6 FlW7 FlW8 FlW9 ToPlain ToCode ToW1 ToW2 Pm34 ToW3 ToW4 ToW5 ToW6 ToW7 ToW8 RfPlain RfP2 RfP3 RfP4 RoPlain RfP5 RwP1 RfCode R17Code R11Code ToW9 ToW10 . No condition.
-/
import Derived.Test.YthbkofcdddghgaaGreatREnds1
import Derived.Test.YthbkofcdddghgaaGreatREnds2
import Derived.Lib.SlicesCompact
set_option linter.unusedSimpArgs false
set_option linter.unusedVariables false
open Nat renaming reduceEqDiff → γ, reduceAdd → δ, reduceSub → ε, reduceMul → ζ, reduceLT → η, reduceLeDiff → θ, reduceBEq → τ
open Int renaming reduceLT → ι, reduceLE → κ, reduceEq → μ, reduceToNat → ν, reduceAdd → ξ, reduceNeg → ο, reduceBEq → ρ, reduceBNe → σ
open List renaming reduceReplicate → υ
open List renaming length_map → bIM, range → bIN, replicate → bIP, getElem_mem → bIR, length_append → bIU, getElem?_eq_getElem → bIW, mem_cons → bJA, length_singleton → bJC, take_of_length_le → bJD, length_take → bJF, getD_eq_getElem?_getD → bJG, all_eq_true → bJJ, append_assoc → bJM, take_length → bJN, drop_zero → bJO, getElem?_map → bJQ, not_mem_nil → bJR, mem_map → bJT, mem_singleton → bJU, getElem?_eq_some_iff → bJX, mem_append → bJY, getElem?_eq_none → bJZ, mem_range → bKB, drop_eq_getElem_cons → bKG, length_cons → bKH, length_set → bKI, map_append → bKJ, take_succ_eq_append_getElem → bKK, append_nil → bKM, length_drop → bKN, getElem_of_mem → bKQ, Sublist → bKS, getElem?_append_right → bKT, getElem_map → bKU, map_cons → bKV, nodup_append → bKW, length_nil → bKY, take_append_drop → bKZ, getElem?_append_left → bLC, mem_of_getElem? → bLD, nil_append → bLF, getElem?_take → bLP, drop_of_length_le → bLU, flatten_cons → bLV, getElem?_drop → bLW, length_replicate → bLX, set_append_right → bLY, eq_nil_of_length_eq_zero → bLZ, getElem?_take_of_lt → bMA
open Nat renaming le_refl → bIO, gcd → bIQ, zero_le → bIX, mul_add → bIZ, lt_or_ge → bJE, mul_assoc → bJH, mul_comm → bJK, zero_add → bJL, add_mul → bJP, mul_le_mul_right → bJS, mod_eq_of_lt → bJV, mod_lt → bKA, add_zero → bKD, pow_succ → bKE, min_eq_left → bKO, mul_le_mul_left → bKP, pos_of_ne_zero → bKR, add_assoc → bKX, pow_pos → bLA, div_lt_iff_lt_mul → bLG, sub_self → bLH, eq_zero_or_pos → bLK, div_add_mod → bLQ, div_eq_of_lt → bLR
open Bool renaming false_and → bIS, not_true → bIV, true_and → bIY, not_false → bJB, and_eq_true → bJI, and_false → bKC, and_true → bKL, and_assoc → bLJ, false_eq_true → bLL
open Option renaming map_eq_some_iff → bIT, map_some → bJW, some → bLB, getD_some → bLE, bind_eq_some_iff → bLN, bind_some → bLS
open Array renaming replicate → bKF, length_toList → bLI, getElem?_eq_getElem → bLO, getElem?_eq_some_iff → bLT
open Int renaming toNat_natCast → bLM
namespace Go.PM
open Go
def nJ:Rg:=[iT 2 false]
def nK:Rg:=[iM 3 0,iA 4 (.bin .geq (Tm 3) (.const (.int .u8 97))),iM 5 4,gM 6 0 5 true,iG 7 (.bin .leq (Tm 6) (.const (.int .u8 122))) 5 true,iP 8 5 7,iM 9 8,gM 10 0 9 false,iG 11 (.bin .geq (Tm 10) (.const (.int .u8 65))) 9 false,gM 12 11 9 false,gM 13 0 12 true,iG 14 (.bin .leq (Tm 13) (.const (.int .u8 90))) 12 true,iG 15 (.pick (Tm 12) (Tm 14) (.const (.bool false))) 9 false,iQ 16 9 15,iM 2 16]
def jY:aC:=(sq nJ (sq nK .ret))
def aXT:List Nat:=[]
def vC:aV:=⟨1,17,jY,[.tmp 2]⟩
def xT:Rg:=[iT 2 false]
def xU:Rg:=[iM 3 0,iA 4 (.bin .geq (Tm 3) (.const (.int .u8 48))),iM 5 4,gM 6 0 5 true,iG 7 (.bin .leq (Tm 6) (.const (.int .u8 57))) 5 true,iP 8 5 7,iM 2 8]
def oJ:aC:=(sq xT (sq xU .ret))
def a5B:List Nat:=[]
def BT:aV:=⟨1,9,oJ,[.tmp 2]⟩
def amW:Rg:=[iT 2 false]
def amX:Rg:=[iM 3 0,iK 4 126 3,iM 5 4,gM 6 0 5 false,gK 7 124 6 5 false,iQ 8 5 7,iM 9 8,gM 10 0 9 false,iG 11 (.bin .eql (Tm 10) (.const (.int .u8 45))) 9 false,iQ 12 9 11,iM 13 12,gM 14 0 13 false,iG 15 (.bin .eql (Tm 14) (.const (.int .u8 46))) 13 false,iQ 16 13 15,iM 2 16]
def zF:aC:=(sq amW (sq amX .ret))
def a5J:List Nat:=[]
def BU:aV:=⟨1,17,zF,[.tmp 2]⟩
def FO:Rg:=[iT 2 false]
def FP:Rg:=[iM 4 0,iA 5 (.bin .eql (Tm 4) (.const (.str []))),iM 6 5,gM 7 0 6 false,iG 8 (.bHQ (Tm 7)) 6 false,gC 9 .gtr 8 16 6 false,iQ 10 6 9,iM 11 10,gM 12 0 11 false,iG 13 (.bHR (Tm 12) (Ci 0)) 11 false,gK 14 126 13 11 false,iG 15 (.un .not (Tm 14)) 11 false,iQ 16 11 15]
def FQ:Rg:=[iT 2 false]
def aAB:Rg:=[iI 3 0]
def aAC:Rg:=[iM 17 3,iM 18 0,iA 19 (.bHQ (Tm 18)),iB 20 .lss 17 19]
def aAD:Rg:=[iM 23 0,iM 24 3,iA 25 (.bHR (Tm 23) (Tm 24)),iK 26 125 25,iA 27 (.un .not (Tm 26))]
def aAE:Rg:=[iT 2 false]
def aAF:Rg:=[iM 21 3,iC 22 .add 21 1,iM 3 22]
def aAA:aC:=(.seq (sq aAC (.cond (Tm 20) .skip (.exit 0))) (.seq (.block 1 (sq aAD (.cond (Tm 27) (sq aAE .ret) .skip))) (.region aAF)))
def aAG:Rg:=[iT 2 true]
def qJ:aC:=(sq FO (.seq (sq FP (.cond (Tm 16) (sq FQ .ret) .skip)) (.seq (sq aAB (.block 0 (.loop aAA))) (sq aAG .ret))))
def beQ:List Nat:=[]
def QV:aV:=⟨1,28,qJ,[.tmp 2]⟩
def aaT:Rg:=[iT 6 false]
def aaU:Rg:=[iM 7 0,iM 8 1,iB 9 .geq 7 8,iM 10 9,gM 11 0 10 true,gM 12 2 10 true,gB 13 .leq 11 12 10 true,iP 14 10 13,iM 6 14]
def vX:aC:=(sq aaT (sq aaU .ret))
def bpZ:List Nat:=[]
def gin:aV:=⟨3,15,vX,[.tmp 6]⟩
def alS:Rg:=[iA 1 (.box true (Tm 0)),iT 2 false]
def alT:Rg:=[iF 3 1 1,iL 4 3,iK 5 128 4,iC 6 .gtr 5 0,iM 2 6]
def zC:aC:=(sq alS (sq alT .ret))
def a4O:List Nat:=[1]
def KW:aV:=⟨1,7,zC,[.tmp 2]⟩
def aNQ:Rg:=[iA 1 (.box true (Tm 0)),iT 2 false]
def aNR:Rg:=[iO 6 3 1,iK 7 116 6,iM 5 7,iE 8 5 0,iE 9 5 1,iA 3 (.alloc [(.bool false),.aB,.aB]),iS 3 3 8,iM 4 9]
def QR:Rg:=[iM 10 4,iC 11 .eql 10 0,iM 12 11,gF 13 0 3 12 true,gL 14 13 12 true,iG 15 (.un .not (Tm 14)) 12 true,iP 16 12 15,iM 17 16,gF 18 1 3 17 true,gL 19 18 17 true,gK 20 128 19 17 true,gC 21 .leq 20 32 17 true,iP 22 17 21,iM 23 22,gF 24 2 3 23 true,gL 25 24 23 true,gK 26 128 25 23 true,gC 27 .leq 26 32 23 true,iP 28 23 27,iM 2 28]
def LD:aC:=(sq aNQ (sq aNR (sq QR .ret)))
def blB:List Nat:=[1]
def axY:aV:=⟨1,29,LD,[.tmp 2]⟩
def aNV:Rg:=[iA 1 (.box true (Tm 0)),iT 2 false]
def aNW:Rg:=[iA 8 (.call 115 [(Ci 1),(Ci 1)]),iM 7 8,iE 9 7 0,iE 10 7 1,iA 3 (.alloc [(.bool false),.aB,.aB]),iS 3 3 9,iM 4 10]
def aNX:Rg:=[iO 12 3 1,iO 13 3 3,iK2 14 114 12 13,iM 11 14,iE 15 11 0,iE 16 11 1,iM 5 15,iM 6 16]
def ahZ:Rg:=[iM 17 6,iC 18 .eql 17 0,iM 19 18,gM 20 5 19 true,gC 21 .leq 20 0 19 true,iP 22 19 21,iM 2 22]
def LF:aC:=(sq aNV (sq aNW (sq aNX (sq ahZ .ret))))
def blF:List Nat:=[1]
def gone:aV:=⟨1,23,LF,[.tmp 2]⟩
def awV:Rg:=[iT 4 false]
def awW:Rg:=[iM 7 0,iN 8 7,iI 9 0]
def awX:Rg:=[iB 10 .lss 9 8]
def awY:Rg:=[iX 11 3 7 9,iO 12 3 11,iA 6 (.alloc [(.bool false),.aB,.aB]),iS 3 6 12]
def awZ:Rg:=[iM 13 1,iO 14 3 6,iA 15 (.bHT (Tm 13) [(Tm 14)]),iA 16 (.un .not (Tm 15))]
def axA:Rg:=[iT 4 false]
def axB:Rg:=[iC 17 .add 9 1,iM 9 17]
def awU:aC:=(sq awX (.seq (.cond (Tm 10) .skip (.exit 0)) (.seq (.block 1 (sq awY (sq awZ (.cond (Tm 16) (sq axA .ret) .skip)))) (.region axB))))
def axC:Rg:=[iT 4 true]
def ET:aC:=(sq awV (.seq (sq awW (.block 0 (.loop awU))) (sq axC .ret)))
def bdO:List Nat:=[]
def aaQ:aV:=⟨2,18,ET,[.tmp 4]⟩
def axE:Rg:=[iT 4 false]
def axF:Rg:=[iM 7 0,iN 8 7,iI 9 0]
def axG:Rg:=[iB 10 .lss 9 8]
def axH:Rg:=[iX 11 1 7 9,iL 12 11,iM 6 12]
def axI:Rg:=[iM 13 1,iM 14 6,iA 15 (.bHT (Tm 13) [(Tm 14)]),iA 16 (.un .not (Tm 15))]
def axJ:Rg:=[iT 4 false]
def axK:Rg:=[iC 17 .add 9 1,iM 9 17]
def axD:aC:=(sq axG (.seq (.cond (Tm 10) .skip (.exit 0)) (.seq (.block 1 (sq axH (sq axI (.cond (Tm 16) (sq axJ .ret) .skip)))) (.region axK))))
def axL:Rg:=[iT 4 true]
def EU:aC:=(sq axE (.seq (sq axF (.block 0 (.loop axD))) (sq axL .ret)))
def bdQ:List Nat:=[]
def aaR:aV:=⟨2,18,EU,[.tmp 4]⟩
def awM:Rg:=[iT 4 false]
def awN:Rg:=[iM 7 0,iN 8 7,iI 9 0]
def awO:Rg:=[iB 10 .lss 9 8]
def awP:Rg:=[iX 11 1 7 9,iL 12 11,iM 6 12]
def awQ:Rg:=[iM 13 1,iM 14 6,iA 15 (.bHT (Tm 13) [(Tm 14)]),iA 16 (.un .not (Tm 15))]
def awR:Rg:=[iT 4 false]
def awS:Rg:=[iC 17 .add 9 1,iM 9 17]
def awL:aC:=(sq awO (.seq (.cond (Tm 10) .skip (.exit 0)) (.seq (.block 1 (sq awP (sq awQ (.cond (Tm 16) (sq awR .ret) .skip)))) (.region awS))))
def awT:Rg:=[iT 4 true]
def ES:aC:=(sq awM (.seq (sq awN (.block 0 (.loop awL))) (sq awT .ret)))
def bdM:List Nat:=[]
def aaP:aV:=⟨2,18,ES,[.tmp 4]⟩
def alU:Rg:=[iT 2 false]
def alV:Rg:=[iM 3 0,iM 2 3]
def zD:aC:=(sq alU (sq alV .ret))
def a4Q:List Nat:=[]
def KX:aV:=⟨1,4,zD,[.tmp 2]⟩
def axP:Rg:=[iA 1 (.box true (Tm 0)),iT 2 false]
def axQ:Rg:=[iF 8 3 1,iL 9 8,iN 10 9,iA 11 (.bGS 1 1 [(.bool false)] (Tm 10) (Tm 10)),iM 3 11]
def axR:Rg:=[iI 4 0]
def axS:Rg:=[iM 12 4,iM 13 3,iN 14 13,iB 15 .leq 12 14]
def axT:Rg:=[iM 18 3,iN 19 18,iI 20 0]
def UY:Rg:=[iB 21 .lss 20 19]
def axU:Rg:=[iM 22 20,iM 5 22]
def UZ:Rg:=[iM 23 3,iM 24 5,iM 25 3,iM 26 5,iX 27 1 25 26,iL 28 27,iM 29 28,gF 30 3 1 29 false,gL 31 30 29 false,gM 32 5 29 false,iG 33 (.bHD 3 (Tm 31) (Tm 32)) 29 false,gO 34 3 33 29 false,gK 35 97 34 29 false,iQ 36 29 35,iX 37 1 23 24,iS 1 37 36]
def VA:Rg:=[iF 38 2 1,iL 39 38,iM 40 5,iX 41 1 39 40,iL 42 41,iN 43 42,iI 44 0]
def axV:Rg:=[iB 45 .lss 44 43]
def alX:Rg:=[iM 46 44,iX 47 3 42 44,iO 48 3 47,iA 7 (.alloc [(.bool false),.aB,.aB]),iM 6 46,iS 3 7 48]
def KY:Rg:=[iM 49 3,iM 50 5,iM 51 3,iM 52 5,iX 53 1 51 52,iL 54 53,iM 55 54,gO 56 3 7 55 false,gK 57 97 56 55 false,gM 58 57 55 false,gM 59 3 58 true,gM 60 6 58 true,iG 61 (.bHD 1 (Tm 59) (Tm 60)) 58 true,gL 62 61 58 true,iG 63 (.pick (Tm 58) (Tm 62) (.const (.bool false))) 55 false,iQ 64 55 63,iX 65 1 49 50,iS 1 65 64]
def xR:Rg:=[iC 66 .add 44 1,iM 44 66]
def xP:aC:=(sq axV (.seq (.cond (Tm 45) .skip (.exit 4)) (.seq (.block 5 (sq alX (.region KY))) (.region xR))))
def KZ:Rg:=[iC 67 .add 20 1,iM 20 67]
def xQ:aC:=(sq UY (.seq (.cond (Tm 21) .skip (.exit 2)) (.seq (.block 3 (sq axU (sq UZ (sq VA (.block 4 (.loop xP)))))) (.region KZ))))
def alY:Rg:=[iM 16 4,iC 17 .add 16 1,iM 4 17]
def alW:aC:=(.seq (sq axS (.cond (Tm 15) .skip (.exit 0))) (.seq (.block 1 (sq axT (.block 2 (.loop xQ)))) (.region alY)))
def alZ:Rg:=[iM 68 3,iA 69 (.call 98 [(Tm 68),(.const (.fn 103 []))]),iM 2 69]
def EV:aC:=(sq axP (sq axQ (.seq (sq axR (.block 0 (.loop alW))) (sq alZ .ret))))
def bdT:List Nat:=[1]
def aaS:aV:=⟨1,70,EV,[.tmp 2]⟩
def aNI:Rg:=[iA 1 (.box true (Tm 0)),iT 2 false]
def aNJ:Rg:=[iF 12 1 1,iL 13 12,iN 14 13,iM 3 14]
def aNK:Rg:=[iM 15 3,iA 16 (.call 104 [(Tm 15),(Ci 1),(Ci 4)]),iA 17 (.un .not (Tm 16)),iM 18 17,gF 19 3 1 18 false,gL 20 19 18 false,gN 21 20 18 false,gM 22 3 18 false,gB 23 .neq 21 22 18 false,iQ 24 18 23,iM 25 24,gF 26 2 1 25 false,gL 27 26 25 false,gN 28 27 25 false,gM 29 3 25 false,gB 30 .neq 28 29 25 false,iQ 31 25 30,iM 32 31,gF 33 1 1 32 false,gL 34 33 32 false,iG 35 (.call 99 [(Tm 34),(.const (.fn 105 []))]) 32 false,iG 36 (.un .not (Tm 35)) 32 false,iQ 37 32 36,iM 38 37,gF 39 3 1 38 false,gL 40 39 38 false,iG 41 (.call 99 [(Tm 40),(.const (.fn 105 []))]) 38 false,iG 42 (.un .not (Tm 41)) 38 false,iQ 43 38 42]
def uW:Rg:=[iT 2 false]
def aNL:Rg:=[iF 44 2 1,iL 45 44,iN 46 45,iI 47 0]
def aNM:Rg:=[iB 48 .lss 47 46]
def aNN:Rg:=[iM 49 47,iX 50 1 45 47,iL 51 50,iM 4 49,iM 5 51]
def aNO:Rg:=[iM 52 5,iN 53 52,iM 54 3,iB 55 .neq 53 54,iM 56 55,gM 57 5 56 false,iG 58 (.call 99 [(Tm 57),(.const (.fn 105 []))]) 56 false,iG 59 (.un .not (Tm 58)) 56 false,iQ 60 56 59,iM 61 60,gM 62 5 61 false,gM 63 4 61 false,iG 64 (.bHD 3 (Tm 62) (Tm 63)) 61 false,gO 65 3 64 61 false,gK 66 97 65 61 false,iQ 67 61 66]
def QQ:Rg:=[iT 2 false]
def aNP:Rg:=[iC 68 .add 47 1,iM 47 68]
def axX:aC:=(sq aNM (.seq (.cond (Tm 48) .skip (.exit 0)) (.seq (.block 1 (sq aNN (sq aNO (.cond (Tm 67) (sq QQ .ret) .skip)))) (.region aNP))))
def VB:Rg:=[iF 70 1 1,iL 71 70,iK 72 117 71,iM 69 72,iE 73 69 0,iE 74 69 1,iA 6 (.alloc [(.bool false),.aB,.aB]),iS 3 6 73,iM 7 74]
def EW:Rg:=[iA 76 (.call 115 [(Ci 1),(Ci 1)]),iM 75 76,iE 77 75 0,iE 78 75 1,iA 8 (.alloc [(.bool false),.aB,.aB]),iS 3 8 77,iM 9 78]
def EX:Rg:=[iO 80 3 6,iO 81 3 8,iK2 82 114 80 81,iM 79 82,iE 83 79 0,iE 84 79 1,iM 10 83,iM 11 84]
def rI:Rg:=[iM 85 7,iC 86 .eql 85 0,iM 87 86,gM 88 10 87 true,gC 89 .eql 88 0 87 true,iP 90 87 89,iM 91 90,gO 92 4 1 91 true,gK 93 102 92 91 true,iP 94 91 93,iM 2 94]
def LC:aC:=(sq aNI (sq aNJ (.seq (sq aNK (.cond (Tm 43) (sq uW .ret) .skip)) (.seq (sq aNL (.block 0 (.loop axX))) (sq VB (sq EW (sq EX (sq rI .ret))))))))
def bkZ:List Nat:=[1]
def axW:aV:=⟨1,95,LC,[.tmp 2]⟩
def ayJ:Rg:=[iT 2 false]
def ayK:Rg:=[iA 6 (.bIE (false,[.str])),iM 3 6]
def ayL:Rg:=[iM 7 0,iN 8 7,iI 9 0]
def ayM:Rg:=[iB 10 .lss 9 8]
def ayN:Rg:=[iX 11 1 7 9,iL 12 11,iM 5 12]
def ayO:Rg:=[iM 13 5,iK 14 123 13,iA 15 (.un .not (Tm 14)),iM 16 15,gM 17 3 16 false,gM 18 5 16 false,iG 19 (.lookup (false,[.str]) (.bool false) (Tm 17) (Tm 18) false) 16 false,iQ 20 16 19]
def VD:Rg:=[iT 2 false]
def ayP:Rg:=[iM 21 3,iM 22 5,⟨none,.bHG (false,[.str]) (Tm 21) (Tm 22) (.const (.bool true)),none⟩]
def ayQ:Rg:=[iC 23 .add 9 1,iM 9 23]
def ayI:aC:=(sq ayM (.seq (.cond (Tm 10) .skip (.exit 0)) (.seq (.block 1 (sq ayN (.seq (sq ayO (.cond (Tm 20) (sq VD .ret) .skip)) (.region ayP)))) (.region ayQ))))
def amC:Rg:=[iT 2 true]
def FA:aC:=(sq ayJ (sq ayK (.seq (sq ayL (.block 0 (.loop ayI))) (sq amC .ret))))
def beA:List Nat:=[]
def aaX:aV:=⟨1,24,FA,[.tmp 2]⟩
def ahX:Rg:=[iA 1 (.box true (Tm 0)),iT 2 false]
def ahY:Rg:=[iF 6 3 1,iL 7 6,iN 8 7,iC 9 .eql 8 0]
def aNC:Rg:=[iT 2 false]
def aND:Rg:=[iF 10 3 1,iL 11 10,iA 12 (.bHD 7 (Tm 11) (Ci 0)),iO 13 7 12,iA 3 (.alloc [(.str []),(.int .i64 0),(.int .i64 0),(.int .i64 0),(.bool false),.aB,.aB]),iS 7 3 13]
def uV:Rg:=[iF 14 0 3,iL 15 14,iA 16 (.bin .neq (Tm 15) (.const (.str []))),iM 17 16,gF 18 1 3 17 false,gL 19 18 17 false,gC 20 .neq 19 0 17 false,iQ 21 17 20,iM 22 21,gF 23 2 3 22 false,gL 24 23 22 false,gC 25 .neq 24 (-1) 22 false,iQ 26 22 25,iM 27 26,gF 28 3 3 27 false,gL 29 28 27 false,gC 30 .neq 29 0 27 false,iQ 31 27 30,iM 32 31,gF 33 4 3 32 false,gO 34 3 33 32 false,gK 35 105 34 32 false,iG 36 (.un .not (Tm 35)) 32 false,iQ 37 32 36,iM 38 37,gF 39 4 3 38 false,gO 40 3 39 38 false,gK 41 97 40 38 false,iQ 42 38 41]
def rH:Rg:=[iT 2 false]
def aNE:Rg:=[iF 43 3 1,iL 44 43,iA 45 (.slice 7 (Tm 44) (some (Ci 1)) none none),iN 46 45,iI 47 0]
def aNF:Rg:=[iB 48 .lss 47 46]
def aNG:Rg:=[iM 49 47,iX 50 7 45 47,iO 51 7 50,iA 5 (.alloc [(.str []),(.int .i64 0),(.int .i64 0),(.int .i64 0),(.bool false),.aB,.aB]),iM 4 49,iS 7 5 51]
def aNH:Rd:=[(iF 52 2 5,false),(iL 53 52,false),(iM 54 4,false),(iA 55 (.call 104 [(Tm 53),(Ci 0),(Tm 54)]),true),(iA 56 (.un .not (Tm 55)),false),(iM 57 56,false),(gF 58 3 1 57 false,false),(gL 59 58 57 false,false),(gF 60 2 5 57 false,false),(gL 61 60 57 false,false),(iG 62 (.bHD 7 (Tm 59) (Tm 61)) 57 false,false),(gF 63 1 62 57 false,false),(gL 64 63 57 false,false),(gF 65 1 5 57 false,false),(gL 66 65 57 false,false),(gC 67 .sub 66 1 57 false,false),(gB 68 .neq 64 67 57 false,false),(iQ 69 57 68,false),(iM 70 69,false),(gF 71 1 5 70 false,false),(gL 72 71 70 false,false),(iG 73 (.call 104 [(Tm 72),(Ci 1),(Ci 4)]) 70 false,true),(iG 74 (.un .not (Tm 73)) 70 false,false),(iQ 75 70 74,false),(iM 76 75,false),(gF 77 3 5 76 false,false),(gL 78 77 76 false,false),(iG 79 (.call 104 [(Tm 78),(Ci 1),(Ci 64)]) 76 false,true),(iG 80 (.un .not (Tm 79)) 76 false,false),(iQ 81 76 80,false),(iM 82 81,false),(gF 83 4 5 82 false,false),(gO 84 3 83 82 false,false),(gK 85 105 84 82 false,true),(iG 86 (.un .not (Tm 85)) 82 false,false),(iQ 87 82 86,false)]
def rG:Rg:=[iT 2 false]
def axN:Rg:=[iC 88 .add 47 1,iM 47 88]
def axM:aC:=(sq aNF (.seq (.cond (Tm 48) .skip (.exit 0)) (.seq (.block 1 (sq aNG (dq aNH (.cond (Tm 87) (sq rG .ret) .skip)))) (.region axN))))
def axO:Rg:=[iT 2 true]
def xO:aC:=(sq ahX (.seq (sq ahY (.cond (Tm 9) (sq aNC .ret) .skip)) (sq aND (.seq (sq uV (.cond (Tm 42) (sq rH .ret) .skip)) (.seq (sq aNE (.block 0 (.loop axM))) (sq axO .ret))))))
def bkX:List Nat:=[1]
def ahW:aV:=⟨1,89,xO,[.tmp 2]⟩
def ayA:Rg:=[iT 2 false]
def ayB:Rg:=[iM 3 0,iA 4 (.call 104 [(Tm 3),(Ci 0),(Ci 8)]),iM 2 4]
def EY:aC:=(sq ayA (sq ayB .ret))
def bdV:List Nat:=[]
def aaV:aV:=⟨1,5,EY,[.tmp 2]⟩
def aNS:Rg:=[iA 7 (.box true (Tm 3)),iT 8 false]
def aNT:Rg:=[iM 9 0,iA 10 (.call 104 [(Tm 9),(Ci 1),(Ci 6)]),iA 11 (.un .not (Tm 10)),iM 12 11,gM 13 1 12 false,iG 14 (.call 104 [(Tm 13),(Ci 0),(Ci 4)]) 12 false,iG 15 (.un .not (Tm 14)) 12 false,iQ 16 12 15,iM 17 16,gM 18 0 17 false,gM 19 1 17 false,gB 20 .add 18 19 17 false,gC 21 .gtr 20 8 17 false,iQ 22 17 21,iM 23 22,gM 24 2 23 false,gM 25 0 23 false,gM 26 0 23 false,gM 27 1 23 false,gB 28 .add 26 27 23 false,iG 29 (.call 104 [(Tm 24),(Tm 25),(Tm 28)]) 23 false,iG 30 (.un .not (Tm 29)) 23 false,iQ 31 23 30,iM 32 31,iG 33 (.idxA 5 1 (Tm 7) (Ci 0)) 32 false,gL 34 33 32 false,gC 35 .neq 34 0 32 false,iQ 36 32 35]
def uX:Rg:=[iT 8 false]
def aNU:Rg:=[iA 37 (.sliceA 5 1 (Tm 7) none none none),iA 38 (.call 100 [(Tm 37),(.const (.fn 107 []))]),iM 8 38]
def LE:aC:=(sq aNS (.seq (sq aNT (.cond (Tm 36) (sq uX .ret) .skip)) (sq aNU .ret)))
def blD:List Nat:=[7]
def axZ:aV:=⟨4,39,LE,[.tmp 8]⟩
def amA:Rg:=[iA 1 (.box true (Tm 0)),iT 2 false]
def amB:Rg:=[iO 3 3 1,iK 4 105 3,iM 5 4,gO 6 3 1 5 true,gK 7 97 6 5 true,iP 8 5 7,iM 2 8]
def zE:aC:=(sq amA (sq amB .ret))
def a4T:List Nat:=[1]
def LH:aV:=⟨1,9,zE,[.tmp 2]⟩
def ayG:Rg:=[iA 6 (.box true (Tm 2)),iA 7 (.box true (Tm 3)),iT 8 false]
def ayH:Rg:=[iM 9 1,iN 10 9,iM 11 0,iA 12 (.bHJ true (Tm 11) (Ci 1)),iB 13 .eql 10 12,iM 14 13,gM 15 1 14 true,iG 16 (.call 99 [(Tm 15),(.const (.fn 109 []))]) 14 true,iP 17 14 16,iM 18 17,gO 19 3 6 18 true,gK 20 105 19 18 true,iP 21 18 20,iM 22 21,gO 23 3 6 22 true,gK 24 101 23 22 true,iP 25 22 24,iM 26 25,gO 27 3 7 26 true,gK 28 105 27 26 true,iP 29 26 28,iM 8 29]
def EZ:aC:=(sq ayG (sq ayH .ret))
def bdX:List Nat:=[6,7]
def aaW:aV:=⟨4,30,EZ,[.tmp 8]⟩
def aNY:Rg:=[iA 2 (.box true (Tm 0)),iT 4 false]
def aNZ:Rg:=[iF 8 1 2,iL 9 8,iF 10 2 2,iL 11 10,iF 12 3 2,iL 13 12,iF 14 4 2,iO 15 5 14,iA 16 (.call 106 [(Tm 9),(Tm 11),(Tm 13),(Tm 15)]),iA 17 (.un .not (Tm 16)),iM 18 17,gF 19 9 2 18 false,gL 20 19 18 false,gN 21 20 18 false,gC 22 .eql 21 0 18 false,iQ 23 18 22,iM 24 23,gF 25 2 2 24 false,gL 26 25 24 false,gF 27 10 2 24 false,gL 28 27 24 false,gF 29 11 2 24 false,gO 30 3 29 24 false,gF 31 14 2 24 false,gO 32 3 31 24 false,iG 33 (.call 108 [(Tm 26),(Tm 28),(Tm 30),(Tm 32)]) 24 false,iG 34 (.un .not (Tm 33)) 24 false,iQ 35 24 34]
def QS:Rg:=[iT 4 false]
def aOA:Rg:=[iM 36 1,iA 37 (.bGS 1 1 [(.bool false)] (Tm 36) (Tm 36)),iM 5 37]
def aOB:Rg:=[iF 38 9 2,iL 39 38,iN 40 39,iI 41 0]
def aOC:Rg:=[iB 42 .lss 41 40]
def aOD:Rg:=[iX 43 1 39 41,iL 44 43,iM 7 44]
def aOE:Rg:=[iM 45 7,iM 46 1,iC 47 .sub 46 1,iA 48 (.call 104 [(Tm 45),(Ci 0),(Tm 47)]),iA 49 (.un .not (Tm 48)),iM 50 49,gM 51 5 50 false,gM 52 7 50 false,iG 53 (.bHD 1 (Tm 51) (Tm 52)) 50 false,gL 54 53 50 false,iQ 55 50 54]
def aiA:Rg:=[iT 4 false]
def aOF:Rg:=[iM 56 5,iM 57 7,iX 58 1 56 57,⟨none,.store 1 (Tm 58) (.const (.bool true)),none⟩]
def ayE:Rg:=[iC 59 .add 41 1,iM 41 59]
def ayD:aC:=(sq aOC (.seq (.cond (Tm 42) .skip (.exit 0)) (.seq (.block 1 (sq aOD (.seq (sq aOE (.cond (Tm 55) (sq aiA .ret) .skip)) (.region aOF)))) (.region ayE))))
def ayF:Rg:=[iT 4 true]
def LG:aC:=(sq aNY (.seq (sq aNZ (.cond (Tm 35) (sq QS .ret) .skip)) (sq aOA (.seq (sq aOB (.block 0 (.loop ayD))) (sq ayF .ret)))))
def blH:List Nat:=[2]
def ayC:aV:=⟨2,60,LG,[.tmp 4]⟩
def aOG:Rg:=[iA 1 (.box true (Tm 0)),iI 2 0]
def aOH:Rg:=[iF 21 0 1,iL 22 21,iA 23 (.call 104 [(Tm 22),(Ci 1),(Ci 4)]),iA 24 (.un .not (Tm 23)),iM 25 24,gF 26 1 1 25 false,gL 27 26 25 false,gN 28 27 25 false,gC 29 .gtr 28 4 25 false,iQ 30 25 29,iM 31 30,gF 32 2 1 31 false,gL 33 32 31 false,gN 34 33 31 false,gC 35 .gtr 34 4 31 false,iQ 36 31 35,iM 37 36,gF 38 3 1 37 false,gL 39 38 37 false,gN 40 39 37 false,gC 41 .gtr 40 40 37 false,iQ 42 37 41,iM 43 42,gF 44 4 1 43 false,gL 45 44 43 false,gN 46 45 43 false,gC 47 .gtr 46 24 43 false,iQ 48 43 47,iM 49 48,gF 50 5 1 49 false,gL 51 50 49 false,gN 52 51 49 false,gC 53 .gtr 52 4 49 false,iQ 54 49 53,iM 55 54,gF 56 6 1 55 false,gL 57 56 55 false,gN 58 57 55 false,gC 59 .gtr 58 12 55 false,iQ 60 55 59,iM 61 60,gO 62 7 1 61 false,gK 63 111 62 61 false,iG 64 (.un .not (Tm 63)) 61 false,iQ 65 61 64]
def nH:Rg:=[iI 2 1]
def aOI:Rg:=[iZ 3,iZ 4,iZ 5,iZ 6,iZ 7]
def aOJ:Rg:=[iT 8 true]
def aiB:Rg:=[iF 66 1 1,iL 67 66,iN 68 67,iI 69 0]
def aOK:Rg:=[iB 70 .lss 69 68]
def aOL:Rg:=[iX 71 4 67 69,iO 72 4 71,iA 10 (.alloc [(.str []),.aB,.aB,.aB]),iS 4 10 72]
def aOM:Rg:=[iM 73 3,iF 74 0 10,iL 75 74,iA 76 (.bGO true 1 1 [(.str [])] [(0,(Tm 75))]),iA 77 (.append 1 16 (Tm 73) (Tm 76)),iM 3 77]
def aiC:Rg:=[iM 78 8,iM 79 78,gO 80 4 10 79 true,gK 81 95 80 79 true,iP 82 79 81,iM 8 82]
def VE:Rg:=[iC 83 .add 69 1,iM 69 83]
def FB:aC:=(sq aOK (.seq (.cond (Tm 70) .skip (.exit 0)) (.seq (.block 1 (sq aOL (sq aOM (.region aiC)))) (.region VE))))
def VG:Rg:=[iF 84 2 1,iL 85 84,iN 86 85,iI 87 0]
def ayS:Rg:=[iB 88 .lss 87 86]
def ayT:Rg:=[iX 89 4 85 87,iO 90 4 89,iA 12 (.alloc [(.str []),(.int .i64 0),(.int .i64 0),(.int .i64 0)]),iS 4 12 90]
def ayU:Rg:=[iM 91 4,iF 92 0 12,iL 93 92,iA 94 (.bGO true 1 1 [(.str [])] [(0,(Tm 93))]),iA 95 (.append 1 16 (Tm 91) (Tm 94)),iM 4 95]
def VH:Rg:=[iM 96 8,iM 97 96,gF 98 1 12 97 true,gL 99 98 97 true,iG 100 (.call 104 [(Tm 99),(Ci 1),(Ci 16)]) 97 true,iP 101 97 100,iM 102 101,gF 103 2 12 102 true,gL 104 103 102 true,iG 105 (.call 104 [(Tm 104),(Ci 1),(Ci 64)]) 102 true,iP 106 102 105,iM 107 106,gF 108 3 12 107 true,gL 109 108 107 true,gF 110 1 1 107 true,gL 111 110 107 true,gN 112 111 107 true,gC 113 .sub 112 1 107 true,iG 114 (.call 104 [(Tm 109),(Ci 0),(Tm 113)]) 107 true,iP 115 107 114,iM 8 115]
def wA:Rg:=[iC 116 .add 87 1,iM 87 116]
def FC:aC:=(sq ayS (.seq (.cond (Tm 88) .skip (.exit 2)) (.seq (.block 3 (sq ayT (sq ayU (.region VH)))) (.region wA))))
def VI:Rg:=[iF 117 3 1,iL 118 117,iA 119 (.slice 7 (Tm 118) (some (Ci 1)) none none),iN 120 119,iI 121 0]
def ayV:Rg:=[iB 122 .lss 121 120]
def ayW:Rg:=[iX 123 7 119 121,iO 124 7 123,iA 14 (.alloc [(.str []),(.int .i64 0),(.int .i64 0),(.int .i64 0),(.bool false),.aB,.aB]),iS 7 14 124]
def ayX:Rg:=[iM 125 5,iF 126 0 14,iL 127 126,iA 128 (.bGO true 1 1 [(.str [])] [(0,(Tm 127))]),iA 129 (.append 1 16 (Tm 125) (Tm 128)),iM 5 129]
def ayY:Rg:=[iC 130 .add 121 1,iM 121 130]
def FD:aC:=(sq ayV (.seq (.cond (Tm 122) .skip (.exit 4)) (.seq (.block 5 (sq ayW (.region ayX))) (.region ayY))))
def VJ:Rg:=[iF 131 4 1,iL 132 131,iN 133 132,iI 134 0]
def ayZ:Rg:=[iB 135 .lss 134 133]
def azA:Rg:=[iX 136 3 132 134,iO 137 3 136,iA 16 (.alloc [(.str []),(.int .i64 0),(.int .i64 0)]),iS 3 16 137]
def azB:Rg:=[iM 138 5,iF 139 0 16,iL 140 139,iA 141 (.bGO true 1 1 [(.str [])] [(0,(Tm 140))]),iA 142 (.append 1 16 (Tm 138) (Tm 141)),iM 5 142]
def VK:Rg:=[iM 143 8,iM 144 143,gF 145 1 16 144 true,gL 146 145 144 true,gF 147 2 1 144 true,gL 148 147 144 true,gN 149 148 144 true,gC 150 .sub 149 1 144 true,iG 151 (.call 104 [(Tm 146),(Ci 0),(Tm 150)]) 144 true,iP 152 144 151,iM 153 152,gF 154 2 16 153 true,gL 155 154 153 true,gF 156 3 1 153 true,gL 157 156 153 true,gN 158 157 153 true,gC 159 .sub 158 1 153 true,iG 160 (.call 104 [(Tm 155),(Ci 0),(Tm 159)]) 153 true,iP 161 153 160,iM 162 161,gF 163 3 1 162 true,gL 164 163 162 true,gF 165 2 16 162 true,gL 166 165 162 true,iG 167 (.bHD 7 (Tm 164) (Tm 166)) 162 true,gF 168 1 167 162 true,gL 169 168 162 true,gC 170 .eql 169 4 162 true,iP 171 162 170,iM 8 171]
def rJ:Rg:=[iC 172 .add 134 1,iM 134 172]
def FF:aC:=(sq ayZ (.seq (.cond (Tm 135) .skip (.exit 6)) (.seq (.block 7 (sq azA (sq azB (.region VK)))) (.region rJ))))
def VL:Rg:=[iF 173 5 1,iL 174 173,iN 175 174,iI 176 0]
def azC:Rg:=[iB 177 .lss 176 175]
def azD:Rg:=[iX 178 17 174 176,iO 179 17 178,iA 18 (.alloc [(.str []),(.int .i64 0),(.int .i64 0),(.int .i64 0),(.int .i64 0),(.int .i64 0),(.int .i64 0),(.int .i64 0),(.int .i64 0),.aB,.aB,(.bool false),.aB,.aB,(.bool false),.aB,.aB]),iS 17 18 179]
def azE:Rg:=[iM 180 6,iF 181 0 18,iL 182 181,iA 183 (.bGO true 1 1 [(.str [])] [(0,(Tm 182))]),iA 184 (.append 1 16 (Tm 180) (Tm 183)),iM 6 184]
def VM:Rg:=[iM 185 8,iM 186 185,gO 187 17 18 186 true,gF 188 2 1 186 true,gL 189 188 186 true,gN 190 189 186 true,gK2 191 112 187 190 186 true,iP 192 186 191,iM 8 192]
def VN:Rg:=[iC 193 .add 176 1,iM 176 193]
def FG:aC:=(sq azC (.seq (.cond (Tm 177) .skip (.exit 8)) (.seq (.block 9 (sq azD (sq azE (.region VM)))) (.region VN))))
def VO:Rg:=[iF 194 6 1,iL 195 194,iN 196 195,iI 197 0]
def azF:Rg:=[iB 198 .lss 197 196]
def azG:Rg:=[iX 199 2 195 197,iO 200 2 199,iA 20 (.alloc [(.str []),(.int .i64 0)]),iS 2 20 200]
def azH:Rg:=[iM 201 7,iF 202 0 20,iL 203 202,iA 204 (.bGO true 1 1 [(.str [])] [(0,(Tm 203))]),iA 205 (.append 1 16 (Tm 201) (Tm 204)),iM 7 205]
def VP:Rg:=[iM 206 8,iM 207 206,gF 208 1 20 207 true,gL 209 208 207 true,gF 210 5 1 207 true,gL 211 210 207 true,gN 212 211 207 true,gC 213 .sub 212 1 207 true,iG 214 (.call 104 [(Tm 209),(Ci 0),(Tm 213)]) 207 true,iP 215 207 214,iM 8 215]
def VQ:Rg:=[iC 216 .add 197 1,iM 197 216]
def FH:aC:=(sq azF (.seq (.cond (Tm 198) .skip (.exit 10)) (.seq (.block 11 (sq azG (sq azH (.region VP)))) (.region VQ))))
def wB:Rg:=[iM 217 8,iA 218 (.un .not (Tm 217)),iM 219 218,gM 220 3 219 false,gK 221 110 220 219 false,iG 222 (.un .not (Tm 221)) 219 false,iQ 223 219 222,iM 224 223,gM 225 4 224 false,gK 226 110 225 224 false,iG 227 (.un .not (Tm 226)) 224 false,iQ 228 224 227,iM 229 228,gM 230 5 229 false,gK 231 110 230 229 false,iG 232 (.un .not (Tm 231)) 229 false,iQ 233 229 232,iM 234 233,gM 235 6 234 false,gK 236 110 235 234 false,iG 237 (.un .not (Tm 236)) 234 false,iQ 238 234 237,iM 239 238,gM 240 7 239 false,gK 241 110 240 239 false,iG 242 (.un .not (Tm 241)) 239 false,iQ 243 239 242]
def lM:Rg:=[iI 2 1]
def FI:Rg:=[iI 2 0]
def LJ:aC:=(sq aOG (.seq (sq aOH (.cond (Tm 65) (sq nH .ret) .skip)) (sq aOI (sq aOJ (.seq (sq aiB (.block 0 (.loop FB))) (.seq (sq VG (.block 2 (.loop FC))) (.seq (sq VI (.block 4 (.loop FD))) (.seq (sq VJ (.block 6 (.loop FF))) (.seq (sq VL (.block 8 (.loop FG))) (.seq (sq VO (.block 10 (.loop FH))) (.seq (sq wB (.cond (Tm 243) (sq lM .ret) .skip)) (sq FI .ret))))))))))))
def blJ:List Nat:=[1,76,94,128,141,183,204]
def ayR:aV:=⟨1,244,LJ,[.tmp 2]⟩
@[go_sem] theorem btI (a b:List UInt8):JP .eql a b=some (.bool (a==b)):=(rfl)
@[go_sem] theorem btJ (a b:List UInt8):JP .neq a b=some (.bool !(a==b)):=(rfl)
@[go_sem] theorem btH (a b:List UInt8):JP .add a b=if ((a.length+b.length:Nat):Int)>9223372036854775807 then none else some (.str (a++b)):=(rfl)
@[go_sem] theorem bpJ:(([]:List UInt8)==[])=true:=(rfl)
@[go_sem] theorem bjY (c:UInt8) (t:List UInt8):((c::t)==[])=false:=(rfl)
theorem nD {a b:List UInt8} (h:a=b):(a==b)=true:=by simp[h]
theorem YE {a b:List UInt8} (h:a≠b):(a==b)=false:=by simp[h]
section
variable {C:Ctx} {F:PF} {H:PH}
theorem oO {name o s:Nat} {rs:List (List PV)} {vs:List PV} {v:PV} {args:List aP} {d:Option Nat} {K:PF→PH→Prop} (h:aD C name vs .nil (aE v)) (ho:H o=some (.rows s rs))
  (ha:aP.evs (F.frz o s rs) args=some vs) (hK:K ((F.frz o s rs).put d v) (H.frz o s rs)):fU C name args [] d K F H:=by
 refine .inr ⟨_,_,.step o ho (.refl _ _),vs,.nil,aE v,?_,PH.nil_le,h,?_⟩
 ·rw[ha]; simp
 ·rintro r H' ⟨rfl,rfl⟩ -
  rw[PH.kS]
  exact hK
theorem hJ.trans {F1 F2 F3:PF} {H1 H2 H3:PH} (h:hJ F1 H1 F2 H2) (k:hJ F2 H2 F3 H3):hJ F1 H1 F3 H3:=by
 induction h with
 | refl=>exact k
 | step o ho h ih=>exact .step o ho (ih k)
theorem nY {c:aC} {K:cN} {s:Nat} {v:PV} {rows:List (List PV)} (ho:bM H s v rows)
  (h:∀ v1,Seen s v1 rows→∀ F1 H1,(∀ t,F t=some v→F1 t=some v1)→(∀ i u,F i=some u→Pure u→F1 i=some u)→aC.wp C (.loop c) K F1 H1):aC.wp C (.loop c) K F H:=by
 obtain⟨v1,hs,hf⟩:=ho.frz
 obtain⟨F1,H1,hz,h1,h2⟩:=hf F
 obtain⟨α,Fs,Hs,Pr,m,a0,F2,H2,hz2,rest⟩:=h v1 hs F1 H1 h1 h2
 exact⟨α,Fs,Hs,Pr,m,a0,F2,H2,hz.trans hz2,rest⟩
theorem aD.aZL {name s:Nat} {v:PV} {rows:List (List PV)} {H0:PH} {R:PV→PH→Prop} (h:aD C name [.sl s rows] H0 R) (hs:Seen s v rows):aD C name [v] H0 R:=by
 rcases hs with ⟨rfl,rfl⟩ | rfl
 ·refine h.args ⟨rfl,fun j p q hp hq=>?_⟩
  cases j with
  | zero=>simp at hp hq; subst hp; subst hq; exact .nil s
  | succ j=>simp at hp
 ·exact h
theorem bM.fresh {s:Nat} {v:PV} {rows:List (List PV)} {o:Nat} (h:bM H s v rows) (ho:H o=none) (x:cP):bM (H.set o x) s v rows∧∀ l,v≠.osl o s 0 l:=by
 refine⟨h.ext fun q y hq=>?_,fun l e=>?_⟩
 ·have:q≠o:=by rintro rfl; rw[ho] at hq; cases hq
  simp only[bH,if_neg this,hq]
 ·rcases h with ⟨_,h2⟩ | ⟨q,rs,h1,h2,_⟩
  ·rw[h2] at e; cases e
  ·rw[h1] at e
   injection e with e1
   subst e1
   rw[ho] at h2; cases h2
theorem kZ {s b:Nat} {v:PV} {rows:List (List PV)} {r:List PV} {o:Nat} {x:cP} {K:PV→PH→Prop} (h:bM H s v rows) (ho:H o=none) (hr:roomFor rows.length 1 b)
  (hk:∀ v' H',bM H' s v' (rows++[r])→H' o=some x→K v' H'):lT (H.set o x) s b v (.sl s [r]) K:=by
 obtain⟨h1,h2⟩:=h.fresh ho x
 refine fR (src:=[r]) h1 (by simp[dO]) hr fun v' H' hO hp=>hk v' H' hO (hp o x (by simp only[bH,if_true]) h2)
theorem pH {o s k:Nat} {rs:List (List PV)} (hk:k≤rs.length):PV.frz o s rs (.osl o s 0 k)=.sl s (rs.take k):=by
 have:0+k≤rs.length:=by omega
 simp only[PV.frz,PV.rF,PV.dB,if_true,true_and,if_pos this,bJO]
end
open Go Go.Na
def eR (n:Nat):Bool:=decide (97≤n)&&decide (n≤122)||decide (65≤n)&&decide (n≤90)
def kK (n:Nat):Bool:=decide (48≤n)&&decide (n≤57)
def fB (n:Nat):Bool:=eR n||kK n||decide (n=45)||decide (n=46)
theorem aXS {C:Ctx} (n:Nat):jY.wp C (aU vC.res (aE (.bool (eR n)))) (PF.args [.int .u8 n]) .nil:=by
 have fin:∀ (F:PF) (b:Bool),F 2=some (.bool b)→b=eR n→aU vC.res (aE (.bool (eR n))) .ret F .nil:=by
  intro F b h e
  subst e
  refine aM (.inr rfl) (vs:=[.bool (eR n)]) (by simp only[go_sem,vC,h]) rfl
 unfold eR at *
 by_cases a:97≤n
 ·have a':(n:Int)≥97:=by omega
  by_cases b:n≤122
  ·have b':(n:Int)≤122:=by omega
   simp only[go_sem,γ,reduceCtorEq,jY,nJ,nK,a',b']
   exact fin _ _ rfl (by simp[a,b])
  ·have b':¬ (n:Int)≤122:=by omega
   by_cases c:65≤n
   ·have c':(n:Int)≥65:=by omega
    have d:¬ (n:Int)≤90:=by omega
    simp only[go_sem,γ,reduceCtorEq,jY,nJ,nK,a',b',c',d]
    exact fin _ _ rfl (by simp[a,b,c]; omega)
   ·omega
 ·have a':¬ (n:Int)≥97:=by omega
  by_cases c:65≤n
  ·have c':(n:Int)≥65:=by omega
   by_cases d:n≤90
   ·have d':(n:Int)≤90:=by omega
    simp only[go_sem,γ,reduceCtorEq,jY,nJ,nK,a',c',d']
    exact fin _ _ rfl (by simp[a,c,d])
   ·have d':¬ (n:Int)≤90:=by omega
    simp only[go_sem,γ,reduceCtorEq,jY,nJ,nK,a',c',d']
    exact fin _ _ rfl (by simp[a,c,d])
  ·have c':¬ (n:Int)≥65:=by omega
   simp only[go_sem,γ,reduceCtorEq,jY,nJ,nK,a',c']
   exact fin _ _ rfl (by simp[a,c])
theorem a5A {C:Ctx} (n:Nat):oJ.wp C (aU BT.res (aE (.bool (kK n)))) (PF.args [.int .u8 n]) .nil:=by
 have fin:∀ (F:PF) (b:Bool),F 2=some (.bool b)→b=kK n→aU BT.res (aE (.bool (kK n))) .ret F .nil:=by
  intro F b h e
  subst e
  refine aM (.inr rfl) (vs:=[.bool (kK n)]) (by simp only[go_sem,BT,h]) rfl
 unfold kK at *
 by_cases a:48≤n
 ·have a':(n:Int)≥48:=by omega
  by_cases b:n≤57
  ·have b':(n:Int)≤57:=by omega
   simp only[go_sem,γ,reduceCtorEq,oJ,xT,xU,a',b']
   exact fin _ _ rfl (by simp[a,b])
  ·have b':¬ (n:Int)≤57:=by omega
   simp only[go_sem,γ,reduceCtorEq,oJ,xT,xU,a',b']
   exact fin _ _ rfl (by simp[a,b])
 ·have a':¬ (n:Int)≥48:=by omega
  simp only[go_sem,γ,reduceCtorEq,oJ,xT,xU,a']
  exact fin _ _ rfl (by simp[a])
theorem a5I {C:Ctx} (h1:∀ n:Nat,aD C 126 [.int .u8 n] .nil (aE (.bool (eR n)))) (h2:∀ n:Nat,aD C 124 [.int .u8 n] .nil (aE (.bool (kK n)))) (n:Nat) :
  zF.wp C (aU BU.res (aE (.bool (fB n)))) (PF.args [.int .u8 n]) .nil:=by
 have fin:∀ (F:PF) (b:Bool),F 2=some (.bool b)→b=fB n→aU BU.res (aE (.bool (fB n))) .ret F .nil:=by
  intro F b h e
  subst e
  refine aM (.inr rfl) (vs:=[.bool (fB n)]) (by simp only[go_sem,BU,h]) rfl
 simp only[go_sem,reduceCtorEq,zF,amW,amX]
 refine aA (h1 n) rfl ?_
 cases hl:eR n with
 | true =>
  simp only[go_sem,γ]
  exact fin _ _ rfl (by simp[fB,hl])
 | false =>
  simp only[go_sem,γ,reduceCtorEq]
  refine aA (h2 n) rfl ?_
  cases hd:kK n with
  | true =>
   simp only[go_sem,γ,reduceCtorEq]
   exact fin _ _ rfl (by simp[fB,hd])
  | false =>
   by_cases c:n=45
   ·simp only[go_sem,γ,reduceCtorEq,bS (Om:(n:Int)=45)]
    exact fin _ _ rfl (by simp[fB,c])
   ·by_cases d:n=46
    ·simp only[go_sem,γ,reduceCtorEq,bF (Om:(n:Int)≠45),bS (Om:(n:Int)=46)]
     exact fin _ _ rfl (by simp[fB,d])
    ·simp only[go_sem,γ,reduceCtorEq,bF (Om:(n:Int)≠45),bF (Om:(n:Int)≠46)]
     exact fin _ _ rfl (by simp[fB,c,d,hl,hd])
def isName (s:List UInt8):Bool:=match s with
 | []=>false
 | c::_=>decide (s.length≤16)&&eR c.toNat&&s.all fun c=>fB c.toNat
theorem mP {α:Type} {p:α→Bool} {l:List α} {k:Nat} (hk:k<l.length) (h:(l.take k).all p=true) (hp:p l[k]=true):(l.take (k+1)).all p=true:=by
 rw[bKK hk,List.all_append,h]; simp[hp]
theorem mQ {α:Type} {p:α→Bool} {l:List α} {k:Nat} (hk:k<l.length) (hp:p l[k]=false):l.all p=false:=by
 rw[List.all_eq_false]
 exact⟨l[k],bIR hk,by simp[hp]⟩
def azZ (s:List UInt8) (k:Nat):PF:=((PF.nil.set 0 (.str s)).set 3 (.int .i64 k))
theorem beP {C:Ctx} (h1:∀ n:Nat,aD C 126 [.int .u8 n] .nil (aE (.bool (eR n)))) (h2:∀ n:Nat,aD C 125 [.int .u8 n] .nil (aE (.bool (fB n)))) (s:List UInt8) :
  qJ.wp C (aU QV.res (aE (.bool (isName s)))) (PF.args [.str s]) .nil:=by
 have fin:∀ (F:PF) (b:Bool),F 2=some (.bool b)→b=isName s→aU QV.res (aE (.bool (isName s))) .ret F .nil:=by
  intro F b h e
  subst e
  refine aM (.inr rfl) (vs:=[.bool (isName s)]) (by simp only[go_sem,QV,h]) rfl
 cases s with
 | nil =>
  simp only[go_sem,γ,reduceCtorEq,qJ,FO,FP,FQ]
  exact fin _ _ rfl rfl
 | cons c t =>
  have hz:(c::t)[0]?=some c:=rfl
  have hne:(c::t==[])=false:=rfl
  have hN:isName (c::t)=(decide ((c::t).length≤16)&&eR c.toNat&&(c::t).all fun c=>fB c.toNat):=rfl
  generalize c::t=s at *
  by_cases hl:s.length≤16
  ·have hl':¬ ((s.length:Nat):Int)>16:=by omega
   rw[decide_eq_true hl,bIY] at hN
   simp only[go_sem,ν,γ,reduceCtorEq,qJ,FO,FP,hne,hl',hz,bJW]
   refine aA (h1 c.toNat) rfl ?_
   cases hc:eR c.toNat with
   | false =>
    simp only[go_sem,γ,reduceCtorEq,bJB,FQ]
    exact fin _ _ rfl (by rw[hN,hc]; rfl)
   | true =>
    rw[hc,bIY] at hN
    simp only[go_sem,γ,reduceCtorEq,bIV,aAB]
    refine wp_loop (α:=Nat) (fun k=>azZ s k) (fun _=>.nil) (fun k=>k≤s.length∧(s.take k).all (fun c=>fB c.toNat)=true) (fun k=>s.length-k) 0 ⟨bIX _,rfl⟩ ?_ PH.nil_le ?_
    ·unfold azZ
     exact Lq
    rintro k ⟨hk,ha⟩
    simp only[go_sem,γ,reduceCtorEq,aAA,aAC,azZ]
    by_cases hlt:k<s.length
    ·have bGP:(k:Int)<(s.length:Nat):=by omega
     have hg:s[k]?=some s[k]:=bIW hlt
     simp only[go_sem,γ,reduceCtorEq,bGP,aAD,hg,bJW]
     refine aA (h2 (s[k]).toNat) rfl ?_
     cases hi:fB (s[k]).toNat with
     | false =>
      simp only[go_sem,γ,reduceCtorEq,bJB,aAE]
      refine fin _ false rfl ?_
      rw[hN,mQ hlt hi]
     | true =>
      simp only[go_sem,γ,reduceCtorEq,bIV,aAF,wZz k]
      refine aK (k+1) ⟨hlt,bJJ.1 (mP hlt ha hi)⟩ Om ?_ PH.nil_le
      exact Lq
    ·have bGP:¬ (k:Int)<(s.length:Nat):=by omega
     simp only[go_sem,bGP,aAG]
     have:k=s.length:=by omega
     subst this
     rw[bJD (bIO _)] at ha
     exact fin _ true rfl (by rw[hN,ha])
  ·have hl':((s.length:Nat):Int)>16:=by omega
   simp only[go_sem,γ,reduceCtorEq,qJ,FO,FP,FQ,hne,hl']
   exact fin _ _ rfl (by rw[hN,decide_eq_false hl]; rfl)
abbrev cU (x:Int):Prop:=-9223372036854775808≤x∧x≤9223372036854775807
structure cI where
 name:List UInt8
 start:List RF
 bGN:List (List RF)
 exit:List RF
structure cS where
 name:List UInt8
 bHC:Int
 port:Int
 law:Int
structure bR where
 name:List UInt8
 level:Int
 parent:Int
 bHI:Int
 bHA:RF
structure cC where
 name:List UInt8
 model:Int
 machine:Int
structure cY where
 name:List UInt8
 k:Int
 m:Int
 bHM:Int
 s0:Int
 s1:Int
 s2:Int
 s3:Int
 s4:Int
 bGJ:List Int
 repair:List RF
 target:RF
 bGU:RF
structure dZ where
 name:List UInt8
 bGW:Int
structure aL where
 bHW:Int
 bGR:List cI
 bGJ:List cS
 bGL:List bR
 bGI:List cC
 bGM:List cY
 bGK:List dZ
abbrev aZH (l:List (List RF)):PV:=.sl 1 (l.map fun r=>[frs r])
abbrev cI.cells (x:cI):List PV:=[.str x.name,frs x.start,aZH x.bGN,frs x.exit]
abbrev cS.cells (x:cS):List PV:=[.str x.name,.int .i64 x.bHC,.int .i64 x.port,.int .i64 x.law]
abbrev bR.cells (x:bR):List PV:=[.str x.name,.int .i64 x.level,.int .i64 x.parent,.int .i64 x.bHI,.bool x.bHA.neg,aF x.bHA.num,aF x.bHA.den]
abbrev cC.cells (x:cC):List PV:=[.str x.name,.int .i64 x.model,.int .i64 x.machine]
abbrev cY.cells (x:cY):List PV:=[.str x.name,.int .i64 x.k,.int .i64 x.m,.int .i64 x.bHM,.int .i64 x.s0,.int .i64 x.s1,.int .i64 x.s2,.int .i64 x.s3,.int .i64 x.s4,ints x.bGJ,frs x.repair,
 .bool x.target.neg,aF x.target.num,aF x.target.den,.bool x.bGU.neg,aF x.bGU.num,aF x.bGU.den]
abbrev dZ.cells (x:dZ):List PV:=[.str x.name,.int .i64 x.bGW]
abbrev aL.cells (f:aL):List PV:=[.int .i64 f.bHW,.sl 4 (f.bGR.map cI.cells),.sl 4 (f.bGJ.map cS.cells),.sl 7 (f.bGL.map bR.cells),.sl 3 (f.bGI.map cC.cells),.sl 17 (f.bGM.map cY.cells),.sl 2 (f.bGK.map dZ.cells)]
def cY.spread (p:cY) (level:Nat):Int:=match level with
 | 0=>p.s0
 | 1=>p.s1
 | 2=>p.s2
 | 3=>p.s3
 | _=>p.s4
abbrev Fits {α:Type} (l:List α):Prop:=l.length≤9223372036854775807
structure iY (l:List RF):Prop where
 fits:Fits l
 all:∀ x∈l,x.Ok
structure cI.Ok (x:cI):Prop where
 start:iY x.start
 exit:iY x.exit
 bGN:Fits x.bGN
 row:∀ r∈x.bGN,iY r
structure cY.Ok (x:cY):Prop where
 k:cU x.k
 m:cU x.m
 bHM:cU x.bHM
 bGJ:Fits x.bGJ
 each:∀ m∈x.bGJ,cU m
 repair:iY x.repair
 target:x.target.Ok
 bGU:x.bGU.Ok
structure aL.Ok (f:aL):Prop where
 bGR:Fits f.bGR
 bGJ:Fits f.bGJ
 bGL:Fits f.bGL
 bGI:Fits f.bGI
 bGM:Fits f.bGM
 bGK:Fits f.bGK
 law:∀ x∈f.bGR,x.Ok
 dom:∀ x∈f.bGL,x.bHA.Ok∧cU x.level∧cU x.parent
 drive:∀ x∈f.bGI,cU x.model∧cU x.machine
 bGW:∀ x∈f.bGM,x.Ok
 volume:∀ x∈f.bGK,cU x.bGW
def mG (x:RF):FR:=if cM (val x.num) (val x.den) then fZ x.neg (val x.num) (val x.den) else .error 1
theorem aYZ (x:RF):QX x.neg (val x.num) (val x.den)=frV (mG x):=by
 unfold QX mG
 split
 ·exact aiH _ _ _
 ·rfl
def cG (x:RF):Bool:=match mG x with
 | .ok (n,a,b)=>!n&&(decide (cD a≤32)&&decide (cD b≤32))
 | .error _=>false
def cA (x:RF):Bool:=decide (val x.num≠0)
def rN (x:RF):Bool:=cM (val x.num) (val x.den)&&decide (oY x.neg (val x.num) (val x.den) false 1 1≤0)
def within (n lo hi:Int):Bool:=decide (lo≤n)&&decide (n≤hi)
def cO (R:List Bool) (i:Nat) (row:List RF):Nat→List Bool
 | 0=>R
 | k+1=>let R':=cO R i row k
  R'.set i (R'.getD i false||(row.map cA).getD k false&&R'.getD k false)
def wK (l:cI) (R:List Bool) (i:Nat):List Bool :=
 cO (R.set i (R.getD i false||(l.exit.map cA).getD i false)) i (l.bGN.getD i []) (l.bGN.getD i []).length
def cW (l:cI) (R:List Bool):Nat→List Bool
 | 0=>R
 | i+1=>wK l (cW l R i) i
def dD (l:cI):Nat→List Bool
 | 0=>bIP l.exit.length false
 | r+1=>cW l (dD l r) l.exit.length
def tY (l:cI):Bool:=(dD l (l.exit.length+1)).all id
def jX (l:cI):Bool :=
 within l.start.length 1 4&&decide (l.exit.length=l.start.length)&&decide (l.bGN.length=l.start.length)&&l.start.all cG&&l.exit.all cG
 && (bIN l.bGN.length).all (fun i=>decide ((l.bGN.getD i []).length=l.start.length)&&(l.bGN.getD i []).all cG&&!((l.bGN.getD i []).map cA).getD i false)
 && (match nA (l.start.map RF.v) with
  | .ok (n,a,b)=>decide (oY n a b false 1 1=0)
  | .error _=>false)&&tY l
def distinct (l:List (List UInt8)):Bool:=(bIN l.length).all fun i=>isName (l.getD i [])&&!(l.take i).contains (l.getD i [])
def EG (f:aL) (i:Nat) (d:bR):Bool :=
 within d.parent 0 i&&decide ((f.bGL.map bR.level).getD d.parent.toNat 0=IntKind.i64.wrap (d.level-1))&&within d.level 1 4&&within d.bHI 1 64&&cG d.bHA
def xG (f:aL) (r:bR) (t:List bR):Bool :=
 decide (r.name=[])&&decide (r.level=0)&&decide (r.parent=-1)&&decide (r.bHI=0)&&cG r.bHA&&!cA r.bHA
  && (bIN t.length).all fun i=>match t[i]? with
   | some d=>EG f i d
   | none=>false
def mJ (f:aL):Bool:=match f.bGL with
 | []=>false
 | r::t=>xG f r t
def GF (p:cY):Bool :=
 within p.k 1 6&&within p.m 0 4&&decide (p.k+p.m≤8)&&within p.bHM p.k (p.k+p.m)&&decide (p.s0=0)&&([p.s0,p.s1,p.s2,p.s3,p.s4].all fun n=>within n 0 8)
def xZ (p:cY):Bool :=
 decide ((p.repair.length:Int)=max p.m 1)&&(p.repair.all fun x=>cG x&&cA x)&&cG p.target&&rN p.target&&cG p.bGU
def iD (bGJ:Nat) (p:cY):Bool :=
 GF p&&decide (p.bGJ.length≠0)&&xZ p&&(bIN p.bGJ.length).all fun j=>within (p.bGJ.getD j 0) 0 ((bGJ:Int)-1)&&!(p.bGJ.take j).contains (p.bGJ.getD j 0)
def iW (f:aL) (m:cS):Bool:=within m.bHC 1 16&&within m.port 1 64&&within m.law 0 ((f.bGR.length:Int)-1)
def gD (f:aL) (d:cC):Bool:=within d.model 0 ((f.bGJ.length:Int)-1)&&within d.machine 0 ((f.bGL.length:Int)-1)&&decide ((f.bGL.map bR.level).getD d.machine.toNat 0=4)
def mH (f:aL) (v:dZ):Bool:=within v.bGW 0 ((f.bGM.length:Int)-1)
def lF (f:aL):Bool:=within f.bHW 1 4&&decide (f.bGR.length≤4)&&decide (f.bGJ.length≤4)&&decide (f.bGL.length≤40)&&decide (f.bGI.length≤24)&&decide (f.bGM.length≤4)&&decide (f.bGK.length≤12)
def dS (f:aL):Bool :=
 lF f&&mJ f&&(f.bGR.all jX&&f.bGJ.all (iW f)&&f.bGI.all (gD f)&&f.bGM.all (iD f.bGJ.length)&&f.bGK.all (mH f))
 && (distinct (f.bGR.map cI.name)&&distinct (f.bGJ.map cS.name)&&distinct ((f.bGL.drop 1).map bR.name++f.bGI.map cC.name)&&distinct (f.bGM.map cY.name)&&distinct (f.bGK.map dZ.name))
theorem bA {t:Nat} {b b':Bool} {F:PF} {H:PH} (h:F t=some (.bool b)) (e:b=b'):aU [.tmp t] (bZ (.bool b')) .ret F H:=by
 subst e
 exact aW (.inr rfl) .nil (vs:=[.bool b]) (by rw[kU,nP,h,pN]) PH.nil_le ⟨.refl _,rfl⟩
theorem bpY {C:Ctx} (n lo hi:Int):vX.wp C (aU gin.res (bZ (.bool (within n lo hi)))) (PF.args [.int .i64 n,.int .i64 lo,.int .i64 hi]) .nil:=by
 by_cases a:lo≤n
 ·by_cases b:n≤hi
  ·simp only[go_sem,γ,reduceCtorEq,vX,aaT,aaU,gin,show n≥lo from a,b]
   exact bA rfl (by simp[within,a,b])
  ·simp only[go_sem,γ,reduceCtorEq,vX,aaT,aaU,gin,show n≥lo from a,b]
   exact bA rfl (by simp[within,a,b])
 ·have a':¬ n≥lo:=a
  simp only[go_sem,γ,reduceCtorEq,vX,aaT,aaU,gin,a']
  exact bA rfl (by simp[within,a])
theorem a4N {C:Ctx} (L:pZ C) (x:RF) (hx:x.Ok):zC.wp C (aU KW.res (bZ (.bool (cA x)))) (PF.args [.agg x.cells]) .nil:=by
 simp only[go_sem,δ,γ,θ,zC,alS,alT,KW]
 refine aA (L.bits x.num hx.1 hx.2.2.1) rfl ?_
 simp only[go_sem,γ]
 refine bA rfl ?_
 have:=@iV (val x.num)
 rw[cA,decide_eq_decide]
 omega
structure asY (C:Ctx):Prop extends CU C where
 frac:∀ n d:Int,cU n→cU d→aD C 115 [.int .i64 n,.int .i64 d] .nil (aE (abP n d))
 red:∀ x:RF,x.Ok→aD C 116 [.agg x.cells] .nil (aE (frV (mG x)))
 ord:∀ x y:RF,x.Ok→y.Ok→aD C 114 [.agg x.cells,.agg y.cells] .nil (aE (xK x.neg (val x.num) (val x.den) y.neg (val y.num) (val y.den)))
 plus:∀ x y:RF,x.Ok→y.Ok→aD C 113 [.agg x.cells,.agg y.cells] .nil (aE (frV (gJ x.v y.v)))
 tot:∀ l:List RF,iY l→aD C 117 [frs l] .nil (aE (frV (nA (l.map RF.v))))
theorem FS {neg:Bool} {a b:Nat} {e:Int} (h:fZ neg a b=.error e):e=2:=by
 unfold fZ at h
 split at h
 ·injection h with h; exact h.symm
 ·cases h
theorem aEA {x:RF} {e:Int} (h:mG x=.error e):e≠0:=by
 unfold mG at h
 split at h
 ·rw[FS h]; decide
 ·injection h with h; subst h; decide
theorem bnH {x:RF} {r:FV} (h:mG x=.ok r):r.rf.Ok:=by
 unfold mG at h
 split at h
 ·exact (qK h).2
 ·cases h
theorem blA {C:Ctx} (L:asY C) (x:RF) (hx:x.Ok):LD.wp C (aU axY.res (bZ (.bool (cG x)))) (PF.args [.agg x.cells]) .nil:=by
 simp only[go_sem,δ,γ,LD,aNQ,aNR,axY]
 refine aA (L.red x hx) rfl ?_
 unfold cG
 cases hr:mG x with
 | error e =>
  have:=bF (aEA hr)
  simp only[go_sem,δ,γ,frV]
  refine aQ fun o ho=>?_
  simp only[go_sem,δ,γ,reduceCtorEq,QR,this]
  exact bA rfl rfl
 | ok r =>
  obtain⟨n,a,b⟩:=r
  obtain⟨l1,l2,l3,l4⟩:=bnH hr
  simp only[go_sem,δ,γ,frV]
  refine aQ fun o ho=>?_
  cases n with
  | true =>
   simp only[go_sem,ρ,δ,γ,θ,reduceCtorEq,QR]
   exact bA rfl rfl
  | false =>
   simp only[go_sem,ρ,δ,γ,θ,QR]
   refine aA (L.bits _ l1 l3) rfl ?_
   rw[show val (FV.rf (false,a,b)).num=a from aR a]
   by_cases c1:cD a≤32
   ·have c1':((cD a:Nat):Int)≤32:=by omega
    simp only[go_sem,δ,γ,c1']
    refine aA (L.bits _ l2 l4) rfl ?_
    rw[show val (FV.rf (false,a,b)).den=b from aR b]
    simp only[go_sem,γ]
    refine bA rfl ?_
    rw[decide_eq_true c1]
    simp
    omega
   ·have c1':¬ ((cD a:Nat):Int)≤32:=by omega
    simp only[go_sem,γ,reduceCtorEq,c1']
    refine bA rfl ?_
    rw[decide_eq_false c1]
    rfl
theorem aAI:fZ false 1 1=.ok (false,1,1):=by
 have:cD 1=1:=by rw[mR (by decide),gY]
 simp[fZ,this]
theorem aAN:abP 1 1=frV (.ok (false,1,1)):=by
 rw[abP,if_neg (by decide),aiH]
 show frV (fZ false 1 1)=_
 rw[aAI]
theorem a6L:(FV.rf (false,1,1)).Ok:=(qK aAI).2
theorem aqD:cM 1 1=true:=by
 have:cD 1=1:=by rw[mR (by decide),gY]
 simp[cM,this]
theorem blE {C:Ctx} (L:asY C) (x:RF) (hx:x.Ok):LF.wp C (aU gone.res (bZ (.bool (rN x)))) (PF.args [.agg x.cells]) .nil:=by
 simp only[go_sem,LF,aNV,aNW,gone]
 refine aA (L.frac 1 1 (by decide) (by decide)) rfl ?_
 rw[aAN]
 simp only[go_sem,δ,γ,frV]
 refine aQ fun o ho=>?_
 simp only[go_sem,δ,γ,aNX]
 refine aA (L.ord x (FV.rf (false,1,1)) hx a6L) rfl ?_
 rw[show val (FV.rf (false,1,1)).num=1 from aR 1,show val (FV.rf (false,1,1)).den=1 from aR 1,show (FV.rf (false,1,1)).neg=false from rfl]
 unfold xK rN
 rw[aqD,bKL]
 cases hv:cM (val x.num) (val x.den) with
 | false =>
  simp only[go_sem,ρ,γ,reduceCtorEq,ahZ]
  exact bA rfl rfl
 | true =>
  simp only[go_sem,ρ,γ,ahZ]
  exact bA rfl rfl
theorem bdN {C:Ctx} (p:RF→Bool) (fn:Nat) (l:List RF) (hf:Fits l) (h:∀ x∈l,aD C fn [.agg x.cells] .nil (aE (.bool (p x)))) :
  ET.wp C (aU aaQ.res (bZ (.bool (l.all p)))) (PF.args [frs l,.fn fn []]) .nil:=by
 simp only[go_sem,γ,reduceCtorEq,ET,awV,awW,aaQ]
 refine wp_loop (α:=Nat) (fun k=>((((PF.nil.set 1 (.fn fn [])).set 7 (frs l)).set 8 (.int .i64 (l.length:Nat))).set 9 (.int .i64 k))) (fun _=>.nil) (fun k=>k≤l.length∧(l.take k).all p=true) (fun k=>l.length-k) 0 ⟨bIX _,rfl⟩ ?_ PH.nil_le ?_
 ·(repeat' (first|exact PF.nil_le|refine PF.aI ?_ ?_))<;>first|(simp only[go_sem,γ,bIM]<;>rfl)|rfl
 rintro k ⟨hk,ha⟩
 simp only[go_sem,γ,awU,awX]
 by_cases hlt:k<l.length
 ·have bGP:(k:Int)<(l.length:Nat):=by omega
  have hr:(l.map RF.cells)[k]?=some (l[k]).cells:=by simp[hlt]
  simp only[go_sem,δ,γ,bGP,awY,hr]
  refine aQ fun o ho=>?_
  simp only[go_sem,δ,γ,awZ]
  refine⟨fn,[],rfl,?_⟩
  refine aA (h _ (bIR hlt)) rfl ?_
  cases hp:p l[k] with
  | false =>
   simp only[go_sem,γ,axA]
   exact bA (b:=false) rfl (mQ (p:=p) hlt hp).symm
  | true =>
   simp only[go_sem,γ,axB,wZz k]
   refine aK (k+1) ⟨hlt,bJJ.1 (mP hlt ha hp)⟩ Om ?_ PH.nil_le
   exact Lq
 ·have bGP:¬ (k:Int)<(l.length:Nat):=by omega
  simp only[go_sem,bGP,axC]
  have:k=l.length:=by omega
  subst this
  rw[bJD (bIO _)] at ha
  exact bA rfl ha.symm
theorem bdP {C:Ctx} (p:Int→Bool) (fn:Nat) (l:List Int) (hf:Fits l) (h:∀ x∈l,aD C fn [.int .i64 x] .nil (aE (.bool (p x)))) :
  EU.wp C (aU aaR.res (bZ (.bool (l.all p)))) (PF.args [ints l,.fn fn []]) .nil:=by
 simp only[go_sem,γ,reduceCtorEq,EU,axE,axF,aaR]
 refine wp_loop (α:=Nat) (fun k=>((((PF.nil.set 1 (.fn fn [])).set 7 (ints l)).set 8 (.int .i64 (l.length:Nat))).set 9 (.int .i64 k))) (fun _=>.nil) (fun k=>k≤l.length∧(l.take k).all p=true) (fun k=>l.length-k) 0 ⟨bIX _,rfl⟩ ?_ PH.nil_le ?_
 ·(repeat' (first|exact PF.nil_le|refine PF.aI ?_ ?_))<;>first|(simp only[go_sem,γ,bIM]<;>rfl)|rfl
 rintro k ⟨hk,ha⟩
 simp only[go_sem,γ,axD,axG]
 by_cases hlt:k<l.length
 ·have bGP:(k:Int)<(l.length:Nat):=by omega
  have hr:(l.map fun n=>[PV.int .i64 n])[k]?=some [.int .i64 l[k]]:=by simp[hlt]
  simp only[go_sem,γ,bGP,axH,hr,axI]
  refine⟨fn,[],rfl,?_⟩
  refine aA (h _ (bIR hlt)) rfl ?_
  cases hp:p l[k] with
  | false =>
   simp only[go_sem,γ,axJ]
   exact bA (b:=false) rfl (mQ (p:=p) hlt hp).symm
  | true =>
   simp only[go_sem,γ,axK,wZz k]
   refine aK (k+1) ⟨hlt,bJJ.1 (mP hlt ha hp)⟩ Om ?_ PH.nil_le
   exact Lq
 ·have bGP:¬ (k:Int)<(l.length:Nat):=by omega
  simp only[go_sem,bGP,axL]
  have:k=l.length:=by omega
  subst this
  rw[bJD (bIO _)] at ha
  exact bA rfl ha.symm
abbrev aVY (l:List Bool):PV:=.sl 1 (l.map fun b=>[PV.bool b])
theorem bdL {C:Ctx} (p:Bool→Bool) (fn:Nat) (l:List Bool) (hf:Fits l) (h:∀ x∈l,aD C fn [.bool x] .nil (aE (.bool (p x)))) :
  ES.wp C (aU aaP.res (bZ (.bool (l.all p)))) (PF.args [aVY l,.fn fn []]) .nil:=by
 simp only[go_sem,γ,reduceCtorEq,ES,awM,awN,aaP]
 refine wp_loop (α:=Nat) (fun k=>((((PF.nil.set 1 (.fn fn [])).set 7 (aVY l)).set 8 (.int .i64 (l.length:Nat))).set 9 (.int .i64 k))) (fun _=>.nil) (fun k=>k≤l.length∧(l.take k).all p=true) (fun k=>l.length-k) 0 ⟨bIX _,rfl⟩ ?_ PH.nil_le ?_
 ·(repeat' (first|exact PF.nil_le|refine PF.aI ?_ ?_))<;>first|(simp only[go_sem,γ,bIM]<;>rfl)|rfl
 rintro k ⟨hk,ha⟩
 simp only[go_sem,γ,awL,awO]
 by_cases hlt:k<l.length
 ·have bGP:(k:Int)<(l.length:Nat):=by omega
  have hr:(l.map fun b=>[PV.bool b])[k]?=some [.bool l[k]]:=by simp[hlt]
  simp only[go_sem,γ,bGP,awP,hr,awQ]
  refine⟨fn,[],rfl,?_⟩
  refine aA (h _ (bIR hlt)) rfl ?_
  cases hp:p l[k] with
  | false =>
   simp only[go_sem,γ,awR]
   exact bA (b:=false) rfl (mQ (p:=p) hlt hp).symm
  | true =>
   simp only[go_sem,γ,awS,wZz k]
   refine aK (k+1) ⟨hlt,bJJ.1 (mP hlt ha hp)⟩ Om ?_ PH.nil_le
   exact Lq
 ·have bGP:¬ (k:Int)<(l.length:Nat):=by omega
  simp only[go_sem,bGP,awT]
  have:k=l.length:=by omega
  subst this
  rw[bJD (bIO _)] at ha
  exact bA rfl ha.symm
theorem a4P {C:Ctx} (b:Bool):zD.wp C (aU KX.res (bZ (.bool b))) (PF.args [.bool b]) .nil:=by
 simp only[go_sem,γ,reduceCtorEq,zD,alU,alV,KX]
 exact bA rfl rfl
theorem bdU {C:Ctx} (hin:∀ n lo hi:Int,aD C 104 [.int .i64 n,.int .i64 lo,.int .i64 hi] .nil (aE (.bool (within n lo hi)))) (n:Int):EY.wp C (aU aaV.res (bZ (.bool (within n 0 8)))) (PF.args [.int .i64 n]) .nil:=by
 simp only[go_sem,reduceCtorEq,EY,ayA,ayB,aaV]
 refine aA (hin n 0 8) rfl ?_
 simp only[go_sem,γ]
 exact bA rfl rfl
theorem a4S {C:Ctx} (h1:∀ x:RF,x.Ok→aD C 105 [.agg x.cells] .nil (aE (.bool (cG x)))) (h2:∀ x:RF,x.Ok→aD C 97 [.agg x.cells] .nil (aE (.bool (cA x)))) (x:RF) (hx:x.Ok) :
  zE.wp C (aU LH.res (bZ (.bool (cG x&&cA x)))) (PF.args [.agg x.cells]) .nil:=by
 simp only[go_sem,δ,γ,zE,amA,amB,LH]
 refine aA (h1 x hx) rfl ?_
 cases hl:cG x with
 | false =>
  simp only[go_sem,γ,reduceCtorEq]
  exact bA rfl rfl
 | true =>
  simp only[go_sem,δ,γ]
  refine aA (h2 x hx) rfl ?_
  simp only[go_sem,γ]
  exact bA rfl rfl
structure pY (C:Ctx):Prop extends asY C where
 inn:∀ n lo hi:Int,aD C 104 [.int .i64 n,.int .i64 lo,.int .i64 hi] .nil (aE (.bool (within n lo hi)))
 tO:∀ x:RF,x.Ok→aD C 97 [.agg x.cells] .nil (aE (.bool (cA x)))
 lim:∀ x:RF,x.Ok→aD C 105 [.agg x.cells] .nil (aE (.bool (cG x)))
 one:∀ x:RF,x.Ok→aD C 101 [.agg x.cells] .nil (aE (.bool (rN x)))
 allf:∀ (p:RF→Bool) (fn:Nat) (l:List RF),Fits l→(∀ x∈l,aD C fn [.agg x.cells] .nil (aE (.bool (p x))))→aD C 99 [frs l,.fn fn []] .nil (aE (.bool (l.all p)))
 alli:∀ (p:Int→Bool) (fn:Nat) (l:List Int),Fits l→(∀ x∈l,aD C fn [.int .i64 x] .nil (aE (.bool (p x))))→aD C 100 [ints l,.fn fn []] .nil (aE (.bool (l.all p)))
 allb:∀ (p:Bool→Bool) (fn:Nat) (l:List Bool),Fits l→(∀ x∈l,aD C fn [.bool x] .nil (aE (.bool (p x))))→aD C 98 [aVY l,.fn fn []] .nil (aE (.bool (l.all p)))
 ends1:∀ b:Bool,aD C 103 [.bool b] .nil (aE (.bool b))
 num1:∀ n:Int,aD C 107 [.int .i64 n] .nil (aE (.bool (within n 0 8)))
 rate1:∀ x:RF,x.Ok→aD C 109 [.agg x.cells] .nil (aE (.bool (cG x&&cA x)))
 name:∀ s:List UInt8,aD C 123 [.str s] .nil (aE (.bool (isName s)))
theorem pY.beO {C:Ctx} (L:pY C) (l:List RF) (h:iY l):aD C 99 [frs l,.fn 105 []] .nil (aE (.bool (l.all cG))) :=
 L.allf cG 105 l h.fits fun x hx=>L.lim x (h.all x hx)
theorem within_iff {n lo hi:Int}:within n lo hi=true↔lo≤n∧n≤hi:=by simp[within]
theorem blC {C:Ctx} (L:pY C) (p:cY) (hp:p.Ok) :
  LE.wp C (aU axZ.res (bZ (.bool (GF p)))) (PF.args [.int .i64 p.k,.int .i64 p.m,.int .i64 p.bHM,.agg [.int .i64 p.s0,.int .i64 p.s1,.int .i64 p.s2,.int .i64 p.s3,.int .i64 p.s4]]) .nil:=by
 simp only[go_sem,reduceCtorEq,LE,aNS,aNT,axZ]
 refine aA (L.inn p.k 1 6) rfl ?_
 unfold GF
 cases h1:within p.k 1 6 with
 | false =>
  simp only[go_sem,γ,bJB,uX]
  exact bA rfl (by simp only[bIS])
 | true =>
  obtain⟨k1,k2⟩:=within_iff.1 h1
  simp only[go_sem,γ,bIV]
  refine aA (L.inn p.m 0 4) rfl ?_
  cases h2:within p.m 0 4 with
  | false =>
   simp only[go_sem,γ,reduceCtorEq,bJB,uX]
   exact bA rfl (by simp only[bIS,bKC])
  | true =>
   obtain⟨m1,m2⟩:=within_iff.1 h2
   have hw:IntKind.i64.wrap (p.k+p.m)=p.k+p.m:=wrap_i64 Om Om
   by_cases h3:p.k+p.m≤8
   ·have h3':¬ p.k+p.m>8:=by omega
    simp only[go_sem,γ,reduceCtorEq,bIV,hw,h3']
    refine aA (L.inn p.bHM p.k (p.k+p.m)) rfl ?_
    cases h4:within p.bHM p.k (p.k+p.m) with
    | false =>
     simp only[go_sem,γ,reduceCtorEq,bJB,uX]
     exact bA rfl (by simp only[bIS,bKC])
    | true =>
     have h50:(0:Int)<((5:Nat):Int):=by decide
     by_cases h5:p.s0=0
     ·have hch:chunks 1 5 [PV.int .i64 p.s0,.int .i64 p.s1,.int .i64 p.s2,.int .i64 p.s3,.int .i64 p.s4]=([p.s0,p.s1,p.s2,p.s3,p.s4].map fun n=>[PV.int .i64 n]):=rfl
      have hm:5≤maxLen:=by decide
      simp only[go_sem,ν,δ,γ,η,θ,ζ,reduceCtorEq,bIV,h50,bP h5,aNU,hch,hm]
      refine aA (L.alli (fun n=>within n 0 8) 107 [p.s0,p.s1,p.s2,p.s3,p.s4] (show 5≤9223372036854775807 by decide) fun x _=>L.num1 x) rfl ?_
      simp only[go_sem,γ]
      exact bA rfl (by rw[decide_eq_true h3,decide_eq_true h5]; simp only[bIY])
     ·simp only[go_sem,ν,δ,γ,θ,ζ,reduceCtorEq,bIV,h50,cT h5,uX]
      exact bA rfl (by rw[decide_eq_false h5]; simp only[bIS,bKC])
   ·have h3':p.k+p.m>8:=by omega
    simp only[go_sem,γ,reduceCtorEq,bIV,hw,h3',uX]
    exact bA rfl (by rw[decide_eq_false h3]; simp only[bIS,bKC])
theorem max_eq (a b:Int):(if a<b then b else a)=max a b:=by
 rw[Int.max_def]
 by_cases h:a<b
 ·rw[if_pos h,if_pos Om]
 ·by_cases h':a≤b
  ·rw[if_neg h,if_pos h']; omega
  ·rw[if_neg h,if_neg h']
theorem bdW {C:Ctx} (L:pY C) (p:cY) (hp:p.Ok) :
  EZ.wp C (aU aaW.res (bZ (.bool (xZ p)))) (PF.args [.int .i64 p.m,frs p.repair,.agg p.target.cells,.agg p.bGU.cells]) .nil:=by
 simp only[go_sem,γ,reduceCtorEq,EZ,ayG,ayH,aaW,max_eq,bIM]
 unfold xZ
 by_cases h1:(p.repair.length:Int)=max p.m 1
 ·simp only[go_sem,γ,bS h1]
  refine aA (L.allf (fun x=>cG x&&cA x) 109 p.repair hp.repair.fits fun x hx=>L.rate1 x (hp.repair.all x hx)) rfl ?_
  rw[decide_eq_true h1,bIY]
  cases h2:p.repair.all fun x=>cG x&&cA x with
  | false =>
   simp only[go_sem,γ,reduceCtorEq]
   exact bA rfl rfl
  | true =>
   simp only[go_sem,δ,γ]
   refine aA (L.lim _ hp.target) rfl ?_
   cases h3:cG p.target with
   | false =>
    simp only[go_sem,γ,reduceCtorEq]
    exact bA rfl rfl
   | true =>
    simp only[go_sem,δ,γ]
    refine aA (L.one _ hp.target) rfl ?_
    cases h4:rN p.target with
    | false =>
     simp only[go_sem,γ,reduceCtorEq]
     exact bA rfl rfl
    | true =>
     simp only[go_sem,δ,γ]
     refine aA (L.lim _ hp.bGU) rfl ?_
     simp only[go_sem,γ]
     exact bA rfl rfl
 ·simp only[go_sem,γ,reduceCtorEq,bF h1]
  exact bA rfl (by rw[decide_eq_false h1]; rfl)
def nT (l:List (List UInt8)) (k:List KS):Option PV:=match k with
 | [.str s]=>if l.contains s then some (.bool true) else none
 | _=>none
theorem a7T (l:List (List UInt8)) (s:List UInt8):(fun k=>if k=[KS.str s] then some (PV.bool true) else nT l k)=nT (l++[s]):=by
 funext k
 match k with
 | []=>rfl
 | [.int a b]=>simp[nT]
 | [.bool a]=>simp[nT]
 | [.str t] =>
  by_cases h:t=s
  ·subst h; simp[nT]
  ·simp[nT,h]
 | a::b::c=>simp[nT]
abbrev texts (l:List (List UInt8)):PV:=.sl 1 (l.map fun s=>[PV.str s])
theorem a7S:nT []=(fun _=>none:fE):=by
 funext k
 match k with
 | []=>rfl
 | [.int a b]=>rfl
 | [.bool a]=>rfl
 | [.str t]=>rfl
 | a::b::c=>cases a<;>rfl
theorem a7U (l:List (List UInt8)) (s:List UInt8):fE.upd (nT l) [KS.str s] (.bool true)=nT (l++[s]):=a7T l s
theorem aEL (l:List (List UInt8)) (s:List UInt8):(nT l [KS.str s]).getD (.bool false)=.bool (l.contains s):=by
 show (if l.contains s then some (PV.bool true) else none).getD (.bool false)=_
 cases l.contains s<;>rfl
theorem ajE {p:Nat→Bool} {k:Nat} (h:(bIN k).all p=true) (hp:p k=true):(bIN (k+1)).all p=true:=by
 rw[List.range_succ,List.all_append,h]; simp[hp]
theorem dN {p:Nat→Bool} {n k:Nat} (hk:k<n) (hp:p k=false):(bIN n).all p=false:=by
 rw[List.all_eq_false]
 exact⟨k,bKB.2 hk,by simp[hp]⟩
def mI (p:Nat→Bool) (k:Nat):Prop:=(bIN k).all p=true
theorem mI.zero {p:Nat→Bool}:mI p 0:=rfl
theorem mI.step {p:Nat→Bool} {k:Nat} (h:mI p k) (hp:p k=true):mI p (k+1):=ajE h hp
def a0A (l:List (List UInt8)) (o k:Nat):PF:=((((PF.nil.set 3 (.map o)).set 7 (texts l)).set 8 (.int .i64 (l.length:Nat))).set 9 (.int .i64 k))
theorem bdZ {C:Ctx} (L:pY C) (l:List (List UInt8)) (hf:Fits l):FA.wp C (aU aaX.res (bZ (.bool (distinct l)))) (PF.args [texts l]) .nil:=by
 simp only[go_sem,FA,ayJ,ayK,aaX]
 refine aQ fun o ho=>?_
 simp only[go_sem,γ,reduceCtorEq,ayL]
 have e0:(PH.nil.set o (.map (false,[.str]) (fun _=>none)))=PH.nil.set o (.map (false,[.str]) (nT (l.take 0))):=by rw[List.take_zero,a7S]
 unfold distinct
 generalize hp:(fun i=>isName (l.getD i [])&&!(l.take i).contains (l.getD i []))=p
 have hpk:∀ k (h:k<l.length),p k=(isName l[k]&&!(l.take k).contains l[k]):=by
  intro k h
  rw[← hp]
  simp only[bJG,bIW h,bLE]
 refine wp_loop (α:=Nat) (fun k=>a0A l o k) (fun k=>PH.nil.set o (.map (false,[.str]) (nT (l.take k)))) (fun k=>k≤l.length∧mI p k) (fun k=>l.length-k) 0 ⟨bIX _,.zero⟩ ?_ ?_ ?_
 ·unfold a0A
  (repeat' (first|exact PF.nil_le|refine PF.aI ?_ ?_))<;>first|(simp only[go_sem,γ,bIM]<;>rfl)|rfl
 ·rw[e0]; exact PH.le_refl
 rintro k ⟨hk,ha⟩
 simp only[go_sem,γ,ayI,ayM,a0A]
 by_cases hlt:k<l.length
 ·have bGP:(k:Int)<(l.length:Nat):=by omega
  have hr:(l.map fun s=>[PV.str s])[k]?=some [.str l[k]]:=by simp[hlt]
  simp only[go_sem,γ,bGP,ayN,hr,ayO]
  refine aA (L.name l[k]) rfl ?_
  have hk2:=hpk k hlt
  cases h1:isName l[k] with
  | false =>
   rw[h1,bIS] at hk2
   simp only[go_sem,γ,bJB,VD]
   exact bA (b:=false) rfl (dN hlt hk2).symm
  | true =>
   rw[h1,bIY] at hk2
   cases h2:(l.take k).contains l[k] with
   | true =>
    rw[h2] at hk2
    simp only[go_sem,γ,reduceCtorEq,bIV,aEL,h2,VD]
    exact bA (b:=false) rfl (dN hlt hk2).symm
   | false =>
    rw[h2] at hk2
    simp only[go_sem,γ,reduceCtorEq,bIV,aEL,h2,ayP,a7U,ayQ,wZz k]
    refine aK (k+1) ⟨hlt,ha.step hk2⟩ Om ?_ ?_
    ·exact Lq
    ·rw[bKK hlt]
     exact PH.aI PH.nil_le Sq
 ·have bGP:¬ (k:Int)<(l.length:Nat):=by omega
  simp only[go_sem,bGP,amC]
  have:k=l.length:=by omega
  subst this
  exact bA (b:=true) rfl (show mI p l.length from ha).symm
def marks (n:Nat) (l:List Int):List Bool:=(bIN n).map fun (i:Nat)=>l.contains (i:Int)
theorem a5K (n:Nat):marks n []=bIP n false:=by
 refine List.ext_getElem (by simp[marks]) fun i h1 h2=>by simp[marks]
theorem beS {n:Nat} {l:List Int} {m:Int} (h0:0≤m) (h1:m<n):(marks n l)[m.toNat]?=some (l.contains m):=by
 have:m.toNat<n:=by omega
 simp only[marks,bJQ,List.getElem?_range this,bJW]
 rw[Int.toNat_of_nonneg h0]
theorem a5L {n:Nat} {l:List Int} {m:Int} (h0:0≤m) (h1:m<n):(marks n l).set m.toNat true=marks n (l++[m]):=by
 refine List.ext_getElem (by simp[marks]) fun i h2 h3=>?_
 simp only[marks,bKU,List.getElem_range,List.getElem_set,List.contains_append]
 by_cases h:m.toNat=i
 ·subst h
  rw[if_pos rfl,Int.toNat_of_nonneg h0]; simp
 ·have hne:((i:Nat):Int)≠m:=by omega
  rw[if_neg h]; simp[hne]
abbrev fI (l:List Bool):List (List PV):=l.map fun b=>[PV.bool b]
theorem kJ (l:List Bool) (i:Nat) (b:Bool):(fI l).set i [.bool b]=fI (l.set i b):=by unfold fI; rw[List.map_set]
structure atM (C:Ctx):Prop extends pY C where
 num:∀ p:cY,p.Ok→aD C 106 [.int .i64 p.k,.int .i64 p.m,.int .i64 p.bHM,.agg [.int .i64 p.s0,.int .i64 p.s1,.int .i64 p.s2,.int .i64 p.s3,.int .i64 p.s4]] .nil (aE (.bool (GF p)))
 rate:∀ p:cY,p.Ok→aD C 108 [.int .i64 p.m,frs p.repair,.agg p.target.cells,.agg p.bGU.cells] .nil (aE (.bool (xZ p)))
 uniq:∀ l:List (List UInt8),Fits l→aD C 110 [texts l] .nil (aE (.bool (distinct l)))
def bfN (p:cY) (bGJ:Nat) (o k:Nat):PF:=(((((PF.nil.set 1 (.int .i64 bGJ)).set 5 (.osl o 1 0 bGJ)).set 39 (ints p.bGJ)).set 40 (.int .i64 (p.bGJ.length:Nat))).set 41 (.int .i64 k))
theorem blG {C:Ctx} (L:atM C) (p:cY) (hp:p.Ok) (bGJ:Nat) (hm:bGJ≤4):LG.wp C (aU ayC.res (bZ (.bool (iD bGJ p)))) (PF.args [.agg p.cells,.int .i64 bGJ]) .nil:=by
 simp only[go_sem,δ,γ,θ,LG,aNY,aNZ,ayC]
 refine aA (L.num p hp) rfl ?_
 unfold iD
 cases h1:GF p with
 | false =>
  simp only[go_sem,γ,bJB,QS]
  exact bA rfl (by simp only[bIS])
 | true =>
  by_cases h2:p.bGJ.length=0
  ·simp only[go_sem,δ,γ,θ,reduceCtorEq,bIV,bIM,bS (Om:((p.bGJ.length:Nat):Int)=0),QS]
   refine bA rfl ?_
   have:decide (p.bGJ.length≠0)=false:=by simp[h2]
   rw[this]; simp only[bIS,bKC]
  ·have h2':decide (p.bGJ.length≠0)=true:=by simp[h2]
   simp only[go_sem,δ,γ,θ,reduceCtorEq,bIV,bIM,bF (Om:((p.bGJ.length:Nat):Int)≠0)]
   refine aA (L.rate p hp) rfl ?_
   rw[h2']
   cases h3:xZ p with
   | false =>
    simp only[go_sem,γ,reduceCtorEq,bJB,QS]
    exact bA rfl (by simp only[bIS,bKC])
   | true =>
    have hb1:((bGJ:Nat):Int)*((1:Nat):Int)≤140737488355328:=by omega
    have hb2:((bGJ:Nat):Int)≤9223372036854775807:=by omega
    simp only[bIY]
    simp only[go_sem,γ,reduceCtorEq,bIV,aOA,hb1,hb2]
    refine aQ fun o ho=>?_
    simp only[go_sem,δ,γ,θ,aOB]
    have e0:bIP bGJ [PV.bool false]=fI (marks bGJ (p.bGJ.take 0)):=by
     rw[List.take_zero,a5K]; simp[fI]
    rw[e0]
    generalize hq:(fun j=>within (p.bGJ.getD j 0) 0 ((bGJ:Int)-1)&&!(p.bGJ.take j).contains (p.bGJ.getD j 0))=q
    have hqk:∀ k (h:k<p.bGJ.length),q k=(within p.bGJ[k] 0 ((bGJ:Int)-1)&&!(p.bGJ.take k).contains p.bGJ[k]):=by
     intro k h
     rw[← hq]
     simp only[bJG,bIW h,bLE]
    refine wp_loop (α:=Nat) (fun k=>bfN p bGJ o k) (fun k=>PH.nil.set o (.rows 1 (fI (marks bGJ (p.bGJ.take k))))) (fun k=>k≤p.bGJ.length∧mI q k) (fun k=>p.bGJ.length-k) 0 ⟨bIX _,.zero⟩ ?_ (PH.le_refl) ?_
    ·unfold bfN
     (repeat' (first|exact PF.nil_le|refine PF.aI ?_ ?_))<;>first|(simp only[go_sem,γ,bIM]<;>rfl)|rfl
    rintro k ⟨hk,ha⟩
    simp only[go_sem,γ,ayD,aOC,bfN]
    have bHX:=hp.bGJ
    by_cases hlt:k<p.bGJ.length
    ·have bGP:(k:Int)<(p.bGJ.length:Nat):=by omega
     have hr:(p.bGJ.map fun n=>[PV.int .i64 n])[k]?=some [.int .i64 p.bGJ[k]]:=by simp[hlt]
     have hw:IntKind.i64.wrap ((bGJ:Int)-1)=(bGJ:Int)-1:=wrap_i64 Om Om
     simp only[go_sem,γ,bGP,aOD,hr,aOE,hw]
     refine aA (L.inn p.bGJ[k] 0 ((bGJ:Int)-1)) rfl ?_
     have hk2:=hqk k hlt
     cases h1:within p.bGJ[k] 0 ((bGJ:Int)-1) with
     | false =>
      rw[h1,bIS] at hk2
      simp only[go_sem,γ,bJB,aiA]
      exact bA (b:=false) rfl (dN hlt hk2).symm
     | true =>
      rw[h1,bIY] at hk2
      obtain⟨i1,i2⟩:=within_iff.1 h1
      have i3:p.bGJ[k]<(bGJ:Nat):=by omega
      have hmk:(fI (marks bGJ (p.bGJ.take k)))[p.bGJ[k].toNat]?=some [.bool ((p.bGJ.take k).contains p.bGJ[k])]:=by
       unfold fI
       rw[bJQ,beS i1 i3]; rfl
      cases h2:(p.bGJ.take k).contains p.bGJ[k] with
      | true =>
       rw[h2] at hk2 hmk
       simp only[go_sem,γ,reduceCtorEq,bIV,i1,i3,bJL,hmk,aiA]
       exact bA (b:=false) rfl (dN hlt hk2).symm
      | false =>
       rw[h2] at hk2 hmk
       simp only[go_sem,γ,reduceCtorEq,bIV,i1,i3,bJL,hmk,aOF,kJ,a5L i1 i3,ayE,wZz k]
       refine aK (k+1) ⟨hlt,ha.step hk2⟩ Om ?_ ?_
       ·exact Lq
       ·rw[bKK hlt]
        exact PH.aI PH.nil_le Sq
    ·have bGP:¬ (k:Int)<(p.bGJ.length:Nat):=by omega
     simp only[go_sem,bGP,ayF]
     have:k=p.bGJ.length:=by omega
     subst this
     exact bA (b:=true) rfl (show mI q p.bGJ.length from ha).symm
def bcN:PV→RF
 | .agg [.bool n,a,b]=>⟨n,gQ a,gQ b⟩
 | _=>⟨false,[],[]⟩
theorem aWG (x:RF):bcN (.agg x.cells)=x:=by
 show (⟨x.neg,gQ (aF x.num),gQ (aF x.den)⟩:RF)=x
 rw[dW,dW]
def flS:Spec:=fun name vs=>match name,vs with
 | 104,[.int _ n,.int _ lo,.int _ hi]=>some ([],fun _=>aE (.bool (within n lo hi)))
 | 105,[x]=>some ([],fun _=>aE (.bool (cG (bcN x))))
 | 97,[x]=>some ([],fun _=>aE (.bool (cA (bcN x))))
 | _,_=>none
theorem avZ (n lo hi:Int):flS 104 [.int .i64 n,.int .i64 lo,.int .i64 hi]=some ([],fun _=>aE (.bool (within n lo hi))):=rfl
theorem bkR (x:RF):flS 105 [.agg x.cells]=some ([],fun _=>aE (.bool (cG x))):=by
 show some _=_; rw[aWG]
def aXD (f:aL) (t:List bR) (k:Nat):PF:=((((PF.nil.set 1 (.bJ f.cells)).set 45 (.sl 7 (t.map bR.cells))).set 46 (.int .i64 (t.length:Nat))).set 47 (.int .i64 k))
theorem bkW {C:Ctx} (L:pY C) (f:aL) (hf:f.Ok):xO.wp C (aU ahW.res (bZ (.bool (mJ f)))) (PF.args [.agg f.cells]) .nil:=by
 obtain⟨bHW,bGR,bGJ,bGL,bGI,bGM,bGK⟩:=f
 cases bGL with
 | nil =>
  rw[show mJ ⟨bHW,bGR,bGJ,[],bGI,bGM,bGK⟩=false from rfl]
  simp only[go_sem,δ,γ,θ,xO,ahX,ahY,ahW,List.map_nil,bKY]
  have:(((0:Nat):Int)==0)=true:=rfl
  simp only[go_sem,this,aNC]
  exact bA rfl rfl
 | cons r t =>
  generalize hF:(⟨bHW,bGR,bGJ,r::t,bGI,bGM,bGK⟩:aL)=f at *
  have hd:f.bGL=r::t:=by rw[← hF]
  have hP:mJ f=xG f r t:=by unfold mJ; rw[hd]
  rw[hP]
  unfold xG
  have hlen:f.bGL.length=t.length+1:=by rw[hd]; rfl
  have bHX:=hf.bGL
  have hr0:(f.bGL.map bR.cells)[0]?=some r.cells:=by rw[hd]; rfl
  have hr0':(f.bGL.map bR.cells)[Int.toNat 0]?=some r.cells:=hr0
  have hok:=hf.dom
  have hrok:=hok r (by rw[hd]; exact List.mem_cons_self ..)
  simp only[go_sem,ο,ν,δ,γ,θ,xO,ahX,ahY,ahW,bIM,hlen,bF (Om:((t.length+1:Nat):Int)≠0),aND,hr0]
  refine aQ fun o ho=>?_
  by_cases c1:r.name=[]
  ·rw[decide_eq_true c1]
   by_cases c2:r.level=0
   ·rw[decide_eq_true c2]
    by_cases c3:r.parent=-1
    ·rw[decide_eq_true c3]
     by_cases c4:r.bHI=0
     ·rw[decide_eq_true c4]
      simp only[go_sem,ο,δ,γ,θ,reduceCtorEq,uV,nD c1,bIV,bP c2,bP c3,bP c4]
      refine aA (L.lim r.bHA hrok.1) rfl ?_
      cases c5:cG r.bHA with
      | false =>
       simp only[go_sem,γ,reduceCtorEq,bJB,rH]
       exact bA rfl (by simp only[bKC,bIS])
      | true =>
       simp only[go_sem,δ,γ,reduceCtorEq,bIV]
       refine aA (L.tO r.bHA hrok.1) rfl ?_
       cases c6:cA r.bHA with
       | true =>
        simp only[go_sem,γ,reduceCtorEq,rH]
        exact bA rfl (by simp only[bIV,bKC,bIS])
       | false =>
        have hsl:(0:Int)≤1∧(1:Int)≤((t.length+1:Nat):Int):=by omega
        have hdrop:((f.bGL.map bR.cells).take (t.length+1)).drop (Int.toNat 1)=t.map bR.cells:=by
         rw[bJD (by simp[hlen]),hd]; rfl
        have hdrop':((f.bGL.map bR.cells).take (t.length+1)).drop 1=t.map bR.cells:=hdrop
        simp only[go_sem,ν,δ,γ,θ,reduceCtorEq,aNE,bIM,hlen,hsl,hdrop',bLM]
        generalize hq:(fun i=>match t[i]? with | some d=>EG f i d | none=>false)=q
        have hqk:∀ k (h:k<t.length),q k=EG f k t[k]:=by
         intro k h
         rw[← hq]
         simp only[bIW h]
        refine wp_loop (α:=Nat) (fun k=>aXD f t k) (fun k=>.nil) (fun k=>k≤t.length∧mI q k) (fun k=>t.length-k) 0 ⟨bIX _,.zero⟩ ?_ PH.nil_le ?_
        ·unfold aXD
         (repeat' (first|exact PF.nil_le|refine PF.aI ?_ ?_))<;>first|(simp only[go_sem,γ,bIM]<;>rfl)|rfl
        rintro k ⟨hk,ha⟩
        simp only[go_sem,γ,axM,aNF,aXD]
        by_cases hlt:k<t.length
        ·have bGP:(k:Int)<(t.length:Nat):=by omega
         have hrk:(t.map bR.cells)[k]?=some (t[k]).cells:=by simp[hlt]
         have hdk:=hok t[k] (by rw[hd]; exact List.mem_cons_of_mem _ (bIR hlt))
         have hk2:=hqk k hlt
         unfold EG at hk2
         simp only[go_sem,δ,γ,bGP,aNG,hrk]
         refine aQ fun o2 ho2=>?_
         simp only[go_sem,δ,γ]
         refine bT .nil flS PH.nil_le ?_
         simp only[go_sem,δ,γ,θ,reduceCtorEq,aNH]
         refine bK (avZ _ 0 k) (L.inn (t[k]).parent 0 k) rfl PH.nil_le ?_
         cases e1:within (t[k]).parent 0 k with
         | false =>
          simp only[e1,bIS] at hk2
          simp only[go_sem,γ,bJB,rG]
          exact bA (b:=false) rfl (dN hlt hk2).symm
         | true =>
          obtain⟨i1,i2⟩:=within_iff.1 e1
          have i3:(t[k]).parent.toNat<f.bGL.length:=by omega
          have hpr:(f.bGL.map bR.cells)[(t[k]).parent.toNat]?=some (f.bGL[(t[k]).parent.toNat]).cells:=by simp[i3]
          have hlv:(f.bGL.map bR.level).getD (t[k]).parent.toNat 0=(f.bGL[(t[k]).parent.toNat]).level:=by simp[i3]
          rw[hlv,e1,bIY] at hk2
          by_cases e2:(f.bGL[(t[k]).parent.toNat]).level=IntKind.i64.wrap ((t[k]).level-1)
          ·rw[decide_eq_true e2,bIY] at hk2
           simp only[go_sem,δ,γ,θ,reduceCtorEq,bIV,i1,hpr,bP e2]
           refine bK (avZ _ 1 4) (L.inn (t[k]).level 1 4) rfl PH.nil_le ?_
           cases e3:within (t[k]).level 1 4 with
           | false =>
            simp only[e3,bIS] at hk2
            simp only[go_sem,γ,reduceCtorEq,bJB,rG]
            exact bA (b:=false) rfl (dN hlt hk2).symm
           | true =>
            rw[e3,bIY] at hk2
            simp only[go_sem,δ,γ,θ,reduceCtorEq,bIV]
            refine bK (avZ _ 1 64) (L.inn (t[k]).bHI 1 64) rfl PH.nil_le ?_
            cases e4:within (t[k]).bHI 1 64 with
            | false =>
             simp only[e4,bIS] at hk2
             simp only[go_sem,γ,reduceCtorEq,bJB,rG]
             exact bA (b:=false) rfl (dN hlt hk2).symm
            | true =>
             rw[e4,bIY] at hk2
             simp only[go_sem,δ,γ,reduceCtorEq,bIV]
             refine bK (bkR (t[k]).bHA) (L.lim _ hdk.1) rfl PH.nil_le ?_
             cases e5:cG (t[k]).bHA with
             | false =>
              rw[e5] at hk2
              simp only[go_sem,γ,reduceCtorEq,bJB,rG]
              exact bA (b:=false) rfl (dN hlt hk2).symm
             | true =>
              rw[e5] at hk2
              simp only[go_sem,γ,reduceCtorEq,bIV,axN,wZz k]
              refine aK (k+1) ⟨hlt,ha.step hk2⟩ Om ?_ PH.nil_le
              exact Lq
          ·simp only[decide_eq_false e2,bIS] at hk2
           simp only[go_sem,δ,γ,θ,reduceCtorEq,bIV,i1,hpr,cT e2,rG]
           exact bA (b:=false) rfl (dN hlt hk2).symm
        ·have bGP:¬ (k:Int)<(t.length:Nat):=by omega
         simp only[go_sem,bGP,axO]
         have:k=t.length:=by omega
         subst this
         exact bA (b:=true) rfl (show mI q t.length from ha).symm
     ·simp only[go_sem,ο,δ,γ,θ,reduceCtorEq,uV,nD c1,bIV,bP c2,bP c3,cT c4,rH]
      exact bA rfl (by rw[decide_eq_false c4]; simp only[bKC,bIS])
    ·simp only[go_sem,ο,δ,γ,θ,reduceCtorEq,uV,nD c1,bIV,bP c2,cT c3,rH]
     exact bA rfl (by rw[decide_eq_false c3]; simp only[bKC,bIS])
   ·simp only[go_sem,ο,δ,γ,θ,reduceCtorEq,uV,nD c1,bIV,cT c2,rH]
    exact bA rfl (by rw[decide_eq_false c2]; simp only[bKC,bIS])
  ·simp only[go_sem,ο,δ,γ,θ,uV,YE c1,bJB,rH]
   exact bA rfl (by rw[decide_eq_false c1]; simp only[bKC,bIS])
theorem qS (R:List Bool) (i:Nat) (row:List RF):∀ k,(cO R i row k).length=R.length
 | 0=>rfl
 | k+1=>by simp only[cO,bKI,qS R i row k]
theorem aDZ (l:cI) (R:List Bool) (i:Nat):(wK l R i).length=R.length:=by
 unfold wK; rw[qS,bKI]
theorem nO (l:cI) (R:List Bool):∀ i,(cW l R i).length=R.length
 | 0=>rfl
 | i+1=>by simp only[cW,aDZ,nO l R i]
theorem nN (l:cI):∀ r,(dD l r).length=l.exit.length
 | 0=>by simp[dD]
 | r+1=>by simp only[dD,nO,nN l r]
theorem oU {R:List Bool} {i:Nat} (h:i<R.length):(fI R)[i]?=some [.bool (R.getD i false)]:=by
 unfold fI
 rw[bJQ,bIW h,bJG,bIW h]; rfl
theorem a3L (R:List Bool):(fI R).length=R.length:=by simp[fI]
def QI (l:cI) (o r:Nat):PF:=(((PF.nil.set 1 (.bJ l.cells)).set 3 (.osl o 1 0 l.exit.length)).set 4 (.int .i64 r))
def EI (l:cI) (o r i:Nat):PF:=(((((PF.nil.set 1 (.bJ l.cells)).set 3 (.osl o 1 0 l.exit.length)).set 4 (.int .i64 r)).set 19 (.int .i64 (l.exit.length:Nat))).set 20 (.int .i64 i))
def qF (l:cI) (o r i:Nat) (row:List RF) (k:Nat):PF:=(((((((((PF.nil.set 1 (.bJ l.cells)).set 3 (.osl o 1 0 l.exit.length)).set 4 (.int .i64 r)).set 19 (.int .i64 (l.exit.length:Nat))).set 20 (.int .i64 i)).set 5 (.int .i64 i)).set 42 (frs row)).set 43 (.int .i64 (row.length:Nat))).set 44 (.int .i64 k))
def fT (o:Nat) (R:List Bool):PH:=PH.nil.set o (.rows 1 (fI R))
theorem aJT {C:Ctx} (L:pY C) (l:cI) (o r i:Nat) (row:List RF) (bGV:iY row) (hrl:row.length=l.exit.length) (hi:i<l.exit.length) (hn:l.exit.length≤4) (R1:List Bool) (hR:R1.length=l.exit.length) (K:cN) (F:PF) (H:PH)
  (hF:(qF l o r i row 0).le F) (hH:(fT o R1).le H)
  (hK:∀ F H,(qF l o r i row row.length).le F→(fT o (cO R1 i row row.length)).le H→K .normal F H) :
  aC.wp C (.block 4 (.loop xP)) K F H:=by
 simp only[go_sem]
 refine wp_loop (α:=Nat) (fun k=>qF l o r i row k) (fun k=>fT o (cO R1 i row k)) (fun k=>k≤row.length) (fun k=>row.length-k) 0 (bIX _) hF hH ?_
 intro k hk
 simp only[go_sem,γ,xP,axV,qF,fT]
 have hlen:=qS R1 i row k
 by_cases hlt:k<row.length
 ·have bGP:(k:Int)<(row.length:Nat):=by omega
  have hr:(row.map RF.cells)[k]?=some (row[k]).cells:=by simp[hlt]
  simp only[go_sem,δ,γ,bGP,alX,hr]
  refine aQ fun o7 ho7=>?_
  have n7:o≠o7:=by rintro rfl; simp only[bH,if_true] at ho7; cases ho7
  have hi':(i:Int)<(l.exit.length:Nat):=by omega
  have hk':(k:Int)<(l.exit.length:Nat):=by omega
  have hat:=oU (R:=cO R1 i row k) (i:=i) Om
  have hatk:=oU (R:=cO R1 i row k) (i:=k) Om
  have bGQ:cO R1 i row (k+1)=(cO R1 i row k).set i ((cO R1 i row k).getD i false||cA row[k]&&(cO R1 i row k).getD k false):=by
   simp only[cO,bJG,bJQ,bIW hlt,bJW,bLE]
  have fin:∀ (b:Bool) (F:PF) (H:PH),b=((cO R1 i row k).getD i false||cA row[k]&&(cO R1 i row k).getD k false)→(qF l o r i row (k+1)).le F→H o=some (.rows 1 ((fI (cO R1 i row k)).set i [.bool b])) →
    eF (fun k=>qF l o r i row k) (fun k=>fT o (cO R1 i row k)) (fun k=>k≤row.length) (fun k=>row.length-k) (row.length-k) (dX 4 K) .normal F H:=by
   intro b F H hb hF hH
   refine aK (k+1) hlt Om hF ?_
   rw[kJ,hb,← bGQ] at hH
   exact PH.aI PH.nil_le hH
  unfold qF fT at fin
  generalize hb:(cO R1 i row k).getD i false=b at *
  generalize hc:(cO R1 i row k).getD k false=c at *
  generalize hA:cA row[k]=A at *
  cases b with
  | true =>
   simp only[go_sem,δ,γ,KY,n7,hi',bJL,hat,xR,wZz k]
   exact fin true _ _ (by simp) Lq Sq
  | false =>
   simp only[go_sem,δ,γ,KY,n7,hi',bJL,hat]
   refine aA (L.tO _ (bGV.all _ (bIR hlt))) rfl ?_
   rw[hA]
   cases A with
   | false =>
    simp only[go_sem,γ,reduceCtorEq,hi',hk',n7,bJL,hat,hatk,xR,wZz k]
    exact fin false _ _ (by simp) Lq Sq
   | true =>
    simp only[go_sem,γ,reduceCtorEq,hi',hk',n7,bJL,hat,hatk,xR,wZz k]
    exact fin c _ _ (by simp) Lq Sq
 ·have bGP:¬ (k:Int)<(row.length:Nat):=by omega
  simp only[go_sem,bGP]
  have:k=row.length:=by omega
  subst this
  exact hK _ _ (by unfold qF; exact Lq) (PH.le_refl)
structure xE (l:cI):Prop where
 n:l.exit.length≤4
 bGN:l.bGN.length=l.exit.length
 row:∀ r∈l.bGN,r.length=l.exit.length
theorem aJU {C:Ctx} (L:pY C) (l:cI) (hl:l.Ok) (he:xE l) (o r:Nat) (R:List Bool) (hR:R.length=l.exit.length) (K:cN) (F:PF) (H:PH)
  (hF:(EI l o r 0).le F) (hH:(fT o R).le H)
  (hK:∀ F H,(QI l o r).le F→(fT o (cW l R l.exit.length)).le H→K .normal F H) :
  aC.wp C (.block 2 (.loop xQ)) K F H:=by
 simp only[go_sem]
 refine wp_loop (α:=Nat) (fun i=>EI l o r i) (fun i=>fT o (cW l R i)) (fun i=>i≤l.exit.length) (fun i=>l.exit.length-i) 0 (bIX _) hF hH ?_
 intro i hi
 have hlen:=nO l R i
 have hn:=he.n
 by_cases hlt:i<l.exit.length
 ·have bGP:(i:Int)<(l.exit.length:Nat):=by omega
  have hir:i<l.bGN.length:=by rw[he.bGN]; exact hlt
  have hat:=oU (R:=cW l R i) (i:=i) Om
  have hx:(l.exit.map RF.cells)[i]?=some (l.exit[i]).cells:=by simp[hlt]
  have bGV:(l.bGN.map fun r=>[frs r])[i]?=some [frs l.bGN[i]]:=by simp[hir]
  have hrl:(l.bGN[i]).length=l.exit.length:=he.row _ (bIR hir)
  generalize hR1:(cW l R i).set i ((cW l R i).getD i false||cA l.exit[i])=R1
  have hR1l:R1.length=l.exit.length:=by rw[← hR1,bKI]; omega
  have bGQ:cW l R (i+1)=cO R1 i l.bGN[i] (l.bGN[i]).length:=by
   simp only[cW,wK]
   have e1:(l.exit.map cA).getD i false=cA l.exit[i]:=by simp[bJG,hlt]
   have e2:l.bGN.getD i []=l.bGN[i]:=by simp[bJG,hir]
   rw[e1,e2,hR1]
  have rest:∀ (F:PF) (H:PH),(((((((PF.nil.set 1 (.bJ l.cells)).set 3 (.osl o 1 0 l.exit.length)).set 4 (.int .i64 r)).set 19 (.int .i64 (l.exit.length:Nat))).set 20 (.int .i64 i)).set 5 (.int .i64 i)):PF).le F→H o=some (.rows 1 (fI R1)) →
    aC.wp C (.seq (.region VA) (.block 4 (.loop xP))) (dX 3 (iH C (aC.wp C (.region KZ)) (eF (fun i=>EI l o r i) (fun i=>fT o (cW l R i)) (fun i=>i≤l.exit.length) (fun i=>l.exit.length-i) (l.exit.length-i) (dX 2 K)))) F H:=by
   intro F H hF hH
   have f1:F 1=some (.bJ l.cells):=hF 1 _ rfl
   have f3:F 3=some (.osl o 1 0 l.exit.length):=hF 3 _ rfl
   have f4:F 4=some (.int .i64 r):=hF 4 _ rfl
   have f19:F 19=some (.int .i64 (l.exit.length:Nat)):=hF 19 _ rfl
   have f20:F 20=some (.int .i64 i):=hF 20 _ rfl
   have f5:F 5=some (.int .i64 i):=hF 5 _ rfl
   rw[boX]
   simp only[go_sem,δ,γ,θ,VA,f1,f5,bGV,bIM]
   have inner:=aJT L l o r i l.bGN[i] (hl.row _ (bIR hir)) hrl hlt hn R1 hR1l
   simp only[aC.wp,go_sem] at inner
   refine inner _ _ _ ?_ (PH.aI PH.nil_le hH) ?_
   ·unfold qF
    exact Lq
   ·intro F' H' hF' hH'
    have g20:F' 20=some (.int .i64 i):=hF' 20 _ (by unfold qF; simp only[go_sem,γ])
    simp only[go_sem,KZ,g20,wZz i]
    refine aK (i+1) hlt Om ?_ (by rw[bGQ]; exact hH')
    have g:=fun (q:Nat) v h=>hF' q v h
    unfold EI
    unfold qF at g
    refine PF.aI (PF.aI (PF.aI (PF.aI (PF.aI PF.nil_le ?_) ?_) ?_) ?_) ?_
    ·simp only[go_sem,γ]; exact g 1 _ rfl
    ·simp only[go_sem,γ]; exact g 3 _ rfl
    ·simp only[go_sem,γ]; exact g 4 _ rfl
    ·simp only[go_sem,γ]; exact g 19 _ rfl
    ·simp only[go_sem,γ]
  simp only[aC.wp,go_sem] at rest
  simp only[go_sem,γ,xQ,UY,EI,fT,bGP,axU]
  generalize hb:(cW l R i).getD i false=b at *
  cases b with
  | true =>
   simp only[go_sem,γ,UZ,bGP,bJL,hat]
   refine rest _ _ Lq ?_
   rw[← hR1]
   simp only[go_sem,kJ,Bool.true_or]
  | false =>
   simp only[go_sem,δ,γ,UZ,bGP,bJL,hat,hx]
   refine aA (L.tO _ (hl.exit.all _ (bIR hlt))) rfl ?_
   simp only[go_sem,γ,reduceCtorEq,bGP,bJL,hat]
   refine rest _ _ Lq ?_
   rw[← hR1]
   simp only[go_sem,kJ,Bool.false_or]
 ·have bGP:¬ (i:Int)<(l.exit.length:Nat):=by omega
  simp only[go_sem,γ,xQ,UY,EI,fT,bGP]
  have:i=l.exit.length:=by omega
  subst this
  exact hK _ _ (by unfold QI; exact Lq) PH.le_refl
theorem bdS {C:Ctx} (L:pY C) (l:cI) (hl:l.Ok) (he:xE l):EV.wp C (aU aaS.res (bZ (.bool (tY l)))) (PF.args [.agg l.cells]) .nil:=by
 have hn:=he.n
 have hb1:((l.exit.length:Nat):Int)*((1:Nat):Int)≤140737488355328:=by omega
 have hb2:((l.exit.length:Nat):Int)≤9223372036854775807:=by omega
 simp only[go_sem,γ,EV,axP,axQ,aaS,bIM,hb1,hb2]
 refine aQ fun o ho=>?_
 simp only[go_sem,γ,axR]
 refine wp_loop (α:=Nat) (fun r=>QI l o r) (fun r=>fT o (dD l r)) (fun r=>r≤l.exit.length+1) (fun r=>l.exit.length+1-r) 0 (bIX _) ?_ ?_ ?_
 ·unfold QI
  exact Lq
 ·refine PH.aI PH.nil_le ?_
  simp only[go_sem,dD]
  simp[fI]
 intro r hr
 have hlen:=nN l r
 simp only[go_sem,γ,alW,axS,QI,fT]
 by_cases hlt:r≤l.exit.length
 ·have bGP:(r:Int)≤(l.exit.length:Nat):=by omega
  simp only[go_sem,γ,bGP,axT]
  have inner:=aJU L l hl he o r (dD l r) hlen
  simp only[aC.wp,go_sem] at inner
  refine inner _ _ _ ?_ PH.le_refl ?_
  ·unfold EI
   exact Lq
  ·intro F' H' hF' hH'
   have g:=fun (q:Nat) v h=>hF' q v h
   unfold QI at g
   have g4:F' 4=some (.int .i64 r):=g 4 _ rfl
   simp only[go_sem,γ,alY,g4,wZz r]
   refine aK (r+1) Om Om ?_ hH'
   refine PF.aI (PF.aI (PF.aI PF.nil_le ?_) ?_) ?_
   ·simp only[go_sem,γ]; exact g 1 _ rfl
   ·simp only[go_sem,γ]; exact g 3 _ rfl
   ·simp only[go_sem,γ]
 ·have bGP:¬ (r:Int)≤(l.exit.length:Nat):=by omega
  have:r=l.exit.length+1:=by omega
  subst this
  simp only[go_sem,γ,bGP,alZ]
  have bHP:=L.allb id 103 (dD l (l.exit.length+1)) (Om:(dD l (l.exit.length+1)).length≤_) fun x _=>L.ends1 x
  have hbl:(fI (dD l (l.exit.length+1))).length=l.exit.length:=by rw[a3L,hlen]
  refine oO bHP (rs:=fI (dD l (l.exit.length+1))) (o:=o) (s:=1) Sq ?_ ?_
  ·simp only[go_sem,γ,pH (show l.exit.length≤(fI (dD l (l.exit.length+1))).length by omega),bJD (show (fI (dD l (l.exit.length+1))).length≤l.exit.length by omega)]
  ·simp only[go_sem,γ]
   exact bA rfl rfl
structure XS (C:Ctx):Prop extends atM C where
 ends:∀ l:cI,l.Ok→xE l→aD C 102 [.agg l.cells] .nil (aE (.bool (tY l)))
def oZ (l:cI) (i:Nat):Bool:=decide ((l.bGN.getD i []).length=l.start.length)&&(l.bGN.getD i []).all cG&&!((l.bGN.getD i []).map cA).getD i false
def rT (l:cI):Bool:=match nA (l.start.map RF.v) with
 | .ok (n,a,b)=>decide (oY n a b false 1 1=0)
 | .error _=>false
theorem aOO (l:cI):jX l=(within l.start.length 1 4&&decide (l.exit.length=l.start.length)&&decide (l.bGN.length=l.start.length)&&l.start.all cG&&l.exit.all cG&&(bIN l.bGN.length).all (oZ l)&&rT l&&tY l):=rfl
theorem aFF {l:List FV} {e:Int} (h:nA l=.error e):e≠0:=by
 have:∀ (l:List FV) (b:FV) (e:Int),l.foldlM gJ b=.error e→e≠0:=by
  intro l
  induction l with
  | nil=>intro b e h; cases h
  | cons x t ih =>
   intro b e h
   rw[List.foldlM_cons] at h
   cases hx:gJ b x with
   | error e' =>
    rw[hx] at h
    have:e'=e:=by injection h
    subst this
    obtain⟨n1,a1,b1⟩:=b
    obtain⟨n2,a2,b2⟩:=x
    simp only[gJ] at hx
    split at hx
    ·split at hx
     ·rw[FS hx]; decide
     ·split at hx
      ·rw[FS hx]; decide
      ·rw[FS hx]; decide
    ·injection hx with hx; subst hx; decide
   | ok y=>rw[hx] at h; exact ih y e h
 exact this l _ e h
theorem aRX {l:List FV} {r:FV} (h:nA l=.ok r):r.rf.Ok:=by
 have:∀ (l:List FV) (b r:FV),b.rf.Ok→l.foldlM gJ b=.ok r→r.rf.Ok:=by
  intro l
  induction l with
  | nil=>intro b r hb h; injection h with h; subst h; exact hb
  | cons x t ih =>
   intro b r hb h
   rw[List.foldlM_cons] at h
   cases hx:gJ b x with
   | error e'=>rw[hx] at h; cases h
   | ok y=>rw[hx] at h; exact ih y r (ahK hx) h
 refine this l _ r ⟨aT _,aT _,?_,?_⟩ h
 ·show (aG 0).length≤_
  rw[eU]; simp
 ·show (aG 1).length≤_
  rw[mB (by decide) (by decide)]; simp
theorem FT {neg:Bool} {a b:Nat} {r:FV} (hb:b≠0) (h:fZ neg a b=.ok r):cM r.2.1 r.2.2=true:=by
 unfold fZ at h
 split at h
 ·cases h
 ·rename_i hc
  injection h with h
  subst h
  have hg:bIQ a b ∣ b:=Nat.gcd_dvd_right _ _
  have h0:b/bIQ a b≠0:=by
   have:=Nat.div_pos (Nat.le_of_dvd (bKR hb) hg) (bKR fun h=>hb (Nat.gcd_eq_zero_iff.1 h).2)
   omega
  have h1:=@iV (b/bIQ a b)
  simp only[cM,bJI,decide_eq_true_eq]
  omega
theorem aVP {x y r:FV} (h:gJ x y=.ok r):cM r.2.1 r.2.2=true:=by
 obtain⟨n1,a1,b1⟩:=x
 obtain⟨n2,a2,b2⟩:=y
 simp only[gJ] at h
 split at h
 ·rename_i hv
  rw[bJI] at hv
  have h0:b1*b2≠0:=Nat.mul_ne_zero (eV.1 hv.1).1 (eV.1 hv.2).1
  split at h
  ·exact FT h0 h
  ·split at h
   ·exact FT h0 h
   ·exact FT h0 h
 ·cases h
theorem a0G:cM 0 1=true:=by
 have:cD 1=1:=by rw[mR (by decide),gY]
 simp[cM,this,gY]
theorem adF {l:List FV} {r:FV} (h:nA l=.ok r):cM r.2.1 r.2.2=true:=by
 have:∀ (l:List FV) (b r:FV),cM b.2.1 b.2.2=true→l.foldlM gJ b=.ok r→cM r.2.1 r.2.2=true:=by
  intro l
  induction l with
  | nil=>intro b r hb h; injection h with h; subst h; exact hb
  | cons x t ih =>
   intro b r hb h
   rw[List.foldlM_cons] at h
   cases hx:gJ b x with
   | error e'=>rw[hx] at h; cases h
   | ok y=>rw[hx] at h; exact ih y r (aVP hx) h
 exact this l _ r a0G h
theorem bdF:(⟨false,[],[]⟩:RF).Ok:=⟨fun _ h=>absurd h (bJR),fun _ h=>absurd h (bJR),show 0≤35184372087808 by decide,show 0≤35184372087808 by decide⟩
def beH (l:cI) (k:Nat):PF:=(((((PF.nil.set 1 (.bJ l.cells)).set 3 (.int .i64 (l.start.length:Nat))).set 45 (aZH l.bGN)).set 46 (.int .i64 (l.bGN.length:Nat))).set 47 (.int .i64 k))
theorem a4R {C:Ctx} (L:XS C) (l:cI) (hl:l.Ok) (he:xE l) (F:PF) (hF:F 1=some (.bJ l.cells)) :
  aC.wp C (.seq (.region VB) (.seq (.region EW) (.seq (.region EX) (.seq (.region rI) .ret)))) (aU [.tmp 2] (bZ (.bool (rT l&&tY l)))) F .nil:=by
 simp only[go_sem,δ,θ,VB,hF]
 refine aA (L.tot l.start hl.start) rfl ?_
 obtain⟨neg',x,y,e,hs⟩:=rE (nA (l.start.map RF.v))
 have go:∀ (z:RF) (e:Int),z.Ok→(e=0→(xK z.neg (val z.num) (val z.den) false 1 1=.tup [.int .i64 (oY z.neg (val z.num) (val z.den) false 1 1),.int .i64 0])∧rT l=decide (oY z.neg (val z.num) (val z.den) false 1 1=0))→(e≠0→rT l=false) →
   frV (nA (l.start.map RF.v))=.tup [.agg z.cells,.int .i64 e] →
   wpOps C [⟨(some 69),.mv (.tmp 72),none⟩,⟨(some 73),.extract (.tmp 69) 0,none⟩,⟨(some 74),.extract (.tmp 69) 1,none⟩,⟨(some 6),.alloc [(.bool false),.aB,.aB],none⟩,⟨none,.store 3 (.tmp 6) (.tmp 73),none⟩,⟨(some 7),.mv (.tmp 74),none⟩]
    (aC.wp C (.seq (.region EW) (.seq (.region EX) (.seq (.region rI) .ret))) (aU [.tmp 2] (bZ (.bool (rT l&&tY l))))) ((((F.set 70 (.bJ [frs l.start,aZH l.bGN,frs l.exit])).set 71 (frs l.start))).set 72 (.tup [.agg z.cells,.int .i64 e])) .nil:=by
  intro z e hz h0 h1 _
  simp only[go_sem,δ,γ]
  refine aQ fun o6 ho6=>?_
  simp only[go_sem,δ,γ,EW]
  refine aA (L.frac 1 1 (by decide) (by decide)) rfl ?_
  rw[aAN]
  simp only[go_sem,δ,γ,frV]
  refine aQ fun o8 ho8=>?_
  have n8:o6≠o8:=by rintro rfl; simp only[bH,if_true] at ho8; cases ho8
  simp only[go_sem,δ,γ,EX,n8]
  refine aA (L.ord z (FV.rf (false,1,1)) hz a6L) rfl ?_
  rw[show val (FV.rf (false,1,1)).num=1 from aR 1,show val (FV.rf (false,1,1)).den=1 from aR 1,show (FV.rf (false,1,1)).neg=false from rfl]
  by_cases c:e=0
  ·obtain⟨g1,g2⟩:=h0 c
   rw[g1,g2]
   by_cases d:oY z.neg (val z.num) (val z.den) false 1 1=0
   ·simp only[go_sem,δ,γ,rI,bS c,bS d,hF]
    refine aA (L.ends l hl he) rfl ?_
    simp only[go_sem,γ]
    exact bA rfl (by rw[decide_eq_true d,bIY])
   ·simp only[go_sem,γ,reduceCtorEq,rI,bS c,bF d]
    exact bA rfl (by rw[decide_eq_false d,bIS])
  ·rw[h1 c]
   have:∃ v w,xK z.neg (val z.num) (val z.den) false 1 1=.tup [.int .i64 v,.int .i64 w]:=by
    unfold xK
    split
    ·exact⟨_,_,rfl⟩
    ·exact⟨_,_,rfl⟩
   obtain⟨v,w,hv⟩:=this
   rw[hv]
   simp only[go_sem,γ,reduceCtorEq,rI,bF c]
   exact bA rfl rfl
 cases hs':nA (l.start.map RF.v) with
 | error e =>
  rw[hs'] at go
  exact go ⟨false,[],[]⟩ e bdF (fun h=>absurd h (aFF hs')) (fun _=>by rw[rT,hs']) rfl
 | ok r =>
  obtain⟨n,a,b⟩:=r
  rw[hs'] at go
  have hr:=aRX hs'
  refine go (FV.rf (n,a,b)) 0 hr (fun _=>?_) (fun h=>absurd rfl h) rfl
  rw[show val (FV.rf (n,a,b)).num=a from aR a,show val (FV.rf (n,a,b)).den=b from aR b,show (FV.rf (n,a,b)).neg=n from rfl]
  refine⟨?_,by rw[rT,hs']⟩
  have hv:cM a b=true:=adF hs'
  rw[xK,hv,aqD]
  rfl
theorem bkY {C:Ctx} (L:XS C) (l:cI) (hl:l.Ok):LC.wp C (aU axW.res (bZ (.bool (jX l)))) (PF.args [.agg l.cells]) .nil:=by
 rw[aOO]
 simp only[go_sem,δ,γ,θ,LC,aNI,aNJ,axW,aNK,bIM]
 refine aA (L.inn l.start.length 1 4) rfl ?_
 cases c1:within l.start.length 1 4 with
 | false =>
  simp only[go_sem,γ,bJB,uW]
  exact bA rfl (by simp only[bIS])
 | true =>
  obtain⟨n1,n2⟩:=within_iff.1 c1
  by_cases c2:l.exit.length=l.start.length
  ·rw[decide_eq_true c2]
   by_cases c3:l.bGN.length=l.start.length
   ·rw[decide_eq_true c3]
    simp only[go_sem,δ,γ,θ,reduceCtorEq,bIV,bIM,bP (Om:((l.exit.length:Nat):Int)=(l.start.length:Nat)),bP (Om:((l.bGN.length:Nat):Int)=(l.start.length:Nat))]
    refine aA (L.beO l.start hl.start) rfl ?_
    cases c4:l.start.all cG with
    | false =>
     simp only[go_sem,γ,reduceCtorEq,bJB,uW]
     exact bA rfl (by simp only[bIS])
    | true =>
     simp only[go_sem,γ,reduceCtorEq,bIV]
     refine aA (L.beO l.exit hl.exit) rfl ?_
     cases c5:l.exit.all cG with
     | false =>
      simp only[go_sem,γ,reduceCtorEq,bJB,uW]
      exact bA rfl (by simp only[bIS])
     | true =>
      simp only[go_sem,δ,γ,θ,reduceCtorEq,bIV,aNL,bIM]
      have hrk:∀ k (h:k<l.bGN.length),oZ l k=(decide ((l.bGN[k]).length=l.start.length)&&(l.bGN[k]).all cG&&!((l.bGN[k]).map cA).getD k false):=by
       intro k h
       have:l.bGN.getD k []=l.bGN[k]:=by simp[bJG,h]
       rw[oZ,this]
      refine wp_loop (α:=Nat) (fun k=>beH l k) (fun _=>.nil) (fun k=>k≤l.bGN.length∧mI (oZ l) k) (fun k=>l.bGN.length-k) 0 ⟨bIX _,.zero⟩ ?_ PH.nil_le ?_
      ·unfold beH
       (repeat' (first|exact PF.nil_le|refine PF.aI ?_ ?_))<;>first|(simp only[go_sem,γ,bIM]<;>rfl)|rfl
      rintro k ⟨hk,ha⟩
      simp only[go_sem,γ,axX,aNM,beH]
      by_cases hlt:k<l.bGN.length
      ·have bGP:(k:Int)<(l.bGN.length:Nat):=by omega
       have hr:(l.bGN.map fun r=>[frs r])[k]?=some [frs l.bGN[k]]:=by simp[hlt]
       have hk2:=hrk k hlt
       have hrok:=hl.row l.bGN[k] (bIR hlt)
       simp only[go_sem,γ,bGP,aNN,hr,aNO,bIM]
       by_cases d1:(l.bGN[k]).length=l.start.length
       ·rw[decide_eq_true d1,bIY] at hk2
        simp only[go_sem,γ,bP (show (((l.bGN[k]).length:Nat):Int)=(l.start.length:Nat) by omega)]
        refine aA (L.beO _ hrok) rfl ?_
        cases d2:(l.bGN[k]).all cG with
        | false =>
         rw[d2,bIS] at hk2
         simp only[go_sem,γ,reduceCtorEq,bJB,QQ]
         refine bA (b:=false) rfl ?_
         have:(bIN l.bGN.length).all (oZ l)=false:=dN hlt hk2
         rw[this]; simp only[bIS,bKC]
        | true =>
         have hkr:k<(l.bGN[k]).length:=by omega
         have hx:((l.bGN[k]).map RF.cells)[k]?=some ((l.bGN[k])[k]).cells:=by simp[hkr]
         have hab:((l.bGN[k]).map cA).getD k false=cA (l.bGN[k])[k]:=by simp[bJG,hkr]
         rw[d2,bIY,hab] at hk2
         simp only[go_sem,δ,γ,reduceCtorEq,bIV,hx]
         refine aA (L.tO _ (hrok.all _ (bIR hkr))) rfl ?_
         cases d3:cA (l.bGN[k])[k] with
         | true =>
          rw[d3] at hk2
          simp only[go_sem,γ,reduceCtorEq,QQ]
          refine bA (b:=false) rfl ?_
          have:(bIN l.bGN.length).all (oZ l)=false:=dN hlt hk2
          rw[this]; simp only[bIS,bKC]
         | false =>
          rw[d3] at hk2
          simp only[go_sem,γ,reduceCtorEq,aNP,wZz k]
          refine aK (k+1) ⟨hlt,ha.step hk2⟩ Om ?_ PH.nil_le
          exact Lq
       ·simp only[decide_eq_false d1,bIS] at hk2
        simp only[go_sem,γ,cT (show (((l.bGN[k]).length:Nat):Int)≠(l.start.length:Nat) by omega),QQ]
        refine bA (b:=false) rfl ?_
        have:(bIN l.bGN.length).all (oZ l)=false:=dN hlt hk2
        rw[this]; simp only[bIS,bKC]
      ·have bGP:¬ (k:Int)<(l.bGN.length:Nat):=by omega
       have:k=l.bGN.length:=by omega
       subst this
       have bHZ:(bIN l.bGN.length).all (oZ l)=true:=ha
       have he:xE l:=⟨by omega,by omega,fun r hr=>by
        obtain⟨i,hi,rfl⟩:=bKQ hr
        have:=bJJ.1 bHZ i (bKB.2 hi)
        rw[hrk i hi] at this
        simp only[bJI,decide_eq_true_eq] at this
        omega⟩
       have tail:=a4R L l hl he
       simp only[aC.wp,go_sem] at tail
       rw[bHZ]
       simp only[go_sem,bGP,bIY,bKL]
       exact tail _ rfl
   ·simp only[go_sem,δ,γ,θ,reduceCtorEq,bIV,bIM,bP (Om:((l.exit.length:Nat):Int)=(l.start.length:Nat)),cT (Om:((l.bGN.length:Nat):Int)≠(l.start.length:Nat)),uW]
    exact bA rfl (by rw[decide_eq_false c3]; simp only[bIS,bKC])
  ·simp only[go_sem,γ,reduceCtorEq,bIV,bIM,cT (Om:((l.exit.length:Nat):Int)≠(l.start.length:Nat)),uW]
   exact bA rfl (by rw[decide_eq_false c2]; simp only[bIS,bKC])
structure jF (C:Ctx):Prop extends XS C where
 law:∀ l:cI,l.Ok→aD C 95 [.agg l.cells] .nil (aE (.bool (jX l)))
 pol:∀ (p:cY) (n:Nat),p.Ok→n≤4→aD C 112 [.agg p.cells,.int .i64 n] .nil (aE (.bool (iD n p)))
 bGT:∀ f:aL,f.Ok→aD C 111 [.agg f.cells] .nil (aE (.bool (mJ f)))
abbrev eI (l:List (List UInt8)):List (List PV):=l.map fun s=>[PV.str s]
theorem sY (l:List (List UInt8)) {k:Nat} (h:k<l.length):eI (l.take k)++[[.str l[k]]]=eI (l.take (k+1)):=by
 unfold eI
 rw[bKK h,bKJ]; rfl
theorem pU {l:List (List UInt8)} (h:l.length≤1000):roomFor (eI l).length 1 16:=by
 unfold roomFor eI
 simp only[bIM,maxLen]; omega
def gG {α:Type} (l:List α) (p:α→Bool) (k:Nat):Bool:=(l.take k).all p
theorem qB {α:Type} (l:List α) (p:α→Bool):gG l p 0=true:=rfl
theorem qA {α:Type} (l:List α) (p:α→Bool) {k:Nat} (h:k<l.length):gG l p (k+1)=(gG l p k&&p l[k]):=by
 unfold gG
 rw[bKK h,List.all_append]; simp
theorem sL {α:Type} (l:List α) (p:α→Bool):gG l p l.length=l.all p:=by unfold gG; rw[bJN]
def gP (f:aL) (w3 w4 w5 w6 w7:PV) (ok:Bool):PF:=(((((((PF.nil.set 1 (.bJ f.cells)).set 3 (w3)).set 4 (w4)).set 5 (w5)).set 6 (w6)).set 7 (w7)).set 8 (.bool ok))
structure jI (F:PF) (f:aL) (w3 w4 w5 w6 w7:PV) (ok:Bool):Prop where
 a1:F 1=some (.bJ f.cells)
 a3:F 3=some w3
 a4:F 4=some w4
 a5:F 5=some w5
 a6:F 6=some w6
 a7:F 7=some w7
 a8:F 8=some (.bool ok)
theorem aXG {C:Ctx} (L:jF C) (f:aL) (hf:f.Ok) (hs:f.bGR.length≤4) (w4 w5 w6 w7:PV) (K:cN) (F:PF) (H:PH) (hv:jI F f .aB w4 w5 w6 w7 true)
  (h67:F 67=some (.sl 4 (f.bGR.map cI.cells))) (h68:F 68=some (.int .i64 (f.bGR.length:Nat))) (h69:F 69=some (.int .i64 0))
  (hK:∀ v F' H',jI F' f v w4 w5 w6 w7 (f.bGR.all jX)→bM H' 1 v (eI (f.bGR.map cI.name))→K (.exit 0) F' H') :
  aC.wp C (.loop FB) K F H:=by
 refine wp_loop (α:=Nat × PV × PH) (fun t=>(((gP f t.2.1 w4 w5 w6 w7 (gG f.bGR jX t.1)).set 67 (.sl 4 (f.bGR.map cI.cells))).set 68 (.int .i64 (f.bGR.length:Nat))).set 69 (.int .i64 t.1)) (fun t=>t.2.2)
  (fun t=>t.1≤f.bGR.length∧bM t.2.2 1 t.2.1 (eI ((f.bGR.map cI.name).take t.1))) (fun t=>f.bGR.length-t.1) (0,.aB,.nil) ⟨bIX _,.nil⟩ ?_ PH.nil_le ?_
 ·unfold gP
  (repeat' (first|exact PF.nil_le|refine PF.aI ?_ ?_))<;>first|(simp only[go_sem,hv.a1,hv.a3,hv.a4,hv.a5,hv.a6,hv.a7,hv.a8,h67,h68,h69,qB]<;>rfl)|rfl
 rintro⟨k,v,H0⟩ ⟨hk,hO⟩
 simp only at hk hO ⊢
 simp only[go_sem,γ,FB,aOK,gP]
 by_cases hlt:k<f.bGR.length
 ·have bGP:(k:Int)<(f.bGR.length:Nat):=by omega
  have hr:(f.bGR.map cI.cells)[k]?=some (f.bGR[k]).cells:=by simp[hlt]
  have hsn:=sY (f.bGR.map cI.name) (k:=k) (by simpa using hlt)
  rw[bKU] at hsn
  simp only[go_sem,δ,γ,bGP,aOL,hr]
  refine aQ fun o ho=>?_
  simp only[go_sem,υ,δ,γ,η,θ,ζ,aOM]
  refine kZ hO ho (pU (by simp; omega)) fun v' H' hO' ho'=>?_
  rw[hsn] at hO'
  have bGQ:=qA f.bGR jX hlt
  cases hb:gG f.bGR jX k with
  | false =>
   rw[hb,bIS] at bGQ
   simp only[go_sem,γ,reduceCtorEq,aiC,ho',VE,wZz k]
   refine aK (k+1,v',H') ⟨hlt,hO'⟩ (by simp only; omega) ?_ PH.le_refl
   simp only[bGQ]
   exact Lq
  | true =>
   rw[hb,bIY] at bGQ
   simp only[go_sem,δ,γ,aiC,ho']
   refine aA (L.law _ (hf.law _ (bIR hlt))) Ev ?_
   simp only[go_sem,γ,VE,wZz k]
   refine aK (k+1,v',H') ⟨hlt,hO'⟩ (by simp only; omega) ?_ PH.le_refl
   simp only[bGQ]
   exact Lq
 ·have bGP:¬ (k:Int)<(f.bGR.length:Nat):=by omega
  have:k=f.bGR.length:=by omega
  subst this
  rw[bJD (by simp)] at hO
  rw[sL]
  simp only[go_sem,bGP]
  exact hK v _ _ ⟨by simp only[go_sem,γ],by simp only[go_sem,γ],by simp only[go_sem,γ],by simp only[go_sem,γ],by simp only[go_sem,γ],by simp only[go_sem,γ],by simp only[go_sem,γ]⟩ hO
theorem yN {n:Nat} (h:n≤1000):IntKind.i64.wrap ((n:Int)-1)=(n:Int)-1:=wrap_i64 Om Om
theorem aXH {C:Ctx} (L:jF C) (f:aL) (hs:f.bGJ.length≤4) (hl:f.bGR.length≤4) (b0:Bool) (w3 w5 w6 w7:PV) (K:cN) (F:PF) (H:PH) (hv:jI F f w3 .aB w5 w6 w7 b0)
  (h67:F 85=some (.sl 4 (f.bGJ.map cS.cells))) (h68:F 86=some (.int .i64 (f.bGJ.length:Nat))) (h69:F 87=some (.int .i64 0))
  (hK:∀ v F' H',jI F' f w3 v w5 w6 w7 (b0&&f.bGJ.all (iW f))→bM H' 1 v (eI (f.bGJ.map cS.name))→K (.exit 2) F' H') :
  aC.wp C (.loop FC) K F H:=by
 refine wp_loop (α:=Nat × PV × PH) (fun t=>(((gP f w3 t.2.1 w5 w6 w7 (b0&&gG f.bGJ (iW f) t.1)).set 85 (.sl 4 (f.bGJ.map cS.cells))).set 86 (.int .i64 (f.bGJ.length:Nat))).set 87 (.int .i64 t.1)) (fun t=>t.2.2)
  (fun t=>t.1≤f.bGJ.length∧bM t.2.2 1 t.2.1 (eI ((f.bGJ.map cS.name).take t.1))) (fun t=>f.bGJ.length-t.1) (0,.aB,.nil) ⟨bIX _,.nil⟩ ?_ PH.nil_le ?_
 ·unfold gP
  (repeat' (first|exact PF.nil_le|refine PF.aI ?_ ?_))<;>first|(simp only[go_sem,hv.a1,hv.a3,hv.a4,hv.a5,hv.a6,hv.a7,hv.a8,h67,h68,h69,qB,bKL]<;>rfl)|rfl
 rintro⟨k,v,H0⟩ ⟨hk,hO⟩
 simp only at hk hO ⊢
 simp only[go_sem,γ,FC,ayS,gP]
 by_cases hlt:k<f.bGJ.length
 ·have bGP:(k:Int)<(f.bGJ.length:Nat):=by omega
  have hr:(f.bGJ.map cS.cells)[k]?=some (f.bGJ[k]).cells:=by simp[hlt]
  have hsn:=sY (f.bGJ.map cS.name) (k:=k) (by simpa using hlt)
  rw[bKU] at hsn
  simp only[go_sem,δ,γ,bGP,ayT,hr]
  refine aQ fun o ho=>?_
  simp only[go_sem,υ,δ,γ,η,θ,ζ,ayU]
  refine kZ hO ho (pU (by simp; omega)) fun v' H' hO' ho'=>?_
  rw[hsn] at hO'
  have bGQ:=qA f.bGJ (iW f) hlt
  have fin:∀ (c:Bool) (F':PF),c=(b0&&gG f.bGJ (iW f) (k+1))→((((gP f w3 v' w5 w6 w7 c).set 85 (.sl 4 (f.bGJ.map cS.cells))).set 86 (.int .i64 (f.bGJ.length:Nat))).set 87 (.int .i64 (k+1:Nat))).le F' →
    eF (fun (t:Nat × PV × PH)=>(((gP f w3 t.2.1 w5 w6 w7 (b0&&gG f.bGJ (iW f) t.1)).set 85 (.sl 4 (f.bGJ.map cS.cells))).set 86 (.int .i64 (f.bGJ.length:Nat))).set 87 (.int .i64 t.1)) (fun (t:Nat × PV × PH)=>t.2.2)  (fun (t:Nat × PV × PH)=>t.1≤f.bGJ.length∧bM t.2.2 1 t.2.1 (eI ((f.bGJ.map cS.name).take t.1))) (fun (t:Nat × PV × PH)=>f.bGJ.length-t.1) (f.bGJ.length-k) K .normal F' H':=by
   intro c F' hc hle
   refine aK (α:=Nat × PV × PH) (k+1,v',H') ⟨hlt,hO'⟩ (by simp only; omega) ?_ PH.le_refl
   rw[hc] at hle
   exact hle
  unfold gP at fin
  rw[bGQ,← bLJ] at fin
  have hm:iW f f.bGJ[k]=(within (f.bGJ[k]).bHC 1 16&&within (f.bGJ[k]).port 1 64&&within (f.bGJ[k]).law 0 ((f.bGR.length:Int)-1)):=rfl
  cases hb:(b0&&gG f.bGJ (iW f) k) with
  | false =>
   rw[hb,bIS] at fin
   simp only[go_sem,γ,reduceCtorEq,VH,ho',wA,wZz k]
   refine fin false _ rfl ?_
   exact Lq
  | true =>
   rw[hb,bIY] at fin
   simp only[go_sem,δ,γ,θ,VH,ho']
   refine aA (L.inn _ 1 16) Ev ?_
   cases e1:within (f.bGJ[k]).bHC 1 16 with
   | false =>
    simp only[go_sem,γ,reduceCtorEq,wA,wZz k]
    refine fin false _ (by rw[hm,e1]; simp only[bIS]) ?_
    exact Lq
   | true =>
    simp only[go_sem,δ,γ,θ,ho']
    refine aA (L.inn _ 1 64) Ev ?_
    cases e2:within (f.bGJ[k]).port 1 64 with
    | false =>
     simp only[go_sem,γ,reduceCtorEq,wA,wZz k]
     refine fin false _ (by rw[hm,e1,e2]; simp only[bIS,bKC]) ?_
     exact Lq
    | true =>
     simp only[go_sem,δ,γ,θ,ho',bIM,yN (Om:f.bGR.length≤1000)]
     refine aA (L.inn _ 0 _) Ev ?_
     simp only[go_sem,γ,wA,wZz k]
     refine fin (within (f.bGJ[k]).law 0 ((f.bGR.length:Int)-1)) _ (by rw[hm,e1,e2]; simp only[bIY]) ?_
     exact Lq
 ·have bGP:¬ (k:Int)<(f.bGJ.length:Nat):=by omega
  have:k=f.bGJ.length:=by omega
  subst this
  rw[bJD (by simp)] at hO
  rw[sL]
  simp only[go_sem,bGP]
  exact hK v _ _ ⟨by simp only[go_sem,γ],by simp only[go_sem,γ],by simp only[go_sem,γ],by simp only[go_sem,γ],by simp only[go_sem,γ],by simp only[go_sem,γ],by simp only[go_sem,γ]⟩ hO
theorem aXI {C:Ctx} (L:jF C) (f:aL) (t:List bR) (hs:t.length≤40) (b0:Bool) (w3 w4 w6 w7:PV) (K:cN) (F:PF) (H:PH) (hv:jI F f w3 w4 .aB w6 w7 b0)
  (h67:F 119=some (.sl 7 (t.map bR.cells))) (h68:F 120=some (.int .i64 (t.length:Nat))) (h69:F 121=some (.int .i64 0))
  (hK:∀ v F' H',jI F' f w3 w4 v w6 w7 b0→bM H' 1 v (eI (t.map bR.name))→K (.exit 4) F' H') :
  aC.wp C (.loop FD) K F H:=by
 refine wp_loop (α:=Nat × PV × PH) (fun a=>(((gP f w3 w4 a.2.1 w6 w7 b0).set 119 (.sl 7 (t.map bR.cells))).set 120 (.int .i64 (t.length:Nat))).set 121 (.int .i64 a.1)) (fun a=>a.2.2)
  (fun a=>a.1≤t.length∧bM a.2.2 1 a.2.1 (eI ((t.map bR.name).take a.1))) (fun a=>t.length-a.1) (0,.aB,.nil) ⟨bIX _,.nil⟩ ?_ PH.nil_le ?_
 ·unfold gP
  (repeat' (first|exact PF.nil_le|refine PF.aI ?_ ?_))<;>first|(simp only[go_sem,hv.a1,hv.a3,hv.a4,hv.a5,hv.a6,hv.a7,hv.a8,h67,h68,h69]<;>rfl)|rfl
 rintro⟨k,v,H0⟩ ⟨hk,hO⟩
 simp only at hk hO ⊢
 simp only[go_sem,γ,FD,ayV,gP]
 by_cases hlt:k<t.length
 ·have bGP:(k:Int)<(t.length:Nat):=by omega
  have hr:(t.map bR.cells)[k]?=some (t[k]).cells:=by simp[hlt]
  have hsn:=sY (t.map bR.name) (k:=k) (by simpa using hlt)
  rw[bKU] at hsn
  simp only[go_sem,δ,γ,bGP,ayW,hr]
  refine aQ fun o ho=>?_
  simp only[go_sem,υ,δ,γ,η,θ,ζ,ayX]
  refine kZ hO ho (pU (by simp; omega)) fun v' H' hO' ho'=>?_
  rw[hsn] at hO'
  simp only[go_sem,γ,ayY,wZz k]
  refine aK (k+1,v',H') ⟨hlt,hO'⟩ (by simp only; omega) ?_ PH.le_refl
  exact Lq
 ·have bGP:¬ (k:Int)<(t.length:Nat):=by omega
  have:k=t.length:=by omega
  subst this
  rw[bJD (by simp)] at hO
  simp only[go_sem,bGP]
  exact hK v _ _ ⟨by simp only[go_sem,γ],by simp only[go_sem,γ],by simp only[go_sem,γ],by simp only[go_sem,γ],by simp only[go_sem,γ],by simp only[go_sem,γ],by simp only[go_sem,γ]⟩ hO
theorem aXJ {C:Ctx} (L:jF C) (f:aL) (names:List (List UInt8)) (hn:names.length≤40) (hs:f.bGI.length≤24) (hm:f.bGJ.length≤4) (hd:f.bGL.length≤40) (b0:Bool) (w3 w4 v0 w6 w7:PV) (K:cN) (F:PF) (H:PH) (hv:jI F f w3 w4 v0 w6 w7 b0)
  (h0:bM H 1 v0 (eI names))
  (h67:F 132=some (.sl 3 (f.bGI.map cC.cells))) (h68:F 133=some (.int .i64 (f.bGI.length:Nat))) (h69:F 134=some (.int .i64 0))
  (hK:∀ v F' H',jI F' f w3 w4 v w6 w7 (b0&&f.bGI.all (gD f))→bM H' 1 v (eI (names++f.bGI.map cC.name))→K (.exit 6) F' H') :
  aC.wp C (.loop FF) K F H:=by
 refine wp_loop (α:=Nat × PV × PH) (fun t=>(((gP f w3 w4 t.2.1 w6 w7 (b0&&gG f.bGI (gD f) t.1)).set 132 (.sl 3 (f.bGI.map cC.cells))).set 133 (.int .i64 (f.bGI.length:Nat))).set 134 (.int .i64 t.1)) (fun t=>t.2.2)
  (fun t=>t.1≤f.bGI.length∧bM t.2.2 1 t.2.1 (eI (names++(f.bGI.map cC.name).take t.1))) (fun t=>f.bGI.length-t.1) (0,v0,H) ⟨bIX _,by rw[List.take_zero,bKM]; exact h0⟩ ?_ PH.le_refl ?_
 ·unfold gP
  (repeat' (first|exact PF.nil_le|refine PF.aI ?_ ?_))<;>first|(simp only[go_sem,hv.a1,hv.a3,hv.a4,hv.a5,hv.a6,hv.a7,hv.a8,h67,h68,h69,qB,bKL]<;>rfl)|rfl
 rintro⟨k,v,H0⟩ ⟨hk,hO⟩
 simp only at hk hO ⊢
 simp only[go_sem,γ,FF,ayZ,gP]
 by_cases hlt:k<f.bGI.length
 ·have bGP:(k:Int)<(f.bGI.length:Nat):=by omega
  have hr:(f.bGI.map cC.cells)[k]?=some (f.bGI[k]).cells:=by simp[hlt]
  have hsn:eI (names++(f.bGI.map cC.name).take k)++[[.str (f.bGI[k]).name]]=eI (names++(f.bGI.map cC.name).take (k+1)):=by
   rw[bKK (by simpa using hlt),← bJM,bKU]
   unfold eI
   simp only[bKJ,bKV,List.map_nil]
  simp only[go_sem,δ,γ,bGP,azA,hr]
  refine aQ fun o ho=>?_
  simp only[go_sem,υ,δ,γ,η,θ,ζ,azB]
  refine kZ hO ho (pU (by simp; omega)) fun v' H' hO' ho'=>?_
  rw[hsn] at hO'
  have bGQ:=qA f.bGI (gD f) hlt
  have fin:∀ (c:Bool) (F':PF),c=(b0&&gG f.bGI (gD f) (k+1))→((((gP f w3 w4 v' w6 w7 c).set 132 (.sl 3 (f.bGI.map cC.cells))).set 133 (.int .i64 (f.bGI.length:Nat))).set 134 (.int .i64 (k+1:Nat))).le F' →
    eF (fun (t:Nat × PV × PH)=>(((gP f w3 w4 t.2.1 w6 w7 (b0&&gG f.bGI (gD f) t.1)).set 132 (.sl 3 (f.bGI.map cC.cells))).set 133 (.int .i64 (f.bGI.length:Nat))).set 134 (.int .i64 t.1)) (fun (t:Nat × PV × PH)=>t.2.2)  (fun (t:Nat × PV × PH)=>t.1≤f.bGI.length∧bM t.2.2 1 t.2.1 (eI (names++(f.bGI.map cC.name).take t.1))) (fun (t:Nat × PV × PH)=>f.bGI.length-t.1) (f.bGI.length-k) K .normal F' H':=by
   intro c F' hc hle
   refine aK (α:=Nat × PV × PH) (k+1,v',H') ⟨hlt,hO'⟩ (by simp only; omega) ?_ PH.le_refl
   rw[hc] at hle
   exact hle
  unfold gP at fin
  rw[bGQ,← bLJ] at fin
  have hmd:gD f f.bGI[k]=(within (f.bGI[k]).model 0 ((f.bGJ.length:Int)-1)&&within (f.bGI[k]).machine 0 ((f.bGL.length:Int)-1)&&decide ((f.bGL.map bR.level).getD (f.bGI[k]).machine.toNat 0=4)):=rfl
  cases hb:(b0&&gG f.bGI (gD f) k) with
  | false =>
   rw[hb,bIS] at fin
   simp only[go_sem,γ,reduceCtorEq,VK,ho',rJ,wZz k]
   refine fin false _ rfl ?_
   exact Lq
  | true =>
   rw[hb,bIY] at fin
   simp only[go_sem,δ,γ,θ,VK,ho',bIM,yN (Om:f.bGJ.length≤1000)]
   refine aA (L.inn _ 0 _) Ev ?_
   cases e1:within (f.bGI[k]).model 0 ((f.bGJ.length:Int)-1) with
   | false =>
    simp only[go_sem,γ,reduceCtorEq,rJ,wZz k]
    refine fin false _ (by rw[hmd,e1]; simp only[bIS]) ?_
    exact Lq
   | true =>
    simp only[go_sem,δ,γ,θ,ho',bIM,yN (Om:f.bGL.length≤1000)]
    refine aA (L.inn _ 0 _) Ev ?_
    cases e2:within (f.bGI[k]).machine 0 ((f.bGL.length:Int)-1) with
    | false =>
     simp only[go_sem,γ,reduceCtorEq,rJ,wZz k]
     refine fin false _ (by rw[hmd,e1,e2]; simp only[bIS,bKC]) ?_
     exact Lq
    | true =>
     obtain⟨i1,i2⟩:=within_iff.1 e2
     have i3:(f.bGI[k]).machine.toNat<f.bGL.length:=by omega
     have hpr:(f.bGL.map bR.cells)[(f.bGI[k]).machine.toNat]?=some (f.bGL[(f.bGI[k]).machine.toNat]).cells:=by simp[i3]
     have hlv:(f.bGL.map bR.level).getD (f.bGI[k]).machine.toNat 0=(f.bGL[(f.bGI[k]).machine.toNat]).level:=by simp[i3]
     rw[hlv] at hmd
     by_cases e3:(f.bGL[(f.bGI[k]).machine.toNat]).level=4
     ·simp only[go_sem,δ,γ,θ,ho',i1,hpr,bS e3,rJ,wZz k]
      refine fin true _ (by rw[hmd,e1,e2,decide_eq_true e3]; rfl) ?_
      exact Lq
     ·simp only[go_sem,δ,γ,θ,ho',i1,hpr,bF e3,rJ,wZz k]
      refine fin false _ (by rw[hmd,e1,e2,decide_eq_false e3]; rfl) ?_
      exact Lq
 ·have bGP:¬ (k:Int)<(f.bGI.length:Nat):=by omega
  have:k=f.bGI.length:=by omega
  subst this
  rw[bJD (by simp)] at hO
  rw[sL]
  simp only[go_sem,bGP]
  exact hK v _ _ ⟨by simp only[go_sem,γ],by simp only[go_sem,γ],by simp only[go_sem,γ],by simp only[go_sem,γ],by simp only[go_sem,γ],by simp only[go_sem,γ],by simp only[go_sem,γ]⟩ hO
theorem aXK {C:Ctx} (L:jF C) (f:aL) (hf:f.Ok) (hs:f.bGM.length≤4) (hm:f.bGJ.length≤4) (b0:Bool) (w3 w4 w5 w7:PV) (K:cN) (F:PF) (H:PH) (hv:jI F f w3 w4 w5 .aB w7 b0)
  (h67:F 174=some (.sl 17 (f.bGM.map cY.cells))) (h68:F 175=some (.int .i64 (f.bGM.length:Nat))) (h69:F 176=some (.int .i64 0))
  (hK:∀ v F' H',jI F' f w3 w4 w5 v w7 (b0&&f.bGM.all (iD f.bGJ.length))→bM H' 1 v (eI (f.bGM.map cY.name))→K (.exit 8) F' H') :
  aC.wp C (.loop FG) K F H:=by
 refine wp_loop (α:=Nat × PV × PH) (fun t=>(((gP f w3 w4 w5 t.2.1 w7 (b0&&gG f.bGM (iD f.bGJ.length) t.1)).set 174 (.sl 17 (f.bGM.map cY.cells))).set 175 (.int .i64 (f.bGM.length:Nat))).set 176 (.int .i64 t.1)) (fun t=>t.2.2)
  (fun t=>t.1≤f.bGM.length∧bM t.2.2 1 t.2.1 (eI ((f.bGM.map cY.name).take t.1))) (fun t=>f.bGM.length-t.1) (0,.aB,.nil) ⟨bIX _,.nil⟩ ?_ PH.nil_le ?_
 ·unfold gP
  (repeat' (first|exact PF.nil_le|refine PF.aI ?_ ?_))<;>first|(simp only[go_sem,hv.a1,hv.a3,hv.a4,hv.a5,hv.a6,hv.a7,hv.a8,h67,h68,h69,qB,bKL]<;>rfl)|rfl
 rintro⟨k,v,H0⟩ ⟨hk,hO⟩
 simp only at hk hO ⊢
 simp only[go_sem,γ,FG,azC,gP]
 by_cases hlt:k<f.bGM.length
 ·have bGP:(k:Int)<(f.bGM.length:Nat):=by omega
  have hr:(f.bGM.map cY.cells)[k]?=some (f.bGM[k]).cells:=by simp[hlt]
  have hsn:=sY (f.bGM.map cY.name) (k:=k) (by simpa using hlt)
  rw[bKU] at hsn
  simp only[go_sem,δ,γ,bGP,azD,hr]
  refine aQ fun o ho=>?_
  simp only[go_sem,υ,δ,γ,η,θ,ζ,azE]
  refine kZ hO ho (pU (by simp; omega)) fun v' H' hO' ho'=>?_
  rw[hsn] at hO'
  have bGQ:=qA f.bGM (iD f.bGJ.length) hlt
  have fin:∀ (c:Bool) (F':PF),c=(b0&&gG f.bGM (iD f.bGJ.length) (k+1))→((((gP f w3 w4 w5 v' w7 c).set 174 (.sl 17 (f.bGM.map cY.cells))).set 175 (.int .i64 (f.bGM.length:Nat))).set 176 (.int .i64 (k+1:Nat))).le F' →
    eF (fun (t:Nat × PV × PH)=>(((gP f w3 w4 w5 t.2.1 w7 (b0&&gG f.bGM (iD f.bGJ.length) t.1)).set 174 (.sl 17 (f.bGM.map cY.cells))).set 175 (.int .i64 (f.bGM.length:Nat))).set 176 (.int .i64 t.1)) (fun (t:Nat × PV × PH)=>t.2.2)  (fun (t:Nat × PV × PH)=>t.1≤f.bGM.length∧bM t.2.2 1 t.2.1 (eI ((f.bGM.map cY.name).take t.1))) (fun (t:Nat × PV × PH)=>f.bGM.length-t.1) (f.bGM.length-k) K .normal F' H':=by
   intro c F' hc hle
   refine aK (α:=Nat × PV × PH) (k+1,v',H') ⟨hlt,hO'⟩ (by simp only; omega) ?_ PH.le_refl
   rw[hc] at hle
   exact hle
  unfold gP at fin
  rw[bGQ,← bLJ] at fin
  cases hb:(b0&&gG f.bGM (iD f.bGJ.length) k) with
  | false =>
   rw[hb,bIS] at fin
   simp only[go_sem,γ,reduceCtorEq,VM,ho',VN,wZz k]
   refine fin false _ rfl ?_
   exact Lq
  | true =>
   rw[hb,bIY] at fin
   simp only[go_sem,δ,γ,θ,VM,ho',bIM]
   refine aA (L.pol _ _ (hf.bGW _ (bIR hlt)) hm) Ev ?_
   simp only[go_sem,γ,VN,wZz k]
   refine fin _ _ rfl ?_
   exact Lq
 ·have bGP:¬ (k:Int)<(f.bGM.length:Nat):=by omega
  have:k=f.bGM.length:=by omega
  subst this
  rw[bJD (by simp)] at hO
  rw[sL]
  simp only[go_sem,bGP]
  exact hK v _ _ ⟨by simp only[go_sem,γ],by simp only[go_sem,γ],by simp only[go_sem,γ],by simp only[go_sem,γ],by simp only[go_sem,γ],by simp only[go_sem,γ],by simp only[go_sem,γ]⟩ hO
theorem aXL {C:Ctx} (L:jF C) (f:aL) (hs:f.bGK.length≤12) (hl:f.bGM.length≤4) (b0:Bool) (w3 w4 w5 w6:PV) (K:cN) (F:PF) (H:PH) (hv:jI F f w3 w4 w5 w6 .aB b0)
  (h67:F 195=some (.sl 2 (f.bGK.map dZ.cells))) (h68:F 196=some (.int .i64 (f.bGK.length:Nat))) (h69:F 197=some (.int .i64 0))
  (hK:∀ v F' H',jI F' f w3 w4 w5 w6 v (b0&&f.bGK.all (mH f))→bM H' 1 v (eI (f.bGK.map dZ.name))→K (.exit 10) F' H') :
  aC.wp C (.loop FH) K F H:=by
 refine wp_loop (α:=Nat × PV × PH) (fun t=>(((gP f w3 w4 w5 w6 t.2.1 (b0&&gG f.bGK (mH f) t.1)).set 195 (.sl 2 (f.bGK.map dZ.cells))).set 196 (.int .i64 (f.bGK.length:Nat))).set 197 (.int .i64 t.1)) (fun t=>t.2.2)
  (fun t=>t.1≤f.bGK.length∧bM t.2.2 1 t.2.1 (eI ((f.bGK.map dZ.name).take t.1))) (fun t=>f.bGK.length-t.1) (0,.aB,.nil) ⟨bIX _,.nil⟩ ?_ PH.nil_le ?_
 ·unfold gP
  (repeat' (first|exact PF.nil_le|refine PF.aI ?_ ?_))<;>first|(simp only[go_sem,hv.a1,hv.a3,hv.a4,hv.a5,hv.a6,hv.a7,hv.a8,h67,h68,h69,qB,bKL]<;>rfl)|rfl
 rintro⟨k,v,H0⟩ ⟨hk,hO⟩
 simp only at hk hO ⊢
 simp only[go_sem,γ,FH,azF,gP]
 by_cases hlt:k<f.bGK.length
 ·have bGP:(k:Int)<(f.bGK.length:Nat):=by omega
  have hr:(f.bGK.map dZ.cells)[k]?=some (f.bGK[k]).cells:=by simp[hlt]
  have hsn:=sY (f.bGK.map dZ.name) (k:=k) (by simpa using hlt)
  rw[bKU] at hsn
  simp only[go_sem,δ,γ,bGP,azG,hr]
  refine aQ fun o ho=>?_
  simp only[go_sem,υ,δ,γ,η,θ,ζ,azH]
  refine kZ hO ho (pU (by simp; omega)) fun v' H' hO' ho'=>?_
  rw[hsn] at hO'
  have bGQ:=qA f.bGK (mH f) hlt
  have fin:∀ (c:Bool) (F':PF),c=(b0&&gG f.bGK (mH f) (k+1))→((((gP f w3 w4 w5 w6 v' c).set 195 (.sl 2 (f.bGK.map dZ.cells))).set 196 (.int .i64 (f.bGK.length:Nat))).set 197 (.int .i64 (k+1:Nat))).le F' →
    eF (fun (t:Nat × PV × PH)=>(((gP f w3 w4 w5 w6 t.2.1 (b0&&gG f.bGK (mH f) t.1)).set 195 (.sl 2 (f.bGK.map dZ.cells))).set 196 (.int .i64 (f.bGK.length:Nat))).set 197 (.int .i64 t.1)) (fun (t:Nat × PV × PH)=>t.2.2)  (fun (t:Nat × PV × PH)=>t.1≤f.bGK.length∧bM t.2.2 1 t.2.1 (eI ((f.bGK.map dZ.name).take t.1))) (fun (t:Nat × PV × PH)=>f.bGK.length-t.1) (f.bGK.length-k) K .normal F' H':=by
   intro c F' hc hle
   refine aK (α:=Nat × PV × PH) (k+1,v',H') ⟨hlt,hO'⟩ (by simp only; omega) ?_ PH.le_refl
   rw[hc] at hle
   exact hle
  unfold gP at fin
  rw[bGQ,← bLJ] at fin
  have hm:mH f f.bGK[k]=within (f.bGK[k]).bGW 0 ((f.bGM.length:Int)-1):=rfl
  cases hb:(b0&&gG f.bGK (mH f) k) with
  | false =>
   rw[hb,bIS] at fin
   simp only[go_sem,γ,reduceCtorEq,VP,ho',VQ,wZz k]
   refine fin false _ rfl ?_
   exact Lq
  | true =>
   rw[hb,bIY,hm] at fin
   simp only[go_sem,δ,γ,θ,VP,ho',bIM,yN (Om:f.bGM.length≤1000)]
   refine aA (L.inn _ 0 _) Ev ?_
   simp only[go_sem,γ,VQ,wZz k]
   refine fin _ _ rfl ?_
   exact Lq
 ·have bGP:¬ (k:Int)<(f.bGK.length:Nat):=by omega
  have:k=f.bGK.length:=by omega
  subst this
  rw[bJD (by simp)] at hO
  rw[sL]
  simp only[go_sem,bGP]
  exact hK v _ _ ⟨by simp only[go_sem,γ],by simp only[go_sem,γ],by simp only[go_sem,γ],by simp only[go_sem,γ],by simp only[go_sem,γ],by simp only[go_sem,γ],by simp only[go_sem,γ]⟩ hO
theorem lG {f:aL} (h:¬ (f.bGR.length≤4∧f.bGJ.length≤4∧f.bGL.length≤40∧f.bGI.length≤24∧f.bGM.length≤4∧f.bGK.length≤12)):lF f=false:=by
 rw[← Bool.not_eq_true]
 intro hs
 simp only[lF,bJI,decide_eq_true_eq] at hs
 omega
theorem aKR {f:aL} (h:f.bGR.length≤4∧f.bGJ.length≤4∧f.bGL.length≤40∧f.bGI.length≤24∧f.bGM.length≤4∧f.bGK.length≤12):lF f=within f.bHW 1 4:=by
 obtain⟨h1,h2,h3,h4,h5,h6⟩:=h
 simp[lF,h1,h2,h3,h4,h5,h6]
theorem kT {t:Nat} {n m:Int} {F:PF} {H:PH} (h:F t=some (.int .i64 n)) (e:n=m):aU [.tmp t] (bZ (.int .i64 m)) .ret F H:=by
 subst e
 exact aW (.inr rfl) .nil (vs:=[.int .i64 n]) (by rw[kU,nP,h,pN]) PH.nil_le ⟨.refl _,rfl⟩
def wR (f:aL):Int:=if dS f then 0 else 1
theorem a0F {f:aL} (h:dS f=false):wR f=1:=by rw[wR,h]; rfl
theorem qY {C:Ctx} {F:PF} {H:PH} {name t s:Nat} {v r:PV} {rows:List (List PV)} {d:Option Nat} {K:PF→PH→Prop} (h:aD C name [.sl s rows] .nil (aE r)) (hO:bM H s v rows) (ht:F t=some v)
  (hK:∀ (F1:PF) (H1:PH),(∀ i u,F i=some u→Pure u→F1 i=some u)→K (F1.put d r) H1):fU C name [.tmp t] [] d K F H:=by
 rcases hO with ⟨rfl,rfl⟩ | ⟨q,rs,rfl,h1,h2,h3⟩
 ·refine aA (h.aZL (.inl ⟨rfl,rfl⟩)) (by rw[vQ,ZX,ht,QJ]) ?_
  exact hK F H fun i u hi _=>hi
 ·rw[← h3] at h
  refine nU (k:=rows.length) h ht h1 h2 (hK _ _ fun i u hi hp=>?_)
  rw[qG,hi,bJW,hp q s rs]
theorem Seen.pure {s:Nat} {v:PV} {rows:List (List PV)} (h:Seen s v rows):Pure v:=by
 rcases h with ⟨_,rfl⟩ | rfl
 ·exact fun _ _ _=>rfl
 ·exact fun _ _ _=>rfl
def bI (b:Bool):Int:=if b then 0 else 1
abbrev QW (f:aL):List (List UInt8):=(f.bGL.drop 1).map bR.name++f.bGI.map cC.name
def sH (f:aL):Bool:=distinct (f.bGR.map cI.name)&&distinct (f.bGJ.map cS.name)&&distinct (QW f)&&distinct (f.bGM.map cY.name)&&distinct (f.bGK.map dZ.name)
structure Small (f:aL):Prop where
 bGR:f.bGR.length≤4
 bGJ:f.bGJ.length≤4
 bGL:f.bGL.length≤40
 bGI:f.bGI.length≤24
 bGM:f.bGM.length≤4
 bGK:f.bGK.length≤12
theorem yA {C:Ctx} (L:jF C) {v:PV} {l:List (List UInt8)} (h:Seen 1 v (eI l)) (hl:l.length≤1000):aD C 110 [v] .nil (aE (.bool (distinct l))) :=
 (L.uniq l (Om:l.length≤9223372036854775807)).aZL h
theorem beB {C:Ctx} (L:jF C) (f:aL) (hs:Small f) (w3 w4 w5 w6 w7:PV) (ok:Bool) (F:PF) (H:PH) (hv:jI F f w3 w4 w5 w6 w7 ok)
  (h3:Seen 1 w3 (eI (f.bGR.map cI.name))) (h4:Seen 1 w4 (eI (f.bGJ.map cS.name))) (h5:Seen 1 w5 (eI (QW f))) (h6:Seen 1 w6 (eI (f.bGM.map cY.name))) (h7:bM H 1 w7 (eI (f.bGK.map dZ.name))) :
  aC.wp C (.seq (.seq (.region wB) (.cond (.tmp 243) (.seq (.region lM) .ret) .skip)) (.seq (.region FI) .ret)) (aU [.tmp 2] (bZ (.int .i64 (bI (ok&&sH f))))) F H:=by
 obtain⟨s1,s2,s3,s4,s5,s6⟩:=hs
 have l3:(f.bGR.map cI.name).length≤1000:=by simp; omega
 have l4:(f.bGJ.map cS.name).length≤1000:=by simp; omega
 have l5:(QW f).length≤1000:=by simp; omega
 have l6:(f.bGM.map cY.name).length≤1000:=by simp; omega
 have l7:(f.bGK.map dZ.name).length≤9223372036854775807:=by simp; omega
 cases ok with
 | false =>
  simp only[go_sem,γ,wB,hv.a8,lM]
  exact kT rfl rfl
 | true =>
  simp only[go_sem,γ,wB,hv.a8,hv.a3]
  refine aA (yA L h3 l3) rfl ?_
  unfold sH
  cases c1:distinct (f.bGR.map cI.name) with
  | false =>
   simp only[go_sem,γ,reduceCtorEq,lM,bJB]
   exact kT rfl rfl
  | true =>
   simp only[go_sem,γ,reduceCtorEq,hv.a4,bIV]
   refine aA (yA L h4 l4) rfl ?_
   cases c2:distinct (f.bGJ.map cS.name) with
   | false =>
    simp only[go_sem,γ,reduceCtorEq,lM,bJB]
    exact kT rfl rfl
   | true =>
    simp only[go_sem,γ,reduceCtorEq,hv.a5,bIV]
    refine aA (yA L h5 l5) rfl ?_
    cases c3:distinct (QW f) with
    | false =>
     simp only[go_sem,γ,reduceCtorEq,lM,bJB]
     exact kT rfl rfl
    | true =>
     simp only[go_sem,γ,reduceCtorEq,hv.a6,bIV]
     refine aA (yA L h6 l6) rfl ?_
     cases c4:distinct (f.bGM.map cY.name) with
     | false =>
      simp only[go_sem,γ,reduceCtorEq,lM,bJB]
      exact kT rfl rfl
     | true =>
      simp only[go_sem,γ,reduceCtorEq,hv.a7,bIV]
      refine qY (L.uniq _ l7) h7 rfl fun F1 H1 hp=>?_
      have g:F1 239=some (.bool false):=hp 239 _ rfl fun _ _ _=>rfl
      cases c5:distinct (f.bGK.map dZ.name) with
      | false =>
       simp only[go_sem,γ,reduceCtorEq,lM,bJB,g]
       exact kT rfl rfl
      | true =>
       simp only[go_sem,γ,reduceCtorEq,FI,bIV,g]
       exact kT rfl rfl
abbrev ajW (b:Bool):cN:=aU [.tmp 2] (bZ (.int .i64 (bI b)))
def atI:aC:=.seq (.seq (.region VO) (.block 10 (.loop FH))) (.seq (.seq (.region wB) (.cond (.tmp 243) (.seq (.region lM) .ret) .skip)) (.seq (.region FI) .ret))
def atH:aC:=.seq (.seq (.region VL) (.block 8 (.loop FG))) atI
def atG:aC:=.seq (.seq (.region VJ) (.block 6 (.loop FF))) atH
def atF:aC:=.seq (.seq (.region VI) (.block 4 (.loop FD))) atG
def atE:aC:=.seq (.seq (.region VG) (.block 2 (.loop FC))) atF
def a0E:aC:=.seq (.seq (.region aiB) (.block 0 (.loop FB))) atE
theorem blP {C:Ctx} (L:jF C) (f:aL) (hs:Small f) (w3 w4 w5 w6:PV) (ok:Bool) (F:PF) (H:PH) (hv:jI F f w3 w4 w5 w6 .aB ok)
  (h3:Seen 1 w3 (eI (f.bGR.map cI.name))) (h4:Seen 1 w4 (eI (f.bGJ.map cS.name))) (h5:Seen 1 w5 (eI (QW f))) (h6:bM H 1 w6 (eI (f.bGM.map cY.name))) :
  aC.wp C atI (ajW (ok&&f.bGK.all (mH f)&&sH f)) F H:=by
 unfold atI
 simp only[go_sem,γ,VO,hv.a1,bIM]
 refine nY h6 fun v1 hv1 F1 H1 ht hp=>?_
 refine aXL L f hs.bGK hs.bGM ok w3 w4 w5 v1 _ F1 H1 ⟨hp 1 _ (by simp only[go_sem,γ,hv.a1]) fun _ _ _=>rfl,hp 3 _ (by simp only[go_sem,γ,hv.a3]) h3.pure,hp 4 _ (by simp only[go_sem,γ,hv.a4]) h4.pure,hp 5 _ (by simp only[go_sem,γ,hv.a5]) h5.pure,ht 6 (by simp only[go_sem,γ,hv.a6]),hp 7 _ (by simp only[go_sem,γ,hv.a7]) fun _ _ _=>rfl,hp 8 _ (by simp only[go_sem,γ,hv.a8]) fun _ _ _=>rfl⟩
  (hp 195 _ rfl fun _ _ _=>rfl) (hp 196 _ rfl fun _ _ _=>rfl) (hp 197 _ rfl fun _ _ _=>rfl) fun v F' H' hv' hO=>?_
 have e:=beB L f hs w3 w4 w5 v1 v _ F' H' hv' h3 h4 h5 hv1 hO
 simp only[aC.wp,go_sem] at e
 simp only[go_sem]
 exact e
theorem blO {C:Ctx} (L:jF C) (f:aL) (hf:f.Ok) (hs:Small f) (w3 w4 w5:PV) (ok:Bool) (F:PF) (H:PH) (hv:jI F f w3 w4 w5 .aB .aB ok)
  (h3:Seen 1 w3 (eI (f.bGR.map cI.name))) (h4:Seen 1 w4 (eI (f.bGJ.map cS.name))) (h5:bM H 1 w5 (eI (QW f))) :
  aC.wp C atH (ajW (ok&&f.bGM.all (iD f.bGJ.length)&&f.bGK.all (mH f)&&sH f)) F H:=by
 unfold atH
 simp only[go_sem,δ,γ,θ,VL,hv.a1,bIM]
 refine nY h5 fun v1 hv1 F1 H1 ht hp=>?_
 refine aXK L f hf hs.bGM hs.bGJ ok w3 w4 v1 .aB _ F1 H1 ⟨hp 1 _ (by simp only[go_sem,γ,hv.a1]) fun _ _ _=>rfl,hp 3 _ (by simp only[go_sem,γ,hv.a3]) h3.pure,hp 4 _ (by simp only[go_sem,γ,hv.a4]) h4.pure,ht 5 (by simp only[go_sem,γ,hv.a5]),hp 6 _ (by simp only[go_sem,γ,hv.a6]) fun _ _ _=>rfl,hp 7 _ (by simp only[go_sem,γ,hv.a7]) fun _ _ _=>rfl,hp 8 _ (by simp only[go_sem,γ,hv.a8]) fun _ _ _=>rfl⟩
  (hp 174 _ rfl fun _ _ _=>rfl) (hp 175 _ rfl fun _ _ _=>rfl) (hp 176 _ rfl fun _ _ _=>rfl) fun v F' H' hv' hO=>?_
 simp only[go_sem]
 exact blP L f hs w3 w4 v1 v _ F' H' hv' h3 h4 hv1 hO
theorem blN {C:Ctx} (L:jF C) (f:aL) (hf:f.Ok) (hs:Small f) (w3 w4 w5:PV) (ok:Bool) (F:PF) (H:PH) (hv:jI F f w3 w4 w5 .aB .aB ok)
  (h3:Seen 1 w3 (eI (f.bGR.map cI.name))) (h4:Seen 1 w4 (eI (f.bGJ.map cS.name))) (h5:bM H 1 w5 (eI ((f.bGL.drop 1).map bR.name))) :
  aC.wp C atG (ajW (ok&&f.bGI.all (gD f)&&f.bGM.all (iD f.bGJ.length)&&f.bGK.all (mH f)&&sH f)) F H:=by
 unfold atG
 simp only[go_sem,δ,γ,θ,VJ,hv.a1,bIM]
 refine aXJ L f ((f.bGL.drop 1).map bR.name) (by have:=hs.bGL; simp; omega) hs.bGI hs.bGJ hs.bGL ok w3 w4 w5 .aB .aB _ _ H ⟨by simp only[go_sem,γ,hv.a1],by simp only[go_sem,γ,hv.a3],by simp only[go_sem,γ,hv.a4],by simp only[go_sem,γ,hv.a5],by simp only[go_sem,γ,hv.a6],by simp only[go_sem,γ,hv.a7],by simp only[go_sem,γ,hv.a8]⟩ h5
  rfl rfl rfl fun v F' H' hv' hO=>?_
 simp only[go_sem]
 exact blO L f hf hs w3 w4 v _ F' H' hv' h3 h4 hO
theorem blM {C:Ctx} (L:jF C) (f:aL) (hf:f.Ok) (hs:Small f) (hd:0<f.bGL.length) (w3 w4:PV) (ok:Bool) (F:PF) (H:PH) (hv:jI F f w3 w4 .aB .aB .aB ok)
  (h3:Seen 1 w3 (eI (f.bGR.map cI.name))) (h4:bM H 1 w4 (eI (f.bGJ.map cS.name))) :
  aC.wp C atF (ajW (ok&&f.bGI.all (gD f)&&f.bGM.all (iD f.bGJ.length)&&f.bGK.all (mH f)&&sH f)) F H:=by
 unfold atF
 have hsl:(1:Int)≤(f.bGL.length:Nat):=by omega
 have hsd:=hs.bGL
 have hdrop:((f.bGL.map bR.cells).take f.bGL.length).drop 1=(f.bGL.drop 1).map bR.cells:=by
  rw[bJD (by simp),List.map_drop]
 simp only[go_sem,κ,ν,δ,γ,θ,reduceCtorEq,VI,hv.a1,bIM,hsl,bLM,hdrop]
 refine nY h4 fun v1 hv1 F1 H1 ht hp=>?_
 refine aXI L f (f.bGL.drop 1) (by simp; omega) ok w3 v1 .aB .aB _ F1 H1 ⟨hp 1 _ (by simp only[go_sem,γ,hv.a1]) fun _ _ _=>rfl,hp 3 _ (by simp only[go_sem,γ,hv.a3]) h3.pure,ht 4 (by simp only[go_sem,γ,hv.a4]),hp 5 _ (by simp only[go_sem,γ,hv.a5]) fun _ _ _=>rfl,hp 6 _ (by simp only[go_sem,γ,hv.a6]) fun _ _ _=>rfl,hp 7 _ (by simp only[go_sem,γ,hv.a7]) fun _ _ _=>rfl,hp 8 _ (by simp only[go_sem,γ,hv.a8]) fun _ _ _=>rfl⟩
  (hp 119 _ rfl fun _ _ _=>rfl) (hp 120 _ rfl fun _ _ _=>rfl) (hp 121 _ rfl fun _ _ _=>rfl) fun v F' H' hv' hO=>?_
 simp only[go_sem]
 exact blN L f hf hs w3 v1 v _ F' H' hv' h3 hv1 hO
theorem blL {C:Ctx} (L:jF C) (f:aL) (hf:f.Ok) (hs:Small f) (hd:0<f.bGL.length) (w3:PV) (ok:Bool) (F:PF) (H:PH) (hv:jI F f w3 .aB .aB .aB .aB ok)
  (h3:bM H 1 w3 (eI (f.bGR.map cI.name))) :
  aC.wp C atE (ajW (ok&&f.bGJ.all (iW f)&&f.bGI.all (gD f)&&f.bGM.all (iD f.bGJ.length)&&f.bGK.all (mH f)&&sH f)) F H:=by
 unfold atE
 simp only[go_sem,δ,γ,θ,VG,hv.a1,bIM]
 refine nY h3 fun v1 hv1 F1 H1 ht hp=>?_
 refine aXH L f hs.bGJ hs.bGR ok v1 .aB .aB .aB _ F1 H1 ⟨hp 1 _ (by simp only[go_sem,γ,hv.a1]) fun _ _ _=>rfl,ht 3 (by simp only[go_sem,γ,hv.a3]),hp 4 _ (by simp only[go_sem,γ,hv.a4]) fun _ _ _=>rfl,hp 5 _ (by simp only[go_sem,γ,hv.a5]) fun _ _ _=>rfl,hp 6 _ (by simp only[go_sem,γ,hv.a6]) fun _ _ _=>rfl,hp 7 _ (by simp only[go_sem,γ,hv.a7]) fun _ _ _=>rfl,hp 8 _ (by simp only[go_sem,γ,hv.a8]) fun _ _ _=>rfl⟩
  (hp 85 _ rfl fun _ _ _=>rfl) (hp 86 _ rfl fun _ _ _=>rfl) (hp 87 _ rfl fun _ _ _=>rfl) fun v F' H' hv' hO=>?_
 simp only[go_sem]
 exact blM L f hf hs hd v1 v _ F' H' hv' hv1 hO
theorem blK {C:Ctx} (L:jF C) (f:aL) (hf:f.Ok) (hs:Small f) (hd:0<f.bGL.length) (F:PF) (H:PH) (hv:jI F f .aB .aB .aB .aB .aB true) :
  aC.wp C a0E (ajW (f.bGR.all jX&&f.bGJ.all (iW f)&&f.bGI.all (gD f)&&f.bGM.all (iD f.bGJ.length)&&f.bGK.all (mH f)&&sH f)) F H:=by
 unfold a0E
 simp only[go_sem,δ,γ,θ,aiB,hv.a1,bIM]
 refine aXG L f hf hs.bGR .aB .aB .aB .aB _ _ H ⟨by simp only[go_sem,γ,hv.a1],by simp only[go_sem,γ,hv.a3],by simp only[go_sem,γ,hv.a4],by simp only[go_sem,γ,hv.a5],by simp only[go_sem,γ,hv.a6],by simp only[go_sem,γ,hv.a7],by simp only[go_sem,γ,hv.a8]⟩ rfl rfl rfl fun v F' H' hv' hO=>?_
 simp only[go_sem]
 exact blL L f hf hs hd v _ F' H' hv' hO
theorem blI {C:Ctx} (L:jF C) (f:aL) (hf:f.Ok):LJ.wp C (aU ayR.res (bZ (.int .i64 (wR f)))) (PF.args [.agg f.cells]) .nil:=by
 have he:dS f=(lF f&&mJ f&&(f.bGR.all jX&&f.bGJ.all (iW f)&&f.bGI.all (gD f)&&f.bGM.all (iD f.bGJ.length)&&f.bGK.all (mH f))&&sH f):=rfl
 simp only[go_sem,δ,γ,θ,LJ,aOG,aOH,ayR]
 refine aA (L.inn f.bHW 1 4) rfl ?_
 have bad:∀ (F:PF) (H:PH),dS f=false→F 2=some (.int .i64 1)→aU [.tmp 2] (bZ (.int .i64 (wR f))) .ret F H:=fun F H h1 h2=>kT h2 (a0F h1).symm
 cases e0:within f.bHW 1 4 with
 | false =>
  have:lF f=false:=by simp[lF,e0]
  simp only[go_sem,γ,bJB,nH]
  exact bad _ _ (by rw[he,this]; simp only[bIS]) rfl
 | true =>
  by_cases s1:f.bGR.length≤4
  ·have s1':¬ ((f.bGR.length:Nat):Int)>4:=by omega
   by_cases s2:f.bGJ.length≤4
   ·have s2':¬ ((f.bGJ.length:Nat):Int)>4:=by omega
    by_cases s3:f.bGL.length≤40
    ·have s3':¬ ((f.bGL.length:Nat):Int)>40:=by omega
     by_cases s4:f.bGI.length≤24
     ·have s4':¬ ((f.bGI.length:Nat):Int)>24:=by omega
      by_cases s5:f.bGM.length≤4
      ·have s5':¬ ((f.bGM.length:Nat):Int)>4:=by omega
       by_cases s6:f.bGK.length≤12
       ·have s6':¬ ((f.bGK.length:Nat):Int)>12:=by omega
        have hsz:=aKR ⟨s1,s2,s3,s4,s5,s6⟩
        rw[e0] at hsz
        simp only[go_sem,δ,γ,θ,reduceCtorEq,bIV,bIM,s1',s2',s3',s4',s5',s6']
        refine aA (L.bGT f hf) rfl ?_
        cases e1:mJ f with
        | false =>
         simp only[go_sem,γ,reduceCtorEq,bJB,nH]
         exact bad _ _ (by rw[he,e1]; simp only[bKC,bIS]) rfl
        | true =>
         have hd:0<f.bGL.length:=by
          rcases bLK f.bGL.length with h | h
          ·have:f.bGL=[]:=bLZ h
           rw[mJ,this] at e1
           cases e1
          ·exact h
         have hz:wR f=bI (f.bGR.all jX&&f.bGJ.all (iW f)&&f.bGI.all (gD f)&&f.bGM.all (iD f.bGJ.length)&&f.bGK.all (mH f)&&sH f):=by
          rw[wR,he,hsz,e1]; rfl
         rw[hz]
         simp only[go_sem,γ,reduceCtorEq,bIV,aOI,aOJ]
         have e:=fun F H hv=>blK L f hf ⟨s1,s2,s3,s4,s5,s6⟩ hd F H hv
         simp only[a0E,atE,atF,atG,atH,atI,aC.wp,go_sem] at e
         exact e _ _ ⟨by simp only[go_sem,γ],by simp only[go_sem,γ],by simp only[go_sem,γ],by simp only[go_sem,γ],by simp only[go_sem,γ],by simp only[go_sem,γ],by simp only[go_sem,γ]⟩
       ·have s6':((f.bGK.length:Nat):Int)>12:=by omega
        simp only[go_sem,δ,γ,θ,reduceCtorEq,bIV,bIM,s1',s2',s3',s4',s5',s6',nH]
        exact bad _ _ (by rw[he,lG Om]; simp only[bIS]) rfl
      ·have s5':((f.bGM.length:Nat):Int)>4:=by omega
       simp only[go_sem,δ,γ,θ,reduceCtorEq,bIV,bIM,s1',s2',s3',s4',s5',nH]
       exact bad _ _ (by rw[he,lG Om]; simp only[bIS]) rfl
     ·have s4':((f.bGI.length:Nat):Int)>24:=by omega
      simp only[go_sem,δ,γ,θ,reduceCtorEq,bIV,bIM,s1',s2',s3',s4',nH]
      exact bad _ _ (by rw[he,lG Om]; simp only[bIS]) rfl
    ·have s3':((f.bGL.length:Nat):Int)>40:=by omega
     simp only[go_sem,δ,γ,θ,reduceCtorEq,bIV,bIM,s1',s2',s3',nH]
     exact bad _ _ (by rw[he,lG Om]; simp only[bIS]) rfl
   ·have s2':((f.bGJ.length:Nat):Int)>4:=by omega
    simp only[go_sem,δ,γ,θ,reduceCtorEq,bIV,bIM,s1',s2',nH]
    exact bad _ _ (by rw[he,lG Om]; simp only[bIS]) rfl
  ·have s1':((f.bGR.length:Nat):Int)>4:=by omega
   simp only[go_sem,δ,γ,θ,reduceCtorEq,bIV,bIM,s1',nH]
   exact bad _ _ (by rw[he,lG Om]; simp only[bIS]) rfl
def lvl (f:aL) (i:Nat):Int:=(f.bGL.map bR.level).getD i 0
def par (f:aL) (i:Nat):Int:=(f.bGL.map bR.parent).getD i 0
def aDA (f:aL) (i:Nat):Nat:=(par f i).toNat
def aAL (f:aL) (d:Nat):Nat:=((f.bGI.map cC.machine).getD d 0).toNat
def mdl (f:aL) (d:Nat):Nat:=((f.bGI.map cC.model).getD d 0).toNat
def ext (f:aL) (d:Nat):Int:=(f.bGJ.map cS.bHC).getD (mdl f d) 0
def tL (f:aL) (v:Nat):Nat:=((f.bGK.map dZ.bGW).getD v 0).toNat
def buJ:cY:=⟨[],0,0,0,0,0,0,0,0,[],[],⟨false,[],[]⟩,⟨false,[],[]⟩⟩
def gT (f:aL) (v:Nat):cY:=f.bGM.getD (tL f v) buJ
def upN (f:aL):Nat→Nat→Nat
 | 0,i=>i
 | k+1,i=>aDA f (upN f k i)
theorem nG {α β:Type} {l:List α} {g:α→β} {i:Nat} {b:β} (h:i<l.length):(l.map g).getD i b=g l[i]:=by
 simp[bJG,h]
structure VF (f:aL):Prop where
 small:Small f
 root:0<f.bGL.length∧lvl f 0=0∧par f 0=-1
 dom:∀ i,0<i→i<f.bGL.length→0≤par f i∧aDA f i<i∧lvl f (aDA f i)=lvl f i-1∧1≤lvl f i∧lvl f i≤4
 drive:∀ d (h:d<f.bGI.length),0≤(f.bGI[d]).model∧mdl f d<f.bGJ.length∧0≤(f.bGI[d]).machine∧aAL f d<f.bGL.length∧lvl f (aAL f d)=4
 bGW:∀ p∈f.bGM,1≤p.k∧p.k≤6∧0≤p.m∧p.m≤4∧p.k+p.m≤8∧p.s0=0∧(∀ l,0≤p.spread l∧p.spread l≤8)∧∀ m∈p.bGJ,0≤m∧m<f.bGJ.length
 volume:∀ v (h:v<f.bGK.length),0≤(f.bGK[v]).bGW∧tL f v<f.bGM.length
 model:∀ m∈f.bGJ,1≤m.bHC∧m.bHC≤16
theorem bnB {p:cY} {n:Nat} (h:iD n p=true):∀ m∈p.bGJ,0≤m∧m<n:=by
 intro m hm
 simp only[iD,bJI] at h
 obtain⟨i,hi,rfl⟩:=bKQ hm
 have:=bJJ.1 h.2 i (bKB.2 hi)
 rw[bJI] at this
 have h1:=within_iff.1 this.1
 simp only[bJG,bIW hi,bLE] at h1
 omega
theorem afO {x:Int} (h1:1≤x) (h2:x≤4):IntKind.i64.wrap (x-1)=x-1:=wrap_i64 Om Om
theorem VF.of {f:aL} (h:dS f=true):VF f:=by
 simp only[dS,bJI] at h
 obtain⟨⟨⟨hs,hd⟩,⟨⟨⟨hlaw,hmod⟩,hdrv⟩,hpol⟩,hvol⟩,-⟩:=h
 simp only[lF,bJI,decide_eq_true_eq] at hs
 obtain⟨⟨⟨⟨⟨⟨s0,s1⟩,s2⟩,s3⟩,s4⟩,s5⟩,s6⟩:=hs
 cases hdm:f.bGL with
 | nil=>rw[mJ,hdm] at hd; cases hd
 | cons r t =>
  rw[mJ,hdm] at hd
  simp only[xG,bJI,decide_eq_true_eq] at hd
  obtain⟨⟨⟨⟨⟨⟨r1,r2⟩,r3⟩,r4⟩,r5⟩,r6⟩,bHZ⟩:=hd
  have hlen:f.bGL.length=t.length+1:=by rw[hdm]; rfl
  refine⟨⟨s1,s2,s3,s4,s5,s6⟩,⟨by omega,by rw[lvl,hdm]; exact r2,by rw[par,hdm]; exact r3⟩,?_,?_,?_,?_,?_⟩
  ·intro i h0 hi
   obtain⟨k,rfl⟩:∃ k,i=k+1:=⟨i-1,by omega⟩
   have hk:k<t.length:=by omega
   have:=bJJ.1 bHZ k (bKB.2 hk)
   rw[bIW hk] at this
   simp only[EG,bJI,decide_eq_true_eq] at this
   obtain⟨⟨⟨⟨d1,d2⟩,d3⟩,d4⟩,d5⟩:=this
   obtain⟨p0,p1⟩:=within_iff.1 d1
   obtain⟨l1,l4⟩:=within_iff.1 d3
   have e1:par f (k+1)=(t[k]).parent:=by rw[par,hdm]; simp[bJG,hk]
   have e2:lvl f (k+1)=(t[k]).level:=by rw[lvl,hdm]; simp[bJG,hk]
   rw[afO l1 l4] at d2
   have e3:lvl f (t[k]).parent.toNat=(t[k]).level-1:=d2
   refine⟨by rw[e1]; exact p0,?_,?_,by rw[e2]; exact l1,by rw[e2]; exact l4⟩
   ·rw[aDA,e1]; omega
   ·rw[aDA,e1,e2]; exact e3
  ·intro d hd
   have:=bJJ.1 hdrv _ (bIR hd)
   simp only[gD,bJI,decide_eq_true_eq] at this
   obtain⟨⟨d1,d2⟩,d3⟩:=this
   have a1:=within_iff.1 d1
   have a2:=within_iff.1 d2
   have e1:mdl f d=(f.bGI[d]).model.toNat:=by rw[mdl,nG hd]
   have e2:aAL f d=(f.bGI[d]).machine.toNat:=by rw[aAL,nG hd]
   refine⟨a1.1,by rw[e1]; omega,a2.1,by rw[e2]; omega,by rw[e2]; exact d3⟩
  ·intro p hp
   have h1:=bJJ.1 hpol p hp
   have h2:=bnB h1
   simp only[iD,GF,bJI,decide_eq_true_eq,List.all_cons,List.all_nil,bKL] at h1
   obtain⟨⟨⟨⟨⟨⟨⟨⟨k1,m1⟩,km⟩,q1⟩,z0⟩,sp⟩,-⟩,-⟩,-⟩:=h1
   obtain⟨g0,g1,g2,g3,g4⟩:=sp
   have b1:=within_iff.1 k1
   have b2:=within_iff.1 m1
   have b3:=within_iff.1 g0
   have b4:=within_iff.1 g1
   have b5:=within_iff.1 g2
   have b6:=within_iff.1 g3
   have b7:=within_iff.1 g4
   refine⟨b1.1,b1.2,b2.1,b2.2,km,z0,fun l=>?_,h2⟩
   unfold cY.spread
   split<;>omega
  ·intro v hv
   have:=bJJ.1 hvol _ (bIR hv)
   have a1:=within_iff.1 this
   have e1:tL f v=(f.bGK[v]).bGW.toNat:=by rw[tL,nG hv]
   exact⟨a1.1,by rw[e1]; omega⟩
  ·intro m hm
   have:=bJJ.1 hmod m hm
   simp only[iW,bJI] at this
   exact within_iff.1 this.1.1
def bpP (f:aL) (d:Nat) (level:Int):Nat:=upN f (4-level.toNat) (aAL f d)
def fA (f:aL) (v:Nat):Int:=(gT f v).k+(gT f v).m
def apE:Rg:=[iA 1 (.box true (Tm 0)),iT 2 false]
def apF:Rg:=[iO 3 7 1,iK 4 96 3,iC 5 .eql 4 0,iM 2 5]
def AA:aC:=(sq apE (sq apF .ret))
def a8D:List Nat:=[1]
def OG:aV:=⟨1,6,AA,[.tmp 2]⟩
def aFK:Rg:=[iA 2 (.box true (Tm 0)),iI 4 0]
def aFL:Rd:=[(iF 6 5 2,false),(iL 7 6,false),(iF 8 6 2,false),(iL 9 8,false),(iM 10 1,false),(iX 11 2 9 10,false),(iF 12 1 11,false),(iL 13 12,false),(iX 14 17 7 13,false),(iO 15 17 14,false),(iA 5 (.alloc [(.str []),(.int .i64 0),(.int .i64 0),(.int .i64 0),(.int .i64 0),(.int .i64 0),(.int .i64 0),(.int .i64 0),(.int .i64 0),.aB,.aB,(.bool false),.aB,.aB,(.bool false),.aB,.aB]),true),(iS 17 5 15,true)]
def aFM:Rg:=[iF 16 1 5,iL 17 16,iF 18 2 5,iL 19 18,iB 20 .add 17 19,iM 4 20]
def HF:aC:=(sq aFK (dq aFL (sq aFM .ret)))
def aFN:List Nat:=[2]
def yC:aV:=⟨2,21,HF,[.tmp 4]⟩
def aoY:Rg:=[iA 3 (.box true (Tm 0)),iA 6 (.alloc [(.int .i64 0),(.int .i64 0),(.int .i64 0)]),iT 7 false]
def aoZ:Rd:=[(iM 10 1,true),(iM 11 2,true),(iX 12 1 10 11,true),(iL 13 12,true),(iN 14 13,true),(iO 15 7 3,false),(iM 16 2,false),(iK2 17 156 15 16,true),(iB 18 .neq 14 17,false)]
def apA:Rg:=[iM 19 2,iM 20 1,iM 21 2,iX 22 1 20 21,iL 23 22,iN 24 23,iA 25 (.build [(.int .i64 0),(.int .i64 0),(.int .i64 0)] [(0,1,(Ci 1)),(1,1,(Tm 19)),(2,1,(Tm 24))]),iS 3 6 25,iT 7 true]
def apB:Rg:=[iM 26 1,iM 27 2,iX 28 1 26 27,iL 29 28,iN 30 29,iI 31 0]
def apC:Rg:=[iB 32 .lss 31 30]
def yD:Rg:=[iM 33 31,iX 34 1 29 31,iL 35 34,iM 8 33,iM 9 35]
def yE:Rg:=[iM 36 9,iC 37 .lss 36 (-1),iM 38 37,gM 39 9 38 false,gF 40 4 3 38 false,gL 41 40 38 false,gN 42 41 38 false,gB 43 .geq 39 42 38 false,iQ 44 38 43]
def OF:Rg:=[iM 45 2,iM 46 8,iA 47 (.build [(.int .i64 0),(.int .i64 0),(.int .i64 0)] [(0,1,(Ci 1)),(1,1,(Tm 45)),(2,1,(Tm 46))]),iS 3 6 47,iT 7 true]
def apD:Rg:=[iC 48 .add 31 1,iM 31 48]
def aoX:aC:=(sq apC (.seq (.cond (Tm 32) .skip (.exit 0)) (.seq (.block 1 (sq yD (sq yE (.cond (Tm 44) (sq OF .ret) .skip)))) (.region apD))))
def adQ:Rg:=[iA 49 (.build [(.int .i64 0),(.int .i64 0),(.int .i64 0)] []),iS 3 6 49,iT 7 false]
def zZ:aC:=(sq aoY (.seq (dq aoZ (.cond (Tm 18) (sq apA .ret) .skip)) (.seq (sq apB (.block 0 (.loop aoX))) (sq adQ .ret))))
def a8B:List Nat:=[3]
def wP:aV:=⟨3,50,zZ,[.cell 6 (some 3),.tmp 7]⟩
def adG:Rg:=[iA 2 (.box true (Tm 0)),iT 4 false]
def adH:Rg:=[iO 8 7 2,iK 9 161 8,iA 10 (.un .not (Tm 9)),iM 11 10,gM 12 1 11 false,gN 13 12 11 false,gF 14 6 2 11 false,gL 15 14 11 false,gN 16 15 11 false,gB 17 .neq 13 16 11 false,iQ 18 11 17]
def HC:Rg:=[iT 4 false]
def adI:Rg:=[iM 19 1,iN 20 19,iI 21 0]
def adJ:Rg:=[iB 22 .lss 21 20]
def adK:Rg:=[iM 23 21,iM 5 23]
def adL:Rg:=[iO 25 7 2,iM 26 1,iM 27 5,iA 28 (.call 160 [(Tm 25),(Tm 26),(Tm 27)]),iM 24 28,iE 29 24 0,iE 30 24 1,iA 6 (.alloc [(.int .i64 0),(.int .i64 0),(.int .i64 0)]),iS 3 6 29,iM 7 30]
def HD:Rg:=[iM 31 7]
def adM:Rg:=[iT 4 false]
def adN:Rg:=[iC 32 .add 21 1,iM 21 32]
def TE:aC:=(sq adJ (.seq (.cond (Tm 22) .skip (.exit 0)) (.seq (.block 1 (sq adK (sq adL (sq HD (.cond (Tm 31) (sq adM .ret) .skip))))) (.region adN))))
def TF:Rg:=[iT 4 true]
def wO:aC:=(sq adG (.seq (sq adH (.cond (Tm 18) (sq HC .ret) .skip)) (.seq (sq adI (.block 0 (.loop TE))) (sq TF .ret))))
def aZT:List Nat:=[2]
def CJ:aV:=⟨2,33,wO,[.tmp 4]⟩
theorem a8C {C:Ctx} (h:∀ f:aL,f.Ok→aD C 96 [.agg f.cells] .nil (aE (.int .i64 (wR f)))) (f:aL) (hf:f.Ok) :
  AA.wp C (aU OG.res (bZ (.bool (dS f)))) (PF.args [.agg f.cells]) .nil:=by
 simp only[go_sem,δ,γ,AA,apE,apF,OG]
 refine aA (h f hf) rfl ?_
 simp only[go_sem,γ]
 refine bA rfl ?_
 unfold wR
 cases dS f<;>rfl
theorem akY {f:aL} {d:Nat} (h:d<f.bGI.length):(f.bGI.map cC.cells)[d]?=some (f.bGI[d]).cells:=by simp[h]
theorem tW {f:aL} {d:Nat} (h:d<f.bGL.length):(f.bGL.map bR.cells)[d]?=some (f.bGL[d]).cells:=by simp[h]
theorem IA {f:aL} {d:Nat} (h:d<f.bGK.length):(f.bGK.map dZ.cells)[d]?=some (f.bGK[d]).cells:=by simp[h]
theorem sC {f:aL} {d:Nat} (h:d<f.bGM.length):(f.bGM.map cY.cells)[d]?=some (f.bGM[d]).cells:=by simp[h]
theorem a5N {f:aL} {d:Nat} (h:d<f.bGJ.length):(f.bGJ.map cS.cells)[d]?=some (f.bGJ[d]).cells:=by simp[h]
theorem VF.bqS {f:aL} (h:VF f) {d:Nat} (hd:d<f.bGI.length):(f.bGI[d]).model=((mdl f d:Nat):Int):=by
 have:=(h.drive d hd).1
 rw[mdl,nG hd]; omega
theorem VF.aDP {f:aL} (h:VF f) {v:Nat} (hv:v<f.bGK.length):(f.bGK[v]).bGW=((tL f v:Nat):Int):=by
 have:=(h.volume v hv).1
 rw[tL,nG hv]; omega
theorem GO {f:aL} (h:VF f) {v:Nat} (hv:v<f.bGK.length):∃ hp:tL f v<f.bGM.length,f.bGM[tL f v]=gT f v:=by
 have hp:=(h.volume v hv).2
 exact⟨hp,by simp[gT,bJG,hp]⟩
theorem aFJ {C:Ctx} (f:aL) (hv:VF f) (v:Nat) (h:v<f.bGK.length) :
  HF.wp C (aU yC.res (bZ (.int .i64 (fA f v)))) (PF.args [.agg f.cells,.int .i64 v]) .nil:=by
 obtain⟨hp,he⟩:=GO hv h
 have hpol:=hv.bGW _ (bIR hp)
 rw[he] at hpol
 have hw:IntKind.i64.wrap ((gT f v).k+(gT f v).m)=(gT f v).k+(gT f v).m:=wrap_i64 Om Om
 simp only[go_sem,HF,aFK,yC]
 refine bT .nil eG PH.nil_le ?_
 simp only[go_sem,δ,γ,θ,aFL,IA h,hv.aDP h,sC hp,he]
 refine aQ fun o ho=>?_
 simp only[go_sem,δ,γ,θ,aFM,hw]
 refine⟨PH.nil_le,?_⟩
 exact kT (n:=(gT f v).k+(gT f v).m) rfl rfl
def pick (n:Nat) (p:Nat→Bool):List Int:=((bIN n).filter p).map fun (i:Nat)=>(i:Int)
theorem aXQ (l:List Int) (x:Int):bE l++[[.int .i64 x]]=bE (l++[x]):=by unfold bE; rw[bKJ]; rfl
theorem cZ (l:List Int):(bE l).length=l.length:=by unfold bE; rw[bIM]
def toS (f:aL):Spec:=fun name vs=>match name,vs with
 | 155,[_,.int _ d,.int _ l]=>some ([],fun _=>aE (.int .i64 (bpP f d.toNat l:Nat)))
 | 156,[_,.int _ v]=>some ([],fun _=>aE (.int .i64 (fA f v.toNat)))
 | _,_=>none
theorem bgY (f:aL) (v:Nat):toS f 156 [.agg f.cells,.int .i64 v]=some ([],fun _=>aE (.int .i64 (fA f v))):=rfl
section
variable (o s:Nat) (rs:List (List PV))
@[go_sem] theorem bAL (k:IntKind) (n:Int):PV.frz o s rs (.int k n)=.int k n:=(rfl)
@[go_sem] theorem bvN (b:Bool):PV.frz o s rs (.bool b)=.bool b:=(rfl)
@[go_sem] theorem bAP (l:List UInt8):PV.frz o s rs (.str l)=.str l:=(rfl)
@[go_sem] theorem bvO:PV.frz o s rs .aB=.aB:=(rfl)
@[go_sem] theorem bEU (n:Nat) (r:List (List PV)):PV.frz o s rs (.sl n r)=.sl n r:=(rfl)
@[go_sem] theorem bvP (c:List PV):PV.frz o s rs (.bJ c)=.bJ c:=(rfl)
@[go_sem] theorem bAO (q z i c:Nat):PV.frz o s rs (.ptr q z i c)=.ptr q z i c:=(rfl)
@[go_sem] theorem bET (n:Nat) (c:List PV):PV.frz o s rs (.fn n c)=.fn n c:=(rfl)
@[go_sem] theorem bAM (q:Nat):PV.frz o s rs (.map q)=.map q:=(rfl)
@[go_sem] theorem bAN (q z off len:Nat):PV.frz o s rs (.osl q z off len)=if q=o then (if z=s∧off+len≤rs.length then .sl s ((rs.drop off).take len) else .junk) else .osl q z off len:=(rfl)
end
def kI (s:Nat) (rows:List (List PV)) (r:PV) (H:PH):Prop :=
 (rows=[]∧r=.aB∧H=PH.nil)∨∃ q rs,r=.osl q s 0 rows.length∧H=PH.nil.set q (.rows s rs)∧rows.length≤rs.length∧rs.take rows.length=rows
theorem aMS (q s:Nat) (rs:List (List PV)):(PH.nil.set q (.rows s rs)).frz q s rs=PH.nil:=PH.ext fun o=>by
 rw[uY]
 by_cases e:o=q
 ·rw[if_pos e]; rfl
 ·rw[if_neg e,bH,if_neg e]; rfl
section
variable {C:Ctx} {K:cN} {F:PF} {H:PH} {s:Nat} {v:PV} {rows:List (List PV)}
theorem kI.eN {r:PV} {H':PH} (h:kI s rows r H') (ha:kG H .nil H'):bM (H.eN .nil H') s r rows∧∀ o x,H o=some x→(H.eN .nil H') o=some x:=by
 rcases h with ⟨h1,h2,rfl⟩ | ⟨q,rs,h1,rfl,h3,h4⟩
 ·rw[PH.kS]; exact⟨.inl ⟨h1,h2⟩,fun o x h=>h⟩
 ·rw[PH.kB]
  have hq:H q=none:=ha q (.rows s rs) (by simp only[bH,if_true]) rfl
  refine⟨.inr ⟨q,rs,h1,by simp only[bH,if_true],h3,h4⟩,fun o x ho=>?_⟩
  have:o≠q:=by rintro rfl; rw[hq] at ho; cases ho
  simp only[bH,if_neg this,ho]
theorem GQ {t:Nat} {e:lH} (he:e=.normal∨e=.ret) (h:bM H s v rows) (ht:F t=some v):aU [.tmp t] (kI s rows) e F H:=by
 rcases h with ⟨rfl,rfl⟩ | ⟨q,rs,rfl,h1,h2,h3⟩
 ·exact aW (vs:=[.aB]) he .nil (by rw[kU,nP,ht,pN]) PH.nil_le (.inl ⟨rfl,rfl,rfl⟩)
 ·exact aW (vs:=[.osl q s 0 rows.length]) he (PH.nil.set q (.rows s rs)) (by rw[kU,nP,ht,pN]) (PH.aI PH.nil_le h1) (.inr ⟨q,rs,rfl,rfl,h2,h3⟩)
theorem CD {t:Nat} {e:lH} (he:e=.normal∨e=.ret) (ht:F t=some .aB):aU [.tmp t] (kI s []) e F H:=GQ he .nil ht
theorem a7J {t:Nat} {e:lH} {r:PV} {H':PH} (he:e=.normal∨e=.ret) (h:kI s rows r H') (ht:F t=some r):aU [.tmp t] (kI s rows) e F (H.eN .nil H'):=by
 refine aW (vs:=[r]) he H' (by rw[kU,nP,ht,pN]) (fun o x ho=>?_) h
 rw[lC,ho]
theorem aD.freeze {name:Nat} {args:List PV} (h:aD C name args H (kI s rows)):aD C name args H (aE (.sl s rows)) :=
 ⟨h.1,fun E w vs hN hW hvs=>(h.2 E w vs hN hW hvs).mono fun e w' he=>by
  obtain⟨u,pv,E',H',rfl,hW',hr,hE,hp⟩:=he
  rcases hp with ⟨rfl,rfl,rfl⟩ | ⟨q,rs,rfl,rfl,h3,h4⟩
  ·exact⟨u,_,E',_,rfl,hW',(Co.nil s).sound hr,hE,rfl,rfl⟩
  ·have hz:hJ (PF.nil.set 0 (.osl q s 0 rows.length)) (PH.nil.set q (.rows s rs)) _ _:=.step q (s:=s) (rs:=rs) (by simp only[bH,if_true]) (.refl _ _)
   obtain⟨E2,k1,k2,k3⟩:=hz.sound hW'
   have bIH:=k3 (fun _=>u) (fun i p hi=>by
    rw[lE] at hi
    split at hi
    ·cases hi; exact hr
    ·cases hi) 0 (.sl s rows) (by rw[qG,lE,if_pos rfl,bJW,pH h3,h4])
   rw[aMS] at k1 k2
   exact⟨u,_,E2,_,rfl,k1,bIH,hE.trans k2,rfl,rfl⟩⟩
theorem eO.of:∀ {E:Env} (ps:List PV) (vs:List Value),vs.length=ps.length→(∀ (i:Nat) p v,ps[i]?=some p→vs[i]?=some v→aY E p v)→eO E ps vs
 | _,[],[],_,_=>.nil
 | _,[],_::_,h,_=>by simp at h
 | _,_::_,[],h,_=>by simp at h
 | _,p::ps,v::vs,h,k=>.cons (k 0 p v rfl rfl) (eO.of ps vs (by simpa using h) fun i q u a b=>k (i+1) q u (by simpa using a) (by simpa using b))
theorem bN.same {E:Env} {w w':World} (hW:bN E H w) (hs:w.heap.size≤w'.heap.size) (hb:∀ b,b<w.heap.size→H b=none→w'.heap[b]?=w.heap[b]?) (hH:∀ o x,H o=some x→w'.heap[o]?=w.heap[o]?):bN E H w':=by
 have key:∀ b,b<w.heap.size→w'.heap[b]?=w.heap[b]?:=fun b hlt=>by
  cases e:H b with
  | none=>exact hb b hlt e
  | some x=>exact hH b x e
 refine⟨fun b cs h=>?_,fun o x h=>?_,fun o n h=>?_⟩
 ·obtain⟨h1,ty,fr,h2⟩:=hW.g b cs h
  exact⟨h1,ty,fr,(key b (bLT.1 h2).1).trans h2⟩
 ·obtain⟨h1,h2⟩:=hW.h o x h
  exact⟨Nat.lt_of_lt_of_le h1 hs,h2.mono (.refl E) (key o h1)⟩
 ·obtain⟨cur,ty,fr,h1,h2⟩:=hW.s o n h
  exact⟨cur,ty,fr,(key o (bLT.1 h1).1).trans h1,h2⟩
inductive Plain:PV→Prop
 | int (k:IntKind) (n:Int):Plain (.int k n)
 | bool (b:Bool):Plain (.bool b)
 | str (l:List UInt8):Plain (.str l)
theorem Plain.rep {v:PV} (h:Plain v) {E E':Env} {u:Value} (r:aY E v u):aY E' v u:=by
 cases h<;>cases r
 ·exact .int _ _
 ·exact .bool _
 ·exact .str _
theorem aD.beK {name o:Nat} {rs:List (List PV)} {args:List PV} (hv:Plain v) (h:aD C name (args.map (PV.frz o s rs)) .nil (aE v)) :
  aD C name args (PH.nil.set o (.rows s rs)) (fun r H'=>r=v∧H'=PH.nil.set o (.rows s rs)):=by
 refine⟨h.1,fun E w vs hN hW hvs=>?_⟩
 have hz:hJ (PF.args args) (PH.nil.set o (.rows s rs)) _ _:=.step o (s:=s) (rs:=rs) (by simp only[bH,if_true]) (.refl _ _)
 obtain⟨E1,k1,k2,k3⟩:=hz.sound hW
 rw[aMS] at k1 k2
 have hlen:=hvs.len
 have hvs1:eO E1 (args.map (PV.frz o s rs)) vs.toList:=by
  refine eO.of _ _ (by rw[bIM]; exact hlen) fun i p u hp hu=>?_
  have:=k3 (fun i=>(vs.toList[i]?).getD undef) (fun j q hj=>by
   have hjl:=(bJX.1 hj).1
   have hjv:j<vs.toList.length:=by omega
   simp only[bIW hjv,bLE]
   exact hvs.at_ j q _ hj (bIW hjv)) i p (by rw[qG,args_at,← bJQ]; exact hp)
  simp only[hu,bLE] at this
  exact this
 refine (h.2 E1 w vs (k2.env.num.trans hN) k1 hvs1).mono fun e w' he=>?_
 obtain⟨u,pv,E2,H2,rfl,hW2,hr,hE,rfl,rfl⟩:=he
 have hblk:∀ b,b<w.heap.size→w'.heap[b]?=w.heap[b]?:=fun b hb=>hE.block b hb rfl
 refine⟨u,pv,E,_,rfl,hW.same hE.size (fun b hb _=>hblk b hb) (fun q x hq=>hblk q (hW.h q x hq).1),hv.rep hr,⟨.refl E,hE.os,hE.tape,hE.output,hE.size,fun b hb _=>hblk b hb,fun q x hq=>.inl ⟨x,hq⟩,fun b cs hb=>.inl hb⟩,rfl,rfl⟩
theorem TX {name o:Nat} {rs:List (List PV)} {args:List aP} {vs:List PV} {d:Option Nat} {K:PF→PH→Prop} (hv:Plain v) (h:aD C name (vs.map (PV.frz o s rs)) .nil (aE v)) (ho:H o=some (.rows s rs)) (ha:aP.evs F args=some vs)
  (hk:K (F.put d v) H):fU C name args [] d K F H:=by
 refine fD (h.beK hv) ha (PH.aI PH.nil_le ho) ?_
 rintro r H' ⟨rfl,rfl⟩ -
 rw[PH.NB _ (PH.aI PH.nil_le ho)]
 exact hk
theorem bcM {Hs:PH} {S:Spec} {name o:Nat} {rs:List (List PV)} {vs:List PV} {R:PH→PV→PH→Prop} {args:List aP} {st:Bool} {d:Option Nat} {K:PF→PH→Prop} (hS:S name vs=some ([o],R)) (hv:Plain v) (ho:H o=some (.rows s rs))
  (h:aD C name (vs.map (PV.frz o s rs)) .nil (aE v)) (hR1:R (PH.nil.set o (.rows s rs)) v (PH.nil.set o (.rows s rs))) (hR2:∀ r H',R (PH.nil.set o (.rows s rs)) r H'→r=v∧H'=PH.nil.set o (.rows s rs)) (ha:aP.evs F args=some vs) (hle:Hs.le H) (hk:K (F.put d v) H) :
  dOp C Hs S st (.call name args) d K F H:=UJ hS ho (h.beK hv) hR1 hR2 ha hle hk
theorem asX {name t:Nat} {R:PV→PH→Prop} {d:Option Nat} {K:PF→PH→Prop} (h:aD C name [.sl s rows] .nil R) (hO:bM H s v rows) (ht:F t=some v)
  (hK:∀ (F1:PF) (H1:PH),(∀ i u,F i=some u→Pure u→F1 i=some u)→∀ r H',R r H'→kG H1 .nil H'→K (F1.put d r) (H1.eN .nil H')):fU C name [.tmp t] [] d K F H:=by
 rcases hO with ⟨rfl,rfl⟩ | ⟨q,rs,rfl,h1,h2,h3⟩
 ·exact .inl ⟨[.aB],.nil,R,by rw[vQ,ZX,ht,QJ]; rfl,PH.nil_le,h.aZL (.inl ⟨rfl,rfl⟩),hK F H fun i u hi _=>hi⟩
 ·refine .inr ⟨_,_,.step q h1 (.refl _ _),[.sl s rows],.nil,R,?_,PH.nil_le,h,hK _ _ fun i u hi hp=>?_⟩
  ·simp only[vQ,QJ,ZX,qG,ht,bJW,pH h2,h3,bKM]
  ·rw[qG,hi,bJW,hp q s rs]
end
theorem a4X (l:List Int) (i:Nat) (x:Int):(bE l).set i [.int .i64 x]=bE (l.set i x):=by unfold bE; rw[List.map_set]
def qT (f:aL) (room:List Int) (d:Nat):Int:=if room.length=f.bGI.length then min (max (room.getD d 0) 0) (ext f d) else ext f d
def fF (f:aL) (room:List Int):List Int:=(bIN f.bGI.length).map (qT f room)
def acS (f:aL) (room:List Int):List Int:=if dS f then fF f room else []
theorem NR (f:aL) (room:List Int):(fF f room).length=f.bGI.length:=by simp[fF]
theorem aED (f:aL) (room:List Int) {d:Nat} (h:d<(fF f room).length):(fF f room)[d]=qT f room d:=by simp[fF]
theorem VF.a4E {f:aL} (h:VF f) {d:Nat} (hd:d<f.bGI.length):∃ hm:mdl f d<f.bGJ.length,(f.bGJ[mdl f d]).bHC=ext f d:=by
 have hm:=(h.drive d hd).2.1
 exact⟨hm,by rw[ext,nG hm]⟩
theorem bmI (a b:Int):(if b<a then b else a)=min a b:=by
 rw[Int.min_def]
 by_cases h:b<a
 ·rw[if_pos h,if_neg Om]
 ·rw[if_neg h,if_pos Om]
abbrev lay (l:List (List Int)):PV:=.sl 1 (l.map fun r=>[ints r])
def bzY (n:Nat) (xs:List Int):List Int:=(bIN n).map fun (d:Nat)=>((xs.count (d:Int):Nat):Int)
def bqQ (f:aL) (l:List (List Int)):List Int:=bzY f.bGI.length l.flatten
structure jH (l:List (List Int)):Prop where
 rows:l.length≤16777216
 all:l.flatten.length≤16777216
theorem KO (l:List (List Int)) {i:Nat} (h:i<l.length):(l.take (i+1)).flatten=(l.take i).flatten++l[i]:=by
 rw[bKK h,List.flatten_append]
 simp only[bLV,List.flatten_nil,bKM]
theorem awB (l:List (List Int)) (i:Nat):(l.take i).flatten.length≤l.flatten.length:=by
 have:l.flatten=(l.take i).flatten++(l.drop i).flatten:=by rw[← List.flatten_append,bKZ]
 rw[this,bIU]; omega
structure atV where
 kind:Int
 vol:Int
 wher:Int
abbrev atV.cells (x:atV):List PV:=[.int .i64 x.kind,.int .i64 x.vol,.int .i64 x.wher]
def fO (p:Int→Bool):List Int→Nat→Option Nat
 | [],_=>none
 | x::t,i=>if p x then some i else fO p t (i+1)
def jQ (f:aL) (d:Int):Bool:=decide (d < -1)||decide (d≥(f.bGI.length:Nat))
def lZ (f:aL) (l:List (List Int)) (v:Nat):Option atV :=
 if ((l.getD v []).length:Int)=fA f v then (fO (jQ f) (l.getD v []) 0).map fun (i:Nat)=>⟨1,v,i⟩ else some ⟨1,v,((l.getD v []).length:Nat)⟩
def shV:Option atV→PV
 | some x=>.tup [.agg x.cells,.bool true]
 | none=>.tup [.agg [.int .i64 0,.int .i64 0,.int .i64 0],.bool false]
def bhA (f:aL) (o:Nat) (v:Nat) (row:List Int) (k:Nat):PF:=((((((PF.nil.set 2 (.int .i64 v)).set 3 (.bJ f.cells)).set 6 (.ptr o 3 0 0)).set 29 (ints row)).set 30 (.int .i64 (row.length:Nat))).set 31 (.int .i64 k))
def jC (f:aL) (l:List (List Int)):Bool:=dS f&&decide (l.length=f.bGK.length)&&(bIN l.length).all fun v=>(lZ f l v).isNone
def tSF (f:aL) (l:List (List Int)) (k:Nat):PF:=((((PF.nil.set 1 (lay l)).set 2 (.bJ f.cells)).set 20 (.int .i64 (l.length:Nat))).set 21 (.int .i64 k))
section
variable {C:Ctx} {F:PF} {H:PH}
theorem bM.ne {s s':Nat} {v:PV} {rows:List (List PV)} {o:Nat} {y:List (List PV)} (h:bM H s v rows) (ho:H o=some (.rows s' y)) (hs:s≠s'):∀ l,v≠.osl o s 0 l:=by
 intro l e
 rcases h with ⟨_,h2⟩ | ⟨q,rs,h1,h2,_⟩
 ·rw[h2] at e; cases e
 ·rw[h1] at e
  injection e with e1
  subst e1
  rw[ho] at h2
  injection h2 with h2
  injection h2 with h2
  exact hs h2.symm
theorem bM.set {s s':Nat} {v:PV} {rows:List (List PV)} {o:Nat} {y:List (List PV)} {x:cP} (h:bM H s v rows) (ho:H o=some (.rows s' y)) (hs:s≠s'):bM (H.set o x) s v rows:=by
 have hne:=h.ne ho hs
 rcases h with ⟨h1,h2⟩ | ⟨q,rs,h1,h2,h3,h4⟩
 ·exact .inl ⟨h1,h2⟩
 ·refine .inr ⟨q,rs,h1,?_,h3,h4⟩
  have:q≠o:=by rintro rfl; exact hne _ h1
  simp only[bH,if_neg this,h2]
def Dis (s:Nat) (v u:PV):Prop:=∀ q l q' l',v=.osl q s 0 l→u=.osl q' s 0 l'→q≠q'
theorem Dis.nil {s:Nat}:Dis s .aB .aB:=fun _ _ _ _ h=>by cases h
theorem Dis.symm {s:Nat} {v u:PV} (h:Dis s v u):Dis s u v:=fun q l q' l' h1 h2=>(h q' l' q l h2 h1).symm
end
structure Obs where
 o5:Nat
 o7:Nat
 o8:Nat
 oD:Nat
 oB:Nat
structure Obs.Ne (o:Obs):Prop where
 a1:o.o5≠o.oD
 a2:o.o5≠o.oB
 a3:o.o7≠o.oD
 a4:o.o7≠o.oB
 a5:o.o8≠o.oD
 a6:o.o8≠o.oB
 a7:o.oD≠o.oB
structure bcC (H:PH) (o:Obs) (v:Nat) (p:cY) (A:List Bool) (D B:List Int):Prop where
 h5:H o.o5=some (.rows 1 [[.int .i64 v]])
 h7:H o.o7=some (.rows 17 [p.cells])
 h8:H o.o8=some (.rows 1 (fI A))
 hD:H o.oD=some (.rows 1 (bE D))
 hB:H o.oB=some (.rows 1 (bE B))
theorem bcC.keep {H H':PH} {o:Obs} {v:Nat} {p:cY} {A:List Bool} {D B:List Int} (h:bcC H o v p A D B) (hk:∀ q s' z,3≠s'→H q=some (.rows s' z)→H' q=some (.rows s' z)):bcC H' o v p A D B :=
 ⟨hk _ _ _ (by decide) h.h5,hk _ _ _ (by decide) h.h7,hk _ _ _ (by decide) h.h8,hk _ _ _ (by decide) h.hD,hk _ _ _ (by decide) h.hB⟩
def home (row:List Int) (i:Nat):Bool:=decide (row.getD i 0<0)
def bqT (f:aL) (p:cY) (i:Nat):Int:=p.spread (lvl f i).toNat
def xH (down:List Int) (d:Int):Bool:=decide (0≤d)&&down.contains d
def xJ (down:List Int) (d:Int):Bool:=decide (0≤d)&&!down.contains d
def LK (down row:List Int):Bool:=row.any (xH down)
def mE (down row:List Int):Nat:=row.countP (xJ down)
def NX (f:aL) (reserve:Int) (down:List Int) (v:Nat) (row:List Int):Bool:=LK down row&&decide (((mE down row:Nat):Int)<(gT f v).k+reserve)
def EM (f:aL) (now:List (List Int)) (reserve:Int) (down:List Int) (n:Nat):Bool:=(bIN n).all fun v=>!NX f reserve down v (now.getD v [])
def iJ (f:aL) (now:List (List Int)) (reserve:Int) (down:List Int):Bool:=EM f now reserve down now.length
def jP (f:aL) (now:List (List Int)) (reserve:Int):Bool:=(dS f&&jC f now)&&(decide (0≤reserve)&&decide (reserve≤4))
theorem aWT (f:aL) (now:List (List Int)) (reserve:Int) (down:List Int) (n:Nat):EM f now reserve down (n+1)=(EM f now reserve down n&&!NX f reserve down n (now.getD n [])):=by
 unfold EM
 rw[List.range_succ,List.all_append]
 simp
theorem bdG {f:aL} {now:List (List Int)} {reserve:Int} {down:List Int} {v n:Nat} (h:v<n) (hs:NX f reserve down v (now.getD v [])=true):EM f now reserve down n=false:=by
 unfold EM
 rw[Bool.eq_false_iff,ne_eq,bJJ]
 intro hk
 have:=hk v (bKB.2 h)
 rw[hs] at this
 cases this
theorem a4V {down row:List Int} {k:Nat} (h:k<row.length):LK down (row.take (k+1))=(LK down (row.take k)||xH down row[k]):=by
 unfold LK
 rw[bKK h,List.any_append]
 simp
theorem aKN {down row:List Int} {k:Nat} (h:k<row.length):mE down (row.take (k+1))=mE down (row.take k)+if xJ down row[k] then 1 else 0:=by
 unfold mE
 rw[bKK h,List.countP_append,List.countP_cons,List.countP_nil]
 omega
theorem aZM {f:aL} {l:List (List Int)} (h:jC f l=true):l.length=f.bGK.length:=by
 unfold jC at h
 simp only[bJI,decide_eq_true_eq] at h
 omega
def InR (l:List Int) (n:Nat):Prop:=∀ x∈l,0≤x∧x<(n:Int)
def PL (f:aL) (now:List (List Int)) (r:Int) (l:List Int):Bool:=!l.isEmpty&&iJ f now r l
def NL (f:aL) (now:List (List Int)) (r:Int) (ws:List (List Int)) (d:Nat):List (List Int):=match ws.findIdx? (fun l=>iJ f now r (l++[(d:Int)])) with
 | some i=>ws.set i (ws.getD i []++[(d:Int)])
 | none=>ws++[[(d:Int)]]
def oN (f:aL) (now:List (List Int)) (r:Int):Nat→List (List Int)
 | 0=>[]
 | d+1=>NL f now r (oN f now r d) d
def sM (f:aL) (now:List (List Int)) (r:Int):Bool:=(bIN f.bGI.length).all fun d=>iJ f now r [(d:Int)]
theorem set_perm:∀ (ws:List (List Int)) (i:Nat) (x:Int),i<ws.length→((ws.set i (ws.getD i []++[x])).flatten).Perm (ws.flatten++[x])
 | [],i,x,h=>by cases h
 | l::ws,0,x,_=>by
  simp only[List.set_cons_zero,List.getD_cons_zero,bLV,bJM]
  exact List.Perm.append_left _ List.perm_append_comm
 | l::ws,i+1,x,h=>by
  have:=set_perm ws i x (by simpa using h)
  simp only[List.set_cons_succ,List.getD_cons_succ,bLV,bJM]
  exact List.Perm.append_left _ this
structure atY (f:aL) (now:List (List Int)) (r:Int) (n:Nat) (w:List (List Int)):Prop where
 ok:∀ l∈w,PL f now r l=true
 len:w.flatten.length=n
 nd:w.flatten.Nodup
 rng:InR w.flatten n
theorem atY.put {f:aL} {now:List (List Int)} {r:Int} {n:Nat} {w:List (List Int)} (h:atY f now r n w) (ha:iJ f now r [(n:Int)]=true):atY f now r (n+1) (NL f now r w n):=by
 have key:∀ u:List (List Int),u.flatten.Perm (w.flatten++[(n:Int)])→(∀ l∈u,PL f now r l=true)→atY f now r (n+1) u:=fun u hp hok=>by
  refine⟨hok,by rw[hp.length_eq,bIU,h.len]; rfl,hp.nodup_iff.2 ?_,fun x hx=>?_⟩
  ·rw[bKW]
   refine⟨h.nd,by simp,fun a ha b hb=>?_⟩
   rw[bJU] at hb
   subst hb
   have:=h.rng a ha
   omega
  ·have:=hp.mem_iff.1 hx
   rw[bJY,bJU] at this
   rcases this with hx | rfl
   ·have:=h.rng x hx; omega
   ·omega
 unfold NL
 split
 ·rename_i i hi
  obtain⟨hlt,hp,-⟩:=List.findIdx?_eq_some_iff_getElem.1 hi
  refine key _ (set_perm w i n hlt) fun l hl=>?_
  rcases List.mem_or_eq_of_mem_set hl with hl | rfl
  ·exact h.ok l hl
  ·unfold PL
   rw[bJG,bIW hlt,bLE,hp]
   simp
 ·refine key _ (by rw[List.flatten_append]; simp) fun l hl=>?_
  rw[bJY,bJU] at hl
  rcases hl with hl | rfl
  ·exact h.ok l hl
  ·unfold PL
   rw[ha]; rfl
theorem yM {f:aL} {now:List (List Int)} {r:Int} (ha:sM f now r=true):∀ d,d≤f.bGI.length→atY f now r d (oN f now r d)
 | 0,_=>⟨(fun l h=>by cases h),rfl,.nil,fun x h=>by cases h⟩
 | d+1,hd=>(yM ha d Om).put (bJJ.1 ha d (bKB.2 Om))
end Go.PM
namespace Go.RO
open Go
theorem KG:∀ {a b:List Int},a.Pairwise (· < ·)→b.Pairwise (· < ·)→(∀ y,y∈a↔y∈b)→a=b
 | [],[],_,_,_=>rfl
 | [],y::ys,_,_,h=>by have:=(h y).2 (by simp); simp at this
 | x::xs,[],_,_,h=>by have:=(h x).1 (by simp); simp at this
 | x::xs,y::ys,ha,hb,h=>by
  rw[List.pairwise_cons] at ha hb
  have e:x=y:=by
   have h1:=(h x).1 (by simp)
   have h2:=(h y).2 (by simp)
   rw[bJA] at h1 h2
   rcases h1 with h1 | h1
   ·exact h1
   ·rcases h2 with h2 | h2
    ·exact h2.symm
    ·have:=hb.1 x h1; have:=ha.1 y h2; omega
  subst e
  rw[KG ha.2 hb.2 fun z=>?_]
  constructor
  ·intro hz
   have h1:=(h z).1 (by simp[hz])
   rw[bJA] at h1
   rcases h1 with rfl | h1
   ·have:=ha.1 z hz; omega
   ·exact h1
  ·intro hz
   have h1:=(h z).2 (by simp[hz])
   rw[bJA] at h1
   rcases h1 with rfl | h1
   ·have:=hb.1 z hz; omega
   ·exact h1
def ins (x:Int):List Int→List Int
 | []=>[x]
 | y::ys=>if y<x then y::ins x ys else if y=x then y::ys else x::y::ys
theorem aiF (x z:Int):∀ l,z∈ins x l↔z=x∨z∈l
 | []=>by simp[ins]
 | y::ys=>by
  unfold ins
  split
  ·simp only[bJA,aiF x z ys]
   constructor
   ·rintro (h | h | h)<;>simp[h]
   ·rintro (h | h | h)<;>simp[h]
  ·split
   ·rename_i e; subst e; simp
   ·simp
theorem abC (x:Int):∀ l:List Int,l.Pairwise (· < ·)→(ins x l).Pairwise (· < ·)
 | [],_=>by simp[ins]
 | y::ys,h=>by
  rw[List.pairwise_cons] at h
  unfold ins
  split
  ·rename_i hlt
   rw[List.pairwise_cons]
   refine⟨fun z hz=>?_,abC x ys h.2⟩
   rcases (aiF x z ys).1 hz with rfl | hz
   ·exact hlt
   ·exact h.1 z hz
  ·rename_i h1
   split
   ·rw[List.pairwise_cons]; exact h
   ·rename_i h2
    rw[List.pairwise_cons,List.pairwise_cons]
    refine⟨fun z hz=>?_,h⟩
    rw[bJA] at hz
    rcases hz with rfl | hz
    ·omega
    ·have:=h.1 z hz; omega
def mT (out:List Int) (xs:List Int):List Int:=xs.foldl (fun o x=>ins x o) out
theorem FJ (z:Int):∀ (xs out:List Int),z∈mT out xs↔z∈out∨z∈xs
 | [],out=>by simp[mT]
 | x::xs,out=>by
  have:=FJ z xs (ins x out)
  unfold mT at this ⊢
  rw[List.foldl_cons,this,aiF,bJA]
  constructor
  ·rintro ((h | h) | h)<;>simp[h]
  ·rintro (h | h | h)<;>simp[h]
theorem tI:∀ (xs out:List Int),out.Pairwise (· < ·)→(mT out xs).Pairwise (· < ·)
 | [],out,h=>h
 | x::xs,out,h=>tI xs (ins x out) (abC x out h)
def srt (xs:List Int):List Int:=xs.mergeSort fun x y=>decide (x≤y)
theorem ahP {zs:List Int} (h:zs.Pairwise (·≤·)):(Lib.compact zs).Pairwise (· < ·):=by
 unfold Lib.compact Lib.compactUpTo
 rw[List.pairwise_map]
 have hr:(bIN zs.length).Pairwise (· < ·):=List.pairwise_lt_range
 have hf:=hr.filter (Lib.keeps zs.toArray)
 refine hf.imp_of_mem fun {i j} hi hj hij=>?_
 rw[List.mem_filter,bKB] at hi hj
 obtain⟨hj1,hj2⟩:=hj
 have k:zs[j]!≠zs[j-1]!:=by
  simp only[Lib.keeps,decide_eq_true_eq] at hj2
  rcases hj2 with h0 | h0
  ·omega
  ·simpa using h0
 have e1:zs[j]! = zs[j]:=by simp[hj1]
 have e2:zs[j-1]! = zs[j-1]:=by simp[show j-1<zs.length by omega]
 have h1:zs[i]≤zs[j-1]:=by
  rcases bJE i (j-1) with hlt | hge
  ·exact List.pairwise_iff_getElem.1 h i (j-1) hi.1 Om hlt
  ·have:i=j-1:=by omega
   subst this
   exact Int.le_refl _
 have h2:zs[j-1]≤zs[j]:=List.pairwise_iff_getElem.1 h (j-1) j Om hj1 Om
 rw[e1,e2] at k
 simp only[List.getElem!_toArray]
 rw[e1,show zs[i]! = zs[i] by simp[hi.1]]
 omega
theorem aJQ (zs:List Int) (y:Int):y∈Lib.compact zs↔y∈zs:=by
 unfold Lib.compact Lib.compactUpTo
 rw[bJT]
 constructor
 ·rintro⟨i,hi,rfl⟩
  rw[List.mem_filter,bKB] at hi
  simp only[List.getElem!_toArray]
  rw[show zs[i]! = zs[i] by simp[hi.1]]
  exact bIR _
 ·intro hy
  obtain⟨i,hi,rfl⟩:=bKQ hy
  have key:∀ i,i<zs.length→∃ k,k≤i∧Lib.keeps zs.toArray k=true∧zs[k]! = zs[i]!:=by
   intro i
   induction i with
   | zero=>intro _; exact⟨0,bIO _,by simp[Lib.keeps],rfl⟩
   | succ i ih =>
    intro hi
    by_cases e:zs[i+1]! = zs[i]!
    ·obtain⟨k,h1,h2,h3⟩:=ih Om
     exact⟨k,by omega,h2,h3.trans e.symm⟩
    ·exact⟨i+1,bIO _,by simp[Lib.keeps]; simpa using e,rfl⟩
  obtain⟨k,h1,h2,h3⟩:=key i hi
  refine⟨k,?_,?_⟩
  ·rw[List.mem_filter,bKB]; exact⟨by omega,h2⟩
  ·simp only[List.getElem!_toArray]
   rw[h3]; simp[hi]
theorem aZQ (xs:List Int):(srt xs).Pairwise (·≤·):=by
 have:=List.pairwise_mergeSort (le:=fun x y:Int=>decide (x≤y)) (fun a b c h1 h2=>by simp at *; omega) (fun a b=>by simp; omega) xs
 exact this.imp (by simp)
theorem bnV (xs:List Int) (y:Int):y∈srt xs↔y∈xs:=by simp[srt]
theorem aJR (xs:List Int):Lib.compact (srt xs)=mT [] xs :=
 KG (ahP (aZQ xs)) (tI xs [] .nil) fun y=>by
  rw[aJQ,bnV,FJ]; simp
end Go.RO
namespace Go.PM
open Go Go.Na
theorem aJW {xs:List Int} (h:xs.Nodup):(RO.mT [] xs).length=xs.length:=by
 have h1:(RO.mT [] xs).Nodup:=by
  rw[List.nodup_iff_pairwise_ne]
  exact (RO.tI xs [] .nil).imp fun h=>by omega
 refine List.Perm.length_eq ((List.perm_ext_iff_of_nodup h1 h).2 fun y=>?_)
 rw[RO.FJ]
 simp
theorem boM {w:List (List Int)} (h:w.flatten.Nodup) (n:Nat):(RO.mT [] (w.take n).flatten).length=((w.take n).map List.length).sum:=by
 rw[aJW,List.length_flatten]
 have e:w.flatten=(w.take n).flatten++(w.drop n).flatten:=by rw[← List.flatten_append,bKZ]
 rw[e,bKW] at h
 exact h.1
def BK (f:aL) (now:List (List Int)) (r:Int) (n:Nat):Bool:=(bIN n).all fun d=>iJ f now r [(d:Int)]
theorem aJM (f:aL) (now:List (List Int)) (r:Int) (n:Nat):BK f now r (n+1)=(BK f now r n&&iJ f now r [(n:Int)]):=by
 unfold BK
 rw[List.range_succ,List.all_append]
 simp
theorem a3I {f:aL} {now:List (List Int)} {r:Int} {n d:Nat} (h:d<n) (hs:iJ f now r [(d:Int)]=false):BK f now r n=false:=by
 unfold BK
 rw[Bool.eq_false_iff,ne_eq,bJJ]
 intro hk
 rw[hk d (bKB.2 h)] at hs
 cases hs
def oC (f:aL) (now:List (List Int)) (r:Int):Int:=if jP f now r then (if sM f now r then 0 else 116) else 1
def kC (f:aL) (now:List (List Int)) (r:Int):List (List Int):=if oC f now r=0 then oN f now r f.bGI.length else []
theorem KI {f:aL} {now:List (List Int)} {r:Int} (h:oC f now r=0):jP f now r=true∧sM f now r=true:=by
 unfold oC at h
 cases hu:jP f now r<;>rw[hu] at h
 ·cases h
 ·cases ha:sM f now r<;>rw[ha] at h
  ·cases h
  ·exact⟨rfl,rfl⟩
def acN:Rg:=[iA 3 (.box true (Tm 0)),iT 6 false]
def acO:Rg:=[iO 7 7 3,iK 8 96 7,iC 9 .eql 8 0,iM 10 9,gO 11 7 3 10 true,gM 12 1 10 true,gK2 13 153 11 12 10 true,iP 14 10 13,iM 15 14,gM 16 2 15 true,gC 17 .geq 16 0 15 true,iP 18 15 17,iM 19 18,gM 20 2 19 true,gC 21 .leq 20 4 19 true,iP 22 19 21,iM 6 22]
def wI:aC:=(sq acN (sq acO .ret))
def aYR:List Nat:=[3]
def CC:aV:=⟨3,23,wI,[.tmp 6]⟩
def aDF:Rg:=[iA 4 (.box true (Tm 0)),iT 8 false]
def aDG:Rg:=[iM 15 1,iN 16 15,iI 17 0]
def aDH:Rg:=[iB 18 .lss 17 16]
def aDI:Rg:=[iM 19 17,iX 20 1 15 17,iL 21 20,iM 9 19,iM 10 21]
def aDJ:Rg:=[iT 11 false,iI 12 0]
def aDK:Rg:=[iM 22 10,iN 23 22,iI 24 0]
def aDL:Rg:=[iB 25 .lss 24 23]
def WP:Rg:=[iX 26 1 22 24,iL 27 26,iM 14 27]
def WQ:Rg:=[iM 31 14,iC 32 .lss 31 0,iM 30 32]
def aDM:Rg:=[iM 34 3,iM 35 14,iK2 36 260 34 35,iM 33 36]
def aoG:Rg:=[iT 11 true]
def aoH:Rg:=[iM 28 12,iC 29 .add 28 1,iM 12 29]
def xY:Rg:=[iC 37 .add 24 1,iM 24 37]
def aoE:aC:=(sq aDL (.seq (.cond (Tm 25) .skip (.exit 2)) (.seq (.block 3 (sq WP (.block 4 (sq WQ (.cond (Tm 30) .skip (sq aDM (.cond (Tm 33) (.region aoG) (.region aoH)))))))) (.region xY))))
def NG:Rd:=[(iM 38 11,false),(iM 39 38,false),(gM 40 12 39 true,false),(gF 41 5 4 39 true,false),(gL 42 41 39 true,false),(gF 43 6 4 39 true,false),(gL 44 43 39 true,false),(gM 45 9 39 true,false),(iG 46 (.bHD 2 (Tm 44) (Tm 45)) 39 true,false),(gF 47 1 46 39 true,false),(gL 48 47 39 true,false),(iG 49 (.bHD 17 (Tm 42) (Tm 48)) 39 true,false),(gF 50 1 49 39 true,false),(gL 51 50 39 true,false),(gM 52 2 39 true,false),(gB 53 .add 51 52 39 true,false),(gB 54 .lss 40 53 39 true,false),(iP 55 39 54,false)]
def aoI:Rg:=[iT 8 false]
def NH:Rg:=[iC 56 .add 17 1,iM 17 56]
def aoF:aC:=(sq aDH (.seq (.cond (Tm 18) .skip (.exit 0)) (.seq (.block 1 (sq aDI (sq aDJ (.seq (sq aDK (.block 2 (.loop aoE))) (dq NG (.cond (Tm 55) (sq aoI .ret) .skip)))))) (.region NH))))
def aoJ:Rg:=[iT 8 true]
def GL:aC:=(sq aDF (.seq (sq aDG (.block 0 (.loop aoF))) (sq aoJ .ret)))
def bfL:List Nat:=[4]
def acL:aV:=⟨4,57,GL,[.tmp 8]⟩
def bfH:Rg:=[iA 4 (.box true (Tm 0)),iT 8 false]
def bfI:Rg:=[iO 9 7 4,iM 10 1,iM 11 2,iA 12 (.call 250 [(Tm 9),(Tm 10),(Tm 11)]),iM 13 12,gO 14 7 4 13 true,gM 15 1 13 true,gM 16 2 13 true,gM 17 3 13 true,iG 18 (.call 251 [(Tm 14),(Tm 15),(Tm 16),(Tm 17)]) 13 true,iP 19 13 18,iM 8 19]
def aYN:aC:=(sq bfH (sq bfI .ret))
def bfJ:List Nat:=[4]
def aYM:aV:=⟨4,20,aYN,[.tmp 8]⟩
def aYU:Rg:=[iA 3 (.box true (Tm 0)),iT 6 false]
def aYV:Rg:=[iM 7 2,iC 8 .geq 7 0,iM 9 8,gM 10 2 9 true,gC 11 .leq 10 4 9 true,iP 12 9 11,iM 13 12,gO 14 7 3 13 true,gK 15 258 14 13 true,gC 16 .eql 15 0 13 true,iP 17 13 16,iM 18 17,gO 19 7 3 18 true,gM 20 1 18 true,gK2 21 86 19 20 18 true,iP 22 18 21,iM 6 22]
def aDT:aC:=(sq aYU (sq aYV .ret))
def aYW:List Nat:=[3]
def ajD:aV:=⟨3,23,aDT,[.tmp 6]⟩
def bfQ:Rg:=[iA 4 (.box true (Tm 0)),iT 8 false]
def bfR:Rg:=[iI 9 0]
def bfS:Rg:=[iM 13 9,iM 14 1,iN 15 14,iB 16 .lss 13 15]
def bfT:Rg:=[iT 10 false,iI 11 0]
def bfU:Rg:=[iI 12 0]
def bfV:Rg:=[iM 19 12,iM 20 1,iM 21 9,iX 22 1 20 21,iL 23 22,iN 24 23,iB 25 .lss 19 24]
def bfW:Rg:=[iM 31 1,iM 32 9,iX 33 1 31 32,iL 34 33,iM 35 12,iX 36 1 34 35,iL 37 36,iC 38 .lss 37 0,iM 30 38]
def bfX:Rg:=[iM 40 3,iM 41 1,iM 42 9,iX 43 1 41 42,iL 44 43,iM 45 12,iX 46 1 44 45,iL 47 46,iK2 48 254 40 47,iM 39 48]
def bfY:Rg:=[iT 10 true]
def bfZ:Rg:=[iM 28 11,iC 29 .add 28 1,iM 11 29]
def a6Y:Rg:=[iM 26 12,iC 27 .add 26 1,iM 12 27]
def a6W:aC:=(.seq (sq bfV (.cond (Tm 25) .skip (.exit 2))) (.seq (.block 3 (.block 4 (sq bfW (.cond (Tm 30) .skip (sq bfX (.cond (Tm 39) (.region bfY) (.region bfZ))))))) (.region a6Y)))
def a6Z:Rg:=[iM 49 10,iM 50 49,gM 51 11 50 true,gO 52 7 4 50 true,gM 53 9 50 true,gK2 54 257 52 53 50 true,gM 55 2 50 true,gB 56 .add 54 55 50 true,gB 57 .lss 51 56 50 true,iP 58 50 57]
def a7A:Rg:=[iT 8 false]
def a7B:Rg:=[iM 17 9,iC 18 .add 17 1,iM 9 18]
def a6X:aC:=(.seq (sq bfS (.cond (Tm 16) .skip (.exit 0))) (.seq (.block 1 (sq bfT (.seq (sq bfU (.block 2 (.loop a6W))) (sq a6Z (.cond (Tm 58) (sq a7A .ret) .skip))))) (.region a7B)))
def a7C:Rg:=[iT 8 true]
def aYT:aC:=(sq bfQ (.seq (sq bfR (.block 0 (.loop a6X))) (sq a7C .ret)))
def bgA:List Nat:=[4]
def aYS:aV:=⟨4,59,aYT,[.tmp 8]⟩
def buM:Rg:=[iA 2 (.box true (Tm 0)),iI 4 0]
def buN:Rd:=[(iF 5 5 2,false),(iL 6 5,false),(iF 7 6 2,false),(iL 8 7,false),(iM 9 1,false),(iX 10 2 8 9,false),(iF 11 1 10,false),(iL 12 11,false),(iX 13 17 6 12,false),(iF 14 1 13,false),(iL 15 14,false),(iM 4 15,false)]
def bnE:aC:=(sq buM (dq buN .ret))
def buO:List Nat:=[2]
def qk:aV:=⟨2,16,bnE,[.tmp 4]⟩
def aJH:Rg:=[iA 1 (.box true (Tm 0)),iI 2 0]
def aJI:Rg:=[iO 3 7 1,iK 4 67 3,iA 5 (.un .not (Tm 4))]
def aJJ:Rg:=[iI 2 1]
def aJK:Rg:=[iI 2 0]
def akB:aC:=(sq aJH (.seq (sq aJI (.cond (Tm 5) (sq aJJ .ret) .skip)) (sq aJK .ret)))
def aJL:List Nat:=[1]
def QD:aV:=⟨1,6,akB,[.tmp 2]⟩
def NE:Rg:=[iT 4 false]
def NF:Rg:=[iM 5 0,iM 6 1,iK2 7 261 5 6,iC 8 .geq 7 0,iM 4 8]
def rO:aC:=(sq NE (sq NF .ret))
def aDD:List Nat:=[]
def sX:aV:=⟨2,9,rO,[.tmp 4]⟩
def aoL:Rg:=[iI 4 0]
def aoM:Rg:=[iM 6 0,iN 7 6,iI 8 0]
def aoN:Rg:=[iB 9 .lss 8 7]
def NJ:Rg:=[iM 10 8,iM 5 10]
def NK:Rg:=[iM 11 1,iM 12 0,iM 13 5,iX 14 1 12 13,iL 15 14,iB 16 .eql 11 15]
def aoO:Rg:=[iM 17 5,iM 4 17]
def aoP:Rg:=[iC 18 .add 8 1,iM 8 18]
def aoK:aC:=(sq aoN (.seq (.cond (Tm 9) .skip (.exit 0)) (.seq (.block 1 (sq NJ (sq NK (.cond (Tm 16) (sq aoO .ret) .skip)))) (.region aoP))))
def aoQ:Rg:=[iI 4 (-1)]
def zX:aC:=(sq aoL (.seq (sq aoM (.block 0 (.loop aoK))) (sq aoQ .ret)))
def a6S:List Nat:=[]
def NI:aV:=⟨2,19,zX,[.tmp 4]⟩
def aQU:Rg:=[iT 4 false]
def aQV:Rg:=[iI 5 0]
def aQW:Rg:=[iM 6 5,iM 7 0,iN 8 7,iB 9 .lss 6 8]
def ajI:Rg:=[iM 12 0,iM 13 5,iX 14 1 12 13,iL 15 14,iM 16 1,iB 17 .eql 15 16]
def aQX:Rg:=[iT 4 true]
def aQY:Rg:=[iM 10 5,iC 11 .add 10 1,iM 5 11]
def aQT:aC:=(.seq (sq aQW (.cond (Tm 9) .skip (.exit 0))) (.seq (.block 1 (sq ajI (.cond (Tm 17) (sq aQX .ret) .skip))) (.region aQY)))
def aQZ:Rg:=[iT 4 false]
def NP:aC:=(sq aQU (.seq (sq aQV (.block 0 (.loop aQT))) (sq aQZ .ret)))
def aRA:List Nat:=[]
def NO:aV:=⟨2,18,NP,[.tmp 4]⟩
def aEV:Rg:=[iA 2 (.box true (Tm 0)),iZ 4]
def aEW:Rg:=[iO 8 7 2,iK 9 67 8,iA 10 (.un .not (Tm 9))]
def aEX:Rg:=[iZ 4]
def aEY:Rg:=[iZ 5]
def aEZ:Rg:=[iI 6 0]
def aFA:Rg:=[iM 11 6,iF 12 4 2,iL 13 12,iN 14 13,iB 15 .lss 11 14]
def aFB:Rd:=[(iF 18 2 2,false),(iL 19 18,false),(iF 20 4 2,false),(iL 21 20,false),(iM 22 6,false),(iX 23 3 21 22,false),(iF 24 1 23,false),(iL 25 24,false),(iX 26 4 19 25,false),(iF 27 1 26,false),(iL 28 27,false),(iM 7 28,false)]
def WU:Rg:=[iM 29 1,iN 30 29,iF 31 4 2,iL 32 31,iN 33 32,iB 34 .eql 30 33]
def aFC:Rg:=[iM 35 1,iM 36 6,iX 37 1 35 36,iL 38 37,iM 39 7,iA 40 (.bHJ false (Tm 38) (Tm 39)),iA 41 (.bHJ true (Ci 0) (Tm 40)),iM 7 41]
def WV:Rg:=[iM 42 5,iM 43 7,iA 44 (.bGO true 1 1 [(.int .i64 0)] [(0,(Tm 43))]),iA 45 (.append 1 8 (Tm 42) (Tm 44)),iM 5 45]
def OB:Rg:=[iM 16 6,iC 17 .add 16 1,iM 6 17]
def aoW:aC:=(.seq (sq aFA (.cond (Tm 15) .skip (.exit 0))) (.seq (.block 1 (dq aFB (.seq (sq WU (.cond (Tm 34) (.region aFC) .skip)) (.region WV)))) (.region OB)))
def OC:Rg:=[iM 46 5,iM 4 46]
def GY:aC:=(sq aEV (.seq (sq aEW (.cond (Tm 10) (sq aEX .ret) .skip)) (sq aEY (.seq (sq aEZ (.block 0 (.loop aoW))) (sq OC .ret)))))
def bgU:List Nat:=[2,44]
def acW:aV:=⟨2,47,GY,[.tmp 4]⟩
def aRN:Rg:=[iA 2 (.box true (Tm 0)),iI 4 0]
def aRO:Rg:=[iI 5 0]
def aRP:Rg:=[iM 6 5,iM 7 1,iN 8 7,iB 9 .lss 6 8]
def QY:Rd:=[(iM 12 1,false),(iM 13 5,false),(iX 14 1 12 13,false),(iL 15 14,false),(iC 16 .lss 15 (-1),false),(iM 17 16,false),(gM 18 1 17 false,false),(gM 19 5 17 false,false),(iG 20 (.bHD 1 (Tm 18) (Tm 19)) 17 false,false),(gL 21 20 17 false,false),(gF 22 4 2 17 false,false),(gL 23 22 17 false,false),(gN 24 23 17 false,false),(gB 25 .geq 21 24 17 false,false),(iQ 26 17 25,false)]
def ajJ:Rg:=[iM 27 5,iM 4 27]
def aRQ:Rg:=[iM 10 5,iC 11 .add 10 1,iM 5 11]
def aRM:aC:=(.seq (sq aRP (.cond (Tm 9) .skip (.exit 0))) (.seq (.block 1 (dq QY (.cond (Tm 26) (sq ajJ .ret) .skip))) (.region aRQ)))
def aRR:Rg:=[iI 4 (-1)]
def NV:aC:=(sq aRN (.seq (sq aRO (.block 0 (.loop aRM))) (sq aRR .ret)))
def bnP:List Nat:=[2]
def aEK:aV:=⟨2,28,NV,[.tmp 4]⟩
def acY:Rg:=[iA 2 (.box true (Tm 0)),iT 4 false]
def acZ:Rg:=[iO 6 7 2,iK 7 67 6,iA 8 (.un .not (Tm 7)),iM 9 8,gM 10 1 9 false,gN 11 10 9 false,gF 12 6 2 9 false,gL 13 12 9 false,gN 14 13 9 false,gB 15 .neq 11 14 9 false,iQ 16 9 15]
def GZ:Rg:=[iT 4 false]
def adA:Rg:=[iI 5 0]
def adB:Rg:=[iM 17 5,iM 18 1,iN 19 18,iB 20 .lss 17 19]
def adC:Rd:=[(iM 23 1,true),(iM 24 5,true),(iX 25 1 23 24,true),(iL 26 25,true),(iN 27 26,true),(iO 28 7 2,false),(iM 29 5,false),(iK2 30 82 28 29,true),(iB 31 .neq 27 30,false),(iM 32 31,false),(gO 33 7 2 32 false,false),(gM 34 1 32 false,false),(gM 35 5 32 false,false),(iG 36 (.bHD 1 (Tm 34) (Tm 35)) 32 false,false),(gL 37 36 32 false,false),(gK2 38 89 33 37 32 false,true),(gC 39 .geq 38 0 32 false,false),(iQ 40 32 39,false)]
def HA:Rg:=[iT 4 false]
def adD:Rg:=[iM 21 5,iC 22 .add 21 1,iM 5 22]
def acX:aC:=(.seq (sq adB (.cond (Tm 20) .skip (.exit 0))) (.seq (.block 1 (dq adC (.cond (Tm 40) (sq HA .ret) .skip))) (.region adD)))
def adE:Rg:=[iT 4 true]
def wM:aC:=(sq acY (.seq (sq acZ (.cond (Tm 16) (sq GZ .ret) .skip)) (.seq (sq adA (.block 0 (.loop acX))) (sq adE .ret))))
def aZR:List Nat:=[2]
def CI:aV:=⟨2,41,wM,[.tmp 4]⟩

def eN (f:aL) (l:List (List Int)) (room:List Int) (d:Nat):Bool:=decide ((bqQ f l).getD d 0>(fF f room).getD d 0)
def PV.oid:PV→Option Nat
 | .osl q _ _ _=>some q
 | _=>none
abbrev LI:=PV × Nat × List (List PV)
abbrev BX:=Nat × cP
def eD (B:List BX):List Nat:=B.map (·.1)
def dV (L:List LI):List Nat:=L.filterMap fun x=>x.1.oid
structure aS (H:PH) (B:List BX) (L:List LI):Prop where
 box:∀ b∈B,H b.1=some b.2
 lst:∀ x∈L,bM H x.2.1 x.1 x.2.2
 nd:(eD B++dV L).Nodup
section
variable {C:Ctx} {H:PH} {B:List BX} {L:List LI} {K:PV→PH→Prop}
theorem bM.id {s q:Nat} {v:PV} {rows:List (List PV)} (h:bM H s v rows) (hq:v.oid=some q):∃ rs,H q=some (.rows s rs)∧v=.osl q s 0 rows.length∧rows.length≤rs.length∧rs.take rows.length=rows:=by
 rcases h with ⟨_,rfl⟩ | ⟨p,rs,rfl,h1,h2,h3⟩
 ·cases hq
 ·cases hq
  exact⟨rs,h1,rfl,h2,h3⟩
theorem bM.same {s:Nat} {v:PV} {rows:List (List PV)} {H':PH} (h:bM H s v rows) (hk:∀ q,v.oid=some q→H' q=H q):bM H' s v rows:=by
 rcases h with h | ⟨p,rs,rfl,h1,h2,h3⟩
 ·exact .inl h
 ·exact .inr ⟨p,rs,rfl,by rw[hk p rfl]; exact h1,h2,h3⟩
theorem jZ {x:LI} {q:Nat} (h:x∈L) (hq:x.1.oid=some q):q∈dV L:=List.mem_filterMap.2 ⟨x,h,hq⟩
theorem rK {b:BX} (h:b∈B):b.1∈eD B:=bJT.2 ⟨b,h,rfl⟩
theorem aS.nil:aS H [] []:=⟨by simp,by simp,by simp[eD,dV]⟩
theorem aS.at (h:aS H B L) (i:Nat) {o:Nat} {x:cP} (hi:B[i]?=some (o,x)):H o=some x:=h.box _ (bLD hi)
theorem aS.own (h:aS H B L) (i:Nat) {s:Nat} {v:PV} {rows:List (List PV)} (hi:L[i]?=some (v,s,rows)):bM H s v rows:=h.lst _ (bLD hi)
theorem aS.ndB (h:aS H B L):(eD B).Nodup:=(bKW.1 h.nd).1
theorem aS.ndL (h:aS H B L):(dV L).Nodup:=(bKW.1 h.nd).2.1
theorem aS.ndX (h:aS H B L) {o q:Nat} (ho:o∈eD B) (hq:q∈dV L):o≠q:=(bKW.1 h.nd).2.2 o ho q hq
theorem aS.ne (h:aS H B L) (i j:Nat) {o p:Nat} {x y:cP} (hi:B[i]?=some (o,x)) (hj:B[j]?=some (p,y)) (hij:i≠j):o≠p:=by
 intro e
 have h1:(eD B)[i]?=some o:=by unfold eD; rw[bJQ,hi]; rfl
 have h2:(eD B)[j]?=some p:=by unfold eD; rw[bJQ,hj]; rfl
 obtain⟨li,e1⟩:=bJX.1 h1
 obtain⟨lj,e2⟩:=bJX.1 h2
 have hp:=List.pairwise_iff_getElem.1 h.ndB
 rcases Nat.lt_or_gt_of_ne hij with g | g
 ·exact hp i j li lj g (by rw[e1,e2,e])
 ·exact hp j i lj li g (by rw[e1,e2,e])
theorem aS.neL (h:aS H B L) (i j:Nat) {o q:Nat} {x:cP} {y:LI} (hi:B[i]?=some (o,x)) (hj:L[j]?=some y) (hq:y.1.oid=some q):o≠q :=
 h.ndX (rK (bLD hi)) (jZ (bLD hj) hq)
theorem aS.fresh (h:aS H B L) {o:Nat} (ho:H o=none):o ∉ eD B∧o ∉ dV L:=by
 refine⟨fun hm=>?_,fun hm=>?_⟩
 ·obtain⟨b,hb,rfl⟩:=bJT.1 hm
  rw[h.box b hb] at ho; cases ho
 ·obtain⟨x,hx,e⟩:=List.mem_filterMap.1 hm
  obtain⟨rs,h1,_⟩:=(h.lst x hx).id e
  rw[h1] at ho; cases ho
theorem aS.keep (h:aS H B L) {H':PH} (hk:∀ q,q∈eD B∨q∈dV L→H' q=H q):aS H' B L :=
 ⟨fun b hb=>by rw[hk _ (.inl (rK hb))]; exact h.box b hb,fun x hx=>(h.lst x hx).same fun q hq=>hk q (.inr (jZ hx hq)),h.nd⟩
theorem beD {i:Nat} {o:Nat} {x y:cP} (hi:B[i]?=some (o,x)):eD (B.set i (o,y))=eD B:=by
 unfold eD
 rw[List.map_set]
 refine List.ext_getElem? fun j=>?_
 rw[List.getElem?_set]
 split
 ·rename_i e
  subst e
  rw[bJQ,hi]
  have:=(bJX.1 hi).1
  simp[this]
 ·rfl
theorem aS.set (h:aS H B L) (i:Nat) {o:Nat} {x:cP} (hi:B[i]?=some (o,x)) (y:cP):aS (H.set o y) (B.set i (o,y)) L:=by
 have hoB:o∈eD B:=rK (bLD hi)
 refine⟨fun b hb=>?_,fun z hz=>(h.lst z hz).same fun q hq=>?_,by rw[beD hi]; exact h.nd⟩
 ·obtain⟨j,hj⟩:=List.mem_iff_getElem?.1 hb
  rw[List.getElem?_set] at hj
  split at hj
  ·split at hj
   ·cases hj; simp only[bH,if_true]
   ·cases hj
  ·rename_i hne
   have:b.1≠o:=fun e=>h.ne i j hi (show B[j]?=some (b.1,b.2) from hj) hne e.symm
   rw[bH,if_neg this]
   exact h.box b (bLD hj)
 ·have:q≠o:=fun e=>h.ndX hoB (jZ hz hq) e.symm
  rw[bH,if_neg this]
theorem aS.new (h:aS H B L) {o:Nat} (ho:H o=none) (y:cP):aS (H.set o y) (B++[(o,y)]) L:=by
 obtain⟨f1,f2⟩:=h.fresh ho
 refine⟨fun b hb=>?_,fun z hz=>(h.lst z hz).same fun q hq=>?_,?_⟩
 ·rw[bJY,bJU] at hb
  rcases hb with hb | rfl
  ·have:b.1≠o:=fun e=>f1 (e ▸ rK hb)
   rw[bH,if_neg this]; exact h.box b hb
  ·simp only[bH,if_true]
 ·have:q≠o:=fun e=>f2 (e ▸ jZ hz hq)
  rw[bH,if_neg this]
 ·have:=h.nd
  simp only[eD,bKJ,bKV,List.map_nil] at *
  rw[bJM,bKW] at *
  obtain⟨a,b,c⟩:=this
  refine⟨a,?_,fun p hp q hq=>?_⟩
  ·rw[List.singleton_append,List.nodup_cons]; exact⟨f2,b⟩
  ·rw[List.singleton_append,bJA] at hq
   rcases hq with rfl | hq
   ·intro e; subst e; exact f1 hp
   ·exact c p hp q hq
theorem jN (L1 L2:List LI):dV (L1++L2)=dV L1++dV L2:=List.filterMap_append ..
theorem aS.qN (h:aS H B L) (s:Nat):aS H B (L++[(.aB,s,[])]):=by
 refine⟨h.box,fun z hz=>?_,?_⟩
 ·rw[bJY,bJU] at hz
  rcases hz with hz | rfl
  ·exact h.lst z hz
  ·exact .nil
 ·rw[jN,show dV [((.aB:PV),s,([]:List (List PV)))]=[] from rfl,bKM]; exact h.nd
theorem aS.aBV (h:aS H B L) {o s:Nat} {rows:List (List PV)} (ho:H o=none):aS (H.set o (.rows s rows)) B (L++[(.osl o s 0 rows.length,s,rows)]):=by
 obtain⟨f1,f2⟩:=h.fresh ho
 have hk:=h.keep (H':=H.set o (.rows s rows)) fun q hq=>by
  have:q≠o:=by rintro rfl; exact hq.elim f1 f2
  rw[bH,if_neg this]
 refine⟨hk.box,fun z hz=>?_,?_⟩
 ·rw[bJY,bJU] at hz
  rcases hz with hz | rfl
  ·exact hk.lst z hz
  ·exact .inr ⟨o,rows,rfl,by simp only[bH,if_true],bIO _,bJN⟩
 ·rw[jN,show dV [((.osl o s 0 rows.length:PV),s,rows)]=[o] from rfl,← bJM,bKW]
  refine⟨h.nd,by simp,fun p hp q hq=>?_⟩
  rw[bJU] at hq
  subst hq
  rintro rfl
  rcases bJY.1 hp with hp | hp
  ·exact f1 hp
  ·exact f2 hp
theorem azK {i:Nat} {v v':PV} {s s':Nat} {rows rows':List (List PV)} (hi:L[i]?=some (v,s,rows)):∃ L1 L2,L=L1++(v,s,rows)::L2∧L.set i (v',s',rows')=L1++(v',s',rows')::L2:=by
 obtain⟨hl,he⟩:=bJX.1 hi
 refine⟨L.take i,L.drop (i+1),?_,?_⟩
 ·rw[← he,← bKG hl,bKZ]
 ·rw[List.set_eq_take_append_cons_drop,if_pos hl]
theorem aS.yF (h:aS H B L) (i:Nat) {s:Nat} {v:PV} {rows:List (List PV)} (hi:L[i]?=some (v,s,rows)) {s':Nat} {v':PV} {rows':List (List PV)} {H':PH} (ho:bM H' s' v' rows')
  (hid:∀ q,v'.oid=some q→v.oid=some q∨H q=none) (hk:∀ q,q∈eD B∨q∈dV L→(∀ p,v.oid=some p→q≠p)→H' q=H q):aS H' B (L.set i (v',s',rows')):=by
 obtain⟨L1,L2,e1,e2⟩:=azK (v':=v') (s':=s') (rows':=rows') hi
 rw[e2]
 subst e1
 have hnd:=h.nd
 have eL:dV (L1++(v,s,rows)::L2)=dV L1++(v.oid.toList++dV L2):=by
  rw[jN]
  congr 1
  unfold dV
  rw[List.filterMap_cons]
  cases e:v.oid<;>simp
 have eL':dV (L1++(v',s',rows')::L2)=dV L1++(v'.oid.toList++dV L2):=by
  rw[jN]
  congr 1
  unfold dV
  rw[List.filterMap_cons]
  cases e:v'.oid<;>simp
 rw[eL] at hnd
 have other:∀ q,q∈eD B∨q∈dV L1∨q∈dV L2→∀ p,v.oid=some p→q≠p:=by
  intro q hq p hp e
  subst e
  rw[hp] at hnd
  simp only[Option.toList_some] at hnd
  rw[bKW] at hnd
  obtain⟨a,b,c⟩:=hnd
  rw[bKW] at b
  obtain⟨b1,b2,b3⟩:=b
  rw[List.singleton_append,List.nodup_cons] at b2
  rcases hq with hq | hq | hq
  ·exact c q hq q (by simp) rfl
  ·exact b3 q hq q (by simp) rfl
  ·exact b2.1 hq
 have keepq:∀ q,q∈eD B∨q∈dV L1∨q∈dV L2→H' q=H q:=by
  intro q hq
  refine hk q ?_ (other q hq)
  rw[eL]
  simp only[bJY]
  rcases hq with hq | hq | hq
  ·exact .inl hq
  ·exact .inr (.inl hq)
  ·exact .inr (.inr (.inr hq))
 refine⟨fun b hb=>by rw[keepq _ (.inl (rK hb))]; exact h.box b hb,fun z hz=>?_,?_⟩
 ·rw[bJY,bJA] at hz
  rcases hz with hz | rfl | hz
  ·exact (h.lst z (by simp[hz])).same fun q hq=>keepq q (.inr (.inl (jZ hz hq)))
  ·exact ho
  ·exact (h.lst z (by simp[hz])).same fun q hq=>keepq q (.inr (.inr (jZ hz hq)))
 ·rw[eL']
  cases e:v'.oid with
  | none =>
   simp only[Option.toList_none,bLF]
   refine List.Nodup.sublist ?_ hnd
   exact bKS.append (bKS.refl _) (bKS.append (bKS.refl _) (List.sublist_append_right _ _))
  | some q =>
   rcases hid q e with hv | hn
   ·rw[hv] at hnd
    exact hnd
   ·obtain⟨f1,f2⟩:=h.fresh hn
    rw[eL] at f2
    simp only[bJY,not_or] at f2
    have hnd':(eD B++(dV L1++dV L2)).Nodup:=List.Nodup.sublist (bKS.append (bKS.refl _) (bKS.append (bKS.refl _) (List.sublist_append_right _ _))) hnd
    simp only[Option.toList_some]
    rw[bKW] at hnd' ⊢
    obtain⟨a,b,c⟩:=hnd'
    rw[bKW] at b
    obtain⟨b1,b2,b3⟩:=b
    refine⟨a,?_,?_⟩
    ·rw[bKW]
     refine⟨b1,by rw[List.singleton_append,List.nodup_cons]; exact⟨f2.2.2,b2⟩,fun p hp r hr=>?_⟩
     rw[List.singleton_append,bJA] at hr
     rcases hr with rfl | hr
     ·rintro rfl; exact f2.1 hp
     ·exact b3 p hp r hr
    ·intro p hp r hr
     rw[bJY,List.singleton_append,bJA] at hr
     rcases hr with hr | rfl | hr
     ·exact c p hp r (by simp[hr])
     ·rintro rfl; exact f1 hp
     ·exact c p hp r (by simp[hr])
theorem aS.append (h:aS H B L) (i:Nat) {s b:Nat} {v y:PV} {rows src:List (List PV)} (hi:L[i]?=some (v,s,rows)) (hy:dO H s y=some src) (hr:roomFor rows.length src.length b)
  (hk:∀ v' H',aS H' B (L.set i (v',s,rows++src))→(src≠[]→∃ q,v'=.osl q s 0 (rows++src).length)→K v' H'):lT H s b v y K:=by
 rcases h.own i hi with ⟨rfl,rfl⟩ | ⟨q,rs,rfl,h1,h2,h3⟩
 ·refine⟨src,hy,hr,fun e=>?_,fun e o ho=>?_⟩
  ·subst e
   refine hk _ _ ?_ fun h=>absurd rfl h
   exact h.yF i hi (.inl ⟨rfl,rfl⟩) (fun q hq=>by cases hq) fun q _ _=>rfl
  ·refine hk _ _ (h.yF i hi (.inr ⟨o,src,rfl,by simp only[bH,if_true],bIO _,bJN⟩) (fun q hq=>by cases hq; exact .inr ho) fun q hq _=>?_) fun _=>⟨o,rfl⟩
   obtain⟨f1,f2⟩:=h.fresh ho
   have:q≠o:=by rintro rfl; exact hq.elim f1 f2
   rw[bH,if_neg this]
 ·have hlen:(rows++src).length=rows.length+src.length:=bIU
  refine⟨src,hy,rfl,rfl,hr,rs,h1,h2,?_,fun o ho=>?_⟩
  ·rw[h3]
   refine hk _ _ (h.yF i hi (.inr ⟨q,rows++src,by rw[hlen],by simp only[bH,if_true],bIO _,bJN⟩) (fun p hp=>by cases hp; exact .inl rfl) fun p _ hp=>?_) fun _=>⟨q,by rw[hlen]⟩
   rw[bH,if_neg (hp q rfl)]
  ·rw[h3]
   refine hk _ _ (h.yF i hi (.inr ⟨o,rows++src,by rw[hlen],by simp only[bH,if_true],bIO _,bJN⟩) (fun p hp=>by cases hp; exact .inr ho) fun p hpm hp=>?_) fun _=>⟨o,by rw[hlen]⟩
   obtain⟨f1,f2⟩:=h.fresh ho
   have n1:p≠o:=by rintro rfl; exact hpm.elim f1 f2
   rw[bH,if_neg n1]
theorem aS.sub (h:aS H B L) {B':List BX} {L':List LI} (hB:B'.Sublist B) (hL:L'.Sublist L):aS H B' L' :=
 ⟨fun b hb=>h.box b (hB.subset hb),fun x hx=>h.lst x (hL.subset hx),List.Nodup.sublist (bKS.append (hB.map _) (hL.filterMap _)) h.nd⟩
theorem aS.btZ (h:aS H B L) (i:Nat):aS H (B.eraseIdx i) L:=h.sub (List.eraseIdx_sublist ..) (bKS.refl _)
theorem aS.aWP (h:aS H B L) (i:Nat):aS H B (L.eraseIdx i):=h.sub (bKS.refl _) (List.eraseIdx_sublist ..)
end
section
variable {C:Ctx} {F:PF} {H:PH} {B:List BX} {L:List LI}
theorem aS.CH (h:aS H B L) {q:Nat} (hq:q∈eD B∨q∈dV L):∃ x,H q=some x:=by
 rcases hq with hq | hq
 ·obtain⟨b,hb,rfl⟩:=bJT.1 hq
  exact⟨_,h.box b hb⟩
 ·obtain⟨x,hx,e⟩:=List.mem_filterMap.1 hq
  obtain⟨rs,h1,_⟩:=(h.lst x hx).id e
  exact⟨_,h1⟩
theorem aS.perm (h:aS H B L) {B':List BX} {L':List LI} (hB:B.Perm B') (hL:L.Perm L'):aS H B' L' :=
 ⟨fun b hb=>h.box b (hB.mem_iff.2 hb),fun x hx=>h.lst x (hL.mem_iff.2 hx),(List.Perm.nodup_iff ((hB.map _).append (hL.filterMap _))).1 h.nd⟩
theorem aS.only (h:aS H B L) {B1:List BX} {L1:List LI} (hB:B1.Sublist B) (hL:L1.Sublist L):aS (H.only (eD B1++dV L1)) B1 L1:=by
 refine (h.sub hB hL).keep fun q hq=>?_
 rw[mD]
 rw[if_pos (bJY.2 hq)]
theorem bqV {a b c d:List Nat} (h1:(a++c).Nodup) (h2:(b++d).Nodup) (h3:∀ q,q∈a∨q∈c→q∈b∨q∈d→False):((a++b)++(c++d)).Nodup:=by
 have e:List.Perm ((a++b)++(c++d)) ((a++c)++(b++d)):=by
  rw[bJM,bJM]
  exact List.Perm.append_left a (by rw[← bJM,← bJM]; exact List.Perm.append_right d List.perm_append_comm)
 rw[e.nodup_iff,bKW]
 refine⟨h1,h2,fun p hp q hq=>?_⟩
 rintro rfl
 exact h3 p (bJY.1 hp) (bJY.1 hq)
theorem aS.frame {H':PH} {B1 B2 B':List BX} {L1 L2 L':List LI} (h:aS H (B1++B2) (L1++L2)) (h':aS H' B' L') (ha:kG H (H.only (eD B1++dV L1)) H'):aS (H.eN (H.only (eD B1++dV L1)) H') (B'++B2) (L'++L2):=by
 have h2:aS H B2 L2:=h.sub (List.sublist_append_right ..) (List.sublist_append_right ..)
 have dis:∀ q,q∈eD B2∨q∈dV L2→¬ (q∈eD B1++dV L1):=by
  intro q hq hm
  have hnd:=h.nd
  rw[show eD (B1++B2)=eD B1++eD B2 from bKJ,jN] at hnd
  have e:List.Perm ((eD B1++eD B2)++(dV L1++dV L2)) ((eD B1++dV L1)++(eD B2++dV L2)):=by
   rw[bJM,bJM]
   exact List.Perm.append_left _ (by rw[← bJM,← bJM]; exact List.Perm.append_right _ List.perm_append_comm)
  rw[e.nodup_iff,bKW] at hnd
  exact hnd.2.2 q hm q (bJY.2 hq) rfl
 have new:∀ q,q∈eD B'∨q∈dV L'→(H.eN (H.only (eD B1++dV L1)) H') q=H' q:=by
  intro q hq
  obtain⟨x,hx⟩:=h'.CH hq
  rw[lC,hx]
 have old:∀ q,q∈eD B2∨q∈dV L2→(H.eN (H.only (eD B1++dV L1)) H') q=H q:=by
  intro q hq
  obtain⟨x,hx⟩:=h2.CH hq
  have h0:(H.only (eD B1++dV L1)) q=none:=by rw[mD,if_neg (dis q hq)]
  rw[lC]
  cases e:H' q with
  | none=>simp only[h0]
  | some y =>
   have:=ha q y e h0
   rw[hx] at this; cases this
 have k1:=h'.keep new
 have k2:=h2.keep old
 refine⟨fun b hb=>?_,fun x hx=>?_,?_⟩
 ·rcases bJY.1 hb with hb | hb
  ·exact k1.box b hb
  ·exact k2.box b hb
 ·rcases bJY.1 hx with hx | hx
  ·exact k1.lst x hx
  ·exact k2.lst x hx
 ·rw[show eD (B'++B2)=eD B'++eD B2 from bKJ,jN]
  refine bqV h'.nd h2.nd fun q hq hq2=>?_
  obtain⟨x,hx⟩:=h'.CH hq
  obtain⟨y,hy⟩:=h2.CH hq2
  have h0:(H.only (eD B1++dV L1)) q=none:=by rw[mD,if_neg (dis q hq2)]
  have:=ha q x hx h0
  rw[hy] at this; cases this
theorem TW {name:Nat} {vs:List PV} {args:List aP} {d:Option Nat} {K:PF→PH→Prop} {B1 B2:List BX} {L1 L2:List LI} {Q:PV→List BX→List LI→Prop} (h:aS H (B1++B2) (L1++L2))
  (hc:∀ H0,aS H0 B1 L1→aD C name vs H0 (fun r H'=>∃ B' L',Q r B' L'∧aS H' B' L')) (ha:aP.evs F args=some vs)
  (hk:∀ r B' L' H',Q r B' L'→aS H' (B'++B2) (L'++L2)→K (F.put d r) H'):fU C name args [] d K F H:=by
 refine fD (hc (H.only (eD B1++dV L1)) (h.only (List.sublist_append_left ..) (List.sublist_append_left ..))) ha (CB H _) ?_
 rintro r H' ⟨B',L',hq,h'⟩ hap
 exact hk r B' L' _ hq (h.frame h' hap)
theorem AY {name o:Nat} {x y:cP} {r:PV} {vs:List PV} {args:List aP} {d:Option Nat} {K:PF→PH→Prop} (h:aD C name vs (PH.nil.set o x) (fun r' H'=>r'=r∧H'=PH.nil.set o y)) (ho:H o=some x) (ha:aP.evs F args=some vs)
  (hk:K (F.put d r) (H.set o y)):fU C name args [] d K F H:=by
 refine fD h ha (PH.aI PH.nil_le ho) ?_
 rintro r' H' ⟨rfl,rfl⟩ -
 rw[PH.lD]
 exact hk
theorem auU {Hs:PH} {S:Spec} {name o:Nat} {x y:cP} {r:PV} {vs:List PV} {R:PH→PV→PH→Prop} {args:List aP} {st:Bool} {d:Option Nat} {K:PF→PH→Prop} (hS:S name vs=some ([o],R)) (ho:H o=some x)
  (h:aD C name vs (PH.nil.set o x) (fun r' H'=>r'=r∧H'=PH.nil.set o y)) (hR1:R (PH.nil.set o x) r (PH.nil.set o y)) (hR2:∀ r' H',R (PH.nil.set o x) r' H'→r'=r∧H'=PH.nil.set o y) (ha:aP.evs F args=some vs)
  (hle:Hs.le (H.set o y)) (hk:K (F.put d r) (H.set o y)):dOp C Hs S st (.call name args) d K F H:=by
 have e:=WN ho
 refine⟨vs,[o],_,ha,hS,fun q hq=>?_,?_,fun G=>⟨r,_,by rw[e]; exact hR1,fun q z hz hn=>?_⟩,fun r' H' hr _=>?_⟩
 ·simp at hq; subst hq; exact⟨x,ho⟩
 ·rw[e]
  exact h.post fun r' H' hr=>⟨r',.refl _,by rw[hr.1,hr.2]; exact hR1⟩
 ·rw[e] at hn
  rw[bH] at hz hn
  split at hn
  ·cases hn
  ·rename_i hne
   rw[if_neg hne] at hz; cases hz
 ·rw[e] at hr
  obtain⟨rfl,rfl⟩:=hR2 r' H' hr
  rw[e,PH.lD]
  exact⟨hle,hk⟩
theorem bgX {s:Nat} {q z:Nat} {rs:List (List PV)} {v:PV} {rows:List (List PV)} (h:bM H s v rows) (hv:v.oid≠some q):bM (H.frz q z rs) s v (rows.map fun r=>r.map (PV.dB q z rs)):=by
 rcases h with ⟨rfl,rfl⟩ | ⟨p,rs',rfl,h1,h2,h3⟩
 ·exact .inl ⟨rfl,rfl⟩
 ·have hne:¬ p=q:=fun e=>hv (by rw[e]; rfl)
  refine .inr ⟨p,rs'.map fun r=>r.map (PV.dB q z rs),by rw[bIM],?_,by simpa using h2,?_⟩
  ·rw[uY,if_neg hne,h1]; rfl
  ·rw[bIM,← List.map_take,h3]
theorem aS.frz (h:aS H B L) (i:Nat) {q s k:Nat} {rows:List (List PV)} (hi:L[i]?=some (.osl q s 0 k,s,rows)):∃ rs,H q=some (.rows s rs)∧PV.dB q s rs (.osl q s 0 k)=.sl s rows∧PV.frz q s rs (.osl q s 0 k)=.sl s rows∧(∀ j x,j≠i→L[j]?=some x→PV.dB q s rs x.1=x.1) ∧
  aS (H.frz q s rs) (B.map fun b=>(b.1,b.2.frz q s rs)) ((L.eraseIdx i).map fun x=>(x.1,x.2.1,x.2.2.map fun r=>r.map (PV.dB q s rs))):=by
 obtain⟨rs,h1,h2,h3,h4⟩:=(h.own i hi).id rfl
 injection h2 with _ _ _ hk
 subst hk
 have e:PV.frz q s rs (.osl q s 0 rows.length)=.sl s rows:=by rw[pH h3,h4]
 refine⟨rs,h1,e,e,?_⟩
 refine⟨fun j x hji hj=>?_,?_⟩
 ·have hxq:x.1.oid≠some q:=by
   intro hxq
   obtain⟨hl,he⟩:=bJX.1 hi
   obtain⟨hl2,he2⟩:=bJX.1 hj
   have hmem:x∈L.eraseIdx i:=List.mem_eraseIdx_iff_getElem?.2 ⟨j,hji,hj⟩
   have hnd:=h.ndL
   have hs:L=L.take i++(L[i]::L.drop (i+1)):=by rw[← bKG hl,bKZ]
   rw[List.eraseIdx_eq_take_drop_succ] at hmem
   rw[hs,jN] at hnd
   have e3:dV (L[i]::L.drop (i+1))=q::dV (L.drop (i+1)):=by rw[he]; rfl
   rw[e3,bKW] at hnd
   obtain⟨a,b,c⟩:=hnd
   rcases bJY.1 hmem with hx | hx
   ·exact c q (jZ hx hxq) q (by simp) rfl
   ·exact (List.nodup_cons.1 b).1 (jZ hx hxq)
  cases hx:x.1<;>try rfl
  rename_i p z off len
  have:¬ p=q:=fun e=>hxq (by rw[hx,e]; rfl)
  simp only[PV.dB,if_neg this]
 obtain⟨L1,L2,e1,e2⟩:=azK (v':=.aB) (s':=s) (rows':=rows) hi
 have hil:i=L1.length∨True:=.inr trivial
 have ers:(L.eraseIdx i).Sublist L:=List.eraseIdx_sublist ..
 have hqn:∀ x∈L.eraseIdx i,x.1.oid≠some q:=by
  intro x hx hxq
  obtain⟨hl,he⟩:=bJX.1 hi
  have hnd:=h.ndL
  have hs:L=L.take i++(L[i]::L.drop (i+1)):=by rw[← bKG hl,bKZ]
  rw[List.eraseIdx_eq_take_drop_succ] at hx
  rw[hs,jN] at hnd
  have e3:dV (L[i]::L.drop (i+1))=q::dV (L.drop (i+1)):=by
   rw[he]; rfl
  rw[e3,bKW] at hnd
  obtain⟨a,b,c⟩:=hnd
  rcases bJY.1 hx with hx | hx
  ·exact c q (jZ hx hxq) q (by simp) rfl
  ·exact (List.nodup_cons.1 b).1 (jZ hx hxq)
 refine⟨fun b hb=>?_,fun x hx=>?_,?_⟩
 ·obtain⟨b0,hb0,rfl⟩:=bJT.1 hb
  have:¬ b0.1=q:=h.ndX (rK hb0) (jZ (bLD hi) rfl)
  simp only
  rw[uY,if_neg this,h.box b0 hb0]; rfl
 ·obtain⟨x0,hx0,rfl⟩:=bJT.1 hx
  exact bgX (h.lst x0 (ers.subset hx0)) (hqn x0 hx0)
 ·have i1:eD (B.map fun b=>(b.1,b.2.frz q s rs))=eD B:=by unfold eD; rw[List.map_map]; rfl
  have i2:dV ((L.eraseIdx i).map fun x=>(x.1,x.2.1,x.2.2.map fun r=>r.map (PV.dB q s rs)))=dV (L.eraseIdx i):=by unfold dV; rw[List.filterMap_map]; rfl
  rw[i1,i2]
  exact List.Nodup.sublist (bKS.append (bKS.refl _) (ers.filterMap _)) h.nd
def Flat (rows:List (List PV)):Prop:=∀ q s rs,rows.map (fun r=>r.map (PV.dB q s rs))=rows
theorem Flat.nil:Flat []:=fun _ _ _=>rfl
theorem Flat.of {rows:List (List PV)} (h:∀ r∈rows,∀ c∈r,∀ q s rs,PV.dB q s rs c=c):Flat rows:=fun q s rs=>by
 conv=>rhs; rw[← List.map_id rows]
 refine List.map_congr_left fun r hr=>?_
 conv=>rhs; rw[id,← List.map_id r]
 exact List.map_congr_left fun c hc=>h r hr c hc q s rs
theorem Flat.map {α:Type} {f:α→List PV} (l:List α) (h:∀ x,∀ c∈f x,∀ q s rs,PV.dB q s rs c=c):Flat (l.map f):=Flat.of fun r hr=>by
 obtain⟨x,_,rfl⟩:=bJT.1 hr
 exact h x
theorem Flat.append {r1 r2:List (List PV)} (h1:Flat r1) (h2:Flat r2):Flat (r1++r2):=fun q s rs=>by rw[bKJ,h1,h2]
theorem aS.flat {φ:PV→List (List PV)} (h:aS H B L):aS H B L:=h
def xF (v:PV) (H:PH) (R:PV→PH→Prop):Prop:=∃ F1 H1 H2,hJ (PF.nil.set 0 v) H F1 H1∧H2.le H1∧∃ u,F1 0=some u∧R u H2
theorem xF.done {v:PV} {H2:PH} {R:PV→PH→Prop} (hR:R v H2) (hle:H2.le H):xF v H R:=⟨_,_,H2,.refl _ _,hle,v,by rw[lE,if_pos rfl],hR⟩
theorem xF.step {v:PV} {q s:Nat} {rs:List (List PV)} {R:PV→PH→Prop} (hq:H q=some (.rows s rs)) (h:xF (PV.frz q s rs v) (H.frz q s rs) R):xF v H R:=by
 obtain⟨F1,H1,H2,h1,h2,h3⟩:=h
 have e:(PF.nil.set 0 v).frz q s rs=PF.nil.set 0 (PV.frz q s rs v):=by
  funext i
  rw[qG,lE,lE]
  split<;>rfl
 exact⟨F1,H1,H2,.step q hq (by rw[e]; exact h1),h2,h3⟩
theorem ajF {res:List dU} {R:PV→PH→Prop} {vs:List PV} {e:lH} (he:e=.normal∨e=.ret) (h:dU.evs F H res=some vs) (hf:xF (aX vs) H R):aU res R e F H:=by
 have key:∃ vs,dU.evs F H res=some vs∧∃ F1 H1 H2,hJ (PF.nil.set 0 (aX vs)) H F1 H1∧H2.le H1∧∃ u,F1 0=some u∧R u H2:=⟨vs,h,hf⟩
 rcases he with rfl | rfl<;>exact key
theorem uA {u:PV} (h:u.oid=none) (q s:Nat) (rs:List (List PV)):PV.dB q s rs u=u:=by
 cases u<;>first | rfl | (simp[PV.oid] at h)
theorem Seen.co {s:Nat} {v:PV} {rows:List (List PV)} (h:Seen s v rows):Co v (.sl s rows):=by
 rcases h with ⟨rfl,rfl⟩ | rfl
 ·exact .nil s
 ·exact .refl _
theorem aS.giveUp:∀ (L:List LI) {H:PH} {B:List BX},aS H B L→(∀ x∈L,Flat x.2.2)→(∀ b∈B,∀ q s rs,cP.frz q s rs b.2=b.2) →
  ∃ (φ:PV→PV) (H1:PH),(∀ x∈L,Seen x.2.1 (φ x.1) x.2.2)∧(∀ u,u.oid=none→φ u=u)∧aS H1 B []∧∀ cs R,xF (.agg (cs.map φ)) H1 R→xF (.agg cs) H R
 | [],H,B,h,_,_=>⟨id,H,by simp,fun _ _=>rfl,h,fun cs R hf=>by rwa [List.map_id] at hf⟩
 | (w,s,rows)::L,H,B,h,hL,hB=>by
  have hflat:∀ q z rs,(L.map fun x=>(x.1,x.2.1,x.2.2.map fun r=>r.map (PV.dB q z rs)))=L:=fun q z rs=>by
   conv=>rhs; rw[← List.map_id L]
   refine List.map_congr_left fun x hx=>?_
   rw[hL x (by simp[hx]) q z rs]; rfl
  rcases h.own 0 rfl with ⟨h1,h2⟩ | ⟨q,rs,h1,_⟩
  ·obtain⟨φ,H1,k1,k2,k3,k4⟩:=aS.giveUp L (h.aWP 0) (fun x hx=>hL x (by simp[hx])) hB
   refine⟨φ,H1,fun x hx=>?_,k2,k3,k4⟩
   rw[bJA] at hx
   rcases hx with rfl | hx
   ·exact .inl ⟨h1,by simp only; rw[h2]; exact k2 _ rfl⟩
   ·exact k1 x hx
  ·subst h1
   obtain⟨rs,z1,z2,z3,z4,z5⟩:=h.frz 0 rfl
   have z6:aS (H.frz q s rs) B L:=by
    have eB:(B.map fun b=>(b.1,b.2.frz q s rs))=B:=by
     conv=>rhs; rw[← List.map_id B]
     refine List.map_congr_left fun b hb=>?_
     rw[hB b hb q s rs]; rfl
    rw[eB] at z5
    have:=z5
    simp only[List.eraseIdx_cons_zero] at this
    rwa [hflat q s rs] at this
   obtain⟨φ,H1,k1,k2,k3,k4⟩:=aS.giveUp L z6 (fun x hx=>hL x (by simp[hx])) hB
   refine⟨fun u=>φ (PV.dB q s rs u),H1,fun x hx=>?_,fun u hu=>?_,k3,fun cs R hf=>?_⟩
   ·rw[bJA] at hx
    rcases hx with rfl | hx
    ·simp only
     rw[z2]
     exact .inr (k2 _ rfl)
    ·obtain⟨j,hj⟩:=List.mem_iff_getElem?.1 hx
     have:=z4 (j+1) x Om (by simpa using hj)
     simp only
     rw[this]
     exact k1 x hx
   ·simp only
    rw[uA hu,k2 u hu]
   ·refine .step z1 ?_
    have e:PV.frz q s rs (.agg cs)=.agg (cs.map (PV.dB q s rs)):=rfl
    rw[e]
    refine k4 _ R ?_
    rw[List.map_map]
    exact hf
theorem amZ {K:cN} {α:Type} {Fs:α→PF} {Hs:α→PH} {Pr:α→Prop} {m:α→Nat} {n q s:Nat} {rs:List (List PV)} (a:α) (hq:H q=some (.rows s rs)) (h0:Pr a) (hm:m a<n) (hF:(Fs a).le (F.frz q s rs)) (hH:(Hs a).le (H.frz q s rs)):eF Fs Hs Pr m n K .normal F H :=
 ⟨a,_,_,.step q hq (.refl _ _),h0,hm,hF,hH⟩
end
section
variable {C:Ctx} {F F':PF} {H:PH}
theorem cH (hle:F.le F') {x:aP} {v:PV} (h:x.ev F=some v):x.ev F'=some v:=by
 cases x
 ·exact hle _ _ h
 all_goals exact h
theorem ZY (hle:F.le F'):∀ {xs:List aP} {vs:List PV},aP.evs F xs=some vs→aP.evs F' xs=some vs
 | [],_,h=>h
 | x::xs,vs,h=>by
  rw[vQ] at h ⊢
  cases hx:x.ev F with
  | none=>simp[hx] at h
  | some v =>
   cases hs:aP.evs F xs with
   | none=>simp[hs] at h
   | some ws =>
    rw[hx,hs] at h
    rw[cH hle hx,ZY hle hs]
    exact h
theorem avX (hle:F.le F'):∀ {ps:List (Nat × Nat × aP)} {cs ds:List PV},nE cs F ps=some ds→nE cs F' ps=some ds
 | [],_,_,h=>h
 | (off,size,x)::ps,cs,ds,h=>by
  simp only[nE] at h ⊢
  cases hx:x.ev F with
  | none=>simp[hx] at h
  | some v =>
   rw[hx] at h
   rw[cH hle hx]
   simp only at h ⊢
   split at h
   ·rename_i hc; rw[if_pos hc]; exact avX hle h
   ·cases h
theorem yZ (hle:F.le F') {size:Nat}:∀ {ps:List (Nat × aP)} {cs ds:List (List PV)},fN size cs F ps=some ds→fN size cs F' ps=some ds
 | [],_,_,h=>h
 | (i,x)::ps,cs,ds,h=>by
  simp only[fN] at h ⊢
  cases hx:x.ev F with
  | none=>simp[hx] at h
  | some v =>
   rw[hx] at h
   rw[cH hle hx]
   simp only at h ⊢
   split at h
   ·rename_i hc; rw[if_pos hc]; exact yZ hle h
   ·cases h
theorem JR (hle:F.le F') {d n:Int} {x:Option aP} (h:bnd F d x=some n):bnd F' d x=some n:=by
 cases x with
 | none=>exact h
 | some x =>
  simp only[bnd] at h ⊢
  cases hx:x.ev F with
  | none=>simp[hx] at h
  | some v=>rw[cH hle hx,← hx]; exact h
theorem aDE {op:POp} {v:PV} (hle:F.le F') (h:aO op F H=some v):aO op F' H=some v:=by
 cases op
 case mv x=>exact cH hle h
 case pick c a b =>
  simp only[aO] at h ⊢
  cases hc:c.ev F with
  | none=>simp[hc] at h
  | some t =>
   rw[hc] at h
   rw[cH hle hc]
   cases t<;>simp only at h ⊢<;>try cases h
   rename_i t
   cases t
   ·simp only[bLL,if_false] at h ⊢; exact cH hle h
   ·simp only[if_true] at h ⊢; exact cH hle h
 case same x =>
  simp only[aO] at h ⊢
  cases hx:x.ev F with
  | none=>simp[hx] at h
  | some a=>rw[cH hle hx,← hx]; exact h
 case un o x =>
  simp only[aO] at h ⊢
  cases hx:x.ev F with
  | none=>simp[hx] at h
  | some a=>rw[cH hle hx,← hx]; exact h
 case conv k x =>
  simp only[aO] at h ⊢
  cases hx:x.ev F with
  | none=>simp[hx] at h
  | some a=>rw[cH hle hx,← hx]; exact h
 case bGX x =>
  simp only[aO] at h ⊢
  cases hx:x.ev F with
  | none=>simp[hx] at h
  | some a=>rw[cH hle hx,← hx]; exact h
 case bHU o x =>
  simp only[aO] at h ⊢
  cases hx:x.ev F with
  | none=>simp[hx] at h
  | some a=>rw[cH hle hx,← hx]; exact h
 case field o n x =>
  simp only[aO] at h ⊢
  cases hx:x.ev F with
  | none=>simp[hx] at h
  | some a=>rw[cH hle hx,← hx]; exact h
 case bHQ x =>
  simp only[aO] at h ⊢
  cases hx:x.ev F with
  | none=>simp[hx] at h
  | some a=>rw[cH hle hx,← hx]; exact h
 case isNil n x =>
  simp only[aO] at h ⊢
  cases hx:x.ev F with
  | none=>simp[hx] at h
  | some a=>rw[cH hle hx,← hx]; exact h
 case lenM x =>
  simp only[aO] at h ⊢
  cases hx:x.ev F with
  | none=>simp[hx] at h
  | some a=>rw[cH hle hx,← hx]; exact h
 case bIK x =>
  simp only[aO] at h ⊢
  cases hx:x.ev F with
  | none=>simp[hx] at h
  | some a=>rw[cH hle hx,← hx]; exact h
 case extract x i =>
  simp only[aO] at h ⊢
  cases hx:x.ev F with
  | none=>simp[hx] at h
  | some a=>rw[cH hle hx,← hx]; exact h
 case bGY x =>
  simp only[aO] at h ⊢
  cases hx:x.ev F with
  | none=>simp[hx] at h
  | some a=>rw[cH hle hx,← hx]; exact h
 case len x =>
  simp only[aO] at h ⊢
  cases hx:x.ev F with
  | none=>simp[hx] at h
  | some a=>rw[cH hle hx,← hx]; exact h
 case box r x =>
  cases r
  ·cases h
  simp only[aO] at h ⊢
  cases hx:x.ev F with
  | none=>simp[hx] at h
  | some a=>rw[cH hle hx,← hx]; exact h
 case load n p =>
  cases n
  all_goals
   simp only[aO] at h ⊢
   cases hx:p.ev F with
   | none=>simp[hx] at h
   | some a=>rw[cH hle hx,← hx]; exact h
 case bin o x y =>
  simp only[aO] at h ⊢
  cases hx:x.ev F with
  | none=>simp[hx] at h
  | some a =>
   cases hy:y.ev F with
   | none=>simp[hx,hy] at h
   | some b=>rw[cH hle hx,cH hle hy,← hx,← hy]; exact h
 case eqb n x y =>
  simp only[aO] at h ⊢
  cases hx:x.ev F with
  | none=>simp[hx] at h
  | some a =>
   cases hy:y.ev F with
   | none=>simp[hx,hy] at h
   | some b=>rw[cH hle hx,cH hle hy,← hx,← hy]; exact h
 case eqs n k x y =>
  simp only[aO] at h ⊢
  cases hx:x.ev F with
  | none=>simp[hx] at h
  | some a =>
   cases hy:y.ev F with
   | none=>simp[hx,hy] at h
   | some b=>rw[cH hle hx,cH hle hy,← hx,← hy]; exact h
 case bHD s x i =>
  simp only[aO] at h ⊢
  cases hx:x.ev F with
  | none=>simp[hx] at h
  | some a =>
   cases hy:i.ev F with
   | none=>simp[hx,hy] at h
   | some b=>rw[cH hle hx,cH hle hy,← hx,← hy]; exact h
 case idxA n s x i =>
  simp only[aO] at h ⊢
  cases hx:x.ev F with
  | none=>simp[hx] at h
  | some a =>
   cases hy:i.ev F with
   | none=>simp[hx,hy] at h
   | some b=>rw[cH hle hx,cH hle hy,← hx,← hy]; exact h
 case idxV n s g x i =>
  simp only[aO] at h ⊢
  cases hx:x.ev F with
  | none=>simp[hx] at h
  | some a =>
   cases hy:i.ev F with
   | none=>simp[hx,hy] at h
   | some b=>rw[cH hle hx,cH hle hy,← hx,← hy]; exact h
 case bHR x i =>
  simp only[aO] at h ⊢
  cases hx:x.ev F with
  | none=>simp[hx] at h
  | some a =>
   cases hy:i.ev F with
   | none=>simp[hx,hy] at h
   | some b=>rw[cH hle hx,cH hle hy,← hx,← hy]; exact h
 case bHJ m x y =>
  simp only[aO] at h ⊢
  cases hx:x.ev F with
  | none=>simp[hx] at h
  | some a =>
   cases hy:y.ev F with
   | none=>simp[hx,hy] at h
   | some b=>rw[cH hle hx,cH hle hy,← hx,← hy]; exact h
 case lookup sh z x k ok =>
  simp only[aO] at h ⊢
  cases hx:x.ev F with
  | none=>simp[hx] at h
  | some a =>
   cases hy:k.ev F with
   | none=>simp[hx,hy] at h
   | some b=>rw[cH hle hx,cH hle hy,← hx,← hy]; exact h
 case build z ps =>
  simp only[aO,bIT] at h ⊢
  obtain⟨cs,h1,h2⟩:=h
  exact⟨cs,avX hle h1,h2⟩
 case bGO r s l z ps =>
  cases r
  ·cases h
  simp only[aO] at h ⊢
  split at h
  ·rename_i hc
   rw[if_pos hc]
   rw[bIT] at h ⊢
   obtain⟨cs,h1,h2⟩:=h
   exact⟨cs,yZ hle h1,h2⟩
  ·cases h
 case mkfn n cs =>
  simp only[aO,bIT] at h ⊢
  obtain⟨vs,h1,h2⟩:=h
  exact⟨vs,ZY hle h1,h2⟩
 case sliceA n s x lo hi mx =>
  cases lo<;>cases hi<;>cases mx<;>simp only[aO] at h ⊢<;>try cases h
  cases hx:x.ev F with
  | none=>simp[hx] at h
  | some a=>rw[cH hle hx,← hx]; exact h
 case bHL x lo hi =>
  simp only[aO] at h ⊢
  cases hx:x.ev F with
  | none=>simp[hx] at h
  | some a =>
   rw[hx] at h
   rw[cH hle hx]
   cases a<;>simp only at h ⊢<;>try cases h
   cases h1:bnd F 0 lo with
   | none=>simp[h1] at h
   | some l =>
    rename_i s
    cases h2:bnd F s.length hi with
    | none=>simp[h1,h2] at h
    | some u=>rw[JR hle h1,JR hle h2,← h1,← h2]; exact h
 case slice s x lo hi mx =>
  simp only[aO] at h ⊢
  cases hx:x.ev F with
  | none=>simp[hx] at h
  | some a =>
   rw[hx] at h
   rw[cH hle hx]
   have key:∀ (d:Int) (w:PV),(match bnd F 0 lo,bnd F d hi with
     | some a1,some a2=>match (generalizing:=false) mx with
      | none=>PV.slice s w a1 a2 none
      | some m=>(bnd F 0 (some m)).bind fun m=>PV.slice s w a1 a2 (some m)
     | _,_=>none)=some v→(match bnd F' 0 lo,bnd F' d hi with
     | some a1,some a2=>match (generalizing:=false) mx with
      | none=>PV.slice s w a1 a2 none
      | some m=>(bnd F' 0 (some m)).bind fun m=>PV.slice s w a1 a2 (some m)
     | _,_=>none)=some v:=by
    intro d w h
    cases h1:bnd F 0 lo with
    | none=>simp[h1] at h
    | some l =>
     cases h2:bnd F d hi with
     | none=>simp[h1,h2] at h
     | some u =>
      rw[h1,h2] at h
      rw[JR hle h1,JR hle h2]
      cases mx with
      | none=>exact h
      | some m =>
       simp only at h ⊢
       cases h3:bnd F 0 (some m) with
       | none=>simp[h3] at h
       | some q=>rw[JR hle h3,← h3]; exact h
   cases a<;>simp only at h ⊢<;>first | exact key _ _ h | cases h
 all_goals exact h
theorem auB {op:POp} {r:(Nat→PV) × cP} (hle:F.le F') (h:cQ op F=some r):cQ op F'=some r:=by
 cases op
 case box b x =>
  cases b
  ·simp only[cQ] at h ⊢
   cases hx:x.ev F with
   | none=>simp[hx] at h
   | some a=>rw[cH hle hx,← hx]; exact h
  ·cases h
 case bGO b s l z ps =>
  cases b
  ·simp only[cQ] at h ⊢
   split at h
   ·rename_i hc
    rw[if_pos hc]
    rw[bIT] at h ⊢
    obtain⟨cs,h1,h2⟩:=h
    exact⟨cs,yZ hle h1,h2⟩
   ·cases h
  ·cases h
 case bGS s b z l c =>
  simp only[cQ] at h ⊢
  cases hx:l.ev F with
  | none=>simp[hx] at h
  | some a =>
   cases hy:c.ev F with
   | none=>simp[hx,hy] at h
   | some b=>rw[cH hle hx,cH hle hy,← hx,← hy]; exact h
 all_goals exact h
theorem aIQ {op:POp} {K:PV→PH→Prop} (hle:F.le F') (h:bV op F H K):bV op F' H K:=by
 cases op
 case store n x y =>
  simp only[bV] at h ⊢
  cases hx:x.ev F with
  | none=>simp[hx] at h
  | some a =>
   cases hy:y.ev F with
   | none=>simp[hx,hy] at h
   | some b=>rw[cH hle hx,cH hle hy]; rw[hx,hy] at h; exact h
 case append s b x y =>
  simp only[bV] at h ⊢
  cases hx:x.ev F with
  | none=>simp[hx] at h
  | some a =>
   cases hy:y.ev F with
   | none=>simp[hx,hy] at h
   | some b=>rw[cH hle hx,cH hle hy]; rw[hx,hy] at h; exact h
 case bHG sh x y z =>
  simp only[bV] at h ⊢
  cases hx:x.ev F with
  | none=>simp[hx] at h
  | some a =>
   cases hy:y.ev F with
   | none=>simp[hx,hy] at h
   | some b =>
    cases hz:z.ev F with
    | none=>simp[hx,hy,hz] at h
    | some c=>rw[cH hle hx,cH hle hy,cH hle hz]; rw[hx,hy,hz] at h; exact h
 case insert sh x y z =>
  simp only[bV] at h ⊢
  cases hx:x.ev F with
  | none=>simp[hx] at h
  | some a =>
   cases hy:y.ev F with
   | none=>simp[hx,hy] at h
   | some b =>
    cases hz:z.ev F with
    | none=>simp[hx,hy,hz] at h
    | some c=>rw[cH hle hx,cH hle hy,cH hle hz]; rw[hx,hy,hz] at h; exact h
 all_goals exact h
theorem PF.brN (hle:F.le F') (i:Nat) (v:PV):(F.set i v).le (F'.set i v):=by
 intro j u h
 rw[lE] at h ⊢
 split at h
 ·rename_i e; rw[if_pos e]; exact h
 ·rename_i e; rw[if_neg e]; exact hle j u h
theorem PF.wJ (hle:F.le F') (d:Option Nat) (v:PV):(F.put d v).le (F'.put d v):=by
 cases d with
 | none=>exact hle
 | some d=>exact PF.brN hle d v
theorem PF.bpX (hle:F.le F') (o s:Nat) (rs:List (List PV)):(F.frz o s rs).le (F'.frz o s rs):=by
 intro j u h
 rw[qG,bIT] at h ⊢
 obtain⟨x,h1,h2⟩:=h
 exact⟨x,hle j x h1,h2⟩
theorem PF.le_trans {A B D:PF} (h:A.le B) (k:B.le D):A.le D:=fun i v hi=>k i v (h i v hi)
theorem hJ.up {F1:PF} {H1:PH} (h:hJ F H F1 H1):∀ {F':PF},F.le F'→∃ F1',hJ F' H F1' H1∧F1.le F1':=by
 induction h with
 | refl F H=>exact fun {F'} hle=>⟨F',.refl _ _,hle⟩
 | step o ho _ ih =>
  intro F' hle
  obtain⟨F1',h1,h2⟩:=ih (PF.bpX hle o _ _)
  exact⟨F1',.step o ho h1,h2⟩
theorem YF {name:Nat} {args:Option (List PV)} {d:Option Nat} {K1 K2:PF→PH→Prop} (hK:∀ F F' H,F.le F'→K1 F H→K2 F' H) (hle:F.le F') {args':Option (List PV)} (ha:∀ vs,args=some vs→args'=some vs) (h:pX C name args d K1 F H):pX C name args' d K2 F' H:=by
 obtain⟨vs,H0,R,h1,h2,h3,h4⟩:=h
 exact⟨vs,H0,R,ha _ h1,h2,h3,fun r H' a b=>hK _ _ _ (PF.wJ hle d r) (h4 r H' a b)⟩
theorem aAO {cs:List PV} {args:List aP} (hle:F.le F') (vs:List PV) (h:(aP.evs F args).map (·++cs)=some vs):(aP.evs F' args).map (·++cs)=some vs:=by
 rw[bIT] at h ⊢
 obtain⟨x,h1,h2⟩:=h
 exact⟨x,ZY hle h1,h2⟩
theorem aLM {name:Nat} {args:List aP} {cs:List PV} {d:Option Nat} {K1 K2:PF→PH→Prop} (hK:∀ F F' H,F.le F'→K1 F H→K2 F' H) (hle:F.le F') (h:fU C name args cs d K1 F H):fU C name args cs d K2 F' H:=by
 rcases h with h | ⟨F1,H1,h1,h2⟩
 ·exact .inl (YF hK hle (aAO hle) h)
 ·obtain⟨F1',k1,k2⟩:=h1.up hle
  exact .inr ⟨F1',H1,k1,YF hK k2 (aAO k2) h2⟩
theorem MC {op:POp} {d:Option Nat} {K1 K2:PF→PH→Prop} (hK:∀ F F' H,F.le F'→K1 F H→K2 F' H) (hle:F.le F') (h:kX (cQ op F) d K1 F H):kX (cQ op F') d K2 F' H:=by
 obtain⟨mk,x,h1,h2⟩:=h
 exact⟨mk,x,auB hle h1,fun o ho=>hK _ _ _ (PF.wJ hle d _) (h2 o ho)⟩
theorem ahN {op:POp} {d:Option Nat} {K1 K2:PF→PH→Prop} (hK:∀ F F' H,F.le F'→K1 F H→K2 F' H) (hle:F.le F') (h:bQ (aO op F H) d K1 F H):bQ (aO op F' H) d K2 F' H:=by
 obtain⟨v,h1,h2⟩:=h
 exact⟨v,aDE hle h1,hK _ _ _ (PF.wJ hle d v) h2⟩
theorem atK {op:POp} {d:Option Nat} {K1 K2:PF→PH→Prop} (hK:∀ F F' H,F.le F'→K1 F H→K2 F' H) (hle:F.le F') (h:bV op F H fun r H'=>K1 (F.put d r) H'):bV op F' H fun r H'=>K2 (F'.put d r) H' :=
 aIQ hle (xA (fun v H' hh=>hK _ _ _ (PF.wJ hle d v) hh) h)
theorem bjH {op:POp} {d:Option Nat} {K1 K2:PF→PH→Prop} (hK:∀ F F' H,F.le F'→K1 F H→K2 F' H) (hle:F.le F') (h:wpOp C op d K1 F H):wpOp C op d K2 F' H:=by
 cases op
 case call n a=>exact aLM hK hle h
 case bHT x a =>
  obtain⟨n,cs,h1,h2⟩:=h
  exact⟨n,cs,cH hle h1,aLM hK hle h2⟩
 case box r x=>cases r<;>first | exact MC (op:=.box false x) hK hle h | exact ahN (op:=.box true x) hK hle h
 case bGO r s l z ps=>cases r<;>first | exact MC (op:=.bGO false s l z ps) hK hle h | exact ahN (op:=.bGO true s l z ps) hK hle h
 case alloc cs=>exact MC (op:=.alloc cs) hK hle h
 case bGS s b z l c=>exact MC (op:=.bGS s b z l c) hK hle h
 case bIE sh=>exact MC (op:=.bIE sh) hK hle h
 case store n x y=>exact atK (op:=.store n x y) hK hle h
 case append s b x y=>exact atK (op:=.append s b x y) hK hle h
 case bHG sh x y z=>exact atK (op:=.bHG sh x y z) hK hle h
 case insert sh x y z=>exact atK (op:=.insert sh x y z) hK hle h
 all_goals exact ahN hK hle h
theorem NA {K1 K2:PF→PH→Prop} (hK:∀ F F' H,F.le F'→K1 F H→K2 F' H):∀ {ops:List bB} {F F':PF} {H:PH},F.le F'→wpOps C ops K1 F H→wpOps C ops K2 F' H
 | [],_,_,_,hle,h=>hK _ _ _ hle h
 | ⟨d,op,none⟩::rest,_,_,_,hle,h=>bjH (fun _ _ _ a b=>NA hK a b) hle h
 | ⟨d,op,some (t,want)⟩::rest,F,F',H,hle,h=>by
  rw[aLB] at h ⊢
  unfold sQ at h
  split at h
  ·rename_i b hb
   rw[hle t _ hb]
   unfold sQ
   simp only
   split at h
   ·rename_i e; rw[if_pos e]; exact bjH (fun _ _ _ a b=>NA hK a b) hle h
   ·rename_i e; rw[if_neg e]; exact NA hK (PF.wJ hle d _) h
  ·rename_i hb
   rw[hle t _ hb]
   exact NA hK (PF.wJ hle d _) h
  ·exact h.elim
theorem aCW {Hs:PH} {S:Spec} {st:Bool} {op:POp} {K:PV→PH→Prop} (hle:F.le F') (h:(op.kind F).run C Hs S st K H):(op.kind F').run C Hs S st K H:=by
 have new:∀ op:POp,(Kind.new (cQ op F)).run C Hs S st K H→(Kind.new (cQ op F')).run C Hs S st K H:=fun op h=>by
  obtain⟨mk,x,h1,h2⟩:=h
  exact⟨mk,x,auB hle h1,h2⟩
 have calm:∀ op:POp,(Kind.calm (aO op F)).run C Hs S st K H→(Kind.calm (aO op F')).run C Hs S st K H:=fun op h=>by
  obtain⟨v,h1,h2⟩:=h
  exact⟨v,aDE hle h1,h2⟩
 have wr:∀ op:POp,(Kind.write fun H K=>bV op F H K).run C Hs S st K H→(Kind.write fun H K=>bV op F' H K).run C Hs S st K H:=fun op h=>aIQ (op:=op) hle (show bV op F H (fun r H'=>Hs.le H'∧K r H') from h)
 cases op
 case call n a =>
  obtain⟨vs,D,R,h1,h2⟩:=h
  exact⟨vs,D,R,ZY hle h1,h2⟩
 case bHT x a =>
  unfold POp.kind at h ⊢
  simp only at h ⊢
  cases hx:x.ev F with
  | none=>rw[hx] at h; exact h.elim
  | some u =>
   rw[hx] at h
   rw[cH hle hx]
   cases u<;>simp only at h ⊢<;>first | exact h | skip
   obtain⟨vs,D,R,h1,h2⟩:=h
   exact⟨vs,D,R,aAO hle _ h1,h2⟩
 case insert sh x k v =>
  obtain⟨o,sh',key,u,g,h1,h2⟩:=h
  refine⟨o,sh',key,u,g,?_,h2⟩
  cases hx:x.ev F with
  | none=>simp[hx] at h1
  | some a =>
   cases hy:k.ev F with
   | none=>simp[hx,hy] at h1
   | some b =>
    cases hz:v.ev F with
    | none=>simp[hx,hy,hz] at h1
    | some c=>rw[cH hle hx,cH hle hy,cH hle hz]; rw[hx,hy,hz] at h1; exact h1
 case box r x=>cases r<;>first | exact new (.box false x) h | exact calm (.box true x) h
 case bGO r s l z ps=>cases r<;>first | exact new (.bGO false s l z ps) h | exact calm (.bGO true s l z ps) h
 case alloc cs=>exact new (.alloc cs) h
 case bGS s b z l c=>exact new (.bGS s b z l c) h
 case bIE sh=>exact new (.bIE sh) h
 case store n x y=>exact wr (.store n x y) h
 case append s b x y=>exact wr (.append s b x y) h
 case bHG sh x y z=>exact wr (.bHG sh x y z) h
 all_goals exact calm _ h
theorem beF {Hs:PH} {S:Spec} {st:Bool} {i:bB} {K:PV→PH→Prop} (hle:F.le F') (h:(i.kind F).run C Hs S st K H):(i.kind F').run C Hs S st K H:=by
 unfold bB.kind at h ⊢
 split
 ·rename_i hg
  rw[hg] at h
  exact aCW hle h
 ·rename_i t want hg
  rw[hg] at h
  simp only at h
  split at h
  ·rename_i b hb
   rw[hle t _ hb]
   simp only
   split at h
   ·rename_i e; rw[if_pos e]; exact aCW hle h
   ·rename_i e; rw[if_neg e]; exact h
  ·rename_i hb
   rw[hle t _ hb]
   exact h
  ·exact h.elim
theorem bbB {Hs:PH} {S:Spec} {K1 K2:PF→PH→Prop} (hK:∀ F F' H,F.le F'→K1 F H→K2 F' H):∀ {ops:List (bB × Bool)} {F F':PF} {H:PH},Hs.le H→F.le F'→wpD C Hs S ops K1 F H→wpD C Hs S ops K2 F' H
 | [],_,_,_,_,hle,h=>hK _ _ _ hle h
 | i::rest,F,F',H,hs,hle,h=>by
  have h1:(i.1.kind F).run C Hs S i.2 (fun v H'=>wpD C Hs S rest K1 (F.put i.1.dst v) H') H:=h
  exact beF hle (Kind.pA (oX _ _) (fun v H' hs' hh=>bbB hK hs' (PF.wJ hle _ v) hh) hs h1)
class Up (K:cN):Prop where
 up:∀ {e:lH} {F F':PF} {H:PH},F.le F'→K e F H→K e F' H
theorem sI:∀ (c:aC) {K1 K2:cN} (_:∀ e F F' H,F.le F'→K1 e F H→K2 e F' H) {F F':PF} {H:PH},F.le F'→c.wp C K1 F H→c.wp C K2 F' H
 | .skip,_,_,hK,_,_,_,hle,h=>hK _ _ _ _ hle h
 | .region ops,_,_,hK,_,_,_,hle,h=>NA (hK .normal) hle h
 | .draw ops,_,_,hK,_,_,_,hle,⟨Hs,S,h1,h2⟩=>⟨Hs,S,h1,bbB (hK .normal) h1 hle h2⟩
 | .seq a b,K1,K2,hK,_,_,_,hle,h=>sI a (K1:=iH C (b.wp C) K1) (K2:=iH C (b.wp C) K2) (fun e F F' H hl hh=>by
   cases e with
   | normal=>exact sI b hK hl hh
   | exit id=>exact hK (.exit id) _ _ _ hl hh
   | ret=>exact hK .ret _ _ _ hl hh) hle h
 | .cond c a b,K1,K2,hK,F,F',H,hle,h=>by
  rw[biQ] at h ⊢
  unfold QG at h
  split at h
  ·rename_i t ht
   rw[cH hle ht]
   unfold QG
   simp only
   split at h
   ·rename_i e; rw[if_pos e]; exact sI a hK hle h
   ·rename_i e; rw[if_neg e]; exact sI b hK hle h
  ·exact h.elim
 | .block id c,K1,K2,hK,_,_,_,hle,h=>sI c (K1:=dX id K1) (K2:=dX id K2) (fun e F F' H hl hh=>by
   cases e with
   | normal=>exact hK .normal _ _ _ hl hh
   | exit j =>
    rw[RJ] at hh ⊢
    split at hh
    ·rename_i e; rw[if_pos e]; exact hK .normal _ _ _ hl hh
    ·rename_i e; rw[if_neg e]; exact hK (.exit j) _ _ _ hl hh
   | ret=>exact hK .ret _ _ _ hl hh) hle h
 | .loop c,K1,K2,hK,F,F',H,hle,⟨α,Fs,Hs,Pr,m,a0,F1,H1,h1,h2,h3,h4,h5⟩=>by
  obtain⟨F1',k1,k2⟩:=h1.up hle
  refine⟨α,Fs,Hs,Pr,m,a0,F1',H1,k1,h2,PF.le_trans h3 k2,h4,fun a ha=>?_⟩
  refine sI c (K1:=eF Fs Hs Pr m (m a) K1) (K2:=eF Fs Hs Pr m (m a) K2) (fun e F F' H hl hh=>?_) PF.le_refl (h5 a ha)
  cases e with
  | normal =>
   obtain⟨b,F2,H2,z1,z2,z3,z4,z5⟩:=hh
   obtain⟨F2',y1,y2⟩:=z1.up hl
   exact⟨b,F2',H2,y1,z2,z3,PF.le_trans z4 y2,z5⟩
  | exit id=>exact hK (.exit id) _ _ _ hl hh
  | ret=>exact hK .ret _ _ _ hl hh
 | .exit id,_,_,hK,_,_,_,hle,h=>hK (.exit id) _ _ _ hle h
 | .ret,_,_,hK,_,_,_,hle,h=>hK .ret _ _ _ hle h
instance Up.seq {K:cN} [Up K] (b:aC):Up (iH C (b.wp C) K) where
 up {e} {F} {F'} {H} hl hh:=by
  cases e with
  | normal=>exact sI b (fun e F F' H a h=>Up.up a h) hl hh
  | exit id=>exact Up.up (K:=K) (e:=.exit id) hl hh
  | ret=>exact Up.up (K:=K) (e:=.ret) hl hh
instance Up.block {K:cN} [Up K] (id:Nat):Up (dX id K) where
 up {e} {F} {F'} {H} hl hh:=by
  cases e with
  | normal=>exact Up.up (K:=K) (e:=.normal) hl hh
  | exit j =>
   rw[RJ] at hh ⊢
   split at hh
   ·rename_i e; rw[if_pos e]; exact Up.up (K:=K) (e:=.normal) hl hh
   ·rename_i e; rw[if_neg e]; exact Up.up (K:=K) (e:=.exit j) hl hh
  | ret=>exact Up.up (K:=K) (e:=.ret) hl hh
instance Up.loop {K:cN} [Up K] {α:Type} (Fs:α→PF) (Hs:α→PH) (Pr:α→Prop) (m:α→Nat) (n:Nat):Up (eF Fs Hs Pr m n K) where
 up {e} {F} {F'} {H} hl hh:=by
  cases e with
  | normal =>
   obtain⟨b,F2,H2,z1,z2,z3,z4,z5⟩:=hh
   obtain⟨F2',y1,y2⟩:=z1.up hl
   exact⟨b,F2',H2,y1,z2,z3,PF.le_trans z4 y2,z5⟩
  | exit id=>exact Up.up (K:=K) (e:=.exit id) hl hh
  | ret=>exact Up.up (K:=K) (e:=.ret) hl hh
theorem brE {H:PH} (hle:F.le F') {x:dU} {v:PV} (h:x.ev F H=some v):x.ev F' H=some v:=by
 cases x with
 | tmp t=>exact hle t v h
 | cell t n =>
  cases n<;>simp only[dU.ev] at h ⊢<;>(cases hx:F t with
   | none=>simp[hx] at h
   | some a=>rw[hle t a hx,← hx]; exact h)
theorem ajG {H:PH} (hle:F.le F'):∀ {xs:List dU} {vs:List PV},dU.evs F H xs=some vs→dU.evs F' H xs=some vs
 | [],_,h=>h
 | x::xs,vs,h=>by
  rw[kU] at h ⊢
  cases hx:x.ev F H with
  | none=>simp[hx] at h
  | some v =>
   cases hs:dU.evs F H xs with
   | none=>simp[hs] at h
   | some ws =>
    rw[hx,hs] at h
    rw[brE hle hx,ajG hle hs]
    exact h
instance Up.ret (res:List dU) (R:PV→PH→Prop):Up (aU res R) where
 up {e} {F} {F'} {H} hl hh:=by
  cases e with
  | exit id=>exact hh
  | normal=>obtain⟨vs,h1,h2⟩:=hh; exact⟨vs,ajG hl h1,h2⟩
  | ret=>obtain⟨vs,h1,h2⟩:=hh; exact⟨vs,ajG hl h1,h2⟩
end
def CY (f:aL) (row:List Int):Int:=match fO (jQ f) row 0 with
 | some i=>i
 | none=>-1
theorem bnO {C:Ctx} (f:aL) (row:List Int) (hl:row.length≤16777216):NV.wp C (aU aEK.res (aE (.int .i64 (CY f row)))) (PF.args [.agg f.cells,ints row]) .nil:=by
 unfold CY
 simp only[go_sem,ο,NV,aRN,aRO,aEK]
 refine wp_loop (α:=Nat) (fun k=>(((PF.nil.set 1 (ints row)).set 2 (.bJ f.cells)).set 5 (.int .i64 k))) (fun _=>.nil) (fun k=>k≤row.length∧fO (jQ f) row 0=fO (jQ f) (row.drop k) k) (fun k=>row.length-k) 0 ⟨bIX _,rfl⟩ Lq PH.nil_le ?_
 rintro k ⟨hk,ha⟩
 simp only[go_sem,ο,γ,aRM,aRP,bIM]
 by_cases hlt:k<row.length
 ·have bGP:(k:Int)<(row.length:Nat):=by omega
  have hat:(row.map fun x=>[PV.int .i64 x])[k]?=some [.int .i64 row[k]]:=by simp[hlt]
  rw[bKG hlt,fO] at ha
  generalize row[k]=x at *
  simp only[go_sem,ο,bGP]
  refine bT .nil eG PH.nil_le ?_
  by_cases c1:x < -1
  ·rw[show jQ f x=true from by unfold jQ; rw[decide_eq_true c1]; rfl,if_pos rfl] at ha
   simp only[go_sem,ο,γ,QY,hat,c1,ajJ]
   refine aM (.inr rfl) rfl ?_
   rw[aX,ha]
  ·by_cases c2:x≥(f.bGI.length:Nat)
   ·rw[show jQ f x=true from by unfold jQ; rw[decide_eq_true c2,Bool.or_true],if_pos rfl] at ha
    simp only[go_sem,ο,δ,γ,θ,reduceCtorEq,QY,hat,c1,bIM,c2,ajJ]
    refine aM (.inr rfl) rfl ?_
    rw[aX,ha]
   ·rw[show jQ f x=false from by unfold jQ; rw[decide_eq_false c1,decide_eq_false c2]; rfl,if_neg (by decide)] at ha
    simp only[go_sem,ο,δ,γ,θ,reduceCtorEq,QY,hat,c1,bIM,c2,aRQ,wZz k]
    exact aK (k+1) ⟨hlt,ha⟩ Om Lq PH.le_refl
 ·have bGP:¬ (k:Int)<(row.length:Nat):=by omega
  have:k=row.length:=by omega
  subst this
  rw[List.drop_length,fO] at ha
  simp only[go_sem,ο,bGP,aRR]
  refine aM (.inr rfl) rfl ?_
  rw[aX,ha]
theorem bmH {r e:Int} (h:0≤e):max 0 (min r e)=min (max r 0) e:=by omega
theorem aZF (f:aL) (room:List Int) {k:Nat} (h:k<f.bGI.length):(fF f room).take (k+1)=(fF f room).take k++[qT f room k]:=by
 have hk:k<(fF f room).length:=by rw[NR]; exact h
 rw[bKK hk,aED]
theorem azJ {xs:List Int} {k:Nat} {d:Int} (h:k<xs.length):(xs.take (k+1)).contains d=((xs.take k).contains d||decide (xs[k]=d)):=by
 rw[Bool.eq_iff_iff]
 rw[List.contains_iff_mem,bKK h,bJY,bJU,Bool.or_eq_true,List.contains_iff_mem,decide_eq_true_eq]
 exact⟨fun h=>h.imp id Eq.symm,fun h=>h.imp id Eq.symm⟩
theorem bnJ {C:Ctx} (l:List Int) (hl:l.length≤1000000000000000) (x:Int):NP.wp C (aU NO.res (aE (.bool (l.contains x)))) (PF.args [ints l,.int .i64 x]) .nil:=by
 simp only[go_sem,γ,δ,ε,ζ,η,θ,ι,κ,μ,ν,ξ,ο,ρ,σ,τ,υ,reduceIte,reduceCtorEq,NP,aQU,aQV,NO]
 refine wp_loop (α:=Nat) (fun k=>(((PF.nil.set 0 (ints l)).set 1 (.int .i64 x)).set 5 (.int .i64 k))) (fun _=>.nil) (fun k=>k≤l.length∧(l.take k).contains x=false) (fun k=>l.length-k) 0 ⟨bIX _,by simp⟩ Lq PH.nil_le ?_
 rintro k ⟨hk,hn⟩
 simp only[go_sem,γ,δ,ε,ζ,η,θ,ι,κ,μ,ν,ξ,ο,ρ,σ,τ,υ,reduceIte,reduceCtorEq,aQT,aQW,bIM]
 by_cases hlt:k<l.length
 ·have bGP:(k:Int)<(l.length:Nat):=by omega
  have hat:(l.map fun n=>[PV.int .i64 n])[k]?=some [.int .i64 l[k]]:=by simp[hlt]
  have hs:=azJ (d:=x) hlt
  by_cases c:l[k]=x
  ·simp only[go_sem,γ,δ,ε,ζ,η,θ,ι,κ,μ,ν,ξ,ο,ρ,σ,τ,υ,reduceIte,reduceCtorEq,bGP,ajI,hat,bS c,aQX]
   refine aM (.inr rfl) rfl ?_
   rw[aX]
   exact congrArg PV.bool (List.contains_iff_mem.2 (c ▸ bIR hlt)).symm
  ·simp only[go_sem,γ,δ,ε,ζ,η,θ,ι,κ,μ,ν,ξ,ο,ρ,σ,τ,υ,reduceIte,reduceCtorEq,bGP,ajI,hat,bF c,aQY,wZz k]
   exact aK (k+1) ⟨hlt,by rw[hs,hn]; simp[c]⟩ Om Lq PH.le_refl
 ·have bGP:¬ (k:Int)<(l.length:Nat):=by omega
  have:k=l.length:=by omega
  subst this
  rw[bJN] at hn
  simp only[go_sem,γ,δ,ε,ζ,η,θ,ι,κ,μ,ν,ξ,ο,ρ,σ,τ,υ,reduceIte,reduceCtorEq,bGP,aQZ]
  refine aM (.inr rfl) rfl ?_
  rw[aX,hn]
def LL (l:List Int) (x:Int):Int:=match l.findIdx? (fun y=>decide (y=x)) with
 | some i=>(i:Int)
 | none=>-1
theorem blR {l:List Int} {x:Int} {k:Nat} (h:k<l.length) (h1:l[k]=x) (h2:(l.take k).contains x=false):LL l x=k:=by
 unfold LL
 have:l.findIdx? (fun y=>decide (y=x))=some k:=by
  rw[List.findIdx?_eq_some_iff_getElem]
  refine⟨h,by simp[h1],fun j hj=>?_⟩
  intro hx
  rw[decide_eq_true_eq] at hx
  have:x∈l.take k:=by
   rw[← hx]
   exact List.mem_take_iff_getElem.2 ⟨j,by omega,rfl⟩
  rw[List.contains_iff_mem.2 this] at h2
  cases h2
 rw[this]
theorem amD {l:List Int} {x:Int} (h:l.contains x=false):LL l x=-1:=by
 unfold LL
 have:l.findIdx? (fun y=>decide (y=x))=none:=by
  rw[List.findIdx?_eq_none_iff]
  intro y hy
  rw[decide_eq_false_iff_not]
  intro e
  subst e
  rw[List.contains_iff_mem.2 hy] at h
  cases h
 rw[this]
theorem blS (l:List Int) (x:Int):decide (LL l x≥0)=l.contains x:=by
 cases hc:l.contains x with
 | false=>rw[amD hc]; rfl
 | true =>
  unfold LL
  cases hf:l.findIdx? (fun y=>decide (y=x)) with
  | some i=>exact decide_eq_true (Om:(i:Int)≥0)
  | none =>
   rw[List.findIdx?_eq_none_iff] at hf
   have:=hf x (List.contains_iff_mem.1 hc)
   simp at this
theorem a6R {C:Ctx} (l:List Int) (hl:l.length≤1000000000000000) (x:Int):zX.wp C (aU NI.res (aE (.int .i64 (LL l x)))) (PF.args [ints l,.int .i64 x]) .nil:=by
 simp only[go_sem,γ,δ,ε,ζ,η,θ,ι,κ,μ,ν,ξ,ο,ρ,σ,τ,υ,reduceIte,reduceCtorEq,zX,aoL,aoM,NI,bIM]
 refine wp_loop (α:=Nat) (fun k=>((((PF.nil.set 0 (ints l)).set 1 (.int .i64 x)).set 7 (.int .i64 (l.length:Nat))).set 8 (.int .i64 k))) (fun _=>.nil) (fun k=>k≤l.length∧(l.take k).contains x=false) (fun k=>l.length-k) 0 ⟨bIX _,by simp⟩ Lq PH.nil_le ?_
 rintro k ⟨hk,hn⟩
 simp only[go_sem,γ,δ,ε,ζ,η,θ,ι,κ,μ,ν,ξ,ο,ρ,σ,τ,υ,reduceIte,reduceCtorEq,aoK,aoN]
 by_cases hlt:k<l.length
 ·have bGP:(k:Int)<(l.length:Nat):=by omega
  have hat:(l.map fun n=>[PV.int .i64 n])[k]?=some [.int .i64 l[k]]:=by simp[hlt]
  have hs:=azJ (d:=x) hlt
  by_cases c:l[k]=x
  ·simp only[go_sem,γ,δ,ε,ζ,η,θ,ι,κ,μ,ν,ξ,ο,ρ,σ,τ,υ,reduceIte,reduceCtorEq,bGP,NJ,NK,hat,bS c.symm,aoO]
   refine aM (.inr rfl) Ev ?_
   rw[aX,blR hlt c hn]
  ·simp only[go_sem,γ,δ,ε,ζ,η,θ,ι,κ,μ,ν,ξ,ο,ρ,σ,τ,υ,reduceIte,reduceCtorEq,bGP,NJ,NK,hat,bF (fun h:x=l[k]=>c h.symm),aoP,wZz k]
   exact aK (k+1) ⟨hlt,by rw[hs,hn]; simp[c]⟩ Om Lq PH.le_refl
 ·have bGP:¬ (k:Int)<(l.length:Nat):=by omega
  have:k=l.length:=by omega
  subst this
  rw[bJN] at hn
  simp only[go_sem,γ,δ,ε,ζ,η,θ,ι,κ,μ,ν,ξ,ο,ρ,σ,τ,υ,reduceIte,reduceCtorEq,bGP,aoQ]
  refine aM (.inr rfl) Ev ?_
  rw[aX,amD hn]
theorem aDC {C:Ctx} (l:List Int) (x:Int) (h:aD C 261 [ints l,.int .i64 x] .nil (aE (.int .i64 (LL l x)))):rO.wp C (aU sX.res (aE (.bool (l.contains x)))) (PF.args [ints l,.int .i64 x]) .nil:=by
 simp only[go_sem,γ,δ,ε,ζ,η,θ,ι,κ,μ,ν,ξ,ο,ρ,σ,τ,υ,reduceIte,reduceCtorEq,rO,NE,NF,sX]
 refine aA h Ev ?_
 simp only[go_sem,γ,δ,ε,ζ,η,θ,ι,κ,μ,ν,ξ,ο,ρ,σ,τ,υ,reduceIte,reduceCtorEq]
 refine aM (.inr rfl) Ev ?_
 rw[aX,blS]
structure bsU (C:Ctx):Prop where
 has:∀ (l:List Int) (x:Int),l.length≤1000000000000000→aD C 260 [ints l,.int .i64 x] .nil (aE (.bool (l.contains x)))
theorem bfK {C:Ctx} (Lb:bsU C) (f:aL) (hV:VF f) (now:List (List Int)) (hl:jH now) (hlen:now.length=f.bGK.length) (r:Int) (h0:0≤r) (h4:r≤4) (down:List Int) (hd:down.length≤1000000000000000) :
  GL.wp C (aU acL.res (aE (.bool (iJ f now r down)))) (PF.args [.agg f.cells,lay now,.int .i64 r,ints down]) .nil:=by
 have bGV:=hl.rows
 simp only[go_sem,γ,δ,ε,ζ,η,θ,ι,κ,μ,ν,ξ,ο,ρ,σ,τ,υ,reduceIte,reduceCtorEq,GL,aDF,aDG,acL,bIM]
 refine wp_loop (α:=Nat) (fun v=>((((((PF.nil.set 2 (.int .i64 r)).set 3 (ints down)).set 4 (.bJ f.cells)).set 15 (lay now)).set 16 (.int .i64 (now.length:Nat))).set 17 (.int .i64 v))) (fun _=>.nil) (fun v=>v≤now.length∧EM f now r down v=true) (fun v=>now.length-v) 0 ⟨bIX _,rfl⟩ (by (repeat' (first|exact PF.nil_le|refine PF.aI ?_ ?_))<;>first|(simp only[go_sem,γ,δ,ε,ζ,η,θ,ι,κ,μ,ν,ξ,ο,ρ,σ,τ,υ,reduceIte,reduceCtorEq,bIM]<;>rfl)|rfl) PH.nil_le ?_
 rintro v ⟨hv,hok⟩
 simp only[go_sem,γ,δ,ε,ζ,η,θ,ι,κ,μ,ν,ξ,ο,ρ,σ,τ,υ,reduceIte,reduceCtorEq,aoF,aDH]
 by_cases hlt:v<now.length
 ·have bGP:(v:Int)<(now.length:Nat):=by omega
  have hat:(now.map fun r=>[ints r])[v]?=some [ints now[v]]:=by simp[hlt]
  have hgd:now.getD v []=now[v]:=by simp[bJG,hlt]
  have hrl:(now[v]).length≤16777216:=by
   have h1:=hl.all
   have h2:(now[v]).length≤now.flatten.length:=(List.sublist_flatten_of_mem (bIR hlt)).length_le
   omega
  obtain⟨hp,he⟩:=GO hV (Om:v<f.bGK.length)
  have hpol:=hV.bGW _ (bIR hp)
  rw[he] at hpol
  have hw:IntKind.i64.wrap ((gT f v).k+r)=(gT f v).k+r:=wrap_i64 Om Om
  have bHE:=aWT f now r down v
  rw[hok,bIY,hgd] at bHE
  have hno:=fun (h:NX f r down v now[v]=true)=>bdG (f:=f) (now:=now) (reserve:=r) (down:=down) hlt (by rw[hgd]; exact h)
  generalize now[v]=row at *
  simp only[go_sem,γ,δ,ε,ζ,η,θ,ι,κ,μ,ν,ξ,ο,ρ,σ,τ,υ,reduceIte,reduceCtorEq,bGP,aDI,hat,aDJ,aDK,bIM]
  refine wp_loop (α:=Nat) (fun k=>((((((((((((PF.nil.set 2 (.int .i64 r)).set 3 (ints down)).set 4 (.bJ f.cells)).set 15 (lay now)).set 16 (.int .i64 (now.length:Nat))).set 17 (.int .i64 v)).set 9 (.int .i64 v)).set 11 (.bool (LK down (row.take k)))).set 12 (.int .i64 (mE down (row.take k):Nat))).set 22 (ints row)).set 23 (.int .i64 (row.length:Nat))).set 24 (.int .i64 k))) (fun _=>.nil) (fun k=>k≤row.length) (fun k=>row.length-k) 0 (bIX _) (by (repeat' (first|exact PF.nil_le|refine PF.aI ?_ ?_))<;>first|(simp only[go_sem,γ,δ,ε,ζ,η,θ,ι,κ,μ,ν,ξ,ο,ρ,σ,τ,υ,reduceIte,reduceCtorEq,List.take_zero,bIM,LK,mE,List.any_nil,List.countP_nil]<;>rfl)|rfl) PH.nil_le ?_
  intro k hk
  have hol:mE down (row.take k)≤row.length:=Nat.le_trans List.countP_le_length (by rw[bJF]; omega)
  simp only[go_sem,γ,δ,ε,ζ,η,θ,ι,κ,μ,ν,ξ,ο,ρ,σ,τ,υ,reduceIte,reduceCtorEq,aoE,aDL]
  by_cases hkl:k<row.length
  ·have hkl':(k:Int)<(row.length:Nat):=by omega
   have hra:(row.map fun n=>[PV.int .i64 n])[k]?=some [.int .i64 row[k]]:=by simp[hkl]
   have hs1:=a4V (down:=down) hkl
   have hs2:=aKN (down:=down) hkl
   by_cases c:row[k]<0
   ·have d1:xH down row[k]=false:=by unfold xH; rw[decide_eq_false Om]; rfl
    have d2:xJ down row[k]=false:=by unfold xJ; rw[decide_eq_false Om]; rfl
    rw[d1,Bool.or_false] at hs1
    rw[d2,if_neg (by simp),bKD] at hs2
    simp only[go_sem,γ,δ,ε,ζ,η,θ,ι,κ,μ,ν,ξ,ο,ρ,σ,τ,υ,reduceIte,reduceCtorEq,hkl',WP,hra,WQ,c,xY,wZz k]
    exact aK (k+1) hkl Om (by (repeat' (first|exact PF.nil_le|refine PF.aI ?_ ?_))<;>first|(simp only[go_sem,γ,δ,ε,ζ,η,θ,ι,κ,μ,ν,ξ,ο,ρ,σ,τ,υ,reduceIte,reduceCtorEq,hs1,hs2]<;>rfl)|rfl) PH.le_refl
   ·simp only[go_sem,γ,δ,ε,ζ,η,θ,ι,κ,μ,ν,ξ,ο,ρ,σ,τ,υ,reduceIte,reduceCtorEq,hkl',WP,hra,WQ,c,aDM]
    refine aA (Lb.has down row[k] hd) Ev ?_
    cases hc:down.contains row[k] with
    | true =>
     have d1:xH down row[k]=true:=by unfold xH; rw[decide_eq_true Om,hc]; rfl
     have d2:xJ down row[k]=false:=by unfold xJ; rw[hc]; simp
     rw[d1,Bool.or_true] at hs1
     rw[d2,if_neg (by simp),bKD] at hs2
     simp only[go_sem,γ,δ,ε,ζ,η,θ,ι,κ,μ,ν,ξ,ο,ρ,σ,τ,υ,reduceIte,reduceCtorEq,aoG,xY,wZz k]
     exact aK (k+1) hkl Om (by (repeat' (first|exact PF.nil_le|refine PF.aI ?_ ?_))<;>first|(simp only[go_sem,γ,δ,ε,ζ,η,θ,ι,κ,μ,ν,ξ,ο,ρ,σ,τ,υ,reduceIte,reduceCtorEq,hs1,hs2]<;>rfl)|rfl) PH.le_refl
    | false =>
     have d1:xH down row[k]=false:=by unfold xH; rw[hc]; simp
     have d2:xJ down row[k]=true:=by unfold xJ; rw[decide_eq_true Om,hc]; rfl
     rw[d1,Bool.or_false] at hs1
     rw[d2,if_pos rfl] at hs2
     simp only[go_sem,γ,δ,ε,ζ,η,θ,ι,κ,μ,ν,ξ,ο,ρ,σ,τ,υ,reduceIte,reduceCtorEq,aoH,dE (Om:mE down (row.take k)<9223372036854775807),xY,wZz k]
     exact aK (k+1) hkl Om (by (repeat' (first|exact PF.nil_le|refine PF.aI ?_ ?_))<;>first|(simp only[go_sem,γ,δ,ε,ζ,η,θ,ι,κ,μ,ν,ξ,ο,ρ,σ,τ,υ,reduceIte,reduceCtorEq,hs1,hs2]<;>rfl)|rfl) PH.le_refl
  ·have hkl':¬ (k:Int)<(row.length:Nat):=by omega
   have:k=row.length:=by omega
   subst this
   rw[bJN] at hol
   simp only[go_sem,γ,δ,ε,ζ,η,θ,ι,κ,μ,ν,ξ,ο,ρ,σ,τ,υ,reduceIte,reduceCtorEq,hkl',bJN]
   refine bT .nil eG PH.nil_le ?_
   have hsh:NX f r down v row=(LK down row&&decide (((mE down row:Nat):Int)<(gT f v).k+r)):=rfl
   cases hh:LK down row with
   | false =>
    rw[hh,bIS] at hsh
    rw[hsh] at bHE
    simp only[go_sem,γ,δ,ε,ζ,η,θ,ι,κ,μ,ν,ξ,ο,ρ,σ,τ,υ,reduceIte,reduceCtorEq,NG,hh,NH,wZz v]
    exact aK (v+1) ⟨hlt,bHE⟩ Om Lq PH.nil_le
   | true =>
    rw[hh,bIY] at hsh
    simp only[go_sem,γ,δ,ε,ζ,η,θ,ι,κ,μ,ν,ξ,ο,ρ,σ,τ,υ,reduceIte,reduceCtorEq,NG,hh,IA (Om:v<f.bGK.length),hV.aDP (Om:v<f.bGK.length),sC hp,he,hw]
    by_cases c:((mE down row:Nat):Int)<(gT f v).k+r
    ·rw[decide_eq_true c] at hsh
     simp only[go_sem,γ,δ,ε,ζ,η,θ,ι,κ,μ,ν,ξ,ο,ρ,σ,τ,υ,reduceIte,reduceCtorEq,c,aoI]
     refine aM (.inr rfl) Ev ?_
     rw[aX]
     exact congrArg PV.bool (hno hsh).symm
    ·rw[decide_eq_false c] at hsh
     rw[hsh] at bHE
     simp only[go_sem,γ,δ,ε,ζ,η,θ,ι,κ,μ,ν,ξ,ο,ρ,σ,τ,υ,reduceIte,reduceCtorEq,c,NH,wZz v]
     exact aK (v+1) ⟨hlt,bHE⟩ Om Lq PH.nil_le
 ·have bGP:¬ (v:Int)<(now.length:Nat):=by omega
  have:v=now.length:=by omega
  subst this
  simp only[go_sem,γ,δ,ε,ζ,η,θ,ι,κ,μ,ν,ξ,ο,ρ,σ,τ,υ,reduceIte,reduceCtorEq,bGP,aoJ]
  refine aM (.inr rfl) Ev ?_
  rw[aX]
  exact congrArg PV.bool hok.symm
def asF:Rg:=[iA 1 (.box true (Tm 0)),iT 2 false]
def asG:Rg:=[iO 6 3 1,iK 7 52 6,iM 5 7,iE 8 5 0,iE 9 5 1,iA 3 (.alloc [(.bool false),.aB,.aB]),iS 3 3 8,iM 4 9]
def yO:Rg:=[iM 10 4,iC 11 .eql 10 0,iM 12 11,gF 13 0 3 12 true,gL 14 13 12 true,iG 15 (.un .not (Tm 14)) 12 true,iP 16 12 15,iM 17 16,gF 18 1 3 17 true,gL 19 18 17 true,gN 20 19 17 true,gC 21 .leq 20 1 17 true,iP 22 17 21,iM 23 22,gF 24 2 3 23 true,gL 25 24 23 true,gN 26 25 23 true,gC 27 .leq 26 1 23 true,iP 28 23 27,iM 2 28]
def BE:aC:=(sq asF (sq asG (sq yO .ret)))
def bbX:List Nat:=[1]
def PZ:aV:=⟨1,29,BE,[.tmp 2]⟩
def afZ:Rg:=[iT 4 false]
def agA:Rg:=[iM 6 0,iN 7 6,iM 8 1,iB 9 .neq 7 8]
def agB:Rg:=[iT 4 false]
def agC:Rg:=[iI 5 0]
def agD:Rg:=[iM 10 5,iM 11 1,iB 12 .lss 10 11]
def agE:Rg:=[iM 15 0,iM 16 5,iX 17 3 15 16,iO 18 3 17,iK 19 74 18,iA 20 (.un .not (Tm 19))]
def agF:Rg:=[iT 4 false]
def agG:Rg:=[iM 13 5,iC 14 .add 13 1,iM 5 14]
def afY:aC:=(.seq (sq agD (.cond (Tm 12) .skip (.exit 0))) (.seq (.block 1 (sq agE (.cond (Tm 20) (sq agF .ret) .skip))) (.region agG)))
def agH:Rg:=[iT 4 true]
def xD:aC:=(sq afZ (.seq (sq agA (.cond (Tm 9) (sq agB .ret) .skip)) (.seq (sq agC (.block 0 (.loop afY))) (sq agH .ret))))
def a3B:List Nat:=[]
def CS:aV:=⟨2,21,xD,[.tmp 4]⟩
def aUR:Rg:=[iA 1 (.box true (Tm 0)),iT 2 false]
def aUS:Rg:=[iF 12 1 1,iL 13 12,iN 14 13,iM 3 14]
def aUT:Rg:=[iM 15 3,iC 16 .lss 15 1,iM 17 16,gM 18 3 17 false,gC 19 .gtr 18 4 17 false,iQ 20 17 19,iM 21 20,gF 22 1 1 21 false,gL 23 22 21 false,gM 24 3 21 false,gK2 25 75 23 24 21 false,iG 26 (.un .not (Tm 25)) 21 false,iQ 27 21 26,iM 28 27,gF 29 3 1 28 false,gL 30 29 28 false,gM 31 3 28 false,gK2 32 75 30 31 28 false,iG 33 (.un .not (Tm 32)) 28 false,iQ 34 28 33,iM 35 34,gF 36 2 1 35 false,gL 37 36 35 false,gN 38 37 35 false,gM 39 3 35 false,gB 40 .neq 38 39 35 false,iQ 41 35 40]
def vH:Rg:=[iT 2 false]
def aUU:Rg:=[iI 4 0]
def aUV:Rg:=[iM 42 4,iM 43 3,iB 44 .lss 42 43]
def aUW:Rg:=[iF 47 2 1,iL 48 47,iM 49 4,iX 50 1 48 49,iL 51 50,iM 52 3,iK2 53 75 51 52,iA 54 (.un .not (Tm 53)),iM 55 54,gF 56 2 1 55 false,gL 57 56 55 false,gM 58 4 55 false,iG 59 (.bHD 1 (Tm 57) (Tm 58)) 55 false,gL 60 59 55 false,gM 61 4 55 false,iG 62 (.bHD 3 (Tm 60) (Tm 61)) 55 false,gO 63 3 62 55 false,gK 64 54 63 55 false,gC 65 .neq 64 0 55 false,iQ 66 55 65]
def akA:Rg:=[iT 2 false]
def aUX:Rg:=[iM 45 4,iC 46 .add 45 1,iM 4 46]
def aUQ:aC:=(.seq (sq aUV (.cond (Tm 44) .skip (.exit 0))) (.seq (.block 1 (sq aUW (.cond (Tm 66) (sq akA .ret) .skip))) (.region aUX)))
def aIU:Rg:=[iF 68 1 1,iL 69 68,iK 70 55 69,iM 67 70,iE 71 67 0,iE 72 67 1,iA 5 (.alloc [(.bool false),.aB,.aB]),iS 3 5 71,iM 6 72]
def XJ:Rd:=[(iM 73 6,false),(iC 74 .neq 73 0,false),(iM 75 74,false),(gO 76 3 5 75 false,true),(iG 77 (.call 47 [(Ci 1)]) 75 false,true),(gK2 78 53 76 77 75 false,true),(iG 79 (.un .not (Tm 78)) 75 false,false),(iQ 80 75 79,false)]
def XK:Rg:=[iT 2 false]
def aIV:Rg:=[iM 81 3,iA 82 (.bGS 1 1 [(.bool false)] (Tm 81) (Tm 81)),iM 7 82]
def aIW:Rg:=[iI 8 0]
def aIX:Rg:=[iM 83 8,iM 84 3,iB 85 .lss 83 84]
def aIY:Rg:=[iI 9 0]
def aIZ:Rg:=[iM 88 9,iM 89 3,iB 90 .lss 88 89]
def XL:Rg:=[iM 93 7,iM 94 9,iM 95 7,iM 96 9,iX 97 1 95 96,iL 98 97,iM 99 98,gF 100 3 1 99 false,gL 101 100 99 false,gM 102 9 99 false,iG 103 (.bHD 3 (Tm 101) (Tm 102)) 99 false,gO 104 3 103 99 false,gK 105 54 104 99 false,gC 106 .gtr 105 0 99 false,iQ 107 99 106,iX 108 1 93 94,iS 1 108 107]
def XM:Rg:=[iI 10 0]
def aJA:Rg:=[iM 109 10,iM 110 3,iB 111 .lss 109 110]
def XN:Rg:=[iM 114 7,iM 115 9,iM 116 7,iM 117 9,iX 118 1 116 117,iL 119 118,iM 120 119,gF 121 2 1 120 false,gL 122 121 120 false,gM 123 9 120 false,iG 124 (.bHD 1 (Tm 122) (Tm 123)) 120 false,gL 125 124 120 false,gM 126 10 120 false,iG 127 (.bHD 3 (Tm 125) (Tm 126)) 120 false,gO 128 3 127 120 false,gK 129 54 128 120 false,gC 130 .gtr 129 0 120 false,gM 131 130 120 false,gM 132 7 131 true,gM 133 10 131 true,iG 134 (.bHD 1 (Tm 132) (Tm 133)) 131 true,gL 135 134 131 true,iG 136 (.pick (Tm 131) (Tm 135) (.const (.bool false))) 120 false,iQ 137 120 136,iX 138 1 114 115,iS 1 138 137]
def II:Rg:=[iM 112 10,iC 113 .add 112 1,iM 10 113]
def IH:aC:=(.seq (sq aJA (.cond (Tm 111) .skip (.exit 6))) (.seq (.block 7 (.region XN)) (.region II)))
def XO:Rg:=[iM 91 9,iC 92 .add 91 1,iM 9 92]
def XG:aC:=(.seq (sq aIZ (.cond (Tm 90) .skip (.exit 4))) (.seq (.block 5 (sq XL (sq XM (.block 6 (.loop IH))))) (.region XO)))
def aJB:Rg:=[iM 86 8,iC 87 .add 86 1,iM 8 87]
def XH:aC:=(.seq (sq aIX (.cond (Tm 85) .skip (.exit 2))) (.seq (.block 3 (sq aIY (.block 4 (.loop XG)))) (.region aJB)))
def aJC:Rg:=[iI 11 0]
def aJD:Rg:=[iM 139 11,iM 140 3,iB 141 .lss 139 140]
def XP:Rg:=[iM 144 7,iM 145 11,iX 146 1 144 145,iL 147 146,iA 148 (.un .not (Tm 147))]
def aJE:Rg:=[iT 2 false]
def aJF:Rg:=[iM 142 11,iC 143 .add 142 1,iM 11 143]
def XI:aC:=(.seq (sq aJD (.cond (Tm 141) .skip (.exit 8))) (.seq (.block 9 (sq XP (.cond (Tm 148) (sq aJE .ret) .skip))) (.region aJF)))
def XQ:Rg:=[iT 2 true]
def PW:aC:=(sq aUR (sq aUS (.seq (sq aUT (.cond (Tm 41) (sq vH .ret) .skip)) (.seq (sq aUU (.block 0 (.loop aUQ))) (.seq (sq aIU (dq XJ (.cond (Tm 80) (sq XK .ret) .skip))) (sq aIV (.seq (sq aIW (.block 2 (.loop XH))) (.seq (sq aJC (.block 8 (.loop XI))) (sq XQ .ret)))))))))
def bpB:List Nat:=[1]
def aIT:aV:=⟨1,149,PW,[.tmp 2]⟩
def aUZ:Rg:=[iT 4 false]
def aVA:Rg:=[iM 6 0,iM 7 1,iA 8 (.bHJ true (Tm 7) (Ci 1)),iK2 9 75 6 8,iA 10 (.un .not (Tm 9))]
def aVB:Rg:=[iT 4 false]
def aVC:Rg:=[iI 5 0]
def aVD:Rg:=[iM 11 5,iM 12 0,iN 13 12,iB 14 .lss 11 13]
def aVE:Rg:=[iM 17 0,iM 18 5,iX 19 3 17 18,iO 20 3 19,iK 21 54 20,iC 22 .eql 21 0]
def aVF:Rg:=[iT 4 false]
def aVG:Rg:=[iM 15 5,iC 16 .add 15 1,iM 5 16]
def aUY:aC:=(.seq (sq aVD (.cond (Tm 14) .skip (.exit 0))) (.seq (.block 1 (sq aVE (.cond (Tm 22) (sq aVF .ret) .skip))) (.region aVG)))
def aVH:Rg:=[iT 4 true]
def PX:aC:=(sq aUZ (.seq (sq aVA (.cond (Tm 10) (sq aVB .ret) .skip)) (.seq (sq aVC (.block 0 (.loop aUY))) (sq aVH .ret))))
def bpD:List Nat:=[]
def aJG:aV:=⟨2,23,PX,[.tmp 4]⟩
def JC:Rg:=[iT 6 false]
def JD:Rg:=[iM 7 0,iM 8 1,iB 9 .geq 7 8,iM 10 9,gM 11 0 10 true,gM 12 2 10 true,gB 13 .leq 11 12 10 true,iP 14 10 13,iM 6 14]
def rC:aC:=(sq JC (sq JD .ret))
def a3D:List Nat:=[]
def vI:aV:=⟨3,15,rC,[.tmp 6]⟩
def asD:Rg:=[iT 12 false]
def asE:Rg:=[iM 13 0,iC 14 .leq 13 4,iM 15 14,gM 16 1 15 true,gC 17 .leq 16 4 15 true,iP 18 15 17,iM 19 18,gM 20 2 19 true,gC 21 .leq 20 40 19 true,iP 22 19 21,iM 23 22,gM 24 3 23 true,gC 25 .leq 24 24 23 true,iP 26 23 25,iM 27 26,gM 28 4 27 true,gC 29 .leq 28 4 27 true,iP 30 27 29,iM 31 30,gM 32 5 31 true,gC 33 .leq 32 12 31 true,iP 34 31 33,iM 12 34]
def BD:aC:=(sq asD (sq asE .ret))
def bbV:List Nat:=[]
def PY:aV:=⟨6,35,BD,[.tmp 12]⟩
def UA:Rg:=[iA 7 (.box true (Tm 3)),iT 8 false]
def UB:Rg:=[iM 10 0,iM 11 1,iK2 12 61 10 11,iA 13 (.un .not (Tm 12)),iM 14 13,gM 15 2 14 false,gM 16 0 14 false,gM 17 0 14 false,gM 18 1 14 false,gB 19 .add 17 18 14 false,iG 20 (.call 76 [(Tm 15),(Tm 16),(Tm 19)]) 14 false,iG 21 (.un .not (Tm 20)) 14 false,iQ 22 14 21,iM 23 22,iG 24 (.idxA 5 1 (Tm 7) (Ci 0)) 23 false,gL 25 24 23 false,gC 26 .neq 25 0 23 false,iQ 27 23 26]
def sJ:Rg:=[iT 8 false]
def UC:Rg:=[iI 9 1]
def UD:Rg:=[iM 28 9,iC 29 .lss 28 5]
def BC:Rg:=[iM 32 9,iA 33 (.idxA 5 1 (Tm 7) (Tm 32)),iL 34 33,iA 35 (.call 76 [(Tm 34),(Ci 0),(Ci 8)]),iA 36 (.un .not (Tm 35))]
def UE:Rg:=[iT 8 false]
def UF:Rg:=[iM 30 9,iC 31 .add 30 1,iM 9 31]
def TZ:aC:=(.seq (sq UD (.cond (Tm 29) .skip (.exit 0))) (.seq (.block 1 (sq BC (.cond (Tm 36) (sq UE .ret) .skip))) (.region UF)))
def UG:Rg:=[iT 8 true]
def tN:aC:=(sq UA (.seq (sq UB (.cond (Tm 27) (sq sJ .ret) .skip)) (.seq (sq UC (.block 0 (.loop TZ))) (sq UG .ret))))
def aLG:List Nat:=[7]
def xC:aV:=⟨4,37,tN,[.tmp 8]⟩
def aUO:Rg:=[iA 6 (.box true (Tm 2)),iA 7 (.box true (Tm 3)),iT 8 false]
def aUP:Rd:=[(iM 9 1,false),(iM 10 0,false),(iK2 11 66 9 10,true),(iM 12 11,false),(gO 13 3 6 12 true,false),(gK 14 74 13 12 true,true),(iP 15 12 14,false),(iM 16 15,false),(iG 17 (.call 47 [(Ci 1)]) 16 true,true),(gO 18 3 6 16 true,true),(gK2 19 49 17 18 16 true,true),(iG 20 (.un .not (Tm 19)) 16 true,false),(iP 21 16 20,false),(iM 22 21,false),(gO 23 3 7 22 true,false),(gK 24 74 23 22 true,true),(iP 25 22 24,false),(iM 8 25,false)]
def PR:aC:=(sq aUO (dq aUP .ret))
def boZ:List Nat:=[6,7]
def aIR:aV:=⟨4,26,PR,[.tmp 8]⟩
def arX:Rg:=[iI 4 0]
def arY:Rg:=[iI 5 0]
def arZ:Rg:=[iM 6 5,iM 7 0,iN 8 7,iB 9 .lss 6 8]
def PU:Rg:=[iM 12 0,iM 13 5,iX 14 1 12 13,iL 15 14,iM 16 1,iB 17 .eql 15 16]
def asA:Rg:=[iM 18 5,iM 4 18]
def asB:Rg:=[iM 10 5,iC 11 .add 10 1,iM 5 11]
def arW:aC:=(.seq (sq arZ (.cond (Tm 9) .skip (.exit 0))) (.seq (.block 1 (sq PU (.cond (Tm 17) (sq asA .ret) .skip))) (.region asB)))
def asC:Rg:=[iI 4 (-1)]
def BB:aC:=(sq arX (.seq (sq arY (.block 0 (.loop arW))) (sq asC .ret)))
def bbS:List Nat:=[]
def PT:aV:=⟨2,19,BB,[.tmp 4]⟩
def asH:Rg:=[iA 1 (.box true (Tm 0)),iT 2 false]
def asI:Rg:=[iF 22 0 1,iL 23 22,iA 24 (.call 76 [(Tm 23),(Ci 1),(Ci 4)]),iA 25 (.un .not (Tm 24)),iM 26 25,gF 27 1 1 26 false,gL 28 27 26 false,gN 29 28 26 false,gF 30 2 1 26 false,gL 31 30 26 false,gN 32 31 26 false,gF 33 3 1 26 false,gL 34 33 26 false,gN 35 34 26 false,gF 36 4 1 26 false,gL 37 36 26 false,gN 38 37 26 false,gF 39 5 1 26 false,gL 40 39 26 false,gN 41 40 26 false,gF 42 6 1 26 false,gL 43 42 26 false,gN 44 43 26 false,iG 45 (.call 73 [(Tm 29),(Tm 32),(Tm 35),(Tm 38),(Tm 41),(Tm 44)]) 26 false,iG 46 (.un .not (Tm 45)) 26 false,iQ 47 26 46,iM 48 47,gF 49 3 1 48 false,gL 50 49 48 false,gN 51 50 48 false,gC 52 .eql 51 0 48 false,iQ 53 48 52]
def yP:Rg:=[iT 2 false]
def asJ:Rg:=[iZ 3,iZ 4,iZ 5,iZ 6,iZ 7]
def asK:Rg:=[iT 8 true]
def asL:Rg:=[iI 9 0]
def asM:Rg:=[iM 54 9,iF 55 1 1,iL 56 55,iN 57 56,iB 58 .lss 54 57,iM 59 58,gM 60 8 59 true,iP 61 59 60]
def asN:Rg:=[iM 65 3,iF 66 1 1,iL 67 66,iM 68 9,iX 69 4 67 68,iF 70 0 69,iL 71 70,iK2 72 70 65 71,iM 64 72,iE 73 64 0,iE 74 64 1,iM 3 73,iM 8 74]
def QB:Rg:=[iM 75 8,iM 76 75,gF 77 1 1 76 true,gL 78 77 76 true,gM 79 9 76 true,iG 80 (.bHD 4 (Tm 78) (Tm 79)) 76 true,gO 81 4 80 76 true,gK 82 68 81 76 true,iP 83 76 82,iM 8 83]
def QC:Rg:=[iM 62 9,iC 63 .add 62 1,iM 9 63]
def IJ:aC:=(.seq (sq asM (.cond (Tm 61) .skip (.exit 0))) (.seq (.block 1 (sq asN (.region QB))) (.region QC)))
def agI:Rg:=[iI 10 0]
def agJ:Rg:=[iM 84 10,iF 85 2 1,iL 86 85,iN 87 86,iB 88 .lss 84 87,iM 89 88,gM 90 8 89 true,iP 91 89 90]
def agK:Rg:=[iF 94 2 1,iL 95 94,iM 96 10,iX 97 4 95 96,iO 98 4 97,iA 11 (.alloc [(.str []),(.int .i64 0),(.int .i64 0),(.int .i64 0)]),iS 4 11 98]
def agL:Rg:=[iM 100 4,iF 101 0 11,iL 102 101,iK2 103 70 100 102,iM 99 103,iE 104 99 0,iE 105 99 1,iM 4 104,iM 8 105]
def IM:Rg:=[iM 106 8,iM 107 106,gF 108 1 11 107 true,gL 109 108 107 true,iG 110 (.call 76 [(Tm 109),(Ci 1),(Ci 16)]) 107 true,iP 111 107 110,iM 112 111,gF 113 2 11 112 true,gL 114 113 112 true,iG 115 (.call 76 [(Tm 114),(Ci 1),(Ci 64)]) 112 true,iP 116 112 115,iM 117 116,gF 118 3 11 117 true,gL 119 118 117 true,gF 120 1 1 117 true,gL 121 120 117 true,gN 122 121 117 true,gC 123 .sub 122 1 117 true,iG 124 (.call 76 [(Tm 119),(Ci 0),(Tm 123)]) 117 true,iP 125 117 124,iM 8 125]
def qZ:Rg:=[iM 92 10,iC 93 .add 92 1,iM 10 93]
def IK:aC:=(.seq (sq agJ (.cond (Tm 91) .skip (.exit 2))) (.seq (.block 3 (sq agK (sq agL (.region IM)))) (.region qZ)))
def agM:Rg:=[iF 126 3 1,iL 127 126,iA 128 (.bHD 7 (Tm 127) (Ci 0)),iO 129 7 128,iA 12 (.alloc [(.str []),(.int .i64 0),(.int .i64 0),(.int .i64 0),(.bool false),.aB,.aB]),iS 7 12 129]
def IN:Rg:=[iM 130 8,iM 131 130,gF 132 0 12 131 true,gL 133 132 131 true,iG 134 (.bin .eql (Tm 133) (.const (.str []))) 131 true,iP 135 131 134,iM 136 135,gF 137 1 12 136 true,gL 138 137 136 true,gC 139 .eql 138 0 136 true,iP 140 136 139,iM 141 140,gF 142 2 12 141 true,gL 143 142 141 true,gC 144 .eql 143 (-1) 141 true,iP 145 141 144,iM 146 145,gF 147 3 12 146 true,gL 148 147 146 true,gC 149 .eql 148 0 146 true,iP 150 146 149,iM 151 150,gF 152 4 12 151 true,gO 153 3 152 151 true,gK 154 56 153 151 true,iP 155 151 154,iM 156 155,gF 157 4 12 156 true,gO 158 3 157 156 true,gK 159 54 158 156 true,gC 160 .eql 159 0 156 true,iP 161 156 160,iM 8 161]
def IP:Rg:=[iI 13 1]
def agN:Rg:=[iM 162 13,iF 163 3 1,iL 164 163,iN 165 164,iB 166 .lss 162 165,iM 167 166,gM 168 8 167 true,iP 169 167 168]
def agO:Rg:=[iF 172 3 1,iL 173 172,iM 174 13,iX 175 7 173 174,iO 176 7 175,iA 14 (.alloc [(.str []),(.int .i64 0),(.int .i64 0),(.int .i64 0),(.bool false),.aB,.aB]),iS 7 14 176]
def agP:Rg:=[iM 178 5,iF 179 0 14,iL 180 179,iK2 181 70 178 180,iM 177 181,iE 182 177 0,iE 183 177 1,iM 5 182,iM 8 183]
def IQ:Rd:=[(iM 184 8,false),(iM 185 184,false),(gF 186 1 14 185 true,false),(gL 187 186 185 true,false),(iG 188 (.call 76 [(Tm 187),(Ci 1),(Ci 4)]) 185 true,true),(iP 189 185 188,false),(iM 190 189,false),(gF 191 2 14 190 true,false),(gL 192 191 190 true,false),(gM 193 13 190 true,false),(gC 194 .sub 193 1 190 true,false),(iG 195 (.call 76 [(Tm 192),(Ci 0),(Tm 194)]) 190 true,true),(iP 196 190 195,false),(iM 197 196,false),(gF 198 3 1 197 true,false),(gL 199 198 197 true,false),(gF 200 2 14 197 true,false),(gL 201 200 197 true,false),(iG 202 (.bHD 7 (Tm 199) (Tm 201)) 197 true,false),(gF 203 1 202 197 true,false),(gL 204 203 197 true,false),(gF 205 1 14 197 true,false),(gL 206 205 197 true,false),(gC 207 .sub 206 1 197 true,false),(gB 208 .eql 204 207 197 true,false),(iP 209 197 208,false),(iM 210 209,false),(gF 211 3 14 210 true,false),(gL 212 211 210 true,false),(iG 213 (.call 76 [(Tm 212),(Ci 1),(Ci 64)]) 210 true,true),(iP 214 210 213,false),(iM 215 214,false),(gF 216 4 14 215 true,false),(gO 217 3 216 215 true,false),(gK 218 74 217 215 true,true),(iP 219 215 218,false),(iM 8 219,false)]
def lW:Rg:=[iM 170 13,iC 171 .add 170 1,iM 13 171]
def uL:aC:=(.seq (sq agN (.cond (Tm 169) .skip (.exit 4))) (.seq (.block 5 (sq agO (sq agP (.draw IQ)))) (.region lW)))
def IR:Rg:=[iI 15 0]
def agQ:Rg:=[iM 220 15,iF 221 4 1,iL 222 221,iN 223 222,iB 224 .lss 220 223,iM 225 224,gM 226 8 225 true,iP 227 225 226]
def agR:Rg:=[iF 230 4 1,iL 231 230,iM 232 15,iX 233 3 231 232,iO 234 3 233,iA 16 (.alloc [(.str []),(.int .i64 0),(.int .i64 0)]),iS 3 16 234]
def agS:Rg:=[iM 236 5,iF 237 0 16,iL 238 237,iK2 239 70 236 238,iM 235 239,iE 240 235 0,iE 241 235 1,iM 5 240,iM 8 241]
def IS:Rg:=[iM 242 8,iM 243 242,gF 244 1 16 243 true,gL 245 244 243 true,gF 246 2 1 243 true,gL 247 246 243 true,gN 248 247 243 true,gC 249 .sub 248 1 243 true,iG 250 (.call 76 [(Tm 245),(Ci 0),(Tm 249)]) 243 true,iP 251 243 250,iM 252 251,gF 253 2 16 252 true,gL 254 253 252 true,gF 255 3 1 252 true,gL 256 255 252 true,gN 257 256 252 true,gC 258 .sub 257 1 252 true,iG 259 (.call 76 [(Tm 254),(Ci 0),(Tm 258)]) 252 true,iP 260 252 259,iM 261 260,gF 262 3 1 261 true,gL 263 262 261 true,gF 264 2 16 261 true,gL 265 264 261 true,iG 266 (.bHD 7 (Tm 263) (Tm 265)) 261 true,gF 267 1 266 261 true,gL 268 267 261 true,gC 269 .eql 268 4 261 true,iP 270 261 269,iM 8 270]
def rA:Rg:=[iM 228 15,iC 229 .add 228 1,iM 15 229]
def uM:aC:=(.seq (sq agQ (.cond (Tm 227) .skip (.exit 6))) (.seq (.block 7 (sq agR (sq agS (.region IS)))) (.region rA)))
def IT:Rg:=[iI 17 0]
def agT:Rg:=[iM 271 17,iF 272 5 1,iL 273 272,iN 274 273,iB 275 .lss 271 274,iM 276 275,gM 277 8 276 true,iP 278 276 277]
def agU:Rg:=[iF 281 5 1,iL 282 281,iM 283 17,iX 284 17 282 283,iO 285 17 284,iA 18 (.alloc [(.str []),(.int .i64 0),(.int .i64 0),(.int .i64 0),(.int .i64 0),(.int .i64 0),(.int .i64 0),(.int .i64 0),(.int .i64 0),.aB,.aB,(.bool false),.aB,.aB,(.bool false),.aB,.aB]),iS 17 18 285]
def agV:Rg:=[iM 287 6,iF 288 0 18,iL 289 288,iK2 290 70 287 289,iM 286 290,iE 291 286 0,iE 292 286 1,iM 6 291,iM 8 292]
def IU:Rg:=[iM 293 8,iM 294 293,gF 295 1 18 294 true,gL 296 295 294 true,gF 297 2 18 294 true,gL 298 297 294 true,gF 299 3 18 294 true,gL 300 299 294 true,gF 301 4 18 294 true,gO 302 5 301 294 true,iG 303 (.call 72 [(Tm 296),(Tm 298),(Tm 300),(Tm 302)]) 294 true,iP 304 294 303,iM 305 304,gF 306 2 18 305 true,gL 307 306 305 true,gF 308 10 18 305 true,gL 309 308 305 true,gF 310 11 18 305 true,gO 311 3 310 305 true,gF 312 14 18 305 true,gO 313 3 312 305 true,iG 314 (.call 69 [(Tm 307),(Tm 309),(Tm 311),(Tm 313)]) 305 true,iP 315 305 314,iM 316 315,gF 317 9 18 316 true,gL 318 317 316 true,gN 319 318 316 true,gC 320 .gtr 319 0 316 true,iP 321 316 320,iM 8 321]
def rB:Rg:=[iI 19 0]
def agW:Rg:=[iM 322 19,iF 323 9 18,iL 324 323,iN 325 324,iB 326 .lss 322 325,iM 327 326,gM 328 8 327 true,iP 329 327 328]
def agX:Rd:=[(iF 332 9 18,false),(iL 333 332,false),(iM 334 19,false),(iX 335 1 333 334,false),(iL 336 335,false),(iF 337 2 1,false),(iL 338 337,false),(iN 339 338,false),(iC 340 .sub 339 1,false),(iA 341 (.call 76 [(Tm 336),(Ci 0),(Tm 340)]),true),(iM 8 341,false)]
def agY:Rg:=[iI 20 0]
def agZ:Rg:=[iM 342 20,iM 343 19,iB 344 .lss 342 343]
def IV:Rd:=[(iM 347 8,false),(iM 348 347,false),(gF 349 9 18 348 true,false),(gL 350 349 348 true,false),(gM 351 20 348 true,false),(iG 352 (.bHD 1 (Tm 350) (Tm 351)) 348 true,false),(gL 353 352 348 true,false),(gF 354 9 18 348 true,false),(gL 355 354 348 true,false),(gM 356 19 348 true,false),(iG 357 (.bHD 1 (Tm 355) (Tm 356)) 348 true,false),(gL 358 357 348 true,false),(gB 359 .neq 353 358 348 true,false),(iP 360 348 359,false),(iM 8 360,false)]
def IW:Rg:=[iM 345 20,iC 346 .add 345 1,iM 20 346]
def IL:aC:=(.seq (sq agZ (.cond (Tm 344) .skip (.exit 12))) (.seq (.block 13 (.draw IV)) (.region IW)))
def ahA:Rg:=[iM 330 19,iC 331 .add 330 1,iM 19 331]
def uN:aC:=(.seq (sq agW (.cond (Tm 329) .skip (.exit 10))) (.seq (.block 11 (dq agX (sq agY (.block 12 (.loop IL))))) (.region ahA)))
def IX:Rg:=[iM 279 17,iC 280 .add 279 1,iM 17 280]
def uO:aC:=(.seq (sq agT (.cond (Tm 278) .skip (.exit 8))) (.seq (.block 9 (sq agU (sq agV (sq IU (sq rB (.block 10 (.loop uN))))))) (.region IX)))
def IY:Rg:=[iI 21 0]
def ahB:Rg:=[iM 361 21,iF 362 6 1,iL 363 362,iN 364 363,iB 365 .lss 361 364,iM 366 365,gM 367 8 366 true,iP 368 366 367]
def ahC:Rg:=[iM 372 7,iF 373 6 1,iL 374 373,iM 375 21,iX 376 2 374 375,iF 377 0 376,iL 378 377,iK2 379 70 372 378,iM 371 379,iE 380 371 0,iE 381 371 1,iM 7 380,iM 8 381]
def IZ:Rd:=[(iM 382 8,false),(iM 383 382,false),(gF 384 6 1 383 true,false),(gL 385 384 383 true,false),(gM 386 21 383 true,false),(iG 387 (.bHD 2 (Tm 385) (Tm 386)) 383 true,false),(gF 388 1 387 383 true,false),(gL 389 388 383 true,false),(gF 390 5 1 383 true,false),(gL 391 390 383 true,false),(gN 392 391 383 true,false),(gC 393 .sub 392 1 383 true,false),(iG 394 (.call 76 [(Tm 389),(Ci 0),(Tm 393)]) 383 true,true),(iP 395 383 394,false),(iM 8 395,false)]
def JA:Rg:=[iM 369 21,iC 370 .add 369 1,iM 21 370]
def uP:aC:=(.seq (sq ahB (.cond (Tm 368) .skip (.exit 14))) (.seq (.block 15 (sq ahC (.draw IZ))) (.region JA)))
def JB:Rg:=[iM 396 8,iM 2 396]
def BF:aC:=(sq asH (.seq (sq asI (.cond (Tm 53) (sq yP .ret) .skip)) (sq asJ (sq asK (.seq (sq asL (.block 0 (.loop IJ))) (.seq (sq agI (.block 2 (.loop IK))) (sq agM (sq IN (.seq (sq IP (.block 4 (.loop uL))) (.seq (sq IR (.block 6 (.loop uM))) (.seq (sq IT (.block 8 (.loop uO))) (.seq (sq IY (.block 14 (.loop uP))) (sq JB .ret)))))))))))))
def bcB:List Nat:=[1]
def QA:aV:=⟨1,397,BF,[.tmp 2]⟩
def arU:Rg:=[iZ 4,iT 5 false]
def arV:Rg:=[iM 6 0,iM 7 1,iA 8 (.bGO true 1 1 [(.str [])] [(0,(Tm 7))]),iA 9 (.append 1 16 (Tm 6) (Tm 8)),iM 10 1,iK 11 62 10,iM 12 11,gM 13 0 12 true,gM 14 1 12 true,gK2 15 71 13 14 12 true,gC 16 .lss 15 0 12 true,iP 17 12 16,iM 4 9,iM 5 17]
def BA:aC:=(sq arU (sq arV .ret))
def bbQ:List Nat:=[8]
def PS:aV:=⟨2,18,BA,[.tmp 4,.tmp 5]⟩
structure a3G (C:Ctx):Prop where
 val:∀ f:aL,f.Ok→aD C 96 [.agg f.cells] .nil (aE (.int .i64 (wR f)))
 valid:∀ f:aL,f.Ok→aD C 67 [.agg f.cells] .nil (aE (.bool (dS f)))
 shaped:∀ (f:aL) (l:List (List Int)),f.Ok→jH l→aD C 153 [.agg f.cells,lay l] .nil (aE (.bool (jC f l)))
 rshaped:∀ (f:aL) (l:List (List Int)),f.Ok→jH l→aD C 86 [.agg f.cells,lay l] .nil (aE (.bool (jC f l)))
theorem aYQ {C:Ctx} (Lb:a3G C) (f:aL) (hf:f.Ok) (now:List (List Int)) (hl:jH now) (r:Int):wI.wp C (aU CC.res (aE (.bool (jP f now r)))) (PF.args [.agg f.cells,lay now,.int .i64 r]) .nil:=by
 have hU:jP f now r=((dS f&&jC f now)&&(decide (0≤r)&&decide (r≤4))):=rfl
 have hsh:=Lb.shaped f now hf hl
 have hvl:=Lb.val f hf
 unfold wR at hvl
 simp only[go_sem,γ,δ,ε,ζ,η,θ,ι,κ,μ,ν,ξ,ο,ρ,σ,τ,υ,reduceIte,reduceCtorEq,wI,acN,acO,CC]
 refine aA hvl Ev ?_
 cases hv:dS f with
 | false =>
  rw[hv] at hU
  simp only[go_sem,γ,δ,ε,ζ,η,θ,ι,κ,μ,ν,ξ,ο,ρ,σ,τ,υ,reduceIte,reduceCtorEq]
  refine aM (.inr rfl) Ev ?_
  rw[aX,hU]; rfl
 | true =>
  rw[hv] at hU
  simp only[go_sem,γ,δ,ε,ζ,η,θ,ι,κ,μ,ν,ξ,ο,ρ,σ,τ,υ,reduceIte,reduceCtorEq]
  refine aA hsh Ev ?_
  cases hs:jC f now with
  | false =>
   rw[hs] at hU
   simp only[go_sem,γ,δ,ε,ζ,η,θ,ι,κ,μ,ν,ξ,ο,ρ,σ,τ,υ,reduceIte,reduceCtorEq]
   refine aM (.inr rfl) Ev ?_
   rw[aX,hU]; rfl
  | true =>
   rw[hs,bIY,bIY] at hU
   by_cases c:0≤r
   ·rw[decide_eq_true c,bIY] at hU
    simp only[go_sem,γ,δ,ε,ζ,η,θ,ι,κ,μ,ν,ξ,ο,ρ,σ,τ,υ,reduceIte,reduceCtorEq,show r≥0 by omega]
    refine aM (.inr rfl) Ev ?_
    rw[aX,hU]
   ·rw[decide_eq_false c,bIS] at hU
    simp only[go_sem,γ,δ,ε,ζ,η,θ,ι,κ,μ,ν,ξ,ο,ρ,σ,τ,υ,reduceIte,reduceCtorEq,show ¬ r≥0 by omega]
    refine aM (.inr rfl) Ev ?_
    rw[aX,hU]
theorem OW {f:aL} {now:List (List Int)} {r:Int} (h:jP f now r=true):dS f=true∧now.length=f.bGK.length∧0≤r∧r≤4:=by
 unfold jP at h
 simp only[bJI,decide_eq_true_eq] at h
 exact⟨h.1.1,aZM h.1.2,h.2.1,h.2.2⟩

def aqX:Rg:=[iA 3 (.box true (Tm 0)),iI 6 0]
def aqY:Rg:=[iO 8 7 3,iM 9 1,iM 10 2,iA 11 (.call 250 [(Tm 8),(Tm 9),(Tm 10)]),iA 12 (.un .not (Tm 11))]
def aqZ:Rg:=[iI 6 1]
def arA:Rg:=[iF 13 4 3,iL 14 13,iN 15 14,iI 16 0]
def arB:Rg:=[iB 17 .lss 16 15]
def arC:Rg:=[iM 18 16,iM 7 18]
def arD:Rg:=[iO 19 7 3,iM 20 1,iM 21 2,iM 22 7,iA 23 (.bGO true 1 1 [(.int .i64 0)] [(0,(Tm 22))]),iA 24 (.call 251 [(Tm 19),(Tm 20),(Tm 21),(Tm 23)]),iA 25 (.un .not (Tm 24))]
def arE:Rg:=[iI 6 116]
def arF:Rg:=[iC 26 .add 16 1,iM 16 26]
def aqW:aC:=(sq arB (.seq (.cond (Tm 17) .skip (.exit 0)) (.seq (.block 1 (sq arC (sq arD (.cond (Tm 25) (sq arE .ret) .skip)))) (.region arF))))
def aeZ:Rg:=[iI 6 0]
def AW:aC:=(sq aqX (.seq (sq aqY (.cond (Tm 12) (sq aqZ .ret) .skip)) (.seq (sq arA (.block 0 (.loop aqW))) (sq aeZ .ret))))
def baY:List Nat:=[3,23]
def PN:aV:=⟨3,27,AW,[.tmp 6]⟩
def arI:Rg:=[iA 3 (.box true (Tm 0)),iZ 6,iI 7 0]
def arJ:Rg:=[iO 13 7 3,iM 14 1,iM 15 2,iA 16 (.call 262 [(Tm 13),(Tm 14),(Tm 15)]),iM 8 16]
def PQ:Rg:=[iM 17 8,iC 18 .neq 17 0]
def arK:Rg:=[iM 19 8,iZ 6,iM 7 19]
def arL:Rg:=[iZ 9]
def arM:Rg:=[iF 20 4 3,iL 21 20,iN 22 21,iI 23 0]
def arN:Rg:=[iB 24 .lss 23 22]
def arO:Rg:=[iM 25 23,iM 10 25]
def arP:Rg:=[iM 26 9,iN 27 26,iI 28 0]
def arQ:Rg:=[iB 29 .lss 28 27]
def afR:Rg:=[iM 30 28,iX 31 1 26 28,iL 32 31,iM 11 30,iM 12 32]
def afS:Rd:=[(iO 33 7 3,true),(iM 34 1,true),(iM 35 2,true),(iM 36 12,false),(iK 37 277 36,true),(iM 38 10,true),(iA 39 (.bGO true 1 1 [(.int .i64 0)] [(0,(Tm 38))]),true),(iA 40 (.append 1 8 (Tm 37) (Tm 39)),true),(iA 41 (.call 251 [(Tm 33),(Tm 34),(Tm 35),(Tm 40)]),true)]
def afT:Rg:=[iM 42 9,iM 43 11,iM 44 12,iM 45 10,iA 46 (.bGO true 1 1 [(.int .i64 0)] [(0,(Tm 45))]),iA 47 (.append 1 8 (Tm 44) (Tm 46)),iX 48 1 42 43,iS 1 48 47]
def afU:Rg:=[iC 49 .add 28 1,iM 28 49]
def afP:aC:=(sq arQ (.seq (.cond (Tm 29) .skip (.exit 2)) (.seq (.block 3 (sq afR (dq afS (.cond (Tm 41) (sq afT (.exit 1)) .skip)))) (.region afU))))
def afV:Rg:=[iM 50 9,iM 51 10,iA 52 (.bGO false 1 1 [(.int .i64 0)] [(0,(Tm 51))]),iA 53 (.bGO true 1 1 [.aB] [(0,(Tm 52))]),iA 54 (.append 1 24 (Tm 50) (Tm 53)),iM 9 54]
def IE:Rg:=[iC 55 .add 23 1,iM 23 55]
def afQ:aC:=(sq arN (.seq (.cond (Tm 24) .skip (.exit 0)) (.seq (.block 1 (sq arO (.seq (sq arP (.block 2 (.loop afP))) (.region afV)))) (.region IE))))
def afW:Rg:=[iM 56 9,iM 6 56,iI 7 0]
def AZ:aC:=(sq arI (.seq (sq arJ (sq PQ (.cond (Tm 18) (sq arK .ret) .skip))) (sq arL (.seq .skip (.seq (sq arM (.block 0 (.loop afQ))) (sq afW .ret))))))
def bbO:List Nat:=[3,39,46,53]
def PP:aV:=⟨3,57,AZ,[.tmp 6,.tmp 7]⟩
def baM:Rg:=[iA 3 (.box true (Tm 0)),iI 6 0,iI 7 0]
def baN:Rg:=[iO 18 7 3,iM 19 1,iM 20 2,iA 21 (.call 262 [(Tm 18),(Tm 19),(Tm 20)]),iM 8 21]
def baO:Rg:=[iM 22 8,iC 23 .neq 22 0]
def baP:Rg:=[iM 24 8,iI 6 0,iM 7 24]
def baQ:Rg:=[iF 25 4 3,iL 26 25,iN 27 26,iA 28 (.bHJ false (Tm 27) (Ci 1)),iM 9 28]
def baR:Rg:=[iM 29 1,iN 30 29,iI 31 0]
def baS:Rg:=[iB 32 .lss 31 30]
def baT:Rg:=[iM 33 31,iX 34 1 29 31,iL 35 34,iM 10 33,iM 11 35]
def baU:Rg:=[iA 36 (.bIE (false,[.int .i64])),iM 12 36]
def baV:Rg:=[iI 13 0]
def a1V:Rg:=[iM 37 11,iN 38 37,iI 39 0]
def a1W:Rg:=[iB 40 .lss 39 38]
def a1X:Rg:=[iX 41 1 37 39,iL 42 41,iM 15 42]
def a1Y:Rg:=[iM 43 15,iC 44 .geq 43 0]
def a1Z:Rg:=[iM 45 12,iM 46 15,⟨none,.bHG (false,[.int .i64]) (Tm 45) (Tm 46) (.const (.bool true)),none⟩]
def a2A:Rg:=[iM 47 13,iC 48 .add 47 1,iM 13 48]
def a2B:Rg:=[iC 49 .add 39 1,iM 39 49]
def a1T:aC:=(sq a1W (.seq (.cond (Tm 40) .skip (.exit 2)) (.seq (.block 3 (sq a1X (sq a1Y (.cond (Tm 44) (sq a1Z (.region a2A)) .skip)))) (.region a2B))))
def a2C:Rg:=[iM 50 12,iA 51 (.lenM (Tm 50)),iM 16 51]
def a2D:Rg:=[iM 52 16,iC 53 .eql 52 0,iM 54 53,gM 55 16 54 false,gM 56 13 54 false,gB 57 .neq 55 56 54 false,iQ 58 54 57]
def a2E:Rd:=[(iM 59 16,false),(iF 60 5 3,false),(iL 61 60,false),(iF 62 6 3,false),(iL 63 62,false),(iM 64 10,false),(iX 65 2 63 64,false),(iF 66 1 65,false),(iL 67 66,false),(iX 68 17 61 67,false),(iF 69 1 68,false),(iL 70 69,false),(iB 71 .sub 59 70,false),(iM 72 2,false),(iB 73 .sub 71 72,false),(iM 17 73,false)]
def a2F:Rg:=[iM 74 9,iM 75 16,iM 76 17,iB 77 .add 75 76,iC 78 .sub 77 1,iM 79 17,iB 80 .quo 78 79,iA 81 (.bHJ true (Tm 74) (Tm 80)),iM 9 81]
def a2G:Rg:=[iC 82 .add 31 1,iM 31 82]
def a1U:aC:=(sq baS (.seq (.cond (Tm 32) .skip (.exit 0)) (.seq (.block 1 (sq baT (sq baU (sq baV (.seq (sq a1V (.block 2 (.loop a1T))) (sq a2C (.seq (sq a2D (.cond (Tm 58) (.exit 1) .skip)) (dq a2E (.region a2F))))))))) (.region a2G))))
def a2H:Rg:=[iM 83 9,iM 6 83,iI 7 0]
def aKZ:aC:=(sq baM (.seq (sq baN (sq baO (.cond (Tm 23) (sq baP .ret) .skip))) (sq baQ (.seq (sq baR (.block 0 (.loop a1U))) (sq a2H .ret)))))
def baW:List Nat:=[3]
def aIN:aV:=⟨3,84,aKZ,[.tmp 6,.tmp 7]⟩
def bbC:Rg:=[iA 4 (.box true (Tm 0)),iT 8 false]
def bbD:Rg:=[iO 13 7 4,iM 14 1,iM 15 2,iA 16 (.call 250 [(Tm 13),(Tm 14),(Tm 15)]),iA 17 (.un .not (Tm 16))]
def bbE:Rg:=[iT 8 false]
def bbF:Rg:=[iM 18 3,iK 19 178 18,iM 9 19]
def bbG:Rg:=[iM 20 9,iN 21 20,iF 22 4 4,iL 23 22,iN 24 23,iB 25 .neq 21 24]
def bbH:Rg:=[iT 8 false]
def bbI:Rg:=[iF 26 4 4,iL 27 26,iN 28 27,iI 29 0]
def bbJ:Rg:=[iB 30 .lss 29 28]
def bbK:Rg:=[iM 31 29,iM 10 31]
def bbL:Rg:=[iM 32 9,iM 33 10,iK2 34 260 32 33,iA 35 (.un .not (Tm 34))]
def a2Q:Rg:=[iT 8 false]
def a2R:Rg:=[iC 36 .add 29 1,iM 29 36]
def a2O:aC:=(sq bbJ (.seq (.cond (Tm 30) .skip (.exit 0)) (.seq (.block 1 (sq bbK (sq bbL (.cond (Tm 35) (sq a2Q .ret) .skip)))) (.region a2R))))
def a2S:Rg:=[iM 37 3,iN 38 37,iI 39 0]
def a2T:Rg:=[iB 40 .lss 39 38]
def a2U:Rg:=[iX 41 1 37 39,iL 42 41,iM 12 42]
def a2V:Rg:=[iM 43 12,iN 44 43,iC 45 .eql 44 0,iM 46 45,gO 47 7 4 46 false,gM 48 1 46 false,gM 49 2 46 false,gM 50 12 46 false,iG 51 (.call 251 [(Tm 47),(Tm 48),(Tm 49),(Tm 50)]) 46 false,iG 52 (.un .not (Tm 51)) 46 false,iQ 53 46 52]
def a2W:Rg:=[iT 8 false]
def a2X:Rg:=[iC 54 .add 39 1,iM 39 54]
def a2P:aC:=(sq a2T (.seq (.cond (Tm 40) .skip (.exit 2)) (.seq (.block 3 (sq a2U (sq a2V (.cond (Tm 53) (sq a2W .ret) .skip)))) (.region a2X))))
def a2Y:Rg:=[iT 8 true]
def aLD:aC:=(sq bbC (.seq (sq bbD (.cond (Tm 17) (sq bbE .ret) .skip)) (sq bbF (.seq (sq bbG (.cond (Tm 25) (sq bbH .ret) .skip)) (.seq (sq bbI (.block 0 (.loop a2O))) (.seq (sq a2S (.block 2 (.loop a2P))) (sq a2Y .ret)))))))
def bbM:List Nat:=[4]
def aIP:aV:=⟨4,55,aLD,[.tmp 8]⟩
def bhT:Rg:=[iA 3 (.box true (Tm 0)),iI 6 0]
def bhU:Rg:=[iO 8 7 3,iM 9 1,iM 10 2,iA 11 (.call 253 [(Tm 8),(Tm 9),(Tm 10)]),iA 12 (.un .not (Tm 11))]
def bhV:Rg:=[iI 6 1]
def bhW:Rg:=[iI 7 0]
def bhX:Rg:=[iM 13 7,iF 14 4 3,iL 15 14,iN 16 15,iB 17 .lss 13 16]
def bhY:Rg:=[iO 20 7 3,iM 21 1,iM 22 2,iM 23 7,iA 24 (.bGO true 1 1 [(.int .i64 0)] [(0,(Tm 23))]),iA 25 (.call 255 [(Tm 20),(Tm 21),(Tm 22),(Tm 24)]),iA 26 (.un .not (Tm 25))]
def bhZ:Rg:=[iI 6 116]
def biA:Rg:=[iM 18 7,iC 19 .add 18 1,iM 7 19]
def bhS:aC:=(.seq (sq bhX (.cond (Tm 17) .skip (.exit 0))) (.seq (.block 1 (sq bhY (.cond (Tm 26) (sq bhZ .ret) .skip))) (.region biA)))
def biB:Rg:=[iI 6 0]
def a0D:aC:=(sq bhT (.seq (sq bhU (.cond (Tm 12) (sq bhV .ret) .skip)) (.seq (sq bhW (.block 0 (.loop bhS))) (sq biB .ret))))
def biC:List Nat:=[3,24]
def a0C:aV:=⟨3,27,a0D,[.tmp 6]⟩
def baB:Rg:=[iA 3 (.box true (Tm 0)),iZ 6,iI 7 0]
def baC:Rg:=[iO 13 7 3,iM 14 1,iM 15 2,iA 16 (.call 266 [(Tm 13),(Tm 14),(Tm 15)]),iM 8 16]
def baD:Rg:=[iM 17 8,iC 18 .neq 17 0]
def baE:Rg:=[iM 19 8,iZ 6,iM 7 19]
def baF:Rg:=[iZ 9]
def baG:Rg:=[iI 10 0]
def baH:Rg:=[iM 20 10,iF 21 4 3,iL 22 21,iN 23 22,iB 24 .lss 20 23]
def baI:Rg:=[iI 11 (-1)]
def baJ:Rg:=[iI 12 0]
def baK:Rg:=[iM 27 12,iM 28 9,iN 29 28,iB 30 .lss 27 29,iM 31 30,gM 32 11 31 true,gC 33 .lss 32 0 31 true,iP 34 31 33]
def a1J:Rd:=[(iO 37 7 3,true),(iM 38 1,true),(iM 39 2,true),(iM 40 9,false),(iM 41 12,false),(iX 42 1 40 41,false),(iL 43 42,false),(iA 44 (.append 1 8 (.const .aB) (Tm 43)),true),(iM 45 10,true),(iA 46 (.bGO true 1 1 [(.int .i64 0)] [(0,(Tm 45))]),true),(iA 47 (.append 1 8 (Tm 44) (Tm 46)),true),(iA 48 (.call 255 [(Tm 37),(Tm 38),(Tm 39),(Tm 47)]),true)]
def a1K:Rg:=[iM 49 12,iM 11 49]
def a1L:Rg:=[iM 35 12,iC 36 .add 35 1,iM 12 36]
def a1H:aC:=(.seq (sq baK (.cond (Tm 34) .skip (.exit 2))) (.seq (.block 3 (dq a1J (.cond (Tm 48) (.region a1K) .skip))) (.region a1L)))
def a1M:Rg:=[iM 50 11,iC 51 .lss 50 0]
def a1N:Rg:=[iM 52 9,iA 53 (.bGO true 1 1 [.aB] [(0,(.const .aB))]),iA 54 (.append 1 24 (Tm 52) (Tm 53)),iM 9 54]
def a1O:Rg:=[iM 55 9,iN 56 55,iC 57 .sub 56 1,iM 11 57]
def a1P:Rg:=[iM 58 9,iM 59 11,iM 60 9,iM 61 11,iX 62 1 60 61,iL 63 62,iM 64 10,iA 65 (.bGO true 1 1 [(.int .i64 0)] [(0,(Tm 64))]),iA 66 (.append 1 8 (Tm 63) (Tm 65)),iX 67 1 58 59,iS 1 67 66]
def a1Q:Rg:=[iM 25 10,iC 26 .add 25 1,iM 10 26]
def a1I:aC:=(.seq (sq baH (.cond (Tm 24) .skip (.exit 0))) (.seq (.block 1 (sq baI (.seq (sq baJ (.block 2 (.loop a1H))) (.seq (sq a1M (.cond (Tm 51) (sq a1N (.region a1O)) .skip)) (.region a1P))))) (.region a1Q)))
def a1R:Rg:=[iM 68 9,iM 6 68,iI 7 0]
def aKY:aC:=(sq baB (.seq (sq baC (sq baD (.cond (Tm 18) (sq baE .ret) .skip))) (sq baF (.seq (sq baG (.block 0 (.loop a1I))) (sq a1R .ret)))))
def baL:List Nat:=[3,46,53,65]
def aIM:aV:=⟨3,69,aKY,[.tmp 6,.tmp 7]⟩
def a8X:Rg:=[iA 3 (.box true (Tm 0)),iI 6 0,iI 7 0]
def a8Y:Rg:=[iO 16 7 3,iM 17 1,iM 18 2,iA 19 (.call 266 [(Tm 16),(Tm 17),(Tm 18)]),iM 8 19]
def a8Z:Rg:=[iM 20 8,iC 21 .neq 20 0]
def a9A:Rg:=[iM 22 8,iI 6 0,iM 7 22]
def a9B:Rg:=[iF 23 4 3,iL 24 23,iN 25 24,iA 26 (.bHJ false (Tm 25) (Ci 1)),iM 9 26]
def a9C:Rg:=[iI 10 0]
def a9D:Rg:=[iM 27 10,iM 28 1,iN 29 28,iB 30 .lss 27 29]
def a9E:Rg:=[iZ 11]
def a9F:Rg:=[iT 12 false]
def a9G:Rg:=[iI 13 0]
def a0J:Rg:=[iM 33 13,iM 34 1,iM 35 10,iX 36 1 34 35,iL 37 36,iN 38 37,iB 39 .lss 33 38]
def a0K:Rg:=[iM 42 1,iM 43 10,iX 44 1 42 43,iL 45 44,iM 46 13,iX 47 1 45 46,iL 48 47,iC 49 .geq 48 0]
def a0L:Rg:=[iM 50 12,iM 51 50,gM 52 11 51 false,gM 53 1 51 false,gM 54 10 51 false,iG 55 (.bHD 1 (Tm 53) (Tm 54)) 51 false,gL 56 55 51 false,gM 57 13 51 false,iG 58 (.bHD 1 (Tm 56) (Tm 57)) 51 false,gL 59 58 51 false,gK2 60 254 52 59 51 false,iQ 61 51 60,iM 12 61]
def a0M:Rg:=[iM 62 11,iM 63 1,iM 64 10,iX 65 1 63 64,iL 66 65,iM 67 13,iX 68 1 66 67,iL 69 68,iA 70 (.bGO true 1 1 [(.int .i64 0)] [(0,(Tm 69))]),iA 71 (.append 1 8 (Tm 62) (Tm 70)),iM 11 71]
def a0N:Rg:=[iM 40 13,iC 41 .add 40 1,iM 13 41]
def a0H:aC:=(.seq (sq a0J (.cond (Tm 39) .skip (.exit 2))) (.seq (.block 3 (sq a0K (.cond (Tm 49) (sq a0L (.region a0M)) .skip))) (.region a0N)))
def a0O:Rg:=[iM 72 11,iN 73 72,iM 14 73]
def a0P:Rg:=[iM 74 12,iM 75 74,gM 76 14 75 false,gC 77 .eql 76 0 75 false,iQ 78 75 77]
def a0Q:Rg:=[iM 79 14,iO 80 7 3,iM 81 10,iK2 82 257 80 81,iB 83 .sub 79 82,iM 84 2,iB 85 .sub 83 84,iM 15 85]
def a0R:Rg:=[iM 86 9,iM 87 14,iM 88 15,iB 89 .add 87 88,iC 90 .sub 89 1,iM 91 15,iB 92 .quo 90 91,iA 93 (.bHJ true (Tm 86) (Tm 92)),iM 9 93]
def a0S:Rg:=[iM 31 10,iC 32 .add 31 1,iM 10 32]
def a0I:aC:=(.seq (sq a9D (.cond (Tm 30) .skip (.exit 0))) (.seq (.block 1 (sq a9E (sq a9F (.seq (sq a9G (.block 2 (.loop a0H))) (sq a0O (.seq (sq a0P (.cond (Tm 78) (.exit 1) .skip)) (sq a0Q (.region a0R)))))))) (.region a0S)))
def a0T:Rg:=[iM 94 9,iM 6 94,iI 7 0]
def aKW:aC:=(sq a8X (.seq (sq a8Y (sq a8Z (.cond (Tm 21) (sq a9A .ret) .skip))) (sq a9B (.seq (sq a9C (.block 0 (.loop a0I))) (sq a0T .ret)))))
def a9H:List Nat:=[3,70]
def aHK:aV:=⟨3,95,aKW,[.tmp 6,.tmp 7]⟩
def a9M:Rg:=[iA 4 (.box true (Tm 0)),iT 8 false]
def a9N:Rg:=[iO 13 7 4,iM 14 1,iM 15 2,iA 16 (.call 253 [(Tm 13),(Tm 14),(Tm 15)]),iA 17 (.un .not (Tm 16))]
def a9O:Rg:=[iT 8 false]
def a9P:Rg:=[iZ 9]
def a9Q:Rg:=[iI 10 0]
def a9R:Rg:=[iM 18 10,iM 19 3,iN 20 19,iB 21 .lss 18 20]
def a9S:Rg:=[iI 11 0]
def a9T:Rg:=[iM 24 11,iM 25 3,iM 26 10,iX 27 1 25 26,iL 28 27,iN 29 28,iB 30 .lss 24 29]
def a9U:Rg:=[iM 33 3,iM 34 10,iX 35 1 33 34,iL 36 35,iM 37 11,iX 38 1 36 37,iL 39 38,iM 12 39]
def a9V:Rg:=[iM 40 12,iC 41 .lss 40 0,iM 42 41,gM 43 12 42 false,gF 44 4 4 42 false,gL 45 44 42 false,gN 46 45 42 false,gB 47 .geq 43 46 42 false,iQ 48 42 47,iM 49 48,gM 50 9 49 false,gM 51 12 49 false,gK2 52 254 50 51 49 false,iQ 53 49 52]
def a1A:Rg:=[iT 8 false]
def a1B:Rg:=[iM 54 9,iM 55 12,iA 56 (.bGO true 1 1 [(.int .i64 0)] [(0,(Tm 55))]),iA 57 (.append 1 8 (Tm 54) (Tm 56)),iM 9 57]
def a1C:Rg:=[iM 31 11,iC 32 .add 31 1,iM 11 32]
def a0Y:aC:=(.seq (sq a9T (.cond (Tm 30) .skip (.exit 2))) (.seq (.block 3 (sq a9U (.seq (sq a9V (.cond (Tm 53) (sq a1A .ret) .skip)) (.region a1B)))) (.region a1C)))
def a1D:Rd:=[(iM 58 3,false),(iM 59 10,false),(iX 60 1 58 59,false),(iL 61 60,false),(iN 62 61,false),(iC 63 .eql 62 0,false),(iM 64 63,false),(gO 65 7 4 64 false,false),(gM 66 1 64 false,false),(gM 67 2 64 false,false),(gM 68 3 64 false,false),(gM 69 10 64 false,false),(iG 70 (.bHD 1 (Tm 68) (Tm 69)) 64 false,false),(gL 71 70 64 false,false),(iG 72 (.call 255 [(Tm 65),(Tm 66),(Tm 67),(Tm 71)]) 64 false,true),(iG 73 (.un .not (Tm 72)) 64 false,false),(iQ 74 64 73,false)]
def a1E:Rg:=[iT 8 false]
def a1F:Rg:=[iM 22 10,iC 23 .add 22 1,iM 10 23]
def a0Z:aC:=(.seq (sq a9R (.cond (Tm 21) .skip (.exit 0))) (.seq (.block 1 (.seq (sq a9S (.block 2 (.loop a0Y))) (dq a1D (.cond (Tm 74) (sq a1E .ret) .skip)))) (.region a1F)))
def a1G:Rg:=[iM 75 9,iN 76 75,iF 77 4 4,iL 78 77,iN 79 78,iB 80 .eql 76 79,iM 8 80]
def aKX:aC:=(sq a9M (.seq (sq a9N (.cond (Tm 17) (sq a9O .ret) .skip)) (sq a9P (.seq (sq a9Q (.block 0 (.loop a0Z))) (sq a1G .ret)))))
def a9W:List Nat:=[4,56]
def aIB:aV:=⟨4,81,aKX,[.tmp 8]⟩
def bgF:Rg:=[iT 4 false]
def bgG:Rg:=[iM 7 0,iN 8 7,iM 9 1,iN 10 9,iB 11 .neq 8 10]
def bgH:Rg:=[iT 4 false]
def bgI:Rg:=[iI 5 0]
def bgJ:Rg:=[iM 12 5,iM 13 0,iN 14 13,iB 15 .lss 12 14]
def bgK:Rd:=[(iM 18 0,false),(iM 19 5,false),(iX 20 1 18 19,false),(iL 21 20,false),(iN 22 21,false),(iM 23 1,false),(iM 24 5,false),(iX 25 1 23 24,false),(iL 26 25,false),(iN 27 26,false),(iB 28 .neq 22 27,false)]
def bgL:Rg:=[iT 4 false]
def bgM:Rg:=[iI 6 0]
def bgN:Rg:=[iM 29 6,iM 30 0,iM 31 5,iX 32 1 30 31,iL 33 32,iN 34 33,iB 35 .lss 29 34]
def bgO:Rd:=[(iM 38 0,false),(iM 39 5,false),(iX 40 1 38 39,false),(iL 41 40,false),(iM 42 6,false),(iX 43 1 41 42,false),(iL 44 43,false),(iM 45 1,false),(iM 46 5,false),(iX 47 1 45 46,false),(iL 48 47,false),(iM 49 6,false),(iX 50 1 48 49,false),(iL 51 50,false),(iB 52 .neq 44 51,false)]
def a7O:Rg:=[iT 4 false]
def a7P:Rg:=[iM 36 6,iC 37 .add 36 1,iM 6 37]
def a7M:aC:=(.seq (sq bgN (.cond (Tm 35) .skip (.exit 2))) (.seq (.block 3 (dq bgO (.cond (Tm 52) (sq a7O .ret) .skip))) (.region a7P)))
def a7Q:Rg:=[iM 16 5,iC 17 .add 16 1,iM 5 17]
def a7N:aC:=(.seq (sq bgJ (.cond (Tm 15) .skip (.exit 0))) (.seq (.block 1 (.seq (dq bgK (.cond (Tm 28) (sq bgL .ret) .skip)) (sq bgM (.block 2 (.loop a7M))))) (.region a7Q)))
def a7R:Rg:=[iT 4 true]
def aZJ:aC:=(sq bgF (.seq (sq bgG (.cond (Tm 11) (sq bgH .ret) .skip)) (.seq (sq bgI (.block 0 (.loop a7N))) (sq a7R .ret))))
def bgP:List Nat:=[]
def aZI:aV:=⟨2,53,aZJ,[.tmp 4]⟩
def aoB:Rg:=[iZ 2]
def aoC:Rg:=[iM 3 0,iA 4 (.isNil false (Tm 3))]
def a6O:Rg:=[iZ 2]
def aoD:Rg:=[iA 5 (.bGO false 1 0 [(.int .i64 0)] []),iM 6 0,iA 7 (.append 1 8 (Tm 5) (Tm 6)),iM 2 7]
def zW:aC:=(sq aoB (.seq (sq aoC (.cond (Tm 4) (sq a6O .ret) .skip)) (sq aoD .ret)))
def a6P:List Nat:=[]
def ND:aV:=⟨1,8,zW,[.tmp 2]⟩
def aJZ:Rg:=[iZ 4]
def aKA:Rg:=[iZ 5]
def aKB:Rg:=[iI 6 0]
def aKC:Rg:=[iM 7 6,iM 8 0,iN 9 8,iB 10 .lss 7 9]
def aKD:Rg:=[iM 13 0,iM 14 6,iX 15 1 13 14,iL 16 15,iM 17 1,iB 18 .neq 16 17]
def aKE:Rg:=[iM 19 5,iM 20 0,iM 21 6,iX 22 1 20 21,iL 23 22,iA 24 (.bGO true 1 1 [(.int .i64 0)] [(0,(Tm 23))]),iA 25 (.append 1 8 (Tm 19) (Tm 24)),iM 5 25]
def aKF:Rg:=[iM 11 6,iC 12 .add 11 1,iM 6 12]
def aJY:aC:=(.seq (sq aKC (.cond (Tm 10) .skip (.exit 0))) (.seq (.block 1 (sq aKD (.cond (Tm 18) (.region aKE) .skip))) (.region aKF)))
def aKG:Rg:=[iM 26 5,iM 4 26]
def asQ:aC:=(sq aJZ (sq aKA (.seq (sq aKB (.block 0 (.loop aJY))) (sq aKG .ret))))
def aKH:List Nat:=[24]
def VU:aV:=⟨2,27,asQ,[.tmp 4]⟩
def azQ:Rg:=[iT 6 false]
def azR:Rg:=[iM 24 0,iK 25 249 24,iM 23 25,iE 26 23 0,iE 27 23 1,iA 7 (.alloc [(.int .i64 0),.aB,.aB,.aB,.aB,.aB,.aB,.aB,.aB]),iS 9 7 26,iM 8 27]
def azS:Rd:=[(iF 29 0 7,true),(iO 30 7 29,true),(iF 31 7 7,true),(iL 32 31,true),(iM 33 1,false),(iA 34 (.call 24 [(Tm 33),(Ci 2)]),true),(iA 35 (.call 263 [(Tm 30),(Tm 32),(Tm 34)]),true),(iM 28 35,false),(iE 36 28 0,false),(iE 37 28 1,false),(iM 9 36,false),(iM 10 37,false)]
def VS:Rg:=[iM 38 10,iC 39 .neq 38 0,iM 40 39,gM 41 9 40 false,gN 42 41 40 false,gC 43 .eql 42 0 40 false,iQ 44 40 43]
def azT:Rg:=[iA 45 (.call 26 []),iM 46 45,gM 47 10 46 true,gC 48 .neq 47 0 46 true,iP 49 46 48,iM 6 49]
def azU:Rg:=[iM 50 2,iM 51 9,iN 52 51,iA 53 (.bin .mul (Ci 2) (Tm 52)),iK2 54 24 50 53,iM 2 54]
def azV:Rg:=[iM 55 9,iN 56 55,iK 57 144 56,iA 11 (.alloc [(.int .i64 0),(.int .i64 0)]),iS 2 11 57]
def azW:Rg:=[iI 12 0]
def azX:Rg:=[iI 13 0]
def azY:Rg:=[iM 58 13,iM 59 9,iN 60 59,iB 61 .lss 58 60]
def amJ:Rg:=[iF 64 0 11,iL 65 64,iC 66 .neq 65 1,iM 67 66,gF 68 1 11 67 false,gL 69 68 67 false,gM 70 13 67 false,gB 71 .neq 69 70 67 false,iQ 72 67 71,iM 73 72,gM 74 9 73 false,gO 75 2 11 73 false,gK2 76 146 74 75 73 false,gN 77 76 73 false,gM 78 12 73 false,gB 79 .neq 77 78 73 false,iQ 80 73 79]
def a5D:Rg:=[iT 6 false]
def amK:Rg:=[iM 82 9,iN 83 82,iO 84 2 11,iA 85 (.call 145 [(Tm 83),(Tm 84),(Ci 1)]),iM 81 85,iE 86 81 0,iE 87 81 1,iA 14 (.alloc [(.int .i64 0),(.int .i64 0)]),iS 2 14 86,iM 15 87]
def amL:Rg:=[iM 88 15,iC 89 .neq 88 0,iM 90 89,gM 91 9 90 false,gO 92 2 14 90 false,gK2 93 146 91 92 90 false,gN 94 93 90 false,gM 95 12 90 false,gB 96 .neq 94 95 90 false,iQ 97 90 96]
def a5E:Rg:=[iT 6 false]
def amM:Rg:=[iM 99 9,iN 100 99,iO 101 2 14,iA 102 (.call 145 [(Tm 100),(Tm 101),(Ci 2)]),iM 98 102,iE 103 98 0,iE 104 98 1,iA 16 (.alloc [(.int .i64 0),(.int .i64 0)]),iS 2 16 103,iM 17 104]
def amN:Rd:=[(iM 105 17,false),(iC 106 .neq 105 0,false),(iM 107 106,false),(gM 108 9 107 false,false),(gO 109 2 16 107 false,false),(gK2 110 146 108 109 107 false,true),(gN 111 110 107 false,false),(gM 112 12 107 false,true),(gM 113 9 107 false,true),(gM 114 13 107 false,true),(iG 115 (.bHD 1 (Tm 113) (Tm 114)) 107 false,true),(gL 116 115 107 false,true),(gN 117 116 107 false,true),(gB 118 .add 112 117 107 false,true),(gB 119 .neq 111 118 107 false,false),(iQ 120 107 119,false)]
def a5F:Rg:=[iT 6 false]
def amO:Rg:=[iI 18 3]
def LO:Rg:=[iM 121 13,iM 122 2,iB 123 .eql 121 122]
def amP:Rg:=[iI 18 4]
def LP:Rg:=[iM 125 9,iN 126 125,iO 127 2 16,iM 128 18,iA 129 (.call 145 [(Tm 126),(Tm 127),(Tm 128)]),iM 124 129,iE 130 124 0,iE 131 124 1,iA 19 (.alloc [(.int .i64 0),(.int .i64 0)]),iS 2 19 130,iM 20 131]
def LQ:Rg:=[iM 132 20,iC 133 .neq 132 0]
def a5G:Rg:=[iT 6 false]
def LS:Rg:=[iM 134 13,iM 135 2,iB 136 .eql 134 135]
def amQ:Rg:=[iM 138 9,iN 139 138,iO 140 2 19,iA 141 (.call 145 [(Tm 139),(Tm 140),(Ci 1)]),iM 137 141,iE 142 137 0,iE 143 137 1,iA 21 (.alloc [(.int .i64 0),(.int .i64 0)]),iS 2 21 142,iM 22 143]
def amR:Rg:=[iA 144 (.call 26 []),iM 145 144,gF 146 0 19 145 true,gL 147 146 145 true,gC 148 .eql 147 5 145 true,iP 149 145 148,iM 150 149,gM 151 22 150 true,gC 152 .eql 151 110 150 true,iP 153 150 152,iM 154 153,gM 155 9 154 true,gO 156 2 19 154 true,gK2 157 146 155 156 154 true,gN 158 157 154 true,gM 159 12 154 true,gB 160 .eql 158 159 154 true,iP 161 154 160,iM 6 161]
def amS:Rg:=[iM 162 12,iM 163 9,iM 164 13,iX 165 1 163 164,iL 166 165,iN 167 166,iB 168 .add 162 167,iM 12 168]
def amT:Rg:=[iO 169 2 19,iS 2 11 169]
def amU:Rg:=[iM 62 13,iC 63 .add 62 1,iM 13 63]
def amI:aC:=(.seq (sq azY (.cond (Tm 61) .skip (.exit 0))) (.seq (.block 1 (.seq (sq amJ (.cond (Tm 80) (sq a5D .ret) .skip)) (sq amK (.seq (sq amL (.cond (Tm 97) (sq a5E .ret) .skip)) (sq amM (.seq (dq amN (.cond (Tm 120) (sq a5F .ret) .skip)) (sq amO (.seq (sq LO (.cond (Tm 123) (.region amP) .skip)) (sq LP (.seq (sq LQ (.cond (Tm 133) (sq a5G .ret) .skip)) (.seq (sq LS (.cond (Tm 136) (sq amQ (sq amR .ret)) .skip)) (sq amS (.region amT))))))))))))) (.region amU)))
def amV:Rd:=[(iA 170 (.call 26 []),true),(iM 171 170,false),(gF 172 0 11 171 true,false),(gL 173 172 171 true,false),(gC 174 .eql 173 4 171 true,false),(iP 175 171 174,false),(iM 176 175,false),(gM 177 9 176 true,false),(gO 178 2 11 176 true,false),(gK2 179 146 177 178 176 true,true),(gN 180 179 176 true,false),(gF 181 0 7 176 true,true),(gF 182 4 181 176 true,true),(gL 183 182 176 true,true),(gN 184 183 176 true,true),(gB 185 .eql 180 184 176 true,false),(iP 186 176 185,false),(iM 6 186,false)]
def FN:aC:=(sq azQ (sq azR (dq azS (.seq (sq VS (.cond (Tm 44) (sq azT .ret) .skip)) (sq azU (sq azV (sq azW (.seq (sq azX (.block 0 (.loop amI))) (dq amV .ret)))))))))
def beM:List Nat:=[]
def abF:aV:=⟨3,187,FN,[.tmp 6]⟩
structure aVN (C:Ctx) (us ft:Nat):Prop where
 usable:∀ (f:aL) (now:List (List Int)) (r:Int),f.Ok→jH now→aD C us [.agg f.cells,lay now,.int .i64 r] .nil (aE (.bool (jP f now r)))
 fits:∀ (f:aL) (now:List (List Int)) (r:Int) (down:List Int),jP f now r=true→jH now→down.length≤1000000000000000→aD C ft [.agg f.cells,lay now,.int .i64 r,ints down] .nil (aE (.bool (iJ f now r down)))
theorem baX {C:Ctx} (Lb:aVN C 250 251) (f:aL) (hf:f.Ok) (now:List (List Int)) (hl:jH now) (r:Int) :
  AW.wp C (aU PN.res (aE (.int .i64 (oC f now r)))) (PF.args [.agg f.cells,lay now,.int .i64 r]) .nil:=by
 have hE:oC f now r=if jP f now r then (if sM f now r then 0 else 116) else 1:=rfl
 simp only[go_sem,γ,δ,ε,ζ,η,θ,ι,κ,μ,ν,ξ,ο,ρ,σ,τ,υ,reduceIte,reduceCtorEq,AW,aqX,aqY,PN]
 refine aA (Lb.usable f now r hf hl) Ev ?_
 cases hu:jP f now r with
 | false =>
  rw[hu] at hE
  simp only[go_sem,γ,δ,ε,ζ,η,θ,ι,κ,μ,ν,ξ,ο,ρ,σ,τ,υ,reduceIte,reduceCtorEq,aqZ]
  refine aM (.inr rfl) Ev ?_
  rw[aX,hE]; rfl
 | true =>
  rw[hu,if_pos rfl] at hE
  have hV:=VF.of (OW hu).1
  have hd:=hV.small.bGI
  simp only[go_sem,γ,δ,ε,ζ,η,θ,ι,κ,μ,ν,ξ,ο,ρ,σ,τ,υ,reduceIte,reduceCtorEq,arA,bIM]
  refine wp_loop (α:=Nat) (fun k=>(((((PF.nil.set 1 (lay now)).set 2 (.int .i64 r)).set 3 (.bJ f.cells)).set 15 (.int .i64 (f.bGI.length:Nat))).set 16 (.int .i64 k))) (fun _=>.nil) (fun k=>k≤f.bGI.length∧BK f now r k=true) (fun k=>f.bGI.length-k) 0 ⟨bIX _,rfl⟩ Lq PH.nil_le ?_
  rintro k ⟨hk,hok⟩
  simp only[go_sem,γ,δ,ε,ζ,η,θ,ι,κ,μ,ν,ξ,ο,ρ,σ,τ,υ,reduceIte,reduceCtorEq,aqW,arB]
  by_cases hlt:k<f.bGI.length
  ·have bGP:(k:Int)<(f.bGI.length:Nat):=by omega
   have hs:=aJM f now r k
   rw[hok,bIY] at hs
   simp only[go_sem,γ,δ,ε,ζ,η,θ,ι,κ,μ,ν,ξ,ο,ρ,σ,τ,υ,reduceIte,reduceCtorEq,bGP,arC,arD]
   refine aA (Lb.fits f now r [(k:Int)] hu hl (by simp)) Ev ?_
   cases bHX:iJ f now r [(k:Int)] with
   | false =>
    simp only[go_sem,γ,δ,ε,ζ,η,θ,ι,κ,μ,ν,ξ,ο,ρ,σ,τ,υ,reduceIte,reduceCtorEq,arE]
    refine aM (.inr rfl) Ev ?_
    rw[aX,hE]
    have:=a3I hlt bHX
    rw[show sM f now r=false from this]; rfl
   | true =>
    rw[bHX] at hs
    simp only[go_sem,γ,δ,ε,ζ,η,θ,ι,κ,μ,ν,ξ,ο,ρ,σ,τ,υ,reduceIte,reduceCtorEq,arF,wZz k]
    exact aK (k+1) ⟨hlt,hs⟩ Om Lq PH.nil_le
  ·have bGP:¬ (k:Int)<(f.bGI.length:Nat):=by omega
   have:k=f.bGI.length:=by omega
   subst this
   simp only[go_sem,γ,δ,ε,ζ,η,θ,ι,κ,μ,ν,ξ,ο,ρ,σ,τ,υ,reduceIte,reduceCtorEq,bGP,aeZ]
   refine aM (.inr rfl) Ev ?_
   rw[aX,hE,show sM f now r=true from hok]; rfl
end Go.PM
