/-
  Texts of ours, joined: FlCode Pm33 FlW1 FlPlain FlW2 FlW3 FlW4 FlW5 FlW6 FlW7 FlW8 FlW9 ToPlain ToCode ToW1 ToW2 Pm34 ToW3 ToW4 ToW5 ToW6 ToW7 ToW8 RfPlain RfP2 RfP3 RfP4 RoPlain RfP5 RwP1 RfCode R17Code R11Code ToW9 ToW10 . No condition.
-/
import Derived.Test.YthbkofcdddghgaaGreatRRight1
import Derived.Test.YthbkofcdddghgaaGreatRRight2
import Derived.Lib.SlicesCompact
set_option linter.unusedSimpArgs false
set_option linter.unusedVariables false
open Nat renaming reduceEqDiff → γ, reduceAdd → δ, reduceSub → ε, reduceMul → ζ, reduceLT → η, reduceLeDiff → θ, reduceBEq → τ
open Int renaming reduceLT → ι, reduceLE → κ, reduceEq → μ, reduceToNat → ν, reduceAdd → ξ, reduceNeg → ο, reduceBEq → ρ, reduceBNe → σ
open List renaming reduceReplicate → υ
open List renaming length_map → bKI, range → bKJ, replicate → bKL, getElem_mem → bKM, length_append → bKQ, getElem?_eq_getElem → bKU, length_singleton → bKX, mem_cons → bKY, take_of_length_le → bKZ, all_eq_true → bLA, length_take → bLB, getD_eq_getElem?_getD → bLC, take_length → bLG, append_assoc → bLI, drop_zero → bLK, mem_range → bLL, getElem?_map → bLN, mem_map → bLP, mem_singleton → bLR, getElem?_eq_some_iff → bLU, mem_append → bLV, getElem?_eq_none → bLW, length_cons → bLX, not_mem_nil → bLZ, take_succ_eq_append_getElem → bMA, append_nil → bMF, map_cons → bMG, drop_eq_getElem_cons → bMH, length_set → bMJ, Sublist → bMK, length_drop → bML, map_append → bMM, getElem_of_mem → bMP, getElem?_append_right → bMR, getElem_map → bMS, nodup_append → bMT, contains_iff_mem → bMV, length_nil → bMW, take_append_drop → bMX, nil_append → bMY, getElem?_append_left → bNB, mem_of_getElem? → bNC, getElem?_take → bNP, drop_of_length_le → bNU, getElem?_drop → bNV, length_replicate → bNW, set_append_right → bNX, eq_nil_of_length_eq_zero → bNY, getElem?_take_of_lt → bNZ
open Nat renaming le_refl → bKK, gcd → bKN, zero_le → bKT, mul_add → bKV, lt_or_ge → bLD, mul_assoc → bLE, mul_comm → bLH, zero_add → bLJ, add_mul → bLM, mul_le_mul_right → bLO, mod_eq_of_lt → bLS, mod_lt → bLY, add_zero → bMB, pow_succ → bMC, min_eq_left → bMN, mul_le_mul_left → bMO, pos_of_ne_zero → bMQ, add_assoc → bMU, pow_pos → bMZ, div_lt_iff_lt_mul → bND, le_trans → bNF, sub_self → bNG, succ_mul → bNH, eq_zero_or_pos → bNK, div_add_mod → bNQ, div_eq_of_lt → bNR
open Bool renaming false_and → bKO, not_true → bKR, true_and → bKS, not_false → bKW, and_eq_true → bLF, and_false → bLQ, and_true → bMI, and_assoc → bNJ, false_eq_true → bNL
open Option renaming map_eq_some_iff → bKP, map_some → bLT, some → bNA, getD_some → bNE, bind_eq_some_iff → bNM, bind_some → bNS
open Array renaming replicate → bMD, length_toList → bNI, getElem?_eq_getElem → bNN, getElem?_eq_some_iff → bNT
open Int renaming tdiv → bME, toNat_natCast → bNO
namespace Go.PM
open Go
def oA:Rg:=[iT 2 false]
def oC:Rg:=[iM 3 0,iA 4 (.bin .geq (Tm 3) (.const (.int .u8 97))),iM 5 4,gM 6 0 5 true,iG 7 (.bin .leq (Tm 6) (.const (.int .u8 122))) 5 true,iP 8 5 7,iM 9 8,gM 10 0 9 false,iG 11 (.bin .geq (Tm 10) (.const (.int .u8 65))) 9 false,gM 12 11 9 false,gM 13 0 12 true,iG 14 (.bin .leq (Tm 13) (.const (.int .u8 90))) 12 true,iG 15 (.pick (Tm 12) (Tm 14) (.const (.bool false))) 9 false,iQ 16 9 15,iM 2 16]
def kF:aC:=(sq oA (sq oC .ret))
def a2N:List Nat:=[]
def vY:aW:=⟨1,17,kF,[.tmp 2]⟩
def yM:Rg:=[iT 2 false]
def yN:Rg:=[iM 3 0,iA 4 (.bin .geq (Tm 3) (.const (.int .u8 48))),iM 5 4,gM 6 0 5 true,iG 7 (.bin .leq (Tm 6) (.const (.int .u8 57))) 5 true,iP 8 5 7,iM 2 8]
def oU:aC:=(sq yM (sq yN .ret))
def a8L:List Nat:=[]
def CZ:aW:=⟨1,9,oU,[.tmp 2]⟩
def apX:Rg:=[iT 2 false]
def apY:Rg:=[iM 3 0,iK 4 126 3,iM 5 4,gM 6 0 5 false,gK 7 124 6 5 false,iQ 8 5 7,iM 9 8,gM 10 0 9 false,iG 11 (.bin .eql (Tm 10) (.const (.int .u8 45))) 9 false,iQ 12 9 11,iM 13 12,gM 14 0 13 false,iG 15 (.bin .eql (Tm 14) (.const (.int .u8 46))) 13 false,iQ 16 13 15,iM 2 16]
def AB:aC:=(sq apX (sq apY .ret))
def a8P:List Nat:=[]
def DA:aW:=⟨1,17,AB,[.tmp 2]⟩
def GX:Rg:=[iT 2 false]
def GY:Rg:=[iM 4 0,iA 5 (.bin .eql (Tm 4) (.const (.str []))),iM 6 5,gM 7 0 6 false,iG 8 (.bJM (Tm 7)) 6 false,gC 9 .gtr 8 16 6 false,iQ 10 6 9,iM 11 10,gM 12 0 11 false,iG 13 (.bJN (Tm 12) (Ci 0)) 11 false,gK 14 126 13 11 false,iG 15 (.un .not (Tm 14)) 11 false,iQ 16 11 15]
def GZ:Rg:=[iT 2 false]
def aEP:Rg:=[iI 3 0]
def aEQ:Rg:=[iM 17 3,iM 18 0,iA 19 (.bJM (Tm 18)),iB 20 .lss 17 19]
def aER:Rg:=[iM 23 0,iM 24 3,iA 25 (.bJN (Tm 23) (Tm 24)),iK 26 125 25,iA 27 (.un .not (Tm 26))]
def aES:Rg:=[iT 2 false]
def aET:Rg:=[iM 21 3,iC 22 .add 21 1,iM 3 22]
def aEO:aC:=(.seq (sq aEQ (.cond (Tm 20) .skip (.exit 0))) (.seq (.block 1 (sq aER (.cond (Tm 27) (sq aES .ret) .skip))) (.region aET)))
def aEU:Rg:=[iT 2 true]
def qV:aC:=(sq GX (.seq (sq GY (.cond (Tm 16) (sq GZ .ret) .skip)) (.seq (sq aEP (.block 0 (.loop aEO))) (sq aEU .ret))))
def bgS:List Nat:=[]
def SQ:aW:=⟨1,28,qV,[.tmp 2]⟩
def acS:Rg:=[iT 6 false]
def acT:Rg:=[iM 7 0,iM 8 1,iB 9 .geq 7 8,iM 10 9,gM 11 0 10 true,gM 12 2 10 true,gB 13 .leq 11 12 10 true,iP 14 10 13,iM 6 14]
def wQ:aC:=(sq acS (sq acT .ret))
def brQ:List Nat:=[]
def gin:aW:=⟨3,15,wQ,[.tmp 6]⟩
def apG:Rg:=[iA 1 (.box true (Tm 0)),iT 2 false]
def apH:Rg:=[iF 3 1 1,iL 4 3,iK 5 128 4,iC 6 .gtr 5 0,iM 2 6]
def zY:aC:=(sq apG (sq apH .ret))
def a7Y:List Nat:=[1]
def MT:aW:=⟨1,7,zY,[.tmp 2]⟩
def aSK:Rg:=[iA 1 (.box true (Tm 0)),iT 2 false]
def aSL:Rg:=[iO 6 3 1,iK 7 116 6,iM 5 7,iE 8 5 0,iE 9 5 1,iA 3 (.alloc [(.bool false),.aB,.aB]),iS 3 3 8,iM 4 9]
def SN:Rg:=[iM 10 4,iC 11 .eql 10 0,iM 12 11,gF 13 0 3 12 true,gL 14 13 12 true,iG 15 (.un .not (Tm 14)) 12 true,iP 16 12 15,iM 17 16,gF 18 1 3 17 true,gL 19 18 17 true,gK 20 128 19 17 true,gC 21 .leq 20 32 17 true,iP 22 17 21,iM 23 22,gF 24 2 3 23 true,gL 25 24 23 true,gK 26 128 25 23 true,gC 27 .leq 26 32 23 true,iP 28 23 27,iM 2 28]
def MZ:aC:=(sq aSK (sq aSL (sq SN .ret)))
def bmT:List Nat:=[1]
def aCV:aW:=⟨1,29,MZ,[.tmp 2]⟩
def aSP:Rg:=[iA 1 (.box true (Tm 0)),iT 2 false]
def aSQ:Rg:=[iA 8 (.call 115 [(Ci 1),(Ci 1)]),iM 7 8,iE 9 7 0,iE 10 7 1,iA 3 (.alloc [(.bool false),.aB,.aB]),iS 3 3 9,iM 4 10]
def aSR:Rg:=[iO 12 3 1,iO 13 3 3,iK2 14 114 12 13,iM 11 14,iE 15 11 0,iE 16 11 1,iM 5 15,iM 6 16]
def alL:Rg:=[iM 17 6,iC 18 .eql 17 0,iM 19 18,gM 20 5 19 true,gC 21 .leq 20 0 19 true,iP 22 19 21,iM 2 22]
def NB:aC:=(sq aSP (sq aSQ (sq aSR (sq alL .ret))))
def bmX:List Nat:=[1]
def gone:aW:=⟨1,23,NB,[.tmp 2]⟩
def aBS:Rg:=[iT 4 false]
def aBT:Rg:=[iM 7 0,iN 8 7,iI 9 0]
def aBU:Rg:=[iB 10 .lss 9 8]
def aBV:Rg:=[iX 11 3 7 9,iO 12 3 11,iA 6 (.alloc [(.bool false),.aB,.aB]),iS 3 6 12]
def aBW:Rg:=[iM 13 1,iO 14 3 6,iA 15 (.bJP (Tm 13) [(Tm 14)]),iA 16 (.un .not (Tm 15))]
def aBX:Rg:=[iT 4 false]
def aBY:Rg:=[iC 17 .add 9 1,iM 9 17]
def aBR:aC:=(sq aBU (.seq (.cond (Tm 10) .skip (.exit 0)) (.seq (.block 1 (sq aBV (sq aBW (.cond (Tm 16) (sq aBX .ret) .skip)))) (.region aBY))))
def aBZ:Rg:=[iT 4 true]
def GC:aC:=(sq aBS (.seq (sq aBT (.block 0 (.loop aBR))) (sq aBZ .ret)))
def bfR:List Nat:=[]
def acP:aW:=⟨2,18,GC,[.tmp 4]⟩
def aCB:Rg:=[iT 4 false]
def aCC:Rg:=[iM 7 0,iN 8 7,iI 9 0]
def aCD:Rg:=[iB 10 .lss 9 8]
def aCE:Rg:=[iX 11 1 7 9,iL 12 11,iM 6 12]
def aCF:Rg:=[iM 13 1,iM 14 6,iA 15 (.bJP (Tm 13) [(Tm 14)]),iA 16 (.un .not (Tm 15))]
def aCG:Rg:=[iT 4 false]
def aCH:Rg:=[iC 17 .add 9 1,iM 9 17]
def aCA:aC:=(sq aCD (.seq (.cond (Tm 10) .skip (.exit 0)) (.seq (.block 1 (sq aCE (sq aCF (.cond (Tm 16) (sq aCG .ret) .skip)))) (.region aCH))))
def aCI:Rg:=[iT 4 true]
def GD:aC:=(sq aCB (.seq (sq aCC (.block 0 (.loop aCA))) (sq aCI .ret)))
def bfT:List Nat:=[]
def acQ:aW:=⟨2,18,GD,[.tmp 4]⟩
def aBJ:Rg:=[iT 4 false]
def aBK:Rg:=[iM 7 0,iN 8 7,iI 9 0]
def aBL:Rg:=[iB 10 .lss 9 8]
def aBM:Rg:=[iX 11 1 7 9,iL 12 11,iM 6 12]
def aBN:Rg:=[iM 13 1,iM 14 6,iA 15 (.bJP (Tm 13) [(Tm 14)]),iA 16 (.un .not (Tm 15))]
def aBO:Rg:=[iT 4 false]
def aBP:Rg:=[iC 17 .add 9 1,iM 9 17]
def aBI:aC:=(sq aBL (.seq (.cond (Tm 10) .skip (.exit 0)) (.seq (.block 1 (sq aBM (sq aBN (.cond (Tm 16) (sq aBO .ret) .skip)))) (.region aBP))))
def aBQ:Rg:=[iT 4 true]
def GB:aC:=(sq aBJ (.seq (sq aBK (.block 0 (.loop aBI))) (sq aBQ .ret)))
def bfP:List Nat:=[]
def acO:aW:=⟨2,18,GB,[.tmp 4]⟩
def apI:Rg:=[iT 2 false]
def apJ:Rg:=[iM 3 0,iM 2 3]
def zZ:aC:=(sq apI (sq apJ .ret))
def a8A:List Nat:=[]
def MU:aW:=⟨1,4,zZ,[.tmp 2]⟩
def aCM:Rg:=[iA 1 (.box true (Tm 0)),iT 2 false]
def aCN:Rg:=[iF 8 3 1,iL 9 8,iN 10 9,iA 11 (.bIO 1 1 [(.bool false)] (Tm 10) (Tm 10)),iM 3 11]
def aCO:Rg:=[iI 4 0]
def aCP:Rg:=[iM 12 4,iM 13 3,iN 14 13,iB 15 .leq 12 14]
def aCQ:Rg:=[iM 18 3,iN 19 18,iI 20 0]
def WU:Rg:=[iB 21 .lss 20 19]
def aCR:Rg:=[iM 22 20,iM 5 22]
def WV:Rg:=[iM 23 3,iM 24 5,iM 25 3,iM 26 5,iX 27 1 25 26,iL 28 27,iM 29 28,gF 30 3 1 29 false,gL 31 30 29 false,gM 32 5 29 false,iG 33 (.bIZ 3 (Tm 31) (Tm 32)) 29 false,gO 34 3 33 29 false,gK 35 97 34 29 false,iQ 36 29 35,iX 37 1 23 24,iS 1 37 36]
def WW:Rg:=[iF 38 2 1,iL 39 38,iM 40 5,iX 41 1 39 40,iL 42 41,iN 43 42,iI 44 0]
def aCS:Rg:=[iB 45 .lss 44 43]
def apL:Rg:=[iM 46 44,iX 47 3 42 44,iO 48 3 47,iA 7 (.alloc [(.bool false),.aB,.aB]),iM 6 46,iS 3 7 48]
def MW:Rg:=[iM 49 3,iM 50 5,iM 51 3,iM 52 5,iX 53 1 51 52,iL 54 53,iM 55 54,gO 56 3 7 55 false,gK 57 97 56 55 false,gM 58 57 55 false,gM 59 3 58 true,gM 60 6 58 true,iG 61 (.bIZ 1 (Tm 59) (Tm 60)) 58 true,gL 62 61 58 true,iG 63 (.pick (Tm 58) (Tm 62) (.const (.bool false))) 55 false,iQ 64 55 63,iX 65 1 49 50,iS 1 65 64]
def yK:Rg:=[iC 66 .add 44 1,iM 44 66]
def yI:aC:=(sq aCS (.seq (.cond (Tm 45) .skip (.exit 4)) (.seq (.block 5 (sq apL (.region MW))) (.region yK))))
def MX:Rg:=[iC 67 .add 20 1,iM 20 67]
def yJ:aC:=(sq WU (.seq (.cond (Tm 21) .skip (.exit 2)) (.seq (.block 3 (sq aCR (sq WV (sq WW (.block 4 (.loop yI)))))) (.region MX))))
def apM:Rg:=[iM 16 4,iC 17 .add 16 1,iM 4 17]
def apK:aC:=(.seq (sq aCP (.cond (Tm 15) .skip (.exit 0))) (.seq (.block 1 (sq aCQ (.block 2 (.loop yJ)))) (.region apM)))
def apN:Rg:=[iM 68 3,iA 69 (.call 98 [(Tm 68),(.const (.fn 103 []))]),iM 2 69]
def GF:aC:=(sq aCM (sq aCN (.seq (sq aCO (.block 0 (.loop apK))) (sq apN .ret))))
def bfW:List Nat:=[1]
def acR:aW:=⟨1,70,GF,[.tmp 2]⟩
def aSC:Rg:=[iA 1 (.box true (Tm 0)),iT 2 false]
def aSD:Rg:=[iF 12 1 1,iL 13 12,iN 14 13,iM 3 14]
def aSE:Rg:=[iM 15 3,iA 16 (.call 104 [(Tm 15),(Ci 1),(Ci 4)]),iA 17 (.un .not (Tm 16)),iM 18 17,gF 19 3 1 18 false,gL 20 19 18 false,gN 21 20 18 false,gM 22 3 18 false,gB 23 .neq 21 22 18 false,iQ 24 18 23,iM 25 24,gF 26 2 1 25 false,gL 27 26 25 false,gN 28 27 25 false,gM 29 3 25 false,gB 30 .neq 28 29 25 false,iQ 31 25 30,iM 32 31,gF 33 1 1 32 false,gL 34 33 32 false,iG 35 (.call 99 [(Tm 34),(.const (.fn 105 []))]) 32 false,iG 36 (.un .not (Tm 35)) 32 false,iQ 37 32 36,iM 38 37,gF 39 3 1 38 false,gL 40 39 38 false,iG 41 (.call 99 [(Tm 40),(.const (.fn 105 []))]) 38 false,iG 42 (.un .not (Tm 41)) 38 false,iQ 43 38 42]
def vS:Rg:=[iT 2 false]
def aSF:Rg:=[iF 44 2 1,iL 45 44,iN 46 45,iI 47 0]
def aSG:Rg:=[iB 48 .lss 47 46]
def aSH:Rg:=[iM 49 47,iX 50 1 45 47,iL 51 50,iM 4 49,iM 5 51]
def aSI:Rg:=[iM 52 5,iN 53 52,iM 54 3,iB 55 .neq 53 54,iM 56 55,gM 57 5 56 false,iG 58 (.call 99 [(Tm 57),(.const (.fn 105 []))]) 56 false,iG 59 (.un .not (Tm 58)) 56 false,iQ 60 56 59,iM 61 60,gM 62 5 61 false,gM 63 4 61 false,iG 64 (.bIZ 3 (Tm 62) (Tm 63)) 61 false,gO 65 3 64 61 false,gK 66 97 65 61 false,iQ 67 61 66]
def SM:Rg:=[iT 2 false]
def aSJ:Rg:=[iC 68 .add 47 1,iM 47 68]
def aCU:aC:=(sq aSG (.seq (.cond (Tm 48) .skip (.exit 0)) (.seq (.block 1 (sq aSH (sq aSI (.cond (Tm 67) (sq SM .ret) .skip)))) (.region aSJ))))
def WX:Rg:=[iF 70 1 1,iL 71 70,iK 72 117 71,iM 69 72,iE 73 69 0,iE 74 69 1,iA 6 (.alloc [(.bool false),.aB,.aB]),iS 3 6 73,iM 7 74]
def GG:Rg:=[iA 76 (.call 115 [(Ci 1),(Ci 1)]),iM 75 76,iE 77 75 0,iE 78 75 1,iA 8 (.alloc [(.bool false),.aB,.aB]),iS 3 8 77,iM 9 78]
def GH:Rg:=[iO 80 3 6,iO 81 3 8,iK2 82 114 80 81,iM 79 82,iE 83 79 0,iE 84 79 1,iM 10 83,iM 11 84]
def rV:Rg:=[iM 85 7,iC 86 .eql 85 0,iM 87 86,gM 88 10 87 true,gC 89 .eql 88 0 87 true,iP 90 87 89,iM 91 90,gO 92 4 1 91 true,gK 93 102 92 91 true,iP 94 91 93,iM 2 94]
def MY:aC:=(sq aSC (sq aSD (.seq (sq aSE (.cond (Tm 43) (sq vS .ret) .skip)) (.seq (sq aSF (.block 0 (.loop aCU))) (sq WX (sq GG (sq GH (sq rV .ret))))))))
def bmR:List Nat:=[1]
def aCT:aW:=⟨1,95,MY,[.tmp 2]⟩
def aDG:Rg:=[iT 2 false]
def aDH:Rg:=[iA 6 (.bKA (false,[.str])),iM 3 6]
def aDI:Rg:=[iM 7 0,iN 8 7,iI 9 0]
def aDJ:Rg:=[iB 10 .lss 9 8]
def aDK:Rg:=[iX 11 1 7 9,iL 12 11,iM 5 12]
def aDL:Rg:=[iM 13 5,iK 14 123 13,iA 15 (.un .not (Tm 14)),iM 16 15,gM 17 3 16 false,gM 18 5 16 false,iG 19 (.lookup (false,[.str]) (.bool false) (Tm 17) (Tm 18) false) 16 false,iQ 20 16 19]
def WZ:Rg:=[iT 2 false]
def aDM:Rg:=[iM 21 3,iM 22 5,⟨none,.bJC (false,[.str]) (Tm 21) (Tm 22) (.const (.bool true)),none⟩]
def aDN:Rg:=[iC 23 .add 9 1,iM 9 23]
def aDF:aC:=(sq aDJ (.seq (.cond (Tm 10) .skip (.exit 0)) (.seq (.block 1 (sq aDK (.seq (sq aDL (.cond (Tm 20) (sq WZ .ret) .skip)) (.region aDM)))) (.region aDN))))
def apQ:Rg:=[iT 2 true]
def GK:aC:=(sq aDG (sq aDH (.seq (sq aDI (.block 0 (.loop aDF))) (sq apQ .ret))))
def bgD:List Nat:=[]
def acW:aW:=⟨1,24,GK,[.tmp 2]⟩
def alJ:Rg:=[iA 1 (.box true (Tm 0)),iT 2 false]
def alK:Rg:=[iF 6 3 1,iL 7 6,iN 8 7,iC 9 .eql 8 0]
def aRW:Rg:=[iT 2 false]
def aRX:Rg:=[iF 10 3 1,iL 11 10,iA 12 (.bIZ 7 (Tm 11) (Ci 0)),iO 13 7 12,iA 3 (.alloc [(.str []),(.int .i64 0),(.int .i64 0),(.int .i64 0),(.bool false),.aB,.aB]),iS 7 3 13]
def vQ:Rg:=[iF 14 0 3,iL 15 14,iA 16 (.bin .neq (Tm 15) (.const (.str []))),iM 17 16,gF 18 1 3 17 false,gL 19 18 17 false,gC 20 .neq 19 0 17 false,iQ 21 17 20,iM 22 21,gF 23 2 3 22 false,gL 24 23 22 false,gC 25 .neq 24 (-1) 22 false,iQ 26 22 25,iM 27 26,gF 28 3 3 27 false,gL 29 28 27 false,gC 30 .neq 29 0 27 false,iQ 31 27 30,iM 32 31,gF 33 4 3 32 false,gO 34 3 33 32 false,gK 35 105 34 32 false,iG 36 (.un .not (Tm 35)) 32 false,iQ 37 32 36,iM 38 37,gF 39 4 3 38 false,gO 40 3 39 38 false,gK 41 97 40 38 false,iQ 42 38 41]
def rU:Rg:=[iT 2 false]
def aRY:Rg:=[iF 43 3 1,iL 44 43,iA 45 (.slice 7 (Tm 44) (some (Ci 1)) none none),iN 46 45,iI 47 0]
def aRZ:Rg:=[iB 48 .lss 47 46]
def aSA:Rg:=[iM 49 47,iX 50 7 45 47,iO 51 7 50,iA 5 (.alloc [(.str []),(.int .i64 0),(.int .i64 0),(.int .i64 0),(.bool false),.aB,.aB]),iM 4 49,iS 7 5 51]
def aSB:Rd:=[(iF 52 2 5,false),(iL 53 52,false),(iM 54 4,false),(iA 55 (.call 104 [(Tm 53),(Ci 0),(Tm 54)]),true),(iA 56 (.un .not (Tm 55)),false),(iM 57 56,false),(gF 58 3 1 57 false,false),(gL 59 58 57 false,false),(gF 60 2 5 57 false,false),(gL 61 60 57 false,false),(iG 62 (.bIZ 7 (Tm 59) (Tm 61)) 57 false,false),(gF 63 1 62 57 false,false),(gL 64 63 57 false,false),(gF 65 1 5 57 false,false),(gL 66 65 57 false,false),(gC 67 .sub 66 1 57 false,false),(gB 68 .neq 64 67 57 false,false),(iQ 69 57 68,false),(iM 70 69,false),(gF 71 1 5 70 false,false),(gL 72 71 70 false,false),(iG 73 (.call 104 [(Tm 72),(Ci 1),(Ci 4)]) 70 false,true),(iG 74 (.un .not (Tm 73)) 70 false,false),(iQ 75 70 74,false),(iM 76 75,false),(gF 77 3 5 76 false,false),(gL 78 77 76 false,false),(iG 79 (.call 104 [(Tm 78),(Ci 1),(Ci 64)]) 76 false,true),(iG 80 (.un .not (Tm 79)) 76 false,false),(iQ 81 76 80,false),(iM 82 81,false),(gF 83 4 5 82 false,false),(gO 84 3 83 82 false,false),(gK 85 105 84 82 false,true),(iG 86 (.un .not (Tm 85)) 82 false,false),(iQ 87 82 86,false)]
def rT:Rg:=[iT 2 false]
def aCK:Rg:=[iC 88 .add 47 1,iM 47 88]
def aCJ:aC:=(sq aRZ (.seq (.cond (Tm 48) .skip (.exit 0)) (.seq (.block 1 (sq aSA (dq aSB (.cond (Tm 87) (sq rT .ret) .skip)))) (.region aCK))))
def aCL:Rg:=[iT 2 true]
def yH:aC:=(sq alJ (.seq (sq alK (.cond (Tm 9) (sq aRW .ret) .skip)) (sq aRX (.seq (sq vQ (.cond (Tm 42) (sq rU .ret) .skip)) (.seq (sq aRY (.block 0 (.loop aCJ))) (sq aCL .ret))))))
def bmP:List Nat:=[1]
def alI:aW:=⟨1,89,yH,[.tmp 2]⟩
def aCX:Rg:=[iT 2 false]
def aCY:Rg:=[iM 3 0,iA 4 (.call 104 [(Tm 3),(Ci 0),(Ci 8)]),iM 2 4]
def GI:aC:=(sq aCX (sq aCY .ret))
def bfY:List Nat:=[]
def acU:aW:=⟨1,5,GI,[.tmp 2]⟩
def aSM:Rg:=[iA 7 (.box true (Tm 3)),iT 8 false]
def aSN:Rg:=[iM 9 0,iA 10 (.call 104 [(Tm 9),(Ci 1),(Ci 6)]),iA 11 (.un .not (Tm 10)),iM 12 11,gM 13 1 12 false,iG 14 (.call 104 [(Tm 13),(Ci 0),(Ci 4)]) 12 false,iG 15 (.un .not (Tm 14)) 12 false,iQ 16 12 15,iM 17 16,gM 18 0 17 false,gM 19 1 17 false,gB 20 .add 18 19 17 false,gC 21 .gtr 20 8 17 false,iQ 22 17 21,iM 23 22,gM 24 2 23 false,gM 25 0 23 false,gM 26 0 23 false,gM 27 1 23 false,gB 28 .add 26 27 23 false,iG 29 (.call 104 [(Tm 24),(Tm 25),(Tm 28)]) 23 false,iG 30 (.un .not (Tm 29)) 23 false,iQ 31 23 30,iM 32 31,iG 33 (.idxA 5 1 (Tm 7) (Ci 0)) 32 false,gL 34 33 32 false,gC 35 .neq 34 0 32 false,iQ 36 32 35]
def vT:Rg:=[iT 8 false]
def aSO:Rg:=[iA 37 (.sliceA 5 1 (Tm 7) none none none),iA 38 (.call 100 [(Tm 37),(.const (.fn 107 []))]),iM 8 38]
def NA:aC:=(sq aSM (.seq (sq aSN (.cond (Tm 36) (sq vT .ret) .skip)) (sq aSO .ret)))
def bmV:List Nat:=[7]
def aCW:aW:=⟨4,39,NA,[.tmp 8]⟩
def apO:Rg:=[iA 1 (.box true (Tm 0)),iT 2 false]
def apP:Rg:=[iO 3 3 1,iK 4 105 3,iM 5 4,gO 6 3 1 5 true,gK 7 97 6 5 true,iP 8 5 7,iM 2 8]
def AA:aC:=(sq apO (sq apP .ret))
def a8D:List Nat:=[1]
def ND:aW:=⟨1,9,AA,[.tmp 2]⟩
def aDD:Rg:=[iA 6 (.box true (Tm 2)),iA 7 (.box true (Tm 3)),iT 8 false]
def aDE:Rg:=[iM 9 1,iN 10 9,iM 11 0,iA 12 (.bJF true (Tm 11) (Ci 1)),iB 13 .eql 10 12,iM 14 13,gM 15 1 14 true,iG 16 (.call 99 [(Tm 15),(.const (.fn 109 []))]) 14 true,iP 17 14 16,iM 18 17,gO 19 3 6 18 true,gK 20 105 19 18 true,iP 21 18 20,iM 22 21,gO 23 3 6 22 true,gK 24 101 23 22 true,iP 25 22 24,iM 26 25,gO 27 3 7 26 true,gK 28 105 27 26 true,iP 29 26 28,iM 8 29]
def GJ:aC:=(sq aDD (sq aDE .ret))
def bgA:List Nat:=[6,7]
def acV:aW:=⟨4,30,GJ,[.tmp 8]⟩
def aSS:Rg:=[iA 2 (.box true (Tm 0)),iT 4 false]
def aST:Rg:=[iF 8 1 2,iL 9 8,iF 10 2 2,iL 11 10,iF 12 3 2,iL 13 12,iF 14 4 2,iO 15 5 14,iA 16 (.call 106 [(Tm 9),(Tm 11),(Tm 13),(Tm 15)]),iA 17 (.un .not (Tm 16)),iM 18 17,gF 19 9 2 18 false,gL 20 19 18 false,gN 21 20 18 false,gC 22 .eql 21 0 18 false,iQ 23 18 22,iM 24 23,gF 25 2 2 24 false,gL 26 25 24 false,gF 27 10 2 24 false,gL 28 27 24 false,gF 29 11 2 24 false,gO 30 3 29 24 false,gF 31 14 2 24 false,gO 32 3 31 24 false,iG 33 (.call 108 [(Tm 26),(Tm 28),(Tm 30),(Tm 32)]) 24 false,iG 34 (.un .not (Tm 33)) 24 false,iQ 35 24 34]
def SO:Rg:=[iT 4 false]
def aSU:Rg:=[iM 36 1,iA 37 (.bIO 1 1 [(.bool false)] (Tm 36) (Tm 36)),iM 5 37]
def aSV:Rg:=[iF 38 9 2,iL 39 38,iN 40 39,iI 41 0]
def aSW:Rg:=[iB 42 .lss 41 40]
def aSX:Rg:=[iX 43 1 39 41,iL 44 43,iM 7 44]
def aSY:Rg:=[iM 45 7,iM 46 1,iC 47 .sub 46 1,iA 48 (.call 104 [(Tm 45),(Ci 0),(Tm 47)]),iA 49 (.un .not (Tm 48)),iM 50 49,gM 51 5 50 false,gM 52 7 50 false,iG 53 (.bIZ 1 (Tm 51) (Tm 52)) 50 false,gL 54 53 50 false,iQ 55 50 54]
def alM:Rg:=[iT 4 false]
def aSZ:Rg:=[iM 56 5,iM 57 7,iX 58 1 56 57,⟨none,.store 1 (Tm 58) (.const (.bool true)),none⟩]
def aDB:Rg:=[iC 59 .add 41 1,iM 41 59]
def aDA:aC:=(sq aSW (.seq (.cond (Tm 42) .skip (.exit 0)) (.seq (.block 1 (sq aSX (.seq (sq aSY (.cond (Tm 55) (sq alM .ret) .skip)) (.region aSZ)))) (.region aDB))))
def aDC:Rg:=[iT 4 true]
def NC:aC:=(sq aSS (.seq (sq aST (.cond (Tm 35) (sq SO .ret) .skip)) (sq aSU (.seq (sq aSV (.block 0 (.loop aDA))) (sq aDC .ret)))))
def bmZ:List Nat:=[2]
def aCZ:aW:=⟨2,60,NC,[.tmp 4]⟩
def aTA:Rg:=[iA 1 (.box true (Tm 0)),iI 2 0]
def aTB:Rg:=[iF 21 0 1,iL 22 21,iA 23 (.call 104 [(Tm 22),(Ci 1),(Ci 4)]),iA 24 (.un .not (Tm 23)),iM 25 24,gF 26 1 1 25 false,gL 27 26 25 false,gN 28 27 25 false,gC 29 .gtr 28 4 25 false,iQ 30 25 29,iM 31 30,gF 32 2 1 31 false,gL 33 32 31 false,gN 34 33 31 false,gC 35 .gtr 34 4 31 false,iQ 36 31 35,iM 37 36,gF 38 3 1 37 false,gL 39 38 37 false,gN 40 39 37 false,gC 41 .gtr 40 40 37 false,iQ 42 37 41,iM 43 42,gF 44 4 1 43 false,gL 45 44 43 false,gN 46 45 43 false,gC 47 .gtr 46 24 43 false,iQ 48 43 47,iM 49 48,gF 50 5 1 49 false,gL 51 50 49 false,gN 52 51 49 false,gC 53 .gtr 52 4 49 false,iQ 54 49 53,iM 55 54,gF 56 6 1 55 false,gL 57 56 55 false,gN 58 57 55 false,gC 59 .gtr 58 12 55 false,iQ 60 55 59,iM 61 60,gO 62 7 1 61 false,gK 63 111 62 61 false,iG 64 (.un .not (Tm 63)) 61 false,iQ 65 61 64]
def nY:Rg:=[iI 2 1]
def aTC:Rg:=[iZ 3,iZ 4,iZ 5,iZ 6,iZ 7]
def aTD:Rg:=[iT 8 true]
def alN:Rg:=[iF 66 1 1,iL 67 66,iN 68 67,iI 69 0]
def aTE:Rg:=[iB 70 .lss 69 68]
def aTF:Rg:=[iX 71 4 67 69,iO 72 4 71,iA 10 (.alloc [(.str []),.aB,.aB,.aB]),iS 4 10 72]
def aTG:Rg:=[iM 73 3,iF 74 0 10,iL 75 74,iA 76 (.bIK true 1 1 [(.str [])] [(0,(Tm 75))]),iA 77 (.append 1 16 (Tm 73) (Tm 76)),iM 3 77]
def alO:Rg:=[iM 78 8,iM 79 78,gO 80 4 10 79 true,gK 81 95 80 79 true,iP 82 79 81,iM 8 82]
def XA:Rg:=[iC 83 .add 69 1,iM 69 83]
def GL:aC:=(sq aTE (.seq (.cond (Tm 70) .skip (.exit 0)) (.seq (.block 1 (sq aTF (sq aTG (.region alO)))) (.region XA))))
def XB:Rg:=[iF 84 2 1,iL 85 84,iN 86 85,iI 87 0]
def aDP:Rg:=[iB 88 .lss 87 86]
def aDQ:Rg:=[iX 89 4 85 87,iO 90 4 89,iA 12 (.alloc [(.str []),(.int .i64 0),(.int .i64 0),(.int .i64 0)]),iS 4 12 90]
def aDR:Rg:=[iM 91 4,iF 92 0 12,iL 93 92,iA 94 (.bIK true 1 1 [(.str [])] [(0,(Tm 93))]),iA 95 (.append 1 16 (Tm 91) (Tm 94)),iM 4 95]
def XC:Rg:=[iM 96 8,iM 97 96,gF 98 1 12 97 true,gL 99 98 97 true,iG 100 (.call 104 [(Tm 99),(Ci 1),(Ci 16)]) 97 true,iP 101 97 100,iM 102 101,gF 103 2 12 102 true,gL 104 103 102 true,iG 105 (.call 104 [(Tm 104),(Ci 1),(Ci 64)]) 102 true,iP 106 102 105,iM 107 106,gF 108 3 12 107 true,gL 109 108 107 true,gF 110 1 1 107 true,gL 111 110 107 true,gN 112 111 107 true,gC 113 .sub 112 1 107 true,iG 114 (.call 104 [(Tm 109),(Ci 0),(Tm 113)]) 107 true,iP 115 107 114,iM 8 115]
def wT:Rg:=[iC 116 .add 87 1,iM 87 116]
def GM:aC:=(sq aDP (.seq (.cond (Tm 88) .skip (.exit 2)) (.seq (.block 3 (sq aDQ (sq aDR (.region XC)))) (.region wT))))
def XD:Rg:=[iF 117 3 1,iL 118 117,iA 119 (.slice 7 (Tm 118) (some (Ci 1)) none none),iN 120 119,iI 121 0]
def aDS:Rg:=[iB 122 .lss 121 120]
def aDT:Rg:=[iX 123 7 119 121,iO 124 7 123,iA 14 (.alloc [(.str []),(.int .i64 0),(.int .i64 0),(.int .i64 0),(.bool false),.aB,.aB]),iS 7 14 124]
def aDU:Rg:=[iM 125 5,iF 126 0 14,iL 127 126,iA 128 (.bIK true 1 1 [(.str [])] [(0,(Tm 127))]),iA 129 (.append 1 16 (Tm 125) (Tm 128)),iM 5 129]
def aDV:Rg:=[iC 130 .add 121 1,iM 121 130]
def GN:aC:=(sq aDS (.seq (.cond (Tm 122) .skip (.exit 4)) (.seq (.block 5 (sq aDT (.region aDU))) (.region aDV))))
def XE:Rg:=[iF 131 4 1,iL 132 131,iN 133 132,iI 134 0]
def aDW:Rg:=[iB 135 .lss 134 133]
def aDX:Rg:=[iX 136 3 132 134,iO 137 3 136,iA 16 (.alloc [(.str []),(.int .i64 0),(.int .i64 0)]),iS 3 16 137]
def aDY:Rg:=[iM 138 5,iF 139 0 16,iL 140 139,iA 141 (.bIK true 1 1 [(.str [])] [(0,(Tm 140))]),iA 142 (.append 1 16 (Tm 138) (Tm 141)),iM 5 142]
def XF:Rg:=[iM 143 8,iM 144 143,gF 145 1 16 144 true,gL 146 145 144 true,gF 147 2 1 144 true,gL 148 147 144 true,gN 149 148 144 true,gC 150 .sub 149 1 144 true,iG 151 (.call 104 [(Tm 146),(Ci 0),(Tm 150)]) 144 true,iP 152 144 151,iM 153 152,gF 154 2 16 153 true,gL 155 154 153 true,gF 156 3 1 153 true,gL 157 156 153 true,gN 158 157 153 true,gC 159 .sub 158 1 153 true,iG 160 (.call 104 [(Tm 155),(Ci 0),(Tm 159)]) 153 true,iP 161 153 160,iM 162 161,gF 163 3 1 162 true,gL 164 163 162 true,gF 165 2 16 162 true,gL 166 165 162 true,iG 167 (.bIZ 7 (Tm 164) (Tm 166)) 162 true,gF 168 1 167 162 true,gL 169 168 162 true,gC 170 .eql 169 4 162 true,iP 171 162 170,iM 8 171]
def rW:Rg:=[iC 172 .add 134 1,iM 134 172]
def GO:aC:=(sq aDW (.seq (.cond (Tm 135) .skip (.exit 6)) (.seq (.block 7 (sq aDX (sq aDY (.region XF)))) (.region rW))))
def XG:Rg:=[iF 173 5 1,iL 174 173,iN 175 174,iI 176 0]
def aDZ:Rg:=[iB 177 .lss 176 175]
def aEA:Rg:=[iX 178 17 174 176,iO 179 17 178,iA 18 (.alloc [(.str []),(.int .i64 0),(.int .i64 0),(.int .i64 0),(.int .i64 0),(.int .i64 0),(.int .i64 0),(.int .i64 0),(.int .i64 0),.aB,.aB,(.bool false),.aB,.aB,(.bool false),.aB,.aB]),iS 17 18 179]
def aEB:Rg:=[iM 180 6,iF 181 0 18,iL 182 181,iA 183 (.bIK true 1 1 [(.str [])] [(0,(Tm 182))]),iA 184 (.append 1 16 (Tm 180) (Tm 183)),iM 6 184]
def XH:Rg:=[iM 185 8,iM 186 185,gO 187 17 18 186 true,gF 188 2 1 186 true,gL 189 188 186 true,gN 190 189 186 true,gK2 191 112 187 190 186 true,iP 192 186 191,iM 8 192]
def XI:Rg:=[iC 193 .add 176 1,iM 176 193]
def GP:aC:=(sq aDZ (.seq (.cond (Tm 177) .skip (.exit 8)) (.seq (.block 9 (sq aEA (sq aEB (.region XH)))) (.region XI))))
def XJ:Rg:=[iF 194 6 1,iL 195 194,iN 196 195,iI 197 0]
def aEC:Rg:=[iB 198 .lss 197 196]
def aED:Rg:=[iX 199 2 195 197,iO 200 2 199,iA 20 (.alloc [(.str []),(.int .i64 0)]),iS 2 20 200]
def aEE:Rg:=[iM 201 7,iF 202 0 20,iL 203 202,iA 204 (.bIK true 1 1 [(.str [])] [(0,(Tm 203))]),iA 205 (.append 1 16 (Tm 201) (Tm 204)),iM 7 205]
def XK:Rg:=[iM 206 8,iM 207 206,gF 208 1 20 207 true,gL 209 208 207 true,gF 210 5 1 207 true,gL 211 210 207 true,gN 212 211 207 true,gC 213 .sub 212 1 207 true,iG 214 (.call 104 [(Tm 209),(Ci 0),(Tm 213)]) 207 true,iP 215 207 214,iM 8 215]
def XL:Rg:=[iC 216 .add 197 1,iM 197 216]
def GQ:aC:=(sq aEC (.seq (.cond (Tm 198) .skip (.exit 10)) (.seq (.block 11 (sq aED (sq aEE (.region XK)))) (.region XL))))
def wU:Rg:=[iM 217 8,iA 218 (.un .not (Tm 217)),iM 219 218,gM 220 3 219 false,gK 221 110 220 219 false,iG 222 (.un .not (Tm 221)) 219 false,iQ 223 219 222,iM 224 223,gM 225 4 224 false,gK 226 110 225 224 false,iG 227 (.un .not (Tm 226)) 224 false,iQ 228 224 227,iM 229 228,gM 230 5 229 false,gK 231 110 230 229 false,iG 232 (.un .not (Tm 231)) 229 false,iQ 233 229 232,iM 234 233,gM 235 6 234 false,gK 236 110 235 234 false,iG 237 (.un .not (Tm 236)) 234 false,iQ 238 234 237,iM 239 238,gM 240 7 239 false,gK 241 110 240 239 false,iG 242 (.un .not (Tm 241)) 239 false,iQ 243 239 242]
def lZ:Rg:=[iI 2 1]
def GR:Rg:=[iI 2 0]
def NE:aC:=(sq aTA (.seq (sq aTB (.cond (Tm 65) (sq nY .ret) .skip)) (sq aTC (sq aTD (.seq (sq alN (.block 0 (.loop GL))) (.seq (sq XB (.block 2 (.loop GM))) (.seq (sq XD (.block 4 (.loop GN))) (.seq (sq XE (.block 6 (.loop GO))) (.seq (sq XG (.block 8 (.loop GP))) (.seq (sq XJ (.block 10 (.loop GQ))) (.seq (sq wU (.cond (Tm 243) (sq lZ .ret) .skip)) (sq GR .ret))))))))))))
def bnB:List Nat:=[1,76,94,128,141,183,204]
def aDO:aW:=⟨1,244,NE,[.tmp 2]⟩
@[go_sem] theorem bvF (a b:List UInt8):LH .eql a b=some (.bool (a==b)):=(rfl)
@[go_sem] theorem bvG (a b:List UInt8):LH .neq a b=some (.bool !(a==b)):=(rfl)
@[go_sem] theorem bvE (a b:List UInt8):LH .add a b=if ((a.length+b.length:Nat):Int)>9223372036854775807 then none else some (.str (a++b)):=(rfl)
@[go_sem] theorem brA:(([]:List UInt8)==[])=true:=(rfl)
@[go_sem] theorem blR (c:UInt8) (t:List UInt8):((c::t)==[])=false:=(rfl)
theorem nO {a b:List UInt8} (h:a=b):(a==b)=true:=by simp[h]
theorem aaB {a b:List UInt8} (h:a≠b):(a==b)=false:=by simp[h]
section
variable {C:Ctx} {F:PF} {H:PH}
theorem oY {name o s:Nat} {rs:List (List PV)} {vs:List PV} {v:PV} {args:List aP} {d:Option Nat} {K:PF→PH→Prop} (h:aE C name vs .nil (aD v)) (ho:H o=some (.rows s rs))
  (ha:aP.evs (F.frz o s rs) args=some vs) (hK:K ((F.frz o s rs).put d v) (H.frz o s rs)):fU C name args [] d K F H:=by
 refine .inr ⟨_,_,.step o ho (.refl _ _),vs,.nil,aD v,?_,PH.nil_le,h,?_⟩
 ·rw[ha]; simp
 ·rintro r H' ⟨rfl,rfl⟩ -
  rw[PH.kY]
  exact hK
theorem iY.trans {F1 F2 F3:PF} {H1 H2 H3:PH} (h:iY F1 H1 F2 H2) (k:iY F2 H2 F3 H3):iY F1 H1 F3 H3:=by
 induction h with
 | refl=>exact k
 | step o ho h ih=>exact .step o ho (ih k)
theorem oM {c:aC} {K:cO} {s:Nat} {v:PV} {rows:List (List PV)} (ho:bJ H s v rows)
  (h:∀ v1,Seen s v1 rows→∀ F1 H1,(∀ t,F t=some v→F1 t=some v1)→(∀ i u,F i=some u→Pure u→F1 i=some u)→aC.wp C (.loop c) K F1 H1):aC.wp C (.loop c) K F H:=by
 obtain⟨v1,hs,hf⟩:=ho.frz
 obtain⟨F1,H1,hz,h1,h2⟩:=hf F
 obtain⟨α,Fs,Hs,Pr,m,a0,F2,H2,hz2,rest⟩:=h v1 hs F1 H1 h1 h2
 exact⟨α,Fs,Hs,Pr,m,a0,F2,H2,hz.trans hz2,rest⟩
theorem aE.a4A {name s:Nat} {v:PV} {rows:List (List PV)} {H0:PH} {R:PV→PH→Prop} (h:aE C name [.sl s rows] H0 R) (hs:Seen s v rows):aE C name [v] H0 R:=by
 rcases hs with ⟨rfl,rfl⟩ | rfl
 ·refine h.args ⟨rfl,fun j p q hp hq=>?_⟩
  cases j with
  | zero=>simp at hp hq; subst hp; subst hq; exact .nil s
  | succ j=>simp at hp
 ·exact h
theorem bJ.fresh {s:Nat} {v:PV} {rows:List (List PV)} {o:Nat} (h:bJ H s v rows) (ho:H o=none) (x:cS):bJ (H.set o x) s v rows∧∀ l,v≠.osl o s 0 l:=by
 refine⟨h.ext fun q y hq=>?_,fun l e=>?_⟩
 ·have:q≠o:=by rintro rfl; rw[ho] at hq; cases hq
  simp only[bL,if_neg this,hq]
 ·rcases h with ⟨_,h2⟩ | ⟨q,rs,h1,h2,_⟩
  ·rw[h2] at e; cases e
  ·rw[h1] at e
   injection e with e1
   subst e1
   rw[ho] at h2; cases h2
theorem lH {s b:Nat} {v:PV} {rows:List (List PV)} {r:List PV} {o:Nat} {x:cS} {K:PV→PH→Prop} (h:bJ H s v rows) (ho:H o=none) (hr:roomFor rows.length 1 b)
  (hk:∀ v' H',bJ H' s v' (rows++[r])→H' o=some x→K v' H'):mF (H.set o x) s b v (.sl s [r]) K:=by
 obtain⟨h1,h2⟩:=h.fresh ho x
 refine gD (src:=[r]) h1 (by simp[dR]) hr fun v' H' hO hp=>hk v' H' hO (hp o x (by simp only[bL,if_true]) h2)
theorem nT {o s k:Nat} {rs:List (List PV)} (hk:k≤rs.length):PV.frz o s rs (.osl o s 0 k)=.sl s (rs.take k):=by
 have:0+k≤rs.length:=by omega
 simp only[PV.frz,PV.rS,PV.dE,if_true,true_and,if_pos this,bLK]
end
open Go Go.Na
def eW (n:Nat):Bool:=decide (97≤n)&&decide (n≤122)||decide (65≤n)&&decide (n≤90)
def kR (n:Nat):Bool:=decide (48≤n)&&decide (n≤57)
def fJ (n:Nat):Bool:=eW n||kR n||decide (n=45)||decide (n=46)
theorem a2M {C:Ctx} (n:Nat):kF.wp C (aT vY.res (aD (.bool (eW n)))) (PF.args [.int .u8 n]) .nil:=by
 have fin:∀ (F:PF) (b:Bool),F 2=some (.bool b)→b=eW n→aT vY.res (aD (.bool (eW n))) .ret F .nil:=by
  intro F b h e
  subst e
  refine aL (.inr rfl) (vs:=[.bool (eW n)]) (by simp only[go_sem,vY,h]) rfl
 unfold eW at *
 by_cases a:97≤n
 ·have a':(n:Int)≥97:=by omega
  by_cases b:n≤122
  ·have b':(n:Int)≤122:=by omega
   simp only[go_sem,γ,reduceCtorEq,kF,oA,oC,a',b']
   exact fin _ _ rfl (by simp[a,b])
  ·have b':¬ (n:Int)≤122:=by omega
   by_cases c:65≤n
   ·have c':(n:Int)≥65:=by omega
    have d:¬ (n:Int)≤90:=by omega
    simp only[go_sem,γ,reduceCtorEq,kF,oA,oC,a',b',c',d]
    exact fin _ _ rfl (by simp[a,b,c]; omega)
   ·omega
 ·have a':¬ (n:Int)≥97:=by omega
  by_cases c:65≤n
  ·have c':(n:Int)≥65:=by omega
   by_cases d:n≤90
   ·have d':(n:Int)≤90:=by omega
    simp only[go_sem,γ,reduceCtorEq,kF,oA,oC,a',c',d']
    exact fin _ _ rfl (by simp[a,c,d])
   ·have d':¬ (n:Int)≤90:=by omega
    simp only[go_sem,γ,reduceCtorEq,kF,oA,oC,a',c',d']
    exact fin _ _ rfl (by simp[a,c,d])
  ·have c':¬ (n:Int)≥65:=by omega
   simp only[go_sem,γ,reduceCtorEq,kF,oA,oC,a',c']
   exact fin _ _ rfl (by simp[a,c])
theorem a8K {C:Ctx} (n:Nat):oU.wp C (aT CZ.res (aD (.bool (kR n)))) (PF.args [.int .u8 n]) .nil:=by
 have fin:∀ (F:PF) (b:Bool),F 2=some (.bool b)→b=kR n→aT CZ.res (aD (.bool (kR n))) .ret F .nil:=by
  intro F b h e
  subst e
  refine aL (.inr rfl) (vs:=[.bool (kR n)]) (by simp only[go_sem,CZ,h]) rfl
 unfold kR at *
 by_cases a:48≤n
 ·have a':(n:Int)≥48:=by omega
  by_cases b:n≤57
  ·have b':(n:Int)≤57:=by omega
   simp only[go_sem,γ,reduceCtorEq,oU,yM,yN,a',b']
   exact fin _ _ rfl (by simp[a,b])
  ·have b':¬ (n:Int)≤57:=by omega
   simp only[go_sem,γ,reduceCtorEq,oU,yM,yN,a',b']
   exact fin _ _ rfl (by simp[a,b])
 ·have a':¬ (n:Int)≥48:=by omega
  simp only[go_sem,γ,reduceCtorEq,oU,yM,yN,a']
  exact fin _ _ rfl (by simp[a])
theorem a8O {C:Ctx} (h1:∀ n:Nat,aE C 126 [.int .u8 n] .nil (aD (.bool (eW n)))) (h2:∀ n:Nat,aE C 124 [.int .u8 n] .nil (aD (.bool (kR n)))) (n:Nat) :
  AB.wp C (aT DA.res (aD (.bool (fJ n)))) (PF.args [.int .u8 n]) .nil:=by
 have fin:∀ (F:PF) (b:Bool),F 2=some (.bool b)→b=fJ n→aT DA.res (aD (.bool (fJ n))) .ret F .nil:=by
  intro F b h e
  subst e
  refine aL (.inr rfl) (vs:=[.bool (fJ n)]) (by simp only[go_sem,DA,h]) rfl
 simp only[go_sem,reduceCtorEq,AB,apX,apY]
 refine aA (h1 n) rfl ?_
 cases hl:eW n with
 | true =>
  simp only[go_sem,γ]
  exact fin _ _ rfl (by simp[fJ,hl])
 | false =>
  simp only[go_sem,γ,reduceCtorEq]
  refine aA (h2 n) rfl ?_
  cases hd:kR n with
  | true =>
   simp only[go_sem,γ,reduceCtorEq]
   exact fin _ _ rfl (by simp[fJ,hd])
  | false =>
   by_cases c:n=45
   ·simp only[go_sem,γ,reduceCtorEq,bT (Om:(n:Int)=45)]
    exact fin _ _ rfl (by simp[fJ,c])
   ·by_cases d:n=46
    ·simp only[go_sem,γ,reduceCtorEq,bF (Om:(n:Int)≠45),bT (Om:(n:Int)=46)]
     exact fin _ _ rfl (by simp[fJ,d])
    ·simp only[go_sem,γ,reduceCtorEq,bF (Om:(n:Int)≠45),bF (Om:(n:Int)≠46)]
     exact fin _ _ rfl (by simp[fJ,c,d,hl,hd])
def isName (s:List UInt8):Bool:=match s with
 | []=>false
 | c::_=>decide (s.length≤16)&&eW c.toNat&&s.all fun c=>fJ c.toNat
theorem nA {α:Type} {p:α→Bool} {l:List α} {k:Nat} (hk:k<l.length) (h:(l.take k).all p=true) (hp:p l[k]=true):(l.take (k+1)).all p=true:=by
 rw[bMA hk,List.all_append,h]; simp[hp]
theorem nB {α:Type} {p:α→Bool} {l:List α} {k:Nat} (hk:k<l.length) (hp:p l[k]=false):l.all p=false:=by
 rw[List.all_eq_false]
 exact⟨l[k],bKM hk,by simp[hp]⟩
def aEN (s:List UInt8) (k:Nat):PF:=((PF.nil.set 0 (.str s)).set 3 (.int .i64 k))
theorem bgR {C:Ctx} (h1:∀ n:Nat,aE C 126 [.int .u8 n] .nil (aD (.bool (eW n)))) (h2:∀ n:Nat,aE C 125 [.int .u8 n] .nil (aD (.bool (fJ n)))) (s:List UInt8) :
  qV.wp C (aT SQ.res (aD (.bool (isName s)))) (PF.args [.str s]) .nil:=by
 have fin:∀ (F:PF) (b:Bool),F 2=some (.bool b)→b=isName s→aT SQ.res (aD (.bool (isName s))) .ret F .nil:=by
  intro F b h e
  subst e
  refine aL (.inr rfl) (vs:=[.bool (isName s)]) (by simp only[go_sem,SQ,h]) rfl
 cases s with
 | nil =>
  simp only[go_sem,γ,reduceCtorEq,qV,GX,GY,GZ]
  exact fin _ _ rfl rfl
 | cons c t =>
  have hz:(c::t)[0]?=some c:=rfl
  have hne:(c::t==[])=false:=rfl
  have hN:isName (c::t)=(decide ((c::t).length≤16)&&eW c.toNat&&(c::t).all fun c=>fJ c.toNat):=rfl
  generalize c::t=s at *
  by_cases hl:s.length≤16
  ·have hl':¬ ((s.length:Nat):Int)>16:=by omega
   rw[decide_eq_true hl,bKS] at hN
   simp only[go_sem,ν,γ,reduceCtorEq,qV,GX,GY,hne,hl',hz,bLT]
   refine aA (h1 c.toNat) rfl ?_
   cases hc:eW c.toNat with
   | false =>
    simp only[go_sem,γ,reduceCtorEq,bKW,GZ]
    exact fin _ _ rfl (by rw[hN,hc]; rfl)
   | true =>
    rw[hc,bKS] at hN
    simp only[go_sem,γ,reduceCtorEq,bKR,aEP]
    refine wp_loop (α:=Nat) (fun k=>aEN s k) (fun _=>.nil) (fun k=>k≤s.length∧(s.take k).all (fun c=>fJ c.toNat)=true) (fun k=>s.length-k) 0 ⟨bKT _,rfl⟩ ?_ PH.nil_le ?_
    ·unfold aEN
     exact Lq
    rintro k ⟨hk,ha⟩
    simp only[go_sem,γ,reduceCtorEq,aEO,aEQ,aEN]
    by_cases hlt:k<s.length
    ·have bIL:(k:Int)<(s.length:Nat):=by omega
     have hg:s[k]?=some s[k]:=bKU hlt
     simp only[go_sem,γ,reduceCtorEq,bIL,aER,hg,bLT]
     refine aA (h2 (s[k]).toNat) rfl ?_
     cases hi:fJ (s[k]).toNat with
     | false =>
      simp only[go_sem,γ,reduceCtorEq,bKW,aES]
      refine fin _ false rfl ?_
      rw[hN,nB hlt hi]
     | true =>
      simp only[go_sem,γ,reduceCtorEq,bKR,aET,wZz k]
      refine aI (k+1) ⟨hlt,bLA.1 (nA hlt ha hi)⟩ Om ?_ PH.nil_le
      exact Lq
    ·have bIL:¬ (k:Int)<(s.length:Nat):=by omega
     simp only[go_sem,bIL,aEU]
     have:k=s.length:=by omega
     subst this
     rw[bKZ (bKK _)] at ha
     exact fin _ true rfl (by rw[hN,ha])
  ·have hl':((s.length:Nat):Int)>16:=by omega
   simp only[go_sem,γ,reduceCtorEq,qV,GX,GY,GZ,hne,hl']
   exact fin _ _ rfl (by rw[hN,decide_eq_false hl]; rfl)
abbrev cW (x:Int):Prop:=-9223372036854775808≤x∧x≤9223372036854775807
structure cK where
 name:List UInt8
 start:List RF
 bIJ:List (List RF)
 exit:List RF
structure cV where
 name:List UInt8
 bIY:Int
 port:Int
 law:Int
structure bP where
 name:List UInt8
 level:Int
 parent:Int
 bJE:Int
 bIW:RF
structure cD where
 name:List UInt8
 model:Int
 machine:Int
structure dA where
 name:List UInt8
 k:Int
 m:Int
 bJI:Int
 s0:Int
 s1:Int
 s2:Int
 s3:Int
 s4:Int
 bIF:List Int
 repair:List RF
 target:RF
 bIQ:RF
structure eD where
 name:List UInt8
 bIS:Int
structure aH where
 bJS:Int
 bIN:List cK
 bIF:List cV
 bIH:List bP
 bIE:List cD
 bII:List dA
 bIG:List eD
abbrev a3U (l:List (List RF)):PV:=.sl 1 (l.map fun r=>[frs r])
abbrev cK.cells (x:cK):List PV:=[.str x.name,frs x.start,a3U x.bIJ,frs x.exit]
abbrev cV.cells (x:cV):List PV:=[.str x.name,.int .i64 x.bIY,.int .i64 x.port,.int .i64 x.law]
abbrev bP.cells (x:bP):List PV:=[.str x.name,.int .i64 x.level,.int .i64 x.parent,.int .i64 x.bJE,.bool x.bIW.neg,aF x.bIW.num,aF x.bIW.den]
abbrev cD.cells (x:cD):List PV:=[.str x.name,.int .i64 x.model,.int .i64 x.machine]
abbrev dA.cells (x:dA):List PV:=[.str x.name,.int .i64 x.k,.int .i64 x.m,.int .i64 x.bJI,.int .i64 x.s0,.int .i64 x.s1,.int .i64 x.s2,.int .i64 x.s3,.int .i64 x.s4,ints x.bIF,frs x.repair,
 .bool x.target.neg,aF x.target.num,aF x.target.den,.bool x.bIQ.neg,aF x.bIQ.num,aF x.bIQ.den]
abbrev eD.cells (x:eD):List PV:=[.str x.name,.int .i64 x.bIS]
abbrev aH.cells (f:aH):List PV:=[.int .i64 f.bJS,.sl 4 (f.bIN.map cK.cells),.sl 4 (f.bIF.map cV.cells),.sl 7 (f.bIH.map bP.cells),.sl 3 (f.bIE.map cD.cells),.sl 17 (f.bII.map dA.cells),.sl 2 (f.bIG.map eD.cells)]
def dA.spread (p:dA) (level:Nat):Int:=match level with
 | 0=>p.s0
 | 1=>p.s1
 | 2=>p.s2
 | 3=>p.s3
 | _=>p.s4
abbrev Fits {α:Type} (l:List α):Prop:=l.length≤9223372036854775807
structure jK (l:List RF):Prop where
 fits:Fits l
 all:∀ x∈l,x.Ok
structure cK.Ok (x:cK):Prop where
 start:jK x.start
 exit:jK x.exit
 bIJ:Fits x.bIJ
 row:∀ r∈x.bIJ,jK r
structure dA.Ok (x:dA):Prop where
 k:cW x.k
 m:cW x.m
 bJI:cW x.bJI
 bIF:Fits x.bIF
 each:∀ m∈x.bIF,cW m
 repair:jK x.repair
 target:x.target.Ok
 bIQ:x.bIQ.Ok
structure aH.Ok (f:aH):Prop where
 bIN:Fits f.bIN
 bIF:Fits f.bIF
 bIH:Fits f.bIH
 bIE:Fits f.bIE
 bII:Fits f.bII
 bIG:Fits f.bIG
 law:∀ x∈f.bIN,x.Ok
 dom:∀ x∈f.bIH,x.bIW.Ok∧cW x.level∧cW x.parent
 drive:∀ x∈f.bIE,cW x.model∧cW x.machine
 bIS:∀ x∈f.bII,x.Ok
 volume:∀ x∈f.bIG,cW x.bIS
def mP (x:RF):FR:=if cN (val x.num) (val x.den) then gQ x.neg (val x.num) (val x.den) else .error 1
theorem a3O (x:RF):SS x.neg (val x.num) (val x.den)=frV (mP x):=by
 unfold SS mP
 split
 ·exact alU _ _ _
 ·rfl
def cI (x:RF):Bool:=match mP x with
 | .ok (n,a,b)=>!n&&(decide (cE a≤32)&&decide (cE b≤32))
 | .error _=>false
def cB (x:RF):Bool:=decide (val x.num≠0)
def sB (x:RF):Bool:=cN (val x.num) (val x.den)&&decide (pK x.neg (val x.num) (val x.den) false 1 1≤0)
def within (n lo hi:Int):Bool:=decide (lo≤n)&&decide (n≤hi)
def cP (R:List Bool) (i:Nat) (row:List RF):Nat→List Bool
 | 0=>R
 | k+1=>let R':=cP R i row k
  R'.set i (R'.getD i false||(row.map cB).getD k false&&R'.getD k false)
def xF (l:cK) (R:List Bool) (i:Nat):List Bool :=
 cP (R.set i (R.getD i false||(l.exit.map cB).getD i false)) i (l.bIJ.getD i []) (l.bIJ.getD i []).length
def cY (l:cK) (R:List Bool):Nat→List Bool
 | 0=>R
 | i+1=>xF l (cY l R i) i
def dJ (l:cK):Nat→List Bool
 | 0=>bKL l.exit.length false
 | r+1=>cY l (dJ l r) l.exit.length
def uO (l:cK):Bool:=(dJ l (l.exit.length+1)).all id
def kE (l:cK):Bool :=
 within l.start.length 1 4&&decide (l.exit.length=l.start.length)&&decide (l.bIJ.length=l.start.length)&&l.start.all cI&&l.exit.all cI
 && (bKJ l.bIJ.length).all (fun i=>decide ((l.bIJ.getD i []).length=l.start.length)&&(l.bIJ.getD i []).all cI&&!((l.bIJ.getD i []).map cB).getD i false)
 && (match nK (l.start.map RF.v) with
  | .ok (n,a,b)=>decide (pK n a b false 1 1=0)
  | .error _=>false)&&uO l
def distinct (l:List (List UInt8)):Bool:=(bKJ l.length).all fun i=>isName (l.getD i [])&&!(l.take i).contains (l.getD i [])
def FO (f:aH) (i:Nat) (d:bP):Bool :=
 within d.parent 0 i&&decide ((f.bIH.map bP.level).getD d.parent.toNat 0=IntKind.i64.wrap (d.level-1))&&within d.level 1 4&&within d.bJE 1 64&&cI d.bIW
def yA (f:aH) (r:bP) (t:List bP):Bool :=
 decide (r.name=[])&&decide (r.level=0)&&decide (r.parent=-1)&&decide (r.bJE=0)&&cI r.bIW&&!cB r.bIW
  && (bKJ t.length).all fun i=>match t[i]? with
   | some d=>FO f i d
   | none=>false
def mS (f:aH):Bool:=match f.bIH with
 | []=>false
 | r::t=>yA f r t
def HL (p:dA):Bool :=
 within p.k 1 6&&within p.m 0 4&&decide (p.k+p.m≤8)&&within p.bJI p.k (p.k+p.m)&&decide (p.s0=0)&&([p.s0,p.s1,p.s2,p.s3,p.s4].all fun n=>within n 0 8)
def yT (p:dA):Bool :=
 decide ((p.repair.length:Int)=max p.m 1)&&(p.repair.all fun x=>cI x&&cB x)&&cI p.target&&sB p.target&&cI p.bIQ
def jA (bIF:Nat) (p:dA):Bool :=
 HL p&&decide (p.bIF.length≠0)&&yT p&&(bKJ p.bIF.length).all fun j=>within (p.bIF.getD j 0) 0 ((bIF:Int)-1)&&!(p.bIF.take j).contains (p.bIF.getD j 0)
def jH (f:aH) (m:cV):Bool:=within m.bIY 1 16&&within m.port 1 64&&within m.law 0 ((f.bIN.length:Int)-1)
def gR (f:aH) (d:cD):Bool:=within d.model 0 ((f.bIF.length:Int)-1)&&within d.machine 0 ((f.bIH.length:Int)-1)&&decide ((f.bIH.map bP.level).getD d.machine.toNat 0=4)
def mQ (f:aH) (v:eD):Bool:=within v.bIS 0 ((f.bII.length:Int)-1)
def lM (f:aH):Bool:=within f.bJS 1 4&&decide (f.bIN.length≤4)&&decide (f.bIF.length≤4)&&decide (f.bIH.length≤40)&&decide (f.bIE.length≤24)&&decide (f.bII.length≤4)&&decide (f.bIG.length≤12)
def dM (f:aH):Bool :=
 lM f&&mS f&&(f.bIN.all kE&&f.bIF.all (jH f)&&f.bIE.all (gR f)&&f.bII.all (jA f.bIF.length)&&f.bIG.all (mQ f))
 && (distinct (f.bIN.map cK.name)&&distinct (f.bIF.map cV.name)&&distinct ((f.bIH.drop 1).map bP.name++f.bIE.map cD.name)&&distinct (f.bII.map dA.name)&&distinct (f.bIG.map eD.name))
theorem bA {t:Nat} {b b':Bool} {F:PF} {H:PH} (h:F t=some (.bool b)) (e:b=b'):aT [.tmp t] (bZ (.bool b')) .ret F H:=by
 subst e
 exact aX (.inr rfl) .nil (vs:=[.bool b]) (by rw[lC,oI,h,pZ]) PH.nil_le ⟨.refl _,rfl⟩
theorem brP {C:Ctx} (n lo hi:Int):wQ.wp C (aT gin.res (bZ (.bool (within n lo hi)))) (PF.args [.int .i64 n,.int .i64 lo,.int .i64 hi]) .nil:=by
 by_cases a:lo≤n
 ·by_cases b:n≤hi
  ·simp only[go_sem,γ,reduceCtorEq,wQ,acS,acT,gin,show n≥lo from a,b]
   exact bA rfl (by simp[within,a,b])
  ·simp only[go_sem,γ,reduceCtorEq,wQ,acS,acT,gin,show n≥lo from a,b]
   exact bA rfl (by simp[within,a,b])
 ·have a':¬ n≥lo:=a
  simp only[go_sem,γ,reduceCtorEq,wQ,acS,acT,gin,a']
  exact bA rfl (by simp[within,a])
theorem a7X {C:Ctx} (L:qM C) (x:RF) (hx:x.Ok):zY.wp C (aT MT.res (bZ (.bool (cB x)))) (PF.args [.agg x.cells]) .nil:=by
 simp only[go_sem,δ,γ,θ,zY,apG,apH,MT]
 refine aA (L.bits x.num hx.1 hx.2.2.1) rfl ?_
 simp only[go_sem,γ]
 refine bA rfl ?_
 have:=@jF (val x.num)
 rw[cB,decide_eq_decide]
 omega
structure axQ (C:Ctx):Prop extends EA C where
 frac:∀ n d:Int,cW n→cW d→aE C 115 [.int .i64 n,.int .i64 d] .nil (aD (adU n d))
 red:∀ x:RF,x.Ok→aE C 116 [.agg x.cells] .nil (aD (frV (mP x)))
 ord:∀ x y:RF,x.Ok→y.Ok→aE C 114 [.agg x.cells,.agg y.cells] .nil (aD (yD x.neg (val x.num) (val x.den) y.neg (val y.num) (val y.den)))
 plus:∀ x y:RF,x.Ok→y.Ok→aE C 113 [.agg x.cells,.agg y.cells] .nil (aD (frV (gW x.v y.v)))
 tot:∀ l:List RF,jK l→aE C 117 [frs l] .nil (aD (frV (nK (l.map RF.v))))
theorem HA {neg:Bool} {a b:Nat} {e:Int} (h:gQ neg a b=.error e):e=2:=by
 unfold gQ at h
 split at h
 ·injection h with h; exact h.symm
 ·cases h
theorem aIZ {x:RF} {e:Int} (h:mP x=.error e):e≠0:=by
 unfold mP at h
 split at h
 ·rw[HA h]; decide
 ·injection h with h; subst h; decide
theorem boZ {x:RF} {r:FV} (h:mP x=.ok r):r.rf.Ok:=by
 unfold mP at h
 split at h
 ·exact (qW h).2
 ·cases h
theorem bmS {C:Ctx} (L:axQ C) (x:RF) (hx:x.Ok):MZ.wp C (aT aCV.res (bZ (.bool (cI x)))) (PF.args [.agg x.cells]) .nil:=by
 simp only[go_sem,δ,γ,MZ,aSK,aSL,aCV]
 refine aA (L.red x hx) rfl ?_
 unfold cI
 cases hr:mP x with
 | error e =>
  have:=bF (aIZ hr)
  simp only[go_sem,δ,γ,frV]
  refine aQ fun o ho=>?_
  simp only[go_sem,δ,γ,reduceCtorEq,SN,this]
  exact bA rfl rfl
 | ok r =>
  obtain⟨n,a,b⟩:=r
  obtain⟨l1,l2,l3,l4⟩:=boZ hr
  simp only[go_sem,δ,γ,frV]
  refine aQ fun o ho=>?_
  cases n with
  | true =>
   simp only[go_sem,ρ,δ,γ,θ,reduceCtorEq,SN]
   exact bA rfl rfl
  | false =>
   simp only[go_sem,ρ,δ,γ,θ,SN]
   refine aA (L.bits _ l1 l3) rfl ?_
   rw[show val (FV.rf (false,a,b)).num=a from aR a]
   by_cases c1:cE a≤32
   ·have c1':((cE a:Nat):Int)≤32:=by omega
    simp only[go_sem,δ,γ,c1']
    refine aA (L.bits _ l2 l4) rfl ?_
    rw[show val (FV.rf (false,a,b)).den=b from aR b]
    simp only[go_sem,γ]
    refine bA rfl ?_
    rw[decide_eq_true c1]
    simp
    omega
   ·have c1':¬ ((cE a:Nat):Int)≤32:=by omega
    simp only[go_sem,γ,reduceCtorEq,c1']
    refine bA rfl ?_
    rw[decide_eq_false c1]
    rfl
theorem aEW:gQ false 1 1=.ok (false,1,1):=by
 have:cE 1=1:=by rw[nC (by decide),iU]
 simp[gQ,this]
theorem aFB:adU 1 1=frV (.ok (false,1,1)):=by
 rw[adU,if_neg (by decide),alU]
 show frV (gQ false 1 1)=_
 rw[aEW]
theorem a9U:(FV.rf (false,1,1)).Ok:=(qW aEW).2
theorem atS:cN 1 1=true:=by
 have:cE 1=1:=by rw[nC (by decide),iU]
 simp[cN,this]
theorem bmW {C:Ctx} (L:axQ C) (x:RF) (hx:x.Ok):NB.wp C (aT gone.res (bZ (.bool (sB x)))) (PF.args [.agg x.cells]) .nil:=by
 simp only[go_sem,NB,aSP,aSQ,gone]
 refine aA (L.frac 1 1 (by decide) (by decide)) rfl ?_
 rw[aFB]
 simp only[go_sem,δ,γ,frV]
 refine aQ fun o ho=>?_
 simp only[go_sem,δ,γ,aSR]
 refine aA (L.ord x (FV.rf (false,1,1)) hx a9U) rfl ?_
 rw[show val (FV.rf (false,1,1)).num=1 from aR 1,show val (FV.rf (false,1,1)).den=1 from aR 1,show (FV.rf (false,1,1)).neg=false from rfl]
 unfold yD sB
 rw[atS,bMI]
 cases hv:cN (val x.num) (val x.den) with
 | false =>
  simp only[go_sem,ρ,γ,reduceCtorEq,alL]
  exact bA rfl rfl
 | true =>
  simp only[go_sem,ρ,γ,alL]
  exact bA rfl rfl
theorem bfQ {C:Ctx} (p:RF→Bool) (fn:Nat) (l:List RF) (hf:Fits l) (h:∀ x∈l,aE C fn [.agg x.cells] .nil (aD (.bool (p x)))) :
  GC.wp C (aT acP.res (bZ (.bool (l.all p)))) (PF.args [frs l,.fn fn []]) .nil:=by
 simp only[go_sem,γ,reduceCtorEq,GC,aBS,aBT,acP]
 refine wp_loop (α:=Nat) (fun k=>((((PF.nil.set 1 (.fn fn [])).set 7 (frs l)).set 8 (.int .i64 (l.length:Nat))).set 9 (.int .i64 k))) (fun _=>.nil) (fun k=>k≤l.length∧(l.take k).all p=true) (fun k=>l.length-k) 0 ⟨bKT _,rfl⟩ ?_ PH.nil_le ?_
 ·(repeat' (first|exact PF.nil_le|refine PF.aK ?_ ?_))<;>first|(simp only[go_sem,γ,bKI]<;>rfl)|rfl
 rintro k ⟨hk,ha⟩
 simp only[go_sem,γ,aBR,aBU]
 by_cases hlt:k<l.length
 ·have bIL:(k:Int)<(l.length:Nat):=by omega
  have hr:(l.map RF.cells)[k]?=some (l[k]).cells:=by simp[hlt]
  simp only[go_sem,δ,γ,bIL,aBV,hr]
  refine aQ fun o ho=>?_
  simp only[go_sem,δ,γ,aBW]
  refine⟨fn,[],rfl,?_⟩
  refine aA (h _ (bKM hlt)) rfl ?_
  cases hp:p l[k] with
  | false =>
   simp only[go_sem,γ,aBX]
   exact bA (b:=false) rfl (nB (p:=p) hlt hp).symm
  | true =>
   simp only[go_sem,γ,aBY,wZz k]
   refine aI (k+1) ⟨hlt,bLA.1 (nA hlt ha hp)⟩ Om ?_ PH.nil_le
   exact Lq
 ·have bIL:¬ (k:Int)<(l.length:Nat):=by omega
  simp only[go_sem,bIL,aBZ]
  have:k=l.length:=by omega
  subst this
  rw[bKZ (bKK _)] at ha
  exact bA rfl ha.symm
theorem bfS {C:Ctx} (p:Int→Bool) (fn:Nat) (l:List Int) (hf:Fits l) (h:∀ x∈l,aE C fn [.int .i64 x] .nil (aD (.bool (p x)))) :
  GD.wp C (aT acQ.res (bZ (.bool (l.all p)))) (PF.args [ints l,.fn fn []]) .nil:=by
 simp only[go_sem,γ,reduceCtorEq,GD,aCB,aCC,acQ]
 refine wp_loop (α:=Nat) (fun k=>((((PF.nil.set 1 (.fn fn [])).set 7 (ints l)).set 8 (.int .i64 (l.length:Nat))).set 9 (.int .i64 k))) (fun _=>.nil) (fun k=>k≤l.length∧(l.take k).all p=true) (fun k=>l.length-k) 0 ⟨bKT _,rfl⟩ ?_ PH.nil_le ?_
 ·(repeat' (first|exact PF.nil_le|refine PF.aK ?_ ?_))<;>first|(simp only[go_sem,γ,bKI]<;>rfl)|rfl
 rintro k ⟨hk,ha⟩
 simp only[go_sem,γ,aCA,aCD]
 by_cases hlt:k<l.length
 ·have bIL:(k:Int)<(l.length:Nat):=by omega
  have hr:(l.map fun n=>[PV.int .i64 n])[k]?=some [.int .i64 l[k]]:=by simp[hlt]
  simp only[go_sem,γ,bIL,aCE,hr,aCF]
  refine⟨fn,[],rfl,?_⟩
  refine aA (h _ (bKM hlt)) rfl ?_
  cases hp:p l[k] with
  | false =>
   simp only[go_sem,γ,aCG]
   exact bA (b:=false) rfl (nB (p:=p) hlt hp).symm
  | true =>
   simp only[go_sem,γ,aCH,wZz k]
   refine aI (k+1) ⟨hlt,bLA.1 (nA hlt ha hp)⟩ Om ?_ PH.nil_le
   exact Lq
 ·have bIL:¬ (k:Int)<(l.length:Nat):=by omega
  simp only[go_sem,bIL,aCI]
  have:k=l.length:=by omega
  subst this
  rw[bKZ (bKK _)] at ha
  exact bA rfl ha.symm
abbrev a0U (l:List Bool):PV:=.sl 1 (l.map fun b=>[PV.bool b])
theorem bfO {C:Ctx} (p:Bool→Bool) (fn:Nat) (l:List Bool) (hf:Fits l) (h:∀ x∈l,aE C fn [.bool x] .nil (aD (.bool (p x)))) :
  GB.wp C (aT acO.res (bZ (.bool (l.all p)))) (PF.args [a0U l,.fn fn []]) .nil:=by
 simp only[go_sem,γ,reduceCtorEq,GB,aBJ,aBK,acO]
 refine wp_loop (α:=Nat) (fun k=>((((PF.nil.set 1 (.fn fn [])).set 7 (a0U l)).set 8 (.int .i64 (l.length:Nat))).set 9 (.int .i64 k))) (fun _=>.nil) (fun k=>k≤l.length∧(l.take k).all p=true) (fun k=>l.length-k) 0 ⟨bKT _,rfl⟩ ?_ PH.nil_le ?_
 ·(repeat' (first|exact PF.nil_le|refine PF.aK ?_ ?_))<;>first|(simp only[go_sem,γ,bKI]<;>rfl)|rfl
 rintro k ⟨hk,ha⟩
 simp only[go_sem,γ,aBI,aBL]
 by_cases hlt:k<l.length
 ·have bIL:(k:Int)<(l.length:Nat):=by omega
  have hr:(l.map fun b=>[PV.bool b])[k]?=some [.bool l[k]]:=by simp[hlt]
  simp only[go_sem,γ,bIL,aBM,hr,aBN]
  refine⟨fn,[],rfl,?_⟩
  refine aA (h _ (bKM hlt)) rfl ?_
  cases hp:p l[k] with
  | false =>
   simp only[go_sem,γ,aBO]
   exact bA (b:=false) rfl (nB (p:=p) hlt hp).symm
  | true =>
   simp only[go_sem,γ,aBP,wZz k]
   refine aI (k+1) ⟨hlt,bLA.1 (nA hlt ha hp)⟩ Om ?_ PH.nil_le
   exact Lq
 ·have bIL:¬ (k:Int)<(l.length:Nat):=by omega
  simp only[go_sem,bIL,aBQ]
  have:k=l.length:=by omega
  subst this
  rw[bKZ (bKK _)] at ha
  exact bA rfl ha.symm
theorem a7Z {C:Ctx} (b:Bool):zZ.wp C (aT MU.res (bZ (.bool b))) (PF.args [.bool b]) .nil:=by
 simp only[go_sem,γ,reduceCtorEq,zZ,apI,apJ,MU]
 exact bA rfl rfl
theorem bfX {C:Ctx} (hin:∀ n lo hi:Int,aE C 104 [.int .i64 n,.int .i64 lo,.int .i64 hi] .nil (aD (.bool (within n lo hi)))) (n:Int):GI.wp C (aT acU.res (bZ (.bool (within n 0 8)))) (PF.args [.int .i64 n]) .nil:=by
 simp only[go_sem,reduceCtorEq,GI,aCX,aCY,acU]
 refine aA (hin n 0 8) rfl ?_
 simp only[go_sem,γ]
 exact bA rfl rfl
theorem a8C {C:Ctx} (h1:∀ x:RF,x.Ok→aE C 105 [.agg x.cells] .nil (aD (.bool (cI x)))) (h2:∀ x:RF,x.Ok→aE C 97 [.agg x.cells] .nil (aD (.bool (cB x)))) (x:RF) (hx:x.Ok) :
  AA.wp C (aT ND.res (bZ (.bool (cI x&&cB x)))) (PF.args [.agg x.cells]) .nil:=by
 simp only[go_sem,δ,γ,AA,apO,apP,ND]
 refine aA (h1 x hx) rfl ?_
 cases hl:cI x with
 | false =>
  simp only[go_sem,γ,reduceCtorEq]
  exact bA rfl rfl
 | true =>
  simp only[go_sem,δ,γ]
  refine aA (h2 x hx) rfl ?_
  simp only[go_sem,γ]
  exact bA rfl rfl
structure qL (C:Ctx):Prop extends axQ C where
 inn:∀ n lo hi:Int,aE C 104 [.int .i64 n,.int .i64 lo,.int .i64 hi] .nil (aD (.bool (within n lo hi)))
 uF:∀ x:RF,x.Ok→aE C 97 [.agg x.cells] .nil (aD (.bool (cB x)))
 lim:∀ x:RF,x.Ok→aE C 105 [.agg x.cells] .nil (aD (.bool (cI x)))
 one:∀ x:RF,x.Ok→aE C 101 [.agg x.cells] .nil (aD (.bool (sB x)))
 allf:∀ (p:RF→Bool) (fn:Nat) (l:List RF),Fits l→(∀ x∈l,aE C fn [.agg x.cells] .nil (aD (.bool (p x))))→aE C 99 [frs l,.fn fn []] .nil (aD (.bool (l.all p)))
 alli:∀ (p:Int→Bool) (fn:Nat) (l:List Int),Fits l→(∀ x∈l,aE C fn [.int .i64 x] .nil (aD (.bool (p x))))→aE C 100 [ints l,.fn fn []] .nil (aD (.bool (l.all p)))
 allb:∀ (p:Bool→Bool) (fn:Nat) (l:List Bool),Fits l→(∀ x∈l,aE C fn [.bool x] .nil (aD (.bool (p x))))→aE C 98 [a0U l,.fn fn []] .nil (aD (.bool (l.all p)))
 ends1:∀ b:Bool,aE C 103 [.bool b] .nil (aD (.bool b))
 num1:∀ n:Int,aE C 107 [.int .i64 n] .nil (aD (.bool (within n 0 8)))
 rate1:∀ x:RF,x.Ok→aE C 109 [.agg x.cells] .nil (aD (.bool (cI x&&cB x)))
 name:∀ s:List UInt8,aE C 123 [.str s] .nil (aD (.bool (isName s)))
theorem qL.bgQ {C:Ctx} (L:qL C) (l:List RF) (h:jK l):aE C 99 [frs l,.fn 105 []] .nil (aD (.bool (l.all cI))) :=
 L.allf cI 105 l h.fits fun x hx=>L.lim x (h.all x hx)
theorem within_iff {n lo hi:Int}:within n lo hi=true↔lo≤n∧n≤hi:=by simp[within]
theorem bmU {C:Ctx} (L:qL C) (p:dA) (hp:p.Ok) :
  NA.wp C (aT aCW.res (bZ (.bool (HL p)))) (PF.args [.int .i64 p.k,.int .i64 p.m,.int .i64 p.bJI,.agg [.int .i64 p.s0,.int .i64 p.s1,.int .i64 p.s2,.int .i64 p.s3,.int .i64 p.s4]]) .nil:=by
 simp only[go_sem,reduceCtorEq,NA,aSM,aSN,aCW]
 refine aA (L.inn p.k 1 6) rfl ?_
 unfold HL
 cases h1:within p.k 1 6 with
 | false =>
  simp only[go_sem,γ,bKW,vT]
  exact bA rfl (by simp only[bKO])
 | true =>
  obtain⟨k1,k2⟩:=within_iff.1 h1
  simp only[go_sem,γ,bKR]
  refine aA (L.inn p.m 0 4) rfl ?_
  cases h2:within p.m 0 4 with
  | false =>
   simp only[go_sem,γ,reduceCtorEq,bKW,vT]
   exact bA rfl (by simp only[bKO,bLQ])
  | true =>
   obtain⟨m1,m2⟩:=within_iff.1 h2
   have hw:IntKind.i64.wrap (p.k+p.m)=p.k+p.m:=wrap_i64 Om Om
   by_cases h3:p.k+p.m≤8
   ·have h3':¬ p.k+p.m>8:=by omega
    simp only[go_sem,γ,reduceCtorEq,bKR,hw,h3']
    refine aA (L.inn p.bJI p.k (p.k+p.m)) rfl ?_
    cases h4:within p.bJI p.k (p.k+p.m) with
    | false =>
     simp only[go_sem,γ,reduceCtorEq,bKW,vT]
     exact bA rfl (by simp only[bKO,bLQ])
    | true =>
     have h50:(0:Int)<((5:Nat):Int):=by decide
     by_cases h5:p.s0=0
     ·have hch:chunks 1 5 [PV.int .i64 p.s0,.int .i64 p.s1,.int .i64 p.s2,.int .i64 p.s3,.int .i64 p.s4]=([p.s0,p.s1,p.s2,p.s3,p.s4].map fun n=>[PV.int .i64 n]):=rfl
      have hm:5≤maxLen:=by decide
      simp only[go_sem,ν,δ,γ,η,θ,ζ,reduceCtorEq,bKR,h50,cA h5,aSO,hch,hm]
      refine aA (L.alli (fun n=>within n 0 8) 107 [p.s0,p.s1,p.s2,p.s3,p.s4] (show 5≤9223372036854775807 by decide) fun x _=>L.num1 x) rfl ?_
      simp only[go_sem,γ]
      exact bA rfl (by rw[decide_eq_true h3,decide_eq_true h5]; simp only[bKS])
     ·simp only[go_sem,ν,δ,γ,θ,ζ,reduceCtorEq,bKR,h50,cQ h5,vT]
      exact bA rfl (by rw[decide_eq_false h5]; simp only[bKO,bLQ])
   ·have h3':p.k+p.m>8:=by omega
    simp only[go_sem,γ,reduceCtorEq,bKR,hw,h3',vT]
    exact bA rfl (by rw[decide_eq_false h3]; simp only[bKO,bLQ])
theorem max_eq (a b:Int):(if a<b then b else a)=max a b:=by
 rw[Int.max_def]
 by_cases h:a<b
 ·rw[if_pos h,if_pos Om]
 ·by_cases h':a≤b
  ·rw[if_neg h,if_pos h']; omega
  ·rw[if_neg h,if_neg h']
theorem bfZ {C:Ctx} (L:qL C) (p:dA) (hp:p.Ok) :
  GJ.wp C (aT acV.res (bZ (.bool (yT p)))) (PF.args [.int .i64 p.m,frs p.repair,.agg p.target.cells,.agg p.bIQ.cells]) .nil:=by
 simp only[go_sem,γ,reduceCtorEq,GJ,aDD,aDE,acV,max_eq,bKI]
 unfold yT
 by_cases h1:(p.repair.length:Int)=max p.m 1
 ·simp only[go_sem,γ,bT h1]
  refine aA (L.allf (fun x=>cI x&&cB x) 109 p.repair hp.repair.fits fun x hx=>L.rate1 x (hp.repair.all x hx)) rfl ?_
  rw[decide_eq_true h1,bKS]
  cases h2:p.repair.all fun x=>cI x&&cB x with
  | false =>
   simp only[go_sem,γ,reduceCtorEq]
   exact bA rfl rfl
  | true =>
   simp only[go_sem,δ,γ]
   refine aA (L.lim _ hp.target) rfl ?_
   cases h3:cI p.target with
   | false =>
    simp only[go_sem,γ,reduceCtorEq]
    exact bA rfl rfl
   | true =>
    simp only[go_sem,δ,γ]
    refine aA (L.one _ hp.target) rfl ?_
    cases h4:sB p.target with
    | false =>
     simp only[go_sem,γ,reduceCtorEq]
     exact bA rfl rfl
    | true =>
     simp only[go_sem,δ,γ]
     refine aA (L.lim _ hp.bIQ) rfl ?_
     simp only[go_sem,γ]
     exact bA rfl rfl
 ·simp only[go_sem,γ,reduceCtorEq,bF h1]
  exact bA rfl (by rw[decide_eq_false h1]; rfl)
def oK (l:List (List UInt8)) (k:List KS):Option PV:=match k with
 | [.str s]=>if l.contains s then some (.bool true) else none
 | _=>none
theorem baV (l:List (List UInt8)) (s:List UInt8):(fun k=>if k=[KS.str s] then some (PV.bool true) else oK l k)=oK (l++[s]):=by
 funext k
 match k with
 | []=>rfl
 | [.int a b]=>simp[oK]
 | [.bool a]=>simp[oK]
 | [.str t] =>
  by_cases h:t=s
  ·subst h; simp[oK]
  ·simp[oK,h]
 | a::b::c=>simp[oK]
abbrev texts (l:List (List UInt8)):PV:=.sl 1 (l.map fun s=>[PV.str s])
theorem baU:oK []=(fun _=>none:eT):=by
 funext k
 match k with
 | []=>rfl
 | [.int a b]=>rfl
 | [.bool a]=>rfl
 | [.str t]=>rfl
 | a::b::c=>cases a<;>rfl
theorem baW (l:List (List UInt8)) (s:List UInt8):eT.upd (oK l) [KS.str s] (.bool true)=oK (l++[s]):=baV l s
theorem aJK (l:List (List UInt8)) (s:List UInt8):(oK l [KS.str s]).getD (.bool false)=.bool (l.contains s):=by
 show (if l.contains s then some (PV.bool true) else none).getD (.bool false)=_
 cases l.contains s<;>rfl
theorem amS {p:Nat→Bool} {k:Nat} (h:(bKJ k).all p=true) (hp:p k=true):(bKJ (k+1)).all p=true:=by
 rw[List.range_succ,List.all_append,h]; simp[hp]
theorem dP {p:Nat→Bool} {n k:Nat} (hk:k<n) (hp:p k=false):(bKJ n).all p=false:=by
 rw[List.all_eq_false]
 exact⟨k,bLL.2 hk,by simp[hp]⟩
def mR (p:Nat→Bool) (k:Nat):Prop:=(bKJ k).all p=true
theorem mR.zero {p:Nat→Bool}:mR p 0:=rfl
theorem mR.step {p:Nat→Bool} {k:Nat} (h:mR p k) (hp:p k=true):mR p (k+1):=amS h hp
def a4S (l:List (List UInt8)) (o k:Nat):PF:=((((PF.nil.set 3 (.map o)).set 7 (texts l)).set 8 (.int .i64 (l.length:Nat))).set 9 (.int .i64 k))
theorem bgC {C:Ctx} (L:qL C) (l:List (List UInt8)) (hf:Fits l):GK.wp C (aT acW.res (bZ (.bool (distinct l)))) (PF.args [texts l]) .nil:=by
 simp only[go_sem,GK,aDG,aDH,acW]
 refine aQ fun o ho=>?_
 simp only[go_sem,γ,reduceCtorEq,aDI]
 have e0:(PH.nil.set o (.map (false,[.str]) (fun _=>none)))=PH.nil.set o (.map (false,[.str]) (oK (l.take 0))):=by rw[List.take_zero,baU]
 unfold distinct
 generalize hp:(fun i=>isName (l.getD i [])&&!(l.take i).contains (l.getD i []))=p
 have hpk:∀ k (h:k<l.length),p k=(isName l[k]&&!(l.take k).contains l[k]):=by
  intro k h
  rw[← hp]
  simp only[bLC,bKU h,bNE]
 refine wp_loop (α:=Nat) (fun k=>a4S l o k) (fun k=>PH.nil.set o (.map (false,[.str]) (oK (l.take k)))) (fun k=>k≤l.length∧mR p k) (fun k=>l.length-k) 0 ⟨bKT _,.zero⟩ ?_ ?_ ?_
 ·unfold a4S
  (repeat' (first|exact PF.nil_le|refine PF.aK ?_ ?_))<;>first|(simp only[go_sem,γ,bKI]<;>rfl)|rfl
 ·rw[e0]; exact PH.le_refl
 rintro k ⟨hk,ha⟩
 simp only[go_sem,γ,aDF,aDJ,a4S]
 by_cases hlt:k<l.length
 ·have bIL:(k:Int)<(l.length:Nat):=by omega
  have hr:(l.map fun s=>[PV.str s])[k]?=some [.str l[k]]:=by simp[hlt]
  simp only[go_sem,γ,bIL,aDK,hr,aDL]
  refine aA (L.name l[k]) rfl ?_
  have hk2:=hpk k hlt
  cases h1:isName l[k] with
  | false =>
   rw[h1,bKO] at hk2
   simp only[go_sem,γ,bKW,WZ]
   exact bA (b:=false) rfl (dP hlt hk2).symm
  | true =>
   rw[h1,bKS] at hk2
   cases h2:(l.take k).contains l[k] with
   | true =>
    rw[h2] at hk2
    simp only[go_sem,γ,reduceCtorEq,bKR,aJK,h2,WZ]
    exact bA (b:=false) rfl (dP hlt hk2).symm
   | false =>
    rw[h2] at hk2
    simp only[go_sem,γ,reduceCtorEq,bKR,aJK,h2,aDM,baW,aDN,wZz k]
    refine aI (k+1) ⟨hlt,ha.step hk2⟩ Om ?_ ?_
    ·exact Lq
    ·rw[bMA hlt]
     exact PH.aK PH.nil_le Sq
 ·have bIL:¬ (k:Int)<(l.length:Nat):=by omega
  simp only[go_sem,bIL,apQ]
  have:k=l.length:=by omega
  subst this
  exact bA (b:=true) rfl (show mR p l.length from ha).symm
def marks (n:Nat) (l:List Int):List Bool:=(bKJ n).map fun (i:Nat)=>l.contains (i:Int)
theorem a8T (n:Nat):marks n []=bKL n false:=by
 refine List.ext_getElem (by simp[marks]) fun i h1 h2=>by simp[marks]
theorem bgU {n:Nat} {l:List Int} {m:Int} (h0:0≤m) (h1:m<n):(marks n l)[m.toNat]?=some (l.contains m):=by
 have:m.toNat<n:=by omega
 simp only[marks,bLN,List.getElem?_range this,bLT]
 rw[Int.toNat_of_nonneg h0]
theorem a8U {n:Nat} {l:List Int} {m:Int} (h0:0≤m) (h1:m<n):(marks n l).set m.toNat true=marks n (l++[m]):=by
 refine List.ext_getElem (by simp[marks]) fun i h2 h3=>?_
 simp only[marks,bMS,List.getElem_range,List.getElem_set,List.contains_append]
 by_cases h:m.toNat=i
 ·subst h
  rw[if_pos rfl,Int.toNat_of_nonneg h0]; simp
 ·have hne:((i:Nat):Int)≠m:=by omega
  rw[if_neg h]; simp[hne]
abbrev fP (l:List Bool):List (List PV):=l.map fun b=>[PV.bool b]
theorem kP (l:List Bool) (i:Nat) (b:Bool):(fP l).set i [.bool b]=fP (l.set i b):=by unfold fP; rw[List.map_set]
structure ayG (C:Ctx):Prop extends qL C where
 num:∀ p:dA,p.Ok→aE C 106 [.int .i64 p.k,.int .i64 p.m,.int .i64 p.bJI,.agg [.int .i64 p.s0,.int .i64 p.s1,.int .i64 p.s2,.int .i64 p.s3,.int .i64 p.s4]] .nil (aD (.bool (HL p)))
 rate:∀ p:dA,p.Ok→aE C 108 [.int .i64 p.m,frs p.repair,.agg p.target.cells,.agg p.bIQ.cells] .nil (aD (.bool (yT p)))
 uniq:∀ l:List (List UInt8),Fits l→aE C 110 [texts l] .nil (aD (.bool (distinct l)))
def bhN (p:dA) (bIF:Nat) (o k:Nat):PF:=(((((PF.nil.set 1 (.int .i64 bIF)).set 5 (.osl o 1 0 bIF)).set 39 (ints p.bIF)).set 40 (.int .i64 (p.bIF.length:Nat))).set 41 (.int .i64 k))
theorem bmY {C:Ctx} (L:ayG C) (p:dA) (hp:p.Ok) (bIF:Nat) (hm:bIF≤4):NC.wp C (aT aCZ.res (bZ (.bool (jA bIF p)))) (PF.args [.agg p.cells,.int .i64 bIF]) .nil:=by
 simp only[go_sem,δ,γ,θ,NC,aSS,aST,aCZ]
 refine aA (L.num p hp) rfl ?_
 unfold jA
 cases h1:HL p with
 | false =>
  simp only[go_sem,γ,bKW,SO]
  exact bA rfl (by simp only[bKO])
 | true =>
  by_cases h2:p.bIF.length=0
  ·simp only[go_sem,δ,γ,θ,reduceCtorEq,bKR,bKI,bT (Om:((p.bIF.length:Nat):Int)=0),SO]
   refine bA rfl ?_
   have:decide (p.bIF.length≠0)=false:=by simp[h2]
   rw[this]; simp only[bKO,bLQ]
  ·have h2':decide (p.bIF.length≠0)=true:=by simp[h2]
   simp only[go_sem,δ,γ,θ,reduceCtorEq,bKR,bKI,bF (Om:((p.bIF.length:Nat):Int)≠0)]
   refine aA (L.rate p hp) rfl ?_
   rw[h2']
   cases h3:yT p with
   | false =>
    simp only[go_sem,γ,reduceCtorEq,bKW,SO]
    exact bA rfl (by simp only[bKO,bLQ])
   | true =>
    have hb1:((bIF:Nat):Int)*((1:Nat):Int)≤140737488355328:=by omega
    have hb2:((bIF:Nat):Int)≤9223372036854775807:=by omega
    simp only[bKS]
    simp only[go_sem,γ,reduceCtorEq,bKR,aSU,hb1,hb2]
    refine aQ fun o ho=>?_
    simp only[go_sem,δ,γ,θ,aSV]
    have e0:bKL bIF [PV.bool false]=fP (marks bIF (p.bIF.take 0)):=by
     rw[List.take_zero,a8T]; simp[fP]
    rw[e0]
    generalize hq:(fun j=>within (p.bIF.getD j 0) 0 ((bIF:Int)-1)&&!(p.bIF.take j).contains (p.bIF.getD j 0))=q
    have hqk:∀ k (h:k<p.bIF.length),q k=(within p.bIF[k] 0 ((bIF:Int)-1)&&!(p.bIF.take k).contains p.bIF[k]):=by
     intro k h
     rw[← hq]
     simp only[bLC,bKU h,bNE]
    refine wp_loop (α:=Nat) (fun k=>bhN p bIF o k) (fun k=>PH.nil.set o (.rows 1 (fP (marks bIF (p.bIF.take k))))) (fun k=>k≤p.bIF.length∧mR q k) (fun k=>p.bIF.length-k) 0 ⟨bKT _,.zero⟩ ?_ (PH.le_refl) ?_
    ·unfold bhN
     (repeat' (first|exact PF.nil_le|refine PF.aK ?_ ?_))<;>first|(simp only[go_sem,γ,bKI]<;>rfl)|rfl
    rintro k ⟨hk,ha⟩
    simp only[go_sem,γ,aDA,aSW,bhN]
    have bJT:=hp.bIF
    by_cases hlt:k<p.bIF.length
    ·have bIL:(k:Int)<(p.bIF.length:Nat):=by omega
     have hr:(p.bIF.map fun n=>[PV.int .i64 n])[k]?=some [.int .i64 p.bIF[k]]:=by simp[hlt]
     have hw:IntKind.i64.wrap ((bIF:Int)-1)=(bIF:Int)-1:=wrap_i64 Om Om
     simp only[go_sem,γ,bIL,aSX,hr,aSY,hw]
     refine aA (L.inn p.bIF[k] 0 ((bIF:Int)-1)) rfl ?_
     have hk2:=hqk k hlt
     cases h1:within p.bIF[k] 0 ((bIF:Int)-1) with
     | false =>
      rw[h1,bKO] at hk2
      simp only[go_sem,γ,bKW,alM]
      exact bA (b:=false) rfl (dP hlt hk2).symm
     | true =>
      rw[h1,bKS] at hk2
      obtain⟨i1,i2⟩:=within_iff.1 h1
      have i3:p.bIF[k]<(bIF:Nat):=by omega
      have hmk:(fP (marks bIF (p.bIF.take k)))[p.bIF[k].toNat]?=some [.bool ((p.bIF.take k).contains p.bIF[k])]:=by
       unfold fP
       rw[bLN,bgU i1 i3]; rfl
      cases h2:(p.bIF.take k).contains p.bIF[k] with
      | true =>
       rw[h2] at hk2 hmk
       simp only[go_sem,γ,reduceCtorEq,bKR,i1,i3,bLJ,hmk,alM]
       exact bA (b:=false) rfl (dP hlt hk2).symm
      | false =>
       rw[h2] at hk2 hmk
       simp only[go_sem,γ,reduceCtorEq,bKR,i1,i3,bLJ,hmk,aSZ,kP,a8U i1 i3,aDB,wZz k]
       refine aI (k+1) ⟨hlt,ha.step hk2⟩ Om ?_ ?_
       ·exact Lq
       ·rw[bMA hlt]
        exact PH.aK PH.nil_le Sq
    ·have bIL:¬ (k:Int)<(p.bIF.length:Nat):=by omega
     simp only[go_sem,bIL,aDC]
     have:k=p.bIF.length:=by omega
     subst this
     exact bA (b:=true) rfl (show mR q p.bIF.length from ha).symm
def beR:PV→RF
 | .agg [.bool n,a,b]=>⟨n,gY a,gY b⟩
 | _=>⟨false,[],[]⟩
theorem a1B (x:RF):beR (.agg x.cells)=x:=by
 show (⟨x.neg,gY (aF x.num),gY (aF x.den)⟩:RF)=x
 rw[dY,dY]
def flS:Spec:=fun name vs=>match name,vs with
 | 104,[.int _ n,.int _ lo,.int _ hi]=>some ([],fun _=>aD (.bool (within n lo hi)))
 | 105,[x]=>some ([],fun _=>aD (.bool (cI (beR x))))
 | 97,[x]=>some ([],fun _=>aD (.bool (cB (beR x))))
 | _,_=>none
theorem aAW (n lo hi:Int):flS 104 [.int .i64 n,.int .i64 lo,.int .i64 hi]=some ([],fun _=>aD (.bool (within n lo hi))):=rfl
theorem bmJ (x:RF):flS 105 [.agg x.cells]=some ([],fun _=>aD (.bool (cI x))):=by
 show some _=_; rw[a1B]
def a1W (f:aH) (t:List bP) (k:Nat):PF:=((((PF.nil.set 1 (.bH f.cells)).set 45 (.sl 7 (t.map bP.cells))).set 46 (.int .i64 (t.length:Nat))).set 47 (.int .i64 k))
theorem bmO {C:Ctx} (L:qL C) (f:aH) (hf:f.Ok):yH.wp C (aT alI.res (bZ (.bool (mS f)))) (PF.args [.agg f.cells]) .nil:=by
 obtain⟨bJS,bIN,bIF,bIH,bIE,bII,bIG⟩:=f
 cases bIH with
 | nil =>
  rw[show mS ⟨bJS,bIN,bIF,[],bIE,bII,bIG⟩=false from rfl]
  simp only[go_sem,δ,γ,θ,yH,alJ,alK,alI,List.map_nil,bMW]
  have:(((0:Nat):Int)==0)=true:=rfl
  simp only[go_sem,this,aRW]
  exact bA rfl rfl
 | cons r t =>
  generalize hF:(⟨bJS,bIN,bIF,r::t,bIE,bII,bIG⟩:aH)=f at *
  have hd:f.bIH=r::t:=by rw[← hF]
  have hP:mS f=yA f r t:=by unfold mS; rw[hd]
  rw[hP]
  unfold yA
  have hlen:f.bIH.length=t.length+1:=by rw[hd]; rfl
  have bJT:=hf.bIH
  have hr0:(f.bIH.map bP.cells)[0]?=some r.cells:=by rw[hd]; rfl
  have hr0':(f.bIH.map bP.cells)[Int.toNat 0]?=some r.cells:=hr0
  have hok:=hf.dom
  have hrok:=hok r (by rw[hd]; exact List.mem_cons_self ..)
  simp only[go_sem,ο,ν,δ,γ,θ,yH,alJ,alK,alI,bKI,hlen,bF (Om:((t.length+1:Nat):Int)≠0),aRX,hr0]
  refine aQ fun o ho=>?_
  by_cases c1:r.name=[]
  ·rw[decide_eq_true c1]
   by_cases c2:r.level=0
   ·rw[decide_eq_true c2]
    by_cases c3:r.parent=-1
    ·rw[decide_eq_true c3]
     by_cases c4:r.bJE=0
     ·rw[decide_eq_true c4]
      simp only[go_sem,ο,δ,γ,θ,reduceCtorEq,vQ,nO c1,bKR,cA c2,cA c3,cA c4]
      refine aA (L.lim r.bIW hrok.1) rfl ?_
      cases c5:cI r.bIW with
      | false =>
       simp only[go_sem,γ,reduceCtorEq,bKW,rU]
       exact bA rfl (by simp only[bLQ,bKO])
      | true =>
       simp only[go_sem,δ,γ,reduceCtorEq,bKR]
       refine aA (L.uF r.bIW hrok.1) rfl ?_
       cases c6:cB r.bIW with
       | true =>
        simp only[go_sem,γ,reduceCtorEq,rU]
        exact bA rfl (by simp only[bKR,bLQ,bKO])
       | false =>
        have hsl:(0:Int)≤1∧(1:Int)≤((t.length+1:Nat):Int):=by omega
        have hdrop:((f.bIH.map bP.cells).take (t.length+1)).drop (Int.toNat 1)=t.map bP.cells:=by
         rw[bKZ (by simp[hlen]),hd]; rfl
        have hdrop':((f.bIH.map bP.cells).take (t.length+1)).drop 1=t.map bP.cells:=hdrop
        simp only[go_sem,ν,δ,γ,θ,reduceCtorEq,aRY,bKI,hlen,hsl,hdrop',bNO]
        generalize hq:(fun i=>match t[i]? with | some d=>FO f i d | none=>false)=q
        have hqk:∀ k (h:k<t.length),q k=FO f k t[k]:=by
         intro k h
         rw[← hq]
         simp only[bKU h]
        refine wp_loop (α:=Nat) (fun k=>a1W f t k) (fun k=>.nil) (fun k=>k≤t.length∧mR q k) (fun k=>t.length-k) 0 ⟨bKT _,.zero⟩ ?_ PH.nil_le ?_
        ·unfold a1W
         (repeat' (first|exact PF.nil_le|refine PF.aK ?_ ?_))<;>first|(simp only[go_sem,γ,bKI]<;>rfl)|rfl
        rintro k ⟨hk,ha⟩
        simp only[go_sem,γ,aCJ,aRZ,a1W]
        by_cases hlt:k<t.length
        ·have bIL:(k:Int)<(t.length:Nat):=by omega
         have hrk:(t.map bP.cells)[k]?=some (t[k]).cells:=by simp[hlt]
         have hdk:=hok t[k] (by rw[hd]; exact List.mem_cons_of_mem _ (bKM hlt))
         have hk2:=hqk k hlt
         unfold FO at hk2
         simp only[go_sem,δ,γ,bIL,aSA,hrk]
         refine aQ fun o2 ho2=>?_
         simp only[go_sem,δ,γ]
         refine bS .nil flS PH.nil_le ?_
         simp only[go_sem,δ,γ,θ,reduceCtorEq,aSB]
         refine bQ (aAW _ 0 k) (L.inn (t[k]).parent 0 k) rfl PH.nil_le ?_
         cases e1:within (t[k]).parent 0 k with
         | false =>
          simp only[e1,bKO] at hk2
          simp only[go_sem,γ,bKW,rT]
          exact bA (b:=false) rfl (dP hlt hk2).symm
         | true =>
          obtain⟨i1,i2⟩:=within_iff.1 e1
          have i3:(t[k]).parent.toNat<f.bIH.length:=by omega
          have hpr:(f.bIH.map bP.cells)[(t[k]).parent.toNat]?=some (f.bIH[(t[k]).parent.toNat]).cells:=by simp[i3]
          have hlv:(f.bIH.map bP.level).getD (t[k]).parent.toNat 0=(f.bIH[(t[k]).parent.toNat]).level:=by simp[i3]
          rw[hlv,e1,bKS] at hk2
          by_cases e2:(f.bIH[(t[k]).parent.toNat]).level=IntKind.i64.wrap ((t[k]).level-1)
          ·rw[decide_eq_true e2,bKS] at hk2
           simp only[go_sem,δ,γ,θ,reduceCtorEq,bKR,i1,hpr,cA e2]
           refine bQ (aAW _ 1 4) (L.inn (t[k]).level 1 4) rfl PH.nil_le ?_
           cases e3:within (t[k]).level 1 4 with
           | false =>
            simp only[e3,bKO] at hk2
            simp only[go_sem,γ,reduceCtorEq,bKW,rT]
            exact bA (b:=false) rfl (dP hlt hk2).symm
           | true =>
            rw[e3,bKS] at hk2
            simp only[go_sem,δ,γ,θ,reduceCtorEq,bKR]
            refine bQ (aAW _ 1 64) (L.inn (t[k]).bJE 1 64) rfl PH.nil_le ?_
            cases e4:within (t[k]).bJE 1 64 with
            | false =>
             simp only[e4,bKO] at hk2
             simp only[go_sem,γ,reduceCtorEq,bKW,rT]
             exact bA (b:=false) rfl (dP hlt hk2).symm
            | true =>
             rw[e4,bKS] at hk2
             simp only[go_sem,δ,γ,reduceCtorEq,bKR]
             refine bQ (bmJ (t[k]).bIW) (L.lim _ hdk.1) rfl PH.nil_le ?_
             cases e5:cI (t[k]).bIW with
             | false =>
              rw[e5] at hk2
              simp only[go_sem,γ,reduceCtorEq,bKW,rT]
              exact bA (b:=false) rfl (dP hlt hk2).symm
             | true =>
              rw[e5] at hk2
              simp only[go_sem,γ,reduceCtorEq,bKR,aCK,wZz k]
              refine aI (k+1) ⟨hlt,ha.step hk2⟩ Om ?_ PH.nil_le
              exact Lq
          ·simp only[decide_eq_false e2,bKO] at hk2
           simp only[go_sem,δ,γ,θ,reduceCtorEq,bKR,i1,hpr,cQ e2,rT]
           exact bA (b:=false) rfl (dP hlt hk2).symm
        ·have bIL:¬ (k:Int)<(t.length:Nat):=by omega
         simp only[go_sem,bIL,aCL]
         have:k=t.length:=by omega
         subst this
         exact bA (b:=true) rfl (show mR q t.length from ha).symm
     ·simp only[go_sem,ο,δ,γ,θ,reduceCtorEq,vQ,nO c1,bKR,cA c2,cA c3,cQ c4,rU]
      exact bA rfl (by rw[decide_eq_false c4]; simp only[bLQ,bKO])
    ·simp only[go_sem,ο,δ,γ,θ,reduceCtorEq,vQ,nO c1,bKR,cA c2,cQ c3,rU]
     exact bA rfl (by rw[decide_eq_false c3]; simp only[bLQ,bKO])
   ·simp only[go_sem,ο,δ,γ,θ,reduceCtorEq,vQ,nO c1,bKR,cQ c2,rU]
    exact bA rfl (by rw[decide_eq_false c2]; simp only[bLQ,bKO])
  ·simp only[go_sem,ο,δ,γ,θ,vQ,aaB c1,bKW,rU]
   exact bA rfl (by rw[decide_eq_false c1]; simp only[bLQ,bKO])
theorem rD (R:List Bool) (i:Nat) (row:List RF):∀ k,(cP R i row k).length=R.length
 | 0=>rfl
 | k+1=>by simp only[cP,bMJ,rD R i row k]
theorem aIY (l:cK) (R:List Bool) (i:Nat):(xF l R i).length=R.length:=by
 unfold xF; rw[rD,bMJ]
theorem oH (l:cK) (R:List Bool):∀ i,(cY l R i).length=R.length
 | 0=>rfl
 | i+1=>by simp only[cY,aIY,oH l R i]
theorem oG (l:cK):∀ r,(dJ l r).length=l.exit.length
 | 0=>by simp[dJ]
 | r+1=>by simp only[dJ,oH,oG l r]
theorem pF {R:List Bool} {i:Nat} (h:i<R.length):(fP R)[i]?=some [.bool (R.getD i false)]:=by
 unfold fP
 rw[bLN,bKU h,bLC,bKU h]; rfl
theorem a6V (R:List Bool):(fP R).length=R.length:=by simp[fP]
def SE (l:cK) (o r:Nat):PF:=(((PF.nil.set 1 (.bH l.cells)).set 3 (.osl o 1 0 l.exit.length)).set 4 (.int .i64 r))
def FQ (l:cK) (o r i:Nat):PF:=(((((PF.nil.set 1 (.bH l.cells)).set 3 (.osl o 1 0 l.exit.length)).set 4 (.int .i64 r)).set 19 (.int .i64 (l.exit.length:Nat))).set 20 (.int .i64 i))
def qR (l:cK) (o r i:Nat) (row:List RF) (k:Nat):PF:=(((((((((PF.nil.set 1 (.bH l.cells)).set 3 (.osl o 1 0 l.exit.length)).set 4 (.int .i64 r)).set 19 (.int .i64 (l.exit.length:Nat))).set 20 (.int .i64 i)).set 5 (.int .i64 i)).set 42 (frs row)).set 43 (.int .i64 (row.length:Nat))).set 44 (.int .i64 k))
def gG (o:Nat) (R:List Bool):PH:=PH.nil.set o (.rows 1 (fP R))
theorem aOM {C:Ctx} (L:qL C) (l:cK) (o r i:Nat) (row:List RF) (bIR:jK row) (hrl:row.length=l.exit.length) (hi:i<l.exit.length) (hn:l.exit.length≤4) (R1:List Bool) (hR:R1.length=l.exit.length) (K:cO) (F:PF) (H:PH)
  (hF:(qR l o r i row 0).le F) (hH:(gG o R1).le H)
  (hK:∀ F H,(qR l o r i row row.length).le F→(gG o (cP R1 i row row.length)).le H→K .normal F H) :
  aC.wp C (.block 4 (.loop yI)) K F H:=by
 simp only[go_sem]
 refine wp_loop (α:=Nat) (fun k=>qR l o r i row k) (fun k=>gG o (cP R1 i row k)) (fun k=>k≤row.length) (fun k=>row.length-k) 0 (bKT _) hF hH ?_
 intro k hk
 simp only[go_sem,γ,yI,aCS,qR,gG]
 have hlen:=rD R1 i row k
 by_cases hlt:k<row.length
 ·have bIL:(k:Int)<(row.length:Nat):=by omega
  have hr:(row.map RF.cells)[k]?=some (row[k]).cells:=by simp[hlt]
  simp only[go_sem,δ,γ,bIL,apL,hr]
  refine aQ fun o7 ho7=>?_
  have n7:o≠o7:=by rintro rfl; simp only[bL,if_true] at ho7; cases ho7
  have hi':(i:Int)<(l.exit.length:Nat):=by omega
  have hk':(k:Int)<(l.exit.length:Nat):=by omega
  have hat:=pF (R:=cP R1 i row k) (i:=i) Om
  have hatk:=pF (R:=cP R1 i row k) (i:=k) Om
  have bIM:cP R1 i row (k+1)=(cP R1 i row k).set i ((cP R1 i row k).getD i false||cB row[k]&&(cP R1 i row k).getD k false):=by
   simp only[cP,bLC,bLN,bKU hlt,bLT,bNE]
  have fin:∀ (b:Bool) (F:PF) (H:PH),b=((cP R1 i row k).getD i false||cB row[k]&&(cP R1 i row k).getD k false)→(qR l o r i row (k+1)).le F→H o=some (.rows 1 ((fP (cP R1 i row k)).set i [.bool b])) →
    eI (fun k=>qR l o r i row k) (fun k=>gG o (cP R1 i row k)) (fun k=>k≤row.length) (fun k=>row.length-k) (row.length-k) (dZ 4 K) .normal F H:=by
   intro b F H hb hF hH
   refine aI (k+1) hlt Om hF ?_
   rw[kP,hb,← bIM] at hH
   exact PH.aK PH.nil_le hH
  unfold qR gG at fin
  generalize hb:(cP R1 i row k).getD i false=b at *
  generalize hc:(cP R1 i row k).getD k false=c at *
  generalize hA:cB row[k]=A at *
  cases b with
  | true =>
   simp only[go_sem,δ,γ,MW,n7,hi',bLJ,hat,yK,wZz k]
   exact fin true _ _ (by simp) Lq Sq
  | false =>
   simp only[go_sem,δ,γ,MW,n7,hi',bLJ,hat]
   refine aA (L.uF _ (bIR.all _ (bKM hlt))) rfl ?_
   rw[hA]
   cases A with
   | false =>
    simp only[go_sem,γ,reduceCtorEq,hi',hk',n7,bLJ,hat,hatk,yK,wZz k]
    exact fin false _ _ (by simp) Lq Sq
   | true =>
    simp only[go_sem,γ,reduceCtorEq,hi',hk',n7,bLJ,hat,hatk,yK,wZz k]
    exact fin c _ _ (by simp) Lq Sq
 ·have bIL:¬ (k:Int)<(row.length:Nat):=by omega
  simp only[go_sem,bIL]
  have:k=row.length:=by omega
  subst this
  exact hK _ _ (by unfold qR; exact Lq) (PH.le_refl)
structure xY (l:cK):Prop where
 n:l.exit.length≤4
 bIJ:l.bIJ.length=l.exit.length
 row:∀ r∈l.bIJ,r.length=l.exit.length
theorem aON {C:Ctx} (L:qL C) (l:cK) (hl:l.Ok) (he:xY l) (o r:Nat) (R:List Bool) (hR:R.length=l.exit.length) (K:cO) (F:PF) (H:PH)
  (hF:(FQ l o r 0).le F) (hH:(gG o R).le H)
  (hK:∀ F H,(SE l o r).le F→(gG o (cY l R l.exit.length)).le H→K .normal F H) :
  aC.wp C (.block 2 (.loop yJ)) K F H:=by
 simp only[go_sem]
 refine wp_loop (α:=Nat) (fun i=>FQ l o r i) (fun i=>gG o (cY l R i)) (fun i=>i≤l.exit.length) (fun i=>l.exit.length-i) 0 (bKT _) hF hH ?_
 intro i hi
 have hlen:=oH l R i
 have hn:=he.n
 by_cases hlt:i<l.exit.length
 ·have bIL:(i:Int)<(l.exit.length:Nat):=by omega
  have hir:i<l.bIJ.length:=by rw[he.bIJ]; exact hlt
  have hat:=pF (R:=cY l R i) (i:=i) Om
  have hx:(l.exit.map RF.cells)[i]?=some (l.exit[i]).cells:=by simp[hlt]
  have bIR:(l.bIJ.map fun r=>[frs r])[i]?=some [frs l.bIJ[i]]:=by simp[hir]
  have hrl:(l.bIJ[i]).length=l.exit.length:=he.row _ (bKM hir)
  generalize hR1:(cY l R i).set i ((cY l R i).getD i false||cB l.exit[i])=R1
  have hR1l:R1.length=l.exit.length:=by rw[← hR1,bMJ]; omega
  have bIM:cY l R (i+1)=cP R1 i l.bIJ[i] (l.bIJ[i]).length:=by
   simp only[cY,xF]
   have e1:(l.exit.map cB).getD i false=cB l.exit[i]:=by simp[bLC,hlt]
   have e2:l.bIJ.getD i []=l.bIJ[i]:=by simp[bLC,hir]
   rw[e1,e2,hR1]
  have rest:∀ (F:PF) (H:PH),(((((((PF.nil.set 1 (.bH l.cells)).set 3 (.osl o 1 0 l.exit.length)).set 4 (.int .i64 r)).set 19 (.int .i64 (l.exit.length:Nat))).set 20 (.int .i64 i)).set 5 (.int .i64 i)):PF).le F→H o=some (.rows 1 (fP R1)) →
    aC.wp C (.seq (.region WW) (.block 4 (.loop yI))) (dZ 3 (jB C (aC.wp C (.region MX)) (eI (fun i=>FQ l o r i) (fun i=>gG o (cY l R i)) (fun i=>i≤l.exit.length) (fun i=>l.exit.length-i) (l.exit.length-i) (dZ 2 K)))) F H:=by
   intro F H hF hH
   have f1:F 1=some (.bH l.cells):=hF 1 _ rfl
   have f3:F 3=some (.osl o 1 0 l.exit.length):=hF 3 _ rfl
   have f4:F 4=some (.int .i64 r):=hF 4 _ rfl
   have f19:F 19=some (.int .i64 (l.exit.length:Nat)):=hF 19 _ rfl
   have f20:F 20=some (.int .i64 i):=hF 20 _ rfl
   have f5:F 5=some (.int .i64 i):=hF 5 _ rfl
   rw[bqO]
   simp only[go_sem,δ,γ,θ,WW,f1,f5,bIR,bKI]
   have inner:=aOM L l o r i l.bIJ[i] (hl.row _ (bKM hir)) hrl hlt hn R1 hR1l
   simp only[aC.wp,go_sem] at inner
   refine inner _ _ _ ?_ (PH.aK PH.nil_le hH) ?_
   ·unfold qR
    exact Lq
   ·intro F' H' hF' hH'
    have g20:F' 20=some (.int .i64 i):=hF' 20 _ (by unfold qR; simp only[go_sem,γ])
    simp only[go_sem,MX,g20,wZz i]
    refine aI (i+1) hlt Om ?_ (by rw[bIM]; exact hH')
    have g:=fun (q:Nat) v h=>hF' q v h
    unfold FQ
    unfold qR at g
    refine PF.aK (PF.aK (PF.aK (PF.aK (PF.aK PF.nil_le ?_) ?_) ?_) ?_) ?_
    ·simp only[go_sem,γ]; exact g 1 _ rfl
    ·simp only[go_sem,γ]; exact g 3 _ rfl
    ·simp only[go_sem,γ]; exact g 4 _ rfl
    ·simp only[go_sem,γ]; exact g 19 _ rfl
    ·simp only[go_sem,γ]
  simp only[aC.wp,go_sem] at rest
  simp only[go_sem,γ,yJ,WU,FQ,gG,bIL,aCR]
  generalize hb:(cY l R i).getD i false=b at *
  cases b with
  | true =>
   simp only[go_sem,γ,WV,bIL,bLJ,hat]
   refine rest _ _ Lq ?_
   rw[← hR1]
   simp only[go_sem,kP,Bool.true_or]
  | false =>
   simp only[go_sem,δ,γ,WV,bIL,bLJ,hat,hx]
   refine aA (L.uF _ (hl.exit.all _ (bKM hlt))) rfl ?_
   simp only[go_sem,γ,reduceCtorEq,bIL,bLJ,hat]
   refine rest _ _ Lq ?_
   rw[← hR1]
   simp only[go_sem,kP,Bool.false_or]
 ·have bIL:¬ (i:Int)<(l.exit.length:Nat):=by omega
  simp only[go_sem,γ,yJ,WU,FQ,gG,bIL]
  have:i=l.exit.length:=by omega
  subst this
  exact hK _ _ (by unfold SE; exact Lq) PH.le_refl
theorem bfV {C:Ctx} (L:qL C) (l:cK) (hl:l.Ok) (he:xY l):GF.wp C (aT acR.res (bZ (.bool (uO l)))) (PF.args [.agg l.cells]) .nil:=by
 have hn:=he.n
 have hb1:((l.exit.length:Nat):Int)*((1:Nat):Int)≤140737488355328:=by omega
 have hb2:((l.exit.length:Nat):Int)≤9223372036854775807:=by omega
 simp only[go_sem,γ,GF,aCM,aCN,acR,bKI,hb1,hb2]
 refine aQ fun o ho=>?_
 simp only[go_sem,γ,aCO]
 refine wp_loop (α:=Nat) (fun r=>SE l o r) (fun r=>gG o (dJ l r)) (fun r=>r≤l.exit.length+1) (fun r=>l.exit.length+1-r) 0 (bKT _) ?_ ?_ ?_
 ·unfold SE
  exact Lq
 ·refine PH.aK PH.nil_le ?_
  simp only[go_sem,dJ]
  simp[fP]
 intro r hr
 have hlen:=oG l r
 simp only[go_sem,γ,apK,aCP,SE,gG]
 by_cases hlt:r≤l.exit.length
 ·have bIL:(r:Int)≤(l.exit.length:Nat):=by omega
  simp only[go_sem,γ,bIL,aCQ]
  have inner:=aON L l hl he o r (dJ l r) hlen
  simp only[aC.wp,go_sem] at inner
  refine inner _ _ _ ?_ PH.le_refl ?_
  ·unfold FQ
   exact Lq
  ·intro F' H' hF' hH'
   have g:=fun (q:Nat) v h=>hF' q v h
   unfold SE at g
   have g4:F' 4=some (.int .i64 r):=g 4 _ rfl
   simp only[go_sem,γ,apM,g4,wZz r]
   refine aI (r+1) Om Om ?_ hH'
   refine PF.aK (PF.aK (PF.aK PF.nil_le ?_) ?_) ?_
   ·simp only[go_sem,γ]; exact g 1 _ rfl
   ·simp only[go_sem,γ]; exact g 3 _ rfl
   ·simp only[go_sem,γ]
 ·have bIL:¬ (r:Int)≤(l.exit.length:Nat):=by omega
  have:r=l.exit.length+1:=by omega
  subst this
  simp only[go_sem,γ,bIL,apN]
  have bJL:=L.allb id 103 (dJ l (l.exit.length+1)) (Om:(dJ l (l.exit.length+1)).length≤_) fun x _=>L.ends1 x
  have hbl:(fP (dJ l (l.exit.length+1))).length=l.exit.length:=by rw[a6V,hlen]
  refine oY bJL (rs:=fP (dJ l (l.exit.length+1))) (o:=o) (s:=1) Sq ?_ ?_
  ·simp only[go_sem,γ,nT (show l.exit.length≤(fP (dJ l (l.exit.length+1))).length by omega),bKZ (show (fP (dJ l (l.exit.length+1))).length≤l.exit.length by omega)]
  ·simp only[go_sem,γ]
   exact bA rfl rfl
structure ZP (C:Ctx):Prop extends ayG C where
 ends:∀ l:cK,l.Ok→xY l→aE C 102 [.agg l.cells] .nil (aD (.bool (uO l)))
def pL (l:cK) (i:Nat):Bool:=decide ((l.bIJ.getD i []).length=l.start.length)&&(l.bIJ.getD i []).all cI&&!((l.bIJ.getD i []).map cB).getD i false
def sH (l:cK):Bool:=match nK (l.start.map RF.v) with
 | .ok (n,a,b)=>decide (pK n a b false 1 1=0)
 | .error _=>false
theorem aTI (l:cK):kE l=(within l.start.length 1 4&&decide (l.exit.length=l.start.length)&&decide (l.bIJ.length=l.start.length)&&l.start.all cI&&l.exit.all cI&&(bKJ l.bIJ.length).all (pL l)&&sH l&&uO l):=rfl
theorem aKE {l:List FV} {e:Int} (h:nK l=.error e):e≠0:=by
 have:∀ (l:List FV) (b:FV) (e:Int),l.foldlM gW b=.error e→e≠0:=by
  intro l
  induction l with
  | nil=>intro b e h; cases h
  | cons x t ih =>
   intro b e h
   rw[List.foldlM_cons] at h
   cases hx:gW b x with
   | error e' =>
    rw[hx] at h
    have:e'=e:=by injection h
    subst this
    obtain⟨n1,a1,b1⟩:=b
    obtain⟨n2,a2,b2⟩:=x
    simp only[gW] at hx
    split at hx
    ·split at hx
     ·rw[HA hx]; decide
     ·split at hx
      ·rw[HA hx]; decide
      ·rw[HA hx]; decide
    ·injection hx with hx; subst hx; decide
   | ok y=>rw[hx] at h; exact ih y e h
 exact this l _ e h
theorem aWT {l:List FV} {r:FV} (h:nK l=.ok r):r.rf.Ok:=by
 have:∀ (l:List FV) (b r:FV),b.rf.Ok→l.foldlM gW b=.ok r→r.rf.Ok:=by
  intro l
  induction l with
  | nil=>intro b r hb h; injection h with h; subst h; exact hb
  | cons x t ih =>
   intro b r hb h
   rw[List.foldlM_cons] at h
   cases hx:gW b x with
   | error e'=>rw[hx] at h; cases h
   | ok y=>rw[hx] at h; exact ih y r (akW hx) h
 refine this l _ r ⟨aU _,aU _,?_,?_⟩ h
 ·show (aG 0).length≤_
  rw[fC]; simp
 ·show (aG 1).length≤_
  rw[mK (by decide) (by decide)]; simp
theorem HB {neg:Bool} {a b:Nat} {r:FV} (hb:b≠0) (h:gQ neg a b=.ok r):cN r.2.1 r.2.2=true:=by
 unfold gQ at h
 split at h
 ·cases h
 ·rename_i hc
  injection h with h
  subst h
  have hg:bKN a b ∣ b:=Nat.gcd_dvd_right _ _
  have h0:b/bKN a b≠0:=by
   have:=Nat.div_pos (Nat.le_of_dvd (bMQ hb) hg) (bMQ fun h=>hb (Nat.gcd_eq_zero_iff.1 h).2)
   omega
  have h1:=@jF (b/bKN a b)
  simp only[cN,bLF,decide_eq_true_eq]
  omega
theorem a0L {x y r:FV} (h:gW x y=.ok r):cN r.2.1 r.2.2=true:=by
 obtain⟨n1,a1,b1⟩:=x
 obtain⟨n2,a2,b2⟩:=y
 simp only[gW] at h
 split at h
 ·rename_i hv
  rw[bLF] at hv
  have h0:b1*b2≠0:=Nat.mul_ne_zero (fD.1 hv.1).1 (fD.1 hv.2).1
  split at h
  ·exact HB h0 h
  ·split at h
   ·exact HB h0 h
   ·exact HB h0 h
 ·cases h
theorem a4Y:cN 0 1=true:=by
 have:cE 1=1:=by rw[nC (by decide),iU]
 simp[cN,this,iU]
theorem afQ {l:List FV} {r:FV} (h:nK l=.ok r):cN r.2.1 r.2.2=true:=by
 have:∀ (l:List FV) (b r:FV),cN b.2.1 b.2.2=true→l.foldlM gW b=.ok r→cN r.2.1 r.2.2=true:=by
  intro l
  induction l with
  | nil=>intro b r hb h; injection h with h; subst h; exact hb
  | cons x t ih =>
   intro b r hb h
   rw[List.foldlM_cons] at h
   cases hx:gW b x with
   | error e'=>rw[hx] at h; cases h
   | ok y=>rw[hx] at h; exact ih y r (a0L hx) h
 exact this l _ r a4Y h
theorem bfJ:(⟨false,[],[]⟩:RF).Ok:=⟨fun _ h=>absurd h (bLZ),fun _ h=>absurd h (bLZ),show 0≤35184372087808 by decide,show 0≤35184372087808 by decide⟩
def bgL (l:cK) (k:Nat):PF:=(((((PF.nil.set 1 (.bH l.cells)).set 3 (.int .i64 (l.start.length:Nat))).set 45 (a3U l.bIJ)).set 46 (.int .i64 (l.bIJ.length:Nat))).set 47 (.int .i64 k))
theorem a8B {C:Ctx} (L:ZP C) (l:cK) (hl:l.Ok) (he:xY l) (F:PF) (hF:F 1=some (.bH l.cells)) :
  aC.wp C (.seq (.region WX) (.seq (.region GG) (.seq (.region GH) (.seq (.region rV) .ret)))) (aT [.tmp 2] (bZ (.bool (sH l&&uO l)))) F .nil:=by
 simp only[go_sem,δ,θ,WX,hF]
 refine aA (L.tot l.start hl.start) rfl ?_
 obtain⟨neg',x,y,e,hs⟩:=rR (nK (l.start.map RF.v))
 have go:∀ (z:RF) (e:Int),z.Ok→(e=0→(yD z.neg (val z.num) (val z.den) false 1 1=.tup [.int .i64 (pK z.neg (val z.num) (val z.den) false 1 1),.int .i64 0])∧sH l=decide (pK z.neg (val z.num) (val z.den) false 1 1=0))→(e≠0→sH l=false) →
   frV (nK (l.start.map RF.v))=.tup [.agg z.cells,.int .i64 e] →
   wpOps C [⟨(some 69),.mv (.tmp 72),none⟩,⟨(some 73),.extract (.tmp 69) 0,none⟩,⟨(some 74),.extract (.tmp 69) 1,none⟩,⟨(some 6),.alloc [(.bool false),.aB,.aB],none⟩,⟨none,.store 3 (.tmp 6) (.tmp 73),none⟩,⟨(some 7),.mv (.tmp 74),none⟩]
    (aC.wp C (.seq (.region GG) (.seq (.region GH) (.seq (.region rV) .ret))) (aT [.tmp 2] (bZ (.bool (sH l&&uO l))))) ((((F.set 70 (.bH [frs l.start,a3U l.bIJ,frs l.exit])).set 71 (frs l.start))).set 72 (.tup [.agg z.cells,.int .i64 e])) .nil:=by
  intro z e hz h0 h1 _
  simp only[go_sem,δ,γ]
  refine aQ fun o6 ho6=>?_
  simp only[go_sem,δ,γ,GG]
  refine aA (L.frac 1 1 (by decide) (by decide)) rfl ?_
  rw[aFB]
  simp only[go_sem,δ,γ,frV]
  refine aQ fun o8 ho8=>?_
  have n8:o6≠o8:=by rintro rfl; simp only[bL,if_true] at ho8; cases ho8
  simp only[go_sem,δ,γ,GH,n8]
  refine aA (L.ord z (FV.rf (false,1,1)) hz a9U) rfl ?_
  rw[show val (FV.rf (false,1,1)).num=1 from aR 1,show val (FV.rf (false,1,1)).den=1 from aR 1,show (FV.rf (false,1,1)).neg=false from rfl]
  by_cases c:e=0
  ·obtain⟨g1,g2⟩:=h0 c
   rw[g1,g2]
   by_cases d:pK z.neg (val z.num) (val z.den) false 1 1=0
   ·simp only[go_sem,δ,γ,rV,bT c,bT d,hF]
    refine aA (L.ends l hl he) rfl ?_
    simp only[go_sem,γ]
    exact bA rfl (by rw[decide_eq_true d,bKS])
   ·simp only[go_sem,γ,reduceCtorEq,rV,bT c,bF d]
    exact bA rfl (by rw[decide_eq_false d,bKO])
  ·rw[h1 c]
   have:∃ v w,yD z.neg (val z.num) (val z.den) false 1 1=.tup [.int .i64 v,.int .i64 w]:=by
    unfold yD
    split
    ·exact⟨_,_,rfl⟩
    ·exact⟨_,_,rfl⟩
   obtain⟨v,w,hv⟩:=this
   rw[hv]
   simp only[go_sem,γ,reduceCtorEq,rV,bF c]
   exact bA rfl rfl
 cases hs':nK (l.start.map RF.v) with
 | error e =>
  rw[hs'] at go
  exact go ⟨false,[],[]⟩ e bfJ (fun h=>absurd h (aKE hs')) (fun _=>by rw[sH,hs']) rfl
 | ok r =>
  obtain⟨n,a,b⟩:=r
  rw[hs'] at go
  have hr:=aWT hs'
  refine go (FV.rf (n,a,b)) 0 hr (fun _=>?_) (fun h=>absurd rfl h) rfl
  rw[show val (FV.rf (n,a,b)).num=a from aR a,show val (FV.rf (n,a,b)).den=b from aR b,show (FV.rf (n,a,b)).neg=n from rfl]
  refine⟨?_,by rw[sH,hs']⟩
  have hv:cN a b=true:=afQ hs'
  rw[yD,hv,atS]
  rfl
theorem bmQ {C:Ctx} (L:ZP C) (l:cK) (hl:l.Ok):MY.wp C (aT aCT.res (bZ (.bool (kE l)))) (PF.args [.agg l.cells]) .nil:=by
 rw[aTI]
 simp only[go_sem,δ,γ,θ,MY,aSC,aSD,aCT,aSE,bKI]
 refine aA (L.inn l.start.length 1 4) rfl ?_
 cases c1:within l.start.length 1 4 with
 | false =>
  simp only[go_sem,γ,bKW,vS]
  exact bA rfl (by simp only[bKO])
 | true =>
  obtain⟨n1,n2⟩:=within_iff.1 c1
  by_cases c2:l.exit.length=l.start.length
  ·rw[decide_eq_true c2]
   by_cases c3:l.bIJ.length=l.start.length
   ·rw[decide_eq_true c3]
    simp only[go_sem,δ,γ,θ,reduceCtorEq,bKR,bKI,cA (Om:((l.exit.length:Nat):Int)=(l.start.length:Nat)),cA (Om:((l.bIJ.length:Nat):Int)=(l.start.length:Nat))]
    refine aA (L.bgQ l.start hl.start) rfl ?_
    cases c4:l.start.all cI with
    | false =>
     simp only[go_sem,γ,reduceCtorEq,bKW,vS]
     exact bA rfl (by simp only[bKO])
    | true =>
     simp only[go_sem,γ,reduceCtorEq,bKR]
     refine aA (L.bgQ l.exit hl.exit) rfl ?_
     cases c5:l.exit.all cI with
     | false =>
      simp only[go_sem,γ,reduceCtorEq,bKW,vS]
      exact bA rfl (by simp only[bKO])
     | true =>
      simp only[go_sem,δ,γ,θ,reduceCtorEq,bKR,aSF,bKI]
      have hrk:∀ k (h:k<l.bIJ.length),pL l k=(decide ((l.bIJ[k]).length=l.start.length)&&(l.bIJ[k]).all cI&&!((l.bIJ[k]).map cB).getD k false):=by
       intro k h
       have:l.bIJ.getD k []=l.bIJ[k]:=by simp[bLC,h]
       rw[pL,this]
      refine wp_loop (α:=Nat) (fun k=>bgL l k) (fun _=>.nil) (fun k=>k≤l.bIJ.length∧mR (pL l) k) (fun k=>l.bIJ.length-k) 0 ⟨bKT _,.zero⟩ ?_ PH.nil_le ?_
      ·unfold bgL
       (repeat' (first|exact PF.nil_le|refine PF.aK ?_ ?_))<;>first|(simp only[go_sem,γ,bKI]<;>rfl)|rfl
      rintro k ⟨hk,ha⟩
      simp only[go_sem,γ,aCU,aSG,bgL]
      by_cases hlt:k<l.bIJ.length
      ·have bIL:(k:Int)<(l.bIJ.length:Nat):=by omega
       have hr:(l.bIJ.map fun r=>[frs r])[k]?=some [frs l.bIJ[k]]:=by simp[hlt]
       have hk2:=hrk k hlt
       have hrok:=hl.row l.bIJ[k] (bKM hlt)
       simp only[go_sem,γ,bIL,aSH,hr,aSI,bKI]
       by_cases d1:(l.bIJ[k]).length=l.start.length
       ·rw[decide_eq_true d1,bKS] at hk2
        simp only[go_sem,γ,cA (show (((l.bIJ[k]).length:Nat):Int)=(l.start.length:Nat) by omega)]
        refine aA (L.bgQ _ hrok) rfl ?_
        cases d2:(l.bIJ[k]).all cI with
        | false =>
         rw[d2,bKO] at hk2
         simp only[go_sem,γ,reduceCtorEq,bKW,SM]
         refine bA (b:=false) rfl ?_
         have:(bKJ l.bIJ.length).all (pL l)=false:=dP hlt hk2
         rw[this]; simp only[bKO,bLQ]
        | true =>
         have hkr:k<(l.bIJ[k]).length:=by omega
         have hx:((l.bIJ[k]).map RF.cells)[k]?=some ((l.bIJ[k])[k]).cells:=by simp[hkr]
         have hab:((l.bIJ[k]).map cB).getD k false=cB (l.bIJ[k])[k]:=by simp[bLC,hkr]
         rw[d2,bKS,hab] at hk2
         simp only[go_sem,δ,γ,reduceCtorEq,bKR,hx]
         refine aA (L.uF _ (hrok.all _ (bKM hkr))) rfl ?_
         cases d3:cB (l.bIJ[k])[k] with
         | true =>
          rw[d3] at hk2
          simp only[go_sem,γ,reduceCtorEq,SM]
          refine bA (b:=false) rfl ?_
          have:(bKJ l.bIJ.length).all (pL l)=false:=dP hlt hk2
          rw[this]; simp only[bKO,bLQ]
         | false =>
          rw[d3] at hk2
          simp only[go_sem,γ,reduceCtorEq,aSJ,wZz k]
          refine aI (k+1) ⟨hlt,ha.step hk2⟩ Om ?_ PH.nil_le
          exact Lq
       ·simp only[decide_eq_false d1,bKO] at hk2
        simp only[go_sem,γ,cQ (show (((l.bIJ[k]).length:Nat):Int)≠(l.start.length:Nat) by omega),SM]
        refine bA (b:=false) rfl ?_
        have:(bKJ l.bIJ.length).all (pL l)=false:=dP hlt hk2
        rw[this]; simp only[bKO,bLQ]
      ·have bIL:¬ (k:Int)<(l.bIJ.length:Nat):=by omega
       have:k=l.bIJ.length:=by omega
       subst this
       have bJV:(bKJ l.bIJ.length).all (pL l)=true:=ha
       have he:xY l:=⟨by omega,by omega,fun r hr=>by
        obtain⟨i,hi,rfl⟩:=bMP hr
        have:=bLA.1 bJV i (bLL.2 hi)
        rw[hrk i hi] at this
        simp only[bLF,decide_eq_true_eq] at this
        omega⟩
       have tail:=a8B L l hl he
       simp only[aC.wp,go_sem] at tail
       rw[bJV]
       simp only[go_sem,bIL,bKS,bMI]
       exact tail _ rfl
   ·simp only[go_sem,δ,γ,θ,reduceCtorEq,bKR,bKI,cA (Om:((l.exit.length:Nat):Int)=(l.start.length:Nat)),cQ (Om:((l.bIJ.length:Nat):Int)≠(l.start.length:Nat)),vS]
    exact bA rfl (by rw[decide_eq_false c3]; simp only[bKO,bLQ])
  ·simp only[go_sem,γ,reduceCtorEq,bKR,bKI,cQ (Om:((l.exit.length:Nat):Int)≠(l.start.length:Nat)),vS]
   exact bA rfl (by rw[decide_eq_false c2]; simp only[bKO,bLQ])
structure jN (C:Ctx):Prop extends ZP C where
 law:∀ l:cK,l.Ok→aE C 95 [.agg l.cells] .nil (aD (.bool (kE l)))
 pol:∀ (p:dA) (n:Nat),p.Ok→n≤4→aE C 112 [.agg p.cells,.int .i64 n] .nil (aD (.bool (jA n p)))
 bIP:∀ f:aH,f.Ok→aE C 111 [.agg f.cells] .nil (aD (.bool (mS f)))
abbrev eM (l:List (List UInt8)):List (List PV):=l.map fun s=>[PV.str s]
theorem tN (l:List (List UInt8)) {k:Nat} (h:k<l.length):eM (l.take k)++[[.str l[k]]]=eM (l.take (k+1)):=by
 unfold eM
 rw[bMA h,bMM]; rfl
theorem qG {l:List (List UInt8)} (h:l.length≤1000):roomFor (eM l).length 1 16:=by
 unfold roomFor eM
 simp only[bKI,maxLen]; omega
def gU {α:Type} (l:List α) (p:α→Bool) (k:Nat):Bool:=(l.take k).all p
theorem qO {α:Type} (l:List α) (p:α→Bool):gU l p 0=true:=rfl
theorem qN {α:Type} (l:List α) (p:α→Bool) {k:Nat} (h:k<l.length):gU l p (k+1)=(gU l p k&&p l[k]):=by
 unfold gU
 rw[bMA h,List.all_append]; simp
theorem sY {α:Type} (l:List α) (p:α→Bool):gU l p l.length=l.all p:=by unfold gU; rw[bLG]
def gX (f:aH) (w3 w4 w5 w6 w7:PV) (ok:Bool):PF:=(((((((PF.nil.set 1 (.bH f.cells)).set 3 (w3)).set 4 (w4)).set 5 (w5)).set 6 (w6)).set 7 (w7)).set 8 (.bool ok))
structure jQ (F:PF) (f:aH) (w3 w4 w5 w6 w7:PV) (ok:Bool):Prop where
 a1:F 1=some (.bH f.cells)
 a3:F 3=some w3
 a4:F 4=some w4
 a5:F 5=some w5
 a6:F 6=some w6
 a7:F 7=some w7
 a8:F 8=some (.bool ok)
theorem a1Z {C:Ctx} (L:jN C) (f:aH) (hf:f.Ok) (hs:f.bIN.length≤4) (w4 w5 w6 w7:PV) (K:cO) (F:PF) (H:PH) (hv:jQ F f .aB w4 w5 w6 w7 true)
  (h67:F 67=some (.sl 4 (f.bIN.map cK.cells))) (h68:F 68=some (.int .i64 (f.bIN.length:Nat))) (h69:F 69=some (.int .i64 0))
  (hK:∀ v F' H',jQ F' f v w4 w5 w6 w7 (f.bIN.all kE)→bJ H' 1 v (eM (f.bIN.map cK.name))→K (.exit 0) F' H') :
  aC.wp C (.loop GL) K F H:=by
 refine wp_loop (α:=Nat × PV × PH) (fun t=>(((gX f t.2.1 w4 w5 w6 w7 (gU f.bIN kE t.1)).set 67 (.sl 4 (f.bIN.map cK.cells))).set 68 (.int .i64 (f.bIN.length:Nat))).set 69 (.int .i64 t.1)) (fun t=>t.2.2)
  (fun t=>t.1≤f.bIN.length∧bJ t.2.2 1 t.2.1 (eM ((f.bIN.map cK.name).take t.1))) (fun t=>f.bIN.length-t.1) (0,.aB,.nil) ⟨bKT _,.nil⟩ ?_ PH.nil_le ?_
 ·unfold gX
  (repeat' (first|exact PF.nil_le|refine PF.aK ?_ ?_))<;>first|(simp only[go_sem,hv.a1,hv.a3,hv.a4,hv.a5,hv.a6,hv.a7,hv.a8,h67,h68,h69,qO]<;>rfl)|rfl
 rintro⟨k,v,H0⟩ ⟨hk,hO⟩
 simp only at hk hO ⊢
 simp only[go_sem,γ,GL,aTE,gX]
 by_cases hlt:k<f.bIN.length
 ·have bIL:(k:Int)<(f.bIN.length:Nat):=by omega
  have hr:(f.bIN.map cK.cells)[k]?=some (f.bIN[k]).cells:=by simp[hlt]
  have hsn:=tN (f.bIN.map cK.name) (k:=k) (by simpa using hlt)
  rw[bMS] at hsn
  simp only[go_sem,δ,γ,bIL,aTF,hr]
  refine aQ fun o ho=>?_
  simp only[go_sem,υ,δ,γ,η,θ,ζ,aTG]
  refine lH hO ho (qG (by simp; omega)) fun v' H' hO' ho'=>?_
  rw[hsn] at hO'
  have bIM:=qN f.bIN kE hlt
  cases hb:gU f.bIN kE k with
  | false =>
   rw[hb,bKO] at bIM
   simp only[go_sem,γ,reduceCtorEq,alO,ho',XA,wZz k]
   refine aI (k+1,v',H') ⟨hlt,hO'⟩ (by simp only; omega) ?_ PH.le_refl
   simp only[bIM]
   exact Lq
  | true =>
   rw[hb,bKS] at bIM
   simp only[go_sem,δ,γ,alO,ho']
   refine aA (L.law _ (hf.law _ (bKM hlt))) Ev ?_
   simp only[go_sem,γ,XA,wZz k]
   refine aI (k+1,v',H') ⟨hlt,hO'⟩ (by simp only; omega) ?_ PH.le_refl
   simp only[bIM]
   exact Lq
 ·have bIL:¬ (k:Int)<(f.bIN.length:Nat):=by omega
  have:k=f.bIN.length:=by omega
  subst this
  rw[bKZ (by simp)] at hO
  rw[sY]
  simp only[go_sem,bIL]
  exact hK v _ _ ⟨by simp only[go_sem,γ],by simp only[go_sem,γ],by simp only[go_sem,γ],by simp only[go_sem,γ],by simp only[go_sem,γ],by simp only[go_sem,γ],by simp only[go_sem,γ]⟩ hO
theorem zI {n:Nat} (h:n≤1000):IntKind.i64.wrap ((n:Int)-1)=(n:Int)-1:=wrap_i64 Om Om
theorem a2A {C:Ctx} (L:jN C) (f:aH) (hs:f.bIF.length≤4) (hl:f.bIN.length≤4) (b0:Bool) (w3 w5 w6 w7:PV) (K:cO) (F:PF) (H:PH) (hv:jQ F f w3 .aB w5 w6 w7 b0)
  (h67:F 85=some (.sl 4 (f.bIF.map cV.cells))) (h68:F 86=some (.int .i64 (f.bIF.length:Nat))) (h69:F 87=some (.int .i64 0))
  (hK:∀ v F' H',jQ F' f w3 v w5 w6 w7 (b0&&f.bIF.all (jH f))→bJ H' 1 v (eM (f.bIF.map cV.name))→K (.exit 2) F' H') :
  aC.wp C (.loop GM) K F H:=by
 refine wp_loop (α:=Nat × PV × PH) (fun t=>(((gX f w3 t.2.1 w5 w6 w7 (b0&&gU f.bIF (jH f) t.1)).set 85 (.sl 4 (f.bIF.map cV.cells))).set 86 (.int .i64 (f.bIF.length:Nat))).set 87 (.int .i64 t.1)) (fun t=>t.2.2)
  (fun t=>t.1≤f.bIF.length∧bJ t.2.2 1 t.2.1 (eM ((f.bIF.map cV.name).take t.1))) (fun t=>f.bIF.length-t.1) (0,.aB,.nil) ⟨bKT _,.nil⟩ ?_ PH.nil_le ?_
 ·unfold gX
  (repeat' (first|exact PF.nil_le|refine PF.aK ?_ ?_))<;>first|(simp only[go_sem,hv.a1,hv.a3,hv.a4,hv.a5,hv.a6,hv.a7,hv.a8,h67,h68,h69,qO,bMI]<;>rfl)|rfl
 rintro⟨k,v,H0⟩ ⟨hk,hO⟩
 simp only at hk hO ⊢
 simp only[go_sem,γ,GM,aDP,gX]
 by_cases hlt:k<f.bIF.length
 ·have bIL:(k:Int)<(f.bIF.length:Nat):=by omega
  have hr:(f.bIF.map cV.cells)[k]?=some (f.bIF[k]).cells:=by simp[hlt]
  have hsn:=tN (f.bIF.map cV.name) (k:=k) (by simpa using hlt)
  rw[bMS] at hsn
  simp only[go_sem,δ,γ,bIL,aDQ,hr]
  refine aQ fun o ho=>?_
  simp only[go_sem,υ,δ,γ,η,θ,ζ,aDR]
  refine lH hO ho (qG (by simp; omega)) fun v' H' hO' ho'=>?_
  rw[hsn] at hO'
  have bIM:=qN f.bIF (jH f) hlt
  have fin:∀ (c:Bool) (F':PF),c=(b0&&gU f.bIF (jH f) (k+1))→((((gX f w3 v' w5 w6 w7 c).set 85 (.sl 4 (f.bIF.map cV.cells))).set 86 (.int .i64 (f.bIF.length:Nat))).set 87 (.int .i64 (k+1:Nat))).le F' →
    eI (fun (t:Nat × PV × PH)=>(((gX f w3 t.2.1 w5 w6 w7 (b0&&gU f.bIF (jH f) t.1)).set 85 (.sl 4 (f.bIF.map cV.cells))).set 86 (.int .i64 (f.bIF.length:Nat))).set 87 (.int .i64 t.1)) (fun (t:Nat × PV × PH)=>t.2.2)  (fun (t:Nat × PV × PH)=>t.1≤f.bIF.length∧bJ t.2.2 1 t.2.1 (eM ((f.bIF.map cV.name).take t.1))) (fun (t:Nat × PV × PH)=>f.bIF.length-t.1) (f.bIF.length-k) K .normal F' H':=by
   intro c F' hc hle
   refine aI (α:=Nat × PV × PH) (k+1,v',H') ⟨hlt,hO'⟩ (by simp only; omega) ?_ PH.le_refl
   rw[hc] at hle
   exact hle
  unfold gX at fin
  rw[bIM,← bNJ] at fin
  have hm:jH f f.bIF[k]=(within (f.bIF[k]).bIY 1 16&&within (f.bIF[k]).port 1 64&&within (f.bIF[k]).law 0 ((f.bIN.length:Int)-1)):=rfl
  cases hb:(b0&&gU f.bIF (jH f) k) with
  | false =>
   rw[hb,bKO] at fin
   simp only[go_sem,γ,reduceCtorEq,XC,ho',wT,wZz k]
   refine fin false _ rfl ?_
   exact Lq
  | true =>
   rw[hb,bKS] at fin
   simp only[go_sem,δ,γ,θ,XC,ho']
   refine aA (L.inn _ 1 16) Ev ?_
   cases e1:within (f.bIF[k]).bIY 1 16 with
   | false =>
    simp only[go_sem,γ,reduceCtorEq,wT,wZz k]
    refine fin false _ (by rw[hm,e1]; simp only[bKO]) ?_
    exact Lq
   | true =>
    simp only[go_sem,δ,γ,θ,ho']
    refine aA (L.inn _ 1 64) Ev ?_
    cases e2:within (f.bIF[k]).port 1 64 with
    | false =>
     simp only[go_sem,γ,reduceCtorEq,wT,wZz k]
     refine fin false _ (by rw[hm,e1,e2]; simp only[bKO,bLQ]) ?_
     exact Lq
    | true =>
     simp only[go_sem,δ,γ,θ,ho',bKI,zI (Om:f.bIN.length≤1000)]
     refine aA (L.inn _ 0 _) Ev ?_
     simp only[go_sem,γ,wT,wZz k]
     refine fin (within (f.bIF[k]).law 0 ((f.bIN.length:Int)-1)) _ (by rw[hm,e1,e2]; simp only[bKS]) ?_
     exact Lq
 ·have bIL:¬ (k:Int)<(f.bIF.length:Nat):=by omega
  have:k=f.bIF.length:=by omega
  subst this
  rw[bKZ (by simp)] at hO
  rw[sY]
  simp only[go_sem,bIL]
  exact hK v _ _ ⟨by simp only[go_sem,γ],by simp only[go_sem,γ],by simp only[go_sem,γ],by simp only[go_sem,γ],by simp only[go_sem,γ],by simp only[go_sem,γ],by simp only[go_sem,γ]⟩ hO
theorem a2B {C:Ctx} (L:jN C) (f:aH) (t:List bP) (hs:t.length≤40) (b0:Bool) (w3 w4 w6 w7:PV) (K:cO) (F:PF) (H:PH) (hv:jQ F f w3 w4 .aB w6 w7 b0)
  (h67:F 119=some (.sl 7 (t.map bP.cells))) (h68:F 120=some (.int .i64 (t.length:Nat))) (h69:F 121=some (.int .i64 0))
  (hK:∀ v F' H',jQ F' f w3 w4 v w6 w7 b0→bJ H' 1 v (eM (t.map bP.name))→K (.exit 4) F' H') :
  aC.wp C (.loop GN) K F H:=by
 refine wp_loop (α:=Nat × PV × PH) (fun a=>(((gX f w3 w4 a.2.1 w6 w7 b0).set 119 (.sl 7 (t.map bP.cells))).set 120 (.int .i64 (t.length:Nat))).set 121 (.int .i64 a.1)) (fun a=>a.2.2)
  (fun a=>a.1≤t.length∧bJ a.2.2 1 a.2.1 (eM ((t.map bP.name).take a.1))) (fun a=>t.length-a.1) (0,.aB,.nil) ⟨bKT _,.nil⟩ ?_ PH.nil_le ?_
 ·unfold gX
  (repeat' (first|exact PF.nil_le|refine PF.aK ?_ ?_))<;>first|(simp only[go_sem,hv.a1,hv.a3,hv.a4,hv.a5,hv.a6,hv.a7,hv.a8,h67,h68,h69]<;>rfl)|rfl
 rintro⟨k,v,H0⟩ ⟨hk,hO⟩
 simp only at hk hO ⊢
 simp only[go_sem,γ,GN,aDS,gX]
 by_cases hlt:k<t.length
 ·have bIL:(k:Int)<(t.length:Nat):=by omega
  have hr:(t.map bP.cells)[k]?=some (t[k]).cells:=by simp[hlt]
  have hsn:=tN (t.map bP.name) (k:=k) (by simpa using hlt)
  rw[bMS] at hsn
  simp only[go_sem,δ,γ,bIL,aDT,hr]
  refine aQ fun o ho=>?_
  simp only[go_sem,υ,δ,γ,η,θ,ζ,aDU]
  refine lH hO ho (qG (by simp; omega)) fun v' H' hO' ho'=>?_
  rw[hsn] at hO'
  simp only[go_sem,γ,aDV,wZz k]
  refine aI (k+1,v',H') ⟨hlt,hO'⟩ (by simp only; omega) ?_ PH.le_refl
  exact Lq
 ·have bIL:¬ (k:Int)<(t.length:Nat):=by omega
  have:k=t.length:=by omega
  subst this
  rw[bKZ (by simp)] at hO
  simp only[go_sem,bIL]
  exact hK v _ _ ⟨by simp only[go_sem,γ],by simp only[go_sem,γ],by simp only[go_sem,γ],by simp only[go_sem,γ],by simp only[go_sem,γ],by simp only[go_sem,γ],by simp only[go_sem,γ]⟩ hO
theorem a2C {C:Ctx} (L:jN C) (f:aH) (names:List (List UInt8)) (hn:names.length≤40) (hs:f.bIE.length≤24) (hm:f.bIF.length≤4) (hd:f.bIH.length≤40) (b0:Bool) (w3 w4 v0 w6 w7:PV) (K:cO) (F:PF) (H:PH) (hv:jQ F f w3 w4 v0 w6 w7 b0)
  (h0:bJ H 1 v0 (eM names))
  (h67:F 132=some (.sl 3 (f.bIE.map cD.cells))) (h68:F 133=some (.int .i64 (f.bIE.length:Nat))) (h69:F 134=some (.int .i64 0))
  (hK:∀ v F' H',jQ F' f w3 w4 v w6 w7 (b0&&f.bIE.all (gR f))→bJ H' 1 v (eM (names++f.bIE.map cD.name))→K (.exit 6) F' H') :
  aC.wp C (.loop GO) K F H:=by
 refine wp_loop (α:=Nat × PV × PH) (fun t=>(((gX f w3 w4 t.2.1 w6 w7 (b0&&gU f.bIE (gR f) t.1)).set 132 (.sl 3 (f.bIE.map cD.cells))).set 133 (.int .i64 (f.bIE.length:Nat))).set 134 (.int .i64 t.1)) (fun t=>t.2.2)
  (fun t=>t.1≤f.bIE.length∧bJ t.2.2 1 t.2.1 (eM (names++(f.bIE.map cD.name).take t.1))) (fun t=>f.bIE.length-t.1) (0,v0,H) ⟨bKT _,by rw[List.take_zero,bMF]; exact h0⟩ ?_ PH.le_refl ?_
 ·unfold gX
  (repeat' (first|exact PF.nil_le|refine PF.aK ?_ ?_))<;>first|(simp only[go_sem,hv.a1,hv.a3,hv.a4,hv.a5,hv.a6,hv.a7,hv.a8,h67,h68,h69,qO,bMI]<;>rfl)|rfl
 rintro⟨k,v,H0⟩ ⟨hk,hO⟩
 simp only at hk hO ⊢
 simp only[go_sem,γ,GO,aDW,gX]
 by_cases hlt:k<f.bIE.length
 ·have bIL:(k:Int)<(f.bIE.length:Nat):=by omega
  have hr:(f.bIE.map cD.cells)[k]?=some (f.bIE[k]).cells:=by simp[hlt]
  have hsn:eM (names++(f.bIE.map cD.name).take k)++[[.str (f.bIE[k]).name]]=eM (names++(f.bIE.map cD.name).take (k+1)):=by
   rw[bMA (by simpa using hlt),← bLI,bMS]
   unfold eM
   simp only[bMM,bMG,List.map_nil]
  simp only[go_sem,δ,γ,bIL,aDX,hr]
  refine aQ fun o ho=>?_
  simp only[go_sem,υ,δ,γ,η,θ,ζ,aDY]
  refine lH hO ho (qG (by simp; omega)) fun v' H' hO' ho'=>?_
  rw[hsn] at hO'
  have bIM:=qN f.bIE (gR f) hlt
  have fin:∀ (c:Bool) (F':PF),c=(b0&&gU f.bIE (gR f) (k+1))→((((gX f w3 w4 v' w6 w7 c).set 132 (.sl 3 (f.bIE.map cD.cells))).set 133 (.int .i64 (f.bIE.length:Nat))).set 134 (.int .i64 (k+1:Nat))).le F' →
    eI (fun (t:Nat × PV × PH)=>(((gX f w3 w4 t.2.1 w6 w7 (b0&&gU f.bIE (gR f) t.1)).set 132 (.sl 3 (f.bIE.map cD.cells))).set 133 (.int .i64 (f.bIE.length:Nat))).set 134 (.int .i64 t.1)) (fun (t:Nat × PV × PH)=>t.2.2)  (fun (t:Nat × PV × PH)=>t.1≤f.bIE.length∧bJ t.2.2 1 t.2.1 (eM (names++(f.bIE.map cD.name).take t.1))) (fun (t:Nat × PV × PH)=>f.bIE.length-t.1) (f.bIE.length-k) K .normal F' H':=by
   intro c F' hc hle
   refine aI (α:=Nat × PV × PH) (k+1,v',H') ⟨hlt,hO'⟩ (by simp only; omega) ?_ PH.le_refl
   rw[hc] at hle
   exact hle
  unfold gX at fin
  rw[bIM,← bNJ] at fin
  have hmd:gR f f.bIE[k]=(within (f.bIE[k]).model 0 ((f.bIF.length:Int)-1)&&within (f.bIE[k]).machine 0 ((f.bIH.length:Int)-1)&&decide ((f.bIH.map bP.level).getD (f.bIE[k]).machine.toNat 0=4)):=rfl
  cases hb:(b0&&gU f.bIE (gR f) k) with
  | false =>
   rw[hb,bKO] at fin
   simp only[go_sem,γ,reduceCtorEq,XF,ho',rW,wZz k]
   refine fin false _ rfl ?_
   exact Lq
  | true =>
   rw[hb,bKS] at fin
   simp only[go_sem,δ,γ,θ,XF,ho',bKI,zI (Om:f.bIF.length≤1000)]
   refine aA (L.inn _ 0 _) Ev ?_
   cases e1:within (f.bIE[k]).model 0 ((f.bIF.length:Int)-1) with
   | false =>
    simp only[go_sem,γ,reduceCtorEq,rW,wZz k]
    refine fin false _ (by rw[hmd,e1]; simp only[bKO]) ?_
    exact Lq
   | true =>
    simp only[go_sem,δ,γ,θ,ho',bKI,zI (Om:f.bIH.length≤1000)]
    refine aA (L.inn _ 0 _) Ev ?_
    cases e2:within (f.bIE[k]).machine 0 ((f.bIH.length:Int)-1) with
    | false =>
     simp only[go_sem,γ,reduceCtorEq,rW,wZz k]
     refine fin false _ (by rw[hmd,e1,e2]; simp only[bKO,bLQ]) ?_
     exact Lq
    | true =>
     obtain⟨i1,i2⟩:=within_iff.1 e2
     have i3:(f.bIE[k]).machine.toNat<f.bIH.length:=by omega
     have hpr:(f.bIH.map bP.cells)[(f.bIE[k]).machine.toNat]?=some (f.bIH[(f.bIE[k]).machine.toNat]).cells:=by simp[i3]
     have hlv:(f.bIH.map bP.level).getD (f.bIE[k]).machine.toNat 0=(f.bIH[(f.bIE[k]).machine.toNat]).level:=by simp[i3]
     rw[hlv] at hmd
     by_cases e3:(f.bIH[(f.bIE[k]).machine.toNat]).level=4
     ·simp only[go_sem,δ,γ,θ,ho',i1,hpr,bT e3,rW,wZz k]
      refine fin true _ (by rw[hmd,e1,e2,decide_eq_true e3]; rfl) ?_
      exact Lq
     ·simp only[go_sem,δ,γ,θ,ho',i1,hpr,bF e3,rW,wZz k]
      refine fin false _ (by rw[hmd,e1,e2,decide_eq_false e3]; rfl) ?_
      exact Lq
 ·have bIL:¬ (k:Int)<(f.bIE.length:Nat):=by omega
  have:k=f.bIE.length:=by omega
  subst this
  rw[bKZ (by simp)] at hO
  rw[sY]
  simp only[go_sem,bIL]
  exact hK v _ _ ⟨by simp only[go_sem,γ],by simp only[go_sem,γ],by simp only[go_sem,γ],by simp only[go_sem,γ],by simp only[go_sem,γ],by simp only[go_sem,γ],by simp only[go_sem,γ]⟩ hO
theorem a2D {C:Ctx} (L:jN C) (f:aH) (hf:f.Ok) (hs:f.bII.length≤4) (hm:f.bIF.length≤4) (b0:Bool) (w3 w4 w5 w7:PV) (K:cO) (F:PF) (H:PH) (hv:jQ F f w3 w4 w5 .aB w7 b0)
  (h67:F 174=some (.sl 17 (f.bII.map dA.cells))) (h68:F 175=some (.int .i64 (f.bII.length:Nat))) (h69:F 176=some (.int .i64 0))
  (hK:∀ v F' H',jQ F' f w3 w4 w5 v w7 (b0&&f.bII.all (jA f.bIF.length))→bJ H' 1 v (eM (f.bII.map dA.name))→K (.exit 8) F' H') :
  aC.wp C (.loop GP) K F H:=by
 refine wp_loop (α:=Nat × PV × PH) (fun t=>(((gX f w3 w4 w5 t.2.1 w7 (b0&&gU f.bII (jA f.bIF.length) t.1)).set 174 (.sl 17 (f.bII.map dA.cells))).set 175 (.int .i64 (f.bII.length:Nat))).set 176 (.int .i64 t.1)) (fun t=>t.2.2)
  (fun t=>t.1≤f.bII.length∧bJ t.2.2 1 t.2.1 (eM ((f.bII.map dA.name).take t.1))) (fun t=>f.bII.length-t.1) (0,.aB,.nil) ⟨bKT _,.nil⟩ ?_ PH.nil_le ?_
 ·unfold gX
  (repeat' (first|exact PF.nil_le|refine PF.aK ?_ ?_))<;>first|(simp only[go_sem,hv.a1,hv.a3,hv.a4,hv.a5,hv.a6,hv.a7,hv.a8,h67,h68,h69,qO,bMI]<;>rfl)|rfl
 rintro⟨k,v,H0⟩ ⟨hk,hO⟩
 simp only at hk hO ⊢
 simp only[go_sem,γ,GP,aDZ,gX]
 by_cases hlt:k<f.bII.length
 ·have bIL:(k:Int)<(f.bII.length:Nat):=by omega
  have hr:(f.bII.map dA.cells)[k]?=some (f.bII[k]).cells:=by simp[hlt]
  have hsn:=tN (f.bII.map dA.name) (k:=k) (by simpa using hlt)
  rw[bMS] at hsn
  simp only[go_sem,δ,γ,bIL,aEA,hr]
  refine aQ fun o ho=>?_
  simp only[go_sem,υ,δ,γ,η,θ,ζ,aEB]
  refine lH hO ho (qG (by simp; omega)) fun v' H' hO' ho'=>?_
  rw[hsn] at hO'
  have bIM:=qN f.bII (jA f.bIF.length) hlt
  have fin:∀ (c:Bool) (F':PF),c=(b0&&gU f.bII (jA f.bIF.length) (k+1))→((((gX f w3 w4 w5 v' w7 c).set 174 (.sl 17 (f.bII.map dA.cells))).set 175 (.int .i64 (f.bII.length:Nat))).set 176 (.int .i64 (k+1:Nat))).le F' →
    eI (fun (t:Nat × PV × PH)=>(((gX f w3 w4 w5 t.2.1 w7 (b0&&gU f.bII (jA f.bIF.length) t.1)).set 174 (.sl 17 (f.bII.map dA.cells))).set 175 (.int .i64 (f.bII.length:Nat))).set 176 (.int .i64 t.1)) (fun (t:Nat × PV × PH)=>t.2.2)  (fun (t:Nat × PV × PH)=>t.1≤f.bII.length∧bJ t.2.2 1 t.2.1 (eM ((f.bII.map dA.name).take t.1))) (fun (t:Nat × PV × PH)=>f.bII.length-t.1) (f.bII.length-k) K .normal F' H':=by
   intro c F' hc hle
   refine aI (α:=Nat × PV × PH) (k+1,v',H') ⟨hlt,hO'⟩ (by simp only; omega) ?_ PH.le_refl
   rw[hc] at hle
   exact hle
  unfold gX at fin
  rw[bIM,← bNJ] at fin
  cases hb:(b0&&gU f.bII (jA f.bIF.length) k) with
  | false =>
   rw[hb,bKO] at fin
   simp only[go_sem,γ,reduceCtorEq,XH,ho',XI,wZz k]
   refine fin false _ rfl ?_
   exact Lq
  | true =>
   rw[hb,bKS] at fin
   simp only[go_sem,δ,γ,θ,XH,ho',bKI]
   refine aA (L.pol _ _ (hf.bIS _ (bKM hlt)) hm) Ev ?_
   simp only[go_sem,γ,XI,wZz k]
   refine fin _ _ rfl ?_
   exact Lq
 ·have bIL:¬ (k:Int)<(f.bII.length:Nat):=by omega
  have:k=f.bII.length:=by omega
  subst this
  rw[bKZ (by simp)] at hO
  rw[sY]
  simp only[go_sem,bIL]
  exact hK v _ _ ⟨by simp only[go_sem,γ],by simp only[go_sem,γ],by simp only[go_sem,γ],by simp only[go_sem,γ],by simp only[go_sem,γ],by simp only[go_sem,γ],by simp only[go_sem,γ]⟩ hO
theorem a2E {C:Ctx} (L:jN C) (f:aH) (hs:f.bIG.length≤12) (hl:f.bII.length≤4) (b0:Bool) (w3 w4 w5 w6:PV) (K:cO) (F:PF) (H:PH) (hv:jQ F f w3 w4 w5 w6 .aB b0)
  (h67:F 195=some (.sl 2 (f.bIG.map eD.cells))) (h68:F 196=some (.int .i64 (f.bIG.length:Nat))) (h69:F 197=some (.int .i64 0))
  (hK:∀ v F' H',jQ F' f w3 w4 w5 w6 v (b0&&f.bIG.all (mQ f))→bJ H' 1 v (eM (f.bIG.map eD.name))→K (.exit 10) F' H') :
  aC.wp C (.loop GQ) K F H:=by
 refine wp_loop (α:=Nat × PV × PH) (fun t=>(((gX f w3 w4 w5 w6 t.2.1 (b0&&gU f.bIG (mQ f) t.1)).set 195 (.sl 2 (f.bIG.map eD.cells))).set 196 (.int .i64 (f.bIG.length:Nat))).set 197 (.int .i64 t.1)) (fun t=>t.2.2)
  (fun t=>t.1≤f.bIG.length∧bJ t.2.2 1 t.2.1 (eM ((f.bIG.map eD.name).take t.1))) (fun t=>f.bIG.length-t.1) (0,.aB,.nil) ⟨bKT _,.nil⟩ ?_ PH.nil_le ?_
 ·unfold gX
  (repeat' (first|exact PF.nil_le|refine PF.aK ?_ ?_))<;>first|(simp only[go_sem,hv.a1,hv.a3,hv.a4,hv.a5,hv.a6,hv.a7,hv.a8,h67,h68,h69,qO,bMI]<;>rfl)|rfl
 rintro⟨k,v,H0⟩ ⟨hk,hO⟩
 simp only at hk hO ⊢
 simp only[go_sem,γ,GQ,aEC,gX]
 by_cases hlt:k<f.bIG.length
 ·have bIL:(k:Int)<(f.bIG.length:Nat):=by omega
  have hr:(f.bIG.map eD.cells)[k]?=some (f.bIG[k]).cells:=by simp[hlt]
  have hsn:=tN (f.bIG.map eD.name) (k:=k) (by simpa using hlt)
  rw[bMS] at hsn
  simp only[go_sem,δ,γ,bIL,aED,hr]
  refine aQ fun o ho=>?_
  simp only[go_sem,υ,δ,γ,η,θ,ζ,aEE]
  refine lH hO ho (qG (by simp; omega)) fun v' H' hO' ho'=>?_
  rw[hsn] at hO'
  have bIM:=qN f.bIG (mQ f) hlt
  have fin:∀ (c:Bool) (F':PF),c=(b0&&gU f.bIG (mQ f) (k+1))→((((gX f w3 w4 w5 w6 v' c).set 195 (.sl 2 (f.bIG.map eD.cells))).set 196 (.int .i64 (f.bIG.length:Nat))).set 197 (.int .i64 (k+1:Nat))).le F' →
    eI (fun (t:Nat × PV × PH)=>(((gX f w3 w4 w5 w6 t.2.1 (b0&&gU f.bIG (mQ f) t.1)).set 195 (.sl 2 (f.bIG.map eD.cells))).set 196 (.int .i64 (f.bIG.length:Nat))).set 197 (.int .i64 t.1)) (fun (t:Nat × PV × PH)=>t.2.2)  (fun (t:Nat × PV × PH)=>t.1≤f.bIG.length∧bJ t.2.2 1 t.2.1 (eM ((f.bIG.map eD.name).take t.1))) (fun (t:Nat × PV × PH)=>f.bIG.length-t.1) (f.bIG.length-k) K .normal F' H':=by
   intro c F' hc hle
   refine aI (α:=Nat × PV × PH) (k+1,v',H') ⟨hlt,hO'⟩ (by simp only; omega) ?_ PH.le_refl
   rw[hc] at hle
   exact hle
  unfold gX at fin
  rw[bIM,← bNJ] at fin
  have hm:mQ f f.bIG[k]=within (f.bIG[k]).bIS 0 ((f.bII.length:Int)-1):=rfl
  cases hb:(b0&&gU f.bIG (mQ f) k) with
  | false =>
   rw[hb,bKO] at fin
   simp only[go_sem,γ,reduceCtorEq,XK,ho',XL,wZz k]
   refine fin false _ rfl ?_
   exact Lq
  | true =>
   rw[hb,bKS,hm] at fin
   simp only[go_sem,δ,γ,θ,XK,ho',bKI,zI (Om:f.bII.length≤1000)]
   refine aA (L.inn _ 0 _) Ev ?_
   simp only[go_sem,γ,XL,wZz k]
   refine fin _ _ rfl ?_
   exact Lq
 ·have bIL:¬ (k:Int)<(f.bIG.length:Nat):=by omega
  have:k=f.bIG.length:=by omega
  subst this
  rw[bKZ (by simp)] at hO
  rw[sY]
  simp only[go_sem,bIL]
  exact hK v _ _ ⟨by simp only[go_sem,γ],by simp only[go_sem,γ],by simp only[go_sem,γ],by simp only[go_sem,γ],by simp only[go_sem,γ],by simp only[go_sem,γ],by simp only[go_sem,γ]⟩ hO
theorem lN {f:aH} (h:¬ (f.bIN.length≤4∧f.bIF.length≤4∧f.bIH.length≤40∧f.bIE.length≤24∧f.bII.length≤4∧f.bIG.length≤12)):lM f=false:=by
 rw[← Bool.not_eq_true]
 intro hs
 simp only[lM,bLF,decide_eq_true_eq] at hs
 omega
theorem aPJ {f:aH} (h:f.bIN.length≤4∧f.bIF.length≤4∧f.bIH.length≤40∧f.bIE.length≤24∧f.bII.length≤4∧f.bIG.length≤12):lM f=within f.bJS 1 4:=by
 obtain⟨h1,h2,h3,h4,h5,h6⟩:=h
 simp[lM,h1,h2,h3,h4,h5,h6]
theorem kZ {t:Nat} {n m:Int} {F:PF} {H:PH} (h:F t=some (.int .i64 n)) (e:n=m):aT [.tmp t] (bZ (.int .i64 m)) .ret F H:=by
 subst e
 exact aX (.inr rfl) .nil (vs:=[.int .i64 n]) (by rw[lC,oI,h,pZ]) PH.nil_le ⟨.refl _,rfl⟩
def pQ (f:aH):Int:=if dM f then 0 else 1
theorem a4X {f:aH} (h:dM f=false):pQ f=1:=by rw[pQ,h]; rfl
theorem rK {C:Ctx} {F:PF} {H:PH} {name t s:Nat} {v r:PV} {rows:List (List PV)} {d:Option Nat} {K:PF→PH→Prop} (h:aE C name [.sl s rows] .nil (aD r)) (hO:bJ H s v rows) (ht:F t=some v)
  (hK:∀ (F1:PF) (H1:PH),(∀ i u,F i=some u→Pure u→F1 i=some u)→K (F1.put d r) H1):fU C name [.tmp t] [] d K F H:=by
 rcases hO with ⟨rfl,rfl⟩ | ⟨q,rs,rfl,h1,h2,h3⟩
 ·refine aA (h.a4A (.inl ⟨rfl,rfl⟩)) (by rw[wM,abU,ht,SF]) ?_
  exact hK F H fun i u hi _=>hi
 ·rw[← h3] at h
  refine oL (k:=rows.length) h ht h1 h2 (hK _ _ fun i u hi hp=>?_)
  rw[qS,hi,bLT,hp q s rs]
theorem Seen.pure {s:Nat} {v:PV} {rows:List (List PV)} (h:Seen s v rows):Pure v:=by
 rcases h with ⟨_,rfl⟩ | rfl
 ·exact fun _ _ _=>rfl
 ·exact fun _ _ _=>rfl
def bI (b:Bool):Int:=if b then 0 else 1
abbrev SR (f:aH):List (List UInt8):=(f.bIH.drop 1).map bP.name++f.bIE.map cD.name
def sU (f:aH):Bool:=distinct (f.bIN.map cK.name)&&distinct (f.bIF.map cV.name)&&distinct (SR f)&&distinct (f.bII.map dA.name)&&distinct (f.bIG.map eD.name)
structure Small (f:aH):Prop where
 bIN:f.bIN.length≤4
 bIF:f.bIF.length≤4
 bIH:f.bIH.length≤40
 bIE:f.bIE.length≤24
 bII:f.bII.length≤4
 bIG:f.bIG.length≤12
theorem yV {C:Ctx} (L:jN C) {v:PV} {l:List (List UInt8)} (h:Seen 1 v (eM l)) (hl:l.length≤1000):aE C 110 [v] .nil (aD (.bool (distinct l))) :=
 (L.uniq l (Om:l.length≤9223372036854775807)).a4A h
theorem bgE {C:Ctx} (L:jN C) (f:aH) (hs:Small f) (w3 w4 w5 w6 w7:PV) (ok:Bool) (F:PF) (H:PH) (hv:jQ F f w3 w4 w5 w6 w7 ok)
  (h3:Seen 1 w3 (eM (f.bIN.map cK.name))) (h4:Seen 1 w4 (eM (f.bIF.map cV.name))) (h5:Seen 1 w5 (eM (SR f))) (h6:Seen 1 w6 (eM (f.bII.map dA.name))) (h7:bJ H 1 w7 (eM (f.bIG.map eD.name))) :
  aC.wp C (.seq (.seq (.region wU) (.cond (.tmp 243) (.seq (.region lZ) .ret) .skip)) (.seq (.region GR) .ret)) (aT [.tmp 2] (bZ (.int .i64 (bI (ok&&sU f))))) F H:=by
 obtain⟨s1,s2,s3,s4,s5,s6⟩:=hs
 have l3:(f.bIN.map cK.name).length≤1000:=by simp; omega
 have l4:(f.bIF.map cV.name).length≤1000:=by simp; omega
 have l5:(SR f).length≤1000:=by simp; omega
 have l6:(f.bII.map dA.name).length≤1000:=by simp; omega
 have l7:(f.bIG.map eD.name).length≤9223372036854775807:=by simp; omega
 cases ok with
 | false =>
  simp only[go_sem,γ,wU,hv.a8,lZ]
  exact kZ rfl rfl
 | true =>
  simp only[go_sem,γ,wU,hv.a8,hv.a3]
  refine aA (yV L h3 l3) rfl ?_
  unfold sU
  cases c1:distinct (f.bIN.map cK.name) with
  | false =>
   simp only[go_sem,γ,reduceCtorEq,lZ,bKW]
   exact kZ rfl rfl
  | true =>
   simp only[go_sem,γ,reduceCtorEq,hv.a4,bKR]
   refine aA (yV L h4 l4) rfl ?_
   cases c2:distinct (f.bIF.map cV.name) with
   | false =>
    simp only[go_sem,γ,reduceCtorEq,lZ,bKW]
    exact kZ rfl rfl
   | true =>
    simp only[go_sem,γ,reduceCtorEq,hv.a5,bKR]
    refine aA (yV L h5 l5) rfl ?_
    cases c3:distinct (SR f) with
    | false =>
     simp only[go_sem,γ,reduceCtorEq,lZ,bKW]
     exact kZ rfl rfl
    | true =>
     simp only[go_sem,γ,reduceCtorEq,hv.a6,bKR]
     refine aA (yV L h6 l6) rfl ?_
     cases c4:distinct (f.bII.map dA.name) with
     | false =>
      simp only[go_sem,γ,reduceCtorEq,lZ,bKW]
      exact kZ rfl rfl
     | true =>
      simp only[go_sem,γ,reduceCtorEq,hv.a7,bKR]
      refine rK (L.uniq _ l7) h7 rfl fun F1 H1 hp=>?_
      have g:F1 239=some (.bool false):=hp 239 _ rfl fun _ _ _=>rfl
      cases c5:distinct (f.bIG.map eD.name) with
      | false =>
       simp only[go_sem,γ,reduceCtorEq,lZ,bKW,g]
       exact kZ rfl rfl
      | true =>
       simp only[go_sem,γ,reduceCtorEq,GR,bKR,g]
       exact kZ rfl rfl
abbrev anK (b:Bool):cO:=aT [.tmp 2] (bZ (.int .i64 (bI b)))
def ayC:aC:=.seq (.seq (.region XJ) (.block 10 (.loop GQ))) (.seq (.seq (.region wU) (.cond (.tmp 243) (.seq (.region lZ) .ret) .skip)) (.seq (.region GR) .ret))
def ayB:aC:=.seq (.seq (.region XG) (.block 8 (.loop GP))) ayC
def ayA:aC:=.seq (.seq (.region XE) (.block 6 (.loop GO))) ayB
def axZ:aC:=.seq (.seq (.region XD) (.block 4 (.loop GN))) ayA
def axY:aC:=.seq (.seq (.region XB) (.block 2 (.loop GM))) axZ
def a4W:aC:=.seq (.seq (.region alN) (.block 0 (.loop GL))) axY
theorem bnH {C:Ctx} (L:jN C) (f:aH) (hs:Small f) (w3 w4 w5 w6:PV) (ok:Bool) (F:PF) (H:PH) (hv:jQ F f w3 w4 w5 w6 .aB ok)
  (h3:Seen 1 w3 (eM (f.bIN.map cK.name))) (h4:Seen 1 w4 (eM (f.bIF.map cV.name))) (h5:Seen 1 w5 (eM (SR f))) (h6:bJ H 1 w6 (eM (f.bII.map dA.name))) :
  aC.wp C ayC (anK (ok&&f.bIG.all (mQ f)&&sU f)) F H:=by
 unfold ayC
 simp only[go_sem,γ,XJ,hv.a1,bKI]
 refine oM h6 fun v1 hv1 F1 H1 ht hp=>?_
 refine a2E L f hs.bIG hs.bII ok w3 w4 w5 v1 _ F1 H1 ⟨hp 1 _ (by simp only[go_sem,γ,hv.a1]) fun _ _ _=>rfl,hp 3 _ (by simp only[go_sem,γ,hv.a3]) h3.pure,hp 4 _ (by simp only[go_sem,γ,hv.a4]) h4.pure,hp 5 _ (by simp only[go_sem,γ,hv.a5]) h5.pure,ht 6 (by simp only[go_sem,γ,hv.a6]),hp 7 _ (by simp only[go_sem,γ,hv.a7]) fun _ _ _=>rfl,hp 8 _ (by simp only[go_sem,γ,hv.a8]) fun _ _ _=>rfl⟩
  (hp 195 _ rfl fun _ _ _=>rfl) (hp 196 _ rfl fun _ _ _=>rfl) (hp 197 _ rfl fun _ _ _=>rfl) fun v F' H' hv' hO=>?_
 have e:=bgE L f hs w3 w4 w5 v1 v _ F' H' hv' h3 h4 h5 hv1 hO
 simp only[aC.wp,go_sem] at e
 simp only[go_sem]
 exact e
theorem bnG {C:Ctx} (L:jN C) (f:aH) (hf:f.Ok) (hs:Small f) (w3 w4 w5:PV) (ok:Bool) (F:PF) (H:PH) (hv:jQ F f w3 w4 w5 .aB .aB ok)
  (h3:Seen 1 w3 (eM (f.bIN.map cK.name))) (h4:Seen 1 w4 (eM (f.bIF.map cV.name))) (h5:bJ H 1 w5 (eM (SR f))) :
  aC.wp C ayB (anK (ok&&f.bII.all (jA f.bIF.length)&&f.bIG.all (mQ f)&&sU f)) F H:=by
 unfold ayB
 simp only[go_sem,δ,γ,θ,XG,hv.a1,bKI]
 refine oM h5 fun v1 hv1 F1 H1 ht hp=>?_
 refine a2D L f hf hs.bII hs.bIF ok w3 w4 v1 .aB _ F1 H1 ⟨hp 1 _ (by simp only[go_sem,γ,hv.a1]) fun _ _ _=>rfl,hp 3 _ (by simp only[go_sem,γ,hv.a3]) h3.pure,hp 4 _ (by simp only[go_sem,γ,hv.a4]) h4.pure,ht 5 (by simp only[go_sem,γ,hv.a5]),hp 6 _ (by simp only[go_sem,γ,hv.a6]) fun _ _ _=>rfl,hp 7 _ (by simp only[go_sem,γ,hv.a7]) fun _ _ _=>rfl,hp 8 _ (by simp only[go_sem,γ,hv.a8]) fun _ _ _=>rfl⟩
  (hp 174 _ rfl fun _ _ _=>rfl) (hp 175 _ rfl fun _ _ _=>rfl) (hp 176 _ rfl fun _ _ _=>rfl) fun v F' H' hv' hO=>?_
 simp only[go_sem]
 exact bnH L f hs w3 w4 v1 v _ F' H' hv' h3 h4 hv1 hO
theorem bnF {C:Ctx} (L:jN C) (f:aH) (hf:f.Ok) (hs:Small f) (w3 w4 w5:PV) (ok:Bool) (F:PF) (H:PH) (hv:jQ F f w3 w4 w5 .aB .aB ok)
  (h3:Seen 1 w3 (eM (f.bIN.map cK.name))) (h4:Seen 1 w4 (eM (f.bIF.map cV.name))) (h5:bJ H 1 w5 (eM ((f.bIH.drop 1).map bP.name))) :
  aC.wp C ayA (anK (ok&&f.bIE.all (gR f)&&f.bII.all (jA f.bIF.length)&&f.bIG.all (mQ f)&&sU f)) F H:=by
 unfold ayA
 simp only[go_sem,δ,γ,θ,XE,hv.a1,bKI]
 refine a2C L f ((f.bIH.drop 1).map bP.name) (by have:=hs.bIH; simp; omega) hs.bIE hs.bIF hs.bIH ok w3 w4 w5 .aB .aB _ _ H ⟨by simp only[go_sem,γ,hv.a1],by simp only[go_sem,γ,hv.a3],by simp only[go_sem,γ,hv.a4],by simp only[go_sem,γ,hv.a5],by simp only[go_sem,γ,hv.a6],by simp only[go_sem,γ,hv.a7],by simp only[go_sem,γ,hv.a8]⟩ h5
  rfl rfl rfl fun v F' H' hv' hO=>?_
 simp only[go_sem]
 exact bnG L f hf hs w3 w4 v _ F' H' hv' h3 h4 hO
theorem bnE {C:Ctx} (L:jN C) (f:aH) (hf:f.Ok) (hs:Small f) (hd:0<f.bIH.length) (w3 w4:PV) (ok:Bool) (F:PF) (H:PH) (hv:jQ F f w3 w4 .aB .aB .aB ok)
  (h3:Seen 1 w3 (eM (f.bIN.map cK.name))) (h4:bJ H 1 w4 (eM (f.bIF.map cV.name))) :
  aC.wp C axZ (anK (ok&&f.bIE.all (gR f)&&f.bII.all (jA f.bIF.length)&&f.bIG.all (mQ f)&&sU f)) F H:=by
 unfold axZ
 have hsl:(1:Int)≤(f.bIH.length:Nat):=by omega
 have hsd:=hs.bIH
 have hdrop:((f.bIH.map bP.cells).take f.bIH.length).drop 1=(f.bIH.drop 1).map bP.cells:=by
  rw[bKZ (by simp),List.map_drop]
 simp only[go_sem,κ,ν,δ,γ,θ,reduceCtorEq,XD,hv.a1,bKI,hsl,bNO,hdrop]
 refine oM h4 fun v1 hv1 F1 H1 ht hp=>?_
 refine a2B L f (f.bIH.drop 1) (by simp; omega) ok w3 v1 .aB .aB _ F1 H1 ⟨hp 1 _ (by simp only[go_sem,γ,hv.a1]) fun _ _ _=>rfl,hp 3 _ (by simp only[go_sem,γ,hv.a3]) h3.pure,ht 4 (by simp only[go_sem,γ,hv.a4]),hp 5 _ (by simp only[go_sem,γ,hv.a5]) fun _ _ _=>rfl,hp 6 _ (by simp only[go_sem,γ,hv.a6]) fun _ _ _=>rfl,hp 7 _ (by simp only[go_sem,γ,hv.a7]) fun _ _ _=>rfl,hp 8 _ (by simp only[go_sem,γ,hv.a8]) fun _ _ _=>rfl⟩
  (hp 119 _ rfl fun _ _ _=>rfl) (hp 120 _ rfl fun _ _ _=>rfl) (hp 121 _ rfl fun _ _ _=>rfl) fun v F' H' hv' hO=>?_
 simp only[go_sem]
 exact bnF L f hf hs w3 v1 v _ F' H' hv' h3 hv1 hO
theorem bnD {C:Ctx} (L:jN C) (f:aH) (hf:f.Ok) (hs:Small f) (hd:0<f.bIH.length) (w3:PV) (ok:Bool) (F:PF) (H:PH) (hv:jQ F f w3 .aB .aB .aB .aB ok)
  (h3:bJ H 1 w3 (eM (f.bIN.map cK.name))) :
  aC.wp C axY (anK (ok&&f.bIF.all (jH f)&&f.bIE.all (gR f)&&f.bII.all (jA f.bIF.length)&&f.bIG.all (mQ f)&&sU f)) F H:=by
 unfold axY
 simp only[go_sem,δ,γ,θ,XB,hv.a1,bKI]
 refine oM h3 fun v1 hv1 F1 H1 ht hp=>?_
 refine a2A L f hs.bIF hs.bIN ok v1 .aB .aB .aB _ F1 H1 ⟨hp 1 _ (by simp only[go_sem,γ,hv.a1]) fun _ _ _=>rfl,ht 3 (by simp only[go_sem,γ,hv.a3]),hp 4 _ (by simp only[go_sem,γ,hv.a4]) fun _ _ _=>rfl,hp 5 _ (by simp only[go_sem,γ,hv.a5]) fun _ _ _=>rfl,hp 6 _ (by simp only[go_sem,γ,hv.a6]) fun _ _ _=>rfl,hp 7 _ (by simp only[go_sem,γ,hv.a7]) fun _ _ _=>rfl,hp 8 _ (by simp only[go_sem,γ,hv.a8]) fun _ _ _=>rfl⟩
  (hp 85 _ rfl fun _ _ _=>rfl) (hp 86 _ rfl fun _ _ _=>rfl) (hp 87 _ rfl fun _ _ _=>rfl) fun v F' H' hv' hO=>?_
 simp only[go_sem]
 exact bnE L f hf hs hd v1 v _ F' H' hv' hv1 hO
theorem bnC {C:Ctx} (L:jN C) (f:aH) (hf:f.Ok) (hs:Small f) (hd:0<f.bIH.length) (F:PF) (H:PH) (hv:jQ F f .aB .aB .aB .aB .aB true) :
  aC.wp C a4W (anK (f.bIN.all kE&&f.bIF.all (jH f)&&f.bIE.all (gR f)&&f.bII.all (jA f.bIF.length)&&f.bIG.all (mQ f)&&sU f)) F H:=by
 unfold a4W
 simp only[go_sem,δ,γ,θ,alN,hv.a1,bKI]
 refine a1Z L f hf hs.bIN .aB .aB .aB .aB _ _ H ⟨by simp only[go_sem,γ,hv.a1],by simp only[go_sem,γ,hv.a3],by simp only[go_sem,γ,hv.a4],by simp only[go_sem,γ,hv.a5],by simp only[go_sem,γ,hv.a6],by simp only[go_sem,γ,hv.a7],by simp only[go_sem,γ,hv.a8]⟩ rfl rfl rfl fun v F' H' hv' hO=>?_
 simp only[go_sem]
 exact bnD L f hf hs hd v _ F' H' hv' hO
theorem bnA {C:Ctx} (L:jN C) (f:aH) (hf:f.Ok):NE.wp C (aT aDO.res (bZ (.int .i64 (pQ f)))) (PF.args [.agg f.cells]) .nil:=by
 have he:dM f=(lM f&&mS f&&(f.bIN.all kE&&f.bIF.all (jH f)&&f.bIE.all (gR f)&&f.bII.all (jA f.bIF.length)&&f.bIG.all (mQ f))&&sU f):=rfl
 simp only[go_sem,δ,γ,θ,NE,aTA,aTB,aDO]
 refine aA (L.inn f.bJS 1 4) rfl ?_
 have bad:∀ (F:PF) (H:PH),dM f=false→F 2=some (.int .i64 1)→aT [.tmp 2] (bZ (.int .i64 (pQ f))) .ret F H:=fun F H h1 h2=>kZ h2 (a4X h1).symm
 cases e0:within f.bJS 1 4 with
 | false =>
  have:lM f=false:=by simp[lM,e0]
  simp only[go_sem,γ,bKW,nY]
  exact bad _ _ (by rw[he,this]; simp only[bKO]) rfl
 | true =>
  by_cases s1:f.bIN.length≤4
  ·have s1':¬ ((f.bIN.length:Nat):Int)>4:=by omega
   by_cases s2:f.bIF.length≤4
   ·have s2':¬ ((f.bIF.length:Nat):Int)>4:=by omega
    by_cases s3:f.bIH.length≤40
    ·have s3':¬ ((f.bIH.length:Nat):Int)>40:=by omega
     by_cases s4:f.bIE.length≤24
     ·have s4':¬ ((f.bIE.length:Nat):Int)>24:=by omega
      by_cases s5:f.bII.length≤4
      ·have s5':¬ ((f.bII.length:Nat):Int)>4:=by omega
       by_cases s6:f.bIG.length≤12
       ·have s6':¬ ((f.bIG.length:Nat):Int)>12:=by omega
        have hsz:=aPJ ⟨s1,s2,s3,s4,s5,s6⟩
        rw[e0] at hsz
        simp only[go_sem,δ,γ,θ,reduceCtorEq,bKR,bKI,s1',s2',s3',s4',s5',s6']
        refine aA (L.bIP f hf) rfl ?_
        cases e1:mS f with
        | false =>
         simp only[go_sem,γ,reduceCtorEq,bKW,nY]
         exact bad _ _ (by rw[he,e1]; simp only[bLQ,bKO]) rfl
        | true =>
         have hd:0<f.bIH.length:=by
          rcases bNK f.bIH.length with h | h
          ·have:f.bIH=[]:=bNY h
           rw[mS,this] at e1
           cases e1
          ·exact h
         have hz:pQ f=bI (f.bIN.all kE&&f.bIF.all (jH f)&&f.bIE.all (gR f)&&f.bII.all (jA f.bIF.length)&&f.bIG.all (mQ f)&&sU f):=by
          rw[pQ,he,hsz,e1]; rfl
         rw[hz]
         simp only[go_sem,γ,reduceCtorEq,bKR,aTC,aTD]
         have e:=fun F H hv=>bnC L f hf ⟨s1,s2,s3,s4,s5,s6⟩ hd F H hv
         simp only[a4W,axY,axZ,ayA,ayB,ayC,aC.wp,go_sem] at e
         exact e _ _ ⟨by simp only[go_sem,γ],by simp only[go_sem,γ],by simp only[go_sem,γ],by simp only[go_sem,γ],by simp only[go_sem,γ],by simp only[go_sem,γ],by simp only[go_sem,γ]⟩
       ·have s6':((f.bIG.length:Nat):Int)>12:=by omega
        simp only[go_sem,δ,γ,θ,reduceCtorEq,bKR,bKI,s1',s2',s3',s4',s5',s6',nY]
        exact bad _ _ (by rw[he,lN Om]; simp only[bKO]) rfl
      ·have s5':((f.bII.length:Nat):Int)>4:=by omega
       simp only[go_sem,δ,γ,θ,reduceCtorEq,bKR,bKI,s1',s2',s3',s4',s5',nY]
       exact bad _ _ (by rw[he,lN Om]; simp only[bKO]) rfl
     ·have s4':((f.bIE.length:Nat):Int)>24:=by omega
      simp only[go_sem,δ,γ,θ,reduceCtorEq,bKR,bKI,s1',s2',s3',s4',nY]
      exact bad _ _ (by rw[he,lN Om]; simp only[bKO]) rfl
    ·have s3':((f.bIH.length:Nat):Int)>40:=by omega
     simp only[go_sem,δ,γ,θ,reduceCtorEq,bKR,bKI,s1',s2',s3',nY]
     exact bad _ _ (by rw[he,lN Om]; simp only[bKO]) rfl
   ·have s2':((f.bIF.length:Nat):Int)>4:=by omega
    simp only[go_sem,δ,γ,θ,reduceCtorEq,bKR,bKI,s1',s2',nY]
    exact bad _ _ (by rw[he,lN Om]; simp only[bKO]) rfl
  ·have s1':((f.bIN.length:Nat):Int)>4:=by omega
   simp only[go_sem,δ,γ,θ,reduceCtorEq,bKR,bKI,s1',nY]
   exact bad _ _ (by rw[he,lN Om]; simp only[bKO]) rfl
def lvl (f:aH) (i:Nat):Int:=(f.bIH.map bP.level).getD i 0
def par (f:aH) (i:Nat):Int:=(f.bIH.map bP.parent).getD i 0
def aHR (f:aH) (i:Nat):Nat:=(par f i).toNat
def aEZ (f:aH) (d:Nat):Nat:=((f.bIE.map cD.machine).getD d 0).toNat
def mdl (f:aH) (d:Nat):Nat:=((f.bIE.map cD.model).getD d 0).toNat
def ext (f:aH) (d:Nat):Int:=(f.bIF.map cV.bIY).getD (mdl f d) 0
def uD (f:aH) (v:Nat):Nat:=((f.bIG.map eD.bIS).getD v 0).toNat
def bwG:dA:=⟨[],0,0,0,0,0,0,0,0,[],[],⟨false,[],[]⟩,⟨false,[],[]⟩⟩
def dB (f:aH) (v:Nat):dA:=f.bII.getD (uD f v) bwG
def upN (f:aH):Nat→Nat→Nat
 | 0,i=>i
 | k+1,i=>aHR f (upN f k i)
theorem nU {α β:Type} {l:List α} {g:α→β} {i:Nat} {b:β} (h:i<l.length):(l.map g).getD i b=g l[i]:=by
 simp[bLC,h]
structure VF (f:aH):Prop where
 small:Small f
 root:0<f.bIH.length∧lvl f 0=0∧par f 0=-1
 dom:∀ i,0<i→i<f.bIH.length→0≤par f i∧aHR f i<i∧lvl f (aHR f i)=lvl f i-1∧1≤lvl f i∧lvl f i≤4
 drive:∀ d (h:d<f.bIE.length),0≤(f.bIE[d]).model∧mdl f d<f.bIF.length∧0≤(f.bIE[d]).machine∧aEZ f d<f.bIH.length∧lvl f (aEZ f d)=4
 bIS:∀ p∈f.bII,1≤p.k∧p.k≤6∧0≤p.m∧p.m≤4∧p.k+p.m≤8∧p.s0=0∧(∀ l,0≤p.spread l∧p.spread l≤8)∧∀ m∈p.bIF,0≤m∧m<f.bIF.length
 volume:∀ v (h:v<f.bIG.length),0≤(f.bIG[v]).bIS∧uD f v<f.bII.length
 model:∀ m∈f.bIF,1≤m.bIY∧m.bIY≤16
theorem boT {p:dA} {n:Nat} (h:jA n p=true):∀ m∈p.bIF,0≤m∧m<n:=by
 intro m hm
 simp only[jA,bLF] at h
 obtain⟨i,hi,rfl⟩:=bMP hm
 have:=bLA.1 h.2 i (bLL.2 hi)
 rw[bLF] at this
 have h1:=within_iff.1 this.1
 simp only[bLC,bKU hi,bNE] at h1
 omega
theorem aiR {x:Int} (h1:1≤x) (h2:x≤4):IntKind.i64.wrap (x-1)=x-1:=wrap_i64 Om Om
theorem VF.of {f:aH} (h:dM f=true):VF f:=by
 simp only[dM,bLF] at h
 obtain⟨⟨⟨hs,hd⟩,⟨⟨⟨hlaw,hmod⟩,hdrv⟩,hpol⟩,hvol⟩,-⟩:=h
 simp only[lM,bLF,decide_eq_true_eq] at hs
 obtain⟨⟨⟨⟨⟨⟨s0,s1⟩,s2⟩,s3⟩,s4⟩,s5⟩,s6⟩:=hs
 cases hdm:f.bIH with
 | nil=>rw[mS,hdm] at hd; cases hd
 | cons r t =>
  rw[mS,hdm] at hd
  simp only[yA,bLF,decide_eq_true_eq] at hd
  obtain⟨⟨⟨⟨⟨⟨r1,r2⟩,r3⟩,r4⟩,r5⟩,r6⟩,bJV⟩:=hd
  have hlen:f.bIH.length=t.length+1:=by rw[hdm]; rfl
  refine⟨⟨s1,s2,s3,s4,s5,s6⟩,⟨by omega,by rw[lvl,hdm]; exact r2,by rw[par,hdm]; exact r3⟩,?_,?_,?_,?_,?_⟩
  ·intro i h0 hi
   obtain⟨k,rfl⟩:∃ k,i=k+1:=⟨i-1,by omega⟩
   have hk:k<t.length:=by omega
   have:=bLA.1 bJV k (bLL.2 hk)
   rw[bKU hk] at this
   simp only[FO,bLF,decide_eq_true_eq] at this
   obtain⟨⟨⟨⟨d1,d2⟩,d3⟩,d4⟩,d5⟩:=this
   obtain⟨p0,p1⟩:=within_iff.1 d1
   obtain⟨l1,l4⟩:=within_iff.1 d3
   have e1:par f (k+1)=(t[k]).parent:=by rw[par,hdm]; simp[bLC,hk]
   have e2:lvl f (k+1)=(t[k]).level:=by rw[lvl,hdm]; simp[bLC,hk]
   rw[aiR l1 l4] at d2
   have e3:lvl f (t[k]).parent.toNat=(t[k]).level-1:=d2
   refine⟨by rw[e1]; exact p0,?_,?_,by rw[e2]; exact l1,by rw[e2]; exact l4⟩
   ·rw[aHR,e1]; omega
   ·rw[aHR,e1,e2]; exact e3
  ·intro d hd
   have:=bLA.1 hdrv _ (bKM hd)
   simp only[gR,bLF,decide_eq_true_eq] at this
   obtain⟨⟨d1,d2⟩,d3⟩:=this
   have a1:=within_iff.1 d1
   have a2:=within_iff.1 d2
   have e1:mdl f d=(f.bIE[d]).model.toNat:=by rw[mdl,nU hd]
   have e2:aEZ f d=(f.bIE[d]).machine.toNat:=by rw[aEZ,nU hd]
   refine⟨a1.1,by rw[e1]; omega,a2.1,by rw[e2]; omega,by rw[e2]; exact d3⟩
  ·intro p hp
   have h1:=bLA.1 hpol p hp
   have h2:=boT h1
   simp only[jA,HL,bLF,decide_eq_true_eq,List.all_cons,List.all_nil,bMI] at h1
   obtain⟨⟨⟨⟨⟨⟨⟨⟨k1,m1⟩,km⟩,q1⟩,z0⟩,sp⟩,-⟩,-⟩,-⟩:=h1
   obtain⟨g0,g1,g2,g3,g4⟩:=sp
   have b1:=within_iff.1 k1
   have b2:=within_iff.1 m1
   have b3:=within_iff.1 g0
   have b4:=within_iff.1 g1
   have b5:=within_iff.1 g2
   have b6:=within_iff.1 g3
   have b7:=within_iff.1 g4
   refine⟨b1.1,b1.2,b2.1,b2.2,km,z0,fun l=>?_,h2⟩
   unfold dA.spread
   split<;>omega
  ·intro v hv
   have:=bLA.1 hvol _ (bKM hv)
   have a1:=within_iff.1 this
   have e1:uD f v=(f.bIG[v]).bIS.toNat:=by rw[uD,nU hv]
   exact⟨a1.1,by rw[e1]; omega⟩
  ·intro m hm
   have:=bLA.1 hmod m hm
   simp only[jH,bLF] at this
   exact within_iff.1 this.1.1
def brG (f:aH) (d:Nat) (level:Int):Nat:=upN f (4-level.toNat) (aEZ f d)
def fB (f:aH) (v:Nat):Int:=(dB f v).k+(dB f v).m
def asT:Rg:=[iA 1 (.box true (Tm 0)),iT 2 false]
def asU:Rg:=[iO 3 7 1,iK 4 96 3,iC 5 .eql 4 0,iM 2 5]
def AY:aC:=(sq asT (sq asU .ret))
def bbH:List Nat:=[1]
def PU:aW:=⟨1,6,AY,[.tmp 2]⟩
def aKJ:Rg:=[iA 2 (.box true (Tm 0)),iI 4 0]
def aKK:Rd:=[(iF 6 5 2,false),(iL 7 6,false),(iF 8 6 2,false),(iL 9 8,false),(iM 10 1,false),(iX 11 2 9 10,false),(iF 12 1 11,false),(iL 13 12,false),(iX 14 17 7 13,false),(iO 15 17 14,false),(iA 5 (.alloc [(.str []),(.int .i64 0),(.int .i64 0),(.int .i64 0),(.int .i64 0),(.int .i64 0),(.int .i64 0),(.int .i64 0),(.int .i64 0),.aB,.aB,(.bool false),.aB,.aB,(.bool false),.aB,.aB]),true),(iS 17 5 15,true)]
def aKL:Rg:=[iF 16 1 5,iL 17 16,iF 18 2 5,iL 19 18,iB 20 .add 17 19,iM 4 20]
def IL:aC:=(sq aKJ (dq aKK (sq aKL .ret)))
def aKM:List Nat:=[2]
def yX:aW:=⟨2,21,IL,[.tmp 4]⟩
def asN:Rg:=[iA 3 (.box true (Tm 0)),iA 6 (.alloc [(.int .i64 0),(.int .i64 0),(.int .i64 0)]),iT 7 false]
def asO:Rd:=[(iM 10 1,true),(iM 11 2,true),(iX 12 1 10 11,true),(iL 13 12,true),(iN 14 13,true),(iO 15 7 3,false),(iM 16 2,false),(iK2 17 156 15 16,true),(iB 18 .neq 14 17,false)]
def asP:Rg:=[iM 19 2,iM 20 1,iM 21 2,iX 22 1 20 21,iL 23 22,iN 24 23,iA 25 (.build [(.int .i64 0),(.int .i64 0),(.int .i64 0)] [(0,1,(Ci 1)),(1,1,(Tm 19)),(2,1,(Tm 24))]),iS 3 6 25,iT 7 true]
def asQ:Rg:=[iM 26 1,iM 27 2,iX 28 1 26 27,iL 29 28,iN 30 29,iI 31 0]
def asR:Rg:=[iB 32 .lss 31 30]
def yY:Rg:=[iM 33 31,iX 34 1 29 31,iL 35 34,iM 8 33,iM 9 35]
def yZ:Rg:=[iM 36 9,iC 37 .lss 36 (-1),iM 38 37,gM 39 9 38 false,gF 40 4 3 38 false,gL 41 40 38 false,gN 42 41 38 false,gB 43 .geq 39 42 38 false,iQ 44 38 43]
def PT:Rg:=[iM 45 2,iM 46 8,iA 47 (.build [(.int .i64 0),(.int .i64 0),(.int .i64 0)] [(0,1,(Ci 1)),(1,1,(Tm 45)),(2,1,(Tm 46))]),iS 3 6 47,iT 7 true]
def asS:Rg:=[iC 48 .add 31 1,iM 31 48]
def asM:aC:=(sq asR (.seq (.cond (Tm 32) .skip (.exit 0)) (.seq (.block 1 (sq yY (sq yZ (.cond (Tm 44) (sq PT .ret) .skip)))) (.region asS))))
def agB:Rg:=[iA 49 (.build [(.int .i64 0),(.int .i64 0),(.int .i64 0)] []),iS 3 6 49,iT 7 false]
def AX:aC:=(sq asN (.seq (dq asO (.cond (Tm 18) (sq asP .ret) .skip)) (.seq (sq asQ (.block 0 (.loop asM))) (sq agB .ret))))
def bbF:List Nat:=[3]
def xK:aW:=⟨3,50,AX,[.cell 6 (some 3),.tmp 7]⟩
def afR:Rg:=[iA 2 (.box true (Tm 0)),iT 4 false]
def afS:Rg:=[iO 8 7 2,iK 9 161 8,iA 10 (.un .not (Tm 9)),iM 11 10,gM 12 1 11 false,gN 13 12 11 false,gF 14 6 2 11 false,gL 15 14 11 false,gN 16 15 11 false,gB 17 .neq 13 16 11 false,iQ 18 11 17]
def II:Rg:=[iT 4 false]
def afT:Rg:=[iM 19 1,iN 20 19,iI 21 0]
def afU:Rg:=[iB 22 .lss 21 20]
def afV:Rg:=[iM 23 21,iM 5 23]
def afW:Rg:=[iO 25 7 2,iM 26 1,iM 27 5,iA 28 (.call 160 [(Tm 25),(Tm 26),(Tm 27)]),iM 24 28,iE 29 24 0,iE 30 24 1,iA 6 (.alloc [(.int .i64 0),(.int .i64 0),(.int .i64 0)]),iS 3 6 29,iM 7 30]
def IJ:Rg:=[iM 31 7]
def afX:Rg:=[iT 4 false]
def afY:Rg:=[iC 32 .add 21 1,iM 21 32]
def UZ:aC:=(sq afU (.seq (.cond (Tm 22) .skip (.exit 0)) (.seq (.block 1 (sq afV (sq afW (sq IJ (.cond (Tm 31) (sq afX .ret) .skip))))) (.region afY))))
def VA:Rg:=[iT 4 true]
def xJ:aC:=(sq afR (.seq (sq afS (.cond (Tm 18) (sq II .ret) .skip)) (.seq (sq afT (.block 0 (.loop UZ))) (sq VA .ret))))
def a4J:List Nat:=[2]
def DP:aW:=⟨2,33,xJ,[.tmp 4]⟩
theorem bbG {C:Ctx} (h:∀ f:aH,f.Ok→aE C 96 [.agg f.cells] .nil (aD (.int .i64 (pQ f)))) (f:aH) (hf:f.Ok) :
  AY.wp C (aT PU.res (bZ (.bool (dM f)))) (PF.args [.agg f.cells]) .nil:=by
 simp only[go_sem,δ,γ,AY,asT,asU,PU]
 refine aA (h f hf) rfl ?_
 simp only[go_sem,γ]
 refine bA rfl ?_
 unfold pQ
 cases dM f<;>rfl
theorem aoL {f:aH} {d:Nat} (h:d<f.bIE.length):(f.bIE.map cD.cells)[d]?=some (f.bIE[d]).cells:=by simp[h]
theorem uM {f:aH} {d:Nat} (h:d<f.bIH.length):(f.bIH.map bP.cells)[d]?=some (f.bIH[d]).cells:=by simp[h]
theorem rI {f:aH} {d:Nat} (h:d<f.bIG.length):(f.bIG.map eD.cells)[d]?=some (f.bIG[d]).cells:=by simp[h]
theorem mN {f:aH} {d:Nat} (h:d<f.bII.length):(f.bII.map dA.cells)[d]?=some (f.bII[d]).cells:=by simp[h]
theorem a8W {f:aH} {d:Nat} (h:d<f.bIF.length):(f.bIF.map cV.cells)[d]?=some (f.bIF[d]).cells:=by simp[h]
theorem VF.bsJ {f:aH} (h:VF f) {d:Nat} (hd:d<f.bIE.length):(f.bIE[d]).model=((mdl f d:Nat):Int):=by
 have:=(h.drive d hd).1
 rw[mdl,nU hd]; omega
theorem VF.OW {f:aH} (h:VF f) {v:Nat} (hv:v<f.bIG.length):(f.bIG[v]).bIS=((uD f v:Nat):Int):=by
 have:=(h.volume v hv).1
 rw[uD,nU hv]; omega
theorem nH {f:aH} (h:VF f) {v:Nat} (hv:v<f.bIG.length):∃ hp:uD f v<f.bII.length,f.bII[uD f v]=dB f v:=by
 have hp:=(h.volume v hv).2
 exact⟨hp,by simp[dB,bLC,hp]⟩
theorem aKI {C:Ctx} (f:aH) (hv:VF f) (v:Nat) (h:v<f.bIG.length) :
  IL.wp C (aT yX.res (bZ (.int .i64 (fB f v)))) (PF.args [.agg f.cells,.int .i64 v]) .nil:=by
 obtain⟨hp,he⟩:=nH hv h
 have hpol:=hv.bIS _ (bKM hp)
 rw[he] at hpol
 have hw:IntKind.i64.wrap ((dB f v).k+(dB f v).m)=(dB f v).k+(dB f v).m:=wrap_i64 Om Om
 simp only[go_sem,IL,aKJ,yX]
 refine bS .nil eC PH.nil_le ?_
 simp only[go_sem,δ,γ,θ,aKK,rI h,hv.OW h,mN hp,he]
 refine aQ fun o ho=>?_
 simp only[go_sem,δ,γ,θ,aKL,hw]
 refine⟨PH.nil_le,?_⟩
 exact kZ (n:=(dB f v).k+(dB f v).m) rfl rfl
def pick (n:Nat) (p:Nat→Bool):List Int:=((bKJ n).filter p).map fun (i:Nat)=>(i:Int)
theorem a2K (l:List Int) (x:Int):bE l++[[.int .i64 x]]=bE (l++[x]):=by unfold bE; rw[bMM]; rfl
theorem cT (l:List Int):(bE l).length=l.length:=by unfold bE; rw[bKI]
def toS (f:aH):Spec:=fun name vs=>match name,vs with
 | 155,[_,.int _ d,.int _ l]=>some ([],fun _=>aD (.int .i64 (brG f d.toNat l:Nat)))
 | 156,[_,.int _ v]=>some ([],fun _=>aD (.int .i64 (fB f v.toNat)))
 | _,_=>none
theorem biR (f:aH) (v:Nat):toS f 156 [.agg f.cells,.int .i64 v]=some ([],fun _=>aD (.int .i64 (fB f v))):=rfl
section
variable (o s:Nat) (rs:List (List PV))
@[go_sem] theorem bCH (k:IntKind) (n:Int):PV.frz o s rs (.int k n)=.int k n:=(rfl)
@[go_sem] theorem bxJ (b:Bool):PV.frz o s rs (.bool b)=.bool b:=(rfl)
@[go_sem] theorem bCL (l:List UInt8):PV.frz o s rs (.str l)=.str l:=(rfl)
@[go_sem] theorem bxK:PV.frz o s rs .aB=.aB:=(rfl)
@[go_sem] theorem bGQ (n:Nat) (r:List (List PV)):PV.frz o s rs (.sl n r)=.sl n r:=(rfl)
@[go_sem] theorem bxL (c:List PV):PV.frz o s rs (.bH c)=.bH c:=(rfl)
@[go_sem] theorem bCK (q z i c:Nat):PV.frz o s rs (.ptr q z i c)=.ptr q z i c:=(rfl)
@[go_sem] theorem bGP (n:Nat) (c:List PV):PV.frz o s rs (.fn n c)=.fn n c:=(rfl)
@[go_sem] theorem bCI (q:Nat):PV.frz o s rs (.map q)=.map q:=(rfl)
@[go_sem] theorem bCJ (q z off len:Nat):PV.frz o s rs (.osl q z off len)=if q=o then (if z=s∧off+len≤rs.length then .sl s ((rs.drop off).take len) else .junk) else .osl q z off len:=(rfl)
end
def kO (s:Nat) (rows:List (List PV)) (r:PV) (H:PH):Prop :=
 (rows=[]∧r=.aB∧H=PH.nil)∨∃ q rs,r=.osl q s 0 rows.length∧H=PH.nil.set q (.rows s rs)∧rows.length≤rs.length∧rs.take rows.length=rows
theorem aRM (q s:Nat) (rs:List (List PV)):(PH.nil.set q (.rows s rs)).frz q s rs=PH.nil:=PH.ext fun o=>by
 rw[vW]
 by_cases e:o=q
 ·rw[if_pos e]; rfl
 ·rw[if_neg e,bL,if_neg e]; rfl
section
variable {C:Ctx} {K:cO} {F:PF} {H:PH} {s:Nat} {v:PV} {rows:List (List PV)}
theorem kO.eJ {r:PV} {H':PH} (h:kO s rows r H') (ha:kN H .nil H'):bJ (H.eJ .nil H') s r rows∧∀ o x,H o=some x→(H.eJ .nil H') o=some x:=by
 rcases h with ⟨h1,h2,rfl⟩ | ⟨q,rs,h1,rfl,h3,h4⟩
 ·rw[PH.kY]; exact⟨.inl ⟨h1,h2⟩,fun o x h=>h⟩
 ·rw[PH.kJ]
  have hq:H q=none:=ha q (.rows s rs) (by simp only[bL,if_true]) rfl
  refine⟨.inr ⟨q,rs,h1,by simp only[bL,if_true],h3,h4⟩,fun o x ho=>?_⟩
  have:o≠q:=by rintro rfl; rw[hq] at ho; cases ho
  simp only[bL,if_neg this,ho]
theorem HX {t:Nat} {e:lO} (he:e=.normal∨e=.ret) (h:bJ H s v rows) (ht:F t=some v):aT [.tmp t] (kO s rows) e F H:=by
 rcases h with ⟨rfl,rfl⟩ | ⟨q,rs,rfl,h1,h2,h3⟩
 ·exact aX (vs:=[.aB]) he .nil (by rw[lC,oI,ht,pZ]) PH.nil_le (.inl ⟨rfl,rfl,rfl⟩)
 ·exact aX (vs:=[.osl q s 0 rows.length]) he (PH.nil.set q (.rows s rs)) (by rw[lC,oI,ht,pZ]) (PH.aK PH.nil_le h1) (.inr ⟨q,rs,rfl,rfl,h2,h3⟩)
theorem DJ {t:Nat} {e:lO} (he:e=.normal∨e=.ret) (ht:F t=some .aB):aT [.tmp t] (kO s []) e F H:=HX he .nil ht
theorem baL {t:Nat} {e:lO} {r:PV} {H':PH} (he:e=.normal∨e=.ret) (h:kO s rows r H') (ht:F t=some r):aT [.tmp t] (kO s rows) e F (H.eJ .nil H'):=by
 refine aX (vs:=[r]) he H' (by rw[lC,oI,ht,pZ]) (fun o x ho=>?_) h
 rw[lI,ho]
theorem aE.freeze {name:Nat} {args:List PV} (h:aE C name args H (kO s rows)):aE C name args H (aD (.sl s rows)) :=
 ⟨h.1,fun E w vs hN hW hvs=>(h.2 E w vs hN hW hvs).mono fun e w' he=>by
  obtain⟨u,pv,E',H',rfl,hW',hr,hE,hp⟩:=he
  rcases hp with ⟨rfl,rfl,rfl⟩ | ⟨q,rs,rfl,rfl,h3,h4⟩
  ·exact⟨u,_,E',_,rfl,hW',(Co.nil s).sound hr,hE,rfl,rfl⟩
  ·have hz:iY (PF.nil.set 0 (.osl q s 0 rows.length)) (PH.nil.set q (.rows s rs)) _ _:=.step q (s:=s) (rs:=rs) (by simp only[bL,if_true]) (.refl _ _)
   obtain⟨E2,k1,k2,k3⟩:=hz.sound hW'
   have bKD:=k3 (fun _=>u) (fun i p hi=>by
    rw[lK] at hi
    split at hi
    ·cases hi; exact hr
    ·cases hi) 0 (.sl s rows) (by rw[qS,lK,if_pos rfl,bLT,nT h3,h4])
   rw[aRM] at k1 k2
   exact⟨u,_,E2,_,rfl,k1,bKD,hE.trans k2,rfl,rfl⟩⟩
theorem eR.of:∀ {E:Env} (ps:List PV) (vs:List Value),vs.length=ps.length→(∀ (i:Nat) p v,ps[i]?=some p→vs[i]?=some v→aY E p v)→eR E ps vs
 | _,[],[],_,_=>.nil
 | _,[],_::_,h,_=>by simp at h
 | _,_::_,[],h,_=>by simp at h
 | _,p::ps,v::vs,h,k=>.cons (k 0 p v rfl rfl) (eR.of ps vs (by simpa using h) fun i q u a b=>k (i+1) q u (by simpa using a) (by simpa using b))
theorem bM.same {E:Env} {w w':World} (hW:bM E H w) (hs:w.heap.size≤w'.heap.size) (hb:∀ b,b<w.heap.size→H b=none→w'.heap[b]?=w.heap[b]?) (hH:∀ o x,H o=some x→w'.heap[o]?=w.heap[o]?):bM E H w':=by
 have key:∀ b,b<w.heap.size→w'.heap[b]?=w.heap[b]?:=fun b hlt=>by
  cases e:H b with
  | none=>exact hb b hlt e
  | some x=>exact hH b x e
 refine⟨fun b cs h=>?_,fun o x h=>?_,fun o n h=>?_⟩
 ·obtain⟨h1,ty,fr,h2⟩:=hW.g b cs h
  exact⟨h1,ty,fr,(key b (bNT.1 h2).1).trans h2⟩
 ·obtain⟨h1,h2⟩:=hW.h o x h
  exact⟨Nat.lt_of_lt_of_le h1 hs,h2.mono (.refl E) (key o h1)⟩
 ·obtain⟨cur,ty,fr,h1,h2⟩:=hW.s o n h
  exact⟨cur,ty,fr,(key o (bNT.1 h1).1).trans h1,h2⟩
inductive Plain:PV→Prop
 | int (k:IntKind) (n:Int):Plain (.int k n)
 | bool (b:Bool):Plain (.bool b)
 | str (l:List UInt8):Plain (.str l)
theorem Plain.rep {v:PV} (h:Plain v) {E E':Env} {u:Value} (r:aY E v u):aY E' v u:=by
 cases h<;>cases r
 ·exact .int _ _
 ·exact .bool _
 ·exact .str _
theorem aE.bgO {name o:Nat} {rs:List (List PV)} {args:List PV} (hv:Plain v) (h:aE C name (args.map (PV.frz o s rs)) .nil (aD v)) :
  aE C name args (PH.nil.set o (.rows s rs)) (fun r H'=>r=v∧H'=PH.nil.set o (.rows s rs)):=by
 refine⟨h.1,fun E w vs hN hW hvs=>?_⟩
 have hz:iY (PF.args args) (PH.nil.set o (.rows s rs)) _ _:=.step o (s:=s) (rs:=rs) (by simp only[bL,if_true]) (.refl _ _)
 obtain⟨E1,k1,k2,k3⟩:=hz.sound hW
 rw[aRM] at k1 k2
 have hlen:=hvs.len
 have hvs1:eR E1 (args.map (PV.frz o s rs)) vs.toList:=by
  refine eR.of _ _ (by rw[bKI]; exact hlen) fun i p u hp hu=>?_
  have:=k3 (fun i=>(vs.toList[i]?).getD undef) (fun j q hj=>by
   have hjl:=(bLU.1 hj).1
   have hjv:j<vs.toList.length:=by omega
   simp only[bKU hjv,bNE]
   exact hvs.at_ j q _ hj (bKU hjv)) i p (by rw[qS,args_at,← bLN]; exact hp)
  simp only[hu,bNE] at this
  exact this
 refine (h.2 E1 w vs (k2.env.num.trans hN) k1 hvs1).mono fun e w' he=>?_
 obtain⟨u,pv,E2,H2,rfl,hW2,hr,hE,rfl,rfl⟩:=he
 have hblk:∀ b,b<w.heap.size→w'.heap[b]?=w.heap[b]?:=fun b hb=>hE.block b hb rfl
 refine⟨u,pv,E,_,rfl,hW.same hE.size (fun b hb _=>hblk b hb) (fun q x hq=>hblk q (hW.h q x hq).1),hv.rep hr,⟨.refl E,hE.os,hE.tape,hE.output,hE.size,fun b hb _=>hblk b hb,fun q x hq=>.inl ⟨x,hq⟩,fun b cs hb=>.inl hb⟩,rfl,rfl⟩
theorem CA {name o:Nat} {rs:List (List PV)} {args:List aP} {vs:List PV} {d:Option Nat} {K:PF→PH→Prop} (hv:Plain v) (h:aE C name (vs.map (PV.frz o s rs)) .nil (aD v)) (ho:H o=some (.rows s rs)) (ha:aP.evs F args=some vs)
  (hk:K (F.put d v) H):fU C name args [] d K F H:=by
 refine fE (h.bgO hv) ha (PH.aK PH.nil_le ho) ?_
 rintro r H' ⟨rfl,rfl⟩ -
 rw[PH.OM _ (PH.aK PH.nil_le ho)]
 exact hk
theorem beQ {Hs:PH} {S:Spec} {name o:Nat} {rs:List (List PV)} {vs:List PV} {R:PH→PV→PH→Prop} {args:List aP} {st:Bool} {d:Option Nat} {K:PF→PH→Prop} (hS:S name vs=some ([o],R)) (hv:Plain v) (ho:H o=some (.rows s rs))
  (h:aE C name (vs.map (PV.frz o s rs)) .nil (aD v)) (hR1:R (PH.nil.set o (.rows s rs)) v (PH.nil.set o (.rows s rs))) (hR2:∀ r H',R (PH.nil.set o (.rows s rs)) r H'→r=v∧H'=PH.nil.set o (.rows s rs)) (ha:aP.evs F args=some vs) (hle:Hs.le H) (hk:K (F.put d v) H) :
  dOp C Hs S st (.call name args) d K F H:=WF hS ho (h.bgO hv) hR1 hR2 ha hle hk
theorem axP {name t:Nat} {R:PV→PH→Prop} {d:Option Nat} {K:PF→PH→Prop} (h:aE C name [.sl s rows] .nil R) (hO:bJ H s v rows) (ht:F t=some v)
  (hK:∀ (F1:PF) (H1:PH),(∀ i u,F i=some u→Pure u→F1 i=some u)→∀ r H',R r H'→kN H1 .nil H'→K (F1.put d r) (H1.eJ .nil H')):fU C name [.tmp t] [] d K F H:=by
 rcases hO with ⟨rfl,rfl⟩ | ⟨q,rs,rfl,h1,h2,h3⟩
 ·exact .inl ⟨[.aB],.nil,R,by rw[wM,abU,ht,SF]; rfl,PH.nil_le,h.a4A (.inl ⟨rfl,rfl⟩),hK F H fun i u hi _=>hi⟩
 ·refine .inr ⟨_,_,.step q h1 (.refl _ _),[.sl s rows],.nil,R,?_,PH.nil_le,h,hK _ _ fun i u hi hp=>?_⟩
  ·simp only[wM,SF,abU,qS,ht,bLT,nT h2,h3,bMF]
  ·rw[qS,hi,bLT,hp q s rs]
end
theorem a8H (l:List Int) (i:Nat) (x:Int):(bE l).set i [.int .i64 x]=bE (l.set i x):=by unfold bE; rw[List.map_set]
def rE (f:aH) (room:List Int) (d:Nat):Int:=if room.length=f.bIE.length then min (max (room.getD d 0) 0) (ext f d) else ext f d
def fL (f:aH) (room:List Int):List Int:=(bKJ f.bIE.length).map (rE f room)
def afD (f:aH) (room:List Int):List Int:=if dM f then fL f room else []
theorem PD (f:aH) (room:List Int):(fL f room).length=f.bIE.length:=by simp[fL]
theorem aJC (f:aH) (room:List Int) {d:Nat} (h:d<(fL f room).length):(fL f room)[d]=rE f room d:=by simp[fL]
theorem VF.a7O {f:aH} (h:VF f) {d:Nat} (hd:d<f.bIE.length):∃ hm:mdl f d<f.bIF.length,(f.bIF[mdl f d]).bIY=ext f d:=by
 have hm:=(h.drive d hd).2.1
 exact⟨hm,by rw[ext,nU hm]⟩
theorem boA (a b:Int):(if b<a then b else a)=min a b:=by
 rw[Int.min_def]
 by_cases h:b<a
 ·rw[if_pos h,if_neg Om]
 ·rw[if_neg h,if_pos Om]
abbrev lay (l:List (List Int)):PV:=.sl 1 (l.map fun r=>[ints r])
def bBU (n:Nat) (xs:List Int):List Int:=(bKJ n).map fun (d:Nat)=>((xs.count (d:Int):Nat):Int)
def bsH (f:aH) (l:List (List Int)):List Int:=bBU f.bIE.length l.flatten
structure eX (l:List (List Int)):Prop where
 rows:l.length≤16777216
 all:l.flatten.length≤16777216
theorem ML (l:List (List Int)) {i:Nat} (h:i<l.length):(l.take (i+1)).flatten=(l.take i).flatten++l[i]:=by
 rw[bMA h,List.flatten_append]
 simp only[List.flatten_cons,List.flatten_nil,bMF]
theorem aAY (l:List (List Int)) (i:Nat):(l.take i).flatten.length≤l.flatten.length:=by
 have:l.flatten=(l.take i).flatten++(l.drop i).flatten:=by rw[← List.flatten_append,bMX]
 rw[this,bKQ]; omega
structure ayP where
 kind:Int
 vol:Int
 wher:Int
abbrev ayP.cells (x:ayP):List PV:=[.int .i64 x.kind,.int .i64 x.vol,.int .i64 x.wher]
def eV (p:Int→Bool):List Int→Nat→Option Nat
 | [],_=>none
 | x::t,i=>if p x then some i else eV p t (i+1)
def jE (f:aH) (d:Int):Bool:=decide (d < -1)||decide (d≥(f.bIE.length:Nat))
def lL (f:aH) (l:List (List Int)) (v:Nat):Option ayP :=
 if ((l.getD v []).length:Int)=fB f v then (eV (jE f) (l.getD v []) 0).map fun (i:Nat)=>⟨1,v,i⟩ else some ⟨1,v,((l.getD v []).length:Nat)⟩
def shV:Option ayP→PV
 | some x=>.tup [.agg x.cells,.bool true]
 | none=>.tup [.agg [.int .i64 0,.int .i64 0,.int .i64 0],.bool false]
def biT (f:aH) (o:Nat) (v:Nat) (row:List Int) (k:Nat):PF:=((((((PF.nil.set 2 (.int .i64 v)).set 3 (.bH f.cells)).set 6 (.ptr o 3 0 0)).set 29 (ints row)).set 30 (.int .i64 (row.length:Nat))).set 31 (.int .i64 k))
def gS (f:aH) (l:List (List Int)):Bool:=dM f&&decide (l.length=f.bIG.length)&&(bKJ l.length).all fun v=>(lL f l v).isNone
def tSF (f:aH) (l:List (List Int)) (k:Nat):PF:=((((PF.nil.set 1 (lay l)).set 2 (.bH f.cells)).set 20 (.int .i64 (l.length:Nat))).set 21 (.int .i64 k))
section
variable {C:Ctx} {F:PF} {H:PH}
theorem bJ.ne {s s':Nat} {v:PV} {rows:List (List PV)} {o:Nat} {y:List (List PV)} (h:bJ H s v rows) (ho:H o=some (.rows s' y)) (hs:s≠s'):∀ l,v≠.osl o s 0 l:=by
 intro l e
 rcases h with ⟨_,h2⟩ | ⟨q,rs,h1,h2,_⟩
 ·rw[h2] at e; cases e
 ·rw[h1] at e
  injection e with e1
  subst e1
  rw[ho] at h2
  injection h2 with h2
  injection h2 with h2
  exact hs h2.symm
theorem bJ.set {s s':Nat} {v:PV} {rows:List (List PV)} {o:Nat} {y:List (List PV)} {x:cS} (h:bJ H s v rows) (ho:H o=some (.rows s' y)) (hs:s≠s'):bJ (H.set o x) s v rows:=by
 have hne:=h.ne ho hs
 rcases h with ⟨h1,h2⟩ | ⟨q,rs,h1,h2,h3,h4⟩
 ·exact .inl ⟨h1,h2⟩
 ·refine .inr ⟨q,rs,h1,?_,h3,h4⟩
  have:q≠o:=by rintro rfl; exact hne _ h1
  simp only[bL,if_neg this,h2]
def Dis (s:Nat) (v u:PV):Prop:=∀ q l q' l',v=.osl q s 0 l→u=.osl q' s 0 l'→q≠q'
theorem Dis.nil {s:Nat}:Dis s .aB .aB:=fun _ _ _ _ h=>by cases h
theorem Dis.symm {s:Nat} {v u:PV} (h:Dis s v u):Dis s u v:=fun q l q' l' h1 h2=>(h q' l' q l h2 h1).symm
end
structure Obs where
 o5:Nat
 o7:Nat
 o8:Nat
 oD:Nat
 oB:Nat
structure Obs.Ne (o:Obs):Prop where
 a1:o.o5≠o.oD
 a2:o.o5≠o.oB
 a3:o.o7≠o.oD
 a4:o.o7≠o.oB
 a5:o.o8≠o.oD
 a6:o.o8≠o.oB
 a7:o.oD≠o.oB
structure beF (H:PH) (o:Obs) (v:Nat) (p:dA) (A:List Bool) (D B:List Int):Prop where
 h5:H o.o5=some (.rows 1 [[.int .i64 v]])
 h7:H o.o7=some (.rows 17 [p.cells])
 h8:H o.o8=some (.rows 1 (fP A))
 hD:H o.oD=some (.rows 1 (bE D))
 hB:H o.oB=some (.rows 1 (bE B))
theorem beF.keep {H H':PH} {o:Obs} {v:Nat} {p:dA} {A:List Bool} {D B:List Int} (h:beF H o v p A D B) (hk:∀ q s' z,3≠s'→H q=some (.rows s' z)→H' q=some (.rows s' z)):beF H' o v p A D B :=
 ⟨hk _ _ _ (by decide) h.h5,hk _ _ _ (by decide) h.h7,hk _ _ _ (by decide) h.h8,hk _ _ _ (by decide) h.hD,hk _ _ _ (by decide) h.hB⟩
def home (row:List Int) (i:Nat):Bool:=decide (row.getD i 0<0)
def bsK (f:aH) (p:dA) (i:Nat):Int:=p.spread (lvl f i).toNat
def iW (down:List Int) (d:Int):Bool:=decide (0≤d)&&down.contains d
def lW (down:List Int) (d:Int):Bool:=decide (0≤d)&&!down.contains d
def rX (down row:List Int):Bool:=row.any (iW down)
def fY (down row:List Int):Nat:=row.countP (lW down)
def tM (f:aH) (reserve:Int) (down:List Int) (v:Nat) (row:List Int):Bool:=rX down row&&decide (((fY down row:Nat):Int)<(dB f v).k+reserve)
def uP (f:aH) (now:List (List Int)) (reserve:Int) (down:List Int) (n:Nat):Bool:=(bKJ n).all fun v=>!tM f reserve down v (now.getD v [])
def eY (f:aH) (now:List (List Int)) (reserve:Int) (down:List Int):Bool:=uP f now reserve down now.length
def dQ (f:aH) (now:List (List Int)) (reserve:Int):Bool:=(dM f&&gS f now)&&(decide (0≤reserve)&&decide (reserve≤4))
def FW (f:aH) (now:List (List Int)) (reserve:Int) (down:List Int):Bool:=dQ f now reserve&&eY f now reserve down
theorem abY (f:aH) (now:List (List Int)) (reserve:Int) (down:List Int) (n:Nat):uP f now reserve down (n+1)=(uP f now reserve down n&&!tM f reserve down n (now.getD n [])):=by
 unfold uP
 rw[List.range_succ,List.all_append]
 simp
theorem aAV {f:aH} {now:List (List Int)} {reserve:Int} {down:List Int} {v n:Nat} (h:v<n) (hs:tM f reserve down v (now.getD v [])=true):uP f now reserve down n=false:=by
 unfold uP
 rw[Bool.eq_false_iff,ne_eq,bLA]
 intro hk
 have:=hk v (bLL.2 h)
 rw[hs] at this
 cases this
theorem apR {down row:List Int} {k:Nat} (h:k<row.length):rX down (row.take (k+1))=(rX down (row.take k)||iW down row[k]):=by
 unfold rX
 rw[bMA h,List.any_append]
 simp
theorem UV {down row:List Int} {k:Nat} (h:k<row.length):fY down (row.take (k+1))=fY down (row.take k)+if lW down row[k] then 1 else 0:=by
 unfold fY
 rw[bMA h,List.countP_append,List.countP_cons,List.countP_nil]
 omega
theorem a4C {f:aH} {l:List (List Int)} (h:gS f l=true):l.length=f.bIG.length:=by
 unfold gS at h
 simp only[bLF,decide_eq_true_eq] at h
 omega
def InR (l:List Int) (n:Nat):Prop:=∀ x∈l,0≤x∧x<(n:Int)
theorem NT:∀ (n:Nat) (l:List Int),l.Nodup→InR l n→l.length≤n
 | 0,l,_,h=>by
  cases l with
  | nil=>exact bKK _
  | cons x l=>have:=h x (by simp); omega
 | n+1,l,hd,h=>by
  by_cases c:(n:Int)∈l
  ·have h1:=NT n (l.erase n) (hd.erase _) fun x hx=>by
    have h2:=h x (List.mem_of_mem_erase hx)
    have h3:x≠n:=fun e=>by
     subst e
     exact hd.not_mem_erase hx
    omega
   rw[List.length_erase_of_mem c] at h1
   omega
  ·have:=NT n l hd fun x hx=>by
    have h2:=h x hx
    have h3:x≠n:=fun e=>c (e ▸ hx)
    omega
   omega
theorem LG:∀ (n:Nat) (l:List Int),l.length=n→l.Nodup→InR l n→∀ d,d<n→(d:Int)∈l
 | 0,_,_,_,_,d,h=>by omega
 | n+1,l,hl,hd,h,d,hdn=>by
  by_cases c:(n:Int)∈l
  ·by_cases e:d=n
   ·subst e; exact c
   ·refine List.mem_of_mem_erase (LG n (l.erase n) (by rw[List.length_erase_of_mem c]; omega) (hd.erase _) (fun x hx=>?_) d Om)
    have h2:=h x (List.mem_of_mem_erase hx)
    have h3:x≠n:=fun e=>by
     subst e
     exact hd.not_mem_erase hx
    omega
  ·have:=NT n l hd fun x hx=>by
    have h2:=h x hx
    have h3:x≠n:=fun e=>c (e ▸ hx)
    omega
   omega
theorem NU:∀ (n:Nat) (l:List Int),l.length=n→(∀ d,d<n→(d:Int)∈l)→l.Nodup∧InR l n
 | 0,l,hl,_=>by
  rw[List.length_eq_zero_iff] at hl
  subst hl
  exact⟨.nil,fun x hx=>by cases hx⟩
 | n+1,l,hl,h=>by
  have c:=h n Om
  obtain⟨h1,h2⟩:=NU n (l.erase n) (by rw[List.length_erase_of_mem c]; omega) fun d hd=>(List.mem_erase_of_ne Om).2 (h d Om)
  have hp:=List.perm_cons_erase c
  refine⟨hp.nodup_iff.2 (List.nodup_cons.2 ⟨fun hm=>?_,h1⟩),fun x hx=>?_⟩
  ·have:=(h2 _ hm).2; omega
  ·rcases bKY.1 (hp.mem_iff.1 hx) with e | hx
   ·omega
   ·have:=h2 x hx; omega
theorem RC {n:Nat} {l:List Int} (hl:l.length=n):(∀ d,d<n→(d:Int)∈l)↔l.Nodup∧InR l n:=⟨NU n l hl,fun h=>LG n l hl h.1 h.2⟩
def jJ (f:aH) (now:List (List Int)) (r:Int) (l:List Int):Bool:=!l.isEmpty&&eY f now r l
def tR (n:Nat) (all:List Int):Bool:=decide (all.length=n)&&(bKJ n).all fun d=>all.contains (d:Int)
def jO (f:aH) (now:List (List Int)) (r:Int) (w:List (List Int)):Bool:=dQ f now r&&(tR f.bIE.length w.flatten&&w.all (jJ f now r))
def OX (f:aH) (now:List (List Int)) (r:Int) (ws:List (List Int)) (d:Nat):List (List Int):=match ws.findIdx? (fun l=>eY f now r (l++[(d:Int)])) with
 | some i=>ws.set i (ws.getD i []++[(d:Int)])
 | none=>ws++[[(d:Int)]]
def nL (f:aH) (now:List (List Int)) (r:Int):Nat→List (List Int)
 | 0=>[]
 | d+1=>OX f now r (nL f now r d) d
def mH (f:aH) (now:List (List Int)) (r:Int):Bool:=(bKJ f.bIE.length).all fun d=>eY f now r [(d:Int)]
def bR (row:List Int):List Int:=row.filter fun d=>decide (0≤d)
def axV (f:aH) (r:Int) (v:Nat) (row:List Int):Int :=
 if (bR row).Nodup∧bR row≠[] then (((bR row).length:Nat):Int)-(dB f v).k-r else 0
def SA (f:aH) (r:Int) (v:Nat) (row:List Int):Int :=
 if (bR row).Nodup∧bR row≠[] then bME ((((bR row).length:Nat):Int)+axV f r v row-1) (axV f r v row) else 0
def fS (f:aH) (now:List (List Int)) (r:Int):Nat→Int
 | 0=>min (f.bIE.length:Int) 1
 | v+1=>max (fS f now r v) (SA f r v (now.getD v []))
theorem mE {n:Nat} {all:List Int}:tR n all=true↔all.length=n∧all.Nodup∧InR all n:=by
 unfold tR
 rw[bLF,decide_eq_true_eq,bLA]
 constructor
 ·rintro⟨h1,h2⟩
  exact⟨h1,(RC h1).1 fun d hd=>by
   have:=h2 d (bLL.2 hd)
   exact bMV.1 this⟩
 ·rintro⟨h1,h2⟩
  exact⟨h1,fun d hd=>bMV.2 ((RC h1).2 h2 d (bLL.1 hd))⟩
def inN (down row:List Int):Nat:=row.countP (iW down)
theorem a8F (down row:List Int):inN down row+fY down row=(bR row).length:=by
 unfold inN fY bR iW lW
 rw[← List.countP_eq_length_filter]
 induction row with
 | nil=>rfl
 | cons x xs ih =>
  rw[List.countP_cons,List.countP_cons,List.countP_cons,← ih]
  cases decide (0≤x)<;>cases down.contains x<;>simp<;>omega
theorem aRK {f:aH} {now:List (List Int)} {r:Int} {l:List Int} (h:eY f now r l=true) {v:Nat} (hv:v<now.length) (hh:bR (now.getD v [])≠[]) (hk:0≤(dB f v).k+r) :
  inN l (now.getD v [])=0∨((inN l (now.getD v []):Nat):Int)≤(((bR (now.getD v [])).length:Nat):Int)-(dB f v).k-r:=by
 unfold eY uP at h
 have h1:=bLA.1 h v (bLL.2 hv)
 have h2:=a8F l (now.getD v [])
 rw[Bool.not_eq_true'] at h1
 unfold tM at h1
 rw[Bool.and_eq_false_iff,decide_eq_false_iff_not] at h1
 rcases h1 with h1 | h1
 ·refine .inl ?_
  unfold inN
  rw[List.countP_eq_zero]
  intro d hd hd2
  unfold rX at h1
  have:(now.getD v []).any (iW l)=true:=List.any_eq_true.2 ⟨d,hd,hd2⟩
  rw[this] at h1; cases h1
 ·exact .inr Om
theorem btJ (w:List (List Int)) (row:List Int) (h:∀ d∈row,0≤d→d∈w.flatten):(bR row).length≤(w.map fun l=>inN l row).sum:=by
 unfold bR
 rw[← List.countP_eq_length_filter]
 induction row with
 | nil=>simp
 | cons x xs ih =>
  have ih':=ih fun d hd=>h d (List.mem_cons_of_mem _ hd)
  have e:(w.map fun l=>inN l (x::xs)).sum=(w.map fun l=>inN l xs).sum+w.countP fun l=>iW l x:=by
   clear ih ih' h
   unfold inN
   induction w with
   | nil=>rfl
   | cons l w ihw =>
    rw[bMG,List.sum_cons,bMG,List.sum_cons,List.countP_cons,List.countP_cons,ihw]
    omega
  rw[e,List.countP_cons]
  by_cases c:0≤x
  ·obtain⟨l,hl,hx⟩:=List.mem_flatten.1 (h x (by simp) c)
   have:0<w.countP fun l=>iW l x:=List.countP_pos_iff.2 ⟨l,hl,by unfold iW; rw[decide_eq_true c,bMV.2 hx]; rfl⟩
   simp only[decide_eq_true c,if_true]
   omega
  ·simp only[decide_eq_false c]
   simp
   omega
theorem btK {w:List (List Int)} {row:List Int} {m:Nat} (h:∀ l∈w,inN l row≤m):(w.map fun l=>inN l row).sum≤w.length*m:=by
 induction w with
 | nil=>simp
 | cons l w ih =>
  have:=ih fun x hx=>h x (List.mem_cons_of_mem _ hx)
  have:=h l (by simp)
  rw[bMG,List.sum_cons,bLX,bNH]
  omega
theorem aQG {n e k:Nat} (he:0<e) (h:n≤k*e):bME ((n:Int)+(e:Int)-1) (e:Int)≤(k:Int):=by
 have h1:(n:Int)+(e:Int)-1=((n+e-1:Nat):Int):=by omega
 rw[h1,← Int.ofNat_tdiv]
 have:(n+e-1)/e≤k:=by
  have h2:n+e-1<(k+1)*e:=by rw[bNH]; omega
  exact Nat.le_of_lt_succ ((bND he).2 h2)
 exact_mod_cast this
theorem azL {f:aH} {now:List (List Int)} {r:Int} {w:List (List Int)} (hw:tR f.bIE.length w.flatten=true) (hf:w.all (jJ f now r)=true) (ha:mH f now r=true)
  (hr:∀ v,v<now.length→(∀ d∈now.getD v [],d<(f.bIE.length:Int))∧0≤(dB f v).k+r):∀ n,n≤now.length→fS f now r n≤w.length
 | 0,_=>by
  rw[fS]
  obtain⟨h1,-⟩:=mE.1 hw
  cases w with
  | nil=>simp at h1; omega
  | cons l w=>simp only[bLX]; omega
 | v+1,hv=>by
  have ih:=azL hw hf ha hr v Om
  rw[fS]
  obtain⟨g1,g2⟩:=hr v Om
  have key:SA f r v (now.getD v [])≤w.length:=by
   unfold SA
   split
   ·rename_i hc
    unfold axV
    rw[if_pos hc]
    generalize bIR:now.getD v []=row at *
    obtain⟨h1,h2,h3⟩:=mE.1 hw
    obtain⟨d,hd⟩:=List.exists_mem_of_ne_nil _ hc.2
    have hd2:=List.mem_filter.1 hd
    have hd0:0≤d:=by simpa using hd2.2
    have hdn:=g1 d hd2.1
    have hin:∀ l:List Int,eY f now r l=true→inN l row=0∨((inN l row:Nat):Int)≤(((bR row).length:Nat):Int)-(dB f v).k-r:=fun l hl=>by
     have:=aRK hl (v:=v) Om (by rw[bIR]; exact hc.2) g2
     rw[bIR] at this
     exact this
    have one:1≤inN [((d.toNat:Nat):Int)] row:=by
     unfold inN
     refine List.countP_pos_iff.2 ⟨d,hd2.1,?_⟩
     unfold iW
     rw[decide_eq_true hd0,Int.toNat_of_nonneg hd0]
     simp
    have hal:=bLA.1 ha d.toNat (bLL.2 Om)
    have h5:1≤(((bR row).length:Nat):Int)-(dB f v).k-r:=by
     rcases hin _ hal with e | e<;>omega
    obtain⟨e,he⟩:∃ e:Nat,(((bR row).length:Nat):Int)-(dB f v).k-r=e:=⟨_,(Int.toNat_of_nonneg Om).symm⟩
    rw[he]
    refine aQG Om (bNF (btJ w row fun x hx h0=>?_) (btK fun l hl=>?_))
    ·have:=(RC h1).2 ⟨h2,h3⟩ x.toNat (by have:=g1 x hx; omega)
     rwa [Int.toNat_of_nonneg h0] at this
    ·have hl2:=bLA.1 hf l hl
     unfold jJ at hl2
     rw[bLF] at hl2
     rcases hin l hl2.2 with z | z<;>omega
   ·omega
  omega
theorem set_perm:∀ (ws:List (List Int)) (i:Nat) (x:Int),i<ws.length→((ws.set i (ws.getD i []++[x])).flatten).Perm (ws.flatten++[x])
 | [],i,x,h=>by cases h
 | l::ws,0,x,_=>by
  simp only[List.set_cons_zero,List.getD_cons_zero,List.flatten_cons,bLI]
  exact List.Perm.append_left _ List.perm_append_comm
 | l::ws,i+1,x,h=>by
  have:=set_perm ws i x (by simpa using h)
  simp only[List.set_cons_succ,List.getD_cons_succ,List.flatten_cons,bLI]
  exact List.Perm.append_left _ this
structure ayS (f:aH) (now:List (List Int)) (r:Int) (n:Nat) (w:List (List Int)):Prop where
 ok:∀ l∈w,jJ f now r l=true
 len:w.flatten.length=n
 nd:w.flatten.Nodup
 rng:InR w.flatten n
theorem ayS.put {f:aH} {now:List (List Int)} {r:Int} {n:Nat} {w:List (List Int)} (h:ayS f now r n w) (ha:eY f now r [(n:Int)]=true):ayS f now r (n+1) (OX f now r w n):=by
 have key:∀ u:List (List Int),u.flatten.Perm (w.flatten++[(n:Int)])→(∀ l∈u,jJ f now r l=true)→ayS f now r (n+1) u:=fun u hp hok=>by
  refine⟨hok,by rw[hp.length_eq,bKQ,h.len]; rfl,hp.nodup_iff.2 ?_,fun x hx=>?_⟩
  ·rw[bMT]
   refine⟨h.nd,by simp,fun a ha b hb=>?_⟩
   rw[bLR] at hb
   subst hb
   have:=h.rng a ha
   omega
  ·have:=hp.mem_iff.1 hx
   rw[bLV,bLR] at this
   rcases this with hx | rfl
   ·have:=h.rng x hx; omega
   ·omega
 unfold OX
 split
 ·rename_i i hi
  obtain⟨hlt,hp,-⟩:=List.findIdx?_eq_some_iff_getElem.1 hi
  refine key _ (set_perm w i n hlt) fun l hl=>?_
  rcases List.mem_or_eq_of_mem_set hl with hl | rfl
  ·exact h.ok l hl
  ·unfold jJ
   rw[bLC,bKU hlt,bNE,hp]
   simp
 ·refine key _ (by rw[List.flatten_append]; simp) fun l hl=>?_
  rw[bLV,bLR] at hl
  rcases hl with hl | rfl
  ·exact h.ok l hl
  ·unfold jJ
   rw[ha]; rfl
theorem tQ {f:aH} {now:List (List Int)} {r:Int} (ha:mH f now r=true):∀ d,d≤f.bIE.length→ayS f now r d (nL f now r d)
 | 0,_=>⟨(fun l h=>by cases h),rfl,.nil,fun x h=>by cases h⟩
 | d+1,hd=>(tQ ha d Om).put (bLA.1 ha d (bLL.2 Om))
theorem aPQ {f:aH} {now:List (List Int)} {r:Int} (hu:dQ f now r=true) (ha:mH f now r=true):jO f now r (nL f now r f.bIE.length)=true:=by
 have h:=tQ ha f.bIE.length (bKK _)
 unfold jO
 rw[hu,mE.2 ⟨h.len,h.nd,h.rng⟩,bKS,bKS]
 exact bLA.2 h.ok
end Go.PM
namespace Go.RO
open Go
theorem MD:∀ {a b:List Int},a.Pairwise (· < ·)→b.Pairwise (· < ·)→(∀ y,y∈a↔y∈b)→a=b
 | [],[],_,_,_=>rfl
 | [],y::ys,_,_,h=>by have:=(h y).2 (by simp); simp at this
 | x::xs,[],_,_,h=>by have:=(h x).1 (by simp); simp at this
 | x::xs,y::ys,ha,hb,h=>by
  rw[List.pairwise_cons] at ha hb
  have e:x=y:=by
   have h1:=(h x).1 (by simp)
   have h2:=(h y).2 (by simp)
   rw[bKY] at h1 h2
   rcases h1 with h1 | h1
   ·exact h1
   ·rcases h2 with h2 | h2
    ·exact h2.symm
    ·have:=hb.1 x h1; have:=ha.1 y h2; omega
  subst e
  rw[MD ha.2 hb.2 fun z=>?_]
  constructor
  ·intro hz
   have h1:=(h z).1 (by simp[hz])
   rw[bKY] at h1
   rcases h1 with rfl | h1
   ·have:=ha.1 z hz; omega
   ·exact h1
  ·intro hz
   have h1:=(h z).2 (by simp[hz])
   rw[bKY] at h1
   rcases h1 with rfl | h1
   ·have:=hb.1 z hz; omega
   ·exact h1
def ins (x:Int):List Int→List Int
 | []=>[x]
 | y::ys=>if y<x then y::ins x ys else if y=x then y::ys else x::y::ys
theorem alR (x z:Int):∀ l,z∈ins x l↔z=x∨z∈l
 | []=>by simp[ins]
 | y::ys=>by
  unfold ins
  split
  ·simp only[bKY,alR x z ys]
   constructor
   ·rintro (h | h | h)<;>simp[h]
   ·rintro (h | h | h)<;>simp[h]
  ·split
   ·rename_i e; subst e; simp
   ·simp
theorem adD (x:Int):∀ l:List Int,l.Pairwise (· < ·)→(ins x l).Pairwise (· < ·)
 | [],_=>by simp[ins]
 | y::ys,h=>by
  rw[List.pairwise_cons] at h
  unfold ins
  split
  ·rename_i hlt
   rw[List.pairwise_cons]
   refine⟨fun z hz=>?_,adD x ys h.2⟩
   rcases (alR x z ys).1 hz with rfl | hz
   ·exact hlt
   ·exact h.1 z hz
  ·rename_i h1
   split
   ·rw[List.pairwise_cons]; exact h
   ·rename_i h2
    rw[List.pairwise_cons,List.pairwise_cons]
    refine⟨fun z hz=>?_,h⟩
    rw[bKY] at hz
    rcases hz with rfl | hz
    ·omega
    ·have:=h.1 z hz; omega
def tF (out:List Int) (xs:List Int):List Int:=xs.foldl (fun o x=>ins x o) out
theorem adC (z:Int):∀ (xs out:List Int),z∈tF out xs↔z∈out∨z∈xs
 | [],out=>by simp[tF]
 | x::xs,out=>by
  have:=adC z xs (ins x out)
  unfold tF at this ⊢
  rw[List.foldl_cons,this,alR,bKY]
  constructor
  ·rintro ((h | h) | h)<;>simp[h]
  ·rintro (h | h | h)<;>simp[h]
theorem KU:∀ (xs out:List Int),out.Pairwise (· < ·)→(tF out xs).Pairwise (· < ·)
 | [],out,h=>h
 | x::xs,out,h=>KU xs (ins x out) (adD x out h)
def srt (xs:List Int):List Int:=xs.mergeSort fun x y=>decide (x≤y)
theorem alB {zs:List Int} (h:zs.Pairwise (·≤·)):(Lib.compact zs).Pairwise (· < ·):=by
 unfold Lib.compact Lib.compactUpTo
 rw[List.pairwise_map]
 have hr:(bKJ zs.length).Pairwise (· < ·):=List.pairwise_lt_range
 have hf:=hr.filter (Lib.keeps zs.toArray)
 refine hf.imp_of_mem fun {i j} hi hj hij=>?_
 rw[List.mem_filter,bLL] at hi hj
 obtain⟨hj1,hj2⟩:=hj
 have k:zs[j]!≠zs[j-1]!:=by
  simp only[Lib.keeps,decide_eq_true_eq] at hj2
  rcases hj2 with h0 | h0
  ·omega
  ·simpa using h0
 have e1:zs[j]! = zs[j]:=by simp[hj1]
 have e2:zs[j-1]! = zs[j-1]:=by simp[show j-1<zs.length by omega]
 have h1:zs[i]≤zs[j-1]:=by
  rcases bLD i (j-1) with hlt | hge
  ·exact List.pairwise_iff_getElem.1 h i (j-1) hi.1 Om hlt
  ·have:i=j-1:=by omega
   subst this
   exact Int.le_refl _
 have h2:zs[j-1]≤zs[j]:=List.pairwise_iff_getElem.1 h (j-1) j Om hj1 Om
 rw[e1,e2] at k
 simp only[List.getElem!_toArray]
 rw[e1,show zs[i]! = zs[i] by simp[hi.1]]
 omega
theorem aOJ (zs:List Int) (y:Int):y∈Lib.compact zs↔y∈zs:=by
 unfold Lib.compact Lib.compactUpTo
 rw[bLP]
 constructor
 ·rintro⟨i,hi,rfl⟩
  rw[List.mem_filter,bLL] at hi
  simp only[List.getElem!_toArray]
  rw[show zs[i]! = zs[i] by simp[hi.1]]
  exact bKM _
 ·intro hy
  obtain⟨i,hi,rfl⟩:=bMP hy
  have key:∀ i,i<zs.length→∃ k,k≤i∧Lib.keeps zs.toArray k=true∧zs[k]! = zs[i]!:=by
   intro i
   induction i with
   | zero=>intro _; exact⟨0,bKK _,by simp[Lib.keeps],rfl⟩
   | succ i ih =>
    intro hi
    by_cases e:zs[i+1]! = zs[i]!
    ·obtain⟨k,h1,h2,h3⟩:=ih Om
     exact⟨k,by omega,h2,h3.trans e.symm⟩
    ·exact⟨i+1,bKK _,by simp[Lib.keeps]; simpa using e,rfl⟩
  obtain⟨k,h1,h2,h3⟩:=key i hi
  refine⟨k,?_,?_⟩
  ·rw[List.mem_filter,bLL]; exact⟨by omega,h2⟩
  ·simp only[List.getElem!_toArray]
   rw[h3]; simp[hi]
theorem a4G (xs:List Int):(srt xs).Pairwise (·≤·):=by
 have:=List.pairwise_mergeSort (le:=fun x y:Int=>decide (x≤y)) (fun a b c h1 h2=>by simp at *; omega) (fun a b=>by simp; omega) xs
 exact this.imp (by simp)
theorem bpN (xs:List Int) (y:Int):y∈srt xs↔y∈xs:=by simp[srt]
theorem aOK (xs:List Int):Lib.compact (srt xs)=tF [] xs :=
 MD (alB (a4G xs)) (KU xs [] .nil) fun y=>by
  rw[aOJ,bpN,adC]; simp
end Go.RO
namespace Go.PM
open Go Go.Na
def CO (f:aH) (now:List (List Int)) (r:Int) (n:Nat):Bool:=(bKJ n).all fun d=>eY f now r [(d:Int)]
theorem aOF (f:aH) (now:List (List Int)) (r:Int) (n:Nat):CO f now r (n+1)=(CO f now r n&&eY f now r [(n:Int)]):=by
 unfold CO
 rw[List.range_succ,List.all_append]
 simp
theorem a6S {f:aH} {now:List (List Int)} {r:Int} {n d:Nat} (h:d<n) (hs:eY f now r [(d:Int)]=false):CO f now r n=false:=by
 unfold CO
 rw[Bool.eq_false_iff,ne_eq,bLA]
 intro hk
 rw[hk d (bLL.2 h)] at hs
 cases hs
def jG (f:aH) (now:List (List Int)) (r:Int):Int:=if dQ f now r then (if mH f now r then 0 else 116) else 1
def fT (f:aH) (now:List (List Int)) (r:Int):List (List Int):=if jG f now r=0 then nL f now r f.bIE.length else []
def sZ (f:aH) (now:List (List Int)) (r:Int):Int:=if jG f now r=0 then fS f now r now.length else 0
theorem yC {f:aH} {now:List (List Int)} {r:Int} (h:jG f now r=0):dQ f now r=true∧mH f now r=true:=by
 unfold jG at h
 cases hu:dQ f now r<;>rw[hu] at h
 ·cases h
 ·cases ha:mH f now r<;>rw[ha] at h
  ·cases h
  ·exact⟨rfl,rfl⟩
def aeU:Rg:=[iA 3 (.box true (Tm 0)),iT 6 false]
def aeV:Rg:=[iO 7 7 3,iK 8 96 7,iC 9 .eql 8 0,iM 10 9,gO 11 7 3 10 true,gM 12 1 10 true,gK2 13 153 11 12 10 true,iP 14 10 13,iM 15 14,gM 16 2 15 true,gC 17 .geq 16 0 15 true,iP 18 15 17,iM 19 18,gM 20 2 19 true,gC 21 .leq 20 4 19 true,iP 22 19 21,iM 6 22]
def xC:aC:=(sq aeU (sq aeV .ret))
def a3J:List Nat:=[3]
def DH:aW:=⟨3,23,xC,[.tmp 6]⟩
def aHX:Rg:=[iA 4 (.box true (Tm 0)),iT 8 false]
def aHY:Rg:=[iM 15 1,iN 16 15,iI 17 0]
def aHZ:Rg:=[iB 18 .lss 17 16]
def aIA:Rg:=[iM 19 17,iX 20 1 15 17,iL 21 20,iM 9 19,iM 10 21]
def aIB:Rg:=[iT 11 false,iI 12 0]
def aIC:Rg:=[iM 22 10,iN 23 22,iI 24 0]
def aID:Rg:=[iB 25 .lss 24 23]
def YK:Rg:=[iX 26 1 22 24,iL 27 26,iM 14 27]
def YL:Rg:=[iM 31 14,iC 32 .lss 31 0,iM 30 32]
def aIE:Rg:=[iM 34 3,iM 35 14,iK2 36 260 34 35,iM 33 36]
def arQ:Rg:=[iT 11 true]
def arR:Rg:=[iM 28 12,iC 29 .add 28 1,iM 12 29]
def yR:Rg:=[iC 37 .add 24 1,iM 24 37]
def arO:aC:=(sq aID (.seq (.cond (Tm 25) .skip (.exit 2)) (.seq (.block 3 (sq YK (.block 4 (sq YL (.cond (Tm 30) .skip (sq aIE (.cond (Tm 33) (.region arQ) (.region arR)))))))) (.region yR))))
def OR:Rd:=[(iM 38 11,false),(iM 39 38,false),(gM 40 12 39 true,false),(gF 41 5 4 39 true,false),(gL 42 41 39 true,false),(gF 43 6 4 39 true,false),(gL 44 43 39 true,false),(gM 45 9 39 true,false),(iG 46 (.bIZ 2 (Tm 44) (Tm 45)) 39 true,false),(gF 47 1 46 39 true,false),(gL 48 47 39 true,false),(iG 49 (.bIZ 17 (Tm 42) (Tm 48)) 39 true,false),(gF 50 1 49 39 true,false),(gL 51 50 39 true,false),(gM 52 2 39 true,false),(gB 53 .add 51 52 39 true,false),(gB 54 .lss 40 53 39 true,false),(iP 55 39 54,false)]
def arS:Rg:=[iT 8 false]
def OS:Rg:=[iC 56 .add 17 1,iM 17 56]
def arP:aC:=(sq aHZ (.seq (.cond (Tm 18) .skip (.exit 0)) (.seq (.block 1 (sq aIA (sq aIB (.seq (sq aIC (.block 2 (.loop arO))) (dq OR (.cond (Tm 55) (sq arS .ret) .skip)))))) (.region OS))))
def arT:Rg:=[iT 8 true]
def HS:aC:=(sq aHX (.seq (sq aHY (.block 0 (.loop arP))) (sq arT .ret)))
def bhL:List Nat:=[4]
def aeR:aW:=⟨4,57,HS,[.tmp 8]⟩
def aHP:Rg:=[iA 4 (.box true (Tm 0)),iT 8 false]
def aHQ:Rg:=[iO 9 7 4,iM 10 1,iM 11 2,iA 12 (.call 250 [(Tm 9),(Tm 10),(Tm 11)]),iM 13 12,gO 14 7 4 13 true,gM 15 1 13 true,gM 16 2 13 true,gM 17 3 13 true,iG 18 (.call 251 [(Tm 14),(Tm 15),(Tm 16),(Tm 17)]) 13 true,iP 19 13 18,iM 8 19]
def HQ:aC:=(sq aHP (sq aHQ .ret))
def bhK:List Nat:=[4]
def aeP:aW:=⟨4,20,HQ,[.tmp 8]⟩
def aeX:Rg:=[iA 3 (.box true (Tm 0)),iT 6 false]
def aeY:Rg:=[iM 7 2,iC 8 .geq 7 0,iM 9 8,gM 10 2 9 true,gC 11 .leq 10 4 9 true,iP 12 9 11,iM 13 12,gO 14 7 3 13 true,gK 15 258 14 13 true,gC 16 .eql 15 0 13 true,iP 17 13 16,iM 18 17,gO 19 7 3 18 true,gM 20 1 18 true,gK2 21 86 19 20 18 true,iP 22 18 21,iM 6 22]
def xE:aC:=(sq aeX (sq aeY .ret))
def a3L:List Nat:=[3]
def DI:aW:=⟨3,23,xE,[.tmp 6]⟩
def aIK:Rg:=[iA 4 (.box true (Tm 0)),iT 8 false]
def aIL:Rg:=[iI 9 0]
def aIM:Rg:=[iM 13 9,iM 14 1,iN 15 14,iB 16 .lss 13 15]
def aIN:Rg:=[iT 10 false,iI 11 0]
def aIO:Rg:=[iI 12 0]
def aIP:Rg:=[iM 19 12,iM 20 1,iM 21 9,iX 22 1 20 21,iL 23 22,iN 24 23,iB 25 .lss 19 24]
def YN:Rg:=[iM 31 1,iM 32 9,iX 33 1 31 32,iL 34 33,iM 35 12,iX 36 1 34 35,iL 37 36,iC 38 .lss 37 0,iM 30 38]
def aIQ:Rg:=[iM 40 3,iM 41 1,iM 42 9,iX 43 1 41 42,iL 44 43,iM 45 12,iX 46 1 44 45,iL 47 46,iK2 48 254 40 47,iM 39 48]
def aIR:Rg:=[iT 10 true]
def aIS:Rg:=[iM 28 11,iC 29 .add 28 1,iM 11 29]
def yS:Rg:=[iM 26 12,iC 27 .add 26 1,iM 12 27]
def asD:aC:=(.seq (sq aIP (.cond (Tm 25) .skip (.exit 2))) (.seq (.block 3 (.block 4 (sq YN (.cond (Tm 30) .skip (sq aIQ (.cond (Tm 39) (.region aIR) (.region aIS))))))) (.region yS)))
def asF:Rg:=[iM 49 10,iM 50 49,gM 51 11 50 true,gO 52 7 4 50 true,gM 53 9 50 true,gK2 54 257 52 53 50 true,gM 55 2 50 true,gB 56 .add 54 55 50 true,gB 57 .lss 51 56 50 true,iP 58 50 57]
def asG:Rg:=[iT 8 false]
def OY:Rg:=[iM 17 9,iC 18 .add 17 1,iM 9 18]
def asE:aC:=(.seq (sq aIM (.cond (Tm 16) .skip (.exit 0))) (.seq (.block 1 (sq aIN (.seq (sq aIO (.block 2 (.loop asD))) (sq asF (.cond (Tm 58) (sq asG .ret) .skip))))) (.region OY)))
def asH:Rg:=[iT 8 true]
def HV:aC:=(sq aIK (.seq (sq aIL (.block 0 (.loop asE))) (sq asH .ret)))
def bhR:List Nat:=[4]
def aeW:aW:=⟨4,59,HV,[.tmp 8]⟩
def blB:Rg:=[iA 2 (.box true (Tm 0)),iI 4 0]
def blC:Rd:=[(iF 5 5 2,false),(iL 6 5,false),(iF 7 6 2,false),(iL 8 7,false),(iM 9 1,false),(iX 10 2 8 9,false),(iF 11 1 10,false),(iL 12 11,false),(iX 13 17 6 12,false),(iF 14 1 13,false),(iL 15 14,false),(iM 4 15,false)]
def amR:aC:=(sq blB (dq blC .ret))
def bwK:List Nat:=[2]
def qk:aW:=⟨2,16,amR,[.tmp 4]⟩
def RU:Rg:=[iA 1 (.box true (Tm 0)),iI 2 0]
def RV:Rg:=[iO 3 7 1,iK 4 67 3,iA 5 (.un .not (Tm 4))]
def RW:Rg:=[iI 2 1]
def RX:Rg:=[iI 2 0]
def sJ:aC:=(sq RU (.seq (sq RV (.cond (Tm 5) (sq RW .ret) .skip)) (sq RX .ret)))
def aOE:List Nat:=[1]
def tV:aW:=⟨1,6,sJ,[.tmp 2]⟩
def OP:Rg:=[iT 4 false]
def OQ:Rg:=[iM 5 0,iM 6 1,iK2 7 261 5 6,iC 8 .geq 7 0,iM 4 8]
def sC:aC:=(sq OP (sq OQ .ret))
def aHU:List Nat:=[]
def tL:aW:=⟨2,9,sC,[.tmp 4]⟩
def arV:Rg:=[iI 4 0]
def arW:Rg:=[iM 6 0,iN 7 6,iI 8 0]
def arX:Rg:=[iB 9 .lss 8 7]
def OU:Rg:=[iM 10 8,iM 5 10]
def OV:Rg:=[iM 11 1,iM 12 0,iM 13 5,iX 14 1 12 13,iL 15 14,iB 16 .eql 11 15]
def arY:Rg:=[iM 17 5,iM 4 17]
def arZ:Rg:=[iC 18 .add 8 1,iM 8 18]
def arU:aC:=(sq arX (.seq (.cond (Tm 9) .skip (.exit 0)) (.seq (.block 1 (sq OU (sq OV (.cond (Tm 16) (sq arY .ret) .skip)))) (.region arZ))))
def asA:Rg:=[iI 4 (-1)]
def AV:aC:=(sq arV (.seq (sq arW (.block 0 (.loop arU))) (sq asA .ret)))
def baB:List Nat:=[]
def OT:aW:=⟨2,19,AV,[.tmp 4]⟩
def aVP:Rg:=[iT 4 false]
def aVQ:Rg:=[iI 5 0]
def aVR:Rg:=[iM 6 5,iM 7 0,iN 8 7,iB 9 .lss 6 8]
def amW:Rg:=[iM 12 0,iM 13 5,iX 14 1 12 13,iL 15 14,iM 16 1,iB 17 .eql 15 16]
def aVS:Rg:=[iT 4 true]
def aVT:Rg:=[iM 10 5,iC 11 .add 10 1,iM 5 11]
def aVN:aC:=(.seq (sq aVR (.cond (Tm 9) .skip (.exit 0))) (.seq (.block 1 (sq amW (.cond (Tm 17) (sq aVS .ret) .skip))) (.region aVT)))
def aVU:Rg:=[iT 4 false]
def PC:aC:=(sq aVP (.seq (sq aVQ (.block 0 (.loop aVN))) (sq aVU .ret)))
def aVV:List Nat:=[]
def PB:aW:=⟨2,18,PC,[.tmp 4]⟩
def aJU:Rg:=[iA 2 (.box true (Tm 0)),iZ 4]
def aJV:Rg:=[iO 8 7 2,iK 9 67 8,iA 10 (.un .not (Tm 9))]
def aJW:Rg:=[iZ 4]
def aJX:Rg:=[iZ 5]
def aJY:Rg:=[iI 6 0]
def aJZ:Rg:=[iM 11 6,iF 12 4 2,iL 13 12,iN 14 13,iB 15 .lss 11 14]
def aKA:Rd:=[(iF 18 2 2,false),(iL 19 18,false),(iF 20 4 2,false),(iL 21 20,false),(iM 22 6,false),(iX 23 3 21 22,false),(iF 24 1 23,false),(iL 25 24,false),(iX 26 4 19 25,false),(iF 27 1 26,false),(iL 28 27,false),(iM 7 28,false)]
def YQ:Rg:=[iM 29 1,iN 30 29,iF 31 4 2,iL 32 31,iN 33 32,iB 34 .eql 30 33]
def aKB:Rg:=[iM 35 1,iM 36 6,iX 37 1 35 36,iL 38 37,iM 39 7,iA 40 (.bJF false (Tm 38) (Tm 39)),iA 41 (.bJF true (Ci 0) (Tm 40)),iM 7 41]
def YR:Rg:=[iM 42 5,iM 43 7,iA 44 (.bIK true 1 1 [(.int .i64 0)] [(0,(Tm 43))]),iA 45 (.append 1 8 (Tm 42) (Tm 44)),iM 5 45]
def PP:Rg:=[iM 16 6,iC 17 .add 16 1,iM 6 17]
def asL:aC:=(.seq (sq aJZ (.cond (Tm 15) .skip (.exit 0))) (.seq (.block 1 (dq aKA (.seq (sq YQ (.cond (Tm 34) (.region aKB) .skip)) (.region YR)))) (.region PP)))
def PQ:Rg:=[iM 46 5,iM 4 46]
def IE:aC:=(sq aJU (.seq (sq aJV (.cond (Tm 10) (sq aJW .ret) .skip)) (sq aJX (.seq (sq aJY (.block 0 (.loop asL))) (sq PQ .ret)))))
def biN:List Nat:=[2,44]
def afH:aW:=⟨2,47,IE,[.tmp 4]⟩
def aWJ:Rg:=[iA 2 (.box true (Tm 0)),iI 4 0]
def aWK:Rg:=[iI 5 0]
def aWL:Rg:=[iM 6 5,iM 7 1,iN 8 7,iB 9 .lss 6 8]
def ST:Rd:=[(iM 12 1,false),(iM 13 5,false),(iX 14 1 12 13,false),(iL 15 14,false),(iC 16 .lss 15 (-1),false),(iM 17 16,false),(gM 18 1 17 false,false),(gM 19 5 17 false,false),(iG 20 (.bIZ 1 (Tm 18) (Tm 19)) 17 false,false),(gL 21 20 17 false,false),(gF 22 4 2 17 false,false),(gL 23 22 17 false,false),(gN 24 23 17 false,false),(gB 25 .geq 21 24 17 false,false),(iQ 26 17 25,false)]
def amX:Rg:=[iM 27 5,iM 4 27]
def aWM:Rg:=[iM 10 5,iC 11 .add 10 1,iM 5 11]
def aWI:aC:=(.seq (sq aWL (.cond (Tm 9) .skip (.exit 0))) (.seq (.block 1 (dq ST (.cond (Tm 26) (sq amX .ret) .skip))) (.region aWM)))
def aWN:Rg:=[iI 4 (-1)]
def PJ:aC:=(sq aWJ (.seq (sq aWK (.block 0 (.loop aWI))) (sq aWN .ret)))
def bpH:List Nat:=[2]
def aJJ:aW:=⟨2,28,PJ,[.tmp 4]⟩
def afJ:Rg:=[iA 2 (.box true (Tm 0)),iT 4 false]
def afK:Rg:=[iO 6 7 2,iK 7 67 6,iA 8 (.un .not (Tm 7)),iM 9 8,gM 10 1 9 false,gN 11 10 9 false,gF 12 6 2 9 false,gL 13 12 9 false,gN 14 13 9 false,gB 15 .neq 11 14 9 false,iQ 16 9 15]
def IF:Rg:=[iT 4 false]
def afL:Rg:=[iI 5 0]
def afM:Rg:=[iM 17 5,iM 18 1,iN 19 18,iB 20 .lss 17 19]
def afN:Rd:=[(iM 23 1,true),(iM 24 5,true),(iX 25 1 23 24,true),(iL 26 25,true),(iN 27 26,true),(iO 28 7 2,false),(iM 29 5,false),(iK2 30 82 28 29,true),(iB 31 .neq 27 30,false),(iM 32 31,false),(gO 33 7 2 32 false,false),(gM 34 1 32 false,false),(gM 35 5 32 false,false),(iG 36 (.bIZ 1 (Tm 34) (Tm 35)) 32 false,false),(gL 37 36 32 false,false),(gK2 38 89 33 37 32 false,true),(gC 39 .geq 38 0 32 false,false),(iQ 40 32 39,false)]
def IG:Rg:=[iT 4 false]
def afO:Rg:=[iM 21 5,iC 22 .add 21 1,iM 5 22]
def afI:aC:=(.seq (sq afM (.cond (Tm 20) .skip (.exit 0))) (.seq (.block 1 (dq afN (.cond (Tm 40) (sq IG .ret) .skip))) (.region afO)))
def afP:Rg:=[iT 4 true]
def xH:aC:=(sq afJ (.seq (sq afK (.cond (Tm 16) (sq IF .ret) .skip)) (.seq (sq afL (.block 0 (.loop afI))) (sq afP .ret))))
def a4H:List Nat:=[2]
def DO:aW:=⟨2,41,xH,[.tmp 4]⟩

def eJ (f:aH) (l:List (List Int)) (room:List Int) (d:Nat):Bool:=decide ((bsH f l).getD d 0>(fL f room).getD d 0)
def PV.oid:PV→Option Nat
 | .osl q _ _ _=>some q
 | _=>none
abbrev LI:=PV × Nat × List (List PV)
abbrev BX:=Nat × cS
def eG (B:List BX):List Nat:=B.map (·.1)
def dX (L:List LI):List Nat:=L.filterMap fun x=>x.1.oid
structure aS (H:PH) (B:List BX) (L:List LI):Prop where
 box:∀ b∈B,H b.1=some b.2
 lst:∀ x∈L,bJ H x.2.1 x.1 x.2.2
 nd:(eG B++dX L).Nodup
section
variable {C:Ctx} {H:PH} {B:List BX} {L:List LI} {K:PV→PH→Prop}
theorem bJ.id {s q:Nat} {v:PV} {rows:List (List PV)} (h:bJ H s v rows) (hq:v.oid=some q):∃ rs,H q=some (.rows s rs)∧v=.osl q s 0 rows.length∧rows.length≤rs.length∧rs.take rows.length=rows:=by
 rcases h with ⟨_,rfl⟩ | ⟨p,rs,rfl,h1,h2,h3⟩
 ·cases hq
 ·cases hq
  exact⟨rs,h1,rfl,h2,h3⟩
theorem bJ.same {s:Nat} {v:PV} {rows:List (List PV)} {H':PH} (h:bJ H s v rows) (hk:∀ q,v.oid=some q→H' q=H q):bJ H' s v rows:=by
 rcases h with h | ⟨p,rs,rfl,h1,h2,h3⟩
 ·exact .inl h
 ·exact .inr ⟨p,rs,rfl,by rw[hk p rfl]; exact h1,h2,h3⟩
theorem kG {x:LI} {q:Nat} (h:x∈L) (hq:x.1.oid=some q):q∈dX L:=List.mem_filterMap.2 ⟨x,h,hq⟩
theorem rY {b:BX} (h:b∈B):b.1∈eG B:=bLP.2 ⟨b,h,rfl⟩
theorem aS.nil:aS H [] []:=⟨by simp,by simp,by simp[eG,dX]⟩
theorem aS.at (h:aS H B L) (i:Nat) {o:Nat} {x:cS} (hi:B[i]?=some (o,x)):H o=some x:=h.box _ (bNC hi)
theorem aS.own (h:aS H B L) (i:Nat) {s:Nat} {v:PV} {rows:List (List PV)} (hi:L[i]?=some (v,s,rows)):bJ H s v rows:=h.lst _ (bNC hi)
theorem aS.ndB (h:aS H B L):(eG B).Nodup:=(bMT.1 h.nd).1
theorem aS.ndL (h:aS H B L):(dX L).Nodup:=(bMT.1 h.nd).2.1
theorem aS.ndX (h:aS H B L) {o q:Nat} (ho:o∈eG B) (hq:q∈dX L):o≠q:=(bMT.1 h.nd).2.2 o ho q hq
theorem aS.ne (h:aS H B L) (i j:Nat) {o p:Nat} {x y:cS} (hi:B[i]?=some (o,x)) (hj:B[j]?=some (p,y)) (hij:i≠j):o≠p:=by
 intro e
 have h1:(eG B)[i]?=some o:=by unfold eG; rw[bLN,hi]; rfl
 have h2:(eG B)[j]?=some p:=by unfold eG; rw[bLN,hj]; rfl
 obtain⟨li,e1⟩:=bLU.1 h1
 obtain⟨lj,e2⟩:=bLU.1 h2
 have hp:=List.pairwise_iff_getElem.1 h.ndB
 rcases Nat.lt_or_gt_of_ne hij with g | g
 ·exact hp i j li lj g (by rw[e1,e2,e])
 ·exact hp j i lj li g (by rw[e1,e2,e])
theorem aS.neL (h:aS H B L) (i j:Nat) {o q:Nat} {x:cS} {y:LI} (hi:B[i]?=some (o,x)) (hj:L[j]?=some y) (hq:y.1.oid=some q):o≠q :=
 h.ndX (rY (bNC hi)) (kG (bNC hj) hq)
theorem aS.fresh (h:aS H B L) {o:Nat} (ho:H o=none):o ∉ eG B∧o ∉ dX L:=by
 refine⟨fun hm=>?_,fun hm=>?_⟩
 ·obtain⟨b,hb,rfl⟩:=bLP.1 hm
  rw[h.box b hb] at ho; cases ho
 ·obtain⟨x,hx,e⟩:=List.mem_filterMap.1 hm
  obtain⟨rs,h1,_⟩:=(h.lst x hx).id e
  rw[h1] at ho; cases ho
theorem aS.keep (h:aS H B L) {H':PH} (hk:∀ q,q∈eG B∨q∈dX L→H' q=H q):aS H' B L :=
 ⟨fun b hb=>by rw[hk _ (.inl (rY hb))]; exact h.box b hb,fun x hx=>(h.lst x hx).same fun q hq=>hk q (.inr (kG hx hq)),h.nd⟩
theorem bgG {i:Nat} {o:Nat} {x y:cS} (hi:B[i]?=some (o,x)):eG (B.set i (o,y))=eG B:=by
 unfold eG
 rw[List.map_set]
 refine List.ext_getElem? fun j=>?_
 rw[List.getElem?_set]
 split
 ·rename_i e
  subst e
  rw[bLN,hi]
  have:=(bLU.1 hi).1
  simp[this]
 ·rfl
theorem aS.set (h:aS H B L) (i:Nat) {o:Nat} {x:cS} (hi:B[i]?=some (o,x)) (y:cS):aS (H.set o y) (B.set i (o,y)) L:=by
 have hoB:o∈eG B:=rY (bNC hi)
 refine⟨fun b hb=>?_,fun z hz=>(h.lst z hz).same fun q hq=>?_,by rw[bgG hi]; exact h.nd⟩
 ·obtain⟨j,hj⟩:=List.mem_iff_getElem?.1 hb
  rw[List.getElem?_set] at hj
  split at hj
  ·split at hj
   ·cases hj; simp only[bL,if_true]
   ·cases hj
  ·rename_i hne
   have:b.1≠o:=fun e=>h.ne i j hi (show B[j]?=some (b.1,b.2) from hj) hne e.symm
   rw[bL,if_neg this]
   exact h.box b (bNC hj)
 ·have:q≠o:=fun e=>h.ndX hoB (kG hz hq) e.symm
  rw[bL,if_neg this]
theorem aS.new (h:aS H B L) {o:Nat} (ho:H o=none) (y:cS):aS (H.set o y) (B++[(o,y)]) L:=by
 obtain⟨f1,f2⟩:=h.fresh ho
 refine⟨fun b hb=>?_,fun z hz=>(h.lst z hz).same fun q hq=>?_,?_⟩
 ·rw[bLV,bLR] at hb
  rcases hb with hb | rfl
  ·have:b.1≠o:=fun e=>f1 (e ▸ rY hb)
   rw[bL,if_neg this]; exact h.box b hb
  ·simp only[bL,if_true]
 ·have:q≠o:=fun e=>f2 (e ▸ kG hz hq)
  rw[bL,if_neg this]
 ·have:=h.nd
  simp only[eG,bMM,bMG,List.map_nil] at *
  rw[bLI,bMT] at *
  obtain⟨a,b,c⟩:=this
  refine⟨a,?_,fun p hp q hq=>?_⟩
  ·rw[List.singleton_append,List.nodup_cons]; exact⟨f2,b⟩
  ·rw[List.singleton_append,bKY] at hq
   rcases hq with rfl | hq
   ·intro e; subst e; exact f1 hp
   ·exact c p hp q hq
theorem jW (L1 L2:List LI):dX (L1++L2)=dX L1++dX L2:=List.filterMap_append ..
theorem aS.pJ (h:aS H B L) (s:Nat):aS H B (L++[(.aB,s,[])]):=by
 refine⟨h.box,fun z hz=>?_,?_⟩
 ·rw[bLV,bLR] at hz
  rcases hz with hz | rfl
  ·exact h.lst z hz
  ·exact .nil
 ·rw[jW,show dX [((.aB:PV),s,([]:List (List PV)))]=[] from rfl,bMF]; exact h.nd
theorem aS.aGJ (h:aS H B L) {o s:Nat} {rows:List (List PV)} (ho:H o=none):aS (H.set o (.rows s rows)) B (L++[(.osl o s 0 rows.length,s,rows)]):=by
 obtain⟨f1,f2⟩:=h.fresh ho
 have hk:=h.keep (H':=H.set o (.rows s rows)) fun q hq=>by
  have:q≠o:=by rintro rfl; exact hq.elim f1 f2
  rw[bL,if_neg this]
 refine⟨hk.box,fun z hz=>?_,?_⟩
 ·rw[bLV,bLR] at hz
  rcases hz with hz | rfl
  ·exact hk.lst z hz
  ·exact .inr ⟨o,rows,rfl,by simp only[bL,if_true],bKK _,bLG⟩
 ·rw[jW,show dX [((.osl o s 0 rows.length:PV),s,rows)]=[o] from rfl,← bLI,bMT]
  refine⟨h.nd,by simp,fun p hp q hq=>?_⟩
  rw[bLR] at hq
  subst hq
  rintro rfl
  rcases bLV.1 hp with hp | hp
  ·exact f1 hp
  ·exact f2 hp
theorem aEH {i:Nat} {v v':PV} {s s':Nat} {rows rows':List (List PV)} (hi:L[i]?=some (v,s,rows)):∃ L1 L2,L=L1++(v,s,rows)::L2∧L.set i (v',s',rows')=L1++(v',s',rows')::L2:=by
 obtain⟨hl,he⟩:=bLU.1 hi
 refine⟨L.take i,L.drop (i+1),?_,?_⟩
 ·rw[← he,← bMH hl,bMX]
 ·rw[List.set_eq_take_append_cons_drop,if_pos hl]
theorem aS.zA (h:aS H B L) (i:Nat) {s:Nat} {v:PV} {rows:List (List PV)} (hi:L[i]?=some (v,s,rows)) {s':Nat} {v':PV} {rows':List (List PV)} {H':PH} (ho:bJ H' s' v' rows')
  (hid:∀ q,v'.oid=some q→v.oid=some q∨H q=none) (hk:∀ q,q∈eG B∨q∈dX L→(∀ p,v.oid=some p→q≠p)→H' q=H q):aS H' B (L.set i (v',s',rows')):=by
 obtain⟨L1,L2,e1,e2⟩:=aEH (v':=v') (s':=s') (rows':=rows') hi
 rw[e2]
 subst e1
 have hnd:=h.nd
 have eL:dX (L1++(v,s,rows)::L2)=dX L1++(v.oid.toList++dX L2):=by
  rw[jW]
  congr 1
  unfold dX
  rw[List.filterMap_cons]
  cases e:v.oid<;>simp
 have eL':dX (L1++(v',s',rows')::L2)=dX L1++(v'.oid.toList++dX L2):=by
  rw[jW]
  congr 1
  unfold dX
  rw[List.filterMap_cons]
  cases e:v'.oid<;>simp
 rw[eL] at hnd
 have other:∀ q,q∈eG B∨q∈dX L1∨q∈dX L2→∀ p,v.oid=some p→q≠p:=by
  intro q hq p hp e
  subst e
  rw[hp] at hnd
  simp only[Option.toList_some] at hnd
  rw[bMT] at hnd
  obtain⟨a,b,c⟩:=hnd
  rw[bMT] at b
  obtain⟨b1,b2,b3⟩:=b
  rw[List.singleton_append,List.nodup_cons] at b2
  rcases hq with hq | hq | hq
  ·exact c q hq q (by simp) rfl
  ·exact b3 q hq q (by simp) rfl
  ·exact b2.1 hq
 have keepq:∀ q,q∈eG B∨q∈dX L1∨q∈dX L2→H' q=H q:=by
  intro q hq
  refine hk q ?_ (other q hq)
  rw[eL]
  simp only[bLV]
  rcases hq with hq | hq | hq
  ·exact .inl hq
  ·exact .inr (.inl hq)
  ·exact .inr (.inr (.inr hq))
 refine⟨fun b hb=>by rw[keepq _ (.inl (rY hb))]; exact h.box b hb,fun z hz=>?_,?_⟩
 ·rw[bLV,bKY] at hz
  rcases hz with hz | rfl | hz
  ·exact (h.lst z (by simp[hz])).same fun q hq=>keepq q (.inr (.inl (kG hz hq)))
  ·exact ho
  ·exact (h.lst z (by simp[hz])).same fun q hq=>keepq q (.inr (.inr (kG hz hq)))
 ·rw[eL']
  cases e:v'.oid with
  | none =>
   simp only[Option.toList_none,bMY]
   refine List.Nodup.sublist ?_ hnd
   exact bMK.append (bMK.refl _) (bMK.append (bMK.refl _) (List.sublist_append_right _ _))
  | some q =>
   rcases hid q e with hv | hn
   ·rw[hv] at hnd
    exact hnd
   ·obtain⟨f1,f2⟩:=h.fresh hn
    rw[eL] at f2
    simp only[bLV,not_or] at f2
    have hnd':(eG B++(dX L1++dX L2)).Nodup:=List.Nodup.sublist (bMK.append (bMK.refl _) (bMK.append (bMK.refl _) (List.sublist_append_right _ _))) hnd
    simp only[Option.toList_some]
    rw[bMT] at hnd' ⊢
    obtain⟨a,b,c⟩:=hnd'
    rw[bMT] at b
    obtain⟨b1,b2,b3⟩:=b
    refine⟨a,?_,?_⟩
    ·rw[bMT]
     refine⟨b1,by rw[List.singleton_append,List.nodup_cons]; exact⟨f2.2.2,b2⟩,fun p hp r hr=>?_⟩
     rw[List.singleton_append,bKY] at hr
     rcases hr with rfl | hr
     ·rintro rfl; exact f2.1 hp
     ·exact b3 p hp r hr
    ·intro p hp r hr
     rw[bLV,List.singleton_append,bKY] at hr
     rcases hr with hr | rfl | hr
     ·exact c p hp r (by simp[hr])
     ·rintro rfl; exact f1 hp
     ·exact c p hp r (by simp[hr])
theorem aS.append (h:aS H B L) (i:Nat) {s b:Nat} {v y:PV} {rows src:List (List PV)} (hi:L[i]?=some (v,s,rows)) (hy:dR H s y=some src) (hr:roomFor rows.length src.length b)
  (hk:∀ v' H',aS H' B (L.set i (v',s,rows++src))→(src≠[]→∃ q,v'=.osl q s 0 (rows++src).length)→K v' H'):mF H s b v y K:=by
 rcases h.own i hi with ⟨rfl,rfl⟩ | ⟨q,rs,rfl,h1,h2,h3⟩
 ·refine⟨src,hy,hr,fun e=>?_,fun e o ho=>?_⟩
  ·subst e
   refine hk _ _ ?_ fun h=>absurd rfl h
   exact h.zA i hi (.inl ⟨rfl,rfl⟩) (fun q hq=>by cases hq) fun q _ _=>rfl
  ·refine hk _ _ (h.zA i hi (.inr ⟨o,src,rfl,by simp only[bL,if_true],bKK _,bLG⟩) (fun q hq=>by cases hq; exact .inr ho) fun q hq _=>?_) fun _=>⟨o,rfl⟩
   obtain⟨f1,f2⟩:=h.fresh ho
   have:q≠o:=by rintro rfl; exact hq.elim f1 f2
   rw[bL,if_neg this]
 ·have hlen:(rows++src).length=rows.length+src.length:=bKQ
  refine⟨src,hy,rfl,rfl,hr,rs,h1,h2,?_,fun o ho=>?_⟩
  ·rw[h3]
   refine hk _ _ (h.zA i hi (.inr ⟨q,rows++src,by rw[hlen],by simp only[bL,if_true],bKK _,bLG⟩) (fun p hp=>by cases hp; exact .inl rfl) fun p _ hp=>?_) fun _=>⟨q,by rw[hlen]⟩
   rw[bL,if_neg (hp q rfl)]
  ·rw[h3]
   refine hk _ _ (h.zA i hi (.inr ⟨o,rows++src,by rw[hlen],by simp only[bL,if_true],bKK _,bLG⟩) (fun p hp=>by cases hp; exact .inr ho) fun p hpm hp=>?_) fun _=>⟨o,by rw[hlen]⟩
   obtain⟨f1,f2⟩:=h.fresh ho
   have n1:p≠o:=by rintro rfl; exact hpm.elim f1 f2
   rw[bL,if_neg n1]
theorem aS.sub (h:aS H B L) {B':List BX} {L':List LI} (hB:B'.Sublist B) (hL:L'.Sublist L):aS H B' L' :=
 ⟨fun b hb=>h.box b (hB.subset hb),fun x hx=>h.lst x (hL.subset hx),List.Nodup.sublist (bMK.append (hB.map _) (hL.filterMap _)) h.nd⟩
theorem aS.bvW (h:aS H B L) (i:Nat):aS H (B.eraseIdx i) L:=h.sub (List.eraseIdx_sublist ..) (bMK.refl _)
theorem aS.a1J (h:aS H B L) (i:Nat):aS H B (L.eraseIdx i):=h.sub (bMK.refl _) (List.eraseIdx_sublist ..)
end
section
variable {C:Ctx} {F:PF} {H:PH} {B:List BX} {L:List LI}
theorem aS.DN (h:aS H B L) {q:Nat} (hq:q∈eG B∨q∈dX L):∃ x,H q=some x:=by
 rcases hq with hq | hq
 ·obtain⟨b,hb,rfl⟩:=bLP.1 hq
  exact⟨_,h.box b hb⟩
 ·obtain⟨x,hx,e⟩:=List.mem_filterMap.1 hq
  obtain⟨rs,h1,_⟩:=(h.lst x hx).id e
  exact⟨_,h1⟩
theorem aS.perm (h:aS H B L) {B':List BX} {L':List LI} (hB:B.Perm B') (hL:L.Perm L'):aS H B' L' :=
 ⟨fun b hb=>h.box b (hB.mem_iff.2 hb),fun x hx=>h.lst x (hL.mem_iff.2 hx),(List.Perm.nodup_iff ((hB.map _).append (hL.filterMap _))).1 h.nd⟩
theorem aS.only (h:aS H B L) {B1:List BX} {L1:List LI} (hB:B1.Sublist B) (hL:L1.Sublist L):aS (H.only (eG B1++dX L1)) B1 L1:=by
 refine (h.sub hB hL).keep fun q hq=>?_
 rw[mM]
 rw[if_pos (bLV.2 hq)]
theorem bsN {a b c d:List Nat} (h1:(a++c).Nodup) (h2:(b++d).Nodup) (h3:∀ q,q∈a∨q∈c→q∈b∨q∈d→False):((a++b)++(c++d)).Nodup:=by
 have e:List.Perm ((a++b)++(c++d)) ((a++c)++(b++d)):=by
  rw[bLI,bLI]
  exact List.Perm.append_left a (by rw[← bLI,← bLI]; exact List.Perm.append_right d List.perm_append_comm)
 rw[e.nodup_iff,bMT]
 refine⟨h1,h2,fun p hp q hq=>?_⟩
 rintro rfl
 exact h3 p (bLV.1 hp) (bLV.1 hq)
theorem aS.frame {H':PH} {B1 B2 B':List BX} {L1 L2 L':List LI} (h:aS H (B1++B2) (L1++L2)) (h':aS H' B' L') (ha:kN H (H.only (eG B1++dX L1)) H'):aS (H.eJ (H.only (eG B1++dX L1)) H') (B'++B2) (L'++L2):=by
 have h2:aS H B2 L2:=h.sub (List.sublist_append_right ..) (List.sublist_append_right ..)
 have dis:∀ q,q∈eG B2∨q∈dX L2→¬ (q∈eG B1++dX L1):=by
  intro q hq hm
  have hnd:=h.nd
  rw[show eG (B1++B2)=eG B1++eG B2 from bMM,jW] at hnd
  have e:List.Perm ((eG B1++eG B2)++(dX L1++dX L2)) ((eG B1++dX L1)++(eG B2++dX L2)):=by
   rw[bLI,bLI]
   exact List.Perm.append_left _ (by rw[← bLI,← bLI]; exact List.Perm.append_right _ List.perm_append_comm)
  rw[e.nodup_iff,bMT] at hnd
  exact hnd.2.2 q hm q (bLV.2 hq) rfl
 have new:∀ q,q∈eG B'∨q∈dX L'→(H.eJ (H.only (eG B1++dX L1)) H') q=H' q:=by
  intro q hq
  obtain⟨x,hx⟩:=h'.DN hq
  rw[lI,hx]
 have old:∀ q,q∈eG B2∨q∈dX L2→(H.eJ (H.only (eG B1++dX L1)) H') q=H q:=by
  intro q hq
  obtain⟨x,hx⟩:=h2.DN hq
  have h0:(H.only (eG B1++dX L1)) q=none:=by rw[mM,if_neg (dis q hq)]
  rw[lI]
  cases e:H' q with
  | none=>simp only[h0]
  | some y =>
   have:=ha q y e h0
   rw[hx] at this; cases this
 have k1:=h'.keep new
 have k2:=h2.keep old
 refine⟨fun b hb=>?_,fun x hx=>?_,?_⟩
 ·rcases bLV.1 hb with hb | hb
  ·exact k1.box b hb
  ·exact k2.box b hb
 ·rcases bLV.1 hx with hx | hx
  ·exact k1.lst x hx
  ·exact k2.lst x hx
 ·rw[show eG (B'++B2)=eG B'++eG B2 from bMM,jW]
  refine bsN h'.nd h2.nd fun q hq hq2=>?_
  obtain⟨x,hx⟩:=h'.DN hq
  obtain⟨y,hy⟩:=h2.DN hq2
  have h0:(H.only (eG B1++dX L1)) q=none:=by rw[mM,if_neg (dis q hq2)]
  have:=ha q x hx h0
  rw[hy] at this; cases this
theorem VS {name:Nat} {vs:List PV} {args:List aP} {d:Option Nat} {K:PF→PH→Prop} {B1 B2:List BX} {L1 L2:List LI} {Q:PV→List BX→List LI→Prop} (h:aS H (B1++B2) (L1++L2))
  (hc:∀ H0,aS H0 B1 L1→aE C name vs H0 (fun r H'=>∃ B' L',Q r B' L'∧aS H' B' L')) (ha:aP.evs F args=some vs)
  (hk:∀ r B' L' H',Q r B' L'→aS H' (B'++B2) (L'++L2)→K (F.put d r) H'):fU C name args [] d K F H:=by
 refine fE (hc (H.only (eG B1++dX L1)) (h.only (List.sublist_append_left ..) (List.sublist_append_left ..))) ha (DG H _) ?_
 rintro r H' ⟨B',L',hq,h'⟩ hap
 exact hk r B' L' _ hq (h.frame h' hap)
theorem CB {name o:Nat} {x y:cS} {r:PV} {vs:List PV} {args:List aP} {d:Option Nat} {K:PF→PH→Prop} (h:aE C name vs (PH.nil.set o x) (fun r' H'=>r'=r∧H'=PH.nil.set o y)) (ho:H o=some x) (ha:aP.evs F args=some vs)
  (hk:K (F.put d r) (H.set o y)):fU C name args [] d K F H:=by
 refine fE h ha (PH.aK PH.nil_le ho) ?_
 rintro r' H' ⟨rfl,rfl⟩ -
 rw[PH.lJ]
 exact hk
theorem azQ {Hs:PH} {S:Spec} {name o:Nat} {x y:cS} {r:PV} {vs:List PV} {R:PH→PV→PH→Prop} {args:List aP} {st:Bool} {d:Option Nat} {K:PF→PH→Prop} (hS:S name vs=some ([o],R)) (ho:H o=some x)
  (h:aE C name vs (PH.nil.set o x) (fun r' H'=>r'=r∧H'=PH.nil.set o y)) (hR1:R (PH.nil.set o x) r (PH.nil.set o y)) (hR2:∀ r' H',R (PH.nil.set o x) r' H'→r'=r∧H'=PH.nil.set o y) (ha:aP.evs F args=some vs)
  (hle:Hs.le (H.set o y)) (hk:K (F.put d r) (H.set o y)):dOp C Hs S st (.call name args) d K F H:=by
 have e:=YI ho
 refine⟨vs,[o],_,ha,hS,fun q hq=>?_,?_,fun G=>⟨r,_,by rw[e]; exact hR1,fun q z hz hn=>?_⟩,fun r' H' hr _=>?_⟩
 ·simp at hq; subst hq; exact⟨x,ho⟩
 ·rw[e]
  exact h.post fun r' H' hr=>⟨r',.refl _,by rw[hr.1,hr.2]; exact hR1⟩
 ·rw[e] at hn
  rw[bL] at hz hn
  split at hn
  ·cases hn
  ·rename_i hne
   rw[if_neg hne] at hz; cases hz
 ·rw[e] at hr
  obtain⟨rfl,rfl⟩:=hR2 r' H' hr
  rw[e,PH.lJ]
  exact⟨hle,hk⟩
theorem biQ {s:Nat} {q z:Nat} {rs:List (List PV)} {v:PV} {rows:List (List PV)} (h:bJ H s v rows) (hv:v.oid≠some q):bJ (H.frz q z rs) s v (rows.map fun r=>r.map (PV.dE q z rs)):=by
 rcases h with ⟨rfl,rfl⟩ | ⟨p,rs',rfl,h1,h2,h3⟩
 ·exact .inl ⟨rfl,rfl⟩
 ·have hne:¬ p=q:=fun e=>hv (by rw[e]; rfl)
  refine .inr ⟨p,rs'.map fun r=>r.map (PV.dE q z rs),by rw[bKI],?_,by simpa using h2,?_⟩
  ·rw[vW,if_neg hne,h1]; rfl
  ·rw[bKI,← List.map_take,h3]
theorem aS.frz (h:aS H B L) (i:Nat) {q s k:Nat} {rows:List (List PV)} (hi:L[i]?=some (.osl q s 0 k,s,rows)):∃ rs,H q=some (.rows s rs)∧PV.dE q s rs (.osl q s 0 k)=.sl s rows∧PV.frz q s rs (.osl q s 0 k)=.sl s rows∧(∀ j x,j≠i→L[j]?=some x→PV.dE q s rs x.1=x.1) ∧
  aS (H.frz q s rs) (B.map fun b=>(b.1,b.2.frz q s rs)) ((L.eraseIdx i).map fun x=>(x.1,x.2.1,x.2.2.map fun r=>r.map (PV.dE q s rs))):=by
 obtain⟨rs,h1,h2,h3,h4⟩:=(h.own i hi).id rfl
 injection h2 with _ _ _ hk
 subst hk
 have e:PV.frz q s rs (.osl q s 0 rows.length)=.sl s rows:=by rw[nT h3,h4]
 refine⟨rs,h1,e,e,?_⟩
 refine⟨fun j x hji hj=>?_,?_⟩
 ·have hxq:x.1.oid≠some q:=by
   intro hxq
   obtain⟨hl,he⟩:=bLU.1 hi
   obtain⟨hl2,he2⟩:=bLU.1 hj
   have hmem:x∈L.eraseIdx i:=List.mem_eraseIdx_iff_getElem?.2 ⟨j,hji,hj⟩
   have hnd:=h.ndL
   have hs:L=L.take i++(L[i]::L.drop (i+1)):=by rw[← bMH hl,bMX]
   rw[List.eraseIdx_eq_take_drop_succ] at hmem
   rw[hs,jW] at hnd
   have e3:dX (L[i]::L.drop (i+1))=q::dX (L.drop (i+1)):=by rw[he]; rfl
   rw[e3,bMT] at hnd
   obtain⟨a,b,c⟩:=hnd
   rcases bLV.1 hmem with hx | hx
   ·exact c q (kG hx hxq) q (by simp) rfl
   ·exact (List.nodup_cons.1 b).1 (kG hx hxq)
  cases hx:x.1<;>try rfl
  rename_i p z off len
  have:¬ p=q:=fun e=>hxq (by rw[hx,e]; rfl)
  simp only[PV.dE,if_neg this]
 obtain⟨L1,L2,e1,e2⟩:=aEH (v':=.aB) (s':=s) (rows':=rows) hi
 have hil:i=L1.length∨True:=.inr trivial
 have ers:(L.eraseIdx i).Sublist L:=List.eraseIdx_sublist ..
 have hqn:∀ x∈L.eraseIdx i,x.1.oid≠some q:=by
  intro x hx hxq
  obtain⟨hl,he⟩:=bLU.1 hi
  have hnd:=h.ndL
  have hs:L=L.take i++(L[i]::L.drop (i+1)):=by rw[← bMH hl,bMX]
  rw[List.eraseIdx_eq_take_drop_succ] at hx
  rw[hs,jW] at hnd
  have e3:dX (L[i]::L.drop (i+1))=q::dX (L.drop (i+1)):=by
   rw[he]; rfl
  rw[e3,bMT] at hnd
  obtain⟨a,b,c⟩:=hnd
  rcases bLV.1 hx with hx | hx
  ·exact c q (kG hx hxq) q (by simp) rfl
  ·exact (List.nodup_cons.1 b).1 (kG hx hxq)
 refine⟨fun b hb=>?_,fun x hx=>?_,?_⟩
 ·obtain⟨b0,hb0,rfl⟩:=bLP.1 hb
  have:¬ b0.1=q:=h.ndX (rY hb0) (kG (bNC hi) rfl)
  simp only
  rw[vW,if_neg this,h.box b0 hb0]; rfl
 ·obtain⟨x0,hx0,rfl⟩:=bLP.1 hx
  exact biQ (h.lst x0 (ers.subset hx0)) (hqn x0 hx0)
 ·have i1:eG (B.map fun b=>(b.1,b.2.frz q s rs))=eG B:=by unfold eG; rw[List.map_map]; rfl
  have i2:dX ((L.eraseIdx i).map fun x=>(x.1,x.2.1,x.2.2.map fun r=>r.map (PV.dE q s rs)))=dX (L.eraseIdx i):=by unfold dX; rw[List.filterMap_map]; rfl
  rw[i1,i2]
  exact List.Nodup.sublist (bMK.append (bMK.refl _) (ers.filterMap _)) h.nd
def Flat (rows:List (List PV)):Prop:=∀ q s rs,rows.map (fun r=>r.map (PV.dE q s rs))=rows
theorem Flat.nil:Flat []:=fun _ _ _=>rfl
theorem Flat.of {rows:List (List PV)} (h:∀ r∈rows,∀ c∈r,∀ q s rs,PV.dE q s rs c=c):Flat rows:=fun q s rs=>by
 conv=>rhs; rw[← List.map_id rows]
 refine List.map_congr_left fun r hr=>?_
 conv=>rhs; rw[id,← List.map_id r]
 exact List.map_congr_left fun c hc=>h r hr c hc q s rs
theorem Flat.map {α:Type} {f:α→List PV} (l:List α) (h:∀ x,∀ c∈f x,∀ q s rs,PV.dE q s rs c=c):Flat (l.map f):=Flat.of fun r hr=>by
 obtain⟨x,_,rfl⟩:=bLP.1 hr
 exact h x
theorem Flat.append {r1 r2:List (List PV)} (h1:Flat r1) (h2:Flat r2):Flat (r1++r2):=fun q s rs=>by rw[bMM,h1,h2]
theorem aS.flat {φ:PV→List (List PV)} (h:aS H B L):aS H B L:=h
def xZ (v:PV) (H:PH) (R:PV→PH→Prop):Prop:=∃ F1 H1 H2,iY (PF.nil.set 0 v) H F1 H1∧H2.le H1∧∃ u,F1 0=some u∧R u H2
theorem xZ.done {v:PV} {H2:PH} {R:PV→PH→Prop} (hR:R v H2) (hle:H2.le H):xZ v H R:=⟨_,_,H2,.refl _ _,hle,v,by rw[lK,if_pos rfl],hR⟩
theorem xZ.step {v:PV} {q s:Nat} {rs:List (List PV)} {R:PV→PH→Prop} (hq:H q=some (.rows s rs)) (h:xZ (PV.frz q s rs v) (H.frz q s rs) R):xZ v H R:=by
 obtain⟨F1,H1,H2,h1,h2,h3⟩:=h
 have e:(PF.nil.set 0 v).frz q s rs=PF.nil.set 0 (PV.frz q s rs v):=by
  funext i
  rw[qS,lK,lK]
  split<;>rfl
 exact⟨F1,H1,H2,.step q hq (by rw[e]; exact h1),h2,h3⟩
theorem amT {res:List dW} {R:PV→PH→Prop} {vs:List PV} {e:lO} (he:e=.normal∨e=.ret) (h:dW.evs F H res=some vs) (hf:xZ (aV vs) H R):aT res R e F H:=by
 have key:∃ vs,dW.evs F H res=some vs∧∃ F1 H1 H2,iY (PF.nil.set 0 (aV vs)) H F1 H1∧H2.le H1∧∃ u,F1 0=some u∧R u H2:=⟨vs,h,hf⟩
 rcases he with rfl | rfl<;>exact key
theorem uR {u:PV} (h:u.oid=none) (q s:Nat) (rs:List (List PV)):PV.dE q s rs u=u:=by
 cases u<;>first | rfl | (simp[PV.oid] at h)
theorem Seen.co {s:Nat} {v:PV} {rows:List (List PV)} (h:Seen s v rows):Co v (.sl s rows):=by
 rcases h with ⟨rfl,rfl⟩ | rfl
 ·exact .nil s
 ·exact .refl _
theorem aS.giveUp:∀ (L:List LI) {H:PH} {B:List BX},aS H B L→(∀ x∈L,Flat x.2.2)→(∀ b∈B,∀ q s rs,cS.frz q s rs b.2=b.2) →
  ∃ (φ:PV→PV) (H1:PH),(∀ x∈L,Seen x.2.1 (φ x.1) x.2.2)∧(∀ u,u.oid=none→φ u=u)∧aS H1 B []∧∀ cs R,xZ (.agg (cs.map φ)) H1 R→xZ (.agg cs) H R
 | [],H,B,h,_,_=>⟨id,H,by simp,fun _ _=>rfl,h,fun cs R hf=>by rwa [List.map_id] at hf⟩
 | (w,s,rows)::L,H,B,h,hL,hB=>by
  have hflat:∀ q z rs,(L.map fun x=>(x.1,x.2.1,x.2.2.map fun r=>r.map (PV.dE q z rs)))=L:=fun q z rs=>by
   conv=>rhs; rw[← List.map_id L]
   refine List.map_congr_left fun x hx=>?_
   rw[hL x (by simp[hx]) q z rs]; rfl
  rcases h.own 0 rfl with ⟨h1,h2⟩ | ⟨q,rs,h1,_⟩
  ·obtain⟨φ,H1,k1,k2,k3,k4⟩:=aS.giveUp L (h.a1J 0) (fun x hx=>hL x (by simp[hx])) hB
   refine⟨φ,H1,fun x hx=>?_,k2,k3,k4⟩
   rw[bKY] at hx
   rcases hx with rfl | hx
   ·exact .inl ⟨h1,by simp only; rw[h2]; exact k2 _ rfl⟩
   ·exact k1 x hx
  ·subst h1
   obtain⟨rs,z1,z2,z3,z4,z5⟩:=h.frz 0 rfl
   have z6:aS (H.frz q s rs) B L:=by
    have eB:(B.map fun b=>(b.1,b.2.frz q s rs))=B:=by
     conv=>rhs; rw[← List.map_id B]
     refine List.map_congr_left fun b hb=>?_
     rw[hB b hb q s rs]; rfl
    rw[eB] at z5
    have:=z5
    simp only[List.eraseIdx_cons_zero] at this
    rwa [hflat q s rs] at this
   obtain⟨φ,H1,k1,k2,k3,k4⟩:=aS.giveUp L z6 (fun x hx=>hL x (by simp[hx])) hB
   refine⟨fun u=>φ (PV.dE q s rs u),H1,fun x hx=>?_,fun u hu=>?_,k3,fun cs R hf=>?_⟩
   ·rw[bKY] at hx
    rcases hx with rfl | hx
    ·simp only
     rw[z2]
     exact .inr (k2 _ rfl)
    ·obtain⟨j,hj⟩:=List.mem_iff_getElem?.1 hx
     have:=z4 (j+1) x Om (by simpa using hj)
     simp only
     rw[this]
     exact k1 x hx
   ·simp only
    rw[uR hu,k2 u hu]
   ·refine .step z1 ?_
    have e:PV.frz q s rs (.agg cs)=.agg (cs.map (PV.dE q s rs)):=rfl
    rw[e]
    refine k4 _ R ?_
    rw[List.map_map]
    exact hf
theorem aqA {K:cO} {α:Type} {Fs:α→PF} {Hs:α→PH} {Pr:α→Prop} {m:α→Nat} {n q s:Nat} {rs:List (List PV)} (a:α) (hq:H q=some (.rows s rs)) (h0:Pr a) (hm:m a<n) (hF:(Fs a).le (F.frz q s rs)) (hH:(Hs a).le (H.frz q s rs)):eI Fs Hs Pr m n K .normal F H :=
 ⟨a,_,_,.step q hq (.refl _ _),h0,hm,hF,hH⟩
end
section
variable {C:Ctx} {F F':PF} {H:PH}
theorem cJ (hle:F.le F') {x:aP} {v:PV} (h:x.ev F=some v):x.ev F'=some v:=by
 cases x
 ·exact hle _ _ h
 all_goals exact h
theorem abV (hle:F.le F'):∀ {xs:List aP} {vs:List PV},aP.evs F xs=some vs→aP.evs F' xs=some vs
 | [],_,h=>h
 | x::xs,vs,h=>by
  rw[wM] at h ⊢
  cases hx:x.ev F with
  | none=>simp[hx] at h
  | some v =>
   cases hs:aP.evs F xs with
   | none=>simp[hs] at h
   | some ws =>
    rw[hx,hs] at h
    rw[cJ hle hx,abV hle hs]
    exact h
theorem aAT (hle:F.le F'):∀ {ps:List (Nat × Nat × aP)} {cs ds:List PV},nP cs F ps=some ds→nP cs F' ps=some ds
 | [],_,_,h=>h
 | (off,size,x)::ps,cs,ds,h=>by
  simp only[nP] at h ⊢
  cases hx:x.ev F with
  | none=>simp[hx] at h
  | some v =>
   rw[hx] at h
   rw[cJ hle hx]
   simp only at h ⊢
   split at h
   ·rename_i hc; rw[if_pos hc]; exact aAT hle h
   ·cases h
theorem zV (hle:F.le F') {size:Nat}:∀ {ps:List (Nat × aP)} {cs ds:List (List PV)},fW size cs F ps=some ds→fW size cs F' ps=some ds
 | [],_,_,h=>h
 | (i,x)::ps,cs,ds,h=>by
  simp only[fW] at h ⊢
  cases hx:x.ev F with
  | none=>simp[hx] at h
  | some v =>
   rw[hx] at h
   rw[cJ hle hx]
   simp only at h ⊢
   split at h
   ·rename_i hc; rw[if_pos hc]; exact zV hle h
   ·cases h
theorem LK (hle:F.le F') {d n:Int} {x:Option aP} (h:bnd F d x=some n):bnd F' d x=some n:=by
 cases x with
 | none=>exact h
 | some x =>
  simp only[bnd] at h ⊢
  cases hx:x.ev F with
  | none=>simp[hx] at h
  | some v=>rw[cJ hle hx,← hx]; exact h
theorem aHV {op:POp} {v:PV} (hle:F.le F') (h:aO op F H=some v):aO op F' H=some v:=by
 cases op
 case mv x=>exact cJ hle h
 case pick c a b =>
  simp only[aO] at h ⊢
  cases hc:c.ev F with
  | none=>simp[hc] at h
  | some t =>
   rw[hc] at h
   rw[cJ hle hc]
   cases t<;>simp only at h ⊢<;>try cases h
   rename_i t
   cases t
   ·simp only[bNL,if_false] at h ⊢; exact cJ hle h
   ·simp only[if_true] at h ⊢; exact cJ hle h
 case same x =>
  simp only[aO] at h ⊢
  cases hx:x.ev F with
  | none=>simp[hx] at h
  | some a=>rw[cJ hle hx,← hx]; exact h
 case un o x =>
  simp only[aO] at h ⊢
  cases hx:x.ev F with
  | none=>simp[hx] at h
  | some a=>rw[cJ hle hx,← hx]; exact h
 case conv k x =>
  simp only[aO] at h ⊢
  cases hx:x.ev F with
  | none=>simp[hx] at h
  | some a=>rw[cJ hle hx,← hx]; exact h
 case bIT x =>
  simp only[aO] at h ⊢
  cases hx:x.ev F with
  | none=>simp[hx] at h
  | some a=>rw[cJ hle hx,← hx]; exact h
 case bJQ o x =>
  simp only[aO] at h ⊢
  cases hx:x.ev F with
  | none=>simp[hx] at h
  | some a=>rw[cJ hle hx,← hx]; exact h
 case field o n x =>
  simp only[aO] at h ⊢
  cases hx:x.ev F with
  | none=>simp[hx] at h
  | some a=>rw[cJ hle hx,← hx]; exact h
 case bJM x =>
  simp only[aO] at h ⊢
  cases hx:x.ev F with
  | none=>simp[hx] at h
  | some a=>rw[cJ hle hx,← hx]; exact h
 case isNil n x =>
  simp only[aO] at h ⊢
  cases hx:x.ev F with
  | none=>simp[hx] at h
  | some a=>rw[cJ hle hx,← hx]; exact h
 case lenM x =>
  simp only[aO] at h ⊢
  cases hx:x.ev F with
  | none=>simp[hx] at h
  | some a=>rw[cJ hle hx,← hx]; exact h
 case bKG x =>
  simp only[aO] at h ⊢
  cases hx:x.ev F with
  | none=>simp[hx] at h
  | some a=>rw[cJ hle hx,← hx]; exact h
 case extract x i =>
  simp only[aO] at h ⊢
  cases hx:x.ev F with
  | none=>simp[hx] at h
  | some a=>rw[cJ hle hx,← hx]; exact h
 case bIU x =>
  simp only[aO] at h ⊢
  cases hx:x.ev F with
  | none=>simp[hx] at h
  | some a=>rw[cJ hle hx,← hx]; exact h
 case len x =>
  simp only[aO] at h ⊢
  cases hx:x.ev F with
  | none=>simp[hx] at h
  | some a=>rw[cJ hle hx,← hx]; exact h
 case box r x =>
  cases r
  ·cases h
  simp only[aO] at h ⊢
  cases hx:x.ev F with
  | none=>simp[hx] at h
  | some a=>rw[cJ hle hx,← hx]; exact h
 case load n p =>
  cases n
  all_goals
   simp only[aO] at h ⊢
   cases hx:p.ev F with
   | none=>simp[hx] at h
   | some a=>rw[cJ hle hx,← hx]; exact h
 case bin o x y =>
  simp only[aO] at h ⊢
  cases hx:x.ev F with
  | none=>simp[hx] at h
  | some a =>
   cases hy:y.ev F with
   | none=>simp[hx,hy] at h
   | some b=>rw[cJ hle hx,cJ hle hy,← hx,← hy]; exact h
 case eqb n x y =>
  simp only[aO] at h ⊢
  cases hx:x.ev F with
  | none=>simp[hx] at h
  | some a =>
   cases hy:y.ev F with
   | none=>simp[hx,hy] at h
   | some b=>rw[cJ hle hx,cJ hle hy,← hx,← hy]; exact h
 case eqs n k x y =>
  simp only[aO] at h ⊢
  cases hx:x.ev F with
  | none=>simp[hx] at h
  | some a =>
   cases hy:y.ev F with
   | none=>simp[hx,hy] at h
   | some b=>rw[cJ hle hx,cJ hle hy,← hx,← hy]; exact h
 case bIZ s x i =>
  simp only[aO] at h ⊢
  cases hx:x.ev F with
  | none=>simp[hx] at h
  | some a =>
   cases hy:i.ev F with
   | none=>simp[hx,hy] at h
   | some b=>rw[cJ hle hx,cJ hle hy,← hx,← hy]; exact h
 case idxA n s x i =>
  simp only[aO] at h ⊢
  cases hx:x.ev F with
  | none=>simp[hx] at h
  | some a =>
   cases hy:i.ev F with
   | none=>simp[hx,hy] at h
   | some b=>rw[cJ hle hx,cJ hle hy,← hx,← hy]; exact h
 case idxV n s g x i =>
  simp only[aO] at h ⊢
  cases hx:x.ev F with
  | none=>simp[hx] at h
  | some a =>
   cases hy:i.ev F with
   | none=>simp[hx,hy] at h
   | some b=>rw[cJ hle hx,cJ hle hy,← hx,← hy]; exact h
 case bJN x i =>
  simp only[aO] at h ⊢
  cases hx:x.ev F with
  | none=>simp[hx] at h
  | some a =>
   cases hy:i.ev F with
   | none=>simp[hx,hy] at h
   | some b=>rw[cJ hle hx,cJ hle hy,← hx,← hy]; exact h
 case bJF m x y =>
  simp only[aO] at h ⊢
  cases hx:x.ev F with
  | none=>simp[hx] at h
  | some a =>
   cases hy:y.ev F with
   | none=>simp[hx,hy] at h
   | some b=>rw[cJ hle hx,cJ hle hy,← hx,← hy]; exact h
 case lookup sh z x k ok =>
  simp only[aO] at h ⊢
  cases hx:x.ev F with
  | none=>simp[hx] at h
  | some a =>
   cases hy:k.ev F with
   | none=>simp[hx,hy] at h
   | some b=>rw[cJ hle hx,cJ hle hy,← hx,← hy]; exact h
 case build z ps =>
  simp only[aO,bKP] at h ⊢
  obtain⟨cs,h1,h2⟩:=h
  exact⟨cs,aAT hle h1,h2⟩
 case bIK r s l z ps =>
  cases r
  ·cases h
  simp only[aO] at h ⊢
  split at h
  ·rename_i hc
   rw[if_pos hc]
   rw[bKP] at h ⊢
   obtain⟨cs,h1,h2⟩:=h
   exact⟨cs,zV hle h1,h2⟩
  ·cases h
 case mkfn n cs =>
  simp only[aO,bKP] at h ⊢
  obtain⟨vs,h1,h2⟩:=h
  exact⟨vs,abV hle h1,h2⟩
 case sliceA n s x lo hi mx =>
  cases lo<;>cases hi<;>cases mx<;>simp only[aO] at h ⊢<;>try cases h
  cases hx:x.ev F with
  | none=>simp[hx] at h
  | some a=>rw[cJ hle hx,← hx]; exact h
 case bJH x lo hi =>
  simp only[aO] at h ⊢
  cases hx:x.ev F with
  | none=>simp[hx] at h
  | some a =>
   rw[hx] at h
   rw[cJ hle hx]
   cases a<;>simp only at h ⊢<;>try cases h
   cases h1:bnd F 0 lo with
   | none=>simp[h1] at h
   | some l =>
    rename_i s
    cases h2:bnd F s.length hi with
    | none=>simp[h1,h2] at h
    | some u=>rw[LK hle h1,LK hle h2,← h1,← h2]; exact h
 case slice s x lo hi mx =>
  simp only[aO] at h ⊢
  cases hx:x.ev F with
  | none=>simp[hx] at h
  | some a =>
   rw[hx] at h
   rw[cJ hle hx]
   have key:∀ (d:Int) (w:PV),(match bnd F 0 lo,bnd F d hi with
     | some a1,some a2=>match (generalizing:=false) mx with
      | none=>PV.slice s w a1 a2 none
      | some m=>(bnd F 0 (some m)).bind fun m=>PV.slice s w a1 a2 (some m)
     | _,_=>none)=some v→(match bnd F' 0 lo,bnd F' d hi with
     | some a1,some a2=>match (generalizing:=false) mx with
      | none=>PV.slice s w a1 a2 none
      | some m=>(bnd F' 0 (some m)).bind fun m=>PV.slice s w a1 a2 (some m)
     | _,_=>none)=some v:=by
    intro d w h
    cases h1:bnd F 0 lo with
    | none=>simp[h1] at h
    | some l =>
     cases h2:bnd F d hi with
     | none=>simp[h1,h2] at h
     | some u =>
      rw[h1,h2] at h
      rw[LK hle h1,LK hle h2]
      cases mx with
      | none=>exact h
      | some m =>
       simp only at h ⊢
       cases h3:bnd F 0 (some m) with
       | none=>simp[h3] at h
       | some q=>rw[LK hle h3,← h3]; exact h
   cases a<;>simp only at h ⊢<;>first | exact key _ _ h | cases h
 all_goals exact h
theorem ayV {op:POp} {r:(Nat→PV) × cS} (hle:F.le F') (h:cU op F=some r):cU op F'=some r:=by
 cases op
 case box b x =>
  cases b
  ·simp only[cU] at h ⊢
   cases hx:x.ev F with
   | none=>simp[hx] at h
   | some a=>rw[cJ hle hx,← hx]; exact h
  ·cases h
 case bIK b s l z ps =>
  cases b
  ·simp only[cU] at h ⊢
   split at h
   ·rename_i hc
    rw[if_pos hc]
    rw[bKP] at h ⊢
    obtain⟨cs,h1,h2⟩:=h
    exact⟨cs,zV hle h1,h2⟩
   ·cases h
  ·cases h
 case bIO s b z l c =>
  simp only[cU] at h ⊢
  cases hx:l.ev F with
  | none=>simp[hx] at h
  | some a =>
   cases hy:c.ev F with
   | none=>simp[hx,hy] at h
   | some b=>rw[cJ hle hx,cJ hle hy,← hx,← hy]; exact h
 all_goals exact h
theorem aNM {op:POp} {K:PV→PH→Prop} (hle:F.le F') (h:bV op F H K):bV op F' H K:=by
 cases op
 case store n x y =>
  simp only[bV] at h ⊢
  cases hx:x.ev F with
  | none=>simp[hx] at h
  | some a =>
   cases hy:y.ev F with
   | none=>simp[hx,hy] at h
   | some b=>rw[cJ hle hx,cJ hle hy]; rw[hx,hy] at h; exact h
 case append s b x y =>
  simp only[bV] at h ⊢
  cases hx:x.ev F with
  | none=>simp[hx] at h
  | some a =>
   cases hy:y.ev F with
   | none=>simp[hx,hy] at h
   | some b=>rw[cJ hle hx,cJ hle hy]; rw[hx,hy] at h; exact h
 case bJC sh x y z =>
  simp only[bV] at h ⊢
  cases hx:x.ev F with
  | none=>simp[hx] at h
  | some a =>
   cases hy:y.ev F with
   | none=>simp[hx,hy] at h
   | some b =>
    cases hz:z.ev F with
    | none=>simp[hx,hy,hz] at h
    | some c=>rw[cJ hle hx,cJ hle hy,cJ hle hz]; rw[hx,hy,hz] at h; exact h
 case insert sh x y z =>
  simp only[bV] at h ⊢
  cases hx:x.ev F with
  | none=>simp[hx] at h
  | some a =>
   cases hy:y.ev F with
   | none=>simp[hx,hy] at h
   | some b =>
    cases hz:z.ev F with
    | none=>simp[hx,hy,hz] at h
    | some c=>rw[cJ hle hx,cJ hle hy,cJ hle hz]; rw[hx,hy,hz] at h; exact h
 all_goals exact h
theorem PF.btG (hle:F.le F') (i:Nat) (v:PV):(F.set i v).le (F'.set i v):=by
 intro j u h
 rw[lK] at h ⊢
 split at h
 ·rename_i e; rw[if_pos e]; exact h
 ·rename_i e; rw[if_neg e]; exact hle j u h
theorem PF.xD (hle:F.le F') (d:Option Nat) (v:PV):(F.put d v).le (F'.put d v):=by
 cases d with
 | none=>exact hle
 | some d=>exact PF.btG hle d v
theorem PF.brO (hle:F.le F') (o s:Nat) (rs:List (List PV)):(F.frz o s rs).le (F'.frz o s rs):=by
 intro j u h
 rw[qS,bKP] at h ⊢
 obtain⟨x,h1,h2⟩:=h
 exact⟨x,hle j x h1,h2⟩
theorem PF.le_trans {A B D:PF} (h:A.le B) (k:B.le D):A.le D:=fun i v hi=>k i v (h i v hi)
theorem iY.up {F1:PF} {H1:PH} (h:iY F H F1 H1):∀ {F':PF},F.le F'→∃ F1',iY F' H F1' H1∧F1.le F1':=by
 induction h with
 | refl F H=>exact fun {F'} hle=>⟨F',.refl _ _,hle⟩
 | step o ho _ ih =>
  intro F' hle
  obtain⟨F1',h1,h2⟩:=ih (PF.brO hle o _ _)
  exact⟨F1',.step o ho h1,h2⟩
theorem aaC {name:Nat} {args:Option (List PV)} {d:Option Nat} {K1 K2:PF→PH→Prop} (hK:∀ F F' H,F.le F'→K1 F H→K2 F' H) (hle:F.le F') {args':Option (List PV)} (ha:∀ vs,args=some vs→args'=some vs) (h:qK C name args d K1 F H):qK C name args' d K2 F' H:=by
 obtain⟨vs,H0,R,h1,h2,h3,h4⟩:=h
 exact⟨vs,H0,R,ha _ h1,h2,h3,fun r H' a b=>hK _ _ _ (PF.xD hle d r) (h4 r H' a b)⟩
theorem aFC {cs:List PV} {args:List aP} (hle:F.le F') (vs:List PV) (h:(aP.evs F args).map (·++cs)=some vs):(aP.evs F' args).map (·++cs)=some vs:=by
 rw[bKP] at h ⊢
 obtain⟨x,h1,h2⟩:=h
 exact⟨x,abV hle h1,h2⟩
theorem aQE {name:Nat} {args:List aP} {cs:List PV} {d:Option Nat} {K1 K2:PF→PH→Prop} (hK:∀ F F' H,F.le F'→K1 F H→K2 F' H) (hle:F.le F') (h:fU C name args cs d K1 F H):fU C name args cs d K2 F' H:=by
 rcases h with h | ⟨F1,H1,h1,h2⟩
 ·exact .inl (aaC hK hle (aFC hle) h)
 ·obtain⟨F1',k1,k2⟩:=h1.up hle
  exact .inr ⟨F1',H1,k1,aaC hK k2 (aFC k2) h2⟩
theorem NO {op:POp} {d:Option Nat} {K1 K2:PF→PH→Prop} (hK:∀ F F' H,F.le F'→K1 F H→K2 F' H) (hle:F.le F') (h:lF (cU op F) d K1 F H):lF (cU op F') d K2 F' H:=by
 obtain⟨mk,x,h1,h2⟩:=h
 exact⟨mk,x,ayV hle h1,fun o ho=>hK _ _ _ (PF.xD hle d _) (h2 o ho)⟩
theorem akZ {op:POp} {d:Option Nat} {K1 K2:PF→PH→Prop} (hK:∀ F F' H,F.le F'→K1 F H→K2 F' H) (hle:F.le F') (h:bO (aO op F H) d K1 F H):bO (aO op F' H) d K2 F' H:=by
 obtain⟨v,h1,h2⟩:=h
 exact⟨v,aHV hle h1,hK _ _ _ (PF.xD hle d v) h2⟩
theorem ayE {op:POp} {d:Option Nat} {K1 K2:PF→PH→Prop} (hK:∀ F F' H,F.le F'→K1 F H→K2 F' H) (hle:F.le F') (h:bV op F H fun r H'=>K1 (F.put d r) H'):bV op F' H fun r H'=>K2 (F'.put d r) H' :=
 aNM hle (xU (fun v H' hh=>hK _ _ _ (PF.xD hle d v) hh) h)
theorem blA {op:POp} {d:Option Nat} {K1 K2:PF→PH→Prop} (hK:∀ F F' H,F.le F'→K1 F H→K2 F' H) (hle:F.le F') (h:wpOp C op d K1 F H):wpOp C op d K2 F' H:=by
 cases op
 case call n a=>exact aQE hK hle h
 case bJP x a =>
  obtain⟨n,cs,h1,h2⟩:=h
  exact⟨n,cs,cJ hle h1,aQE hK hle h2⟩
 case box r x=>cases r<;>first | exact NO (op:=.box false x) hK hle h | exact akZ (op:=.box true x) hK hle h
 case bIK r s l z ps=>cases r<;>first | exact NO (op:=.bIK false s l z ps) hK hle h | exact akZ (op:=.bIK true s l z ps) hK hle h
 case alloc cs=>exact NO (op:=.alloc cs) hK hle h
 case bIO s b z l c=>exact NO (op:=.bIO s b z l c) hK hle h
 case bKA sh=>exact NO (op:=.bKA sh) hK hle h
 case store n x y=>exact ayE (op:=.store n x y) hK hle h
 case append s b x y=>exact ayE (op:=.append s b x y) hK hle h
 case bJC sh x y z=>exact ayE (op:=.bJC sh x y z) hK hle h
 case insert sh x y z=>exact ayE (op:=.insert sh x y z) hK hle h
 all_goals exact akZ hK hle h
theorem OL {K1 K2:PF→PH→Prop} (hK:∀ F F' H,F.le F'→K1 F H→K2 F' H):∀ {ops:List bB} {F F':PF} {H:PH},F.le F'→wpOps C ops K1 F H→wpOps C ops K2 F' H
 | [],_,_,_,hle,h=>hK _ _ _ hle h
 | ⟨d,op,none⟩::rest,_,_,_,hle,h=>blA (fun _ _ _ a b=>OL hK a b) hle h
 | ⟨d,op,some (t,want)⟩::rest,F,F',H,hle,h=>by
  rw[aPT] at h ⊢
  unfold tD at h
  split at h
  ·rename_i b hb
   rw[hle t _ hb]
   unfold tD
   simp only
   split at h
   ·rename_i e; rw[if_pos e]; exact blA (fun _ _ _ a b=>OL hK a b) hle h
   ·rename_i e; rw[if_neg e]; exact OL hK (PF.xD hle d _) h
  ·rename_i hb
   rw[hle t _ hb]
   exact OL hK (PF.xD hle d _) h
  ·exact h.elim
theorem aHL {Hs:PH} {S:Spec} {st:Bool} {op:POp} {K:PV→PH→Prop} (hle:F.le F') (h:(op.kind F).run C Hs S st K H):(op.kind F').run C Hs S st K H:=by
 have new:∀ op:POp,(Kind.new (cU op F)).run C Hs S st K H→(Kind.new (cU op F')).run C Hs S st K H:=fun op h=>by
  obtain⟨mk,x,h1,h2⟩:=h
  exact⟨mk,x,ayV hle h1,h2⟩
 have calm:∀ op:POp,(Kind.calm (aO op F)).run C Hs S st K H→(Kind.calm (aO op F')).run C Hs S st K H:=fun op h=>by
  obtain⟨v,h1,h2⟩:=h
  exact⟨v,aHV hle h1,h2⟩
 have wr:∀ op:POp,(Kind.write fun H K=>bV op F H K).run C Hs S st K H→(Kind.write fun H K=>bV op F' H K).run C Hs S st K H:=fun op h=>aNM (op:=op) hle (show bV op F H (fun r H'=>Hs.le H'∧K r H') from h)
 cases op
 case call n a =>
  obtain⟨vs,D,R,h1,h2⟩:=h
  exact⟨vs,D,R,abV hle h1,h2⟩
 case bJP x a =>
  unfold POp.kind at h ⊢
  simp only at h ⊢
  cases hx:x.ev F with
  | none=>rw[hx] at h; exact h.elim
  | some u =>
   rw[hx] at h
   rw[cJ hle hx]
   cases u<;>simp only at h ⊢<;>first | exact h | skip
   obtain⟨vs,D,R,h1,h2⟩:=h
   exact⟨vs,D,R,aFC hle _ h1,h2⟩
 case insert sh x k v =>
  obtain⟨o,sh',key,u,g,h1,h2⟩:=h
  refine⟨o,sh',key,u,g,?_,h2⟩
  cases hx:x.ev F with
  | none=>simp[hx] at h1
  | some a =>
   cases hy:k.ev F with
   | none=>simp[hx,hy] at h1
   | some b =>
    cases hz:v.ev F with
    | none=>simp[hx,hy,hz] at h1
    | some c=>rw[cJ hle hx,cJ hle hy,cJ hle hz]; rw[hx,hy,hz] at h1; exact h1
 case box r x=>cases r<;>first | exact new (.box false x) h | exact calm (.box true x) h
 case bIK r s l z ps=>cases r<;>first | exact new (.bIK false s l z ps) h | exact calm (.bIK true s l z ps) h
 case alloc cs=>exact new (.alloc cs) h
 case bIO s b z l c=>exact new (.bIO s b z l c) h
 case bKA sh=>exact new (.bKA sh) h
 case store n x y=>exact wr (.store n x y) h
 case append s b x y=>exact wr (.append s b x y) h
 case bJC sh x y z=>exact wr (.bJC sh x y z) h
 all_goals exact calm _ h
theorem bgI {Hs:PH} {S:Spec} {st:Bool} {i:bB} {K:PV→PH→Prop} (hle:F.le F') (h:(i.kind F).run C Hs S st K H):(i.kind F').run C Hs S st K H:=by
 unfold bB.kind at h ⊢
 split
 ·rename_i hg
  rw[hg] at h
  exact aHL hle h
 ·rename_i t want hg
  rw[hg] at h
  simp only at h
  split at h
  ·rename_i b hb
   rw[hle t _ hb]
   simp only
   split at h
   ·rename_i e; rw[if_pos e]; exact aHL hle h
   ·rename_i e; rw[if_neg e]; exact h
  ·rename_i hb
   rw[hle t _ hb]
   exact h
  ·exact h.elim
theorem bdN {Hs:PH} {S:Spec} {K1 K2:PF→PH→Prop} (hK:∀ F F' H,F.le F'→K1 F H→K2 F' H):∀ {ops:List (bB × Bool)} {F F':PF} {H:PH},Hs.le H→F.le F'→wpD C Hs S ops K1 F H→wpD C Hs S ops K2 F' H
 | [],_,_,_,_,hle,h=>hK _ _ _ hle h
 | i::rest,F,F',H,hs,hle,h=>by
  have h1:(i.1.kind F).run C Hs S i.2 (fun v H'=>wpD C Hs S rest K1 (F.put i.1.dst v) H') H:=h
  exact bgI hle (Kind.pN (pI _ _) (fun v H' hs' hh=>bdN hK hs' (PF.xD hle _ v) hh) hs h1)
class Up (K:cO):Prop where
 up:∀ {e:lO} {F F':PF} {H:PH},F.le F'→K e F H→K e F' H
theorem sV:∀ (c:aC) {K1 K2:cO} (_:∀ e F F' H,F.le F'→K1 e F H→K2 e F' H) {F F':PF} {H:PH},F.le F'→c.wp C K1 F H→c.wp C K2 F' H
 | .skip,_,_,hK,_,_,_,hle,h=>hK _ _ _ _ hle h
 | .region ops,_,_,hK,_,_,_,hle,h=>OL (hK .normal) hle h
 | .draw ops,_,_,hK,_,_,_,hle,⟨Hs,S,h1,h2⟩=>⟨Hs,S,h1,bdN (hK .normal) h1 hle h2⟩
 | .seq a b,K1,K2,hK,_,_,_,hle,h=>sV a (K1:=jB C (b.wp C) K1) (K2:=jB C (b.wp C) K2) (fun e F F' H hl hh=>by
   cases e with
   | normal=>exact sV b hK hl hh
   | exit id=>exact hK (.exit id) _ _ _ hl hh
   | ret=>exact hK .ret _ _ _ hl hh) hle h
 | .cond c a b,K1,K2,hK,F,F',H,hle,h=>by
  rw[bkK] at h ⊢
  unfold SC at h
  split at h
  ·rename_i t ht
   rw[cJ hle ht]
   unfold SC
   simp only
   split at h
   ·rename_i e; rw[if_pos e]; exact sV a hK hle h
   ·rename_i e; rw[if_neg e]; exact sV b hK hle h
  ·exact h.elim
 | .block id c,K1,K2,hK,_,_,_,hle,h=>sV c (K1:=dZ id K1) (K2:=dZ id K2) (fun e F F' H hl hh=>by
   cases e with
   | normal=>exact hK .normal _ _ _ hl hh
   | exit j =>
    rw[TD] at hh ⊢
    split at hh
    ·rename_i e; rw[if_pos e]; exact hK .normal _ _ _ hl hh
    ·rename_i e; rw[if_neg e]; exact hK (.exit j) _ _ _ hl hh
   | ret=>exact hK .ret _ _ _ hl hh) hle h
 | .loop c,K1,K2,hK,F,F',H,hle,⟨α,Fs,Hs,Pr,m,a0,F1,H1,h1,h2,h3,h4,h5⟩=>by
  obtain⟨F1',k1,k2⟩:=h1.up hle
  refine⟨α,Fs,Hs,Pr,m,a0,F1',H1,k1,h2,PF.le_trans h3 k2,h4,fun a ha=>?_⟩
  refine sV c (K1:=eI Fs Hs Pr m (m a) K1) (K2:=eI Fs Hs Pr m (m a) K2) (fun e F F' H hl hh=>?_) PF.le_refl (h5 a ha)
  cases e with
  | normal =>
   obtain⟨b,F2,H2,z1,z2,z3,z4,z5⟩:=hh
   obtain⟨F2',y1,y2⟩:=z1.up hl
   exact⟨b,F2',H2,y1,z2,z3,PF.le_trans z4 y2,z5⟩
  | exit id=>exact hK (.exit id) _ _ _ hl hh
  | ret=>exact hK .ret _ _ _ hl hh
 | .exit id,_,_,hK,_,_,_,hle,h=>hK (.exit id) _ _ _ hle h
 | .ret,_,_,hK,_,_,_,hle,h=>hK .ret _ _ _ hle h
instance Up.seq {K:cO} [Up K] (b:aC):Up (jB C (b.wp C) K) where
 up {e} {F} {F'} {H} hl hh:=by
  cases e with
  | normal=>exact sV b (fun e F F' H a h=>Up.up a h) hl hh
  | exit id=>exact Up.up (K:=K) (e:=.exit id) hl hh
  | ret=>exact Up.up (K:=K) (e:=.ret) hl hh
instance Up.block {K:cO} [Up K] (id:Nat):Up (dZ id K) where
 up {e} {F} {F'} {H} hl hh:=by
  cases e with
  | normal=>exact Up.up (K:=K) (e:=.normal) hl hh
  | exit j =>
   rw[TD] at hh ⊢
   split at hh
   ·rename_i e; rw[if_pos e]; exact Up.up (K:=K) (e:=.normal) hl hh
   ·rename_i e; rw[if_neg e]; exact Up.up (K:=K) (e:=.exit j) hl hh
  | ret=>exact Up.up (K:=K) (e:=.ret) hl hh
instance Up.loop {K:cO} [Up K] {α:Type} (Fs:α→PF) (Hs:α→PH) (Pr:α→Prop) (m:α→Nat) (n:Nat):Up (eI Fs Hs Pr m n K) where
 up {e} {F} {F'} {H} hl hh:=by
  cases e with
  | normal =>
   obtain⟨b,F2,H2,z1,z2,z3,z4,z5⟩:=hh
   obtain⟨F2',y1,y2⟩:=z1.up hl
   exact⟨b,F2',H2,y1,z2,z3,PF.le_trans z4 y2,z5⟩
  | exit id=>exact Up.up (K:=K) (e:=.exit id) hl hh
  | ret=>exact Up.up (K:=K) (e:=.ret) hl hh
theorem bsW {H:PH} (hle:F.le F') {x:dW} {v:PV} (h:x.ev F H=some v):x.ev F' H=some v:=by
 cases x with
 | tmp t=>exact hle t v h
 | cell t n =>
  cases n<;>simp only[dW.ev] at h ⊢<;>(cases hx:F t with
   | none=>simp[hx] at h
   | some a=>rw[hle t a hx,← hx]; exact h)
theorem amU {H:PH} (hle:F.le F'):∀ {xs:List dW} {vs:List PV},dW.evs F H xs=some vs→dW.evs F' H xs=some vs
 | [],_,h=>h
 | x::xs,vs,h=>by
  rw[lC] at h ⊢
  cases hx:x.ev F H with
  | none=>simp[hx] at h
  | some v =>
   cases hs:dW.evs F H xs with
   | none=>simp[hs] at h
   | some ws =>
    rw[hx,hs] at h
    rw[bsW hle hx,amU hle hs]
    exact h
instance Up.ret (res:List dW) (R:PV→PH→Prop):Up (aT res R) where
 up {e} {F} {F'} {H} hl hh:=by
  cases e with
  | exit id=>exact hh
  | normal=>obtain⟨vs,h1,h2⟩:=hh; exact⟨vs,amU hl h1,h2⟩
  | ret=>obtain⟨vs,h1,h2⟩:=hh; exact⟨vs,amU hl h1,h2⟩
end
def EE (f:aH) (row:List Int):Int:=match eV (jE f) row 0 with
 | some i=>i
 | none=>-1
theorem bpG {C:Ctx} (f:aH) (row:List Int) (hl:row.length≤16777216):PJ.wp C (aT aJJ.res (aD (.int .i64 (EE f row)))) (PF.args [.agg f.cells,ints row]) .nil:=by
 unfold EE
 simp only[go_sem,ο,PJ,aWJ,aWK,aJJ]
 refine wp_loop (α:=Nat) (fun k=>(((PF.nil.set 1 (ints row)).set 2 (.bH f.cells)).set 5 (.int .i64 k))) (fun _=>.nil) (fun k=>k≤row.length∧eV (jE f) row 0=eV (jE f) (row.drop k) k) (fun k=>row.length-k) 0 ⟨bKT _,rfl⟩ Lq PH.nil_le ?_
 rintro k ⟨hk,ha⟩
 simp only[go_sem,ο,γ,aWI,aWL,bKI]
 by_cases hlt:k<row.length
 ·have bIL:(k:Int)<(row.length:Nat):=by omega
  have hat:(row.map fun x=>[PV.int .i64 x])[k]?=some [.int .i64 row[k]]:=by simp[hlt]
  rw[bMH hlt,eV] at ha
  generalize row[k]=x at *
  simp only[go_sem,ο,bIL]
  refine bS .nil eC PH.nil_le ?_
  by_cases c1:x < -1
  ·rw[show jE f x=true from by unfold jE; rw[decide_eq_true c1]; rfl,if_pos rfl] at ha
   simp only[go_sem,ο,γ,ST,hat,c1,amX]
   refine aL (.inr rfl) rfl ?_
   rw[aV,ha]
  ·by_cases c2:x≥(f.bIE.length:Nat)
   ·rw[show jE f x=true from by unfold jE; rw[decide_eq_true c2,Bool.or_true],if_pos rfl] at ha
    simp only[go_sem,ο,δ,γ,θ,reduceCtorEq,ST,hat,c1,bKI,c2,amX]
    refine aL (.inr rfl) rfl ?_
    rw[aV,ha]
   ·rw[show jE f x=false from by unfold jE; rw[decide_eq_false c1,decide_eq_false c2]; rfl,if_neg (by decide)] at ha
    simp only[go_sem,ο,δ,γ,θ,reduceCtorEq,ST,hat,c1,bKI,c2,aWM,wZz k]
    exact aI (k+1) ⟨hlt,ha⟩ Om Lq PH.le_refl
 ·have bIL:¬ (k:Int)<(row.length:Nat):=by omega
  have:k=row.length:=by omega
  subst this
  rw[List.drop_length,eV] at ha
  simp only[go_sem,ο,bIL,aWN]
  refine aL (.inr rfl) rfl ?_
  rw[aV,ha]
theorem bnZ {r e:Int} (h:0≤e):max 0 (min r e)=min (max r 0) e:=by omega
theorem a3S (f:aH) (room:List Int) {k:Nat} (h:k<f.bIE.length):(fL f room).take (k+1)=(fL f room).take k++[rE f room k]:=by
 have hk:k<(fL f room).length:=by rw[PD]; exact h
 rw[bMA hk,aJC]
theorem aEG {xs:List Int} {k:Nat} {d:Int} (h:k<xs.length):(xs.take (k+1)).contains d=((xs.take k).contains d||decide (xs[k]=d)):=by
 rw[Bool.eq_iff_iff]
 rw[bMV,bMA h,bLV,bLR,Bool.or_eq_true,bMV,decide_eq_true_eq]
 exact⟨fun h=>h.imp id Eq.symm,fun h=>h.imp id Eq.symm⟩
theorem aVO {C:Ctx} (l:List Int) (hl:l.length≤1000000000000000) (x:Int):PC.wp C (aT PB.res (aD (.bool (l.contains x)))) (PF.args [ints l,.int .i64 x]) .nil:=by
 simp only[go_sem,γ,δ,ε,ζ,η,θ,ι,κ,μ,ν,ξ,ο,ρ,σ,τ,υ,reduceIte,reduceCtorEq,PC,aVP,aVQ,PB]
 refine wp_loop (α:=Nat) (fun k=>(((PF.nil.set 0 (ints l)).set 1 (.int .i64 x)).set 5 (.int .i64 k))) (fun _=>.nil) (fun k=>k≤l.length∧(l.take k).contains x=false) (fun k=>l.length-k) 0 ⟨bKT _,by simp⟩ Lq PH.nil_le ?_
 rintro k ⟨hk,hn⟩
 simp only[go_sem,γ,δ,ε,ζ,η,θ,ι,κ,μ,ν,ξ,ο,ρ,σ,τ,υ,reduceIte,reduceCtorEq,aVN,aVR,bKI]
 by_cases hlt:k<l.length
 ·have bIL:(k:Int)<(l.length:Nat):=by omega
  have hat:(l.map fun n=>[PV.int .i64 n])[k]?=some [.int .i64 l[k]]:=by simp[hlt]
  have hs:=aEG (d:=x) hlt
  by_cases c:l[k]=x
  ·simp only[go_sem,γ,δ,ε,ζ,η,θ,ι,κ,μ,ν,ξ,ο,ρ,σ,τ,υ,reduceIte,reduceCtorEq,bIL,amW,hat,bT c,aVS]
   refine aL (.inr rfl) rfl ?_
   rw[aV]
   exact congrArg PV.bool (bMV.2 (c ▸ bKM hlt)).symm
  ·simp only[go_sem,γ,δ,ε,ζ,η,θ,ι,κ,μ,ν,ξ,ο,ρ,σ,τ,υ,reduceIte,reduceCtorEq,bIL,amW,hat,bF c,aVT,wZz k]
   exact aI (k+1) ⟨hlt,by rw[hs,hn]; simp[c]⟩ Om Lq PH.le_refl
 ·have bIL:¬ (k:Int)<(l.length:Nat):=by omega
  have:k=l.length:=by omega
  subst this
  rw[bLG] at hn
  simp only[go_sem,γ,δ,ε,ζ,η,θ,ι,κ,μ,ν,ξ,ο,ρ,σ,τ,υ,reduceIte,reduceCtorEq,bIL,aVU]
  refine aL (.inr rfl) rfl ?_
  rw[aV,hn]
def NF (l:List Int) (x:Int):Int:=match l.findIdx? (fun y=>decide (y=x)) with
 | some i=>(i:Int)
 | none=>-1
theorem bnJ {l:List Int} {x:Int} {k:Nat} (h:k<l.length) (h1:l[k]=x) (h2:(l.take k).contains x=false):NF l x=k:=by
 unfold NF
 have:l.findIdx? (fun y=>decide (y=x))=some k:=by
  rw[List.findIdx?_eq_some_iff_getElem]
  refine⟨h,by simp[h1],fun j hj=>?_⟩
  intro hx
  rw[decide_eq_true_eq] at hx
  have:x∈l.take k:=by
   rw[← hx]
   exact List.mem_take_iff_getElem.2 ⟨j,by omega,rfl⟩
  rw[bMV.2 this] at h2
  cases h2
 rw[this]
theorem apS {l:List Int} {x:Int} (h:l.contains x=false):NF l x=-1:=by
 unfold NF
 have:l.findIdx? (fun y=>decide (y=x))=none:=by
  rw[List.findIdx?_eq_none_iff]
  intro y hy
  rw[decide_eq_false_iff_not]
  intro e
  subst e
  rw[bMV.2 hy] at h
  cases h
 rw[this]
theorem bnK (l:List Int) (x:Int):decide (NF l x≥0)=l.contains x:=by
 cases hc:l.contains x with
 | false=>rw[apS hc]; rfl
 | true =>
  unfold NF
  cases hf:l.findIdx? (fun y=>decide (y=x)) with
  | some i=>exact decide_eq_true (Om:(i:Int)≥0)
  | none =>
   rw[List.findIdx?_eq_none_iff] at hf
   have:=hf x (bMV.1 hc)
   simp at this
theorem baA {C:Ctx} (l:List Int) (hl:l.length≤1000000000000000) (x:Int):AV.wp C (aT OT.res (aD (.int .i64 (NF l x)))) (PF.args [ints l,.int .i64 x]) .nil:=by
 simp only[go_sem,γ,δ,ε,ζ,η,θ,ι,κ,μ,ν,ξ,ο,ρ,σ,τ,υ,reduceIte,reduceCtorEq,AV,arV,arW,OT,bKI]
 refine wp_loop (α:=Nat) (fun k=>((((PF.nil.set 0 (ints l)).set 1 (.int .i64 x)).set 7 (.int .i64 (l.length:Nat))).set 8 (.int .i64 k))) (fun _=>.nil) (fun k=>k≤l.length∧(l.take k).contains x=false) (fun k=>l.length-k) 0 ⟨bKT _,by simp⟩ Lq PH.nil_le ?_
 rintro k ⟨hk,hn⟩
 simp only[go_sem,γ,δ,ε,ζ,η,θ,ι,κ,μ,ν,ξ,ο,ρ,σ,τ,υ,reduceIte,reduceCtorEq,arU,arX]
 by_cases hlt:k<l.length
 ·have bIL:(k:Int)<(l.length:Nat):=by omega
  have hat:(l.map fun n=>[PV.int .i64 n])[k]?=some [.int .i64 l[k]]:=by simp[hlt]
  have hs:=aEG (d:=x) hlt
  by_cases c:l[k]=x
  ·simp only[go_sem,γ,δ,ε,ζ,η,θ,ι,κ,μ,ν,ξ,ο,ρ,σ,τ,υ,reduceIte,reduceCtorEq,bIL,OU,OV,hat,bT c.symm,arY]
   refine aL (.inr rfl) Ev ?_
   rw[aV,bnJ hlt c hn]
  ·simp only[go_sem,γ,δ,ε,ζ,η,θ,ι,κ,μ,ν,ξ,ο,ρ,σ,τ,υ,reduceIte,reduceCtorEq,bIL,OU,OV,hat,bF (fun h:x=l[k]=>c h.symm),arZ,wZz k]
   exact aI (k+1) ⟨hlt,by rw[hs,hn]; simp[c]⟩ Om Lq PH.le_refl
 ·have bIL:¬ (k:Int)<(l.length:Nat):=by omega
  have:k=l.length:=by omega
  subst this
  rw[bLG] at hn
  simp only[go_sem,γ,δ,ε,ζ,η,θ,ι,κ,μ,ν,ξ,ο,ρ,σ,τ,υ,reduceIte,reduceCtorEq,bIL,asA]
  refine aL (.inr rfl) Ev ?_
  rw[aV,apS hn]
theorem aHT {C:Ctx} (l:List Int) (x:Int) (h:aE C 261 [ints l,.int .i64 x] .nil (aD (.int .i64 (NF l x)))):sC.wp C (aT tL.res (aD (.bool (l.contains x)))) (PF.args [ints l,.int .i64 x]) .nil:=by
 simp only[go_sem,γ,δ,ε,ζ,η,θ,ι,κ,μ,ν,ξ,ο,ρ,σ,τ,υ,reduceIte,reduceCtorEq,sC,OP,OQ,tL]
 refine aA h Ev ?_
 simp only[go_sem,γ,δ,ε,ζ,η,θ,ι,κ,μ,ν,ξ,ο,ρ,σ,τ,υ,reduceIte,reduceCtorEq]
 refine aL (.inr rfl) Ev ?_
 rw[aV,bnK]
structure buP (C:Ctx):Prop where
 has:∀ (l:List Int) (x:Int),l.length≤1000000000000000→aE C 260 [ints l,.int .i64 x] .nil (aD (.bool (l.contains x)))
theorem aHW {C:Ctx} (Lb:buP C) (f:aH) (hV:VF f) (now:List (List Int)) (hl:eX now) (hlen:now.length=f.bIG.length) (r:Int) (h0:0≤r) (h4:r≤4) (down:List Int) (hd:down.length≤1000000000000000) :
  HS.wp C (aT aeR.res (aD (.bool (eY f now r down)))) (PF.args [.agg f.cells,lay now,.int .i64 r,ints down]) .nil:=by
 have bIR:=hl.rows
 simp only[go_sem,γ,δ,ε,ζ,η,θ,ι,κ,μ,ν,ξ,ο,ρ,σ,τ,υ,reduceIte,reduceCtorEq,HS,aHX,aHY,aeR,bKI]
 refine wp_loop (α:=Nat) (fun v=>((((((PF.nil.set 2 (.int .i64 r)).set 3 (ints down)).set 4 (.bH f.cells)).set 15 (lay now)).set 16 (.int .i64 (now.length:Nat))).set 17 (.int .i64 v))) (fun _=>.nil) (fun v=>v≤now.length∧uP f now r down v=true) (fun v=>now.length-v) 0 ⟨bKT _,rfl⟩ (by (repeat' (first|exact PF.nil_le|refine PF.aK ?_ ?_))<;>first|(simp only[go_sem,γ,δ,ε,ζ,η,θ,ι,κ,μ,ν,ξ,ο,ρ,σ,τ,υ,reduceIte,reduceCtorEq,bKI]<;>rfl)|rfl) PH.nil_le ?_
 rintro v ⟨hv,hok⟩
 simp only[go_sem,γ,δ,ε,ζ,η,θ,ι,κ,μ,ν,ξ,ο,ρ,σ,τ,υ,reduceIte,reduceCtorEq,arP,aHZ]
 by_cases hlt:v<now.length
 ·have bIL:(v:Int)<(now.length:Nat):=by omega
  have hat:(now.map fun r=>[ints r])[v]?=some [ints now[v]]:=by simp[hlt]
  have hgd:now.getD v []=now[v]:=by simp[bLC,hlt]
  have hrl:(now[v]).length≤16777216:=by
   have h1:=hl.all
   have h2:(now[v]).length≤now.flatten.length:=(List.sublist_flatten_of_mem (bKM hlt)).length_le
   omega
  obtain⟨hp,he⟩:=nH hV (Om:v<f.bIG.length)
  have hpol:=hV.bIS _ (bKM hp)
  rw[he] at hpol
  have hw:IntKind.i64.wrap ((dB f v).k+r)=(dB f v).k+r:=wrap_i64 Om Om
  have bJA:=abY f now r down v
  rw[hok,bKS,hgd] at bJA
  have hno:=fun (h:tM f r down v now[v]=true)=>aAV (f:=f) (now:=now) (reserve:=r) (down:=down) hlt (by rw[hgd]; exact h)
  generalize now[v]=row at *
  simp only[go_sem,γ,δ,ε,ζ,η,θ,ι,κ,μ,ν,ξ,ο,ρ,σ,τ,υ,reduceIte,reduceCtorEq,bIL,aIA,hat,aIB,aIC,bKI]
  refine wp_loop (α:=Nat) (fun k=>((((((((((((PF.nil.set 2 (.int .i64 r)).set 3 (ints down)).set 4 (.bH f.cells)).set 15 (lay now)).set 16 (.int .i64 (now.length:Nat))).set 17 (.int .i64 v)).set 9 (.int .i64 v)).set 11 (.bool (rX down (row.take k)))).set 12 (.int .i64 (fY down (row.take k):Nat))).set 22 (ints row)).set 23 (.int .i64 (row.length:Nat))).set 24 (.int .i64 k))) (fun _=>.nil) (fun k=>k≤row.length) (fun k=>row.length-k) 0 (bKT _) (by (repeat' (first|exact PF.nil_le|refine PF.aK ?_ ?_))<;>first|(simp only[go_sem,γ,δ,ε,ζ,η,θ,ι,κ,μ,ν,ξ,ο,ρ,σ,τ,υ,reduceIte,reduceCtorEq,List.take_zero,bKI,rX,fY,List.any_nil,List.countP_nil]<;>rfl)|rfl) PH.nil_le ?_
  intro k hk
  have hol:fY down (row.take k)≤row.length:=bNF List.countP_le_length (by rw[bLB]; omega)
  simp only[go_sem,γ,δ,ε,ζ,η,θ,ι,κ,μ,ν,ξ,ο,ρ,σ,τ,υ,reduceIte,reduceCtorEq,arO,aID]
  by_cases hkl:k<row.length
  ·have hkl':(k:Int)<(row.length:Nat):=by omega
   have hra:(row.map fun n=>[PV.int .i64 n])[k]?=some [.int .i64 row[k]]:=by simp[hkl]
   have hs1:=apR (down:=down) hkl
   have hs2:=UV (down:=down) hkl
   by_cases c:row[k]<0
   ·have d1:iW down row[k]=false:=by unfold iW; rw[decide_eq_false Om]; rfl
    have d2:lW down row[k]=false:=by unfold lW; rw[decide_eq_false Om]; rfl
    rw[d1,Bool.or_false] at hs1
    rw[d2,if_neg (by simp),bMB] at hs2
    simp only[go_sem,γ,δ,ε,ζ,η,θ,ι,κ,μ,ν,ξ,ο,ρ,σ,τ,υ,reduceIte,reduceCtorEq,hkl',YK,hra,YL,c,yR,wZz k]
    exact aI (k+1) hkl Om (by (repeat' (first|exact PF.nil_le|refine PF.aK ?_ ?_))<;>first|(simp only[go_sem,γ,δ,ε,ζ,η,θ,ι,κ,μ,ν,ξ,ο,ρ,σ,τ,υ,reduceIte,reduceCtorEq,hs1,hs2]<;>rfl)|rfl) PH.le_refl
   ·simp only[go_sem,γ,δ,ε,ζ,η,θ,ι,κ,μ,ν,ξ,ο,ρ,σ,τ,υ,reduceIte,reduceCtorEq,hkl',YK,hra,YL,c,aIE]
    refine aA (Lb.has down row[k] hd) Ev ?_
    cases hc:down.contains row[k] with
    | true =>
     have d1:iW down row[k]=true:=by unfold iW; rw[decide_eq_true Om,hc]; rfl
     have d2:lW down row[k]=false:=by unfold lW; rw[hc]; simp
     rw[d1,Bool.or_true] at hs1
     rw[d2,if_neg (by simp),bMB] at hs2
     simp only[go_sem,γ,δ,ε,ζ,η,θ,ι,κ,μ,ν,ξ,ο,ρ,σ,τ,υ,reduceIte,reduceCtorEq,arQ,yR,wZz k]
     exact aI (k+1) hkl Om (by (repeat' (first|exact PF.nil_le|refine PF.aK ?_ ?_))<;>first|(simp only[go_sem,γ,δ,ε,ζ,η,θ,ι,κ,μ,ν,ξ,ο,ρ,σ,τ,υ,reduceIte,reduceCtorEq,hs1,hs2]<;>rfl)|rfl) PH.le_refl
    | false =>
     have d1:iW down row[k]=false:=by unfold iW; rw[hc]; simp
     have d2:lW down row[k]=true:=by unfold lW; rw[decide_eq_true Om,hc]; rfl
     rw[d1,Bool.or_false] at hs1
     rw[d2,if_pos rfl] at hs2
     simp only[go_sem,γ,δ,ε,ζ,η,θ,ι,κ,μ,ν,ξ,ο,ρ,σ,τ,υ,reduceIte,reduceCtorEq,arR,dC (Om:fY down (row.take k)<9223372036854775807),yR,wZz k]
     exact aI (k+1) hkl Om (by (repeat' (first|exact PF.nil_le|refine PF.aK ?_ ?_))<;>first|(simp only[go_sem,γ,δ,ε,ζ,η,θ,ι,κ,μ,ν,ξ,ο,ρ,σ,τ,υ,reduceIte,reduceCtorEq,hs1,hs2]<;>rfl)|rfl) PH.le_refl
  ·have hkl':¬ (k:Int)<(row.length:Nat):=by omega
   have:k=row.length:=by omega
   subst this
   rw[bLG] at hol
   simp only[go_sem,γ,δ,ε,ζ,η,θ,ι,κ,μ,ν,ξ,ο,ρ,σ,τ,υ,reduceIte,reduceCtorEq,hkl',bLG]
   refine bS .nil eC PH.nil_le ?_
   have hsh:tM f r down v row=(rX down row&&decide (((fY down row:Nat):Int)<(dB f v).k+r)):=rfl
   cases hh:rX down row with
   | false =>
    rw[hh,bKO] at hsh
    rw[hsh] at bJA
    simp only[go_sem,γ,δ,ε,ζ,η,θ,ι,κ,μ,ν,ξ,ο,ρ,σ,τ,υ,reduceIte,reduceCtorEq,OR,hh,OS,wZz v]
    exact aI (v+1) ⟨hlt,bJA⟩ Om Lq PH.nil_le
   | true =>
    rw[hh,bKS] at hsh
    simp only[go_sem,γ,δ,ε,ζ,η,θ,ι,κ,μ,ν,ξ,ο,ρ,σ,τ,υ,reduceIte,reduceCtorEq,OR,hh,rI (Om:v<f.bIG.length),hV.OW (Om:v<f.bIG.length),mN hp,he,hw]
    by_cases c:((fY down row:Nat):Int)<(dB f v).k+r
    ·rw[decide_eq_true c] at hsh
     simp only[go_sem,γ,δ,ε,ζ,η,θ,ι,κ,μ,ν,ξ,ο,ρ,σ,τ,υ,reduceIte,reduceCtorEq,c,arS]
     refine aL (.inr rfl) Ev ?_
     rw[aV]
     exact congrArg PV.bool (hno hsh).symm
    ·rw[decide_eq_false c] at hsh
     rw[hsh] at bJA
     simp only[go_sem,γ,δ,ε,ζ,η,θ,ι,κ,μ,ν,ξ,ο,ρ,σ,τ,υ,reduceIte,reduceCtorEq,c,OS,wZz v]
     exact aI (v+1) ⟨hlt,bJA⟩ Om Lq PH.nil_le
 ·have bIL:¬ (v:Int)<(now.length:Nat):=by omega
  have:v=now.length:=by omega
  subst this
  simp only[go_sem,γ,δ,ε,ζ,η,θ,ι,κ,μ,ν,ξ,ο,ρ,σ,τ,υ,reduceIte,reduceCtorEq,bIL,arT]
  refine aL (.inr rfl) Ev ?_
  rw[aV]
  exact congrArg PV.bool hok.symm
def awX:Rg:=[iA 1 (.box true (Tm 0)),iT 2 false]
def awY:Rg:=[iO 6 3 1,iK 7 52 6,iM 5 7,iE 8 5 0,iE 9 5 1,iA 3 (.alloc [(.bool false),.aB,.aB]),iS 3 3 8,iM 4 9]
def zJ:Rg:=[iM 10 4,iC 11 .eql 10 0,iM 12 11,gF 13 0 3 12 true,gL 14 13 12 true,iG 15 (.un .not (Tm 14)) 12 true,iP 16 12 15,iM 17 16,gF 18 1 3 17 true,gL 19 18 17 true,gN 20 19 17 true,gC 21 .leq 20 1 17 true,iP 22 17 21,iM 23 22,gF 24 2 3 23 true,gL 25 24 23 true,gN 26 25 23 true,gC 27 .leq 26 1 23 true,iP 28 23 27,iM 2 28]
def CI:aC:=(sq awX (sq awY (sq zJ .ret)))
def beA:List Nat:=[1]
def RQ:aW:=⟨1,29,CI,[.tmp 2]⟩
def ajM:Rg:=[iT 4 false]
def ajN:Rg:=[iM 6 0,iN 7 6,iM 8 1,iB 9 .neq 7 8]
def ajO:Rg:=[iT 4 false]
def ajP:Rg:=[iI 5 0]
def ajQ:Rg:=[iM 10 5,iM 11 1,iB 12 .lss 10 11]
def ajR:Rg:=[iM 15 0,iM 16 5,iX 17 3 15 16,iO 18 3 17,iK 19 74 18,iA 20 (.un .not (Tm 19))]
def ajS:Rg:=[iT 4 false]
def ajT:Rg:=[iM 13 5,iC 14 .add 13 1,iM 5 14]
def ajL:aC:=(.seq (sq ajQ (.cond (Tm 12) .skip (.exit 0))) (.seq (.block 1 (sq ajR (.cond (Tm 20) (sq ajS .ret) .skip))) (.region ajT)))
def ajU:Rg:=[iT 4 true]
def xX:aC:=(sq ajM (.seq (sq ajN (.cond (Tm 9) (sq ajO .ret) .skip)) (.seq (sq ajP (.block 0 (.loop ajL))) (sq ajU .ret))))
def a6K:List Nat:=[]
def DZ:aW:=⟨2,21,xX,[.tmp 4]⟩
def aZO:Rg:=[iA 1 (.box true (Tm 0)),iT 2 false]
def aZP:Rg:=[iF 12 1 1,iL 13 12,iN 14 13,iM 3 14]
def aZQ:Rg:=[iM 15 3,iC 16 .lss 15 1,iM 17 16,gM 18 3 17 false,gC 19 .gtr 18 4 17 false,iQ 20 17 19,iM 21 20,gF 22 1 1 21 false,gL 23 22 21 false,gM 24 3 21 false,gK2 25 75 23 24 21 false,iG 26 (.un .not (Tm 25)) 21 false,iQ 27 21 26,iM 28 27,gF 29 3 1 28 false,gL 30 29 28 false,gM 31 3 28 false,gK2 32 75 30 31 28 false,iG 33 (.un .not (Tm 32)) 28 false,iQ 34 28 33,iM 35 34,gF 36 2 1 35 false,gL 37 36 35 false,gN 38 37 35 false,gM 39 3 35 false,gB 40 .neq 38 39 35 false,iQ 41 35 40]
def wD:Rg:=[iT 2 false]
def aZR:Rg:=[iI 4 0]
def aZS:Rg:=[iM 42 4,iM 43 3,iB 44 .lss 42 43]
def aZT:Rg:=[iF 47 2 1,iL 48 47,iM 49 4,iX 50 1 48 49,iL 51 50,iM 52 3,iK2 53 75 51 52,iA 54 (.un .not (Tm 53)),iM 55 54,gF 56 2 1 55 false,gL 57 56 55 false,gM 58 4 55 false,iG 59 (.bIZ 1 (Tm 57) (Tm 58)) 55 false,gL 60 59 55 false,gM 61 4 55 false,iG 62 (.bIZ 3 (Tm 60) (Tm 61)) 55 false,gO 63 3 62 55 false,gK 64 54 63 55 false,gC 65 .neq 64 0 55 false,iQ 66 55 65]
def anN:Rg:=[iT 2 false]
def aZU:Rg:=[iM 45 4,iC 46 .add 45 1,iM 4 46]
def aZN:aC:=(.seq (sq aZS (.cond (Tm 44) .skip (.exit 0))) (.seq (.block 1 (sq aZT (.cond (Tm 66) (sq anN .ret) .skip))) (.region aZU)))
def aNQ:Rg:=[iF 68 1 1,iL 69 68,iK 70 55 69,iM 67 70,iE 71 67 0,iE 72 67 1,iA 5 (.alloc [(.bool false),.aB,.aB]),iS 3 5 71,iM 6 72]
def ZG:Rd:=[(iM 73 6,false),(iC 74 .neq 73 0,false),(iM 75 74,false),(gO 76 3 5 75 false,true),(iG 77 (.call 47 [(Ci 1)]) 75 false,true),(gK2 78 53 76 77 75 false,true),(iG 79 (.un .not (Tm 78)) 75 false,false),(iQ 80 75 79,false)]
def ZH:Rg:=[iT 2 false]
def aNR:Rg:=[iM 81 3,iA 82 (.bIO 1 1 [(.bool false)] (Tm 81) (Tm 81)),iM 7 82]
def aNS:Rg:=[iI 8 0]
def aNT:Rg:=[iM 83 8,iM 84 3,iB 85 .lss 83 84]
def aNU:Rg:=[iI 9 0]
def aNV:Rg:=[iM 88 9,iM 89 3,iB 90 .lss 88 89]
def ZI:Rg:=[iM 93 7,iM 94 9,iM 95 7,iM 96 9,iX 97 1 95 96,iL 98 97,iM 99 98,gF 100 3 1 99 false,gL 101 100 99 false,gM 102 9 99 false,iG 103 (.bIZ 3 (Tm 101) (Tm 102)) 99 false,gO 104 3 103 99 false,gK 105 54 104 99 false,gC 106 .gtr 105 0 99 false,iQ 107 99 106,iX 108 1 93 94,iS 1 108 107]
def ZJ:Rg:=[iI 10 0]
def aNW:Rg:=[iM 109 10,iM 110 3,iB 111 .lss 109 110]
def ZK:Rg:=[iM 114 7,iM 115 9,iM 116 7,iM 117 9,iX 118 1 116 117,iL 119 118,iM 120 119,gF 121 2 1 120 false,gL 122 121 120 false,gM 123 9 120 false,iG 124 (.bIZ 1 (Tm 122) (Tm 123)) 120 false,gL 125 124 120 false,gM 126 10 120 false,iG 127 (.bIZ 3 (Tm 125) (Tm 126)) 120 false,gO 128 3 127 120 false,gK 129 54 128 120 false,gC 130 .gtr 129 0 120 false,gM 131 130 120 false,gM 132 7 131 true,gM 133 10 131 true,iG 134 (.bIZ 1 (Tm 132) (Tm 133)) 131 true,gL 135 134 131 true,iG 136 (.pick (Tm 131) (Tm 135) (.const (.bool false))) 120 false,iQ 137 120 136,iX 138 1 114 115,iS 1 138 137]
def JU:Rg:=[iM 112 10,iC 113 .add 112 1,iM 10 113]
def JT:aC:=(.seq (sq aNW (.cond (Tm 111) .skip (.exit 6))) (.seq (.block 7 (.region ZK)) (.region JU)))
def ZL:Rg:=[iM 91 9,iC 92 .add 91 1,iM 9 92]
def ZD:aC:=(.seq (sq aNV (.cond (Tm 90) .skip (.exit 4))) (.seq (.block 5 (sq ZI (sq ZJ (.block 6 (.loop JT))))) (.region ZL)))
def aNX:Rg:=[iM 86 8,iC 87 .add 86 1,iM 8 87]
def ZE:aC:=(.seq (sq aNT (.cond (Tm 85) .skip (.exit 2))) (.seq (.block 3 (sq aNU (.block 4 (.loop ZD)))) (.region aNX)))
def aNY:Rg:=[iI 11 0]
def aNZ:Rg:=[iM 139 11,iM 140 3,iB 141 .lss 139 140]
def ZM:Rg:=[iM 144 7,iM 145 11,iX 146 1 144 145,iL 147 146,iA 148 (.un .not (Tm 147))]
def aOA:Rg:=[iT 2 false]
def aOB:Rg:=[iM 142 11,iC 143 .add 142 1,iM 11 143]
def ZF:aC:=(.seq (sq aNZ (.cond (Tm 141) .skip (.exit 8))) (.seq (.block 9 (sq ZM (.cond (Tm 148) (sq aOA .ret) .skip))) (.region aOB)))
def ZN:Rg:=[iT 2 true]
def RM:aC:=(sq aZO (sq aZP (.seq (sq aZQ (.cond (Tm 41) (sq wD .ret) .skip)) (.seq (sq aZR (.block 0 (.loop aZN))) (.seq (sq aNQ (dq ZG (.cond (Tm 80) (sq ZH .ret) .skip))) (sq aNR (.seq (sq aNS (.block 2 (.loop ZE))) (.seq (sq aNY (.block 8 (.loop ZF))) (sq ZN .ret)))))))))
def bqS:List Nat:=[1]
def aNP:aW:=⟨1,149,RM,[.tmp 2]⟩
def aZW:Rg:=[iT 4 false]
def aZX:Rg:=[iM 6 0,iM 7 1,iA 8 (.bJF true (Tm 7) (Ci 1)),iK2 9 75 6 8,iA 10 (.un .not (Tm 9))]
def aZY:Rg:=[iT 4 false]
def aZZ:Rg:=[iI 5 0]
def a0A:Rg:=[iM 11 5,iM 12 0,iN 13 12,iB 14 .lss 11 13]
def a0B:Rg:=[iM 17 0,iM 18 5,iX 19 3 17 18,iO 20 3 19,iK 21 54 20,iC 22 .eql 21 0]
def a0C:Rg:=[iT 4 false]
def a0D:Rg:=[iM 15 5,iC 16 .add 15 1,iM 5 16]
def aZV:aC:=(.seq (sq a0A (.cond (Tm 14) .skip (.exit 0))) (.seq (.block 1 (sq a0B (.cond (Tm 22) (sq a0C .ret) .skip))) (.region a0D)))
def a0E:Rg:=[iT 4 true]
def RN:aC:=(sq aZW (.seq (sq aZX (.cond (Tm 10) (sq aZY .ret) .skip)) (.seq (sq aZZ (.block 0 (.loop aZV))) (sq a0E .ret))))
def bqU:List Nat:=[]
def aOC:aW:=⟨2,23,RN,[.tmp 4]⟩
def KO:Rg:=[iT 6 false]
def KP:Rg:=[iM 7 0,iM 8 1,iB 9 .geq 7 8,iM 10 9,gM 11 0 10 true,gM 12 2 10 true,gB 13 .leq 11 12 10 true,iP 14 10 13,iM 6 14]
def rO:aC:=(sq KO (sq KP .ret))
def a6M:List Nat:=[]
def wE:aW:=⟨3,15,rO,[.tmp 6]⟩
def awV:Rg:=[iT 12 false]
def awW:Rg:=[iM 13 0,iC 14 .leq 13 4,iM 15 14,gM 16 1 15 true,gC 17 .leq 16 4 15 true,iP 18 15 17,iM 19 18,gM 20 2 19 true,gC 21 .leq 20 40 19 true,iP 22 19 21,iM 23 22,gM 24 3 23 true,gC 25 .leq 24 24 23 true,iP 26 23 25,iM 27 26,gM 28 4 27 true,gC 29 .leq 28 4 27 true,iP 30 27 29,iM 31 30,gM 32 5 31 true,gC 33 .leq 32 12 31 true,iP 34 31 33,iM 12 34]
def CH:aC:=(sq awV (sq awW .ret))
def bdY:List Nat:=[]
def RP:aW:=⟨6,35,CH,[.tmp 12]⟩
def VV:Rg:=[iA 7 (.box true (Tm 3)),iT 8 false]
def VW:Rg:=[iM 10 0,iM 11 1,iK2 12 61 10 11,iA 13 (.un .not (Tm 12)),iM 14 13,gM 15 2 14 false,gM 16 0 14 false,gM 17 0 14 false,gM 18 1 14 false,gB 19 .add 17 18 14 false,iG 20 (.call 76 [(Tm 15),(Tm 16),(Tm 19)]) 14 false,iG 21 (.un .not (Tm 20)) 14 false,iQ 22 14 21,iM 23 22,iG 24 (.idxA 5 1 (Tm 7) (Ci 0)) 23 false,gL 25 24 23 false,gC 26 .neq 25 0 23 false,iQ 27 23 26]
def sW:Rg:=[iT 8 false]
def VX:Rg:=[iI 9 1]
def VY:Rg:=[iM 28 9,iC 29 .lss 28 5]
def CG:Rg:=[iM 32 9,iA 33 (.idxA 5 1 (Tm 7) (Tm 32)),iL 34 33,iA 35 (.call 76 [(Tm 34),(Ci 0),(Ci 8)]),iA 36 (.un .not (Tm 35))]
def VZ:Rg:=[iT 8 false]
def WA:Rg:=[iM 30 9,iC 31 .add 30 1,iM 9 31]
def VU:aC:=(.seq (sq VY (.cond (Tm 29) .skip (.exit 0))) (.seq (.block 1 (sq CG (.cond (Tm 36) (sq VZ .ret) .skip))) (.region WA)))
def WB:Rg:=[iT 8 true]
def uE:aC:=(sq VV (.seq (sq VW (.cond (Tm 27) (sq sW .ret) .skip)) (.seq (sq VX (.block 0 (.loop VU))) (sq WB .ret))))
def aPX:List Nat:=[7]
def xW:aW:=⟨4,37,uE,[.tmp 8]⟩
def aZL:Rg:=[iA 6 (.box true (Tm 2)),iA 7 (.box true (Tm 3)),iT 8 false]
def aZM:Rd:=[(iM 9 1,false),(iM 10 0,false),(iK2 11 66 9 10,true),(iM 12 11,false),(gO 13 3 6 12 true,false),(gK 14 74 13 12 true,true),(iP 15 12 14,false),(iM 16 15,false),(iG 17 (.call 47 [(Ci 1)]) 16 true,true),(gO 18 3 6 16 true,true),(gK2 19 49 17 18 16 true,true),(iG 20 (.un .not (Tm 19)) 16 true,false),(iP 21 16 20,false),(iM 22 21,false),(gO 23 3 7 22 true,false),(gK 24 74 23 22 true,true),(iP 25 22 24,false),(iM 8 25,false)]
def RI:aC:=(sq aZL (dq aZM .ret))
def bqQ:List Nat:=[6,7]
def aNN:aW:=⟨4,26,RI,[.tmp 8]⟩
def awP:Rg:=[iI 4 0]
def awQ:Rg:=[iI 5 0]
def awR:Rg:=[iM 6 5,iM 7 0,iN 8 7,iB 9 .lss 6 8]
def RL:Rg:=[iM 12 0,iM 13 5,iX 14 1 12 13,iL 15 14,iM 16 1,iB 17 .eql 15 16]
def awS:Rg:=[iM 18 5,iM 4 18]
def awT:Rg:=[iM 10 5,iC 11 .add 10 1,iM 5 11]
def awO:aC:=(.seq (sq awR (.cond (Tm 9) .skip (.exit 0))) (.seq (.block 1 (sq RL (.cond (Tm 17) (sq awS .ret) .skip))) (.region awT)))
def awU:Rg:=[iI 4 (-1)]
def CF:aC:=(sq awP (.seq (sq awQ (.block 0 (.loop awO))) (sq awU .ret)))
def bdV:List Nat:=[]
def RK:aW:=⟨2,19,CF,[.tmp 4]⟩
def awZ:Rg:=[iA 1 (.box true (Tm 0)),iT 2 false]
def axA:Rg:=[iF 22 0 1,iL 23 22,iA 24 (.call 76 [(Tm 23),(Ci 1),(Ci 4)]),iA 25 (.un .not (Tm 24)),iM 26 25,gF 27 1 1 26 false,gL 28 27 26 false,gN 29 28 26 false,gF 30 2 1 26 false,gL 31 30 26 false,gN 32 31 26 false,gF 33 3 1 26 false,gL 34 33 26 false,gN 35 34 26 false,gF 36 4 1 26 false,gL 37 36 26 false,gN 38 37 26 false,gF 39 5 1 26 false,gL 40 39 26 false,gN 41 40 26 false,gF 42 6 1 26 false,gL 43 42 26 false,gN 44 43 26 false,iG 45 (.call 73 [(Tm 29),(Tm 32),(Tm 35),(Tm 38),(Tm 41),(Tm 44)]) 26 false,iG 46 (.un .not (Tm 45)) 26 false,iQ 47 26 46,iM 48 47,gF 49 3 1 48 false,gL 50 49 48 false,gN 51 50 48 false,gC 52 .eql 51 0 48 false,iQ 53 48 52]
def zK:Rg:=[iT 2 false]
def axB:Rg:=[iZ 3,iZ 4,iZ 5,iZ 6,iZ 7]
def axC:Rg:=[iT 8 true]
def axD:Rg:=[iI 9 0]
def axE:Rg:=[iM 54 9,iF 55 1 1,iL 56 55,iN 57 56,iB 58 .lss 54 57,iM 59 58,gM 60 8 59 true,iP 61 59 60]
def axF:Rg:=[iM 65 3,iF 66 1 1,iL 67 66,iM 68 9,iX 69 4 67 68,iF 70 0 69,iL 71 70,iK2 72 70 65 71,iM 64 72,iE 73 64 0,iE 74 64 1,iM 3 73,iM 8 74]
def RS:Rg:=[iM 75 8,iM 76 75,gF 77 1 1 76 true,gL 78 77 76 true,gM 79 9 76 true,iG 80 (.bIZ 4 (Tm 78) (Tm 79)) 76 true,gO 81 4 80 76 true,gK 82 68 81 76 true,iP 83 76 82,iM 8 83]
def RT:Rg:=[iM 62 9,iC 63 .add 62 1,iM 9 63]
def JV:aC:=(.seq (sq axE (.cond (Tm 61) .skip (.exit 0))) (.seq (.block 1 (sq axF (.region RS))) (.region RT)))
def ajV:Rg:=[iI 10 0]
def ajW:Rg:=[iM 84 10,iF 85 2 1,iL 86 85,iN 87 86,iB 88 .lss 84 87,iM 89 88,gM 90 8 89 true,iP 91 89 90]
def ajX:Rg:=[iF 94 2 1,iL 95 94,iM 96 10,iX 97 4 95 96,iO 98 4 97,iA 11 (.alloc [(.str []),(.int .i64 0),(.int .i64 0),(.int .i64 0)]),iS 4 11 98]
def ajY:Rg:=[iM 100 4,iF 101 0 11,iL 102 101,iK2 103 70 100 102,iM 99 103,iE 104 99 0,iE 105 99 1,iM 4 104,iM 8 105]
def JY:Rg:=[iM 106 8,iM 107 106,gF 108 1 11 107 true,gL 109 108 107 true,iG 110 (.call 76 [(Tm 109),(Ci 1),(Ci 16)]) 107 true,iP 111 107 110,iM 112 111,gF 113 2 11 112 true,gL 114 113 112 true,iG 115 (.call 76 [(Tm 114),(Ci 1),(Ci 64)]) 112 true,iP 116 112 115,iM 117 116,gF 118 3 11 117 true,gL 119 118 117 true,gF 120 1 1 117 true,gL 121 120 117 true,gN 122 121 117 true,gC 123 .sub 122 1 117 true,iG 124 (.call 76 [(Tm 119),(Ci 0),(Tm 123)]) 117 true,iP 125 117 124,iM 8 125]
def rL:Rg:=[iM 92 10,iC 93 .add 92 1,iM 10 93]
def JW:aC:=(.seq (sq ajW (.cond (Tm 91) .skip (.exit 2))) (.seq (.block 3 (sq ajX (sq ajY (.region JY)))) (.region rL)))
def ajZ:Rg:=[iF 126 3 1,iL 127 126,iA 128 (.bIZ 7 (Tm 127) (Ci 0)),iO 129 7 128,iA 12 (.alloc [(.str []),(.int .i64 0),(.int .i64 0),(.int .i64 0),(.bool false),.aB,.aB]),iS 7 12 129]
def JZ:Rg:=[iM 130 8,iM 131 130,gF 132 0 12 131 true,gL 133 132 131 true,iG 134 (.bin .eql (Tm 133) (.const (.str []))) 131 true,iP 135 131 134,iM 136 135,gF 137 1 12 136 true,gL 138 137 136 true,gC 139 .eql 138 0 136 true,iP 140 136 139,iM 141 140,gF 142 2 12 141 true,gL 143 142 141 true,gC 144 .eql 143 (-1) 141 true,iP 145 141 144,iM 146 145,gF 147 3 12 146 true,gL 148 147 146 true,gC 149 .eql 148 0 146 true,iP 150 146 149,iM 151 150,gF 152 4 12 151 true,gO 153 3 152 151 true,gK 154 56 153 151 true,iP 155 151 154,iM 156 155,gF 157 4 12 156 true,gO 158 3 157 156 true,gK 159 54 158 156 true,gC 160 .eql 159 0 156 true,iP 161 156 160,iM 8 161]
def KB:Rg:=[iI 13 1]
def akA:Rg:=[iM 162 13,iF 163 3 1,iL 164 163,iN 165 164,iB 166 .lss 162 165,iM 167 166,gM 168 8 167 true,iP 169 167 168]
def akB:Rg:=[iF 172 3 1,iL 173 172,iM 174 13,iX 175 7 173 174,iO 176 7 175,iA 14 (.alloc [(.str []),(.int .i64 0),(.int .i64 0),(.int .i64 0),(.bool false),.aB,.aB]),iS 7 14 176]
def akC:Rg:=[iM 178 5,iF 179 0 14,iL 180 179,iK2 181 70 178 180,iM 177 181,iE 182 177 0,iE 183 177 1,iM 5 182,iM 8 183]
def KC:Rd:=[(iM 184 8,false),(iM 185 184,false),(gF 186 1 14 185 true,false),(gL 187 186 185 true,false),(iG 188 (.call 76 [(Tm 187),(Ci 1),(Ci 4)]) 185 true,true),(iP 189 185 188,false),(iM 190 189,false),(gF 191 2 14 190 true,false),(gL 192 191 190 true,false),(gM 193 13 190 true,false),(gC 194 .sub 193 1 190 true,false),(iG 195 (.call 76 [(Tm 192),(Ci 0),(Tm 194)]) 190 true,true),(iP 196 190 195,false),(iM 197 196,false),(gF 198 3 1 197 true,false),(gL 199 198 197 true,false),(gF 200 2 14 197 true,false),(gL 201 200 197 true,false),(iG 202 (.bIZ 7 (Tm 199) (Tm 201)) 197 true,false),(gF 203 1 202 197 true,false),(gL 204 203 197 true,false),(gF 205 1 14 197 true,false),(gL 206 205 197 true,false),(gC 207 .sub 206 1 197 true,false),(gB 208 .eql 204 207 197 true,false),(iP 209 197 208,false),(iM 210 209,false),(gF 211 3 14 210 true,false),(gL 212 211 210 true,false),(iG 213 (.call 76 [(Tm 212),(Ci 1),(Ci 64)]) 210 true,true),(iP 214 210 213,false),(iM 215 214,false),(gF 216 4 14 215 true,false),(gO 217 3 216 215 true,false),(gK 218 74 217 215 true,true),(iP 219 215 218,false),(iM 8 219,false)]
def mG:Rg:=[iM 170 13,iC 171 .add 170 1,iM 13 171]
def vH:aC:=(.seq (sq akA (.cond (Tm 169) .skip (.exit 4))) (.seq (.block 5 (sq akB (sq akC (.draw KC)))) (.region mG)))
def KD:Rg:=[iI 15 0]
def akD:Rg:=[iM 220 15,iF 221 4 1,iL 222 221,iN 223 222,iB 224 .lss 220 223,iM 225 224,gM 226 8 225 true,iP 227 225 226]
def akE:Rg:=[iF 230 4 1,iL 231 230,iM 232 15,iX 233 3 231 232,iO 234 3 233,iA 16 (.alloc [(.str []),(.int .i64 0),(.int .i64 0)]),iS 3 16 234]
def akF:Rg:=[iM 236 5,iF 237 0 16,iL 238 237,iK2 239 70 236 238,iM 235 239,iE 240 235 0,iE 241 235 1,iM 5 240,iM 8 241]
def KE:Rg:=[iM 242 8,iM 243 242,gF 244 1 16 243 true,gL 245 244 243 true,gF 246 2 1 243 true,gL 247 246 243 true,gN 248 247 243 true,gC 249 .sub 248 1 243 true,iG 250 (.call 76 [(Tm 245),(Ci 0),(Tm 249)]) 243 true,iP 251 243 250,iM 252 251,gF 253 2 16 252 true,gL 254 253 252 true,gF 255 3 1 252 true,gL 256 255 252 true,gN 257 256 252 true,gC 258 .sub 257 1 252 true,iG 259 (.call 76 [(Tm 254),(Ci 0),(Tm 258)]) 252 true,iP 260 252 259,iM 261 260,gF 262 3 1 261 true,gL 263 262 261 true,gF 264 2 16 261 true,gL 265 264 261 true,iG 266 (.bIZ 7 (Tm 263) (Tm 265)) 261 true,gF 267 1 266 261 true,gL 268 267 261 true,gC 269 .eql 268 4 261 true,iP 270 261 269,iM 8 270]
def rM:Rg:=[iM 228 15,iC 229 .add 228 1,iM 15 229]
def vI:aC:=(.seq (sq akD (.cond (Tm 227) .skip (.exit 6))) (.seq (.block 7 (sq akE (sq akF (.region KE)))) (.region rM)))
def KF:Rg:=[iI 17 0]
def akG:Rg:=[iM 271 17,iF 272 5 1,iL 273 272,iN 274 273,iB 275 .lss 271 274,iM 276 275,gM 277 8 276 true,iP 278 276 277]
def akH:Rg:=[iF 281 5 1,iL 282 281,iM 283 17,iX 284 17 282 283,iO 285 17 284,iA 18 (.alloc [(.str []),(.int .i64 0),(.int .i64 0),(.int .i64 0),(.int .i64 0),(.int .i64 0),(.int .i64 0),(.int .i64 0),(.int .i64 0),.aB,.aB,(.bool false),.aB,.aB,(.bool false),.aB,.aB]),iS 17 18 285]
def akI:Rg:=[iM 287 6,iF 288 0 18,iL 289 288,iK2 290 70 287 289,iM 286 290,iE 291 286 0,iE 292 286 1,iM 6 291,iM 8 292]
def KG:Rg:=[iM 293 8,iM 294 293,gF 295 1 18 294 true,gL 296 295 294 true,gF 297 2 18 294 true,gL 298 297 294 true,gF 299 3 18 294 true,gL 300 299 294 true,gF 301 4 18 294 true,gO 302 5 301 294 true,iG 303 (.call 72 [(Tm 296),(Tm 298),(Tm 300),(Tm 302)]) 294 true,iP 304 294 303,iM 305 304,gF 306 2 18 305 true,gL 307 306 305 true,gF 308 10 18 305 true,gL 309 308 305 true,gF 310 11 18 305 true,gO 311 3 310 305 true,gF 312 14 18 305 true,gO 313 3 312 305 true,iG 314 (.call 69 [(Tm 307),(Tm 309),(Tm 311),(Tm 313)]) 305 true,iP 315 305 314,iM 316 315,gF 317 9 18 316 true,gL 318 317 316 true,gN 319 318 316 true,gC 320 .gtr 319 0 316 true,iP 321 316 320,iM 8 321]
def rN:Rg:=[iI 19 0]
def akJ:Rg:=[iM 322 19,iF 323 9 18,iL 324 323,iN 325 324,iB 326 .lss 322 325,iM 327 326,gM 328 8 327 true,iP 329 327 328]
def akK:Rd:=[(iF 332 9 18,false),(iL 333 332,false),(iM 334 19,false),(iX 335 1 333 334,false),(iL 336 335,false),(iF 337 2 1,false),(iL 338 337,false),(iN 339 338,false),(iC 340 .sub 339 1,false),(iA 341 (.call 76 [(Tm 336),(Ci 0),(Tm 340)]),true),(iM 8 341,false)]
def akL:Rg:=[iI 20 0]
def akM:Rg:=[iM 342 20,iM 343 19,iB 344 .lss 342 343]
def KH:Rd:=[(iM 347 8,false),(iM 348 347,false),(gF 349 9 18 348 true,false),(gL 350 349 348 true,false),(gM 351 20 348 true,false),(iG 352 (.bIZ 1 (Tm 350) (Tm 351)) 348 true,false),(gL 353 352 348 true,false),(gF 354 9 18 348 true,false),(gL 355 354 348 true,false),(gM 356 19 348 true,false),(iG 357 (.bIZ 1 (Tm 355) (Tm 356)) 348 true,false),(gL 358 357 348 true,false),(gB 359 .neq 353 358 348 true,false),(iP 360 348 359,false),(iM 8 360,false)]
def KI:Rg:=[iM 345 20,iC 346 .add 345 1,iM 20 346]
def JX:aC:=(.seq (sq akM (.cond (Tm 344) .skip (.exit 12))) (.seq (.block 13 (.draw KH)) (.region KI)))
def akN:Rg:=[iM 330 19,iC 331 .add 330 1,iM 19 331]
def vJ:aC:=(.seq (sq akJ (.cond (Tm 329) .skip (.exit 10))) (.seq (.block 11 (dq akK (sq akL (.block 12 (.loop JX))))) (.region akN)))
def KJ:Rg:=[iM 279 17,iC 280 .add 279 1,iM 17 280]
def vK:aC:=(.seq (sq akG (.cond (Tm 278) .skip (.exit 8))) (.seq (.block 9 (sq akH (sq akI (sq KG (sq rN (.block 10 (.loop vJ))))))) (.region KJ)))
def KK:Rg:=[iI 21 0]
def akO:Rg:=[iM 361 21,iF 362 6 1,iL 363 362,iN 364 363,iB 365 .lss 361 364,iM 366 365,gM 367 8 366 true,iP 368 366 367]
def akP:Rg:=[iM 372 7,iF 373 6 1,iL 374 373,iM 375 21,iX 376 2 374 375,iF 377 0 376,iL 378 377,iK2 379 70 372 378,iM 371 379,iE 380 371 0,iE 381 371 1,iM 7 380,iM 8 381]
def KL:Rd:=[(iM 382 8,false),(iM 383 382,false),(gF 384 6 1 383 true,false),(gL 385 384 383 true,false),(gM 386 21 383 true,false),(iG 387 (.bIZ 2 (Tm 385) (Tm 386)) 383 true,false),(gF 388 1 387 383 true,false),(gL 389 388 383 true,false),(gF 390 5 1 383 true,false),(gL 391 390 383 true,false),(gN 392 391 383 true,false),(gC 393 .sub 392 1 383 true,false),(iG 394 (.call 76 [(Tm 389),(Ci 0),(Tm 393)]) 383 true,true),(iP 395 383 394,false),(iM 8 395,false)]
def KM:Rg:=[iM 369 21,iC 370 .add 369 1,iM 21 370]
def vL:aC:=(.seq (sq akO (.cond (Tm 368) .skip (.exit 14))) (.seq (.block 15 (sq akP (.draw KL))) (.region KM)))
def KN:Rg:=[iM 396 8,iM 2 396]
def CJ:aC:=(sq awZ (.seq (sq axA (.cond (Tm 53) (sq zK .ret) .skip)) (sq axB (sq axC (.seq (sq axD (.block 0 (.loop JV))) (.seq (sq ajV (.block 2 (.loop JW))) (sq ajZ (sq JZ (.seq (sq KB (.block 4 (.loop vH))) (.seq (sq KD (.block 6 (.loop vI))) (.seq (sq KF (.block 8 (.loop vK))) (.seq (sq KK (.block 14 (.loop vL))) (sq KN .ret)))))))))))))
def beE:List Nat:=[1]
def RR:aW:=⟨1,397,CJ,[.tmp 2]⟩
def awM:Rg:=[iZ 4,iT 5 false]
def awN:Rg:=[iM 6 0,iM 7 1,iA 8 (.bIK true 1 1 [(.str [])] [(0,(Tm 7))]),iA 9 (.append 1 16 (Tm 6) (Tm 8)),iM 10 1,iK 11 62 10,iM 12 11,gM 13 0 12 true,gM 14 1 12 true,gK2 15 71 13 14 12 true,gC 16 .lss 15 0 12 true,iP 17 12 16,iM 4 9,iM 5 17]
def CE:aC:=(sq awM (sq awN .ret))
def bdT:List Nat:=[8]
def RJ:aW:=⟨2,18,CE,[.tmp 4,.tmp 5]⟩
structure ZW (C:Ctx):Prop where
 val:∀ f:aH,f.Ok→aE C 96 [.agg f.cells] .nil (aD (.int .i64 (pQ f)))
 valid:∀ f:aH,f.Ok→aE C 67 [.agg f.cells] .nil (aD (.bool (dM f)))
 shaped:∀ (f:aH) (l:List (List Int)),f.Ok→eX l→aE C 153 [.agg f.cells,lay l] .nil (aD (.bool (gS f l)))
 rshaped:∀ (f:aH) (l:List (List Int)),f.Ok→eX l→aE C 86 [.agg f.cells,lay l] .nil (aD (.bool (gS f l)))
theorem aOD {C:Ctx} (Lb:ZW C) (f:aH) (hf:f.Ok):sJ.wp C (aT tV.res (aD (.int .i64 (pQ f)))) (PF.args [.agg f.cells]) .nil:=by
 simp only[go_sem,γ,δ,ε,ζ,η,θ,ι,κ,μ,ν,ξ,ο,ρ,σ,τ,υ,reduceIte,reduceCtorEq,sJ,RU,RV,tV]
 refine aA (Lb.valid f hf) Ev ?_
 unfold pQ
 cases dM f with
 | true =>
  simp only[go_sem,γ,δ,ε,ζ,η,θ,ι,κ,μ,ν,ξ,ο,ρ,σ,τ,υ,reduceIte,reduceCtorEq,bKR,RX]
  refine aL (.inr rfl) Ev ?_
  rfl
 | false =>
  simp only[go_sem,γ,δ,ε,ζ,η,θ,ι,κ,μ,ν,ξ,ο,ρ,σ,τ,υ,reduceIte,reduceCtorEq,bKW,RW]
  refine aL (.inr rfl) Ev ?_
  rfl
theorem aeT {C:Ctx} (Lb:ZW C) (f:aH) (hf:f.Ok) (now:List (List Int)) (hl:eX now) (r:Int):xC.wp C (aT DH.res (aD (.bool (dQ f now r)))) (PF.args [.agg f.cells,lay now,.int .i64 r]) .nil:=by
 have hU:dQ f now r=((dM f&&gS f now)&&(decide (0≤r)&&decide (r≤4))):=rfl
 have hsh:=Lb.shaped f now hf hl
 have hvl:=Lb.val f hf
 unfold pQ at hvl
 simp only[go_sem,γ,δ,ε,ζ,η,θ,ι,κ,μ,ν,ξ,ο,ρ,σ,τ,υ,reduceIte,reduceCtorEq,xC,aeU,aeV,DH]
 refine aA hvl Ev ?_
 cases hv:dM f with
 | false =>
  rw[hv] at hU
  simp only[go_sem,γ,δ,ε,ζ,η,θ,ι,κ,μ,ν,ξ,ο,ρ,σ,τ,υ,reduceIte,reduceCtorEq]
  refine aL (.inr rfl) Ev ?_
  rw[aV,hU]; rfl
 | true =>
  rw[hv] at hU
  simp only[go_sem,γ,δ,ε,ζ,η,θ,ι,κ,μ,ν,ξ,ο,ρ,σ,τ,υ,reduceIte,reduceCtorEq]
  refine aA hsh Ev ?_
  cases hs:gS f now with
  | false =>
   rw[hs] at hU
   simp only[go_sem,γ,δ,ε,ζ,η,θ,ι,κ,μ,ν,ξ,ο,ρ,σ,τ,υ,reduceIte,reduceCtorEq]
   refine aL (.inr rfl) Ev ?_
   rw[aV,hU]; rfl
  | true =>
   rw[hs,bKS,bKS] at hU
   by_cases c:0≤r
   ·rw[decide_eq_true c,bKS] at hU
    simp only[go_sem,γ,δ,ε,ζ,η,θ,ι,κ,μ,ν,ξ,ο,ρ,σ,τ,υ,reduceIte,reduceCtorEq,show r≥0 by omega]
    refine aL (.inr rfl) Ev ?_
    rw[aV,hU]
   ·rw[decide_eq_false c,bKO] at hU
    simp only[go_sem,γ,δ,ε,ζ,η,θ,ι,κ,μ,ν,ξ,ο,ρ,σ,τ,υ,reduceIte,reduceCtorEq,show ¬ r≥0 by omega]
    refine aL (.inr rfl) Ev ?_
    rw[aV,hU]
theorem a3K {C:Ctx} (Lb:ZW C) (hz:∀ f:aH,f.Ok→aE C 258 [.agg f.cells] .nil (aD (.int .i64 (pQ f)))) (f:aH) (hf:f.Ok) (now:List (List Int)) (hl:eX now) (r:Int):xE.wp C (aT DI.res (aD (.bool (dQ f now r)))) (PF.args [.agg f.cells,lay now,.int .i64 r]) .nil:=by
 have hU:dQ f now r=((dM f&&gS f now)&&(decide (0≤r)&&decide (r≤4))):=rfl
 have hsh:=Lb.rshaped f now hf hl
 have hvl:=hz f hf
 unfold pQ at hvl
 simp only[go_sem,γ,δ,ε,ζ,η,θ,ι,κ,μ,ν,ξ,ο,ρ,σ,τ,υ,reduceIte,reduceCtorEq,xE,aeX,aeY,DI]
 by_cases c:0≤r
 ·by_cases c4:r≤4
  ·rw[decide_eq_true c,decide_eq_true c4] at hU
   simp only[go_sem,γ,δ,ε,ζ,η,θ,ι,κ,μ,ν,ξ,ο,ρ,σ,τ,υ,reduceIte,reduceCtorEq,show r≥0 by omega,c4]
   refine aA hvl Ev ?_
   cases hv:dM f with
   | false =>
    rw[hv] at hU
    simp only[go_sem,γ,δ,ε,ζ,η,θ,ι,κ,μ,ν,ξ,ο,ρ,σ,τ,υ,reduceIte,reduceCtorEq]
    refine aL (.inr rfl) Ev ?_
    rw[aV,hU]; rfl
   | true =>
    rw[hv] at hU
    simp only[go_sem,γ,δ,ε,ζ,η,θ,ι,κ,μ,ν,ξ,ο,ρ,σ,τ,υ,reduceIte,reduceCtorEq]
    refine aA hsh Ev ?_
    simp only[go_sem,γ,δ,ε,ζ,η,θ,ι,κ,μ,ν,ξ,ο,ρ,σ,τ,υ,reduceIte,reduceCtorEq]
    refine aL (.inr rfl) Ev ?_
    rw[aV,hU]
    cases gS f now<;>rfl
  ·rw[decide_eq_false c4,bLQ,bLQ] at hU
   simp only[go_sem,γ,δ,ε,ζ,η,θ,ι,κ,μ,ν,ξ,ο,ρ,σ,τ,υ,reduceIte,reduceCtorEq,show r≥0 by omega,c4]
   refine aL (.inr rfl) Ev ?_
   rw[aV,hU]
 ·rw[decide_eq_false c,bKO,bLQ] at hU
  simp only[go_sem,γ,δ,ε,ζ,η,θ,ι,κ,μ,ν,ξ,ο,ρ,σ,τ,υ,reduceIte,reduceCtorEq,show ¬ r≥0 by omega]
  refine aL (.inr rfl) Ev ?_
  rw[aV,hU]
theorem bwJ {C:Ctx} (f:aH) (hV:VF f) (v:Nat) (h:v<f.bIG.length):amR.wp C (aT qk.res (aD (.int .i64 (dB f v).k))) (PF.args [.agg f.cells,.int .i64 v]) .nil:=by
 obtain⟨hp,he⟩:=nH hV h
 simp only[go_sem,γ,δ,ε,ζ,η,θ,ι,κ,μ,ν,ξ,ο,ρ,σ,τ,υ,reduceIte,reduceCtorEq,amR,blB,qk]
 refine bS .nil eC PH.nil_le ?_
 simp only[go_sem,γ,δ,ε,ζ,η,θ,ι,κ,μ,ν,ξ,ο,ρ,σ,τ,υ,reduceIte,reduceCtorEq,blC,rI h,hV.OW h,mN hp,he]
 refine aL (.inr rfl) Ev ?_
 rfl
structure a6P (C:Ctx):Prop where
 has:∀ (l:List Int) (x:Int),l.length≤1000000000000000→aE C 254 [ints l,.int .i64 x] .nil (aD (.bool (l.contains x)))
 k:∀ (f:aH) (v:Nat),VF f→v<f.bIG.length→aE C 257 [.agg f.cells,.int .i64 v] .nil (aD (.int .i64 (dB f v).k))
theorem bhQ {C:Ctx} (Lb:a6P C) (f:aH) (hV:VF f) (now:List (List Int)) (hl:eX now) (hlen:now.length=f.bIG.length) (r:Int) (h0:0≤r) (h4:r≤4) (down:List Int) (hd:down.length≤1000000000000000) :
  HV.wp C (aT aeW.res (aD (.bool (eY f now r down)))) (PF.args [.agg f.cells,lay now,.int .i64 r,ints down]) .nil:=by
 have bIR:=hl.rows
 simp only[go_sem,γ,δ,ε,ζ,η,θ,ι,κ,μ,ν,ξ,ο,ρ,σ,τ,υ,reduceIte,reduceCtorEq,HV,aIK,aIL,aeW]
 refine wp_loop (α:=Nat) (fun v=>(((((PF.nil.set 1 (lay now)).set 2 (.int .i64 r)).set 3 (ints down)).set 4 (.bH f.cells)).set 9 (.int .i64 v))) (fun _=>.nil) (fun v=>v≤now.length∧uP f now r down v=true) (fun v=>now.length-v) 0 ⟨bKT _,rfl⟩ Lq PH.nil_le ?_
 rintro v ⟨hv,hok⟩
 simp only[go_sem,γ,δ,ε,ζ,η,θ,ι,κ,μ,ν,ξ,ο,ρ,σ,τ,υ,reduceIte,reduceCtorEq,asE,aIM,bKI]
 by_cases hlt:v<now.length
 ·have bIL:(v:Int)<(now.length:Nat):=by omega
  have hat:(now.map fun r=>[ints r])[v]?=some [ints now[v]]:=by simp[hlt]
  have hgd:now.getD v []=now[v]:=by simp[bLC,hlt]
  have hrl:(now[v]).length≤16777216:=by
   have h1:=hl.all
   have h2:(now[v]).length≤now.flatten.length:=(List.sublist_flatten_of_mem (bKM hlt)).length_le
   omega
  obtain⟨hp,he⟩:=nH hV (Om:v<f.bIG.length)
  have hpol:=hV.bIS _ (bKM hp)
  rw[he] at hpol
  have hw:IntKind.i64.wrap ((dB f v).k+r)=(dB f v).k+r:=wrap_i64 Om Om
  have bJA:=abY f now r down v
  rw[hok,bKS,hgd] at bJA
  have hno:=fun (h:tM f r down v now[v]=true)=>aAV (f:=f) (now:=now) (reserve:=r) (down:=down) hlt (by rw[hgd]; exact h)
  generalize now[v]=row at *
  simp only[go_sem,γ,δ,ε,ζ,η,θ,ι,κ,μ,ν,ξ,ο,ρ,σ,τ,υ,reduceIte,reduceCtorEq,bIL,aIN,aIO]
  refine wp_loop (α:=Nat) (fun k=>((((((((PF.nil.set 1 (lay now)).set 2 (.int .i64 r)).set 3 (ints down)).set 4 (.bH f.cells)).set 9 (.int .i64 v)).set 10 (.bool (rX down (row.take k)))).set 11 (.int .i64 (fY down (row.take k):Nat))).set 12 (.int .i64 k))) (fun _=>.nil) (fun k=>k≤row.length) (fun k=>row.length-k) 0 (bKT _) (by (repeat' (first|exact PF.nil_le|refine PF.aK ?_ ?_))<;>first|(simp only[go_sem,γ,δ,ε,ζ,η,θ,ι,κ,μ,ν,ξ,ο,ρ,σ,τ,υ,reduceIte,reduceCtorEq,List.take_zero,rX,fY,List.any_nil,List.countP_nil]<;>rfl)|rfl) PH.nil_le ?_
  intro k hk
  have hol:fY down (row.take k)≤row.length:=bNF List.countP_le_length (by rw[bLB]; omega)
  simp only[go_sem,γ,δ,ε,ζ,η,θ,ι,κ,μ,ν,ξ,ο,ρ,σ,τ,υ,reduceIte,reduceCtorEq,asD,aIP,hat,bKI]
  by_cases hkl:k<row.length
  ·have hkl':(k:Int)<(row.length:Nat):=by omega
   have hra:(row.map fun n=>[PV.int .i64 n])[k]?=some [.int .i64 row[k]]:=by simp[hkl]
   have hs1:=apR (down:=down) hkl
   have hs2:=UV (down:=down) hkl
   by_cases c:row[k]<0
   ·have d1:iW down row[k]=false:=by unfold iW; rw[decide_eq_false Om]; rfl
    have d2:lW down row[k]=false:=by unfold lW; rw[decide_eq_false Om]; rfl
    rw[d1,Bool.or_false] at hs1
    rw[d2,if_neg (by simp),bMB] at hs2
    simp only[go_sem,γ,δ,ε,ζ,η,θ,ι,κ,μ,ν,ξ,ο,ρ,σ,τ,υ,reduceIte,reduceCtorEq,hkl',YN,hat,hra,c,yS,wZz k]
    exact aI (k+1) hkl Om (by (repeat' (first|exact PF.nil_le|refine PF.aK ?_ ?_))<;>first|(simp only[go_sem,γ,δ,ε,ζ,η,θ,ι,κ,μ,ν,ξ,ο,ρ,σ,τ,υ,reduceIte,reduceCtorEq,hs1,hs2]<;>rfl)|rfl) PH.le_refl
   ·simp only[go_sem,γ,δ,ε,ζ,η,θ,ι,κ,μ,ν,ξ,ο,ρ,σ,τ,υ,reduceIte,reduceCtorEq,hkl',YN,hat,hra,c,aIQ]
    refine aA (Lb.has down row[k] hd) Ev ?_
    cases hc:down.contains row[k] with
    | true =>
     have d1:iW down row[k]=true:=by unfold iW; rw[decide_eq_true Om,hc]; rfl
     have d2:lW down row[k]=false:=by unfold lW; rw[hc]; simp
     rw[d1,Bool.or_true] at hs1
     rw[d2,if_neg (by simp),bMB] at hs2
     simp only[go_sem,γ,δ,ε,ζ,η,θ,ι,κ,μ,ν,ξ,ο,ρ,σ,τ,υ,reduceIte,reduceCtorEq,aIR,yS,wZz k]
     exact aI (k+1) hkl Om (by (repeat' (first|exact PF.nil_le|refine PF.aK ?_ ?_))<;>first|(simp only[go_sem,γ,δ,ε,ζ,η,θ,ι,κ,μ,ν,ξ,ο,ρ,σ,τ,υ,reduceIte,reduceCtorEq,hs1,hs2]<;>rfl)|rfl) PH.le_refl
    | false =>
     have d1:iW down row[k]=false:=by unfold iW; rw[hc]; simp
     have d2:lW down row[k]=true:=by unfold lW; rw[decide_eq_true Om,hc]; rfl
     rw[d1,Bool.or_false] at hs1
     rw[d2,if_pos rfl] at hs2
     simp only[go_sem,γ,δ,ε,ζ,η,θ,ι,κ,μ,ν,ξ,ο,ρ,σ,τ,υ,reduceIte,reduceCtorEq,aIS,dC (Om:fY down (row.take k)<9223372036854775807),yS,wZz k]
     exact aI (k+1) hkl Om (by (repeat' (first|exact PF.nil_le|refine PF.aK ?_ ?_))<;>first|(simp only[go_sem,γ,δ,ε,ζ,η,θ,ι,κ,μ,ν,ξ,ο,ρ,σ,τ,υ,reduceIte,reduceCtorEq,hs1,hs2]<;>rfl)|rfl) PH.le_refl
  ·have hkl':¬ (k:Int)<(row.length:Nat):=by omega
   have:k=row.length:=by omega
   subst this
   rw[bLG] at hol
   simp only[go_sem,γ,δ,ε,ζ,η,θ,ι,κ,μ,ν,ξ,ο,ρ,σ,τ,υ,reduceIte,reduceCtorEq,hkl',bLG,asF]
   have hsh:tM f r down v row=(rX down row&&decide (((fY down row:Nat):Int)<(dB f v).k+r)):=rfl
   cases hh:rX down row with
   | false =>
    rw[hh,bKO] at hsh
    rw[hsh] at bJA
    simp only[go_sem,γ,δ,ε,ζ,η,θ,ι,κ,μ,ν,ξ,ο,ρ,σ,τ,υ,reduceIte,reduceCtorEq,hh,OY,wZz v]
    exact aI (v+1) ⟨hlt,bJA⟩ Om Lq PH.nil_le
   | true =>
    rw[hh,bKS] at hsh
    simp only[go_sem,γ,δ,ε,ζ,η,θ,ι,κ,μ,ν,ξ,ο,ρ,σ,τ,υ,reduceIte,reduceCtorEq,hh]
    refine aA (Lb.k f v hV Om) Ev ?_
    by_cases c:((fY down row:Nat):Int)<(dB f v).k+r
    ·rw[decide_eq_true c] at hsh
     simp only[go_sem,γ,δ,ε,ζ,η,θ,ι,κ,μ,ν,ξ,ο,ρ,σ,τ,υ,reduceIte,reduceCtorEq,hw,c,asG]
     refine aL (.inr rfl) Ev ?_
     rw[aV]
     exact congrArg PV.bool (hno hsh).symm
    ·rw[decide_eq_false c] at hsh
     rw[hsh] at bJA
     simp only[go_sem,γ,δ,ε,ζ,η,θ,ι,κ,μ,ν,ξ,ο,ρ,σ,τ,υ,reduceIte,reduceCtorEq,hw,c,OY,wZz v]
     exact aI (v+1) ⟨hlt,bJA⟩ Om Lq PH.nil_le
 ·have bIL:¬ (v:Int)<(now.length:Nat):=by omega
  have:v=now.length:=by omega
  subst this
  simp only[go_sem,γ,δ,ε,ζ,η,θ,ι,κ,μ,ν,ξ,ο,ρ,σ,τ,υ,reduceIte,reduceCtorEq,bIL,asH]
  refine aL (.inr rfl) Ev ?_
  rw[aV]
  exact congrArg PV.bool hok.symm
theorem jI {f:aH} {now:List (List Int)} {r:Int} (h:dQ f now r=true):dM f=true∧now.length=f.bIG.length∧0≤r∧r≤4:=by
 unfold dQ at h
 simp only[bLF,decide_eq_true_eq] at h
 exact⟨h.1.1,a4C h.1.2,h.2.1,h.2.2⟩
theorem bhJ {C:Ctx} (f:aH) (now:List (List Int)) (r:Int) (down:List Int) (hu:aE C 250 [.agg f.cells,lay now,.int .i64 r] .nil (aD (.bool (dQ f now r))))
  (hx:dQ f now r=true→aE C 251 [.agg f.cells,lay now,.int .i64 r,ints down] .nil (aD (.bool (eY f now r down)))) :
  HQ.wp C (aT aeP.res (aD (.bool (FW f now r down)))) (PF.args [.agg f.cells,lay now,.int .i64 r,ints down]) .nil:=by
 have hP:FW f now r down=(dQ f now r&&eY f now r down):=rfl
 simp only[go_sem,γ,δ,ε,ζ,η,θ,ι,κ,μ,ν,ξ,ο,ρ,σ,τ,υ,reduceIte,reduceCtorEq,HQ,aHP,aHQ,aeP]
 refine aA hu Ev ?_
 cases h:dQ f now r with
 | false =>
  rw[h] at hP
  simp only[go_sem,γ,δ,ε,ζ,η,θ,ι,κ,μ,ν,ξ,ο,ρ,σ,τ,υ,reduceIte,reduceCtorEq]
  refine aL (.inr rfl) Ev ?_
  rw[aV,hP]; rfl
 | true =>
  rw[h] at hP
  simp only[go_sem,γ,δ,ε,ζ,η,θ,ι,κ,μ,ν,ξ,ο,ρ,σ,τ,υ,reduceIte,reduceCtorEq]
  refine aA (hx h) Ev ?_
  simp only[go_sem,γ,δ,ε,ζ,η,θ,ι,κ,μ,ν,ξ,ο,ρ,σ,τ,υ,reduceIte,reduceCtorEq]
  refine aL (.inr rfl) Ev ?_
  rw[aV,hP]; rfl
theorem aoY {p:Int→Bool}:∀ {l:List Int} {i:Nat},eV p l i=none→∀ x∈l,p x=false
 | [],_,_,x,hx=>by cases hx
 | y::l,i,h,x,hx=>by
  unfold eV at h
  cases hp:p y with
  | true=>rw[hp] at h; cases h
  | false =>
   rw[hp] at h
   rcases bKY.1 hx with rfl | hx
   ·exact hp
   ·exact aoY (i:=i+1) (by simpa using h) x hx
theorem vC {f:aH} {now:List (List Int)} {r:Int} (h:dQ f now r=true) {v:Nat} (hv:v<now.length) :
  (now.getD v []).length≤10∧(∀ d∈now.getD v [],d<(f.bIE.length:Int))∧1≤(dB f v).k∧(dB f v).k≤6∧0≤r∧r≤4:=by
 obtain⟨h1,h2,h3,h4⟩:=jI h
 have hV:=VF.of h1
 obtain⟨hp,he⟩:=nH hV (Om:v<f.bIG.length)
 have hpol:=hV.bIS _ (bKM hp)
 rw[he] at hpol
 unfold dQ gS at h
 simp only[bLF] at h
 have hs:=bLA.1 h.1.2.2 v (bLL.2 hv)
 unfold lL at hs
 by_cases c:((now.getD v []).length:Int)=fB f v
 ·rw[if_pos c] at hs
  have hb:eV (jE f) (now.getD v []) 0=none:=by
   cases hfb:eV (jE f) (now.getD v []) 0 with
   | none=>rfl
   | some i=>rw[hfb] at hs; cases hs
  refine⟨?_,fun d hd=>?_,hpol.1,hpol.2.1,h3,h4⟩
  ·have:fB f v=(dB f v).k+(dB f v).m:=rfl
   omega
  ·have:=aoY hb d hd
   unfold jE at this
   simp only[Bool.or_eq_false_iff,decide_eq_false_iff_not] at this
   omega
 ·rw[if_neg c] at hs
  cases hs
theorem aAO {f:aH} {now:List (List Int)} {r:Int} (hu:dQ f now r=true) (ha:mH f now r=true) {v:Nat} (hv:v<now.length) (hc:(bR (now.getD v [])).Nodup∧bR (now.getD v [])≠[]) :
  1≤(((bR (now.getD v [])).length:Nat):Int)-(dB f v).k-r:=by
 obtain⟨-,g1,g2,g3,g4,g5⟩:=vC hu hv
 obtain⟨d,hd⟩:=List.exists_mem_of_ne_nil _ hc.2
 have hd2:=List.mem_filter.1 hd
 have hd0:0≤d:=by simpa using hd2.2
 have hdn:=g1 d hd2.1
 have one:1≤inN [((d.toNat:Nat):Int)] (now.getD v []):=by
  unfold inN
  refine List.countP_pos_iff.2 ⟨d,hd2.1,?_⟩
  unfold iW
  rw[decide_eq_true hd0,Int.toNat_of_nonneg hd0]
  simp
 have hal:=bLA.1 ha d.toNat (bLL.2 Om)
 rcases aRK hal (v:=v) hv hc.2 Om with e | e<;>omega
theorem aOP {row:List Int} {k:Nat} (h:k<row.length):bR (row.take (k+1))=bR (row.take k)++if 0≤row[k] then [row[k]] else []:=by
 unfold bR
 rw[bMA h,List.filter_append]
 congr 1
 by_cases c:0≤row[k]
 ·rw[if_pos c,List.filter_cons_of_pos (by simpa using c)]; rfl
 ·rw[if_neg c,List.filter_cons_of_neg (by simpa using c)]; rfl
theorem acZ (row:List Int):(bR row).length≤row.length:=List.length_filter_le ..
def yU (l:List Int):eT:=fun k=>match k with
 | [.int .i64 d]=>if l.contains d then some (.bool true) else none
 | _=>none
theorem baX:yU []=(fun _=>none:eT):=by
 funext k
 unfold yU
 split<;>rfl
theorem baY (l:List Int) (d:Int):eT.upd (yU l) [KS.int .i64 d] (.bool true)=yU (l++[d]):=by
 funext k
 unfold eT.upd
 by_cases c:k=[KS.int .i64 d]
 ·subst c
  rw[if_pos rfl]
  show _=if (l++[d]).contains d then some (PV.bool true) else none
  rw[if_pos (by simp)]
 ·rw[if_neg c]
  unfold yU
  split
  ·rename_i e
   have hne:¬ e=d:=fun h=>c (by rw[h])
   have:(l++[d]).contains e=l.contains e:=by
    rw[List.contains_eq_any_beq,List.contains_eq_any_beq,List.any_append]
    simp[hne]
   rw[this]
  ·rfl
def jV:List Int→List Int
 | []=>[]
 | x::xs=>if xs.contains x then jV xs else x::jV xs
theorem qH (y:Int):∀ l:List Int,y∈jV l↔y∈l
 | []=>Iff.rfl
 | x::xs=>by
  unfold jV
  split
  ·rename_i h
   rw[qH y xs,bKY]
   exact⟨.inr,fun h2=>h2.elim (fun e=>by rw[e]; exact bMV.1 h) id⟩
  ·rw[bKY,bKY,qH y xs]
theorem BN:∀ l:List Int,(jV l).Nodup
 | []=>.nil
 | x::xs=>by
  unfold jV
  split
  ·exact BN xs
  ·rename_i h
   refine List.nodup_cons.2 ⟨fun hm=>h ?_,BN xs⟩
   exact bMV.2 ((qH x xs).1 hm)
theorem YW:∀ l:List Int,(jV l).length≤l.length
 | []=>bKK _
 | x::xs=>by
  have:=YW xs
  unfold jV
  split
  ·rw[bLX]; omega
  ·rw[bLX,bLX]; omega
theorem agO:∀ l:List Int,(jV l).length=l.length↔l.Nodup
 | []=>by simp[jV]
 | x::xs=>by
  have hle:=YW xs
  have ih:=agO xs
  rw[List.nodup_cons]
  unfold jV
  split
  ·rename_i h
   rw[bLX]
   constructor
   ·intro e; omega
   ·intro e; exact absurd (bMV.1 h) e.1
  ·rename_i h
   rw[bLX,bLX,← ih]
   constructor
   ·intro e; exact⟨fun hm=>h (bMV.2 hm),by omega⟩
   ·intro e; omega
theorem a4B (l:List Int):(yU l).azN=(jV l).length:=by
 rw[eT.aQF (ks:=(jV l).map fun d=>[KS.int .i64 d]),bKI]
 ·have:=BN l
  unfold List.Nodup at this ⊢
  rw[List.pairwise_map]
  exact this.imp fun h e=>h (by injection e with e; injection e)
 ·intro k
  rw[bLP]
  constructor
  ·rintro⟨d,hd,rfl⟩
   show (if l.contains d then some (PV.bool true) else none).isSome=true
   rw[if_pos (bMV.2 ((qH d l).1 hd))]
   rfl
  ·intro h
   unfold yU at h
   split at h
   ·rename_i d
    by_cases c:l.contains d=true
    ·exact⟨d,(qH d l).2 (bMV.1 c),rfl⟩
    ·rw[if_neg c] at h; cases h
   ·cases h
theorem a4R (l:List Int):(jV l).length=0↔l=[]:=by
 constructor
 ·intro h
  cases l with
  | nil=>rfl
  | cons x xs =>
   have:=(qH x (x::xs)).2 (by simp)
   rw[List.length_eq_zero_iff.1 h] at this
   cases this
 ·rintro rfl; rfl
theorem zL (f:aH) (now:List (List Int)) (r:Int) (v:Nat):fS f now r (v+1)=max (fS f now r v) (SA f r v (now.getD v [])):=rfl
theorem pA (f:aH) (now:List (List Int)) (r:Int):∀ v,0≤fS f now r v
 | 0=>by unfold fS; omega
 | v+1=>by have:=pA f now r v; rw[zL]; omega
theorem TE {f:aH} {now:List (List Int)} {r:Int} {v:Nat} (h:¬ ((bR (now.getD v [])).Nodup∧bR (now.getD v [])≠[])):fS f now r (v+1)=fS f now r v:=by
 have:=pA f now r v
 rw[zL]
 unfold SA
 rw[if_neg h]
 omega
theorem anP {f:aH} {now:List (List Int)} {r:Int} {v:Nat} (h:(bR (now.getD v [])).Nodup∧bR (now.getD v [])≠[]) {n e:Int} (hn:n=((bR (now.getD v [])).length:Nat)) (he:e=n-(dB f v).k-r) :
  fS f now r (v+1)=if fS f now r v<bME (n+e-1) e then bME (n+e-1) e else fS f now r v:=by
 rw[zL]
 unfold SA axV
 rw[if_pos h,if_pos h,← hn,← he]
 split<;>omega
theorem EG {f:aH} {now:List (List Int)} {r:Int} (hu:dQ f now r=true) (ha:mH f now r=true):∀ v,v≤now.length→fS f now r v≤100
 | 0,_=>by unfold fS; omega
 | v+1,hv=>by
  have ih:=EG hu ha v Om
  by_cases c:(bR (now.getD v [])).Nodup∧bR (now.getD v [])≠[]
  ·have h1:=aAO hu ha (Om:v<now.length) c
   have h2:=(vC hu (Om:v<now.length)).1
   have h3:=acZ (now.getD v [])
   rw[anP c rfl rfl]
   generalize (((bR (now.getD v [])).length:Nat):Int)-(dB f v).k-r=e at *
   obtain⟨m,rfl⟩:=Int.eq_ofNat_of_zero_le (Om:0≤e)
   have:bME ((((bR (now.getD v [])).length:Nat):Int)+(m:Int)-1) (m:Int)≤((10:Nat):Int):=aQG Om (by
    have:10*1≤10*m:=bMO _ Om
    omega)
   split<;>omega
  ·rw[TE c]; exact ih
end Go.PM
