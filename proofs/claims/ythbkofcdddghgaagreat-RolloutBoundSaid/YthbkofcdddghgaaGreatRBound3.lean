/-
  Texts of ours, joined: FlCode Pm33 FlW1 FlPlain FlW2 FlW3 FlW4 FlW5 FlW6 FlW7 FlW8 FlW9 ToPlain ToCode ToW1 ToW2 Pm34 ToW3 ToW4 ToW5 ToW6 ToW7 ToW8 RfPlain RfP2 RfP3 RfP4 RoPlain RfP5 RwP1 RfCode R17Code R11Code ToW9 ToW10 . No condition.
-/
import Derived.Test.YthbkofcdddghgaaGreatRBound1
import Derived.Test.YthbkofcdddghgaaGreatRBound2
import Derived.Lib.SlicesCompact
set_option linter.unusedSimpArgs false
set_option linter.unusedVariables false
open Nat renaming reduceEqDiff → γ, reduceAdd → δ, reduceSub → ε, reduceMul → ζ, reduceLT → η, reduceLeDiff → θ, reduceBEq → τ
open Int renaming reduceLT → ι, reduceLE → κ, reduceEq → μ, reduceToNat → ν, reduceAdd → ξ, reduceNeg → ο, reduceBEq → ρ, reduceBNe → σ
open List renaming reduceReplicate → υ
open List renaming length_map → bJC, range → bJD, replicate → bJE, getElem_mem → bJG, length_append → bJL, getElem?_eq_getElem → bJN, mem_cons → bJR, take_of_length_le → bJS, length_singleton → bJT, length_take → bJU, all_eq_true → bJW, getD_eq_getElem?_getD → bJX, take_length → bKB, append_assoc → bKD, mem_range → bKE, drop_zero → bKG, getElem?_map → bKH, mem_map → bKI, getElem?_eq_none → bKM, getElem?_eq_some_iff → bKN, mem_append → bKO, mem_singleton → bKP, length_cons → bKQ, not_mem_nil → bKS, drop_eq_getElem_cons → bKY, getElem?_append_right → bKZ, length_set → bLA, map_cons → bLB, take_succ_eq_append_getElem → bLC, append_nil → bLD, length_drop → bLF, Sublist → bLJ, getElem_map → bLK, getElem_of_mem → bLL, getElem?_append_left → bLN, length_nil → bLO, nodup_append → bLP, contains_iff_mem → bLR, map_append → bLS, mem_of_getElem? → bLT, take_append_drop → bLU, nil_append → bMC, length_replicate → bMG, getElem?_take → bMJ, drop_of_length_le → bMO, getElem?_drop → bMP, eq_nil_of_length_eq_zero → bMQ, set_append_right → bMR, getElem?_take_of_lt → bMS
open Nat renaming le_refl → bJF, gcd → bJH, zero_le → bJO, mul_add → bJP, lt_or_ge → bJV, mul_assoc → bJY, mul_comm → bKA, zero_add → bKC, add_mul → bKF, mul_le_mul_right → bKJ, mod_eq_of_lt → bKK, mod_lt → bKR, add_zero → bKU, pow_succ → bKV, min_eq_left → bLG, mul_le_mul_left → bLH, pos_of_ne_zero → bLI, add_assoc → bLM, pow_pos → bLV, div_lt_iff_lt_mul → bLX, sub_self → bLY, succ_mul → bLZ, eq_zero_or_pos → bMD, div_add_mod → bMK, div_eq_of_lt → bML
open Bool renaming false_and → bJI, not_true → bJK, true_and → bJM, not_false → bJQ, and_eq_true → bJZ, and_false → bKT, and_true → bLE, and_assoc → bMB, false_eq_true → bME
open Option renaming map_eq_some_iff → bJJ, map_some → bKL, getD_some → bLQ, some → bLW, bind_eq_some_iff → bMH, bind_some → bMM
open Array renaming replicate → bKW, length_toList → bMA, getElem?_eq_getElem → bMI, getElem?_eq_some_iff → bMN
open Int renaming tdiv → bKX, toNat_natCast → bMF
namespace Go.PM
open Go
def nM:Rg:=[iT 2 false]
def nN:Rg:=[iM 3 0,iA 4 (.bin .geq (Tm 3) (.const (.int .u8 97))),iM 5 4,gM 6 0 5 true,iG 7 (.bin .leq (Tm 6) (.const (.int .u8 122))) 5 true,iP 8 5 7,iM 9 8,gM 10 0 9 false,iG 11 (.bin .geq (Tm 10) (.const (.int .u8 65))) 9 false,gM 12 11 9 false,gM 13 0 12 true,iG 14 (.bin .leq (Tm 13) (.const (.int .u8 90))) 12 true,iG 15 (.pick (Tm 12) (Tm 14) (.const (.bool false))) 9 false,iQ 16 9 15,iM 2 16]
def jX:aC:=(sq nM (sq nN .ret))
def aZG:List Nat:=[]
def vJ:aV:=⟨1,17,jX,[.tmp 2]⟩
def xX:Rg:=[iT 2 false]
def xY:Rg:=[iM 3 0,iA 4 (.bin .geq (Tm 3) (.const (.int .u8 48))),iM 5 4,gM 6 0 5 true,iG 7 (.bin .leq (Tm 6) (.const (.int .u8 57))) 5 true,iP 8 5 7,iM 2 8]
def oM:aC:=(sq xX (sq xY .ret))
def a6A:List Nat:=[]
def CD:aV:=⟨1,9,oM,[.tmp 2]⟩
def aoE:Rg:=[iT 2 false]
def aoF:Rg:=[iM 3 0,iK 4 126 3,iM 5 4,gM 6 0 5 false,gK 7 124 6 5 false,iQ 8 5 7,iM 9 8,gM 10 0 9 false,iG 11 (.bin .eql (Tm 10) (.const (.int .u8 45))) 9 false,iQ 12 9 11,iM 13 12,gM 14 0 13 false,iG 15 (.bin .eql (Tm 14) (.const (.int .u8 46))) 13 false,iQ 16 13 15,iM 2 16]
def zL:aC:=(sq aoE (sq aoF .ret))
def a6D:List Nat:=[]
def CE:aV:=⟨1,17,zL,[.tmp 2]⟩
def GD:Rg:=[iT 2 false]
def GF:Rg:=[iM 4 0,iA 5 (.bin .eql (Tm 4) (.const (.str []))),iM 6 5,gM 7 0 6 false,iG 8 (.bIG (Tm 7)) 6 false,gC 9 .gtr 8 16 6 false,iQ 10 6 9,iM 11 10,gM 12 0 11 false,iG 13 (.bIH (Tm 12) (Ci 0)) 11 false,gK 14 126 13 11 false,iG 15 (.un .not (Tm 14)) 11 false,iQ 16 11 15]
def GG:Rg:=[iT 2 false]
def aBN:Rg:=[iI 3 0]
def aBO:Rg:=[iM 17 3,iM 18 0,iA 19 (.bIG (Tm 18)),iB 20 .lss 17 19]
def aBP:Rg:=[iM 23 0,iM 24 3,iA 25 (.bIH (Tm 23) (Tm 24)),iK 26 125 25,iA 27 (.un .not (Tm 26))]
def aBQ:Rg:=[iT 2 false]
def aBR:Rg:=[iM 21 3,iC 22 .add 21 1,iM 3 22]
def aBM:aC:=(.seq (sq aBO (.cond (Tm 20) .skip (.exit 0))) (.seq (.block 1 (sq aBP (.cond (Tm 27) (sq aBQ .ret) .skip))) (.region aBR)))
def aBS:Rg:=[iT 2 true]
def qP:aC:=(sq GD (.seq (sq GF (.cond (Tm 16) (sq GG .ret) .skip)) (.seq (sq aBN (.block 0 (.loop aBM))) (sq aBS .ret))))
def bfD:List Nat:=[]
def RE:aV:=⟨1,28,qP,[.tmp 2]⟩
def abD:Rg:=[iT 6 false]
def abE:Rg:=[iM 7 0,iM 8 1,iB 9 .geq 7 8,iM 10 9,gM 11 0 10 true,gM 12 2 10 true,gB 13 .leq 11 12 10 true,iP 14 10 13,iM 6 14]
def wE:aC:=(sq abD (sq abE .ret))
def bqL:List Nat:=[]
def gin:aV:=⟨3,15,wE,[.tmp 6]⟩
def anF:Rg:=[iA 1 (.box true (Tm 0)),iT 2 false]
def anG:Rg:=[iF 3 1 1,iL 4 3,iK 5 128 4,iC 6 .gtr 5 0,iM 2 6]
def zH:aC:=(sq anF (sq anG .ret))
def a5K:List Nat:=[1]
def LN:aV:=⟨1,7,zH,[.tmp 2]⟩
def aPH:Rg:=[iA 1 (.box true (Tm 0)),iT 2 false]
def aPI:Rg:=[iO 6 3 1,iK 7 116 6,iM 5 7,iE 8 5 0,iE 9 5 1,iA 3 (.alloc [(.bool false),.aB,.aB]),iS 3 3 8,iM 4 9]
def RB:Rg:=[iM 10 4,iC 11 .eql 10 0,iM 12 11,gF 13 0 3 12 true,gL 14 13 12 true,iG 15 (.un .not (Tm 14)) 12 true,iP 16 12 15,iM 17 16,gF 18 1 3 17 true,gL 19 18 17 true,gK 20 128 19 17 true,gC 21 .leq 20 32 17 true,iP 22 17 21,iM 23 22,gF 24 2 3 23 true,gL 25 24 23 true,gK 26 128 25 23 true,gC 27 .leq 26 32 23 true,iP 28 23 27,iM 2 28]
def LT:aC:=(sq aPH (sq aPI (sq RB .ret)))
def blO:List Nat:=[1]
def azR:aV:=⟨1,29,LT,[.tmp 2]⟩
def aPM:Rg:=[iA 1 (.box true (Tm 0)),iT 2 false]
def aPN:Rg:=[iA 8 (.call 115 [(Ci 1),(Ci 1)]),iM 7 8,iE 9 7 0,iE 10 7 1,iA 3 (.alloc [(.bool false),.aB,.aB]),iS 3 3 9,iM 4 10]
def aPO:Rg:=[iO 12 3 1,iO 13 3 3,iK2 14 114 12 13,iM 11 14,iE 15 11 0,iE 16 11 1,iM 5 15,iM 6 16]
def ajH:Rg:=[iM 17 6,iC 18 .eql 17 0,iM 19 18,gM 20 5 19 true,gC 21 .leq 20 0 19 true,iP 22 19 21,iM 2 22]
def LZ:aC:=(sq aPM (sq aPN (sq aPO (sq ajH .ret))))
def blS:List Nat:=[1]
def gone:aV:=⟨1,23,LZ,[.tmp 2]⟩
def ayO:Rg:=[iT 4 false]
def ayP:Rg:=[iM 7 0,iN 8 7,iI 9 0]
def ayQ:Rg:=[iB 10 .lss 9 8]
def ayR:Rg:=[iX 11 3 7 9,iO 12 3 11,iA 6 (.alloc [(.bool false),.aB,.aB]),iS 3 6 12]
def ayS:Rg:=[iM 13 1,iO 14 3 6,iA 15 (.bIJ (Tm 13) [(Tm 14)]),iA 16 (.un .not (Tm 15))]
def ayT:Rg:=[iT 4 false]
def ayU:Rg:=[iC 17 .add 9 1,iM 9 17]
def ayN:aC:=(sq ayQ (.seq (.cond (Tm 10) .skip (.exit 0)) (.seq (.block 1 (sq ayR (sq ayS (.cond (Tm 16) (sq ayT .ret) .skip)))) (.region ayU))))
def ayV:Rg:=[iT 4 true]
def FC:aC:=(sq ayO (.seq (sq ayP (.block 0 (.loop ayN))) (sq ayV .ret)))
def beD:List Nat:=[]
def abA:aV:=⟨2,18,FC,[.tmp 4]⟩
def ayX:Rg:=[iT 4 false]
def ayY:Rg:=[iM 7 0,iN 8 7,iI 9 0]
def ayZ:Rg:=[iB 10 .lss 9 8]
def azA:Rg:=[iX 11 1 7 9,iL 12 11,iM 6 12]
def azB:Rg:=[iM 13 1,iM 14 6,iA 15 (.bIJ (Tm 13) [(Tm 14)]),iA 16 (.un .not (Tm 15))]
def azC:Rg:=[iT 4 false]
def azD:Rg:=[iC 17 .add 9 1,iM 9 17]
def ayW:aC:=(sq ayZ (.seq (.cond (Tm 10) .skip (.exit 0)) (.seq (.block 1 (sq azA (sq azB (.cond (Tm 16) (sq azC .ret) .skip)))) (.region azD))))
def azE:Rg:=[iT 4 true]
def FD:aC:=(sq ayX (.seq (sq ayY (.block 0 (.loop ayW))) (sq azE .ret)))
def beF:List Nat:=[]
def abB:aV:=⟨2,18,FD,[.tmp 4]⟩
def ayF:Rg:=[iT 4 false]
def ayG:Rg:=[iM 7 0,iN 8 7,iI 9 0]
def ayH:Rg:=[iB 10 .lss 9 8]
def ayI:Rg:=[iX 11 1 7 9,iL 12 11,iM 6 12]
def ayJ:Rg:=[iM 13 1,iM 14 6,iA 15 (.bIJ (Tm 13) [(Tm 14)]),iA 16 (.un .not (Tm 15))]
def ayK:Rg:=[iT 4 false]
def ayL:Rg:=[iC 17 .add 9 1,iM 9 17]
def ayE:aC:=(sq ayH (.seq (.cond (Tm 10) .skip (.exit 0)) (.seq (.block 1 (sq ayI (sq ayJ (.cond (Tm 16) (sq ayK .ret) .skip)))) (.region ayL))))
def ayM:Rg:=[iT 4 true]
def FB:aC:=(sq ayF (.seq (sq ayG (.block 0 (.loop ayE))) (sq ayM .ret)))
def beB:List Nat:=[]
def aaZ:aV:=⟨2,18,FB,[.tmp 4]⟩
def anH:Rg:=[iT 2 false]
def anI:Rg:=[iM 3 0,iM 2 3]
def zI:aC:=(sq anH (sq anI .ret))
def a5M:List Nat:=[]
def LO:aV:=⟨1,4,zI,[.tmp 2]⟩
def azI:Rg:=[iA 1 (.box true (Tm 0)),iT 2 false]
def azJ:Rg:=[iF 8 3 1,iL 9 8,iN 10 9,iA 11 (.bHI 1 1 [(.bool false)] (Tm 10) (Tm 10)),iM 3 11]
def azK:Rg:=[iI 4 0]
def azL:Rg:=[iM 12 4,iM 13 3,iN 14 13,iB 15 .leq 12 14]
def azM:Rg:=[iM 18 3,iN 19 18,iI 20 0]
def VK:Rg:=[iB 21 .lss 20 19]
def azN:Rg:=[iM 22 20,iM 5 22]
def VL:Rg:=[iM 23 3,iM 24 5,iM 25 3,iM 26 5,iX 27 1 25 26,iL 28 27,iM 29 28,gF 30 3 1 29 false,gL 31 30 29 false,gM 32 5 29 false,iG 33 (.bHT 3 (Tm 31) (Tm 32)) 29 false,gO 34 3 33 29 false,gK 35 97 34 29 false,iQ 36 29 35,iX 37 1 23 24,iS 1 37 36]
def VM:Rg:=[iF 38 2 1,iL 39 38,iM 40 5,iX 41 1 39 40,iL 42 41,iN 43 42,iI 44 0]
def azO:Rg:=[iB 45 .lss 44 43]
def anK:Rg:=[iM 46 44,iX 47 3 42 44,iO 48 3 47,iA 7 (.alloc [(.bool false),.aB,.aB]),iM 6 46,iS 3 7 48]
def LP:Rg:=[iM 49 3,iM 50 5,iM 51 3,iM 52 5,iX 53 1 51 52,iL 54 53,iM 55 54,gO 56 3 7 55 false,gK 57 97 56 55 false,gM 58 57 55 false,gM 59 3 58 true,gM 60 6 58 true,iG 61 (.bHT 1 (Tm 59) (Tm 60)) 58 true,gL 62 61 58 true,iG 63 (.pick (Tm 58) (Tm 62) (.const (.bool false))) 55 false,iQ 64 55 63,iX 65 1 49 50,iS 1 65 64]
def xV:Rg:=[iC 66 .add 44 1,iM 44 66]
def xT:aC:=(sq azO (.seq (.cond (Tm 45) .skip (.exit 4)) (.seq (.block 5 (sq anK (.region LP))) (.region xV))))
def LQ:Rg:=[iC 67 .add 20 1,iM 20 67]
def xU:aC:=(sq VK (.seq (.cond (Tm 21) .skip (.exit 2)) (.seq (.block 3 (sq azN (sq VL (sq VM (.block 4 (.loop xT)))))) (.region LQ))))
def anL:Rg:=[iM 16 4,iC 17 .add 16 1,iM 4 17]
def anJ:aC:=(.seq (sq azL (.cond (Tm 15) .skip (.exit 0))) (.seq (.block 1 (sq azM (.block 2 (.loop xU)))) (.region anL)))
def anM:Rg:=[iM 68 3,iA 69 (.call 98 [(Tm 68),(.const (.fn 103 []))]),iM 2 69]
def FF:aC:=(sq azI (sq azJ (.seq (sq azK (.block 0 (.loop anJ))) (sq anM .ret))))
def beI:List Nat:=[1]
def abC:aV:=⟨1,70,FF,[.tmp 2]⟩
def aOZ:Rg:=[iA 1 (.box true (Tm 0)),iT 2 false]
def aPA:Rg:=[iF 12 1 1,iL 13 12,iN 14 13,iM 3 14]
def aPB:Rg:=[iM 15 3,iA 16 (.call 104 [(Tm 15),(Ci 1),(Ci 4)]),iA 17 (.un .not (Tm 16)),iM 18 17,gF 19 3 1 18 false,gL 20 19 18 false,gN 21 20 18 false,gM 22 3 18 false,gB 23 .neq 21 22 18 false,iQ 24 18 23,iM 25 24,gF 26 2 1 25 false,gL 27 26 25 false,gN 28 27 25 false,gM 29 3 25 false,gB 30 .neq 28 29 25 false,iQ 31 25 30,iM 32 31,gF 33 1 1 32 false,gL 34 33 32 false,iG 35 (.call 99 [(Tm 34),(.const (.fn 105 []))]) 32 false,iG 36 (.un .not (Tm 35)) 32 false,iQ 37 32 36,iM 38 37,gF 39 3 1 38 false,gL 40 39 38 false,iG 41 (.call 99 [(Tm 40),(.const (.fn 105 []))]) 38 false,iG 42 (.un .not (Tm 41)) 38 false,iQ 43 38 42]
def vF:Rg:=[iT 2 false]
def aPC:Rg:=[iF 44 2 1,iL 45 44,iN 46 45,iI 47 0]
def aPD:Rg:=[iB 48 .lss 47 46]
def aPE:Rg:=[iM 49 47,iX 50 1 45 47,iL 51 50,iM 4 49,iM 5 51]
def aPF:Rg:=[iM 52 5,iN 53 52,iM 54 3,iB 55 .neq 53 54,iM 56 55,gM 57 5 56 false,iG 58 (.call 99 [(Tm 57),(.const (.fn 105 []))]) 56 false,iG 59 (.un .not (Tm 58)) 56 false,iQ 60 56 59,iM 61 60,gM 62 5 61 false,gM 63 4 61 false,iG 64 (.bHT 3 (Tm 62) (Tm 63)) 61 false,gO 65 3 64 61 false,gK 66 97 65 61 false,iQ 67 61 66]
def RA:Rg:=[iT 2 false]
def aPG:Rg:=[iC 68 .add 47 1,iM 47 68]
def azQ:aC:=(sq aPD (.seq (.cond (Tm 48) .skip (.exit 0)) (.seq (.block 1 (sq aPE (sq aPF (.cond (Tm 67) (sq RA .ret) .skip)))) (.region aPG))))
def VN:Rg:=[iF 70 1 1,iL 71 70,iK 72 117 71,iM 69 72,iE 73 69 0,iE 74 69 1,iA 6 (.alloc [(.bool false),.aB,.aB]),iS 3 6 73,iM 7 74]
def FG:Rg:=[iA 76 (.call 115 [(Ci 1),(Ci 1)]),iM 75 76,iE 77 75 0,iE 78 75 1,iA 8 (.alloc [(.bool false),.aB,.aB]),iS 3 8 77,iM 9 78]
def FH:Rg:=[iO 80 3 6,iO 81 3 8,iK2 82 114 80 81,iM 79 82,iE 83 79 0,iE 84 79 1,iM 10 83,iM 11 84]
def rO:Rg:=[iM 85 7,iC 86 .eql 85 0,iM 87 86,gM 88 10 87 true,gC 89 .eql 88 0 87 true,iP 90 87 89,iM 91 90,gO 92 4 1 91 true,gK 93 102 92 91 true,iP 94 91 93,iM 2 94]
def LS:aC:=(sq aOZ (sq aPA (.seq (sq aPB (.cond (Tm 43) (sq vF .ret) .skip)) (.seq (sq aPC (.block 0 (.loop azQ))) (sq VN (sq FG (sq FH (sq rO .ret))))))))
def blM:List Nat:=[1]
def azP:aV:=⟨1,95,LS,[.tmp 2]⟩
def aAC:Rg:=[iT 2 false]
def aAD:Rg:=[iA 6 (.bIU (false,[.str])),iM 3 6]
def aAE:Rg:=[iM 7 0,iN 8 7,iI 9 0]
def aAF:Rg:=[iB 10 .lss 9 8]
def aAG:Rg:=[iX 11 1 7 9,iL 12 11,iM 5 12]
def aAH:Rg:=[iM 13 5,iK 14 123 13,iA 15 (.un .not (Tm 14)),iM 16 15,gM 17 3 16 false,gM 18 5 16 false,iG 19 (.lookup (false,[.str]) (.bool false) (Tm 17) (Tm 18) false) 16 false,iQ 20 16 19]
def VP:Rg:=[iT 2 false]
def aAI:Rg:=[iM 21 3,iM 22 5,⟨none,.bHW (false,[.str]) (Tm 21) (Tm 22) (.const (.bool true)),none⟩]
def aAJ:Rg:=[iC 23 .add 9 1,iM 9 23]
def aAB:aC:=(sq aAF (.seq (.cond (Tm 10) .skip (.exit 0)) (.seq (.block 1 (sq aAG (.seq (sq aAH (.cond (Tm 20) (sq VP .ret) .skip)) (.region aAI)))) (.region aAJ))))
def anP:Rg:=[iT 2 true]
def FK:aC:=(sq aAC (sq aAD (.seq (sq aAE (.block 0 (.loop aAB))) (sq anP .ret))))
def beP:List Nat:=[]
def abH:aV:=⟨1,24,FK,[.tmp 2]⟩
def ajF:Rg:=[iA 1 (.box true (Tm 0)),iT 2 false]
def ajG:Rg:=[iF 6 3 1,iL 7 6,iN 8 7,iC 9 .eql 8 0]
def aOT:Rg:=[iT 2 false]
def aOU:Rg:=[iF 10 3 1,iL 11 10,iA 12 (.bHT 7 (Tm 11) (Ci 0)),iO 13 7 12,iA 3 (.alloc [(.str []),(.int .i64 0),(.int .i64 0),(.int .i64 0),(.bool false),.aB,.aB]),iS 7 3 13]
def vE:Rg:=[iF 14 0 3,iL 15 14,iA 16 (.bin .neq (Tm 15) (.const (.str []))),iM 17 16,gF 18 1 3 17 false,gL 19 18 17 false,gC 20 .neq 19 0 17 false,iQ 21 17 20,iM 22 21,gF 23 2 3 22 false,gL 24 23 22 false,gC 25 .neq 24 (-1) 22 false,iQ 26 22 25,iM 27 26,gF 28 3 3 27 false,gL 29 28 27 false,gC 30 .neq 29 0 27 false,iQ 31 27 30,iM 32 31,gF 33 4 3 32 false,gO 34 3 33 32 false,gK 35 105 34 32 false,iG 36 (.un .not (Tm 35)) 32 false,iQ 37 32 36,iM 38 37,gF 39 4 3 38 false,gO 40 3 39 38 false,gK 41 97 40 38 false,iQ 42 38 41]
def rN:Rg:=[iT 2 false]
def aOV:Rg:=[iF 43 3 1,iL 44 43,iA 45 (.slice 7 (Tm 44) (some (Ci 1)) none none),iN 46 45,iI 47 0]
def aOW:Rg:=[iB 48 .lss 47 46]
def aOX:Rg:=[iM 49 47,iX 50 7 45 47,iO 51 7 50,iA 5 (.alloc [(.str []),(.int .i64 0),(.int .i64 0),(.int .i64 0),(.bool false),.aB,.aB]),iM 4 49,iS 7 5 51]
def aOY:Rd:=[(iF 52 2 5,false),(iL 53 52,false),(iM 54 4,false),(iA 55 (.call 104 [(Tm 53),(Ci 0),(Tm 54)]),true),(iA 56 (.un .not (Tm 55)),false),(iM 57 56,false),(gF 58 3 1 57 false,false),(gL 59 58 57 false,false),(gF 60 2 5 57 false,false),(gL 61 60 57 false,false),(iG 62 (.bHT 7 (Tm 59) (Tm 61)) 57 false,false),(gF 63 1 62 57 false,false),(gL 64 63 57 false,false),(gF 65 1 5 57 false,false),(gL 66 65 57 false,false),(gC 67 .sub 66 1 57 false,false),(gB 68 .neq 64 67 57 false,false),(iQ 69 57 68,false),(iM 70 69,false),(gF 71 1 5 70 false,false),(gL 72 71 70 false,false),(iG 73 (.call 104 [(Tm 72),(Ci 1),(Ci 4)]) 70 false,true),(iG 74 (.un .not (Tm 73)) 70 false,false),(iQ 75 70 74,false),(iM 76 75,false),(gF 77 3 5 76 false,false),(gL 78 77 76 false,false),(iG 79 (.call 104 [(Tm 78),(Ci 1),(Ci 64)]) 76 false,true),(iG 80 (.un .not (Tm 79)) 76 false,false),(iQ 81 76 80,false),(iM 82 81,false),(gF 83 4 5 82 false,false),(gO 84 3 83 82 false,false),(gK 85 105 84 82 false,true),(iG 86 (.un .not (Tm 85)) 82 false,false),(iQ 87 82 86,false)]
def rM:Rg:=[iT 2 false]
def azG:Rg:=[iC 88 .add 47 1,iM 47 88]
def azF:aC:=(sq aOW (.seq (.cond (Tm 48) .skip (.exit 0)) (.seq (.block 1 (sq aOX (dq aOY (.cond (Tm 87) (sq rM .ret) .skip)))) (.region azG))))
def azH:Rg:=[iT 2 true]
def xS:aC:=(sq ajF (.seq (sq ajG (.cond (Tm 9) (sq aOT .ret) .skip)) (sq aOU (.seq (sq vE (.cond (Tm 42) (sq rN .ret) .skip)) (.seq (sq aOV (.block 0 (.loop azF))) (sq azH .ret))))))
def blK:List Nat:=[1]
def ajE:aV:=⟨1,89,xS,[.tmp 2]⟩
def azT:Rg:=[iT 2 false]
def azU:Rg:=[iM 3 0,iA 4 (.call 104 [(Tm 3),(Ci 0),(Ci 8)]),iM 2 4]
def FI:aC:=(sq azT (sq azU .ret))
def beK:List Nat:=[]
def abF:aV:=⟨1,5,FI,[.tmp 2]⟩
def aPJ:Rg:=[iA 7 (.box true (Tm 3)),iT 8 false]
def aPK:Rg:=[iM 9 0,iA 10 (.call 104 [(Tm 9),(Ci 1),(Ci 6)]),iA 11 (.un .not (Tm 10)),iM 12 11,gM 13 1 12 false,iG 14 (.call 104 [(Tm 13),(Ci 0),(Ci 4)]) 12 false,iG 15 (.un .not (Tm 14)) 12 false,iQ 16 12 15,iM 17 16,gM 18 0 17 false,gM 19 1 17 false,gB 20 .add 18 19 17 false,gC 21 .gtr 20 8 17 false,iQ 22 17 21,iM 23 22,gM 24 2 23 false,gM 25 0 23 false,gM 26 0 23 false,gM 27 1 23 false,gB 28 .add 26 27 23 false,iG 29 (.call 104 [(Tm 24),(Tm 25),(Tm 28)]) 23 false,iG 30 (.un .not (Tm 29)) 23 false,iQ 31 23 30,iM 32 31,iG 33 (.idxA 5 1 (Tm 7) (Ci 0)) 32 false,gL 34 33 32 false,gC 35 .neq 34 0 32 false,iQ 36 32 35]
def vG:Rg:=[iT 8 false]
def aPL:Rg:=[iA 37 (.sliceA 5 1 (Tm 7) none none none),iA 38 (.call 100 [(Tm 37),(.const (.fn 107 []))]),iM 8 38]
def LW:aC:=(sq aPJ (.seq (sq aPK (.cond (Tm 36) (sq vG .ret) .skip)) (sq aPL .ret)))
def blQ:List Nat:=[7]
def azS:aV:=⟨4,39,LW,[.tmp 8]⟩
def anN:Rg:=[iA 1 (.box true (Tm 0)),iT 2 false]
def anO:Rg:=[iO 3 3 1,iK 4 105 3,iM 5 4,gO 6 3 1 5 true,gK 7 97 6 5 true,iP 8 5 7,iM 2 8]
def zJ:aC:=(sq anN (sq anO .ret))
def a5P:List Nat:=[1]
def MB:aV:=⟨1,9,zJ,[.tmp 2]⟩
def azZ:Rg:=[iA 6 (.box true (Tm 2)),iA 7 (.box true (Tm 3)),iT 8 false]
def aAA:Rg:=[iM 9 1,iN 10 9,iM 11 0,iA 12 (.bHZ true (Tm 11) (Ci 1)),iB 13 .eql 10 12,iM 14 13,gM 15 1 14 true,iG 16 (.call 99 [(Tm 15),(.const (.fn 109 []))]) 14 true,iP 17 14 16,iM 18 17,gO 19 3 6 18 true,gK 20 105 19 18 true,iP 21 18 20,iM 22 21,gO 23 3 6 22 true,gK 24 101 23 22 true,iP 25 22 24,iM 26 25,gO 27 3 7 26 true,gK 28 105 27 26 true,iP 29 26 28,iM 8 29]
def FJ:aC:=(sq azZ (sq aAA .ret))
def beM:List Nat:=[6,7]
def abG:aV:=⟨4,30,FJ,[.tmp 8]⟩
def aPP:Rg:=[iA 2 (.box true (Tm 0)),iT 4 false]
def aPQ:Rg:=[iF 8 1 2,iL 9 8,iF 10 2 2,iL 11 10,iF 12 3 2,iL 13 12,iF 14 4 2,iO 15 5 14,iA 16 (.call 106 [(Tm 9),(Tm 11),(Tm 13),(Tm 15)]),iA 17 (.un .not (Tm 16)),iM 18 17,gF 19 9 2 18 false,gL 20 19 18 false,gN 21 20 18 false,gC 22 .eql 21 0 18 false,iQ 23 18 22,iM 24 23,gF 25 2 2 24 false,gL 26 25 24 false,gF 27 10 2 24 false,gL 28 27 24 false,gF 29 11 2 24 false,gO 30 3 29 24 false,gF 31 14 2 24 false,gO 32 3 31 24 false,iG 33 (.call 108 [(Tm 26),(Tm 28),(Tm 30),(Tm 32)]) 24 false,iG 34 (.un .not (Tm 33)) 24 false,iQ 35 24 34]
def RC:Rg:=[iT 4 false]
def aPR:Rg:=[iM 36 1,iA 37 (.bHI 1 1 [(.bool false)] (Tm 36) (Tm 36)),iM 5 37]
def aPS:Rg:=[iF 38 9 2,iL 39 38,iN 40 39,iI 41 0]
def aPT:Rg:=[iB 42 .lss 41 40]
def aPU:Rg:=[iX 43 1 39 41,iL 44 43,iM 7 44]
def aPV:Rg:=[iM 45 7,iM 46 1,iC 47 .sub 46 1,iA 48 (.call 104 [(Tm 45),(Ci 0),(Tm 47)]),iA 49 (.un .not (Tm 48)),iM 50 49,gM 51 5 50 false,gM 52 7 50 false,iG 53 (.bHT 1 (Tm 51) (Tm 52)) 50 false,gL 54 53 50 false,iQ 55 50 54]
def ajI:Rg:=[iT 4 false]
def aPW:Rg:=[iM 56 5,iM 57 7,iX 58 1 56 57,⟨none,.store 1 (Tm 58) (.const (.bool true)),none⟩]
def azX:Rg:=[iC 59 .add 41 1,iM 41 59]
def azW:aC:=(sq aPT (.seq (.cond (Tm 42) .skip (.exit 0)) (.seq (.block 1 (sq aPU (.seq (sq aPV (.cond (Tm 55) (sq ajI .ret) .skip)) (.region aPW)))) (.region azX))))
def azY:Rg:=[iT 4 true]
def MA:aC:=(sq aPP (.seq (sq aPQ (.cond (Tm 35) (sq RC .ret) .skip)) (sq aPR (.seq (sq aPS (.block 0 (.loop azW))) (sq azY .ret)))))
def blU:List Nat:=[2]
def azV:aV:=⟨2,60,MA,[.tmp 4]⟩
def aPX:Rg:=[iA 1 (.box true (Tm 0)),iI 2 0]
def aPY:Rg:=[iF 21 0 1,iL 22 21,iA 23 (.call 104 [(Tm 22),(Ci 1),(Ci 4)]),iA 24 (.un .not (Tm 23)),iM 25 24,gF 26 1 1 25 false,gL 27 26 25 false,gN 28 27 25 false,gC 29 .gtr 28 4 25 false,iQ 30 25 29,iM 31 30,gF 32 2 1 31 false,gL 33 32 31 false,gN 34 33 31 false,gC 35 .gtr 34 4 31 false,iQ 36 31 35,iM 37 36,gF 38 3 1 37 false,gL 39 38 37 false,gN 40 39 37 false,gC 41 .gtr 40 40 37 false,iQ 42 37 41,iM 43 42,gF 44 4 1 43 false,gL 45 44 43 false,gN 46 45 43 false,gC 47 .gtr 46 24 43 false,iQ 48 43 47,iM 49 48,gF 50 5 1 49 false,gL 51 50 49 false,gN 52 51 49 false,gC 53 .gtr 52 4 49 false,iQ 54 49 53,iM 55 54,gF 56 6 1 55 false,gL 57 56 55 false,gN 58 57 55 false,gC 59 .gtr 58 12 55 false,iQ 60 55 59,iM 61 60,gO 62 7 1 61 false,gK 63 111 62 61 false,iG 64 (.un .not (Tm 63)) 61 false,iQ 65 61 64]
def nJ:Rg:=[iI 2 1]
def aPZ:Rg:=[iZ 3,iZ 4,iZ 5,iZ 6,iZ 7]
def aQA:Rg:=[iT 8 true]
def ajJ:Rg:=[iF 66 1 1,iL 67 66,iN 68 67,iI 69 0]
def aQB:Rg:=[iB 70 .lss 69 68]
def aQC:Rg:=[iX 71 4 67 69,iO 72 4 71,iA 10 (.alloc [(.str []),.aB,.aB,.aB]),iS 4 10 72]
def aQD:Rg:=[iM 73 3,iF 74 0 10,iL 75 74,iA 76 (.bHE true 1 1 [(.str [])] [(0,(Tm 75))]),iA 77 (.append 1 16 (Tm 73) (Tm 76)),iM 3 77]
def ajK:Rg:=[iM 78 8,iM 79 78,gO 80 4 10 79 true,gK 81 95 80 79 true,iP 82 79 81,iM 8 82]
def VQ:Rg:=[iC 83 .add 69 1,iM 69 83]
def FL:aC:=(sq aQB (.seq (.cond (Tm 70) .skip (.exit 0)) (.seq (.block 1 (sq aQC (sq aQD (.region ajK)))) (.region VQ))))
def VR:Rg:=[iF 84 2 1,iL 85 84,iN 86 85,iI 87 0]
def aAL:Rg:=[iB 88 .lss 87 86]
def aAM:Rg:=[iX 89 4 85 87,iO 90 4 89,iA 12 (.alloc [(.str []),(.int .i64 0),(.int .i64 0),(.int .i64 0)]),iS 4 12 90]
def aAN:Rg:=[iM 91 4,iF 92 0 12,iL 93 92,iA 94 (.bHE true 1 1 [(.str [])] [(0,(Tm 93))]),iA 95 (.append 1 16 (Tm 91) (Tm 94)),iM 4 95]
def VS:Rg:=[iM 96 8,iM 97 96,gF 98 1 12 97 true,gL 99 98 97 true,iG 100 (.call 104 [(Tm 99),(Ci 1),(Ci 16)]) 97 true,iP 101 97 100,iM 102 101,gF 103 2 12 102 true,gL 104 103 102 true,iG 105 (.call 104 [(Tm 104),(Ci 1),(Ci 64)]) 102 true,iP 106 102 105,iM 107 106,gF 108 3 12 107 true,gL 109 108 107 true,gF 110 1 1 107 true,gL 111 110 107 true,gN 112 111 107 true,gC 113 .sub 112 1 107 true,iG 114 (.call 104 [(Tm 109),(Ci 0),(Tm 113)]) 107 true,iP 115 107 114,iM 8 115]
def wH:Rg:=[iC 116 .add 87 1,iM 87 116]
def FN:aC:=(sq aAL (.seq (.cond (Tm 88) .skip (.exit 2)) (.seq (.block 3 (sq aAM (sq aAN (.region VS)))) (.region wH))))
def VT:Rg:=[iF 117 3 1,iL 118 117,iA 119 (.slice 7 (Tm 118) (some (Ci 1)) none none),iN 120 119,iI 121 0]
def aAO:Rg:=[iB 122 .lss 121 120]
def aAP:Rg:=[iX 123 7 119 121,iO 124 7 123,iA 14 (.alloc [(.str []),(.int .i64 0),(.int .i64 0),(.int .i64 0),(.bool false),.aB,.aB]),iS 7 14 124]
def aAQ:Rg:=[iM 125 5,iF 126 0 14,iL 127 126,iA 128 (.bHE true 1 1 [(.str [])] [(0,(Tm 127))]),iA 129 (.append 1 16 (Tm 125) (Tm 128)),iM 5 129]
def aAR:Rg:=[iC 130 .add 121 1,iM 121 130]
def FO:aC:=(sq aAO (.seq (.cond (Tm 122) .skip (.exit 4)) (.seq (.block 5 (sq aAP (.region aAQ))) (.region aAR))))
def VU:Rg:=[iF 131 4 1,iL 132 131,iN 133 132,iI 134 0]
def aAS:Rg:=[iB 135 .lss 134 133]
def aAT:Rg:=[iX 136 3 132 134,iO 137 3 136,iA 16 (.alloc [(.str []),(.int .i64 0),(.int .i64 0)]),iS 3 16 137]
def aAU:Rg:=[iM 138 5,iF 139 0 16,iL 140 139,iA 141 (.bHE true 1 1 [(.str [])] [(0,(Tm 140))]),iA 142 (.append 1 16 (Tm 138) (Tm 141)),iM 5 142]
def VV:Rg:=[iM 143 8,iM 144 143,gF 145 1 16 144 true,gL 146 145 144 true,gF 147 2 1 144 true,gL 148 147 144 true,gN 149 148 144 true,gC 150 .sub 149 1 144 true,iG 151 (.call 104 [(Tm 146),(Ci 0),(Tm 150)]) 144 true,iP 152 144 151,iM 153 152,gF 154 2 16 153 true,gL 155 154 153 true,gF 156 3 1 153 true,gL 157 156 153 true,gN 158 157 153 true,gC 159 .sub 158 1 153 true,iG 160 (.call 104 [(Tm 155),(Ci 0),(Tm 159)]) 153 true,iP 161 153 160,iM 162 161,gF 163 3 1 162 true,gL 164 163 162 true,gF 165 2 16 162 true,gL 166 165 162 true,iG 167 (.bHT 7 (Tm 164) (Tm 166)) 162 true,gF 168 1 167 162 true,gL 169 168 162 true,gC 170 .eql 169 4 162 true,iP 171 162 170,iM 8 171]
def rP:Rg:=[iC 172 .add 134 1,iM 134 172]
def FP:aC:=(sq aAS (.seq (.cond (Tm 135) .skip (.exit 6)) (.seq (.block 7 (sq aAT (sq aAU (.region VV)))) (.region rP))))
def VW:Rg:=[iF 173 5 1,iL 174 173,iN 175 174,iI 176 0]
def aAV:Rg:=[iB 177 .lss 176 175]
def aAW:Rg:=[iX 178 17 174 176,iO 179 17 178,iA 18 (.alloc [(.str []),(.int .i64 0),(.int .i64 0),(.int .i64 0),(.int .i64 0),(.int .i64 0),(.int .i64 0),(.int .i64 0),(.int .i64 0),.aB,.aB,(.bool false),.aB,.aB,(.bool false),.aB,.aB]),iS 17 18 179]
def aAX:Rg:=[iM 180 6,iF 181 0 18,iL 182 181,iA 183 (.bHE true 1 1 [(.str [])] [(0,(Tm 182))]),iA 184 (.append 1 16 (Tm 180) (Tm 183)),iM 6 184]
def VX:Rg:=[iM 185 8,iM 186 185,gO 187 17 18 186 true,gF 188 2 1 186 true,gL 189 188 186 true,gN 190 189 186 true,gK2 191 112 187 190 186 true,iP 192 186 191,iM 8 192]
def VY:Rg:=[iC 193 .add 176 1,iM 176 193]
def FQ:aC:=(sq aAV (.seq (.cond (Tm 177) .skip (.exit 8)) (.seq (.block 9 (sq aAW (sq aAX (.region VX)))) (.region VY))))
def VZ:Rg:=[iF 194 6 1,iL 195 194,iN 196 195,iI 197 0]
def aAY:Rg:=[iB 198 .lss 197 196]
def aAZ:Rg:=[iX 199 2 195 197,iO 200 2 199,iA 20 (.alloc [(.str []),(.int .i64 0)]),iS 2 20 200]
def aBA:Rg:=[iM 201 7,iF 202 0 20,iL 203 202,iA 204 (.bHE true 1 1 [(.str [])] [(0,(Tm 203))]),iA 205 (.append 1 16 (Tm 201) (Tm 204)),iM 7 205]
def WA:Rg:=[iM 206 8,iM 207 206,gF 208 1 20 207 true,gL 209 208 207 true,gF 210 5 1 207 true,gL 211 210 207 true,gN 212 211 207 true,gC 213 .sub 212 1 207 true,iG 214 (.call 104 [(Tm 209),(Ci 0),(Tm 213)]) 207 true,iP 215 207 214,iM 8 215]
def WB:Rg:=[iC 216 .add 197 1,iM 197 216]
def FS:aC:=(sq aAY (.seq (.cond (Tm 198) .skip (.exit 10)) (.seq (.block 11 (sq aAZ (sq aBA (.region WA)))) (.region WB))))
def wI:Rg:=[iM 217 8,iA 218 (.un .not (Tm 217)),iM 219 218,gM 220 3 219 false,gK 221 110 220 219 false,iG 222 (.un .not (Tm 221)) 219 false,iQ 223 219 222,iM 224 223,gM 225 4 224 false,gK 226 110 225 224 false,iG 227 (.un .not (Tm 226)) 224 false,iQ 228 224 227,iM 229 228,gM 230 5 229 false,gK 231 110 230 229 false,iG 232 (.un .not (Tm 231)) 229 false,iQ 233 229 232,iM 234 233,gM 235 6 234 false,gK 236 110 235 234 false,iG 237 (.un .not (Tm 236)) 234 false,iQ 238 234 237,iM 239 238,gM 240 7 239 false,gK 241 110 240 239 false,iG 242 (.un .not (Tm 241)) 239 false,iQ 243 239 242]
def lM:Rg:=[iI 2 1]
def FT:Rg:=[iI 2 0]
def MC:aC:=(sq aPX (.seq (sq aPY (.cond (Tm 65) (sq nJ .ret) .skip)) (sq aPZ (sq aQA (.seq (sq ajJ (.block 0 (.loop FL))) (.seq (sq VR (.block 2 (.loop FN))) (.seq (sq VT (.block 4 (.loop FO))) (.seq (sq VU (.block 6 (.loop FP))) (.seq (sq VW (.block 8 (.loop FQ))) (.seq (sq VZ (.block 10 (.loop FS))) (.seq (sq wI (.cond (Tm 243) (sq lM .ret) .skip)) (sq FT .ret))))))))))))
def blW:List Nat:=[1,76,94,128,141,183,204]
def aAK:aV:=⟨1,244,MC,[.tmp 2]⟩
@[go_sem] theorem btY (a b:List UInt8):KG .eql a b=some (.bool (a==b)):=(rfl)
@[go_sem] theorem btZ (a b:List UInt8):KG .neq a b=some (.bool !(a==b)):=(rfl)
@[go_sem] theorem btX (a b:List UInt8):KG .add a b=if ((a.length+b.length:Nat):Int)>9223372036854775807 then none else some (.str (a++b)):=(rfl)
@[go_sem] theorem bpU:(([]:List UInt8)==[])=true:=(rfl)
@[go_sem] theorem bkM (c:UInt8) (t:List UInt8):((c::t)==[])=false:=(rfl)
theorem nF {a b:List UInt8} (h:a=b):(a==b)=true:=by simp[h]
theorem YN {a b:List UInt8} (h:a≠b):(a==b)=false:=by simp[h]
section
variable {C:Ctx} {F:PF} {H:PH}
theorem oR {name o s:Nat} {rs:List (List PV)} {vs:List PV} {v:PV} {args:List aP} {d:Option Nat} {K:PF→PH→Prop} (h:aD C name vs .nil (aE v)) (ho:H o=some (.rows s rs))
  (ha:aP.evs (F.frz o s rs) args=some vs) (hK:K ((F.frz o s rs).put d v) (H.frz o s rs)):fP C name args [] d K F H:=by
 refine .inr ⟨_,_,.step o ho (.refl _ _),vs,.nil,aE v,?_,PH.nil_le,h,?_⟩
 ·rw[ha]; simp
 ·rintro r H' ⟨rfl,rfl⟩ -
  rw[PH.kS]
  exact hK
theorem iH.trans {F1 F2 F3:PF} {H1 H2 H3:PH} (h:iH F1 H1 F2 H2) (k:iH F2 H2 F3 H3):iH F1 H1 F3 H3:=by
 induction h with
 | refl=>exact k
 | step o ho h ih=>exact .step o ho (ih k)
theorem oC {c:aC} {K:cO} {s:Nat} {v:PV} {rows:List (List PV)} (ho:bO H s v rows)
  (h:∀ v1,Seen s v1 rows→∀ F1 H1,(∀ t,F t=some v→F1 t=some v1)→(∀ i u,F i=some u→Pure u→F1 i=some u)→aC.wp C (.loop c) K F1 H1):aC.wp C (.loop c) K F H:=by
 obtain⟨v1,hs,hf⟩:=ho.frz
 obtain⟨F1,H1,hz,h1,h2⟩:=hf F
 obtain⟨α,Fs,Hs,Pr,m,a0,F2,H2,hz2,rest⟩:=h v1 hs F1 H1 h1 h2
 exact⟨α,Fs,Hs,Pr,m,a0,F2,H2,hz.trans hz2,rest⟩
theorem aD.a0X {name s:Nat} {v:PV} {rows:List (List PV)} {H0:PH} {R:PV→PH→Prop} (h:aD C name [.sl s rows] H0 R) (hs:Seen s v rows):aD C name [v] H0 R:=by
 rcases hs with ⟨rfl,rfl⟩ | rfl
 ·refine h.args ⟨rfl,fun j p q hp hq=>?_⟩
  cases j with
  | zero=>simp at hp hq; subst hp; subst hq; exact .nil s
  | succ j=>simp at hp
 ·exact h
theorem bO.fresh {s:Nat} {v:PV} {rows:List (List PV)} {o:Nat} (h:bO H s v rows) (ho:H o=none) (x:cQ):bO (H.set o x) s v rows∧∀ l,v≠.osl o s 0 l:=by
 refine⟨h.ext fun q y hq=>?_,fun l e=>?_⟩
 ·have:q≠o:=by rintro rfl; rw[ho] at hq; cases hq
  simp only[bR,if_neg this,hq]
 ·rcases h with ⟨_,h2⟩ | ⟨q,rs,h1,h2,_⟩
  ·rw[h2] at e; cases e
  ·rw[h1] at e
   injection e with e1
   subst e1
   rw[ho] at h2; cases h2
theorem lC {s b:Nat} {v:PV} {rows:List (List PV)} {r:List PV} {o:Nat} {x:cQ} {K:PV→PH→Prop} (h:bO H s v rows) (ho:H o=none) (hr:roomFor rows.length 1 b)
  (hk:∀ v' H',bO H' s v' (rows++[r])→H' o=some x→K v' H'):lS (H.set o x) s b v (.sl s [r]) K:=by
 obtain⟨h1,h2⟩:=h.fresh ho x
 refine fU (src:=[r]) h1 (by simp[eN]) hr fun v' H' hO hp=>hk v' H' hO (hp o x (by simp only[bR,if_true]) h2)
theorem pO {o s k:Nat} {rs:List (List PV)} (hk:k≤rs.length):PV.frz o s rs (.osl o s 0 k)=.sl s (rs.take k):=by
 have:0+k≤rs.length:=by omega
 simp only[PV.frz,PV.rL,PV.dC,if_true,true_and,if_pos this,bKG]
end
open Go Go.Na
def eT (n:Nat):Bool:=decide (97≤n)&&decide (n≤122)||decide (65≤n)&&decide (n≤90)
def kI (n:Nat):Bool:=decide (48≤n)&&decide (n≤57)
def fG (n:Nat):Bool:=eT n||kI n||decide (n=45)||decide (n=46)
theorem aZF {C:Ctx} (n:Nat):jX.wp C (aT vJ.res (aE (.bool (eT n)))) (PF.args [.int .u8 n]) .nil:=by
 have fin:∀ (F:PF) (b:Bool),F 2=some (.bool b)→b=eT n→aT vJ.res (aE (.bool (eT n))) .ret F .nil:=by
  intro F b h e
  subst e
  refine aM (.inr rfl) (vs:=[.bool (eT n)]) (by simp only[go_sem,vJ,h]) rfl
 unfold eT at *
 by_cases a:97≤n
 ·have a':(n:Int)≥97:=by omega
  by_cases b:n≤122
  ·have b':(n:Int)≤122:=by omega
   simp only[go_sem,γ,reduceCtorEq,jX,nM,nN,a',b']
   exact fin _ _ rfl (by simp[a,b])
  ·have b':¬ (n:Int)≤122:=by omega
   by_cases c:65≤n
   ·have c':(n:Int)≥65:=by omega
    have d:¬ (n:Int)≤90:=by omega
    simp only[go_sem,γ,reduceCtorEq,jX,nM,nN,a',b',c',d]
    exact fin _ _ rfl (by simp[a,b,c]; omega)
   ·omega
 ·have a':¬ (n:Int)≥97:=by omega
  by_cases c:65≤n
  ·have c':(n:Int)≥65:=by omega
   by_cases d:n≤90
   ·have d':(n:Int)≤90:=by omega
    simp only[go_sem,γ,reduceCtorEq,jX,nM,nN,a',c',d']
    exact fin _ _ rfl (by simp[a,c,d])
   ·have d':¬ (n:Int)≤90:=by omega
    simp only[go_sem,γ,reduceCtorEq,jX,nM,nN,a',c',d']
    exact fin _ _ rfl (by simp[a,c,d])
  ·have c':¬ (n:Int)≥65:=by omega
   simp only[go_sem,γ,reduceCtorEq,jX,nM,nN,a',c']
   exact fin _ _ rfl (by simp[a,c])
theorem a5Z {C:Ctx} (n:Nat):oM.wp C (aT CD.res (aE (.bool (kI n)))) (PF.args [.int .u8 n]) .nil:=by
 have fin:∀ (F:PF) (b:Bool),F 2=some (.bool b)→b=kI n→aT CD.res (aE (.bool (kI n))) .ret F .nil:=by
  intro F b h e
  subst e
  refine aM (.inr rfl) (vs:=[.bool (kI n)]) (by simp only[go_sem,CD,h]) rfl
 unfold kI at *
 by_cases a:48≤n
 ·have a':(n:Int)≥48:=by omega
  by_cases b:n≤57
  ·have b':(n:Int)≤57:=by omega
   simp only[go_sem,γ,reduceCtorEq,oM,xX,xY,a',b']
   exact fin _ _ rfl (by simp[a,b])
  ·have b':¬ (n:Int)≤57:=by omega
   simp only[go_sem,γ,reduceCtorEq,oM,xX,xY,a',b']
   exact fin _ _ rfl (by simp[a,b])
 ·have a':¬ (n:Int)≥48:=by omega
  simp only[go_sem,γ,reduceCtorEq,oM,xX,xY,a']
  exact fin _ _ rfl (by simp[a])
theorem a6C {C:Ctx} (h1:∀ n:Nat,aD C 126 [.int .u8 n] .nil (aE (.bool (eT n)))) (h2:∀ n:Nat,aD C 124 [.int .u8 n] .nil (aE (.bool (kI n)))) (n:Nat) :
  zL.wp C (aT CE.res (aE (.bool (fG n)))) (PF.args [.int .u8 n]) .nil:=by
 have fin:∀ (F:PF) (b:Bool),F 2=some (.bool b)→b=fG n→aT CE.res (aE (.bool (fG n))) .ret F .nil:=by
  intro F b h e
  subst e
  refine aM (.inr rfl) (vs:=[.bool (fG n)]) (by simp only[go_sem,CE,h]) rfl
 simp only[go_sem,reduceCtorEq,zL,aoE,aoF]
 refine aA (h1 n) rfl ?_
 cases hl:eT n with
 | true =>
  simp only[go_sem,γ]
  exact fin _ _ rfl (by simp[fG,hl])
 | false =>
  simp only[go_sem,γ,reduceCtorEq]
  refine aA (h2 n) rfl ?_
  cases hd:kI n with
  | true =>
   simp only[go_sem,γ,reduceCtorEq]
   exact fin _ _ rfl (by simp[fG,hd])
  | false =>
   by_cases c:n=45
   ·simp only[go_sem,γ,reduceCtorEq,bW (Om:(n:Int)=45)]
    exact fin _ _ rfl (by simp[fG,c])
   ·by_cases d:n=46
    ·simp only[go_sem,γ,reduceCtorEq,bF (Om:(n:Int)≠45),bW (Om:(n:Int)=46)]
     exact fin _ _ rfl (by simp[fG,d])
    ·simp only[go_sem,γ,reduceCtorEq,bF (Om:(n:Int)≠45),bF (Om:(n:Int)≠46)]
     exact fin _ _ rfl (by simp[fG,c,d,hl,hd])
def isName (s:List UInt8):Bool:=match s with
 | []=>false
 | c::_=>decide (s.length≤16)&&eT c.toNat&&s.all fun c=>fG c.toNat
theorem mQ {α:Type} {p:α→Bool} {l:List α} {k:Nat} (hk:k<l.length) (h:(l.take k).all p=true) (hp:p l[k]=true):(l.take (k+1)).all p=true:=by
 rw[bLC hk,List.all_append,h]; simp[hp]
theorem mR {α:Type} {p:α→Bool} {l:List α} {k:Nat} (hk:k<l.length) (hp:p l[k]=false):l.all p=false:=by
 rw[List.all_eq_false]
 exact⟨l[k],bJG hk,by simp[hp]⟩
def aBL (s:List UInt8) (k:Nat):PF:=((PF.nil.set 0 (.str s)).set 3 (.int .i64 k))
theorem bfC {C:Ctx} (h1:∀ n:Nat,aD C 126 [.int .u8 n] .nil (aE (.bool (eT n)))) (h2:∀ n:Nat,aD C 125 [.int .u8 n] .nil (aE (.bool (fG n)))) (s:List UInt8) :
  qP.wp C (aT RE.res (aE (.bool (isName s)))) (PF.args [.str s]) .nil:=by
 have fin:∀ (F:PF) (b:Bool),F 2=some (.bool b)→b=isName s→aT RE.res (aE (.bool (isName s))) .ret F .nil:=by
  intro F b h e
  subst e
  refine aM (.inr rfl) (vs:=[.bool (isName s)]) (by simp only[go_sem,RE,h]) rfl
 cases s with
 | nil =>
  simp only[go_sem,γ,reduceCtorEq,qP,GD,GF,GG]
  exact fin _ _ rfl rfl
 | cons c t =>
  have hz:(c::t)[0]?=some c:=rfl
  have hne:(c::t==[])=false:=rfl
  have hN:isName (c::t)=(decide ((c::t).length≤16)&&eT c.toNat&&(c::t).all fun c=>fG c.toNat):=rfl
  generalize c::t=s at *
  by_cases hl:s.length≤16
  ·have hl':¬ ((s.length:Nat):Int)>16:=by omega
   rw[decide_eq_true hl,bJM] at hN
   simp only[go_sem,ν,γ,reduceCtorEq,qP,GD,GF,hne,hl',hz,bKL]
   refine aA (h1 c.toNat) rfl ?_
   cases hc:eT c.toNat with
   | false =>
    simp only[go_sem,γ,reduceCtorEq,bJQ,GG]
    exact fin _ _ rfl (by rw[hN,hc]; rfl)
   | true =>
    rw[hc,bJM] at hN
    simp only[go_sem,γ,reduceCtorEq,bJK,aBN]
    refine wp_loop (α:=Nat) (fun k=>aBL s k) (fun _=>.nil) (fun k=>k≤s.length∧(s.take k).all (fun c=>fG c.toNat)=true) (fun k=>s.length-k) 0 ⟨bJO _,rfl⟩ ?_ PH.nil_le ?_
    ·unfold aBL
     exact Lq
    rintro k ⟨hk,ha⟩
    simp only[go_sem,γ,reduceCtorEq,aBM,aBO,aBL]
    by_cases hlt:k<s.length
    ·have bHF:(k:Int)<(s.length:Nat):=by omega
     have hg:s[k]?=some s[k]:=bJN hlt
     simp only[go_sem,γ,reduceCtorEq,bHF,aBP,hg,bKL]
     refine aA (h2 (s[k]).toNat) rfl ?_
     cases hi:fG (s[k]).toNat with
     | false =>
      simp only[go_sem,γ,reduceCtorEq,bJQ,aBQ]
      refine fin _ false rfl ?_
      rw[hN,mR hlt hi]
     | true =>
      simp only[go_sem,γ,reduceCtorEq,bJK,aBR,wZz k]
      refine aK (k+1) ⟨hlt,bJW.1 (mQ hlt ha hi)⟩ Om ?_ PH.nil_le
      exact Lq
    ·have bHF:¬ (k:Int)<(s.length:Nat):=by omega
     simp only[go_sem,bHF,aBS]
     have:k=s.length:=by omega
     subst this
     rw[bJS (bJF _)] at ha
     exact fin _ true rfl (by rw[hN,ha])
  ·have hl':((s.length:Nat):Int)>16:=by omega
   simp only[go_sem,γ,reduceCtorEq,qP,GD,GF,GG,hne,hl']
   exact fin _ _ rfl (by rw[hN,decide_eq_false hl]; rfl)
abbrev cV (x:Int):Prop:=-9223372036854775808≤x∧x≤9223372036854775807
structure cM where
 name:List UInt8
 start:List RF
 bHD:List (List RF)
 exit:List RF
structure cU where
 name:List UInt8
 bHS:Int
 port:Int
 law:Int
structure bN where
 name:List UInt8
 level:Int
 parent:Int
 bHY:Int
 bHQ:RF
structure cC where
 name:List UInt8
 model:Int
 machine:Int
structure dA where
 name:List UInt8
 k:Int
 m:Int
 bIC:Int
 s0:Int
 s1:Int
 s2:Int
 s3:Int
 s4:Int
 bGZ:List Int
 repair:List RF
 target:RF
 bHK:RF
structure dY where
 name:List UInt8
 bHM:Int
structure aJ where
 bIM:Int
 bHH:List cM
 bGZ:List cU
 bHB:List bN
 bGY:List cC
 bHC:List dA
 bHA:List dY
abbrev a0S (l:List (List RF)):PV:=.sl 1 (l.map fun r=>[frs r])
abbrev cM.cells (x:cM):List PV:=[.str x.name,frs x.start,a0S x.bHD,frs x.exit]
abbrev cU.cells (x:cU):List PV:=[.str x.name,.int .i64 x.bHS,.int .i64 x.port,.int .i64 x.law]
abbrev bN.cells (x:bN):List PV:=[.str x.name,.int .i64 x.level,.int .i64 x.parent,.int .i64 x.bHY,.bool x.bHQ.neg,aF x.bHQ.num,aF x.bHQ.den]
abbrev cC.cells (x:cC):List PV:=[.str x.name,.int .i64 x.model,.int .i64 x.machine]
abbrev dA.cells (x:dA):List PV:=[.str x.name,.int .i64 x.k,.int .i64 x.m,.int .i64 x.bIC,.int .i64 x.s0,.int .i64 x.s1,.int .i64 x.s2,.int .i64 x.s3,.int .i64 x.s4,ints x.bGZ,frs x.repair,
 .bool x.target.neg,aF x.target.num,aF x.target.den,.bool x.bHK.neg,aF x.bHK.num,aF x.bHK.den]
abbrev dY.cells (x:dY):List PV:=[.str x.name,.int .i64 x.bHM]
abbrev aJ.cells (f:aJ):List PV:=[.int .i64 f.bIM,.sl 4 (f.bHH.map cM.cells),.sl 4 (f.bGZ.map cU.cells),.sl 7 (f.bHB.map bN.cells),.sl 3 (f.bGY.map cC.cells),.sl 17 (f.bHC.map dA.cells),.sl 2 (f.bHA.map dY.cells)]
def dA.spread (p:dA) (level:Nat):Int:=match level with
 | 0=>p.s0
 | 1=>p.s1
 | 2=>p.s2
 | 3=>p.s3
 | _=>p.s4
abbrev Fits {α:Type} (l:List α):Prop:=l.length≤9223372036854775807
structure jE (l:List RF):Prop where
 fits:Fits l
 all:∀ x∈l,x.Ok
structure cM.Ok (x:cM):Prop where
 start:jE x.start
 exit:jE x.exit
 bHD:Fits x.bHD
 row:∀ r∈x.bHD,jE r
structure dA.Ok (x:dA):Prop where
 k:cV x.k
 m:cV x.m
 bIC:cV x.bIC
 bGZ:Fits x.bGZ
 each:∀ m∈x.bGZ,cV m
 repair:jE x.repair
 target:x.target.Ok
 bHK:x.bHK.Ok
structure aJ.Ok (f:aJ):Prop where
 bHH:Fits f.bHH
 bGZ:Fits f.bGZ
 bHB:Fits f.bHB
 bGY:Fits f.bGY
 bHC:Fits f.bHC
 bHA:Fits f.bHA
 law:∀ x∈f.bHH,x.Ok
 dom:∀ x∈f.bHB,x.bHQ.Ok∧cV x.level∧cV x.parent
 drive:∀ x∈f.bGY,cV x.model∧cV x.machine
 bHM:∀ x∈f.bHC,x.Ok
 volume:∀ x∈f.bHA,cV x.bHM
def mE (x:RF):FR:=if cN (val x.num) (val x.den) then gE x.neg (val x.num) (val x.den) else .error 1
theorem a0N (x:RF):RH x.neg (val x.num) (val x.den)=frV (mE x):=by
 unfold RH mE
 split
 ·exact ajQ _ _ _
 ·rfl
def cH (x:RF):Bool:=match mE x with
 | .ok (n,a,b)=>!n&&(decide (cD a≤32)&&decide (cD b≤32))
 | .error _=>false
def cA (x:RF):Bool:=decide (val x.num≠0)
def rU (x:RF):Bool:=cN (val x.num) (val x.den)&&decide (pE x.neg (val x.num) (val x.den) false 1 1≤0)
def within (n lo hi:Int):Bool:=decide (lo≤n)&&decide (n≤hi)
def cP (R:List Bool) (i:Nat) (row:List RF):Nat→List Bool
 | 0=>R
 | k+1=>let R':=cP R i row k
  R'.set i (R'.getD i false||(row.map cA).getD k false&&R'.getD k false)
def wR (l:cM) (R:List Bool) (i:Nat):List Bool :=
 cP (R.set i (R.getD i false||(l.exit.map cA).getD i false)) i (l.bHD.getD i []) (l.bHD.getD i []).length
def cZ (l:cM) (R:List Bool):Nat→List Bool
 | 0=>R
 | i+1=>wR l (cZ l R i) i
def dD (l:cM):Nat→List Bool
 | 0=>bJE l.exit.length false
 | r+1=>cZ l (dD l r) l.exit.length
def uD (l:cM):Bool:=(dD l (l.exit.length+1)).all id
def jW (l:cM):Bool :=
 within l.start.length 1 4&&decide (l.exit.length=l.start.length)&&decide (l.bHD.length=l.start.length)&&l.start.all cH&&l.exit.all cH
 && (bJD l.bHD.length).all (fun i=>decide ((l.bHD.getD i []).length=l.start.length)&&(l.bHD.getD i []).all cH&&!((l.bHD.getD i []).map cA).getD i false)
 && (match nB (l.start.map RF.v) with
  | .ok (n,a,b)=>decide (pE n a b false 1 1=0)
  | .error _=>false)&&uD l
def distinct (l:List (List UInt8)):Bool:=(bJD l.length).all fun i=>isName (l.getD i [])&&!(l.take i).contains (l.getD i [])
def ER (f:aJ) (i:Nat) (d:bN):Bool :=
 within d.parent 0 i&&decide ((f.bHB.map bN.level).getD d.parent.toNat 0=IntKind.i64.wrap (d.level-1))&&within d.level 1 4&&within d.bHY 1 64&&cH d.bHQ
def xM (f:aJ) (r:bN) (t:List bN):Bool :=
 decide (r.name=[])&&decide (r.level=0)&&decide (r.parent=-1)&&decide (r.bHY=0)&&cH r.bHQ&&!cA r.bHQ
  && (bJD t.length).all fun i=>match t[i]? with
   | some d=>ER f i d
   | none=>false
def mI (f:aJ):Bool:=match f.bHB with
 | []=>false
 | r::t=>xM f r t
def GT (p:dA):Bool :=
 within p.k 1 6&&within p.m 0 4&&decide (p.k+p.m≤8)&&within p.bIC p.k (p.k+p.m)&&decide (p.s0=0)&&([p.s0,p.s1,p.s2,p.s3,p.s4].all fun n=>within n 0 8)
def yC (p:dA):Bool :=
 decide ((p.repair.length:Int)=max p.m 1)&&(p.repair.all fun x=>cH x&&cA x)&&cH p.target&&rU p.target&&cH p.bHK
def iR (bGZ:Nat) (p:dA):Bool :=
 GT p&&decide (p.bGZ.length≠0)&&yC p&&(bJD p.bGZ.length).all fun j=>within (p.bGZ.getD j 0) 0 ((bGZ:Int)-1)&&!(p.bGZ.take j).contains (p.bGZ.getD j 0)
def jC (f:aJ) (m:cU):Bool:=within m.bHS 1 16&&within m.port 1 64&&within m.law 0 ((f.bHH.length:Int)-1)
def gG (f:aJ) (d:cC):Bool:=within d.model 0 ((f.bGZ.length:Int)-1)&&within d.machine 0 ((f.bHB.length:Int)-1)&&decide ((f.bHB.map bN.level).getD d.machine.toNat 0=4)
def mF (f:aJ) (v:dY):Bool:=within v.bHM 0 ((f.bHC.length:Int)-1)
def lF (f:aJ):Bool:=within f.bIM 1 4&&decide (f.bHH.length≤4)&&decide (f.bGZ.length≤4)&&decide (f.bHB.length≤40)&&decide (f.bGY.length≤24)&&decide (f.bHC.length≤4)&&decide (f.bHA.length≤12)
def dS (f:aJ):Bool :=
 lF f&&mI f&&(f.bHH.all jW&&f.bGZ.all (jC f)&&f.bGY.all (gG f)&&f.bHC.all (iR f.bGZ.length)&&f.bHA.all (mF f))
 && (distinct (f.bHH.map cM.name)&&distinct (f.bGZ.map cU.name)&&distinct ((f.bHB.drop 1).map bN.name++f.bGY.map cC.name)&&distinct (f.bHC.map dA.name)&&distinct (f.bHA.map dY.name))
theorem bA {t:Nat} {b b':Bool} {F:PF} {H:PH} (h:F t=some (.bool b)) (e:b=b'):aT [.tmp t] (bZ (.bool b')) .ret F H:=by
 subst e
 exact aX (.inr rfl) .nil (vs:=[.bool b]) (by rw[kU,nU,h,pU]) PH.nil_le ⟨.refl _,rfl⟩
theorem bqK {C:Ctx} (n lo hi:Int):wE.wp C (aT gin.res (bZ (.bool (within n lo hi)))) (PF.args [.int .i64 n,.int .i64 lo,.int .i64 hi]) .nil:=by
 by_cases a:lo≤n
 ·by_cases b:n≤hi
  ·simp only[go_sem,γ,reduceCtorEq,wE,abD,abE,gin,show n≥lo from a,b]
   exact bA rfl (by simp[within,a,b])
  ·simp only[go_sem,γ,reduceCtorEq,wE,abD,abE,gin,show n≥lo from a,b]
   exact bA rfl (by simp[within,a,b])
 ·have a':¬ n≥lo:=a
  simp only[go_sem,γ,reduceCtorEq,wE,abD,abE,gin,a']
  exact bA rfl (by simp[within,a])
theorem a5J {C:Ctx} (L:qH C) (x:RF) (hx:x.Ok):zH.wp C (aT LN.res (bZ (.bool (cA x)))) (PF.args [.agg x.cells]) .nil:=by
 simp only[go_sem,δ,γ,θ,zH,anF,anG,LN]
 refine aA (L.bits x.num hx.1 hx.2.2.1) rfl ?_
 simp only[go_sem,γ]
 refine bA rfl ?_
 have:=@jB (val x.num)
 rw[cA,decide_eq_decide]
 omega
structure auO (C:Ctx):Prop extends DE C where
 frac:∀ n d:Int,cV n→cV d→aD C 115 [.int .i64 n,.int .i64 d] .nil (aE (acF n d))
 red:∀ x:RF,x.Ok→aD C 116 [.agg x.cells] .nil (aE (frV (mE x)))
 ord:∀ x y:RF,x.Ok→y.Ok→aD C 114 [.agg x.cells,.agg y.cells] .nil (aE (xO x.neg (val x.num) (val x.den) y.neg (val y.num) (val y.den)))
 plus:∀ x y:RF,x.Ok→y.Ok→aD C 113 [.agg x.cells,.agg y.cells] .nil (aE (frV (gQ x.v y.v)))
 tot:∀ l:List RF,jE l→aD C 117 [frs l] .nil (aE (frV (nB (l.map RF.v))))
theorem GH {neg:Bool} {a b:Nat} {e:Int} (h:gE neg a b=.error e):e=2:=by
 unfold gE at h
 split at h
 ·injection h with h; exact h.symm
 ·cases h
theorem aFN {x:RF} {e:Int} (h:mE x=.error e):e≠0:=by
 unfold mE at h
 split at h
 ·rw[GH h]; decide
 ·injection h with h; subst h; decide
theorem bnS {x:RF} {r:FV} (h:mE x=.ok r):r.rf.Ok:=by
 unfold mE at h
 split at h
 ·exact (qQ h).2
 ·cases h
theorem blN {C:Ctx} (L:auO C) (x:RF) (hx:x.Ok):LT.wp C (aT azR.res (bZ (.bool (cH x)))) (PF.args [.agg x.cells]) .nil:=by
 simp only[go_sem,δ,γ,LT,aPH,aPI,azR]
 refine aA (L.red x hx) rfl ?_
 unfold cH
 cases hr:mE x with
 | error e =>
  have:=bF (aFN hr)
  simp only[go_sem,δ,γ,frV]
  refine aQ fun o ho=>?_
  simp only[go_sem,δ,γ,reduceCtorEq,RB,this]
  exact bA rfl rfl
 | ok r =>
  obtain⟨n,a,b⟩:=r
  obtain⟨l1,l2,l3,l4⟩:=bnS hr
  simp only[go_sem,δ,γ,frV]
  refine aQ fun o ho=>?_
  cases n with
  | true =>
   simp only[go_sem,ρ,δ,γ,θ,reduceCtorEq,RB]
   exact bA rfl rfl
  | false =>
   simp only[go_sem,ρ,δ,γ,θ,RB]
   refine aA (L.bits _ l1 l3) rfl ?_
   rw[show val (FV.rf (false,a,b)).num=a from aR a]
   by_cases c1:cD a≤32
   ·have c1':((cD a:Nat):Int)≤32:=by omega
    simp only[go_sem,δ,γ,c1']
    refine aA (L.bits _ l2 l4) rfl ?_
    rw[show val (FV.rf (false,a,b)).den=b from aR b]
    simp only[go_sem,γ]
    refine bA rfl ?_
    rw[decide_eq_true c1]
    simp
    omega
   ·have c1':¬ ((cD a:Nat):Int)≤32:=by omega
    simp only[go_sem,γ,reduceCtorEq,c1']
    refine bA rfl ?_
    rw[decide_eq_false c1]
    rfl
theorem aBU:gE false 1 1=.ok (false,1,1):=by
 have:cD 1=1:=by rw[mT (by decide),iD]
 simp[gE,this]
theorem aBZ:acF 1 1=frV (.ok (false,1,1)):=by
 rw[acF,if_neg (by decide),ajQ]
 show frV (gE false 1 1)=_
 rw[aBU]
theorem a7G:(FV.rf (false,1,1)).Ok:=(qQ aBU).2
theorem arI:cN 1 1=true:=by
 have:cD 1=1:=by rw[mT (by decide),iD]
 simp[cN,this]
theorem blR {C:Ctx} (L:auO C) (x:RF) (hx:x.Ok):LZ.wp C (aT gone.res (bZ (.bool (rU x)))) (PF.args [.agg x.cells]) .nil:=by
 simp only[go_sem,LZ,aPM,aPN,gone]
 refine aA (L.frac 1 1 (by decide) (by decide)) rfl ?_
 rw[aBZ]
 simp only[go_sem,δ,γ,frV]
 refine aQ fun o ho=>?_
 simp only[go_sem,δ,γ,aPO]
 refine aA (L.ord x (FV.rf (false,1,1)) hx a7G) rfl ?_
 rw[show val (FV.rf (false,1,1)).num=1 from aR 1,show val (FV.rf (false,1,1)).den=1 from aR 1,show (FV.rf (false,1,1)).neg=false from rfl]
 unfold xO rU
 rw[arI,bLE]
 cases hv:cN (val x.num) (val x.den) with
 | false =>
  simp only[go_sem,ρ,γ,reduceCtorEq,ajH]
  exact bA rfl rfl
 | true =>
  simp only[go_sem,ρ,γ,ajH]
  exact bA rfl rfl
theorem beC {C:Ctx} (p:RF→Bool) (fn:Nat) (l:List RF) (hf:Fits l) (h:∀ x∈l,aD C fn [.agg x.cells] .nil (aE (.bool (p x)))) :
  FC.wp C (aT abA.res (bZ (.bool (l.all p)))) (PF.args [frs l,.fn fn []]) .nil:=by
 simp only[go_sem,γ,reduceCtorEq,FC,ayO,ayP,abA]
 refine wp_loop (α:=Nat) (fun k=>((((PF.nil.set 1 (.fn fn [])).set 7 (frs l)).set 8 (.int .i64 (l.length:Nat))).set 9 (.int .i64 k))) (fun _=>.nil) (fun k=>k≤l.length∧(l.take k).all p=true) (fun k=>l.length-k) 0 ⟨bJO _,rfl⟩ ?_ PH.nil_le ?_
 ·(repeat' (first|exact PF.nil_le|refine PF.aI ?_ ?_))<;>first|(simp only[go_sem,γ,bJC]<;>rfl)|rfl
 rintro k ⟨hk,ha⟩
 simp only[go_sem,γ,ayN,ayQ]
 by_cases hlt:k<l.length
 ·have bHF:(k:Int)<(l.length:Nat):=by omega
  have hr:(l.map RF.cells)[k]?=some (l[k]).cells:=by simp[hlt]
  simp only[go_sem,δ,γ,bHF,ayR,hr]
  refine aQ fun o ho=>?_
  simp only[go_sem,δ,γ,ayS]
  refine⟨fn,[],rfl,?_⟩
  refine aA (h _ (bJG hlt)) rfl ?_
  cases hp:p l[k] with
  | false =>
   simp only[go_sem,γ,ayT]
   exact bA (b:=false) rfl (mR (p:=p) hlt hp).symm
  | true =>
   simp only[go_sem,γ,ayU,wZz k]
   refine aK (k+1) ⟨hlt,bJW.1 (mQ hlt ha hp)⟩ Om ?_ PH.nil_le
   exact Lq
 ·have bHF:¬ (k:Int)<(l.length:Nat):=by omega
  simp only[go_sem,bHF,ayV]
  have:k=l.length:=by omega
  subst this
  rw[bJS (bJF _)] at ha
  exact bA rfl ha.symm
theorem beE {C:Ctx} (p:Int→Bool) (fn:Nat) (l:List Int) (hf:Fits l) (h:∀ x∈l,aD C fn [.int .i64 x] .nil (aE (.bool (p x)))) :
  FD.wp C (aT abB.res (bZ (.bool (l.all p)))) (PF.args [ints l,.fn fn []]) .nil:=by
 simp only[go_sem,γ,reduceCtorEq,FD,ayX,ayY,abB]
 refine wp_loop (α:=Nat) (fun k=>((((PF.nil.set 1 (.fn fn [])).set 7 (ints l)).set 8 (.int .i64 (l.length:Nat))).set 9 (.int .i64 k))) (fun _=>.nil) (fun k=>k≤l.length∧(l.take k).all p=true) (fun k=>l.length-k) 0 ⟨bJO _,rfl⟩ ?_ PH.nil_le ?_
 ·(repeat' (first|exact PF.nil_le|refine PF.aI ?_ ?_))<;>first|(simp only[go_sem,γ,bJC]<;>rfl)|rfl
 rintro k ⟨hk,ha⟩
 simp only[go_sem,γ,ayW,ayZ]
 by_cases hlt:k<l.length
 ·have bHF:(k:Int)<(l.length:Nat):=by omega
  have hr:(l.map fun n=>[PV.int .i64 n])[k]?=some [.int .i64 l[k]]:=by simp[hlt]
  simp only[go_sem,γ,bHF,azA,hr,azB]
  refine⟨fn,[],rfl,?_⟩
  refine aA (h _ (bJG hlt)) rfl ?_
  cases hp:p l[k] with
  | false =>
   simp only[go_sem,γ,azC]
   exact bA (b:=false) rfl (mR (p:=p) hlt hp).symm
  | true =>
   simp only[go_sem,γ,azD,wZz k]
   refine aK (k+1) ⟨hlt,bJW.1 (mQ hlt ha hp)⟩ Om ?_ PH.nil_le
   exact Lq
 ·have bHF:¬ (k:Int)<(l.length:Nat):=by omega
  simp only[go_sem,bHF,azE]
  have:k=l.length:=by omega
  subst this
  rw[bJS (bJF _)] at ha
  exact bA rfl ha.symm
abbrev aXM (l:List Bool):PV:=.sl 1 (l.map fun b=>[PV.bool b])
theorem beA {C:Ctx} (p:Bool→Bool) (fn:Nat) (l:List Bool) (hf:Fits l) (h:∀ x∈l,aD C fn [.bool x] .nil (aE (.bool (p x)))) :
  FB.wp C (aT aaZ.res (bZ (.bool (l.all p)))) (PF.args [aXM l,.fn fn []]) .nil:=by
 simp only[go_sem,γ,reduceCtorEq,FB,ayF,ayG,aaZ]
 refine wp_loop (α:=Nat) (fun k=>((((PF.nil.set 1 (.fn fn [])).set 7 (aXM l)).set 8 (.int .i64 (l.length:Nat))).set 9 (.int .i64 k))) (fun _=>.nil) (fun k=>k≤l.length∧(l.take k).all p=true) (fun k=>l.length-k) 0 ⟨bJO _,rfl⟩ ?_ PH.nil_le ?_
 ·(repeat' (first|exact PF.nil_le|refine PF.aI ?_ ?_))<;>first|(simp only[go_sem,γ,bJC]<;>rfl)|rfl
 rintro k ⟨hk,ha⟩
 simp only[go_sem,γ,ayE,ayH]
 by_cases hlt:k<l.length
 ·have bHF:(k:Int)<(l.length:Nat):=by omega
  have hr:(l.map fun b=>[PV.bool b])[k]?=some [.bool l[k]]:=by simp[hlt]
  simp only[go_sem,γ,bHF,ayI,hr,ayJ]
  refine⟨fn,[],rfl,?_⟩
  refine aA (h _ (bJG hlt)) rfl ?_
  cases hp:p l[k] with
  | false =>
   simp only[go_sem,γ,ayK]
   exact bA (b:=false) rfl (mR (p:=p) hlt hp).symm
  | true =>
   simp only[go_sem,γ,ayL,wZz k]
   refine aK (k+1) ⟨hlt,bJW.1 (mQ hlt ha hp)⟩ Om ?_ PH.nil_le
   exact Lq
 ·have bHF:¬ (k:Int)<(l.length:Nat):=by omega
  simp only[go_sem,bHF,ayM]
  have:k=l.length:=by omega
  subst this
  rw[bJS (bJF _)] at ha
  exact bA rfl ha.symm
theorem a5L {C:Ctx} (b:Bool):zI.wp C (aT LO.res (bZ (.bool b))) (PF.args [.bool b]) .nil:=by
 simp only[go_sem,γ,reduceCtorEq,zI,anH,anI,LO]
 exact bA rfl rfl
theorem beJ {C:Ctx} (hin:∀ n lo hi:Int,aD C 104 [.int .i64 n,.int .i64 lo,.int .i64 hi] .nil (aE (.bool (within n lo hi)))) (n:Int):FI.wp C (aT abF.res (bZ (.bool (within n 0 8)))) (PF.args [.int .i64 n]) .nil:=by
 simp only[go_sem,reduceCtorEq,FI,azT,azU,abF]
 refine aA (hin n 0 8) rfl ?_
 simp only[go_sem,γ]
 exact bA rfl rfl
theorem a5O {C:Ctx} (h1:∀ x:RF,x.Ok→aD C 105 [.agg x.cells] .nil (aE (.bool (cH x)))) (h2:∀ x:RF,x.Ok→aD C 97 [.agg x.cells] .nil (aE (.bool (cA x)))) (x:RF) (hx:x.Ok) :
  zJ.wp C (aT MB.res (bZ (.bool (cH x&&cA x)))) (PF.args [.agg x.cells]) .nil:=by
 simp only[go_sem,δ,γ,zJ,anN,anO,MB]
 refine aA (h1 x hx) rfl ?_
 cases hl:cH x with
 | false =>
  simp only[go_sem,γ,reduceCtorEq]
  exact bA rfl rfl
 | true =>
  simp only[go_sem,δ,γ]
  refine aA (h2 x hx) rfl ?_
  simp only[go_sem,γ]
  exact bA rfl rfl
structure qG (C:Ctx):Prop extends auO C where
 inn:∀ n lo hi:Int,aD C 104 [.int .i64 n,.int .i64 lo,.int .i64 hi] .nil (aE (.bool (within n lo hi)))
 tT:∀ x:RF,x.Ok→aD C 97 [.agg x.cells] .nil (aE (.bool (cA x)))
 lim:∀ x:RF,x.Ok→aD C 105 [.agg x.cells] .nil (aE (.bool (cH x)))
 one:∀ x:RF,x.Ok→aD C 101 [.agg x.cells] .nil (aE (.bool (rU x)))
 allf:∀ (p:RF→Bool) (fn:Nat) (l:List RF),Fits l→(∀ x∈l,aD C fn [.agg x.cells] .nil (aE (.bool (p x))))→aD C 99 [frs l,.fn fn []] .nil (aE (.bool (l.all p)))
 alli:∀ (p:Int→Bool) (fn:Nat) (l:List Int),Fits l→(∀ x∈l,aD C fn [.int .i64 x] .nil (aE (.bool (p x))))→aD C 100 [ints l,.fn fn []] .nil (aE (.bool (l.all p)))
 allb:∀ (p:Bool→Bool) (fn:Nat) (l:List Bool),Fits l→(∀ x∈l,aD C fn [.bool x] .nil (aE (.bool (p x))))→aD C 98 [aXM l,.fn fn []] .nil (aE (.bool (l.all p)))
 ends1:∀ b:Bool,aD C 103 [.bool b] .nil (aE (.bool b))
 num1:∀ n:Int,aD C 107 [.int .i64 n] .nil (aE (.bool (within n 0 8)))
 rate1:∀ x:RF,x.Ok→aD C 109 [.agg x.cells] .nil (aE (.bool (cH x&&cA x)))
 name:∀ s:List UInt8,aD C 123 [.str s] .nil (aE (.bool (isName s)))
theorem qG.bfB {C:Ctx} (L:qG C) (l:List RF) (h:jE l):aD C 99 [frs l,.fn 105 []] .nil (aE (.bool (l.all cH))) :=
 L.allf cH 105 l h.fits fun x hx=>L.lim x (h.all x hx)
theorem within_iff {n lo hi:Int}:within n lo hi=true↔lo≤n∧n≤hi:=by simp[within]
theorem blP {C:Ctx} (L:qG C) (p:dA) (hp:p.Ok) :
  LW.wp C (aT azS.res (bZ (.bool (GT p)))) (PF.args [.int .i64 p.k,.int .i64 p.m,.int .i64 p.bIC,.agg [.int .i64 p.s0,.int .i64 p.s1,.int .i64 p.s2,.int .i64 p.s3,.int .i64 p.s4]]) .nil:=by
 simp only[go_sem,reduceCtorEq,LW,aPJ,aPK,azS]
 refine aA (L.inn p.k 1 6) rfl ?_
 unfold GT
 cases h1:within p.k 1 6 with
 | false =>
  simp only[go_sem,γ,bJQ,vG]
  exact bA rfl (by simp only[bJI])
 | true =>
  obtain⟨k1,k2⟩:=within_iff.1 h1
  simp only[go_sem,γ,bJK]
  refine aA (L.inn p.m 0 4) rfl ?_
  cases h2:within p.m 0 4 with
  | false =>
   simp only[go_sem,γ,reduceCtorEq,bJQ,vG]
   exact bA rfl (by simp only[bJI,bKT])
  | true =>
   obtain⟨m1,m2⟩:=within_iff.1 h2
   have hw:IntKind.i64.wrap (p.k+p.m)=p.k+p.m:=wrap_i64 Om Om
   by_cases h3:p.k+p.m≤8
   ·have h3':¬ p.k+p.m>8:=by omega
    simp only[go_sem,γ,reduceCtorEq,bJK,hw,h3']
    refine aA (L.inn p.bIC p.k (p.k+p.m)) rfl ?_
    cases h4:within p.bIC p.k (p.k+p.m) with
    | false =>
     simp only[go_sem,γ,reduceCtorEq,bJQ,vG]
     exact bA rfl (by simp only[bJI,bKT])
    | true =>
     have h50:(0:Int)<((5:Nat):Int):=by decide
     by_cases h5:p.s0=0
     ·have hch:chunks 1 5 [PV.int .i64 p.s0,.int .i64 p.s1,.int .i64 p.s2,.int .i64 p.s3,.int .i64 p.s4]=([p.s0,p.s1,p.s2,p.s3,p.s4].map fun n=>[PV.int .i64 n]):=rfl
      have hm:5≤maxLen:=by decide
      simp only[go_sem,ν,δ,γ,η,θ,ζ,reduceCtorEq,bJK,h50,cG h5,aPL,hch,hm]
      refine aA (L.alli (fun n=>within n 0 8) 107 [p.s0,p.s1,p.s2,p.s3,p.s4] (show 5≤9223372036854775807 by decide) fun x _=>L.num1 x) rfl ?_
      simp only[go_sem,γ]
      exact bA rfl (by rw[decide_eq_true h3,decide_eq_true h5]; simp only[bJM])
     ·simp only[go_sem,ν,δ,γ,θ,ζ,reduceCtorEq,bJK,h50,cS h5,vG]
      exact bA rfl (by rw[decide_eq_false h5]; simp only[bJI,bKT])
   ·have h3':p.k+p.m>8:=by omega
    simp only[go_sem,γ,reduceCtorEq,bJK,hw,h3',vG]
    exact bA rfl (by rw[decide_eq_false h3]; simp only[bJI,bKT])
theorem max_eq (a b:Int):(if a<b then b else a)=max a b:=by
 rw[Int.max_def]
 by_cases h:a<b
 ·rw[if_pos h,if_pos Om]
 ·by_cases h':a≤b
  ·rw[if_neg h,if_pos h']; omega
  ·rw[if_neg h,if_neg h']
theorem beL {C:Ctx} (L:qG C) (p:dA) (hp:p.Ok) :
  FJ.wp C (aT abG.res (bZ (.bool (yC p)))) (PF.args [.int .i64 p.m,frs p.repair,.agg p.target.cells,.agg p.bHK.cells]) .nil:=by
 simp only[go_sem,γ,reduceCtorEq,FJ,azZ,aAA,abG,max_eq,bJC]
 unfold yC
 by_cases h1:(p.repair.length:Int)=max p.m 1
 ·simp only[go_sem,γ,bW h1]
  refine aA (L.allf (fun x=>cH x&&cA x) 109 p.repair hp.repair.fits fun x hx=>L.rate1 x (hp.repair.all x hx)) rfl ?_
  rw[decide_eq_true h1,bJM]
  cases h2:p.repair.all fun x=>cH x&&cA x with
  | false =>
   simp only[go_sem,γ,reduceCtorEq]
   exact bA rfl rfl
  | true =>
   simp only[go_sem,δ,γ]
   refine aA (L.lim _ hp.target) rfl ?_
   cases h3:cH p.target with
   | false =>
    simp only[go_sem,γ,reduceCtorEq]
    exact bA rfl rfl
   | true =>
    simp only[go_sem,δ,γ]
    refine aA (L.one _ hp.target) rfl ?_
    cases h4:rU p.target with
    | false =>
     simp only[go_sem,γ,reduceCtorEq]
     exact bA rfl rfl
    | true =>
     simp only[go_sem,δ,γ]
     refine aA (L.lim _ hp.bHK) rfl ?_
     simp only[go_sem,γ]
     exact bA rfl rfl
 ·simp only[go_sem,γ,reduceCtorEq,bF h1]
  exact bA rfl (by rw[decide_eq_false h1]; rfl)
def nZ (l:List (List UInt8)) (k:List KS):Option PV:=match k with
 | [.str s]=>if l.contains s then some (.bool true) else none
 | _=>none
theorem a8O (l:List (List UInt8)) (s:List UInt8):(fun k=>if k=[KS.str s] then some (PV.bool true) else nZ l k)=nZ (l++[s]):=by
 funext k
 match k with
 | []=>rfl
 | [.int a b]=>simp[nZ]
 | [.bool a]=>simp[nZ]
 | [.str t] =>
  by_cases h:t=s
  ·subst h; simp[nZ]
  ·simp[nZ,h]
 | a::b::c=>simp[nZ]
abbrev texts (l:List (List UInt8)):PV:=.sl 1 (l.map fun s=>[PV.str s])
theorem a8N:nZ []=(fun _=>none:eQ):=by
 funext k
 match k with
 | []=>rfl
 | [.int a b]=>rfl
 | [.bool a]=>rfl
 | [.str t]=>rfl
 | a::b::c=>cases a<;>rfl
theorem a8P (l:List (List UInt8)) (s:List UInt8):eQ.upd (nZ l) [KS.str s] (.bool true)=nZ (l++[s]):=a8O l s
theorem aFZ (l:List (List UInt8)) (s:List UInt8):(nZ l [KS.str s]).getD (.bool false)=.bool (l.contains s):=by
 show (if l.contains s then some (PV.bool true) else none).getD (.bool false)=_
 cases l.contains s<;>rfl
theorem akN {p:Nat→Bool} {k:Nat} (h:(bJD k).all p=true) (hp:p k=true):(bJD (k+1)).all p=true:=by
 rw[List.range_succ,List.all_append,h]; simp[hp]
theorem dO {p:Nat→Bool} {n k:Nat} (hk:k<n) (hp:p k=false):(bJD n).all p=false:=by
 rw[List.all_eq_false]
 exact⟨k,bKE.2 hk,by simp[hp]⟩
def mG (p:Nat→Bool) (k:Nat):Prop:=(bJD k).all p=true
theorem mG.zero {p:Nat→Bool}:mG p 0:=rfl
theorem mG.step {p:Nat→Bool} {k:Nat} (h:mG p k) (hp:p k=true):mG p (k+1):=akN h hp
def a1O (l:List (List UInt8)) (o k:Nat):PF:=((((PF.nil.set 3 (.map o)).set 7 (texts l)).set 8 (.int .i64 (l.length:Nat))).set 9 (.int .i64 k))
theorem beO {C:Ctx} (L:qG C) (l:List (List UInt8)) (hf:Fits l):FK.wp C (aT abH.res (bZ (.bool (distinct l)))) (PF.args [texts l]) .nil:=by
 simp only[go_sem,FK,aAC,aAD,abH]
 refine aQ fun o ho=>?_
 simp only[go_sem,γ,reduceCtorEq,aAE]
 have e0:(PH.nil.set o (.map (false,[.str]) (fun _=>none)))=PH.nil.set o (.map (false,[.str]) (nZ (l.take 0))):=by rw[List.take_zero,a8N]
 unfold distinct
 generalize hp:(fun i=>isName (l.getD i [])&&!(l.take i).contains (l.getD i []))=p
 have hpk:∀ k (h:k<l.length),p k=(isName l[k]&&!(l.take k).contains l[k]):=by
  intro k h
  rw[← hp]
  simp only[bJX,bJN h,bLQ]
 refine wp_loop (α:=Nat) (fun k=>a1O l o k) (fun k=>PH.nil.set o (.map (false,[.str]) (nZ (l.take k)))) (fun k=>k≤l.length∧mG p k) (fun k=>l.length-k) 0 ⟨bJO _,.zero⟩ ?_ ?_ ?_
 ·unfold a1O
  (repeat' (first|exact PF.nil_le|refine PF.aI ?_ ?_))<;>first|(simp only[go_sem,γ,bJC]<;>rfl)|rfl
 ·rw[e0]; exact PH.le_refl
 rintro k ⟨hk,ha⟩
 simp only[go_sem,γ,aAB,aAF,a1O]
 by_cases hlt:k<l.length
 ·have bHF:(k:Int)<(l.length:Nat):=by omega
  have hr:(l.map fun s=>[PV.str s])[k]?=some [.str l[k]]:=by simp[hlt]
  simp only[go_sem,γ,bHF,aAG,hr,aAH]
  refine aA (L.name l[k]) rfl ?_
  have hk2:=hpk k hlt
  cases h1:isName l[k] with
  | false =>
   rw[h1,bJI] at hk2
   simp only[go_sem,γ,bJQ,VP]
   exact bA (b:=false) rfl (dO hlt hk2).symm
  | true =>
   rw[h1,bJM] at hk2
   cases h2:(l.take k).contains l[k] with
   | true =>
    rw[h2] at hk2
    simp only[go_sem,γ,reduceCtorEq,bJK,aFZ,h2,VP]
    exact bA (b:=false) rfl (dO hlt hk2).symm
   | false =>
    rw[h2] at hk2
    simp only[go_sem,γ,reduceCtorEq,bJK,aFZ,h2,aAI,a8P,aAJ,wZz k]
    refine aK (k+1) ⟨hlt,ha.step hk2⟩ Om ?_ ?_
    ·exact Lq
    ·rw[bLC hlt]
     exact PH.aI PH.nil_le Sq
 ·have bHF:¬ (k:Int)<(l.length:Nat):=by omega
  simp only[go_sem,bHF,anP]
  have:k=l.length:=by omega
  subst this
  exact bA (b:=true) rfl (show mG p l.length from ha).symm
def marks (n:Nat) (l:List Int):List Bool:=(bJD n).map fun (i:Nat)=>l.contains (i:Int)
theorem a6E (n:Nat):marks n []=bJE n false:=by
 refine List.ext_getElem (by simp[marks]) fun i h1 h2=>by simp[marks]
theorem bfF {n:Nat} {l:List Int} {m:Int} (h0:0≤m) (h1:m<n):(marks n l)[m.toNat]?=some (l.contains m):=by
 have:m.toNat<n:=by omega
 simp only[marks,bKH,List.getElem?_range this,bKL]
 rw[Int.toNat_of_nonneg h0]
theorem a6F {n:Nat} {l:List Int} {m:Int} (h0:0≤m) (h1:m<n):(marks n l).set m.toNat true=marks n (l++[m]):=by
 refine List.ext_getElem (by simp[marks]) fun i h2 h3=>?_
 simp only[marks,bLK,List.getElem_range,List.getElem_set,List.contains_append]
 by_cases h:m.toNat=i
 ·subst h
  rw[if_pos rfl,Int.toNat_of_nonneg h0]; simp
 ·have hne:((i:Nat):Int)≠m:=by omega
  rw[if_neg h]; simp[hne]
abbrev fL (l:List Bool):List (List PV):=l.map fun b=>[PV.bool b]
theorem kG (l:List Bool) (i:Nat) (b:Bool):(fL l).set i [.bool b]=fL (l.set i b):=by unfold fL; rw[List.map_set]
structure avE (C:Ctx):Prop extends qG C where
 num:∀ p:dA,p.Ok→aD C 106 [.int .i64 p.k,.int .i64 p.m,.int .i64 p.bIC,.agg [.int .i64 p.s0,.int .i64 p.s1,.int .i64 p.s2,.int .i64 p.s3,.int .i64 p.s4]] .nil (aE (.bool (GT p)))
 rate:∀ p:dA,p.Ok→aD C 108 [.int .i64 p.m,frs p.repair,.agg p.target.cells,.agg p.bHK.cells] .nil (aE (.bool (yC p)))
 uniq:∀ l:List (List UInt8),Fits l→aD C 110 [texts l] .nil (aE (.bool (distinct l)))
def bgA (p:dA) (bGZ:Nat) (o k:Nat):PF:=(((((PF.nil.set 1 (.int .i64 bGZ)).set 5 (.osl o 1 0 bGZ)).set 39 (ints p.bGZ)).set 40 (.int .i64 (p.bGZ.length:Nat))).set 41 (.int .i64 k))
theorem blT {C:Ctx} (L:avE C) (p:dA) (hp:p.Ok) (bGZ:Nat) (hm:bGZ≤4):MA.wp C (aT azV.res (bZ (.bool (iR bGZ p)))) (PF.args [.agg p.cells,.int .i64 bGZ]) .nil:=by
 simp only[go_sem,δ,γ,θ,MA,aPP,aPQ,azV]
 refine aA (L.num p hp) rfl ?_
 unfold iR
 cases h1:GT p with
 | false =>
  simp only[go_sem,γ,bJQ,RC]
  exact bA rfl (by simp only[bJI])
 | true =>
  by_cases h2:p.bGZ.length=0
  ·simp only[go_sem,δ,γ,θ,reduceCtorEq,bJK,bJC,bW (Om:((p.bGZ.length:Nat):Int)=0),RC]
   refine bA rfl ?_
   have:decide (p.bGZ.length≠0)=false:=by simp[h2]
   rw[this]; simp only[bJI,bKT]
  ·have h2':decide (p.bGZ.length≠0)=true:=by simp[h2]
   simp only[go_sem,δ,γ,θ,reduceCtorEq,bJK,bJC,bF (Om:((p.bGZ.length:Nat):Int)≠0)]
   refine aA (L.rate p hp) rfl ?_
   rw[h2']
   cases h3:yC p with
   | false =>
    simp only[go_sem,γ,reduceCtorEq,bJQ,RC]
    exact bA rfl (by simp only[bJI,bKT])
   | true =>
    have hb1:((bGZ:Nat):Int)*((1:Nat):Int)≤140737488355328:=by omega
    have hb2:((bGZ:Nat):Int)≤9223372036854775807:=by omega
    simp only[bJM]
    simp only[go_sem,γ,reduceCtorEq,bJK,aPR,hb1,hb2]
    refine aQ fun o ho=>?_
    simp only[go_sem,δ,γ,θ,aPS]
    have e0:bJE bGZ [PV.bool false]=fL (marks bGZ (p.bGZ.take 0)):=by
     rw[List.take_zero,a6E]; simp[fL]
    rw[e0]
    generalize hq:(fun j=>within (p.bGZ.getD j 0) 0 ((bGZ:Int)-1)&&!(p.bGZ.take j).contains (p.bGZ.getD j 0))=q
    have hqk:∀ k (h:k<p.bGZ.length),q k=(within p.bGZ[k] 0 ((bGZ:Int)-1)&&!(p.bGZ.take k).contains p.bGZ[k]):=by
     intro k h
     rw[← hq]
     simp only[bJX,bJN h,bLQ]
    refine wp_loop (α:=Nat) (fun k=>bgA p bGZ o k) (fun k=>PH.nil.set o (.rows 1 (fL (marks bGZ (p.bGZ.take k))))) (fun k=>k≤p.bGZ.length∧mG q k) (fun k=>p.bGZ.length-k) 0 ⟨bJO _,.zero⟩ ?_ (PH.le_refl) ?_
    ·unfold bgA
     (repeat' (first|exact PF.nil_le|refine PF.aI ?_ ?_))<;>first|(simp only[go_sem,γ,bJC]<;>rfl)|rfl
    rintro k ⟨hk,ha⟩
    simp only[go_sem,γ,azW,aPT,bgA]
    have bIN:=hp.bGZ
    by_cases hlt:k<p.bGZ.length
    ·have bHF:(k:Int)<(p.bGZ.length:Nat):=by omega
     have hr:(p.bGZ.map fun n=>[PV.int .i64 n])[k]?=some [.int .i64 p.bGZ[k]]:=by simp[hlt]
     have hw:IntKind.i64.wrap ((bGZ:Int)-1)=(bGZ:Int)-1:=wrap_i64 Om Om
     simp only[go_sem,γ,bHF,aPU,hr,aPV,hw]
     refine aA (L.inn p.bGZ[k] 0 ((bGZ:Int)-1)) rfl ?_
     have hk2:=hqk k hlt
     cases h1:within p.bGZ[k] 0 ((bGZ:Int)-1) with
     | false =>
      rw[h1,bJI] at hk2
      simp only[go_sem,γ,bJQ,ajI]
      exact bA (b:=false) rfl (dO hlt hk2).symm
     | true =>
      rw[h1,bJM] at hk2
      obtain⟨i1,i2⟩:=within_iff.1 h1
      have i3:p.bGZ[k]<(bGZ:Nat):=by omega
      have hmk:(fL (marks bGZ (p.bGZ.take k)))[p.bGZ[k].toNat]?=some [.bool ((p.bGZ.take k).contains p.bGZ[k])]:=by
       unfold fL
       rw[bKH,bfF i1 i3]; rfl
      cases h2:(p.bGZ.take k).contains p.bGZ[k] with
      | true =>
       rw[h2] at hk2 hmk
       simp only[go_sem,γ,reduceCtorEq,bJK,i1,i3,bKC,hmk,ajI]
       exact bA (b:=false) rfl (dO hlt hk2).symm
      | false =>
       rw[h2] at hk2 hmk
       simp only[go_sem,γ,reduceCtorEq,bJK,i1,i3,bKC,hmk,aPW,kG,a6F i1 i3,azX,wZz k]
       refine aK (k+1) ⟨hlt,ha.step hk2⟩ Om ?_ ?_
       ·exact Lq
       ·rw[bLC hlt]
        exact PH.aI PH.nil_le Sq
    ·have bHF:¬ (k:Int)<(p.bGZ.length:Nat):=by omega
     simp only[go_sem,bHF,azY]
     have:k=p.bGZ.length:=by omega
     subst this
     exact bA (b:=true) rfl (show mG q p.bGZ.length from ha).symm
def bdC:PV→RF
 | .agg [.bool n,a,b]=>⟨n,gS a,gS b⟩
 | _=>⟨false,[],[]⟩
theorem aXT (x:RF):bdC (.agg x.cells)=x:=by
 show (⟨x.neg,gS (aF x.num),gS (aF x.den)⟩:RF)=x
 rw[dW,dW]
def flS:Spec:=fun name vs=>match name,vs with
 | 104,[.int _ n,.int _ lo,.int _ hi]=>some ([],fun _=>aE (.bool (within n lo hi)))
 | 105,[x]=>some ([],fun _=>aE (.bool (cH (bdC x))))
 | 97,[x]=>some ([],fun _=>aE (.bool (cA (bdC x))))
 | _,_=>none
theorem axS (n lo hi:Int):flS 104 [.int .i64 n,.int .i64 lo,.int .i64 hi]=some ([],fun _=>aE (.bool (within n lo hi))):=rfl
theorem blE (x:RF):flS 105 [.agg x.cells]=some ([],fun _=>aE (.bool (cH x))):=by
 show some _=_; rw[aXT]
def aYP (f:aJ) (t:List bN) (k:Nat):PF:=((((PF.nil.set 1 (.bG f.cells)).set 45 (.sl 7 (t.map bN.cells))).set 46 (.int .i64 (t.length:Nat))).set 47 (.int .i64 k))
theorem blJ {C:Ctx} (L:qG C) (f:aJ) (hf:f.Ok):xS.wp C (aT ajE.res (bZ (.bool (mI f)))) (PF.args [.agg f.cells]) .nil:=by
 obtain⟨bIM,bHH,bGZ,bHB,bGY,bHC,bHA⟩:=f
 cases bHB with
 | nil =>
  rw[show mI ⟨bIM,bHH,bGZ,[],bGY,bHC,bHA⟩=false from rfl]
  simp only[go_sem,δ,γ,θ,xS,ajF,ajG,ajE,List.map_nil,bLO]
  have:(((0:Nat):Int)==0)=true:=rfl
  simp only[go_sem,this,aOT]
  exact bA rfl rfl
 | cons r t =>
  generalize hF:(⟨bIM,bHH,bGZ,r::t,bGY,bHC,bHA⟩:aJ)=f at *
  have hd:f.bHB=r::t:=by rw[← hF]
  have hP:mI f=xM f r t:=by unfold mI; rw[hd]
  rw[hP]
  unfold xM
  have hlen:f.bHB.length=t.length+1:=by rw[hd]; rfl
  have bIN:=hf.bHB
  have hr0:(f.bHB.map bN.cells)[0]?=some r.cells:=by rw[hd]; rfl
  have hr0':(f.bHB.map bN.cells)[Int.toNat 0]?=some r.cells:=hr0
  have hok:=hf.dom
  have hrok:=hok r (by rw[hd]; exact List.mem_cons_self ..)
  simp only[go_sem,ο,ν,δ,γ,θ,xS,ajF,ajG,ajE,bJC,hlen,bF (Om:((t.length+1:Nat):Int)≠0),aOU,hr0]
  refine aQ fun o ho=>?_
  by_cases c1:r.name=[]
  ·rw[decide_eq_true c1]
   by_cases c2:r.level=0
   ·rw[decide_eq_true c2]
    by_cases c3:r.parent=-1
    ·rw[decide_eq_true c3]
     by_cases c4:r.bHY=0
     ·rw[decide_eq_true c4]
      simp only[go_sem,ο,δ,γ,θ,reduceCtorEq,vE,nF c1,bJK,cG c2,cG c3,cG c4]
      refine aA (L.lim r.bHQ hrok.1) rfl ?_
      cases c5:cH r.bHQ with
      | false =>
       simp only[go_sem,γ,reduceCtorEq,bJQ,rN]
       exact bA rfl (by simp only[bKT,bJI])
      | true =>
       simp only[go_sem,δ,γ,reduceCtorEq,bJK]
       refine aA (L.tT r.bHQ hrok.1) rfl ?_
       cases c6:cA r.bHQ with
       | true =>
        simp only[go_sem,γ,reduceCtorEq,rN]
        exact bA rfl (by simp only[bJK,bKT,bJI])
       | false =>
        have hsl:(0:Int)≤1∧(1:Int)≤((t.length+1:Nat):Int):=by omega
        have hdrop:((f.bHB.map bN.cells).take (t.length+1)).drop (Int.toNat 1)=t.map bN.cells:=by
         rw[bJS (by simp[hlen]),hd]; rfl
        have hdrop':((f.bHB.map bN.cells).take (t.length+1)).drop 1=t.map bN.cells:=hdrop
        simp only[go_sem,ν,δ,γ,θ,reduceCtorEq,aOV,bJC,hlen,hsl,hdrop',bMF]
        generalize hq:(fun i=>match t[i]? with | some d=>ER f i d | none=>false)=q
        have hqk:∀ k (h:k<t.length),q k=ER f k t[k]:=by
         intro k h
         rw[← hq]
         simp only[bJN h]
        refine wp_loop (α:=Nat) (fun k=>aYP f t k) (fun k=>.nil) (fun k=>k≤t.length∧mG q k) (fun k=>t.length-k) 0 ⟨bJO _,.zero⟩ ?_ PH.nil_le ?_
        ·unfold aYP
         (repeat' (first|exact PF.nil_le|refine PF.aI ?_ ?_))<;>first|(simp only[go_sem,γ,bJC]<;>rfl)|rfl
        rintro k ⟨hk,ha⟩
        simp only[go_sem,γ,azF,aOW,aYP]
        by_cases hlt:k<t.length
        ·have bHF:(k:Int)<(t.length:Nat):=by omega
         have hrk:(t.map bN.cells)[k]?=some (t[k]).cells:=by simp[hlt]
         have hdk:=hok t[k] (by rw[hd]; exact List.mem_cons_of_mem _ (bJG hlt))
         have hk2:=hqk k hlt
         unfold ER at hk2
         simp only[go_sem,δ,γ,bHF,aOX,hrk]
         refine aQ fun o2 ho2=>?_
         simp only[go_sem,δ,γ]
         refine bU .nil flS PH.nil_le ?_
         simp only[go_sem,δ,γ,θ,reduceCtorEq,aOY]
         refine bQ (axS _ 0 k) (L.inn (t[k]).parent 0 k) rfl PH.nil_le ?_
         cases e1:within (t[k]).parent 0 k with
         | false =>
          simp only[e1,bJI] at hk2
          simp only[go_sem,γ,bJQ,rM]
          exact bA (b:=false) rfl (dO hlt hk2).symm
         | true =>
          obtain⟨i1,i2⟩:=within_iff.1 e1
          have i3:(t[k]).parent.toNat<f.bHB.length:=by omega
          have hpr:(f.bHB.map bN.cells)[(t[k]).parent.toNat]?=some (f.bHB[(t[k]).parent.toNat]).cells:=by simp[i3]
          have hlv:(f.bHB.map bN.level).getD (t[k]).parent.toNat 0=(f.bHB[(t[k]).parent.toNat]).level:=by simp[i3]
          rw[hlv,e1,bJM] at hk2
          by_cases e2:(f.bHB[(t[k]).parent.toNat]).level=IntKind.i64.wrap ((t[k]).level-1)
          ·rw[decide_eq_true e2,bJM] at hk2
           simp only[go_sem,δ,γ,θ,reduceCtorEq,bJK,i1,hpr,cG e2]
           refine bQ (axS _ 1 4) (L.inn (t[k]).level 1 4) rfl PH.nil_le ?_
           cases e3:within (t[k]).level 1 4 with
           | false =>
            simp only[e3,bJI] at hk2
            simp only[go_sem,γ,reduceCtorEq,bJQ,rM]
            exact bA (b:=false) rfl (dO hlt hk2).symm
           | true =>
            rw[e3,bJM] at hk2
            simp only[go_sem,δ,γ,θ,reduceCtorEq,bJK]
            refine bQ (axS _ 1 64) (L.inn (t[k]).bHY 1 64) rfl PH.nil_le ?_
            cases e4:within (t[k]).bHY 1 64 with
            | false =>
             simp only[e4,bJI] at hk2
             simp only[go_sem,γ,reduceCtorEq,bJQ,rM]
             exact bA (b:=false) rfl (dO hlt hk2).symm
            | true =>
             rw[e4,bJM] at hk2
             simp only[go_sem,δ,γ,reduceCtorEq,bJK]
             refine bQ (blE (t[k]).bHQ) (L.lim _ hdk.1) rfl PH.nil_le ?_
             cases e5:cH (t[k]).bHQ with
             | false =>
              rw[e5] at hk2
              simp only[go_sem,γ,reduceCtorEq,bJQ,rM]
              exact bA (b:=false) rfl (dO hlt hk2).symm
             | true =>
              rw[e5] at hk2
              simp only[go_sem,γ,reduceCtorEq,bJK,azG,wZz k]
              refine aK (k+1) ⟨hlt,ha.step hk2⟩ Om ?_ PH.nil_le
              exact Lq
          ·simp only[decide_eq_false e2,bJI] at hk2
           simp only[go_sem,δ,γ,θ,reduceCtorEq,bJK,i1,hpr,cS e2,rM]
           exact bA (b:=false) rfl (dO hlt hk2).symm
        ·have bHF:¬ (k:Int)<(t.length:Nat):=by omega
         simp only[go_sem,bHF,azH]
         have:k=t.length:=by omega
         subst this
         exact bA (b:=true) rfl (show mG q t.length from ha).symm
     ·simp only[go_sem,ο,δ,γ,θ,reduceCtorEq,vE,nF c1,bJK,cG c2,cG c3,cS c4,rN]
      exact bA rfl (by rw[decide_eq_false c4]; simp only[bKT,bJI])
    ·simp only[go_sem,ο,δ,γ,θ,reduceCtorEq,vE,nF c1,bJK,cG c2,cS c3,rN]
     exact bA rfl (by rw[decide_eq_false c3]; simp only[bKT,bJI])
   ·simp only[go_sem,ο,δ,γ,θ,reduceCtorEq,vE,nF c1,bJK,cS c2,rN]
    exact bA rfl (by rw[decide_eq_false c2]; simp only[bKT,bJI])
  ·simp only[go_sem,ο,δ,γ,θ,vE,YN c1,bJQ,rN]
   exact bA rfl (by rw[decide_eq_false c1]; simp only[bKT,bJI])
theorem qX (R:List Bool) (i:Nat) (row:List RF):∀ k,(cP R i row k).length=R.length
 | 0=>rfl
 | k+1=>by simp only[cP,bLA,qX R i row k]
theorem aFM (l:cM) (R:List Bool) (i:Nat):(wR l R i).length=R.length:=by
 unfold wR; rw[qX,bLA]
theorem nT (l:cM) (R:List Bool):∀ i,(cZ l R i).length=R.length
 | 0=>rfl
 | i+1=>by simp only[cZ,aFM,nT l R i]
theorem nS (l:cM):∀ r,(dD l r).length=l.exit.length
 | 0=>by simp[dD]
 | r+1=>by simp only[dD,nT,nS l r]
theorem oZ {R:List Bool} {i:Nat} (h:i<R.length):(fL R)[i]?=some [.bool (R.getD i false)]:=by
 unfold fL
 rw[bKH,bJN h,bJX,bJN h]; rfl
theorem a4I (R:List Bool):(fL R).length=R.length:=by simp[fL]
def QT (l:cM) (o r:Nat):PF:=(((PF.nil.set 1 (.bG l.cells)).set 3 (.osl o 1 0 l.exit.length)).set 4 (.int .i64 r))
def ET (l:cM) (o r i:Nat):PF:=(((((PF.nil.set 1 (.bG l.cells)).set 3 (.osl o 1 0 l.exit.length)).set 4 (.int .i64 r)).set 19 (.int .i64 (l.exit.length:Nat))).set 20 (.int .i64 i))
def qM (l:cM) (o r i:Nat) (row:List RF) (k:Nat):PF:=(((((((((PF.nil.set 1 (.bG l.cells)).set 3 (.osl o 1 0 l.exit.length)).set 4 (.int .i64 r)).set 19 (.int .i64 (l.exit.length:Nat))).set 20 (.int .i64 i)).set 5 (.int .i64 i)).set 42 (frs row)).set 43 (.int .i64 (row.length:Nat))).set 44 (.int .i64 k))
def fW (o:Nat) (R:List Bool):PH:=PH.nil.set o (.rows 1 (fL R))
theorem aLI {C:Ctx} (L:qG C) (l:cM) (o r i:Nat) (row:List RF) (bHL:jE row) (hrl:row.length=l.exit.length) (hi:i<l.exit.length) (hn:l.exit.length≤4) (R1:List Bool) (hR:R1.length=l.exit.length) (K:cO) (F:PF) (H:PH)
  (hF:(qM l o r i row 0).le F) (hH:(fW o R1).le H)
  (hK:∀ F H,(qM l o r i row row.length).le F→(fW o (cP R1 i row row.length)).le H→K .normal F H) :
  aC.wp C (.block 4 (.loop xT)) K F H:=by
 simp only[go_sem]
 refine wp_loop (α:=Nat) (fun k=>qM l o r i row k) (fun k=>fW o (cP R1 i row k)) (fun k=>k≤row.length) (fun k=>row.length-k) 0 (bJO _) hF hH ?_
 intro k hk
 simp only[go_sem,γ,xT,azO,qM,fW]
 have hlen:=qX R1 i row k
 by_cases hlt:k<row.length
 ·have bHF:(k:Int)<(row.length:Nat):=by omega
  have hr:(row.map RF.cells)[k]?=some (row[k]).cells:=by simp[hlt]
  simp only[go_sem,δ,γ,bHF,anK,hr]
  refine aQ fun o7 ho7=>?_
  have n7:o≠o7:=by rintro rfl; simp only[bR,if_true] at ho7; cases ho7
  have hi':(i:Int)<(l.exit.length:Nat):=by omega
  have hk':(k:Int)<(l.exit.length:Nat):=by omega
  have hat:=oZ (R:=cP R1 i row k) (i:=i) Om
  have hatk:=oZ (R:=cP R1 i row k) (i:=k) Om
  have bHG:cP R1 i row (k+1)=(cP R1 i row k).set i ((cP R1 i row k).getD i false||cA row[k]&&(cP R1 i row k).getD k false):=by
   simp only[cP,bJX,bKH,bJN hlt,bKL,bLQ]
  have fin:∀ (b:Bool) (F:PF) (H:PH),b=((cP R1 i row k).getD i false||cA row[k]&&(cP R1 i row k).getD k false)→(qM l o r i row (k+1)).le F→H o=some (.rows 1 ((fL (cP R1 i row k)).set i [.bool b])) →
    eA (fun k=>qM l o r i row k) (fun k=>fW o (cP R1 i row k)) (fun k=>k≤row.length) (fun k=>row.length-k) (row.length-k) (dU 4 K) .normal F H:=by
   intro b F H hb hF hH
   refine aK (k+1) hlt Om hF ?_
   rw[kG,hb,← bHG] at hH
   exact PH.aI PH.nil_le hH
  unfold qM fW at fin
  generalize hb:(cP R1 i row k).getD i false=b at *
  generalize hc:(cP R1 i row k).getD k false=c at *
  generalize hA:cA row[k]=A at *
  cases b with
  | true =>
   simp only[go_sem,δ,γ,LP,n7,hi',bKC,hat,xV,wZz k]
   exact fin true _ _ (by simp) Lq Sq
  | false =>
   simp only[go_sem,δ,γ,LP,n7,hi',bKC,hat]
   refine aA (L.tT _ (bHL.all _ (bJG hlt))) rfl ?_
   rw[hA]
   cases A with
   | false =>
    simp only[go_sem,γ,reduceCtorEq,hi',hk',n7,bKC,hat,hatk,xV,wZz k]
    exact fin false _ _ (by simp) Lq Sq
   | true =>
    simp only[go_sem,γ,reduceCtorEq,hi',hk',n7,bKC,hat,hatk,xV,wZz k]
    exact fin c _ _ (by simp) Lq Sq
 ·have bHF:¬ (k:Int)<(row.length:Nat):=by omega
  simp only[go_sem,bHF]
  have:k=row.length:=by omega
  subst this
  exact hK _ _ (by unfold qM; exact Lq) (PH.le_refl)
structure xK (l:cM):Prop where
 n:l.exit.length≤4
 bHD:l.bHD.length=l.exit.length
 row:∀ r∈l.bHD,r.length=l.exit.length
theorem aLJ {C:Ctx} (L:qG C) (l:cM) (hl:l.Ok) (he:xK l) (o r:Nat) (R:List Bool) (hR:R.length=l.exit.length) (K:cO) (F:PF) (H:PH)
  (hF:(ET l o r 0).le F) (hH:(fW o R).le H)
  (hK:∀ F H,(QT l o r).le F→(fW o (cZ l R l.exit.length)).le H→K .normal F H) :
  aC.wp C (.block 2 (.loop xU)) K F H:=by
 simp only[go_sem]
 refine wp_loop (α:=Nat) (fun i=>ET l o r i) (fun i=>fW o (cZ l R i)) (fun i=>i≤l.exit.length) (fun i=>l.exit.length-i) 0 (bJO _) hF hH ?_
 intro i hi
 have hlen:=nT l R i
 have hn:=he.n
 by_cases hlt:i<l.exit.length
 ·have bHF:(i:Int)<(l.exit.length:Nat):=by omega
  have hir:i<l.bHD.length:=by rw[he.bHD]; exact hlt
  have hat:=oZ (R:=cZ l R i) (i:=i) Om
  have hx:(l.exit.map RF.cells)[i]?=some (l.exit[i]).cells:=by simp[hlt]
  have bHL:(l.bHD.map fun r=>[frs r])[i]?=some [frs l.bHD[i]]:=by simp[hir]
  have hrl:(l.bHD[i]).length=l.exit.length:=he.row _ (bJG hir)
  generalize hR1:(cZ l R i).set i ((cZ l R i).getD i false||cA l.exit[i])=R1
  have hR1l:R1.length=l.exit.length:=by rw[← hR1,bLA]; omega
  have bHG:cZ l R (i+1)=cP R1 i l.bHD[i] (l.bHD[i]).length:=by
   simp only[cZ,wR]
   have e1:(l.exit.map cA).getD i false=cA l.exit[i]:=by simp[bJX,hlt]
   have e2:l.bHD.getD i []=l.bHD[i]:=by simp[bJX,hir]
   rw[e1,e2,hR1]
  have rest:∀ (F:PF) (H:PH),(((((((PF.nil.set 1 (.bG l.cells)).set 3 (.osl o 1 0 l.exit.length)).set 4 (.int .i64 r)).set 19 (.int .i64 (l.exit.length:Nat))).set 20 (.int .i64 i)).set 5 (.int .i64 i)):PF).le F→H o=some (.rows 1 (fL R1)) →
    aC.wp C (.seq (.region VM) (.block 4 (.loop xT))) (dU 3 (gY C (aC.wp C (.region LQ)) (eA (fun i=>ET l o r i) (fun i=>fW o (cZ l R i)) (fun i=>i≤l.exit.length) (fun i=>l.exit.length-i) (l.exit.length-i) (dU 2 K)))) F H:=by
   intro F H hF hH
   have f1:F 1=some (.bG l.cells):=hF 1 _ rfl
   have f3:F 3=some (.osl o 1 0 l.exit.length):=hF 3 _ rfl
   have f4:F 4=some (.int .i64 r):=hF 4 _ rfl
   have f19:F 19=some (.int .i64 (l.exit.length:Nat)):=hF 19 _ rfl
   have f20:F 20=some (.int .i64 i):=hF 20 _ rfl
   have f5:F 5=some (.int .i64 i):=hF 5 _ rfl
   rw[bpI]
   simp only[go_sem,δ,γ,θ,VM,f1,f5,bHL,bJC]
   have inner:=aLI L l o r i l.bHD[i] (hl.row _ (bJG hir)) hrl hlt hn R1 hR1l
   simp only[aC.wp,go_sem] at inner
   refine inner _ _ _ ?_ (PH.aI PH.nil_le hH) ?_
   ·unfold qM
    exact Lq
   ·intro F' H' hF' hH'
    have g20:F' 20=some (.int .i64 i):=hF' 20 _ (by unfold qM; simp only[go_sem,γ])
    simp only[go_sem,LQ,g20,wZz i]
    refine aK (i+1) hlt Om ?_ (by rw[bHG]; exact hH')
    have g:=fun (q:Nat) v h=>hF' q v h
    unfold ET
    unfold qM at g
    refine PF.aI (PF.aI (PF.aI (PF.aI (PF.aI PF.nil_le ?_) ?_) ?_) ?_) ?_
    ·simp only[go_sem,γ]; exact g 1 _ rfl
    ·simp only[go_sem,γ]; exact g 3 _ rfl
    ·simp only[go_sem,γ]; exact g 4 _ rfl
    ·simp only[go_sem,γ]; exact g 19 _ rfl
    ·simp only[go_sem,γ]
  simp only[aC.wp,go_sem] at rest
  simp only[go_sem,γ,xU,VK,ET,fW,bHF,azN]
  generalize hb:(cZ l R i).getD i false=b at *
  cases b with
  | true =>
   simp only[go_sem,γ,VL,bHF,bKC,hat]
   refine rest _ _ Lq ?_
   rw[← hR1]
   simp only[go_sem,kG,Bool.true_or]
  | false =>
   simp only[go_sem,δ,γ,VL,bHF,bKC,hat,hx]
   refine aA (L.tT _ (hl.exit.all _ (bJG hlt))) rfl ?_
   simp only[go_sem,γ,reduceCtorEq,bHF,bKC,hat]
   refine rest _ _ Lq ?_
   rw[← hR1]
   simp only[go_sem,kG,Bool.false_or]
 ·have bHF:¬ (i:Int)<(l.exit.length:Nat):=by omega
  simp only[go_sem,γ,xU,VK,ET,fW,bHF]
  have:i=l.exit.length:=by omega
  subst this
  exact hK _ _ (by unfold QT; exact Lq) PH.le_refl
theorem beH {C:Ctx} (L:qG C) (l:cM) (hl:l.Ok) (he:xK l):FF.wp C (aT abC.res (bZ (.bool (uD l)))) (PF.args [.agg l.cells]) .nil:=by
 have hn:=he.n
 have hb1:((l.exit.length:Nat):Int)*((1:Nat):Int)≤140737488355328:=by omega
 have hb2:((l.exit.length:Nat):Int)≤9223372036854775807:=by omega
 simp only[go_sem,γ,FF,azI,azJ,abC,bJC,hb1,hb2]
 refine aQ fun o ho=>?_
 simp only[go_sem,γ,azK]
 refine wp_loop (α:=Nat) (fun r=>QT l o r) (fun r=>fW o (dD l r)) (fun r=>r≤l.exit.length+1) (fun r=>l.exit.length+1-r) 0 (bJO _) ?_ ?_ ?_
 ·unfold QT
  exact Lq
 ·refine PH.aI PH.nil_le ?_
  simp only[go_sem,dD]
  simp[fL]
 intro r hr
 have hlen:=nS l r
 simp only[go_sem,γ,anJ,azL,QT,fW]
 by_cases hlt:r≤l.exit.length
 ·have bHF:(r:Int)≤(l.exit.length:Nat):=by omega
  simp only[go_sem,γ,bHF,azM]
  have inner:=aLJ L l hl he o r (dD l r) hlen
  simp only[aC.wp,go_sem] at inner
  refine inner _ _ _ ?_ PH.le_refl ?_
  ·unfold ET
   exact Lq
  ·intro F' H' hF' hH'
   have g:=fun (q:Nat) v h=>hF' q v h
   unfold QT at g
   have g4:F' 4=some (.int .i64 r):=g 4 _ rfl
   simp only[go_sem,γ,anL,g4,wZz r]
   refine aK (r+1) Om Om ?_ hH'
   refine PF.aI (PF.aI (PF.aI PF.nil_le ?_) ?_) ?_
   ·simp only[go_sem,γ]; exact g 1 _ rfl
   ·simp only[go_sem,γ]; exact g 3 _ rfl
   ·simp only[go_sem,γ]
 ·have bHF:¬ (r:Int)≤(l.exit.length:Nat):=by omega
  have:r=l.exit.length+1:=by omega
  subst this
  simp only[go_sem,γ,bHF,anM]
  have bIF:=L.allb id 103 (dD l (l.exit.length+1)) (Om:(dD l (l.exit.length+1)).length≤_) fun x _=>L.ends1 x
  have hbl:(fL (dD l (l.exit.length+1))).length=l.exit.length:=by rw[a4I,hlen]
  refine oR bIF (rs:=fL (dD l (l.exit.length+1))) (o:=o) (s:=1) Sq ?_ ?_
  ·simp only[go_sem,γ,pO (show l.exit.length≤(fL (dD l (l.exit.length+1))).length by omega),bJS (show (fL (dD l (l.exit.length+1))).length≤l.exit.length by omega)]
  ·simp only[go_sem,γ]
   exact bA rfl rfl
structure YD (C:Ctx):Prop extends avE C where
 ends:∀ l:cM,l.Ok→xK l→aD C 102 [.agg l.cells] .nil (aE (.bool (uD l)))
def pF (l:cM) (i:Nat):Bool:=decide ((l.bHD.getD i []).length=l.start.length)&&(l.bHD.getD i []).all cH&&!((l.bHD.getD i []).map cA).getD i false
def sB (l:cM):Bool:=match nB (l.start.map RF.v) with
 | .ok (n,a,b)=>decide (pE n a b false 1 1=0)
 | .error _=>false
theorem aQE (l:cM):jW l=(within l.start.length 1 4&&decide (l.exit.length=l.start.length)&&decide (l.bHD.length=l.start.length)&&l.start.all cH&&l.exit.all cH&&(bJD l.bHD.length).all (pF l)&&sB l&&uD l):=rfl
theorem aGT {l:List FV} {e:Int} (h:nB l=.error e):e≠0:=by
 have:∀ (l:List FV) (b:FV) (e:Int),l.foldlM gQ b=.error e→e≠0:=by
  intro l
  induction l with
  | nil=>intro b e h; cases h
  | cons x t ih =>
   intro b e h
   rw[List.foldlM_cons] at h
   cases hx:gQ b x with
   | error e' =>
    rw[hx] at h
    have:e'=e:=by injection h
    subst this
    obtain⟨n1,a1,b1⟩:=b
    obtain⟨n2,a2,b2⟩:=x
    simp only[gQ] at hx
    split at hx
    ·split at hx
     ·rw[GH hx]; decide
     ·split at hx
      ·rw[GH hx]; decide
      ·rw[GH hx]; decide
    ·injection hx with hx; subst hx; decide
   | ok y=>rw[hx] at h; exact ih y e h
 exact this l _ e h
theorem aTN {l:List FV} {r:FV} (h:nB l=.ok r):r.rf.Ok:=by
 have:∀ (l:List FV) (b r:FV),b.rf.Ok→l.foldlM gQ b=.ok r→r.rf.Ok:=by
  intro l
  induction l with
  | nil=>intro b r hb h; injection h with h; subst h; exact hb
  | cons x t ih =>
   intro b r hb h
   rw[List.foldlM_cons] at h
   cases hx:gQ b x with
   | error e'=>rw[hx] at h; cases h
   | ok y=>rw[hx] at h; exact ih y r (aiR hx) h
 refine this l _ r ⟨aS _,aS _,?_,?_⟩ h
 ·show (aG 0).length≤_
  rw[eZ]; simp
 ·show (aG 1).length≤_
  rw[lZ (by decide) (by decide)]; simp
theorem GI {neg:Bool} {a b:Nat} {r:FV} (hb:b≠0) (h:gE neg a b=.ok r):cN r.2.1 r.2.2=true:=by
 unfold gE at h
 split at h
 ·cases h
 ·rename_i hc
  injection h with h
  subst h
  have hg:bJH a b ∣ b:=Nat.gcd_dvd_right _ _
  have h0:b/bJH a b≠0:=by
   have:=Nat.div_pos (Nat.le_of_dvd (bLI hb) hg) (bLI fun h=>hb (Nat.gcd_eq_zero_iff.1 h).2)
   omega
  have h1:=@jB (b/bJH a b)
  simp only[cN,bJZ,decide_eq_true_eq]
  omega
theorem aXD {x y r:FV} (h:gQ x y=.ok r):cN r.2.1 r.2.2=true:=by
 obtain⟨n1,a1,b1⟩:=x
 obtain⟨n2,a2,b2⟩:=y
 simp only[gQ] at h
 split at h
 ·rename_i hv
  rw[bJZ] at hv
  have h0:b1*b2≠0:=Nat.mul_ne_zero (fB.1 hv.1).1 (fB.1 hv.2).1
  split at h
  ·exact GI h0 h
  ·split at h
   ·exact GI h0 h
   ·exact GI h0 h
 ·cases h
theorem a1U:cN 0 1=true:=by
 have:cD 1=1:=by rw[mT (by decide),iD]
 simp[cN,this,iD]
theorem adW {l:List FV} {r:FV} (h:nB l=.ok r):cN r.2.1 r.2.2=true:=by
 have:∀ (l:List FV) (b r:FV),cN b.2.1 b.2.2=true→l.foldlM gQ b=.ok r→cN r.2.1 r.2.2=true:=by
  intro l
  induction l with
  | nil=>intro b r hb h; injection h with h; subst h; exact hb
  | cons x t ih =>
   intro b r hb h
   rw[List.foldlM_cons] at h
   cases hx:gQ b x with
   | error e'=>rw[hx] at h; cases h
   | ok y=>rw[hx] at h; exact ih y r (aXD hx) h
 exact this l _ r a1U h
theorem bdU:(⟨false,[],[]⟩:RF).Ok:=⟨fun _ h=>absurd h (bKS),fun _ h=>absurd h (bKS),show 0≤35184372087808 by decide,show 0≤35184372087808 by decide⟩
def beW (l:cM) (k:Nat):PF:=(((((PF.nil.set 1 (.bG l.cells)).set 3 (.int .i64 (l.start.length:Nat))).set 45 (a0S l.bHD)).set 46 (.int .i64 (l.bHD.length:Nat))).set 47 (.int .i64 k))
theorem a5N {C:Ctx} (L:YD C) (l:cM) (hl:l.Ok) (he:xK l) (F:PF) (hF:F 1=some (.bG l.cells)) :
  aC.wp C (.seq (.region VN) (.seq (.region FG) (.seq (.region FH) (.seq (.region rO) .ret)))) (aT [.tmp 2] (bZ (.bool (sB l&&uD l)))) F .nil:=by
 simp only[go_sem,δ,θ,VN,hF]
 refine aA (L.tot l.start hl.start) rfl ?_
 obtain⟨neg',x,y,e,hs⟩:=rK (nB (l.start.map RF.v))
 have go:∀ (z:RF) (e:Int),z.Ok→(e=0→(xO z.neg (val z.num) (val z.den) false 1 1=.tup [.int .i64 (pE z.neg (val z.num) (val z.den) false 1 1),.int .i64 0])∧sB l=decide (pE z.neg (val z.num) (val z.den) false 1 1=0))→(e≠0→sB l=false) →
   frV (nB (l.start.map RF.v))=.tup [.agg z.cells,.int .i64 e] →
   wpOps C [⟨(some 69),.mv (.tmp 72),none⟩,⟨(some 73),.extract (.tmp 69) 0,none⟩,⟨(some 74),.extract (.tmp 69) 1,none⟩,⟨(some 6),.alloc [(.bool false),.aB,.aB],none⟩,⟨none,.store 3 (.tmp 6) (.tmp 73),none⟩,⟨(some 7),.mv (.tmp 74),none⟩]
    (aC.wp C (.seq (.region FG) (.seq (.region FH) (.seq (.region rO) .ret))) (aT [.tmp 2] (bZ (.bool (sB l&&uD l))))) ((((F.set 70 (.bG [frs l.start,a0S l.bHD,frs l.exit])).set 71 (frs l.start))).set 72 (.tup [.agg z.cells,.int .i64 e])) .nil:=by
  intro z e hz h0 h1 _
  simp only[go_sem,δ,γ]
  refine aQ fun o6 ho6=>?_
  simp only[go_sem,δ,γ,FG]
  refine aA (L.frac 1 1 (by decide) (by decide)) rfl ?_
  rw[aBZ]
  simp only[go_sem,δ,γ,frV]
  refine aQ fun o8 ho8=>?_
  have n8:o6≠o8:=by rintro rfl; simp only[bR,if_true] at ho8; cases ho8
  simp only[go_sem,δ,γ,FH,n8]
  refine aA (L.ord z (FV.rf (false,1,1)) hz a7G) rfl ?_
  rw[show val (FV.rf (false,1,1)).num=1 from aR 1,show val (FV.rf (false,1,1)).den=1 from aR 1,show (FV.rf (false,1,1)).neg=false from rfl]
  by_cases c:e=0
  ·obtain⟨g1,g2⟩:=h0 c
   rw[g1,g2]
   by_cases d:pE z.neg (val z.num) (val z.den) false 1 1=0
   ·simp only[go_sem,δ,γ,rO,bW c,bW d,hF]
    refine aA (L.ends l hl he) rfl ?_
    simp only[go_sem,γ]
    exact bA rfl (by rw[decide_eq_true d,bJM])
   ·simp only[go_sem,γ,reduceCtorEq,rO,bW c,bF d]
    exact bA rfl (by rw[decide_eq_false d,bJI])
  ·rw[h1 c]
   have:∃ v w,xO z.neg (val z.num) (val z.den) false 1 1=.tup [.int .i64 v,.int .i64 w]:=by
    unfold xO
    split
    ·exact⟨_,_,rfl⟩
    ·exact⟨_,_,rfl⟩
   obtain⟨v,w,hv⟩:=this
   rw[hv]
   simp only[go_sem,γ,reduceCtorEq,rO,bF c]
   exact bA rfl rfl
 cases hs':nB (l.start.map RF.v) with
 | error e =>
  rw[hs'] at go
  exact go ⟨false,[],[]⟩ e bdU (fun h=>absurd h (aGT hs')) (fun _=>by rw[sB,hs']) rfl
 | ok r =>
  obtain⟨n,a,b⟩:=r
  rw[hs'] at go
  have hr:=aTN hs'
  refine go (FV.rf (n,a,b)) 0 hr (fun _=>?_) (fun h=>absurd rfl h) rfl
  rw[show val (FV.rf (n,a,b)).num=a from aR a,show val (FV.rf (n,a,b)).den=b from aR b,show (FV.rf (n,a,b)).neg=n from rfl]
  refine⟨?_,by rw[sB,hs']⟩
  have hv:cN a b=true:=adW hs'
  rw[xO,hv,arI]
  rfl
theorem blL {C:Ctx} (L:YD C) (l:cM) (hl:l.Ok):LS.wp C (aT azP.res (bZ (.bool (jW l)))) (PF.args [.agg l.cells]) .nil:=by
 rw[aQE]
 simp only[go_sem,δ,γ,θ,LS,aOZ,aPA,azP,aPB,bJC]
 refine aA (L.inn l.start.length 1 4) rfl ?_
 cases c1:within l.start.length 1 4 with
 | false =>
  simp only[go_sem,γ,bJQ,vF]
  exact bA rfl (by simp only[bJI])
 | true =>
  obtain⟨n1,n2⟩:=within_iff.1 c1
  by_cases c2:l.exit.length=l.start.length
  ·rw[decide_eq_true c2]
   by_cases c3:l.bHD.length=l.start.length
   ·rw[decide_eq_true c3]
    simp only[go_sem,δ,γ,θ,reduceCtorEq,bJK,bJC,cG (Om:((l.exit.length:Nat):Int)=(l.start.length:Nat)),cG (Om:((l.bHD.length:Nat):Int)=(l.start.length:Nat))]
    refine aA (L.bfB l.start hl.start) rfl ?_
    cases c4:l.start.all cH with
    | false =>
     simp only[go_sem,γ,reduceCtorEq,bJQ,vF]
     exact bA rfl (by simp only[bJI])
    | true =>
     simp only[go_sem,γ,reduceCtorEq,bJK]
     refine aA (L.bfB l.exit hl.exit) rfl ?_
     cases c5:l.exit.all cH with
     | false =>
      simp only[go_sem,γ,reduceCtorEq,bJQ,vF]
      exact bA rfl (by simp only[bJI])
     | true =>
      simp only[go_sem,δ,γ,θ,reduceCtorEq,bJK,aPC,bJC]
      have hrk:∀ k (h:k<l.bHD.length),pF l k=(decide ((l.bHD[k]).length=l.start.length)&&(l.bHD[k]).all cH&&!((l.bHD[k]).map cA).getD k false):=by
       intro k h
       have:l.bHD.getD k []=l.bHD[k]:=by simp[bJX,h]
       rw[pF,this]
      refine wp_loop (α:=Nat) (fun k=>beW l k) (fun _=>.nil) (fun k=>k≤l.bHD.length∧mG (pF l) k) (fun k=>l.bHD.length-k) 0 ⟨bJO _,.zero⟩ ?_ PH.nil_le ?_
      ·unfold beW
       (repeat' (first|exact PF.nil_le|refine PF.aI ?_ ?_))<;>first|(simp only[go_sem,γ,bJC]<;>rfl)|rfl
      rintro k ⟨hk,ha⟩
      simp only[go_sem,γ,azQ,aPD,beW]
      by_cases hlt:k<l.bHD.length
      ·have bHF:(k:Int)<(l.bHD.length:Nat):=by omega
       have hr:(l.bHD.map fun r=>[frs r])[k]?=some [frs l.bHD[k]]:=by simp[hlt]
       have hk2:=hrk k hlt
       have hrok:=hl.row l.bHD[k] (bJG hlt)
       simp only[go_sem,γ,bHF,aPE,hr,aPF,bJC]
       by_cases d1:(l.bHD[k]).length=l.start.length
       ·rw[decide_eq_true d1,bJM] at hk2
        simp only[go_sem,γ,cG (show (((l.bHD[k]).length:Nat):Int)=(l.start.length:Nat) by omega)]
        refine aA (L.bfB _ hrok) rfl ?_
        cases d2:(l.bHD[k]).all cH with
        | false =>
         rw[d2,bJI] at hk2
         simp only[go_sem,γ,reduceCtorEq,bJQ,RA]
         refine bA (b:=false) rfl ?_
         have:(bJD l.bHD.length).all (pF l)=false:=dO hlt hk2
         rw[this]; simp only[bJI,bKT]
        | true =>
         have hkr:k<(l.bHD[k]).length:=by omega
         have hx:((l.bHD[k]).map RF.cells)[k]?=some ((l.bHD[k])[k]).cells:=by simp[hkr]
         have hab:((l.bHD[k]).map cA).getD k false=cA (l.bHD[k])[k]:=by simp[bJX,hkr]
         rw[d2,bJM,hab] at hk2
         simp only[go_sem,δ,γ,reduceCtorEq,bJK,hx]
         refine aA (L.tT _ (hrok.all _ (bJG hkr))) rfl ?_
         cases d3:cA (l.bHD[k])[k] with
         | true =>
          rw[d3] at hk2
          simp only[go_sem,γ,reduceCtorEq,RA]
          refine bA (b:=false) rfl ?_
          have:(bJD l.bHD.length).all (pF l)=false:=dO hlt hk2
          rw[this]; simp only[bJI,bKT]
         | false =>
          rw[d3] at hk2
          simp only[go_sem,γ,reduceCtorEq,aPG,wZz k]
          refine aK (k+1) ⟨hlt,ha.step hk2⟩ Om ?_ PH.nil_le
          exact Lq
       ·simp only[decide_eq_false d1,bJI] at hk2
        simp only[go_sem,γ,cS (show (((l.bHD[k]).length:Nat):Int)≠(l.start.length:Nat) by omega),RA]
        refine bA (b:=false) rfl ?_
        have:(bJD l.bHD.length).all (pF l)=false:=dO hlt hk2
        rw[this]; simp only[bJI,bKT]
      ·have bHF:¬ (k:Int)<(l.bHD.length:Nat):=by omega
       have:k=l.bHD.length:=by omega
       subst this
       have bIP:(bJD l.bHD.length).all (pF l)=true:=ha
       have he:xK l:=⟨by omega,by omega,fun r hr=>by
        obtain⟨i,hi,rfl⟩:=bLL hr
        have:=bJW.1 bIP i (bKE.2 hi)
        rw[hrk i hi] at this
        simp only[bJZ,decide_eq_true_eq] at this
        omega⟩
       have tail:=a5N L l hl he
       simp only[aC.wp,go_sem] at tail
       rw[bIP]
       simp only[go_sem,bHF,bJM,bLE]
       exact tail _ rfl
   ·simp only[go_sem,δ,γ,θ,reduceCtorEq,bJK,bJC,cG (Om:((l.exit.length:Nat):Int)=(l.start.length:Nat)),cS (Om:((l.bHD.length:Nat):Int)≠(l.start.length:Nat)),vF]
    exact bA rfl (by rw[decide_eq_false c3]; simp only[bJI,bKT])
  ·simp only[go_sem,γ,reduceCtorEq,bJK,bJC,cS (Om:((l.exit.length:Nat):Int)≠(l.start.length:Nat)),vF]
   exact bA rfl (by rw[decide_eq_false c2]; simp only[bJI,bKT])
structure jG (C:Ctx):Prop extends YD C where
 law:∀ l:cM,l.Ok→aD C 95 [.agg l.cells] .nil (aE (.bool (jW l)))
 pol:∀ (p:dA) (n:Nat),p.Ok→n≤4→aD C 112 [.agg p.cells,.int .i64 n] .nil (aE (.bool (iR n p)))
 bHJ:∀ f:aJ,f.Ok→aD C 111 [.agg f.cells] .nil (aE (.bool (mI f)))
abbrev eI (l:List (List UInt8)):List (List PV):=l.map fun s=>[PV.str s]
theorem tF (l:List (List UInt8)) {k:Nat} (h:k<l.length):eI (l.take k)++[[.str l[k]]]=eI (l.take (k+1)):=by
 unfold eI
 rw[bLC h,bLS]; rfl
theorem qB {l:List (List UInt8)} (h:l.length≤1000):roomFor (eI l).length 1 16:=by
 unfold roomFor eI
 simp only[bJC,maxLen]; omega
def gJ {α:Type} (l:List α) (p:α→Bool) (k:Nat):Bool:=(l.take k).all p
theorem qJ {α:Type} (l:List α) (p:α→Bool):gJ l p 0=true:=rfl
theorem qI {α:Type} (l:List α) (p:α→Bool) {k:Nat} (h:k<l.length):gJ l p (k+1)=(gJ l p k&&p l[k]):=by
 unfold gJ
 rw[bLC h,List.all_append]; simp
theorem sR {α:Type} (l:List α) (p:α→Bool):gJ l p l.length=l.all p:=by unfold gJ; rw[bKB]
def gR (f:aJ) (w3 w4 w5 w6 w7:PV) (ok:Bool):PF:=(((((((PF.nil.set 1 (.bG f.cells)).set 3 (w3)).set 4 (w4)).set 5 (w5)).set 6 (w6)).set 7 (w7)).set 8 (.bool ok))
structure jI (F:PF) (f:aJ) (w3 w4 w5 w6 w7:PV) (ok:Bool):Prop where
 a1:F 1=some (.bG f.cells)
 a3:F 3=some w3
 a4:F 4=some w4
 a5:F 5=some w5
 a6:F 6=some w6
 a7:F 7=some w7
 a8:F 8=some (.bool ok)
theorem aYS {C:Ctx} (L:jG C) (f:aJ) (hf:f.Ok) (hs:f.bHH.length≤4) (w4 w5 w6 w7:PV) (K:cO) (F:PF) (H:PH) (hv:jI F f .aB w4 w5 w6 w7 true)
  (h67:F 67=some (.sl 4 (f.bHH.map cM.cells))) (h68:F 68=some (.int .i64 (f.bHH.length:Nat))) (h69:F 69=some (.int .i64 0))
  (hK:∀ v F' H',jI F' f v w4 w5 w6 w7 (f.bHH.all jW)→bO H' 1 v (eI (f.bHH.map cM.name))→K (.exit 0) F' H') :
  aC.wp C (.loop FL) K F H:=by
 refine wp_loop (α:=Nat × PV × PH) (fun t=>(((gR f t.2.1 w4 w5 w6 w7 (gJ f.bHH jW t.1)).set 67 (.sl 4 (f.bHH.map cM.cells))).set 68 (.int .i64 (f.bHH.length:Nat))).set 69 (.int .i64 t.1)) (fun t=>t.2.2)
  (fun t=>t.1≤f.bHH.length∧bO t.2.2 1 t.2.1 (eI ((f.bHH.map cM.name).take t.1))) (fun t=>f.bHH.length-t.1) (0,.aB,.nil) ⟨bJO _,.nil⟩ ?_ PH.nil_le ?_
 ·unfold gR
  (repeat' (first|exact PF.nil_le|refine PF.aI ?_ ?_))<;>first|(simp only[go_sem,hv.a1,hv.a3,hv.a4,hv.a5,hv.a6,hv.a7,hv.a8,h67,h68,h69,qJ]<;>rfl)|rfl
 rintro⟨k,v,H0⟩ ⟨hk,hO⟩
 simp only at hk hO ⊢
 simp only[go_sem,γ,FL,aQB,gR]
 by_cases hlt:k<f.bHH.length
 ·have bHF:(k:Int)<(f.bHH.length:Nat):=by omega
  have hr:(f.bHH.map cM.cells)[k]?=some (f.bHH[k]).cells:=by simp[hlt]
  have hsn:=tF (f.bHH.map cM.name) (k:=k) (by simpa using hlt)
  rw[bLK] at hsn
  simp only[go_sem,δ,γ,bHF,aQC,hr]
  refine aQ fun o ho=>?_
  simp only[go_sem,υ,δ,γ,η,θ,ζ,aQD]
  refine lC hO ho (qB (by simp; omega)) fun v' H' hO' ho'=>?_
  rw[hsn] at hO'
  have bHG:=qI f.bHH jW hlt
  cases hb:gJ f.bHH jW k with
  | false =>
   rw[hb,bJI] at bHG
   simp only[go_sem,γ,reduceCtorEq,ajK,ho',VQ,wZz k]
   refine aK (k+1,v',H') ⟨hlt,hO'⟩ (by simp only; omega) ?_ PH.le_refl
   simp only[bHG]
   exact Lq
  | true =>
   rw[hb,bJM] at bHG
   simp only[go_sem,δ,γ,ajK,ho']
   refine aA (L.law _ (hf.law _ (bJG hlt))) Ev ?_
   simp only[go_sem,γ,VQ,wZz k]
   refine aK (k+1,v',H') ⟨hlt,hO'⟩ (by simp only; omega) ?_ PH.le_refl
   simp only[bHG]
   exact Lq
 ·have bHF:¬ (k:Int)<(f.bHH.length:Nat):=by omega
  have:k=f.bHH.length:=by omega
  subst this
  rw[bJS (by simp)] at hO
  rw[sR]
  simp only[go_sem,bHF]
  exact hK v _ _ ⟨by simp only[go_sem,γ],by simp only[go_sem,γ],by simp only[go_sem,γ],by simp only[go_sem,γ],by simp only[go_sem,γ],by simp only[go_sem,γ],by simp only[go_sem,γ]⟩ hO
theorem yR {n:Nat} (h:n≤1000):IntKind.i64.wrap ((n:Int)-1)=(n:Int)-1:=wrap_i64 Om Om
theorem aYT {C:Ctx} (L:jG C) (f:aJ) (hs:f.bGZ.length≤4) (hl:f.bHH.length≤4) (b0:Bool) (w3 w5 w6 w7:PV) (K:cO) (F:PF) (H:PH) (hv:jI F f w3 .aB w5 w6 w7 b0)
  (h67:F 85=some (.sl 4 (f.bGZ.map cU.cells))) (h68:F 86=some (.int .i64 (f.bGZ.length:Nat))) (h69:F 87=some (.int .i64 0))
  (hK:∀ v F' H',jI F' f w3 v w5 w6 w7 (b0&&f.bGZ.all (jC f))→bO H' 1 v (eI (f.bGZ.map cU.name))→K (.exit 2) F' H') :
  aC.wp C (.loop FN) K F H:=by
 refine wp_loop (α:=Nat × PV × PH) (fun t=>(((gR f w3 t.2.1 w5 w6 w7 (b0&&gJ f.bGZ (jC f) t.1)).set 85 (.sl 4 (f.bGZ.map cU.cells))).set 86 (.int .i64 (f.bGZ.length:Nat))).set 87 (.int .i64 t.1)) (fun t=>t.2.2)
  (fun t=>t.1≤f.bGZ.length∧bO t.2.2 1 t.2.1 (eI ((f.bGZ.map cU.name).take t.1))) (fun t=>f.bGZ.length-t.1) (0,.aB,.nil) ⟨bJO _,.nil⟩ ?_ PH.nil_le ?_
 ·unfold gR
  (repeat' (first|exact PF.nil_le|refine PF.aI ?_ ?_))<;>first|(simp only[go_sem,hv.a1,hv.a3,hv.a4,hv.a5,hv.a6,hv.a7,hv.a8,h67,h68,h69,qJ,bLE]<;>rfl)|rfl
 rintro⟨k,v,H0⟩ ⟨hk,hO⟩
 simp only at hk hO ⊢
 simp only[go_sem,γ,FN,aAL,gR]
 by_cases hlt:k<f.bGZ.length
 ·have bHF:(k:Int)<(f.bGZ.length:Nat):=by omega
  have hr:(f.bGZ.map cU.cells)[k]?=some (f.bGZ[k]).cells:=by simp[hlt]
  have hsn:=tF (f.bGZ.map cU.name) (k:=k) (by simpa using hlt)
  rw[bLK] at hsn
  simp only[go_sem,δ,γ,bHF,aAM,hr]
  refine aQ fun o ho=>?_
  simp only[go_sem,υ,δ,γ,η,θ,ζ,aAN]
  refine lC hO ho (qB (by simp; omega)) fun v' H' hO' ho'=>?_
  rw[hsn] at hO'
  have bHG:=qI f.bGZ (jC f) hlt
  have fin:∀ (c:Bool) (F':PF),c=(b0&&gJ f.bGZ (jC f) (k+1))→((((gR f w3 v' w5 w6 w7 c).set 85 (.sl 4 (f.bGZ.map cU.cells))).set 86 (.int .i64 (f.bGZ.length:Nat))).set 87 (.int .i64 (k+1:Nat))).le F' →
    eA (fun (t:Nat × PV × PH)=>(((gR f w3 t.2.1 w5 w6 w7 (b0&&gJ f.bGZ (jC f) t.1)).set 85 (.sl 4 (f.bGZ.map cU.cells))).set 86 (.int .i64 (f.bGZ.length:Nat))).set 87 (.int .i64 t.1)) (fun (t:Nat × PV × PH)=>t.2.2)  (fun (t:Nat × PV × PH)=>t.1≤f.bGZ.length∧bO t.2.2 1 t.2.1 (eI ((f.bGZ.map cU.name).take t.1))) (fun (t:Nat × PV × PH)=>f.bGZ.length-t.1) (f.bGZ.length-k) K .normal F' H':=by
   intro c F' hc hle
   refine aK (α:=Nat × PV × PH) (k+1,v',H') ⟨hlt,hO'⟩ (by simp only; omega) ?_ PH.le_refl
   rw[hc] at hle
   exact hle
  unfold gR at fin
  rw[bHG,← bMB] at fin
  have hm:jC f f.bGZ[k]=(within (f.bGZ[k]).bHS 1 16&&within (f.bGZ[k]).port 1 64&&within (f.bGZ[k]).law 0 ((f.bHH.length:Int)-1)):=rfl
  cases hb:(b0&&gJ f.bGZ (jC f) k) with
  | false =>
   rw[hb,bJI] at fin
   simp only[go_sem,γ,reduceCtorEq,VS,ho',wH,wZz k]
   refine fin false _ rfl ?_
   exact Lq
  | true =>
   rw[hb,bJM] at fin
   simp only[go_sem,δ,γ,θ,VS,ho']
   refine aA (L.inn _ 1 16) Ev ?_
   cases e1:within (f.bGZ[k]).bHS 1 16 with
   | false =>
    simp only[go_sem,γ,reduceCtorEq,wH,wZz k]
    refine fin false _ (by rw[hm,e1]; simp only[bJI]) ?_
    exact Lq
   | true =>
    simp only[go_sem,δ,γ,θ,ho']
    refine aA (L.inn _ 1 64) Ev ?_
    cases e2:within (f.bGZ[k]).port 1 64 with
    | false =>
     simp only[go_sem,γ,reduceCtorEq,wH,wZz k]
     refine fin false _ (by rw[hm,e1,e2]; simp only[bJI,bKT]) ?_
     exact Lq
    | true =>
     simp only[go_sem,δ,γ,θ,ho',bJC,yR (Om:f.bHH.length≤1000)]
     refine aA (L.inn _ 0 _) Ev ?_
     simp only[go_sem,γ,wH,wZz k]
     refine fin (within (f.bGZ[k]).law 0 ((f.bHH.length:Int)-1)) _ (by rw[hm,e1,e2]; simp only[bJM]) ?_
     exact Lq
 ·have bHF:¬ (k:Int)<(f.bGZ.length:Nat):=by omega
  have:k=f.bGZ.length:=by omega
  subst this
  rw[bJS (by simp)] at hO
  rw[sR]
  simp only[go_sem,bHF]
  exact hK v _ _ ⟨by simp only[go_sem,γ],by simp only[go_sem,γ],by simp only[go_sem,γ],by simp only[go_sem,γ],by simp only[go_sem,γ],by simp only[go_sem,γ],by simp only[go_sem,γ]⟩ hO
theorem aYU {C:Ctx} (L:jG C) (f:aJ) (t:List bN) (hs:t.length≤40) (b0:Bool) (w3 w4 w6 w7:PV) (K:cO) (F:PF) (H:PH) (hv:jI F f w3 w4 .aB w6 w7 b0)
  (h67:F 119=some (.sl 7 (t.map bN.cells))) (h68:F 120=some (.int .i64 (t.length:Nat))) (h69:F 121=some (.int .i64 0))
  (hK:∀ v F' H',jI F' f w3 w4 v w6 w7 b0→bO H' 1 v (eI (t.map bN.name))→K (.exit 4) F' H') :
  aC.wp C (.loop FO) K F H:=by
 refine wp_loop (α:=Nat × PV × PH) (fun a=>(((gR f w3 w4 a.2.1 w6 w7 b0).set 119 (.sl 7 (t.map bN.cells))).set 120 (.int .i64 (t.length:Nat))).set 121 (.int .i64 a.1)) (fun a=>a.2.2)
  (fun a=>a.1≤t.length∧bO a.2.2 1 a.2.1 (eI ((t.map bN.name).take a.1))) (fun a=>t.length-a.1) (0,.aB,.nil) ⟨bJO _,.nil⟩ ?_ PH.nil_le ?_
 ·unfold gR
  (repeat' (first|exact PF.nil_le|refine PF.aI ?_ ?_))<;>first|(simp only[go_sem,hv.a1,hv.a3,hv.a4,hv.a5,hv.a6,hv.a7,hv.a8,h67,h68,h69]<;>rfl)|rfl
 rintro⟨k,v,H0⟩ ⟨hk,hO⟩
 simp only at hk hO ⊢
 simp only[go_sem,γ,FO,aAO,gR]
 by_cases hlt:k<t.length
 ·have bHF:(k:Int)<(t.length:Nat):=by omega
  have hr:(t.map bN.cells)[k]?=some (t[k]).cells:=by simp[hlt]
  have hsn:=tF (t.map bN.name) (k:=k) (by simpa using hlt)
  rw[bLK] at hsn
  simp only[go_sem,δ,γ,bHF,aAP,hr]
  refine aQ fun o ho=>?_
  simp only[go_sem,υ,δ,γ,η,θ,ζ,aAQ]
  refine lC hO ho (qB (by simp; omega)) fun v' H' hO' ho'=>?_
  rw[hsn] at hO'
  simp only[go_sem,γ,aAR,wZz k]
  refine aK (k+1,v',H') ⟨hlt,hO'⟩ (by simp only; omega) ?_ PH.le_refl
  exact Lq
 ·have bHF:¬ (k:Int)<(t.length:Nat):=by omega
  have:k=t.length:=by omega
  subst this
  rw[bJS (by simp)] at hO
  simp only[go_sem,bHF]
  exact hK v _ _ ⟨by simp only[go_sem,γ],by simp only[go_sem,γ],by simp only[go_sem,γ],by simp only[go_sem,γ],by simp only[go_sem,γ],by simp only[go_sem,γ],by simp only[go_sem,γ]⟩ hO
theorem aYV {C:Ctx} (L:jG C) (f:aJ) (names:List (List UInt8)) (hn:names.length≤40) (hs:f.bGY.length≤24) (hm:f.bGZ.length≤4) (hd:f.bHB.length≤40) (b0:Bool) (w3 w4 v0 w6 w7:PV) (K:cO) (F:PF) (H:PH) (hv:jI F f w3 w4 v0 w6 w7 b0)
  (h0:bO H 1 v0 (eI names))
  (h67:F 132=some (.sl 3 (f.bGY.map cC.cells))) (h68:F 133=some (.int .i64 (f.bGY.length:Nat))) (h69:F 134=some (.int .i64 0))
  (hK:∀ v F' H',jI F' f w3 w4 v w6 w7 (b0&&f.bGY.all (gG f))→bO H' 1 v (eI (names++f.bGY.map cC.name))→K (.exit 6) F' H') :
  aC.wp C (.loop FP) K F H:=by
 refine wp_loop (α:=Nat × PV × PH) (fun t=>(((gR f w3 w4 t.2.1 w6 w7 (b0&&gJ f.bGY (gG f) t.1)).set 132 (.sl 3 (f.bGY.map cC.cells))).set 133 (.int .i64 (f.bGY.length:Nat))).set 134 (.int .i64 t.1)) (fun t=>t.2.2)
  (fun t=>t.1≤f.bGY.length∧bO t.2.2 1 t.2.1 (eI (names++(f.bGY.map cC.name).take t.1))) (fun t=>f.bGY.length-t.1) (0,v0,H) ⟨bJO _,by rw[List.take_zero,bLD]; exact h0⟩ ?_ PH.le_refl ?_
 ·unfold gR
  (repeat' (first|exact PF.nil_le|refine PF.aI ?_ ?_))<;>first|(simp only[go_sem,hv.a1,hv.a3,hv.a4,hv.a5,hv.a6,hv.a7,hv.a8,h67,h68,h69,qJ,bLE]<;>rfl)|rfl
 rintro⟨k,v,H0⟩ ⟨hk,hO⟩
 simp only at hk hO ⊢
 simp only[go_sem,γ,FP,aAS,gR]
 by_cases hlt:k<f.bGY.length
 ·have bHF:(k:Int)<(f.bGY.length:Nat):=by omega
  have hr:(f.bGY.map cC.cells)[k]?=some (f.bGY[k]).cells:=by simp[hlt]
  have hsn:eI (names++(f.bGY.map cC.name).take k)++[[.str (f.bGY[k]).name]]=eI (names++(f.bGY.map cC.name).take (k+1)):=by
   rw[bLC (by simpa using hlt),← bKD,bLK]
   unfold eI
   simp only[bLS,bLB,List.map_nil]
  simp only[go_sem,δ,γ,bHF,aAT,hr]
  refine aQ fun o ho=>?_
  simp only[go_sem,υ,δ,γ,η,θ,ζ,aAU]
  refine lC hO ho (qB (by simp; omega)) fun v' H' hO' ho'=>?_
  rw[hsn] at hO'
  have bHG:=qI f.bGY (gG f) hlt
  have fin:∀ (c:Bool) (F':PF),c=(b0&&gJ f.bGY (gG f) (k+1))→((((gR f w3 w4 v' w6 w7 c).set 132 (.sl 3 (f.bGY.map cC.cells))).set 133 (.int .i64 (f.bGY.length:Nat))).set 134 (.int .i64 (k+1:Nat))).le F' →
    eA (fun (t:Nat × PV × PH)=>(((gR f w3 w4 t.2.1 w6 w7 (b0&&gJ f.bGY (gG f) t.1)).set 132 (.sl 3 (f.bGY.map cC.cells))).set 133 (.int .i64 (f.bGY.length:Nat))).set 134 (.int .i64 t.1)) (fun (t:Nat × PV × PH)=>t.2.2)  (fun (t:Nat × PV × PH)=>t.1≤f.bGY.length∧bO t.2.2 1 t.2.1 (eI (names++(f.bGY.map cC.name).take t.1))) (fun (t:Nat × PV × PH)=>f.bGY.length-t.1) (f.bGY.length-k) K .normal F' H':=by
   intro c F' hc hle
   refine aK (α:=Nat × PV × PH) (k+1,v',H') ⟨hlt,hO'⟩ (by simp only; omega) ?_ PH.le_refl
   rw[hc] at hle
   exact hle
  unfold gR at fin
  rw[bHG,← bMB] at fin
  have hmd:gG f f.bGY[k]=(within (f.bGY[k]).model 0 ((f.bGZ.length:Int)-1)&&within (f.bGY[k]).machine 0 ((f.bHB.length:Int)-1)&&decide ((f.bHB.map bN.level).getD (f.bGY[k]).machine.toNat 0=4)):=rfl
  cases hb:(b0&&gJ f.bGY (gG f) k) with
  | false =>
   rw[hb,bJI] at fin
   simp only[go_sem,γ,reduceCtorEq,VV,ho',rP,wZz k]
   refine fin false _ rfl ?_
   exact Lq
  | true =>
   rw[hb,bJM] at fin
   simp only[go_sem,δ,γ,θ,VV,ho',bJC,yR (Om:f.bGZ.length≤1000)]
   refine aA (L.inn _ 0 _) Ev ?_
   cases e1:within (f.bGY[k]).model 0 ((f.bGZ.length:Int)-1) with
   | false =>
    simp only[go_sem,γ,reduceCtorEq,rP,wZz k]
    refine fin false _ (by rw[hmd,e1]; simp only[bJI]) ?_
    exact Lq
   | true =>
    simp only[go_sem,δ,γ,θ,ho',bJC,yR (Om:f.bHB.length≤1000)]
    refine aA (L.inn _ 0 _) Ev ?_
    cases e2:within (f.bGY[k]).machine 0 ((f.bHB.length:Int)-1) with
    | false =>
     simp only[go_sem,γ,reduceCtorEq,rP,wZz k]
     refine fin false _ (by rw[hmd,e1,e2]; simp only[bJI,bKT]) ?_
     exact Lq
    | true =>
     obtain⟨i1,i2⟩:=within_iff.1 e2
     have i3:(f.bGY[k]).machine.toNat<f.bHB.length:=by omega
     have hpr:(f.bHB.map bN.cells)[(f.bGY[k]).machine.toNat]?=some (f.bHB[(f.bGY[k]).machine.toNat]).cells:=by simp[i3]
     have hlv:(f.bHB.map bN.level).getD (f.bGY[k]).machine.toNat 0=(f.bHB[(f.bGY[k]).machine.toNat]).level:=by simp[i3]
     rw[hlv] at hmd
     by_cases e3:(f.bHB[(f.bGY[k]).machine.toNat]).level=4
     ·simp only[go_sem,δ,γ,θ,ho',i1,hpr,bW e3,rP,wZz k]
      refine fin true _ (by rw[hmd,e1,e2,decide_eq_true e3]; rfl) ?_
      exact Lq
     ·simp only[go_sem,δ,γ,θ,ho',i1,hpr,bF e3,rP,wZz k]
      refine fin false _ (by rw[hmd,e1,e2,decide_eq_false e3]; rfl) ?_
      exact Lq
 ·have bHF:¬ (k:Int)<(f.bGY.length:Nat):=by omega
  have:k=f.bGY.length:=by omega
  subst this
  rw[bJS (by simp)] at hO
  rw[sR]
  simp only[go_sem,bHF]
  exact hK v _ _ ⟨by simp only[go_sem,γ],by simp only[go_sem,γ],by simp only[go_sem,γ],by simp only[go_sem,γ],by simp only[go_sem,γ],by simp only[go_sem,γ],by simp only[go_sem,γ]⟩ hO
theorem aYW {C:Ctx} (L:jG C) (f:aJ) (hf:f.Ok) (hs:f.bHC.length≤4) (hm:f.bGZ.length≤4) (b0:Bool) (w3 w4 w5 w7:PV) (K:cO) (F:PF) (H:PH) (hv:jI F f w3 w4 w5 .aB w7 b0)
  (h67:F 174=some (.sl 17 (f.bHC.map dA.cells))) (h68:F 175=some (.int .i64 (f.bHC.length:Nat))) (h69:F 176=some (.int .i64 0))
  (hK:∀ v F' H',jI F' f w3 w4 w5 v w7 (b0&&f.bHC.all (iR f.bGZ.length))→bO H' 1 v (eI (f.bHC.map dA.name))→K (.exit 8) F' H') :
  aC.wp C (.loop FQ) K F H:=by
 refine wp_loop (α:=Nat × PV × PH) (fun t=>(((gR f w3 w4 w5 t.2.1 w7 (b0&&gJ f.bHC (iR f.bGZ.length) t.1)).set 174 (.sl 17 (f.bHC.map dA.cells))).set 175 (.int .i64 (f.bHC.length:Nat))).set 176 (.int .i64 t.1)) (fun t=>t.2.2)
  (fun t=>t.1≤f.bHC.length∧bO t.2.2 1 t.2.1 (eI ((f.bHC.map dA.name).take t.1))) (fun t=>f.bHC.length-t.1) (0,.aB,.nil) ⟨bJO _,.nil⟩ ?_ PH.nil_le ?_
 ·unfold gR
  (repeat' (first|exact PF.nil_le|refine PF.aI ?_ ?_))<;>first|(simp only[go_sem,hv.a1,hv.a3,hv.a4,hv.a5,hv.a6,hv.a7,hv.a8,h67,h68,h69,qJ,bLE]<;>rfl)|rfl
 rintro⟨k,v,H0⟩ ⟨hk,hO⟩
 simp only at hk hO ⊢
 simp only[go_sem,γ,FQ,aAV,gR]
 by_cases hlt:k<f.bHC.length
 ·have bHF:(k:Int)<(f.bHC.length:Nat):=by omega
  have hr:(f.bHC.map dA.cells)[k]?=some (f.bHC[k]).cells:=by simp[hlt]
  have hsn:=tF (f.bHC.map dA.name) (k:=k) (by simpa using hlt)
  rw[bLK] at hsn
  simp only[go_sem,δ,γ,bHF,aAW,hr]
  refine aQ fun o ho=>?_
  simp only[go_sem,υ,δ,γ,η,θ,ζ,aAX]
  refine lC hO ho (qB (by simp; omega)) fun v' H' hO' ho'=>?_
  rw[hsn] at hO'
  have bHG:=qI f.bHC (iR f.bGZ.length) hlt
  have fin:∀ (c:Bool) (F':PF),c=(b0&&gJ f.bHC (iR f.bGZ.length) (k+1))→((((gR f w3 w4 w5 v' w7 c).set 174 (.sl 17 (f.bHC.map dA.cells))).set 175 (.int .i64 (f.bHC.length:Nat))).set 176 (.int .i64 (k+1:Nat))).le F' →
    eA (fun (t:Nat × PV × PH)=>(((gR f w3 w4 w5 t.2.1 w7 (b0&&gJ f.bHC (iR f.bGZ.length) t.1)).set 174 (.sl 17 (f.bHC.map dA.cells))).set 175 (.int .i64 (f.bHC.length:Nat))).set 176 (.int .i64 t.1)) (fun (t:Nat × PV × PH)=>t.2.2)  (fun (t:Nat × PV × PH)=>t.1≤f.bHC.length∧bO t.2.2 1 t.2.1 (eI ((f.bHC.map dA.name).take t.1))) (fun (t:Nat × PV × PH)=>f.bHC.length-t.1) (f.bHC.length-k) K .normal F' H':=by
   intro c F' hc hle
   refine aK (α:=Nat × PV × PH) (k+1,v',H') ⟨hlt,hO'⟩ (by simp only; omega) ?_ PH.le_refl
   rw[hc] at hle
   exact hle
  unfold gR at fin
  rw[bHG,← bMB] at fin
  cases hb:(b0&&gJ f.bHC (iR f.bGZ.length) k) with
  | false =>
   rw[hb,bJI] at fin
   simp only[go_sem,γ,reduceCtorEq,VX,ho',VY,wZz k]
   refine fin false _ rfl ?_
   exact Lq
  | true =>
   rw[hb,bJM] at fin
   simp only[go_sem,δ,γ,θ,VX,ho',bJC]
   refine aA (L.pol _ _ (hf.bHM _ (bJG hlt)) hm) Ev ?_
   simp only[go_sem,γ,VY,wZz k]
   refine fin _ _ rfl ?_
   exact Lq
 ·have bHF:¬ (k:Int)<(f.bHC.length:Nat):=by omega
  have:k=f.bHC.length:=by omega
  subst this
  rw[bJS (by simp)] at hO
  rw[sR]
  simp only[go_sem,bHF]
  exact hK v _ _ ⟨by simp only[go_sem,γ],by simp only[go_sem,γ],by simp only[go_sem,γ],by simp only[go_sem,γ],by simp only[go_sem,γ],by simp only[go_sem,γ],by simp only[go_sem,γ]⟩ hO
theorem aYX {C:Ctx} (L:jG C) (f:aJ) (hs:f.bHA.length≤12) (hl:f.bHC.length≤4) (b0:Bool) (w3 w4 w5 w6:PV) (K:cO) (F:PF) (H:PH) (hv:jI F f w3 w4 w5 w6 .aB b0)
  (h67:F 195=some (.sl 2 (f.bHA.map dY.cells))) (h68:F 196=some (.int .i64 (f.bHA.length:Nat))) (h69:F 197=some (.int .i64 0))
  (hK:∀ v F' H',jI F' f w3 w4 w5 w6 v (b0&&f.bHA.all (mF f))→bO H' 1 v (eI (f.bHA.map dY.name))→K (.exit 10) F' H') :
  aC.wp C (.loop FS) K F H:=by
 refine wp_loop (α:=Nat × PV × PH) (fun t=>(((gR f w3 w4 w5 w6 t.2.1 (b0&&gJ f.bHA (mF f) t.1)).set 195 (.sl 2 (f.bHA.map dY.cells))).set 196 (.int .i64 (f.bHA.length:Nat))).set 197 (.int .i64 t.1)) (fun t=>t.2.2)
  (fun t=>t.1≤f.bHA.length∧bO t.2.2 1 t.2.1 (eI ((f.bHA.map dY.name).take t.1))) (fun t=>f.bHA.length-t.1) (0,.aB,.nil) ⟨bJO _,.nil⟩ ?_ PH.nil_le ?_
 ·unfold gR
  (repeat' (first|exact PF.nil_le|refine PF.aI ?_ ?_))<;>first|(simp only[go_sem,hv.a1,hv.a3,hv.a4,hv.a5,hv.a6,hv.a7,hv.a8,h67,h68,h69,qJ,bLE]<;>rfl)|rfl
 rintro⟨k,v,H0⟩ ⟨hk,hO⟩
 simp only at hk hO ⊢
 simp only[go_sem,γ,FS,aAY,gR]
 by_cases hlt:k<f.bHA.length
 ·have bHF:(k:Int)<(f.bHA.length:Nat):=by omega
  have hr:(f.bHA.map dY.cells)[k]?=some (f.bHA[k]).cells:=by simp[hlt]
  have hsn:=tF (f.bHA.map dY.name) (k:=k) (by simpa using hlt)
  rw[bLK] at hsn
  simp only[go_sem,δ,γ,bHF,aAZ,hr]
  refine aQ fun o ho=>?_
  simp only[go_sem,υ,δ,γ,η,θ,ζ,aBA]
  refine lC hO ho (qB (by simp; omega)) fun v' H' hO' ho'=>?_
  rw[hsn] at hO'
  have bHG:=qI f.bHA (mF f) hlt
  have fin:∀ (c:Bool) (F':PF),c=(b0&&gJ f.bHA (mF f) (k+1))→((((gR f w3 w4 w5 w6 v' c).set 195 (.sl 2 (f.bHA.map dY.cells))).set 196 (.int .i64 (f.bHA.length:Nat))).set 197 (.int .i64 (k+1:Nat))).le F' →
    eA (fun (t:Nat × PV × PH)=>(((gR f w3 w4 w5 w6 t.2.1 (b0&&gJ f.bHA (mF f) t.1)).set 195 (.sl 2 (f.bHA.map dY.cells))).set 196 (.int .i64 (f.bHA.length:Nat))).set 197 (.int .i64 t.1)) (fun (t:Nat × PV × PH)=>t.2.2)  (fun (t:Nat × PV × PH)=>t.1≤f.bHA.length∧bO t.2.2 1 t.2.1 (eI ((f.bHA.map dY.name).take t.1))) (fun (t:Nat × PV × PH)=>f.bHA.length-t.1) (f.bHA.length-k) K .normal F' H':=by
   intro c F' hc hle
   refine aK (α:=Nat × PV × PH) (k+1,v',H') ⟨hlt,hO'⟩ (by simp only; omega) ?_ PH.le_refl
   rw[hc] at hle
   exact hle
  unfold gR at fin
  rw[bHG,← bMB] at fin
  have hm:mF f f.bHA[k]=within (f.bHA[k]).bHM 0 ((f.bHC.length:Int)-1):=rfl
  cases hb:(b0&&gJ f.bHA (mF f) k) with
  | false =>
   rw[hb,bJI] at fin
   simp only[go_sem,γ,reduceCtorEq,WA,ho',WB,wZz k]
   refine fin false _ rfl ?_
   exact Lq
  | true =>
   rw[hb,bJM,hm] at fin
   simp only[go_sem,δ,γ,θ,WA,ho',bJC,yR (Om:f.bHC.length≤1000)]
   refine aA (L.inn _ 0 _) Ev ?_
   simp only[go_sem,γ,WB,wZz k]
   refine fin _ _ rfl ?_
   exact Lq
 ·have bHF:¬ (k:Int)<(f.bHA.length:Nat):=by omega
  have:k=f.bHA.length:=by omega
  subst this
  rw[bJS (by simp)] at hO
  rw[sR]
  simp only[go_sem,bHF]
  exact hK v _ _ ⟨by simp only[go_sem,γ],by simp only[go_sem,γ],by simp only[go_sem,γ],by simp only[go_sem,γ],by simp only[go_sem,γ],by simp only[go_sem,γ],by simp only[go_sem,γ]⟩ hO
theorem lG {f:aJ} (h:¬ (f.bHH.length≤4∧f.bGZ.length≤4∧f.bHB.length≤40∧f.bGY.length≤24∧f.bHC.length≤4∧f.bHA.length≤12)):lF f=false:=by
 rw[← Bool.not_eq_true]
 intro hs
 simp only[lF,bJZ,decide_eq_true_eq] at hs
 omega
theorem aMH {f:aJ} (h:f.bHH.length≤4∧f.bGZ.length≤4∧f.bHB.length≤40∧f.bGY.length≤24∧f.bHC.length≤4∧f.bHA.length≤12):lF f=within f.bIM 1 4:=by
 obtain⟨h1,h2,h3,h4,h5,h6⟩:=h
 simp[lF,h1,h2,h3,h4,h5,h6]
theorem kT {t:Nat} {n m:Int} {F:PF} {H:PH} (h:F t=some (.int .i64 n)) (e:n=m):aT [.tmp t] (bZ (.int .i64 m)) .ret F H:=by
 subst e
 exact aX (.inr rfl) .nil (vs:=[.int .i64 n]) (by rw[kU,nU,h,pU]) PH.nil_le ⟨.refl _,rfl⟩
def wY (f:aJ):Int:=if dS f then 0 else 1
theorem a1T {f:aJ} (h:dS f=false):wY f=1:=by rw[wY,h]; rfl
theorem rD {C:Ctx} {F:PF} {H:PH} {name t s:Nat} {v r:PV} {rows:List (List PV)} {d:Option Nat} {K:PF→PH→Prop} (h:aD C name [.sl s rows] .nil (aE r)) (hO:bO H s v rows) (ht:F t=some v)
  (hK:∀ (F1:PF) (H1:PH),(∀ i u,F i=some u→Pure u→F1 i=some u)→K (F1.put d r) H1):fP C name [.tmp t] [] d K F H:=by
 rcases hO with ⟨rfl,rfl⟩ | ⟨q,rs,rfl,h1,h2,h3⟩
 ·refine aA (h.a0X (.inl ⟨rfl,rfl⟩)) (by rw[wA,aaG,ht,QU]) ?_
  exact hK F H fun i u hi _=>hi
 ·rw[← h3] at h
  refine oA (k:=rows.length) h ht h1 h2 (hK _ _ fun i u hi hp=>?_)
  rw[qN,hi,bKL,hp q s rs]
theorem Seen.pure {s:Nat} {v:PV} {rows:List (List PV)} (h:Seen s v rows):Pure v:=by
 rcases h with ⟨_,rfl⟩ | rfl
 ·exact fun _ _ _=>rfl
 ·exact fun _ _ _=>rfl
def bI (b:Bool):Int:=if b then 0 else 1
abbrev RG (f:aJ):List (List UInt8):=(f.bHB.drop 1).map bN.name++f.bGY.map cC.name
def sN (f:aJ):Bool:=distinct (f.bHH.map cM.name)&&distinct (f.bGZ.map cU.name)&&distinct (RG f)&&distinct (f.bHC.map dA.name)&&distinct (f.bHA.map dY.name)
structure Small (f:aJ):Prop where
 bHH:f.bHH.length≤4
 bGZ:f.bGZ.length≤4
 bHB:f.bHB.length≤40
 bGY:f.bGY.length≤24
 bHC:f.bHC.length≤4
 bHA:f.bHA.length≤12
theorem yF {C:Ctx} (L:jG C) {v:PV} {l:List (List UInt8)} (h:Seen 1 v (eI l)) (hl:l.length≤1000):aD C 110 [v] .nil (aE (.bool (distinct l))) :=
 (L.uniq l (Om:l.length≤9223372036854775807)).a0X h
theorem beQ {C:Ctx} (L:jG C) (f:aJ) (hs:Small f) (w3 w4 w5 w6 w7:PV) (ok:Bool) (F:PF) (H:PH) (hv:jI F f w3 w4 w5 w6 w7 ok)
  (h3:Seen 1 w3 (eI (f.bHH.map cM.name))) (h4:Seen 1 w4 (eI (f.bGZ.map cU.name))) (h5:Seen 1 w5 (eI (RG f))) (h6:Seen 1 w6 (eI (f.bHC.map dA.name))) (h7:bO H 1 w7 (eI (f.bHA.map dY.name))) :
  aC.wp C (.seq (.seq (.region wI) (.cond (.tmp 243) (.seq (.region lM) .ret) .skip)) (.seq (.region FT) .ret)) (aT [.tmp 2] (bZ (.int .i64 (bI (ok&&sN f))))) F H:=by
 obtain⟨s1,s2,s3,s4,s5,s6⟩:=hs
 have l3:(f.bHH.map cM.name).length≤1000:=by simp; omega
 have l4:(f.bGZ.map cU.name).length≤1000:=by simp; omega
 have l5:(RG f).length≤1000:=by simp; omega
 have l6:(f.bHC.map dA.name).length≤1000:=by simp; omega
 have l7:(f.bHA.map dY.name).length≤9223372036854775807:=by simp; omega
 cases ok with
 | false =>
  simp only[go_sem,γ,wI,hv.a8,lM]
  exact kT rfl rfl
 | true =>
  simp only[go_sem,γ,wI,hv.a8,hv.a3]
  refine aA (yF L h3 l3) rfl ?_
  unfold sN
  cases c1:distinct (f.bHH.map cM.name) with
  | false =>
   simp only[go_sem,γ,reduceCtorEq,lM,bJQ]
   exact kT rfl rfl
  | true =>
   simp only[go_sem,γ,reduceCtorEq,hv.a4,bJK]
   refine aA (yF L h4 l4) rfl ?_
   cases c2:distinct (f.bGZ.map cU.name) with
   | false =>
    simp only[go_sem,γ,reduceCtorEq,lM,bJQ]
    exact kT rfl rfl
   | true =>
    simp only[go_sem,γ,reduceCtorEq,hv.a5,bJK]
    refine aA (yF L h5 l5) rfl ?_
    cases c3:distinct (RG f) with
    | false =>
     simp only[go_sem,γ,reduceCtorEq,lM,bJQ]
     exact kT rfl rfl
    | true =>
     simp only[go_sem,γ,reduceCtorEq,hv.a6,bJK]
     refine aA (yF L h6 l6) rfl ?_
     cases c4:distinct (f.bHC.map dA.name) with
     | false =>
      simp only[go_sem,γ,reduceCtorEq,lM,bJQ]
      exact kT rfl rfl
     | true =>
      simp only[go_sem,γ,reduceCtorEq,hv.a7,bJK]
      refine rD (L.uniq _ l7) h7 rfl fun F1 H1 hp=>?_
      have g:F1 239=some (.bool false):=hp 239 _ rfl fun _ _ _=>rfl
      cases c5:distinct (f.bHA.map dY.name) with
      | false =>
       simp only[go_sem,γ,reduceCtorEq,lM,bJQ,g]
       exact kT rfl rfl
      | true =>
       simp only[go_sem,γ,reduceCtorEq,FT,bJK,g]
       exact kT rfl rfl
abbrev alF (b:Bool):cO:=aT [.tmp 2] (bZ (.int .i64 (bI b)))
def avA:aC:=.seq (.seq (.region VZ) (.block 10 (.loop FS))) (.seq (.seq (.region wI) (.cond (.tmp 243) (.seq (.region lM) .ret) .skip)) (.seq (.region FT) .ret))
def auZ:aC:=.seq (.seq (.region VW) (.block 8 (.loop FQ))) avA
def auY:aC:=.seq (.seq (.region VU) (.block 6 (.loop FP))) auZ
def auX:aC:=.seq (.seq (.region VT) (.block 4 (.loop FO))) auY
def auW:aC:=.seq (.seq (.region VR) (.block 2 (.loop FN))) auX
def a1S:aC:=.seq (.seq (.region ajJ) (.block 0 (.loop FL))) auW
theorem bmC {C:Ctx} (L:jG C) (f:aJ) (hs:Small f) (w3 w4 w5 w6:PV) (ok:Bool) (F:PF) (H:PH) (hv:jI F f w3 w4 w5 w6 .aB ok)
  (h3:Seen 1 w3 (eI (f.bHH.map cM.name))) (h4:Seen 1 w4 (eI (f.bGZ.map cU.name))) (h5:Seen 1 w5 (eI (RG f))) (h6:bO H 1 w6 (eI (f.bHC.map dA.name))) :
  aC.wp C avA (alF (ok&&f.bHA.all (mF f)&&sN f)) F H:=by
 unfold avA
 simp only[go_sem,γ,VZ,hv.a1,bJC]
 refine oC h6 fun v1 hv1 F1 H1 ht hp=>?_
 refine aYX L f hs.bHA hs.bHC ok w3 w4 w5 v1 _ F1 H1 ⟨hp 1 _ (by simp only[go_sem,γ,hv.a1]) fun _ _ _=>rfl,hp 3 _ (by simp only[go_sem,γ,hv.a3]) h3.pure,hp 4 _ (by simp only[go_sem,γ,hv.a4]) h4.pure,hp 5 _ (by simp only[go_sem,γ,hv.a5]) h5.pure,ht 6 (by simp only[go_sem,γ,hv.a6]),hp 7 _ (by simp only[go_sem,γ,hv.a7]) fun _ _ _=>rfl,hp 8 _ (by simp only[go_sem,γ,hv.a8]) fun _ _ _=>rfl⟩
  (hp 195 _ rfl fun _ _ _=>rfl) (hp 196 _ rfl fun _ _ _=>rfl) (hp 197 _ rfl fun _ _ _=>rfl) fun v F' H' hv' hO=>?_
 have e:=beQ L f hs w3 w4 w5 v1 v _ F' H' hv' h3 h4 h5 hv1 hO
 simp only[aC.wp,go_sem] at e
 simp only[go_sem]
 exact e
theorem bmB {C:Ctx} (L:jG C) (f:aJ) (hf:f.Ok) (hs:Small f) (w3 w4 w5:PV) (ok:Bool) (F:PF) (H:PH) (hv:jI F f w3 w4 w5 .aB .aB ok)
  (h3:Seen 1 w3 (eI (f.bHH.map cM.name))) (h4:Seen 1 w4 (eI (f.bGZ.map cU.name))) (h5:bO H 1 w5 (eI (RG f))) :
  aC.wp C auZ (alF (ok&&f.bHC.all (iR f.bGZ.length)&&f.bHA.all (mF f)&&sN f)) F H:=by
 unfold auZ
 simp only[go_sem,δ,γ,θ,VW,hv.a1,bJC]
 refine oC h5 fun v1 hv1 F1 H1 ht hp=>?_
 refine aYW L f hf hs.bHC hs.bGZ ok w3 w4 v1 .aB _ F1 H1 ⟨hp 1 _ (by simp only[go_sem,γ,hv.a1]) fun _ _ _=>rfl,hp 3 _ (by simp only[go_sem,γ,hv.a3]) h3.pure,hp 4 _ (by simp only[go_sem,γ,hv.a4]) h4.pure,ht 5 (by simp only[go_sem,γ,hv.a5]),hp 6 _ (by simp only[go_sem,γ,hv.a6]) fun _ _ _=>rfl,hp 7 _ (by simp only[go_sem,γ,hv.a7]) fun _ _ _=>rfl,hp 8 _ (by simp only[go_sem,γ,hv.a8]) fun _ _ _=>rfl⟩
  (hp 174 _ rfl fun _ _ _=>rfl) (hp 175 _ rfl fun _ _ _=>rfl) (hp 176 _ rfl fun _ _ _=>rfl) fun v F' H' hv' hO=>?_
 simp only[go_sem]
 exact bmC L f hs w3 w4 v1 v _ F' H' hv' h3 h4 hv1 hO
theorem bmA {C:Ctx} (L:jG C) (f:aJ) (hf:f.Ok) (hs:Small f) (w3 w4 w5:PV) (ok:Bool) (F:PF) (H:PH) (hv:jI F f w3 w4 w5 .aB .aB ok)
  (h3:Seen 1 w3 (eI (f.bHH.map cM.name))) (h4:Seen 1 w4 (eI (f.bGZ.map cU.name))) (h5:bO H 1 w5 (eI ((f.bHB.drop 1).map bN.name))) :
  aC.wp C auY (alF (ok&&f.bGY.all (gG f)&&f.bHC.all (iR f.bGZ.length)&&f.bHA.all (mF f)&&sN f)) F H:=by
 unfold auY
 simp only[go_sem,δ,γ,θ,VU,hv.a1,bJC]
 refine aYV L f ((f.bHB.drop 1).map bN.name) (by have:=hs.bHB; simp; omega) hs.bGY hs.bGZ hs.bHB ok w3 w4 w5 .aB .aB _ _ H ⟨by simp only[go_sem,γ,hv.a1],by simp only[go_sem,γ,hv.a3],by simp only[go_sem,γ,hv.a4],by simp only[go_sem,γ,hv.a5],by simp only[go_sem,γ,hv.a6],by simp only[go_sem,γ,hv.a7],by simp only[go_sem,γ,hv.a8]⟩ h5
  rfl rfl rfl fun v F' H' hv' hO=>?_
 simp only[go_sem]
 exact bmB L f hf hs w3 w4 v _ F' H' hv' h3 h4 hO
theorem blZ {C:Ctx} (L:jG C) (f:aJ) (hf:f.Ok) (hs:Small f) (hd:0<f.bHB.length) (w3 w4:PV) (ok:Bool) (F:PF) (H:PH) (hv:jI F f w3 w4 .aB .aB .aB ok)
  (h3:Seen 1 w3 (eI (f.bHH.map cM.name))) (h4:bO H 1 w4 (eI (f.bGZ.map cU.name))) :
  aC.wp C auX (alF (ok&&f.bGY.all (gG f)&&f.bHC.all (iR f.bGZ.length)&&f.bHA.all (mF f)&&sN f)) F H:=by
 unfold auX
 have hsl:(1:Int)≤(f.bHB.length:Nat):=by omega
 have hsd:=hs.bHB
 have hdrop:((f.bHB.map bN.cells).take f.bHB.length).drop 1=(f.bHB.drop 1).map bN.cells:=by
  rw[bJS (by simp),List.map_drop]
 simp only[go_sem,κ,ν,δ,γ,θ,reduceCtorEq,VT,hv.a1,bJC,hsl,bMF,hdrop]
 refine oC h4 fun v1 hv1 F1 H1 ht hp=>?_
 refine aYU L f (f.bHB.drop 1) (by simp; omega) ok w3 v1 .aB .aB _ F1 H1 ⟨hp 1 _ (by simp only[go_sem,γ,hv.a1]) fun _ _ _=>rfl,hp 3 _ (by simp only[go_sem,γ,hv.a3]) h3.pure,ht 4 (by simp only[go_sem,γ,hv.a4]),hp 5 _ (by simp only[go_sem,γ,hv.a5]) fun _ _ _=>rfl,hp 6 _ (by simp only[go_sem,γ,hv.a6]) fun _ _ _=>rfl,hp 7 _ (by simp only[go_sem,γ,hv.a7]) fun _ _ _=>rfl,hp 8 _ (by simp only[go_sem,γ,hv.a8]) fun _ _ _=>rfl⟩
  (hp 119 _ rfl fun _ _ _=>rfl) (hp 120 _ rfl fun _ _ _=>rfl) (hp 121 _ rfl fun _ _ _=>rfl) fun v F' H' hv' hO=>?_
 simp only[go_sem]
 exact bmA L f hf hs w3 v1 v _ F' H' hv' h3 hv1 hO
theorem blY {C:Ctx} (L:jG C) (f:aJ) (hf:f.Ok) (hs:Small f) (hd:0<f.bHB.length) (w3:PV) (ok:Bool) (F:PF) (H:PH) (hv:jI F f w3 .aB .aB .aB .aB ok)
  (h3:bO H 1 w3 (eI (f.bHH.map cM.name))) :
  aC.wp C auW (alF (ok&&f.bGZ.all (jC f)&&f.bGY.all (gG f)&&f.bHC.all (iR f.bGZ.length)&&f.bHA.all (mF f)&&sN f)) F H:=by
 unfold auW
 simp only[go_sem,δ,γ,θ,VR,hv.a1,bJC]
 refine oC h3 fun v1 hv1 F1 H1 ht hp=>?_
 refine aYT L f hs.bGZ hs.bHH ok v1 .aB .aB .aB _ F1 H1 ⟨hp 1 _ (by simp only[go_sem,γ,hv.a1]) fun _ _ _=>rfl,ht 3 (by simp only[go_sem,γ,hv.a3]),hp 4 _ (by simp only[go_sem,γ,hv.a4]) fun _ _ _=>rfl,hp 5 _ (by simp only[go_sem,γ,hv.a5]) fun _ _ _=>rfl,hp 6 _ (by simp only[go_sem,γ,hv.a6]) fun _ _ _=>rfl,hp 7 _ (by simp only[go_sem,γ,hv.a7]) fun _ _ _=>rfl,hp 8 _ (by simp only[go_sem,γ,hv.a8]) fun _ _ _=>rfl⟩
  (hp 85 _ rfl fun _ _ _=>rfl) (hp 86 _ rfl fun _ _ _=>rfl) (hp 87 _ rfl fun _ _ _=>rfl) fun v F' H' hv' hO=>?_
 simp only[go_sem]
 exact blZ L f hf hs hd v1 v _ F' H' hv' hv1 hO
theorem blX {C:Ctx} (L:jG C) (f:aJ) (hf:f.Ok) (hs:Small f) (hd:0<f.bHB.length) (F:PF) (H:PH) (hv:jI F f .aB .aB .aB .aB .aB true) :
  aC.wp C a1S (alF (f.bHH.all jW&&f.bGZ.all (jC f)&&f.bGY.all (gG f)&&f.bHC.all (iR f.bGZ.length)&&f.bHA.all (mF f)&&sN f)) F H:=by
 unfold a1S
 simp only[go_sem,δ,γ,θ,ajJ,hv.a1,bJC]
 refine aYS L f hf hs.bHH .aB .aB .aB .aB _ _ H ⟨by simp only[go_sem,γ,hv.a1],by simp only[go_sem,γ,hv.a3],by simp only[go_sem,γ,hv.a4],by simp only[go_sem,γ,hv.a5],by simp only[go_sem,γ,hv.a6],by simp only[go_sem,γ,hv.a7],by simp only[go_sem,γ,hv.a8]⟩ rfl rfl rfl fun v F' H' hv' hO=>?_
 simp only[go_sem]
 exact blY L f hf hs hd v _ F' H' hv' hO
theorem blV {C:Ctx} (L:jG C) (f:aJ) (hf:f.Ok):MC.wp C (aT aAK.res (bZ (.int .i64 (wY f)))) (PF.args [.agg f.cells]) .nil:=by
 have he:dS f=(lF f&&mI f&&(f.bHH.all jW&&f.bGZ.all (jC f)&&f.bGY.all (gG f)&&f.bHC.all (iR f.bGZ.length)&&f.bHA.all (mF f))&&sN f):=rfl
 simp only[go_sem,δ,γ,θ,MC,aPX,aPY,aAK]
 refine aA (L.inn f.bIM 1 4) rfl ?_
 have bad:∀ (F:PF) (H:PH),dS f=false→F 2=some (.int .i64 1)→aT [.tmp 2] (bZ (.int .i64 (wY f))) .ret F H:=fun F H h1 h2=>kT h2 (a1T h1).symm
 cases e0:within f.bIM 1 4 with
 | false =>
  have:lF f=false:=by simp[lF,e0]
  simp only[go_sem,γ,bJQ,nJ]
  exact bad _ _ (by rw[he,this]; simp only[bJI]) rfl
 | true =>
  by_cases s1:f.bHH.length≤4
  ·have s1':¬ ((f.bHH.length:Nat):Int)>4:=by omega
   by_cases s2:f.bGZ.length≤4
   ·have s2':¬ ((f.bGZ.length:Nat):Int)>4:=by omega
    by_cases s3:f.bHB.length≤40
    ·have s3':¬ ((f.bHB.length:Nat):Int)>40:=by omega
     by_cases s4:f.bGY.length≤24
     ·have s4':¬ ((f.bGY.length:Nat):Int)>24:=by omega
      by_cases s5:f.bHC.length≤4
      ·have s5':¬ ((f.bHC.length:Nat):Int)>4:=by omega
       by_cases s6:f.bHA.length≤12
       ·have s6':¬ ((f.bHA.length:Nat):Int)>12:=by omega
        have hsz:=aMH ⟨s1,s2,s3,s4,s5,s6⟩
        rw[e0] at hsz
        simp only[go_sem,δ,γ,θ,reduceCtorEq,bJK,bJC,s1',s2',s3',s4',s5',s6']
        refine aA (L.bHJ f hf) rfl ?_
        cases e1:mI f with
        | false =>
         simp only[go_sem,γ,reduceCtorEq,bJQ,nJ]
         exact bad _ _ (by rw[he,e1]; simp only[bKT,bJI]) rfl
        | true =>
         have hd:0<f.bHB.length:=by
          rcases bMD f.bHB.length with h | h
          ·have:f.bHB=[]:=bMQ h
           rw[mI,this] at e1
           cases e1
          ·exact h
         have hz:wY f=bI (f.bHH.all jW&&f.bGZ.all (jC f)&&f.bGY.all (gG f)&&f.bHC.all (iR f.bGZ.length)&&f.bHA.all (mF f)&&sN f):=by
          rw[wY,he,hsz,e1]; rfl
         rw[hz]
         simp only[go_sem,γ,reduceCtorEq,bJK,aPZ,aQA]
         have e:=fun F H hv=>blX L f hf ⟨s1,s2,s3,s4,s5,s6⟩ hd F H hv
         simp only[a1S,auW,auX,auY,auZ,avA,aC.wp,go_sem] at e
         exact e _ _ ⟨by simp only[go_sem,γ],by simp only[go_sem,γ],by simp only[go_sem,γ],by simp only[go_sem,γ],by simp only[go_sem,γ],by simp only[go_sem,γ],by simp only[go_sem,γ]⟩
       ·have s6':((f.bHA.length:Nat):Int)>12:=by omega
        simp only[go_sem,δ,γ,θ,reduceCtorEq,bJK,bJC,s1',s2',s3',s4',s5',s6',nJ]
        exact bad _ _ (by rw[he,lG Om]; simp only[bJI]) rfl
      ·have s5':((f.bHC.length:Nat):Int)>4:=by omega
       simp only[go_sem,δ,γ,θ,reduceCtorEq,bJK,bJC,s1',s2',s3',s4',s5',nJ]
       exact bad _ _ (by rw[he,lG Om]; simp only[bJI]) rfl
     ·have s4':((f.bGY.length:Nat):Int)>24:=by omega
      simp only[go_sem,δ,γ,θ,reduceCtorEq,bJK,bJC,s1',s2',s3',s4',nJ]
      exact bad _ _ (by rw[he,lG Om]; simp only[bJI]) rfl
    ·have s3':((f.bHB.length:Nat):Int)>40:=by omega
     simp only[go_sem,δ,γ,θ,reduceCtorEq,bJK,bJC,s1',s2',s3',nJ]
     exact bad _ _ (by rw[he,lG Om]; simp only[bJI]) rfl
   ·have s2':((f.bGZ.length:Nat):Int)>4:=by omega
    simp only[go_sem,δ,γ,θ,reduceCtorEq,bJK,bJC,s1',s2',nJ]
    exact bad _ _ (by rw[he,lG Om]; simp only[bJI]) rfl
  ·have s1':((f.bHH.length:Nat):Int)>4:=by omega
   simp only[go_sem,δ,γ,θ,reduceCtorEq,bJK,bJC,s1',nJ]
   exact bad _ _ (by rw[he,lG Om]; simp only[bJI]) rfl
def lvl (f:aJ) (i:Nat):Int:=(f.bHB.map bN.level).getD i 0
def par (f:aJ) (i:Nat):Int:=(f.bHB.map bN.parent).getD i 0
def aEN (f:aJ) (i:Nat):Nat:=(par f i).toNat
def aBX (f:aJ) (d:Nat):Nat:=((f.bGY.map cC.machine).getD d 0).toNat
def mdl (f:aJ) (d:Nat):Nat:=((f.bGY.map cC.model).getD d 0).toNat
def ext (f:aJ) (d:Nat):Int:=(f.bGZ.map cU.bHS).getD (mdl f d) 0
def tQ (f:aJ) (v:Nat):Nat:=((f.bHA.map dY.bHM).getD v 0).toNat
def buZ:dA:=⟨[],0,0,0,0,0,0,0,0,[],[],⟨false,[],[]⟩,⟨false,[],[]⟩⟩
def dM (f:aJ) (v:Nat):dA:=f.bHC.getD (tQ f v) buZ
def upN (f:aJ):Nat→Nat→Nat
 | 0,i=>i
 | k+1,i=>aEN f (upN f k i)
theorem nI {α β:Type} {l:List α} {g:α→β} {i:Nat} {b:β} (h:i<l.length):(l.map g).getD i b=g l[i]:=by
 simp[bJX,h]
structure VF (f:aJ):Prop where
 small:Small f
 root:0<f.bHB.length∧lvl f 0=0∧par f 0=-1
 dom:∀ i,0<i→i<f.bHB.length→0≤par f i∧aEN f i<i∧lvl f (aEN f i)=lvl f i-1∧1≤lvl f i∧lvl f i≤4
 drive:∀ d (h:d<f.bGY.length),0≤(f.bGY[d]).model∧mdl f d<f.bGZ.length∧0≤(f.bGY[d]).machine∧aBX f d<f.bHB.length∧lvl f (aBX f d)=4
 bHM:∀ p∈f.bHC,1≤p.k∧p.k≤6∧0≤p.m∧p.m≤4∧p.k+p.m≤8∧p.s0=0∧(∀ l,0≤p.spread l∧p.spread l≤8)∧∀ m∈p.bGZ,0≤m∧m<f.bGZ.length
 volume:∀ v (h:v<f.bHA.length),0≤(f.bHA[v]).bHM∧tQ f v<f.bHC.length
 model:∀ m∈f.bGZ,1≤m.bHS∧m.bHS≤16
theorem bnM {p:dA} {n:Nat} (h:iR n p=true):∀ m∈p.bGZ,0≤m∧m<n:=by
 intro m hm
 simp only[iR,bJZ] at h
 obtain⟨i,hi,rfl⟩:=bLL hm
 have:=bJW.1 h.2 i (bKE.2 hi)
 rw[bJZ] at this
 have h1:=within_iff.1 this.1
 simp only[bJX,bJN hi,bLQ] at h1
 omega
theorem agU {x:Int} (h1:1≤x) (h2:x≤4):IntKind.i64.wrap (x-1)=x-1:=wrap_i64 Om Om
theorem VF.of {f:aJ} (h:dS f=true):VF f:=by
 simp only[dS,bJZ] at h
 obtain⟨⟨⟨hs,hd⟩,⟨⟨⟨hlaw,hmod⟩,hdrv⟩,hpol⟩,hvol⟩,-⟩:=h
 simp only[lF,bJZ,decide_eq_true_eq] at hs
 obtain⟨⟨⟨⟨⟨⟨s0,s1⟩,s2⟩,s3⟩,s4⟩,s5⟩,s6⟩:=hs
 cases hdm:f.bHB with
 | nil=>rw[mI,hdm] at hd; cases hd
 | cons r t =>
  rw[mI,hdm] at hd
  simp only[xM,bJZ,decide_eq_true_eq] at hd
  obtain⟨⟨⟨⟨⟨⟨r1,r2⟩,r3⟩,r4⟩,r5⟩,r6⟩,bIP⟩:=hd
  have hlen:f.bHB.length=t.length+1:=by rw[hdm]; rfl
  refine⟨⟨s1,s2,s3,s4,s5,s6⟩,⟨by omega,by rw[lvl,hdm]; exact r2,by rw[par,hdm]; exact r3⟩,?_,?_,?_,?_,?_⟩
  ·intro i h0 hi
   obtain⟨k,rfl⟩:∃ k,i=k+1:=⟨i-1,by omega⟩
   have hk:k<t.length:=by omega
   have:=bJW.1 bIP k (bKE.2 hk)
   rw[bJN hk] at this
   simp only[ER,bJZ,decide_eq_true_eq] at this
   obtain⟨⟨⟨⟨d1,d2⟩,d3⟩,d4⟩,d5⟩:=this
   obtain⟨p0,p1⟩:=within_iff.1 d1
   obtain⟨l1,l4⟩:=within_iff.1 d3
   have e1:par f (k+1)=(t[k]).parent:=by rw[par,hdm]; simp[bJX,hk]
   have e2:lvl f (k+1)=(t[k]).level:=by rw[lvl,hdm]; simp[bJX,hk]
   rw[agU l1 l4] at d2
   have e3:lvl f (t[k]).parent.toNat=(t[k]).level-1:=d2
   refine⟨by rw[e1]; exact p0,?_,?_,by rw[e2]; exact l1,by rw[e2]; exact l4⟩
   ·rw[aEN,e1]; omega
   ·rw[aEN,e1,e2]; exact e3
  ·intro d hd
   have:=bJW.1 hdrv _ (bJG hd)
   simp only[gG,bJZ,decide_eq_true_eq] at this
   obtain⟨⟨d1,d2⟩,d3⟩:=this
   have a1:=within_iff.1 d1
   have a2:=within_iff.1 d2
   have e1:mdl f d=(f.bGY[d]).model.toNat:=by rw[mdl,nI hd]
   have e2:aBX f d=(f.bGY[d]).machine.toNat:=by rw[aBX,nI hd]
   refine⟨a1.1,by rw[e1]; omega,a2.1,by rw[e2]; omega,by rw[e2]; exact d3⟩
  ·intro p hp
   have h1:=bJW.1 hpol p hp
   have h2:=bnM h1
   simp only[iR,GT,bJZ,decide_eq_true_eq,List.all_cons,List.all_nil,bLE] at h1
   obtain⟨⟨⟨⟨⟨⟨⟨⟨k1,m1⟩,km⟩,q1⟩,z0⟩,sp⟩,-⟩,-⟩,-⟩:=h1
   obtain⟨g0,g1,g2,g3,g4⟩:=sp
   have b1:=within_iff.1 k1
   have b2:=within_iff.1 m1
   have b3:=within_iff.1 g0
   have b4:=within_iff.1 g1
   have b5:=within_iff.1 g2
   have b6:=within_iff.1 g3
   have b7:=within_iff.1 g4
   refine⟨b1.1,b1.2,b2.1,b2.2,km,z0,fun l=>?_,h2⟩
   unfold dA.spread
   split<;>omega
  ·intro v hv
   have:=bJW.1 hvol _ (bJG hv)
   have a1:=within_iff.1 this
   have e1:tQ f v=(f.bHA[v]).bHM.toNat:=by rw[tQ,nI hv]
   exact⟨a1.1,by rw[e1]; omega⟩
  ·intro m hm
   have:=bJW.1 hmod m hm
   simp only[jC,bJZ] at this
   exact within_iff.1 this.1.1
def bqB (f:aJ) (d:Nat) (level:Int):Nat:=upN f (4-level.toNat) (aBX f d)
def eY (f:aJ) (v:Nat):Int:=(dM f v).k+(dM f v).m
def aqJ:Rg:=[iA 1 (.box true (Tm 0)),iT 2 false]
def aqK:Rg:=[iO 3 7 1,iK 4 96 3,iC 5 .eql 4 0,iM 2 5]
def AF:aC:=(sq aqJ (sq aqK .ret))
def a9A:List Nat:=[1]
def OO:aV:=⟨1,6,AF,[.tmp 2]⟩
def aGY:Rg:=[iA 2 (.box true (Tm 0)),iI 4 0]
def aGZ:Rd:=[(iF 6 5 2,false),(iL 7 6,false),(iF 8 6 2,false),(iL 9 8,false),(iM 10 1,false),(iX 11 2 9 10,false),(iF 12 1 11,false),(iL 13 12,false),(iX 14 17 7 13,false),(iO 15 17 14,false),(iA 5 (.alloc [(.str []),(.int .i64 0),(.int .i64 0),(.int .i64 0),(.int .i64 0),(.int .i64 0),(.int .i64 0),(.int .i64 0),(.int .i64 0),.aB,.aB,(.bool false),.aB,.aB,(.bool false),.aB,.aB]),true),(iS 17 5 15,true)]
def aHA:Rg:=[iF 16 1 5,iL 17 16,iF 18 2 5,iL 19 18,iB 20 .add 17 19,iM 4 20]
def HR:aC:=(sq aGY (dq aGZ (sq aHA .ret)))
def aHB:List Nat:=[2]
def yH:aV:=⟨2,21,HR,[.tmp 4]⟩
def aqD:Rg:=[iA 3 (.box true (Tm 0)),iA 6 (.alloc [(.int .i64 0),(.int .i64 0),(.int .i64 0)]),iT 7 false]
def aqE:Rd:=[(iM 10 1,true),(iM 11 2,true),(iX 12 1 10 11,true),(iL 13 12,true),(iN 14 13,true),(iO 15 7 3,false),(iM 16 2,false),(iK2 17 156 15 16,true),(iB 18 .neq 14 17,false)]
def aqF:Rg:=[iM 19 2,iM 20 1,iM 21 2,iX 22 1 20 21,iL 23 22,iN 24 23,iA 25 (.build [(.int .i64 0),(.int .i64 0),(.int .i64 0)] [(0,1,(Ci 1)),(1,1,(Tm 19)),(2,1,(Tm 24))]),iS 3 6 25,iT 7 true]
def aqG:Rg:=[iM 26 1,iM 27 2,iX 28 1 26 27,iL 29 28,iN 30 29,iI 31 0]
def aqH:Rg:=[iB 32 .lss 31 30]
def yI:Rg:=[iM 33 31,iX 34 1 29 31,iL 35 34,iM 8 33,iM 9 35]
def yJ:Rg:=[iM 36 9,iC 37 .lss 36 (-1),iM 38 37,gM 39 9 38 false,gF 40 4 3 38 false,gL 41 40 38 false,gN 42 41 38 false,gB 43 .geq 39 42 38 false,iQ 44 38 43]
def ON:Rg:=[iM 45 2,iM 46 8,iA 47 (.build [(.int .i64 0),(.int .i64 0),(.int .i64 0)] [(0,1,(Ci 1)),(1,1,(Tm 45)),(2,1,(Tm 46))]),iS 3 6 47,iT 7 true]
def aqI:Rg:=[iC 48 .add 31 1,iM 31 48]
def aqC:aC:=(sq aqH (.seq (.cond (Tm 32) .skip (.exit 0)) (.seq (.block 1 (sq yI (sq yJ (.cond (Tm 44) (sq ON .ret) .skip)))) (.region aqI))))
def aeH:Rg:=[iA 49 (.build [(.int .i64 0),(.int .i64 0),(.int .i64 0)] []),iS 3 6 49,iT 7 false]
def AE:aC:=(sq aqD (.seq (dq aqE (.cond (Tm 18) (sq aqF .ret) .skip)) (.seq (sq aqG (.block 0 (.loop aqC))) (sq aeH .ret))))
def a8Y:List Nat:=[3]
def wW:aV:=⟨3,50,AE,[.cell 6 (some 3),.tmp 7]⟩
def adX:Rg:=[iA 2 (.box true (Tm 0)),iT 4 false]
def adY:Rg:=[iO 8 7 2,iK 9 161 8,iA 10 (.un .not (Tm 9)),iM 11 10,gM 12 1 11 false,gN 13 12 11 false,gF 14 6 2 11 false,gL 15 14 11 false,gN 16 15 11 false,gB 17 .neq 13 16 11 false,iQ 18 11 17]
def HO:Rg:=[iT 4 false]
def adZ:Rg:=[iM 19 1,iN 20 19,iI 21 0]
def aeA:Rg:=[iB 22 .lss 21 20]
def aeB:Rg:=[iM 23 21,iM 5 23]
def aeC:Rg:=[iO 25 7 2,iM 26 1,iM 27 5,iA 28 (.call 160 [(Tm 25),(Tm 26),(Tm 27)]),iM 24 28,iE 29 24 0,iE 30 24 1,iA 6 (.alloc [(.int .i64 0),(.int .i64 0),(.int .i64 0)]),iS 3 6 29,iM 7 30]
def HP:Rg:=[iM 31 7]
def aeD:Rg:=[iT 4 false]
def aeE:Rg:=[iC 32 .add 21 1,iM 21 32]
def TO:aC:=(sq aeA (.seq (.cond (Tm 22) .skip (.exit 0)) (.seq (.block 1 (sq aeB (sq aeC (sq HP (.cond (Tm 31) (sq aeD .ret) .skip))))) (.region aeE))))
def TP:Rg:=[iT 4 true]
def wV:aC:=(sq adX (.seq (sq adY (.cond (Tm 18) (sq HO .ret) .skip)) (.seq (sq adZ (.block 0 (.loop TO))) (sq TP .ret))))
def a1G:List Nat:=[2]
def CU:aV:=⟨2,33,wV,[.tmp 4]⟩
theorem a8Z {C:Ctx} (h:∀ f:aJ,f.Ok→aD C 96 [.agg f.cells] .nil (aE (.int .i64 (wY f)))) (f:aJ) (hf:f.Ok) :
  AF.wp C (aT OO.res (bZ (.bool (dS f)))) (PF.args [.agg f.cells]) .nil:=by
 simp only[go_sem,δ,γ,AF,aqJ,aqK,OO]
 refine aA (h f hf) rfl ?_
 simp only[go_sem,γ]
 refine bA rfl ?_
 unfold wY
 cases dS f<;>rfl
theorem amI {f:aJ} {d:Nat} (h:d<f.bGY.length):(f.bGY.map cC.cells)[d]?=some (f.bGY[d]).cells:=by simp[h]
theorem uA {f:aJ} {d:Nat} (h:d<f.bHB.length):(f.bHB.map bN.cells)[d]?=some (f.bHB[d]).cells:=by simp[h]
theorem uQ {f:aJ} {d:Nat} (h:d<f.bHA.length):(f.bHA.map dY.cells)[d]?=some (f.bHA[d]).cells:=by simp[h]
theorem oP {f:aJ} {d:Nat} (h:d<f.bHC.length):(f.bHC.map dA.cells)[d]?=some (f.bHC[d]).cells:=by simp[h]
theorem a6H {f:aJ} {d:Nat} (h:d<f.bGZ.length):(f.bGZ.map cU.cells)[d]?=some (f.bGZ[d]).cells:=by simp[h]
theorem VF.brF {f:aJ} (h:VF f) {d:Nat} (hd:d<f.bGY.length):(f.bGY[d]).model=((mdl f d:Nat):Int):=by
 have:=(h.drive d hd).1
 rw[mdl,nI hd]; omega
theorem VF.adC {f:aJ} (h:VF f) {v:Nat} (hv:v<f.bHA.length):(f.bHA[v]).bHM=((tQ f v:Nat):Int):=by
 have:=(h.volume v hv).1
 rw[tQ,nI hv]; omega
theorem rW {f:aJ} (h:VF f) {v:Nat} (hv:v<f.bHA.length):∃ hp:tQ f v<f.bHC.length,f.bHC[tQ f v]=dM f v:=by
 have hp:=(h.volume v hv).2
 exact⟨hp,by simp[dM,bJX,hp]⟩
theorem aGX {C:Ctx} (f:aJ) (hv:VF f) (v:Nat) (h:v<f.bHA.length) :
  HR.wp C (aT yH.res (bZ (.int .i64 (eY f v)))) (PF.args [.agg f.cells,.int .i64 v]) .nil:=by
 obtain⟨hp,he⟩:=rW hv h
 have hpol:=hv.bHM _ (bJG hp)
 rw[he] at hpol
 have hw:IntKind.i64.wrap ((dM f v).k+(dM f v).m)=(dM f v).k+(dM f v).m:=wrap_i64 Om Om
 simp only[go_sem,HR,aGY,yH]
 refine bU .nil eD PH.nil_le ?_
 simp only[go_sem,δ,γ,θ,aGZ,uQ h,hv.adC h,oP hp,he]
 refine aQ fun o ho=>?_
 simp only[go_sem,δ,γ,θ,aHA,hw]
 refine⟨PH.nil_le,?_⟩
 exact kT (n:=(dM f v).k+(dM f v).m) rfl rfl
def pick (n:Nat) (p:Nat→Bool):List Int:=((bJD n).filter p).map fun (i:Nat)=>(i:Int)
theorem aZD (l:List Int) (x:Int):bH l++[[.int .i64 x]]=bH (l++[x]):=by unfold bH; rw[bLS]; rfl
theorem gU (l:List Int):(bH l).length=l.length:=by unfold bH; rw[bJC]
def toS (f:aJ):Spec:=fun name vs=>match name,vs with
 | 155,[_,.int _ d,.int _ l]=>some ([],fun _=>aE (.int .i64 (bqB f d.toNat l:Nat)))
 | 156,[_,.int _ v]=>some ([],fun _=>aE (.int .i64 (eY f v.toNat)))
 | _,_=>none
theorem bhM (f:aJ) (v:Nat):toS f 156 [.agg f.cells,.int .i64 v]=some ([],fun _=>aE (.int .i64 (eY f v))):=rfl
section
variable (o s:Nat) (rs:List (List PV))
@[go_sem] theorem bBB (k:IntKind) (n:Int):PV.frz o s rs (.int k n)=.int k n:=(rfl)
@[go_sem] theorem bwD (b:Bool):PV.frz o s rs (.bool b)=.bool b:=(rfl)
@[go_sem] theorem bBF (l:List UInt8):PV.frz o s rs (.str l)=.str l:=(rfl)
@[go_sem] theorem bwE:PV.frz o s rs .aB=.aB:=(rfl)
@[go_sem] theorem bFK (n:Nat) (r:List (List PV)):PV.frz o s rs (.sl n r)=.sl n r:=(rfl)
@[go_sem] theorem bwF (c:List PV):PV.frz o s rs (.bG c)=.bG c:=(rfl)
@[go_sem] theorem bBE (q z i c:Nat):PV.frz o s rs (.ptr q z i c)=.ptr q z i c:=(rfl)
@[go_sem] theorem bFJ (n:Nat) (c:List PV):PV.frz o s rs (.fn n c)=.fn n c:=(rfl)
@[go_sem] theorem bBC (q:Nat):PV.frz o s rs (.map q)=.map q:=(rfl)
@[go_sem] theorem bBD (q z off len:Nat):PV.frz o s rs (.osl q z off len)=if q=o then (if z=s∧off+len≤rs.length then .sl s ((rs.drop off).take len) else .junk) else .osl q z off len:=(rfl)
end
def kF (s:Nat) (rows:List (List PV)) (r:PV) (H:PH):Prop :=
 (rows=[]∧r=.aB∧H=PH.nil)∨∃ q rs,r=.osl q s 0 rows.length∧H=PH.nil.set q (.rows s rs)∧rows.length≤rs.length∧rs.take rows.length=rows
theorem aOJ (q s:Nat) (rs:List (List PV)):(PH.nil.set q (.rows s rs)).frz q s rs=PH.nil:=PH.ext fun o=>by
 rw[vH]
 by_cases e:o=q
 ·rw[if_pos e]; rfl
 ·rw[if_neg e,bR,if_neg e]; rfl
section
variable {C:Ctx} {K:cO} {F:PF} {H:PH} {s:Nat} {v:PV} {rows:List (List PV)}
theorem kF.eU {r:PV} {H':PH} (h:kF s rows r H') (ha:kE H .nil H'):bO (H.eU .nil H') s r rows∧∀ o x,H o=some x→(H.eU .nil H') o=some x:=by
 rcases h with ⟨h1,h2,rfl⟩ | ⟨q,rs,h1,rfl,h3,h4⟩
 ·rw[PH.kS]; exact⟨.inl ⟨h1,h2⟩,fun o x h=>h⟩
 ·rw[PH.jD]
  have hq:H q=none:=ha q (.rows s rs) (by simp only[bR,if_true]) rfl
  refine⟨.inr ⟨q,rs,h1,by simp only[bR,if_true],h3,h4⟩,fun o x ho=>?_⟩
  have:o≠q:=by rintro rfl; rw[hq] at ho; cases ho
  simp only[bR,if_neg this,ho]
theorem HE {t:Nat} {e:mH} (he:e=.normal∨e=.ret) (h:bO H s v rows) (ht:F t=some v):aT [.tmp t] (kF s rows) e F H:=by
 rcases h with ⟨rfl,rfl⟩ | ⟨q,rs,rfl,h1,h2,h3⟩
 ·exact aX (vs:=[.aB]) he .nil (by rw[kU,nU,ht,pU]) PH.nil_le (.inl ⟨rfl,rfl,rfl⟩)
 ·exact aX (vs:=[.osl q s 0 rows.length]) he (PH.nil.set q (.rows s rs)) (by rw[kU,nU,ht,pU]) (PH.aI PH.nil_le h1) (.inr ⟨q,rs,rfl,rfl,h2,h3⟩)
theorem CM {t:Nat} {e:mH} (he:e=.normal∨e=.ret) (ht:F t=some .aB):aT [.tmp t] (kF s []) e F H:=HE he .nil ht
theorem a8F {t:Nat} {e:mH} {r:PV} {H':PH} (he:e=.normal∨e=.ret) (h:kF s rows r H') (ht:F t=some r):aT [.tmp t] (kF s rows) e F (H.eU .nil H'):=by
 refine aX (vs:=[r]) he H' (by rw[kU,nU,ht,pU]) (fun o x ho=>?_) h
 rw[mB,ho]
theorem aD.freeze {name:Nat} {args:List PV} (h:aD C name args H (kF s rows)):aD C name args H (aE (.sl s rows)) :=
 ⟨h.1,fun E w vs hN hW hvs=>(h.2 E w vs hN hW hvs).mono fun e w' he=>by
  obtain⟨u,pv,E',H',rfl,hW',hr,hE,hp⟩:=he
  rcases hp with ⟨rfl,rfl,rfl⟩ | ⟨q,rs,rfl,rfl,h3,h4⟩
  ·exact⟨u,_,E',_,rfl,hW',(Co.nil s).sound hr,hE,rfl,rfl⟩
  ·have hz:iH (PF.nil.set 0 (.osl q s 0 rows.length)) (PH.nil.set q (.rows s rs)) _ _:=.step q (s:=s) (rs:=rs) (by simp only[bR,if_true]) (.refl _ _)
   obtain⟨E2,k1,k2,k3⟩:=hz.sound hW'
   have bIX:=k3 (fun _=>u) (fun i p hi=>by
    rw[mY] at hi
    split at hi
    ·cases hi; exact hr
    ·cases hi) 0 (.sl s rows) (by rw[qN,mY,if_pos rfl,bKL,pO h3,h4])
   rw[aOJ] at k1 k2
   exact⟨u,_,E2,_,rfl,k1,bIX,hE.trans k2,rfl,rfl⟩⟩
theorem eG.of:∀ {E:Env} (ps:List PV) (vs:List Value),vs.length=ps.length→(∀ (i:Nat) p v,ps[i]?=some p→vs[i]?=some v→aY E p v)→eG E ps vs
 | _,[],[],_,_=>.nil
 | _,[],_::_,h,_=>by simp at h
 | _,_::_,[],h,_=>by simp at h
 | _,p::ps,v::vs,h,k=>.cons (k 0 p v rfl rfl) (eG.of ps vs (by simpa using h) fun i q u a b=>k (i+1) q u (by simpa using a) (by simpa using b))
theorem bK.same {E:Env} {w w':World} (hW:bK E H w) (hs:w.heap.size≤w'.heap.size) (hb:∀ b,b<w.heap.size→H b=none→w'.heap[b]?=w.heap[b]?) (hH:∀ o x,H o=some x→w'.heap[o]?=w.heap[o]?):bK E H w':=by
 have key:∀ b,b<w.heap.size→w'.heap[b]?=w.heap[b]?:=fun b hlt=>by
  cases e:H b with
  | none=>exact hb b hlt e
  | some x=>exact hH b x e
 refine⟨fun b cs h=>?_,fun o x h=>?_,fun o n h=>?_⟩
 ·obtain⟨h1,ty,fr,h2⟩:=hW.g b cs h
  exact⟨h1,ty,fr,(key b (bMN.1 h2).1).trans h2⟩
 ·obtain⟨h1,h2⟩:=hW.h o x h
  exact⟨Nat.lt_of_lt_of_le h1 hs,h2.mono (.refl E) (key o h1)⟩
 ·obtain⟨cur,ty,fr,h1,h2⟩:=hW.s o n h
  exact⟨cur,ty,fr,(key o (bMN.1 h1).1).trans h1,h2⟩
inductive Plain:PV→Prop
 | int (k:IntKind) (n:Int):Plain (.int k n)
 | bool (b:Bool):Plain (.bool b)
 | str (l:List UInt8):Plain (.str l)
theorem Plain.rep {v:PV} (h:Plain v) {E E':Env} {u:Value} (r:aY E v u):aY E' v u:=by
 cases h<;>cases r
 ·exact .int _ _
 ·exact .bool _
 ·exact .str _
theorem aD.brC {name o:Nat} {rs:List (List PV)} {args:List PV} (hv:Plain v) (h:aD C name (args.map (PV.frz o s rs)) .nil (aE v)) :
  aD C name args (PH.nil.set o (.rows s rs)) (fun r H'=>r=v∧H'=PH.nil.set o (.rows s rs)):=by
 refine⟨h.1,fun E w vs hN hW hvs=>?_⟩
 have hz:iH (PF.args args) (PH.nil.set o (.rows s rs)) _ _:=.step o (s:=s) (rs:=rs) (by simp only[bR,if_true]) (.refl _ _)
 obtain⟨E1,k1,k2,k3⟩:=hz.sound hW
 rw[aOJ] at k1 k2
 have hlen:=hvs.len
 have hvs1:eG E1 (args.map (PV.frz o s rs)) vs.toList:=by
  refine eG.of _ _ (by rw[bJC]; exact hlen) fun i p u hp hu=>?_
  have:=k3 (fun i=>(vs.toList[i]?).getD undef) (fun j q hj=>by
   have hjl:=(bKN.1 hj).1
   have hjv:j<vs.toList.length:=by omega
   simp only[bJN hjv,bLQ]
   exact hvs.at_ j q _ hj (bJN hjv)) i p (by rw[qN,args_at,← bKH]; exact hp)
  simp only[hu,bLQ] at this
  exact this
 refine (h.2 E1 w vs (k2.env.num.trans hN) k1 hvs1).mono fun e w' he=>?_
 obtain⟨u,pv,E2,H2,rfl,hW2,hr,hE,rfl,rfl⟩:=he
 have hblk:∀ b,b<w.heap.size→w'.heap[b]?=w.heap[b]?:=fun b hb=>hE.block b hb rfl
 refine⟨u,pv,E,_,rfl,hW.same hE.size (fun b hb _=>hblk b hb) (fun q x hq=>hblk q (hW.h q x hq).1),hv.rep hr,⟨.refl E,hE.os,hE.tape,hE.output,hE.size,fun b hb _=>hblk b hb,fun q x hq=>.inl ⟨x,hq⟩,fun b cs hb=>.inl hb⟩,rfl,rfl⟩
theorem BG {name o:Nat} {rs:List (List PV)} {args:List aP} {vs:List PV} {d:Option Nat} {K:PF→PH→Prop} (hv:Plain v) (h:aD C name (vs.map (PV.frz o s rs)) .nil (aE v)) (ho:H o=some (.rows s rs)) (ha:aP.evs F args=some vs)
  (hk:K (F.put d v) H):fP C name args [] d K F H:=by
 refine eO (h.brC hv) ha (PH.aI PH.nil_le ho) ?_
 rintro r H' ⟨rfl,rfl⟩ -
 rw[PH.NO _ (PH.aI PH.nil_le ho)]
 exact hk
theorem bdB {Hs:PH} {S:Spec} {name o:Nat} {rs:List (List PV)} {vs:List PV} {R:PH→PV→PH→Prop} {args:List aP} {st:Bool} {d:Option Nat} {K:PF→PH→Prop} (hS:S name vs=some ([o],R)) (hv:Plain v) (ho:H o=some (.rows s rs))
  (h:aD C name (vs.map (PV.frz o s rs)) .nil (aE v)) (hR1:R (PH.nil.set o (.rows s rs)) v (PH.nil.set o (.rows s rs))) (hR2:∀ r H',R (PH.nil.set o (.rows s rs)) r H'→r=v∧H'=PH.nil.set o (.rows s rs)) (ha:aP.evs F args=some vs) (hle:Hs.le H) (hk:K (F.put d v) H) :
  dOp C Hs S st (.call name args) d K F H:=UU hS ho (h.brC hv) hR1 hR2 ha hle hk
theorem auN {name t:Nat} {R:PV→PH→Prop} {d:Option Nat} {K:PF→PH→Prop} (h:aD C name [.sl s rows] .nil R) (hO:bO H s v rows) (ht:F t=some v)
  (hK:∀ (F1:PF) (H1:PH),(∀ i u,F i=some u→Pure u→F1 i=some u)→∀ r H',R r H'→kE H1 .nil H'→K (F1.put d r) (H1.eU .nil H')):fP C name [.tmp t] [] d K F H:=by
 rcases hO with ⟨rfl,rfl⟩ | ⟨q,rs,rfl,h1,h2,h3⟩
 ·exact .inl ⟨[.aB],.nil,R,by rw[wA,aaG,ht,QU]; rfl,PH.nil_le,h.a0X (.inl ⟨rfl,rfl⟩),hK F H fun i u hi _=>hi⟩
 ·refine .inr ⟨_,_,.step q h1 (.refl _ _),[.sl s rows],.nil,R,?_,PH.nil_le,h,hK _ _ fun i u hi hp=>?_⟩
  ·simp only[wA,QU,aaG,qN,ht,bKL,pO h2,h3,bLD]
  ·rw[qN,hi,bKL,hp q s rs]
end
theorem a5U (l:List Int) (i:Nat) (x:Int):(bH l).set i [.int .i64 x]=bH (l.set i x):=by unfold bH; rw[List.map_set]
def qY (f:aJ) (room:List Int) (d:Nat):Int:=if room.length=f.bGY.length then min (max (room.getD d 0) 0) (ext f d) else ext f d
def fA (f:aJ) (room:List Int):List Int:=(bJD f.bGY.length).map (qY f room)
def adJ (f:aJ) (room:List Int):List Int:=if dS f then fA f room else []
theorem yD (f:aJ) (room:List Int):(fA f room).length=f.bGY.length:=by simp[fA]
theorem aFR (f:aJ) (room:List Int) {d:Nat} (h:d<(fA f room).length):(fA f room)[d]=qY f room d:=by simp[fA]
theorem VF.a5A {f:aJ} (h:VF f) {d:Nat} (hd:d<f.bGY.length):∃ hm:mdl f d<f.bGZ.length,(f.bGZ[mdl f d]).bHS=ext f d:=by
 have hm:=(h.drive d hd).2.1
 exact⟨hm,by rw[ext,nI hm]⟩
theorem bmU (a b:Int):(if b<a then b else a)=min a b:=by
 rw[Int.min_def]
 by_cases h:b<a
 ·rw[if_pos h,if_neg Om]
 ·rw[if_neg h,if_pos Om]
abbrev lay (l:List (List Int)):PV:=.sl 1 (l.map fun r=>[ints r])
def bAO (n:Nat) (xs:List Int):List Int:=(bJD n).map fun (d:Nat)=>((xs.count (d:Int):Nat):Int)
def brD (f:aJ) (l:List (List Int)):List Int:=bAO f.bGY.length l.flatten
structure iV (l:List (List Int)):Prop where
 rows:l.length≤16777216
 all:l.flatten.length≤16777216
theorem LG (l:List (List Int)) {i:Nat} (h:i<l.length):(l.take (i+1)).flatten=(l.take i).flatten++l[i]:=by
 rw[bLC h,List.flatten_append]
 simp only[List.flatten_cons,List.flatten_nil,bLD]
theorem axU (l:List (List Int)) (i:Nat):(l.take i).flatten.length≤l.flatten.length:=by
 have:l.flatten=(l.take i).flatten++(l.drop i).flatten:=by rw[← List.flatten_append,bLU]
 rw[this,bJL]; omega
structure avN where
 kind:Int
 vol:Int
 wher:Int
abbrev avN.cells (x:avN):List PV:=[.int .i64 x.kind,.int .i64 x.vol,.int .i64 x.wher]
def eS (p:Int→Bool):List Int→Nat→Option Nat
 | [],_=>none
 | x::t,i=>if p x then some i else eS p t (i+1)
def jA (f:aJ) (d:Int):Bool:=decide (d < -1)||decide (d≥(f.bGY.length:Nat))
def lE (f:aJ) (l:List (List Int)) (v:Nat):Option avN :=
 if ((l.getD v []).length:Int)=eY f v then (eS (jA f) (l.getD v []) 0).map fun (i:Nat)=>⟨1,v,i⟩ else some ⟨1,v,((l.getD v []).length:Nat)⟩
def shV:Option avN→PV
 | some x=>.tup [.agg x.cells,.bool true]
 | none=>.tup [.agg [.int .i64 0,.int .i64 0,.int .i64 0],.bool false]
def bhO (f:aJ) (o:Nat) (v:Nat) (row:List Int) (k:Nat):PF:=((((((PF.nil.set 2 (.int .i64 v)).set 3 (.bG f.cells)).set 6 (.ptr o 3 0 0)).set 29 (ints row)).set 30 (.int .i64 (row.length:Nat))).set 31 (.int .i64 k))
def iU (f:aJ) (l:List (List Int)):Bool:=dS f&&decide (l.length=f.bHA.length)&&(bJD l.length).all fun v=>(lE f l v).isNone
def tSF (f:aJ) (l:List (List Int)) (k:Nat):PF:=((((PF.nil.set 1 (lay l)).set 2 (.bG f.cells)).set 20 (.int .i64 (l.length:Nat))).set 21 (.int .i64 k))
section
variable {C:Ctx} {F:PF} {H:PH}
theorem bO.ne {s s':Nat} {v:PV} {rows:List (List PV)} {o:Nat} {y:List (List PV)} (h:bO H s v rows) (ho:H o=some (.rows s' y)) (hs:s≠s'):∀ l,v≠.osl o s 0 l:=by
 intro l e
 rcases h with ⟨_,h2⟩ | ⟨q,rs,h1,h2,_⟩
 ·rw[h2] at e; cases e
 ·rw[h1] at e
  injection e with e1
  subst e1
  rw[ho] at h2
  injection h2 with h2
  injection h2 with h2
  exact hs h2.symm
theorem bO.set {s s':Nat} {v:PV} {rows:List (List PV)} {o:Nat} {y:List (List PV)} {x:cQ} (h:bO H s v rows) (ho:H o=some (.rows s' y)) (hs:s≠s'):bO (H.set o x) s v rows:=by
 have hne:=h.ne ho hs
 rcases h with ⟨h1,h2⟩ | ⟨q,rs,h1,h2,h3,h4⟩
 ·exact .inl ⟨h1,h2⟩
 ·refine .inr ⟨q,rs,h1,?_,h3,h4⟩
  have:q≠o:=by rintro rfl; exact hne _ h1
  simp only[bR,if_neg this,h2]
def Dis (s:Nat) (v u:PV):Prop:=∀ q l q' l',v=.osl q s 0 l→u=.osl q' s 0 l'→q≠q'
theorem Dis.nil {s:Nat}:Dis s .aB .aB:=fun _ _ _ _ h=>by cases h
theorem Dis.symm {s:Nat} {v u:PV} (h:Dis s v u):Dis s u v:=fun q l q' l' h1 h2=>(h q' l' q l h2 h1).symm
end
structure Obs where
 o5:Nat
 o7:Nat
 o8:Nat
 oD:Nat
 oB:Nat
structure Obs.Ne (o:Obs):Prop where
 a1:o.o5≠o.oD
 a2:o.o5≠o.oB
 a3:o.o7≠o.oD
 a4:o.o7≠o.oB
 a5:o.o8≠o.oD
 a6:o.o8≠o.oB
 a7:o.oD≠o.oB
structure bcR (H:PH) (o:Obs) (v:Nat) (p:dA) (A:List Bool) (D B:List Int):Prop where
 h5:H o.o5=some (.rows 1 [[.int .i64 v]])
 h7:H o.o7=some (.rows 17 [p.cells])
 h8:H o.o8=some (.rows 1 (fL A))
 hD:H o.oD=some (.rows 1 (bH D))
 hB:H o.oB=some (.rows 1 (bH B))
theorem bcR.keep {H H':PH} {o:Obs} {v:Nat} {p:dA} {A:List Bool} {D B:List Int} (h:bcR H o v p A D B) (hk:∀ q s' z,3≠s'→H q=some (.rows s' z)→H' q=some (.rows s' z)):bcR H' o v p A D B :=
 ⟨hk _ _ _ (by decide) h.h5,hk _ _ _ (by decide) h.h7,hk _ _ _ (by decide) h.h8,hk _ _ _ (by decide) h.hD,hk _ _ _ (by decide) h.hB⟩
def home (row:List Int) (i:Nat):Bool:=decide (row.getD i 0<0)
def brG (f:aJ) (p:dA) (i:Nat):Int:=p.spread (lvl f i).toNat
def kV (down:List Int) (d:Int):Bool:=decide (0≤d)&&down.contains d
def uC (down:List Int) (d:Int):Bool:=decide (0≤d)&&!down.contains d
def FU (down row:List Int):Bool:=row.any (kV down)
def kD (down row:List Int):Nat:=row.countP (uC down)
def CQ (f:aJ) (reserve:Int) (down:List Int) (v:Nat) (row:List Int):Bool:=FU down row&&decide (((kD down row:Nat):Int)<(dM f v).k+reserve)
def xP (f:aJ) (now:List (List Int)) (reserve:Int) (down:List Int) (n:Nat):Bool:=(bJD n).all fun v=>!CQ f reserve down v (now.getD v [])
def lL (f:aJ) (now:List (List Int)) (reserve:Int) (down:List Int):Bool:=xP f now reserve down now.length
def fE (f:aJ) (now:List (List Int)) (reserve:Int):Bool:=(dS f&&iU f now)&&(decide (0≤reserve)&&decide (reserve≤4))
theorem aYF (f:aJ) (now:List (List Int)) (reserve:Int) (down:List Int) (n:Nat):xP f now reserve down (n+1)=(xP f now reserve down n&&!CQ f reserve down n (now.getD n [])):=by
 unfold xP
 rw[List.range_succ,List.all_append]
 simp
theorem bdV {f:aJ} {now:List (List Int)} {reserve:Int} {down:List Int} {v n:Nat} (h:v<n) (hs:CQ f reserve down v (now.getD v [])=true):xP f now reserve down n=false:=by
 unfold xP
 rw[Bool.eq_false_iff,ne_eq,bJW]
 intro hk
 have:=hk v (bKE.2 h)
 rw[hs] at this
 cases this
theorem a5R {down row:List Int} {k:Nat} (h:k<row.length):FU down (row.take (k+1))=(FU down (row.take k)||kV down row[k]):=by
 unfold FU
 rw[bLC h,List.any_append]
 simp
theorem aMC {down row:List Int} {k:Nat} (h:k<row.length):kD down (row.take (k+1))=kD down (row.take k)+if uC down row[k] then 1 else 0:=by
 unfold kD
 rw[bLC h,List.countP_append,List.countP_cons,List.countP_nil]
 omega
theorem a0Z {f:aJ} {l:List (List Int)} (h:iU f l=true):l.length=f.bHA.length:=by
 unfold iU at h
 simp only[bJZ,decide_eq_true_eq] at h
 omega
def InR (l:List Int) (n:Nat):Prop:=∀ x∈l,0≤x∧x<(n:Int)
theorem MT:∀ (n:Nat) (l:List Int),l.Nodup→InR l n→l.length≤n
 | 0,l,_,h=>by
  cases l with
  | nil=>exact bJF _
  | cons x l=>have:=h x (by simp); omega
 | n+1,l,hd,h=>by
  by_cases c:(n:Int)∈l
  ·have h1:=MT n (l.erase n) (hd.erase _) fun x hx=>by
    have h2:=h x (List.mem_of_mem_erase hx)
    have h3:x≠n:=fun e=>by
     subst e
     exact hd.not_mem_erase hx
    omega
   rw[List.length_erase_of_mem c] at h1
   omega
  ·have:=MT n l hd fun x hx=>by
    have h2:=h x hx
    have h3:x≠n:=fun e=>c (e ▸ hx)
    omega
   omega
theorem KF:∀ (n:Nat) (l:List Int),l.length=n→l.Nodup→InR l n→∀ d,d<n→(d:Int)∈l
 | 0,_,_,_,_,d,h=>by omega
 | n+1,l,hl,hd,h,d,hdn=>by
  by_cases c:(n:Int)∈l
  ·by_cases e:d=n
   ·subst e; exact c
   ·refine List.mem_of_mem_erase (KF n (l.erase n) (by rw[List.length_erase_of_mem c]; omega) (hd.erase _) (fun x hx=>?_) d Om)
    have h2:=h x (List.mem_of_mem_erase hx)
    have h3:x≠n:=fun e=>by
     subst e
     exact hd.not_mem_erase hx
    omega
  ·have:=MT n l hd fun x hx=>by
    have h2:=h x hx
    have h3:x≠n:=fun e=>c (e ▸ hx)
    omega
   omega
theorem MU:∀ (n:Nat) (l:List Int),l.length=n→(∀ d,d<n→(d:Int)∈l)→l.Nodup∧InR l n
 | 0,l,hl,_=>by
  rw[List.length_eq_zero_iff] at hl
  subst hl
  exact⟨.nil,fun x hx=>by cases hx⟩
 | n+1,l,hl,h=>by
  have c:=h n Om
  obtain⟨h1,h2⟩:=MU n (l.erase n) (by rw[List.length_erase_of_mem c]; omega) fun d hd=>(List.mem_erase_of_ne Om).2 (h d Om)
  have hp:=List.perm_cons_erase c
  refine⟨hp.nodup_iff.2 (List.nodup_cons.2 ⟨fun hm=>?_,h1⟩),fun x hx=>?_⟩
  ·have:=(h2 _ hm).2; omega
  ·rcases bJR.1 (hp.mem_iff.1 hx) with e | hx
   ·omega
   ·have:=h2 x hx; omega
theorem PY {n:Nat} {l:List Int} (hl:l.length=n):(∀ d,d<n→(d:Int)∈l)↔l.Nodup∧InR l n:=⟨MU n l hl,fun h=>KF n l hl h.1 h.2⟩
def kN (f:aJ) (now:List (List Int)) (r:Int) (l:List Int):Bool:=!l.isEmpty&&lL f now r l
def agE (n:Nat) (all:List Int):Bool:=decide (all.length=n)&&(bJD n).all fun d=>all.contains (d:Int)
def oK (f:aJ) (now:List (List Int)) (r:Int) (w:List (List Int)):Bool:=fE f now r&&(agE f.bGY.length w.flatten&&w.all (kN f now r))
def bgB (f:aJ) (now:List (List Int)) (r:Int) (ws:List (List Int)) (d:Nat):List (List Int):=match ws.findIdx? (fun l=>lL f now r (l++[(d:Int)])) with
 | some i=>ws.set i (ws.getD i []++[(d:Int)])
 | none=>ws++[[(d:Int)]]
def afR (f:aJ) (now:List (List Int)) (r:Int):Nat→List (List Int)
 | 0=>[]
 | d+1=>bgB f now r (afR f now r d) d
def mS (f:aJ) (now:List (List Int)) (r:Int):Bool:=(bJD f.bGY.length).all fun d=>lL f now r [(d:Int)]
def bP (row:List Int):List Int:=row.filter fun d=>decide (0≤d)
def auT (f:aJ) (r:Int) (v:Nat) (row:List Int):Int :=
 if (bP row).Nodup∧bP row≠[] then (((bP row).length:Nat):Int)-(dM f v).k-r else 0
def QP (f:aJ) (r:Int) (v:Nat) (row:List Int):Int :=
 if (bP row).Nodup∧bP row≠[] then bKX ((((bP row).length:Nat):Int)+auT f r v row-1) (auT f r v row) else 0
def fO (f:aJ) (now:List (List Int)) (r:Int):Nat→Int
 | 0=>min (f.bGY.length:Int) 1
 | v+1=>max (fO f now r v) (QP f r v (now.getD v []))
theorem agF {n:Nat} {all:List Int}:agE n all=true↔all.length=n∧all.Nodup∧InR all n:=by
 unfold agE
 rw[bJZ,decide_eq_true_eq,bJW]
 constructor
 ·rintro⟨h1,h2⟩
  exact⟨h1,(PY h1).1 fun d hd=>by
   have:=h2 d (bKE.2 hd)
   exact bLR.1 this⟩
 ·rintro⟨h1,h2⟩
  exact⟨h1,fun d hd=>bLR.2 ((PY h1).2 h2 d (bKE.1 hd))⟩
def inN (down row:List Int):Nat:=row.countP (kV down)
theorem a5S (down row:List Int):inN down row+kD down row=(bP row).length:=by
 unfold inN kD bP kV uC
 rw[← List.countP_eq_length_filter]
 induction row with
 | nil=>rfl
 | cons x xs ih =>
  rw[List.countP_cons,List.countP_cons,List.countP_cons,← ih]
  cases decide (0≤x)<;>cases down.contains x<;>simp<;>omega
theorem aOH {f:aJ} {now:List (List Int)} {r:Int} {l:List Int} (h:lL f now r l=true) {v:Nat} (hv:v<now.length) (hh:bP (now.getD v [])≠[]) (hk:0≤(dM f v).k+r) :
  inN l (now.getD v [])=0∨((inN l (now.getD v []):Nat):Int)≤(((bP (now.getD v [])).length:Nat):Int)-(dM f v).k-r:=by
 unfold lL xP at h
 have h1:=bJW.1 h v (bKE.2 hv)
 have h2:=a5S l (now.getD v [])
 rw[Bool.not_eq_true'] at h1
 unfold CQ at h1
 rw[Bool.and_eq_false_iff,decide_eq_false_iff_not] at h1
 rcases h1 with h1 | h1
 ·refine .inl ?_
  unfold inN
  rw[List.countP_eq_zero]
  intro d hd hd2
  unfold FU at h1
  have:(now.getD v []).any (kV l)=true:=List.any_eq_true.2 ⟨d,hd,hd2⟩
  rw[this] at h1; cases h1
 ·exact .inr Om
theorem bsE (w:List (List Int)) (row:List Int) (h:∀ d∈row,0≤d→d∈w.flatten):(bP row).length≤(w.map fun l=>inN l row).sum:=by
 unfold bP
 rw[← List.countP_eq_length_filter]
 induction row with
 | nil=>simp
 | cons x xs ih =>
  have ih':=ih fun d hd=>h d (List.mem_cons_of_mem _ hd)
  have e:(w.map fun l=>inN l (x::xs)).sum=(w.map fun l=>inN l xs).sum+w.countP fun l=>kV l x:=by
   clear ih ih' h
   unfold inN
   induction w with
   | nil=>rfl
   | cons l w ihw =>
    rw[bLB,List.sum_cons,bLB,List.sum_cons,List.countP_cons,List.countP_cons,ihw]
    omega
  rw[e,List.countP_cons]
  by_cases c:0≤x
  ·obtain⟨l,hl,hx⟩:=List.mem_flatten.1 (h x (by simp) c)
   have:0<w.countP fun l=>kV l x:=List.countP_pos_iff.2 ⟨l,hl,by unfold kV; rw[decide_eq_true c,bLR.2 hx]; rfl⟩
   simp only[decide_eq_true c,if_true]
   omega
  ·simp only[decide_eq_false c]
   simp
   omega
theorem bsF {w:List (List Int)} {row:List Int} {m:Nat} (h:∀ l∈w,inN l row≤m):(w.map fun l=>inN l row).sum≤w.length*m:=by
 induction w with
 | nil=>simp
 | cons l w ih =>
  have:=ih fun x hx=>h x (List.mem_cons_of_mem _ hx)
  have:=h l (by simp)
  rw[bLB,List.sum_cons,bKQ,bLZ]
  omega
theorem aND {n e k:Nat} (he:0<e) (h:n≤k*e):bKX ((n:Int)+(e:Int)-1) (e:Int)≤(k:Int):=by
 have h1:(n:Int)+(e:Int)-1=((n+e-1:Nat):Int):=by omega
 rw[h1,← Int.ofNat_tdiv]
 have:(n+e-1)/e≤k:=by
  have h2:n+e-1<(k+1)*e:=by rw[bLZ]; omega
  exact Nat.le_of_lt_succ ((bLX he).2 h2)
 exact_mod_cast this
theorem awJ {f:aJ} {now:List (List Int)} {r:Int} {w:List (List Int)} (hw:agE f.bGY.length w.flatten=true) (hf:w.all (kN f now r)=true) (ha:mS f now r=true)
  (hr:∀ v,v<now.length→(∀ d∈now.getD v [],d<(f.bGY.length:Int))∧0≤(dM f v).k+r):∀ n,n≤now.length→fO f now r n≤w.length
 | 0,_=>by
  rw[fO]
  obtain⟨h1,-⟩:=agF.1 hw
  cases w with
  | nil=>simp at h1; omega
  | cons l w=>simp only[bKQ]; omega
 | v+1,hv=>by
  have ih:=awJ hw hf ha hr v Om
  rw[fO]
  obtain⟨g1,g2⟩:=hr v Om
  have key:QP f r v (now.getD v [])≤w.length:=by
   unfold QP
   split
   ·rename_i hc
    unfold auT
    rw[if_pos hc]
    generalize bHL:now.getD v []=row at *
    obtain⟨h1,h2,h3⟩:=agF.1 hw
    obtain⟨d,hd⟩:=List.exists_mem_of_ne_nil _ hc.2
    have hd2:=List.mem_filter.1 hd
    have hd0:0≤d:=by simpa using hd2.2
    have hdn:=g1 d hd2.1
    have hin:∀ l:List Int,lL f now r l=true→inN l row=0∨((inN l row:Nat):Int)≤(((bP row).length:Nat):Int)-(dM f v).k-r:=fun l hl=>by
     have:=aOH hl (v:=v) Om (by rw[bHL]; exact hc.2) g2
     rw[bHL] at this
     exact this
    have one:1≤inN [((d.toNat:Nat):Int)] row:=by
     unfold inN
     refine List.countP_pos_iff.2 ⟨d,hd2.1,?_⟩
     unfold kV
     rw[decide_eq_true hd0,Int.toNat_of_nonneg hd0]
     simp
    have hal:=bJW.1 ha d.toNat (bKE.2 Om)
    have h5:1≤(((bP row).length:Nat):Int)-(dM f v).k-r:=by
     rcases hin _ hal with e | e<;>omega
    obtain⟨e,he⟩:∃ e:Nat,(((bP row).length:Nat):Int)-(dM f v).k-r=e:=⟨_,(Int.toNat_of_nonneg Om).symm⟩
    rw[he]
    refine aND Om (Nat.le_trans (bsE w row fun x hx h0=>?_) (bsF fun l hl=>?_))
    ·have:=(PY h1).2 ⟨h2,h3⟩ x.toNat (by have:=g1 x hx; omega)
     rwa [Int.toNat_of_nonneg h0] at this
    ·have hl2:=bJW.1 hf l hl
     unfold kN at hl2
     rw[bJZ] at hl2
     rcases hin l hl2.2 with z | z<;>omega
   ·omega
  omega
theorem set_perm:∀ (ws:List (List Int)) (i:Nat) (x:Int),i<ws.length→((ws.set i (ws.getD i []++[x])).flatten).Perm (ws.flatten++[x])
 | [],i,x,h=>by cases h
 | l::ws,0,x,_=>by
  simp only[List.set_cons_zero,List.getD_cons_zero,List.flatten_cons,bKD]
  exact List.Perm.append_left _ List.perm_append_comm
 | l::ws,i+1,x,h=>by
  have:=set_perm ws i x (by simpa using h)
  simp only[List.set_cons_succ,List.getD_cons_succ,List.flatten_cons,bKD]
  exact List.Perm.append_left _ this
structure avQ (f:aJ) (now:List (List Int)) (r:Int) (n:Nat) (w:List (List Int)):Prop where
 ok:∀ l∈w,kN f now r l=true
 len:w.flatten.length=n
 nd:w.flatten.Nodup
 rng:InR w.flatten n
theorem avQ.put {f:aJ} {now:List (List Int)} {r:Int} {n:Nat} {w:List (List Int)} (h:avQ f now r n w) (ha:lL f now r [(n:Int)]=true):avQ f now r (n+1) (bgB f now r w n):=by
 have key:∀ u:List (List Int),u.flatten.Perm (w.flatten++[(n:Int)])→(∀ l∈u,kN f now r l=true)→avQ f now r (n+1) u:=fun u hp hok=>by
  refine⟨hok,by rw[hp.length_eq,bJL,h.len]; rfl,hp.nodup_iff.2 ?_,fun x hx=>?_⟩
  ·rw[bLP]
   refine⟨h.nd,by simp,fun a ha b hb=>?_⟩
   rw[bKP] at hb
   subst hb
   have:=h.rng a ha
   omega
  ·have:=hp.mem_iff.1 hx
   rw[bKO,bKP] at this
   rcases this with hx | rfl
   ·have:=h.rng x hx; omega
   ·omega
 unfold bgB
 split
 ·rename_i i hi
  obtain⟨hlt,hp,-⟩:=List.findIdx?_eq_some_iff_getElem.1 hi
  refine key _ (set_perm w i n hlt) fun l hl=>?_
  rcases List.mem_or_eq_of_mem_set hl with hl | rfl
  ·exact h.ok l hl
  ·unfold kN
   rw[bJX,bJN hlt,bLQ,hp]
   simp
 ·refine key _ (by rw[List.flatten_append]; simp) fun l hl=>?_
  rw[bKO,bKP] at hl
  rcases hl with hl | rfl
  ·exact h.ok l hl
  ·unfold kN
   rw[ha]; rfl
theorem asB {f:aJ} {now:List (List Int)} {r:Int} (ha:mS f now r=true):∀ d,d≤f.bGY.length→avQ f now r d (afR f now r d)
 | 0,_=>⟨(fun l h=>by cases h),rfl,.nil,fun x h=>by cases h⟩
 | d+1,hd=>(asB ha d Om).put (bJW.1 ha d (bKE.2 Om))
end Go.PM
namespace Go.RO
open Go
theorem KX:∀ {a b:List Int},a.Pairwise (· < ·)→b.Pairwise (· < ·)→(∀ y,y∈a↔y∈b)→a=b
 | [],[],_,_,_=>rfl
 | [],y::ys,_,_,h=>by have:=(h y).2 (by simp); simp at this
 | x::xs,[],_,_,h=>by have:=(h x).1 (by simp); simp at this
 | x::xs,y::ys,ha,hb,h=>by
  rw[List.pairwise_cons] at ha hb
  have e:x=y:=by
   have h1:=(h x).1 (by simp)
   have h2:=(h y).2 (by simp)
   rw[bJR] at h1 h2
   rcases h1 with h1 | h1
   ·exact h1
   ·rcases h2 with h2 | h2
    ·exact h2.symm
    ·have:=hb.1 x h1; have:=ha.1 y h2; omega
  subst e
  rw[KX ha.2 hb.2 fun z=>?_]
  constructor
  ·intro hz
   have h1:=(h z).1 (by simp[hz])
   rw[bJR] at h1
   rcases h1 with rfl | h1
   ·have:=ha.1 z hz; omega
   ·exact h1
  ·intro hz
   have h1:=(h z).2 (by simp[hz])
   rw[bJR] at h1
   rcases h1 with rfl | h1
   ·have:=hb.1 z hz; omega
   ·exact h1
def ins (x:Int):List Int→List Int
 | []=>[x]
 | y::ys=>if y<x then y::ins x ys else if y=x then y::ys else x::y::ys
theorem ajN (x z:Int):∀ l,z∈ins x l↔z=x∨z∈l
 | []=>by simp[ins]
 | y::ys=>by
  unfold ins
  split
  ·simp only[bJR,ajN x z ys]
   constructor
   ·rintro (h | h | h)<;>simp[h]
   ·rintro (h | h | h)<;>simp[h]
  ·split
   ·rename_i e; subst e; simp
   ·simp
theorem abO (x:Int):∀ l:List Int,l.Pairwise (· < ·)→(ins x l).Pairwise (· < ·)
 | [],_=>by simp[ins]
 | y::ys,h=>by
  rw[List.pairwise_cons] at h
  unfold ins
  split
  ·rename_i hlt
   rw[List.pairwise_cons]
   refine⟨fun z hz=>?_,abO x ys h.2⟩
   rcases (ajN x z ys).1 hz with rfl | hz
   ·exact hlt
   ·exact h.1 z hz
  ·rename_i h1
   split
   ·rw[List.pairwise_cons]; exact h
   ·rename_i h2
    rw[List.pairwise_cons,List.pairwise_cons]
    refine⟨fun z hz=>?_,h⟩
    rw[bJR] at hz
    rcases hz with rfl | hz
    ·omega
    ·have:=h.1 z hz; omega
def sZ (out:List Int) (xs:List Int):List Int:=xs.foldl (fun o x=>ins x o) out
theorem abN (z:Int):∀ (xs out:List Int),z∈sZ out xs↔z∈out∨z∈xs
 | [],out=>by simp[sZ]
 | x::xs,out=>by
  have:=abN z xs (ins x out)
  unfold sZ at this ⊢
  rw[List.foldl_cons,this,ajN,bJR]
  constructor
  ·rintro ((h | h) | h)<;>simp[h]
  ·rintro (h | h | h)<;>simp[h]
theorem JV:∀ (xs out:List Int),out.Pairwise (· < ·)→(sZ out xs).Pairwise (· < ·)
 | [],out,h=>h
 | x::xs,out,h=>JV xs (ins x out) (abO x out h)
def srt (xs:List Int):List Int:=xs.mergeSort fun x y=>decide (x≤y)
theorem aiW {zs:List Int} (h:zs.Pairwise (·≤·)):(Lib.compact zs).Pairwise (· < ·):=by
 unfold Lib.compact Lib.compactUpTo
 rw[List.pairwise_map]
 have hr:(bJD zs.length).Pairwise (· < ·):=List.pairwise_lt_range
 have hf:=hr.filter (Lib.keeps zs.toArray)
 refine hf.imp_of_mem fun {i j} hi hj hij=>?_
 rw[List.mem_filter,bKE] at hi hj
 obtain⟨hj1,hj2⟩:=hj
 have k:zs[j]!≠zs[j-1]!:=by
  simp only[Lib.keeps,decide_eq_true_eq] at hj2
  rcases hj2 with h0 | h0
  ·omega
  ·simpa using h0
 have e1:zs[j]! = zs[j]:=by simp[hj1]
 have e2:zs[j-1]! = zs[j-1]:=by simp[show j-1<zs.length by omega]
 have h1:zs[i]≤zs[j-1]:=by
  rcases bJV i (j-1) with hlt | hge
  ·exact List.pairwise_iff_getElem.1 h i (j-1) hi.1 Om hlt
  ·have:i=j-1:=by omega
   subst this
   exact Int.le_refl _
 have h2:zs[j-1]≤zs[j]:=List.pairwise_iff_getElem.1 h (j-1) j Om hj1 Om
 rw[e1,e2] at k
 simp only[List.getElem!_toArray]
 rw[e1,show zs[i]! = zs[i] by simp[hi.1]]
 omega
theorem aLF (zs:List Int) (y:Int):y∈Lib.compact zs↔y∈zs:=by
 unfold Lib.compact Lib.compactUpTo
 rw[bKI]
 constructor
 ·rintro⟨i,hi,rfl⟩
  rw[List.mem_filter,bKE] at hi
  simp only[List.getElem!_toArray]
  rw[show zs[i]! = zs[i] by simp[hi.1]]
  exact bJG _
 ·intro hy
  obtain⟨i,hi,rfl⟩:=bLL hy
  have key:∀ i,i<zs.length→∃ k,k≤i∧Lib.keeps zs.toArray k=true∧zs[k]! = zs[i]!:=by
   intro i
   induction i with
   | zero=>intro _; exact⟨0,bJF _,by simp[Lib.keeps],rfl⟩
   | succ i ih =>
    intro hi
    by_cases e:zs[i+1]! = zs[i]!
    ·obtain⟨k,h1,h2,h3⟩:=ih Om
     exact⟨k,by omega,h2,h3.trans e.symm⟩
    ·exact⟨i+1,bJF _,by simp[Lib.keeps]; simpa using e,rfl⟩
  obtain⟨k,h1,h2,h3⟩:=key i hi
  refine⟨k,?_,?_⟩
  ·rw[List.mem_filter,bKE]; exact⟨by omega,h2⟩
  ·simp only[List.getElem!_toArray]
   rw[h3]; simp[hi]
theorem a1D (xs:List Int):(srt xs).Pairwise (·≤·):=by
 have:=List.pairwise_mergeSort (le:=fun x y:Int=>decide (x≤y)) (fun a b c h1 h2=>by simp at *; omega) (fun a b=>by simp; omega) xs
 exact this.imp (by simp)
theorem boH (xs:List Int) (y:Int):y∈srt xs↔y∈xs:=by simp[srt]
theorem aLG (xs:List Int):Lib.compact (srt xs)=sZ [] xs :=
 KX (aiW (a1D xs)) (JV xs [] .nil) fun y=>by
  rw[aLF,boH,abN]; simp
end Go.RO
namespace Go.PM
open Go Go.Na
def BS (f:aJ) (now:List (List Int)) (r:Int) (n:Nat):Bool:=(bJD n).all fun d=>lL f now r [(d:Int)]
theorem aLB (f:aJ) (now:List (List Int)) (r:Int) (n:Nat):BS f now r (n+1)=(BS f now r n&&lL f now r [(n:Int)]):=by
 unfold BS
 rw[List.range_succ,List.all_append]
 simp
theorem a4F {f:aJ} {now:List (List Int)} {r:Int} {n d:Nat} (h:d<n) (hs:lL f now r [(d:Int)]=false):BS f now r n=false:=by
 unfold BS
 rw[Bool.eq_false_iff,ne_eq,bJW]
 intro hk
 rw[hk d (bKE.2 h)] at hs
 cases hs
def pB (f:aJ) (now:List (List Int)) (r:Int):Int:=if fE f now r then (if mS f now r then 0 else 116) else 1
def sS (f:aJ) (now:List (List Int)) (r:Int):Int:=if pB f now r=0 then fO f now r now.length else 0
theorem amV {f:aJ} {now:List (List Int)} {r:Int} (h:pB f now r=0):fE f now r=true∧mS f now r=true:=by
 unfold pB at h
 cases hu:fE f now r<;>rw[hu] at h
 ·cases h
 ·cases ha:mS f now r<;>rw[ha] at h
  ·cases h
  ·exact⟨rfl,rfl⟩
def adE:Rg:=[iA 3 (.box true (Tm 0)),iT 6 false]
def adF:Rg:=[iO 7 7 3,iK 8 96 7,iC 9 .eql 8 0,iM 10 9,gO 11 7 3 10 true,gM 12 1 10 true,gK2 13 153 11 12 10 true,iP 14 10 13,iM 15 14,gM 16 2 15 true,gC 17 .geq 16 0 15 true,iP 18 15 17,iM 19 18,gM 20 2 19 true,gC 21 .leq 20 4 19 true,iP 22 19 21,iM 6 22]
def wP:aC:=(sq adE (sq adF .ret))
def a0F:List Nat:=[3]
def CL:aV:=⟨3,23,wP,[.tmp 6]⟩
def aET:Rg:=[iA 4 (.box true (Tm 0)),iT 8 false]
def aEU:Rg:=[iM 15 1,iN 16 15,iI 17 0]
def aEV:Rg:=[iB 18 .lss 17 16]
def aEW:Rg:=[iM 19 17,iX 20 1 15 17,iL 21 20,iM 9 19,iM 10 21]
def aEX:Rg:=[iT 11 false,iI 12 0]
def aEY:Rg:=[iM 22 10,iN 23 22,iI 24 0]
def aEZ:Rg:=[iB 25 .lss 24 23]
def WY:Rg:=[iX 26 1 22 24,iL 27 26,iM 14 27]
def WZ:Rg:=[iM 31 14,iC 32 .lss 31 0,iM 30 32]
def aFA:Rg:=[iM 34 3,iM 35 14,iK2 36 260 34 35,iM 33 36]
def apL:Rg:=[iT 11 true]
def apM:Rg:=[iM 28 12,iC 29 .add 28 1,iM 12 29]
def yB:Rg:=[iC 37 .add 24 1,iM 24 37]
def apJ:aC:=(sq aEZ (.seq (.cond (Tm 25) .skip (.exit 2)) (.seq (.block 3 (sq WY (.block 4 (sq WZ (.cond (Tm 30) .skip (sq aFA (.cond (Tm 33) (.region apL) (.region apM)))))))) (.region yB))))
def NS:Rd:=[(iM 38 11,false),(iM 39 38,false),(gM 40 12 39 true,false),(gF 41 5 4 39 true,false),(gL 42 41 39 true,false),(gF 43 6 4 39 true,false),(gL 44 43 39 true,false),(gM 45 9 39 true,false),(iG 46 (.bHT 2 (Tm 44) (Tm 45)) 39 true,false),(gF 47 1 46 39 true,false),(gL 48 47 39 true,false),(iG 49 (.bHT 17 (Tm 42) (Tm 48)) 39 true,false),(gF 50 1 49 39 true,false),(gL 51 50 39 true,false),(gM 52 2 39 true,false),(gB 53 .add 51 52 39 true,false),(gB 54 .lss 40 53 39 true,false),(iP 55 39 54,false)]
def apN:Rg:=[iT 8 false]
def NT:Rg:=[iC 56 .add 17 1,iM 17 56]
def apK:aC:=(sq aEV (.seq (.cond (Tm 18) .skip (.exit 0)) (.seq (.block 1 (sq aEW (sq aEX (.seq (sq aEY (.block 2 (.loop apJ))) (dq NS (.cond (Tm 55) (sq apN .ret) .skip)))))) (.region NT))))
def apO:Rg:=[iT 8 true]
def HA:aC:=(sq aET (.seq (sq aEU (.block 0 (.loop apK))) (sq apO .ret)))
def bfY:List Nat:=[4]
def adB:aV:=⟨4,57,HA,[.tmp 8]⟩
def bfU:Rg:=[iA 4 (.box true (Tm 0)),iT 8 false]
def bfV:Rg:=[iO 9 7 4,iM 10 1,iM 11 2,iA 12 (.call 250 [(Tm 9),(Tm 10),(Tm 11)]),iM 13 12,gO 14 7 4 13 true,gM 15 1 13 true,gM 16 2 13 true,gM 17 3 13 true,iG 18 (.call 251 [(Tm 14),(Tm 15),(Tm 16),(Tm 17)]) 13 true,iP 19 13 18,iM 8 19]
def a0B:aC:=(sq bfU (sq bfV .ret))
def bfW:List Nat:=[4]
def a0A:aV:=⟨4,20,a0B,[.tmp 8]⟩
def a0I:Rg:=[iA 3 (.box true (Tm 0)),iT 6 false]
def a0J:Rg:=[iM 7 2,iC 8 .geq 7 0,iM 9 8,gM 10 2 9 true,gC 11 .leq 10 4 9 true,iP 12 9 11,iM 13 12,gO 14 7 3 13 true,gK 15 258 14 13 true,gC 16 .eql 15 0 13 true,iP 17 13 16,iM 18 17,gO 19 7 3 18 true,gM 20 1 18 true,gK2 21 86 19 20 18 true,iP 22 18 21,iM 6 22]
def aFG:aC:=(sq a0I (sq a0J .ret))
def a0K:List Nat:=[3]
def akM:aV:=⟨3,23,aFG,[.tmp 6]⟩
def bgD:Rg:=[iA 4 (.box true (Tm 0)),iT 8 false]
def bgE:Rg:=[iI 9 0]
def bgF:Rg:=[iM 13 9,iM 14 1,iN 15 14,iB 16 .lss 13 15]
def bgG:Rg:=[iT 10 false,iI 11 0]
def bgH:Rg:=[iI 12 0]
def bgI:Rg:=[iM 19 12,iM 20 1,iM 21 9,iX 22 1 20 21,iL 23 22,iN 24 23,iB 25 .lss 19 24]
def bgJ:Rg:=[iM 31 1,iM 32 9,iX 33 1 31 32,iL 34 33,iM 35 12,iX 36 1 34 35,iL 37 36,iC 38 .lss 37 0,iM 30 38]
def bgK:Rg:=[iM 40 3,iM 41 1,iM 42 9,iX 43 1 41 42,iL 44 43,iM 45 12,iX 46 1 44 45,iL 47 46,iK2 48 254 40 47,iM 39 48]
def bgL:Rg:=[iT 10 true]
def bgM:Rg:=[iM 28 11,iC 29 .add 28 1,iM 11 29]
def a7U:Rg:=[iM 26 12,iC 27 .add 26 1,iM 12 27]
def a7S:aC:=(.seq (sq bgI (.cond (Tm 25) .skip (.exit 2))) (.seq (.block 3 (.block 4 (sq bgJ (.cond (Tm 30) .skip (sq bgK (.cond (Tm 39) (.region bgL) (.region bgM))))))) (.region a7U)))
def a7V:Rg:=[iM 49 10,iM 50 49,gM 51 11 50 true,gO 52 7 4 50 true,gM 53 9 50 true,gK2 54 257 52 53 50 true,gM 55 2 50 true,gB 56 .add 54 55 50 true,gB 57 .lss 51 56 50 true,iP 58 50 57]
def a7W:Rg:=[iT 8 false]
def a7X:Rg:=[iM 17 9,iC 18 .add 17 1,iM 9 18]
def a7T:aC:=(.seq (sq bgF (.cond (Tm 16) .skip (.exit 0))) (.seq (.block 1 (sq bgG (.seq (sq bgH (.block 2 (.loop a7S))) (sq a7V (.cond (Tm 58) (sq a7W .ret) .skip))))) (.region a7X)))
def a7Y:Rg:=[iT 8 true]
def a0H:aC:=(sq bgD (.seq (sq bgE (.block 0 (.loop a7T))) (sq a7Y .ret)))
def bgN:List Nat:=[4]
def a0G:aV:=⟨4,59,a0H,[.tmp 8]⟩
def bvD:Rg:=[iA 2 (.box true (Tm 0)),iI 4 0]
def bvE:Rd:=[(iF 5 5 2,false),(iL 6 5,false),(iF 7 6 2,false),(iL 8 7,false),(iM 9 1,false),(iX 10 2 8 9,false),(iF 11 1 10,false),(iL 12 11,false),(iX 13 17 6 12,false),(iF 14 1 13,false),(iL 15 14,false),(iM 4 15,false)]
def bnP:aC:=(sq bvD (dq bvE .ret))
def bvF:List Nat:=[2]
def qk:aV:=⟨2,16,bnP,[.tmp 4]⟩
def aKW:Rg:=[iA 1 (.box true (Tm 0)),iI 2 0]
def aKX:Rg:=[iO 3 7 1,iK 4 67 3,iA 5 (.un .not (Tm 4))]
def aKY:Rg:=[iI 2 1]
def aKZ:Rg:=[iI 2 0]
def alK:aC:=(sq aKW (.seq (sq aKX (.cond (Tm 5) (sq aKY .ret) .skip)) (sq aKZ .ret)))
def aLA:List Nat:=[1]
def QM:aV:=⟨1,6,alK,[.tmp 2]⟩
def NQ:Rg:=[iT 4 false]
def NR:Rg:=[iM 5 0,iM 6 1,iK2 7 261 5 6,iC 8 .geq 7 0,iM 4 8]
def rV:aC:=(sq NQ (sq NR .ret))
def aER:List Nat:=[]
def tE:aV:=⟨2,9,rV,[.tmp 4]⟩
def apQ:Rg:=[iI 4 0]
def apR:Rg:=[iM 6 0,iN 7 6,iI 8 0]
def apS:Rg:=[iB 9 .lss 8 7]
def NV:Rg:=[iM 10 8,iM 5 10]
def NW:Rg:=[iM 11 1,iM 12 0,iM 13 5,iX 14 1 12 13,iL 15 14,iB 16 .eql 11 15]
def apT:Rg:=[iM 17 5,iM 4 17]
def apU:Rg:=[iC 18 .add 8 1,iM 8 18]
def apP:aC:=(sq apS (.seq (.cond (Tm 9) .skip (.exit 0)) (.seq (.block 1 (sq NV (sq NW (.cond (Tm 16) (sq apT .ret) .skip)))) (.region apU))))
def apV:Rg:=[iI 4 (-1)]
def AC:aC:=(sq apQ (.seq (sq apR (.block 0 (.loop apP))) (sq apV .ret)))
def a7P:List Nat:=[]
def NU:aV:=⟨2,19,AC,[.tmp 4]⟩
def aSK:Rg:=[iT 4 false]
def aSL:Rg:=[iI 5 0]
def aSM:Rg:=[iM 6 5,iM 7 0,iN 8 7,iB 9 .lss 6 8]
def akR:Rg:=[iM 12 0,iM 13 5,iX 14 1 12 13,iL 15 14,iM 16 1,iB 17 .eql 15 16]
def aSN:Rg:=[iT 4 true]
def aSO:Rg:=[iM 10 5,iC 11 .add 10 1,iM 5 11]
def aSJ:aC:=(.seq (sq aSM (.cond (Tm 9) .skip (.exit 0))) (.seq (.block 1 (sq akR (.cond (Tm 17) (sq aSN .ret) .skip))) (.region aSO)))
def aSP:Rg:=[iT 4 false]
def OA:aC:=(sq aSK (.seq (sq aSL (.block 0 (.loop aSJ))) (sq aSP .ret)))
def aSQ:List Nat:=[]
def NZ:aV:=⟨2,18,OA,[.tmp 4]⟩
def aGJ:Rg:=[iA 2 (.box true (Tm 0)),iZ 4]
def aGK:Rg:=[iO 8 7 2,iK 9 67 8,iA 10 (.un .not (Tm 9))]
def aGL:Rg:=[iZ 4]
def aGM:Rg:=[iZ 5]
def aGN:Rg:=[iI 6 0]
def aGO:Rg:=[iM 11 6,iF 12 4 2,iL 13 12,iN 14 13,iB 15 .lss 11 14]
def aGP:Rd:=[(iF 18 2 2,false),(iL 19 18,false),(iF 20 4 2,false),(iL 21 20,false),(iM 22 6,false),(iX 23 3 21 22,false),(iF 24 1 23,false),(iL 25 24,false),(iX 26 4 19 25,false),(iF 27 1 26,false),(iL 28 27,false),(iM 7 28,false)]
def XD:Rg:=[iM 29 1,iN 30 29,iF 31 4 2,iL 32 31,iN 33 32,iB 34 .eql 30 33]
def aGQ:Rg:=[iM 35 1,iM 36 6,iX 37 1 35 36,iL 38 37,iM 39 7,iA 40 (.bHZ false (Tm 38) (Tm 39)),iA 41 (.bHZ true (Ci 0) (Tm 40)),iM 7 41]
def XE:Rg:=[iM 42 5,iM 43 7,iA 44 (.bHE true 1 1 [(.int .i64 0)] [(0,(Tm 43))]),iA 45 (.append 1 8 (Tm 42) (Tm 44)),iM 5 45]
def OJ:Rg:=[iM 16 6,iC 17 .add 16 1,iM 6 17]
def aqB:aC:=(.seq (sq aGO (.cond (Tm 15) .skip (.exit 0))) (.seq (.block 1 (dq aGP (.seq (sq XD (.cond (Tm 34) (.region aGQ) .skip)) (.region XE)))) (.region OJ)))
def OK:Rg:=[iM 46 5,iM 4 46]
def HK:aC:=(sq aGJ (.seq (sq aGK (.cond (Tm 10) (sq aGL .ret) .skip)) (sq aGM (.seq (sq aGN (.block 0 (.loop aqB))) (sq OK .ret)))))
def bhI:List Nat:=[2,44]
def adN:aV:=⟨2,47,HK,[.tmp 4]⟩
def aTD:Rg:=[iA 2 (.box true (Tm 0)),iI 4 0]
def aTE:Rg:=[iI 5 0]
def aTF:Rg:=[iM 6 5,iM 7 1,iN 8 7,iB 9 .lss 6 8]
def RI:Rd:=[(iM 12 1,false),(iM 13 5,false),(iX 14 1 12 13,false),(iL 15 14,false),(iC 16 .lss 15 (-1),false),(iM 17 16,false),(gM 18 1 17 false,false),(gM 19 5 17 false,false),(iG 20 (.bHT 1 (Tm 18) (Tm 19)) 17 false,false),(gL 21 20 17 false,false),(gF 22 4 2 17 false,false),(gL 23 22 17 false,false),(gN 24 23 17 false,false),(gB 25 .geq 21 24 17 false,false),(iQ 26 17 25,false)]
def akS:Rg:=[iM 27 5,iM 4 27]
def aTG:Rg:=[iM 10 5,iC 11 .add 10 1,iM 5 11]
def aTC:aC:=(.seq (sq aTF (.cond (Tm 9) .skip (.exit 0))) (.seq (.block 1 (dq RI (.cond (Tm 26) (sq akS .ret) .skip))) (.region aTG)))
def aTH:Rg:=[iI 4 (-1)]
def OE:aC:=(sq aTD (.seq (sq aTE (.block 0 (.loop aTC))) (sq aTH .ret)))
def boB:List Nat:=[2]
def aFY:aV:=⟨2,28,OE,[.tmp 4]⟩
def adP:Rg:=[iA 2 (.box true (Tm 0)),iT 4 false]
def adQ:Rg:=[iO 6 7 2,iK 7 67 6,iA 8 (.un .not (Tm 7)),iM 9 8,gM 10 1 9 false,gN 11 10 9 false,gF 12 6 2 9 false,gL 13 12 9 false,gN 14 13 9 false,gB 15 .neq 11 14 9 false,iQ 16 9 15]
def HL:Rg:=[iT 4 false]
def adR:Rg:=[iI 5 0]
def adS:Rg:=[iM 17 5,iM 18 1,iN 19 18,iB 20 .lss 17 19]
def adT:Rd:=[(iM 23 1,true),(iM 24 5,true),(iX 25 1 23 24,true),(iL 26 25,true),(iN 27 26,true),(iO 28 7 2,false),(iM 29 5,false),(iK2 30 82 28 29,true),(iB 31 .neq 27 30,false),(iM 32 31,false),(gO 33 7 2 32 false,false),(gM 34 1 32 false,false),(gM 35 5 32 false,false),(iG 36 (.bHT 1 (Tm 34) (Tm 35)) 32 false,false),(gL 37 36 32 false,false),(gK2 38 89 33 37 32 false,true),(gC 39 .geq 38 0 32 false,false),(iQ 40 32 39,false)]
def HM:Rg:=[iT 4 false]
def adU:Rg:=[iM 21 5,iC 22 .add 21 1,iM 5 22]
def adO:aC:=(.seq (sq adS (.cond (Tm 20) .skip (.exit 0))) (.seq (.block 1 (dq adT (.cond (Tm 40) (sq HM .ret) .skip))) (.region adU)))
def adV:Rg:=[iT 4 true]
def wT:aC:=(sq adP (.seq (sq adQ (.cond (Tm 16) (sq HL .ret) .skip)) (.seq (sq adR (.block 0 (.loop adO))) (sq adV .ret))))
def a1E:List Nat:=[2]
def CS:aV:=⟨2,41,wT,[.tmp 4]⟩

def eU (f:aJ) (l:List (List Int)) (room:List Int) (d:Nat):Bool:=decide ((brD f l).getD d 0>(fA f room).getD d 0)
def PV.oid:PV→Option Nat
 | .osl q _ _ _=>some q
 | _=>none
abbrev LI:=PV × Nat × List (List PV)
abbrev BX:=Nat × cQ
def eE (B:List BX):List Nat:=B.map (·.1)
def dN (L:List LI):List Nat:=L.filterMap fun x=>x.1.oid
structure aU (H:PH) (B:List BX) (L:List LI):Prop where
 box:∀ b∈B,H b.1=some b.2
 lst:∀ x∈L,bO H x.2.1 x.1 x.2.2
 nd:(eE B++dN L).Nodup
section
variable {C:Ctx} {H:PH} {B:List BX} {L:List LI} {K:PV→PH→Prop}
theorem bO.id {s q:Nat} {v:PV} {rows:List (List PV)} (h:bO H s v rows) (hq:v.oid=some q):∃ rs,H q=some (.rows s rs)∧v=.osl q s 0 rows.length∧rows.length≤rs.length∧rs.take rows.length=rows:=by
 rcases h with ⟨_,rfl⟩ | ⟨p,rs,rfl,h1,h2,h3⟩
 ·cases hq
 ·cases hq
  exact⟨rs,h1,rfl,h2,h3⟩
theorem bO.same {s:Nat} {v:PV} {rows:List (List PV)} {H':PH} (h:bO H s v rows) (hk:∀ q,v.oid=some q→H' q=H q):bO H' s v rows:=by
 rcases h with h | ⟨p,rs,rfl,h1,h2,h3⟩
 ·exact .inl h
 ·exact .inr ⟨p,rs,rfl,by rw[hk p rfl]; exact h1,h2,h3⟩
theorem jY {x:LI} {q:Nat} (h:x∈L) (hq:x.1.oid=some q):q∈dN L:=List.mem_filterMap.2 ⟨x,h,hq⟩
theorem rQ {b:BX} (h:b∈B):b.1∈eE B:=bKI.2 ⟨b,h,rfl⟩
theorem aU.nil:aU H [] []:=⟨by simp,by simp,by simp[eE,dN]⟩
theorem aU.at (h:aU H B L) (i:Nat) {o:Nat} {x:cQ} (hi:B[i]?=some (o,x)):H o=some x:=h.box _ (bLT hi)
theorem aU.own (h:aU H B L) (i:Nat) {s:Nat} {v:PV} {rows:List (List PV)} (hi:L[i]?=some (v,s,rows)):bO H s v rows:=h.lst _ (bLT hi)
theorem aU.ndB (h:aU H B L):(eE B).Nodup:=(bLP.1 h.nd).1
theorem aU.ndL (h:aU H B L):(dN L).Nodup:=(bLP.1 h.nd).2.1
theorem aU.ndX (h:aU H B L) {o q:Nat} (ho:o∈eE B) (hq:q∈dN L):o≠q:=(bLP.1 h.nd).2.2 o ho q hq
theorem aU.ne (h:aU H B L) (i j:Nat) {o p:Nat} {x y:cQ} (hi:B[i]?=some (o,x)) (hj:B[j]?=some (p,y)) (hij:i≠j):o≠p:=by
 intro e
 have h1:(eE B)[i]?=some o:=by unfold eE; rw[bKH,hi]; rfl
 have h2:(eE B)[j]?=some p:=by unfold eE; rw[bKH,hj]; rfl
 obtain⟨li,e1⟩:=bKN.1 h1
 obtain⟨lj,e2⟩:=bKN.1 h2
 have hp:=List.pairwise_iff_getElem.1 h.ndB
 rcases Nat.lt_or_gt_of_ne hij with g | g
 ·exact hp i j li lj g (by rw[e1,e2,e])
 ·exact hp j i lj li g (by rw[e1,e2,e])
theorem aU.neL (h:aU H B L) (i j:Nat) {o q:Nat} {x:cQ} {y:LI} (hi:B[i]?=some (o,x)) (hj:L[j]?=some y) (hq:y.1.oid=some q):o≠q :=
 h.ndX (rQ (bLT hi)) (jY (bLT hj) hq)
theorem aU.fresh (h:aU H B L) {o:Nat} (ho:H o=none):o ∉ eE B∧o ∉ dN L:=by
 refine⟨fun hm=>?_,fun hm=>?_⟩
 ·obtain⟨b,hb,rfl⟩:=bKI.1 hm
  rw[h.box b hb] at ho; cases ho
 ·obtain⟨x,hx,e⟩:=List.mem_filterMap.1 hm
  obtain⟨rs,h1,_⟩:=(h.lst x hx).id e
  rw[h1] at ho; cases ho
theorem aU.keep (h:aU H B L) {H':PH} (hk:∀ q,q∈eE B∨q∈dN L→H' q=H q):aU H' B L :=
 ⟨fun b hb=>by rw[hk _ (.inl (rQ hb))]; exact h.box b hb,fun x hx=>(h.lst x hx).same fun q hq=>hk q (.inr (jY hx hq)),h.nd⟩
theorem beS {i:Nat} {o:Nat} {x y:cQ} (hi:B[i]?=some (o,x)):eE (B.set i (o,y))=eE B:=by
 unfold eE
 rw[List.map_set]
 refine List.ext_getElem? fun j=>?_
 rw[List.getElem?_set]
 split
 ·rename_i e
  subst e
  rw[bKH,hi]
  have:=(bKN.1 hi).1
  simp[this]
 ·rfl
theorem aU.set (h:aU H B L) (i:Nat) {o:Nat} {x:cQ} (hi:B[i]?=some (o,x)) (y:cQ):aU (H.set o y) (B.set i (o,y)) L:=by
 have hoB:o∈eE B:=rQ (bLT hi)
 refine⟨fun b hb=>?_,fun z hz=>(h.lst z hz).same fun q hq=>?_,by rw[beS hi]; exact h.nd⟩
 ·obtain⟨j,hj⟩:=List.mem_iff_getElem?.1 hb
  rw[List.getElem?_set] at hj
  split at hj
  ·split at hj
   ·cases hj; simp only[bR,if_true]
   ·cases hj
  ·rename_i hne
   have:b.1≠o:=fun e=>h.ne i j hi (show B[j]?=some (b.1,b.2) from hj) hne e.symm
   rw[bR,if_neg this]
   exact h.box b (bLT hj)
 ·have:q≠o:=fun e=>h.ndX hoB (jY hz hq) e.symm
  rw[bR,if_neg this]
theorem aU.new (h:aU H B L) {o:Nat} (ho:H o=none) (y:cQ):aU (H.set o y) (B++[(o,y)]) L:=by
 obtain⟨f1,f2⟩:=h.fresh ho
 refine⟨fun b hb=>?_,fun z hz=>(h.lst z hz).same fun q hq=>?_,?_⟩
 ·rw[bKO,bKP] at hb
  rcases hb with hb | rfl
  ·have:b.1≠o:=fun e=>f1 (e ▸ rQ hb)
   rw[bR,if_neg this]; exact h.box b hb
  ·simp only[bR,if_true]
 ·have:q≠o:=fun e=>f2 (e ▸ jY hz hq)
  rw[bR,if_neg this]
 ·have:=h.nd
  simp only[eE,bLS,bLB,List.map_nil] at *
  rw[bKD,bLP] at *
  obtain⟨a,b,c⟩:=this
  refine⟨a,?_,fun p hp q hq=>?_⟩
  ·rw[List.singleton_append,List.nodup_cons]; exact⟨f2,b⟩
  ·rw[List.singleton_append,bJR] at hq
   rcases hq with rfl | hq
   ·intro e; subst e; exact f1 hp
   ·exact c p hp q hq
theorem jO (L1 L2:List LI):dN (L1++L2)=dN L1++dN L2:=List.filterMap_append ..
theorem aU.rR (h:aU H B L) (s:Nat):aU H B (L++[(.aB,s,[])]):=by
 refine⟨h.box,fun z hz=>?_,?_⟩
 ·rw[bKO,bKP] at hz
  rcases hz with hz | rfl
  ·exact h.lst z hz
  ·exact .nil
 ·rw[jO,show dN [((.aB:PV),s,([]:List (List PV)))]=[] from rfl,bLD]; exact h.nd
theorem aU.aZS (h:aU H B L) {o s:Nat} {rows:List (List PV)} (ho:H o=none):aU (H.set o (.rows s rows)) B (L++[(.osl o s 0 rows.length,s,rows)]):=by
 obtain⟨f1,f2⟩:=h.fresh ho
 have hk:=h.keep (H':=H.set o (.rows s rows)) fun q hq=>by
  have:q≠o:=by rintro rfl; exact hq.elim f1 f2
  rw[bR,if_neg this]
 refine⟨hk.box,fun z hz=>?_,?_⟩
 ·rw[bKO,bKP] at hz
  rcases hz with hz | rfl
  ·exact hk.lst z hz
  ·exact .inr ⟨o,rows,rfl,by simp only[bR,if_true],bJF _,bKB⟩
 ·rw[jO,show dN [((.osl o s 0 rows.length:PV),s,rows)]=[o] from rfl,← bKD,bLP]
  refine⟨h.nd,by simp,fun p hp q hq=>?_⟩
  rw[bKP] at hq
  subst hq
  rintro rfl
  rcases bKO.1 hp with hp | hp
  ·exact f1 hp
  ·exact f2 hp
theorem aBD {i:Nat} {v v':PV} {s s':Nat} {rows rows':List (List PV)} (hi:L[i]?=some (v,s,rows)):∃ L1 L2,L=L1++(v,s,rows)::L2∧L.set i (v',s',rows')=L1++(v',s',rows')::L2:=by
 obtain⟨hl,he⟩:=bKN.1 hi
 refine⟨L.take i,L.drop (i+1),?_,?_⟩
 ·rw[← he,← bKY hl,bLU]
 ·rw[List.set_eq_take_append_cons_drop,if_pos hl]
theorem aU.yK (h:aU H B L) (i:Nat) {s:Nat} {v:PV} {rows:List (List PV)} (hi:L[i]?=some (v,s,rows)) {s':Nat} {v':PV} {rows':List (List PV)} {H':PH} (ho:bO H' s' v' rows')
  (hid:∀ q,v'.oid=some q→v.oid=some q∨H q=none) (hk:∀ q,q∈eE B∨q∈dN L→(∀ p,v.oid=some p→q≠p)→H' q=H q):aU H' B (L.set i (v',s',rows')):=by
 obtain⟨L1,L2,e1,e2⟩:=aBD (v':=v') (s':=s') (rows':=rows') hi
 rw[e2]
 subst e1
 have hnd:=h.nd
 have eL:dN (L1++(v,s,rows)::L2)=dN L1++(v.oid.toList++dN L2):=by
  rw[jO]
  congr 1
  unfold dN
  rw[List.filterMap_cons]
  cases e:v.oid<;>simp
 have eL':dN (L1++(v',s',rows')::L2)=dN L1++(v'.oid.toList++dN L2):=by
  rw[jO]
  congr 1
  unfold dN
  rw[List.filterMap_cons]
  cases e:v'.oid<;>simp
 rw[eL] at hnd
 have other:∀ q,q∈eE B∨q∈dN L1∨q∈dN L2→∀ p,v.oid=some p→q≠p:=by
  intro q hq p hp e
  subst e
  rw[hp] at hnd
  simp only[Option.toList_some] at hnd
  rw[bLP] at hnd
  obtain⟨a,b,c⟩:=hnd
  rw[bLP] at b
  obtain⟨b1,b2,b3⟩:=b
  rw[List.singleton_append,List.nodup_cons] at b2
  rcases hq with hq | hq | hq
  ·exact c q hq q (by simp) rfl
  ·exact b3 q hq q (by simp) rfl
  ·exact b2.1 hq
 have keepq:∀ q,q∈eE B∨q∈dN L1∨q∈dN L2→H' q=H q:=by
  intro q hq
  refine hk q ?_ (other q hq)
  rw[eL]
  simp only[bKO]
  rcases hq with hq | hq | hq
  ·exact .inl hq
  ·exact .inr (.inl hq)
  ·exact .inr (.inr (.inr hq))
 refine⟨fun b hb=>by rw[keepq _ (.inl (rQ hb))]; exact h.box b hb,fun z hz=>?_,?_⟩
 ·rw[bKO,bJR] at hz
  rcases hz with hz | rfl | hz
  ·exact (h.lst z (by simp[hz])).same fun q hq=>keepq q (.inr (.inl (jY hz hq)))
  ·exact ho
  ·exact (h.lst z (by simp[hz])).same fun q hq=>keepq q (.inr (.inr (jY hz hq)))
 ·rw[eL']
  cases e:v'.oid with
  | none =>
   simp only[Option.toList_none,bMC]
   refine List.Nodup.sublist ?_ hnd
   exact bLJ.append (bLJ.refl _) (bLJ.append (bLJ.refl _) (List.sublist_append_right _ _))
  | some q =>
   rcases hid q e with hv | hn
   ·rw[hv] at hnd
    exact hnd
   ·obtain⟨f1,f2⟩:=h.fresh hn
    rw[eL] at f2
    simp only[bKO,not_or] at f2
    have hnd':(eE B++(dN L1++dN L2)).Nodup:=List.Nodup.sublist (bLJ.append (bLJ.refl _) (bLJ.append (bLJ.refl _) (List.sublist_append_right _ _))) hnd
    simp only[Option.toList_some]
    rw[bLP] at hnd' ⊢
    obtain⟨a,b,c⟩:=hnd'
    rw[bLP] at b
    obtain⟨b1,b2,b3⟩:=b
    refine⟨a,?_,?_⟩
    ·rw[bLP]
     refine⟨b1,by rw[List.singleton_append,List.nodup_cons]; exact⟨f2.2.2,b2⟩,fun p hp r hr=>?_⟩
     rw[List.singleton_append,bJR] at hr
     rcases hr with rfl | hr
     ·rintro rfl; exact f2.1 hp
     ·exact b3 p hp r hr
    ·intro p hp r hr
     rw[bKO,List.singleton_append,bJR] at hr
     rcases hr with hr | rfl | hr
     ·exact c p hp r (by simp[hr])
     ·rintro rfl; exact f1 hp
     ·exact c p hp r (by simp[hr])
theorem aU.append (h:aU H B L) (i:Nat) {s b:Nat} {v y:PV} {rows src:List (List PV)} (hi:L[i]?=some (v,s,rows)) (hy:eN H s y=some src) (hr:roomFor rows.length src.length b)
  (hk:∀ v' H',aU H' B (L.set i (v',s,rows++src))→(src≠[]→∃ q,v'=.osl q s 0 (rows++src).length)→K v' H'):lS H s b v y K:=by
 rcases h.own i hi with ⟨rfl,rfl⟩ | ⟨q,rs,rfl,h1,h2,h3⟩
 ·refine⟨src,hy,hr,fun e=>?_,fun e o ho=>?_⟩
  ·subst e
   refine hk _ _ ?_ fun h=>absurd rfl h
   exact h.yK i hi (.inl ⟨rfl,rfl⟩) (fun q hq=>by cases hq) fun q _ _=>rfl
  ·refine hk _ _ (h.yK i hi (.inr ⟨o,src,rfl,by simp only[bR,if_true],bJF _,bKB⟩) (fun q hq=>by cases hq; exact .inr ho) fun q hq _=>?_) fun _=>⟨o,rfl⟩
   obtain⟨f1,f2⟩:=h.fresh ho
   have:q≠o:=by rintro rfl; exact hq.elim f1 f2
   rw[bR,if_neg this]
 ·have hlen:(rows++src).length=rows.length+src.length:=bJL
  refine⟨src,hy,rfl,rfl,hr,rs,h1,h2,?_,fun o ho=>?_⟩
  ·rw[h3]
   refine hk _ _ (h.yK i hi (.inr ⟨q,rows++src,by rw[hlen],by simp only[bR,if_true],bJF _,bKB⟩) (fun p hp=>by cases hp; exact .inl rfl) fun p _ hp=>?_) fun _=>⟨q,by rw[hlen]⟩
   rw[bR,if_neg (hp q rfl)]
  ·rw[h3]
   refine hk _ _ (h.yK i hi (.inr ⟨o,rows++src,by rw[hlen],by simp only[bR,if_true],bJF _,bKB⟩) (fun p hp=>by cases hp; exact .inr ho) fun p hpm hp=>?_) fun _=>⟨o,by rw[hlen]⟩
   obtain⟨f1,f2⟩:=h.fresh ho
   have n1:p≠o:=by rintro rfl; exact hpm.elim f1 f2
   rw[bR,if_neg n1]
theorem aU.sub (h:aU H B L) {B':List BX} {L':List LI} (hB:B'.Sublist B) (hL:L'.Sublist L):aU H B' L' :=
 ⟨fun b hb=>h.box b (hB.subset hb),fun x hx=>h.lst x (hL.subset hx),List.Nodup.sublist (bLJ.append (hB.map _) (hL.filterMap _)) h.nd⟩
theorem aU.buO (h:aU H B L) (i:Nat):aU H (B.eraseIdx i) L:=h.sub (List.eraseIdx_sublist ..) (bLJ.refl _)
theorem aU.aYB (h:aU H B L) (i:Nat):aU H B (L.eraseIdx i):=h.sub (bLJ.refl _) (List.eraseIdx_sublist ..)
end
section
variable {C:Ctx} {F:PF} {H:PH} {B:List BX} {L:List LI}
theorem aU.CR (h:aU H B L) {q:Nat} (hq:q∈eE B∨q∈dN L):∃ x,H q=some x:=by
 rcases hq with hq | hq
 ·obtain⟨b,hb,rfl⟩:=bKI.1 hq
  exact⟨_,h.box b hb⟩
 ·obtain⟨x,hx,e⟩:=List.mem_filterMap.1 hq
  obtain⟨rs,h1,_⟩:=(h.lst x hx).id e
  exact⟨_,h1⟩
theorem aU.perm (h:aU H B L) {B':List BX} {L':List LI} (hB:B.Perm B') (hL:L.Perm L'):aU H B' L' :=
 ⟨fun b hb=>h.box b (hB.mem_iff.2 hb),fun x hx=>h.lst x (hL.mem_iff.2 hx),(List.Perm.nodup_iff ((hB.map _).append (hL.filterMap _))).1 h.nd⟩
theorem aU.only (h:aU H B L) {B1:List BX} {L1:List LI} (hB:B1.Sublist B) (hL:L1.Sublist L):aU (H.only (eE B1++dN L1)) B1 L1:=by
 refine (h.sub hB hL).keep fun q hq=>?_
 rw[pR]
 rw[if_pos (bKO.2 hq)]
theorem brJ {a b c d:List Nat} (h1:(a++c).Nodup) (h2:(b++d).Nodup) (h3:∀ q,q∈a∨q∈c→q∈b∨q∈d→False):((a++b)++(c++d)).Nodup:=by
 have e:List.Perm ((a++b)++(c++d)) ((a++c)++(b++d)):=by
  rw[bKD,bKD]
  exact List.Perm.append_left a (by rw[← bKD,← bKD]; exact List.Perm.append_right d List.perm_append_comm)
 rw[e.nodup_iff,bLP]
 refine⟨h1,h2,fun p hp q hq=>?_⟩
 rintro rfl
 exact h3 p (bKO.1 hp) (bKO.1 hq)
theorem aU.frame {H':PH} {B1 B2 B':List BX} {L1 L2 L':List LI} (h:aU H (B1++B2) (L1++L2)) (h':aU H' B' L') (ha:kE H (H.only (eE B1++dN L1)) H'):aU (H.eU (H.only (eE B1++dN L1)) H') (B'++B2) (L'++L2):=by
 have h2:aU H B2 L2:=h.sub (List.sublist_append_right ..) (List.sublist_append_right ..)
 have dis:∀ q,q∈eE B2∨q∈dN L2→¬ (q∈eE B1++dN L1):=by
  intro q hq hm
  have hnd:=h.nd
  rw[show eE (B1++B2)=eE B1++eE B2 from bLS,jO] at hnd
  have e:List.Perm ((eE B1++eE B2)++(dN L1++dN L2)) ((eE B1++dN L1)++(eE B2++dN L2)):=by
   rw[bKD,bKD]
   exact List.Perm.append_left _ (by rw[← bKD,← bKD]; exact List.Perm.append_right _ List.perm_append_comm)
  rw[e.nodup_iff,bLP] at hnd
  exact hnd.2.2 q hm q (bKO.2 hq) rfl
 have new:∀ q,q∈eE B'∨q∈dN L'→(H.eU (H.only (eE B1++dN L1)) H') q=H' q:=by
  intro q hq
  obtain⟨x,hx⟩:=h'.CR hq
  rw[mB,hx]
 have old:∀ q,q∈eE B2∨q∈dN L2→(H.eU (H.only (eE B1++dN L1)) H') q=H q:=by
  intro q hq
  obtain⟨x,hx⟩:=h2.CR hq
  have h0:(H.only (eE B1++dN L1)) q=none:=by rw[pR,if_neg (dis q hq)]
  rw[mB]
  cases e:H' q with
  | none=>simp only[h0]
  | some y =>
   have:=ha q y e h0
   rw[hx] at this; cases this
 have k1:=h'.keep new
 have k2:=h2.keep old
 refine⟨fun b hb=>?_,fun x hx=>?_,?_⟩
 ·rcases bKO.1 hb with hb | hb
  ·exact k1.box b hb
  ·exact k2.box b hb
 ·rcases bKO.1 hx with hx | hx
  ·exact k1.lst x hx
  ·exact k2.lst x hx
 ·rw[show eE (B'++B2)=eE B'++eE B2 from bLS,jO]
  refine brJ h'.nd h2.nd fun q hq hq2=>?_
  obtain⟨x,hx⟩:=h'.CR hq
  obtain⟨y,hy⟩:=h2.CR hq2
  have h0:(H.only (eE B1++dN L1)) q=none:=by rw[pR,if_neg (dis q hq2)]
  have:=ha q x hx h0
  rw[hy] at this; cases this
theorem UG {name:Nat} {vs:List PV} {args:List aP} {d:Option Nat} {K:PF→PH→Prop} {B1 B2:List BX} {L1 L2:List LI} {Q:PV→List BX→List LI→Prop} (h:aU H (B1++B2) (L1++L2))
  (hc:∀ H0,aU H0 B1 L1→aD C name vs H0 (fun r H'=>∃ B' L',Q r B' L'∧aU H' B' L')) (ha:aP.evs F args=some vs)
  (hk:∀ r B' L' H',Q r B' L'→aU H' (B'++B2) (L'++L2)→K (F.put d r) H'):fP C name args [] d K F H:=by
 refine eO (hc (H.only (eE B1++dN L1)) (h.only (List.sublist_append_left ..) (List.sublist_append_left ..))) ha (CK H _) ?_
 rintro r H' ⟨B',L',hq,h'⟩ hap
 exact hk r B' L' _ hq (h.frame h' hap)
theorem oS {name o:Nat} {x y:cQ} {r:PV} {vs:List PV} {args:List aP} {d:Option Nat} {K:PF→PH→Prop} (h:aD C name vs (PH.nil.set o x) (fun r' H'=>r'=r∧H'=PH.nil.set o y)) (ho:H o=some x) (ha:aP.evs F args=some vs)
  (hk:K (F.put d r) (H.set o y)):fP C name args [] d K F H:=by
 refine eO h ha (PH.aI PH.nil_le ho) ?_
 rintro r' H' ⟨rfl,rfl⟩ -
 rw[PH.lD]
 exact hk
theorem awN {Hs:PH} {S:Spec} {name o:Nat} {x y:cQ} {r:PV} {vs:List PV} {R:PH→PV→PH→Prop} {args:List aP} {st:Bool} {d:Option Nat} {K:PF→PH→Prop} (hS:S name vs=some ([o],R)) (ho:H o=some x)
  (h:aD C name vs (PH.nil.set o x) (fun r' H'=>r'=r∧H'=PH.nil.set o y)) (hR1:R (PH.nil.set o x) r (PH.nil.set o y)) (hR2:∀ r' H',R (PH.nil.set o x) r' H'→r'=r∧H'=PH.nil.set o y) (ha:aP.evs F args=some vs)
  (hle:Hs.le (H.set o y)) (hk:K (F.put d r) (H.set o y)):dOp C Hs S st (.call name args) d K F H:=by
 have e:=aEJ ho
 refine⟨vs,[o],_,ha,hS,fun q hq=>?_,?_,fun G=>⟨r,_,by rw[e]; exact hR1,fun q z hz hn=>?_⟩,fun r' H' hr _=>?_⟩
 ·simp at hq; subst hq; exact⟨x,ho⟩
 ·rw[e]
  exact h.post fun r' H' hr=>⟨r',.refl _,by rw[hr.1,hr.2]; exact hR1⟩
 ·rw[e] at hn
  rw[bR] at hz hn
  split at hn
  ·cases hn
  ·rename_i hne
   rw[if_neg hne] at hz; cases hz
 ·rw[e] at hr
  obtain⟨rfl,rfl⟩:=hR2 r' H' hr
  rw[e,PH.lD]
  exact⟨hle,hk⟩
theorem bhL {s:Nat} {q z:Nat} {rs:List (List PV)} {v:PV} {rows:List (List PV)} (h:bO H s v rows) (hv:v.oid≠some q):bO (H.frz q z rs) s v (rows.map fun r=>r.map (PV.dC q z rs)):=by
 rcases h with ⟨rfl,rfl⟩ | ⟨p,rs',rfl,h1,h2,h3⟩
 ·exact .inl ⟨rfl,rfl⟩
 ·have hne:¬ p=q:=fun e=>hv (by rw[e]; rfl)
  refine .inr ⟨p,rs'.map fun r=>r.map (PV.dC q z rs),by rw[bJC],?_,by simpa using h2,?_⟩
  ·rw[vH,if_neg hne,h1]; rfl
  ·rw[bJC,← List.map_take,h3]
theorem aU.frz (h:aU H B L) (i:Nat) {q s k:Nat} {rows:List (List PV)} (hi:L[i]?=some (.osl q s 0 k,s,rows)):∃ rs,H q=some (.rows s rs)∧PV.dC q s rs (.osl q s 0 k)=.sl s rows∧PV.frz q s rs (.osl q s 0 k)=.sl s rows∧(∀ j x,j≠i→L[j]?=some x→PV.dC q s rs x.1=x.1) ∧
  aU (H.frz q s rs) (B.map fun b=>(b.1,b.2.frz q s rs)) ((L.eraseIdx i).map fun x=>(x.1,x.2.1,x.2.2.map fun r=>r.map (PV.dC q s rs))):=by
 obtain⟨rs,h1,h2,h3,h4⟩:=(h.own i hi).id rfl
 injection h2 with _ _ _ hk
 subst hk
 have e:PV.frz q s rs (.osl q s 0 rows.length)=.sl s rows:=by rw[pO h3,h4]
 refine⟨rs,h1,e,e,?_⟩
 refine⟨fun j x hji hj=>?_,?_⟩
 ·have hxq:x.1.oid≠some q:=by
   intro hxq
   obtain⟨hl,he⟩:=bKN.1 hi
   obtain⟨hl2,he2⟩:=bKN.1 hj
   have hmem:x∈L.eraseIdx i:=List.mem_eraseIdx_iff_getElem?.2 ⟨j,hji,hj⟩
   have hnd:=h.ndL
   have hs:L=L.take i++(L[i]::L.drop (i+1)):=by rw[← bKY hl,bLU]
   rw[List.eraseIdx_eq_take_drop_succ] at hmem
   rw[hs,jO] at hnd
   have e3:dN (L[i]::L.drop (i+1))=q::dN (L.drop (i+1)):=by rw[he]; rfl
   rw[e3,bLP] at hnd
   obtain⟨a,b,c⟩:=hnd
   rcases bKO.1 hmem with hx | hx
   ·exact c q (jY hx hxq) q (by simp) rfl
   ·exact (List.nodup_cons.1 b).1 (jY hx hxq)
  cases hx:x.1<;>try rfl
  rename_i p z off len
  have:¬ p=q:=fun e=>hxq (by rw[hx,e]; rfl)
  simp only[PV.dC,if_neg this]
 obtain⟨L1,L2,e1,e2⟩:=aBD (v':=.aB) (s':=s) (rows':=rows) hi
 have hil:i=L1.length∨True:=.inr trivial
 have ers:(L.eraseIdx i).Sublist L:=List.eraseIdx_sublist ..
 have hqn:∀ x∈L.eraseIdx i,x.1.oid≠some q:=by
  intro x hx hxq
  obtain⟨hl,he⟩:=bKN.1 hi
  have hnd:=h.ndL
  have hs:L=L.take i++(L[i]::L.drop (i+1)):=by rw[← bKY hl,bLU]
  rw[List.eraseIdx_eq_take_drop_succ] at hx
  rw[hs,jO] at hnd
  have e3:dN (L[i]::L.drop (i+1))=q::dN (L.drop (i+1)):=by
   rw[he]; rfl
  rw[e3,bLP] at hnd
  obtain⟨a,b,c⟩:=hnd
  rcases bKO.1 hx with hx | hx
  ·exact c q (jY hx hxq) q (by simp) rfl
  ·exact (List.nodup_cons.1 b).1 (jY hx hxq)
 refine⟨fun b hb=>?_,fun x hx=>?_,?_⟩
 ·obtain⟨b0,hb0,rfl⟩:=bKI.1 hb
  have:¬ b0.1=q:=h.ndX (rQ hb0) (jY (bLT hi) rfl)
  simp only
  rw[vH,if_neg this,h.box b0 hb0]; rfl
 ·obtain⟨x0,hx0,rfl⟩:=bKI.1 hx
  exact bhL (h.lst x0 (ers.subset hx0)) (hqn x0 hx0)
 ·have i1:eE (B.map fun b=>(b.1,b.2.frz q s rs))=eE B:=by unfold eE; rw[List.map_map]; rfl
  have i2:dN ((L.eraseIdx i).map fun x=>(x.1,x.2.1,x.2.2.map fun r=>r.map (PV.dC q s rs)))=dN (L.eraseIdx i):=by unfold dN; rw[List.filterMap_map]; rfl
  rw[i1,i2]
  exact List.Nodup.sublist (bLJ.append (bLJ.refl _) (ers.filterMap _)) h.nd
def Flat (rows:List (List PV)):Prop:=∀ q s rs,rows.map (fun r=>r.map (PV.dC q s rs))=rows
theorem Flat.nil:Flat []:=fun _ _ _=>rfl
theorem Flat.of {rows:List (List PV)} (h:∀ r∈rows,∀ c∈r,∀ q s rs,PV.dC q s rs c=c):Flat rows:=fun q s rs=>by
 conv=>rhs; rw[← List.map_id rows]
 refine List.map_congr_left fun r hr=>?_
 conv=>rhs; rw[id,← List.map_id r]
 exact List.map_congr_left fun c hc=>h r hr c hc q s rs
theorem Flat.map {α:Type} {f:α→List PV} (l:List α) (h:∀ x,∀ c∈f x,∀ q s rs,PV.dC q s rs c=c):Flat (l.map f):=Flat.of fun r hr=>by
 obtain⟨x,_,rfl⟩:=bKI.1 hr
 exact h x
theorem Flat.append {r1 r2:List (List PV)} (h1:Flat r1) (h2:Flat r2):Flat (r1++r2):=fun q s rs=>by rw[bLS,h1,h2]
theorem aU.flat {φ:PV→List (List PV)} (h:aU H B L):aU H B L:=h
def xL (v:PV) (H:PH) (R:PV→PH→Prop):Prop:=∃ F1 H1 H2,iH (PF.nil.set 0 v) H F1 H1∧H2.le H1∧∃ u,F1 0=some u∧R u H2
theorem xL.done {v:PV} {H2:PH} {R:PV→PH→Prop} (hR:R v H2) (hle:H2.le H):xL v H R:=⟨_,_,H2,.refl _ _,hle,v,by rw[mY,if_pos rfl],hR⟩
theorem xL.step {v:PV} {q s:Nat} {rs:List (List PV)} {R:PV→PH→Prop} (hq:H q=some (.rows s rs)) (h:xL (PV.frz q s rs v) (H.frz q s rs) R):xL v H R:=by
 obtain⟨F1,H1,H2,h1,h2,h3⟩:=h
 have e:(PF.nil.set 0 v).frz q s rs=PF.nil.set 0 (PV.frz q s rs v):=by
  funext i
  rw[qN,mY,mY]
  split<;>rfl
 exact⟨F1,H1,H2,.step q hq (by rw[e]; exact h1),h2,h3⟩
theorem akO {res:List dV} {R:PV→PH→Prop} {vs:List PV} {e:mH} (he:e=.normal∨e=.ret) (h:dV.evs F H res=some vs) (hf:xL (aW vs) H R):aT res R e F H:=by
 have key:∃ vs,dV.evs F H res=some vs∧∃ F1 H1 H2,iH (PF.nil.set 0 (aW vs)) H F1 H1∧H2.le H1∧∃ u,F1 0=some u∧R u H2:=⟨vs,h,hf⟩
 rcases he with rfl | rfl<;>exact key
theorem uF {u:PV} (h:u.oid=none) (q s:Nat) (rs:List (List PV)):PV.dC q s rs u=u:=by
 cases u<;>first | rfl | (simp[PV.oid] at h)
theorem Seen.co {s:Nat} {v:PV} {rows:List (List PV)} (h:Seen s v rows):Co v (.sl s rows):=by
 rcases h with ⟨rfl,rfl⟩ | rfl
 ·exact .nil s
 ·exact .refl _
theorem aU.giveUp:∀ (L:List LI) {H:PH} {B:List BX},aU H B L→(∀ x∈L,Flat x.2.2)→(∀ b∈B,∀ q s rs,cQ.frz q s rs b.2=b.2) →
  ∃ (φ:PV→PV) (H1:PH),(∀ x∈L,Seen x.2.1 (φ x.1) x.2.2)∧(∀ u,u.oid=none→φ u=u)∧aU H1 B []∧∀ cs R,xL (.agg (cs.map φ)) H1 R→xL (.agg cs) H R
 | [],H,B,h,_,_=>⟨id,H,by simp,fun _ _=>rfl,h,fun cs R hf=>by rwa [List.map_id] at hf⟩
 | (w,s,rows)::L,H,B,h,hL,hB=>by
  have hflat:∀ q z rs,(L.map fun x=>(x.1,x.2.1,x.2.2.map fun r=>r.map (PV.dC q z rs)))=L:=fun q z rs=>by
   conv=>rhs; rw[← List.map_id L]
   refine List.map_congr_left fun x hx=>?_
   rw[hL x (by simp[hx]) q z rs]; rfl
  rcases h.own 0 rfl with ⟨h1,h2⟩ | ⟨q,rs,h1,_⟩
  ·obtain⟨φ,H1,k1,k2,k3,k4⟩:=aU.giveUp L (h.aYB 0) (fun x hx=>hL x (by simp[hx])) hB
   refine⟨φ,H1,fun x hx=>?_,k2,k3,k4⟩
   rw[bJR] at hx
   rcases hx with rfl | hx
   ·exact .inl ⟨h1,by simp only; rw[h2]; exact k2 _ rfl⟩
   ·exact k1 x hx
  ·subst h1
   obtain⟨rs,z1,z2,z3,z4,z5⟩:=h.frz 0 rfl
   have z6:aU (H.frz q s rs) B L:=by
    have eB:(B.map fun b=>(b.1,b.2.frz q s rs))=B:=by
     conv=>rhs; rw[← List.map_id B]
     refine List.map_congr_left fun b hb=>?_
     rw[hB b hb q s rs]; rfl
    rw[eB] at z5
    have:=z5
    simp only[List.eraseIdx_cons_zero] at this
    rwa [hflat q s rs] at this
   obtain⟨φ,H1,k1,k2,k3,k4⟩:=aU.giveUp L z6 (fun x hx=>hL x (by simp[hx])) hB
   refine⟨fun u=>φ (PV.dC q s rs u),H1,fun x hx=>?_,fun u hu=>?_,k3,fun cs R hf=>?_⟩
   ·rw[bJR] at hx
    rcases hx with rfl | hx
    ·simp only
     rw[z2]
     exact .inr (k2 _ rfl)
    ·obtain⟨j,hj⟩:=List.mem_iff_getElem?.1 hx
     have:=z4 (j+1) x Om (by simpa using hj)
     simp only
     rw[this]
     exact k1 x hx
   ·simp only
    rw[uF hu,k2 u hu]
   ·refine .step z1 ?_
    have e:PV.frz q s rs (.agg cs)=.agg (cs.map (PV.dC q s rs)):=rfl
    rw[e]
    refine k4 _ R ?_
    rw[List.map_map]
    exact hf
theorem aoH {K:cO} {α:Type} {Fs:α→PF} {Hs:α→PH} {Pr:α→Prop} {m:α→Nat} {n q s:Nat} {rs:List (List PV)} (a:α) (hq:H q=some (.rows s rs)) (h0:Pr a) (hm:m a<n) (hF:(Fs a).le (F.frz q s rs)) (hH:(Hs a).le (H.frz q s rs)):eA Fs Hs Pr m n K .normal F H :=
 ⟨a,_,_,.step q hq (.refl _ _),h0,hm,hF,hH⟩
end
section
variable {C:Ctx} {F F':PF} {H:PH}
theorem cI (hle:F.le F') {x:aP} {v:PV} (h:x.ev F=some v):x.ev F'=some v:=by
 cases x
 ·exact hle _ _ h
 all_goals exact h
theorem aaH (hle:F.le F'):∀ {xs:List aP} {vs:List PV},aP.evs F xs=some vs→aP.evs F' xs=some vs
 | [],_,h=>h
 | x::xs,vs,h=>by
  rw[wA] at h ⊢
  cases hx:x.ev F with
  | none=>simp[hx] at h
  | some v =>
   cases hs:aP.evs F xs with
   | none=>simp[hs] at h
   | some ws =>
    rw[hx,hs] at h
    rw[cI hle hx,aaH hle hs]
    exact h
theorem axQ (hle:F.le F'):∀ {ps:List (Nat × Nat × aP)} {cs ds:List PV},nG cs F ps=some ds→nG cs F' ps=some ds
 | [],_,_,h=>h
 | (off,size,x)::ps,cs,ds,h=>by
  simp only[nG] at h ⊢
  cases hx:x.ev F with
  | none=>simp[hx] at h
  | some v =>
   rw[hx] at h
   rw[cI hle hx]
   simp only at h ⊢
   split at h
   ·rename_i hc; rw[if_pos hc]; exact axQ hle h
   ·cases h
theorem zE (hle:F.le F') {size:Nat}:∀ {ps:List (Nat × aP)} {cs ds:List (List PV)},fR size cs F ps=some ds→fR size cs F' ps=some ds
 | [],_,_,h=>h
 | (i,x)::ps,cs,ds,h=>by
  simp only[fR] at h ⊢
  cases hx:x.ev F with
  | none=>simp[hx] at h
  | some v =>
   rw[hx] at h
   rw[cI hle hx]
   simp only at h ⊢
   split at h
   ·rename_i hc; rw[if_pos hc]; exact zE hle h
   ·cases h
theorem KI (hle:F.le F') {d n:Int} {x:Option aP} (h:bnd F d x=some n):bnd F' d x=some n:=by
 cases x with
 | none=>exact h
 | some x =>
  simp only[bnd] at h ⊢
  cases hx:x.ev F with
  | none=>simp[hx] at h
  | some v=>rw[cI hle hx,← hx]; exact h
theorem aES {op:POp} {v:PV} (hle:F.le F') (h:aO op F H=some v):aO op F' H=some v:=by
 cases op
 case mv x=>exact cI hle h
 case pick c a b =>
  simp only[aO] at h ⊢
  cases hc:c.ev F with
  | none=>simp[hc] at h
  | some t =>
   rw[hc] at h
   rw[cI hle hc]
   cases t<;>simp only at h ⊢<;>try cases h
   rename_i t
   cases t
   ·simp only[bME,if_false] at h ⊢; exact cI hle h
   ·simp only[if_true] at h ⊢; exact cI hle h
 case same x =>
  simp only[aO] at h ⊢
  cases hx:x.ev F with
  | none=>simp[hx] at h
  | some a=>rw[cI hle hx,← hx]; exact h
 case un o x =>
  simp only[aO] at h ⊢
  cases hx:x.ev F with
  | none=>simp[hx] at h
  | some a=>rw[cI hle hx,← hx]; exact h
 case conv k x =>
  simp only[aO] at h ⊢
  cases hx:x.ev F with
  | none=>simp[hx] at h
  | some a=>rw[cI hle hx,← hx]; exact h
 case bHN x =>
  simp only[aO] at h ⊢
  cases hx:x.ev F with
  | none=>simp[hx] at h
  | some a=>rw[cI hle hx,← hx]; exact h
 case bIK o x =>
  simp only[aO] at h ⊢
  cases hx:x.ev F with
  | none=>simp[hx] at h
  | some a=>rw[cI hle hx,← hx]; exact h
 case field o n x =>
  simp only[aO] at h ⊢
  cases hx:x.ev F with
  | none=>simp[hx] at h
  | some a=>rw[cI hle hx,← hx]; exact h
 case bIG x =>
  simp only[aO] at h ⊢
  cases hx:x.ev F with
  | none=>simp[hx] at h
  | some a=>rw[cI hle hx,← hx]; exact h
 case isNil n x =>
  simp only[aO] at h ⊢
  cases hx:x.ev F with
  | none=>simp[hx] at h
  | some a=>rw[cI hle hx,← hx]; exact h
 case lenM x =>
  simp only[aO] at h ⊢
  cases hx:x.ev F with
  | none=>simp[hx] at h
  | some a=>rw[cI hle hx,← hx]; exact h
 case bJA x =>
  simp only[aO] at h ⊢
  cases hx:x.ev F with
  | none=>simp[hx] at h
  | some a=>rw[cI hle hx,← hx]; exact h
 case extract x i =>
  simp only[aO] at h ⊢
  cases hx:x.ev F with
  | none=>simp[hx] at h
  | some a=>rw[cI hle hx,← hx]; exact h
 case bHO x =>
  simp only[aO] at h ⊢
  cases hx:x.ev F with
  | none=>simp[hx] at h
  | some a=>rw[cI hle hx,← hx]; exact h
 case len x =>
  simp only[aO] at h ⊢
  cases hx:x.ev F with
  | none=>simp[hx] at h
  | some a=>rw[cI hle hx,← hx]; exact h
 case box r x =>
  cases r
  ·cases h
  simp only[aO] at h ⊢
  cases hx:x.ev F with
  | none=>simp[hx] at h
  | some a=>rw[cI hle hx,← hx]; exact h
 case load n p =>
  cases n
  all_goals
   simp only[aO] at h ⊢
   cases hx:p.ev F with
   | none=>simp[hx] at h
   | some a=>rw[cI hle hx,← hx]; exact h
 case bin o x y =>
  simp only[aO] at h ⊢
  cases hx:x.ev F with
  | none=>simp[hx] at h
  | some a =>
   cases hy:y.ev F with
   | none=>simp[hx,hy] at h
   | some b=>rw[cI hle hx,cI hle hy,← hx,← hy]; exact h
 case eqb n x y =>
  simp only[aO] at h ⊢
  cases hx:x.ev F with
  | none=>simp[hx] at h
  | some a =>
   cases hy:y.ev F with
   | none=>simp[hx,hy] at h
   | some b=>rw[cI hle hx,cI hle hy,← hx,← hy]; exact h
 case eqs n k x y =>
  simp only[aO] at h ⊢
  cases hx:x.ev F with
  | none=>simp[hx] at h
  | some a =>
   cases hy:y.ev F with
   | none=>simp[hx,hy] at h
   | some b=>rw[cI hle hx,cI hle hy,← hx,← hy]; exact h
 case bHT s x i =>
  simp only[aO] at h ⊢
  cases hx:x.ev F with
  | none=>simp[hx] at h
  | some a =>
   cases hy:i.ev F with
   | none=>simp[hx,hy] at h
   | some b=>rw[cI hle hx,cI hle hy,← hx,← hy]; exact h
 case idxA n s x i =>
  simp only[aO] at h ⊢
  cases hx:x.ev F with
  | none=>simp[hx] at h
  | some a =>
   cases hy:i.ev F with
   | none=>simp[hx,hy] at h
   | some b=>rw[cI hle hx,cI hle hy,← hx,← hy]; exact h
 case idxV n s g x i =>
  simp only[aO] at h ⊢
  cases hx:x.ev F with
  | none=>simp[hx] at h
  | some a =>
   cases hy:i.ev F with
   | none=>simp[hx,hy] at h
   | some b=>rw[cI hle hx,cI hle hy,← hx,← hy]; exact h
 case bIH x i =>
  simp only[aO] at h ⊢
  cases hx:x.ev F with
  | none=>simp[hx] at h
  | some a =>
   cases hy:i.ev F with
   | none=>simp[hx,hy] at h
   | some b=>rw[cI hle hx,cI hle hy,← hx,← hy]; exact h
 case bHZ m x y =>
  simp only[aO] at h ⊢
  cases hx:x.ev F with
  | none=>simp[hx] at h
  | some a =>
   cases hy:y.ev F with
   | none=>simp[hx,hy] at h
   | some b=>rw[cI hle hx,cI hle hy,← hx,← hy]; exact h
 case lookup sh z x k ok =>
  simp only[aO] at h ⊢
  cases hx:x.ev F with
  | none=>simp[hx] at h
  | some a =>
   cases hy:k.ev F with
   | none=>simp[hx,hy] at h
   | some b=>rw[cI hle hx,cI hle hy,← hx,← hy]; exact h
 case build z ps =>
  simp only[aO,bJJ] at h ⊢
  obtain⟨cs,h1,h2⟩:=h
  exact⟨cs,axQ hle h1,h2⟩
 case bHE r s l z ps =>
  cases r
  ·cases h
  simp only[aO] at h ⊢
  split at h
  ·rename_i hc
   rw[if_pos hc]
   rw[bJJ] at h ⊢
   obtain⟨cs,h1,h2⟩:=h
   exact⟨cs,zE hle h1,h2⟩
  ·cases h
 case mkfn n cs =>
  simp only[aO,bJJ] at h ⊢
  obtain⟨vs,h1,h2⟩:=h
  exact⟨vs,aaH hle h1,h2⟩
 case sliceA n s x lo hi mx =>
  cases lo<;>cases hi<;>cases mx<;>simp only[aO] at h ⊢<;>try cases h
  cases hx:x.ev F with
  | none=>simp[hx] at h
  | some a=>rw[cI hle hx,← hx]; exact h
 case bIB x lo hi =>
  simp only[aO] at h ⊢
  cases hx:x.ev F with
  | none=>simp[hx] at h
  | some a =>
   rw[hx] at h
   rw[cI hle hx]
   cases a<;>simp only at h ⊢<;>try cases h
   cases h1:bnd F 0 lo with
   | none=>simp[h1] at h
   | some l =>
    rename_i s
    cases h2:bnd F s.length hi with
    | none=>simp[h1,h2] at h
    | some u=>rw[KI hle h1,KI hle h2,← h1,← h2]; exact h
 case slice s x lo hi mx =>
  simp only[aO] at h ⊢
  cases hx:x.ev F with
  | none=>simp[hx] at h
  | some a =>
   rw[hx] at h
   rw[cI hle hx]
   have key:∀ (d:Int) (w:PV),(match bnd F 0 lo,bnd F d hi with
     | some a1,some a2=>match (generalizing:=false) mx with
      | none=>PV.slice s w a1 a2 none
      | some m=>(bnd F 0 (some m)).bind fun m=>PV.slice s w a1 a2 (some m)
     | _,_=>none)=some v→(match bnd F' 0 lo,bnd F' d hi with
     | some a1,some a2=>match (generalizing:=false) mx with
      | none=>PV.slice s w a1 a2 none
      | some m=>(bnd F' 0 (some m)).bind fun m=>PV.slice s w a1 a2 (some m)
     | _,_=>none)=some v:=by
    intro d w h
    cases h1:bnd F 0 lo with
    | none=>simp[h1] at h
    | some l =>
     cases h2:bnd F d hi with
     | none=>simp[h1,h2] at h
     | some u =>
      rw[h1,h2] at h
      rw[KI hle h1,KI hle h2]
      cases mx with
      | none=>exact h
      | some m =>
       simp only at h ⊢
       cases h3:bnd F 0 (some m) with
       | none=>simp[h3] at h
       | some q=>rw[KI hle h3,← h3]; exact h
   cases a<;>simp only at h ⊢<;>first | exact key _ _ h | cases h
 all_goals exact h
theorem avT {op:POp} {r:(Nat→PV) × cQ} (hle:F.le F') (h:cT op F=some r):cT op F'=some r:=by
 cases op
 case box b x =>
  cases b
  ·simp only[cT] at h ⊢
   cases hx:x.ev F with
   | none=>simp[hx] at h
   | some a=>rw[cI hle hx,← hx]; exact h
  ·cases h
 case bHE b s l z ps =>
  cases b
  ·simp only[cT] at h ⊢
   split at h
   ·rename_i hc
    rw[if_pos hc]
    rw[bJJ] at h ⊢
    obtain⟨cs,h1,h2⟩:=h
    exact⟨cs,zE hle h1,h2⟩
   ·cases h
  ·cases h
 case bHI s b z l c =>
  simp only[cT] at h ⊢
  cases hx:l.ev F with
  | none=>simp[hx] at h
  | some a =>
   cases hy:c.ev F with
   | none=>simp[hx,hy] at h
   | some b=>rw[cI hle hx,cI hle hy,← hx,← hy]; exact h
 all_goals exact h
theorem aKE {op:POp} {K:PV→PH→Prop} (hle:F.le F') (h:bT op F H K):bT op F' H K:=by
 cases op
 case store n x y =>
  simp only[bT] at h ⊢
  cases hx:x.ev F with
  | none=>simp[hx] at h
  | some a =>
   cases hy:y.ev F with
   | none=>simp[hx,hy] at h
   | some b=>rw[cI hle hx,cI hle hy]; rw[hx,hy] at h; exact h
 case append s b x y =>
  simp only[bT] at h ⊢
  cases hx:x.ev F with
  | none=>simp[hx] at h
  | some a =>
   cases hy:y.ev F with
   | none=>simp[hx,hy] at h
   | some b=>rw[cI hle hx,cI hle hy]; rw[hx,hy] at h; exact h
 case bHW sh x y z =>
  simp only[bT] at h ⊢
  cases hx:x.ev F with
  | none=>simp[hx] at h
  | some a =>
   cases hy:y.ev F with
   | none=>simp[hx,hy] at h
   | some b =>
    cases hz:z.ev F with
    | none=>simp[hx,hy,hz] at h
    | some c=>rw[cI hle hx,cI hle hy,cI hle hz]; rw[hx,hy,hz] at h; exact h
 case insert sh x y z =>
  simp only[bT] at h ⊢
  cases hx:x.ev F with
  | none=>simp[hx] at h
  | some a =>
   cases hy:y.ev F with
   | none=>simp[hx,hy] at h
   | some b =>
    cases hz:z.ev F with
    | none=>simp[hx,hy,hz] at h
    | some c=>rw[cI hle hx,cI hle hy,cI hle hz]; rw[hx,hy,hz] at h; exact h
 all_goals exact h
theorem PF.bsB (hle:F.le F') (i:Nat) (v:PV):(F.set i v).le (F'.set i v):=by
 intro j u h
 rw[mY] at h ⊢
 split at h
 ·rename_i e; rw[if_pos e]; exact h
 ·rename_i e; rw[if_neg e]; exact hle j u h
theorem PF.wQ (hle:F.le F') (d:Option Nat) (v:PV):(F.put d v).le (F'.put d v):=by
 cases d with
 | none=>exact hle
 | some d=>exact PF.bsB hle d v
theorem PF.bqJ (hle:F.le F') (o s:Nat) (rs:List (List PV)):(F.frz o s rs).le (F'.frz o s rs):=by
 intro j u h
 rw[qN,bJJ] at h ⊢
 obtain⟨x,h1,h2⟩:=h
 exact⟨x,hle j x h1,h2⟩
theorem PF.le_trans {A B D:PF} (h:A.le B) (k:B.le D):A.le D:=fun i v hi=>k i v (h i v hi)
theorem iH.up {F1:PF} {H1:PH} (h:iH F H F1 H1):∀ {F':PF},F.le F'→∃ F1',iH F' H F1' H1∧F1.le F1':=by
 induction h with
 | refl F H=>exact fun {F'} hle=>⟨F',.refl _ _,hle⟩
 | step o ho _ ih =>
  intro F' hle
  obtain⟨F1',h1,h2⟩:=ih (PF.bqJ hle o _ _)
  exact⟨F1',.step o ho h1,h2⟩
theorem YO {name:Nat} {args:Option (List PV)} {d:Option Nat} {K1 K2:PF→PH→Prop} (hK:∀ F F' H,F.le F'→K1 F H→K2 F' H) (hle:F.le F') {args':Option (List PV)} (ha:∀ vs,args=some vs→args'=some vs) (h:qF C name args d K1 F H):qF C name args' d K2 F' H:=by
 obtain⟨vs,H0,R,h1,h2,h3,h4⟩:=h
 exact⟨vs,H0,R,ha _ h1,h2,h3,fun r H' a b=>hK _ _ _ (PF.wQ hle d r) (h4 r H' a b)⟩
theorem aCA {cs:List PV} {args:List aP} (hle:F.le F') (vs:List PV) (h:(aP.evs F args).map (·++cs)=some vs):(aP.evs F' args).map (·++cs)=some vs:=by
 rw[bJJ] at h ⊢
 obtain⟨x,h1,h2⟩:=h
 exact⟨x,aaH hle h1,h2⟩
theorem aNB {name:Nat} {args:List aP} {cs:List PV} {d:Option Nat} {K1 K2:PF→PH→Prop} (hK:∀ F F' H,F.le F'→K1 F H→K2 F' H) (hle:F.le F') (h:fP C name args cs d K1 F H):fP C name args cs d K2 F' H:=by
 rcases h with h | ⟨F1,H1,h1,h2⟩
 ·exact .inl (YO hK hle (aCA hle) h)
 ·obtain⟨F1',k1,k2⟩:=h1.up hle
  exact .inr ⟨F1',H1,k1,YO hK k2 (aCA k2) h2⟩
theorem MN {op:POp} {d:Option Nat} {K1 K2:PF→PH→Prop} (hK:∀ F F' H,F.le F'→K1 F H→K2 F' H) (hle:F.le F') (h:kY (cT op F) d K1 F H):kY (cT op F') d K2 F' H:=by
 obtain⟨mk,x,h1,h2⟩:=h
 exact⟨mk,x,avT hle h1,fun o ho=>hK _ _ _ (PF.wQ hle d _) (h2 o ho)⟩
theorem aiU {op:POp} {d:Option Nat} {K1 K2:PF→PH→Prop} (hK:∀ F F' H,F.le F'→K1 F H→K2 F' H) (hle:F.le F') (h:bM (aO op F H) d K1 F H):bM (aO op F' H) d K2 F' H:=by
 obtain⟨v,h1,h2⟩:=h
 exact⟨v,aES hle h1,hK _ _ _ (PF.wQ hle d v) h2⟩
theorem avC {op:POp} {d:Option Nat} {K1 K2:PF→PH→Prop} (hK:∀ F F' H,F.le F'→K1 F H→K2 F' H) (hle:F.le F') (h:bT op F H fun r H'=>K1 (F.put d r) H'):bT op F' H fun r H'=>K2 (F'.put d r) H' :=
 aKE hle (xG (fun v H' hh=>hK _ _ _ (PF.wQ hle d v) hh) h)
theorem bjU {op:POp} {d:Option Nat} {K1 K2:PF→PH→Prop} (hK:∀ F F' H,F.le F'→K1 F H→K2 F' H) (hle:F.le F') (h:wpOp C op d K1 F H):wpOp C op d K2 F' H:=by
 cases op
 case call n a=>exact aNB hK hle h
 case bIJ x a =>
  obtain⟨n,cs,h1,h2⟩:=h
  exact⟨n,cs,cI hle h1,aNB hK hle h2⟩
 case box r x=>cases r<;>first | exact MN (op:=.box false x) hK hle h | exact aiU (op:=.box true x) hK hle h
 case bHE r s l z ps=>cases r<;>first | exact MN (op:=.bHE false s l z ps) hK hle h | exact aiU (op:=.bHE true s l z ps) hK hle h
 case alloc cs=>exact MN (op:=.alloc cs) hK hle h
 case bHI s b z l c=>exact MN (op:=.bHI s b z l c) hK hle h
 case bIU sh=>exact MN (op:=.bIU sh) hK hle h
 case store n x y=>exact avC (op:=.store n x y) hK hle h
 case append s b x y=>exact avC (op:=.append s b x y) hK hle h
 case bHW sh x y z=>exact avC (op:=.bHW sh x y z) hK hle h
 case insert sh x y z=>exact avC (op:=.insert sh x y z) hK hle h
 all_goals exact aiU hK hle h
theorem NM {K1 K2:PF→PH→Prop} (hK:∀ F F' H,F.le F'→K1 F H→K2 F' H):∀ {ops:List bB} {F F':PF} {H:PH},F.le F'→wpOps C ops K1 F H→wpOps C ops K2 F' H
 | [],_,_,_,hle,h=>hK _ _ _ hle h
 | ⟨d,op,none⟩::rest,_,_,_,hle,h=>bjU (fun _ _ _ a b=>NM hK a b) hle h
 | ⟨d,op,some (t,want)⟩::rest,F,F',H,hle,h=>by
  rw[aMQ] at h ⊢
  unfold sX at h
  split at h
  ·rename_i b hb
   rw[hle t _ hb]
   unfold sX
   simp only
   split at h
   ·rename_i e; rw[if_pos e]; exact bjU (fun _ _ _ a b=>NM hK a b) hle h
   ·rename_i e; rw[if_neg e]; exact NM hK (PF.wQ hle d _) h
  ·rename_i hb
   rw[hle t _ hb]
   exact NM hK (PF.wQ hle d _) h
  ·exact h.elim
theorem aEI {Hs:PH} {S:Spec} {st:Bool} {op:POp} {K:PV→PH→Prop} (hle:F.le F') (h:(op.kind F).run C Hs S st K H):(op.kind F').run C Hs S st K H:=by
 have new:∀ op:POp,(Kind.new (cT op F)).run C Hs S st K H→(Kind.new (cT op F')).run C Hs S st K H:=fun op h=>by
  obtain⟨mk,x,h1,h2⟩:=h
  exact⟨mk,x,avT hle h1,h2⟩
 have calm:∀ op:POp,(Kind.calm (aO op F)).run C Hs S st K H→(Kind.calm (aO op F')).run C Hs S st K H:=fun op h=>by
  obtain⟨v,h1,h2⟩:=h
  exact⟨v,aES hle h1,h2⟩
 have wr:∀ op:POp,(Kind.write fun H K=>bT op F H K).run C Hs S st K H→(Kind.write fun H K=>bT op F' H K).run C Hs S st K H:=fun op h=>aKE (op:=op) hle (show bT op F H (fun r H'=>Hs.le H'∧K r H') from h)
 cases op
 case call n a =>
  obtain⟨vs,D,R,h1,h2⟩:=h
  exact⟨vs,D,R,aaH hle h1,h2⟩
 case bIJ x a =>
  unfold POp.kind at h ⊢
  simp only at h ⊢
  cases hx:x.ev F with
  | none=>rw[hx] at h; exact h.elim
  | some u =>
   rw[hx] at h
   rw[cI hle hx]
   cases u<;>simp only at h ⊢<;>first | exact h | skip
   obtain⟨vs,D,R,h1,h2⟩:=h
   exact⟨vs,D,R,aCA hle _ h1,h2⟩
 case insert sh x k v =>
  obtain⟨o,sh',key,u,g,h1,h2⟩:=h
  refine⟨o,sh',key,u,g,?_,h2⟩
  cases hx:x.ev F with
  | none=>simp[hx] at h1
  | some a =>
   cases hy:k.ev F with
   | none=>simp[hx,hy] at h1
   | some b =>
    cases hz:v.ev F with
    | none=>simp[hx,hy,hz] at h1
    | some c=>rw[cI hle hx,cI hle hy,cI hle hz]; rw[hx,hy,hz] at h1; exact h1
 case box r x=>cases r<;>first | exact new (.box false x) h | exact calm (.box true x) h
 case bHE r s l z ps=>cases r<;>first | exact new (.bHE false s l z ps) h | exact calm (.bHE true s l z ps) h
 case alloc cs=>exact new (.alloc cs) h
 case bHI s b z l c=>exact new (.bHI s b z l c) h
 case bIU sh=>exact new (.bIU sh) h
 case store n x y=>exact wr (.store n x y) h
 case append s b x y=>exact wr (.append s b x y) h
 case bHW sh x y z=>exact wr (.bHW sh x y z) h
 all_goals exact calm _ h
theorem beU {Hs:PH} {S:Spec} {st:Bool} {i:bB} {K:PV→PH→Prop} (hle:F.le F') (h:(i.kind F).run C Hs S st K H):(i.kind F').run C Hs S st K H:=by
 unfold bB.kind at h ⊢
 split
 ·rename_i hg
  rw[hg] at h
  exact aEI hle h
 ·rename_i t want hg
  rw[hg] at h
  simp only at h
  split at h
  ·rename_i b hb
   rw[hle t _ hb]
   simp only
   split at h
   ·rename_i e; rw[if_pos e]; exact aEI hle h
   ·rename_i e; rw[if_neg e]; exact h
  ·rename_i hb
   rw[hle t _ hb]
   exact h
  ·exact h.elim
theorem bbQ {Hs:PH} {S:Spec} {K1 K2:PF→PH→Prop} (hK:∀ F F' H,F.le F'→K1 F H→K2 F' H):∀ {ops:List (bB × Bool)} {F F':PF} {H:PH},Hs.le H→F.le F'→wpD C Hs S ops K1 F H→wpD C Hs S ops K2 F' H
 | [],_,_,_,_,hle,h=>hK _ _ _ hle h
 | i::rest,F,F',H,hs,hle,h=>by
  have h1:(i.1.kind F).run C Hs S i.2 (fun v H'=>wpD C Hs S rest K1 (F.put i.1.dst v) H') H:=h
  exact beU hle (Kind.pG (pD _ _) (fun v H' hs' hh=>bbQ hK hs' (PF.wQ hle _ v) hh) hs h1)
class Up (K:cO):Prop where
 up:∀ {e:mH} {F F':PF} {H:PH},F.le F'→K e F H→K e F' H
theorem sO:∀ (c:aC) {K1 K2:cO} (_:∀ e F F' H,F.le F'→K1 e F H→K2 e F' H) {F F':PF} {H:PH},F.le F'→c.wp C K1 F H→c.wp C K2 F' H
 | .skip,_,_,hK,_,_,_,hle,h=>hK _ _ _ _ hle h
 | .region ops,_,_,hK,_,_,_,hle,h=>NM (hK .normal) hle h
 | .draw ops,_,_,hK,_,_,_,hle,⟨Hs,S,h1,h2⟩=>⟨Hs,S,h1,bbQ (hK .normal) h1 hle h2⟩
 | .seq a b,K1,K2,hK,_,_,_,hle,h=>sO a (K1:=gY C (b.wp C) K1) (K2:=gY C (b.wp C) K2) (fun e F F' H hl hh=>by
   cases e with
   | normal=>exact sO b hK hl hh
   | exit id=>exact hK (.exit id) _ _ _ hl hh
   | ret=>exact hK .ret _ _ _ hl hh) hle h
 | .cond c a b,K1,K2,hK,F,F',H,hle,h=>by
  rw[bjE] at h ⊢
  unfold QR at h
  split at h
  ·rename_i t ht
   rw[cI hle ht]
   unfold QR
   simp only
   split at h
   ·rename_i e; rw[if_pos e]; exact sO a hK hle h
   ·rename_i e; rw[if_neg e]; exact sO b hK hle h
  ·exact h.elim
 | .block id c,K1,K2,hK,_,_,_,hle,h=>sO c (K1:=dU id K1) (K2:=dU id K2) (fun e F F' H hl hh=>by
   cases e with
   | normal=>exact hK .normal _ _ _ hl hh
   | exit j =>
    rw[RT] at hh ⊢
    split at hh
    ·rename_i e; rw[if_pos e]; exact hK .normal _ _ _ hl hh
    ·rename_i e; rw[if_neg e]; exact hK (.exit j) _ _ _ hl hh
   | ret=>exact hK .ret _ _ _ hl hh) hle h
 | .loop c,K1,K2,hK,F,F',H,hle,⟨α,Fs,Hs,Pr,m,a0,F1,H1,h1,h2,h3,h4,h5⟩=>by
  obtain⟨F1',k1,k2⟩:=h1.up hle
  refine⟨α,Fs,Hs,Pr,m,a0,F1',H1,k1,h2,PF.le_trans h3 k2,h4,fun a ha=>?_⟩
  refine sO c (K1:=eA Fs Hs Pr m (m a) K1) (K2:=eA Fs Hs Pr m (m a) K2) (fun e F F' H hl hh=>?_) PF.le_refl (h5 a ha)
  cases e with
  | normal =>
   obtain⟨b,F2,H2,z1,z2,z3,z4,z5⟩:=hh
   obtain⟨F2',y1,y2⟩:=z1.up hl
   exact⟨b,F2',H2,y1,z2,z3,PF.le_trans z4 y2,z5⟩
  | exit id=>exact hK (.exit id) _ _ _ hl hh
  | ret=>exact hK .ret _ _ _ hl hh
 | .exit id,_,_,hK,_,_,_,hle,h=>hK (.exit id) _ _ _ hle h
 | .ret,_,_,hK,_,_,_,hle,h=>hK .ret _ _ _ hle h
instance Up.seq {K:cO} [Up K] (b:aC):Up (gY C (b.wp C) K) where
 up {e} {F} {F'} {H} hl hh:=by
  cases e with
  | normal=>exact sO b (fun e F F' H a h=>Up.up a h) hl hh
  | exit id=>exact Up.up (K:=K) (e:=.exit id) hl hh
  | ret=>exact Up.up (K:=K) (e:=.ret) hl hh
instance Up.block {K:cO} [Up K] (id:Nat):Up (dU id K) where
 up {e} {F} {F'} {H} hl hh:=by
  cases e with
  | normal=>exact Up.up (K:=K) (e:=.normal) hl hh
  | exit j =>
   rw[RT] at hh ⊢
   split at hh
   ·rename_i e; rw[if_pos e]; exact Up.up (K:=K) (e:=.normal) hl hh
   ·rename_i e; rw[if_neg e]; exact Up.up (K:=K) (e:=.exit j) hl hh
  | ret=>exact Up.up (K:=K) (e:=.ret) hl hh
instance Up.loop {K:cO} [Up K] {α:Type} (Fs:α→PF) (Hs:α→PH) (Pr:α→Prop) (m:α→Nat) (n:Nat):Up (eA Fs Hs Pr m n K) where
 up {e} {F} {F'} {H} hl hh:=by
  cases e with
  | normal =>
   obtain⟨b,F2,H2,z1,z2,z3,z4,z5⟩:=hh
   obtain⟨F2',y1,y2⟩:=z1.up hl
   exact⟨b,F2',H2,y1,z2,z3,PF.le_trans z4 y2,z5⟩
  | exit id=>exact Up.up (K:=K) (e:=.exit id) hl hh
  | ret=>exact Up.up (K:=K) (e:=.ret) hl hh
theorem brS {H:PH} (hle:F.le F') {x:dV} {v:PV} (h:x.ev F H=some v):x.ev F' H=some v:=by
 cases x with
 | tmp t=>exact hle t v h
 | cell t n =>
  cases n<;>simp only[dV.ev] at h ⊢<;>(cases hx:F t with
   | none=>simp[hx] at h
   | some a=>rw[hle t a hx,← hx]; exact h)
theorem akP {H:PH} (hle:F.le F'):∀ {xs:List dV} {vs:List PV},dV.evs F H xs=some vs→dV.evs F' H xs=some vs
 | [],_,h=>h
 | x::xs,vs,h=>by
  rw[kU] at h ⊢
  cases hx:x.ev F H with
  | none=>simp[hx] at h
  | some v =>
   cases hs:dV.evs F H xs with
   | none=>simp[hs] at h
   | some ws =>
    rw[hx,hs] at h
    rw[brS hle hx,akP hle hs]
    exact h
instance Up.ret (res:List dV) (R:PV→PH→Prop):Up (aT res R) where
 up {e} {F} {F'} {H} hl hh:=by
  cases e with
  | exit id=>exact hh
  | normal=>obtain⟨vs,h1,h2⟩:=hh; exact⟨vs,akP hl h1,h2⟩
  | ret=>obtain⟨vs,h1,h2⟩:=hh; exact⟨vs,akP hl h1,h2⟩
end
def DI (f:aJ) (row:List Int):Int:=match eS (jA f) row 0 with
 | some i=>i
 | none=>-1
theorem boA {C:Ctx} (f:aJ) (row:List Int) (hl:row.length≤16777216):OE.wp C (aT aFY.res (aE (.int .i64 (DI f row)))) (PF.args [.agg f.cells,ints row]) .nil:=by
 unfold DI
 simp only[go_sem,ο,OE,aTD,aTE,aFY]
 refine wp_loop (α:=Nat) (fun k=>(((PF.nil.set 1 (ints row)).set 2 (.bG f.cells)).set 5 (.int .i64 k))) (fun _=>.nil) (fun k=>k≤row.length∧eS (jA f) row 0=eS (jA f) (row.drop k) k) (fun k=>row.length-k) 0 ⟨bJO _,rfl⟩ Lq PH.nil_le ?_
 rintro k ⟨hk,ha⟩
 simp only[go_sem,ο,γ,aTC,aTF,bJC]
 by_cases hlt:k<row.length
 ·have bHF:(k:Int)<(row.length:Nat):=by omega
  have hat:(row.map fun x=>[PV.int .i64 x])[k]?=some [.int .i64 row[k]]:=by simp[hlt]
  rw[bKY hlt,eS] at ha
  generalize row[k]=x at *
  simp only[go_sem,ο,bHF]
  refine bU .nil eD PH.nil_le ?_
  by_cases c1:x < -1
  ·rw[show jA f x=true from by unfold jA; rw[decide_eq_true c1]; rfl,if_pos rfl] at ha
   simp only[go_sem,ο,γ,RI,hat,c1,akS]
   refine aM (.inr rfl) rfl ?_
   rw[aW,ha]
  ·by_cases c2:x≥(f.bGY.length:Nat)
   ·rw[show jA f x=true from by unfold jA; rw[decide_eq_true c2,Bool.or_true],if_pos rfl] at ha
    simp only[go_sem,ο,δ,γ,θ,reduceCtorEq,RI,hat,c1,bJC,c2,akS]
    refine aM (.inr rfl) rfl ?_
    rw[aW,ha]
   ·rw[show jA f x=false from by unfold jA; rw[decide_eq_false c1,decide_eq_false c2]; rfl,if_neg (by decide)] at ha
    simp only[go_sem,ο,δ,γ,θ,reduceCtorEq,RI,hat,c1,bJC,c2,aTG,wZz k]
    exact aK (k+1) ⟨hlt,ha⟩ Om Lq PH.le_refl
 ·have bHF:¬ (k:Int)<(row.length:Nat):=by omega
  have:k=row.length:=by omega
  subst this
  rw[List.drop_length,eS] at ha
  simp only[go_sem,ο,bHF,aTH]
  refine aM (.inr rfl) rfl ?_
  rw[aW,ha]
theorem bmT {r e:Int} (h:0≤e):max 0 (min r e)=min (max r 0) e:=by omega
theorem a0Q (f:aJ) (room:List Int) {k:Nat} (h:k<f.bGY.length):(fA f room).take (k+1)=(fA f room).take k++[qY f room k]:=by
 have hk:k<(fA f room).length:=by rw[yD]; exact h
 rw[bLC hk,aFR]
theorem aBC {xs:List Int} {k:Nat} {d:Int} (h:k<xs.length):(xs.take (k+1)).contains d=((xs.take k).contains d||decide (xs[k]=d)):=by
 rw[Bool.eq_iff_iff]
 rw[bLR,bLC h,bKO,bKP,Bool.or_eq_true,bLR,decide_eq_true_eq]
 exact⟨fun h=>h.imp id Eq.symm,fun h=>h.imp id Eq.symm⟩
theorem bnU {C:Ctx} (l:List Int) (hl:l.length≤1000000000000000) (x:Int):OA.wp C (aT NZ.res (aE (.bool (l.contains x)))) (PF.args [ints l,.int .i64 x]) .nil:=by
 simp only[go_sem,γ,δ,ε,ζ,η,θ,ι,κ,μ,ν,ξ,ο,ρ,σ,τ,υ,reduceIte,reduceCtorEq,OA,aSK,aSL,NZ]
 refine wp_loop (α:=Nat) (fun k=>(((PF.nil.set 0 (ints l)).set 1 (.int .i64 x)).set 5 (.int .i64 k))) (fun _=>.nil) (fun k=>k≤l.length∧(l.take k).contains x=false) (fun k=>l.length-k) 0 ⟨bJO _,by simp⟩ Lq PH.nil_le ?_
 rintro k ⟨hk,hn⟩
 simp only[go_sem,γ,δ,ε,ζ,η,θ,ι,κ,μ,ν,ξ,ο,ρ,σ,τ,υ,reduceIte,reduceCtorEq,aSJ,aSM,bJC]
 by_cases hlt:k<l.length
 ·have bHF:(k:Int)<(l.length:Nat):=by omega
  have hat:(l.map fun n=>[PV.int .i64 n])[k]?=some [.int .i64 l[k]]:=by simp[hlt]
  have hs:=aBC (d:=x) hlt
  by_cases c:l[k]=x
  ·simp only[go_sem,γ,δ,ε,ζ,η,θ,ι,κ,μ,ν,ξ,ο,ρ,σ,τ,υ,reduceIte,reduceCtorEq,bHF,akR,hat,bW c,aSN]
   refine aM (.inr rfl) rfl ?_
   rw[aW]
   exact congrArg PV.bool (bLR.2 (c ▸ bJG hlt)).symm
  ·simp only[go_sem,γ,δ,ε,ζ,η,θ,ι,κ,μ,ν,ξ,ο,ρ,σ,τ,υ,reduceIte,reduceCtorEq,bHF,akR,hat,bF c,aSO,wZz k]
   exact aK (k+1) ⟨hlt,by rw[hs,hn]; simp[c]⟩ Om Lq PH.le_refl
 ·have bHF:¬ (k:Int)<(l.length:Nat):=by omega
  have:k=l.length:=by omega
  subst this
  rw[bKB] at hn
  simp only[go_sem,γ,δ,ε,ζ,η,θ,ι,κ,μ,ν,ξ,ο,ρ,σ,τ,υ,reduceIte,reduceCtorEq,bHF,aSP]
  refine aM (.inr rfl) rfl ?_
  rw[aW,hn]
def MD (l:List Int) (x:Int):Int:=match l.findIdx? (fun y=>decide (y=x)) with
 | some i=>(i:Int)
 | none=>-1
theorem bmE {l:List Int} {x:Int} {k:Nat} (h:k<l.length) (h1:l[k]=x) (h2:(l.take k).contains x=false):MD l x=k:=by
 unfold MD
 have:l.findIdx? (fun y=>decide (y=x))=some k:=by
  rw[List.findIdx?_eq_some_iff_getElem]
  refine⟨h,by simp[h1],fun j hj=>?_⟩
  intro hx
  rw[decide_eq_true_eq] at hx
  have:x∈l.take k:=by
   rw[← hx]
   exact List.mem_take_iff_getElem.2 ⟨j,by omega,rfl⟩
  rw[bLR.2 this] at h2
  cases h2
 rw[this]
theorem anQ {l:List Int} {x:Int} (h:l.contains x=false):MD l x=-1:=by
 unfold MD
 have:l.findIdx? (fun y=>decide (y=x))=none:=by
  rw[List.findIdx?_eq_none_iff]
  intro y hy
  rw[decide_eq_false_iff_not]
  intro e
  subst e
  rw[bLR.2 hy] at h
  cases h
 rw[this]
theorem bmF (l:List Int) (x:Int):decide (MD l x≥0)=l.contains x:=by
 cases hc:l.contains x with
 | false=>rw[anQ hc]; rfl
 | true =>
  unfold MD
  cases hf:l.findIdx? (fun y=>decide (y=x)) with
  | some i=>exact decide_eq_true (Om:(i:Int)≥0)
  | none =>
   rw[List.findIdx?_eq_none_iff] at hf
   have:=hf x (bLR.1 hc)
   simp at this
theorem a7O {C:Ctx} (l:List Int) (hl:l.length≤1000000000000000) (x:Int):AC.wp C (aT NU.res (aE (.int .i64 (MD l x)))) (PF.args [ints l,.int .i64 x]) .nil:=by
 simp only[go_sem,γ,δ,ε,ζ,η,θ,ι,κ,μ,ν,ξ,ο,ρ,σ,τ,υ,reduceIte,reduceCtorEq,AC,apQ,apR,NU,bJC]
 refine wp_loop (α:=Nat) (fun k=>((((PF.nil.set 0 (ints l)).set 1 (.int .i64 x)).set 7 (.int .i64 (l.length:Nat))).set 8 (.int .i64 k))) (fun _=>.nil) (fun k=>k≤l.length∧(l.take k).contains x=false) (fun k=>l.length-k) 0 ⟨bJO _,by simp⟩ Lq PH.nil_le ?_
 rintro k ⟨hk,hn⟩
 simp only[go_sem,γ,δ,ε,ζ,η,θ,ι,κ,μ,ν,ξ,ο,ρ,σ,τ,υ,reduceIte,reduceCtorEq,apP,apS]
 by_cases hlt:k<l.length
 ·have bHF:(k:Int)<(l.length:Nat):=by omega
  have hat:(l.map fun n=>[PV.int .i64 n])[k]?=some [.int .i64 l[k]]:=by simp[hlt]
  have hs:=aBC (d:=x) hlt
  by_cases c:l[k]=x
  ·simp only[go_sem,γ,δ,ε,ζ,η,θ,ι,κ,μ,ν,ξ,ο,ρ,σ,τ,υ,reduceIte,reduceCtorEq,bHF,NV,NW,hat,bW c.symm,apT]
   refine aM (.inr rfl) Ev ?_
   rw[aW,bmE hlt c hn]
  ·simp only[go_sem,γ,δ,ε,ζ,η,θ,ι,κ,μ,ν,ξ,ο,ρ,σ,τ,υ,reduceIte,reduceCtorEq,bHF,NV,NW,hat,bF (fun h:x=l[k]=>c h.symm),apU,wZz k]
   exact aK (k+1) ⟨hlt,by rw[hs,hn]; simp[c]⟩ Om Lq PH.le_refl
 ·have bHF:¬ (k:Int)<(l.length:Nat):=by omega
  have:k=l.length:=by omega
  subst this
  rw[bKB] at hn
  simp only[go_sem,γ,δ,ε,ζ,η,θ,ι,κ,μ,ν,ξ,ο,ρ,σ,τ,υ,reduceIte,reduceCtorEq,bHF,apV]
  refine aM (.inr rfl) Ev ?_
  rw[aW,anQ hn]
theorem aEQ {C:Ctx} (l:List Int) (x:Int) (h:aD C 261 [ints l,.int .i64 x] .nil (aE (.int .i64 (MD l x)))):rV.wp C (aT tE.res (aE (.bool (l.contains x)))) (PF.args [ints l,.int .i64 x]) .nil:=by
 simp only[go_sem,γ,δ,ε,ζ,η,θ,ι,κ,μ,ν,ξ,ο,ρ,σ,τ,υ,reduceIte,reduceCtorEq,rV,NQ,NR,tE]
 refine aA h Ev ?_
 simp only[go_sem,γ,δ,ε,ζ,η,θ,ι,κ,μ,ν,ξ,ο,ρ,σ,τ,υ,reduceIte,reduceCtorEq]
 refine aM (.inr rfl) Ev ?_
 rw[aW,bmF]
structure btK (C:Ctx):Prop where
 has:∀ (l:List Int) (x:Int),l.length≤1000000000000000→aD C 260 [ints l,.int .i64 x] .nil (aE (.bool (l.contains x)))
theorem bfX {C:Ctx} (Lb:btK C) (f:aJ) (hV:VF f) (now:List (List Int)) (hl:iV now) (hlen:now.length=f.bHA.length) (r:Int) (h0:0≤r) (h4:r≤4) (down:List Int) (hd:down.length≤1000000000000000) :
  HA.wp C (aT adB.res (aE (.bool (lL f now r down)))) (PF.args [.agg f.cells,lay now,.int .i64 r,ints down]) .nil:=by
 have bHL:=hl.rows
 simp only[go_sem,γ,δ,ε,ζ,η,θ,ι,κ,μ,ν,ξ,ο,ρ,σ,τ,υ,reduceIte,reduceCtorEq,HA,aET,aEU,adB,bJC]
 refine wp_loop (α:=Nat) (fun v=>((((((PF.nil.set 2 (.int .i64 r)).set 3 (ints down)).set 4 (.bG f.cells)).set 15 (lay now)).set 16 (.int .i64 (now.length:Nat))).set 17 (.int .i64 v))) (fun _=>.nil) (fun v=>v≤now.length∧xP f now r down v=true) (fun v=>now.length-v) 0 ⟨bJO _,rfl⟩ (by (repeat' (first|exact PF.nil_le|refine PF.aI ?_ ?_))<;>first|(simp only[go_sem,γ,δ,ε,ζ,η,θ,ι,κ,μ,ν,ξ,ο,ρ,σ,τ,υ,reduceIte,reduceCtorEq,bJC]<;>rfl)|rfl) PH.nil_le ?_
 rintro v ⟨hv,hok⟩
 simp only[go_sem,γ,δ,ε,ζ,η,θ,ι,κ,μ,ν,ξ,ο,ρ,σ,τ,υ,reduceIte,reduceCtorEq,apK,aEV]
 by_cases hlt:v<now.length
 ·have bHF:(v:Int)<(now.length:Nat):=by omega
  have hat:(now.map fun r=>[ints r])[v]?=some [ints now[v]]:=by simp[hlt]
  have hgd:now.getD v []=now[v]:=by simp[bJX,hlt]
  have hrl:(now[v]).length≤16777216:=by
   have h1:=hl.all
   have h2:(now[v]).length≤now.flatten.length:=(List.sublist_flatten_of_mem (bJG hlt)).length_le
   omega
  obtain⟨hp,he⟩:=rW hV (Om:v<f.bHA.length)
  have hpol:=hV.bHM _ (bJG hp)
  rw[he] at hpol
  have hw:IntKind.i64.wrap ((dM f v).k+r)=(dM f v).k+r:=wrap_i64 Om Om
  have bHU:=aYF f now r down v
  rw[hok,bJM,hgd] at bHU
  have hno:=fun (h:CQ f r down v now[v]=true)=>bdV (f:=f) (now:=now) (reserve:=r) (down:=down) hlt (by rw[hgd]; exact h)
  generalize now[v]=row at *
  simp only[go_sem,γ,δ,ε,ζ,η,θ,ι,κ,μ,ν,ξ,ο,ρ,σ,τ,υ,reduceIte,reduceCtorEq,bHF,aEW,hat,aEX,aEY,bJC]
  refine wp_loop (α:=Nat) (fun k=>((((((((((((PF.nil.set 2 (.int .i64 r)).set 3 (ints down)).set 4 (.bG f.cells)).set 15 (lay now)).set 16 (.int .i64 (now.length:Nat))).set 17 (.int .i64 v)).set 9 (.int .i64 v)).set 11 (.bool (FU down (row.take k)))).set 12 (.int .i64 (kD down (row.take k):Nat))).set 22 (ints row)).set 23 (.int .i64 (row.length:Nat))).set 24 (.int .i64 k))) (fun _=>.nil) (fun k=>k≤row.length) (fun k=>row.length-k) 0 (bJO _) (by (repeat' (first|exact PF.nil_le|refine PF.aI ?_ ?_))<;>first|(simp only[go_sem,γ,δ,ε,ζ,η,θ,ι,κ,μ,ν,ξ,ο,ρ,σ,τ,υ,reduceIte,reduceCtorEq,List.take_zero,bJC,FU,kD,List.any_nil,List.countP_nil]<;>rfl)|rfl) PH.nil_le ?_
  intro k hk
  have hol:kD down (row.take k)≤row.length:=Nat.le_trans List.countP_le_length (by rw[bJU]; omega)
  simp only[go_sem,γ,δ,ε,ζ,η,θ,ι,κ,μ,ν,ξ,ο,ρ,σ,τ,υ,reduceIte,reduceCtorEq,apJ,aEZ]
  by_cases hkl:k<row.length
  ·have hkl':(k:Int)<(row.length:Nat):=by omega
   have hra:(row.map fun n=>[PV.int .i64 n])[k]?=some [.int .i64 row[k]]:=by simp[hkl]
   have hs1:=a5R (down:=down) hkl
   have hs2:=aMC (down:=down) hkl
   by_cases c:row[k]<0
   ·have d1:kV down row[k]=false:=by unfold kV; rw[decide_eq_false Om]; rfl
    have d2:uC down row[k]=false:=by unfold uC; rw[decide_eq_false Om]; rfl
    rw[d1,Bool.or_false] at hs1
    rw[d2,if_neg (by simp),bKU] at hs2
    simp only[go_sem,γ,δ,ε,ζ,η,θ,ι,κ,μ,ν,ξ,ο,ρ,σ,τ,υ,reduceIte,reduceCtorEq,hkl',WY,hra,WZ,c,yB,wZz k]
    exact aK (k+1) hkl Om (by (repeat' (first|exact PF.nil_le|refine PF.aI ?_ ?_))<;>first|(simp only[go_sem,γ,δ,ε,ζ,η,θ,ι,κ,μ,ν,ξ,ο,ρ,σ,τ,υ,reduceIte,reduceCtorEq,hs1,hs2]<;>rfl)|rfl) PH.le_refl
   ·simp only[go_sem,γ,δ,ε,ζ,η,θ,ι,κ,μ,ν,ξ,ο,ρ,σ,τ,υ,reduceIte,reduceCtorEq,hkl',WY,hra,WZ,c,aFA]
    refine aA (Lb.has down row[k] hd) Ev ?_
    cases hc:down.contains row[k] with
    | true =>
     have d1:kV down row[k]=true:=by unfold kV; rw[decide_eq_true Om,hc]; rfl
     have d2:uC down row[k]=false:=by unfold uC; rw[hc]; simp
     rw[d1,Bool.or_true] at hs1
     rw[d2,if_neg (by simp),bKU] at hs2
     simp only[go_sem,γ,δ,ε,ζ,η,θ,ι,κ,μ,ν,ξ,ο,ρ,σ,τ,υ,reduceIte,reduceCtorEq,apL,yB,wZz k]
     exact aK (k+1) hkl Om (by (repeat' (first|exact PF.nil_le|refine PF.aI ?_ ?_))<;>first|(simp only[go_sem,γ,δ,ε,ζ,η,θ,ι,κ,μ,ν,ξ,ο,ρ,σ,τ,υ,reduceIte,reduceCtorEq,hs1,hs2]<;>rfl)|rfl) PH.le_refl
    | false =>
     have d1:kV down row[k]=false:=by unfold kV; rw[hc]; simp
     have d2:uC down row[k]=true:=by unfold uC; rw[decide_eq_true Om,hc]; rfl
     rw[d1,Bool.or_false] at hs1
     rw[d2,if_pos rfl] at hs2
     simp only[go_sem,γ,δ,ε,ζ,η,θ,ι,κ,μ,ν,ξ,ο,ρ,σ,τ,υ,reduceIte,reduceCtorEq,apM,dE (Om:kD down (row.take k)<9223372036854775807),yB,wZz k]
     exact aK (k+1) hkl Om (by (repeat' (first|exact PF.nil_le|refine PF.aI ?_ ?_))<;>first|(simp only[go_sem,γ,δ,ε,ζ,η,θ,ι,κ,μ,ν,ξ,ο,ρ,σ,τ,υ,reduceIte,reduceCtorEq,hs1,hs2]<;>rfl)|rfl) PH.le_refl
  ·have hkl':¬ (k:Int)<(row.length:Nat):=by omega
   have:k=row.length:=by omega
   subst this
   rw[bKB] at hol
   simp only[go_sem,γ,δ,ε,ζ,η,θ,ι,κ,μ,ν,ξ,ο,ρ,σ,τ,υ,reduceIte,reduceCtorEq,hkl',bKB]
   refine bU .nil eD PH.nil_le ?_
   have hsh:CQ f r down v row=(FU down row&&decide (((kD down row:Nat):Int)<(dM f v).k+r)):=rfl
   cases hh:FU down row with
   | false =>
    rw[hh,bJI] at hsh
    rw[hsh] at bHU
    simp only[go_sem,γ,δ,ε,ζ,η,θ,ι,κ,μ,ν,ξ,ο,ρ,σ,τ,υ,reduceIte,reduceCtorEq,NS,hh,NT,wZz v]
    exact aK (v+1) ⟨hlt,bHU⟩ Om Lq PH.nil_le
   | true =>
    rw[hh,bJM] at hsh
    simp only[go_sem,γ,δ,ε,ζ,η,θ,ι,κ,μ,ν,ξ,ο,ρ,σ,τ,υ,reduceIte,reduceCtorEq,NS,hh,uQ (Om:v<f.bHA.length),hV.adC (Om:v<f.bHA.length),oP hp,he,hw]
    by_cases c:((kD down row:Nat):Int)<(dM f v).k+r
    ·rw[decide_eq_true c] at hsh
     simp only[go_sem,γ,δ,ε,ζ,η,θ,ι,κ,μ,ν,ξ,ο,ρ,σ,τ,υ,reduceIte,reduceCtorEq,c,apN]
     refine aM (.inr rfl) Ev ?_
     rw[aW]
     exact congrArg PV.bool (hno hsh).symm
    ·rw[decide_eq_false c] at hsh
     rw[hsh] at bHU
     simp only[go_sem,γ,δ,ε,ζ,η,θ,ι,κ,μ,ν,ξ,ο,ρ,σ,τ,υ,reduceIte,reduceCtorEq,c,NT,wZz v]
     exact aK (v+1) ⟨hlt,bHU⟩ Om Lq PH.nil_le
 ·have bHF:¬ (v:Int)<(now.length:Nat):=by omega
  have:v=now.length:=by omega
  subst this
  simp only[go_sem,γ,δ,ε,ζ,η,θ,ι,κ,μ,ν,ξ,ο,ρ,σ,τ,υ,reduceIte,reduceCtorEq,bHF,apO]
  refine aM (.inr rfl) Ev ?_
  rw[aW]
  exact congrArg PV.bool hok.symm
def atV:Rg:=[iA 1 (.box true (Tm 0)),iT 2 false]
def atW:Rg:=[iO 6 3 1,iK 7 52 6,iM 5 7,iE 8 5 0,iE 9 5 1,iA 3 (.alloc [(.bool false),.aB,.aB]),iS 3 3 8,iM 4 9]
def yS:Rg:=[iM 10 4,iC 11 .eql 10 0,iM 12 11,gF 13 0 3 12 true,gL 14 13 12 true,iG 15 (.un .not (Tm 14)) 12 true,iP 16 12 15,iM 17 16,gF 18 1 3 17 true,gL 19 18 17 true,gN 20 19 17 true,gC 21 .leq 20 1 17 true,iP 22 17 21,iM 23 22,gF 24 2 3 23 true,gL 25 24 23 true,gN 26 25 23 true,gC 27 .leq 26 1 23 true,iP 28 23 27,iM 2 28]
def BM:aC:=(sq atV (sq atW (sq yS .ret)))
def bcM:List Nat:=[1]
def QI:aV:=⟨1,29,BM,[.tmp 2]⟩
def ahH:Rg:=[iT 4 false]
def ahI:Rg:=[iM 6 0,iN 7 6,iM 8 1,iB 9 .neq 7 8]
def ahJ:Rg:=[iT 4 false]
def ahK:Rg:=[iI 5 0]
def ahL:Rg:=[iM 10 5,iM 11 1,iB 12 .lss 10 11]
def ahM:Rg:=[iM 15 0,iM 16 5,iX 17 3 15 16,iO 18 3 17,iK 19 74 18,iA 20 (.un .not (Tm 19))]
def ahN:Rg:=[iT 4 false]
def ahO:Rg:=[iM 13 5,iC 14 .add 13 1,iM 5 14]
def ahG:aC:=(.seq (sq ahL (.cond (Tm 12) .skip (.exit 0))) (.seq (.block 1 (sq ahM (.cond (Tm 20) (sq ahN .ret) .skip))) (.region ahO)))
def ahP:Rg:=[iT 4 true]
def xJ:aC:=(sq ahH (.seq (sq ahI (.cond (Tm 9) (sq ahJ .ret) .skip)) (.seq (sq ahK (.block 0 (.loop ahG))) (sq ahP .ret))))
def a3X:List Nat:=[]
def DD:aV:=⟨2,21,xJ,[.tmp 4]⟩
def aWH:Rg:=[iA 1 (.box true (Tm 0)),iT 2 false]
def aWI:Rg:=[iF 12 1 1,iL 13 12,iN 14 13,iM 3 14]
def aWJ:Rg:=[iM 15 3,iC 16 .lss 15 1,iM 17 16,gM 18 3 17 false,gC 19 .gtr 18 4 17 false,iQ 20 17 19,iM 21 20,gF 22 1 1 21 false,gL 23 22 21 false,gM 24 3 21 false,gK2 25 75 23 24 21 false,iG 26 (.un .not (Tm 25)) 21 false,iQ 27 21 26,iM 28 27,gF 29 3 1 28 false,gL 30 29 28 false,gM 31 3 28 false,gK2 32 75 30 31 28 false,iG 33 (.un .not (Tm 32)) 28 false,iQ 34 28 33,iM 35 34,gF 36 2 1 35 false,gL 37 36 35 false,gN 38 37 35 false,gM 39 3 35 false,gB 40 .neq 38 39 35 false,iQ 41 35 40]
def vO:Rg:=[iT 2 false]
def aWK:Rg:=[iI 4 0]
def aWL:Rg:=[iM 42 4,iM 43 3,iB 44 .lss 42 43]
def aWM:Rg:=[iF 47 2 1,iL 48 47,iM 49 4,iX 50 1 48 49,iL 51 50,iM 52 3,iK2 53 75 51 52,iA 54 (.un .not (Tm 53)),iM 55 54,gF 56 2 1 55 false,gL 57 56 55 false,gM 58 4 55 false,iG 59 (.bHT 1 (Tm 57) (Tm 58)) 55 false,gL 60 59 55 false,gM 61 4 55 false,iG 62 (.bHT 3 (Tm 60) (Tm 61)) 55 false,gO 63 3 62 55 false,gK 64 54 63 55 false,gC 65 .neq 64 0 55 false,iQ 66 55 65]
def alJ:Rg:=[iT 2 false]
def aWN:Rg:=[iM 45 4,iC 46 .add 45 1,iM 4 46]
def aWG:aC:=(.seq (sq aWL (.cond (Tm 44) .skip (.exit 0))) (.seq (.block 1 (sq aWM (.cond (Tm 66) (sq alJ .ret) .skip))) (.region aWN)))
def aKJ:Rg:=[iF 68 1 1,iL 69 68,iK 70 55 69,iM 67 70,iE 71 67 0,iE 72 67 1,iA 5 (.alloc [(.bool false),.aB,.aB]),iS 3 5 71,iM 6 72]
def XT:Rd:=[(iM 73 6,false),(iC 74 .neq 73 0,false),(iM 75 74,false),(gO 76 3 5 75 false,true),(iG 77 (.call 47 [(Ci 1)]) 75 false,true),(gK2 78 53 76 77 75 false,true),(iG 79 (.un .not (Tm 78)) 75 false,false),(iQ 80 75 79,false)]
def XU:Rg:=[iT 2 false]
def aKK:Rg:=[iM 81 3,iA 82 (.bHI 1 1 [(.bool false)] (Tm 81) (Tm 81)),iM 7 82]
def aKL:Rg:=[iI 8 0]
def aKM:Rg:=[iM 83 8,iM 84 3,iB 85 .lss 83 84]
def aKN:Rg:=[iI 9 0]
def aKO:Rg:=[iM 88 9,iM 89 3,iB 90 .lss 88 89]
def XV:Rg:=[iM 93 7,iM 94 9,iM 95 7,iM 96 9,iX 97 1 95 96,iL 98 97,iM 99 98,gF 100 3 1 99 false,gL 101 100 99 false,gM 102 9 99 false,iG 103 (.bHT 3 (Tm 101) (Tm 102)) 99 false,gO 104 3 103 99 false,gK 105 54 104 99 false,gC 106 .gtr 105 0 99 false,iQ 107 99 106,iX 108 1 93 94,iS 1 108 107]
def XW:Rg:=[iI 10 0]
def aKP:Rg:=[iM 109 10,iM 110 3,iB 111 .lss 109 110]
def XY:Rg:=[iM 114 7,iM 115 9,iM 116 7,iM 117 9,iX 118 1 116 117,iL 119 118,iM 120 119,gF 121 2 1 120 false,gL 122 121 120 false,gM 123 9 120 false,iG 124 (.bHT 1 (Tm 122) (Tm 123)) 120 false,gL 125 124 120 false,gM 126 10 120 false,iG 127 (.bHT 3 (Tm 125) (Tm 126)) 120 false,gO 128 3 127 120 false,gK 129 54 128 120 false,gC 130 .gtr 129 0 120 false,gM 131 130 120 false,gM 132 7 131 true,gM 133 10 131 true,iG 134 (.bHT 1 (Tm 132) (Tm 133)) 131 true,gL 135 134 131 true,iG 136 (.pick (Tm 131) (Tm 135) (.const (.bool false))) 120 false,iQ 137 120 136,iX 138 1 114 115,iS 1 138 137]
def IX:Rg:=[iM 112 10,iC 113 .add 112 1,iM 10 113]
def IW:aC:=(.seq (sq aKP (.cond (Tm 111) .skip (.exit 6))) (.seq (.block 7 (.region XY)) (.region IX)))
def XZ:Rg:=[iM 91 9,iC 92 .add 91 1,iM 9 92]
def XQ:aC:=(.seq (sq aKO (.cond (Tm 90) .skip (.exit 4))) (.seq (.block 5 (sq XV (sq XW (.block 6 (.loop IW))))) (.region XZ)))
def aKQ:Rg:=[iM 86 8,iC 87 .add 86 1,iM 8 87]
def XR:aC:=(.seq (sq aKM (.cond (Tm 85) .skip (.exit 2))) (.seq (.block 3 (sq aKN (.block 4 (.loop XQ)))) (.region aKQ)))
def aKR:Rg:=[iI 11 0]
def aKS:Rg:=[iM 139 11,iM 140 3,iB 141 .lss 139 140]
def YA:Rg:=[iM 144 7,iM 145 11,iX 146 1 144 145,iL 147 146,iA 148 (.un .not (Tm 147))]
def aKT:Rg:=[iT 2 false]
def aKU:Rg:=[iM 142 11,iC 143 .add 142 1,iM 11 143]
def XS:aC:=(.seq (sq aKS (.cond (Tm 141) .skip (.exit 8))) (.seq (.block 9 (sq YA (.cond (Tm 148) (sq aKT .ret) .skip))) (.region aKU)))
def YB:Rg:=[iT 2 true]
def QF:aC:=(sq aWH (sq aWI (.seq (sq aWJ (.cond (Tm 41) (sq vO .ret) .skip)) (.seq (sq aWK (.block 0 (.loop aWG))) (.seq (sq aKJ (dq XT (.cond (Tm 80) (sq XU .ret) .skip))) (sq aKK (.seq (sq aKL (.block 2 (.loop XR))) (.seq (sq aKR (.block 8 (.loop XS))) (sq YB .ret)))))))))
def bpM:List Nat:=[1]
def aKI:aV:=⟨1,149,QF,[.tmp 2]⟩
def aWP:Rg:=[iT 4 false]
def aWQ:Rg:=[iM 6 0,iM 7 1,iA 8 (.bHZ true (Tm 7) (Ci 1)),iK2 9 75 6 8,iA 10 (.un .not (Tm 9))]
def aWR:Rg:=[iT 4 false]
def aWS:Rg:=[iI 5 0]
def aWT:Rg:=[iM 11 5,iM 12 0,iN 13 12,iB 14 .lss 11 13]
def aWU:Rg:=[iM 17 0,iM 18 5,iX 19 3 17 18,iO 20 3 19,iK 21 54 20,iC 22 .eql 21 0]
def aWV:Rg:=[iT 4 false]
def aWW:Rg:=[iM 15 5,iC 16 .add 15 1,iM 5 16]
def aWO:aC:=(.seq (sq aWT (.cond (Tm 14) .skip (.exit 0))) (.seq (.block 1 (sq aWU (.cond (Tm 22) (sq aWV .ret) .skip))) (.region aWW)))
def aWX:Rg:=[iT 4 true]
def QG:aC:=(sq aWP (.seq (sq aWQ (.cond (Tm 10) (sq aWR .ret) .skip)) (.seq (sq aWS (.block 0 (.loop aWO))) (sq aWX .ret))))
def bpO:List Nat:=[]
def aKV:aV:=⟨2,23,QG,[.tmp 4]⟩
def JQ:Rg:=[iT 6 false]
def JR:Rg:=[iM 7 0,iM 8 1,iB 9 .geq 7 8,iM 10 9,gM 11 0 10 true,gM 12 2 10 true,gB 13 .leq 11 12 10 true,iP 14 10 13,iM 6 14]
def rH:aC:=(sq JQ (sq JR .ret))
def a3Z:List Nat:=[]
def vP:aV:=⟨3,15,rH,[.tmp 6]⟩
def atT:Rg:=[iT 12 false]
def atU:Rg:=[iM 13 0,iC 14 .leq 13 4,iM 15 14,gM 16 1 15 true,gC 17 .leq 16 4 15 true,iP 18 15 17,iM 19 18,gM 20 2 19 true,gC 21 .leq 20 40 19 true,iP 22 19 21,iM 23 22,gM 24 3 23 true,gC 25 .leq 24 24 23 true,iP 26 23 25,iM 27 26,gM 28 4 27 true,gC 29 .leq 28 4 27 true,iP 30 27 29,iM 31 30,gM 32 5 31 true,gC 33 .leq 32 12 31 true,iP 34 31 33,iM 12 34]
def BL:aC:=(sq atT (sq atU .ret))
def bcK:List Nat:=[]
def QH:aV:=⟨6,35,BL,[.tmp 12]⟩
def UJ:Rg:=[iA 7 (.box true (Tm 3)),iT 8 false]
def UK:Rg:=[iM 10 0,iM 11 1,iK2 12 61 10 11,iA 13 (.un .not (Tm 12)),iM 14 13,gM 15 2 14 false,gM 16 0 14 false,gM 17 0 14 false,gM 18 1 14 false,gB 19 .add 17 18 14 false,iG 20 (.call 76 [(Tm 15),(Tm 16),(Tm 19)]) 14 false,iG 21 (.un .not (Tm 20)) 14 false,iQ 22 14 21,iM 23 22,iG 24 (.idxA 5 1 (Tm 7) (Ci 0)) 23 false,gL 25 24 23 false,gC 26 .neq 25 0 23 false,iQ 27 23 26]
def sP:Rg:=[iT 8 false]
def UL:Rg:=[iI 9 1]
def UM:Rg:=[iM 28 9,iC 29 .lss 28 5]
def BK:Rg:=[iM 32 9,iA 33 (.idxA 5 1 (Tm 7) (Tm 32)),iL 34 33,iA 35 (.call 76 [(Tm 34),(Ci 0),(Ci 8)]),iA 36 (.un .not (Tm 35))]
def UN:Rg:=[iT 8 false]
def UO:Rg:=[iM 30 9,iC 31 .add 30 1,iM 9 31]
def UI:aC:=(.seq (sq UM (.cond (Tm 29) .skip (.exit 0))) (.seq (.block 1 (sq BK (.cond (Tm 36) (sq UN .ret) .skip))) (.region UO)))
def UP:Rg:=[iT 8 true]
def tR:aC:=(sq UJ (.seq (sq UK (.cond (Tm 27) (sq sP .ret) .skip)) (.seq (sq UL (.block 0 (.loop UI))) (sq UP .ret))))
def aMV:List Nat:=[7]
def xI:aV:=⟨4,37,tR,[.tmp 8]⟩
def aWE:Rg:=[iA 6 (.box true (Tm 2)),iA 7 (.box true (Tm 3)),iT 8 false]
def aWF:Rd:=[(iM 9 1,false),(iM 10 0,false),(iK2 11 66 9 10,true),(iM 12 11,false),(gO 13 3 6 12 true,false),(gK 14 74 13 12 true,true),(iP 15 12 14,false),(iM 16 15,false),(iG 17 (.call 47 [(Ci 1)]) 16 true,true),(gO 18 3 6 16 true,true),(gK2 19 49 17 18 16 true,true),(iG 20 (.un .not (Tm 19)) 16 true,false),(iP 21 16 20,false),(iM 22 21,false),(gO 23 3 7 22 true,false),(gK 24 74 23 22 true,true),(iP 25 22 24,false),(iM 8 25,false)]
def QB:aC:=(sq aWE (dq aWF .ret))
def bpK:List Nat:=[6,7]
def aKG:aV:=⟨4,26,QB,[.tmp 8]⟩
def atN:Rg:=[iI 4 0]
def atO:Rg:=[iI 5 0]
def atP:Rg:=[iM 6 5,iM 7 0,iN 8 7,iB 9 .lss 6 8]
def QE:Rg:=[iM 12 0,iM 13 5,iX 14 1 12 13,iL 15 14,iM 16 1,iB 17 .eql 15 16]
def atQ:Rg:=[iM 18 5,iM 4 18]
def atR:Rg:=[iM 10 5,iC 11 .add 10 1,iM 5 11]
def atM:aC:=(.seq (sq atP (.cond (Tm 9) .skip (.exit 0))) (.seq (.block 1 (sq QE (.cond (Tm 17) (sq atQ .ret) .skip))) (.region atR)))
def atS:Rg:=[iI 4 (-1)]
def BJ:aC:=(sq atN (.seq (sq atO (.block 0 (.loop atM))) (sq atS .ret)))
def bcH:List Nat:=[]
def QD:aV:=⟨2,19,BJ,[.tmp 4]⟩
def atX:Rg:=[iA 1 (.box true (Tm 0)),iT 2 false]
def atY:Rg:=[iF 22 0 1,iL 23 22,iA 24 (.call 76 [(Tm 23),(Ci 1),(Ci 4)]),iA 25 (.un .not (Tm 24)),iM 26 25,gF 27 1 1 26 false,gL 28 27 26 false,gN 29 28 26 false,gF 30 2 1 26 false,gL 31 30 26 false,gN 32 31 26 false,gF 33 3 1 26 false,gL 34 33 26 false,gN 35 34 26 false,gF 36 4 1 26 false,gL 37 36 26 false,gN 38 37 26 false,gF 39 5 1 26 false,gL 40 39 26 false,gN 41 40 26 false,gF 42 6 1 26 false,gL 43 42 26 false,gN 44 43 26 false,iG 45 (.call 73 [(Tm 29),(Tm 32),(Tm 35),(Tm 38),(Tm 41),(Tm 44)]) 26 false,iG 46 (.un .not (Tm 45)) 26 false,iQ 47 26 46,iM 48 47,gF 49 3 1 48 false,gL 50 49 48 false,gN 51 50 48 false,gC 52 .eql 51 0 48 false,iQ 53 48 52]
def yT:Rg:=[iT 2 false]
def atZ:Rg:=[iZ 3,iZ 4,iZ 5,iZ 6,iZ 7]
def auA:Rg:=[iT 8 true]
def auB:Rg:=[iI 9 0]
def auC:Rg:=[iM 54 9,iF 55 1 1,iL 56 55,iN 57 56,iB 58 .lss 54 57,iM 59 58,gM 60 8 59 true,iP 61 59 60]
def auD:Rg:=[iM 65 3,iF 66 1 1,iL 67 66,iM 68 9,iX 69 4 67 68,iF 70 0 69,iL 71 70,iK2 72 70 65 71,iM 64 72,iE 73 64 0,iE 74 64 1,iM 3 73,iM 8 74]
def QK:Rg:=[iM 75 8,iM 76 75,gF 77 1 1 76 true,gL 78 77 76 true,gM 79 9 76 true,iG 80 (.bHT 4 (Tm 78) (Tm 79)) 76 true,gO 81 4 80 76 true,gK 82 68 81 76 true,iP 83 76 82,iM 8 83]
def QL:Rg:=[iM 62 9,iC 63 .add 62 1,iM 9 63]
def IY:aC:=(.seq (sq auC (.cond (Tm 61) .skip (.exit 0))) (.seq (.block 1 (sq auD (.region QK))) (.region QL)))
def ahQ:Rg:=[iI 10 0]
def ahR:Rg:=[iM 84 10,iF 85 2 1,iL 86 85,iN 87 86,iB 88 .lss 84 87,iM 89 88,gM 90 8 89 true,iP 91 89 90]
def ahS:Rg:=[iF 94 2 1,iL 95 94,iM 96 10,iX 97 4 95 96,iO 98 4 97,iA 11 (.alloc [(.str []),(.int .i64 0),(.int .i64 0),(.int .i64 0)]),iS 4 11 98]
def ahT:Rg:=[iM 100 4,iF 101 0 11,iL 102 101,iK2 103 70 100 102,iM 99 103,iE 104 99 0,iE 105 99 1,iM 4 104,iM 8 105]
def JB:Rg:=[iM 106 8,iM 107 106,gF 108 1 11 107 true,gL 109 108 107 true,iG 110 (.call 76 [(Tm 109),(Ci 1),(Ci 16)]) 107 true,iP 111 107 110,iM 112 111,gF 113 2 11 112 true,gL 114 113 112 true,iG 115 (.call 76 [(Tm 114),(Ci 1),(Ci 64)]) 112 true,iP 116 112 115,iM 117 116,gF 118 3 11 117 true,gL 119 118 117 true,gF 120 1 1 117 true,gL 121 120 117 true,gN 122 121 117 true,gC 123 .sub 122 1 117 true,iG 124 (.call 76 [(Tm 119),(Ci 0),(Tm 123)]) 117 true,iP 125 117 124,iM 8 125]
def rE:Rg:=[iM 92 10,iC 93 .add 92 1,iM 10 93]
def IZ:aC:=(.seq (sq ahR (.cond (Tm 91) .skip (.exit 2))) (.seq (.block 3 (sq ahS (sq ahT (.region JB)))) (.region rE)))
def ahU:Rg:=[iF 126 3 1,iL 127 126,iA 128 (.bHT 7 (Tm 127) (Ci 0)),iO 129 7 128,iA 12 (.alloc [(.str []),(.int .i64 0),(.int .i64 0),(.int .i64 0),(.bool false),.aB,.aB]),iS 7 12 129]
def JC:Rg:=[iM 130 8,iM 131 130,gF 132 0 12 131 true,gL 133 132 131 true,iG 134 (.bin .eql (Tm 133) (.const (.str []))) 131 true,iP 135 131 134,iM 136 135,gF 137 1 12 136 true,gL 138 137 136 true,gC 139 .eql 138 0 136 true,iP 140 136 139,iM 141 140,gF 142 2 12 141 true,gL 143 142 141 true,gC 144 .eql 143 (-1) 141 true,iP 145 141 144,iM 146 145,gF 147 3 12 146 true,gL 148 147 146 true,gC 149 .eql 148 0 146 true,iP 150 146 149,iM 151 150,gF 152 4 12 151 true,gO 153 3 152 151 true,gK 154 56 153 151 true,iP 155 151 154,iM 156 155,gF 157 4 12 156 true,gO 158 3 157 156 true,gK 159 54 158 156 true,gC 160 .eql 159 0 156 true,iP 161 156 160,iM 8 161]
def JD:Rg:=[iI 13 1]
def ahV:Rg:=[iM 162 13,iF 163 3 1,iL 164 163,iN 165 164,iB 166 .lss 162 165,iM 167 166,gM 168 8 167 true,iP 169 167 168]
def ahW:Rg:=[iF 172 3 1,iL 173 172,iM 174 13,iX 175 7 173 174,iO 176 7 175,iA 14 (.alloc [(.str []),(.int .i64 0),(.int .i64 0),(.int .i64 0),(.bool false),.aB,.aB]),iS 7 14 176]
def ahX:Rg:=[iM 178 5,iF 179 0 14,iL 180 179,iK2 181 70 178 180,iM 177 181,iE 182 177 0,iE 183 177 1,iM 5 182,iM 8 183]
def JE:Rd:=[(iM 184 8,false),(iM 185 184,false),(gF 186 1 14 185 true,false),(gL 187 186 185 true,false),(iG 188 (.call 76 [(Tm 187),(Ci 1),(Ci 4)]) 185 true,true),(iP 189 185 188,false),(iM 190 189,false),(gF 191 2 14 190 true,false),(gL 192 191 190 true,false),(gM 193 13 190 true,false),(gC 194 .sub 193 1 190 true,false),(iG 195 (.call 76 [(Tm 192),(Ci 0),(Tm 194)]) 190 true,true),(iP 196 190 195,false),(iM 197 196,false),(gF 198 3 1 197 true,false),(gL 199 198 197 true,false),(gF 200 2 14 197 true,false),(gL 201 200 197 true,false),(iG 202 (.bHT 7 (Tm 199) (Tm 201)) 197 true,false),(gF 203 1 202 197 true,false),(gL 204 203 197 true,false),(gF 205 1 14 197 true,false),(gL 206 205 197 true,false),(gC 207 .sub 206 1 197 true,false),(gB 208 .eql 204 207 197 true,false),(iP 209 197 208,false),(iM 210 209,false),(gF 211 3 14 210 true,false),(gL 212 211 210 true,false),(iG 213 (.call 76 [(Tm 212),(Ci 1),(Ci 64)]) 210 true,true),(iP 214 210 213,false),(iM 215 214,false),(gF 216 4 14 215 true,false),(gO 217 3 216 215 true,false),(gK 218 74 217 215 true,true),(iP 219 215 218,false),(iM 8 219,false)]
def lT:Rg:=[iM 170 13,iC 171 .add 170 1,iM 13 171]
def uT:aC:=(.seq (sq ahV (.cond (Tm 169) .skip (.exit 4))) (.seq (.block 5 (sq ahW (sq ahX (.draw JE)))) (.region lT)))
def JF:Rg:=[iI 15 0]
def ahY:Rg:=[iM 220 15,iF 221 4 1,iL 222 221,iN 223 222,iB 224 .lss 220 223,iM 225 224,gM 226 8 225 true,iP 227 225 226]
def ahZ:Rg:=[iF 230 4 1,iL 231 230,iM 232 15,iX 233 3 231 232,iO 234 3 233,iA 16 (.alloc [(.str []),(.int .i64 0),(.int .i64 0)]),iS 3 16 234]
def aiA:Rg:=[iM 236 5,iF 237 0 16,iL 238 237,iK2 239 70 236 238,iM 235 239,iE 240 235 0,iE 241 235 1,iM 5 240,iM 8 241]
def JG:Rg:=[iM 242 8,iM 243 242,gF 244 1 16 243 true,gL 245 244 243 true,gF 246 2 1 243 true,gL 247 246 243 true,gN 248 247 243 true,gC 249 .sub 248 1 243 true,iG 250 (.call 76 [(Tm 245),(Ci 0),(Tm 249)]) 243 true,iP 251 243 250,iM 252 251,gF 253 2 16 252 true,gL 254 253 252 true,gF 255 3 1 252 true,gL 256 255 252 true,gN 257 256 252 true,gC 258 .sub 257 1 252 true,iG 259 (.call 76 [(Tm 254),(Ci 0),(Tm 258)]) 252 true,iP 260 252 259,iM 261 260,gF 262 3 1 261 true,gL 263 262 261 true,gF 264 2 16 261 true,gL 265 264 261 true,iG 266 (.bHT 7 (Tm 263) (Tm 265)) 261 true,gF 267 1 266 261 true,gL 268 267 261 true,gC 269 .eql 268 4 261 true,iP 270 261 269,iM 8 270]
def rF:Rg:=[iM 228 15,iC 229 .add 228 1,iM 15 229]
def uU:aC:=(.seq (sq ahY (.cond (Tm 227) .skip (.exit 6))) (.seq (.block 7 (sq ahZ (sq aiA (.region JG)))) (.region rF)))
def JH:Rg:=[iI 17 0]
def aiB:Rg:=[iM 271 17,iF 272 5 1,iL 273 272,iN 274 273,iB 275 .lss 271 274,iM 276 275,gM 277 8 276 true,iP 278 276 277]
def aiC:Rg:=[iF 281 5 1,iL 282 281,iM 283 17,iX 284 17 282 283,iO 285 17 284,iA 18 (.alloc [(.str []),(.int .i64 0),(.int .i64 0),(.int .i64 0),(.int .i64 0),(.int .i64 0),(.int .i64 0),(.int .i64 0),(.int .i64 0),.aB,.aB,(.bool false),.aB,.aB,(.bool false),.aB,.aB]),iS 17 18 285]
def aiD:Rg:=[iM 287 6,iF 288 0 18,iL 289 288,iK2 290 70 287 289,iM 286 290,iE 291 286 0,iE 292 286 1,iM 6 291,iM 8 292]
def JI:Rg:=[iM 293 8,iM 294 293,gF 295 1 18 294 true,gL 296 295 294 true,gF 297 2 18 294 true,gL 298 297 294 true,gF 299 3 18 294 true,gL 300 299 294 true,gF 301 4 18 294 true,gO 302 5 301 294 true,iG 303 (.call 72 [(Tm 296),(Tm 298),(Tm 300),(Tm 302)]) 294 true,iP 304 294 303,iM 305 304,gF 306 2 18 305 true,gL 307 306 305 true,gF 308 10 18 305 true,gL 309 308 305 true,gF 310 11 18 305 true,gO 311 3 310 305 true,gF 312 14 18 305 true,gO 313 3 312 305 true,iG 314 (.call 69 [(Tm 307),(Tm 309),(Tm 311),(Tm 313)]) 305 true,iP 315 305 314,iM 316 315,gF 317 9 18 316 true,gL 318 317 316 true,gN 319 318 316 true,gC 320 .gtr 319 0 316 true,iP 321 316 320,iM 8 321]
def rG:Rg:=[iI 19 0]
def aiE:Rg:=[iM 322 19,iF 323 9 18,iL 324 323,iN 325 324,iB 326 .lss 322 325,iM 327 326,gM 328 8 327 true,iP 329 327 328]
def aiF:Rd:=[(iF 332 9 18,false),(iL 333 332,false),(iM 334 19,false),(iX 335 1 333 334,false),(iL 336 335,false),(iF 337 2 1,false),(iL 338 337,false),(iN 339 338,false),(iC 340 .sub 339 1,false),(iA 341 (.call 76 [(Tm 336),(Ci 0),(Tm 340)]),true),(iM 8 341,false)]
def aiG:Rg:=[iI 20 0]
def aiH:Rg:=[iM 342 20,iM 343 19,iB 344 .lss 342 343]
def JJ:Rd:=[(iM 347 8,false),(iM 348 347,false),(gF 349 9 18 348 true,false),(gL 350 349 348 true,false),(gM 351 20 348 true,false),(iG 352 (.bHT 1 (Tm 350) (Tm 351)) 348 true,false),(gL 353 352 348 true,false),(gF 354 9 18 348 true,false),(gL 355 354 348 true,false),(gM 356 19 348 true,false),(iG 357 (.bHT 1 (Tm 355) (Tm 356)) 348 true,false),(gL 358 357 348 true,false),(gB 359 .neq 353 358 348 true,false),(iP 360 348 359,false),(iM 8 360,false)]
def JK:Rg:=[iM 345 20,iC 346 .add 345 1,iM 20 346]
def JA:aC:=(.seq (sq aiH (.cond (Tm 344) .skip (.exit 12))) (.seq (.block 13 (.draw JJ)) (.region JK)))
def aiI:Rg:=[iM 330 19,iC 331 .add 330 1,iM 19 331]
def uV:aC:=(.seq (sq aiE (.cond (Tm 329) .skip (.exit 10))) (.seq (.block 11 (dq aiF (sq aiG (.block 12 (.loop JA))))) (.region aiI)))
def JL:Rg:=[iM 279 17,iC 280 .add 279 1,iM 17 280]
def uW:aC:=(.seq (sq aiB (.cond (Tm 278) .skip (.exit 8))) (.seq (.block 9 (sq aiC (sq aiD (sq JI (sq rG (.block 10 (.loop uV))))))) (.region JL)))
def JM:Rg:=[iI 21 0]
def aiJ:Rg:=[iM 361 21,iF 362 6 1,iL 363 362,iN 364 363,iB 365 .lss 361 364,iM 366 365,gM 367 8 366 true,iP 368 366 367]
def aiK:Rg:=[iM 372 7,iF 373 6 1,iL 374 373,iM 375 21,iX 376 2 374 375,iF 377 0 376,iL 378 377,iK2 379 70 372 378,iM 371 379,iE 380 371 0,iE 381 371 1,iM 7 380,iM 8 381]
def JN:Rd:=[(iM 382 8,false),(iM 383 382,false),(gF 384 6 1 383 true,false),(gL 385 384 383 true,false),(gM 386 21 383 true,false),(iG 387 (.bHT 2 (Tm 385) (Tm 386)) 383 true,false),(gF 388 1 387 383 true,false),(gL 389 388 383 true,false),(gF 390 5 1 383 true,false),(gL 391 390 383 true,false),(gN 392 391 383 true,false),(gC 393 .sub 392 1 383 true,false),(iG 394 (.call 76 [(Tm 389),(Ci 0),(Tm 393)]) 383 true,true),(iP 395 383 394,false),(iM 8 395,false)]
def JO:Rg:=[iM 369 21,iC 370 .add 369 1,iM 21 370]
def uX:aC:=(.seq (sq aiJ (.cond (Tm 368) .skip (.exit 14))) (.seq (.block 15 (sq aiK (.draw JN))) (.region JO)))
def JP:Rg:=[iM 396 8,iM 2 396]
def BN:aC:=(sq atX (.seq (sq atY (.cond (Tm 53) (sq yT .ret) .skip)) (sq atZ (sq auA (.seq (sq auB (.block 0 (.loop IY))) (.seq (sq ahQ (.block 2 (.loop IZ))) (sq ahU (sq JC (.seq (sq JD (.block 4 (.loop uT))) (.seq (sq JF (.block 6 (.loop uU))) (.seq (sq JH (.block 8 (.loop uW))) (.seq (sq JM (.block 14 (.loop uX))) (sq JP .ret)))))))))))))
def bcQ:List Nat:=[1]
def QJ:aV:=⟨1,397,BN,[.tmp 2]⟩
def atK:Rg:=[iZ 4,iT 5 false]
def atL:Rg:=[iM 6 0,iM 7 1,iA 8 (.bHE true 1 1 [(.str [])] [(0,(Tm 7))]),iA 9 (.append 1 16 (Tm 6) (Tm 8)),iM 10 1,iK 11 62 10,iM 12 11,gM 13 0 12 true,gM 14 1 12 true,gK2 15 71 13 14 12 true,gC 16 .lss 15 0 12 true,iP 17 12 16,iM 4 9,iM 5 17]
def BI:aC:=(sq atK (sq atL .ret))
def bcF:List Nat:=[8]
def QC:aV:=⟨2,18,BI,[.tmp 4,.tmp 5]⟩
structure a4C (C:Ctx):Prop where
 val:∀ f:aJ,f.Ok→aD C 96 [.agg f.cells] .nil (aE (.int .i64 (wY f)))
 valid:∀ f:aJ,f.Ok→aD C 67 [.agg f.cells] .nil (aE (.bool (dS f)))
 shaped:∀ (f:aJ) (l:List (List Int)),f.Ok→iV l→aD C 153 [.agg f.cells,lay l] .nil (aE (.bool (iU f l)))
 rshaped:∀ (f:aJ) (l:List (List Int)),f.Ok→iV l→aD C 86 [.agg f.cells,lay l] .nil (aE (.bool (iU f l)))
theorem a0E {C:Ctx} (Lb:a4C C) (f:aJ) (hf:f.Ok) (now:List (List Int)) (hl:iV now) (r:Int):wP.wp C (aT CL.res (aE (.bool (fE f now r)))) (PF.args [.agg f.cells,lay now,.int .i64 r]) .nil:=by
 have hU:fE f now r=((dS f&&iU f now)&&(decide (0≤r)&&decide (r≤4))):=rfl
 have hsh:=Lb.shaped f now hf hl
 have hvl:=Lb.val f hf
 unfold wY at hvl
 simp only[go_sem,γ,δ,ε,ζ,η,θ,ι,κ,μ,ν,ξ,ο,ρ,σ,τ,υ,reduceIte,reduceCtorEq,wP,adE,adF,CL]
 refine aA hvl Ev ?_
 cases hv:dS f with
 | false =>
  rw[hv] at hU
  simp only[go_sem,γ,δ,ε,ζ,η,θ,ι,κ,μ,ν,ξ,ο,ρ,σ,τ,υ,reduceIte,reduceCtorEq]
  refine aM (.inr rfl) Ev ?_
  rw[aW,hU]; rfl
 | true =>
  rw[hv] at hU
  simp only[go_sem,γ,δ,ε,ζ,η,θ,ι,κ,μ,ν,ξ,ο,ρ,σ,τ,υ,reduceIte,reduceCtorEq]
  refine aA hsh Ev ?_
  cases hs:iU f now with
  | false =>
   rw[hs] at hU
   simp only[go_sem,γ,δ,ε,ζ,η,θ,ι,κ,μ,ν,ξ,ο,ρ,σ,τ,υ,reduceIte,reduceCtorEq]
   refine aM (.inr rfl) Ev ?_
   rw[aW,hU]; rfl
  | true =>
   rw[hs,bJM,bJM] at hU
   by_cases c:0≤r
   ·rw[decide_eq_true c,bJM] at hU
    simp only[go_sem,γ,δ,ε,ζ,η,θ,ι,κ,μ,ν,ξ,ο,ρ,σ,τ,υ,reduceIte,reduceCtorEq,show r≥0 by omega]
    refine aM (.inr rfl) Ev ?_
    rw[aW,hU]
   ·rw[decide_eq_false c,bJI] at hU
    simp only[go_sem,γ,δ,ε,ζ,η,θ,ι,κ,μ,ν,ξ,ο,ρ,σ,τ,υ,reduceIte,reduceCtorEq,show ¬ r≥0 by omega]
    refine aM (.inr rfl) Ev ?_
    rw[aW,hU]
theorem nC {f:aJ} {now:List (List Int)} {r:Int} (h:fE f now r=true):dS f=true∧now.length=f.bHA.length∧0≤r∧r≤4:=by
 unfold fE at h
 simp only[bJZ,decide_eq_true_eq] at h
 exact⟨h.1.1,a0Z h.1.2,h.2.1,h.2.2⟩
theorem amW {p:Int→Bool}:∀ {l:List Int} {i:Nat},eS p l i=none→∀ x∈l,p x=false
 | [],_,_,x,hx=>by cases hx
 | y::l,i,h,x,hx=>by
  unfold eS at h
  cases hp:p y with
  | true=>rw[hp] at h; cases h
  | false =>
   rw[hp] at h
   rcases bJR.1 hx with rfl | hx
   ·exact hp
   ·exact amW (i:=i+1) (by simpa using h) x hx
theorem uO {f:aJ} {now:List (List Int)} {r:Int} (h:fE f now r=true) {v:Nat} (hv:v<now.length) :
  (now.getD v []).length≤10∧(∀ d∈now.getD v [],d<(f.bGY.length:Int))∧1≤(dM f v).k∧(dM f v).k≤6∧0≤r∧r≤4:=by
 obtain⟨h1,h2,h3,h4⟩:=nC h
 have hV:=VF.of h1
 obtain⟨hp,he⟩:=rW hV (Om:v<f.bHA.length)
 have hpol:=hV.bHM _ (bJG hp)
 rw[he] at hpol
 unfold fE iU at h
 simp only[bJZ] at h
 have hs:=bJW.1 h.1.2.2 v (bKE.2 hv)
 unfold lE at hs
 by_cases c:((now.getD v []).length:Int)=eY f v
 ·rw[if_pos c] at hs
  have hb:eS (jA f) (now.getD v []) 0=none:=by
   cases hfb:eS (jA f) (now.getD v []) 0 with
   | none=>rfl
   | some i=>rw[hfb] at hs; cases hs
  refine⟨?_,fun d hd=>?_,hpol.1,hpol.2.1,h3,h4⟩
  ·have:eY f v=(dM f v).k+(dM f v).m:=rfl
   omega
  ·have:=amW hb d hd
   unfold jA at this
   simp only[Bool.or_eq_false_iff,decide_eq_false_iff_not] at this
   omega
 ·rw[if_neg c] at hs
  cases hs
theorem axL {f:aJ} {now:List (List Int)} {r:Int} (hu:fE f now r=true) (ha:mS f now r=true) {v:Nat} (hv:v<now.length) (hc:(bP (now.getD v [])).Nodup∧bP (now.getD v [])≠[]) :
  1≤(((bP (now.getD v [])).length:Nat):Int)-(dM f v).k-r:=by
 obtain⟨-,g1,g2,g3,g4,g5⟩:=uO hu hv
 obtain⟨d,hd⟩:=List.exists_mem_of_ne_nil _ hc.2
 have hd2:=List.mem_filter.1 hd
 have hd0:0≤d:=by simpa using hd2.2
 have hdn:=g1 d hd2.1
 have one:1≤inN [((d.toNat:Nat):Int)] (now.getD v []):=by
  unfold inN
  refine List.countP_pos_iff.2 ⟨d,hd2.1,?_⟩
  unfold kV
  rw[decide_eq_true hd0,Int.toNat_of_nonneg hd0]
  simp
 have hal:=bJW.1 ha d.toNat (bKE.2 Om)
 rcases aOH hal (v:=v) hv hc.2 Om with e | e<;>omega
theorem aLL {row:List Int} {k:Nat} (h:k<row.length):bP (row.take (k+1))=bP (row.take k)++if 0≤row[k] then [row[k]] else []:=by
 unfold bP
 rw[bLC h,List.filter_append]
 congr 1
 by_cases c:0≤row[k]
 ·rw[if_pos c,List.filter_cons_of_pos (by simpa using c)]; rfl
 ·rw[if_neg c,List.filter_cons_of_neg (by simpa using c)]; rfl
theorem abK (row:List Int):(bP row).length≤row.length:=List.length_filter_le ..
def yE (l:List Int):eQ:=fun k=>match k with
 | [.int .i64 d]=>if l.contains d then some (.bool true) else none
 | _=>none
theorem a8Q:yE []=(fun _=>none:eQ):=by
 funext k
 unfold yE
 split<;>rfl
theorem a8R (l:List Int) (d:Int):eQ.upd (yE l) [KS.int .i64 d] (.bool true)=yE (l++[d]):=by
 funext k
 unfold eQ.upd
 by_cases c:k=[KS.int .i64 d]
 ·subst c
  rw[if_pos rfl]
  show _=if (l++[d]).contains d then some (PV.bool true) else none
  rw[if_pos (by simp)]
 ·rw[if_neg c]
  unfold yE
  split
  ·rename_i e
   have hne:¬ e=d:=fun h=>c (by rw[h])
   have:(l++[d]).contains e=l.contains e:=by
    rw[List.contains_eq_any_beq,List.contains_eq_any_beq,List.any_append]
    simp[hne]
   rw[this]
  ·rfl
def jN:List Int→List Int
 | []=>[]
 | x::xs=>if xs.contains x then jN xs else x::jN xs
theorem qC (y:Int):∀ l:List Int,y∈jN l↔y∈l
 | []=>Iff.rfl
 | x::xs=>by
  unfold jN
  split
  ·rename_i h
   rw[qC y xs,bJR]
   exact⟨.inr,fun h2=>h2.elim (fun e=>by rw[e]; exact bLR.1 h) id⟩
  ·rw[bJR,bJR,qC y xs]
theorem AV:∀ l:List Int,(jN l).Nodup
 | []=>.nil
 | x::xs=>by
  unfold jN
  split
  ·exact AV xs
  ·rename_i h
   refine List.nodup_cons.2 ⟨fun hm=>h ?_,AV xs⟩
   exact bLR.2 ((qC x xs).1 hm)
theorem XJ:∀ l:List Int,(jN l).length≤l.length
 | []=>bJF _
 | x::xs=>by
  have:=XJ xs
  unfold jN
  split
  ·rw[bKQ]; omega
  ·rw[bKQ,bKQ]; omega
theorem aeU:∀ l:List Int,(jN l).length=l.length↔l.Nodup
 | []=>by simp[jN]
 | x::xs=>by
  have hle:=XJ xs
  have ih:=aeU xs
  rw[List.nodup_cons]
  unfold jN
  split
  ·rename_i h
   rw[bKQ]
   constructor
   ·intro e; omega
   ·intro e; exact absurd (bLR.1 h) e.1
  ·rename_i h
   rw[bKQ,bKQ,← ih]
   constructor
   ·intro e; exact⟨fun hm=>h (bLR.2 hm),by omega⟩
   ·intro e; omega
theorem a0Y (l:List Int):(yE l).awL=(jN l).length:=by
 rw[eQ.aNC (ks:=(jN l).map fun d=>[KS.int .i64 d]),bJC]
 ·have:=AV l
  unfold List.Nodup at this ⊢
  rw[List.pairwise_map]
  exact this.imp fun h e=>h (by injection e with e; injection e)
 ·intro k
  rw[bKI]
  constructor
  ·rintro⟨d,hd,rfl⟩
   show (if l.contains d then some (PV.bool true) else none).isSome=true
   rw[if_pos (bLR.2 ((qC d l).1 hd))]
   rfl
  ·intro h
   unfold yE at h
   split at h
   ·rename_i d
    by_cases c:l.contains d=true
    ·exact⟨d,(qC d l).2 (bLR.1 c),rfl⟩
    ·rw[if_neg c] at h; cases h
   ·cases h
theorem a1N (l:List Int):(jN l).length=0↔l=[]:=by
 constructor
 ·intro h
  cases l with
  | nil=>rfl
  | cons x xs =>
   have:=(qC x (x::xs)).2 (by simp)
   rw[List.length_eq_zero_iff.1 h] at this
   cases this
 ·rintro rfl; rfl
theorem yU (f:aJ) (now:List (List Int)) (r:Int) (v:Nat):fO f now r (v+1)=max (fO f now r v) (QP f r v (now.getD v [])):=rfl
theorem oU (f:aJ) (now:List (List Int)) (r:Int):∀ v,0≤fO f now r v
 | 0=>by unfold fO; omega
 | v+1=>by have:=oU f now r v; rw[yU]; omega
theorem RU {f:aJ} {now:List (List Int)} {r:Int} {v:Nat} (h:¬ ((bP (now.getD v [])).Nodup∧bP (now.getD v [])≠[])):fO f now r (v+1)=fO f now r v:=by
 have:=oU f now r v
 rw[yU]
 unfold QP
 rw[if_neg h]
 omega
theorem alM {f:aJ} {now:List (List Int)} {r:Int} {v:Nat} (h:(bP (now.getD v [])).Nodup∧bP (now.getD v [])≠[]) {n e:Int} (hn:n=((bP (now.getD v [])).length:Nat)) (he:e=n-(dM f v).k-r) :
  fO f now r (v+1)=if fO f now r v<bKX (n+e-1) e then bKX (n+e-1) e else fO f now r v:=by
 rw[yU]
 unfold QP auT
 rw[if_pos h,if_pos h,← hn,← he]
 split<;>omega
theorem DK {f:aJ} {now:List (List Int)} {r:Int} (hu:fE f now r=true) (ha:mS f now r=true):∀ v,v≤now.length→fO f now r v≤100
 | 0,_=>by unfold fO; omega
 | v+1,hv=>by
  have ih:=DK hu ha v Om
  by_cases c:(bP (now.getD v [])).Nodup∧bP (now.getD v [])≠[]
  ·have h1:=axL hu ha (Om:v<now.length) c
   have h2:=(uO hu (Om:v<now.length)).1
   have h3:=abK (now.getD v [])
   rw[alM c rfl rfl]
   generalize (((bP (now.getD v [])).length:Nat):Int)-(dM f v).k-r=e at *
   obtain⟨m,rfl⟩:=Int.eq_ofNat_of_zero_le (Om:0≤e)
   have:bKX ((((bP (now.getD v [])).length:Nat):Int)+(m:Int)-1) (m:Int)≤((10:Nat):Int):=aND Om (by
    have:10*1≤10*m:=bLH _ Om
    omega)
   split<;>omega
  ·rw[RU c]; exact ih
def asM:Rg:=[iA 3 (.box true (Tm 0)),iI 6 0]
def asN:Rg:=[iO 8 7 3,iM 9 1,iM 10 2,iA 11 (.call 250 [(Tm 8),(Tm 9),(Tm 10)]),iA 12 (.un .not (Tm 11))]
def asO:Rg:=[iI 6 1]
def asP:Rg:=[iF 13 4 3,iL 14 13,iN 15 14,iI 16 0]
def asQ:Rg:=[iB 17 .lss 16 15]
def asR:Rg:=[iM 18 16,iM 7 18]
def asS:Rg:=[iO 19 7 3,iM 20 1,iM 21 2,iM 22 7,iA 23 (.bHE true 1 1 [(.int .i64 0)] [(0,(Tm 22))]),iA 24 (.call 251 [(Tm 19),(Tm 20),(Tm 21),(Tm 23)]),iA 25 (.un .not (Tm 24))]
def asT:Rg:=[iI 6 116]
def asU:Rg:=[iC 26 .add 16 1,iM 16 26]
def asL:aC:=(sq asQ (.seq (.cond (Tm 17) .skip (.exit 0)) (.seq (.block 1 (sq asR (sq asS (.cond (Tm 25) (sq asT .ret) .skip)))) (.region asU))))
def agD:Rg:=[iI 6 0]
def BE:aC:=(sq asM (.seq (sq asN (.cond (Tm 12) (sq asO .ret) .skip)) (.seq (sq asP (.block 0 (.loop asL))) (sq agD .ret))))
def bbN:List Nat:=[3,23]
def PW:aV:=⟨3,27,BE,[.tmp 6]⟩
def bbT:Rg:=[iA 3 (.box true (Tm 0)),iZ 6,iI 7 0]
def bbU:Rg:=[iO 13 7 3,iM 14 1,iM 15 2,iA 16 (.call 262 [(Tm 13),(Tm 14),(Tm 15)]),iM 8 16]
def bbV:Rg:=[iM 17 8,iC 18 .neq 17 0]
def bbW:Rg:=[iM 19 8,iZ 6,iM 7 19]
def bbX:Rg:=[iZ 9]
def bbY:Rg:=[iF 20 4 3,iL 21 20,iN 22 21,iI 23 0]
def bbZ:Rg:=[iB 24 .lss 23 22]
def bcA:Rg:=[iM 25 23,iM 10 25]
def bcB:Rg:=[iM 26 9,iN 27 26,iI 28 0]
def bcC:Rg:=[iB 29 .lss 28 27]
def a3P:Rg:=[iM 30 28,iX 31 1 26 28,iL 32 31,iM 11 30,iM 12 32]
def a3Q:Rd:=[(iO 33 7 3,true),(iM 34 1,true),(iM 35 2,true),(iM 36 12,false),(iK 37 277 36,true),(iM 38 10,true),(iA 39 (.bHE true 1 1 [(.int .i64 0)] [(0,(Tm 38))]),true),(iA 40 (.append 1 8 (Tm 37) (Tm 39)),true),(iA 41 (.call 251 [(Tm 33),(Tm 34),(Tm 35),(Tm 40)]),true)]
def a3R:Rg:=[iM 42 9,iM 43 11,iM 44 12,iM 45 10,iA 46 (.bHE true 1 1 [(.int .i64 0)] [(0,(Tm 45))]),iA 47 (.append 1 8 (Tm 44) (Tm 46)),iX 48 1 42 43,iS 1 48 47]
def a3S:Rg:=[iC 49 .add 28 1,iM 28 49]
def a3N:aC:=(sq bcC (.seq (.cond (Tm 29) .skip (.exit 2)) (.seq (.block 3 (sq a3P (dq a3Q (.cond (Tm 41) (sq a3R (.exit 1)) .skip)))) (.region a3S))))
def a3T:Rg:=[iM 50 9,iM 51 10,iA 52 (.bHE false 1 1 [(.int .i64 0)] [(0,(Tm 51))]),iA 53 (.bHE true 1 1 [.aB] [(0,(Tm 52))]),iA 54 (.append 1 24 (Tm 50) (Tm 53)),iM 9 54]
def a3U:Rg:=[iC 55 .add 23 1,iM 23 55]
def a3O:aC:=(sq bbZ (.seq (.cond (Tm 24) .skip (.exit 0)) (.seq (.block 1 (sq bcA (.seq (sq bcB (.block 2 (.loop a3N))) (.region a3T)))) (.region a3U))))
def a3V:Rg:=[iM 56 9,iM 6 56,iI 7 0]
def aMT:aC:=(sq bbT (.seq (sq bbU (sq bbV (.cond (Tm 18) (sq bbW .ret) .skip))) (sq bbX (.seq .skip (.seq (sq bbY (.block 0 (.loop a3O))) (sq a3V .ret))))))
def bcD:List Nat:=[3,39,46,53]
def aKF:aV:=⟨3,57,aMT,[.tmp 6,.tmp 7]⟩
def asC:Rg:=[iA 3 (.box true (Tm 0)),iI 6 0,iI 7 0]
def asD:Rg:=[iO 18 7 3,iM 19 1,iM 20 2,iA 21 (.call 262 [(Tm 18),(Tm 19),(Tm 20)]),iM 8 21]
def PU:Rg:=[iM 22 8,iC 23 .neq 22 0]
def asE:Rg:=[iM 24 8,iI 6 0,iM 7 24]
def asF:Rg:=[iF 25 4 3,iL 26 25,iN 27 26,iA 28 (.bHZ false (Tm 27) (Ci 1)),iM 9 28]
def asG:Rg:=[iM 29 1,iN 30 29,iI 31 0]
def asH:Rg:=[iB 32 .lss 31 30]
def asI:Rg:=[iM 33 31,iX 34 1 29 31,iL 35 34,iM 10 33,iM 11 35]
def asJ:Rg:=[iA 36 (.bIU (false,[.int .i64])),iM 12 36]
def asK:Rg:=[iI 13 0]
def afU:Rg:=[iM 37 11,iN 38 37,iI 39 0]
def afV:Rg:=[iB 40 .lss 39 38]
def IQ:Rg:=[iX 41 1 37 39,iL 42 41,iM 15 42]
def IR:Rg:=[iM 43 15,iC 44 .geq 43 0]
def afW:Rg:=[iM 45 12,iM 46 15,⟨none,.bHW (false,[.int .i64]) (Tm 45) (Tm 46) (.const (.bool true)),none⟩]
def afX:Rg:=[iM 47 13,iC 48 .add 47 1,iM 13 48]
def IS:Rg:=[iC 49 .add 39 1,iM 39 49]
def afS:aC:=(sq afV (.seq (.cond (Tm 40) .skip (.exit 2)) (.seq (.block 3 (sq IQ (sq IR (.cond (Tm 44) (sq afW (.region afX)) .skip)))) (.region IS))))
def afY:Rg:=[iM 50 12,iA 51 (.lenM (Tm 50)),iM 16 51]
def afZ:Rg:=[iM 52 16,iC 53 .eql 52 0,iM 54 53,gM 55 16 54 false,gM 56 13 54 false,gB 57 .neq 55 56 54 false,iQ 58 54 57]
def agA:Rd:=[(iM 59 16,false),(iF 60 5 3,false),(iL 61 60,false),(iF 62 6 3,false),(iL 63 62,false),(iM 64 10,false),(iX 65 2 63 64,false),(iF 66 1 65,false),(iL 67 66,false),(iX 68 17 61 67,false),(iF 69 1 68,false),(iL 70 69,false),(iB 71 .sub 59 70,false),(iM 72 2,false),(iB 73 .sub 71 72,false),(iM 17 73,false)]
def agB:Rg:=[iM 74 9,iM 75 16,iM 76 17,iB 77 .add 75 76,iC 78 .sub 77 1,iM 79 17,iB 80 .quo 78 79,iA 81 (.bHZ true (Tm 74) (Tm 80)),iM 9 81]
def uR:Rg:=[iC 82 .add 31 1,iM 31 82]
def afT:aC:=(sq asH (.seq (.cond (Tm 32) .skip (.exit 0)) (.seq (.block 1 (sq asI (sq asJ (sq asK (.seq (sq afU (.block 2 (.loop afS))) (sq afY (.seq (sq afZ (.cond (Tm 58) (.exit 1) .skip)) (dq agA (.region agB))))))))) (.region uR))))
def agC:Rg:=[iM 83 9,iM 6 83,iI 7 0]
def BD:aC:=(sq asC (.seq (sq asD (sq PU (.cond (Tm 23) (sq asE .ret) .skip))) (sq asF (.seq (sq asG (.block 0 (.loop afT))) (sq agC .ret)))))
def bbL:List Nat:=[3]
def PT:aV:=⟨3,84,BD,[.tmp 6,.tmp 7]⟩
def asX:Rg:=[iA 4 (.box true (Tm 0)),iT 8 false]
def asY:Rg:=[iO 13 7 4,iM 14 1,iM 15 2,iA 16 (.call 250 [(Tm 13),(Tm 14),(Tm 15)]),iA 17 (.un .not (Tm 16))]
def asZ:Rg:=[iT 8 false]
def atA:Rg:=[iM 18 3,iK 19 178 18,iM 9 19]
def atB:Rg:=[iM 20 9,iN 21 20,iF 22 4 4,iL 23 22,iN 24 23,iB 25 .neq 21 24]
def atC:Rg:=[iT 8 false]
def atD:Rg:=[iF 26 4 4,iL 27 26,iN 28 27,iI 29 0]
def atE:Rg:=[iB 30 .lss 29 28]
def atF:Rg:=[iM 31 29,iM 10 31]
def atG:Rg:=[iM 32 9,iM 33 10,iK2 34 260 32 33,iA 35 (.un .not (Tm 34))]
def agX:Rg:=[iT 8 false]
def agY:Rg:=[iC 36 .add 29 1,iM 29 36]
def agV:aC:=(sq atE (.seq (.cond (Tm 30) .skip (.exit 0)) (.seq (.block 1 (sq atF (sq atG (.cond (Tm 35) (sq agX .ret) .skip)))) (.region agY))))
def agZ:Rg:=[iM 37 3,iN 38 37,iI 39 0]
def ahA:Rg:=[iB 40 .lss 39 38]
def ahB:Rg:=[iX 41 1 37 39,iL 42 41,iM 12 42]
def ahC:Rg:=[iM 43 12,iN 44 43,iC 45 .eql 44 0,iM 46 45,gO 47 7 4 46 false,gM 48 1 46 false,gM 49 2 46 false,gM 50 12 46 false,iG 51 (.call 251 [(Tm 47),(Tm 48),(Tm 49),(Tm 50)]) 46 false,iG 52 (.un .not (Tm 51)) 46 false,iQ 53 46 52]
def IT:Rg:=[iT 8 false]
def ahD:Rg:=[iC 54 .add 39 1,iM 39 54]
def agW:aC:=(sq ahA (.seq (.cond (Tm 40) .skip (.exit 2)) (.seq (.block 3 (sq ahB (sq ahC (.cond (Tm 53) (sq IT .ret) .skip)))) (.region ahD))))
def ahE:Rg:=[iT 8 true]
def BH:aC:=(sq asX (.seq (sq asY (.cond (Tm 17) (sq asZ .ret) .skip)) (sq atA (.seq (sq atB (.cond (Tm 25) (sq atC .ret) .skip)) (.seq (sq atD (.block 0 (.loop agV))) (.seq (sq agZ (.block 2 (.loop agW))) (sq ahE .ret)))))))
def bbS:List Nat:=[4]
def QA:aV:=⟨4,55,BH,[.tmp 8]⟩
def biH:Rg:=[iA 3 (.box true (Tm 0)),iI 6 0]
def biI:Rg:=[iO 8 7 3,iM 9 1,iM 10 2,iA 11 (.call 253 [(Tm 8),(Tm 9),(Tm 10)]),iA 12 (.un .not (Tm 11))]
def biJ:Rg:=[iI 6 1]
def biK:Rg:=[iI 7 0]
def biL:Rg:=[iM 13 7,iF 14 4 3,iL 15 14,iN 16 15,iB 17 .lss 13 16]
def biM:Rg:=[iO 20 7 3,iM 21 1,iM 22 2,iM 23 7,iA 24 (.bHE true 1 1 [(.int .i64 0)] [(0,(Tm 23))]),iA 25 (.call 255 [(Tm 20),(Tm 21),(Tm 22),(Tm 24)]),iA 26 (.un .not (Tm 25))]
def biN:Rg:=[iI 6 116]
def biO:Rg:=[iM 18 7,iC 19 .add 18 1,iM 7 19]
def biG:aC:=(.seq (sq biL (.cond (Tm 17) .skip (.exit 0))) (.seq (.block 1 (sq biM (.cond (Tm 26) (sq biN .ret) .skip))) (.region biO)))
def biP:Rg:=[iI 6 0]
def a1R:aC:=(sq biH (.seq (sq biI (.cond (Tm 12) (sq biJ .ret) .skip)) (.seq (sq biK (.block 0 (.loop biG))) (sq biP .ret))))
def biQ:List Nat:=[3,24]
def a1Q:aV:=⟨3,27,a1R,[.tmp 6]⟩
def baZ:Rg:=[iA 3 (.box true (Tm 0)),iZ 6,iI 7 0]
def bbA:Rg:=[iO 13 7 3,iM 14 1,iM 15 2,iA 16 (.call 266 [(Tm 13),(Tm 14),(Tm 15)]),iM 8 16]
def bbB:Rg:=[iM 17 8,iC 18 .neq 17 0]
def bbC:Rg:=[iM 19 8,iZ 6,iM 7 19]
def bbD:Rg:=[iZ 9]
def bbE:Rg:=[iI 10 0]
def bbF:Rg:=[iM 20 10,iF 21 4 3,iL 22 21,iN 23 22,iB 24 .lss 20 23]
def bbG:Rg:=[iI 11 (-1)]
def bbH:Rg:=[iI 12 0]
def bbI:Rg:=[iM 27 12,iM 28 9,iN 29 28,iB 30 .lss 27 29,iM 31 30,gM 32 11 31 true,gC 33 .lss 32 0 31 true,iP 34 31 33]
def a2X:Rd:=[(iO 37 7 3,true),(iM 38 1,true),(iM 39 2,true),(iM 40 9,false),(iM 41 12,false),(iX 42 1 40 41,false),(iL 43 42,false),(iA 44 (.append 1 8 (.const .aB) (Tm 43)),true),(iM 45 10,true),(iA 46 (.bHE true 1 1 [(.int .i64 0)] [(0,(Tm 45))]),true),(iA 47 (.append 1 8 (Tm 44) (Tm 46)),true),(iA 48 (.call 255 [(Tm 37),(Tm 38),(Tm 39),(Tm 47)]),true)]
def a2Y:Rg:=[iM 49 12,iM 11 49]
def a2Z:Rg:=[iM 35 12,iC 36 .add 35 1,iM 12 36]
def a2V:aC:=(.seq (sq bbI (.cond (Tm 34) .skip (.exit 2))) (.seq (.block 3 (dq a2X (.cond (Tm 48) (.region a2Y) .skip))) (.region a2Z)))
def a3A:Rg:=[iM 50 11,iC 51 .lss 50 0]
def a3B:Rg:=[iM 52 9,iA 53 (.bHE true 1 1 [.aB] [(0,(.const .aB))]),iA 54 (.append 1 24 (Tm 52) (Tm 53)),iM 9 54]
def a3C:Rg:=[iM 55 9,iN 56 55,iC 57 .sub 56 1,iM 11 57]
def a3D:Rg:=[iM 58 9,iM 59 11,iM 60 9,iM 61 11,iX 62 1 60 61,iL 63 62,iM 64 10,iA 65 (.bHE true 1 1 [(.int .i64 0)] [(0,(Tm 64))]),iA 66 (.append 1 8 (Tm 63) (Tm 65)),iX 67 1 58 59,iS 1 67 66]
def a3E:Rg:=[iM 25 10,iC 26 .add 25 1,iM 10 26]
def a2W:aC:=(.seq (sq bbF (.cond (Tm 24) .skip (.exit 0))) (.seq (.block 1 (sq bbG (.seq (sq bbH (.block 2 (.loop a2V))) (.seq (sq a3A (.cond (Tm 51) (sq a3B (.region a3C)) .skip)) (.region a3D))))) (.region a3E)))
def a3F:Rg:=[iM 68 9,iM 6 68,iI 7 0]
def aMO:aC:=(sq baZ (.seq (sq bbA (sq bbB (.cond (Tm 18) (sq bbC .ret) .skip))) (sq bbD (.seq (sq bbE (.block 0 (.loop a2W))) (sq a3F .ret)))))
def bbJ:List Nat:=[3,46,53,65]
def aKB:aV:=⟨3,69,aMO,[.tmp 6,.tmp 7]⟩
def a9U:Rg:=[iA 3 (.box true (Tm 0)),iI 6 0,iI 7 0]
def a9V:Rg:=[iO 16 7 3,iM 17 1,iM 18 2,iA 19 (.call 266 [(Tm 16),(Tm 17),(Tm 18)]),iM 8 19]
def a9W:Rg:=[iM 20 8,iC 21 .neq 20 0]
def a9X:Rg:=[iM 22 8,iI 6 0,iM 7 22]
def a9Y:Rg:=[iF 23 4 3,iL 24 23,iN 25 24,iA 26 (.bHZ false (Tm 25) (Ci 1)),iM 9 26]
def a9Z:Rg:=[iI 10 0]
def baA:Rg:=[iM 27 10,iM 28 1,iN 29 28,iB 30 .lss 27 29]
def baB:Rg:=[iZ 11]
def baC:Rg:=[iT 12 false]
def baD:Rg:=[iI 13 0]
def a1X:Rg:=[iM 33 13,iM 34 1,iM 35 10,iX 36 1 34 35,iL 37 36,iN 38 37,iB 39 .lss 33 38]
def a1Y:Rg:=[iM 42 1,iM 43 10,iX 44 1 42 43,iL 45 44,iM 46 13,iX 47 1 45 46,iL 48 47,iC 49 .geq 48 0]
def a1Z:Rg:=[iM 50 12,iM 51 50,gM 52 11 51 false,gM 53 1 51 false,gM 54 10 51 false,iG 55 (.bHT 1 (Tm 53) (Tm 54)) 51 false,gL 56 55 51 false,gM 57 13 51 false,iG 58 (.bHT 1 (Tm 56) (Tm 57)) 51 false,gL 59 58 51 false,gK2 60 254 52 59 51 false,iQ 61 51 60,iM 12 61]
def a2A:Rg:=[iM 62 11,iM 63 1,iM 64 10,iX 65 1 63 64,iL 66 65,iM 67 13,iX 68 1 66 67,iL 69 68,iA 70 (.bHE true 1 1 [(.int .i64 0)] [(0,(Tm 69))]),iA 71 (.append 1 8 (Tm 62) (Tm 70)),iM 11 71]
def a2B:Rg:=[iM 40 13,iC 41 .add 40 1,iM 13 41]
def a1V:aC:=(.seq (sq a1X (.cond (Tm 39) .skip (.exit 2))) (.seq (.block 3 (sq a1Y (.cond (Tm 49) (sq a1Z (.region a2A)) .skip))) (.region a2B)))
def a2C:Rg:=[iM 72 11,iN 73 72,iM 14 73]
def a2D:Rg:=[iM 74 12,iM 75 74,gM 76 14 75 false,gC 77 .eql 76 0 75 false,iQ 78 75 77]
def a2E:Rg:=[iM 79 14,iO 80 7 3,iM 81 10,iK2 82 257 80 81,iB 83 .sub 79 82,iM 84 2,iB 85 .sub 83 84,iM 15 85]
def a2F:Rg:=[iM 86 9,iM 87 14,iM 88 15,iB 89 .add 87 88,iC 90 .sub 89 1,iM 91 15,iB 92 .quo 90 91,iA 93 (.bHZ true (Tm 86) (Tm 92)),iM 9 93]
def a2G:Rg:=[iM 31 10,iC 32 .add 31 1,iM 10 32]
def a1W:aC:=(.seq (sq baA (.cond (Tm 30) .skip (.exit 0))) (.seq (.block 1 (sq baB (sq baC (.seq (sq baD (.block 2 (.loop a1V))) (sq a2C (.seq (sq a2D (.cond (Tm 78) (.exit 1) .skip)) (sq a2E (.region a2F)))))))) (.region a2G)))
def a2H:Rg:=[iM 94 9,iM 6 94,iI 7 0]
def aMM:aC:=(sq a9U (.seq (sq a9V (sq a9W (.cond (Tm 21) (sq a9X .ret) .skip))) (sq a9Y (.seq (sq a9Z (.block 0 (.loop a1W))) (sq a2H .ret)))))
def baE:List Nat:=[3,70]
def aIZ:aV:=⟨3,95,aMM,[.tmp 6,.tmp 7]⟩
def baK:Rg:=[iA 4 (.box true (Tm 0)),iT 8 false]
def baL:Rg:=[iO 13 7 4,iM 14 1,iM 15 2,iA 16 (.call 253 [(Tm 13),(Tm 14),(Tm 15)]),iA 17 (.un .not (Tm 16))]
def baM:Rg:=[iT 8 false]
def baN:Rg:=[iZ 9]
def baO:Rg:=[iI 10 0]
def baP:Rg:=[iM 18 10,iM 19 3,iN 20 19,iB 21 .lss 18 20]
def baQ:Rg:=[iI 11 0]
def baR:Rg:=[iM 24 11,iM 25 3,iM 26 10,iX 27 1 25 26,iL 28 27,iN 29 28,iB 30 .lss 24 29]
def baS:Rg:=[iM 33 3,iM 34 10,iX 35 1 33 34,iL 36 35,iM 37 11,iX 38 1 36 37,iL 39 38,iM 12 39]
def baT:Rg:=[iM 40 12,iC 41 .lss 40 0,iM 42 41,gM 43 12 42 false,gF 44 4 4 42 false,gL 45 44 42 false,gN 46 45 42 false,gB 47 .geq 43 46 42 false,iQ 48 42 47,iM 49 48,gM 50 9 49 false,gM 51 12 49 false,gK2 52 254 50 51 49 false,iQ 53 49 52]
def a2O:Rg:=[iT 8 false]
def a2P:Rg:=[iM 54 9,iM 55 12,iA 56 (.bHE true 1 1 [(.int .i64 0)] [(0,(Tm 55))]),iA 57 (.append 1 8 (Tm 54) (Tm 56)),iM 9 57]
def a2Q:Rg:=[iM 31 11,iC 32 .add 31 1,iM 11 32]
def a2M:aC:=(.seq (sq baR (.cond (Tm 30) .skip (.exit 2))) (.seq (.block 3 (sq baS (.seq (sq baT (.cond (Tm 53) (sq a2O .ret) .skip)) (.region a2P)))) (.region a2Q)))
def a2R:Rd:=[(iM 58 3,false),(iM 59 10,false),(iX 60 1 58 59,false),(iL 61 60,false),(iN 62 61,false),(iC 63 .eql 62 0,false),(iM 64 63,false),(gO 65 7 4 64 false,false),(gM 66 1 64 false,false),(gM 67 2 64 false,false),(gM 68 3 64 false,false),(gM 69 10 64 false,false),(iG 70 (.bHT 1 (Tm 68) (Tm 69)) 64 false,false),(gL 71 70 64 false,false),(iG 72 (.call 255 [(Tm 65),(Tm 66),(Tm 67),(Tm 71)]) 64 false,true),(iG 73 (.un .not (Tm 72)) 64 false,false),(iQ 74 64 73,false)]
def a2S:Rg:=[iT 8 false]
def a2T:Rg:=[iM 22 10,iC 23 .add 22 1,iM 10 23]
def a2N:aC:=(.seq (sq baP (.cond (Tm 21) .skip (.exit 0))) (.seq (.block 1 (.seq (sq baQ (.block 2 (.loop a2M))) (dq a2R (.cond (Tm 74) (sq a2S .ret) .skip)))) (.region a2T)))
def a2U:Rg:=[iM 75 9,iN 76 75,iF 77 4 4,iL 78 77,iN 79 78,iB 80 .eql 76 79,iM 8 80]
def aMN:aC:=(sq baK (.seq (sq baL (.cond (Tm 17) (sq baM .ret) .skip)) (sq baN (.seq (sq baO (.block 0 (.loop a2N))) (sq a2U .ret)))))
def baU:List Nat:=[4,56]
def aJQ:aV:=⟨4,81,aMN,[.tmp 8]⟩
def bgT:Rg:=[iT 4 false]
def bgU:Rg:=[iM 7 0,iN 8 7,iM 9 1,iN 10 9,iB 11 .neq 8 10]
def bgV:Rg:=[iT 4 false]
def bgW:Rg:=[iI 5 0]
def bgX:Rg:=[iM 12 5,iM 13 0,iN 14 13,iB 15 .lss 12 14]
def bgY:Rd:=[(iM 18 0,false),(iM 19 5,false),(iX 20 1 18 19,false),(iL 21 20,false),(iN 22 21,false),(iM 23 1,false),(iM 24 5,false),(iX 25 1 23 24,false),(iL 26 25,false),(iN 27 26,false),(iB 28 .neq 22 27,false)]
def bgZ:Rg:=[iT 4 false]
def bhA:Rg:=[iI 6 0]
def bhB:Rg:=[iM 29 6,iM 30 0,iM 31 5,iX 32 1 30 31,iL 33 32,iN 34 33,iB 35 .lss 29 34]
def bhC:Rd:=[(iM 38 0,false),(iM 39 5,false),(iX 40 1 38 39,false),(iL 41 40,false),(iM 42 6,false),(iX 43 1 41 42,false),(iL 44 43,false),(iM 45 1,false),(iM 46 5,false),(iX 47 1 45 46,false),(iL 48 47,false),(iM 49 6,false),(iX 50 1 48 49,false),(iL 51 50,false),(iB 52 .neq 44 51,false)]
def a8J:Rg:=[iT 4 false]
def a8K:Rg:=[iM 36 6,iC 37 .add 36 1,iM 6 37]
def a8H:aC:=(.seq (sq bhB (.cond (Tm 35) .skip (.exit 2))) (.seq (.block 3 (dq bhC (.cond (Tm 52) (sq a8J .ret) .skip))) (.region a8K)))
def a8L:Rg:=[iM 16 5,iC 17 .add 16 1,iM 5 17]
def a8I:aC:=(.seq (sq bgX (.cond (Tm 15) .skip (.exit 0))) (.seq (.block 1 (.seq (dq bgY (.cond (Tm 28) (sq bgZ .ret) .skip)) (sq bhA (.block 2 (.loop a8H))))) (.region a8L)))
def a8M:Rg:=[iT 4 true]
def a0V:aC:=(sq bgT (.seq (sq bgU (.cond (Tm 11) (sq bgV .ret) .skip)) (.seq (sq bgW (.block 0 (.loop a8I))) (sq a8M .ret))))
def bhD:List Nat:=[]
def a0U:aV:=⟨2,53,a0V,[.tmp 4]⟩
def a7I:Rg:=[iZ 2]
def a7J:Rg:=[iM 3 0,iA 4 (.isNil false (Tm 3))]
def a7K:Rg:=[iZ 2]
def a7L:Rg:=[iA 5 (.bHE false 1 0 [(.int .i64 0)] []),iM 6 0,iA 7 (.append 1 8 (Tm 5) (Tm 6)),iM 2 7]
def aME:aC:=(sq a7I (.seq (sq a7J (.cond (Tm 4) (sq a7K .ret) .skip)) (sq a7L .ret)))
def a7M:List Nat:=[]
def aEP:aV:=⟨1,8,aME,[.tmp 2]⟩
def aLO:Rg:=[iZ 4]
def aLP:Rg:=[iZ 5]
def aLQ:Rg:=[iI 6 0]
def aLR:Rg:=[iM 7 6,iM 8 0,iN 9 8,iB 10 .lss 7 9]
def aLS:Rg:=[iM 13 0,iM 14 6,iX 15 1 13 14,iL 16 15,iM 17 1,iB 18 .neq 16 17]
def aLT:Rg:=[iM 19 5,iM 20 0,iM 21 6,iX 22 1 20 21,iL 23 22,iA 24 (.bHE true 1 1 [(.int .i64 0)] [(0,(Tm 23))]),iA 25 (.append 1 8 (Tm 19) (Tm 24)),iM 5 25]
def aLU:Rg:=[iM 11 6,iC 12 .add 11 1,iM 6 12]
def aLN:aC:=(.seq (sq aLR (.cond (Tm 10) .skip (.exit 0))) (.seq (.block 1 (sq aLS (.cond (Tm 18) (.region aLT) .skip))) (.region aLU)))
def aLV:Rg:=[iM 26 5,iM 4 26]
def auG:aC:=(sq aLO (sq aLP (.seq (sq aLQ (.block 0 (.loop aLN))) (sq aLV .ret))))
def aLW:List Nat:=[24]
def WE:aV:=⟨2,27,auG,[.tmp 4]⟩
def anV:Rg:=[iT 6 false]
def anW:Rg:=[iM 15 2,iN 16 15,iC 17 .gtr 16 40]
def anX:Rg:=[iA 18 (.call 26 []),iM 6 18]
def anY:Rg:=[iM 20 0,iK 21 249 20,iM 19 21,iE 22 19 0,iE 23 19 1,iA 7 (.alloc [(.int .i64 0),.aB,.aB,.aB,.aB,.aB,.aB,.aB,.aB]),iS 9 7 22,iM 8 23]
def anZ:Rg:=[iM 24 1,iA 25 (.call 24 [(Tm 24),(Ci 2)]),iM 9 25]
def aoA:Rg:=[iF 27 0 7,iO 28 7 27,iF 29 7 7,iL 30 29,iM 31 9,iA 32 (.call 264 [(Tm 28),(Tm 30),(Tm 31)]),iM 26 32,iE 33 26 0,iE 34 26 1,iM 10 33,iM 11 34]
def MH:Rg:=[iM 35 11,iC 36 .neq 35 0]
def aoB:Rg:=[iA 37 (.call 26 []),iM 6 37]
def aoC:Rg:=[iM 38 8,iA 39 (.call 240 [(Tm 38),(Ci 4)]),iA 40 (.bin .add (Ci 1) (Tm 39)),iA 41 (.bHI 1 24 [.aB] (Tm 40) (Tm 40)),iM 12 41]
def aoD:Rg:=[iI 13 0]
def abS:Rg:=[iM 42 13,iF 43 0 7,iF 44 4 43,iL 45 44,iN 46 45,iB 47 .lss 42 46]
def abT:Rg:=[iM 50 8,iM 51 12,iN 52 51,iK2 53 240 50 52,iM 14 53]
def FZ:Rg:=[iM 54 13,iM 55 2,iN 56 55,iB 57 .lss 54 56]
def abU:Rg:=[iM 58 2,iM 59 13,iX 60 1 58 59,iL 61 60,iM 62 12,iN 63 62,iK2 64 24 61 63,iM 14 64]
def GA:Rg:=[iM 65 12,iM 66 14,iM 67 12,iM 68 14,iX 69 1 67 68,iL 70 69,iM 71 13,iA 72 (.bHE true 1 1 [(.int .i64 0)] [(0,(Tm 71))]),iA 73 (.append 1 8 (Tm 70) (Tm 72)),iX 74 1 65 66,iS 1 74 73]
def GB:Rg:=[iM 48 13,iC 49 .add 48 1,iM 13 49]
def abR:aC:=(.seq (sq abS (.cond (Tm 47) .skip (.exit 0))) (.seq (.block 1 (sq abT (.seq (sq FZ (.cond (Tm 57) (.region abU) .skip)) (.region GA)))) (.region GB)))
def GC:Rg:=[iA 75 (.call 26 []),iM 76 75,gF 77 0 7 76 true,gO 78 7 77 76 true,gF 79 7 7 76 true,gL 80 79 76 true,gM 81 9 76 true,gM 82 12 76 true,iG 83 (.call 265 [(Tm 78),(Tm 80),(Tm 81),(Tm 82)]) 76 true,iG 84 (.un .not (Tm 83)) 76 true,gM 85 84 76 true,gM 86 12 85 false,gN 87 86 85 false,gM 88 10 85 false,gB 89 .geq 87 88 85 false,iG 90 (.pick (Tm 85) (.const (.bool true)) (Tm 89)) 76 true,iP 91 76 90,iM 6 91]
def zK:aC:=(sq anV (.seq (sq anW (.cond (Tm 17) (sq anX .ret) .skip)) (sq anY (sq anZ (sq aoA (.seq (sq MH (.cond (Tm 36) (sq aoB .ret) .skip)) (sq aoC (.seq (sq aoD (.block 0 (.loop abR))) (sq GC .ret)))))))))
def a5Y:List Nat:=[72]
def MG:aV:=⟨3,92,zK,[.tmp 6]⟩
structure aXC (C:Ctx) (us ft:Nat):Prop where
 usable:∀ (f:aJ) (now:List (List Int)) (r:Int),f.Ok→iV now→aD C us [.agg f.cells,lay now,.int .i64 r] .nil (aE (.bool (fE f now r)))
 fits:∀ (f:aJ) (now:List (List Int)) (r:Int) (down:List Int),fE f now r=true→iV now→down.length≤1000000000000000→aD C ft [.agg f.cells,lay now,.int .i64 r,ints down] .nil (aE (.bool (lL f now r down)))
theorem bbM {C:Ctx} (Lb:aXC C 250 251) (f:aJ) (hf:f.Ok) (now:List (List Int)) (hl:iV now) (r:Int) :
  BE.wp C (aT PW.res (aE (.int .i64 (pB f now r)))) (PF.args [.agg f.cells,lay now,.int .i64 r]) .nil:=by
 have hE:pB f now r=if fE f now r then (if mS f now r then 0 else 116) else 1:=rfl
 simp only[go_sem,γ,δ,ε,ζ,η,θ,ι,κ,μ,ν,ξ,ο,ρ,σ,τ,υ,reduceIte,reduceCtorEq,BE,asM,asN,PW]
 refine aA (Lb.usable f now r hf hl) Ev ?_
 cases hu:fE f now r with
 | false =>
  rw[hu] at hE
  simp only[go_sem,γ,δ,ε,ζ,η,θ,ι,κ,μ,ν,ξ,ο,ρ,σ,τ,υ,reduceIte,reduceCtorEq,asO]
  refine aM (.inr rfl) Ev ?_
  rw[aW,hE]; rfl
 | true =>
  rw[hu,if_pos rfl] at hE
  have hV:=VF.of (nC hu).1
  have hd:=hV.small.bGY
  simp only[go_sem,γ,δ,ε,ζ,η,θ,ι,κ,μ,ν,ξ,ο,ρ,σ,τ,υ,reduceIte,reduceCtorEq,asP,bJC]
  refine wp_loop (α:=Nat) (fun k=>(((((PF.nil.set 1 (lay now)).set 2 (.int .i64 r)).set 3 (.bG f.cells)).set 15 (.int .i64 (f.bGY.length:Nat))).set 16 (.int .i64 k))) (fun _=>.nil) (fun k=>k≤f.bGY.length∧BS f now r k=true) (fun k=>f.bGY.length-k) 0 ⟨bJO _,rfl⟩ Lq PH.nil_le ?_
  rintro k ⟨hk,hok⟩
  simp only[go_sem,γ,δ,ε,ζ,η,θ,ι,κ,μ,ν,ξ,ο,ρ,σ,τ,υ,reduceIte,reduceCtorEq,asL,asQ]
  by_cases hlt:k<f.bGY.length
  ·have bHF:(k:Int)<(f.bGY.length:Nat):=by omega
   have hs:=aLB f now r k
   rw[hok,bJM] at hs
   simp only[go_sem,γ,δ,ε,ζ,η,θ,ι,κ,μ,ν,ξ,ο,ρ,σ,τ,υ,reduceIte,reduceCtorEq,bHF,asR,asS]
   refine aA (Lb.fits f now r [(k:Int)] hu hl (by simp)) Ev ?_
   cases bIN:lL f now r [(k:Int)] with
   | false =>
    simp only[go_sem,γ,δ,ε,ζ,η,θ,ι,κ,μ,ν,ξ,ο,ρ,σ,τ,υ,reduceIte,reduceCtorEq,asT]
    refine aM (.inr rfl) Ev ?_
    rw[aW,hE]
    have:=a4F hlt bIN
    rw[show mS f now r=false from this]; rfl
   | true =>
    rw[bIN] at hs
    simp only[go_sem,γ,δ,ε,ζ,η,θ,ι,κ,μ,ν,ξ,ο,ρ,σ,τ,υ,reduceIte,reduceCtorEq,asU,wZz k]
    exact aK (k+1) ⟨hlt,hs⟩ Om Lq PH.nil_le
  ·have bHF:¬ (k:Int)<(f.bGY.length:Nat):=by omega
   have:k=f.bGY.length:=by omega
   subst this
   simp only[go_sem,γ,δ,ε,ζ,η,θ,ι,κ,μ,ν,ξ,ο,ρ,σ,τ,υ,reduceIte,reduceCtorEq,bHF,agD]
   refine aM (.inr rfl) Ev ?_
   rw[aW,hE,show mS f now r=true from hok]; rfl
end Go.PM
